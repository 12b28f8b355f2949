/- The rules by which the code is walked, with what they rest on (part 2). -/
import Derived.Test.YthihlfoplokmiaaGreatDoorL1
import Derived.Shelf.SlSortCmp.NoneTotal
import Derived.Below
import GoSem.ClaimChange
import Derived.Shelf.Strings.Search3
import Derived.Lib.LazyBuf
import Derived.Shelf.Sort.Plain
import Derived.Shelf.Slices.In.SortNone
import Derived.Shelf.Slices.CompactI
import Derived.RangeFuncIn
import Derived.RangeFuncSeq
import Derived.RangeFuncNested
import Derived.Lib.Bytealg
import Derived.Laws.Externs
import Derived.LaidLaws
import Derived.Lib.LaidTab
import Derived.ChangeArms
import Derived.ChangeSame
set_option linter.unusedVariables false
set_option linter.unusedSectionVars false
set_option linter.unusedSimpArgs false
namespace Go.Sw
open Go.Sort Go.Proofs Go.Shelf
section
variable {α:Type}
def ins(lt:α->α->Bool)(x:α):List α->List α
 |[]=>[x]
 |y::l=>bif lt y x then y::ins lt x l else x::y::l
def Ji(lt:α->α->Bool):List α->List α
 |[]=>[]
 |x::l=>ins lt x (Ji lt l)
theorem Qfc(lt:α->α->Bool)(x:α):∀l,(ins lt x l).Perm (x::l)
 |[]=>.refl _
 |y::l=>by
  unfold ins;cases lt y x
  .exact .refl _
  .exact((Qfc lt x l).cons y).trans (List.Perm.swap _ _ _)
theorem Qq(lt:α->α->Bool):∀l,(Ji lt l).Perm l
 |[]=>.refl _
 |x::l=>(Qfc lt x _).trans ((Qq lt l).cons x)
structure Qei (lt:α->α->Bool) (l:List α):Prop where
 irrefl:∀x∈l,lt x x=false
 trans:∀x∈l,∀y∈l,∀z∈l,lt x y=true->lt y z=true->lt x z=true
 ntrans:∀x∈l,∀y∈l,∀z∈l,lt x y=false->lt y z=false->lt x z=false
theorem Qei.mono{lt:α->α->Bool}{l m:List α}(h:Qei lt l)(hm:∀x∈m,x∈l):Qei lt m:=
 ⟨λx hx=>h.irrefl x (hm x hx),λx hx y hy z hz=>h.trans x (hm x hx) y (hm y hy) z (hm z hz),λx hx y hy z hz=>h.ntrans x (hm x hx) y (hm y hy) z (hm z hz)⟩
theorem Qei.asymm{lt:α->α->Bool}{l:List α}(h:Qei lt l){x y:α}(b:x∈l)(d:y∈l)(a:lt x y=true):lt y x=false:=by
 cases q:lt y x
 .rfl
 .rw[<- h.irrefl x b,h.trans x b y d x b a q]
theorem Qfb{lt:α->α->Bool}{x:α}:∀{l:List α},Qei lt (x::l)->l.Pairwise (λa b=>lt b a=false)->(ins lt x l).Pairwise (λa b=>lt b a=false)
 |[],_,_=>by simp[ins]
 |y::l,h,hp=>by
  obtain⟨h1,h2⟩:=Xc.1 hp;unfold ins;cases q:lt y x
  .refine Xc.2 ⟨λz hz=>?_,hp⟩;rcases X8.1 hz with rfl|hz
   .exact q
   .exact h.ntrans z (by simp[hz]) y (by simp) x (by simp) (h1 z hz) q
  .refine Xc.2 ⟨λz hz=>?_,Qfb (h.mono (by intro z hz;rcases X8.1 hz with rfl|hz<;>simp[*])) h2⟩;rcases X8.1 ((Qfc lt x l).mem_iff.1 hz)with rfl|hz
   .exact h.asymm (by simp) (by simp) q
   .exact h1 z hz
theorem Q4{lt:α->α->Bool}:∀{l:List α},Qei lt l->(Ji lt l).Pairwise (λa b=>lt b a=false)
 |[],_=>by simp[Ji]
 |x::l,h=>Qfb (h.mono (by
   intro z hz;rcases X8.1 hz with rfl|hz
   .simp
   .exact X7 _ ((Qq lt l).mem_iff.1 hz))) (Q4 (h.mono λz hz=>X7 _ hz))
theorem Js{lt:α->α->Bool}:∀{l m:List α},l.Perm m->(∀x∈l,∀y∈l,lt x y=false->lt y x=false->x=y)->l.Pairwise (λa b=>lt b a=false)->m.Pairwise (λa b=>lt b a=false)->l=m
 |[],m,h,_,_,_=>by rw[List.nil_perm.1 h]
 |x::l,[],h,_,_,_=>by have:=h.length_eq;simp at this
 |x::l,y::m,h,ha,hl,hm=>by
  obtain⟨l1,l2⟩:=Xc.1 hl;obtain⟨m1,m2⟩:=Xc.1 hm;have hy:y∈x::l:=h.mem_iff.2 (by simp);have hx:x∈y::m:=h.mem_iff.1 (by simp);have hxy:x=y:=by
   rcases X8.1 hy with e|d
   .exact e.symm
   .rcases X8.1 hx with e|g
    .exact e
    .exact ha x (by simp) y (by simp[d]) (m1 x g) (l1 y d)
  subst hxy;rw[Js ((List.perm_cons x).1 h) (λa i b f=>ha a (by simp[i]) b (by simp[f])) l2 m2]
def ltO(cf:α->α->Option Int)(x y:α):Bool:=match cf x y with
 |some c=>decide (c<0)
 |none=>false
def Qi1[DecidableEq α](cf:α->α->Option Int)(l:List α):Bool:=
 l.all λx=> !ltO cf x x&&l.all λy=>(cf x y).isSome&&(ltO cf x y||ltO cf y x||decide (x=y))&&l.all λz=>(!ltO cf x y|| !ltO cf y z||ltO cf x z)&&(ltO cf x y||ltO cf y z|| !ltO cf x z)
def QbO[DecidableEq α](cf:α->α->Option Int)(l:List α):Option (List α):=bif Nat.ble l.length Qv&&Qi1 cf l then some (Ji (ltO cf) l)else none
theorem QcO[DecidableEq α]{cf:α->α->Option Int}{l l':List α}(h:QbO cf l=some l'):
  l.length<=Qv/\(∀x∈l,∀y∈l,∃c,cf x y=some c)/\Qei (ltO cf) l/\(∀x∈l,∀y∈l,ltO cf x y=false->ltO cf y x=false->x=y)/\Ji (ltO cf) l=l':=by
 unfold QbO at h;cases i:Nat.ble l.length Qv with
 |false=>rw[i]at h;cases h
 |true=>
 rw[i,VC]at h;cases q:Qi1 cf l with
 |false=>rw[q]at h;cases h
 |true=>
  rw[q]at h;refine⟨XT i,?_⟩;unfold Qi1 at q;simp only[Xu,XY,Bool.not_eq_true',Bool.or_eq_true,Vt]at q;refine⟨λx b y d=>Option.isSome_iff_exists.1 ((q x b).2 y d).1.1,⟨λx b=>(q x b).1,λx b y d z g f e=>?_,λx b y d z g f e=>?_⟩,λx b y d f e=>?_,X2 h⟩
  .rcases(((q x b).2 y d).2 z g).1 with(a|a)|a
   .rw[f]at a;cases a
   .rw[e]at a;cases a
   .exact a
  .rcases(((q x b).2 y d).2 z g).2 with(a|a)|a
   .rw[f]at a;cases a
   .rw[e]at a;cases a
   .exact a
  .rcases((q x b).2 y d).1.2 with(a|a)|a
   .rw[f]at a;cases a
   .rw[e]at a;cases a
   .exact a
theorem Qms[DecidableEq α]{cf:α->α->Option Int}{l:List α}(h:l.length<=Qv)(c:α->α->Int)(m:∀x∈l,∀y∈l,cf x y=some (c x y))(hi:∀x∈l,¬c x x<0)
  (n:∀x∈l,∀y∈l,∀z∈l,c x y<0->c y z<0->c x z<0)(r:∀x∈l,∀y∈l,∀z∈l,¬c x y<0->¬c y z<0->¬c x z<0)(p:∀x∈l,∀y∈l,¬c x y<0->¬c y x<0->x=y):
  QbO cf l=some (Ji (ltO cf) l):=by
 have g:∀x∈l,∀y∈l,ltO cf x y=decide (c x y<0):=λx e y f=>by unfold ltO;rw[m x e y f]
 have q:Qi1 cf l=true:=by
  unfold Qi1;simp only[Xu,XY,Bool.not_eq_true',Bool.or_eq_true,Vt];intro x e;refine⟨by rw[g x e x e];simpa using hi x e,λy f=>⟨⟨by rw[m x e y f];rfl,?_⟩,λz i=>?_⟩⟩
  .rw[g x e y f,g y f x e];by_cases k:c x y<0
   .simp[k]
   .by_cases j:c y x<0
    .simp[j]
    .exact .inr (p x e y f k j)
  .rw[g x e y f,g y f z i,g x e z i];have k:=n x e y f z i;have j:=r x e y f z i;by_cases a:c x y<0<;>by_cases b:c y z<0<;>by_cases d:c x z<0<;>simp_all
 unfold QbO;rw[q,XU h];rfl
theorem QaH[DecidableEq α]{cf:α->α->Option Int}{l l':List α}(h:QbO cf l=some l'):l.length=l'.length:=by
 rw[<- (QcO h).2.2.2.2];exact(Qq _ _).length_eq.symm
theorem Qbb{l l':List α}{i:Int}{x:α}(h:Qdx l i x=some l'):l.length=l'.length:=by
 unfold Qdx at h;cases q:(decide (0<=i)&&decide (i<(l.length:Int)))with
 |true=>rw[q]at h;rw[<- X2 h];simp
 |false=>rw[q]at h;cases h
theorem QT{h0:Nat}{env:Env}{H:Qc}{s:Nat}{a a':A}(h:lk env s=a)(e:a=a'):Le h0 env H (up env s a') H:=by
 intro f d σ N act w r;refine⟨d,σ,⟨r.sim,λb=>?_,r.size,r.defers⟩,λ_ q=>q,rfl⟩;subst e;have:lk (up env s a) b=lk env b:=by
  simp only[lk];cases q:Nat.beq b s with
  |true=>rw[XS q,h];rfl
  |false=>rfl
 rw[this];exact r.env b
end
section
variable {fr ro:Nat->Prop} {σ:Sig} {H:Qc} {w w':World}
theorem Qea(hh:∀b,b<w.heap.size->w'.heap[b]?=w.heap[b]?)(hro:∀b,ro b->b<w.heap.size)(σ:Sig):Ext ro σ w ro σ w':=
 ⟨λ_ q=>q,λb hb=>hh b (hro b hb),λb x hx=>by unfold World.shape? at hx⊢;rw[hh b (QbP hx)];exact hx,λ_ _ q=>q⟩
theorem Sim.grown(s:Sim fr ro σ H w)(a:∀b,b<w.heap.size->w'.heap[b]?=w.heap[b]?)(g:w.heap.size<=w'.heap.size):Sim fr ro σ H w':=by
 refine⟨s.len,s.roOk.to (λ_ q=>q) (λb q=>a b (s.roLt b q)) (λb h=>Vh (s.roLt b h) g),λb h=>Vh (s.frLt b h) g,s.roFr,λi b x f e n=>?_,s.inj,λi y x f e=>?_,s.hidTo (· = ·) QY g (λ_ _ _ _ _ _ _ q=>q) (λ_ _ _ _ _ _ _ q=>q) λj d y k m r=>.inl ⟨j,y,rfl,k,m,id,λc q=>s.hidKeep k m (λz=>a d (s.own j d y k m z).1) (λb q=>a b (s.roLt b q)) q⟩⟩
 .obtain⟨p,q⟩:=s.own i b x f e n;exact⟨Vh p g,q⟩
 .refine(s.blk i y x f e).keep (Qea a s.roLt σ) ?_ ?_
  .rintro b rfl l;exact a b (s.own i b x f e l).1
  .rintro b c rfl l;exact a c (s.hid i b x c f e l).lt
theorem Qe.grown(hh:∀b,b<w.heap.size->w'.heap[b]?=w.heap[b]?)(hs:w.heap.size<=w'.heap.size)(s:Sim fr ro σ H w)(ho:w'.os=w.os)(ht:w'.tape=w.tape)(hu:w'.output=w.output)(hd:w.drawn<=w'.drawn):Qe fr ro w ro w':=
 ⟨λ_ q=>q,λb h=>hh b (s.roLt b h),λb h=>hh b (s.frLt b h),hs,(Qea hh s.roLt σ).shape,ho,ht,hu,hd⟩
theorem QkM(d:∀b,b<w.heap.size->w'.heap[b]?=w.heap[b]?)(n:w.heap.size<=w'.heap.size)(j:w'.os=w.os)(e:w'.tape=w.tape)(f:w'.output=w.output)(m:w.drawn<=w'.drawn):
  ∃q os',w'=grow (w.drewN q) os':=by
 refine⟨w'.drawn-w.drawn,w'.heap.extract w.heap.size w'.heap.size,?_⟩;obtain⟨a,s,h,t,r⟩:=w';simp only at d n j e f m;subst j e f;unfold grow World.drewN;have l:a=w.heap++a.extract w.heap.size a.size:=by
  apply Array.ext_getElem?;intro i;rw[Array.getElem?_append];split
  .rename_i g;exact d i g
  .rename_i g;rw[Array.getElem?_extract];split
   .rename_i k;congr 1;omega
   .rename_i k;rw[Array.getElem?_eq_none];omega
 have p:h=w.drawn+(h-w.drawn):=by omega
 rw[<- l, <- p]
end
end Go.Sw
namespace Go.Sw
open Go.Sort Go.Proofs Go.Shelf
theorem Qd7{α:Type}{k:Nat}:∀(vs:List (List α)) (j:Nat),(∀v∈vs,v.length=k)->j<vs.length*k->vs.flatten[j]?=(vs[j/k]?).bind λv=>v[j%k]?
 |[],j,_,h=>by simp at h
 |v::vs,j,hk,h=>by
  have hv:=hk v (by simp);have k0:0<k:=by
   rcases Nat.eq_zero_or_pos k with q|q
   .subst q;simp at h
   .exact q
  rw[Vn];by_cases q:j<k
  .rw[XO (by omega),Nat.div_eq_of_lt q,Nat.mod_eq_of_lt q];simp
  .rw[XP (by omega),hv,Qd7 vs (j-k) (λv hv=>hk v (by simp[hv])) (by simp[Xm]at h;omega)];have a:j/k=(j-k)/k+1:=by rw[Nat.div_eq_sub_div k0 (by omega)]
   have b:j%k=(j-k)%k:=Nat.mod_eq_sub_mod (by omega);rw[a,b,XH]
theorem Qar{α:Type}{k:Nat}:∀(vs:List (List α)),(∀v∈vs,v.length=k)->vs.flatten.length=vs.length*k
 |[],_=>by simp
 |v::vs,h=>by rw[Vn,X5,Qar vs (λv hv=>h v (by simp[hv])),h v (by simp),X3,Xm];omega
theorem Qad{α:Type}(F:List α)(j:Nat):F.toArray[j]?=F[j]? :=by simp
theorem Qff{α:Type}[Inhabited α](F:List α)(j:Nat)(h:j<F.length):F[j]?=some (F.toArray[j]!):=by simp[h]
theorem QiB{β:Type}[Inhabited β]{enc:β->List Value}{k:Nat}(f:∀x,(enc x).length=k)(d:Array β):flatK enc k d=((d.toList.map enc).flatten).toArray:=by
 have b:∀v∈d.toList.map enc,v.length=k:=by
  intro v g;obtain⟨x,_,rfl⟩:=Xf.1 g;exact f x
 apply Array.ext_getElem?;intro t;rw[Qad ((d.toList.map enc).flatten) t];by_cases h:t<d.size*k
 .rw[Qd7 _ t b (by simpa using h)];have j:0<k:=by
   rcases Nat.eq_zero_or_pos k with q|q
   .subst q;simp at h
   .exact q
  have l:t/k<d.size:=Nat.div_lt_of_lt_mul (by rw[Nat.mul_comm];exact h);have i:t%k<k:=Nat.mod_lt _ j;have a:t<(flatK enc k d).size:=by simpa using h
  have e:=get_flatK enc k d t h;rw[getElem!_pos (flatK enc k d) t a]at e;rw[Array.getElem?_eq_getElem a,e];simp[l];rw[XM (by rw[f];exact i)];rfl
 .have e:(d.toList.map enc).flatten.length=d.size*k:=by rw[Qar _ b];simp
  rw[Array.getElem?_eq_none (by simpa using h),XQ (by rw[e];omega)]
section
variable {ro:Nat->Prop} {σ:Sig} {w:World} {T:Type} {enc:T->List A} {k:Nat}
theorem RL.parts:∀{l:List T} {lv:List Value},RL ro σ w k (l.map enc) lv->
  ∃(ps:List (T×List Value)) (rest:List Value),ps.map (·.1)=l/\lv=(ps.map (·.2)).flatten++rest/\ ∀p∈ps,p.2.length=k/\LR ro σ w (enc p.1) p.2/\ ∀v∈p.2,Qn v
 |[],lv,_=>⟨[],lv,rfl,rfl,by simp⟩
 |x::l,lv,h=>by
  obtain⟨l1,l2,rfl,h1,⟨h2,h3⟩,h4⟩:=h;obtain⟨ps,rest,e1,rfl,h5⟩:=RL.parts (l:=l) h4;refine⟨(x,l1)::ps,rest,by simp[e1],by simp,?_⟩;intro p hp;rcases X8.1 hp with rfl|hp
  .exact⟨by rw[h2.length];exact h1,h2,h3⟩
  .exact h5 p hp
theorem Qb5(hk:∀x:T,(enc x).length=k):∀{ps:List (T×List Value)} {rest:List Value},(∀p∈ps,LR ro σ w (enc p.1) p.2/\ ∀v∈p.2,Qn v)->RL ro σ w k ((ps.map (·.1)).map enc) ((ps.map (·.2)).flatten++rest)
 |[],_,_=>trivial
 |p::ps,rest,h=>by
  refine⟨p.2,(ps.map (·.2)).flatten++rest,by simp,hk _,h p (by simp),Qb5 hk λq hq=>h q (by simp[hq])⟩
end
structure Elt (ro:Nat->Prop) (w:World) {T:Type} (enc:T->List A) (k:Nat) (l:List T) where
 x:T
 vs:List Value
 mem:x∈l
 len:vs.length=k
 rel:LR ro [] w (enc x) vs
 plain:∀v∈vs,Qn v
theorem Qgo{v:Value}(h:Qn v):v.oneCell'=true:=by cases v<;>first|rfl|exact h.elim
theorem QoU{P:Program}{ρ:Ren}(L:SlLaysF0.n6 P ρ){T:Type}[DecidableEq T]{enc:T->List A}{k t g:Nat}{cap:List A}{l l':List T}{cf:T->T->Option Int}(hs:QbO cf l=some l')
  (bc:∀x y c,cf x y=some c->C P g ([.agg (enc x),.agg (enc y)]++cap) [] (λa H=>a=.int .i64 c/\H=[]))
  (aE:∀w,(isAgg (ρ.t 24)).run P w=.ok true w)(zE:∀w,(Go.sizeOf (ρ.t 24)).run P w=.ok k w)(eg:∀args w,(callFunc g args).run P w=.ok (.enter g args) w)
  (hk:∀x,(enc x).length=k)(hd:Ym cap=true):
  C P (ρ.f 6) [.osl 0 0 l.length k,.fn (.func g) [] cap] [.row t k (l.map enc)] (λa H=>a=.tup []/\H=[.row t k (l'.map enc)]):=by
 intro fr J σ vals w s hv;obtain⟨vs,r1,rfl,bn,vf,r2,rfl,bh,hr⟩:=hv;cases(show r2=[]from hr);obtain⟨lf,lc,rfl,h1,a0⟩:=bh;cases(show lf=[]from h1);have aq:LR J [] w cap lc:=LR.data hd a0;obtain⟨az,al,R,ar,a4⟩:=QcO hs;have E:∀(ad:Option Addr) (c:Nat),vs=.slice ad 0 c->l=[]->
   Calls P (ρ.f 6) [vs,.func (.func g) #[] lc.toArray].toArray w λe w'=>∃v r H' ac τ,e=.returned v/\(r=.tup []/\H'=[.row t k (l'.map enc)])/\Sim fr ac (σ++τ) H' w'/\VR ac (σ++τ) w' r v/\Qe fr J w ac w':=by
  rintro ad c rfl rfl;have ae:l'=[]:=by rw[<- a4];rfl
  subst ae;refine(AnyF.slices_SortFunc_none L ad c (.func (.func g) #[] lc.toArray) w).mono ?_;rintro e w' ⟨rfl,rfl⟩;exact⟨_,_,_,J,[],rfl,⟨rfl,rfl⟩,by simpa using s,⟨[],rfl,rfl⟩,Qe.refl _ _ _⟩
 rcases bn with⟨h0,rfl⟩|⟨b,p,cp,t',m,q1,rfl,q2,q3,q4,q5⟩
 .exact E none 0 rfl (VL.1 h0)
 .by_cases ae:l=[]
  .subst ae;exact E _ cp rfl rfl
  .have bm:0<l.length:=List.length_pos_iff.2 ae;obtain rfl:=q2 (Vh bm q3);obtain⟨lv,e1,e2⟩:=s.blk 0 _ _ q1 rfl;obtain⟨hb,am,a5⟩:=s.own 0 b _ q1 rfl rfl;obtain⟨V,G,a3,rfl,af⟩:=RL.parts e2
   let α:=Elt J w enc k l
   have a7:∀p∈V,p.1∈l:=λp hp=>by rw[<- a3];exact VI hp
   let ds:List α:=V.attach.map λp=>⟨p.1.1,p.1.2,a7 _ p.2,(af _ p.2).1,(af _ p.2).2.1,(af _ p.2).2.2⟩
   have a8:∀{γ:Type} (f:T×List Value->γ),V.attach.map (λp=>f p.1)=V.map f:=λf=>by simp
   have Q:ds.map (·.x)=l:=by
    show(V.attach.map _).map _=_;rw[List.map_map];exact(a8 (·.1)).trans a3
   have ai:ds.map (·.vs)=V.map (·.2):=by
    show(V.attach.map _).map _=_;rw[List.map_map];exact a8 (·.2)
   have ax:ds.length=l.length:=by rw[<- Q];simp
   have a9:ds≠[]:=by intro q;rw[q]at ax;simp at ax;omega
   let inh:Inhabited α:=⟨ds.head a9⟩
   let enc':α->List Value:=λa=>a.vs
   let cf':α->α->Int:=λx y=>(cf x.x y.x).getD 0
   have ag:∀x y:α,ltOf cf' x y=ltO cf x.x y.x:=by
    intro x y;obtain⟨c,B⟩:=al x.x x.mem y.x y.mem;simp only[ltOf,ltO,cf',B,Option.getD_some]
   have hO:SWO (ltOf cf'):=⟨λx=>by rw[ag];exact R.irrefl _ x.mem,λx y z a b=>by rw[ag]at*;exact R.trans _ x.mem _ y.mem _ z.mem a b,
    λx y z a b=>by rw[ag]at*;exact R.ntrans _ x.mem _ y.mem _ z.mem a b⟩
   have X:∀x:α,(enc' x).length=k:=λx=>x.len;have ao:flatK enc' k ds.toArray=((V.map (·.2)).flatten).toArray:=by
    rw[QiB X];show((ds.map λa=>a.vs).flatten).toArray=_;rw[ai]
   have be:∀v∈V.map (·.2),v.length=k:=by
    intro v hv;obtain⟨p,hp,rfl⟩:=Xf.1 hv;exact(af p hp).1
   have Y:(V.map (·.2)).flatten.length=ds.length*k:=by rw[Qar _ be, <- ai];simp
   have hH:HoldsK enc' k w b (0*k) ds.toArray:=by
    intro j hj;rw[ao]at hj⊢;simp only[List.size_toArray]at hj;constructor
    .unfold World.cell?;simp only[e1,Option.isSome_none,Xj,if_false,Nat.zero_mul,Xx];rw[Qad,XO hj];exact Qff _ _ hj
    .unfold World.frozen?;simp only[e1];simp
   have an:∀(d:Array α),d.size=ds.toArray.size->(putRowK enc' k w b (0*k) d).heap=w.heap.setIfInBounds b (.cells (((d.toList.map enc').flatten++G)).toArray t (0,0)):=by
    intro d u;have ah:(d.toList.map enc').flatten.length=(V.map (·.2)).flatten.length:=by
     rw[Qar _ (k:=k) (by intro v hv;obtain⟨x,_,rfl⟩:=Xf.1 hv;exact X x),Y];simp at u⊢;rw[u]
    unfold putRowK putRow mapBlock;show w.heap.modify b _=_;rw[Qbg e1];simp only[onCells];congr 2;rw[QiB X];unfold putCells;apply Array.ext_getElem?;intro i;simp only[Array.getElem?_mapIdx,Qad,Nat.zero_mul,XW,true_and,Xx,Xw,List.size_toArray,id_eq];by_cases hi:i<(d.toList.map enc').flatten.length
    .rw[XO hi,XO (by rw[<- ah];exact hi),XM (by rw[<- ah];exact hi),Qff _ _ hi];exact congrArg some (Vv hi)
    .rw[XP (by omega),XP (by omega),ah];cases(G[i-(V.map (·.2)).flatten.length]?)with
     |none=>rfl
     |some v=>
      rw[<- ah];exact congrArg some (Vu hi)
   have O:∀(m:Nat) (os:Array Obj) (d:Array α),d.size=ds.toArray.size->
     (∀c,c<w.heap.size->c≠b->(sortWorldK enc' k w b (0*k) m d os).heap[c]?=w.heap[c]?)/\(sortWorldK enc' k w b (0*k) m d os).heap[b]?=some (.cells (((d.toList.map enc').flatten++G)).toArray t (0,0))/\
     w.heap.size<=(sortWorldK enc' k w b (0*k) m d os).heap.size:=by
    intro m os d u;have e:(sortWorldK enc' k w b (0*k) m d os).heap=w.heap.setIfInBounds b (.cells (((d.toList.map enc').flatten++G)).toArray t (0,0))++os:=by
     rw[<- an d u];rfl
    rw[e];refine⟨λc B bl=>?_,?_,by simp⟩
    .rw[Array.getElem?_append_left (by simpa using B),Vg,Vu (λq=>bl q.symm)]
    .rw[Array.getElem?_append_left (by simpa using hb),Vg,Vv rfl,Vv hb]
   have M:∀(m:Nat) (os:Array Obj) (d:Array α),d.size=ds.toArray.size->∀c y,w.shape? c=some y->(sortWorldK enc' k w b (0*k) m d os).shape? c=some y:=by
    intro m os d u c y hy;obtain⟨g1,g2,g3⟩:=O m os d u;by_cases B:c=b
    .subst B;unfold World.shape? at hy⊢;rw[e1]at hy;rw[g2];simp only[Option.some.injEq]at hy⊢;rw[<- hy];congr 1;simp only[List.size_toArray,X5];rw[Qar _ (k:=k) (by intro v hv;obtain⟨x,_,rfl⟩:=Xf.1 hv;exact X x),Y];simp at u⊢;rw[u]
    .unfold World.shape? at hy⊢;rw[g1 c (QbP hy) B];exact hy
   have aj:∀(m:Nat) (os:Array Obj) (d:Array α),d.size=ds.toArray.size->∀τ,Ext J τ w J τ (sortWorldK enc' k w b (0*k) m d os):=by
    intro m os d u τ;obtain⟨g1,g2,g3⟩:=O m os d u;exact⟨λ_ q=>q,λc B=>g1 c (s.roLt c B) (λq=>am (q▸B)),M m os d u,λ_ _ q=>q⟩
   have bf:CmpLays P g lc.toArray enc' k cf' b (0*k) ds.toArray.size w:=by
    intro m os dk a2 x y;obtain⟨c,B⟩:=al x.x x.mem y.x y.mem;have F:=aj m os dk a2 [];have bq:=bc _ _ _ B;generalize hW:sortWorldK enc' k w b (0*k) m dk os=W at*;have bk:w.heap.size<=W.heap.size:=by rw[<- hW];exact(O m os dk a2).2.2
    have sW:Sim (λc=>c<W.heap.size/\ ¬J c) J [] [] W:=
     ⟨rfl,s.roOk.to (λ_ q=>q) F.keep (λc B=>Vh (s.roLt c B) bk),λc B=>B.1,λc B hf=>hf.2 B,λi b x h=>by simp at h,λi j b x y h=>by simp at h,λi y x h=>by simp at h,λi b x c h=>by simp at h⟩
    have ay:LR J [] W ([.agg (enc x.x),.agg (enc y.x)]++cap) ([.agg x.vs.toArray,.agg y.vs.toArray]++lc):=
     LR.append (show LR J [] W [A.agg (enc x.x),A.agg (enc y.x)] [Value.agg x.vs.toArray,Value.agg y.vs.toArray]from⟨_,_,rfl,⟨x.vs,rfl,x.rel.mono F⟩,_,_,rfl,⟨y.vs,rfl,y.rel.mono F⟩,rfl⟩) (aq.mono F)
    have N:=bq _ J [] _ W sW ay;have bo:(([Value.agg x.vs.toArray,Value.agg y.vs.toArray]++lc).toArray:Array Value)= #[Value.agg (enc' x).toArray,Value.agg (enc' y).toArray]++lc.toArray:=by simp[enc']
    rw[bo]at N;refine N.mono ?_;rintro e w' ⟨v,r,H',ac,τ,rfl,⟨rfl,rfl⟩,s',bj,ev⟩;refine⟨?_,?_⟩
    .rw[show v=.int .i64 c from bj];simp only[cf',B,Option.getD_some]
    .refine QkM (λc B=>?_) ev.size ev.os ev.tape ev.output ev.drawn;by_cases bb:J c
     .exact ev.keepRo c bb
     .exact ev.keepFr c ⟨B,bb⟩
   have ab:ds.toArray.size=l.length:=by simpa using ax
   have ak:=AnyQ.slices_SortFunc L k aE zE enc' X (λx v hv=>Qgo (x.plain v hv)) cf' hO g lc.toArray b (0*k) cp ds.toArray w eg bf hH hb (by rw[ab];unfold Qv at az;omega);rw[ab]at ak;refine ak.mono ?_;rintro e w' ⟨rfl,d,n,os,aa,aw,rfl⟩;have u:d.size=ds.toArray.size:=aa.1;obtain⟨g1,g2,g3⟩:=O n os d u;have av:d.toList.Perm ds:=by
    have h:=aa.2.2;have x1:d.extract 0 l.length=d:=by rw[<- ab, <- u];exact Array.extract_size
    have x2:ds.toArray.extract 0 l.length=ds.toArray:=by rw[<- ab];exact Array.extract_size
    rw[x1,x2]at h;simpa using h
   have ba:d.toList.map (·.x)=l':=by
    rw[<- a4];refine Js (lt:=ltO cf) ?_ ?_ ?_ (Q4 R)
    .exact((av.map (·.x)).trans (by rw[Q])).trans (Qq _ _).symm
    .intro x hx y hy;have bg:x∈l:=by rw[<- Q];exact(av.map (·.x)).mem_iff.1 hx
     have bp:y∈l:=by rw[<- Q];exact(av.map (·.x)).mem_iff.1 hy
     exact ar x bg y bp
    .rw[VG];intro i j hi hj bd;simp only[X4]at hi hj;simp only[List.getElem_map];rw[<- ag];have:=aw i j (XW _) bd (by rw[<- ab, <- u];simpa using hj);rw[getElem!_pos d j (by simpa using hj),getElem!_pos d i (by simpa using hi)]at this;simpa using this
   have bi:RL J [] (sortWorldK enc' k w b (0*k) n d os) k (l'.map enc) ((d.toList.map enc').flatten++G):=by
    have e3:d.toList.map enc'=(d.toList.map λa=>(a.x,a.vs)).map (·.2):=by simp[enc']
    have e4:l'=(d.toList.map λa=>(a.x,a.vs)).map (·.1):=by rw[<- ba];simp
    rw[e3,e4];refine Qb5 hk ?_;intro p hp;obtain⟨a,_,rfl⟩:=Xf.1 hp;exact⟨a.rel.mono (aj n os d u []),a.plain⟩
   have a6:Qe fr J w J (sortWorldK enc' k w b (0*k) n d os):=
    ⟨λ_ q=>q,λc B=>g1 c (s.roLt c B) (λq=>am (q▸B)),λc B=>g1 c (s.frLt c B) (λq=>a5 (q▸B)),g3,M n os d u,rfl,rfl,rfl,Nat.le_add_right _ _⟩
   have au:σ.length=1:=s.len;have a1:Sim fr J σ [.row t k (l'.map enc)] (sortWorldK enc' k w b (0*k) n d os):=by
    have i0:∀{i:Nat} {x:Blk},([.row t k (l'.map enc)]:Qc)[i]?=some x->i=0/\x=.row t k (l'.map enc):=by
     intro i x h;cases i with
     |zero=>simp at h;exact⟨rfl,h.symm⟩
     |succ i=>simp at h
    refine⟨au,s.roOk.to (λ_ q=>q) a6.keepRo (λc B=>Vh (s.roLt c B) g3),λc B=>Vh (s.frLt c B) g3,s.roFr,λi c x h1 h2 h3=>?_,λi j c x y h1 h2 h3 h4 _ _=>?_,λi y x h1 h2=>?_,λi b x c h1 h2 h3=>by obtain⟨rfl,rfl⟩:=i0 h2;exact h3.elim⟩
    .obtain⟨rfl,rfl⟩:=i0 h2;obtain⟨p1,p2⟩:=s.own 0 c _ h1 rfl rfl;exact⟨Vh p1 g3,p2⟩
    .rw[(i0 h3).1,(i0 h4).1]
    .obtain⟨rfl,rfl⟩:=i0 h2;rw[q1]at h1;cases h1;exact⟨_,g2,bi⟩
   exact⟨_,_,_,J,[],rfl,⟨rfl,rfl⟩,by simpa using a1,⟨[],rfl,rfl⟩,a6⟩
end Go.Sw
namespace Go.Sw
section
variable {P:Program} {o:Oper} {env:Env} {H:Qc} {fr ro:Nat->Prop} {σ:Sig} {w:World}
theorem Sim.addRo(s:Sim fr ro σ H w){b:Nat}(p:b<w.heap.size)(E:¬fr b)(t:∀(i:Nat) (x:Blk),σ[i]?=some (some b)->H[i]?=some x->x.live=true->False)
  (n:∀(i d:Nat) (x:Blk),σ[i]?=some (some d)->H[i]?=some x->Hid w x d b->False):Sim fr (λc=>ro c\/c=b) σ H w:=by
 refine⟨s.len,s.roOk.to (λ_ q=>.inl q) (λ_ _=>rfl) ?_,s.frLt,?_,?_,s.inj,?_,s.hidTo (· = ·) QY (XV _) (λj d x c z m k g=>g.elim id λq=>(n j d x z m (q▸k)).elim) (λ_ _ _ _ _ _ _ q=>q) λj d y l r F=>.inl ⟨j,y,rfl,l,r,id,λ_ q=>q⟩⟩
 .rintro c (q|rfl)
  .exact s.roLt c q
  .exact p
 .rintro c (q|rfl)
  .exact s.roFr c q
  .exact E
 .intro i c x e a f;obtain⟨B,u,h⟩:=s.own i c x e a f;refine⟨B,?_,h⟩;rintro(q|rfl)
  .exact u q
  .exact t i x e a f
 .intro i y x e a;exact(s.blk i y x e a).keep ⟨λ_ q=>.inl q,λ_ _=>rfl,λ_ _ q=>q,λ_ _ q=>q⟩ (λ_ _ _=>rfl) (λ_ _ _ _=>rfl)
theorem YX{T e k n:Nat}{xs:List Operand}{es:List (List A)}(E:QO P T e k)(Q:o.op=.buildSlice T n (Qak 0 xs).toArray)(L:xs.length=n)(u:Nat.ble (n*k) 16777216=true)
  (Y:(xs.all λx=>Yh (opA env x))=true)(G:QG env xs=es)(J:allK k es)(R:es.flatten.all Yz=true)(O:Ym es.flatten=true):
  OpH P o env H (.rsl k es) H:=by
 intro V h σ N a w r;subst G;obtain⟨l,h1,M⟩:=JE r E L u Y J;have B:LR h [] w (QG env xs).flatten l:=M.data O;have f:∀b,b<w.heap.size->(w.alloc (.cells l.toArray e)).heap[b]?=w.heap[b]? :=λb X=>Yj _ _ b X;have p:w.heap.size<=(w.alloc (.cells l.toArray e)).heap.size:=by rw[Ye];omega
 have s1:=r.sim.grown f p;have j:Qe V h w h (w.alloc (.cells l.toArray e)):=Qe.alloc _ r.sim.roLt r.sim.frLt;have W:=s1.addRo (b:=w.heap.size) (by rw[Ye];omega) (λq=>Nat.lt_irrefl _ (r.sim.frLt _ q)) (λi x m s y=>Nat.lt_irrefl _ (r.sim.own i _ x m s y).1)
  (λi d x m s y=>Nat.lt_irrefl _ (r.sim.hid i d x _ m s (r.sim.hidKeep m s (λz=>f d (r.sim.own i d x m s z).1) (λb q=>f b (r.sim.roLt b q)) y)).lt)
 have F:RL h [] (w.alloc (.cells l.toArray e)) k (QG env xs) l:=by
  have:=Y9 (rest:=[]) J (B.mono (j.ext0 [])) (M.plain R)
  rwa [Vi]at this
 have g:(QG env xs).length=n:=by simp[QG,L]
 refine⟨_,_,λc=>h c\/c=w.heap.size,[],Jo Q a.eval h1,?_,by simpa using W,j.trans (YN λ_ q=>.inl q)⟩;refine⟨some ⟨w.heap.size,0,none⟩,n,by rw[g],by rw[g];exact XV _,.inr ⟨w.heap.size,0,rfl,.inr rfl,?_⟩⟩;have t:(w.alloc (.cells l.toArray e)).heap[w.heap.size]?=some (.cells (([]:List Value)++l).toArray e (0,0)):=Yi _ _;have:=YS (pre:=[]) t F;exact this.keep ⟨λ_ q=>.inl q,λ_ _=>rfl,λ_ _ q=>q,λ_ _ q=>q⟩ rfl
end
inductive Qkn:List A->List A->Prop
 |nil:Qkn [] []
 |eq {a:A} {l m:List A} (h:Qkn l m):Qkn (a::l) (a::m)
 |nl {k:Nat} {l m:List A} (h:Qkn l m):Qkn (.nils::l) (.rsl k []::m)
theorem LR.nils{ro:Nat->Prop}{σ:Sig}{w:World}{g f:List A}(h:Qkn g f):∀{l:List Value},LR ro σ w g l->LR ro σ w f l:=by
 induction h with
 |nil=>intro l h;exact h
 |eq _ ih=>rintro l ⟨v,a,e,d,b⟩;exact⟨v,a,e,d,ih b⟩
 |nl _ ih=>rintro l ⟨v,a,e,d,b⟩;exact⟨v,a,e,⟨none,0,d,XV _,.inl rfl⟩,ih b⟩
theorem C.nils{P:Program}{f:FuncId}{l1 bs:List A}{H:Qc}{Q:A->Qc->Prop}(hl:Qkn l1 bs)(h:C P f bs H Q):C P f l1 H Q:=
 λfr ro σ vals w s l=>h fr ro σ vals w s (LR.nils hl l)
end Go.Sw
namespace Go.Sw
def Qk(k:IntKind)(n:Int):Prop:=k.min<=n/\n<=k.max
def Qeg(w:World):Nat->Prop:=λb=>b<w.heap.size
structure QnT {H:Type} (μ:DataW H->Nat):Prop where
 str:∀bytes,bytes.length<=μ (.lit (.string bytes))
 sl:∀e s,e.length<=μ (.slice e s)
 sle:∀e s,∀d∈e,μ d<=μ (.slice e s)
 ag:∀ps,∀d∈ps,μ d<=μ (.agg ps)
def RB(P:Program)(n:Nat)(t:TypeId)(T:Type)(e:T->List A)(wf:T->Prop):Prop:=
 ∀(H:Type) (enc:TypeId×Value->H) (w:World) (base:Nat) (spare:Nat->Bool) (held:Bool) (m:Nat) (cs:List Value) d,m<n->DataW.trod enc P w base spare held m t cs=some d->
  ∀μ:DataW H->Nat,QnT μ->μ d.1<=1048576->∃x:T,wf x/\LR (Qeg w) [] w (e x) cs/\ ∀v∈cs,Qn v
section
variable {P:Program} {n:Nat} {t:TypeId} {T:Type} {e:T->List A} {wf:T->Prop}
theorem RB.down(h:RB P (n+1) t T e wf):RB P n t T e wf:=λH enc w base spare held m cs d hm=>h H enc w base spare held m cs d (Nat.lt_succ_of_lt hm)
theorem QeF(h:∀n,RB P n t T e wf->RB P (n+1) t T e wf):∀n,RB P n t T e wf
 |0=>λH enc w base spare held m cs d hm=>absurd hm (Xn _)
 |n+1=>h n (QeF h n)
theorem QZ{T':Type}{b:T'->List A}{a:T'->Prop}(h:RB P n t T e wf)(g:T->T')(he:∀x,b (g x)=e x)(i:∀x,wf x->a (g x)):RB P n t T' b a:=by
 intro H enc w base spare held m cs d hm hd μ hμ hwt;obtain⟨x,k,f,j⟩:=h H enc w base spare held m cs d hm hd μ hμ hwt;exact⟨g x,i x k,by rw[he];exact f,j⟩
theorem RB.int{k:IntKind}(a:P.underlying t=some (.int k)):RB P n t Int (Qh k) (Qk k):=by
 intro H enc w base spare held m cs d hm hd μ hμ hwt;cases m with
 |zero=>simp[DataW.trod]at hd
 |succ m=>
  rcases cs with _|⟨v,_|⟨f,r⟩⟩
  .simp[DataW.trod,a]at hd
  .cases v<;>simp[DataW.trod,a]at hd;rename_i g e;obtain⟨⟨rfl,b⟩,_⟩:=hd;refine⟨e,?_,⟨_,_,rfl,rfl,rfl⟩,by simp[Qn]⟩;simpa[Lit.wf,Qk]using b
  .simp[DataW.trod,a]at hd
theorem RB.bool(a:P.underlying t=some .bool):RB P n t Bool Qa9 (λ_=>True):=by
 intro H enc w base spare held m cs d hm hd μ hμ hwt;cases m with
 |zero=>simp[DataW.trod]at hd
 |succ m=>
  rcases cs with _|⟨v,_|⟨e,r⟩⟩
  .simp[DataW.trod,a]at hd
  .cases v<;>simp[DataW.trod,a]at hd;rename_i b;exact⟨b,trivial,⟨_,_,rfl,rfl,rfl⟩,by simp[Qn]⟩
  .simp[DataW.trod,a]at hd
theorem RB.string(a:P.underlying t=some .string):RB P n t (List UInt8) JA (λs=>s.length<=1048576):=by
 intro H enc w base spare held m cs d hm hd μ hμ hwt;cases m with
 |zero=>simp[DataW.trod]at hd
 |succ m=>
  rcases cs with _|⟨v,_|⟨b,r⟩⟩
  .simp[DataW.trod,a]at hd
  .cases v<;>simp[DataW.trod,a]at hd;rename_i s;obtain⟨_,rfl⟩:=hd;exact⟨s.data.toList,XX (hμ.str _) hwt,⟨_,_,rfl,rfl,rfl⟩,by simp[Qn]⟩
  .simp[DataW.trod,a]at hd
theorem QcD{α:Type}{f:Nat->Option α}:∀{n:Nat} {l:List α},(List.range n).mapM f=some l->l.length=n/\ ∀i,i<n->∃y,f i=some y/\l[i]?=some y
 |0,l,h=>by simp at h;subst h;exact⟨rfl,λi hi=>absurd hi (Xn _)⟩
 |n+1,l,h=>by
  rw[List.range_succ,List.mapM_append]at h;cases h1:(List.range n).mapM f with
  |none=>simp[h1]at h
  |some l1=>
   cases h2:f n with
   |none=>simp[h1,h2]at h
   |some y=>
    simp[h1,h2]at h;subst h;obtain⟨e1,e2⟩:=QcD h1;refine⟨by simp[e1],λi hi=>?_⟩;rcases Xp.1 hi with q|rfl
    .obtain⟨z,z1,z2⟩:=e2 i q;exact⟨z,z1,by rw[XO (by omega)];exact z2⟩
    .exact⟨y,h2,by rw[XP (by omega)];simp[e1]⟩
theorem Qem{w:World}{ro:Nat->Prop}{b:Nat}:∀{cs:List A} {l:List Value} {off:Nat},LR ro [] w cs l->(∀v∈l,Qn v)->(∀i,i<l.length->w.cell? ⟨b,off+i,none⟩=l[i]?)->CR ro [] w b cs off
 |[],_,_,_,_,_=>trivial
 |a::cs,l,off,h,hp,hc=>by
  obtain⟨v,l',rfl,h1,h2⟩:=h;refine⟨⟨v,by simpa using hc 0 (by simp),hp v (by simp),h1⟩,Qem h2 (λv hv=>hp v (by simp[hv])) λi hi=>?_⟩;have:=hc (i+1) (by simpa using hi);rw[show off+1+i=off+(i+1)by omega,this];simp
theorem RB.slice{E:TypeId}{k:Nat}{s:TypeId}(M:P.underlying s=some (.slice E))(hk:P.cellsOf E=k)(h0:Nat.blt 0 k=true)(hl:∀x,(e x).length=k)(h:RB P n E T e wf):
  RB P (n+1) s (List T) (Qj7 k e) (λl=>l.length<=1048576/\ ∀x∈l,wf x):=by
 intro H enc w base spare held m cs d hm hd μ hμ hwt;have k0:0<k:=by simpa using h0
 cases m with
 |zero=>simp[DataW.trod]at hd
 |succ m=>
  rcases cs with _|⟨v,_|⟨v2,r⟩⟩
  .simp[DataW.trod,M]at hd
  .cases v<;>try (simp[DataW.trod,M]at hd;done)
   rename_i a len p;cases a with
   |none=>
    rcases len with _|len
    .rcases p with _|p
     .refine⟨[],⟨by simp,by simp⟩,⟨_,_,rfl,⟨none,0,rfl,XV _,.inl rfl⟩,rfl⟩,by simp[Qn]⟩
     .simp[DataW.trod,M]at hd
    .simp[DataW.trod,M]at hd
   |some a=>
    simp only[DataW.trod,M]at hd;split at hd
    .rename_i hc;obtain⟨c1,c2,c3⟩:=hc;cases F:(List.range len).mapM (λi=>(w.cells? base (a.add (i*P.cellsOf E)) (P.cellsOf E)).bind (DataW.trod enc P w base spare held m E))with
     |none=>rw[F]at hd;cases hd
     |some f=>
      rw[F]at hd;simp only[XL,Option.map_eq_some_iff]at hd;obtain⟨u,_,rfl⟩:=hd;have L:f.length<=1048576:=by
       have h1:=hμ.sl (f.map (·.1)) (u.map (·.1));rw[X4]at h1;exact XX h1 hwt
      have aa:∀y∈f,μ y.1<=1048576:=λy V=>XX (hμ.sle _ (u.map (·.1)) _ (VI V)) hwt;obtain⟨e1,e2⟩:=QcD F;have W:∀i,i<len->∃(x:T) (l:List Value),wf x/\LR (Qeg w) [] w (e x) l/\(∀v∈l,Qn v)/\l.length=k/\ ∀j,j<k->w.cell? ((a.add (i*k)).add j)=l[j]? :=by
       intro i hi;obtain⟨y,y1,y2⟩:=e2 i hi;rw[hk]at y1;cases g:w.cells? base (a.add (i*k)) k with
       |none=>rw[g]at y1;cases y1
       |some l=>
        rw[g]at y1;obtain⟨x,x1,x2,x3⟩:=h H enc w base spare held m l y (by omega) y1 μ hμ (aa y (VJ y2));refine⟨x,l,x1,x2,x3,by rw[x2.length];exact hl x,λj hj=>?_⟩;unfold World.cells? at g;split at g
        .obtain⟨_,z2⟩:=QcD g;obtain⟨v,v1,v2⟩:=z2 j hj;rw[v2, <- v1]
        .cases g
      by_cases Q:len=0
      .subst Q;exact⟨[],⟨by simp,by simp⟩,⟨_,_,rfl,⟨some a,p,rfl,XW _,.inl rfl⟩,rfl⟩,by simp[Qn]⟩
      .have first:a.spot=none/\a.block<w.heap.size:=by
        obtain⟨x',l,p1,p2,p3,p4,Y⟩:=W 0 (by omega);have B:=Y 0 k0;have X:l[0]?=some l[0]:=XM (by omega);have ea:(a.add (0*k)).add 0=a:=by simp[Addr.add]
        rw[X,ea]at B;unfold World.cell? at B;split at B
        .rename_i hh;constructor
         .cases q:a.spot with
          |none=>rfl
          |some z=>simp[q]at B
         .exact(Ve.1 hh).1
        .cases B
       obtain⟨t,hb⟩:=first
       have O:∀n,a.add n=⟨a.block,a.off+n,none⟩:=by
        intro n;cases a;simp only at t;subst t;unfold Addr.add;split
        .rename_i q;subst q;rfl
        .rfl
       have J:∀(b o n:Nat),(⟨b,o,none⟩:Addr).add n=⟨b,o+n,none⟩:=by
        intro b o n;unfold Addr.add;split
        .rename_i q;subst q;rfl
        .rfl
       have pick:∀q i,len-i=q->i<=len->∃G:List T,G.length=len-i/\(∀x∈G,wf x)/\RR (Qeg w) [] w a.block k (G.map e) (a.off+i*k):=by
        intro q
        induction q with
        |zero=>intro i hq hi;exact⟨[],by simp[hq],by simp,trivial⟩
        |succ q ih=>
         intro i hq hi;obtain⟨G,N,w2,R⟩:=ih (i+1) (by omega) (by omega);obtain⟨x,l,p1,p2,p3,p4,Y⟩:=W i (by omega);refine⟨x::G,by simp[N];omega,by intro y V;rcases X8.1 V with rfl|V;exact p1;exact w2 y V,hl x,?_,?_⟩
         .refine Qem p2 p3 λj hj=>?_;have B:=Y j (by omega);rw[O,J]at B;exact B
         .rw[Xm, <- Nat.add_assoc]at R;exact R
       obtain⟨G,N,w2,R⟩:=pick len 0 (by omega) (XW _);rw[Nat.zero_mul,Xy]at R;rw[Xw]at N;refine⟨G,⟨by rw[N, <- e1];exact L,w2⟩,⟨_,_,rfl,⟨some a,p,by simp[N],by simp[N];exact c2,.inr ⟨a.block,a.off,?_,hb,R⟩⟩,rfl⟩,by simp[Qn]⟩;cases a;simp only at t;subst t;rfl
    .cases hd
  .simp[DataW.trod,M]at hd
def RF(P:Program)(n:Nat)(fs:List Field)(off L:Nat)(T:Type)(e:T->List A)(wf:T->Prop):Prop:=
 ∀(H:Type) (enc:TypeId×Value->H) (w:World) (base:Nat) (spare:Nat->Bool) (held:Bool) (m:Nat) (cs:List Value) ds,m<n->cs.length=L->
  fs.mapM (λf=>DataW.trod enc P w base spare held m f.type ((cs.drop f.offset).take (P.cellsOf f.type)))=some ds->
  ∀μ:DataW H->Nat,QnT μ->(∀y∈ds,μ y.1<=1048576)->∃x:T,wf x/\LR (Qeg w) [] w (e x) (cs.drop off)/\ ∀v∈cs.drop off,Qn v
theorem RF.nil{L:Nat}:RF P n [] L L Unit (λ_=>[]) (λ_=>True):=by
 intro H enc w base spare held m cs ds hm hl hd μ hμ hwt;have:cs.drop L=[]:=List.drop_eq_nil_of_le (by omega);rw[this];exact⟨(),trivial,rfl,by simp⟩
theorem RF.cons{f:Field}{fs:List Field}{off L k:Nat}{T2:Type}{s:T2->List A}{b:T2->Prop}(F:f.offset=off)(E:P.cellsOf f.type=k)(h:RB P n f.type T e wf)(r:RF P n fs (off+k) L T2 s b):
  RF P n (f::fs) off L (T×T2) (λp=>e p.1++s p.2) (λp=>wf p.1/\b p.2):=by
 intro H enc w base spare held m cs ds hm hl hd μ hμ hwt;rw[List.mapM_cons]at hd;cases i:DataW.trod enc P w base spare held m f.type ((cs.drop f.offset).take (P.cellsOf f.type))with
 |none=>simp[i]at hd
 |some d=>
  cases l:fs.mapM (λf=>DataW.trod enc P w base spare held m f.type ((cs.drop f.offset).take (P.cellsOf f.type)))with
  |none=>simp[i,l]at hd
  |some g=>
   have j:ds=d::g:=by
    rw[i,l]at hd;exact(X2 hd).symm
   subst j;rw[F,E]at i;obtain⟨x,G,z,u⟩:=h H enc w base spare held m _ d hm i μ hμ (hwt d (by simp));obtain⟨y,y1,y2,B⟩:=r H enc w base spare held m cs g hm hl l μ hμ (λy J=>hwt y (by simp[J]));have a:cs.drop off=(cs.drop off).take k++cs.drop (off+k):=by rw[<- List.drop_drop,XA]
   refine⟨(x,y),⟨G,y1⟩,by rw[a];exact z.append y2,?_⟩;rw[a];intro v t;rcases VF.1 t with q|q
   .exact u v q
   .exact B v q
theorem RB.struct{fs:Array Field}{L:Nat}(g:P.underlying t=some (.struct fs))(k:P.cellsOf t=L)(h:RF P n fs.toList 0 L T e wf):RB P (n+1) t T e wf:=by
 intro H enc w base spare held m cs d hm hd μ hμ hwt;cases m with
 |zero=>simp[DataW.trod]at hd
 |succ m=>
  unfold DataW.trod at hd;simp only[g]at hd;split at hd
  .rename_i b;cases a:fs.toList.mapM (λf=>DataW.trod enc P w base spare held m f.type ((cs.drop f.offset).take (P.cellsOf f.type)))with
   |none=>rw[a]at hd;cases hd
   |some i=>
    rw[a]at hd;simp only[Xk,Option.some.injEq]at hd;subst hd;have:=h H enc w base spare held m cs i (by omega) (by rw[b,k]) a μ hμ (λy j=>XX (hμ.ag _ _ (VI j)) hwt);simpa using this
  .cases hd
end
theorem C.law{P:Program}{f:FuncId}{args:List A}{W:World}{vals:List Value}(h:C P f args [] (λa H=>a=.bool true/\H=[]))(hl:LR (Qeg W) [] W args vals)(d:GP W):
  Calls P f vals.toArray W λe W'=>e=.returned (.bool true)/\Go.RowKit.Below W.heap.size W W':=by
 have s:Sim (λ_=>False) (Qeg W) [] [] W:=
  ⟨rfl,⟨λ_ h=>h,λb g=>d.size b g,d⟩,λ_ h=>h.elim,λ_ _ h=>h,λi b x h=>by simp at h,λi j b x y h=>by simp at h,λi y x h=>by simp at h,λi b x c h=>by simp at h⟩
 refine(h _ _ _ _ W s hl).mono ?_;rintro e W' ⟨v,r,H',n,τ,rfl,⟨rfl,rfl⟩,_,m,ev⟩;exact⟨by rw[show v=.bool true from m],⟨ev.os,ev.tape,ev.output,ev.size,λk l=>ev.keepRo k l⟩⟩
theorem Qin{P:Program}{W:World}{a:Nat}{t:TypeId}{v:Value}{fs:Array Field}(b:P.underlying t=some (.struct fs))(h:Value.okWide P W .any a t v):∃cs,v=.agg cs:=by
 unfold Value.okWide at h;rw[b]at h;obtain⟨cs,rfl,_⟩:=h;exact⟨cs,rfl⟩
theorem Qe0{P:Program}{W:World}{t:TypeId}{cs:Array Value}{T:Type}{e:T->List A}{wf:T->Prop}{H:Type}{enc:TypeId×Value->H}{b:Nat}{a:Nat->Bool}{held:Bool}{d:DataW H}{ps:List MemPlace}
  (h:∀n,RB P n t T e wf)(k:DataW.Trod enc P W b a held t (.agg cs) d ps){μ:DataW H->Nat}(hμ:QnT μ)(f:μ d<=1048576):∃x:T,wf x/\VR (Qeg W) [] W (.agg (e x)) (.agg cs):=by
 obtain⟨m,g⟩:=k;obtain⟨x,j,i,_⟩:=h (m+1) H enc W b a held m _ _ (Xo _) g μ hμ f;exact⟨x,j,cs.toList,by simp,i⟩
theorem Qlj{P:Program}{W:World}{t:TypeId}{a:Option Addr}{len cap:Nat}{T:Type}{e:T->List A}{k:Nat}{wf:List T->Prop}{H:Type}{enc:TypeId×Value->H}{f:Nat}{b:Nat->Bool}{held:Bool}{d:DataW H}{ps:List MemPlace}
  (h:∀n,RB P n t (List T) (Qj7 k e) wf)(l:DataW.Trod enc P W f b held t (.slice a len cap) d ps){μ:DataW H->Nat}(hμ:QnT μ)(g:μ d<=1048576):∃x:List T,wf x/\VR (Qeg W) [] W (.rsl k (x.map e)) (.slice a len cap):=by
 obtain⟨m,p⟩:=l;obtain⟨x,q,⟨v,s,i,j,r⟩,_⟩:=h (m+1) H enc W f b held m _ _ (Xo _) p μ hμ g;refine⟨x,q,?_⟩;have:(Value.slice a len cap).cells.toList=[.slice a len cap]:=rfl;rw[this]at i;cases i;exact j
theorem QjC{P:Program}{W:World}(h:W.ShapedOpen P){g t u:Nat}{z:Value}(hg:Nat.blt g P.globals.size=true)(x:(((begin P (λ_ _=>0) default).world.heap[g]?).bind Obj.row?)=some (#[z],t))
  (w:P.buildable t=true)(l:P.cellTypes P.depth t=some [u])(q:P.underlying u=some (.int .i64)):∃m:Int,W.cell? ⟨g,0,none⟩=some (.int .i64 m):=by
 obtain⟨d,p,s,r⟩:=h.1 g _ _ (by simpa using hg) x;obtain⟨B,e,_,j⟩:=r w;rw[l]at e;cases e;have E:d.size=1:=s;have a:d[0]?=some d[0]:=Array.getElem?_eq_getElem (by omega);obtain⟨y,i,b⟩:=j 0 _ a;simp at i;subst i;unfold Cell.ok at b;rw[q]at b;cases f:d[0]<;>rw[f]at b<;>simp at b;rename_i k n;obtain⟨rfl,_⟩:=b;refine⟨n,?_⟩;simp only[World.cell?,p];rw[a,f];rfl
end Go.Sw
namespace Go.Sw
theorem QjR{S B:Type}{step:S->Option (Ctl S B)}(st:Nat->S)(b:B)(k:Nat)(e:∀i,i<k->step (st i)=some (.cont (st (i+1))))(g:step (st k)=some (.done b)):∀n,k<n->iter step n (st 0)=some b:=by
 have d:∀m i n,k-i=m->i<=k->m<n->iter step n (st i)=some b:=by
  intro m
  induction m with
  |zero=>
   intro i n p h f;have:i=k:=by omega
   subst this;obtain⟨a,rfl⟩:∃a,n=a+1:=⟨n-1,by omega⟩;simp[iter,g]
  |succ m j=>
   intro i n p h f;obtain⟨a,rfl⟩:∃a,n=a+1:=⟨n-1,by omega⟩;simp only[iter,e i (by omega)];exact j (i+1) a (by omega) (by omega) (by omega)
 intro n l;exact d k 0 n (by omega) (XW _) l
theorem Qm0{S B:Type}{step:S->Option (Ctl S B)}(s0:S)(st:Nat->S)(b:B)(k:Nat)(h0:st 0=s0)(d:∀i,i<k->step (st i)=some (.cont (st (i+1))))(a:step (st k)=some (.done b))(n:Nat)(e:k<n):iter step n s0=some b:=by
 rw[<- h0];exact QjR st b k d a n e
theorem YR{α:Type}{l:List α}{i:Nat}{x:α}(h:l[i]?=some x):idx l (i:Int)=some x:=by
 unfold idx;have:decide ((0:Int)<=i)=true:=by simp
 rw[this];simpa using h
theorem Qam{α:Type}(l:List α)(x:α)(h:l.length<4294967296):app l [x]=some (l++[x]):=by
 unfold app;have:Nat.ble (l.length+[x].length) Qv=true:=by
  apply XU;unfold Qv;simp;omega
 rw[this];rfl
theorem Qdf{α:Type}(l m:List α)(h:l.length+m.length<=4294967296):app l m=some (l++m):=by
 unfold app;have:Nat.ble (l.length+m.length) Qv=true:=XU h;rw[this];rfl
theorem QJ{n:Int}(h0: -9223372036854775808<=n)(a:n<=9223372036854775807):IntKind.i64.wrap n=n:=by
 unfold IntKind.wrap;simp[IntKind.bits,IntKind.signed];omega
theorem Q8{i:Nat}(h:i<9223372036854775807):IntKind.i64.wrap ((i:Int)+1)=((i+1:Nat):Int):=by
 rw[QJ (by omega) (by omega)];omega
theorem Yd{p:Prop}[Decidable p](h:p):decide p=true:=Vw h
theorem Q9{p:Prop}[Decidable p](h:¬p):decide p=false:=Vz h
end Go.Sw
namespace Go.Sw
open Go.Proofs Go.Shelf
def cat(a b:List UInt8):Option (List UInt8):=bif Nat.ble (a.length+b.length) 4294967296 then some (a++b)else none
theorem Qp1{a b r:List UInt8}(h:cat a b=some r):a.length+b.length<=4294967296/\a++b=r:=by
 unfold cat at h;cases q:Nat.ble (a.length+b.length) 4294967296 with
 |true=>rw[q]at h;exact⟨XT q,X2 h⟩
 |false=>rw[q]at h;cases h
def Qfe(s t:List UInt8):Option Bool:=bif Nat.blt s.length 4294967281 then some (Lib.contains s t)else none
section
variable {P:Program} {o:Oper} {env:Env} {H:Qc}
theorem QfR{t u:TypeId}{x y:Operand}{p q r:List UInt8}(j:cat p q=some r)(k:o.op=.binOp .add t x y u:=by exact rfl)(hx:opA env x=.str p:=by exact rfl)(hy:opA env y=.str q:=by exact rfl):OpV P o env H (.str r):=by
 intro m n σ N a w rr;obtain⟨s,i⟩:=Qp1 j;have f:=Qd rr x;rw[hx]at f;have g:=Qd rr y;rw[hy]at g;have d:a.eval x=.string ⟨p.toArray⟩:=f;have e:a.eval y=.string ⟨q.toArray⟩:=g;have h:(⟨p.toArray⟩:ByteArray)++⟨q.toArray⟩=⟨r.toArray⟩:=by
  rw[<- i];apply ByteArray.ext;simp
 refine⟨.string ⟨r.toArray⟩,?_,rfl⟩;have b:¬((((⟨p.toArray⟩:ByteArray).size+(⟨q.toArray⟩:ByteArray).size:Nat):Int)>IntKind.i64.max):=by
  have:IntKind.i64.max=9223372036854775807:=by decide
  rw[this];simp only[ByteArray.size,List.size_toArray];omega
 generalize a.eval=ρ at*;have l:(eqGuard BinOp.add t x y (.string ⟨p.toArray⟩) (.string ⟨q.toArray⟩)).run P w=.ok () w:=by simp[eqGuard]
 simp only[execOp,k,d,e,binOp_string_add,Op.stringOp,Vu b,h,Vp,Vq,Result.andThen,l]
def Qer{α:Type}(n:Nat)(l:List α)(i:Int):Option α:=bif Nat.beq l.length n then idx l i else none
theorem Qa1{α:Type}{n:Nat}{l:List α}{i:Int}{x:α}(h:Qer n l i=some x):l.length=n/\idx l i=some x:=by
 unfold Qer at h;cases q:Nat.beq l.length n with
 |true=>rw[q]at h;exact⟨XS q,h⟩
 |false=>rw[q]at h;cases h
def arr{α:Type}(n:Nat)(l:List α):Option (List α):=bif Nat.beq l.length n then some l else none
theorem Jw{α:Type}{n:Nat}{l l':List α}(h:arr n l=some l'):l.length=n/\l=l':=by
 unfold arr at h;cases q:Nat.beq l.length n with
 |true=>rw[q]at h;exact⟨XS q,X2 h⟩
 |false=>rw[q]at h;cases h
theorem QbB{α:Type}{n:Nat}{l l':List α}(h:arr n l=some l'):l'.length=n:=(Jw h).2▸(Jw h).1
section
variable {α:Type} {e:α->List A} {t et k n b:Nat} {x y:Operand} {l:List α}
theorem Qaj{i:Int}{v:α}{j:IntKind}(h:Qer n l i=some v)(F:∀w,(underlying t).run P w=.ok (.array n et) w)(u:∀w,(sizeOf et).run P w=.ok k w)(E:Nat.ble 2 n=true)
  (B:o.op=.indexAddr t x y:=by exact rfl)(hx:opA env x=.ptr b 0:=by exact rfl)(hy:opA env y=.int j i:=by exact rfl):OpV P o env H (.ptr b (i.toNat*k)):=by
 intro O M σ N a w r;obtain⟨L,z⟩:=Qa1 h;obtain⟨Q,p⟩:=Qav z;have s:i.toNat<l.length:=(XN.1 p).1;have f:=Qd r x;rw[hx]at f;obtain⟨e,f,J⟩:=f;have m:=Qd r y;rw[hy]at m;have g:a.eval y=.int j i:=m;refine⟨.pointer (some ⟨e,i.toNat*k,none⟩),?_,e,f,rfl⟩;have G:0<=i/\i<(n:Int):=by omega
 have d:(⟨e,0,none⟩:Addr).add (i.toNat*k)=⟨e,i.toNat*k,none⟩:=by
  unfold Addr.add;split
  .rename_i q;rw[q]
  .simp
 generalize a.eval=ρ at*;simp[execOp,B,J,g,Instr.indexAt,asIntOf,F,u,Instr.sureAddr,G,d,go_sem,Result.andThen]
theorem Qk3{cs:List A}(hH:H[b]?=some (.row t k (l.map e)):=by exact rfl)(hcs:(l.map e).flatten=cs:=by exact rfl):Pts H (.ptr b 0) cs:=by
 intro m n σ w v s h;obtain⟨f,i,d⟩:=h;obtain⟨j,a,g⟩:=s.blk b _ _ i hH;refine⟨f,0,d,?_⟩;have:=(RR.flat (YS (pre:=[]) (by simpa using a) g)).1;subst hcs;exact this.lift
theorem QiA(a:∀x,(e x).length=k)(L:List α):(L.map e).flatten.length=L.length*k:=by
 induction L with
 |nil=>simp
 |cons c L ih=>simp only[Vl,Vn,X5,a c,ih,X3,Xm];omega
theorem Qjf{d:Nat}{l':List α}(h:arr n l=some l')(j:∀x,(e x).length=k)(a:n*k=d)(g:∀w,(isAgg t).run P w=.ok true w)(i:∀w,(sizeOf t).run P w=.ok d w){T:Nat}
  (m:o.op=.load t x:=by exact rfl)(hx:opA env x=.ptr b 0:=by exact rfl)(hH:H[b]?=some (.row T k (l.map e)):=by exact rfl):OpV P o env H (.agg (l'.map e).flatten):=by
 obtain⟨p,rfl⟩:=Jw h;have f:=QiA j l;rw[p,a]at f;exact Qi m g i hx (Qk3 hH rfl) (VK (by omega)) f
theorem QlV{r:Nat}{n2 T:Nat}(hl:l.length=n)(i:∀x,(e x).length=k)(a:n*k=n2)(f:∀w,(isAgg t).run P w=.ok true w)(g:∀w,(sizeOf t).run P w=.ok n2 w)
  (h:lk env r=.ptr b 0:=by exact rfl)(hH:H[b]?=some (.row T k (l.map e)):=by exact rfl):Qdm P env H (.cell r t) (.agg (l.map e).flatten):=by
 have d:=QiA i l;rw[hl,a]at d;have:=Qej (b:=r) (p:=.ptr b 0) (n:=n2) f g (Qk3 hH rfl) h (by rw[VK (by omega)];exact d)
 rwa [VK (by omega)]at this
theorem Qi4{c:List A}{k:Nat}(h:c.length=k):∀n,allK k (List.replicate n c)
 |0=>trivial
 |n+1=>⟨h,Qi4 h n⟩
theorem Jg{vs:Array Value}{z:α}(g:∀w,(zeroValue t).run P w=.ok (.agg vs) w)(h:(Y5 (List.replicate n (e z)).flatten).toArray=vs)(l:QeT (List.replicate n (e z)).flatten=true)(q:(List.replicate n (e z)).flatten.all Yz=true)(m:Nat.beq (e z).length k=true)
  (p:o.op=.alloc t:=by exact rfl):OpH P o env H (.ptr H.length 0) (H++[.row t k ((List.replicate n z).map e)]):=by
 intro s f σ N a w r;have d:LR f [] w (List.replicate n (e z)).flatten (Y5 (List.replicate n (e z)).flatten):=Qf2 l;have b:=r.sim.allocRow (t:=t) (rest:=[]) (Qi4 (XS m) n) d (d.plain q);rw[Vi]at b;have j:(List.replicate n z).map e=List.replicate n (e z):=List.map_replicate;refine⟨.pointer (some ⟨w.heap.size,0,none⟩),w.alloc (.cells (Y5 (List.replicate n (e z)).flatten).toArray t),f,[some w.heap.size],?_,⟨w.heap.size,?_,rfl⟩,j▸b,Qe.alloc _ r.sim.roLt r.sim.frLt⟩
 .generalize a.eval=ρ at*;have i:(newVar t (.agg vs)).run P w=.ok ⟨w.heap.size,0,none⟩ (w.alloc (.cells vs t)):=rfl;rw[h];simp only[execOp,p,Instr.alloc,Vp,g,Result.andThen,i];rfl
 .rw[<- r.sim.len];simp
theorem Jf{T n2:Nat}{l':List α}{vs:List A}(h:l.length=n)(h':l'.length=n)(hk:∀x,(e x).length=k)(B:n*k=n2)(hs:∀w,(sizeOf t).run P w=.ok n2 w)
  (hp:∀x,(e x).all Yz=true)(hd:∀x,Ym (e x)=true)(R:(l'.map e).flatten=vs)
  (ho:o.op=.store t x y:=by exact rfl)(F:opA env x=.ptr b 0:=by exact rfl)(hH:H[b]?=some (.row T k (l.map e)):=by exact rfl)(W:opA env y=.agg vs:=by exact rfl):
  OpU P o env H (H.set b (.row T k (l'.map e))):=by
 intro fr ro σ N a w r;subst R;have d:=Qd r x;rw[F]at d;obtain⟨bb,d,M⟩:=d;have h3:=Qd r y;rw[W]at h3;obtain⟨m,Y,G⟩:=h3;obtain⟨q,q1,q2⟩:=r.sim.blk b _ _ d hH;have z:∀(L:List α),allK k (L.map e):=by
  intro L
  induction L with
  |nil=>trivial
  |cons c L g=>exact⟨hk c,g⟩
 have V:(l'.map e).flatten.length=n2:=by rw[YD (z l'),X4,h',B]
 have hm:m.length=n2:=by rw[G.length,V]
 have u:∀L:List α,(L.map e).flatten.all Yz=true:=by
  intro L
  induction L with
  |nil=>rfl
  |cons c L g=>simp only[Vl,Vn,List.all_append,hp c,g,Bool.and_self]
 have J:∀p E:List A,Ym p=true->Ym E=true->Ym (p++E)=true:=by
  intro p
  induction p with
  |nil=>intro E _ h;exact h
  |cons c p g=>
   intro E d M;simp only[Ym,XY,VM]at d⊢;exact⟨d.1,g E d.2 M⟩
 have O:∀L:List α,Ym (L.map e).flatten=true:=by
  intro L
  induction L with
  |nil=>rfl
  |cons c L g=>simp only[Vl,Vn];exact J _ _ (hd c) g
 have aa:n2<=q.length:=by
  have:=q2.length;rw[X4,h,B]at this;exact this
 have i:=Ys (P:=P) (vs:=m) 0 0 q1 (by omega) (G.plain (u l'));have s:splice q 0 m=m++q.drop n2:=by unfold splice;simp[hm]
 have f:=r.sim.set (x':=.row T k (l'.map e)) (obj:=.cells (splice q 0 m).toArray T (0,0)) d hH rfl
  (λy W=>QaI q1 (Yn (by omega)) y W)
  (λex j=>by
   have F:=(G.data (O l')).mono ex.nil;rw[s]at F j⊢;exact⟨_,j,Y9 (z l') F (G.plain (u l'))⟩)
 refine⟨_,ro,[],?_,by simpa using f.1,f.2⟩;generalize a.eval=ρ at*;have Q:(ρ y).cells.size=n2:=by rw[Y];simp[Value.cells,hm]
 have X:(storeVar t ⟨bb,0,none⟩ (ρ y)).run P w=.ok () {w with heap:=w.heap.setIfInBounds bb (.cells (splice q 0 m).toArray T (0,0))}:=by
  unfold storeVar;rw[Vp,hs];simp only[Result.andThen];rw[Vu (by simp[Q]),Y];have ec:(Value.agg m.toArray).cells.toList=m:=by simp[Value.cells]
  rw[ec];simpa using i
 simp only[execOp,ho,M,Instr.storeAt,Instr.sureAddr,pure_bind,Vp,X];rfl
end
end
theorem C.contains{P:Program}{ρ:Ren}(L:Lays.n144 P ρ)(hg:ρ.g 1=Qlu){s t:List UInt8}{r:Bool}(h:Qfe s t=some r):C P (ρ.f 144) [.str s,.str t] [] (λa H=>a=.bool r/\H=[]):=by
 unfold Qfe at h;cases q:Nat.blt s.length 4294967281 with
 |false=>rw[q]at h;cases h
 |true=>
  rw[q]at h;obtain rfl:=X2 h;intro B n σ vals w sim hv;obtain⟨u,E,rfl,x,i,b,rfl,p,j⟩:=hv;cases(show b=[]from j);obtain⟨m,k⟩:=sim.roOk.gp.max;have d:u=.string ⟨s.toArray⟩:=x;have y:i=.string ⟨t.toArray⟩:=p;subst d y;have l:s.length<4294967281:=by simpa using q
  refine(Any.strings_Contains L ⟨s.toArray⟩ ⟨t.toArray⟩ m w (by simpa[ByteArray.size]using l) (by rw[hg];exact k)).mono ?_;rintro e z ⟨rfl,rfl⟩;exact⟨_,_,_,n,[],rfl,⟨rfl,rfl⟩,by simpa using sim,rfl,Qe.refl _ _ _⟩
section
variable {P:Program} {o:Oper} {env:Env} {H:Qc} {fr ro:Nat->Prop} {σ:Sig} {w:World}
theorem Sim.touch(s:Sim fr ro σ H w){b:Nat}{obj:Obj}(p:¬ro b)(u:¬fr b)(B:∀(i:Nat) (x:Blk),σ[i]?=some (some b)->H[i]?=some x->x.live=true->False)
  (g:∀(i d:Nat) (x:Blk),σ[i]?=some (some d)->H[i]?=some x->Hid w x d b->False)
  (r:∀y,w.shape? b=some y->({w with heap:=w.heap.setIfInBounds b obj}:World).shape? b=some y):
  Sim fr ro σ H {w with heap:=w.heap.setIfInBounds b obj}/\Qe fr ro w ro {w with heap:=w.heap.setIfInBounds b obj}:=by
 have a:∀c,c≠b->({w with heap:=w.heap.setIfInBounds b obj}:World).heap[c]?=w.heap[c]? :=by
  intro c E;show(w.heap.setIfInBounds b obj)[c]?=_;rw[Vg,Vu (λq=>E q.symm)]
 have f:({w with heap:=w.heap.setIfInBounds b obj}:World).heap.size=w.heap.size:=by simp
 have ev:Qe fr ro w ro {w with heap:=w.heap.setIfInBounds b obj}:=
  ⟨λ_ h=>h,λc h=>a c (λq=>p (q▸h)),λc h=>a c (λq=>u (q▸h)),by rw[f];exact XV _,by
   intro c y h;by_cases q:c=b
   .subst q;exact r y h
   .unfold World.shape? at h⊢;rw[a c q];exact h,rfl,rfl,rfl,XV _⟩
 refine⟨⟨s.len,s.roOk.to (λ_ q=>q) ev.keepRo (λc h=>by rw[f];exact s.roLt c h),λc h=>by rw[f];exact s.frLt c h,s.roFr,?_,s.inj,?_,s.hidTo (· = ·) QY (by rw[f];exact XV _) (λ_ _ _ _ _ _ _ q=>q) (λ_ _ _ _ _ _ _ q=>q) λj d y m t G=>.inl ⟨j,y,rfl,m,t,id,λc q=>s.hidKeep m t (λz=>a d (λe=>B j y (e▸m) t z)) ev.keepRo q⟩⟩,ev⟩
 .intro i c x l k F;rw[f];exact s.own i c x l k F
 .intro i y x l k;refine(s.blk i y x l k).keep (ev.ext0 σ) ?_ ?_
  .rintro c rfl n;exact a c (λq=>by subst q;exact B i x l k n)
  .rintro d c rfl n;exact a c (λq=>g i d x l k (q▸n))
theorem Ql6{T E i n t:Nat}{x:Operand}{es:List (List A)}(ht:P.underlying T=some (.slice E))(hE:P.underlying E=some (.int .u8))(hn:es.length=n)(h0:Nat.blt 0 n=true)
  (ho:o.op=.convert T T x:=by exact rfl)(hx:opA env x=.osl i 0 n 1:=by exact rfl)(hH:H[i]?=some (.row t 1 es):=by exact rfl):
  OpH P o env H (.rsl 1 es) (H.set i .dead):=by
 intro fr O σ N a w r;subst hn;have F:=Qd r x;rw[hx]at F;rcases F with⟨hz,_⟩|⟨b,p,G,t',m,F,h2,h6,h3,h4,h5⟩
 .rw[hz]at h0;simp at h0
 .have aa:0<es.length:=by simpa using h0
  obtain rfl:=h6 (by omega);obtain⟨V,M,h⟩:=r.sim.own i b _ F hH rfl;obtain⟨l,Q,q2⟩:=r.sim.blk i _ _ F hH;have s1:=r.sim.kill i;have g:∀(j:Nat) (y:Blk),σ[j]?=some (some b)->(H.set i .dead)[j]?=some y->y.live=true->False:=by
   intro j y s f B;by_cases q:j=i
   .subst q;rw[Xb]at f;simp only[if_true]at f;split at f
    .cases f;simp[Blk.live]at B
    .simp at f
   .rw[XR (λz=>q z.symm)]at f;exact q (r.sim.inj j i b y _ s F f hH B rfl)
  have J:∀(j d:Nat) (y:Blk),σ[j]?=some (some d)->(H.set i .dead)[j]?=some y->Hid w y d b->False:=by
   intro j d y s f B;by_cases q:j=i
   .subst q;rw[Xb]at f;simp only[if_true]at f;split at f
    .cases f;exact B.elim
    .simp at f
   .rw[XR (λz=>q z.symm)]at f;exact(r.sim.hid j d y b s f B).ne i b _ F hH rfl rfl
  let fz:Nat×Nat:=(l.length,l.length+1)
  have Y:∀y,w.shape? b=some y->({w with heap:=w.heap.setIfInBounds b (.cells l.toArray t fz)}:World).shape? b=some y:=by
   intro y X;unfold World.shape? at X⊢;rw[Q]at X;have e:(w.heap.setIfInBounds b (.cells l.toArray t fz))[b]?=some (.cells l.toArray t fz):=by rw[Vg,Vv rfl,Vv V]
   simp only[e];exact X
  obtain⟨s2,k⟩:=s1.touch (obj:=.cells l.toArray t fz) M h g J Y;have s3:=s2.addRo (b:=b) (by simpa using V) h g (λj d y s f B=>J j d y s f (s1.hidKeep s f (λz=>by
   show(w.heap.setIfInBounds b _)[d]?=_;rw[Vg,Vu (λe:b=d=>g j y (by rw[e];exact s) f z)]) k.keepRo B))
  have u:({w with heap:=w.heap.setIfInBounds b (.cells l.toArray t fz)}:World).heap[b]?=some (.cells (([]:List Value)++l).toArray t fz):=by
   show(w.heap.setIfInBounds b _)[b]?=_;rw[Vg,Vv rfl,Vv V];rfl
  have L:Ext O [] w O [] {w with heap:=w.heap.setIfInBounds b (.cells l.toArray t fz)}:=k.ext0 [];refine⟨.slice (some ⟨b,0*1,none⟩) es.length G,_,λc=>O c\/c=b,[],?_,?_,by simpa using s3,k.trans (YN λ_ q=>.inl q)⟩
  .have hf:w.freeze ⟨b,l.length,none⟩ 1={w with heap:=w.heap.setIfInBounds b (.cells l.toArray t fz)}:=by
    unfold World.freeze;simp only[Nat.one_ne_zero,if_false];rw[Qbg Q];rfl
   have W:(markStringish ⟨b,0*1,none⟩).run P w=.ok () {w with heap:=w.heap.setIfInBounds b (.cells l.toArray t fz)}:=by
    rw[<- hf];unfold markStringish;simp[shape,freeze,Sem.run,World.shape?,Q,Result.andThen]
   have hu:∀w,(underlying T).run P w=.ok (.slice E) w:=run_underlying ht;have R:∀w,(underlying E).run P w=.ok (.int .u8) w:=run_underlying hE;generalize a.eval=ρ at*;simp only[execOp,ho,h2,convert,Vp,hu,R,Result.andThen,beq_self_eq_true,W,Vq]
  .refine⟨some ⟨b,0*1,none⟩,G,rfl,h3,.inr ⟨b,0*1,rfl,.inr rfl,?_⟩⟩;have:=YS (pre:=[]) u (q2.mono L);exact(by simpa using this:RR O [] _ b 1 es (0*1)).keep ⟨λ_ q=>.inl q,λ_ _=>rfl,λ_ _ q=>q,λ_ _ q=>q⟩ rfl
end
mutual
theorem Qdy(ρ:Nat->Nat):∀{a:A},Yw a=true->YI ρ a=a
 |.any,_=>rfl
 |.bool _,_=>rfl
 |.int _ _,_=>rfl
 |.str _,_=>rfl
 |.nilp,_=>rfl
 |.ptr _ _,h=>by simp[Yw]at h
 |.rp _,_=>rfl
 |.nils,_=>rfl
 |.rsl _ _,_=>rfl
 |.osl _ _ _ _,h=>by simp[Yw]at h
 |.agg cs,h=>by simp only[Yw]at h;simp only[YI,Qaf ρ h]
 |.fn f a c,h=>by simp only[Yw,XY]at h;simp only[YI,Qaf ρ h.1,Qaf ρ h.2]
 |.nilf,_=>rfl
 |.iface t a,h=>by simp only[Yw]at h;simp only[YI,Qdy ρ h]
 |.nilif,_=>rfl
 |.map _,h=>by simp[Yw]at h
 |.nilm,_=>rfl
 |.tup vs,h=>by simp only[Yw]at h;simp only[YI,Qaf ρ h]
theorem Qaf(ρ:Nat->Nat):∀{l:List A},Ym l=true->Qaa ρ l=l
 |[],_=>rfl
 |a::l,h=>by simp only[Ym,XY]at h;simp only[Qaa,Qdy ρ h.1,Qaf ρ h.2]
end
theorem QgB{α:Type}{e:α->List A}(b:∀x,Ym (e x)=true):∀L:List α,Ym (L.map e).flatten=true
 |[]=>rfl
 |c::L=>by
  have hdt:∀cs ds:List A,Ym cs=true->Ym ds=true->Ym (cs++ds)=true:=by
   intro cs
   induction cs with
   |nil=>intro ds _ h;exact h
   |cons c cs d=>
    intro ds a f;simp only[Ym,XY,VM]at a⊢;exact⟨a.1,d ds a.2 f⟩
  simp only[Vl,Vn];exact hdt _ _ (b c) (QgB b L)
theorem Qoi{α:Type}{e:α->List A}(hd:∀x,Ym (e x)=true)(ρ:Nat->Nat)(l:List α):YI ρ (.agg (l.map e).flatten)=.agg (l.map e).flatten:=
 Qdy ρ (by simp only[Yw];exact QgB hd l)
end Go.Sw
namespace Go.Sw
section
variable {P:Program} {o:Oper} {env:Env} {H:Qc}
theorem QeI{c:Call}{f T:Nat}{x:Operand}{xs:List Operand}{j:Array TypeId}{name:String}{v:A}{args:List A}(b:∀(a:Array Value) (w:World),(callFunc f a).run P w=.ok (.enter f a) w)(p:o.op=.call c)
  (i:c={callee:=.invoke x name,args:=xs.toArray,argTypes:=j})(k:opA env x=.iface T v)(hargs:v::xs.map (opA env)=args)
  (n:∀(u:Value) (w:World),(method (P.types.size+Made.depth) T u name).run P w=.ok (f,u) w):OpC P o env H f args:=by
 intro q s σ N a w r;have d:=Qd r x;rw[k]at d;obtain⟨u,d,m⟩:=d;refine⟨u::xs.map a.eval,?_,hargs▸⟨u,xs.map a.eval,rfl,m,Qbl r xs⟩⟩;subst i;generalize a.eval=ρ at*;have e:(#[ρ x]++(xs.toArray.map ρ):Array Value)=(.iface T u::xs.map ρ).toArray:=by rw[d];simp
 have g:((.iface T u::xs.map ρ).toArray.extract 1 (.iface T u::xs.map ρ).toArray.size:Array Value)=(xs.map ρ).toArray:=by
  simp[VK]
 have h:∀l:Array Value,(callMethod (.iface T u) name l).run P w=.ok (.enter f (#[u]++l)) w:=by
  intro l;simp only[callMethod,Vp,run_program,Result.andThen,n,b]
 simp only[execOp,p,resolve,e,invoke,Vp,Vq,Result.andThen];simp only[XI,XG,g,h];simp
theorem QbE{T I:Nat}{x:Operand}{v:A}{d:TypeDesc}(h:∀w,(underlying T).run P w=.ok d w)(e:∀m,d≠ .interface m)(g:o.op=.typeAssert x I T true:=by exact rfl)(hx:opA env x=.iface T v:=by exact rfl):
  OpV P o env H (.tup [v,.bool true]):=by
 intro j i σ N a w r;have b:=Qd r x;rw[hx]at b;obtain⟨u,b,f⟩:=b;refine⟨.tuple #[u,.bool true],?_,[u,.bool true],rfl,_,_,rfl,f,_,_,rfl,rfl,rfl⟩;generalize a.eval=ρ at*;cases d<;>first|(simp[execOp,g,b,Instr.typeAssert,h,go_sem];done)|exact(e _ rfl).elim
theorem QhQ{T T' I:Nat}{x:Operand}{v z:A}{e:Value}{d:TypeDesc}(i:∀w,(underlying T).run P w=.ok d w)(j:∀m,d≠ .interface m)(b:Nat.beq T' T=false)(h:∀w,(zeroValue T).run P w=.ok e w)(g:ZR z e)
  (k:o.op=.typeAssert x I T true:=by exact rfl)(hx:opA env x=.iface T' v:=by exact rfl):
  OpV P o env H (.tup [z,.bool false]):=by
 intro n p σ N a w r;have f:=Qd r x;rw[hx]at f;obtain⟨u,f,s⟩:=f;have l:T'≠T:=λq=>by rw[q,VH]at b;cases b
 refine⟨.tuple #[e,.bool false],?_,[e,.bool false],rfl,_,_,rfl,g _ _ _,_,_,rfl,rfl,rfl⟩;generalize a.eval=ρ at*;cases d<;>first|(simp[execOp,k,f,Instr.typeAssert,i,l,h,go_sem];done)|exact(j _ rfl).elim
end
def TL(P:Program)(h0 N:Nat)(c:Code)(env:Env)(H:Qc)(Q:QA):Prop:=
 ∀rd fr ro σ a w,Rel fr ro σ H env N a w->Qew rd fr w->∀(b:Frame) (k:List Item) (cs:List Frame),b.roundOf=(WF rd).round->(WF rd).fn b.fn->(WF rd).room (cs.length+1+0)->∃e a' w',QaQ h0 fr ro σ w N a.defers Q e a' w'/\ArrivesIn (Machine.fenced P (WF rd)) P (lone (b.atR a (.code c::.inLoop c::k)) cs w) b k cs e a' w'
def Qke(P:Program)(h0 N:Nat)(c:Code)(Q:QA):QA
 |.normal,env,H=>TL P h0 N c env H Q
 |.exit id,env,H=>Q (.exit id) env H
 |.ret,env,H=>Q .ret env H
section
variable {P:Program} {h0 N:Nat} {c:Code} {env:Env} {H:Qc} {Q:QA}
theorem QnJ(h:TL P h0 N c env H Q):TC P h0 N (.loop c) env H Q:=by
 intro i g j σ a w r hrd b k cs hro hb hr;obtain⟨e,m,f,l,d⟩:=h i g j σ a w r hrd b k cs hro hb hr;exact⟨e,m,f,l,.of_steps (.one (fenced_calm hb hr rfl) stepR_loop) d⟩
theorem TL.round(h:TC P h0 N c env H (Qke P h0 N c Q)):TL P h0 N c env H Q:=by
 intro B z F σ a w r hrd b k cs hro hb hr;obtain⟨e,n,m,R,d⟩:=h B z F σ a w r hrd b (.inLoop c::k) cs hro hb hr;obtain⟨x,f,H',i,σ',j,l,u,G,t,E,p⟩:=R;have y:∀x,Q x f H'->ExR e x->QaQ h0 z F σ w N a.defers Q e n m:=λx q L=>⟨x,f,H',i,σ',j,L,q,G,t,E,p⟩;cases e with
 |normal=>
  obtain rfl:x=.normal:=l;obtain⟨M,J,O,s,g⟩:=u B j i σ' n m G (hrd.to t p.sub) b k cs hro hb hr;exact⟨M,J,O,s.grow t E p,.of_steps (StepsIn.trans d (.one (fenced_calm hb hr rfl) stepR_inLoop)) g⟩
 |exit id=>
  obtain rfl:x=.exit id:=l;exact⟨_,n,m,y _ u rfl,.pass (x:=.inLoop c) rfl (λ_ _=>.inl (by simp)) d⟩
 |ret=>
  obtain rfl:x=.ret:=l;exact⟨_,n,m,y _ u rfl,.pass (x:=.inLoop c) rfl (λ_ _=>.inl (by simp)) d⟩
 |_=>exact l.elim
theorem unrN(h:TC P h0 N c env H (Qke P h0 N c Q)):Qke P h0 N c Q .normal env H:=TL.round h
theorem unrX{id:Nat}(h:Q (.exit id) env H):Qke P h0 N c Q (.exit id) env H:=h
theorem unrR(h:Q .ret env H):Qke P h0 N c Q .ret env H:=h
theorem QlS(h:TC P h0 N c env H (Qke P h0 N c Q)):TC P h0 N (.loop c) env H Q:=QnJ (TL.round h)
end
section
variable {P:Program} {o:Oper} {env:Env} {H:Qc}
theorem QeH{t et k b n j:Nat}{x y:Operand}{d:IntKind}{i:Int}(e:Nat.blt j n=true)(hi:i=(j:Int))(h:∀w,(underlying t).run P w=.ok (.slice et) w)(a:∀w,(sizeOf et).run P w=.ok k w)
  (g:o.op=.indexAddr t x y:=by exact rfl)(hx:opA env x=.osl b 0 n k:=by exact rfl)(hy:opA env y=.int d i:=by exact rfl):OpV P o env H (.ptr b (j*k)):=by
 subst hi;have f:=QhR (H:=H) g h a hx hy (by omega) (by simpa using e)
 rwa [Int.toNat_natCast,Nat.zero_mul,Xx]at f
theorem Qcf{b t k e f off:Nat}{es:List (List A)}{c cs':List A}(a:off=e*k+f)(hH:H[b]?=some (.rowr t k es):=by exact rfl)(he:es[e]?=some c:=by exact rfl)(hcs:c.drop f=cs':=by exact rfl):Pts H (.ptr b off) cs':=
 Pts.rowr hH a he hcs
end
theorem QfP{ro:Nat->Prop}{σ:Sig}{w:World}{k:Nat}:∀{es:List (List A)} {l l':List Value},RL ro σ w k es l->l.take (es.length*k)=l'.take (es.length*k)->RL ro σ w k es l'
 |[],_,_,_,_=>trivial
 |c::es,l,l',h,hp=>by
  obtain⟨l1,l2,rfl,h1,h2,h3⟩:=h;have hl1:l1.length=k:=by rw[h2.1.length];exact h1
  have a:l'.take k=l1:=by
   have:=congrArg (List.take k) hp;simp only[List.take_take,X3,Xm]at this;rw[XC (by omega)]at this;rw[<- this, <- hl1];simp
  refine⟨l1,l'.drop k,by rw[<- a,XA],h1,h2,QfP h3 ?_⟩;have:=congrArg (List.drop k) hp;simp only[X3,Xm,List.drop_take]at this;rw[show es.length*k+k-k=es.length*k by omega]at this;rw[<- this, <- hl1];simp
section
variable {P:Program} {o:Oper} {env:Env} {H:Qc}
theorem Qga{c:Call}{T et k b s n t:Nat}{x:Operand}{es es':List (List A)}{z:Value}(ht:P.underlying T=some (.slice et))(hz:∀w,(zeroValue et).run P w=.ok z w)(J:z.cells.size=k)(X:∀v∈z.cells,Qn v)
  (O:es.take s=es')(hb:s+n=es.length)(ho:o.op=.call c:=by exact rfl)(hc:c={callee:=.builtin .clear,args:= #[x],argTypes:= #[T]}:=by exact rfl)
  (hx:opA env x=.osl b s n k:=by exact rfl)(hH:H[b]?=some (.row t k es):=by exact rfl):OpH P o env H (.tup []) (H.set b (.row t k es')):=by
 intro Q F σ N a w r;subst O hc;have V:∀w,(underlying T).run P w=.ok (.slice et) w:=run_underlying ht;have j:=Qd r x;rw[hx]at j;have h:Sim Q F σ (H.set b (.row t k (es.take s))) w:=by
  refine r.sim.weaken hH rfl ?_;intro y G;cases y with
  |none=>rw[show es=[]from G];simp[BR]
  |some M=>obtain⟨l,g1,g2⟩:=G;exact⟨l,g1,RL.take s g2⟩
 have f:∀v,a.eval x=v->(Builtin.clear_ #[T] o.type #[v]).run P w=.ok (.tuple #[]) w->
   ∃v w' ro' τ,(execOp a.eval o).run P w=.ok (.value v) w'/\VR ro' (σ++τ) w' (.tup []) v/\Sim Q ro' (σ++τ) (H.set b (.row t k (es.take s))) w'/\Qe Q F w ro' w':=by
  intro v E d;refine⟨.tuple #[],w,F,[],?_,⟨[],rfl,rfl⟩,by simpa using h,Qe.refl _ _ _⟩;generalize a.eval=ρ at*;simp only[execOp,ho,resolve,Vp,Vq,Result.andThen,invoke,builtin,XK,Vl,Vm,E,d]
 rcases j with⟨hn,j⟩|⟨M,p,R,t',m,j,h2,h3,h4,h5,h6⟩
 .refine f _ j ?_;simp[Builtin.clear_,V,Result.andThen]
 .by_cases hn:n=0
  .subst hn;refine f _ h2 ?_;simp[Builtin.clear_,V,Result.andThen]
  .obtain rfl:=h3 (by omega);obtain⟨l,q1,q2⟩:=r.sim.blk b _ _ j hH;have ab:=q2.length
   let vs:=(Builtin.zeroCells z.cells n).toList
   have ac:vs.length=n*k:=by simp[vs,Builtin.zeroCells,J]
   have Y:∀v∈vs,Qn v:=by
    intro v E;simp only[vs,Builtin.zeroCells,Array.toList_map,Xf,Array.toList_range,List.mem_range]at E;obtain⟨i,hi,rfl⟩:=E;have B:0<z.cells.size:=by
     rcases Nat.eq_zero_or_pos z.cells.size with q|q
     .rw[q,Nat.mul_zero]at hi;omega
     .exact q
    have u:i%z.cells.size<z.cells.size:=Nat.mod_lt _ B;rw[getElem!_pos z.cells _ u];exact X _ (Array.getElem_mem u)
   have ae:s*k+n*k=es.length*k:=by rw[<- XB,hb]
   have d:=Ys (P:=P) (vs:=vs) (s*k) 0 q1 (by omega) Y;have g:=r.sim.set (x':=.row t k (es.take s)) (obj:=.cells (splice l (s*k) vs).toArray t (0,0)) j hH rfl
    (λy G=>QaI q1 (Yn (by omega)) y G)
    (λex L=>⟨_,L,by
     refine(QfP (RL.take s q2) ?_).mono ex.nil;have hl:(es.take s).length*k<=s*k:=XD k (by simp;omega);have aa:(es.take s).length*k<=(l.take (s*k)).length:=by rw[Xz (i:=s*k),XC (by omega)];exact hl
     have e:=X9 (l₂:=vs++l.drop (s*k+vs.length)) aa;unfold splice;rw[Vk,e,List.take_take,XC hl]⟩)
   refine⟨.tuple #[],_,F,[],?_,⟨[],rfl,rfl⟩,by simpa using g.1,g.2⟩;have W:(Builtin.clear_ #[T] o.type #[.slice (some ⟨M,s*k,none⟩) n R]).run P w=.ok (.tuple #[]) {w with heap:=w.heap.setIfInBounds M (.cells (splice l (s*k) vs).toArray t (0,0))}:=by
    obtain⟨n',rfl⟩:∃n',n=n'+1:=⟨n-1,by omega⟩;simp only[Xy]at d;simp only[Builtin.clear_,XI,XG,Vp,V,hz,Result.andThen,d,Vq,vs]
   generalize a.eval=ρ at*;simp only[execOp,ho,resolve,Vp,Vq,Result.andThen,invoke,builtin,XK,Vl,Vm,h2,W]
end
def isNil{α R:Type}[DecidableEq R](l:List α)(x y:Option R):Option R:=bif l.isEmpty then(bif decide (x=y)then x else none)else y
theorem Qis{α R:Type}[DecidableEq R]{l:List α}{x y:Option R}{r:R}(h:isNil l x y=some r)(b:Bool)(d:l≠[]->b=false):(b=true->x=some r)/\(b=false->y=some r):=by
 unfold isNil at h;cases q:l.isEmpty with
 |true=>
  rw[q]at h;by_cases a:x=y
  .subst a;simp at h;exact⟨λ_=>h,λ_=>h⟩
  .simp[a]at h
 |false=>
  rw[q]at h;have f:l≠[]:=by rintro rfl;cases q
  refine⟨λe=>?_,λ_=>h⟩;rw[d f]at e;cases e
section
variable {P:Program} {o:Oper} {env:Env} {H:Qc} {h0 N:Nat} {Q:QA}
theorem Ql7{α:Type}{e:α->List A}{T E k:Nat}{u:TypeId}{x:Operand}{l:List α}(j:P.underlying T=some (.slice E))(q:o.op=.binOp .eql T x (.const (.slice none 0 0)) u)(n:opA env x=.rsl k (l.map e)):
  OpE P o env H (λv H'=>∃b:Bool,v=.bool b/\(l≠[]->b=false)/\H'=H):=by
 intro t p σ N a w r;have g:=Qd r x;rw[n]at g;obtain⟨ad,f,g,y,d⟩:=g;refine⟨.bool ad.isNone,H,.bool ad.isNone,w,p,[],⟨ad.isNone,rfl,λm=>?_,rfl⟩,?_,rfl,by simpa using r.sim,Qe.refl _ _ _⟩
 .rcases d with d|⟨b,i,d,_⟩
  .exact absurd (List.map_eq_nil_iff.1 d) m
  .rw[d];rfl
 .have h:a.eval (.const (.slice none 0 0))=.slice none 0 0:=rfl;generalize a.eval=ρ at*;have s:(eqGuard .eql T x (.const (.slice none 0 0)) (.slice ad (l.map e).length f) (.slice none 0 0)).run P w=.ok () w:=by simp[eqGuard]
  simp only[execOp,q,g,h,Vp,s,Result.andThen,Go.run_eql_slice_nil w T E ad _ f j,Vq]
theorem Qi6{α:Type}{e:α->List A}{T E k d:Nat}{u:TypeId}{x:Operand}{l:List α}{all:Array Oper}{L:List Oper}(i:P.underlying T=some (.slice E))(a:opA env x=.rsl k (l.map e))
  (h:∀b:Bool,(l≠[]->b=false)->WO P h0 N all L (up env d (.bool b)) H Q)
  (g:o.op=.binOp .eql T x (.const (.slice none 0 0)) u:=by exact rfl)(hg:Qp all o env true:=by exact rfl)(hd:o.dst=some d:=by exact rfl)(hN:Nat.blt d N=true:=by exact rfl)(hh:Nat.ble h0 H.length=true:=by exact rfl):WO P h0 N all (o::L) env H Q:=by
 refine Qkd (XT hh) hg hd hN (Ql7 i g a) ?_;rintro v H' ⟨b,rfl,f,rfl⟩;exact h b f
end
theorem slc0{α:Type}{l x:List α}{i:Int}(h:slc l 0 i=some x):0<=i/\i.toNat<=l.length/\l.take i.toNat=x/\x.length=i.toNat:=by
 obtain⟨_,d,e,b⟩:=QjA h;have a:l.take i.toNat=x:=by simpa using b
 exact⟨d,by omega,a,by rw[<- a,Xz];omega⟩
section
variable {P:Program} {o:Oper} {env:Env} {H:Qc} {α:Type} {e:α->List A} {T et k b t:Nat} {x y:Operand} {l l':List α} {i:Int}
theorem QfU(h:slc l 0 i=some l')(E1:∀w,(underlying T).run P w=.ok (.slice et) w)(E2:∀w,(sizeOf et).run P w=.ok k w)(e:o.op=.slice T x (some y) none none:=by exact rfl)
  (hx:opA env x=.osl b 0 l.length k:=by exact rfl)(hy:opA env y=.int .i64 i:=by exact rfl):OpV P o env H (.osl b (0+i.toNat) (l.length-i.toNat) k):=by
 obtain⟨d,a,_,_⟩:=slc0 h;exact QfW E1 E2 e hx (.inr ⟨y,i,rfl,hy,d,rfl⟩) (.inl ⟨rfl,rfl⟩) a (XV _)
theorem QfV(h:slc l 0 i=some l')(E1:∀w,(underlying T).run P w=.ok (.slice et) w)(E2:∀w,(sizeOf et).run P w=.ok k w)(a:o.op=.slice T x none (some y) none:=by exact rfl)
  (hx:opA env x=.osl b 0 l.length k:=by exact rfl)(hy:opA env y=.int .i64 i:=by exact rfl):OpV P o env H (.osl b 0 l'.length k):=by
 obtain⟨e,d,_,f⟩:=slc0 h;have:=QfW (H:=H) E1 E2 a hx (.inl ⟨rfl,rfl⟩) (.inr ⟨y,i,rfl,hy,e,rfl⟩) (XW _) d;rw[f];simpa using this
theorem QfY{c:Call}{z:Value}(h:slc l 0 i=some l')(j:P.underlying T=some (.slice et))(f:∀w,(zeroValue et).run P w=.ok z w)(a:z.cells.size=k)(d:∀v∈z.cells,Qn v)(m:o.op=.call c:=by exact rfl)(hc:c={callee:=.builtin .clear,args:= #[x],argTypes:= #[T]}:=by exact rfl)
  (hx:opA env x=.osl b (0+i.toNat) (l.length-i.toNat) k:=by exact rfl)(hH:H[b]?=some (.row t k (l.map e)):=by exact rfl):OpH P o env H (.tup []) (H.set b (.row t k (l'.map e))):=by
 obtain⟨q,p,g,n⟩:=slc0 h;refine Qga j f a d ?_ ?_ m hc hx hH
 .rw[Xx, <- g,List.map_take]
 .rw[X4];omega
end
end Go.Sw
namespace Go.Sw
open Go.Sort Go.Proofs Go.Shelf
def ltI(x y:Int):Bool:=decide (x<y)
def sortI(l:List Int):Option (List Int):=bif Nat.ble l.length Qv then some (Ji ltI l)else none
theorem Qh8{l l':List Int}(h:sortI l=some l'):l.length<=Qv/\Ji ltI l=l':=by
 unfold sortI at h;cases e:Nat.ble l.length Qv with
 |false=>rw[e]at h;simp at h
 |true=>rw[e]at h;exact⟨XT e,X2 h⟩
theorem Qae{l l':List Int}(h:sortI l=some l'):l.length=l'.length:=by
 rw[<- (Qh8 h).2];exact(Qq _ _).length_eq.symm
theorem Qhn(l:List Int):Qei ltI l:=
 ⟨λx _=>by simp[ltI],λx _ y _ z _ a b=>by simp[ltI]at*;omega,λx _ y _ z _ a b=>by simp[ltI]at*;omega⟩
theorem Qeq(l:List Int):(l.mergeSort λx y=>decide (x<=y))=Ji ltI l:=by
 refine Js (lt:=ltI) ?_ ?_ ?_ (Q4 (Qhn l))
 .exact(List.mergeSort_perm _ _).trans (Qq _ _).symm
 .intro x _ y _ a b;simp[ltI]at*;omega
 .refine(List.pairwise_mergeSort (le:=λx y=>decide (x<=y)) ?_ ?_ l).imp ?_
  .intro a b c;simp;omega
  .intro a b;simp;omega
  .intro a b;simp[ltI]
theorem Qk2{ro:Nat->Prop}{σ:Sig}{w:World}:∀{l:List Int} {lv:List Value},RL ro σ w 1 (l.map λx=>[A.int .i64 x]) lv->∃rest,lv=l.map (Value.int .i64)++rest
 |[],lv,_=>⟨lv,rfl⟩
 |x::l,lv,h=>by
  obtain⟨l1,l2,rfl,h1,⟨h2,h3⟩,h4⟩:=h;obtain⟨rest,rfl⟩:=Qk2 (l:=l) h4;obtain⟨v,r,rfl,hv,hr⟩:=h2;cases(show r=[]from hr);exact⟨rest,by rw[show v=.int .i64 x from hv];simp⟩
theorem QfQ{ro:Nat->Prop}{σ:Sig}{w:World}:∀(l:List Int) (rest:List Value),RL ro σ w 1 (l.map λx=>[A.int .i64 x]) (l.map (Value.int .i64)++rest)
 |[],_=>trivial
 |x::l,rest=>⟨[.int .i64 x],l.map (Value.int .i64)++rest,by simp,rfl,⟨⟨_,_,rfl,rfl,rfl⟩,by simp[Qn]⟩,QfQ l rest⟩
theorem Qlb{P:Program}{ρ:Ren}(L:Lays.n189 P ρ){t:Nat}{l l':List Int}(hs:sortI l=some l'):
  C P (ρ.f 189) [.osl 0 0 l.length 1] [.row t 1 (l.map λx=>[A.int .i64 x])] (λa H=>a=.tup []/\H=[.row t 1 (l'.map λx=>[A.int .i64 x])]):=by
 intro fr N σ vals w s hv;obtain⟨vs,r1,rfl,ah,hr⟩:=hv;cases(show r1=[]from hr);obtain⟨X,Y⟩:=Qh8 hs;have d:∀(ad:Option Addr) (c:Nat),vs=.slice ad 0 c->l=[]->
   Calls P (ρ.f 189) [vs].toArray w λe T=>∃v r H' ro' τ,e=.returned v/\(r=.tup []/\H'=[.row t 1 (l'.map λx=>[A.int .i64 x])])/\Sim fr ro' (σ++τ) H' T/\VR ro' (σ++τ) T r v/\Qe fr N w ro' T:=by
  rintro ad c rfl rfl;have B:l'=[]:=by rw[<- Y];rfl
  subst B;refine(Any.slices_Sort_int_none L ad c w).mono ?_;rintro e T ⟨rfl,rfl⟩;exact⟨_,_,_,N,[],rfl,⟨rfl,rfl⟩,by simpa using s,⟨[],rfl,rfl⟩,Qe.refl _ _ _⟩
 rcases ah with⟨h0,rfl⟩|⟨b,p,cp,t',m,q1,rfl,q2,q3,q4,q5⟩
 .exact d none 0 rfl (VL.1 h0)
 .by_cases B:l=[]
  .subst B;exact d _ cp rfl rfl
  .have ae:0<l.length:=List.length_pos_iff.2 B;obtain rfl:=q2 (Vh ae q3);obtain⟨lv,e1,e2⟩:=s.blk 0 _ _ q1 rfl;obtain⟨hb,aa,Q⟩:=s.own 0 b _ q1 rfl rfl;obtain⟨u,rfl⟩:=Qk2 e2;have hH:Holds (Value.int .i64) w b 0 l.toArray:=by
    intro j hj;simp only[List.size_toArray]at hj;constructor
    .unfold World.cell?;simp only[e1,Option.isSome_none,Xj,if_false,Xx];rw[Qad,XO (by simpa using hj)];simp[hj]
    .unfold World.frozen?;simp only[e1];simp
   have z:=Any.slices_Sort_int L b 0 cp l w hH hb (by unfold Qv at X;omega);rw[Qeq,Y]at z;simp only[Nat.zero_mul]at z⊢;refine z.mono ?_;rintro e T ⟨rfl,n,os,rfl⟩;have E:l.length=l'.length:=Qae hs;generalize hW:grow (putRow (Value.int .i64) (Sort.ahead w n) b 0 l'.toArray) os=W;have g:W.heap=w.heap.setIfInBounds b (.cells ((l'.map (Value.int .i64)++u)).toArray t (0,0))++os:=by
    rw[<- hW];show(w.heap.modify b _)++os=_;rw[Qbg e1];simp only[onCells];congr 3;unfold putCells;apply Array.ext_getElem?;intro i;simp only[Array.getElem?_mapIdx,Qad,XW,true_and,Xx,Xw,List.size_toArray];by_cases hi:i<l'.length
    .rw[XO (by simpa[E]using hi),XO (by simpa using hi)];simp[hi,E]
    .rw[XP (by simp;omega),XP (by simp;omega)];simp only[X4,E];cases(u[i-l'.length]?)with
     |none=>rfl
     |some v=>exact congrArg some (Vu hi)
   have g1:∀c,c<w.heap.size->c≠b->W.heap[c]?=w.heap[c]? :=by
    intro c k ab;rw[g,Array.getElem?_append_left (by simpa using k),Vg,Vu (λq=>ab q.symm)]
   have g2:W.heap[b]?=some (.cells ((l'.map (Value.int .i64)++u)).toArray t (0,0)):=by
    rw[g,Array.getElem?_append_left (by simpa using hb),Vg,Vv rfl,Vv hb]
   have g3:w.heap.size<=W.heap.size:=by rw[g];simp
   have F:∀c y,w.shape? c=some y->W.shape? c=some y:=by
    intro c y J;by_cases k:c=b
    .subst k;unfold World.shape? at J⊢;rw[e1]at J;rw[g2];simp only[Option.some.injEq]at J⊢;rw[<- J];simp[E]
    .unfold World.shape? at J⊢;rw[g1 c (QbP J) k];exact J
   have ai:W.os=w.os:=by rw[<- hW];rfl
   have af:W.tape=w.tape:=by rw[<- hW];rfl
   have ag:W.output=w.output:=by rw[<- hW];rfl
   have ac:w.drawn<=W.drawn:=by rw[<- hW];exact Nat.le_add_right _ _
   have V:Qe fr N w N W:=
    ⟨λ_ q=>q,λc k=>g1 c (s.roLt c k) (λq=>aa (q▸k)),λc k=>g1 c (s.frLt c k) (λq=>Q (q▸k)),g3,F,ai,af,ag,ac⟩
   have G:σ.length=1:=s.len;have R:Sim fr N σ [.row t 1 (l'.map λx=>[A.int .i64 x])] W:=by
    have i0:∀{i:Nat} {x:Blk},([.row t 1 (l'.map λx=>[A.int .i64 x])]:Qc)[i]?=some x->i=0/\x=.row t 1 (l'.map λx=>[A.int .i64 x]):=by
     intro i x h;cases i with
     |zero=>simp at h;exact⟨rfl,h.symm⟩
     |succ i=>simp at h
    refine⟨G,s.roOk.to (λ_ q=>q) V.keepRo (λc k=>Vh (s.roLt c k) g3),λc k=>Vh (s.frLt c k) g3,s.roFr,λi c x O M h3=>?_,λi j c x y O M h3 h4 _ _=>?_,λi y x O M=>?_,λi b x c O M h3=>by obtain⟨rfl,rfl⟩:=i0 M;exact h3.elim⟩
    .obtain⟨rfl,rfl⟩:=i0 M;obtain⟨p1,p2⟩:=s.own 0 c _ O rfl rfl;exact⟨Vh p1 g3,p2⟩
    .rw[(i0 h3).1,(i0 h4).1]
    .obtain⟨rfl,rfl⟩:=i0 M;rw[q1]at O;cases O;exact⟨_,g2,QfQ l' u⟩
   exact⟨_,_,_,N,[],rfl,⟨rfl,rfl⟩,by simpa using R,⟨[],rfl,rfl⟩,V⟩
section
variable {P:Program} {o:Oper} {env:Env} {H:Qc} {α:Type} {e:α->List A} {T et k b t:Nat} {x y:Operand}
theorem Ql2{lo hi:Option Operand}{l r:List α}{a c:Int}(h:slc l a c=some r)(E1:∀w,(underlying T).run P w=.ok (.slice et) w)(E2:∀w,(sizeOf et).run P w=.ok k w)
  (g:lo=none/\a=0\/ ∃y,lo=some y/\opA env y=.int .i64 a)(f:hi=none/\c=l.length\/ ∃y,hi=some y/\opA env y=.int .i64 c)
  (i:o.op=.slice T x lo hi none:=by exact rfl)(hx:opA env x=.osl b 0 l.length k:=by exact rfl):OpV P o env H (.osl b (0+a.toNat) (c.toNat-a.toNat) k):=by
 obtain⟨j,n,m,_⟩:=QjA h;refine QfW (l:=a.toNat) (h:=c.toNat) E1 E2 i hx ?_ ?_ (by omega) (by omega)
 .rcases g with⟨e,d⟩|⟨y,e,d⟩
  .exact .inl ⟨e,by rw[d];rfl⟩
  .exact .inr ⟨y,a,e,d,j,rfl⟩
 .rcases f with⟨e,d⟩|⟨y,e,d⟩
  .exact .inl ⟨e,by rw[d];simp⟩
  .exact .inr ⟨y,c,e,d,by omega,rfl⟩
end
end Go.Sw
namespace Go.Sw
inductive Bx where
 |mk (a:A)
def lkB:Env->Nat->Bx
 |[],_=>.mk .any
 |(d,a)::r,s=>bif Nat.beq s d then .mk a else lkB r s
theorem QjQ:∀{env:Env} {s:Nat} {a:A},lkB env s=.mk a->lk env s=a
 |[],s,a,h=>by cases h;rfl
 |(d,b)::r,s,a,h=>by
  unfold lkB at h;unfold lk;cases q:Nat.beq s d with
  |true=>rw[q]at h;cases h;rfl
  |false=>rw[q]at h;exact QjQ h
inductive FBy where
 |mk (l:List UInt8)
def fby:List UInt8->FBy
 |[]=>.mk []
 |a::r=>match fby r with
  |.mk r'=>.mk (a::r')
theorem Qne:∀l:List UInt8,fby l=.mk l
 |[]=>rfl
 |a::r=>by unfold fby;rw[Qne r]
def opB(env:Env):Operand->Bx
 |.tmp t=>lkB env t
 |.const (.bool b)=>.mk (.bool b)
 |.const (.int k n)=>.mk (.int k n)
 |.const (.string s)=>match fby s.data.toList with
  |.mk l=>.mk (.str l)
 |.const (.pointer none)=>.mk .nilp
 |.const (.slice none 0 0)=>.mk .nils
 |.const (.map none)=>.mk .nilm
 |.const .nilFunc=>.mk .nilf
 |.const .nilIface=>.mk .nilif
 |.func f=>.mk (.fn (.func f) [] [])
 |_=>.mk .any
theorem QE{env:Env}{x:Operand}{a:A}(h:opB env x=.mk a):opA env x=a:=by
 cases x with
 |tmp t=>exact QjQ h
 |const v=>
  cases v with
  |slice b n k=>cases b with
   |none=>cases n with
    |zero=>cases k<;>(cases h;rfl)
    |succ n=>cases h;rfl
   |some b=>cases h;rfl
  |pointer p=>cases p<;>(cases h;rfl)
  |map p=>cases p<;>(cases h;rfl)
  |string s=>
   have d:(match fby s.data.toList with|.mk l=>Bx.mk (.str l))=.mk a:=h;rw[Qne]at d;cases d;rfl
  |_=>cases h;rfl
 |global g=>cases h;rfl
 |func f=>cases h;rfl
def Y3{α:Type}:List α->Nat->Option α
 |[],_=>none
 |a::_,0=>some a
 |_::r,n+1=>Y3 r n
theorem QaD{α:Type}:∀(l:List α) (n:Nat),Y3 l n=l[n]?
 |[],n=>by simp[Y3]
 |a::r,0=>rfl
 |a::r,n+1=>by simp[Y3,QaD r n]
def arB:BinOp->IntKind->Int->Int->Option A
 |.add,k,m,n=>some (.int k (k.wrap (m+n)))
 |.sub,k,m,n=>some (.int k (k.wrap (m-n)))
 |.mul,k,m,n=>some (.int k (k.wrap (m*n)))
 |.eql,_,m,n=>some (.bool (m==n))
 |.neq,_,m,n=>some (.bool (m != n))
 |.lss,_,m,n=>some (.bool (decide (m<n)))
 |.leq,_,m,n=>some (.bool (decide (m<=n)))
 |.gtr,_,m,n=>some (.bool (decide (n<m)))
 |.geq,_,m,n=>some (.bool (decide (n<=m)))
 |_,_,_,_=>none
def srB:BinOp->List UInt8->List UInt8->Option A
 |.eql,p,q=>some (.bool (p==q))
 |.neq,p,q=>some (.bool (p != q))
 |.lss,p,q=>some (.bool (Op.bytesLess p q))
 |_,_,_=>none
def biB(b:BinOp):Bx->Bx->Option A
 |.mk (.int k m),.mk (.int k' n)=>if k=k' then arB b k m n else none
 |.mk (.str p),.mk (.str q)=>srB b p q
 |_,_=>none
def unB:UnOp->Bx->Option A
 |.not,.mk (.bool b)=>some (.bool !b)
 |.neg,.mk (.int k n)=>some (.int k (k.wrap (0-n)))
 |_,_=>none
def exB:Bx->Nat->Option A
 |.mk (.tup vs),i=>Y3 vs i
 |_,_=>none
def nlB:Bx->Option A
 |.mk (.ptr i j)=>some (.ptr i j)
 |.mk (.rp cs)=>some (.rp cs)
 |_=>none
def piB:Bx->Bx->Bx->Option A
 |.mk (.bool true),.mk a,_=>some a
 |.mk (.bool false),_,.mk a=>some a
 |_,_,_=>none
def svB(env:Env):Op->Option A
 |.move x=>match opB env x with|.mk a=>some a
 |.assign x=>match opB env x with|.mk a=>some a
 |.nilCheck x=>nlB (opB env x)
 |.extract x i=>exB (opB env x) i
 |.unOp u _ x=>unB u (opB env x)
 |.pick c x y=>piB (opB env c) (opB env x) (opB env y)
 |.binOp b _ x y _=>biB b (opB env x) (opB env y)
 |_=>none
def pr(d:Nat):Option A->Option (Nat×A)
 |some a=>some (d,a)
 |none=>none
def stB(o:Oper)(env:Env):Option (Nat×A):=
 match o.dst with
 |some d=>pr d (svB env o.op)
 |none=>none
section
variable {P:Program} {h0 N:Nat} {all:Array Oper} {o:Oper} {l:List Oper} {env:Env} {H H':Qc} {Q:QA} {d:Nat} {x:A}
theorem QbN{p:Op}(d:o.op=p)(h:svB env p=some x):OpV P o env H x:=by
 unfold svB at h;split at h
 .rename_i y;cases q:opB env y with|mk a=>rw[q]at h;cases h;exact OpV.move d (QE q)
 .rename_i y;cases q:opB env y with|mk a=>rw[q]at h;cases h;exact OpV.assign d (QE q)
 .rename_i y;unfold nlB at h;split at h
  .rename_i i j q;cases h;exact YF d (QE q) rfl
  .rename_i w q;cases h;exact YF d (QE q) rfl
  .cases h
 .rename_i y i;unfold exB at h;split at h
  .rename_i vs _ q;rw[QaD]at h;exact OpV.extract d (QE q) h
  .cases h
 .rename_i u t y;unfold unB at h;split at h
  .rename_i b q;cases h;exact OpV.not d (QE q)
  .rename_i k n q;cases h;exact OpV.neg d (QE q)
  .cases h
 .rename_i c y z;unfold piB at h;split at h
  .rename_i a _ r l;cases h;exact OpV.pick d (QE r) (by rw[Vv rfl];exact QE l)
  .rename_i a r l;cases h;exact OpV.pick d (QE r) (by rw[Vu (by decide)];exact QE l)
  .cases h
 .rename_i b t y z u;unfold biB at h;split at h
  .rename_i k m s n r l;split at h
   .rename_i e;subst e;have g:=QE r;have f:=QE l;unfold arB at h;split at h
    .cases h;exact OpV.add d g f
    .cases h;exact OpV.sub d g f
    .cases h;exact OpV.mul d g f
    .cases h;exact OpV.eql d g f
    .cases h;exact OpV.neq d g f
    .cases h;exact OpV.lss d g f
    .cases h;exact OpV.leq d g f
    .cases h;exact OpV.gtr d g f
    .cases h;exact OpV.geq d g f
    .cases h
   .cases h
  .rename_i p q r l;have g:=QE r;have f:=QE l;unfold srB at h;split at h
   .cases h;exact QdT d g f
   .cases h;exact QlX d g f
   .cases h;exact QlY d g f
   .cases h
  .cases h
 .cases h
theorem Qhb(h:stB o env=some (d,x)):o.dst=some d/\OpV P o env H x:=by
 unfold stB at h;split at h
 .rename_i b q;cases e:svB env o.op with
  |none=>rw[e]at h;cases h
  |some a=>rw[e]at h;cases h;exact⟨q,QbN rfl e⟩
 .cases h
theorem S(e:stB o env=some (d,x))(k:WO P h0 N all l (up env d x) H Q)(hg:Qp all o env true:=by exact rfl)(hN:Nat.blt d N=true:=by exact rfl):WO P h0 N all (o::l) env H Q:=
 QK hg (Qhb (P:=P) (H:=H) e).1 hN (Qhb e).2 k
theorem Sg(hg:Qp all o env true)(e:stB o env=some (d,x))(k:WO P h0 N all l (up env d x) H Q)(a:Nat.blt d N=true:=by exact rfl):WO P h0 N all (o::l) env H Q:=
 QK hg (Qhb (P:=P) (H:=H) e).1 a (Qhb e).2 k
theorem K(hg:Qp all o env false)(a:o.dst=some d)(k:WO P h0 N all l (up env d (.tup [])) H Q)(b:Nat.blt d N=true:=by exact rfl):WO P h0 N all (o::l) env H Q:=
 WO.skip hg a b k
theorem KF{j s:Nat}{c y:Bool}(b:y= !c)(a:o.dst=some d)(k:WO P h0 N all l (up env d (.tup [])) H Q)(e:Nat.blt d N=true:=by exact rfl)(hg:o.guard=some (j,c):=by exact rfl)(hs:(all[j]?).bind (·.dst)=some s:=by exact rfl)(hl:lk env s=.bool y:=by exact rfl):WO P h0 N all (o::l) env H Q:=
 WO.skip (gF b hg hs hl) a e k
def p2B(v:Bool):Bx->Bx->Bx->Option (Bool×A)
 |.mk (.bool b),.mk a,.mk a'=>match v with|true=>some (b,a)|false=>some (b,a')
 |_,_,_=>none
def pr2(d:Nat):Option (Bool×A)->Option (Nat×Bool×A)
 |some a=>some (d,a)
 |none=>none
def pkB(v:Bool)(o:Oper)(env:Env):Option (Nat×Bool×A):=
 match o.dst,o.op with
 |some d,.pick c x y=>pr2 d (p2B v (opB env c) (opB env x) (opB env y))
 |_,_=>none
theorem QpF{v b:Bool}{p q r:Bx}(h:p2B v p q r=some (b,x)):∃a a',p=.mk (.bool b)/\q=.mk a/\r=.mk a'/\(bif v then a else a')=x:=by
 obtain⟨p⟩:=p;obtain⟨q⟩:=q;obtain⟨r⟩:=r;cases p<;>first|(cases h;done)|skip
 cases v<;>cases h<;>exact⟨_,_,rfl,rfl,rfl,rfl⟩
theorem QmK{v b:Bool}(h:pkB v o env=some (d,b,x))(k:b=v):o.dst=some d/\OpV P o env H x:=by
 unfold pkB at h;split at h
 .rename_i n c y z i l;cases e:p2B v (opB env c) (opB env y) (opB env z)with
  |none=>rw[e]at h;cases h
  |some s=>
   rw[e]at h;cases h;obtain⟨a,p,g,m,j,f⟩:=QpF e;refine⟨i,OpV.pick l (QE g) ?_⟩;rw[QE m,QE j,k];cases v<;>exact f
 .cases h
theorem Pk{v b:Bool}(a:b=v)(e:pkB v o env=some (d,b,x))(k:WO P h0 N all l (up env d x) H Q)(hg:Qp all o env true:=by exact rfl)(hN:Nat.blt d N=true:=by exact rfl):WO P h0 N all (o::l) env H Q:=
 QK hg (QmK (P:=P) (H:=H) e a).1 hN (QmK e a).2 k
def fpB(o:Oper)(env:Env):Option (Nat×Nat×Nat×Nat×Nat):=
 match o.dst,o.op with
 |some d,.fieldAddr T x f=>match opB env x with
  |.mk (.ptr i p)=>some (d,T,f,i,p)
  |_=>none
 |_,_=>none
theorem Qhu{T f off n i p:Nat}(a:Q1 P T f off n)(h:fpB o env=some (d,T,f,i,p)):o.dst=some d/\OpV P o env H (.ptr i (p+off)):=by
 unfold fpB at h;split at h
 .rename_i e g;split at h
  .rename_i b;cases h;exact⟨e,YB a g (QE b)⟩
  .cases h
 .cases h
theorem Fp{T f off n i p:Nat}(a:Q1 P T f off n)(e:fpB o env=some (d,T,f,i,p))(k:WO P h0 N all l (up env d (.ptr i (p+off))) H Q)(hg:Qp all o env true:=by exact rfl)(hN:Nat.blt d N=true:=by exact rfl):WO P h0 N all (o::l) env H Q:=
 QK hg (Qhu (H:=H) a e).1 hN (Qhu a e).2 k
theorem Fpg{T f off n i p:Nat}(hg:Qp all o env true)(a:Q1 P T f off n)(e:fpB o env=some (d,T,f,i,p))(k:WO P h0 N all l (up env d (.ptr i (p+off))) H Q)(b:Nat.blt d N=true:=by exact rfl):WO P h0 N all (o::l) env H Q:=
 QK hg (Qhu (H:=H) a e).1 b (Qhu a e).2 k
inductive Lx where
 |mk (l:List A)
def QfI:Nat->List A->Lx
 |0,l=>.mk l
 |n+1,_::r=>QfI n r
 |_+1,[]=>.mk []
theorem Qdc:∀{n:Nat} {l r:List A},QfI n l=.mk r->l.drop n=r
 |0,l,r,h=>by cases h;rfl
 |n+1,a::l,r,h=>by rw[List.drop_succ_cons];exact Qdc h
 |n+1,[],r,h=>by cases h;rfl
def frB(off:Nat)(o:Oper)(env:Env):Option (Nat×Nat×Nat×List A):=
 match o.dst,o.op with
 |some d,.fieldAddr T x f=>match opB env x with
  |.mk (.rp cs)=>match QfI off cs with
   |.mk r=>some (d,T,f,r)
  |_=>none
 |_,_=>none
theorem Qm8{T f off n:Nat}{r:List A}(j:Q1 P T f off n)(h:frB off o env=some (d,T,f,r)):o.dst=some d/\OpV P o env H (.rp r):=by
 unfold frB at h;split at h
 .rename_i g e;split at h
  .rename_i i b;cases a:QfI off i with|mk r'=>rw[a]at h;cases h;exact⟨g,Qu j e (QE b) (Qdc a)⟩
  .cases h
 .cases h
theorem Fr{T f off n:Nat}{r:List A}(a:Q1 P T f off n)(e:frB off o env=some (d,T,f,r))(k:WO P h0 N all l (up env d (.rp r)) H Q)(hg:Qp all o env true:=by exact rfl)(hN:Nat.blt d N=true:=by exact rfl):WO P h0 N all (o::l) env H Q:=
 QK hg (Qm8 (H:=H) a e).1 hN (Qm8 a e).2 k
def ctB:Option Blk->Nat->Option A
 |some (.cells _ cs),off=>Y3 cs off
 |_,_=>none
def lvB(H:Qc):Bx->Option A
 |.mk (.ptr i off)=>ctB (Y3 H i) off
 |.mk (.rp (a::_))=>some a
 |_=>none
def pr3(d t:Nat):Option A->Option (Nat×Nat×A)
 |some a=>some (d,t,a)
 |none=>none
def ldB(o:Oper)(env:Env)(H:Qc):Option (Nat×Nat×A):=
 match o.dst,o.op with
 |some d,.load t x=>pr3 d t (lvB H (opB env x))
 |_,_=>none
theorem Qhp{t:Nat}(l:∀w,(isAgg t).run P w=.ok false w)(h:ldB o env H=some (d,t,x)):o.dst=some d/\OpV P o env H x:=by
 unfold ldB at h;split at h
 .rename_i q p y n k;cases e:lvB H (opB env y)with
  |none=>rw[e]at h;cases h
  |some a=>
   rw[e]at h;cases h;refine⟨n,?_⟩;unfold lvB at e;split at e
   .rename_i i b j;unfold ctB at e;split at e
    .rename_i b s T0 T cs q4;rw[QaD]at e q4;obtain⟨f,m⟩:∃f,cs.drop b=x::f:=by
      have g:=(XN.1 e).1;refine⟨cs.drop (b+1),?_⟩;rw[Xr g,(XN.1 e).2]
     exact OpV.load k l (QE j) (Pts.cells q4 m)
    .cases e
   .rename_i a r j;cases e;exact OpV.load k l (QE j) Pts.rp
   .cases e
 .cases h
theorem Ld{t:Nat}(a:∀w,(isAgg t).run P w=.ok false w)(e:ldB o env H=some (d,t,x))(k:WO P h0 N all l (up env d x) H Q)(hg:Qp all o env true:=by exact rfl)(hN:Nat.blt d N=true:=by exact rfl):WO P h0 N all (o::l) env H Q:=
 QK hg (Qhp a e).1 hN (Qhp a e).2 k
theorem Ldg{t:Nat}(hg:Qp all o env true)(a:∀w,(isAgg t).run P w=.ok false w)(e:ldB o env H=some (d,t,x))(k:WO P h0 N all l (up env d x) H Q)(b:Nat.blt d N=true:=by exact rfl):WO P h0 N all (o::l) env H Q:=
 QK hg (Qhp a e).1 b (Qhp a e).2 k
def ixB(o:Oper)(env:Env):Option (Nat×Nat×Nat×List (List A)×IntKind×Int):=
 match o.dst,o.op with
 |some d,.indexAddr t x y=>match opB env x,opB env y with
  |.mk (.rsl k es),.mk (.int kk i)=>some (d,t,k,es,kk,i)
  |_,_=>none
 |_,_=>none
theorem Ix{α:Type}{e:α->List A}{t et k:Nat}{L:List α}{b:IntKind}{i:Int}{v:α}(h:idx L i=some v)(j:∀w,(underlying t).run P w=.ok (.slice et) w)(n:∀w,(sizeOf et).run P w=.ok k w)
  (q:ixB o env=some (d,t,k,L.map e,b,i))(k:WO P h0 N all l (up env d (.rp (e v))) H Q)(hg:Qp all o env true:=by exact rfl)(hN:Nat.blt d N=true:=by exact rfl):WO P h0 N all (o::l) env H Q:=by
 unfold ixB at q;split at q
 .rename_i p m;split at q
  .rename_i g a;simp only[Option.some.injEq,Prod.mk.injEq]at q;obtain⟨rfl,rfl,rfl,f,rfl,rfl⟩:=q;exact QK hg p hN (QeG h j n m (by rw[QE g,f]) (QE a)) k
  .cases q
 .cases q
def lnB(o:Oper)(env:Env):Option (Nat×Nat×Bx):=
 match o.dst,o.op with
 |some d,.call c=>match c with
  |{callee:=.builtin .len,args:=⟨[x]⟩,argTypes:=⟨[t]⟩}=>some (d,t,opB env x)
  |_=>none
 |_,_=>none
theorem QpM{t:Nat}{b:Bx}(q:lnB o env=some (d,t,b)):∃x,o.dst=some d/\o.op=.call {callee:=.builtin .len,args:= #[x],argTypes:= #[t]}/\opB env x=b:=by
 unfold lnB at q;split at q
 .rename_i a e;split at q
  .cases q;exact⟨_,a,e,rfl⟩
  .cases q
 .cases q
theorem LnM{α:Type}{e:α->List A}{t et k:Nat}{L:List α}(g:∀w,(underlying t).run P w=.ok (.slice et) w)(q:lnB o env=some (d,t,.mk (.rsl k (L.map e))))
  (k:WO P h0 N all l (up env d (.int .i64 L.length)) H Q)(hg:Qp all o env true:=by exact rfl)(hN:Nat.blt d N=true:=by exact rfl):WO P h0 N all (o::l) env H Q:=by
 obtain⟨x,a,f,b⟩:=QpM q;exact QK hg a hN (QnP g f rfl (QE b)) k
end
section
variable {P:Program} {h0 N:Nat} {all:Array Oper} {env env':Env} {H H':Qc} {Q:QA} {c c':Code}
theorem Nx(h:TC P h0 N c env H Q):WO P h0 N all [] env H (Seq P h0 N c Q):=WO.nil (Qmw h)
theorem Rg{id:Nat}{l:List Oper}(h:WO P h0 N l.toArray l env H (Seq P h0 N c Q)):TC P h0 N (.seq (.region id l.toArray false) c) env H Q:=TC.seq (TC.region h)
theorem SkN(h:TC P h0 N c env H Q):TC P h0 N .skip env H (Seq P h0 N c Q):=TC.skip (Qmw h)
theorem ExX{id:Nat}(h:Q (.exit id) env H):TC P h0 N (.exit id) env H (Seq P h0 N c Q):=TC.exit (seqX h)
theorem Oi{α:Type}{x y:α}(h:some x=some y):x=y:=X2 h
theorem Bd{α β:Type}{x:Option α}{f:α->Option β}{r:β}{G:Prop}(h:x.bind f=some r)(k:∀a,x=some a->f a=some r->G):G:=by
 obtain⟨a,d,b⟩:=bnd h;exact k a d b
theorem If{α:Type}{c:Bool}{x y:Option α}{r:α}{G:Prop}(h:(bif c then x else y)=some r)(t:c=true->x=some r->G)(e:c=false->y=some r->G):G:=by
 cases c with
 |true=>exact t rfl h
 |false=>exact e rfl h
theorem Cn{α:Type}{x:Operand}{t:Bool}{p q:Option α}{r:α}(hx:opB env x=.mk (.bool t))(h:(bif t then p else q)=some r)(ht:t=true->p=some r->TC P h0 N c env H Q)(hf:t=false->q=some r->TC P h0 N c' env H Q):TC P h0 N (.cond x c c') env H Q:=
 TC.cond (QE hx) (λe=>ht e (ifT e h)) (λe=>hf e (ifF e h))
theorem YH{α:Type}{x:Operand}{t:Bool}{p q:Option α}{r:α}(hx:opB env x=.mk (.bool t))(h:(bif t then p else q)=some r)(hf:t=false->q=some r->TC P h0 N c' env H Q)(ht:t=true->p=some r->TC P h0 N c env H Q):TC P h0 N (.cond x c c') env H Q:=
 TC.cond (QE hx) (λe=>ht e (ifT e h)) (λe=>hf e (ifF e h))
theorem Lr(π:List Nat)(a:π.take h0=List.range h0:=by exact rfl)(hH:π.map (λp=>H[p]?)=(H'.map (QW (rho π H.length))).map some:=by exact rfl)(hπ:π.Nodup:=by decide)
  (hE:Qel (rho π H.length) env env':=by(repeat' (first|exact trivial|refine⟨rfl,?_⟩))):Le h0 env H env' H':=QnV π a hH hπ hE
end
end Go.Sw
namespace Go.Sw
def Ev{α:Type}(f:Nat->Option α)(v:α):Prop:=∃N,∀n,N<=n->f n=some v
section
variable {α β:Type} {f g:Nat->Option α} {v w:α}
theorem Qa(v:α):Ev (λ_=>some v) v:=⟨0,λ_ _=>rfl⟩
theorem Ev.const{o:Option α}(h:o=some v):Ev (λ_=>o) v:=⟨0,λ_ _=>h⟩
theorem Ev.bind{k:Nat->α->Option β}{b:β}(h:Ev f v)(a:Ev (λn=>k n v) b):Ev (λn=>(f n).bind (k n)) b:=by
 obtain⟨N,h⟩:=h;obtain⟨M,a⟩:=a;exact⟨max N M,λn d=>by show(f n).bind (k n)=some b;rw[h n (by omega),XL];exact a n (by omega)⟩
theorem JK{o:Option α}{k:Nat->α->Option β}{b:β}(h:o=some v)(hk:Ev (λn=>k n v) b):Ev (λn=>o.bind (k n)) b:=Ev.bind (Ev.const h) hk
theorem QbI{c:Bool}(a:c=true->Ev f v)(b:c=false->Ev g w):Ev (λn=>bif c then f n else g n) (bif c then v else w):=by
 cases c with
 |true=>exact a rfl
 |false=>exact b rfl
theorem Qk8(h:Ev f v):Ev (λn=>bif true then f n else g n) v:=h
theorem QP(h:Ev g v):Ev (λn=>bif false then f n else g n) v:=h
theorem Ev.and{c d:Bool}{h:Nat->Option Bool}(a:c=true->Ev h d):Ev (λn=>bif c then h n else some false) (c&&d):=by
 cases c with
 |true=>exact a rfl
 |false=>exact Qa _
theorem Ev.or{c d:Bool}{h:Nat->Option Bool}(a:c=false->Ev h d):Ev (λn=>bif c then some true else h n) (c||d):=by
 cases c with
 |true=>exact Qa _
 |false=>exact a rfl
theorem Ev.eq(h:Ev f v)(e:v=w):Ev f w:=e▸h
theorem Jc(h:Ev f v)(e:∀n,g n=f n):Ev g v:=by
 obtain⟨N,h⟩:=h;exact⟨N,λn a=>by rw[e];exact h n a⟩
theorem Yb(h:Ev (λn=>f (n+1)) v):Ev f v:=by
 obtain⟨N,h⟩:=h;refine⟨N+1,λn a=>?_⟩;obtain⟨m,rfl⟩:∃m,n=m+1:=⟨n-1,by omega⟩;exact h m (by omega)
theorem Ev.ex(h:Ev f v):∃n,f n=some v:=let⟨N,h⟩:=h;⟨N,h N (XV _)⟩
theorem QhV(h:Ev f v)(k:Ev f w):v=w:=by
 obtain⟨N,h⟩:=h;obtain⟨M,k⟩:=k;have a:=h (max N M) (by omega);rw[k (max N M) (by omega)]at a;exact(X2 a).symm
theorem Ev.all{k:Nat}{F:Nat->Nat->Option α}{V:Nat->α}(h:∀i,i<k->Ev (F i) (V i)):∃N,∀n,N<=n->∀i,i<k->F i n=some (V i):=by
 induction k with
 |zero=>exact⟨0,λn _ i a=>absurd a (Xn _)⟩
 |succ k e=>
  obtain⟨N,b⟩:=e λi a=>h i (by omega);obtain⟨M,d⟩:=h k (by omega);refine⟨max N M,λn f i a=>?_⟩;rcases Xp.1 a with q|rfl
  .exact b n (by omega) i q
  .exact d n (by omega)
end
section
variable {S B α:Type} {step:Nat->S->Option (Ctl S B)}
theorem Ev.iter{s0:S}(st:Nat->S)(k:Nat){b:B}(h0:st 0=s0)(e:∀i,i<k->Ev (λn=>step n (st i)) (.cont (st (i+1))))(a:Ev (λn=>step n (st k)) (.done b)):
  Ev (λn=>Go.Sw.iter (step n) n s0) b:=by
 obtain⟨N,g⟩:=Ev.all e;obtain⟨M,d⟩:=a;exact⟨max (max N M) (k+1),λn h=>Qm0 s0 st b k h0 (λi f=>g n (by omega) i f) (d n (by omega)) n (by omega)⟩
theorem Qcj{step:S->Option (Ctl S B)}{s:S}{b:B}(m:Nat)(h:Go.Sw.iter step m s=some b):Ev (λn=>Go.Sw.iter step n s) b:=by
 have mono:∀m s,Go.Sw.iter step m s=some b->∀n,m<=n->Go.Sw.iter step n s=some b:=by
  intro m
  induction m with
  |zero=>intro s h;cases h
  |succ m g=>
   intro s h n d;obtain⟨a,rfl⟩:∃a,n=a+1:=⟨n-1,by omega⟩;simp only[Go.Sw.iter]at h⊢;cases e:step s with
   |none=>rw[e]at h;cases h
   |some c=>
    rw[e]at h;cases c with
    |cont f=>exact g f h a (by omega)
    |done i=>exact h
 exact⟨m,λn d=>mono m s h n d⟩
structure At (l:List α) (i:Nat) (x:α):Prop where
 get:l[i]?=some x
 lt:decide ((i:Int)<(l.length:Int))=true
 ix:idx l (i:Int)=some x
 nx:IntKind.i64.wrap ((i:Int)+1)=((i+1:Nat):Int)
theorem JL{l:List α}{i:Nat}{x:α}(hl:l.length<=4611686018427387904)(h:l[i]?=some x):At l i x:=by
 have a:=(XN.1 h).1;exact⟨h,Vw (by omega),YR h,Q8 (by omega)⟩
theorem At.mem{l:List α}{i:Nat}{x:α}(h:At l i x):x∈l:=VJ h.get
theorem At.lt'{l:List α}{i:Nat}{x:α}(h:At l i x):i<l.length:=(XN.1 h.get).1
theorem At.take{l:List α}{i:Nat}{x:α}(h:At l i x):l.take (i+1)=l.take i++[x]:=by
 rw[List.take_add_one,h.get];rfl
theorem YU(l:List α):decide ((l.length:Int)<(l.length:Int))=false:=Vz (by omega)
theorem Jb{s0:S}(l:List α)(q:α->Bool)(st:Nat->S)(s b:B)(hl:l.length<=4611686018427387904)(h0:st 0=s0)
  (r:∀i x,At l i x->q x=false->Ev (λn=>step n (st i)) (.cont (st (i+1))))
  (d:∀i x,At l i x->q x=true->Ev (λn=>step n (st i)) (.done s))
  (E:Ev (λn=>step n (st l.length)) (.done b)):Ev (λn=>Go.Sw.iter (step n) n s0) (bif l.any q then s else b):=by
 have p:∀k,k<=l.length->(∀i x,l[i]?=some x->i<k->q x=false)\/ ∃i x,l[i]?=some x/\i<k/\q x=true/\ ∀j y,l[j]?=some y->j<i->q y=false:=by
  intro k
  induction k with
  |zero=>intro _;exact .inl λi x _ a=>absurd a (Xn _)
  |succ k G=>
   intro H;rcases G (by omega)with h|⟨i,x,m,F,g⟩
   .have t:l[k]?=some l[k]:=XM (by omega);cases e:q l[k]with
    |true=>exact .inr ⟨k,_,t,Xo _,e,h⟩
    |false=>
     refine .inl λi x d a=>?_;rcases Xp.1 a with z|rfl
     .exact h i x d z
     .rw[t]at d;cases d;exact e
   .exact .inr ⟨i,x,m,by omega,g⟩
 rcases p l.length (XV _)with h|⟨i,x,m,F,g,w⟩
 .have:l.any q=false:=by
   rw[VO];intro e;obtain⟨x,d,e⟩:=Xv.1 e;obtain⟨i,a,rfl⟩:=List.getElem_of_mem d;rw[h i _ (XM a) a]at e;cases e
  rw[this];exact Ev.iter st l.length h0 (λi a=>r i _ (JL hl (XM a)) (h i _ (XM a) a)) E
 .have:l.any q=true:=Xv.2 ⟨x,VJ m,g⟩;rw[this];refine Ev.iter st i h0 (λj u=>?_) (d i x (JL hl m) g);have f:l[j]?=some l[j]:=XM (by omega);exact r j _ (JL hl f) (w j _ f u)
theorem Yp{β:Type}{s0:S}(l:List α)(g:β->α->β)(b:β)(st:β->Nat->S)(d:β->B)(hl:l.length<=4611686018427387904)(h0:st b 0=s0)
  (h:∀i x a,At l i x->a=(l.take i).foldl g b->Ev (λn=>step n (st a i)) (.cont (st (g a x) (i+1))))
  (f:Ev (λn=>step n (st (l.foldl g b) l.length)) (.done (d (l.foldl g b)))):Ev (λn=>Go.Sw.iter (step n) n s0) (d (l.foldl g b)):=by
 refine Ev.iter (λi=>st ((l.take i).foldl g b) i) l.length (by simpa using h0) (λi j=>?_) (by simpa using f);have e:=JL (x:=l[i]) hl (XM j);have:=h i _ _ e rfl;rw[e.take,XE];exact this
theorem Ev.contains(l:List α)(q:α->Bool)(g:Nat->α->Option Bool)(hl:l.length<=4611686018427387904)(hg:∀x∈l,Ev (λn=>g n x) (q x)):
  Ev (λn=>(((Go.Sw.iter (λs:Int=>bif decide (s<(l.length:Int))then(idx l s).bind λx=>(g n x).bind λr=>(bif r then some (Ctl.done (Ctl.done s))else some (Ctl.cont (IntKind.i64.wrap (s+1))))else some (Ctl.done (Ctl.cont ()))) n (0:Int):Option (Ctl Unit Int)).bind λb=>
   match b with
   |.cont _=>some (-1)
   |.done s=>some s):Option Int).bind λr=>some (decide (0<=r))) (l.any q):=by
 cases e:l.any q with
 |false=>
  refine Ev.bind (v:=(-1:Int)) (Ev.bind (v:=Ctl.cont ()) (Ev.iter (λi=>(i:Int)) l.length rfl (λi f=>?_) ?_) (Qa _)) (Qa _)
  .have a:=JL (x:=l[i]) hl (XM f);simp only[a.lt,Vr,a.ix,XL];have F:q l[i]=false:=by
    rw[VO];intro h;rw[Xv.2 ⟨_,a.mem,h⟩]at e;cases e
   refine Ev.bind ((hg _ a.mem).eq F) ?_;simp only[Vs,a.nx];exact Qa _
  .simp only[YU,Vs];exact Qa _
 |true=>
  obtain⟨x,d,h⟩:=Xv.1 e;have p:∀k,k<=l.length->(∀(i:Nat) (x:α),l[i]?=some x->i<k->q x=false)\/ ∃(i:Nat) (x:α),l[i]?=some x/\i<k/\q x=true/\ ∀(j:Nat) (y:α),l[j]?=some y->j<i->q y=false:=by
   intro k
   induction k with
   |zero=>intro _;exact .inl λi x _ f=>absurd f (Xn _)
   |succ k G=>
    intro H;rcases G (by omega)with h|⟨i,x,u,E,t⟩
    .have hg:l[k]?=some l[k]:=XM (by omega);cases e:q l[k]with
     |true=>exact .inr ⟨k,_,hg,Xo _,e,h⟩
     |false=>
      refine .inl λi x d f=>?_;rcases Xp.1 f with z|rfl
      .exact h i x d z
      .rw[hg]at d;cases d;exact e
    .exact .inr ⟨i,x,u,by omega,t⟩
  rcases p l.length (XV _)with w|⟨i,x,u,E,t,B⟩
  .obtain⟨j,m,rfl⟩:=List.getElem_of_mem d;rw[w j _ (XM m) m]at h;cases h
  .refine Ev.bind (v:=(i:Int)) (Ev.bind (v:=Ctl.done (i:Int)) (Ev.iter (λi=>(i:Int)) i rfl (λj m=>?_) ?_) (Qa _)) ?_
   .have a:=JL (x:=l[j]) hl (XM (by omega));simp only[a.lt,Vr,a.ix,XL];refine Ev.bind ((hg _ a.mem).eq (B j _ a.get m)) ?_;simp only[Vs,a.nx];exact Qa _
   .have a:=JL hl u;simp only[a.lt,Vr,a.ix,XL];refine Ev.bind ((hg _ a.mem).eq t) ?_;exact Qa _
   .rw[Vw (by omega)];exact Qa _
end
section
variable {S B α:Type} {step:Nat->S->Option (Ctl S B)}
theorem QhW{s0:S}(st:Nat->S)(k:Nat)(R:Nat->B)(h0:st 0=s0)(f:∀i,i<k->(Ev (λn=>step n (st i)) (.cont (st (i+1)))/\R i=R (i+1))\/Ev (λn=>step n (st i)) (.done (R i)))
  (l:Ev (λn=>step n (st k)) (.done (R k))):Ev (λn=>Go.Sw.iter (step n) n s0) (R 0):=by
 have d:∀m,m<=k->(∀i,i<m->Ev (λn=>step n (st i)) (.cont (st (i+1)))/\R i=R (i+1))\/ ∃j,j<m/\(∀i,i<j->Ev (λn=>step n (st i)) (.cont (st (i+1)))/\R i=R (i+1))/\Ev (λn=>step n (st j)) (.done (R j)):=by
  intro m
  induction m with
  |zero=>intro _;exact .inl λi a=>absurd a (Xn _)
  |succ m e=>
   intro r;rcases e (by omega)with h|⟨j,p,b⟩
   .rcases f m (by omega)with q|q
    .refine .inl λi a=>?_;rcases Xp.1 a with z|rfl
     .exact h i z
     .exact q
    .exact .inr ⟨m,Xo _,h,q⟩
   .exact .inr ⟨j,by omega,b⟩
 have same:∀m,(∀i,i<m->R i=R (i+1))->R 0=R m:=by
  intro m
  induction m with
  |zero=>intro _;rfl
  |succ m e=>intro h;exact(e λi a=>h i (by omega)).trans (h m (Xo _))
 rcases d k (XV _)with h|⟨j,p,b,g⟩
 .rw[same k λi a=>(h i a).2];exact Ev.iter st k h0 (λi a=>(h i a).1) l
 .rw[same j λi a=>(b i a).2];exact Ev.iter st j h0 (λi a=>(b i a).1) g
theorem At.drop{l:List α}{i:Nat}{x:α}(h:At l i x):l.drop i=x::l.drop (i+1):=by
 have:=h.lt';rw[Xr this,(XN.1 h.get).2]
theorem QbH{s0:S}(l:List α)(st:Nat->S)(R:Nat->B)(hl:l.length<=4611686018427387904)(h0:st 0=s0)
  (hc:∀i x,At l i x->(Ev (λn=>step n (st i)) (.cont (st (i+1)))/\R i=R (i+1))\/Ev (λn=>step n (st i)) (.done (R i)))
  (hd:Ev (λn=>step n (st l.length)) (.done (R l.length))):Ev (λn=>Go.Sw.iter (step n) n s0) (R 0):=
 QhW st l.length R h0 (λi hi=>hc i _ (JL hl (XM hi))) hd
end
section
variable {α β:Type} [DecidableEq α]
theorem QmT(k:α):Y1 ([]:List (α×β)) k=none:=rfl
theorem YY(p:α×β)(l:List (α×β))(k:α):Y1 (p::l) k=if p.1=k then some p.2 else Y1 l k:=by
 unfold Y1;by_cases h:p.1=k<;>simp[List.find?_cons,h]
theorem Qln(p:α×β)(l:List (α×β))(k:α)(v:β):Q5 (p::l) k v=if p.1=k then(p.1,v)::l.map (λq=>bif decide (q.1=k)then(q.1,v)else q)else p::Q5 l k v:=by
 unfold Q5;by_cases h:p.1=k
 .simp[h]
 .simp only[List.any_cons,h,decide_false,Bool.false_or,if_false,Vl,Vs];cases l.any λp=>decide (p.1=k)<;>simp
theorem QmU(l:List (α×β))(k a:α)(v:β)(h:a≠k):Y1 (l.map λq=>bif decide (q.1=k)then(q.1,v)else q) a=Y1 l a:=by
 induction l with
 |nil=>rfl
 |cons p l b=>
  rw[Vl,YY,YY,b];by_cases e:p.1=k
  .have:¬k=a:=λq=>h q.symm;simp[e,this]
  .simp[e]
theorem Qgt(l:List (α×β))(k a:α)(v:β):Y1 (Q5 l k v) a=if a=k then some v else Y1 l a:=by
 induction l with
 |nil=>
  show Y1 ([]++[(k,v)]) a=_;rw[Vj,YY];by_cases h:a=k
  .subst h;simp
  .rw[Vu λq=>h q.symm,Vu h]
 |cons p l b=>
  rw[Qln];by_cases e:p.1=k
  .rw[Vv e,YY,YY];by_cases h:a=k
   .subst h;simp[e]
   .have:p.1≠a:=λq=>h (q.symm.trans e);simp only[this,if_false,h];exact QmU l k a v h
  .rw[Vu e,YY,YY,b];by_cases h:p.1=a
   .rw[Vv h,Vu λq=>e (h.trans q),Vv h]
   .rw[Vu h,Vu h]
theorem Qgu(k:α)(z:β):Qx ([]:List (α×β)) k z=z:=rfl
theorem QcC(l:List (α×β))(k a:α)(v z:β):Qx (Q5 l k v) a z=if a=k then v else Qx l a z:=by
 unfold Qx;rw[Qgt];by_cases h:a=k<;>simp[h]
theorem QdE(l:List (α×β))(k:α)(v:β):(Q5 l k v).map (·.1)=if k∈l.map (·.1)then l.map (·.1)else l.map (·.1)++[k]:=by
 unfold Q5;have e:(l.any λp=>decide (p.1=k))=decide (k∈l.map (·.1)):=by
  rw[X0];simp only[Xv,Vt,Xf]
 rw[e];by_cases h:k∈l.map (·.1)
 .rw[Vw h,Vv h,Vr,List.map_map];apply List.map_congr_left;intro p _;simp only[Function.comp];cases decide (p.1=k)<;>rfl
 .rw[Vz h,Vu h,Vs,Xg];rfl
def Q3{γ:Type}(key:γ->α)(v:β)(l:List γ):List (α×β):=l.foldl (λm x=>Q5 m (key x) v) []
theorem QcZ{γ:Type}(a:γ->α)(v:β)(l:List γ)(x:γ):Q3 a v (l++[x])=Q5 (Q3 a v l) (a x) v:=by
 unfold Q3;rw[XE];rfl
theorem Qaq{γ:Type}(a:γ->α)(v z:β)(l:List γ)(k:α):Qx (Q3 a v l) k z=if k∈l.map a then v else z:=by
 have b:∀(l:List γ) (m:List (α×β)),Qx (l.foldl (λm x=>Q5 m (a x) v) m) k z=if k∈l.map a then v else Qx m k z:=by
  intro l
  induction l with
  |nil=>intro m;simp
  |cons x l d=>
   intro m;rw[XF,d,QcC];by_cases h:k∈l.map a
   .rw[Vv h,Vv (by simp only[Vl];exact X7 _ h)]
   .rw[Vu h];by_cases e:k=a x
    .rw[Vv e,Vv (by simp[e])]
    .rw[Vu e,Vu (by simp only[Vl,X8,not_or];exact⟨e,h⟩)]
 exact b l []
theorem Qco{γ:Type}(d:γ->α)(v:β)(l:List γ):(Q3 d v l).length<=l.length/\((Q3 d v l).length=l.length↔(l.map d).Nodup):=by
 have j:∀(l:List γ) (m:List (α×β)),(m.map (·.1)).Nodup->(l.foldl (λm x=>Q5 m (d x) v) m).length<=m.length+l.length/\((l.foldl (λm x=>Q5 m (d x) v) m).length=m.length+l.length↔(m.map (·.1)++l.map d).Nodup):=by
  intro l
  induction l with
  |nil=>intro m i;simpa using i
  |cons x l p=>
   intro m i;have g:=QdE m (d x) v;have f:(Q5 m (d x) v).length=((Q5 m (d x) v).map (·.1)).length:=by simp
   by_cases h:d x∈m.map (·.1)
   .rw[Vv h]at g;obtain⟨t,k⟩:=p (Q5 m (d x) v) (by rw[g];exact i);have e:(Q5 m (d x) v).length=m.length:=by rw[f,g];simp
    rw[XF];refine⟨by simp only[X3];omega,⟨λq=>?_,λq=>?_⟩⟩
    .simp only[X3]at q;omega
    .exfalso;have:=(List.nodup_append.1 q).2.2 _ h (d x) (by simp);exact this rfl
   .rw[Vu h]at g;have s:((Q5 m (d x) v).map (·.1)).Nodup:=by
     rw[g];refine List.nodup_append.2 ⟨i,by simp,?_⟩;intro a r b n e;simp only[VD]at n;exact h (by rw[<- n, <- e];exact r)
    obtain⟨t,k⟩:=p (Q5 m (d x) v) s;have e:(Q5 m (d x) v).length=m.length+1:=by rw[f,g];simp
    rw[XF];refine⟨by simp only[X3];omega,?_⟩;rw[g]at k;rw[show m.length+(x::l).length=(Q5 m (d x) v).length+l.length by rw[e];simp;omega,k];simp[Vk]
 have:=j l [] (by simp);simpa[Q3]using this
end
theorem Jp{α:Type}(l:List α)(p:α->Bool)(g:Nat->α->Option Bool)(hl:l.length<=4611686018427387904)(hg:∀x∈l,Ev (λn=>g n x) (p x)):
  Ev (λn=>((((Go.Sw.iter (λs:Int=>bif decide (s<(l.length:Int))then(idx l s).bind λx=>((g n x).bind λr1=>some (!r1)).bind λr=>(bif r then some (Ctl.done (Ctl.done s))else some (Ctl.cont (IntKind.i64.wrap (s+1))))else some (Ctl.done (Ctl.cont ()))) n (0:Int):Option (Ctl Unit Int)).bind λb=>
   match b with
   |.cont _=>some (-1)
   |.done s=>some s):Option Int).bind λr=>some (decide (0<=r)):Option Bool).bind λr=>some (!r)) (l.all p):=by
 refine Ev.bind (Ev.contains l (λx=> !p x) (λn x=>(g n x).bind λr1=>some (!r1)) hl λx a=>Ev.bind (hg x a) (Qa _)) ((Qa _).eq ?_);rw[List.not_any_eq_all_not];simp
def QhK{α κ:Type}[DecidableEq κ](ok:α->Bool)(key:α->κ):List κ->List α->Bool
 |_,[]=>true
 |seen,x::r=>ok x&& !seen.contains (key x)&&QhK ok key (seen++[key x]) r
theorem QhJ{α κ:Type}[DecidableEq κ](ok:α->Bool)(f:α->κ):∀(l:List α) (d:List κ),d.Nodup->QhK ok f d l=(l.all ok&&decide ((d++l.map f).Nodup))
 |[],d,h=>by simp[QhK,h]
 |x::r,d,h=>by
  simp only[QhK,List.all_cons,Vl];by_cases hk:f x∈d
  .have:¬(d++f x::r.map f).Nodup:=by
    intro q;exact(List.nodup_append.1 q).2.2 _ hk (f x) (by simp) rfl
   simp[hk,this]
  .have j:(d++[f x]).Nodup:=by
    refine List.nodup_append.2 ⟨h,by simp,?_⟩;intro a i b g e;simp only[VD]at g;exact hk (by rw[<- g, <- e];exact i)
   rw[QhJ ok f r _ j];have:(d.contains (f x))=false:=by simpa using hk
   rw[this];simp[Bool.and_assoc]
theorem Qn1{α κ B:Type}[DecidableEq κ]{step:Nat->Int->Option (Ctl Int B)}(l:List α)(ok:α->Bool)(a:α->κ)(f b:B)(hl:l.length<=4611686018427387904)
  (j:∀i x,At l i x->ok x=true->((l.take i).map a).contains (a x)=false->Ev (λn=>step n (i:Int)) (.cont ((i+1:Nat):Int)))
  (m:∀i x,At l i x->ok x=false->Ev (λn=>step n (i:Int)) (.done f))
  (p:∀i x,At l i x->ok x=true->((l.take i).map a).contains (a x)=true->Ev (λn=>step n (i:Int)) (.done f))
  (k:Ev (λn=>step n (l.length:Int)) (.done b)):Ev (λn=>Go.Sw.iter (step n) n 0) (bif l.all ok&&decide ((l.map a).Nodup)then b else f):=by
 have e:=QhJ ok a l [] (by simp);rw[Vj]at e;rw[<- e];refine QbH l (λi=>(i:Int)) (λi=>bif QhK ok a ((l.take i).map a) (l.drop i)then b else f) hl rfl (λi x d=>?_) ?_
 .rw[d.drop];simp only[QhK];rw[show(l.take i).map a++[a x]=(l.take (i+1)).map a by rw[d.take];simp];cases g:ok x with
  |false=>exact .inr (by simpa using m i x d g)
  |true=>
   cases h:((l.take i).map a).contains (a x)with
   |true=>exact .inr (by simpa using p i x d g h)
   |false=>exact .inl ⟨j i x d g h,by simp⟩
 .rw[Xt];exact k
theorem Qjq{α κ B:Type}[DecidableEq κ]{step:Nat->Int->Option (Ctl Int B)}(l:List α)(i:Nat)(a:α->κ)(k:κ)(r b:B)(hl:l.length<=4611686018427387904)(hi:i<=l.length)
  (s:∀j y,j<i->At l j y->decide (a y=k)=false->Ev (λn=>step n (j:Int)) (.cont ((j+1:Nat):Int)))
  (u:∀j y,j<i->At l j y->decide (a y=k)=true->Ev (λn=>step n (j:Int)) (.done r))
  (t:Ev (λn=>step n (i:Int)) (.done b)):Ev (λn=>Go.Sw.iter (step n) n 0) (bif ((l.take i).map a).contains k then r else b):=by
 have e:((l.take i).map a).contains k=(l.take i).any λy=>decide (a y=k):=by
  rw[X0];simp only[List.contains_eq_mem,Vt,Xf,Xv]
 rw[e];have g:(l.take i).length=i:=by simp;omega
 have h:∀j y,At (l.take i) j y->j<i/\At l j y:=by
  intro j y f;have w:=f.lt';have d:=f.get;rw[List.getElem?_take]at d;split at d
  .exact⟨by omega,JL hl d⟩
  .cases d
 refine Jb (l.take i) (λy=>decide (a y=k)) (λi=>(i:Int)) _ _ (by omega) rfl (λj y f p=>?_) (λj y f p=>?_) ?_
 .obtain⟨q,m⟩:=h j y f;exact s j y q m p
 .obtain⟨q,m⟩:=h j y f;exact u j y q m p
 .rw[g];exact t
theorem QaF{α κ β:Type}[DecidableEq κ]{step:Nat->List (κ×β)×Int->Option (Ctl (List (κ×β)×Int) (List (κ×β)))}(l:List α)(key:α->κ)(v:β)(hl:l.length<=4611686018427387904)
  (hc:∀i x m,At l i x->Ev (λn=>step n (m,(i:Int))) (.cont (Q5 m (key x) v,((i+1:Nat):Int))))
  (hd:∀m,Ev (λn=>step n (m,(l.length:Int))) (.done m)):Ev (λn=>Go.Sw.iter (step n) n ([],0)) (Q3 key v l):=
 Yp l (λm x=>Q5 m (key x) v) [] (λm i=>(m,(i:Int))) (λm=>m) hl rfl (λi x m ha _=>hc i x m ha) (hd _)
theorem Ev.shift{α:Type}{f:Nat->Option α}{v:α}(h:Ev f v):Ev (λn=>f (n+1)) v:=by
 obtain⟨N,h⟩:=h;exact⟨N,λn a=>h (n+1) (by omega)⟩
def EvI{S B:Type}(step:Nat->S->Option (Ctl S B))(s:S)(b:B):Prop:=∃N,∀n k,N<=n->N<=k->Go.Sw.iter (step n) k s=some b
section
variable {S B:Type} {step:Nat->S->Option (Ctl S B)} {s s':S} {b:B}
theorem EvI.done(h:Ev (λn=>step n s) (.done b)):EvI step s b:=by
 obtain⟨N,h⟩:=h;refine⟨N+1,λn k d e=>?_⟩;obtain⟨a,rfl⟩:∃a,k=a+1:=⟨k-1,by omega⟩;have:=h n (by omega);simp only[Go.Sw.iter,this]
theorem EvI.cont(h:Ev (λn=>step n s) (.cont s'))(q:EvI step s' b):EvI step s b:=by
 obtain⟨N,h⟩:=h;obtain⟨M,q⟩:=q;refine⟨max N M+1,λn k d e=>?_⟩;obtain⟨a,rfl⟩:∃a,k=a+1:=⟨k-1,by omega⟩;have:=h n (by omega);simp only[Go.Sw.iter,this];exact q n a (by omega) (by omega)
theorem EvI.ev(h:EvI step s b):Ev (λn=>Go.Sw.iter (step n) n s) b:=by
 obtain⟨N,h⟩:=h;exact⟨N,λn a=>h n n a a⟩
theorem EvI.eq{b':B}(h:EvI step s b)(e:b=b'):EvI step s b':=e▸h
end
theorem Qt{α:Type}{l r:List α}{i:Nat}{x:α}(hl:l.length<=4611686018427387904)(h:l.drop i=x::r):At l i x/\l.drop (i+1)=r:=by
 have a:l[i]?=some x:=by
  have:=congrArg (λl=>l[0]?) h;simpa using this
 refine⟨JL hl a,?_⟩;have:=(JL hl a).drop;rw[h]at this;exact(List.cons.inj this).2.symm
theorem QX{α:Type}{l:List α}{i:Nat}(h:l.drop i=[])(hi:i<=l.length):decide ((i:Int)<(l.length:Int))=false:=by
 have:=Xs.1 h;exact Vz (by omega)
end Go.Sw
namespace Go.Sw
theorem Z.{u}{α:Sort u}{a:α}:a=a:=rfl
section
variable {P:Program} {h0 N:Nat} {all:Array Oper} {env:Env} {H H':Qc} {Q:QA} {l:List Oper} {o:Oper} {d:Nat}
theorem aV(x:A)(H:Qc){x':A}{H':Qc}(a:x'=x)(hH:H'=H)(k:WO P h0 N all l (up env d x) H Q):WO P h0 N all l (up env d x') H' Q:=by subst a;subst hH;exact k
theorem vX(x:A)(a:OpV P o env H x)(k:WO P h0 N all l (up env d x) H Q)(hg:Qp all o env true:=by exact rfl)(hd:o.dst=some d:=by exact rfl)(hN:Nat.blt d N=true:=by exact rfl):WO P h0 N all (o::l) env H Q:=
 QK hg hd hN a k
theorem Wp:WO P h0 N all [] env H (Ja env H):=WO.nil Ja.mk
end
end Go.Sw
namespace Go.Sw
section
variable {P:Program} {o:Oper} {env:Env} {H:Qc}
theorem QoT{ro:Nat->Prop}{σ:Sig}{w:World}(g:GP w){b:Nat}{zs:List Int}(h:QjT[b]?=some zs):∀(i:Nat),CR ro σ w b ((zs.drop i).map (A.int .i64)) i:=by
 intro i;generalize hl:zs.drop i=l
 induction l generalizing i with
 |nil=>trivial
 |cons z l e=>
  have d:zs[i]?=some z:=by
   have:=congrArg (·[0]?) hl;simpa using this
  have a:zs.drop (i+1)=l:=by
   rw[<- List.drop_drop,hl];rfl
  exact⟨⟨_,g.tab b zs h i z d,by simp[Qn],rfl⟩,e (i+1) a⟩
theorem QgW{t n g:Nat}{zs:List Int}(e:∀w,(isAgg t).run P w=.ok true w)(f:∀w,(sizeOf t).run P w=.ok n w)(hg:QjT[g]?=some zs)(hl:zs.length=n)(i:o.op=.load t (.global g):=by exact rfl):
  OpV P o env H (.agg (zs.map (A.int .i64))):=by
 intro k ro σ N a w r;obtain⟨l,j,_,d⟩:=YL (P:=P) (b:=g) (cs:=zs.map (A.int .i64)) (off:=0) 0 (by simpa using QoT (ro:=ro) (σ:=σ) r.sim.roOk.gp hg 0);have d:=d w #[] rfl;rw[X4,hl]at d;refine⟨.agg l.toArray,?_,l,rfl,j⟩;have h:a.eval (.global g)=.pointer (some ⟨g,0,none⟩):=rfl;generalize a.eval=ρ at*;simp[execOp,i,h,Instr.loadAt,Instr.sureAddr,loadVar,e,f,loadCells,d,go_sem]
end
end Go.Sw
namespace Go.Sw
open Go.Proofs
section
variable {P:Program}
def toV(agg:Bool)(l:List Value):Value:=bif agg then .agg l.toArray else l.headD .nilFunc
structure Qmc (P:Program) (t:TypeId) (h k:Nat) (agg:Bool) (ok:List Value->Prop):Prop where
 len:∀l,ok l->l.length=k
 ia:∀w,(isAgg t).run P w=.ok agg w
 so:∀w,(sizeOf t).run P w=.ok k w
 eq:∀(w:World) (d:Nat) (l m:List Value),ok l->ok m->∃b:Bool,(Op.equalIn (d+h) t (toV agg l) (toV agg m)).run P w=.ok b w/\(b=true↔l=m)
structure Qn2 (P:Program) (fs:List Field) (h off k:Nat) (ok:List Value->Prop):Prop where
 len:∀l,ok l->l.length=k
 eq:∀(w:World) (d:Nat) (p q l m:List Value),p.length=off->q.length=off->ok l->ok m->∃b:Bool,(Op.eqFields (d+h) (p++l).toArray (q++m).toArray fs).run P w=.ok b w/\(b=true↔l=m)
theorem Qmc.int{t:TypeId}{k:IntKind}(b:P.underlying t=some (.int k))(e:∀w,(isAgg t).run P w=.ok false w)(a:∀w,(sizeOf t).run P w=.ok 1 w)(h:Nat):Qmc P t (h+1) 1 false (λl=>∃n:Int,l=[.int k n]):=by
 refine⟨?_,e,a,?_⟩
 .rintro _ ⟨n,rfl⟩;rfl
 .rintro w d _ _ ⟨n,rfl⟩ ⟨m,rfl⟩;exact⟨_,run_equalIn_int w (d+h) t k k n m b,by simp⟩
theorem Qmc.bool{t:TypeId}(b:P.underlying t=some .bool)(e:∀w,(isAgg t).run P w=.ok false w)(a:∀w,(sizeOf t).run P w=.ok 1 w)(h:Nat):Qmc P t (h+1) 1 false (λl=>∃n:Bool,l=[.bool n]):=by
 refine⟨?_,e,a,?_⟩
 .rintro _ ⟨n,rfl⟩;rfl
 .rintro w d _ _ ⟨n,rfl⟩ ⟨m,rfl⟩;exact⟨_,run_equalIn_bool' w (d+h) t n m b,by simp⟩
theorem Qn2.nil(h off:Nat):Qn2 P [] h off 0 (λl=>l=[]):=by
 refine⟨?_,?_⟩
 .rintro _ rfl;rfl
 .rintro w d p q _ _ _ _ rfl rfl;exact⟨true,by simp[Op.eqFields],by simp⟩
theorem Qij{t:TypeId}{k:Nat}{agg:Bool}{w:World}(b:∀w,(isAgg t).run P w=.ok agg w)(f:∀w,(sizeOf t).run P w=.ok k w)(p a d:List Value)(hl:a.length=k)(e:agg=false->k=1):
  (part t (p++(a++d)).toArray p.length).run P w=.ok (toV agg a) w:=by
 unfold part;cases agg with
 |true=>
  simp[b,f,go_sem,toV];rw[<- hl];simp[List.extract]
 |false=>
  have:=e rfl;subst this
  match a,hl with
  |[v],_=>simp[b,go_sem,toV]
theorem Qn2.cons{f:Field}{fs:List Field}{h off n G:Nat}{agg:Bool}{i k:List Value->Prop}(N:Nat.beq f.offset off=true)(O:f.name≠"_")(g:Qmc P f.type h n agg i)(F:agg=false->n=1)(E:Qn2 P fs h (off+n) G k):
  Qn2 P (f::fs) h off (n+G) (λl=>∃l1 l2,l=l1++l2/\i l1/\k l2):=by
 have t:f.offset=off:=XS N;refine⟨?_,?_⟩
 .rintro _ ⟨l1,l2,rfl,a,b⟩;rw[X5,g.len _ a,E.len _ b]
 .rintro w d p q _ _ u B ⟨l1,l2,rfl,m,Q⟩ ⟨j,s,rfl,r,L⟩;have z:=Qij (P:=P) (w:=w) g.ia g.so p l1 l2 (g.len _ m) F;have x:=Qij (P:=P) (w:=w) g.ia g.so q j s (g.len _ r) F;rw[u]at z;rw[B]at x;obtain⟨H,V,J⟩:=g.eq w d l1 j m r;obtain⟨R,y,T⟩:=E.eq w d (p++l1) (q++j) l2 s (by rw[X5,u,g.len _ m]) (by rw[X5,B,g.len _ r]) Q L;rw[Vk,Vk]at y;have M:l1.length=j.length:=by rw[g.len _ m,g.len _ r]
  refine⟨H&&R,?_,?_⟩
  .generalize(p++(l1++l2)).toArray=X at*;generalize(q++(j++s)).toArray=Y at*;cases H<;>simp[Op.eqFields,O,t,Vp,Result.andThen,z,x,V,y]
  .rw[XY,J,T];constructor
   .rintro⟨rfl,rfl⟩;rfl
   .intro e;exact List.append_inj e M
theorem Qmc.struct{t:TypeId}{h k:Nat}{ok:List Value->Prop}(p:P.underlying t=some (.struct (P.fieldsOf t)))(g:P.stoodInHeld t=false)(i:∀w,(isAgg t).run P w=.ok true w)(f:∀w,(sizeOf t).run P w=.ok k w)(e:Qn2 P (P.fieldsOf t).toList h 0 k ok):Qmc P t (h+1) k true ok:=by
 refine⟨e.len,i,f,λw d l m a b=>?_⟩;obtain⟨r,j,n⟩:=e.eq w d [] [] l m rfl rfl a b;refine⟨r,?_,n⟩;show(Op.equalIn (d+h+1) t (.agg l.toArray) (.agg m.toArray)).run P w=_;rw[run_equalIn_agg w (d+h) t _ _ p g];simpa using j
theorem QV{t:TypeId}{h k:Nat}{fs:Array Field}{ok:List Value->Prop}(a:P.underlying t=some (.struct fs))(d:P.stoodInHeld t=false)(f:∀w,(isAgg t).run P w=.ok true w)(b:∀w,(sizeOf t).run P w=.ok k w)(g:Qn2 P fs.toList h 0 k ok):Qmc P t (h+1) k true ok:=by
 have e:P.fieldsOf t=fs:=by simp[Program.fieldsOf,a]
 exact Qmc.struct (by rw[e];exact a) d f b (by rw[e];exact g)
structure EqD (P:Program) (t:TypeId) {α:Type} (cells:α->List A):Prop where
 scl:∀x,QeT (cells x)=true
 inj:∀x y,Y5 (cells x)=Y5 (cells y)->x=y
 guard:P.eqGuardType P.depth t=false
 eq:∀(w:World) x y,∃b:Bool,(Op.equalIn 10000 t (.agg (Y5 (cells x)).toArray) (.agg (Y5 (cells y)).toArray)).run P w=.ok b w/\(b=true↔Y5 (cells x)=Y5 (cells y))
theorem QoS{α:Type}{cells:α->List A}{t h k:Nat}{ok:List Value->Prop}(E:Qmc P t h k true ok)(d:Nat.ble h 10000=true)(a:∀x,ok (Y5 (cells x)))(b:∀x,QeT (cells x)=true)(hi:∀x y,Y5 (cells x)=Y5 (cells y)->x=y)(hg:P.eqGuardType P.depth t=false):EqD P t cells:=by
 refine⟨b,hi,hg,λw x y=>?_⟩;have:=E.eq w (10000-h) (Y5 (cells x)) (Y5 (cells y)) (a x) (a y)
 rwa [show 10000-h+h=10000 by have:=XT d;omega]at this
variable {o:Oper} {env:Env} {H:Qc}
theorem Ql4{α:Type}[DecidableEq α]{cells:α->List A}{t u:TypeId}{x y:Operand}{p q:α}(E:EqD P t cells)(k:opA env x=.agg (cells p))(z:opA env y=.agg (cells q))(n:o.op=.binOp .eql t x y u:=by exact rfl):OpV P o env H (.bool (p==q)):=by
 intro B F σ N a w r;have h:=Qd r x;have g:=Qd r y;rw[k]at h;rw[z]at g;have j:=VR.val (a:=.agg (cells p)) (E.scl p) h;have s:=VR.val (a:=.agg (cells q)) (E.scl q) g;obtain⟨b,l,i⟩:=E.eq w p q;have m:b=(p==q):=by
  rw[X0,i,VA];exact⟨E.inj p q,λe=>by rw[e]⟩
 refine⟨.bool (p==q),?_,rfl⟩;rw[<- m];generalize a.eval=ρ at*;have d:ρ x=.agg (Y5 (cells p)).toArray:=j;have f:ρ y=.agg (Y5 (cells q)).toArray:=s;simp[execOp,n,d,f,go_sem,run_eqGuard_agg _ _ _ _ _ _ _ E.guard,run_eql_struct,l]
end
end Go.Sw
namespace Go.Sw
structure QfO (g g':Nat->Prop) (W W':World):Prop where
 sub:∀b,g b->g' b
 new:∀b,g' b->g b\/W.heap.size<=b
 lt:∀b,g' b->b<W'.heap.size
 all:∀b,W.heap.size<=b->b<W'.heap.size->g' b
 keep:∀b,b<W.heap.size->¬g b->W'.heap[b]?=W.heap[b]?
 size:W.heap.size<=W'.heap.size
 shape:∀b x,W.shape? b=some x->W'.shape? b=some x
 os:W'.os=W.os
 tape:W'.tape=W.tape
 output:W'.output=W.output
 drawn:W.drawn<=W'.drawn
abbrev Jv(T:Type):=List T->(Nat->Prop)->(Nat->Prop)->World->Prop
structure Qph {T:Type} (J:Jv T):Prop where
 ev:∀rem q g W W' ro',J rem q g W->Qe g q W ro' W'->J rem q g W'
 up:∀rem q g g' W,J rem q g W->(∀b,g b->g' b)->(∀b,g' b->b<W.heap.size)->J rem q g' W
theorem Sim.round{fr g g' ro:Nat->Prop}{σ:Sig}{H:Qc}{W W':World}(s:Sim fr ro σ H W)(a:∀b,g b->fr b)(k:QfO g g' W W'):Sim (λb=>fr b\/g' b) ro σ H W'/\Qe (λb=>b<W.heap.size/\ ¬g b) ro W ro W':=by
 have e:∀b,ro b->W'.heap[b]?=W.heap[b]? :=λb q=>k.keep b (s.roLt b q) (λr=>s.roFr b q (a b r));have m:Ext ro σ W ro σ W':=by
  have ev:Qe (λ_=>False) ro W ro W':=⟨λ_ q=>q,e,λ_ q=>q.elim,k.size,k.shape,k.os,k.tape,k.output,k.drawn⟩;have:=ev.ext σ [];simpa using this
 refine⟨⟨s.len,s.roOk.to (λ_ q=>q) e (λb q=>Vh (s.roLt b q) k.size),λb q=>q.elim (λq=>Vh (s.frLt b q) k.size) (k.lt b),λb q r=>?_,λi b x h f u=>?_,s.inj,λi y x h f=>?_,
  s.hidTo (· = ·) QY k.size (λ_ _ _ _ _ _ _ q=>q) (λi b x c h f u F=>F.elim id λq=>(k.new c q).elim (a c) λl=>(by have:=(s.hid i b x c h f u).lt;omega)) λj d y p t G=>.inl ⟨j,y,rfl,p,t,id,λc q=>s.hidKeep p t (λz=>k.keep d (s.own j d y p t z).1 λr=>(s.own j d y p t z).2.2 (a d r)) e q⟩⟩,
  ⟨λ_ q=>q,e,λb q=>k.keep b q.1 q.2,k.size,k.shape,k.os,k.tape,k.output,k.drawn⟩⟩
 .rcases r with r|r
  .exact s.roFr b q r
  .rcases k.new b r with l|l
   .exact s.roFr b q (a b l)
   .have:=s.roLt b q;omega
 .obtain⟨B,E,n⟩:=s.own i b x h f u;refine⟨Vh B k.size,E,λr=>?_⟩;rcases r with r|r
  .exact n r
  .rcases k.new b r with l|l
   .exact n (a b l)
   .omega
 .refine(s.blk i y x h f).keep m ?_ ?_
  .rintro b rfl w;obtain⟨B,E,n⟩:=s.own i b x h f w;exact k.keep b B (λr=>n (a b r))
  .rintro b c rfl w;have q:=s.hid i b x c h f w;exact k.keep c q.lt (λr=>q.fr (a c r))
def Qp8{T:Type}(J Jx:Jv T)(g ri:Nat->Prop)(W1:World)(rem:List T):Ending->World->Prop:=λe W'=>
 ∃g' q',(∀b,q' b->ri b)/\QfO g g' W1 W'/\((e=.returned (.bool true)/\J rem q' g' W')\/(e=.returned (.bool false)/\Jx rem q' g' W'))
structure Ctx (T:Type) where
 l:Nat
 J:Jv T
 Jx:Jv T
 enc:T->List A
 nx:List T->T->List T->Prop
structure Ctx.ok {T:Type} (X:Ctx T) (P:Program):Prop where
 b:Qph X.J
 bx:Qph X.Jx
 round:∀l x rem q g ri W1 vs,X.nx l x rem->X.J l q g W1->(∀b,q b->ri b)->(∀b,ri b->b<W1.heap.size/\ ¬g b)->LR ri [] W1 (X.enc x) vs->YieldAt Fence.wide 0 P X.l vs.toArray W1 (Qp8 X.J X.Jx g ri W1 rem)
def Qjc{T:Type}(P:Program)(f:FuncId)(caps:List A)(H:Qc)(enc:T->List A)(nx:List T->T->List T->Prop)(xs:List T):Prop:=
 ∀(X:Ctx T),X.enc=enc->X.nx=nx->X.ok P->∀fr ro σ w capv q,Sim fr ro σ H w->(∀b,q b->ro b)->LR ro σ w caps capv->X.J xs q fr w->
  Calls P f ((Value.func (.yield X.l) #[] #[]::capv)).toArray w λe W'=>(∃v,e=.returned v)/\ ∃g q',(∀b,fr b->g b)/\((X.J [] q' g W')\/(∃rem,X.Jx rem q' g W'))
inductive YSt (T:Type) where
 |on (rem:List T)
 |off (rem:List T)
def Ctx.J'{T:Type}(X:Ctx T):YSt T->(Nat->Prop)->(Nat->Prop)->World->Prop
 |.on rem=>X.J rem
 |.off rem=>X.Jx rem
def Ctx.at{T:Type}(X:Ctx T)(st:YSt T)(g ro:Nat->Prop)(W:World):Prop:=∃q,(∀b,q b->ro b)/\X.J' st q g W
theorem Qe.roMono{fr ro ro0 ro':Nat->Prop}{w w':World}(h:Qe fr ro w ro' w')(s:∀b,ro0 b->ro b):Qe fr ro0 w ro' w':=
 ⟨λb q=>h.sub b (s b q),λb q=>h.keepRo b (s b q),h.keepFr,h.size,h.shape,h.os,h.tape,h.output,h.drawn⟩
theorem Ctx.ok.ev{T:Type}{X:Ctx T}{P:Program}(h:X.ok P){st:YSt T}{g ro ro':Nat->Prop}{W W':World}(a:X.at st g ro W)(he:Qe g ro W ro' W'):X.at st g ro' W':=by
 obtain⟨q,d,a⟩:=a;refine⟨q,λb z=>he.sub b (d b z),?_⟩;cases st with
 |on rem=>exact h.b.ev rem q g W W' ro' a (he.roMono d)
 |off rem=>exact h.bx.ev rem q g W W' ro' a (he.roMono d)
theorem Ctx.ok.up{T:Type}{X:Ctx T}{P:Program}(h:X.ok P){st:YSt T}{g g' ro:Nat->Prop}{W:World}(a:X.at st g ro W)(hg:∀b,g b->g' b)(hl:∀b,g' b->b<W.heap.size):X.at st g' ro W:=by
 obtain⟨q,d,a⟩:=a;refine⟨q,d,?_⟩;cases st with
 |on rem=>exact h.b.up rem q g g' W a hg hl
 |off rem=>exact h.bx.up rem q g g' W a hg hl
abbrev YJ(T:Type):=AEx->Env->Qc->YSt T->Prop
structure In (g fr:Nat->Prop) (ds:List Deferred):Prop where
 sub:∀b,g b->fr b
 beside:∀D,({target:=.collected D,args:= #[]}:Deferred)∈ds->¬g D
def Qdn{T:Type}(X:Ctx T)(h0:Nat)(fr ro:Nat->Prop)(σ:Sig)(w:World)(N:Nat)(ds:List Deferred)(Q:YJ T):Exit->Act->World->Prop:=
 λe a' w'=>∃x env' H' st ro' σ' fr' g',ExR e x/\Q x env' H' st/\Rel fr' ro' σ' H' env' N a' w'/\(X.at st g' ro' w'/\In g' fr' a'.defers)/\(∀b,ro b->ro' b)/\w.heap.size<=w'.heap.size/\σ'.take h0=σ.take h0/\Grow fr w ds fr' a'.defers
theorem Qdn.grow{T:Type}{X:Ctx T}{h0:Nat}{fr d ro a:Nat->Prop}{σ σ1:Sig}{w l:World}{N:Nat}{m f:List Deferred}{Q:YJ T}{e:Exit}{a':Act}{w':World}
  (h:Qdn X h0 d a σ1 l N f Q e a' w')(F:∀b,ro b->a b)(k:w.heap.size<=l.heap.size)(y:σ1.take h0=σ.take h0)(hg:Grow fr w m d f):Qdn X h0 fr ro σ w N m Q e a' w':=by
 obtain⟨x,g,H',B,i,σ',j,z,G,E,s,t,p,u,n,r⟩:=h;exact⟨x,g,H',B,i,σ',j,z,G,E,s,t,λb q=>p b (F b q),XX k u,n.trans y,hg.trans k r⟩
def TCy{T:Type}(X:Ctx T)(P:Program)(h0 N:Nat)(c:Code)(env:Env)(H:Qc)(st:YSt T)(Q:YJ T):Prop:=
 X.ok P->∀rd fr ro σ a w g,Rel fr ro σ H env N a w->X.at st g ro w/\In g fr a.defers->rd=none->c.wpIn (WF rd) 0 P (Qdn X h0 fr ro σ w N a.defers Q) a w
def WOy{T:Type}(X:Ctx T)(P:Program)(h0 N:Nat)(all:Array Oper)(l:List Oper)(env:Env)(H:Qc)(st:YSt T)(Q:YJ T):Prop:=
 X.ok P->∀rd fr ro σ a w g,Rel fr ro σ H env N a w->X.at st g ro w/\In g fr a.defers->rd=none->wpL P rd all (Qdn X h0 fr ro σ w N a.defers Q) l a w
theorem In.later{fr a g:Nat->Prop}{w:World}{ds ds':List Deferred}(h:In g fr ds)(hl:∀b,fr b->b<w.heap.size)(hg:Grow fr w ds a ds'):In g a ds':=by
 refine⟨λb q=>hg.sub b (h.sub b q),λD hD q=>?_⟩;rcases hg.ds _ hD with r|⟨D',e,r⟩
 .exact h.beside D r q
 .have:D=D':=by simpa using e
  subst this;have:=hl D (h.sub D q);omega
section
variable {T:Type} {X:Ctx T} {P:Program} {h0 N:Nat} {c c':Code} {env:Env} {H:Qc} {st:YSt T} {Q:YJ T}
theorem QlW{fr ro:Nat->Prop}{σ:Sig}{w:World}{j:List Deferred}{e:Exit}{a':Act}{w':World}(n:X.ok P)(h:QaQ h0 fr ro σ w N j (λx env H=>Q x env H st) e a' w'){g:Nat->Prop}(hl:∀b,fr b->b<w.heap.size)(d:X.at st g ro w/\In g fr j):
  Qdn X h0 fr ro σ w N j Q e a' w':=by
 obtain⟨x,a,H',f,σ',k,r,q,p,i,m,l⟩:=h;exact⟨x,a,H',st,f,σ',k,g,r,q,p,⟨n.ev d.1 (i.frMono d.2.sub),d.2.later hl l⟩,i.sub,i.size,m,l⟩
theorem TCy.lift(h:TC P h0 N c env H (λx env H=>Q x env H st)):TCy X P h0 N c env H st Q:=
 λhX rd fr ro σ a w g r hj hrd=>Code.wpIn_mono (λe a' w' q=>QlW hX q r.sim.frLt hj) (h rd fr ro σ a w r (hrd▸Qew.none))
def SeqY(X:Ctx T)(P:Program)(h0 N:Nat)(c:Code)(Q:YJ T):YJ T
 |.normal,env,H,st=>TCy X P h0 N c env H st Q
 |.exit id,env,H,st=>Q (.exit id) env H st
 |.ret,env,H,st=>Q .ret env H st
theorem TCy.seq(h:TCy X P h0 N c env H st (SeqY X P h0 N c' Q)):TCy X P h0 N (.seq c c') env H st Q:=by
 intro y z E F σ a w g r hj hrd;refine wpIn_seq (Code.wpIn_mono ?_ (h y z E F σ a w g r hj hrd));rintro e G B ⟨x,b,H',i,d,σ',f,u,j,l,s,k,n,t,m,p⟩;cases e with
 |normal=>
  obtain rfl:x=.normal:=j;exact Code.wpIn_mono (λe a w q=>q.grow n t m p) (l y z f d σ' G B u s k hrd)
 |exit id=>
  obtain rfl:x=.exit id:=j;exact⟨_,b,H',i,d,σ',f,u,rfl,l,s,k,n,t,m,p⟩
 |ret=>
  obtain rfl:x=.ret:=j;exact⟨_,b,H',i,d,σ',f,u,rfl,l,s,k,n,t,m,p⟩
 |_=>exact j.elim
theorem TCy.region{id:Nat}{l:List Oper}(h:WOy X P h0 N l.toArray l env H st Q):TCy X P h0 N (.region id l.toArray false) env H st Q:=
 λhX rd fr ro σ a w g r hj hrd=>wpIn_region_lit (h hX rd fr ro σ a w g r hj hrd)
theorem TCy.cond{x:Operand}{t:Bool}(k:opA env x=.bool t)(j:t=true->TCy X P h0 N c env H st Q)(l:t=false->TCy X P h0 N c' env H st Q):TCy X P h0 N (.cond x c c') env H st Q:=by
 intro b h f i σ a w g r hj hrd;have d:=Qd r x;rw[k]at d;exact wpIn_cond_split d (λe=>j e b h f i σ a w g r hj hrd) (λe=>l e b h f i σ a w g r hj hrd)
theorem WOy.nil{all:Array Oper}(h:Q .normal env H st):WOy X P h0 N all [] env H st Q:=
 λhX rd fr ro σ a w g r hj hrd=>⟨_,env,H,st,ro,σ,fr,g,rfl,h,r,hj,λ_ q=>q,XV _,rfl,Grow.refl _ _ _⟩
end
theorem Qjw{P:Program}{rd:Option Nat}{o:Oper}{a:Act}{K K':Act->World->Prop}{Q Q':Exit->Act->World->Prop}(b:∀a w,K a w->K' a w)(i:∀ch a w,Q (.panic ch) a w->Q' (.panic ch) a w)(j:∀a w,Q .outgrown a w->Q' .outgrown a w)
  {r:Result Next}(h:o.uponIn (WF rd) 0 P a K Q r):o.uponIn (WF rd) 0 P a K' Q' r:=by
 cases r with
 |ok x w=>
  cases x with
  |value v=>exact b _ _ h
  |skip=>exact b _ _ h
  |defer d=>exact b _ _ h
  |enter f g=>
   refine⟨h.1,CallsIn.mono h.2 ?_⟩;intro e k q;cases e with
   |returned v=>exact b _ _ q
   |panicked c=>exact i _ _ _ q
   |outgrown=>obtain⟨a,w,q⟩:=q;exact⟨a,w,j _ _ q⟩
  |row r g=>exact⟨h.1,RowsIn.mono h.2 λv k q=>b _ _ q⟩
  |round l f n assign m=>
   refine⟨h.1,RoundIn.mono h.2 ?_⟩;intro e k q;cases e with
   |returned v=>exact b _ _ q
   |panicked c=>exact i _ _ _ q
   |outgrown=>obtain⟨a,w,q⟩:=q;exact⟨a,w,j _ _ q⟩
  |_=>exact h
 |halt x w=>
  cases x with
  |panic v=>exact i _ _ _ h
  |_=>exact h
section
variable {T:Type} {X:Ctx T} {P:Program} {h0 N:Nat} {env:Env} {H:Qc} {st:YSt T} {Q:YJ T}
theorem WOy.step{all:Array Oper}{o:Oper}{rest:List Oper}(h:WO P h0 N all [o] env H (λx env' H'=>x=.normal/\WOy X P h0 N all rest env' H' st Q)):WOy X P h0 N all (o::rest) env H st Q:=by
 intro y s p t σ a w g r hj hrd;have E:∀i f,Qb6 h0 p t σ w N a.defers (λx env' H'=>x=.normal/\WOy X P h0 N all rest env' H' st Q) .normal i f->wpL P s all (Qdn X h0 p t σ w N a.defers Q) rest i f:=by
  rintro i f ⟨x,env',H',d,σ',j,M,⟨_,F⟩,J,m,G,B,z⟩;have n:X.at st g d f/\In g j i.defers:=⟨y.ev hj.1 (m.frMono hj.2.sub),by rw[B];exact hj.2.later r.sim.frLt z⟩;have:=F y s j d σ' i f g J n hrd;refine Yq (λe k l q=>?_) _ _ _ this;exact q.grow m.sub m.size G (by rw[B];exact z)
 have b:=h s p t σ a w r (hrd▸Qew.none);unfold wpL wpListIn at b⊢;split
 .rename_i u;rw[Vv u]at b;refine⟨b.1,Qjw (λk l q=>?_) (λL k l q=>?_) (λk l q=>?_) b.2⟩
  .unfold wpListIn at q;exact E k l q
  .obtain⟨x,_,_,_,_,_,q,_⟩:=q;exact q.elim
  .obtain⟨x,_,_,_,_,_,q,_⟩:=q;exact q.elim
 .rename_i u;rw[Vu u]at b;refine⟨b.1,?_⟩;have q:=b.2;unfold wpListIn at q;exact E _ _ q
theorem WOy.yield{all:Array Oper}{o:Oper}{rest:List Oper}{d:Nat}{x:T}{L rem:List T}(R:X.nx L x rem)(hg:Qp all o env true)(E:o.dst=some d)(hN:Nat.blt d N=true)
  (J:∀fr ro σ a w,Rel fr ro σ H env N a w->∃vs:List Value,LR ro [] w (X.enc x) vs/\(execOp a.eval o).run P w=(Instr.yield X.l vs.toArray).run P w)
  (k:∀b:Bool,WOy X P h0 N all rest (up env d (.bool b)) H (bif b then .on rem else .off rem) Q):WOy X P h0 N all (o::rest) env H (.on L) Q:=by
 intro V O fr ro σ a w g r hj hrd;obtain⟨vs,hv,he⟩:=J fr ro σ a w r;obtain⟨q,hq,M⟩:=hj.1;obtain⟨fn,tmps,assign,W,h1,h2⟩:=V.round L x rem q g ro w vs R M hq (λb z=>⟨r.sim.roLt b z,λy=>r.sim.roFr b z (hj.2.sub b y)⟩) hv;have h3:=he.trans h1;unfold wpL wpListIn;rw[Vv (YK hg r)];refine⟨λ_ _=>trivial,?_⟩;rw[QcQ h3 (λd e=>by cases e)];refine⟨λh=>by simp[WF,Fence.wide]at h,?_⟩;refine RoundIn.mono (F:=WF O) (n:=0) h2 ?_;rintro e i ⟨j,p,u,m,f⟩;obtain⟨s',ev⟩:=r.sim.round hj.2.sub m;have G:d<N:=by simpa using hN
 have t:Ext ro σ w ro σ i:=by have:=ev.ext σ [];simpa using this
 have fin:∀b:Bool,X.at (bif b then .on rem else .off rem) j ro i->wpL P O all (Qdn X h0 fr ro σ w N a.defers Q) rest (a.put o.dst (.bool b)) i:=by
  intro b f;have Y:Qdq (λb=>fr b\/j b) a.defers i:=by
   refine⟨r.defers.1,λd E=>?_⟩;obtain⟨D,rfl,B,q2⟩:=r.defers.2 d E;exact⟨D,rfl,.inl B,(m.keep D (r.sim.frLt D B) (hj.2.beside D E)).trans q2⟩
  have hi:In j (λb=>fr b\/j b) a.defers:=by
   refine⟨λb q=>.inr q,λD hD q=>?_⟩;rcases m.new D q with p|p
   .exact hj.2.beside D hD p
   .obtain⟨D',e,B,_⟩:=r.defers.2 _ hD;have:D=D':=by simpa using e
    subst this;have:=r.sim.frLt D B;omega
  have r':Rel (λb=>fr b\/j b) ro σ H (up env d (.bool b)) N {a with tmps:=a.tmps.setIfInBounds d (.bool b)} i:=
   ⟨s',VR.up (fr:=fr) (λs=>(r.env s).mono t) (by rw[r.size];exact G) rfl,by simpa using r.size,Y⟩
  have:=k b V O _ ro σ _ i j r' ⟨f,hi⟩ hrd;simp only[E,Act.put];refine Yq (λe a2 w2 q=>q.grow (λ_ q=>q) m.size rfl ⟨λ_ q=>.inl q,λb q=>?_,λ_ q=>.inl q⟩) _ _ _ this;rcases q with q|q
  .exact .inl q
  .rcases m.new b q with q|q
   .exact .inl (hj.2.sub b q)
   .exact .inr q
 rcases f with⟨rfl,f⟩|⟨rfl,f⟩
 .exact fin true ⟨p,u,f⟩
 .exact fin false ⟨p,u,f⟩
end
def EndY{T:Type}:YJ T:=λx env H st=>(x=.normal\/x=.ret)/\(st=.on []\/ ∃rem,st=.off rem)
theorem Qdj{T:Type}{P:Program}{f:FuncId}{fn:Func}{c:Code}{N:Nat}{a:List A}{H:Qc}{enc:T->List A}{nx:List T->T->List T->Prop}{xs:List T}
  (hf:P.funcs[f]?=some fn)(hb:fn.body=some c)(hN:fn.ntmps=N)(hA:Nat.ble (a.length+1) N=true)(hR:fn.results= #[])
  (h:∀X:Ctx T,X.enc=enc->X.nx=nx->TCy X P H.length N c (QgN 0 (.fn (.yield X.l) [] []::a)) H (.on xs) EndY):Qjc P f a H enc nx xs:=by
 intro X hE hNx hX fr ro0 σ w capv q0 hs hq0 hl hj;have t:LR ro0 σ w (.fn (.yield X.l) [] []::a) (Value.func (.yield X.l) #[] #[]::capv):=⟨_,_,rfl,⟨[],[],rfl,rfl,rfl⟩,hl⟩;have p:=t.length;have aa:a.length+1<=N:=by simpa using hA
 refine(callsIn_wide (n:=0)).1 (callsIn_of_wp_marks hf hb trivial (Code.wpIn_mono ?_ (h X hE hNx hX none fr ro0 σ _ w fr ⟨hs,?_,?_,List.nodup_nil,λd y=>by cases y⟩ ⟨⟨q0,hq0,hj⟩,λ_ q=>q,λD hD=>by cases hD⟩ rfl)))
 .rintro e O R ⟨x,Q,H1,st,L,σ1,ab,G,V,⟨h2,B⟩,j,⟨Y,k⟩,h5,h6,h7,h8⟩;have r:LeavesInM Fence.wide 0 P fn O.tmps (λe W'=>(∃v,e=.returned v)/\ ∃g q',(∀b,fr b->g b)/\((X.J [] q' g W')\/(∃rem,X.Jx rem q' g W'))) O.defers .returning R:=by
   refine Qbu (ro:=L) (fr:=G) (σ:=σ1) (H:=H1) O.defers R j.defers.1 (λd y=>?_) (j.sim.frMono k.sub) (λw2 s2 m=>?_)
   .obtain⟨D,rfl,F,q2⟩:=j.defers.2 d y;exact⟨D,rfl,λq=>j.sim.roFr D q F,k.beside D y,λi x E z M=>(j.sim.own i D x E z M).2.2 F,λi d x E z M=>(j.sim.hid i d x D E z M).fr F,q2⟩
   .have u:=hX.up (hX.ev Y m) (g':=λb=>G b\/fr b) (λb q=>.inl q) (λb q=>Vh (j.sim.frLt b (q.elim (k.sub b) (h8.sub b))) m.size);obtain⟨W,_,u⟩:=u;refine⟨.tuple #[],by simp[results,hR,go_sem],⟨_,rfl⟩,λb=>G b\/fr b,W,λb q=>.inr q,?_⟩;rcases B with rfl|⟨rem,rfl⟩
    .exact .inl u
    .exact .inr ⟨rem,u⟩
  cases e with
  |normal=>exact r
  |ret=>exact r
  |exit id=>
   obtain rfl:x=.exit id:=V;rcases h2 with q|q<;>cases q
  |_=>exact V.elim
 .intro s;have:=Qe8 (i:=0) [] rfl t (Array.replicate (fn.ntmps-(Value.func (.yield X.l) #[] #[]::capv).toArray.size) undef) s;simpa using this
 .simp only[X3]at p;simp[hN];omega
section
variable {T:Type} {X:Ctx T} {P:Program} {h0 N:Nat} {c c':Code} {env:Env} {H:Qc} {st:YSt T} {Q Q':YJ T}
theorem TCy.mono(h:TCy X P h0 N c env H st Q)(q:∀x env H st,Q x env H st->Q' x env H st):TCy X P h0 N c env H st Q':=by
 intro j m k n σ a w g r hj hrd;refine Code.wpIn_mono ?_ (h j m k n σ a w g r hj hrd);rintro e y u ⟨x,b,H',d,f,σ',i,s,t,p,l⟩;exact⟨x,b,H',d,f,σ',i,s,t,q _ _ _ _ p,l⟩
theorem TCy.skip(h:Q .normal env H st):TCy X P h0 N .skip env H st Q:=TCy.lift (TC.skip h)
theorem TCy.ret(h:Q .ret env H st):TCy X P h0 N .ret env H st Q:=TCy.lift (TC.ret h)
theorem TCy.exit{id:Nat}(h:Q (.exit id) env H st):TCy X P h0 N (.exit id) env H st Q:=TCy.lift (TC.exit h)
def BloY(id:Nat)(Q:YJ T):YJ T
 |.normal,env,H,st=>Q .normal env H st
 |.exit id',env,H,st=>bif Nat.beq id' id then Q .normal env H st else Q (.exit id') env H st
 |.ret,env,H,st=>Q .ret env H st
theorem TCy.block{id:Nat}(h:TCy X P h0 N c env H st (BloY id Q)):TCy X P h0 N (.block id c) env H st Q:=by
 intro p t s u σ a w g r hj hrd;refine wpIn_block (Code.wpIn_mono ?_ (h p t s u σ a w g r hj hrd));rintro e B z ⟨x,b,H',i,f,σ',j,m,n,k,l⟩;cases e with
 |normal=>
  obtain rfl:x=.normal:=n;exact⟨_,b,H',i,f,σ',j,m,rfl,k,l⟩
 |exit d=>
  obtain rfl:x=.exit d:=n;show Exit.inBlock id _ _ _ _;unfold Exit.inBlock;simp only[BloY]at k;by_cases q:d=id
  .subst q;rw[VH,Vr]at k;simp only[if_true];exact⟨.normal,b,H',i,f,σ',j,m,rfl,k,l⟩
  .have y:Nat.beq d id=false:=by
    cases e:Nat.beq d id with
    |false=>rfl
    |true=>exact absurd (XS e) q
   rw[y,Vs]at k;simp only[q,if_false];exact⟨.exit d,b,H',i,f,σ',j,m,rfl,k,l⟩
 |ret=>
  obtain rfl:x=.ret:=n;exact⟨_,b,H',i,f,σ',j,m,rfl,k,l⟩
 |_=>exact n.elim
end
section
variable {T:Type} {X:Ctx T} {P:Program} {h0 N:Nat} {c:Code} {env:Env} {H:Qc} {st:YSt T} {Q:YJ T}
def Ql8(I:Env->Qc->YSt T->Prop)(Q:YJ T):YJ T
 |.normal,env,H,st=>I env H st
 |.exit id,env,H,st=>Q (.exit id) env H st
 |.ret,env,H,st=>Q .ret env H st
theorem QgV{I:Nat->Env->Qc->YSt T->Prop}(body:∀n env H st,I n env H st->TCy X P h0 N c env H st (Ql8 (λenv H st=>∃n',n'<n/\I n' env H st) Q)){n:Nat}(G:I n env H st):TCy X P h0 N (.loop c) env H st Q:=by
 intro hX O z B σ a w g r hj hrd b k cs hro hb hr;have E:∀m n env H st fr1 ro1 σ1 a1 w1 g1,n<m->I n env H st->Rel fr1 ro1 σ1 H env N a1 w1->(∀b,B b->ro1 b)->w.heap.size<=w1.heap.size->σ1.take h0=σ.take h0->Grow z w a.defers fr1 a1.defers->X.at st g1 ro1 w1/\In g1 fr1 a1.defers->
   ∃e i h,Qdn X h0 z B σ w N a.defers Q e i h/\ArrivesIn (Machine.fenced P (WF O)) P (lone (b.atR a1 (.code c::.inLoop c::k)) cs w1) b k cs e i h:=by
  intro m
  induction m with
  |zero=>intro n env H st fr1 ro1 σ1 a1 w1 g1 hn;exact absurd hn (Xn _)
  |succ m ih=>
   intro n env H st fr1 ro1 σ1 a1 w1 g1 hn G r1 s1 z1 t1 gr1 j1;obtain⟨e,i,h,J,d⟩:=body n env H st G hX O fr1 ro1 σ1 a1 w1 g1 r1 j1 hrd b (.inLoop c::k) cs hro hb hr;obtain⟨x,f,H',j,p,σ',t,V,y,u,Y,W,q5,L,R,q8⟩:=J;have s2:=λb q=>q5 b (s1 b q);have s:=gr1.trans z1 q8;have M:∀x,Q x f H' j->ExR e x->Qdn X h0 z B σ w N a.defers Q e i h:=λx q q'=>⟨x,f,H',j,p,σ',t,V,q',q,Y,W,s2,XX z1 L,R.trans t1,s⟩;cases e with
   |normal=>
    obtain rfl:x=.normal:=y;obtain⟨n',aa,u⟩:=u;obtain⟨e2,a2,w2,F,l⟩:=ih n' f H' j t p σ' i h V (by omega) u Y s2 (XX z1 L) (R.trans t1) s W;exact⟨e2,a2,w2,F,.of_steps (StepsIn.trans d (.one (fenced_calm hb hr rfl) stepR_inLoop)) l⟩
   |exit id=>
    obtain rfl:x=.exit id:=y;exact⟨_,i,h,M _ u rfl,.pass (x:=.inLoop c) rfl (λ_ _=>.inl (by simp)) d⟩
   |ret=>
    obtain rfl:x=.ret:=y;exact⟨_,i,h,M _ u rfl,.pass (x:=.inLoop c) rfl (λ_ _=>.inl (by simp)) d⟩
   |_=>exact y.elim
 obtain⟨e,i,h,J,d⟩:=E (n+1) n env H st z B σ a w g (Xo _) G r (λ_ q=>q) (XV _) rfl (Grow.refl _ _ _) hj;exact⟨e,i,h,J,.of_steps (.one (fenced_calm hb hr rfl) stepR_loop) d⟩
end
end Go.Sw
namespace Go.Sw
theorem Sim.part{fr ro:Nat->Prop}{σ:Sig}{H:Qc}{w:World}(s0:Sim fr ro σ H w){π:List Nat}{Hc:Qc}(hH:π.map (λp=>H[p]?)=(Hc.map (QW (rho π H.length))).map some)(hπ:π.Nodup):
  Sim (λb=>fr b\/(∃i x,σ[i]?=some (some b)/\H[i]?=some x/\x.live=true/\i∉π)\/ ∃i x d,σ[i]?=some (some d)/\H[i]?=some x/\Hid w x d b/\i∉π) ro (Yl σ π) Hc w/\ ∀j:Nat,σ[rho π H.length j]?=(Yl σ π)[j]? :=by
 have hp:∀p∈π,p<H.length:=λp q=>Jn hH q;have hσl:=s0.len;have h:∀(j p:Nat),π[j]?=some p->H[p]?=(Hc[j]?).map (QW (rho π H.length)):=by
  intro j p a;have:=congrArg (λl=>l[j]?) hH;simp only[Xq,a,Xk]at this;cases e:Hc[j]? with
  |none=>rw[e]at this;simp at this
  |some x=>rw[e]at this;simpa using this
 have O:π.length=Hc.length:=by simpa using congrArg List.length hH
 have hσc:∀j:Nat,σ[rho π H.length j]?=(Yl σ π)[j]? :=by
  intro j;have:=Qey (τ:=[]) hσl hp j;simpa using this
 have hπj:∀(j b:Nat),(Yl σ π)[j]?=some (some b)->∃p,π[j]?=some p/\σ[p]?=some (some b):=by
  intro j b a;simp only[Yl,Xq]at a;cases e:π[j]? with
  |none=>rw[e]at a;simp at a
  |some p=>
   rw[e]at a;simp at a;refine⟨p,rfl,?_⟩;cases r:σ[p]? with
   |none=>rw[r]at a;simp at a
   |some s=>rw[r]at a;simp at a;rw[a]
 refine⟨?_,hσc⟩
 .refine⟨by simp[Yl,O],s0.roOk,?_,?_,?_,?_,?_,?_⟩
  .rintro b (P|⟨i,x,f,n,m,Q⟩|⟨i,x,d,f,n,m,Q⟩)
   .exact s0.frLt b P
   .exact(s0.own i b x f n m).1
   .exact(s0.hid i d x b f n m).lt
  .rintro b P (M|⟨i,x,f,n,m,Q⟩|⟨i,x,d,f,n,m,Q⟩)
   .exact s0.roFr b P M
   .exact(s0.own i b x f n m).2.1 P
   .exact(s0.hid i d x b f n m).ro P
  .intro j b x f n m;obtain⟨p,g,r⟩:=hπj j b f;have E:H[p]?=some (QW (rho π H.length) x):=by rw[h j p g,n];rfl
   obtain⟨o1,o2,o3⟩:=s0.own p b _ r E (by rw[QM];exact m);refine⟨o1,o2,?_⟩;rintro(M|⟨i,y,y1,y2,F,L⟩|⟨i,y,d,y1,y2,F,L⟩)
   .exact o3 M
   .have:=s0.inj i p b _ _ y1 r y2 E F (by rw[QM];exact m);subst this;exact L (VJ g)
   .exact(s0.hid i d y b y1 y2 F).ne p b _ r E (by rw[QM];exact m) rfl
  .intro i j b x y f n m Q q5 q6;obtain⟨p,g,r⟩:=hπj i b f;obtain⟨z,u,Y⟩:=hπj j b n;have E:H[p]?=some (QW (rho π H.length) x):=by rw[h i p g,m];rfl
   have V:H[z]?=some (QW (rho π H.length) y):=by rw[h j z u,Q];rfl
   have:=s0.inj p z b _ _ r Y E V (by rw[QM];exact q5) (by rw[QM];exact q6);subst this;have G:i<π.length:=by
    rcases VE i π.length with q|q
    .exact q
    .rw[XQ q]at g;simp at g
   have a:j<π.length:=by
    rcases VE j π.length with q|q
    .exact q
    .rw[XQ q]at u;simp at u
   rw[XM G]at g;rw[XM a]at u;have t:=(X2 g).trans (X2 u).symm;rcases Nat.lt_trichotomy i j with q|q|q
   .exact(VG.1 hπ i j G a q t).elim
   .exact q
   .exact(VG.1 hπ j i a G q t.symm).elim
  .intro j s x f n;have a:j<π.length:=by
    rcases VE j π.length with q|q
    .exact q
    .rw[XQ (by simpa[Yl]using q)]at f;simp at f
   have g:π[j]?=some π[j]:=XM a;have E:H[π[j]]?=some (QW (rho π H.length) x):=by rw[h j _ g,n];rfl
   have r:σ[π[j]]?=some s:=by
    have:=hσc j;rw[f]at this;simpa[rho,g]using this
   exact(Qh0 hσc).1 (s0.blk _ s _ r E)
  .intro j b x c f n m;obtain⟨p,g,r⟩:=hπj j b f;have E:H[p]?=some (QW (rho π H.length) x):=by rw[h j p g,n];rfl
   have k:=s0.hid p b _ c r E ((Qao _ _ _ _ _).2 m);refine⟨k.lt,k.ro,?_,?_,?_⟩
   .rintro(M|⟨i,y,y1,y2,F,L⟩|⟨i,y,d,y1,y2,F,L⟩)
    .exact k.fr M
    .exact k.ne i c y y1 y2 F rfl
    .obtain⟨rfl,rfl⟩:=k.one i d y y1 y2 F;exact L (VJ g)
   .intro B N y R X W;obtain⟨z,J,T⟩:=hπj B N R;exact k.ne z N _ T (show H[z]?=some (QW (rho π H.length) y)by rw[h B z J,X];rfl) (by rw[QM];exact W)
   .intro B N y R X W;obtain⟨z,J,T⟩:=hπj B N R;obtain⟨z4,z5⟩:=k.one z N _ T (show H[z]?=some (QW (rho π H.length) y)by rw[h B z J,X];rfl) ((Qao _ _ _ _ _).2 W);subst z5;have G:B<π.length:=(XN.1 J).1;have a:j<π.length:=(XN.1 g).1;rw[XM G]at J;rw[XM a]at g;have t:=(X2 J).trans (X2 g).symm;refine⟨z4,?_⟩;rcases Nat.lt_trichotomy B j with q|q|q
    .exact(VG.1 hπ B j G a q t).elim
    .exact q
    .exact(VG.1 hπ j B a G q t.symm).elim
theorem Sim.frames{fr fr' ro:Nat->Prop}{σ:Sig}{H:Qc}{w:World}(s:Sim fr ro σ H w)(lt:∀b,fr' b->b<w.heap.size)(hro:∀b,ro b->¬fr' b)(own:∀(i b:Nat) (x:Blk),σ[i]?=some (some b)->H[i]?=some x->x.live=true->¬fr' b)
  (hd:∀(i b:Nat) (x:Blk) (c:Nat),σ[i]?=some (some b)->H[i]?=some x->Hid w x b c->¬fr' c):Sim fr' ro σ H w:=
 ⟨s.len,s.roOk,lt,hro,λi b x q1 q2 q3=>⟨(s.own i b x q1 q2 q3).1,(s.own i b x q1 q2 q3).2.1,own i b x q1 q2 q3⟩,s.inj,s.blk,
  s.hidTo (· = ·) QY (XV _) (λ_ _ _ _ _ _ _ q=>q) (λi b x c q1 q2 q3 q4=>(hd i b x c q1 q2 q3 q4).elim) λj d y g1 g2 g3=>.inl ⟨j,y,rfl,g1,g2,id,λ_ q=>q⟩⟩
def QkH(H:Qc)(p:Nat):Qc:=match H[p]? with
 |some x=>bif x.holds then H.set p .dead else H
 |none=>H
def Qd5:Qc->List Nat->Qc
 |H,[]=>H
 |H,p::π=>Qd5 (QkH H p) π
theorem Qd6(H:Qc)(p:Nat):(QkH H p=H/\ ∀x,H[p]?=some x->x.holds=false)\/QkH H p=H.set p .dead:=by
 unfold QkH;cases h:H[p]? with
 |none=>exact .inl ⟨rfl,λx q=>by cases q⟩
 |some x=>
  cases q:x.holds with
  |false=>exact .inl ⟨by simp[q],λy a=>by cases a;exact q⟩
  |true=>exact .inr (by simp[q])
theorem Qfa:∀(π:List Nat) (H:Qc) (i:Nat) (x:Blk),(Qd5 H π)[i]?=some x->x=.dead\/(H[i]?=some x/\(x.holds=true->i∉π))
 |[],H,i,x,h=>.inr ⟨h,λ_=>by simp⟩
 |p::π,H,i,x,h=>by
  rcases Qfa π _ i x h with h|⟨h1,h2⟩
  .exact .inl h
  .rcases Qd6 H p with⟨e,hl⟩|e
   .rw[e]at h1;refine .inr ⟨h1,λhx=>?_⟩;simp only[X8,not_or];refine⟨λq=>?_,h2 hx⟩;subst q;have:=hl x h1;rw[this]at hx;cases hx
   .rw[e]at h1;by_cases q:p=i
    .subst q;rw[Xb]at h1;simp at h1;exact .inl h1.2.symm
    .rw[XR q]at h1;exact .inr ⟨h1,λhx=>by simp only[X8,not_or];exact⟨λr=>q r.symm,h2 hx⟩⟩
theorem QdR{fr ro:Nat->Prop}{σ:Sig}{w:World}:∀(π:List Nat) {H:Qc} (s:Sim fr ro σ H w),Sim fr ro σ (Qd5 H π) w
 |[],_,s=>s
 |p::π,H,s=>by
  rw[Qd5];rcases Qd6 H p with h|h
  .rw[h.1];exact QdR π s
  .rw[h];exact QdR π (s.kill p)
theorem Sim.put{fr ro:Nat->Prop}{σ:Sig}{H:Qc}{w:World}(s:Sim fr ro σ H w){b:Nat}{obj:Obj}(l:fr b)(t:w.shape? b=none):
  Sim fr ro σ H (w.putObj b obj)/\Qe (λc=>c≠b) ro w ro (w.putObj b obj):=by
 have a:∀c,c≠b->(w.putObj b obj).heap[c]?=w.heap[c]? :=λc u=>World.putObj_heap_other u;have f:(w.putObj b obj).heap.size=w.heap.size:=by simp
 have p:∀c,ro c->c≠b:=λc q e=>s.roFr c q (e▸l);have ev:Qe (λc=>c≠b) ro w ro (w.putObj b obj):=by
  refine⟨λ_ q=>q,λc q=>a c (p c q),λc q=>a c q,by rw[f];exact XV _,λc x q=>?_,rfl,rfl,rfl,XV _⟩;by_cases e:c=b
  .subst e;rw[t]at q;cases q
  .unfold World.shape? at q⊢;rw[a c e];exact q
 have g:Ext ro σ w ro σ (w.putObj b obj):=by have:=ev.ext σ [];simpa using this
 refine⟨⟨s.len,s.roOk.to (λ_ q=>q) ev.keepRo (λc q=>by rw[f];exact s.roLt c q),λc q=>by rw[f];exact s.frLt c q,s.roFr,λi c x k h E=>?_,s.inj,λi y x k h=>?_,
  s.hidTo (· = ·) QY (by rw[f];exact XV _) (λ_ _ _ _ _ _ _ q=>q) (λ_ _ _ _ _ _ _ q=>q) λj d y m r J=>.inl ⟨j,y,rfl,m,r,id,λc q=>s.hidKeep m r (λz=>a d (λe=>(s.own j d y m r z).2.2 (e▸l))) ev.keepRo q⟩⟩,ev⟩
 .obtain⟨G,F,B⟩:=s.own i c x k h E;exact⟨by rw[f];exact G,F,B⟩
 .refine(s.blk i y x k h).keep g ?_ ?_
  .rintro c rfl n;exact a c (λe=>(s.own i c x k h n).2.2 (e▸l))
  .rintro d c rfl n;exact a c (λe=>(s.hid i d x c k h n).fr (e▸l))
theorem Qbs{w:World}{l:Nat}{r:Loop}(h:w.heap[l]?=some (.loop r)):w.shape? l=none:=by
 unfold World.shape?;rw[h]
structure Fix where
 fr:Nat->Prop
 ro:Nat->Prop
 σ:Sig
 w:World
 h1:Nat
 env:Env
 tmps:Array Value
 ds1:List Deferred
 l:Nat
 rc:LoopState->Option Code->Loop
 fr1:Nat->Prop
structure Fix.Ok (D:Fix):Prop where
 sub:∀b,D.fr b->D.fr1 b
 l1:D.fr1 D.l
 lf:¬D.fr D.l
 len:D.σ.length=D.h1
structure RJ (D:Fix) (ro1:Nat->Prop) (σ1:Sig) (H:Qc) (st:LoopState) (pe:Option Code) (q g:Nat->Prop) (W:World):Prop where
 sim:Sim D.fr1 ro1 σ1 H W
 env:∀t,VR ro1 D.σ W (lk D.env t) (D.tmps.getD t undef)
 sig:σ1.take D.h1=D.σ
 ev:Qe D.fr D.ro D.w ro1 W
 marks:Qdq D.fr1 D.ds1 W
 rc:W.heap[D.l]?=some (.loop (D.rc st pe))
 roG:∀b,ro1 b->q b\/g b
 frG:∀b,D.fr1 b->g b
 own:∀(i b:Nat) (x:Blk),σ1[i]?=some (some b)->H[i]?=some x->x.live=true->g b
 hidG:∀(i b:Nat) (x:Blk) (c:Nat),σ1[i]?=some (some b)->H[i]?=some x->Hid W x b c->g c
 lt:∀b,g b->b<W.heap.size
theorem QdX{σ σ1:Sig}{a:Nat}(h:σ1.take a=σ){i b:Nat}(q:σ[i]?=some (some b)):σ1[i]?=some (some b):=by
 subst h;rw[List.getElem?_take]at q;split at q
 .exact q
 .cases q
section
variable {D:Fix} {ro1:Nat->Prop} {σ1:Sig} {H:Qc} {st:LoopState} {pe:Option Code} {qR g:Nat->Prop} {W:World}
theorem RJ.step(r:D.Ok)(j:RJ D ro1 σ1 H st pe qR g W){ro':Nat->Prop}{W':World}(e:Qe g qR W ro' W'):RJ D ro1 σ1 H st pe qR g W':=by
 have a:∀b,ro1 b->W'.heap[b]?=W.heap[b]? :=λb q=>(j.roG b q).elim (e.keepRo b) (e.keepFr b);have ev:Qe D.fr1 ro1 W ro1 W':=⟨λ_ q=>q,a,λb q=>e.keepFr b (j.frG b q),e.size,e.shape,e.os,e.tape,e.output,e.drawn⟩;have k:∀σ,Ext ro1 σ W ro1 σ W':=λ σ=>by have:=ev.ext σ [];simpa using this
 refine⟨⟨j.sim.len,j.sim.roOk.to (λ_ q=>q) a (λb q=>Vh (j.sim.roLt b q) e.size),λb q=>Vh (j.sim.frLt b q) e.size,j.sim.roFr,λi b x h f l=>?_,j.sim.inj,λi z x h f=>?_,
  j.sim.hidTo (· = ·) QY e.size (λ_ _ _ _ _ _ _ q=>q) (λ_ _ _ _ _ _ _ q=>q) λi d y m p w=>.inl ⟨i,y,rfl,m,p,id,λc q=>j.sim.hidKeep m p (λz=>e.keepFr d (j.own i d y m p z)) a q⟩⟩,
  λt=>(j.env t).mono (k _),j.sig,j.ev.trans (ev.frMono r.sub),j.marks.keep ev,(ev.keepFr _ r.l1).trans j.rc,j.roG,j.frG,j.own,λi b x c h f l=>j.hidG i b x c h f (j.sim.hidKeep h f (λz=>e.keepFr b (j.own i b x h f z)) a l),λb q=>Vh (j.lt b q) e.size⟩
 .obtain⟨u,s⟩:=j.sim.own i b x h f l;exact⟨Vh u e.size,s⟩
 .refine(j.sim.blk i z x h f).keep (k _) ?_ ?_
  .rintro b rfl n;exact e.keepFr b (j.own i b x h f n)
  .rintro b c rfl n;exact e.keepFr c (j.hidG i b x c h f n)
theorem RJ.up{g':Nat->Prop}(j:RJ D ro1 σ1 H st pe qR g W)(h:∀b,g b->g' b)(hl:∀b,g' b->b<W.heap.size):RJ D ro1 σ1 H st pe qR g' W:=
 {j with roG:=λb q=>(j.roG b q).imp id (h b),frG:=λb q=>h b (j.frG b q),own:=λi b x q1 q2 q3=>h b (j.own i b x q1 q2 q3),hidG:=λi b x c q1 q2 q3=>h c (j.hidG i b x c q1 q2 q3),lt:=hl}
def FrB(D:Fix)(ro1 g:Nat->Prop)(W:World):Nat->Prop:=λb=>(D.fr1 b\/(¬g b/\ ¬ro1 b))/\b<W.heap.size
theorem RJ.simB(j:RJ D ro1 σ1 H st pe qR g W):Sim (FrB D ro1 g W) ro1 σ1 H W:=by
 refine j.sim.frames (λb q=>q.2) (λb q r=>?_) (λi b x a e d r=>?_) (λi b x c a e d r=>r.1.elim (j.sim.hid i b x c a e d).fr λr=>r.1 (j.hidG i b x c a e d))
 .rcases r.1 with r|r
  .exact j.sim.roFr b q r
  .exact r.2 q
 .rcases r.1 with r|r
  .exact(j.sim.own i b x a e d).2.2 r
  .exact r.1 (j.own i b x a e d)
theorem RJ.fin(E:D.Ok)(j:RJ D ro1 σ1 H st pe qR g W){y ro':Nat->Prop}{σ':Sig}{H':Qc}{W':World}{st':LoopState}{pe':Option Code}
  (ev:Qe (λb=>FrB D ro1 g W b/\b≠D.l) ro1 W ro' W')(s:Sim y ro' σ' H' W')(u:∀b,FrB D ro1 g W b->y b)(hσ:σ'.take D.h1=σ1.take D.h1)(T:W'.heap[D.l]?=some (.loop (D.rc st' pe'))):
  RJ D ro' σ' H' st' pe' qR (λb=>g b\/(W.heap.size<=b/\b<W'.heap.size)) W'/\QfO g (λb=>g b\/(W.heap.size<=b/\b<W'.heap.size)) W W':=by
 have n:∀b,D.fr1 b->FrB D ro1 g W b:=λb q=>⟨.inl q,j.sim.frLt b q⟩;have P:W.shape? D.l=none:=Qbs j.rc;have z:Qe D.fr ro1 W ro' W':=ev.frMono λb q=>⟨n b (E.sub b q),λe=>E.lf (e▸q)⟩;have w:Ext ro1 D.σ W ro' D.σ W':=ev.ext0 D.σ;have F:∀b,b<W.heap.size->b<W'.heap.size:=λb q=>Vh q ev.size;have m:∀b,b<W.heap.size->¬FrB D ro1 g W b->g b\/ro1 b:=by
  intro b h N;by_cases f:g b
  .exact .inl f
  .by_cases a:ro1 b
   .exact .inr a
   .exact absurd ⟨.inr ⟨f,a⟩,h⟩ N
 refine⟨⟨s.frames (λb q=>F b (j.sim.frLt b q)) (λb q r=>s.roFr b q (u b (n b r))) (λi b x f a p r=>(s.own i b x f a p).2.2 (u b (n b r))) (λi b x c f a p r=>(s.hid i b x c f a p).fr (u c (n c r))),
  λt=>(j.env t).mono w,hσ.trans j.sig,j.ev.trans z,⟨j.marks.1,λd L=>?_⟩,T,λb q=>?_,λb q=>.inl (j.frG b q),λi b x f a p=>?_,λi b x c f a p=>?_,λb q=>q.elim (λq=>F b (j.lt b q)) (λq=>q.2)⟩,
  ⟨λb q=>.inl q,λb q=>q.imp id (λq=>q.1),λb q=>q.elim (λq=>F b (j.lt b q)) (λq=>q.2),λb f a=>.inr ⟨f,a⟩,λb f a=>?_,ev.size,ev.shape,ev.os,ev.tape,ev.output,ev.drawn⟩⟩
 .obtain⟨B,O,J,G⟩:=j.marks.2 d L;refine⟨B,O,J,(ev.keepFr B ⟨n B J,λe=>?_⟩).trans G⟩;subst e;rw[j.rc]at G;cases G
 .rcases VE b W.heap.size with h|h
  .rcases m b h (λr=>s.roFr b q (u b r))with r|r
   .exact .inr (.inl r)
   .exact(j.roG b r).imp id .inl
  .exact .inr (.inr ⟨h,s.roLt b q⟩)
 .obtain⟨M,Q,R⟩:=s.own i b x f a p;rcases VE b W.heap.size with h|h
  .rcases m b h (λr=>R (u b r))with r|r
   .exact .inl r
   .exact absurd (ev.sub b r) Q
  .exact .inr ⟨h,M⟩
 .have k:=s.hid i b x c f a p;rcases VE c W.heap.size with h|h
  .rcases m c h (λr=>k.fr (u c r))with r|r
   .exact .inl r
   .exact absurd (ev.sub c r) k.ro
  .exact .inr ⟨h,k.lt⟩
 .by_cases r:ro1 b
  .exact ev.keepRo b r
  .exact ev.keepFr b ⟨⟨.inr ⟨a,r⟩,f⟩,λe=>a (j.frG b (e▸E.l1))⟩
end
theorem Sim.roAdd{fr ro f:Nat->Prop}{σ:Sig}{H:Qc}{w:World}(s:Sim fr ro σ H w)(l:∀b,f b->b<w.heap.size)(m:∀b,f b->¬fr b)(g:∀(i b:Nat) (x:Blk),σ[i]?=some (some b)->H[i]?=some x->x.live=true->¬f b)
  (h:∀(i b:Nat) (x:Blk) (c:Nat),σ[i]?=some (some b)->H[i]?=some x->Hid w x b c->¬f c):Sim fr (λb=>ro b\/f b) σ H w:=by
 have ext:Ext ro σ w (λb=>ro b\/f b) σ w:=⟨λ_ q=>.inl q,λ_ _=>rfl,λ_ _ q=>q,λ_ _ q=>q⟩;refine⟨s.len,s.roOk.to (λ_ q=>.inl q) (λ_ _=>rfl) (λb q=>q.elim (s.roLt b) (l b)),s.frLt,λb q=>q.elim (s.roFr b) (m b),λi b x e a k=>?_,s.inj,λi y x e a=>(s.blk i y x e a).keep ext (λ_ _ _=>rfl) (λ_ _ _ _=>rfl),
  s.hidTo (· = ·) QY (XV _) (λi b x c e a k n=>n.elim id λq=>(h i b x c e a k q).elim) (λ_ _ _ _ _ _ _ q=>q) λj d y r t B=>.inl ⟨j,y,rfl,r,t,id,λ_ q=>q⟩⟩
 obtain⟨z,u,p⟩:=s.own i b x e a k;exact⟨z,λq=>q.elim u (g i b x e a k),p⟩
theorem RJ.roAdd{D:Fix}{ro1:Nat->Prop}{σ1:Sig}{H:Qc}{st:LoopState}{pe:Option Code}{qR ri g:Nat->Prop}{W:World}(j:RJ D ro1 σ1 H st pe qR g W)(hq:∀b,qR b->ri b)(hI:∀b,ri b->b<W.heap.size/\ ¬g b):RJ D (λb=>ro1 b\/ri b) σ1 H st pe ri g W:=
 {j with
  sim:=j.sim.roAdd (λb q=>(hI b q).1) (λb q z=>(hI b q).2 (j.frG b z)) (λi b x q1 q2 q3 z=>(hI b z).2 (j.own i b x q1 q2 q3)) (λi b x c q1 q2 q3 z=>(hI c z).2 (j.hidG i b x c q1 q2 q3))
  env:=λt=>(j.env t).mono ⟨λ_ q=>.inl q,λ_ _=>rfl,λ_ _ q=>q,λ_ _ q=>q⟩
  ev:=j.ev.trans (YN λ_ q=>.inl q)
  roG:=λb q=>q.elim (λq=>(j.roG b q).imp (hq b) id) .inl}
def Qmm:List Nat->List A->Env->Env
 |p::ps,a::zs,env=>Qmm ps zs (up env p a)
 |_,_,env=>env
def QjD:List Nat->List Value->Array Value->Array Value
 |p::ps,v::vs,t=>QjD ps vs (t.setIfInBounds p v)
 |_,_,t=>t
theorem Qge:∀(ps:List Nat) (vs:List Value) (t:Array Value),(QjD ps vs t).size=t.size
 |[],_,_=>rfl
 |_::_,[],_=>rfl
 |p::ps,v::vs,t=>by simp[QjD,Qge ps]
theorem Qgf:∀(ps:List Nat) (vs:List Value) (t:Array Value),(ps.toArray.zip vs.toArray).foldl (λt (p,v)=>t.setIfInBounds p v) t=QjD ps vs t
 |[],vs,t=>by rw[<- Array.foldl_toList,Array.toList_zip];rfl
 |p::ps,[],t=>by rw[<- Array.foldl_toList,Array.toList_zip];rfl
 |p::ps,v::vs,t=>by
  have:=Qgf ps vs (t.setIfInBounds p v);rw[<- Array.foldl_toList,Array.toList_zip]at this⊢;exact this
theorem Qkv{ro:Nat->Prop}{σ:Sig}{w:World}:∀(ps:List Nat) (zs:List A) (vs:List Value) (env:Env) (t:Array Value),LR ro σ w zs vs->(∀p∈ps,p<t.size)->(∀s,VR ro σ w (lk env s) (t.getD s undef))->
  ∀s,VR ro σ w (lk (Qmm ps zs env) s) ((QjD ps vs t).getD s undef)
 |[],_,_,_,_,_,_,h=>h
 |p::ps,[],vs,_,_,hv,_,h=>by
  obtain rfl:vs=[]:=hv;exact h
 |p::ps,a::zs,vs,env,t,hv,hp,h=>by
  obtain⟨v,vs',rfl,h0,hv'⟩:=hv;have h1:=VR.up (fr:=λ_=>False) (a:={tmps:=t,defers:=[]}) h (hp p (by simp)) h0;exact Qkv ps zs vs' (up env p a) (t.setIfInBounds p v) hv' (λq hq=>by simpa using hp q (by simp[hq])) h1
def Qkf(h1:Nat)(env:Env)(Q:QA)(K:Qc->Prop):QA
 |.normal,env',H'=>∃H2,Le h1 env' H' [] H2/\K H2
 |.exit id,env',H'=>∃H2,Le h1 env' H' [] H2/\Q (.exit id) env H2
 |.ret,env',H'=>∃H2,Le h1 env' H' [] H2/\Q .ret env H2
def Jump(Q:QA)(env:Env)(c:Code)(H:Qc):Prop:=(∃id,c=.exit id/\Q (.exit id) env H)\/(c=.ret/\Q .ret env H)
section
variable {D:Fix} {ro0:Nat->Prop} {σ1:Sig} {H:Qc} {qR ri g:Nat->Prop} {W:World} {P:Program} {N:Nat} {Q:QA} {K:Qc->Prop}
theorem RJ.round{fn:FuncId}{ps:List Nat}{assign body:Code}{df:Nat}{cs:List A}{vs:List Value}(hD:D.Ok)(m:D.rc=λst pe=>{state:=st,pending:=pe,fn:=fn,tmps:=D.tmps,params:=ps.toArray,assign:=assign,body:=body,defers:=df})
  (hN:D.tmps.size=N)(al:∀p∈ps,p<N)(V:cs.length=ps.length)(hq:∀b,qR b->ri b)(hI:∀b,ri b->b<W.heap.size/\ ¬g b)(ae:LR ri [] W cs vs)(j0:RJ D ro0 σ1 H .ready none qR g W)
  (h:TC P D.h1 N assign (Qmm ps cs D.env) H λe env1 H1=>e=.normal/\TC P D.h1 N body env1 H1 (Qkf D.h1 D.env Q K)):
  YieldAt Fence.wide 0 P D.l vs.toArray W λe W'=>∃g',QfO g g' W W'/\((e=.returned (.bool true)/\ ∃H2 ro2 σ2,K H2/\RJ D ro2 σ2 H2 .ready none ri g' W')\/
   (e=.returned (.bool false)/\ ∃H2 c ro2 σ2,Jump Q D.env c H2/\RJ D ro2 σ2 H2 .done (some c) ri g' W')):=by
 have ai:vs.length=cs.length:=ae.length;have j:=j0.roAdd hq hI;have y:LR (λb=>ro0 b\/ri b) σ1 W cs vs:=ae.mono ⟨λ_ q=>.inr q,λ_ _=>rfl,λ_ _ q=>q,λi b q=>by simp at q⟩;clear j0;generalize(λb=>ro0 b\/ri b)=ro1 at j y;have aj:∀b,D.fr1 b->FrB D ro1 g W b:=λb q=>⟨.inl q,j.sim.frLt b q⟩;have x:=aj _ hD.l1;have F:=j.rc;have hy:=run_yield (P:=P) (r:=D.rc .ready none) (args:=vs.toArray) F (by rw[m];simp[ai,V]);refine⟨fn,QjD ps vs D.tmps,assign,body,?_,?_⟩
 .rw[hy,m];simp only[];rw[<- Qgf]
 .refine roundIn_of_wpIn trivial ?_;show Code.wpIn (WF (some D.l)) 0 P _ _ _ _;have T:∀s,VR ro1 σ1 W (lk D.env s) (D.tmps.getD s undef):=λs=>(j.env s).mono ⟨λ_ q=>q,λ_ _=>rfl,λ_ _ q=>q,λi b q=>QdX j.sig q⟩;have ah:Qew (some D.l) (FrB D ro1 g W) W:=λl e=>by cases e;exact⟨x,_,F⟩
  have E:=h (some D.l) (FrB D ro1 g W) ro1 σ1 {tmps:=QjD ps vs D.tmps,defers:=[]} W ⟨j.simB,Qkv ps cs vs D.env D.tmps y (by rw[hN];exact al) T,by simp[Qge,hN],List.nodup_nil,λd hd=>by cases hd⟩ ah;refine Code.wpIn_mono ?_ E;rintro e a1 E ⟨x1,env1,H1,ro2,σ2,u,h1,⟨rfl,h2⟩,h3,h4,h5,h6⟩;cases e with
  |normal=>
   have k:E.heap[D.l]?=some (.loop (D.rc .ready none)):=(h4.keepFr _ x).trans F;refine⟨_,run_beginRound k (by rw[m]),?_⟩;obtain⟨s2,G⟩:=h3.sim.put (obj:=.loop {D.rc .ready none with state:=.busy}) (h6.sub _ x) (Qbs k);have ac:D.l<E.heap.size:=by rw[Ve]at k;exact k.1
   have R:(E.putObj D.l (.loop {D.rc .ready none with state:=.busy})).heap[D.l]?=some (.loop {D.rc .ready none with state:=.busy}):=World.putObj_heap_same ac;generalize hw2:E.putObj D.l (.loop {D.rc .ready none with state:=.busy})=w2 at*;have ag:Qdq u a1.defers w2:=by
    refine⟨h3.defers.1,λd hd=>?_⟩;obtain⟨B,e1,e2,e3⟩:=h3.defers.2 d hd;refine⟨B,e1,e2,(G.keepFr B (λe=>?_)).trans e3⟩;subst e;rw[k]at e3;cases e3
   have r2:Rel u ro2 σ2 H1 env1 N a1 w2:=⟨s2,λs=>(h3.env s).mono (G.ext0 σ2),h3.size,ag⟩;have M:u D.l:=h6.sub _ x;refine Code.wpIn_mono ?_ (h2 (some D.l) u ro2 σ2 a1 w2 r2 (λl e=>by cases e;exact⟨M,_,R⟩));rintro e a3 z ⟨x3,aa,H3,J,σ3,ab,g1,g2,g3,g4,g5,g6⟩;have n:z.heap[D.l]?=some (.loop {D.rc .ready none with state:=.busy}):=(g4.keepFr _ M).trans R;have L:∀(H2:Qc) (jump:Option Code),Le D.h1 aa H3 [] H2->∃v t,(Instr.endRound D.l jump).run P z=.ok v t/\v=.bool jump.isNone/\ ∃g',QfO g g' W t/\ ∃a σ4,RJ D a σ4 H2 (if jump.isNone then .ready else .done) jump ri g' t:=by
    intro H2 jump f;obtain⟨a,σ4,r4,s4,t4⟩:=f ab J σ3 N a3 z g3;refine⟨_,_,run_endRound jump n,rfl,?_⟩;have am:ab D.l:=g6.sub _ M;obtain⟨s5,ak⟩:=r4.sim.put (obj:=.loop {{D.rc .ready none with state:=.busy}with state:=if jump.isNone then .ready else .done,pending:=jump}) am (Qbs n);have O:D.l<z.heap.size:=by rw[Ve]at n;exact n.1
    have af:=World.putObj_heap_same (w:=z) (r:=D.l) (o:=.loop {{D.rc .ready none with state:=.busy}with state:=if jump.isNone then .ready else .done,pending:=jump}) O;have e1:Qe (λb=>FrB D ro1 g W b/\b≠D.l) ro1 W ro2 E:=h4.frMono λb q=>q.1;have e2:Qe (λb=>FrB D ro1 g W b/\b≠D.l) ro2 E ro2 w2:=G.frMono λb q=>q.2;have e3:Qe (λb=>FrB D ro1 g W b/\b≠D.l) ro2 w2 J z:=g4.frMono λb q=>h6.sub b q.1;have e4:Qe (λb=>FrB D ro1 g W b/\b≠D.l) J z a z:=YN s4;have e5:=(((e1.trans e2).trans e3).trans e4).trans (ak.frMono λb (q:FrB D ro1 g W b/\b≠D.l)=>q.2);obtain⟨q1,q2⟩:=j.fin hD e5 s5 (λb q=>g6.sub b (h6.sub b q)) (by rw[t4,g5,h5]) (st':=if jump.isNone then .ready else .done) (pe':=jump) (by rw[af,m]);exact⟨_,q2,a,σ4,q1⟩
   cases e with
   |normal=>
    obtain rfl:x3=.normal:=g1;obtain⟨H2,f,hK⟩:=g2;obtain⟨v,t,k1,rfl,g',Y,a,σ4,X⟩:=L H2 none f;exact⟨_,t,k1,g',Y,.inl ⟨rfl,H2,a,σ4,hK,X⟩⟩
   |exit id=>
    obtain rfl:x3=.exit id:=g1;obtain⟨H2,f,hK⟩:=g2;obtain⟨v,t,k1,rfl,g',Y,a,σ4,X⟩:=L H2 (some (.exit id)) f;exact⟨_,t,k1,g',Y,.inr ⟨rfl,H2,_,a,σ4,.inl ⟨id,rfl,hK⟩,X⟩⟩
   |ret=>
    obtain rfl:x3=.ret:=g1;obtain⟨H2,f,hK⟩:=g2;obtain⟨v,t,k1,rfl,g',Y,a,σ4,X⟩:=L H2 (some .ret) f;exact⟨_,t,k1,g',Y,.inr ⟨rfl,H2,_,a,σ4,.inr ⟨rfl,hK⟩,X⟩⟩
   |_=>exact g1.elim
  |exit id=>cases h1
  |ret=>cases h1
  |_=>exact h1.elim
end
theorem Sim.beside{fr ro:Nat->Prop}{σ:Sig}{H:Qc}{w h:World}(s:Sim fr ro σ H w)(ev:Qe fr ro w ro h)(a:∀b,b<w.heap.size->h.heap[b]?=w.heap[b]?):Sim (λb=>fr b\/(w.heap.size<=b/\b<h.heap.size)) ro σ H h:=by
 have g:Ext ro σ w ro σ h:=ev.ext0 σ;refine⟨s.len,s.roOk.to (λ_ q=>q) ev.keepRo (λb q=>Vh (s.roLt b q) ev.size),λb q=>q.elim (λq=>Vh (s.frLt b q) ev.size) (λq=>q.2),λb q r=>?_,λi b x f e k=>?_,s.inj,λi z x f e=>?_,
  s.hidTo (· = ·) QY ev.size (λ_ _ _ _ _ _ _ q=>q) (λi b x c f e k p=>p.elim id λq=>(by have:=(s.hid i b x c f e k).lt;omega)) λj d y l n E=>.inl ⟨j,y,rfl,l,n,id,λc q=>s.hidKeep l n (λz=>a d (s.own j d y l n z).1) ev.keepRo q⟩⟩
 .rcases r with r|r
  .exact s.roFr b q r
  .have:=s.roLt b q;omega
 .obtain⟨B,u,t⟩:=s.own i b x f e k;refine⟨Vh B ev.size,u,λr=>?_⟩;rcases r with r|r
  .exact t r
  .omega
 .refine(s.blk i z x f e).keep g ?_ ?_
  .rintro b rfl m;exact a b (s.own i b x f e m).1
  .rintro b c rfl m;exact a c (s.hid i b x c f e m).lt
theorem Qce{w:World}{o:Obj}{b:Nat}(a:b<w.heap.size):(w.alloc o).heap[b]?=w.heap[b]? :=by
 show(w.heap.push o)[b]?=_;rw[Array.getElem?_push,Vu (by omega)]
theorem Qnp{P:Program}{fn:FuncId}{tmps:Array Value}{ps:Array Tmp}{assign body:Code}{rd:Option Nat}{fr ro:Nat->Prop}{w:World}(i:Qew rd fr w)(h:∀b,ro b->b<w.heap.size)(k:∀b,fr b->b<w.heap.size):
  ∃l mark w1 df,(Instr.enterLoop fn tmps ps assign body rd).run P w=.ok (l,mark) w1/\w.heap.size<=l/\l<w1.heap.size/\w1.heap[l]?=some (.loop {state:=.ready,pending:=none,fn:=fn,tmps:=tmps,params:=ps,assign:=assign,body:=body,defers:=df})/\
   (∀b,b<w.heap.size->w1.heap[b]?=w.heap[b]?)/\mark.Nodup/\(∀d∈mark,∃D,d={target:=.collected D,args:= #[]}/\w.heap.size<=D/\D<w1.heap.size/\w1.heap[D]?=some (.deferred (some [])))/\Qe fr ro w ro w1:=by
 have e:∀w1:World,(∀b,b<w.heap.size->w1.heap[b]?=w.heap[b]?)->w.heap.size<=w1.heap.size->w1.os=w.os->w1.tape=w.tape->w1.output=w.output->w1.drawn=w.drawn->Qe fr ro w ro w1:=by
  intro w1 j t p r n s;refine⟨λ_ q=>q,λb q=>j b (h b q),λb q=>j b (k b q),t,λb x q=>?_,p,r,n,by rw[s];exact XV _⟩;have f:b<w.heap.size:=by
   rcases VE b w.heap.size with z|z
   .exact z
   .unfold World.shape? at q;rw[Array.getElem?_eq_none (by simpa using z)]at q;cases q
  unfold World.shape? at q⊢;rw[j b f];exact q
 cases rd with
 |none=>
  have a:∀b,b<w.heap.size->((w.alloc (.deferred (some []))).alloc (.loop {state:=.ready,pending:=none,fn:=fn,tmps:=tmps,params:=ps,assign:=assign,body:=body,defers:=w.heap.size})).heap[b]?=w.heap[b]? :=λb f=>
   (Qce (by simp;omega)).trans (Qce f)
  refine⟨_,_,_,w.heap.size,run_enterLoop_outer fn tmps ps assign body,by omega,by simp,?_,a,by simp,?_,e _ a (by simp;omega) rfl rfl rfl rfl⟩
  .have:=World.alloc_heap_new (w.alloc (.deferred (some []))) (.loop {state:=.ready,pending:=none,fn:=fn,tmps:=tmps,params:=ps,assign:=assign,body:=body,defers:=w.heap.size})
   rwa [World.size_alloc]at this
  .intro d g;obtain rfl:=VD.1 g;exact⟨_,rfl,XV _,by simp;omega,(Qce (by simp)).trans (World.alloc_heap_new w _)⟩
 |some u=>
  obtain⟨_,m,y⟩:=i u rfl;have a:∀b,b<w.heap.size->(w.alloc (.loop {state:=.ready,pending:=none,fn:=fn,tmps:=tmps,params:=ps,assign:=assign,body:=body,defers:=m.defers})).heap[b]?=w.heap[b]? :=λb f=>Qce f;exact⟨_,_,_,m.defers,run_enterLoop_inner y fn tmps ps assign body,XV _,by simp,World.alloc_heap_new w _,a,List.nodup_nil,(λd g=>absurd g List.not_mem_nil),e _ a (by simp) rfl rfl rfl rfl⟩
theorem TC.rangeFunc{P:Program}{h0 N:Nat}{ae:Operand}{ps:List Nat}{assign body:Code}{env:Env}{H:Qc}{Q:QA}{f:FuncId}{ah af:List A}{Hc:Qc}{T S:Type}{enc:T->List A}{nx:List T->T->List T->Prop}{xs:List T}
  (π:List Nat)(Hp:S->Qc)(V:S->List T->Prop)(s0:S)(hh:h0<=H.length)(hg:opA env ae=.fn (.func f) [] ah)(hargs:ah=Qaa (rho π H.length) af)(hH:π.map (λp=>H[p]?)=(Hc.map (QW (rho π H.length))).map some)(hπ:π.Nodup)
  (ba:(ps.all λp=>Nat.blt p N)=true)(eg:∀args w,(callFunc f args).run P w=.ok (.enter f args) w)(a0:Qjc P f af Hc enc nx xs)(au:∀x,(enc x).length=ps.length)
  (be:Le H.length env (Qd5 H π) env (Hp s0))(hV:V s0 xs)
  (ao:∀s l x rem,V s l->nx l x rem->TC P H.length N assign (Qmm ps (enc x) env) (Hp s) λe env1 H1=>e=.normal/\TC P H.length N body env1 H1 (Qkf H.length env Q λH2=>∃s',V s' rem/\H2=Hp s'))
  (al:∀s,V s []->Q .normal env (Hp s)):TC P h0 N (.rangeFunc ae ps.toArray assign body) env H Q:=by
 intro rd fr ro σ a w r hrd;have hv:=Qd r ae;rw[hg]at hv;obtain⟨l1,E,hv,a7,aq⟩:=hv;obtain rfl:l1=[]:=a7;refine wpIn_rangeFunc ?_;intro fn bi;obtain⟨l,G,Y,df,he,hl,bd,aw,ar,bf,ak,aa⟩:=Qnp (P:=P) (fn:=fn) (tmps:=a.tmps) (ps:=ps.toArray) (assign:=assign) (body:=body) (ro:=ro) hrd r.sim.roLt r.sim.frLt;have s1:=r.sim.beside aa ar
 let D:Fix:=⟨fr,ro,σ,w,H.length,env,a.tmps,G++a.defers,l,(λst pe=>{state:=st,pending:=pe,fn:=fn,tmps:=a.tmps,params:=ps.toArray,assign:=assign,body:=body,defers:=df}),(λb=>fr b\/(w.heap.size<=b/\b<Y.heap.size))⟩
 have ag:¬fr l:=λq=>by have:=r.sim.frLt l q;omega
 have hD:D.Ok:=⟨λb q=>.inl q,.inr ⟨hl,bd⟩,ag,r.sim.len⟩;have L:Qdq D.fr1 (G++a.defers) Y:=by
  refine⟨List.nodup_append.2 ⟨bf,r.defers.1,λd O d' a5 e=>?_⟩,λd O=>?_⟩
  .subst e;obtain⟨B,e1,e2,_⟩:=ak d O;obtain⟨B',ax,a8,_⟩:=r.defers.2 d a5;rw[e1]at ax;have:B=B':=by simpa using ax
   subst this;have:=r.sim.frLt B a8;omega
  .rcases VF.1 O with O|O
   .obtain⟨B,e1,e2,e3,e4⟩:=ak d O;exact⟨B,e1,.inr ⟨e2,e3⟩,e4⟩
   .obtain⟨B,e1,e2,e3⟩:=(r.defers.keep aa).2 d O;exact⟨B,e1,.inl e2,e3⟩
 obtain⟨sp,hσc⟩:=s1.part hH hπ;have aj:LR ro (Yl σ π) Y af E:=(QbG hσc).1 (hargs▸aq.mono (aa.ext0 σ))
 let frX:Nat->Prop:=λb=>D.fr1 b\/(∃(j:Nat) (x:Blk),(Yl σ π)[j]?=some (some b)/\Hc[j]?=some x/\x.live=true)\/ ∃(j:Nat) (x:Blk) (d:Nat),(Yl σ π)[j]?=some (some d)/\Hc[j]?=some x/\Hid Y x d b
 have sX:Sim frX ro σ (Qd5 H π) Y:=by
  refine(QdR π s1).frames (λb q=>?_) (λb q r=>?_) (λi b x n m k r=>?_) (λi b x c n m k r=>?_)
  .rcases q with q|⟨j,x,n,m,k⟩|⟨j,x,d,n,m,k⟩
   .exact s1.frLt b q
   .exact(sp.own j b x n m k).1
   .exact(sp.hid j d x b n m k).lt
  .rcases r with r|⟨j,x,n,m,k⟩|⟨j,x,d,n,m,k⟩
   .exact s1.roFr b q r
   .exact(sp.own j b x n m k).2.1 q
   .exact(sp.hid j d x b n m k).ro q
  .rcases Qfa _ _ _ _ m with rfl|⟨m,hi⟩
   .cases k
   .rcases r with r|⟨j,y,p1,p2,p3⟩|⟨j,y,d,p1,p2,p3⟩
    .exact(s1.own i b x n m k).2.2 r
    .exact(sp.own j b y p1 p2 p3).2.2 (.inr (.inl ⟨i,x,n,m,k,hi (QaG k)⟩))
    .exact(sp.hid j d y b p1 p2 p3).fr (.inr (.inl ⟨i,x,n,m,k,hi (QaG k)⟩))
  .rcases Qfa _ _ _ _ m with rfl|⟨m,hi⟩
   .exact k.elim
   .rcases r with r|⟨j,y,p1,p2,p3⟩|⟨j,y,d,p1,p2,p3⟩
    .exact(s1.hid i b x c n m k).fr r
    .exact(sp.own j c y p1 p2 p3).2.2 (.inr (.inr ⟨i,x,b,n,m,k,hi k.holds⟩))
    .exact(sp.hid j d y c p1 p2 p3).fr (.inr (.inr ⟨i,x,b,n,m,k,hi k.holds⟩))
 have rX:Rel frX ro σ (Qd5 H π) env N {a with defers:=G++a.defers} Y:=
  ⟨sX,λs=>(r.env s).mono (aa.ext0 σ),r.size,L.1,λd O=>let⟨B,e1,e2,e3⟩:=L.2 d O;⟨B,e1,.inl e2,e3⟩⟩
 obtain⟨ac,σ',r',ab,a4⟩:=be frX ro σ N _ Y rX;have hσt:σ.take H.length=σ:=by rw[<- r.sim.len,Vb]
 let g0:Nat->Prop:=λb=>D.fr1 b\/(ac b/\ ¬ro b)\/(∃(i:Nat) (x:Blk),σ'[i]?=some (some b)/\(Hp s0)[i]?=some x/\x.live=true)\/ ∃(i:Nat) (x:Blk) (d:Nat),σ'[i]?=some (some d)/\(Hp s0)[i]?=some x/\Hid Y x d b
 have j0:RJ D ac σ' (Hp s0) .ready none ro g0 Y:=by
  refine⟨r'.sim.frMono λb q=>.inl q,λt=>(r.env t).mono ⟨ab,aa.keepRo,aa.shape,λ_ _ q=>q⟩,a4.trans hσt,aa.trans (YN ab),L,aw,λb q=>?_,λb q=>.inl q,λi b x n m k=>.inr (.inr (.inl ⟨i,x,n,m,k⟩)),λi b x c n m k=>.inr (.inr (.inr ⟨i,x,b,n,m,k⟩)),λb q=>?_⟩
  .by_cases z:ro b
   .exact .inl z
   .exact .inr (.inr (.inl ⟨q,z⟩))
  .rcases q with q|q|⟨i,x,n,m,k⟩|⟨i,x,d,n,m,k⟩
   .exact s1.frLt b q
   .exact r'.sim.roLt b q.1
   .exact(r'.sim.own i b x n m k).1
   .exact(r'.sim.hid i d x b n m k).lt
 have sI:Sim g0 ro (Yl σ π) Hc Y:=by
  refine sp.frames (λb q=>j0.lt b q) (λb q z=>?_) (λj b x n m k z=>?_) (λj b x c n m k z=>?_)
  .rcases z with z|z|⟨i,x,n,m,k⟩|⟨i,x,d,n,m,k⟩
   .exact s1.roFr b q z
   .exact z.2 q
   .exact(r'.sim.own i b x n m k).2.1 (ab b q)
   .exact(r'.sim.hid i d x b n m k).ro (ab b q)
  .have hX:frX b:=.inr (.inl ⟨j,x,n,m,k⟩);rcases z with z|z|⟨i,y,p1,p2,p3⟩|⟨i,y,d,p1,p2,p3⟩
   .exact(sp.own j b x n m k).2.2 (.inl z)
   .exact r'.sim.roFr b z.1 hX
   .exact(r'.sim.own i b y p1 p2 p3).2.2 hX
   .exact(r'.sim.hid i d y b p1 p2 p3).fr hX
  .have hX:frX c:=.inr (.inr ⟨j,x,b,n,m,k⟩);rcases z with z|z|⟨i,y,p1,p2,p3⟩|⟨i,y,d,p1,p2,p3⟩
   .exact(sp.hid j b x c n m k).fr (.inl z)
   .exact r'.sim.roFr c z.1 hX
   .exact(r'.sim.own i c y p1 p2 p3).2.2 hX
   .exact(r'.sim.hid i d y c p1 p2 p3).fr hX
 let X:Ctx T:={l:=l,J:=λrem q g W=>∃s F σ1,V s rem/\RJ D F σ1 (Hp s) .ready none q g W,Jx:=λ_ q g W=>∃H2 c F σ1,Jump Q env c H2/\RJ D F σ1 H2 .done (some c) q g W,enc:=enc,nx:=nx}
 have av:∀p∈ps,p<N:=λp hp=>by simpa using Xu.1 ba p hp
 have hX:X.ok P:=by
  refine⟨⟨λrem q g W W' ac ⟨s,F,σ1,M,R⟩ he=>⟨s,F,σ1,M,R.step hD he⟩,λrem q g g' W ⟨s,F,σ1,M,R⟩ hg hl=>⟨s,F,σ1,M,R.up hg hl⟩⟩,
   ⟨λrem q g W W' ac ⟨H2,c,F,σ1,M,R⟩ he=>⟨H2,c,F,σ1,M,R.step hD he⟩,λrem q g g' W ⟨H2,c,F,σ1,M,R⟩ hg hl=>⟨H2,c,F,σ1,M,R.up hg hl⟩⟩,?_⟩
  rintro lr x rem q g ri W vs bb ⟨s,F,σ1,M,R⟩ hq hI bg;obtain⟨bc,tm,a3,a9,y1,y2⟩:=RJ.round (D:=D) (Q:=Q) (K:=λH2=>∃s',V s' rem/\H2=Hp s') hD rfl r.size av (au x) hq hI bg R (ao s lr x rem M bb);refine⟨bc,tm,a3,a9,y1,RoundIn.mono y2 ?_⟩;rintro e W' ⟨g',k1,k2⟩;refine⟨g',ri,λ_ z=>z,k1,?_⟩;rcases k2 with⟨rfl,H2,u,σ2,⟨s',a6,rfl⟩,k3⟩|⟨rfl,H2,c,u,σ2,k3,k4⟩
  .exact .inl ⟨rfl,s',u,σ2,a6,k3⟩
  .exact .inr ⟨rfl,H2,c,u,σ2,k3,k4⟩
 have a1:∀(ev:Operand->Value),ev ae=.func (.func f) #[] E.toArray->ev (.const (.func (.yield l) #[] #[]))=.func (.yield l) #[] #[]->(resolve ev (rangeCall ae l) 0).run P Y=.ok {target:=.fn (.func f) E.toArray,args:= #[.func (.yield l) #[] #[]]} Y:=by
  intro ev M R;simp[resolve,go_sem,M,R]
 refine⟨l,G,Y,{target:=.fn (.func f) E.toArray,args:= #[.func (.yield l) #[] #[]]},Y,f, #[.func (.yield l) #[] #[]]++E.toArray,Y,he,a1 a.eval hv rfl,λ_ _=>trivial,by simp[invoke,go_sem,eg],λh=>by simp[WF,Fence.wide]at h,?_⟩;refine WF.calls.2 ?_;have am:=a0 X rfl rfl hX g0 ro (Yl σ π) Y E ro sI (λ_ z=>z) aj ⟨s0,ac,σ',hV,j0⟩;have an:(#[.func (.yield l) #[] #[]]++E.toArray:Array Value)=((Value.func (.yield X.l) #[] #[]::E)).toArray:=by simp[X]
 rw[an];refine Calls.mono am ?_;rintro e W' ⟨⟨v,rfl⟩,g2,qz,bh,az⟩;have fin:∀(H2:Qc) (st:LoopState) (pe:Option Code) (u:Nat->Prop) (σ2:Sig),st≠ .busy->RJ D u σ2 H2 st pe qz g2 W'->∃w4,(Instr.endLoop l).run P W'=.ok pe w4/\Rel D.fr1 u σ2 H2 env N {a with defers:=G++a.defers} w4/\Qe fr ro w u w4:=by
  intro H2 st pe u σ2 hst j;refine⟨_,run_endLoop j.rc (by exact hst),?_⟩;obtain⟨s5,ai⟩:=j.sim.put (obj:=.loop {(D.rc st pe)with state:=.exhausted}) hD.l1 (Qbs j.rc);have hr:=j.rc;refine⟨⟨s5,λt=>((j.env t).mono ⟨λ_ q=>q,λ_ _=>rfl,λ_ _ q=>q,λi b q=>QdX j.sig q⟩).mono (ai.ext0 σ2),r.size,j.marks.1,λd O=>?_⟩,j.ev.trans (ai.frMono λb q e=>ag (by have e':b=l:=e;rw[<- e'];exact q))⟩;obtain⟨B,e1,e2,e3⟩:=j.marks.2 d O;refine⟨B,e1,e2,(ai.keepFr B (λe=>?_)).trans e3⟩;subst e;rw[hr]at e3;cases e3
 have ay:Grow fr w a.defers D.fr1 (G++a.defers):=by
  refine⟨λb q=>.inl q,λb q=>q.imp id (λq=>q.1),λd O=>?_⟩;rcases VF.1 O with O|O
  .obtain⟨B,e1,e2,_⟩:=ak d O;exact .inr ⟨B,e1,e2⟩
  .exact .inl O
 have a2:∀{σ2:Sig},σ2.take H.length=σ->σ2.take h0=σ.take h0:=by
  intro σ2 h;have:=congrArg (List.take h0) h
  rwa [List.take_take,XC hh]at this
 rcases az with⟨s,u,σ2,M,R⟩|⟨rem,H2,c,u,σ2,M,R⟩
 .obtain⟨w4,f1,f2,f3⟩:=fin _ _ _ u σ2 (by intro e;cases e) R;exact⟨none,w4,f1,.normal,env,_,u,σ2,_,rfl,al s M,f2,f3,a2 R.sig,ay⟩
 .obtain⟨w4,f1,f2,f3⟩:=fin _ _ _ u σ2 (by intro e;cases e) R;refine⟨some c,w4,f1,?_⟩;have hc:TC P h0 N c env H2 Q:=by
   rcases M with⟨id,rfl,M⟩|⟨rfl,M⟩
   .exact TC.exit M
   .exact TC.ret M
  exact Code.wpIn_mono (λe a w q=>q.grow f3 (a2 R.sig) ay) (hc rd D.fr1 u σ2 _ w4 f2 (hrd.to f3 λb q=>.inl q))
end Go.Sw
namespace Go.Sw
theorem Qjn{h0 i k t T:Nat}{env:Env}{H:Qc}(hh:Nat.ble h0 H.length=true)(hH:H[i]?=some (.cells T [.nils])):Le h0 env H env (H.set i (.cells T [.osl H.length 0 0 k])++[.row t k []]):=by
 intro fr G σ N a w r;have E:h0<=H.length:=XT hh;have P:i<H.length:=(XN.1 hH).1;have ext:Ext G σ w G (σ++[none]) w:=⟨λ_ q=>q,λ_ _=>rfl,λ_ _ q=>q,λ_ _ h=>YO h⟩;have s:=r.sim.phantom t k;have p:(H++[Blk.row t k []])[i]?=some (.cells T [.nils]):=by rw[XO P];exact hH
 have R:H.set i (.cells T [.osl H.length 0 0 k])++[.row t k []]=(H++[Blk.row t k []]).set i (.cells T [.osl H.length 0 0 k]):=by
  rw[List.set_append_left _ _ P]
 have g:∀(j:Nat) (v:Blk),((H++[Blk.row t k []]).set i (.cells T [.osl H.length 0 0 k]))[j]?=some v->(j=i/\v=.cells T [.osl H.length 0 0 k])\/(j≠i/\(H++[Blk.row t k []])[j]?=some v):=by
  intro j v h;by_cases e:j=i
  .subst e;rw[Xa (by simp;omega)]at h;exact .inl ⟨rfl,by simpa using h.symm⟩
  .rw[XR (λq=>e q.symm)]at h;exact .inr ⟨e,h⟩
 have f:∀(j:Nat) (v:Blk),((H++[Blk.row t k []]).set i (.cells T [.osl H.length 0 0 k]))[j]?=some v->v.live=true->∃z,(H++[Blk.row t k []])[j]?=some z/\z.live=true:=by
  intro j v h hv;rcases g j v h with⟨rfl,rfl⟩|⟨_,h⟩
  .exact⟨_,p,rfl⟩
  .exact⟨v,h,hv⟩
 refine⟨G,σ++[none],⟨?_,λq=>(r.env q).mono ext,r.size,r.defers⟩,λ_ q=>q,Qy (by rw[r.sim.len];exact E)⟩;rw[R];refine⟨by rw[X6];exact s.len,s.roOk,s.frLt,s.roFr,λj b v u B L=>?_,λj M b v z u B L q4 Y V=>?_,λj y v u B=>?_,
  s.hidTo (· = ·) QY (XV _) (λ_ _ _ _ _ _ _ q=>q) (λ_ _ _ _ _ _ _ q=>q) λj d y m n Q=>.inl ?_⟩
 rotate_left 3
 .rcases g j y n with⟨rfl,rfl⟩|⟨_,h⟩
  .exact⟨j,_,rfl,m,p,λ_=>rfl,λ_ q=>q.elim⟩
  .exact⟨j,y,rfl,m,h,id,λ_ q=>q⟩
 .obtain⟨z,m,n⟩:=f j v B L;exact s.own j b z u m n
 .obtain⟨x,m,n⟩:=f j v L Y;obtain⟨X,J,F⟩:=f M z q4 V;exact s.inj j M b x X u B m J n F
 .rcases g j v B with⟨rfl,rfl⟩|⟨_,h⟩
  .have:=s.blk j y _ u p;cases y with
   |none=>exact this
   |some b=>
    obtain⟨l,m,⟨v1,O,rfl,n,Q⟩,W⟩:=this;refine⟨_,m,⟨v1,O,rfl,.inl ⟨rfl,n⟩,?_⟩,W⟩;obtain rfl:O=[]:=Q;rfl
  .exact s.blk j y v u h
theorem Qk5{h0 i:Nat}{env:Env}{H:Qc}{es:List (A×A)}(hH:H[i]?=some (.map es)):Le h0 env H env (H.set i (.fmap es)):=by
 intro e f σ N a w r;have d:∃s,σ[i]?=some s:=by
  have:i<σ.length:=by rw[r.sim.len];exact(XN.1 hH).1
  exact⟨_,XM this⟩
 obtain⟨s,d⟩:=d;cases s with
 |none=>exact(r.sim.blk i _ _ d hH).elim
 |some b=>
  refine⟨_,σ,⟨r.sim.shutMap d hH,λq=>(r.env q).mono ⟨λ_ q=>.inl q,λ_ _=>rfl,λ_ _ q=>q,λ_ _ q=>q⟩,r.size,r.defers⟩,λ_ q=>.inl q,rfl⟩
def anyN{T:Type}(l:List T)(x:T)(rem:List T):Prop:=l.Perm (x::rem)
def QnC(ts te:Nat)(ld:Op):Code:=.block 1 (.region 3 #[{dst:=some 8,op:=.load ts (.tmp 2),type:=ts,pos:="iter.go:52",after:= #[],guard:=none},{dst:=some 9,op:=ld,type:=te,pos:="iter.go:52",after:= #[],guard:=none},
 {dst:=some 10,op:=.buildSlice ts 1 #[(0,.tmp 9)],type:=ts,pos:="iter.go:52",after:= #[{on:=1,ground:=.data}],guard:=none},
 {dst:=some 11,op:=.call {callee:=.builtin .append,args:= #[.tmp 8,.tmp 10],argTypes:= #[ts,ts]},type:=ts,pos:="iter.go:52",after:= #[{on:=0,ground:=.data},{on:=2,ground:=.data}],guard:=none},
 {dst:=none,op:=.store ts (.tmp 2) (.tmp 11),type:=0,pos:="iter.go:52",after:= #[{on:=3,ground:=.data},{on:=3,ground:=.chain},{on:=0,ground:=.phase},{on:=1,ground:=.phase},{on:=2,ground:=.phase},{on:=3,ground:=.phase}],guard:=none}] false)
def Qp4(ts tq te:Nat)(asg:Code)(ld:Op):Code:=(Code.region 0 #[{dst:=some 2,op:=.box ts (.tmp 0),type:=0,pos:="iter.go:50",after:= #[],guard:=none},{dst:=some 4,op:=.assign (.const (.slice none 0 0)),type:=ts,pos:="iter.go:50",after:= #[],guard:=none}] false).seq
 (((Code.region 1 #[{dst:=some 6,op:=.move (.tmp 1),type:=tq,pos:="iter.go:51",after:= #[],guard:=none}] false).seq (.block 0 (.rangeFunc (.tmp 6) #[7] asg (QnC ts te ld)))).seq
  ((Code.region 4 #[{dst:=some 12,op:=.load ts (.tmp 2),type:=ts,pos:="iter.go:54",after:= #[],guard:=none},{dst:=some 4,op:=.assign (.tmp 12),type:=ts,pos:="iter.go:54",after:= #[{on:=0,ground:=.data},{on:=0,ground:=.phase}],guard:=none}] false).seq .ret))
def Qp5(te:Nat):Code:=.region 2 #[{dst:=some 5,op:=.assign (.tmp 7),type:=te,pos:="iter.go:51",after:= #[],guard:=none}] false
section
variable {P:Program} {T:Type} {ts tq te k tm:Nat} {g:FuncId} {es:List (A×A)} {e:T->List A} {ea:T->A} {xs:List T}
abbrev apH(ts te k tm:Nat)(es:List (A×A))(e:T->List A)(done:List T):Qc:=[.dead,.fmap es,.cells ts [.osl 3 0 done.length k],.row te k (done.map e)]
abbrev apE(g:FuncId):Env:=[(6,.fn (.func g) [] [.ptr 0 0]),(4,.nils),(2,.ptr 2 0),(0,.nils),(1,.fn (.func g) [] [.ptr 0 0])]
theorem QoJ{N:Nat}(L:N=13){done:List T}{x:T}{env:Env}{H:Qc}{K:Qc->Prop}{l:Op}(E:QO P ts te k)(G:∀w,(isAgg ts).run P w=.ok false w)(u:∀w,(sizeOf ts).run P w=.ok 1 w)(O:app done [x]=some (done++[x]))
  (R:(e x).length=k)(h:Nat.ble k 16777216=true)(b:Yh (ea x)=true)(g:Yt (ea x)=e x)(f:(e x).all Yz=true)(B:Ym (e x)=true)(V:Nat.ble 3 H.length=true)
  (r:lk env 2=.ptr 2 0)(j:H[2]?=some (.cells ts [.osl 3 0 done.length k]))(p:H[3]?=some (.row te k (done.map e)))
  (d:∀env',(∀s,s≠8->lk env' s=lk env s)->∀pos,OpV P {dst:=some 9,op:=l,type:=te,pos:=pos,after:= #[],guard:=none} env' H (ea x))
  (M:∀env',∃H2,Le 3 env' (((((H++[Blk.row te k [e x]]).set 3 .dead)++[Blk.row te k ((done++[x]).map e)]).set 2 (.cells ts [.osl (H.length+1) 0 (done++[x]).length k]))) [] H2/\K H2){env0:Env}{Q:QA}:
  TC P 3 N (QnC ts te l) env H (Qkf 3 env0 Q K):=by
 subst L;have J:3<=H.length:=XT V;have z:3<H.length:=(XN.1 p).1;refine TC.block (TC.region ?_);refine QK rfl rfl rfl (OpV.load (v:=.osl 3 0 done.length k) (cs:=[]) rfl G r (Pts.cells j rfl)) ?_;refine QK rfl rfl rfl (x:=ea x) ?_ ?_
 .refine d _ (λs F=>?_) _;simp only[up,lk];have:Nat.beq s 8=false:=by
   rw[VO];intro q;exact F (XS q)
  rw[this];rfl
 refine Y8 (by omega) rfl rfl rfl (OpH.lit (xs:=[.tmp 9]) (es:=[e x]) E rfl rfl (by simpa using h) ?_ ?_ ⟨R,trivial⟩ (by simpa using f) (by simpa using B)) ?_
 .simp[opA,lk,up,b]
 .simp[QG,opA,lk,up,g]
 refine Y8 (x:=.osl (H.length+1) 0 (done++[x]).length k) (H':=((H++[Blk.row te k [e x]]).set 3 .dead)++[Blk.row te k ((done++[x]).map e)]) (by simp;omega) rfl rfl rfl ?_ ?_
 .have:=QB (P:=P) (o:={dst:=some 11,op:=.call {callee:=.builtin .append,args:= #[.tmp 8,.tmp 10],argTypes:= #[ts,ts]},type:=ts,pos:="iter.go:52",after:= #[{on:=0,ground:=.data},{on:=2,ground:=.data}],guard:=none})
   (env:=up (up (up env 8 (.osl 3 0 done.length k)) 9 (ea x)) 10 (.osl H.length 0 1 k)) (H:=H++[Blk.row te k [e x]]) (x:=.tmp 8) (y:=.tmp 10) (e:=e) (m:=[x]) (i:=3) (n:=done.length) (ya:=.osl H.length 0 1 k) O E E.sl (YP (t:=te) (by simp) rfl) rfl rfl rfl rfl (by rw[XO z];exact p) rfl
  simpa using this
 refine QbC (by simp;omega) rfl rfl (OpU.store (i:=2) (off:=0) (T:=ts) (n:=1) (cs:=[.osl 3 0 done.length k]) (vs:=[.osl (H.length+1) 0 (done++[x]).length k]) (cs':=[.osl (H.length+1) 0 (done++[x]).length k]) (v:=.osl (H.length+1) 0 (done++[x]).length k) rfl ?_ ?_ u rfl rfl rfl rfl rfl rfl rfl) ?_
 .exact r
 .have a:2<H.length:=by omega
  rw[XO (by simp;omega),XR (by decide),XO a];exact j
 .refine WO.nil ?_;exact M _
theorem QnB{xs done l rem:List T}{x:T}(hl:Nat.ble xs.length Qv=true)(a:(done++l).Perm xs)(b:l.Perm (x::rem)):app done [x]=some (done++[x])/\((done++[x])++rem).Perm xs:=by
 have e:=a.length_eq;have d:=b.length_eq;have f:=XT hl;simp at e d;refine⟨?_,?_⟩
 .unfold app;have:Nat.ble (done.length+[x].length) Qv=true:=XU (by simp;omega);rw[this];rfl
 .refine List.Perm.trans ?_ a;simp only[Vk,List.singleton_append];exact(List.Perm.append_left done b).symm
theorem Qg2{m:FuncId}{fn:Func}(u:P.funcs[m]?=some fn)(J:fn.body=some (Qp4 ts tq te (Qp5 te) (.move (.tmp 5))))(B:fn.ntmps=13)(F:fn.results= #[.tmp 4])(E:QO P ts te 1)(j:∀w,(isAgg ts).run P w=.ok false w)(n:∀w,(sizeOf ts).run P w=.ok 1 w)
  (z:∀args w,(callFunc g args).run P w=.ok (.enter g args) w)(b:Qjc P g [.ptr 0 0] [.cells tm [.map 1],.fmap es] (λx=>[ea x]) anyN xs)(hl:Nat.ble xs.length Qv=true)
  (M:∀x,QbR (ea x)=true)(e:∀x,Yh (ea x)=true)(h:∀x,Yt (ea x)=[ea x])(f:∀x,Yz (ea x)=true)(q:∀x,Yw (ea x)=true):
  C P m [.nils,.fn (.func g) [] [.ptr 0 0]] [.cells tm [.map 1],.fmap es] (λr H1=>∃p:List T,p.Perm xs/\r=.osl 2 0 p.length 1/\H1=[.dead,.fmap es,.row te 1 (p.map λx=>[ea x])]):=by
 refine Qb u J B rfl ?_;refine TC.seq (TC.region ?_);refine Y8 (XT rfl) rfl rfl rfl (OpH.box (v:=.nils) (cs:=[.nils]) rfl rfl rfl rfl rfl) ?_;refine QK rfl rfl rfl (OpV.assign (v:=.nils) rfl rfl) ?_;refine WO.nil ?_;refine TC.seq (TC.seq (TC.region ?_));refine QK rfl rfl rfl (OpV.move (v:=.fn (.func g) [] [.ptr 0 0]) rfl rfl) ?_;refine WO.nil ?_;refine TC.block ?_;refine TC.rangeFunc (env:=apE g) (ps:=[7]) (S:=List T) [0,1] (apH ts te 1 tm es (λx=>[ea x])) (λdone l=>(done++l).Perm xs) [] (XT rfl) rfl rfl rfl (by decide) rfl z b (λx=>rfl) ?_ (List.Perm.refl _) ?_ ?_
 .exact Qjn (h0:=3) (i:=2) (t:=te) (k:=1) (H:=[.dead,.fmap es,.cells ts [.nils]]) rfl rfl
 .intro done l x rem d s;obtain⟨L,G⟩:=QnB hl d s;refine TC.region (QK rfl rfl rfl (OpV.assign (v:=ea x) rfl rfl) (WO.nil ⟨rfl,?_⟩));refine QoJ (ea:=ea) rfl E j n L rfl rfl (e x) (h x) (by simp[f x]) (by simp[Ym,q x]) rfl rfl rfl rfl ?_ ?_
  .intro a y pos;exact OpV.move rfl (by show lk a 5=ea x;rw[y 5 (by decide)];rfl)
  .intro a;exact⟨_,Lr (H':=apH ts te 1 tm es (λx=>[ea x]) (done++[x])) [0,1,2,5],_,G,rfl⟩
 .intro done d;rw[Vi]at d;refine TC.seq (TC.region ?_);refine QK rfl rfl rfl (OpV.load (v:=.osl 3 0 done.length 1) (cs:=[]) rfl j rfl (Pts.cells rfl rfl)) ?_;refine QK rfl rfl rfl (OpV.assign (v:=.osl 3 0 done.length 1) rfl rfl) ?_;refine WO.nil ?_;refine TC.ret ?_;exact⟨[(4,.osl 2 0 done.length 1)],[.dead,.fmap es,.row te 1 (done.map λx=>[ea x])],_,Lr [0,1,3],Qdl.one F rfl,done,d,rfl,rfl⟩
end
theorem TCy.le{T:Type}{X:Ctx T}{P:Program}{h0 N:Nat}{c:Code}{env env':Env}{H H':Qc}{st:YSt T}{Q:YJ T}(f:Le h0 env H env' H')(h:TCy X P h0 N c env' H' st Q):TCy X P h0 N c env H st Q:=by
 intro m n l p σ a w g r hj hrd;obtain⟨i,σ',x,s,t⟩:=f l p σ N a w r;obtain⟨⟨u,k,d⟩,j⟩:=hj;exact Code.wpIn_mono (λe a w q=>q.grow s (XV _) t (Grow.refl _ _ _)) (h m n l i σ' a w g x ⟨⟨u,λb z=>s b (k b z),d⟩,j⟩ hrd)
mutual
theorem Qic:∀{a:A},QbR a=true->Yw a=true
 |.any,_=>rfl
 |.bool _,_=>rfl
 |.int _ _,_=>rfl
 |.str _,_=>rfl
 |.nilp,_=>rfl
 |.ptr _ _,h=>by simp[QbR]at h
 |.rp _,_=>rfl
 |.nils,_=>rfl
 |.rsl _ _,_=>rfl
 |.osl _ _ _ _,h=>by simp[QbR]at h
 |.agg cs,h=>by simp only[QbR]at h;simp only[Yw];exact Qgh h
 |.fn _ a c,h=>by simp[QbR]at h
 |.nilf,_=>rfl
 |.iface _ v,h=>by simp[QbR]at h
 |.nilif,_=>rfl
 |.map _,h=>by simp[QbR]at h
 |.nilm,_=>rfl
 |.tup vs,h=>by simp[QbR]at h
theorem Qgh:∀{l:List A},QeT l=true->Ym l=true
 |[],_=>rfl
 |a::r,h=>by
  simp only[QeT,XY]at h;simp only[Ym,XY];exact⟨Qic h.1,Qgh h.2⟩
end
theorem Qh1{P:Program}{o:Oper}{env:Env}{H:Qc}{y z:Operand}{l:Nat}{a:A}{k:Array TypeId}(j:o.op=.call {callee:=.value y,args:= #[z],argTypes:=k})(n:opA env y=.fn (.yield l) [] [])(e:opA env z=a)(i:Yw a=true){N:Nat}:
  ∀fr ro σ act w,Rel fr ro σ H env N act w->∃vs:List Value,LR ro [] w [a] vs/\(execOp act.eval o).run P w=(Instr.yield l vs.toArray).run P w:=by
 intro fr ro σ act w r;have b:=Qd r y;rw[n]at b;obtain⟨h,f,b,g,m⟩:=b;obtain rfl:h=[]:=g;obtain rfl:f=[]:=m;have d:=Qd r z;rw[e]at d;refine⟨[act.eval z],⟨_,_,rfl,VR.data i d,rfl⟩,?_⟩;generalize act.eval=ev at*;simp[execOp,j,resolve,invoke,go_sem,b]
theorem Qld{P:Program}{o:Oper}{env:Env}{H:Qc}{y a d:Operand}{l:Nat}{h e:A}{u:Array TypeId}(t:o.op=.call {callee:=.value y,args:= #[a,d],argTypes:=u})(s:opA env y=.fn (.yield l) [] [])(i:opA env a=h)(j:opA env d=e)(g:Yw h=true)(f:Yw e=true){N:Nat}:
  ∀fr ro σ act w,Rel fr ro σ H env N act w->∃vs:List Value,LR ro [] w [h,e] vs/\(execOp act.eval o).run P w=(Instr.yield l vs.toArray).run P w:=by
 intro fr ro σ act w r;have b:=Qd r y;rw[s]at b;obtain⟨q,n,b,p,x⟩:=b;obtain rfl:q=[]:=p;obtain rfl:n=[]:=x;have m:=Qd r a;rw[i]at m;have k:=Qd r d;rw[j]at k;refine⟨[act.eval a,act.eval d],⟨_,_,rfl,VR.data g m,_,_,rfl,VR.data f k,rfl⟩,?_⟩;generalize act.eval=ev at*;simp[execOp,t,resolve,invoke,go_sem,b]
def QmX(tm tb ty tk:Nat)(asg:Array Oper)(ld:Op):Code:=
 (Code.region 0 #[{dst:=some 4,op:=.load tm (.tmp 1),type:=tm,pos:="iter.go:27",after:= #[],guard:=none},{dst:=some 5,op:=.range tm (.tmp 4),type:=0,pos:="iter.go:27",after:= #[{on:=0,ground:=.data}],guard:=none}] false).seq
 (.block 0 (Code.loop ((Code.region 1 #[{dst:=some 6,op:=.next (.tmp 5) false,type:=0,pos:="iter.go:27",after:= #[],guard:=none},{dst:=some 7,op:=.extract (.tmp 6) 0,type:=tb,pos:="iter.go:27",after:= #[{on:=0,ground:=.data}],guard:=none}] false).seq
  ((Code.cond (.tmp 7) .skip (.exit 0)).seq (.block 1 ((Code.region 2 asg false).seq
   ((Code.region 3 #[{dst:=some 10,op:=.move (.tmp 0),type:=ty,pos:="iter.go:28",after:= #[],guard:=none},{dst:=some 11,op:=ld,type:=tk,pos:="iter.go:28",after:= #[],guard:=none},
    {dst:=some 12,op:=.call {callee:=.value (.tmp 10),args:= #[.tmp 11],argTypes:= #[tk]},type:=tb,pos:="iter.go:28",after:= #[{on:=0,ground:=.data},{on:=1,ground:=.data}],guard:=none},
    {dst:=some 13,op:=.unOp .not tb (.tmp 12),type:=tb,pos:="iter.go:28",after:= #[{on:=2,ground:=.data}],guard:=none}] false).seq (.cond (.tmp 13) .ret .skip))))))))
def QpN(tk:Nat):Array Oper:= #[{dst:=some 8,op:=.entry (.tmp 5),type:=0,pos:="iter.go:27",after:= #[],guard:=none},{dst:=some 9,op:=.extract (.tmp 8) 0,type:=tk,pos:="iter.go:27",after:= #[{on:=0,ground:=.data}],guard:=none},
 {dst:=some 3,op:=.assign (.tmp 9),type:=tk,pos:="iter.go:27",after:= #[{on:=1,ground:=.data},{on:=0,ground:=.phase},{on:=1,ground:=.phase}],guard:=none}]
section
variable {P:Program} {K V:Type} {tm tb ty tk kt et:Nat} {ek:K->A} {ev:V->A} {m:List (K×V)} {T:Type}
abbrev kyE(l:Nat):Env:=[(0,.fn (.yield l) [] []),(1,.ptr 0 0),(5,.ptr 2 0)]
abbrev kyH(tm:Nat)(ek:K->A)(ev:V->A)(m l:List (K×V)):Qc:=[.cells tm [.map 1],.fmap (Qm ek ev m),.iter none (Qm ek ev l)]
theorem Qlr{g:FuncId}{fn:Func}{f:Array Oper}{r:Op}(L:P.funcs[g]?=some fn)(O:fn.body=some (QmX tm tb ty tk f r))(M:fn.ntmps=14)(R:fn.results= #[])(E:∀w,(isAgg tm).run P w=.ok false w)(F:P.underlying tm=some (.map kt et))(B:∀x,QbR (ek x)=true)
  (round:∀(X:Ctx K) (e:K×V) (l:List (K×V)) (env:Env) (H:Qc) (st:YSt K) (Q:YJ K),lk env 0=.fn (.yield X.l) [] []->lk env 1=.ptr 0 0->lk env 5=.ptr 2 0->H=[.cells tm [.map 1],.fmap (Qm ek ev m),.iter (some (ek e.1,ev e.2)) (Qm ek ev l)]->
   (∀env' H',lk env' 0=.fn (.yield X.l) [] []->lk env' 1=.ptr 0 0->lk env' 5=.ptr 2 0->(∀env2 b,lk env2 0=.fn (.yield X.l) [] []->lk env2 1=.ptr 0 0->lk env2 5=.ptr 2 0->Le 2 (up (up env2 12 (.bool b)) 13 (.bool (!b))) H' (kyE X.l) (kyH tm ek ev m l))->
    (∀pos env2,(∀s,s≠10->lk env2 s=lk env' s)->OpV P {dst:=some 11,op:=r,type:=tk,pos:=pos,after:= #[],guard:=none} env2 H' (ek e.1))->Nat.ble 2 H'.length=true->Q .normal env' H' st)->
   TCy X P 2 14 (.region 2 f false) env H st Q):
  Qjc P g [.ptr 0 0] [.cells tm [.map 1],.fmap (Qm ek ev m)] (λx=>[ek x]) anyN (m.map Prod.fst):=by
 refine Qdj L O M rfl R ?_;intro X hE hNx;refine TCy.seq (TCy.lift (TC.region ?_));refine QK rfl rfl rfl (OpV.load (v:=.map 1) (cs:=[]) rfl E rfl (Pts.cells rfl rfl)) ?_;refine Y8 (XT rfl) rfl rfl rfl (QfX F) ?_;refine WO.nil ?_;refine TCy.block ?_;refine QgV (I:=λn env H st=>∃l:List (K×V),l.length=n/\st=.on (l.map Prod.fst)/\Le 2 env H (kyE X.l) (kyH tm ek ev m l)) ?_ ⟨m,rfl,rfl,Lr [0,1,2]⟩;rintro n env H st ⟨l,G,rfl,i⟩;refine TCy.le i ?_;refine TCy.seq (TCy.lift (TC.region ?_));refine Qkd (XT rfl) rfl rfl rfl (OpE.next rfl rfl rfl) ?_;rintro v H' (⟨k,rfl,rfl⟩|⟨T,J,k,rfl,rfl⟩)
 .have u:l=[]:=List.map_eq_nil_iff.1 k;subst u;refine QK rfl rfl rfl (OpV.extract (v:=.bool false) rfl rfl rfl) ?_;refine WO.nil ?_;refine TCy.seq (TCy.cond (t:=false) rfl (λe=>by cases e) (λ_=>?_));exact TCy.exit ⟨.inl rfl,.inl rfl⟩
 .obtain⟨N,p,j⟩:=Qgp k rfl;cases N with
  |nil=>cases j
  |cons e h=>
   simp only[Vl,List.cons.injEq]at j;obtain⟨rfl,rfl⟩:=j;have d:h.length<n:=by rw[<- G, <- p.length_eq];simp
   refine QK rfl rfl rfl (OpV.extract (v:=.bool true) rfl rfl rfl) ?_;refine WO.nil ?_;refine TCy.seq (TCy.cond (t:=true) rfl (λ_=>?_) (λe=>by cases e));refine TCy.skip ?_;refine TCy.block ?_;refine TCy.seq (round X e h _ _ _ _ rfl rfl rfl rfl ?_);intro env' H' g0 g1 g5 hfin hld hL;refine TCy.seq (TCy.region ?_);refine WOy.step (QK rfl rfl rfl (OpV.move (v:=.fn (.yield X.l) [] []) rfl g0) (WO.nil ⟨rfl,?_⟩));refine WOy.step (QK rfl rfl rfl (x:=ek e.1) (hld _ _ λs q=>?_) (WO.nil ⟨rfl,?_⟩))
   .simp only[up,lk];have:Nat.beq s 10=false:=by rw[VO];intro z;exact q (XS z)
    rw[this];rfl
   refine WOy.yield (x:=e.1) (rem:=h.map Prod.fst) ?_ rfl rfl rfl ?_ ?_
   .rw[hNx];exact p.symm.map Prod.fst
   .rw[hE];refine Qh1 (y:=.tmp 10) (z:=.tmp 11) (l:=X.l) (a:=ek e.1) rfl ?_ ?_ (Qic (B _))
    .rfl
    .rfl
   .intro b;refine WOy.step (QK rfl rfl rfl (OpV.not (b:=b) rfl rfl) (WO.nil ⟨rfl,?_⟩));refine WOy.nil ?_;refine TCy.cond (t:= !b) rfl (λq=>?_) (λq=>?_)
    .obtain rfl:b=false:=by simpa using q
     exact TCy.ret ⟨.inr rfl,.inr ⟨_,rfl⟩⟩
    .obtain rfl:b=true:=by simpa using q
     refine TCy.skip ?_;exact⟨_,d,h,rfl,rfl,hfin _ true g0 g1 g5⟩
theorem QfN{g:FuncId}{fn:Func}(t:P.funcs[g]?=some fn)(q:fn.body=some (QmX tm tb ty tk (QpN tk) (.move (.tmp 3))))(h:fn.ntmps=14)(s:fn.results= #[])(k:∀w,(isAgg tm).run P w=.ok false w)(r:P.underlying tm=some (.map kt et))(n:∀x,QbR (ek x)=true):
  Qjc P g [.ptr 0 0] [.cells tm [.map 1],.fmap (Qm ek ev m)] (λx=>[ek x]) anyN (m.map Prod.fst):=by
 refine Qlr (et:=et) (kt:=kt) t q h s k r n ?_;intro X e l env H st Q g0 g1 g5 hH hk;subst hH;refine TCy.lift (TC.region ?_);refine QK rfl rfl rfl (OpV.entry (e:=(ek e.1,ev e.2)) rfl g5 rfl) ?_;refine QK rfl rfl rfl (OpV.extract (v:=ek e.1) rfl rfl rfl) ?_;refine QK rfl rfl rfl (OpV.assign (v:=ek e.1) rfl rfl) ?_;refine WO.nil ?_;refine hk _ _ g0 g1 g5 ?_ ?_ rfl
 .intro a b d j p;exact Le.trans (QgY (i:=2) (es:=Qm ek ev l) rfl rfl) (Lr [0,1,2] (hE:=⟨d,j,p,trivial⟩))
 .intro pos a f;exact OpV.move rfl (by show lk a 3=_;rw[f 3 (by decide)];rfl)
end
def Qp0(ts tq fA:Nat):Code:=(Code.region 0 #[{dst:=some 2,op:=.assign (.const (.slice none 0 0)),type:=ts,pos:="iter.go:59",after:= #[],guard:=none}] false).seq
 ((Code.region 1 #[{dst:=some 3,op:=.move (.tmp 0),type:=tq,pos:="iter.go:60",after:= #[],guard:=none},
  {dst:=some 4,op:=.call {callee:=.value (.func fA),args:= #[.const (.slice none 0 0),.tmp 3],argTypes:= #[ts,tq]},type:=ts,pos:="iter.go:60",after:= #[{on:=0,ground:=.data}],guard:=none},
  {dst:=some 2,op:=.assign (.tmp 4),type:=ts,pos:="iter.go:60",after:= #[{on:=1,ground:=.data},{on:=1,ground:=.chain},{on:=0,ground:=.phase},{on:=1,ground:=.phase}],guard:=none}] false).seq .ret)
theorem Qg1{P:Program}{T:Type}{i j f k l:Nat}{g:FuncId}{es:List (A×A)}{e:T->List A}{xs:List T}{fC a:FuncId}{fn:Func}(u:P.funcs[fC]?=some fn)(n:fn.body=some (Qp0 i j a))(m:fn.ntmps=5)(q:fn.results= #[.tmp 2])
  (b:∀(env:Env) (H:Qc),lk env 3=.fn (.func g) [] [.ptr 0 0]->OpC P {dst:=some 4,op:=.call {callee:=.value (.func a),args:= #[.const (.slice none 0 0),.tmp 3],argTypes:= #[i,j]},type:=i,pos:="iter.go:60",after:= #[{on:=0,ground:=.data}],guard:=none} env H a [.nils,.fn (.func g) [] [.ptr 0 0]])
  (s:C P a [.nils,.fn (.func g) [] [.ptr 0 0]] [.cells l [.map 1],.fmap es] (λr H1=>∃p:List T,p.Perm xs/\r=.osl 2 0 p.length k/\H1=[.dead,.fmap es,.row f k (p.map e)])):
  C P fC [.fn (.func g) [] [.ptr 0 0]] [.cells l [.map 1],.fmap es] (λr H1=>∃p:List T,p.Perm xs/\r=.osl 2 0 p.length k/\H1=[.dead,.fmap es,.row f k (p.map e)]):=by
 refine Qb u n m rfl ?_;refine TC.seq (TC.region ?_);refine QK rfl rfl rfl (OpV.assign (v:=.nils) rfl rfl) ?_;refine WO.nil ?_;refine TC.seq (TC.region ?_);refine QK rfl rfl rfl (OpV.move (v:=.fn (.func g) [] [.ptr 0 0]) rfl rfl) ?_;refine WO.call (d:=some 4) [0,1] (XT rfl) rfl rfl (λx h=>by cases h;decide) (b _ _ rfl) rfl rfl (by decide) s ?_;rintro r H1 ⟨p,t,rfl,rfl⟩;refine QK rfl rfl rfl (OpV.assign (v:=.osl 2 0 p.length k) rfl rfl) ?_;refine WO.nil ?_;refine TC.ret ?_;exact⟨[(2,.osl 2 0 p.length k)],[.dead,.fmap es,.row f k (p.map e)],_,Lr [0,1,2],Qdl.one q rfl,p,t,rfl,rfl⟩
def QnD{K R:Type}[DecidableEq R](l:List K)(k:List K->Option R):Option R:=bif Nat.ble l.length Qv then anyP k l else none
theorem Qk0{K R:Type}[DecidableEq R]{l:List K}{k:List K->Option R}{r:R}(h:QnD l k=some r):Nat.ble l.length Qv=true/\ ∀p,p.Perm l->k p=some r:=by
 unfold QnD at h;cases q:Nat.ble l.length Qv with
 |true=>rw[q]at h;exact⟨rfl,QkY h⟩
 |false=>rw[q]at h;cases h
end Go.Sw
namespace Go.Sw
section
variable {P:Program} {o:Oper} {env:Env} {H:Qc} {fr ro:Nat->Prop} {σ:Sig} {w:World}
theorem Ql9{h0 i t b1 b2:Nat}{es:List (List A)}{l:List Ent}(hH:H[i]?=some (.rowr t 3 es))(he:l.map (eC b1 b2)=es):Le h0 env H env (H.set i (.ents t b1 b2 l)):=by
 subst he;intro e d σ N a w r;refine⟨d,σ,⟨r.sim.weaken (x':=.ents t b1 b2 l) hH rfl ?_,r.env,r.size,r.defers⟩,λ_ q=>q,rfl⟩;intro y h;cases y with
 |none=>exact h.elim
 |some b=>exact h
theorem Qdb{b1 b2:Nat}:∀(l:List Ent),allK 3 (l.map (eC b1 b2))
 |[]=>trivial
 |e::l=>⟨rfl,Qdb l⟩
theorem Sim.phantomE(s:Sim fr ro σ H w)(t b1 b2:Nat):Sim fr ro (σ++[none]) (H++[.ents t b1 b2 []]) w:=by
 have ext:Ext ro σ w ro (σ++[none]) w:=⟨λ_ q=>q,λ_ _=>rfl,λ_ _ q=>q,λ_ _ h=>YO h⟩;have F:=s.len;have a:∀(j:Nat) (v:Blk),(H++[Blk.ents t b1 b2 []])[j]?=some v->(j<H.length/\H[j]?=some v)\/(j=H.length/\v=.ents t b1 b2 []):=by
  intro j v h;rcases Nat.lt_trichotomy j H.length with q|q|q
  .rw[XO q]at h;exact .inl ⟨q,h⟩
  .subst q;simp at h;exact .inr ⟨rfl,h.symm⟩
  .rw[XQ (by simp;omega)]at h;cases h
 have hσ:∀(j:Nat) (z:Option Nat),(σ++[none])[j]?=some z->(j<σ.length/\σ[j]?=some z)\/(j=σ.length/\z=none):=by
  intro j z h;rcases Nat.lt_trichotomy j σ.length with q|q|q
  .rw[XO q]at h;exact .inl ⟨q,h⟩
  .subst q;simp at h;exact .inr ⟨rfl,h.symm⟩
  .rw[XQ (by simp;omega)]at h;cases h
 refine⟨by simp[F],s.roOk,s.frLt,s.roFr,λi b x k g m=>?_,λi j b x y k g m u J B=>?_,λi z x k g=>?_,
  s.hidTo (· = ·) QY (XV _) (λ_ _ _ _ _ _ _ q=>q) (λ_ _ _ _ _ _ _ q=>q) λj d y E L M=>.inl ?_⟩
 rotate_left 3
 .rcases hσ j _ E with⟨l,f⟩|⟨_,r⟩
  .rcases a j y L with⟨_,e⟩|⟨e,_⟩
   .exact⟨j,y,rfl,f,e,id,λ_ q=>q⟩
   .omega
  .cases r
 .rcases hσ i _ k with⟨l,f⟩|⟨_,r⟩
  .rcases a i x g with⟨_,e⟩|⟨e,_⟩
   .exact s.own i b x f e m
   .omega
  .cases r
 .rcases hσ i _ k with⟨l,f⟩|⟨_,r⟩
  .rcases hσ j _ g with⟨G,n⟩|⟨_,r⟩
   .rcases a i x m with⟨_,e⟩|⟨e,_⟩
    .rcases a j y u with⟨_,p⟩|⟨p,_⟩
     .exact s.inj i j b x y f n e p J B
     .omega
    .omega
   .cases r
  .cases r
 .rcases hσ i _ k with⟨l,f⟩|⟨l,rfl⟩
  .rcases a i x g with⟨_,e⟩|⟨e,_⟩
   .exact(s.blk i z x f e).keep ext (λ_ _ _=>rfl) (λ_ _ _ _=>rfl)
   .omega
  .rcases a i x g with⟨e,_⟩|⟨_,rfl⟩
   .omega
   .rfl
theorem Le.phantomE{h0 i m t T b1 b2:Nat}{cs:List A}(B:Nat.ble h0 H.length=true)(hH:H[i]?=some (.cells T cs))(e:cs[m]?=some .nils):
  Le h0 env H env (H.set i (.cells T (cs.set m (.osl H.length 0 0 3)))++[.ents t b1 b2 []]):=by
 intro G j σ N a w r;have f:h0<=H.length:=XT B;have u:i<H.length:=(XN.1 hH).1;have ext:Ext j σ w j (σ++[none]) w:=⟨λ_ q=>q,λ_ _=>rfl,λ_ _ q=>q,λ_ _ h=>YO h⟩;have s:=r.sim.phantomE t b1 b2;have d:(H++[Blk.ents t b1 b2 []])[i]?=some (.cells T cs):=by rw[XO u];exact hH
 have k:H.set i (.cells T (cs.set m (.osl H.length 0 0 3)))++[.ents t b1 b2 []]=(H++[Blk.ents t b1 b2 []]).set i (.cells T (cs.set m (.osl H.length 0 0 3))):=by
  rw[List.set_append_left _ _ u]
 rw[k];refine⟨j,σ++[none],⟨s.weaken d rfl ?_,λq=>(r.env q).mono ext,r.size,r.defers⟩,λ_ q=>q,Qy (by rw[r.sim.len];exact f)⟩;intro y h;cases y with
 |none=>exact h
 |some b=>
  obtain⟨l,n,E,x⟩:=h;refine⟨l,n,?_,x⟩;clear n x d k hH
  induction cs generalizing m l with
  |nil=>cases e
  |cons c cs F=>
   obtain⟨v,g,rfl,z,p⟩:=E;cases m with
   |zero=>
    simp at e;subst e;exact⟨v,g,rfl,.inl ⟨rfl,z⟩,p⟩
   |succ m=>exact⟨v,g,rfl,z,F (by simpa using e) g p⟩
theorem QU{h0 i m T:Nat}{cs:List A}(hH:H[i]?=some (.cells T cs)):Le h0 env H env (H.set i (.cells T (cs.set m .any))):=by
 intro s n σ N a w r;refine⟨n,σ,⟨r.sim.weaken hH rfl ?_,r.env,r.size,r.defers⟩,λ_ q=>q,rfl⟩;intro y h;cases y with
 |none=>exact h
 |some b=>
  obtain⟨l,e,f,g⟩:=h;refine⟨l,e,?_,g⟩;clear e g hH
  induction cs generalizing m l with
  |nil=>exact f
  |cons c cs p=>
   obtain⟨v,d,rfl,k,j⟩:=f;cases m with
   |zero=>exact⟨v,d,rfl,trivial,j⟩
   |succ m=>exact⟨v,d,rfl,k,p d j⟩
theorem srcE{j m t b1 b2:Nat}{l:List Ent}{v:Value}(s:Sim fr ro σ H w)(hH:H[j]?=some (.ents t b1 b2 l))(e:l.length=m)(h:VR ro σ w (.osl j 0 m 3) v):
  (∃a c,v=.slice a m c)/\ ∃vs:List Value,(∀w':World,w'.heap=w.heap->(Builtin.firstCells 3 m v).run P w'=.ok vs.toArray w')/\LR ro σ w (l.map (eC b1 b2)).flatten vs/\ ∀v∈vs,Qn v:=by
 rcases h with⟨rfl,rfl⟩|⟨b,p,d,G,L,y,rfl,r,F,J,z⟩
 .have:l=[]:=VL.1 e;subst this;exact⟨⟨none,0,rfl⟩,[],λ_ _=>YW,rfl,by simp⟩
 .refine⟨⟨_,d,rfl⟩,?_⟩;obtain⟨B,i,g⟩:=s.blk j _ _ y hH;have u:=YS (pre:=[]) (by simpa using i) g;by_cases f:0<d
  .obtain rfl:=r f;obtain⟨x,E,q⟩:=u.flat;have:=Qb8 (P:=P) (k:=3) (n:=m) (c:=d) x (by rw[q];simp[e]);simpa using this
  .obtain rfl:m=0:=by omega
   have:l=[]:=VL.1 e;subst this;exact⟨[],λ_ _=>YW,rfl,by simp⟩
theorem QnS{c:Call}{T T' t e' i j n m b1 b2:Nat}{x y:Operand}{l k:List Ent}(E:QO P T t 3)(hd:∀w,(underlying T').run P w=.ok (.slice e') w)(G:Nat.ble (l.length+k.length) Qv=true)(ac:Nat.blt 0 n=true)
  (ho:o.op=.call c:=by exact rfl)(hc:c={callee:=.builtin .append,args:= #[x,y],argTypes:= #[T,T']}:=by exact rfl)(hx:opA env x=.osl i 0 n 3:=by exact rfl)(hH:H[i]?=some (.ents t b1 b2 l):=by exact rfl)(hn:l.length=n:=by exact rfl)
  (hy:opA env y=.osl j 0 m 3:=by exact rfl)(hHj:H[j]?=some (.ents t b1 b2 k):=by exact rfl)(hm:k.length=m:=by exact rfl):
  OpH P o env H (.osl H.length 0 (l++k).length 3) (H.set i .dead++[.ents t b1 b2 (l++k)]):=by
 intro fr s σ N a w r;have Q:=XT G;have ag:0<n:=by simpa using ac
 have B:=Qd r x;rw[hx]at B;have h2:=Qd r y;rw[hy]at h2;obtain⟨⟨ay,cy,R⟩,vs,q3,q4,W⟩:=srcE (P:=P) r.sim hHj hm h2;rw[R]at q3;obtain⟨_,e,o1,o2,o3⟩:=srcE (P:=P) r.sim hH hn B;have L:i<H.length:=(XN.1 hH).1;have ah:(H.set i .dead).length=H.length:=X6;rw[X5,hn,hm];rcases B with⟨q,_⟩|⟨b,p,cap,t',mm,h3,B,h4,h5,h6,h7⟩
 .omega
 have J:=r.sim.blk i _ _ h3 hH;obtain⟨lb,V,g2⟩:=J;have u:vs.length=m*3:=by rw[q4.length,YD (Qdb k)];simp[hm]
 have aa:e.length=n*3:=by rw[o2.length,YD (Qdb l)];simp[hn]
 rw[B]at o1;by_cases h:n+m<=cap
 .obtain rfl:p=0*3:=h4 (by omega);have g:=QcR (t:=o.type) E hd (ad:=some ⟨b,0*3,none⟩) (n:=n) (m:=m) (cap:=cap) (c:=cy) (ax:=ay) h (q3 w rfl);have z:(n+m)*3<=lb.length:=by
   have:w.shape? b=some (t,lb.length):=by unfold World.shape?;rw[V];simp
   rw[this]at h6;cases h6;exact XX (XD 3 h) (by simpa using h7)
  rw[XB]at z;have af:=Ys (P:=P) (vs:=vs) (n*3) 0 V (by rw[u];simpa using z) W;have f:=r.sim.set (x':=.ents t b1 b2 (l++k)) (obj:=.cells (splice lb (n*3) vs).toArray t (0,0)) h3 hH rfl
   (λy hy=>QaI V (Yn (by rw[u];exact z)) y hy)
   (λex O=>⟨_,O,by
    have:=(g2.app (n:=n) (by simp[hn]) (Qdb k) q4 W).mono ex;rw[VK (by simp[hn])]at this;rw[Xg];exact this⟩)
  have sm:=f.1.moved (i:=i) (Xa L) h3;rw[List.set_set]at sm;refine⟨.slice (some ⟨b,0*3,none⟩) (n+m) cap,_,s,[some b],?_,.inr ⟨b,0*3,cap,t',mm,?_,rfl,h4,h,?_,h7⟩,sm,f.2⟩
  .refine Y7 ho hc _ ?_;rw[B,R,g];simp only[Jm,Nat.zero_mul,Xx,Vp,af,Result.andThen,Vq];simp
  .rw[<- r.sim.len];simp
  .exact f.2.shape _ _ h6
 .obtain⟨d,nc,M,ab,g⟩:=Qie (t:=o.type) E hd rfl (by omega) (by omega) q3 o1
  let w0:World:={w with drawn:=w.drawn+1}
  have F:Sim fr s σ (H.set i .dead) w0:=(r.sim.kill i).heap rfl;have e0:Qe fr s w s w0:=Qe.heap rfl rfl rfl rfl (Nat.le_succ _);have Y:LR s σ w0 ((l++k).map (eC b1 b2)).flatten (e++vs):=by
   rw[Xg,List.flatten_append];exact(o2.append q4).mono (Ext.heap (w:=w) (w':=w0) rfl)
  have X:∀v∈e++vs,Qn v:=λv hv=>by rcases VF.1 hv with q|q;exact o3 v q;exact W v q
  have s1:=F.alloc (x:=.ents t b1 b2 (l++k)) (obj:=.cells ((e++vs)++d).toArray t) ⟨(e++vs)++d,Yi _ _,(Y9 (Qdb _) Y X).mono ((Qe.alloc (fr:=fr) _ F.roLt F.frLt).ext σ _)⟩;have ae:Qe fr s w0 s (w0.alloc (.cells ((e++vs)++d).toArray t)):=Qe.alloc _ F.roLt F.frLt;refine⟨_,_,s,[some w.heap.size],Y7 ho hc a.eval (by rw[B,R];exact g),.inr ⟨w.heap.size,0,nc,t,(e++vs++d).length,?_,rfl,λ_=>by simp,M,?_,?_⟩,s1,e0.trans ae⟩
  .rw[<- r.sim.len];simp
  .have:=Yi w0 (.cells ((e++vs)++d).toArray t);unfold World.shape?;rw[show w.heap.size=w0.heap.size from rfl,this];simp
  .simp only[X5,ab,aa,u,Xx];omega
theorem QgX{c:Call}{T T' t e' i j n m b1 b2:Nat}{x y:Operand}{b a r:List Ent}(h:app b a=some r)(E:QO P T t 3)(e:∀w,(underlying T').run P w=.ok (.slice e') w)(d:Nat.blt 0 n=true)
  (f:o.op=.call c:=by exact rfl)(hc:c={callee:=.builtin .append,args:= #[x,y],argTypes:= #[T,T']}:=by exact rfl)(hx:opA env x=.osl i 0 n 3:=by exact rfl)(hH:H[i]?=some (.ents t b1 b2 b):=by exact rfl)(hn:b.length=n:=by exact rfl)
  (hy:opA env y=.osl j 0 m 3:=by exact rfl)(hHj:H[j]?=some (.ents t b1 b2 a):=by exact rfl)(hm:a.length=m:=by exact rfl):
  OpH P o env H (.osl H.length 0 r.length 3) (H.set i .dead++[.ents t b1 b2 r]):=by
 obtain⟨g,rfl⟩:=QhN h;exact QnS E e (XU g) d f hc hx hH hn hy hHj hm
theorem Pts.ents{i off t e f b1 b2:Nat}{l:List Ent}{x:Ent}{cs':List A}(he:l[e]?=some x)(hH:H[i]?=some (.ents t b1 b2 l):=by exact rfl)(ho:off=e*3+f:=by exact rfl)(hcs:(eC b1 b2 x).drop f=cs':=by exact rfl):Pts H (.ptr i off) cs':=by
 intro n p σ w v s h;obtain⟨b,k,g⟩:=h;obtain⟨m,d,j⟩:=s.blk i _ _ k hH;have a:(l.map (eC b1 b2))[e]?=some (eC b1 b2 x):=by rw[Xq,he];rfl
 have:=((YS (pre:=[]) (by simpa using d) j).get e a).2.drop f;refine⟨b,off,g,?_⟩;rw[<- hcs,ho];simpa using this
def Qf6(cs:List A)(s:Int)(e:Ent):Option Int:=bif e.fl then(bif e.off==0 then some s else none)else match cs[e.off]? with
 |some (.int .i64 v)=>some v
 |_=>none
def QjK{F:Type}(put:F->Nat->Int->Option F)(x:F)(s:Int)(e:Ent)(v:Int):Option (F×Int):=
 bif e.fl then(bif e.off==0 then some (x,v)else none)else(put x e.off v).map λy=>(y,s)
abbrev QhH(b1 b2:Nat)(e:Ent):A:=.ptr (bif e.fl then b2 else b1) e.off
theorem Qnr{l:List A}{i:Nat}{a:A}(h:l[i]?=some a):∃r,l.drop i=a::r:=by
 obtain⟨b,rfl⟩:=XN.1 h;exact⟨_,Xr b⟩
theorem Qcg{t b1 b2 T1 T2:Nat}{x:Operand}{e:Ent}{cs:List A}{s v:Int}(h:Qf6 cs s e=some v)(f:∀w,(isAgg t).run P w=.ok false w)(g:o.op=.load t x:=by exact rfl)(hx:opA env x=QhH b1 b2 e:=by exact rfl)
  (h1:H[b1]?=some (.cells T1 cs):=by exact rfl)(h2:H[b2]?=some (.cells T2 [.int .i64 s]):=by exact rfl):OpV P o env H (.int .i64 v):=by
 unfold Qf6 at h;unfold QhH at hx;cases i:e.fl with
 |true=>
  rw[i]at h hx;simp only[Vr]at h hx;cases b:e.off==0 with
  |false=>rw[b]at h;cases h
  |true=>
   rw[b]at h;have j:e.off=0:=by simpa using b
   rw[j]at hx;have l:s=v:=by simpa using h
   subst l;exact OpV.load g f hx (Pts.cells (cs':=[.int .i64 s]) h2 rfl)
 |false=>
  rw[i]at h hx;simp only[Vs]at h hx;cases d:cs[e.off]? with
  |none=>rw[d]at h;cases h
  |some a=>
   rw[d]at h;obtain⟨r,m⟩:=Qnr d;cases a with
   |int k n=>
    cases k<;>first|(cases h;exact OpV.load g f hx (Pts.cells h1 m))|cases h
   |_=>cases h
theorem Qjz{l:List A}{i:Nat}{a:A}(h:i<l.length):splice l i [a]=l.set i a:=by
 unfold splice;rw[List.set_eq_take_append_cons_drop,Vv h];simp
theorem Qia{i:Nat}{b:Blk}(h:H[i]?=some b):H.set i b=H:=by
 apply List.ext_getElem?;intro j;rw[Xb];by_cases e:i=j
 .subst e;rw[Vv rfl,Vv (XN.1 h).1,h]
 .rw[Vu e]
theorem Qkl{F:Type}{c:F->List A}{put:F->Nat->Int->Option F}{t b1 b2 T1 T2:Nat}{x y:Operand}{e:Ent}{f f':F}{s s' v:Int}(h:QjK put f s e v=some (f',s'))(a:∀x o v y,put x o v=some y->c y=(c x).set o (.int .i64 v)/\o<(c x).length)
  (k:∀w,(sizeOf t).run P w=.ok 1 w)(l:o.op=.store t x y:=by exact rfl)(hx:opA env x=QhH b1 b2 e:=by exact rfl)(h1:H[b1]?=some (.cells T1 (c f)):=by exact rfl)(h2:H[b2]?=some (.cells T2 [.int .i64 s]):=by exact rfl)(hy:opA env y=.int .i64 v:=by exact rfl)
  (hb:Nat.beq b1 b2=false:=by exact rfl):OpU P o env H ((H.set b1 (.cells T1 (c f'))).set b2 (.cells T2 [.int .i64 s'])):=by
 have d:b1≠b2:=λq=>by subst q;rw[VH]at hb;cases hb
 unfold QjK at h;unfold QhH at hx;cases m:e.fl with
 |true=>
  rw[m]at h hx;simp only[Vr]at h hx;cases b:e.off==0 with
  |false=>rw[b]at h;cases h
  |true=>
   rw[b]at h;have n:e.off=0:=by simpa using b
   rw[n]at hx;obtain⟨rfl,rfl⟩:f=f'/\v=s':=by simpa using h
   rw[Qia h1];exact OpU.store (cs:=[.int .i64 s]) (vs:=[.int .i64 v]) (cs':=[.int .i64 v]) (v:=.int .i64 v) l hx h2 k hy rfl rfl rfl rfl rfl rfl
 |false=>
  rw[m]at h hx;simp only[Vs]at h hx;cases i:put f e.off v with
  |none=>rw[i]at h;cases h
  |some g=>
   rw[i]at h;obtain⟨rfl,rfl⟩:g=f'/\s=s':=by simpa using h
   obtain⟨p,j⟩:=a _ _ _ _ i;have r:(H.set b1 (.cells T1 (c g)))[b2]?=some (.cells T2 [.int .i64 s]):=by rw[XR d];exact h2
   rw[Qia r];exact OpU.store (cs:=c f) (vs:=[.int .i64 v]) (cs':=c g) (v:=.int .i64 v) l hx h1 k hy rfl rfl rfl rfl (XU j) (by rw[Qjz j,p])
end
section
variable {P:Program} {h0 N:Nat} {A B C:Code} {env:Env} {H:Qc} {Q:QA}
theorem QnM{S B1:Type}{b:Ctl S B1}(Eb:S->Env)(Hb:S->Qc)(h:TC P h0 N A env H (Seq P h0 N B (Qg0 h0 b Eb Hb (Seq P h0 N C Q))))(k:∀s env H,b=.cont s->Le h0 env H (Eb s) (Hb s)->Seq P h0 N C Q .normal env H):TC P h0 N (.seq A (.seq B C)) env H Q:=by
 refine TC.seq (h.mono λx env' H' q=>?_);cases x with
 |normal=>exact TC.seq (QhP Eb Hb q k)
 |exit id=>exact q
 |ret=>exact q
end
end Go.Sw
namespace Go.Sw
section
variable {P:Program} {o:Oper} {env:Env} {H:Qc}
theorem Qfl{f g:Nat->Option (Nat×Nat)}:∀(parts:List (Nat×Value)) (cs:Array Value),(∀p∈parts,f p.1=g p.1)->Instr.fill f cs parts=Instr.fill g cs parts
 |[],cs,_=>rfl
 |(i,v)::rest,cs,h=>by
  unfold Instr.fill;rw[h (i,v) (by simp)];have ih:=λcs=>Qfl rest cs (λp hp=>h p (by simp[hp]));cases g i with
  |none=>rfl
  |some p=>
   obtain⟨off,size⟩:=p;simp only;split
   .rfl
   .exact ih _
theorem JI{t e n k:Nat}{z:Value}{zs cs:List A}{parts:List (Nat×Operand)}(f:∀w,(zeroValue t).run P w=.ok z w)(g:ZR (.agg zs) z)(m:∀w,(underlying t).run P w=.ok (.array n e) w)(s:∀w,(sizeOf e).run P w=.ok k w)
  (B:(parts.all λp=>Nat.blt p.1 n)=true)(E:o.op=.build t parts.toArray:=by exact rfl)(hf:Qd9 env ((List.range n).map λi=>(i*k,k)) zs parts=some cs:=by exact rfl):OpV P o env H (.agg cs):=by
 intro J u σ N a w r;obtain⟨l,rfl,j⟩:=g u σ w;obtain⟨d,h,G⟩:=Qfm r parts zs l cs j hf;refine⟨.agg d.toArray,?_,d,rfl,G⟩;have y:Instr.fill (λi=>some (i*k,k)) l.toArray (parts.map λp=>(p.1,a.eval p.2))=some d.toArray:=by
  rw[<- h];refine Qfl _ _ ?_;intro p F;obtain⟨q,x,rfl⟩:=Xf.1 F;have b:q.1<n:=by simpa using Xu.1 B q x
  simp[b]
 generalize hρ:a.eval=ρ at*;simp only[execOp,E,Instr.build,Vp,f,Result.andThen,m,s,XK,Vq,Value.cells,y]
def Qeu(k:IntKind)(m n:Int):Int:=k.wrap (BitVec.ofInt k.bits m&&& BitVec.ofInt k.bits n).toNat
def orI(k:IntKind)(m n:Int):Int:=k.wrap (BitVec.ofInt k.bits m|||BitVec.ofInt k.bits n).toNat
def QeL(k:IntKind)(m n:Int):Int:=k.wrap (BitVec.ofInt k.bits m^^^BitVec.ofInt k.bits n).toNat
def QeR(k:IntKind)(m n:Int):Int:=k.wrap (m*2^(min n.toNat k.bits))
def Qcw(k:IntKind)(m n:Int):Int:=m.fdiv (2^(min n.toNat k.bits))
theorem OpV.and{t u:TypeId}{x y:Operand}{k:IntKind}{m n:Int}(e:o.op=.binOp .and t x y u)(b:opA env x=.int k m)(g:opA env y=.int k n):OpV P o env H (.int k (Qeu k m n)):=by
 intro i h σ N a w r;have f:=QN r b;have d:=QN r g;refine⟨_,?_,rfl⟩;generalize a.eval=ρ at*;simp[execOp,e,f,d,Go.binOp,eqGuard,Op.intBits,go_sem,Qeu]
theorem OpV.or{t u:TypeId}{x y:Operand}{k:IntKind}{m n:Int}(e:o.op=.binOp .or t x y u)(b:opA env x=.int k m)(g:opA env y=.int k n):OpV P o env H (.int k (orI k m n)):=by
 intro i h σ N a w r;have f:=QN r b;have d:=QN r g;refine⟨_,?_,rfl⟩;generalize a.eval=ρ at*;simp[execOp,e,f,d,Go.binOp,eqGuard,Op.intBits,go_sem,orI]
theorem OpV.xor{t u:TypeId}{x y:Operand}{k:IntKind}{m n:Int}(e:o.op=.binOp .xor t x y u)(b:opA env x=.int k m)(g:opA env y=.int k n):OpV P o env H (.int k (QeL k m n)):=by
 intro i h σ N a w r;have f:=QN r b;have d:=QN r g;refine⟨_,?_,rfl⟩;generalize a.eval=ρ at*;simp[execOp,e,f,d,Go.binOp,eqGuard,Op.intBits,go_sem,QeL]
theorem OpV.shl{t u:TypeId}{x y:Operand}{k h:IntKind}{m n:Int}(e:o.op=.binOp .shl t x y u)(b:opA env x=.int k m)(i:opA env y=.int h n)(f:0<=n):OpV P o env H (.int k (QeR k m n)):=by
 intro j l σ N a w r;have g:=QN r b;have d:=QN r i;refine⟨_,?_,rfl⟩;generalize a.eval=ρ at*;simp[execOp,e,g,d,Go.binOp,eqGuard,Op.shift,go_sem,QeR,Int.not_lt.2 f]
theorem OpV.shr{t u:TypeId}{x y:Operand}{k h:IntKind}{m n:Int}(e:o.op=.binOp .shr t x y u)(b:opA env x=.int k m)(i:opA env y=.int h n)(f:0<=n):OpV P o env H (.int k (Qcw k m n)):=by
 intro j l σ N a w r;have g:=QN r b;have d:=QN r i;refine⟨_,?_,rfl⟩;generalize a.eval=ρ at*;simp[execOp,e,g,d,Go.binOp,eqGuard,Op.shift,go_sem,Qcw,Int.not_lt.2 f]
theorem Qek{h0 i m t k T:Nat}{cs:List A}(E:Nat.ble h0 H.length=true)(hH:H[i]?=some (.cells T cs))(e:cs[m]?=some .nils):
  Le h0 env H env (H.set i (.cells T (cs.set m (.osl H.length 0 0 k)))++[.row t k []]):=by
 intro J j σ N a w r;have f:h0<=H.length:=XT E;have x:i<H.length:=(XN.1 hH).1;have ext:Ext j σ w j (σ++[none]) w:=⟨λ_ q=>q,λ_ _=>rfl,λ_ _ q=>q,λ_ _ h=>YO h⟩;have s:=r.sim.phantom t k;have d:(H++[Blk.row t k []])[i]?=some (.cells T cs):=by rw[XO x];exact hH
 have n:H.set i (.cells T (cs.set m (.osl H.length 0 0 k)))++[.row t k []]=(H++[Blk.row t k []]).set i (.cells T (cs.set m (.osl H.length 0 0 k))):=by
  rw[List.set_append_left _ _ x]
 rw[n];refine⟨j,σ++[none],⟨s.weaken d rfl ?_,λq=>(r.env q).mono ext,r.size,r.defers⟩,λ_ q=>q,Qy (by rw[r.sim.len];exact f)⟩;intro y h;cases y with
 |none=>exact h
 |some b=>
  obtain⟨l,p,F,z⟩:=h;refine⟨l,p,?_,z⟩;clear p z d n hH
  induction cs generalizing m l with
  |nil=>cases e
  |cons c cs G=>
   obtain⟨v,g,rfl,B,u⟩:=F;cases m with
   |zero=>
    simp at e;subst e;exact⟨v,g,rfl,.inl ⟨rfl,B⟩,u⟩
   |succ m=>exact⟨v,g,rfl,B,G (by simpa using e) g u⟩
theorem Qma{h0 i s g n k:Nat}{x:Blk}(u:lk env s=.osl i g n k)(hH:H[i]?=some x)(l:Nat.ble h0 H.length=true):Le h0 env H (up env s (.osl H.length g n k)) (H.set i .dead++[x]):=by
 intro E e σ N a w r;have z:i<σ.length:=by rw[r.sim.len];exact(XN.1 hH).1
 have hσ:σ[i]?=some σ[i]:=XM z;have ext:Ext e σ w e (σ++[σ[i]]) w:=⟨λ_ q=>q,λ_ _=>rfl,λ_ _ q=>q,λ_ _ h=>YO h⟩;refine⟨e,σ++[σ[i]],⟨r.sim.moved hH hσ,?_,r.size,r.defers⟩,λ_ q=>q,Qy (by rw[r.sim.len];exact XT l)⟩;intro d;simp only[lk];by_cases q:d=s
 .subst q;rw[VH];have:=r.env d;rw[u]at this;rcases this with h|⟨b,p,f,t,m,B,y⟩
  .exact .inl h
  .refine .inr ⟨b,p,f,t,m,?_,y⟩;rw[B]at hσ;rw[<- r.sim.len];simpa using hσ.symm
 .have:Nat.beq d s=false:=by
   rw[VO];intro j;exact q (XS j)
  rw[this];exact(r.env d).mono ext
def QbA(n:Int):UInt8:=n.toNat.toUInt8
def QlT(P:Program)(H:Qc)(x:A)(l:List Int):Prop:=
 ∀fr ro σ w v,Sim fr ro σ H w->VR ro σ w x v->(∃a c,v=.slice a 0 c/\l=[])\/ ∃b off c,v=.slice (some ⟨b,off,none⟩) l.length c/\(l=[]\/CR ro σ w b (l.map λn=>A.int .u8 n) off)
theorem Qhw:∀(l:List Int),(l.map (λn=>[A.int .u8 n])).flatten=l.map λn=>A.int .u8 n
 |[]=>rfl
 |n::l=>by simp[Qhw l]
theorem QlT.nils:QlT P H .nils []:=λfr ro σ w v s h=>.inl ⟨none,0,h,rfl⟩
theorem QlT.row{i t n:Nat}{l:List Int}(hH:H[i]?=some (.row t 1 (l.map λn=>[A.int .u8 n])):=by exact rfl)(hn:l.length=n:=by exact rfl):QlT P H (.osl i 0 n 1) l:=by
 intro u B σ w v s h;rcases h with⟨rfl,rfl⟩|⟨b,p,a,y,m,k,rfl,g,x,z,q⟩
 .exact .inl ⟨none,0,rfl,VL.1 hn⟩
 .refine .inr ⟨b,p,a,by rw[hn],?_⟩;by_cases d:l=[]
  .exact .inl d
  .have:0<a:=by have:=List.length_pos_iff.2 d;omega
   obtain rfl:=g this;obtain⟨r,f,j⟩:=s.blk i _ _ k hH;have e:=(YS (pre:=[]) (by simpa using f) j).flat.1;rw[Qhw]at e;exact .inr (by simpa using e.lift)
theorem QlT.rsl{l:List Int}:QlT P H (.rsl 1 (l.map λn=>[A.int .u8 n])) l:=by
 intro h j σ w v s ⟨a,c,h1,h2,d⟩;subst h1;rw[X4]at*;rcases d with d|⟨b,e,rfl,i,g⟩
 .have:l=[]:=List.map_eq_nil_iff.1 d;subst this;exact .inl ⟨a,c,by simp,rfl⟩
 .have f:=g.flat.1;rw[Qhw]at f;exact .inr ⟨b,e,c,rfl,.inr f.lift⟩
theorem Qcn{ro:Nat->Prop}{σ:Sig}{w:World}{b:Nat}:∀(l:List Int) (off:Nat) (a:ByteArray),CR ro σ w b (l.map λn=>A.int .u8 n) off->(Extern.Bytes.loadBytes ⟨b,off,none⟩ l.length a).run P w=.ok ⟨a.data++(l.map QbA).toArray⟩ w
 |[],off,a,_=>by simp[Extern.Bytes.loadBytes,go_sem]
 |n::l,off,a,⟨⟨v,h1,hp,h2⟩,h3⟩=>by
  have h2':v=.int .u8 n:=h2;subst h2';have ih:=Qcn l (off+1) (a.push n.toNat.toUInt8) h3;have hl:(Go.load ⟨b,off,none⟩).run P w=.ok (.int .u8 n) w:=by simp[Go.load,Sem.run,h1]
  simp only[X3,Extern.Bytes.loadBytes,Vp,hl,Result.andThen];have d:(⟨b,off,none⟩:Addr).add 1=⟨b,off+1,none⟩:=by simp[Jm]
  rw[d,ih];simp[QbA,ByteArray.push]
theorem QdZ{fr ro:Nat->Prop}{σ:Sig}{w:World}{x:A}{l:List Int}{v:Value}(h:QlT P H x l)(s:Sim fr ro σ H w)(f:VR ro σ w x v):(Extern.Bytes.bytesOf v).run P w=.ok ⟨(l.map QbA).toArray⟩ w:=by
 rcases h fr ro σ w v s f with⟨a,c,rfl,rfl⟩|⟨b,e,c,rfl,d⟩
 .cases a with
  |none=>simp[Extern.Bytes.bytesOf,go_sem];rfl
  |some a=>simp[Extern.Bytes.bytesOf,Extern.Bytes.loadBytes,go_sem];rfl
 .rcases d with rfl|d
  .simp[Extern.Bytes.bytesOf,Extern.Bytes.loadBytes,go_sem];rfl
  .have:=Qcn (P:=P) l e .empty d;simp only[Extern.Bytes.bytesOf,this];congr 2;simp[ByteArray.empty,ByteArray.emptyWithCapacity];rfl
def cmpB(l m:List Int):Int:=Lib.compareBytes (l.map QbA) (m.map QbA)
theorem OpV.cmpB{c:Call}{f:FuncId}{fn:Func}{x y:Operand}{k:Array TypeId}{ax g:A}{l m:List Int}(B:P.funcs[f]?=some fn)(b:(fn.name=="runtime.NumGoroutine")=false)(q:fn.body.isNone=true)(t:Extern.findNext fn=none)(he:Extern.find fn=some Extern.BytealgCompare.compare)
  (u:QlT P H ax l)(p:QlT P H g m)(s:o.op=.call c:=by exact rfl)(hc:c={callee:=.value (.func f),args:= #[x,y],argTypes:=k}:=by exact rfl)(hx:opA env x=ax:=by exact rfl)(hy:opA env y=g:=by exact rfl):OpV P o env H (.int .i64 (cmpB l m)):=by
 intro E F σ N a w r;have h:=Qd r x;rw[hx]at h;have d:=Qd r y;rw[hy]at d;have j:=QdZ u r.sim h;have z:=QdZ p r.sim d;refine⟨.int .i64 (Sw.cmpB l m),?_,rfl⟩;subst hc;have e:a.eval (.func f)=.func (.func f) #[] #[]:=rfl;have n:(callFunc f #[a.eval x,a.eval y]).run P w=.ok (.value (.int .i64 (Sw.cmpB l m))) w:=by
  rw[run_callFunc_extern B b q t he];have i:Sem.run P (Extern.BytealgCompare.compare #[a.eval x,a.eval y]) w=.ok (.int .i64 (Sw.cmpB l m)) w:=by
   change Sem.run P (do pure (goInt (Extern.BytealgCompare.cmp (<- Extern.Bytes.bytesOf (a.eval x)) (<- Extern.Bytes.bytesOf (a.eval y))))) w=_;simp only[Vp,j,z,Result.andThen,Vq,Lib.cmp_eq];rfl
  rw[i];rfl
 generalize a.eval=ρ at*;simp only[execOp,s,resolve,e,Deferred.ofValue,invoke,Vp,Vq,Result.andThen];simpa using n
theorem Q7{t et n k b off j:Nat}{x y:Operand}{i:Int}{p:IntKind}(g:(i==(j:Int))=true)(z:Nat.blt j n=true)(G:∀w,(underlying t).run P w=.ok (.array n et) w)(B:∀w,(sizeOf et).run P w=.ok k w)(l:Nat.ble 2 n=true)
  (F:o.op=.indexAddr t x y:=by exact rfl)(hx:opA env x=.ptr b off:=by exact rfl)(hy:opA env y=.int p i:=by exact rfl):OpV P o env H (.ptr b (off+j*k)):=by
 intro O M σ N a w r;have f:=Qd r x;rw[hx]at f;obtain⟨e,f,L⟩:=f;have s:=Qd r y;rw[hy]at s;have m:a.eval y=.int p i:=s;have E:i=(j:Int):=by simpa using g
 have h:j<n:=by simpa using z
 have u:2<=n:=XT l;subst E;refine⟨.pointer (some ⟨e,off+j*k,none⟩),?_,e,f,rfl⟩;have J:0<=(j:Int)/\(j:Int)<(n:Int):=by omega
 have d:(⟨e,off,none⟩:Addr).add ((j:Int).toNat*k)=⟨e,off+j*k,none⟩:=by
  unfold Addr.add;split
  .rename_i q;simp at q;simp[q]
  .simp
 generalize a.eval=ρ at*;simp[execOp,F,L,m,Instr.indexAt,asIntOf,G,B,Instr.sureAddr,J,d,go_sem,Result.andThen,h]
end
end Go.Sw
namespace Go.Sw
theorem QmW{P:Program}{W:World}{name:String}{d:DataW Unit}:∀{a:List (String×DataW Unit)} {ps:List MemPlace},DataW.LaidVars P W a ps->(name,d)∈a->
  ∃(g:Nat) (t:TypeId) (cs:Array Value) (b:Nat) (p:List MemPlace),P.globalNamed name=some g/\(P.globals[g]?).map (·.type)=some t/\W.var? P name=some cs/\DataW.trod (λ_=>()) P W 0 (λ_=>true) false b t cs.toList=some (d,p):=by
 intro a
 induction a with
 |nil=>intro ps h f;cases f
 |cons x a m=>
  intro ps h f;obtain⟨g,t,cs,b,p,q,n,l,j,k,i,r⟩:=h;rcases X8.1 f with e|f
  .subst e;exact⟨g,t,cs,b,p,n,l,j,k⟩
  .exact m i f
theorem Yr{P:Program}{W:World}{name:String}{a b:Int}{g t e:Nat}{m j:Field}{d:List (String×DataW Unit)}{ps:List MemPlace}(h:DataW.LaidVars P W d ps)(z:(name,DataW.agg [.lit (.int .i64 a),.lit (.int .i64 b)])∈d)
  (hg:P.globalNamed name=some g)(l:(P.globals[g]?).map (·.type)=some t)(J:P.underlying t=some (.struct #[m,j]))(w:m.type=e)(H:j.type=e)(Q:m.offset=0)(E:j.offset=1)(he:P.underlying e=some (.int .i64))(f:P.cellsOf e=1)(k:P.cellsOf t=2):
  W.cell? ⟨g,0,none⟩=some (.int .i64 a)/\W.cell? ⟨g,1,none⟩=some (.int .i64 b):=by
 obtain⟨Y,t',X,q,p,T,L,r,y⟩:=QmW h z;obtain rfl:=X2 (hg.symm.trans T);obtain rfl:=X2 (l.symm.trans L);obtain⟨V,y1,n,F,R,u,s⟩:=Go.ChangeShapes.trod_struct2 J y;rw[w,Q,f]at u;rw[H,E,f]at s;obtain⟨O,G,x,_⟩:=DataW.trod_int he u;obtain⟨B,N,M,_⟩:=DataW.trod_int he s;subst x M;have i:a=O/\b=B:=by simpa using congrArg Prod.fst F
 obtain⟨rfl,rfl⟩:=i;rw[World.var?_cell hg r,World.var?_cell hg r];rw[k]at R;constructor
 .have:=congrArg (·[0]?) G;simpa[List.getElem?_take]using this
 .have:=congrArg (·[0]?) N;simpa[List.getElem?_take,List.getElem?_drop]using this
theorem JC{w:World}{g:Nat}{a b:Int}(s:w.cell? ⟨g,0,none⟩=some (.int .i64 a)/\w.cell? ⟨g,1,none⟩=some (.int .i64 b)):∀(zs:List Int),some [a,b]=some zs->∀(i:Nat) (z:Int),zs[i]?=some z->w.cell? ⟨g,i,none⟩=some (.int .i64 z)
 |zs,h,0,z,hi=>by cases h;cases hi;exact s.1
 |zs,h,1,z,hi=>by cases h;cases hi;exact s.2
 |zs,h,i+2,z,hi=>by cases h;simp at hi
end Go.Sw
