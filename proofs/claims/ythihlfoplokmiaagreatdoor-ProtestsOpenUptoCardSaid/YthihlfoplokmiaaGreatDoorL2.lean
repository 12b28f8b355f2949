/- The rules by which the code is walked, with what they rest on (part 2). -/
import Derived.Test.YthihlfoplokmiaaGreatDoorL1
import Derived.Shelf.SlSortCmp.NoneTotal
import Derived.Below
import GoSem.ClaimChange
import Derived.Shelf.Strings.Search3
import Derived.Lib.LazyBuf
import Derived.Shelf.Sort.Plain
import Derived.Shelf.Slices.In.SortNone
import Derived.Shelf.Slices.CompactI
import Derived.RangeFuncIn
import Derived.RangeFuncSeq
import Derived.RangeFuncNested
import Derived.Lib.Bytealg
import Derived.Laws.Externs
import Derived.LaidLaws
import Derived.Lib.LaidTab
import Derived.ChangeArms
import Derived.ChangeSame
set_option linter.unusedVariables false
set_option linter.unusedSectionVars false
set_option linter.unusedSimpArgs false
namespace Go.Sw
open Go.Sort Go.Proofs Go.Shelf
section
variable {α:Type}
def ins(lt:α->α->Bool)(x:α):List α->List α
 |[]=>[x]
 |y::l=>bif lt y x then y::ins lt x l else x::y::l
def YK(lt:α->α->Bool):List α->List α
 |[]=>[]
 |x::l=>ins lt x (YK lt l)
theorem QeW(lt:α->α->Bool)(x:α):∀l,(ins lt x l).Perm (x::l)
 |[]=>.refl _
 |y::l=>by
  unfold ins;cases lt y x
  .exact .refl _
  .exact((QeW lt x l).cons y).trans (List.Perm.swap _ _ _)
theorem Ql(lt:α->α->Bool):∀l,(YK lt l).Perm l
 |[]=>.refl _
 |x::l=>(QeW lt x _).trans ((Ql lt l).cons x)
structure Qd6 (lt:α->α->Bool) (l:List α):Prop where
 irrefl:∀x∈l,lt x x=false
 trans:∀x∈l,∀y∈l,∀z∈l,lt x y=true->lt y z=true->lt x z=true
 ntrans:∀x∈l,∀y∈l,∀z∈l,lt x y=false->lt y z=false->lt x z=false
theorem Qd6.mono{lt:α->α->Bool}{l m:List α}(h:Qd6 lt l)(hm:∀x∈m,x∈l):Qd6 lt m:=
 ⟨λx hx=>h.irrefl x (hm x hx),λx hx y hy z hz=>h.trans x (hm x hx) y (hm y hy) z (hm z hz),λx hx y hy z hz=>h.ntrans x (hm x hx) y (hm y hy) z (hm z hz)⟩
theorem Qd6.asymm{lt:α->α->Bool}{l:List α}(h:Qd6 lt l){x y:α}(b:x∈l)(d:y∈l)(a:lt x y=true):lt y x=false:=by
 cases q:lt y x
 .rfl
 .rw[<- h.irrefl x b,h.trans x b y d x b a q]
theorem QeV{lt:α->α->Bool}{x:α}:∀{l:List α},Qd6 lt (x::l)->l.Pairwise (λa b=>lt b a=false)->(ins lt x l).Pairwise (λa b=>lt b a=false)
 |[],_,_=>by simp[ins]
 |y::l,h,hp=>by
  obtain⟨h1,h2⟩:=Xc.1 hp;unfold ins;cases q:lt y x
  .refine Xc.2 ⟨λz hz=>?_,hp⟩;rcases X7.1 hz with rfl|hz
   .exact q
   .exact h.ntrans z (by simp[hz]) y (by simp) x (by simp) (h1 z hz) q
  .refine Xc.2 ⟨λz hz=>?_,QeV (h.mono (by intro z hz;rcases X7.1 hz with rfl|hz<;>simp[*])) h2⟩;rcases X7.1 ((QeW lt x l).mem_iff.1 hz)with rfl|hz
   .exact h.asymm (by simp) (by simp) q
   .exact h1 z hz
theorem QS{lt:α->α->Bool}:∀{l:List α},Qd6 lt l->(YK lt l).Pairwise (λa b=>lt b a=false)
 |[],_=>by simp[YK]
 |x::l,h=>QeV (h.mono (by
   intro z hz;rcases X7.1 hz with rfl|hz
   .simp
   .exact X6 _ ((Ql lt l).mem_iff.1 hz))) (QS (h.mono λz hz=>X6 _ hz))
theorem Jh{lt:α->α->Bool}:∀{l m:List α},l.Perm m->(∀x∈l,∀y∈l,lt x y=false->lt y x=false->x=y)->l.Pairwise (λa b=>lt b a=false)->m.Pairwise (λa b=>lt b a=false)->l=m
 |[],m,h,_,_,_=>by rw[List.nil_perm.1 h]
 |x::l,[],h,_,_,_=>by have:=h.length_eq;simp at this
 |x::l,y::m,h,ha,hl,hm=>by
  obtain⟨l1,l2⟩:=Xc.1 hl;obtain⟨m1,m2⟩:=Xc.1 hm;have hy:y∈x::l:=h.mem_iff.2 (by simp);have hx:x∈y::m:=h.mem_iff.1 (by simp);have hxy:x=y:=by
   rcases X7.1 hy with e|d
   .exact e.symm
   .rcases X7.1 hx with e|f
    .exact e
    .exact ha x (by simp) y (by simp[d]) (m1 x f) (l1 y d)
  subst hxy;rw[Jh ((List.perm_cons x).1 h) (λa i b g=>ha a (by simp[i]) b (by simp[g])) l2 m2]
def ltO(cf:α->α->Option Int)(x y:α):Bool:=match cf x y with
 |some c=>decide (c<0)
 |none=>false
def Qir[DecidableEq α](cf:α->α->Option Int)(l:List α):Bool:=
 l.all λx=> !ltO cf x x&&l.all λy=>(cf x y).isSome&&(ltO cf x y||ltO cf y x||decide (x=y))&&l.all λz=>(!ltO cf x y|| !ltO cf y z||ltO cf x z)&&(ltO cf x y||ltO cf y z|| !ltO cf x z)
def QbL[DecidableEq α](cf:α->α->Option Int)(l:List α):Option (List α):=bif Nat.ble l.length Qq&&Qir cf l then some (YK (ltO cf) l)else none
theorem QcI[DecidableEq α]{cf:α->α->Option Int}{l l':List α}(h:QbL cf l=some l'):
  l.length<=Qq/\(∀x∈l,∀y∈l,∃c,cf x y=some c)/\Qd6 (ltO cf) l/\(∀x∈l,∀y∈l,ltO cf x y=false->ltO cf y x=false->x=y)/\YK (ltO cf) l=l':=by
 unfold QbL at h;cases g:Nat.ble l.length Qq with
 |false=>rw[g]at h;cases h
 |true=>
 rw[g,VB]at h;cases q:Qir cf l with
 |false=>rw[q]at h;cases h
 |true=>
  rw[q]at h;refine⟨XS g,?_⟩;unfold Qir at q;simp only[Xt,XX,Bool.not_eq_true',Bool.or_eq_true,Vs]at q;refine⟨λx b y d=>Option.isSome_iff_exists.1 ((q x b).2 y d).1.1,⟨λx b=>(q x b).1,λx b y d z i f e=>?_,λx b y d z i f e=>?_⟩,λx b y d f e=>?_,X0 h⟩
  .rcases(((q x b).2 y d).2 z i).1 with(a|a)|a
   .rw[f]at a;cases a
   .rw[e]at a;cases a
   .exact a
  .rcases(((q x b).2 y d).2 z i).2 with(a|a)|a
   .rw[f]at a;cases a
   .rw[e]at a;cases a
   .exact a
  .rcases((q x b).2 y d).1.2 with(a|a)|a
   .rw[f]at a;cases a
   .rw[e]at a;cases a
   .exact a
theorem QlN[DecidableEq α]{cf:α->α->Option Int}{l:List α}(h:l.length<=Qq)(c:α->α->Int)(m:∀x∈l,∀y∈l,cf x y=some (c x y))(hi:∀x∈l,¬c x x<0)
  (p:∀x∈l,∀y∈l,∀z∈l,c x y<0->c y z<0->c x z<0)(n:∀x∈l,∀y∈l,∀z∈l,¬c x y<0->¬c y z<0->¬c x z<0)(r:∀x∈l,∀y∈l,¬c x y<0->¬c y x<0->x=y):
  QbL cf l=some (YK (ltO cf) l):=by
 have g:∀x∈l,∀y∈l,ltO cf x y=decide (c x y<0):=λx e y f=>by unfold ltO;rw[m x e y f]
 have q:Qir cf l=true:=by
  unfold Qir;simp only[Xt,XX,Bool.not_eq_true',Bool.or_eq_true,Vs];intro x e;refine⟨by rw[g x e x e];simpa using hi x e,λy f=>⟨⟨by rw[m x e y f];rfl,?_⟩,λz i=>?_⟩⟩
  .rw[g x e y f,g y f x e];by_cases k:c x y<0
   .simp[k]
   .by_cases j:c y x<0
    .simp[j]
    .exact .inr (r x e y f k j)
  .rw[g x e y f,g y f z i,g x e z i];have k:=p x e y f z i;have j:=n x e y f z i;by_cases a:c x y<0<;>by_cases b:c y z<0<;>by_cases d:c x z<0<;>simp_all
 unfold QbL;rw[q,XT h];rfl
theorem QaI[DecidableEq α]{cf:α->α->Option Int}{l l':List α}(h:QbL cf l=some l'):l.length=l'.length:=by
 rw[<- (QcI h).2.2.2.2];exact(Ql _ _).length_eq.symm
theorem Qa9{l l':List α}{i:Int}{x:α}(h:Qdk l i x=some l'):l.length=l'.length:=by
 unfold Qdk at h;cases q:(decide (0<=i)&&decide (i<(l.length:Int)))with
 |true=>rw[q]at h;rw[<- X0 h];simp
 |false=>rw[q]at h;cases h
theorem QT{h0:Nat}{env:Env}{H:Qc}{s:Nat}{a a':A}(h:lk env s=a)(e:a=a'):Le h0 env H (up env s a') H:=by
 intro f d σ N act w r;refine⟨d,σ,⟨r.sim,λb=>?_,r.size,r.defers⟩,λ_ q=>q,rfl⟩;subst e;have:lk (up env s a) b=lk env b:=by
  simp only[lk];cases q:Nat.beq b s with
  |true=>rw[XR q,h];rfl
  |false=>rfl
 rw[this];exact r.env b
end
section
variable {fr ro:Nat->Prop} {σ:Sig} {H:Qc} {w w':World}
theorem Qd1(hh:∀b,b<w.heap.size->w'.heap[b]?=w.heap[b]?)(hro:∀b,ro b->b<w.heap.size)(σ:Sig):Ext ro σ w ro σ w':=
 ⟨λ_ q=>q,λb hb=>hh b (hro b hb),λb x hx=>by unfold World.shape? at hx⊢;rw[hh b (QbM hx)];exact hx,λ_ _ q=>q⟩
theorem Sim.grown(s:Sim fr ro σ H w)(a:∀b,b<w.heap.size->w'.heap[b]?=w.heap[b]?)(g:w.heap.size<=w'.heap.size):Sim fr ro σ H w':=by
 refine⟨s.len,s.roOk.to (λ_ q=>q) (λb q=>a b (s.roLt b q)) (λb h=>Vg (s.roLt b h) g),λb h=>Vg (s.frLt b h) g,s.roFr,λi b x f e n=>?_,s.inj,λi y x f e=>?_,s.hidTo (· = ·) QW g (λ_ _ _ _ _ _ _ q=>q) (λ_ _ _ _ _ _ _ q=>q) λj d y l m r=>.inl ⟨j,y,rfl,l,m,id,λc q=>s.hidKeep l m (λz=>a d (s.own j d y l m z).1) (λb q=>a b (s.roLt b q)) q⟩⟩
 .obtain⟨p,q⟩:=s.own i b x f e n;exact⟨Vg p g,q⟩
 .refine(s.blk i y x f e).keep (Qd1 a s.roLt σ) ?_ ?_
  .rintro b rfl k;exact a b (s.own i b x f e k).1
  .rintro b c rfl k;exact a c (s.hid i b x c f e k).lt
theorem Qe.grown(hh:∀b,b<w.heap.size->w'.heap[b]?=w.heap[b]?)(hs:w.heap.size<=w'.heap.size)(s:Sim fr ro σ H w)(ho:w'.os=w.os)(ht:w'.tape=w.tape)(hu:w'.output=w.output)(hd:w.drawn<=w'.drawn):Qe fr ro w ro w':=
 ⟨λ_ q=>q,λb h=>hh b (s.roLt b h),λb h=>hh b (s.frLt b h),hs,(Qd1 hh s.roLt σ).shape,ho,ht,hu,hd⟩
theorem Qkd(f:∀b,b<w.heap.size->w'.heap[b]?=w.heap[b]?)(m:w.heap.size<=w'.heap.size)(h:w'.os=w.os)(e:w'.tape=w.tape)(d:w'.output=w.output)(n:w.drawn<=w'.drawn):
  ∃q os',w'=grow (w.drewN q) os':=by
 refine⟨w'.drawn-w.drawn,w'.heap.extract w.heap.size w'.heap.size,?_⟩;obtain⟨a,s,j,t,r⟩:=w';simp only at f m h e d n;subst h e d;unfold grow World.drewN;have p:a=w.heap++a.extract w.heap.size a.size:=by
  apply Array.ext_getElem?;intro i;rw[Array.getElem?_append];split
  .rename_i g;exact f i g
  .rename_i g;rw[Array.getElem?_extract];split
   .rename_i k;congr 1;omega
   .rename_i k;rw[Array.getElem?_eq_none];omega
 have l:j=w.drawn+(j-w.drawn):=by omega
 rw[<- p, <- l]
end
end Go.Sw
namespace Go.Sw
open Go.Sort Go.Proofs Go.Shelf
theorem QdZ{α:Type}{k:Nat}:∀(vs:List (List α)) (j:Nat),(∀v∈vs,v.length=k)->j<vs.length*k->vs.flatten[j]?=(vs[j/k]?).bind λv=>v[j%k]?
 |[],j,_,h=>by simp at h
 |v::vs,j,hk,h=>by
  have hv:=hk v (by simp);have k0:0<k:=by
   rcases Nat.eq_zero_or_pos k with q|q
   .subst q;simp at h
   .exact q
  rw[Vm];by_cases q:j<k
  .rw[XN (by omega),Nat.div_eq_of_lt q,Nat.mod_eq_of_lt q];simp
  .rw[XO (by omega),hv,QdZ vs (j-k) (λv hv=>hk v (by simp[hv])) (by simp[Xm]at h;omega)];have b:j/k=(j-k)/k+1:=by rw[Nat.div_eq_sub_div k0 (by omega)]
   have a:j%k=(j-k)%k:=Nat.mod_eq_sub_mod (by omega);rw[b,a,XG]
theorem Qas{α:Type}{k:Nat}:∀(vs:List (List α)),(∀v∈vs,v.length=k)->vs.flatten.length=vs.length*k
 |[],_=>by simp
 |v::vs,h=>by rw[Vm,X4,Qas vs (λv hv=>h v (by simp[hv])),h v (by simp),X2,Xm];omega
theorem Qad{α:Type}(F:List α)(j:Nat):F.toArray[j]?=F[j]? :=by simp
theorem QeZ{α:Type}[Inhabited α](F:List α)(j:Nat)(h:j<F.length):F[j]?=some (F.toArray[j]!):=by simp[h]
theorem Qh4{β:Type}[Inhabited β]{enc:β->List Value}{k:Nat}(f:∀x,(enc x).length=k)(d:Array β):flatK enc k d=((d.toList.map enc).flatten).toArray:=by
 have a:∀v∈d.toList.map enc,v.length=k:=by
  intro v i;obtain⟨x,_,rfl⟩:=Xf.1 i;exact f x
 apply Array.ext_getElem?;intro t;rw[Qad ((d.toList.map enc).flatten) t];by_cases h:t<d.size*k
 .rw[QdZ _ t a (by simpa using h)];have l:0<k:=by
   rcases Nat.eq_zero_or_pos k with q|q
   .subst q;simp at h
   .exact q
  have j:t/k<d.size:=Nat.div_lt_of_lt_mul (by rw[Nat.mul_comm];exact h);have g:t%k<k:=Nat.mod_lt _ l;have b:t<(flatK enc k d).size:=by simpa using h
  have e:=get_flatK enc k d t h;rw[getElem!_pos (flatK enc k d) t b]at e;rw[Array.getElem?_eq_getElem b,e];simp[j];rw[XL (by rw[f];exact g)];rfl
 .have e:(d.toList.map enc).flatten.length=d.size*k:=by rw[Qas _ a];simp
  rw[Array.getElem?_eq_none (by simpa using h),XP (by rw[e];omega)]
section
variable {ro:Nat->Prop} {σ:Sig} {w:World} {T:Type} {enc:T->List A} {k:Nat}
theorem RL.parts:∀{l:List T} {lv:List Value},RL ro σ w k (l.map enc) lv->
  ∃(ps:List (T×List Value)) (rest:List Value),ps.map (·.1)=l/\lv=(ps.map (·.2)).flatten++rest/\ ∀p∈ps,p.2.length=k/\LR ro σ w (enc p.1) p.2/\ ∀v∈p.2,Qm v
 |[],lv,_=>⟨[],lv,rfl,rfl,by simp⟩
 |x::l,lv,h=>by
  obtain⟨l1,l2,rfl,h1,⟨h2,h3⟩,h4⟩:=h;obtain⟨ps,rest,e1,rfl,h5⟩:=RL.parts (l:=l) h4;refine⟨(x,l1)::ps,rest,by simp[e1],by simp,?_⟩;intro p hp;rcases X7.1 hp with rfl|hp
  .exact⟨by rw[h2.length];exact h1,h2,h3⟩
  .exact h5 p hp
theorem Qb0(hk:∀x:T,(enc x).length=k):∀{ps:List (T×List Value)} {rest:List Value},(∀p∈ps,LR ro σ w (enc p.1) p.2/\ ∀v∈p.2,Qm v)->RL ro σ w k ((ps.map (·.1)).map enc) ((ps.map (·.2)).flatten++rest)
 |[],_,_=>trivial
 |p::ps,rest,h=>by
  refine⟨p.2,(ps.map (·.2)).flatten++rest,by simp,hk _,h p (by simp),Qb0 hk λq hq=>h q (by simp[hq])⟩
end
structure Elt (ro:Nat->Prop) (w:World) {T:Type} (enc:T->List A) (k:Nat) (l:List T) where
 x:T
 vs:List Value
 mem:x∈l
 len:vs.length=k
 rel:LR ro [] w (enc x) vs
 plain:∀v∈vs,Qm v
theorem QfX{v:Value}(h:Qm v):v.oneCell'=true:=by cases v<;>first|rfl|exact h.elim
theorem Qog{P:Program}{ρ:Ren}(L:SlLaysF0.n6 P ρ){T:Type}[DecidableEq T]{enc:T->List A}{k t g:Nat}{cap:List A}{l l':List T}{cf:T->T->Option Int}(hs:QbL cf l=some l')
  (a8:∀x y c,cf x y=some c->C P g ([.agg (enc x),.agg (enc y)]++cap) [] (λa H=>a=.int .i64 c/\H=[]))
  (aE:∀w,(isAgg (ρ.t 24)).run P w=.ok true w)(zE:∀w,(Go.sizeOf (ρ.t 24)).run P w=.ok k w)(eg:∀args w,(callFunc g args).run P w=.ok (.enter g args) w)
  (hk:∀x,(enc x).length=k)(hd:Yc cap=true):
  C P (ρ.f 6) [.osl 0 0 l.length k,.fn (.func g) [] cap] [.row t k (l.map enc)] (λa H=>a=.tup []/\H=[.row t k (l'.map enc)]):=by
 intro fr G σ vals w s hv;obtain⟨vs,r1,rfl,bq,vf,r2,rfl,bg,hr⟩:=hv;cases(show r2=[]from hr);obtain⟨lf,lc,rfl,h1,a9⟩:=bg;cases(show lf=[]from h1);have ar:LR G [] w cap lc:=LR.data hd a9;obtain⟨bc,ai,R,av,a3⟩:=QcI hs;have E:∀(ad:Option Addr) (c:Nat),vs=.slice ad 0 c->l=[]->
   Calls P (ρ.f 6) [vs,.func (.func g) #[] lc.toArray].toArray w λe w'=>∃v r H' ac τ,e=.returned v/\(r=.tup []/\H'=[.row t k (l'.map enc)])/\Sim fr ac (σ++τ) H' w'/\VR ac (σ++τ) w' r v/\Qe fr G w ac w':=by
  rintro ad c rfl rfl;have af:l'=[]:=by rw[<- a3];rfl
  subst af;refine(AnyF.slices_SortFunc_none L ad c (.func (.func g) #[] lc.toArray) w).mono ?_;rintro e w' ⟨rfl,rfl⟩;exact⟨_,_,_,G,[],rfl,⟨rfl,rfl⟩,by simpa using s,⟨[],rfl,rfl⟩,Qe.refl _ _ _⟩
 rcases bq with⟨h0,rfl⟩|⟨b,p,cp,t',m,q1,rfl,q2,q3,q4,q5⟩
 .exact E none 0 rfl (VK.1 h0)
 .by_cases af:l=[]
  .subst af;exact E _ cp rfl rfl
  .have bj:0<l.length:=List.length_pos_iff.2 af;obtain rfl:=q2 (Vg bj q3);obtain⟨lv,e1,e2⟩:=s.blk 0 _ _ q1 rfl;obtain⟨hb,am,a0⟩:=s.own 0 b _ q1 rfl rfl;obtain⟨V,J,a6,rfl,ag⟩:=RL.parts e2
   let α:=Elt G w enc k l
   have az:∀p∈V,p.1∈l:=λp hp=>by rw[<- a6];exact VH hp
   let ds:List α:=V.attach.map λp=>⟨p.1.1,p.1.2,az _ p.2,(ag _ p.2).1,(ag _ p.2).2.1,(ag _ p.2).2.2⟩
   have a2:∀{γ:Type} (f:T×List Value->γ),V.attach.map (λp=>f p.1)=V.map f:=λf=>by simp
   have M:ds.map (·.x)=l:=by
    show(V.attach.map _).map _=_;rw[List.map_map];exact(a2 (·.1)).trans a6
   have aj:ds.map (·.vs)=V.map (·.2):=by
    show(V.attach.map _).map _=_;rw[List.map_map];exact a2 (·.2)
   have au:ds.length=l.length:=by rw[<- M];simp
   have ba:ds≠[]:=by intro q;rw[q]at au;simp at au;omega
   let inh:Inhabited α:=⟨ds.head ba⟩
   let enc':α->List Value:=λa=>a.vs
   let cf':α->α->Int:=λx y=>(cf x.x y.x).getD 0
   have ah:∀x y:α,ltOf cf' x y=ltO cf x.x y.x:=by
    intro x y;obtain⟨c,B⟩:=ai x.x x.mem y.x y.mem;simp only[ltOf,ltO,cf',B,Option.getD_some]
   have hO:SWO (ltOf cf'):=⟨λx=>by rw[ah];exact R.irrefl _ x.mem,λx y z a b=>by rw[ah]at*;exact R.trans _ x.mem _ y.mem _ z.mem a b,
    λx y z a b=>by rw[ah]at*;exact R.ntrans _ x.mem _ y.mem _ z.mem a b⟩
   have ab:∀x:α,(enc' x).length=k:=λx=>x.len;have aw:flatK enc' k ds.toArray=((V.map (·.2)).flatten).toArray:=by
    rw[Qh4 ab];show((ds.map λa=>a.vs).flatten).toArray=_;rw[aj]
   have bm:∀v∈V.map (·.2),v.length=k:=by
    intro v hv;obtain⟨p,hp,rfl⟩:=Xf.1 hv;exact(ag p hp).1
   have aa:(V.map (·.2)).flatten.length=ds.length*k:=by rw[Qas _ bm, <- aj];simp
   have hH:HoldsK enc' k w b (0*k) ds.toArray:=by
    intro j hj;rw[aw]at hj⊢;simp only[List.size_toArray]at hj;constructor
    .unfold World.cell?;simp only[e1,Option.isSome_none,Xj,if_false,Nat.zero_mul,Xw];rw[Qad,XN hj];exact QeZ _ _ hj
    .unfold World.frozen?;simp only[e1];simp
   have ax:∀(d:Array α),d.size=ds.toArray.size->(putRowK enc' k w b (0*k) d).heap=w.heap.setIfInBounds b (.cells (((d.toList.map enc').flatten++J)).toArray t (0,0)):=by
    intro d u;have ae:(d.toList.map enc').flatten.length=(V.map (·.2)).flatten.length:=by
     rw[Qas _ (k:=k) (by intro v hv;obtain⟨x,_,rfl⟩:=Xf.1 hv;exact ab x),aa];simp at u⊢;rw[u]
    unfold putRowK putRow mapBlock;show w.heap.modify b _=_;rw[Qbc e1];simp only[onCells];congr 2;rw[Qh4 ab];unfold putCells;apply Array.ext_getElem?;intro i;simp only[Array.getElem?_mapIdx,Qad,Nat.zero_mul,XV,true_and,Xw,Xv,List.size_toArray,id_eq];by_cases hi:i<(d.toList.map enc').flatten.length
    .rw[XN hi,XN (by rw[<- ae];exact hi),XL (by rw[<- ae];exact hi),QeZ _ _ hi];exact congrArg some (Vu hi)
    .rw[XO (by omega),XO (by omega),ae];cases(J[i-(V.map (·.2)).flatten.length]?)with
     |none=>rfl
     |some v=>
      rw[<- ae];exact congrArg some (Vt hi)
   have N:∀(m:Nat) (os:Array Obj) (d:Array α),d.size=ds.toArray.size->
     (∀c,c<w.heap.size->c≠b->(sortWorldK enc' k w b (0*k) m d os).heap[c]?=w.heap[c]?)/\(sortWorldK enc' k w b (0*k) m d os).heap[b]?=some (.cells (((d.toList.map enc').flatten++J)).toArray t (0,0))/\
     w.heap.size<=(sortWorldK enc' k w b (0*k) m d os).heap.size:=by
    intro m os d u;have e:(sortWorldK enc' k w b (0*k) m d os).heap=w.heap.setIfInBounds b (.cells (((d.toList.map enc').flatten++J)).toArray t (0,0))++os:=by
     rw[<- ax d u];rfl
    rw[e];refine⟨λc B bk=>?_,?_,by simp⟩
    .rw[Array.getElem?_append_left (by simpa using B),Vf,Vt (λq=>bk q.symm)]
    .rw[Array.getElem?_append_left (by simpa using hb),Vf,Vu rfl,Vu hb]
   have O:∀(m:Nat) (os:Array Obj) (d:Array α),d.size=ds.toArray.size->∀c y,w.shape? c=some y->(sortWorldK enc' k w b (0*k) m d os).shape? c=some y:=by
    intro m os d u c y hy;obtain⟨g1,g2,g3⟩:=N m os d u;by_cases B:c=b
    .subst B;unfold World.shape? at hy⊢;rw[e1]at hy;rw[g2];simp only[Option.some.injEq]at hy⊢;rw[<- hy];congr 1;simp only[List.size_toArray,X4];rw[Qas _ (k:=k) (by intro v hv;obtain⟨x,_,rfl⟩:=Xf.1 hv;exact ab x),aa];simp at u⊢;rw[u]
    .unfold World.shape? at hy⊢;rw[g1 c (QbM hy) B];exact hy
   have al:∀(m:Nat) (os:Array Obj) (d:Array α),d.size=ds.toArray.size->∀τ,Ext G τ w G τ (sortWorldK enc' k w b (0*k) m d os):=by
    intro m os d u τ;obtain⟨g1,g2,g3⟩:=N m os d u;exact⟨λ_ q=>q,λc B=>g1 c (s.roLt c B) (λq=>am (q▸B)),O m os d u,λ_ _ q=>q⟩
   have bn:CmpLays P g lc.toArray enc' k cf' b (0*k) ds.toArray.size w:=by
    intro m os dk a4 x y;obtain⟨c,B⟩:=ai x.x x.mem y.x y.mem;have F:=al m os dk a4 [];have bh:=a8 _ _ _ B;generalize hW:sortWorldK enc' k w b (0*k) m dk os=W at*;have bf:w.heap.size<=W.heap.size:=by rw[<- hW];exact(N m os dk a4).2.2
    have sW:Sim (λc=>c<W.heap.size/\ ¬G c) G [] [] W:=
     ⟨rfl,s.roOk.to (λ_ q=>q) F.keep (λc B=>Vg (s.roLt c B) bf),λc B=>B.1,λc B hf=>hf.2 B,λi b x h=>by simp at h,λi j b x y h=>by simp at h,λi y x h=>by simp at h,λi b x c h=>by simp at h⟩
    have ao:LR G [] W ([.agg (enc x.x),.agg (enc y.x)]++cap) ([.agg x.vs.toArray,.agg y.vs.toArray]++lc):=
     LR.append (show LR G [] W [A.agg (enc x.x),A.agg (enc y.x)] [Value.agg x.vs.toArray,Value.agg y.vs.toArray]from⟨_,_,rfl,⟨x.vs,rfl,x.rel.mono F⟩,_,_,rfl,⟨y.vs,rfl,y.rel.mono F⟩,rfl⟩) (ar.mono F)
    have Q:=bh _ G [] _ W sW ao;have bo:(([Value.agg x.vs.toArray,Value.agg y.vs.toArray]++lc).toArray:Array Value)= #[Value.agg (enc' x).toArray,Value.agg (enc' y).toArray]++lc.toArray:=by simp[enc']
    rw[bo]at Q;refine Q.mono ?_;rintro e w' ⟨v,r,H',ac,τ,rfl,⟨rfl,rfl⟩,s',bl,ev⟩;refine⟨?_,?_⟩
    .rw[show v=.int .i64 c from bl];simp only[cf',B,Option.getD_some]
    .refine Qkd (λc B=>?_) ev.size ev.os ev.tape ev.output ev.drawn;by_cases a7:G c
     .exact ev.keepRo c a7
     .exact ev.keepFr c ⟨B,a7⟩
   have Y:ds.toArray.size=l.length:=by simpa using au
   have ak:=AnyQ.slices_SortFunc L k aE zE enc' ab (λx v hv=>QfX (x.plain v hv)) cf' hO g lc.toArray b (0*k) cp ds.toArray w eg bn hH hb (by rw[Y];unfold Qq at bc;omega);rw[Y]at ak;refine ak.mono ?_;rintro e w' ⟨rfl,d,n,os,X,ay,rfl⟩;have u:d.size=ds.toArray.size:=X.1;obtain⟨g1,g2,g3⟩:=N n os d u;have an:d.toList.Perm ds:=by
    have h:=X.2.2;have x1:d.extract 0 l.length=d:=by rw[<- Y, <- u];exact Array.extract_size
    have x2:ds.toArray.extract 0 l.length=ds.toArray:=by rw[<- Y];exact Array.extract_size
    rw[x1,x2]at h;simpa using h
   have bb:d.toList.map (·.x)=l':=by
    rw[<- a3];refine Jh (lt:=ltO cf) ?_ ?_ ?_ (QS R)
    .exact((an.map (·.x)).trans (by rw[M])).trans (Ql _ _).symm
    .intro x hx y hy;have bp:x∈l:=by rw[<- M];exact(an.map (·.x)).mem_iff.1 hx
     have bd:y∈l:=by rw[<- M];exact(an.map (·.x)).mem_iff.1 hy
     exact av x bp y bd
    .rw[VF];intro i j hi hj bi;simp only[X3]at hi hj;simp only[List.getElem_map];rw[<- ah];have:=ay i j (XV _) bi (by rw[<- Y, <- u];simpa using hj);rw[getElem!_pos d j (by simpa using hj),getElem!_pos d i (by simpa using hi)]at this;simpa using this
   have be:RL G [] (sortWorldK enc' k w b (0*k) n d os) k (l'.map enc) ((d.toList.map enc').flatten++J):=by
    have e3:d.toList.map enc'=(d.toList.map λa=>(a.x,a.vs)).map (·.2):=by simp[enc']
    have e4:l'=(d.toList.map λa=>(a.x,a.vs)).map (·.1):=by rw[<- bb];simp
    rw[e3,e4];refine Qb0 hk ?_;intro p hp;obtain⟨a,_,rfl⟩:=Xf.1 hp;exact⟨a.rel.mono (al n os d u []),a.plain⟩
   have a1:Qe fr G w G (sortWorldK enc' k w b (0*k) n d os):=
    ⟨λ_ q=>q,λc B=>g1 c (s.roLt c B) (λq=>am (q▸B)),λc B=>g1 c (s.frLt c B) (λq=>a0 (q▸B)),g3,O n os d u,rfl,rfl,rfl,Nat.le_add_right _ _⟩
   have aq:σ.length=1:=s.len;have a5:Sim fr G σ [.row t k (l'.map enc)] (sortWorldK enc' k w b (0*k) n d os):=by
    have i0:∀{i:Nat} {x:Blk},([.row t k (l'.map enc)]:Qc)[i]?=some x->i=0/\x=.row t k (l'.map enc):=by
     intro i x h;cases i with
     |zero=>simp at h;exact⟨rfl,h.symm⟩
     |succ i=>simp at h
    refine⟨aq,s.roOk.to (λ_ q=>q) a1.keepRo (λc B=>Vg (s.roLt c B) g3),λc B=>Vg (s.frLt c B) g3,s.roFr,λi c x h1 h2 h3=>?_,λi j c x y h1 h2 h3 h4 _ _=>?_,λi y x h1 h2=>?_,λi b x c h1 h2 h3=>by obtain⟨rfl,rfl⟩:=i0 h2;exact h3.elim⟩
    .obtain⟨rfl,rfl⟩:=i0 h2;obtain⟨p1,p2⟩:=s.own 0 c _ h1 rfl rfl;exact⟨Vg p1 g3,p2⟩
    .rw[(i0 h3).1,(i0 h4).1]
    .obtain⟨rfl,rfl⟩:=i0 h2;rw[q1]at h1;cases h1;exact⟨_,g2,be⟩
   exact⟨_,_,_,G,[],rfl,⟨rfl,rfl⟩,by simpa using a5,⟨[],rfl,rfl⟩,a1⟩
end Go.Sw
namespace Go.Sw
section
variable {P:Program} {o:Oper} {env:Env} {H:Qc} {fr ro:Nat->Prop} {σ:Sig} {w:World}
theorem Sim.addRo(s:Sim fr ro σ H w){b:Nat}(n:b<w.heap.size)(k:¬fr b)(z:∀(i:Nat) (x:Blk),σ[i]?=some (some b)->H[i]?=some x->x.live=true->False)
  (g:∀(i d:Nat) (x:Blk),σ[i]?=some (some d)->H[i]?=some x->Hid w x d b->False):Sim fr (λc=>ro c\/c=b) σ H w:=by
 refine⟨s.len,s.roOk.to (λ_ q=>.inl q) (λ_ _=>rfl) ?_,s.frLt,?_,?_,s.inj,?_,s.hidTo (· = ·) QW (XU _) (λj d x c E m p B=>B.elim id λq=>(g j d x E m (q▸p)).elim) (λ_ _ _ _ _ _ _ q=>q) λj d y t u F=>.inl ⟨j,y,rfl,t,u,id,λ_ q=>q⟩⟩
 .rintro c (q|rfl)
  .exact s.roLt c q
  .exact n
 .rintro c (q|rfl)
  .exact s.roFr c q
  .exact k
 .intro i c x e a f;obtain⟨h,l,r⟩:=s.own i c x e a f;refine⟨h,?_,r⟩;rintro(q|rfl)
  .exact l q
  .exact z i x e a f
 .intro i y x e a;exact(s.blk i y x e a).keep ⟨λ_ q=>.inl q,λ_ _=>rfl,λ_ _ q=>q,λ_ _ q=>q⟩ (λ_ _ _=>rfl) (λ_ _ _ _=>rfl)
theorem YP{T e k n:Nat}{xs:List Operand}{es:List (List A)}(E:QN P T e k)(X:o.op=.buildSlice T n (Qak 0 xs).toArray)(M:xs.length=n)(F:Nat.ble (n*k) 16777216=true)
  (Y:(xs.all λx=>Q8 (opA env x))=true)(y:QB env xs=es)(L:allK k es)(V:es.flatten.all Yo=true)(R:Yc es.flatten=true):
  OpH P o env H (.rsl k es) H:=by
 intro W p σ N a w r;subst y;obtain⟨l,h1,J⟩:=Js r E M F Y L;have u:LR p [] w (QB env xs).flatten l:=J.data R;have f:∀b,b<w.heap.size->(w.alloc (.cells l.toArray e)).heap[b]?=w.heap[b]? :=λb Q=>Ya _ _ b Q;have h:w.heap.size<=(w.alloc (.cells l.toArray e)).heap.size:=by rw[Q5];omega
 have s1:=r.sim.grown f h;have t:Qe W p w p (w.alloc (.cells l.toArray e)):=Qe.alloc _ r.sim.roLt r.sim.frLt;have O:=s1.addRo (b:=w.heap.size) (by rw[Q5];omega) (λq=>Nat.lt_irrefl _ (r.sim.frLt _ q)) (λi x m s B=>Nat.lt_irrefl _ (r.sim.own i _ x m s B).1)
  (λi d x m s B=>Nat.lt_irrefl _ (r.sim.hid i d x _ m s (r.sim.hidKeep m s (λz=>f d (r.sim.own i d x m s z).1) (λb q=>f b (r.sim.roLt b q)) B)).lt)
 have G:RL p [] (w.alloc (.cells l.toArray e)) k (QB env xs) l:=by
  have:=Y0 (rest:=[]) L (u.mono (t.ext0 [])) (J.plain V)
  rwa [Vh]at this
 have g:(QB env xs).length=n:=by simp[QB,M]
 refine⟨_,_,λc=>p c\/c=w.heap.size,[],Jd X a.eval h1,?_,by simpa using O,t.trans (YG λ_ q=>.inl q)⟩;refine⟨some ⟨w.heap.size,0,none⟩,n,by rw[g],by rw[g];exact XU _,.inr ⟨w.heap.size,0,rfl,.inr rfl,?_⟩⟩;have j:(w.alloc (.cells l.toArray e)).heap[w.heap.size]?=some (.cells (([]:List Value)++l).toArray e (0,0)):=Q9 _ _;have:=YI (pre:=[]) j G;exact this.keep ⟨λ_ q=>.inl q,λ_ _=>rfl,λ_ _ q=>q,λ_ _ q=>q⟩ rfl
end
inductive QjJ:List A->List A->Prop
 |nil:QjJ [] []
 |eq {a:A} {l m:List A} (h:QjJ l m):QjJ (a::l) (a::m)
 |nl {k:Nat} {l m:List A} (h:QjJ l m):QjJ (.nils::l) (.rsl k []::m)
theorem LR.nils{ro:Nat->Prop}{σ:Sig}{w:World}{g f:List A}(h:QjJ g f):∀{l:List Value},LR ro σ w g l->LR ro σ w f l:=by
 induction h with
 |nil=>intro l h;exact h
 |eq _ ih=>rintro l ⟨v,d,e,a,b⟩;exact⟨v,d,e,a,ih b⟩
 |nl _ ih=>rintro l ⟨v,d,e,a,b⟩;exact⟨v,d,e,⟨none,0,a,XU _,.inl rfl⟩,ih b⟩
theorem C.nils{P:Program}{f:FuncId}{l1 bs:List A}{H:Qc}{Q:A->Qc->Prop}(hl:QjJ l1 bs)(h:C P f bs H Q):C P f l1 H Q:=
 λfr ro σ vals w s l=>h fr ro σ vals w s (LR.nils hl l)
end Go.Sw
namespace Go.Sw
def Qi(k:IntKind)(n:Int):Prop:=k.min<=n/\n<=k.max
def Qd4(w:World):Nat->Prop:=λb=>b<w.heap.size
structure Qni {H:Type} (μ:DataW H->Nat):Prop where
 str:∀bytes,bytes.length<=μ (.lit (.string bytes))
 sl:∀e s,e.length<=μ (.slice e s)
 sle:∀e s,∀d∈e,μ d<=μ (.slice e s)
 ag:∀ps,∀d∈ps,μ d<=μ (.agg ps)
def RB(P:Program)(n:Nat)(t:TypeId)(T:Type)(e:T->List A)(wf:T->Prop):Prop:=
 ∀(H:Type) (enc:TypeId×Value->H) (w:World) (base:Nat) (spare:Nat->Bool) (held:Bool) (m:Nat) (cs:List Value) d,m<n->DataW.trod enc P w base spare held m t cs=some d->
  ∀μ:DataW H->Nat,Qni μ->μ d.1<=1048576->∃x:T,wf x/\LR (Qd4 w) [] w (e x) cs/\ ∀v∈cs,Qm v
section
variable {P:Program} {n:Nat} {t:TypeId} {T:Type} {e:T->List A} {wf:T->Prop}
theorem RB.down(h:RB P (n+1) t T e wf):RB P n t T e wf:=λH enc w base spare held m cs d hm=>h H enc w base spare held m cs d (Nat.lt_succ_of_lt hm)
theorem Qer(h:∀n,RB P n t T e wf->RB P (n+1) t T e wf):∀n,RB P n t T e wf
 |0=>λH enc w base spare held m cs d hm=>absurd hm (Xn _)
 |n+1=>h n (Qer h n)
theorem QX{T':Type}{b:T'->List A}{a:T'->Prop}(h:RB P n t T e wf)(g:T->T')(he:∀x,b (g x)=e x)(j:∀x,wf x->a (g x)):RB P n t T' b a:=by
 intro H enc w base spare held m cs d hm hd μ hμ hwt;obtain⟨x,f,i,k⟩:=h H enc w base spare held m cs d hm hd μ hμ hwt;exact⟨g x,j x f,by rw[he];exact i,k⟩
theorem RB.int{k:IntKind}(a:P.underlying t=some (.int k)):RB P n t Int (Qj k) (Qi k):=by
 intro H enc w base spare held m cs d hm hd μ hμ hwt;cases m with
 |zero=>simp[DataW.trod]at hd
 |succ m=>
  rcases cs with _|⟨v,_|⟨g,r⟩⟩
  .simp[DataW.trod,a]at hd
  .cases v<;>simp[DataW.trod,a]at hd;rename_i f b;obtain⟨⟨rfl,e⟩,_⟩:=hd;refine⟨b,?_,⟨_,_,rfl,rfl,rfl⟩,by simp[Qm]⟩;simpa[Lit.wf,Qi]using e
  .simp[DataW.trod,a]at hd
theorem RB.bool(a:P.underlying t=some .bool):RB P n t Bool Qa6 (λ_=>True):=by
 intro H enc w base spare held m cs d hm hd μ hμ hwt;cases m with
 |zero=>simp[DataW.trod]at hd
 |succ m=>
  rcases cs with _|⟨v,_|⟨e,r⟩⟩
  .simp[DataW.trod,a]at hd
  .cases v<;>simp[DataW.trod,a]at hd;rename_i b;exact⟨b,trivial,⟨_,_,rfl,rfl,rfl⟩,by simp[Qm]⟩
  .simp[DataW.trod,a]at hd
theorem RB.string(a:P.underlying t=some .string):RB P n t (List UInt8) encS (λs=>s.length<=1048576):=by
 intro H enc w base spare held m cs d hm hd μ hμ hwt;cases m with
 |zero=>simp[DataW.trod]at hd
 |succ m=>
  rcases cs with _|⟨v,_|⟨b,r⟩⟩
  .simp[DataW.trod,a]at hd
  .cases v<;>simp[DataW.trod,a]at hd;rename_i s;obtain⟨_,rfl⟩:=hd;exact⟨s.data.toList,XW (hμ.str _) hwt,⟨_,_,rfl,rfl,rfl⟩,by simp[Qm]⟩
  .simp[DataW.trod,a]at hd
theorem Qcz{α:Type}{f:Nat->Option α}:∀{n:Nat} {l:List α},(List.range n).mapM f=some l->l.length=n/\ ∀i,i<n->∃y,f i=some y/\l[i]?=some y
 |0,l,h=>by simp at h;subst h;exact⟨rfl,λi hi=>absurd hi (Xn _)⟩
 |n+1,l,h=>by
  rw[List.range_succ,List.mapM_append]at h;cases h1:(List.range n).mapM f with
  |none=>simp[h1]at h
  |some l1=>
   cases h2:f n with
   |none=>simp[h1,h2]at h
   |some y=>
    simp[h1,h2]at h;subst h;obtain⟨e1,e2⟩:=Qcz h1;refine⟨by simp[e1],λi hi=>?_⟩;rcases Xp.1 hi with q|rfl
    .obtain⟨z,z1,z2⟩:=e2 i q;exact⟨z,z1,by rw[XN (by omega)];exact z2⟩
    .exact⟨y,h2,by rw[XO (by omega)];simp[e1]⟩
theorem Qea{w:World}{ro:Nat->Prop}{b:Nat}:∀{cs:List A} {l:List Value} {off:Nat},LR ro [] w cs l->(∀v∈l,Qm v)->(∀i,i<l.length->w.cell? ⟨b,off+i,none⟩=l[i]?)->CR ro [] w b cs off
 |[],_,_,_,_,_=>trivial
 |a::cs,l,off,h,hp,hc=>by
  obtain⟨v,l',rfl,h1,h2⟩:=h;refine⟨⟨v,by simpa using hc 0 (by simp),hp v (by simp),h1⟩,Qea h2 (λv hv=>hp v (by simp[hv])) λi hi=>?_⟩;have:=hc (i+1) (by simpa using hi);rw[show off+1+i=off+(i+1)by omega,this];simp
theorem RB.slice{E:TypeId}{k:Nat}{s:TypeId}(M:P.underlying s=some (.slice E))(hk:P.cellsOf E=k)(h0:Nat.blt 0 k=true)(hl:∀x,(e x).length=k)(h:RB P n E T e wf):
  RB P (n+1) s (List T) (Qjs k e) (λl=>l.length<=1048576/\ ∀x∈l,wf x):=by
 intro H enc w base spare held m cs d hm hd μ hμ hwt;have k0:0<k:=by simpa using h0
 cases m with
 |zero=>simp[DataW.trod]at hd
 |succ m=>
  rcases cs with _|⟨v,_|⟨v2,r⟩⟩
  .simp[DataW.trod,M]at hd
  .cases v<;>try (simp[DataW.trod,M]at hd;done)
   rename_i a len p;cases a with
   |none=>
    rcases len with _|len
    .rcases p with _|p
     .refine⟨[],⟨by simp,by simp⟩,⟨_,_,rfl,⟨none,0,rfl,XU _,.inl rfl⟩,rfl⟩,by simp[Qm]⟩
     .simp[DataW.trod,M]at hd
    .simp[DataW.trod,M]at hd
   |some a=>
    simp only[DataW.trod,M]at hd;split at hd
    .rename_i hc;obtain⟨c1,c2,c3⟩:=hc;cases G:(List.range len).mapM (λi=>(w.cells? base (a.add (i*P.cellsOf E)) (P.cellsOf E)).bind (DataW.trod enc P w base spare held m E))with
     |none=>rw[G]at hd;cases hd
     |some f=>
      rw[G]at hd;simp only[XK,Option.map_eq_some_iff]at hd;obtain⟨u,_,rfl⟩:=hd;have J:f.length<=1048576:=by
       have h1:=hμ.sl (f.map (·.1)) (u.map (·.1));rw[X3]at h1;exact XW h1 hwt
      have aa:∀y∈f,μ y.1<=1048576:=λy R=>XW (hμ.sle _ (u.map (·.1)) _ (VH R)) hwt;obtain⟨e1,e2⟩:=Qcz G;have Q:∀i,i<len->∃(x:T) (l:List Value),wf x/\LR (Qd4 w) [] w (e x) l/\(∀v∈l,Qm v)/\l.length=k/\ ∀j,j<k->w.cell? ((a.add (i*k)).add j)=l[j]? :=by
       intro i hi;obtain⟨y,y1,y2⟩:=e2 i hi;rw[hk]at y1;cases g:w.cells? base (a.add (i*k)) k with
       |none=>rw[g]at y1;cases y1
       |some l=>
        rw[g]at y1;obtain⟨x,x1,x2,x3⟩:=h H enc w base spare held m l y (by omega) y1 μ hμ (aa y (VI y2));refine⟨x,l,x1,x2,x3,by rw[x2.length];exact hl x,λj hj=>?_⟩;unfold World.cells? at g;split at g
        .obtain⟨_,z2⟩:=Qcz g;obtain⟨v,v1,v2⟩:=z2 j hj;rw[v2, <- v1]
        .cases g
      by_cases V:len=0
      .subst V;exact⟨[],⟨by simp,by simp⟩,⟨_,_,rfl,⟨some a,p,rfl,XV _,.inl rfl⟩,rfl⟩,by simp[Qm]⟩
      .have first:a.spot=none/\a.block<w.heap.size:=by
        obtain⟨x',l,p1,p2,p3,p4,p5⟩:=Q 0 (by omega);have B:=p5 0 k0;have Y:l[0]?=some l[0]:=XL (by omega);have ea:(a.add (0*k)).add 0=a:=by simp[Addr.add]
        rw[Y,ea]at B;unfold World.cell? at B;split at B
        .rename_i hh;constructor
         .cases q:a.spot with
          |none=>rfl
          |some z=>simp[q]at B
         .exact(Vd.1 hh).1
        .cases B
       obtain⟨t,hb⟩:=first
       have W:∀n,a.add n=⟨a.block,a.off+n,none⟩:=by
        intro n;cases a;simp only at t;subst t;unfold Addr.add;split
        .rename_i q;subst q;rfl
        .rfl
       have F:∀(b o n:Nat),(⟨b,o,none⟩:Addr).add n=⟨b,o+n,none⟩:=by
        intro b o n;unfold Addr.add;split
        .rename_i q;subst q;rfl
        .rfl
       have pick:∀q i,len-i=q->i<=len->∃L:List T,L.length=len-i/\(∀x∈L,wf x)/\RR (Qd4 w) [] w a.block k (L.map e) (a.off+i*k):=by
        intro q
        induction q with
        |zero=>intro i hq hi;exact⟨[],by simp[hq],by simp,trivial⟩
        |succ q ih=>
         intro i hq hi;obtain⟨L,N,X,O⟩:=ih (i+1) (by omega) (by omega);obtain⟨x,l,p1,p2,p3,p4,p5⟩:=Q i (by omega);refine⟨x::L,by simp[N];omega,by intro y R;rcases X7.1 R with rfl|R;exact p1;exact X y R,hl x,?_,?_⟩
         .refine Qea p2 p3 λj hj=>?_;have B:=p5 j (by omega);rw[W,F]at B;exact B
         .rw[Xm, <- Nat.add_assoc]at O;exact O
       obtain⟨L,N,X,O⟩:=pick len 0 (by omega) (XV _);rw[Nat.zero_mul,Xx]at O;rw[Xv]at N;refine⟨L,⟨by rw[N, <- e1];exact J,X⟩,⟨_,_,rfl,⟨some a,p,by simp[N],by simp[N];exact c2,.inr ⟨a.block,a.off,?_,hb,O⟩⟩,rfl⟩,by simp[Qm]⟩;cases a;simp only at t;subst t;rfl
    .cases hd
  .simp[DataW.trod,M]at hd
def RF(P:Program)(n:Nat)(fs:List Field)(off L:Nat)(T:Type)(e:T->List A)(wf:T->Prop):Prop:=
 ∀(H:Type) (enc:TypeId×Value->H) (w:World) (base:Nat) (spare:Nat->Bool) (held:Bool) (m:Nat) (cs:List Value) ds,m<n->cs.length=L->
  fs.mapM (λf=>DataW.trod enc P w base spare held m f.type ((cs.drop f.offset).take (P.cellsOf f.type)))=some ds->
  ∀μ:DataW H->Nat,Qni μ->(∀y∈ds,μ y.1<=1048576)->∃x:T,wf x/\LR (Qd4 w) [] w (e x) (cs.drop off)/\ ∀v∈cs.drop off,Qm v
theorem RF.nil{L:Nat}:RF P n [] L L Unit (λ_=>[]) (λ_=>True):=by
 intro H enc w base spare held m cs ds hm hl hd μ hμ hwt;have:cs.drop L=[]:=List.drop_eq_nil_of_le (by omega);rw[this];exact⟨(),trivial,rfl,by simp⟩
theorem RF.cons{f:Field}{fs:List Field}{off L k:Nat}{T2:Type}{s:T2->List A}{g:T2->Prop}(u:f.offset=off)(E:P.cellsOf f.type=k)(h:RB P n f.type T e wf)(r:RF P n fs (off+k) L T2 s g):
  RF P n (f::fs) off L (T×T2) (λp=>e p.1++s p.2) (λp=>wf p.1/\g p.2):=by
 intro H enc w base spare held m cs ds hm hl hd μ hμ hwt;rw[List.mapM_cons]at hd;cases i:DataW.trod enc P w base spare held m f.type ((cs.drop f.offset).take (P.cellsOf f.type))with
 |none=>simp[i]at hd
 |some d=>
  cases j:fs.mapM (λf=>DataW.trod enc P w base spare held m f.type ((cs.drop f.offset).take (P.cellsOf f.type)))with
  |none=>simp[i,j]at hd
  |some a=>
   have l:ds=d::a:=by
    rw[i,j]at hd;exact(X0 hd).symm
   subst l;rw[u,E]at i;obtain⟨x,G,z,F⟩:=h H enc w base spare held m _ d hm i μ hμ (hwt d (by simp));obtain⟨y,y1,y2,t⟩:=r H enc w base spare held m cs a hm hl j μ hμ (λy J=>hwt y (by simp[J]));have b:cs.drop off=(cs.drop off).take k++cs.drop (off+k):=by rw[<- List.drop_drop,Xz]
   refine⟨(x,y),⟨G,y1⟩,by rw[b];exact z.append y2,?_⟩;rw[b];intro v B;rcases VE.1 B with q|q
   .exact F v q
   .exact t v q
theorem RB.struct{fs:Array Field}{L:Nat}(b:P.underlying t=some (.struct fs))(i:P.cellsOf t=L)(h:RF P n fs.toList 0 L T e wf):RB P (n+1) t T e wf:=by
 intro H enc w base spare held m cs d hm hd μ hμ hwt;cases m with
 |zero=>simp[DataW.trod]at hd
 |succ m=>
  unfold DataW.trod at hd;simp only[b]at hd;split at hd
  .rename_i g;cases a:fs.toList.mapM (λf=>DataW.trod enc P w base spare held m f.type ((cs.drop f.offset).take (P.cellsOf f.type)))with
   |none=>rw[a]at hd;cases hd
   |some j=>
    rw[a]at hd;simp only[Xk,Option.some.injEq]at hd;subst hd;have:=h H enc w base spare held m cs j (by omega) (by rw[g,i]) a μ hμ (λy k=>XW (hμ.ag _ _ (VH k)) hwt);simpa using this
  .cases hd
end
theorem C.law{P:Program}{f:FuncId}{args:List A}{W:World}{vals:List Value}(h:C P f args [] (λa H=>a=.bool true/\H=[]))(hl:LR (Qd4 W) [] W args vals)(d:GP W):
  Calls P f vals.toArray W λe W'=>e=.returned (.bool true)/\Go.RowKit.Below W.heap.size W W':=by
 have s:Sim (λ_=>False) (Qd4 W) [] [] W:=
  ⟨rfl,⟨λ_ h=>h,λb m=>d.size b m,d⟩,λ_ h=>h.elim,λ_ _ h=>h,λi b x h=>by simp at h,λi j b x y h=>by simp at h,λi y x h=>by simp at h,λi b x c h=>by simp at h⟩
 refine(h _ _ _ _ W s hl).mono ?_;rintro e W' ⟨v,r,H',l,τ,rfl,⟨rfl,rfl⟩,_,n,ev⟩;exact⟨by rw[show v=.bool true from n],⟨ev.os,ev.tape,ev.output,ev.size,λk g=>ev.keepRo k g⟩⟩
theorem Ql8{P:Program}{W:World}{a:Nat}{t:TypeId}{v:Value}{fs:Array Field}(b:P.underlying t=some (.struct fs))(h:Value.okWide P W .any a t v):∃cs,v=.agg cs:=by
 unfold Value.okWide at h;rw[b]at h;obtain⟨cs,rfl,_⟩:=h;exact⟨cs,rfl⟩
theorem Qi6{P:Program}{W:World}{t:TypeId}{cs:Array Value}{T:Type}{e:T->List A}{wf:T->Prop}{H:Type}{enc:TypeId×Value->H}{b:Nat}{a:Nat->Bool}{held:Bool}{d:DataW H}{ps:List MemPlace}
  (h:∀n,RB P n t T e wf)(k:DataW.Trod enc P W b a held t (.agg cs) d ps){μ:DataW H->Nat}(hμ:Qni μ)(f:μ d<=1048576):∃x:T,wf x/\VR (Qd4 W) [] W (.agg (e x)) (.agg cs):=by
 obtain⟨m,g⟩:=k;obtain⟨x,i,j,_⟩:=h (m+1) H enc W b a held m _ _ (Xo _) g μ hμ f;exact⟨x,i,cs.toList,by simp,j⟩
theorem QkI{P:Program}{W:World}{t:TypeId}{a:Option Addr}{len cap:Nat}{T:Type}{e:T->List A}{k:Nat}{wf:List T->Prop}{H:Type}{enc:TypeId×Value->H}{f:Nat}{b:Nat->Bool}{held:Bool}{d:DataW H}{ps:List MemPlace}
  (h:∀n,RB P n t (List T) (Qjs k e) wf)(l:DataW.Trod enc P W f b held t (.slice a len cap) d ps){μ:DataW H->Nat}(hμ:Qni μ)(g:μ d<=1048576):∃x:List T,wf x/\VR (Qd4 W) [] W (.rsl k (x.map e)) (.slice a len cap):=by
 obtain⟨m,p⟩:=l;obtain⟨x,q,⟨v,s,i,j,r⟩,_⟩:=h (m+1) H enc W f b held m _ _ (Xo _) p μ hμ g;refine⟨x,q,?_⟩;have:(Value.slice a len cap).cells.toList=[.slice a len cap]:=rfl;rw[this]at i;cases i;exact j
theorem QiZ{P:Program}{W:World}(h:W.ShapedOpen P){g t u:Nat}{z:Value}(hg:Nat.blt g P.globals.size=true)(s:(((begin P (λ_ _=>0) default).world.heap[g]?).bind Obj.row?)=some (#[z],t))
  (r:P.buildable t=true)(x:P.cellTypes P.depth t=some [u])(p:P.underlying u=some (.int .i64)):∃m:Int,W.cell? ⟨g,0,none⟩=some (.int .i64 m):=by
 obtain⟨d,w,q,l⟩:=h.1 g _ _ (by simpa using hg) s;obtain⟨E,e,_,j⟩:=l r;rw[x]at e;cases e;have B:d.size=1:=q;have a:d[0]?=some d[0]:=Array.getElem?_eq_getElem (by omega);obtain⟨y,i,b⟩:=j 0 _ a;simp at i;subst i;unfold Cell.ok at b;rw[p]at b;cases f:d[0]<;>rw[f]at b<;>simp at b;rename_i k n;obtain⟨rfl,_⟩:=b;refine⟨n,?_⟩;simp only[World.cell?,w];rw[a,f];rfl
end Go.Sw
namespace Go.Sw
theorem Qje{S B:Type}{step:S->Option (Ctl S B)}(st:Nat->S)(b:B)(k:Nat)(p:∀i,i<k->step (st i)=some (.cont (st (i+1))))(f:step (st k)=some (.done b)):∀n,k<n->iter step n (st 0)=some b:=by
 have d:∀m i n,k-i=m->i<=k->m<n->iter step n (st i)=some b:=by
  intro m
  induction m with
  |zero=>
   intro i n l h j;have:i=k:=by omega
   subst this;obtain⟨a,rfl⟩:∃a,n=a+1:=⟨n-1,by omega⟩;simp[iter,f]
  |succ m e=>
   intro i n l h j;obtain⟨a,rfl⟩:∃a,n=a+1:=⟨n-1,by omega⟩;simp only[iter,p i (by omega)];exact e (i+1) a (by omega) (by omega) (by omega)
 intro n g;exact d k 0 n (by omega) (XV _) g
theorem Qmo{S B:Type}{step:S->Option (Ctl S B)}(s0:S)(st:Nat->S)(b:B)(k:Nat)(h0:st 0=s0)(a:∀i,i<k->step (st i)=some (.cont (st (i+1))))(e:step (st k)=some (.done b))(n:Nat)(d:k<n):iter step n s0=some b:=by
 rw[<- h0];exact Qje st b k a e n d
theorem YS{α:Type}{l:List α}{i:Nat}{x:α}(h:l[i]?=some x):idx l (i:Int)=some x:=by
 unfold idx;have:decide ((0:Int)<=i)=true:=by simp
 rw[this];simpa using h
theorem Qal{α:Type}(l:List α)(x:α)(h:l.length<4294967296):app l [x]=some (l++[x]):=by
 unfold app;have:Nat.ble (l.length+[x].length) Qq=true:=by
  apply XT;unfold Qq;simp;omega
 rw[this];rfl
theorem Qiu{α:Type}(l m:List α)(h:l.length+m.length<=4294967296):app l m=some (l++m):=by
 unfold app;have:Nat.ble (l.length+m.length) Qq=true:=XT h;rw[this];rfl
theorem Ys{n:Int}(h0: -9223372036854775808<=n)(a:n<=9223372036854775807):IntKind.i64.wrap n=n:=by
 unfold IntKind.wrap;simp[IntKind.bits,IntKind.signed];omega
theorem Yz{i:Nat}(h:i<9223372036854775807):IntKind.i64.wrap ((i:Int)+1)=((i+1:Nat):Int):=by
 rw[Ys (by omega) (by omega)];omega
theorem YX{p:Prop}[Decidable p](h:p):decide p=true:=Vv h
theorem YJ{p:Prop}[Decidable p](h:¬p):decide p=false:=Vy h
end Go.Sw
namespace Go.Sw
open Go.Proofs Go.Shelf
def cat(a b:List UInt8):Option (List UInt8):=bif Nat.ble (a.length+b.length) 4294967296 then some (a++b)else none
theorem Qpu{a b r:List UInt8}(h:cat a b=some r):a.length+b.length<=4294967296/\a++b=r:=by
 unfold cat at h;cases q:Nat.ble (a.length+b.length) 4294967296 with
 |true=>rw[q]at h;exact⟨XS q,X0 h⟩
 |false=>rw[q]at h;cases h
def QeY(s t:List UInt8):Option Bool:=bif Nat.blt s.length 4294967281 then some (Lib.contains s t)else none
section
variable {P:Program} {o:Oper} {env:Env} {H:Qc}
theorem Qfs{t u:TypeId}{x y:Operand}{p q r:List UInt8}(j:cat p q=some r)(l:o.op=.binOp .add t x y u:=by exact rfl)(hx:opA env x=.str p:=by exact rfl)(hy:opA env y=.str q:=by exact rfl):OpV P o env H (.str r):=by
 intro n m σ N a w rr;obtain⟨s,h⟩:=Qpu j;have g:=Qd rr x;rw[hx]at g;have f:=Qd rr y;rw[hy]at f;have d:a.eval x=.string ⟨p.toArray⟩:=g;have e:a.eval y=.string ⟨q.toArray⟩:=f;have i:(⟨p.toArray⟩:ByteArray)++⟨q.toArray⟩=⟨r.toArray⟩:=by
  rw[<- h];apply ByteArray.ext;simp
 refine⟨.string ⟨r.toArray⟩,?_,rfl⟩;have b:¬((((⟨p.toArray⟩:ByteArray).size+(⟨q.toArray⟩:ByteArray).size:Nat):Int)>IntKind.i64.max):=by
  have:IntKind.i64.max=9223372036854775807:=by decide
  rw[this];simp only[ByteArray.size,List.size_toArray];omega
 generalize a.eval=ρ at*;have k:(eqGuard BinOp.add t x y (.string ⟨p.toArray⟩) (.string ⟨q.toArray⟩)).run P w=.ok () w:=by simp[eqGuard]
 simp only[execOp,l,d,e,binOp_string_add,Op.stringOp,Vt b,i,Vn,Vp,Result.andThen,k]
def Qee{α:Type}(n:Nat)(l:List α)(i:Int):Option α:=bif Nat.beq l.length n then idx l i else none
theorem Qa2{α:Type}{n:Nat}{l:List α}{i:Int}{x:α}(h:Qee n l i=some x):l.length=n/\idx l i=some x:=by
 unfold Qee at h;cases q:Nat.beq l.length n with
 |true=>rw[q]at h;exact⟨XR q,h⟩
 |false=>rw[q]at h;cases h
def arr{α:Type}(n:Nat)(l:List α):Option (List α):=bif Nat.beq l.length n then some l else none
theorem Jj{α:Type}{n:Nat}{l l':List α}(h:arr n l=some l'):l.length=n/\l=l':=by
 unfold arr at h;cases q:Nat.beq l.length n with
 |true=>rw[q]at h;exact⟨XR q,X0 h⟩
 |false=>rw[q]at h;cases h
theorem QbA{α:Type}{n:Nat}{l l':List α}(h:arr n l=some l'):l'.length=n:=(Jj h).2▸(Jj h).1
section
variable {α:Type} {e:α->List A} {t et k n b:Nat} {x y:Operand} {l:List α}
theorem Qaj{i:Int}{v:α}{m:IntKind}(h:Qee n l i=some v)(z:∀w,(underlying t).run P w=.ok (.array n et) w)(B:∀w,(sizeOf et).run P w=.ok k w)(s:Nat.ble 2 n=true)
  (G:o.op=.indexAddr t x y:=by exact rfl)(hx:opA env x=.ptr b 0:=by exact rfl)(hy:opA env y=.int m i:=by exact rfl):OpV P o env H (.ptr b (i.toNat*k)):=by
 intro O M σ N a w r;obtain⟨L,u⟩:=Qa2 h;obtain⟨Q,J⟩:=QaN u;have E:i.toNat<l.length:=(XM.1 J).1;have f:=Qd r x;rw[hx]at f;obtain⟨e,f,p⟩:=f;have j:=Qd r y;rw[hy]at j;have g:a.eval y=.int m i:=j;refine⟨.pointer (some ⟨e,i.toNat*k,none⟩),?_,e,f,rfl⟩;have F:0<=i/\i<(n:Int):=by omega
 have d:(⟨e,0,none⟩:Addr).add (i.toNat*k)=⟨e,i.toNat*k,none⟩:=by
  unfold Addr.add;split
  .rename_i q;rw[q]
  .simp
 generalize a.eval=ρ at*;simp[execOp,G,p,g,Instr.indexAt,asIntOf,z,B,Instr.sureAddr,F,d,go_sem,Result.andThen]
theorem Qku{cs:List A}(hH:H[b]?=some (.row t k (l.map e)):=by exact rfl)(hcs:(l.map e).flatten=cs:=by exact rfl):Pts H (.ptr b 0) cs:=by
 intro n m σ w v s h;obtain⟨f,g,a⟩:=h;obtain⟨j,i,d⟩:=s.blk b _ _ g hH;refine⟨f,0,a,?_⟩;have:=(RR.flat (YI (pre:=[]) (by simpa using i) d)).1;subst hcs;exact this.lift
theorem Qh3(a:∀x,(e x).length=k)(L:List α):(L.map e).flatten.length=L.length*k:=by
 induction L with
 |nil=>simp
 |cons c L ih=>simp only[Vk,Vm,X4,a c,ih,X2,Xm];omega
theorem QiE{f:Nat}{l':List α}(h:arr n l=some l')(i:∀x,(e x).length=k)(a:n*k=f)(m:∀w,(isAgg t).run P w=.ok true w)(g:∀w,(sizeOf t).run P w=.ok f w){T:Nat}
  (p:o.op=.load t x:=by exact rfl)(hx:opA env x=.ptr b 0:=by exact rfl)(hH:H[b]?=some (.row T k (l.map e)):=by exact rfl):OpV P o env H (.agg (l'.map e).flatten):=by
 obtain⟨j,rfl⟩:=Jj h;have d:=Qh3 i l;rw[j,a]at d;exact Qh p m g hx (Qku hH rfl) (VJ (by omega)) d
theorem Qli{r:Nat}{n2 T:Nat}(hl:l.length=n)(f:∀x,(e x).length=k)(a:n*k=n2)(g:∀w,(isAgg t).run P w=.ok true w)(i:∀w,(sizeOf t).run P w=.ok n2 w)
  (h:lk env r=.ptr b 0:=by exact rfl)(hH:H[b]?=some (.row T k (l.map e)):=by exact rfl):Qc9 P env H (.cell r t) (.agg (l.map e).flatten):=by
 have d:=Qh3 f l;rw[hl,a]at d;have:=Qd7 (b:=r) (p:=.ptr b 0) (n:=n2) g i (Qku hH rfl) h (by rw[VJ (by omega)];exact d)
 rwa [VJ (by omega)]at this
theorem Qiv{c:List A}{k:Nat}(h:c.length=k):∀n,allK k (List.replicate n c)
 |0=>trivial
 |n+1=>⟨h,Qiv h n⟩
theorem Y5{vs:Array Value}{z:α}(q:∀w,(zeroValue t).run P w=.ok (.agg vs) w)(h:(YO (List.replicate n (e z)).flatten).toArray=vs)(g:QeE (List.replicate n (e z)).flatten=true)(p:(List.replicate n (e z)).flatten.all Yo=true)(j:Nat.beq (e z).length k=true)
  (l:o.op=.alloc t:=by exact rfl):OpH P o env H (.ptr H.length 0) (H++[.row t k ((List.replicate n z).map e)]):=by
 intro s f σ N a w r;have d:LR f [] w (List.replicate n (e z)).flatten (YO (List.replicate n (e z)).flatten):=QfE g;have b:=r.sim.allocRow (t:=t) (rest:=[]) (Qiv (XR j) n) d (d.plain p);rw[Vh]at b;have i:(List.replicate n z).map e=List.replicate n (e z):=List.map_replicate;refine⟨.pointer (some ⟨w.heap.size,0,none⟩),w.alloc (.cells (YO (List.replicate n (e z)).flatten).toArray t),f,[some w.heap.size],?_,⟨w.heap.size,?_,rfl⟩,i▸b,Qe.alloc _ r.sim.roLt r.sim.frLt⟩
 .generalize a.eval=ρ at*;have m:(newVar t (.agg vs)).run P w=.ok ⟨w.heap.size,0,none⟩ (w.alloc (.cells vs t)):=rfl;rw[h];simp only[execOp,l,Instr.alloc,Vn,q,Result.andThen,m];rfl
 .rw[<- r.sim.len];simp
theorem Y4{T n2:Nat}{l':List α}{vs:List A}(h:l.length=n)(h':l'.length=n)(hk:∀x,(e x).length=k)(u:n*k=n2)(hs:∀w,(sizeOf t).run P w=.ok n2 w)
  (hp:∀x,(e x).all Yo=true)(hd:∀x,Yc (e x)=true)(W:(l'.map e).flatten=vs)
  (ho:o.op=.store t x y:=by exact rfl)(F:opA env x=.ptr b 0:=by exact rfl)(hH:H[b]?=some (.row T k (l.map e)):=by exact rfl)(J:opA env y=.agg vs:=by exact rfl):
  OpU P o env H (H.set b (.row T k (l'.map e))):=by
 intro fr ro σ N a w r;subst W;have d:=Qd r x;rw[F]at d;obtain⟨bb,d,Q⟩:=d;have h3:=Qd r y;rw[J]at h3;obtain⟨m,Y,G⟩:=h3;obtain⟨i,q1,q2⟩:=r.sim.blk b _ _ d hH;have s:∀(L:List α),allK k (L.map e):=by
  intro L
  induction L with
  |nil=>trivial
  |cons c L g=>exact⟨hk c,g⟩
 have O:(l'.map e).flatten.length=n2:=by rw[Yu (s l'),X3,h',u]
 have hm:m.length=n2:=by rw[G.length,O]
 have j:∀L:List α,(L.map e).flatten.all Yo=true:=by
  intro L
  induction L with
  |nil=>rfl
  |cons c L g=>simp only[Vk,Vm,List.all_append,hp c,g,Bool.and_self]
 have R:∀p E:List A,Yc p=true->Yc E=true->Yc (p++E)=true:=by
  intro p
  induction p with
  |nil=>intro E _ h;exact h
  |cons c p g=>
   intro E d Q;simp only[Yc,XX,VL]at d⊢;exact⟨d.1,g E d.2 Q⟩
 have V:∀L:List α,Yc (L.map e).flatten=true:=by
  intro L
  induction L with
  |nil=>rfl
  |cons c L g=>simp only[Vk,Vm];exact R _ _ (hd c) g
 have aa:n2<=i.length:=by
  have:=q2.length;rw[X3,h,u]at this;exact this
 have z:=Yg (P:=P) (vs:=m) 0 0 q1 (by omega) (G.plain (j l'));have q:splice i 0 m=m++i.drop n2:=by unfold splice;simp[hm]
 have f:=r.sim.set (x':=.row T k (l'.map e)) (obj:=.cells (splice i 0 m).toArray T (0,0)) d hH rfl
  (λy J=>QaJ q1 (Yd (by omega)) y J)
  (λex B=>by
   have F:=(G.data (V l')).mono ex.nil;rw[q]at F B⊢;exact⟨_,B,Y0 (s l') F (G.plain (j l'))⟩)
 refine⟨_,ro,[],?_,by simpa using f.1,f.2⟩;generalize a.eval=ρ at*;have M:(ρ y).cells.size=n2:=by rw[Y];simp[Value.cells,hm]
 have X:(storeVar t ⟨bb,0,none⟩ (ρ y)).run P w=.ok () {w with heap:=w.heap.setIfInBounds bb (.cells (splice i 0 m).toArray T (0,0))}:=by
  unfold storeVar;rw[Vn,hs];simp only[Result.andThen];rw[Vt (by simp[M]),Y];have ec:(Value.agg m.toArray).cells.toList=m:=by simp[Value.cells]
  rw[ec];simpa using z
 simp only[execOp,ho,Q,Instr.storeAt,Instr.sureAddr,pure_bind,Vn,X];rfl
end
end
theorem C.contains{P:Program}{ρ:Ren}(L:Lays.n144 P ρ)(hg:ρ.g 1=QkS){s t:List UInt8}{r:Bool}(h:QeY s t=some r):C P (ρ.f 144) [.str s,.str t] [] (λa H=>a=.bool r/\H=[]):=by
 unfold QeY at h;cases q:Nat.blt s.length 4294967281 with
 |false=>rw[q]at h;cases h
 |true=>
  rw[q]at h;obtain rfl:=X0 h;intro z j σ vals w sim hv;obtain⟨l,B,rfl,p,x,u,rfl,b,d⟩:=hv;cases(show u=[]from d);obtain⟨m,n⟩:=sim.roOk.gp.max;have y:l=.string ⟨s.toArray⟩:=p;have i:x=.string ⟨t.toArray⟩:=b;subst y i;have k:s.length<4294967281:=by simpa using q
  refine(Any.strings_Contains L ⟨s.toArray⟩ ⟨t.toArray⟩ m w (by simpa[ByteArray.size]using k) (by rw[hg];exact n)).mono ?_;rintro e E ⟨rfl,rfl⟩;exact⟨_,_,_,j,[],rfl,⟨rfl,rfl⟩,by simpa using sim,rfl,Qe.refl _ _ _⟩
section
variable {P:Program} {o:Oper} {env:Env} {H:Qc} {fr ro:Nat->Prop} {σ:Sig} {w:World}
theorem Sim.touch(s:Sim fr ro σ H w){b:Nat}{obj:Obj}(n:¬ro b)(t:¬fr b)(B:∀(i:Nat) (x:Blk),σ[i]?=some (some b)->H[i]?=some x->x.live=true->False)
  (k:∀(i d:Nat) (x:Blk),σ[i]?=some (some d)->H[i]?=some x->Hid w x d b->False)
  (u:∀y,w.shape? b=some y->({w with heap:=w.heap.setIfInBounds b obj}:World).shape? b=some y):
  Sim fr ro σ H {w with heap:=w.heap.setIfInBounds b obj}/\Qe fr ro w ro {w with heap:=w.heap.setIfInBounds b obj}:=by
 have a:∀c,c≠b->({w with heap:=w.heap.setIfInBounds b obj}:World).heap[c]?=w.heap[c]? :=by
  intro c F;show(w.heap.setIfInBounds b obj)[c]?=_;rw[Vf,Vt (λq=>F q.symm)]
 have f:({w with heap:=w.heap.setIfInBounds b obj}:World).heap.size=w.heap.size:=by simp
 have ev:Qe fr ro w ro {w with heap:=w.heap.setIfInBounds b obj}:=
  ⟨λ_ h=>h,λc h=>a c (λq=>n (q▸h)),λc h=>a c (λq=>t (q▸h)),by rw[f];exact XU _,by
   intro c y h;by_cases q:c=b
   .subst q;exact u y h
   .unfold World.shape? at h⊢;rw[a c q];exact h,rfl,rfl,rfl,XU _⟩
 refine⟨⟨s.len,s.roOk.to (λ_ q=>q) ev.keepRo (λc h=>by rw[f];exact s.roLt c h),λc h=>by rw[f];exact s.frLt c h,s.roFr,?_,s.inj,?_,s.hidTo (· = ·) QW (by rw[f];exact XU _) (λ_ _ _ _ _ _ _ q=>q) (λ_ _ _ _ _ _ _ q=>q) λj d y p r G=>.inl ⟨j,y,rfl,p,r,id,λc q=>s.hidKeep p r (λz=>a d (λe=>B j y (e▸p) r z)) ev.keepRo q⟩⟩,ev⟩
 .intro i c x l g E;rw[f];exact s.own i c x l g E
 .intro i y x l g;refine(s.blk i y x l g).keep (ev.ext0 σ) ?_ ?_
  .rintro c rfl m;exact a c (λq=>by subst q;exact B i x l g m)
  .rintro d c rfl m;exact a c (λq=>k i d x l g (q▸m))
theorem Qlu{T E i n t:Nat}{x:Operand}{es:List (List A)}(ht:P.underlying T=some (.slice E))(hE:P.underlying E=some (.int .u8))(hn:es.length=n)(h0:Nat.blt 0 n=true)
  (ho:o.op=.convert T T x:=by exact rfl)(hx:opA env x=.osl i 0 n 1:=by exact rfl)(hH:H[i]?=some (.row t 1 es):=by exact rfl):
  OpH P o env H (.rsl 1 es) (H.set i .dead):=by
 intro fr O σ N a w r;subst hn;have B:=Qd r x;rw[hx]at B;rcases B with⟨hz,_⟩|⟨b,p,J,t',m,B,h2,h6,h3,h4,h5⟩
 .rw[hz]at h0;simp at h0
 .have aa:0<es.length:=by simpa using h0
  obtain rfl:=h6 (by omega);obtain⟨Q,G,h⟩:=r.sim.own i b _ B hH rfl;obtain⟨l,W,q2⟩:=r.sim.blk i _ _ B hH;have s1:=r.sim.kill i;have g:∀(j:Nat) (y:Blk),σ[j]?=some (some b)->(H.set i .dead)[j]?=some y->y.live=true->False:=by
   intro j y u f s;by_cases q:j=i
   .subst q;rw[Xb]at f;simp only[if_true]at f;split at f
    .cases f;simp[Blk.live]at s
    .simp at f
   .rw[XQ (λz=>q z.symm)]at f;exact q (r.sim.inj j i b y _ u B f hH s rfl)
  have M:∀(j d:Nat) (y:Blk),σ[j]?=some (some d)->(H.set i .dead)[j]?=some y->Hid w y d b->False:=by
   intro j d y u f s;by_cases q:j=i
   .subst q;rw[Xb]at f;simp only[if_true]at f;split at f
    .cases f;exact s.elim
    .simp at f
   .rw[XQ (λz=>q z.symm)]at f;exact(r.sim.hid j d y b u f s).ne i b _ B hH rfl rfl
  let fz:Nat×Nat:=(l.length,l.length+1)
  have Y:∀y,w.shape? b=some y->({w with heap:=w.heap.setIfInBounds b (.cells l.toArray t fz)}:World).shape? b=some y:=by
   intro y X;unfold World.shape? at X⊢;rw[W]at X;have e:(w.heap.setIfInBounds b (.cells l.toArray t fz))[b]?=some (.cells l.toArray t fz):=by rw[Vf,Vu rfl,Vu Q]
   simp only[e];exact X
  obtain⟨s2,k⟩:=s1.touch (obj:=.cells l.toArray t fz) G h g M Y;have s3:=s2.addRo (b:=b) (by simpa using Q) h g (λj d y u f s=>M j d y u f (s1.hidKeep u f (λz=>by
   show(w.heap.setIfInBounds b _)[d]?=_;rw[Vf,Vt (λe:b=d=>g j y (by rw[e];exact u) f z)]) k.keepRo s))
  have F:({w with heap:=w.heap.setIfInBounds b (.cells l.toArray t fz)}:World).heap[b]?=some (.cells (([]:List Value)++l).toArray t fz):=by
   show(w.heap.setIfInBounds b _)[b]?=_;rw[Vf,Vu rfl,Vu Q];rfl
  have L:Ext O [] w O [] {w with heap:=w.heap.setIfInBounds b (.cells l.toArray t fz)}:=k.ext0 [];refine⟨.slice (some ⟨b,0*1,none⟩) es.length J,_,λc=>O c\/c=b,[],?_,?_,by simpa using s3,k.trans (YG λ_ q=>.inl q)⟩
  .have hf:w.freeze ⟨b,l.length,none⟩ 1={w with heap:=w.heap.setIfInBounds b (.cells l.toArray t fz)}:=by
    unfold World.freeze;simp only[Nat.one_ne_zero,if_false];rw[Qbc W];rfl
   have V:(markStringish ⟨b,0*1,none⟩).run P w=.ok () {w with heap:=w.heap.setIfInBounds b (.cells l.toArray t fz)}:=by
    rw[<- hf];unfold markStringish;simp[shape,freeze,Sem.run,World.shape?,W,Result.andThen]
   have hu:∀w,(underlying T).run P w=.ok (.slice E) w:=run_underlying ht;have R:∀w,(underlying E).run P w=.ok (.int .u8) w:=run_underlying hE;generalize a.eval=ρ at*;simp only[execOp,ho,h2,convert,Vn,hu,R,Result.andThen,beq_self_eq_true,V,Vp]
  .refine⟨some ⟨b,0*1,none⟩,J,rfl,h3,.inr ⟨b,0*1,rfl,.inr rfl,?_⟩⟩;have:=YI (pre:=[]) F (q2.mono L);exact(by simpa using this:RR O [] _ b 1 es (0*1)).keep ⟨λ_ q=>.inl q,λ_ _=>rfl,λ_ _ q=>q,λ_ _ q=>q⟩ rfl
end
mutual
theorem Qdl(ρ:Nat->Nat):∀{a:A},Ym a=true->Yx ρ a=a
 |.any,_=>rfl
 |.bool _,_=>rfl
 |.int _ _,_=>rfl
 |.str _,_=>rfl
 |.nilp,_=>rfl
 |.ptr _ _,h=>by simp[Ym]at h
 |.rp _,_=>rfl
 |.nils,_=>rfl
 |.rsl _ _,_=>rfl
 |.osl _ _ _ _,h=>by simp[Ym]at h
 |.agg cs,h=>by simp only[Ym]at h;simp only[Yx,Qag ρ h]
 |.fn f a c,h=>by simp only[Ym,XX]at h;simp only[Yx,Qag ρ h.1,Qag ρ h.2]
 |.nilf,_=>rfl
 |.iface t a,h=>by simp only[Ym]at h;simp only[Yx,Qdl ρ h]
 |.nilif,_=>rfl
 |.map _,h=>by simp[Ym]at h
 |.nilm,_=>rfl
 |.tup vs,h=>by simp only[Ym]at h;simp only[Yx,Qag ρ h]
theorem Qag(ρ:Nat->Nat):∀{l:List A},Yc l=true->Qaa ρ l=l
 |[],_=>rfl
 |a::l,h=>by simp only[Yc,XX]at h;simp only[Qaa,Qdl ρ h.1,Qag ρ h.2]
end
theorem Qf9{α:Type}{e:α->List A}(b:∀x,Yc (e x)=true):∀L:List α,Yc (L.map e).flatten=true
 |[]=>rfl
 |c::L=>by
  have hdt:∀cs ds:List A,Yc cs=true->Yc ds=true->Yc (cs++ds)=true:=by
   intro cs
   induction cs with
   |nil=>intro ds _ h;exact h
   |cons c cs d=>
    intro ds a f;simp only[Yc,XX,VL]at a⊢;exact⟨a.1,d ds a.2 f⟩
  simp only[Vk,Vm];exact hdt _ _ (b c) (Qf9 b L)
theorem QnG{α:Type}{e:α->List A}(hd:∀x,Yc (e x)=true)(ρ:Nat->Nat)(l:List α):Yx ρ (.agg (l.map e).flatten)=.agg (l.map e).flatten:=
 Qdl ρ (by simp only[Ym];exact Qf9 hd l)
end Go.Sw
namespace Go.Sw
section
variable {P:Program} {o:Oper} {env:Env} {H:Qc}
theorem Qet{c:Call}{f T:Nat}{x:Operand}{xs:List Operand}{m:Array TypeId}{name:String}{v:A}{args:List A}(b:∀(a:Array Value) (w:World),(callFunc f a).run P w=.ok (.enter f a) w)(j:o.op=.call c)
  (p:c={callee:=.invoke x name,args:=xs.toArray,argTypes:=m})(n:opA env x=.iface T v)(hargs:v::xs.map (opA env)=args)
  (k:∀(u:Value) (w:World),(method (P.types.size+Made.depth) T u name).run P w=.ok (f,u) w):OpC P o env H f args:=by
 intro s q σ N a w r;have d:=Qd r x;rw[n]at d;obtain⟨u,d,i⟩:=d;refine⟨u::xs.map a.eval,?_,hargs▸⟨u,xs.map a.eval,rfl,i,Qbi r xs⟩⟩;subst p;generalize a.eval=ρ at*;have e:(#[ρ x]++(xs.toArray.map ρ):Array Value)=(.iface T u::xs.map ρ).toArray:=by rw[d];simp
 have h:((.iface T u::xs.map ρ).toArray.extract 1 (.iface T u::xs.map ρ).toArray.size:Array Value)=(xs.map ρ).toArray:=by
  simp[VJ]
 have g:∀l:Array Value,(callMethod (.iface T u) name l).run P w=.ok (.enter f (#[u]++l)) w:=by
  intro l;simp only[callMethod,Vn,run_program,Result.andThen,k,b]
 simp only[execOp,j,resolve,e,invoke,Vn,Vp,Result.andThen];simp only[XH,XF,h,g];simp
theorem QbD{T I:Nat}{x:Operand}{v:A}{d:TypeDesc}(g:∀w,(underlying T).run P w=.ok d w)(e:∀m,d≠ .interface m)(h:o.op=.typeAssert x I T true:=by exact rfl)(hx:opA env x=.iface T v:=by exact rfl):
  OpV P o env H (.tup [v,.bool true]):=by
 intro j i σ N a w r;have b:=Qd r x;rw[hx]at b;obtain⟨u,b,f⟩:=b;refine⟨.tuple #[u,.bool true],?_,[u,.bool true],rfl,_,_,rfl,f,_,_,rfl,rfl,rfl⟩;generalize a.eval=ρ at*;cases d<;>first|(simp[execOp,h,b,Instr.typeAssert,g,go_sem];done)|exact(e _ rfl).elim
theorem Qhk{T T' I:Nat}{x:Operand}{v z:A}{e:Value}{d:TypeDesc}(i:∀w,(underlying T).run P w=.ok d w)(j:∀m,d≠ .interface m)(b:Nat.beq T' T=false)(l:∀w,(zeroValue T).run P w=.ok e w)(g:ZR z e)
  (k:o.op=.typeAssert x I T true:=by exact rfl)(hx:opA env x=.iface T' v:=by exact rfl):
  OpV P o env H (.tup [z,.bool false]):=by
 intro s p σ N a w r;have f:=Qd r x;rw[hx]at f;obtain⟨u,f,n⟩:=f;have h:T'≠T:=λq=>by rw[q,VG]at b;cases b
 refine⟨.tuple #[e,.bool false],?_,[e,.bool false],rfl,_,_,rfl,g _ _ _,_,_,rfl,rfl,rfl⟩;generalize a.eval=ρ at*;cases d<;>first|(simp[execOp,k,f,Instr.typeAssert,i,h,l,go_sem];done)|exact(j _ rfl).elim
end
def TL(P:Program)(h0 N:Nat)(c:Code)(env:Env)(H:Qc)(Q:Qx):Prop:=
 ∀rd fr ro σ a w,Rel fr ro σ H env N a w->Qeh rd fr w->∀(b:Frame) (k:List Item) (cs:List Frame),b.roundOf=(WF rd).round->(WF rd).fn b.fn->(WF rd).room (cs.length+1+0)->∃e a' w',QaR h0 fr ro σ w N a.defers Q e a' w'/\ArrivesIn (Machine.fenced P (WF rd)) P (lone (b.atR a (.code c::.inLoop c::k)) cs w) b k cs e a' w'
def QjA(P:Program)(h0 N:Nat)(c:Code)(Q:Qx):Qx
 |.normal,env,H=>TL P h0 N c env H Q
 |.exit id,env,H=>Q (.exit id) env H
 |.ret,env,H=>Q .ret env H
section
variable {P:Program} {h0 N:Nat} {c:Code} {env:Env} {H:Qc} {Q:Qx}
theorem Qm7(h:TL P h0 N c env H Q):TC P h0 N (.loop c) env H Q:=by
 intro m j i σ a w r hrd b k cs hro hb hr;obtain⟨e,g,l,f,d⟩:=h m j i σ a w r hrd b k cs hro hb hr;exact⟨e,g,l,f,.of_steps (.one (fenced_calm hb hr rfl) stepR_loop) d⟩
theorem TL.round(h:TC P h0 N c env H (QjA P h0 N c Q)):TL P h0 N c env H Q:=by
 intro G E B σ a w r hrd b k cs hro hb hr;obtain⟨e,m,n,O,d⟩:=h G E B σ a w r hrd b (.inLoop c::k) cs hro hb hr;obtain⟨x,f,H',i,σ',j,l,u,z,s,y,t⟩:=O;have F:∀x,Q x f H'->ExR e x->QaR h0 E B σ w N a.defers Q e m n:=λx q M=>⟨x,f,H',i,σ',j,M,q,z,s,y,t⟩;cases e with
 |normal=>
  obtain rfl:x=.normal:=l;obtain⟨R,L,J,p,g⟩:=u G j i σ' m n z (hrd.to s t.sub) b k cs hro hb hr;exact⟨R,L,J,p.grow s y t,.of_steps (StepsIn.trans d (.one (fenced_calm hb hr rfl) stepR_inLoop)) g⟩
 |exit id=>
  obtain rfl:x=.exit id:=l;exact⟨_,m,n,F _ u rfl,.pass (x:=.inLoop c) rfl (λ_ _=>.inl (by simp)) d⟩
 |ret=>
  obtain rfl:x=.ret:=l;exact⟨_,m,n,F _ u rfl,.pass (x:=.inLoop c) rfl (λ_ _=>.inl (by simp)) d⟩
 |_=>exact l.elim
theorem unrN(h:TC P h0 N c env H (QjA P h0 N c Q)):QjA P h0 N c Q .normal env H:=TL.round h
theorem unrX{id:Nat}(h:Q (.exit id) env H):QjA P h0 N c Q (.exit id) env H:=h
theorem unrR(h:Q .ret env H):QjA P h0 N c Q .ret env H:=h
theorem Qlf(h:TC P h0 N c env H (QjA P h0 N c Q)):TC P h0 N (.loop c) env H Q:=Qm7 (TL.round h)
end
section
variable {P:Program} {o:Oper} {env:Env} {H:Qc}
theorem Qes{t et k b n j:Nat}{x y:Operand}{a:IntKind}{i:Int}(f:Nat.blt j n=true)(hi:i=(j:Int))(e:∀w,(underlying t).run P w=.ok (.slice et) w)(g:∀w,(sizeOf et).run P w=.ok k w)
  (h:o.op=.indexAddr t x y:=by exact rfl)(hx:opA env x=.osl b 0 n k:=by exact rfl)(hy:opA env y=.int a i:=by exact rfl):OpV P o env H (.ptr b (j*k)):=by
 subst hi;have d:=Qhl (H:=H) h e g hx hy (by omega) (by simpa using f)
 rwa [Int.toNat_natCast,Nat.zero_mul,Xw]at d
theorem Qcc{b t k e f off:Nat}{es:List (List A)}{c cs':List A}(a:off=e*k+f)(hH:H[b]?=some (.rowr t k es):=by exact rfl)(he:es[e]?=some c:=by exact rfl)(hcs:c.drop f=cs':=by exact rfl):Pts H (.ptr b off) cs':=
 Pts.rowr hH a he hcs
end
theorem Qfq{ro:Nat->Prop}{σ:Sig}{w:World}{k:Nat}:∀{es:List (List A)} {l l':List Value},RL ro σ w k es l->l.take (es.length*k)=l'.take (es.length*k)->RL ro σ w k es l'
 |[],_,_,_,_=>trivial
 |c::es,l,l',h,hp=>by
  obtain⟨l1,l2,rfl,h1,h2,h3⟩:=h;have hl1:l1.length=k:=by rw[h2.1.length];exact h1
  have a:l'.take k=l1:=by
   have:=congrArg (List.take k) hp;simp only[List.take_take,X2,Xm]at this;rw[XB (by omega)]at this;rw[<- this, <- hl1];simp
  refine⟨l1,l'.drop k,by rw[<- a,Xz],h1,h2,Qfq h3 ?_⟩;have:=congrArg (List.drop k) hp;simp only[X2,Xm,List.drop_take]at this;rw[show es.length*k+k-k=es.length*k by omega]at this;rw[<- this, <- hl1];simp
section
variable {P:Program} {o:Oper} {env:Env} {H:Qc}
theorem QfL{c:Call}{T et k b s n t:Nat}{x:Operand}{es es':List (List A)}{z:Value}(ht:P.underlying T=some (.slice et))(hz:∀w,(zeroValue et).run P w=.ok z w)(Q:z.cells.size=k)(X:∀v∈z.cells,Qm v)
  (J:es.take s=es')(hb:s+n=es.length)(ho:o.op=.call c:=by exact rfl)(hc:c={callee:=.builtin .clear,args:= #[x],argTypes:= #[T]}:=by exact rfl)
  (hx:opA env x=.osl b s n k:=by exact rfl)(hH:H[b]?=some (.row t k es):=by exact rfl):OpH P o env H (.tup []) (H.set b (.row t k es')):=by
 intro M F σ N a w r;subst J hc;have R:∀w,(underlying T).run P w=.ok (.slice et) w:=run_underlying ht;have j:=Qd r x;rw[hx]at j;have h:Sim M F σ (H.set b (.row t k (es.take s))) w:=by
  refine r.sim.weaken hH rfl ?_;intro y E;cases y with
  |none=>rw[show es=[]from E];simp[BR]
  |some Y=>obtain⟨l,g1,g2⟩:=E;exact⟨l,g1,RL.take s g2⟩
 have f:∀v,a.eval x=v->(Builtin.clear_ #[T] o.type #[v]).run P w=.ok (.tuple #[]) w->
   ∃v w' ro' τ,(execOp a.eval o).run P w=.ok (.value v) w'/\VR ro' (σ++τ) w' (.tup []) v/\Sim M ro' (σ++τ) (H.set b (.row t k (es.take s))) w'/\Qe M F w ro' w':=by
  intro v G d;refine⟨.tuple #[],w,F,[],?_,⟨[],rfl,rfl⟩,by simpa using h,Qe.refl _ _ _⟩;generalize a.eval=ρ at*;simp only[execOp,ho,resolve,Vn,Vp,Result.andThen,invoke,builtin,XJ,Vk,Vl,G,d]
 rcases j with⟨hn,j⟩|⟨Y,p,L,t',m,j,h2,h3,h4,h5,h6⟩
 .refine f _ j ?_;simp[Builtin.clear_,R,Result.andThen]
 .by_cases hn:n=0
  .subst hn;refine f _ h2 ?_;simp[Builtin.clear_,R,Result.andThen]
  .obtain rfl:=h3 (by omega);obtain⟨l,q1,q2⟩:=r.sim.blk b _ _ j hH;have ab:=q2.length
   let vs:=(Builtin.zeroCells z.cells n).toList
   have ac:vs.length=n*k:=by simp[vs,Builtin.zeroCells,Q]
   have W:∀v∈vs,Qm v:=by
    intro v G;simp only[vs,Builtin.zeroCells,Array.toList_map,Xf,Array.toList_range,List.mem_range]at G;obtain⟨i,hi,rfl⟩:=G;have u:0<z.cells.size:=by
     rcases Nat.eq_zero_or_pos z.cells.size with q|q
     .rw[q,Nat.mul_zero]at hi;omega
     .exact q
    have B:i%z.cells.size<z.cells.size:=Nat.mod_lt _ u;rw[getElem!_pos z.cells _ B];exact X _ (Array.getElem_mem B)
   have ae:s*k+n*k=es.length*k:=by rw[<- XA,hb]
   have d:=Yg (P:=P) (vs:=vs) (s*k) 0 q1 (by omega) W;have g:=r.sim.set (x':=.row t k (es.take s)) (obj:=.cells (splice l (s*k) vs).toArray t (0,0)) j hH rfl
    (λy E=>QaJ q1 (Yd (by omega)) y E)
    (λex aa=>⟨_,aa,by
     refine(Qfq (RL.take s q2) ?_).mono ex.nil;have hl:(es.take s).length*k<=s*k:=XC k (by simp;omega);have V:(es.take s).length*k<=(l.take (s*k)).length:=by rw[Xy (i:=s*k),XB (by omega)];exact hl
     have e:=X8 (l₂:=vs++l.drop (s*k+vs.length)) V;unfold splice;rw[Vj,e,List.take_take,XB hl]⟩)
   refine⟨.tuple #[],_,F,[],?_,⟨[],rfl,rfl⟩,by simpa using g.1,g.2⟩;have O:(Builtin.clear_ #[T] o.type #[.slice (some ⟨Y,s*k,none⟩) n L]).run P w=.ok (.tuple #[]) {w with heap:=w.heap.setIfInBounds Y (.cells (splice l (s*k) vs).toArray t (0,0))}:=by
    obtain⟨n',rfl⟩:∃n',n=n'+1:=⟨n-1,by omega⟩;simp only[Xx]at d;simp only[Builtin.clear_,XH,XF,Vn,R,hz,Result.andThen,d,Vp,vs]
   generalize a.eval=ρ at*;simp only[execOp,ho,resolve,Vn,Vp,Result.andThen,invoke,builtin,XJ,Vk,Vl,h2,O]
end
def isNil{α R:Type}[DecidableEq R](l:List α)(x y:Option R):Option R:=bif l.isEmpty then(bif decide (x=y)then x else none)else y
theorem QhV{α R:Type}[DecidableEq R]{l:List α}{x y:Option R}{r:R}(h:isNil l x y=some r)(b:Bool)(d:l≠[]->b=false):(b=true->x=some r)/\(b=false->y=some r):=by
 unfold isNil at h;cases q:l.isEmpty with
 |true=>
  rw[q]at h;by_cases a:x=y
  .subst a;simp at h;exact⟨λ_=>h,λ_=>h⟩
  .simp[a]at h
 |false=>
  rw[q]at h;have f:l≠[]:=by rintro rfl;cases q
  refine⟨λe=>?_,λ_=>h⟩;rw[d f]at e;cases e
section
variable {P:Program} {o:Oper} {env:Env} {H:Qc} {h0 N:Nat} {Q:Qx}
theorem Qlv{α:Type}{e:α->List A}{T E k:Nat}{u:TypeId}{x:Operand}{l:List α}(i:P.underlying T=some (.slice E))(j:o.op=.binOp .eql T x (.const (.slice none 0 0)) u)(p:opA env x=.rsl k (l.map e)):
  OpE P o env H (λv H'=>∃b:Bool,v=.bool b/\(l≠[]->b=false)/\H'=H):=by
 intro y m σ N a w r;have g:=Qd r x;rw[p]at g;obtain⟨ad,d,g,t,f⟩:=g;refine⟨.bool ad.isNone,H,.bool ad.isNone,w,m,[],⟨ad.isNone,rfl,λh=>?_,rfl⟩,?_,rfl,by simpa using r.sim,Qe.refl _ _ _⟩
 .rcases f with f|⟨b,n,f,_⟩
  .exact absurd (List.map_eq_nil_iff.1 f) h
  .rw[f];rfl
 .have s:a.eval (.const (.slice none 0 0))=.slice none 0 0:=rfl;generalize a.eval=ρ at*;have q:(eqGuard .eql T x (.const (.slice none 0 0)) (.slice ad (l.map e).length d) (.slice none 0 0)).run P w=.ok () w:=by simp[eqGuard]
  simp only[execOp,j,g,s,Vn,q,Result.andThen,Go.run_eql_slice_nil w T E ad _ d i,Vp]
theorem Qiw{α:Type}{e:α->List A}{T E k d:Nat}{u:TypeId}{x:Operand}{l:List α}{all:Array Oper}{L:List Oper}(a:P.underlying T=some (.slice E))(f:opA env x=.rsl k (l.map e))
  (g:∀b:Bool,(l≠[]->b=false)->WO P h0 N all L (up env d (.bool b)) H Q)
  (h:o.op=.binOp .eql T x (.const (.slice none 0 0)) u:=by exact rfl)(hg:Qn all o env true:=by exact rfl)(hd:o.dst=some d:=by exact rfl)(hN:Nat.blt d N=true:=by exact rfl)(hh:Nat.ble h0 H.length=true:=by exact rfl):WO P h0 N all (o::L) env H Q:=by
 refine Qjz (XS hh) hg hd hN (Qlv a h f) ?_;rintro v H' ⟨b,rfl,i,rfl⟩;exact g b i
end
theorem slc0{α:Type}{l x:List α}{i:Int}(h:slc l 0 i=some x):0<=i/\i.toNat<=l.length/\l.take i.toNat=x/\x.length=i.toNat:=by
 obtain⟨_,b,e,d⟩:=QiX h;have a:l.take i.toNat=x:=by simpa using d
 exact⟨b,by omega,a,by rw[<- a,Xy];omega⟩
section
variable {P:Program} {o:Oper} {env:Env} {H:Qc} {α:Type} {e:α->List A} {T et k b t:Nat} {x y:Operand} {l l':List α} {i:Int}
theorem Qfv(h:slc l 0 i=some l')(E1:∀w,(underlying T).run P w=.ok (.slice et) w)(E2:∀w,(sizeOf et).run P w=.ok k w)(e:o.op=.slice T x (some y) none none:=by exact rfl)
  (hx:opA env x=.osl b 0 l.length k:=by exact rfl)(hy:opA env y=.int .i64 i:=by exact rfl):OpV P o env H (.osl b (0+i.toNat) (l.length-i.toNat) k):=by
 obtain⟨a,d,_,_⟩:=slc0 h;exact Qfx E1 E2 e hx (.inr ⟨y,i,rfl,hy,a,rfl⟩) (.inl ⟨rfl,rfl⟩) d (XU _)
theorem Qfw(h:slc l 0 i=some l')(E1:∀w,(underlying T).run P w=.ok (.slice et) w)(E2:∀w,(sizeOf et).run P w=.ok k w)(f:o.op=.slice T x none (some y) none:=by exact rfl)
  (hx:opA env x=.osl b 0 l.length k:=by exact rfl)(hy:opA env y=.int .i64 i:=by exact rfl):OpV P o env H (.osl b 0 l'.length k):=by
 obtain⟨d,e,_,a⟩:=slc0 h;have:=Qfx (H:=H) E1 E2 f hx (.inl ⟨rfl,rfl⟩) (.inr ⟨y,i,rfl,hy,d,rfl⟩) (XV _) e;rw[a];simpa using this
theorem QfA{c:Call}{z:Value}(h:slc l 0 i=some l')(g:P.underlying T=some (.slice et))(j:∀w,(zeroValue et).run P w=.ok z w)(d:z.cells.size=k)(a:∀v∈z.cells,Qm v)(m:o.op=.call c:=by exact rfl)(hc:c={callee:=.builtin .clear,args:= #[x],argTypes:= #[T]}:=by exact rfl)
  (hx:opA env x=.osl b (0+i.toNat) (l.length-i.toNat) k:=by exact rfl)(hH:H[b]?=some (.row t k (l.map e)):=by exact rfl):OpH P o env H (.tup []) (H.set b (.row t k (l'.map e))):=by
 obtain⟨p,n,f,q⟩:=slc0 h;refine QfL g j d a ?_ ?_ m hc hx hH
 .rw[Xw, <- f,List.map_take]
 .rw[X3];omega
end
end Go.Sw
namespace Go.Sw
open Go.Sort Go.Proofs Go.Shelf
def ltI(x y:Int):Bool:=decide (x<y)
def sortI(l:List Int):Option (List Int):=bif Nat.ble l.length Qq then some (YK ltI l)else none
theorem QhD{l l':List Int}(h:sortI l=some l'):l.length<=Qq/\YK ltI l=l':=by
 unfold sortI at h;cases e:Nat.ble l.length Qq with
 |false=>rw[e]at h;simp at h
 |true=>rw[e]at h;exact⟨XS e,X0 h⟩
theorem Qaf{l l':List Int}(h:sortI l=some l'):l.length=l'.length:=by
 rw[<- (QhD h).2];exact(Ql _ _).length_eq.symm
theorem Qem(l:List Int):Qd6 ltI l:=
 ⟨λx _=>by simp[ltI],λx _ y _ z _ a b=>by simp[ltI]at*;omega,λx _ y _ z _ a b=>by simp[ltI]at*;omega⟩
theorem Qed(l:List Int):(l.mergeSort λx y=>decide (x<=y))=YK ltI l:=by
 refine Jh (lt:=ltI) ?_ ?_ ?_ (QS (Qem l))
 .exact(List.mergeSort_perm _ _).trans (Ql _ _).symm
 .intro x _ y _ a b;simp[ltI]at*;omega
 .refine(List.pairwise_mergeSort (le:=λx y=>decide (x<=y)) ?_ ?_ l).imp ?_
  .intro a b c;simp;omega
  .intro a b;simp;omega
  .intro a b;simp[ltI]
theorem Qkt{ro:Nat->Prop}{σ:Sig}{w:World}:∀{l:List Int} {lv:List Value},RL ro σ w 1 (l.map λx=>[A.int .i64 x]) lv->∃rest,lv=l.map (Value.int .i64)++rest
 |[],lv,_=>⟨lv,rfl⟩
 |x::l,lv,h=>by
  obtain⟨l1,l2,rfl,h1,⟨h2,h3⟩,h4⟩:=h;obtain⟨rest,rfl⟩:=Qkt (l:=l) h4;obtain⟨v,r,rfl,hv,hr⟩:=h2;cases(show r=[]from hr);exact⟨rest,by rw[show v=.int .i64 x from hv];simp⟩
theorem Qfr{ro:Nat->Prop}{σ:Sig}{w:World}:∀(l:List Int) (rest:List Value),RL ro σ w 1 (l.map λx=>[A.int .i64 x]) (l.map (Value.int .i64)++rest)
 |[],_=>trivial
 |x::l,rest=>⟨[.int .i64 x],l.map (Value.int .i64)++rest,by simp,rfl,⟨⟨_,_,rfl,rfl,rfl⟩,by simp[Qm]⟩,Qfr l rest⟩
theorem QkB{P:Program}{ρ:Ren}(L:Lays.n189 P ρ){t:Nat}{l l':List Int}(hs:sortI l=some l'):
  C P (ρ.f 189) [.osl 0 0 l.length 1] [.row t 1 (l.map λx=>[A.int .i64 x])] (λa H=>a=.tup []/\H=[.row t 1 (l'.map λx=>[A.int .i64 x])]):=by
 intro fr M σ vals w s hv;obtain⟨vs,r1,rfl,af,hr⟩:=hv;cases(show r1=[]from hr);obtain⟨V,X⟩:=QhD hs;have d:∀(ad:Option Addr) (c:Nat),vs=.slice ad 0 c->l=[]->
   Calls P (ρ.f 189) [vs].toArray w λe w'=>∃v r H' ro' τ,e=.returned v/\(r=.tup []/\H'=[.row t 1 (l'.map λx=>[A.int .i64 x])])/\Sim fr ro' (σ++τ) H' w'/\VR ro' (σ++τ) w' r v/\Qe fr M w ro' w':=by
  rintro ad c rfl rfl;have E:l'=[]:=by rw[<- X];rfl
  subst E;refine(Any.slices_Sort_int_none L ad c w).mono ?_;rintro e w' ⟨rfl,rfl⟩;exact⟨_,_,_,M,[],rfl,⟨rfl,rfl⟩,by simpa using s,⟨[],rfl,rfl⟩,Qe.refl _ _ _⟩
 rcases af with⟨h0,rfl⟩|⟨b,p,cp,t',m,q1,rfl,q2,q3,q4,q5⟩
 .exact d none 0 rfl (VK.1 h0)
 .by_cases E:l=[]
  .subst E;exact d _ cp rfl rfl
  .have ag:0<l.length:=List.length_pos_iff.2 E;obtain rfl:=q2 (Vg ag q3);obtain⟨lv,e1,e2⟩:=s.blk 0 _ _ q1 rfl;obtain⟨hb,Q,R⟩:=s.own 0 b _ q1 rfl rfl;obtain⟨u,rfl⟩:=Qkt e2;have hH:Holds (Value.int .i64) w b 0 l.toArray:=by
    intro j hj;simp only[List.size_toArray]at hj;constructor
    .unfold World.cell?;simp only[e1,Option.isSome_none,Xj,if_false,Xw];rw[Qad,XN (by simpa using hj)];simp[hj]
    .unfold World.frozen?;simp only[e1];simp
   have z:=Any.slices_Sort_int L b 0 cp l w hH hb (by unfold Qq at V;omega);rw[Qed,X]at z;simp only[Nat.zero_mul]at z⊢;refine z.mono ?_;rintro e w' ⟨rfl,n,os,rfl⟩;have F:l.length=l'.length:=Qaf hs;generalize hW:grow (putRow (Value.int .i64) (Sort.ahead w n) b 0 l'.toArray) os=W;have g:W.heap=w.heap.setIfInBounds b (.cells ((l'.map (Value.int .i64)++u)).toArray t (0,0))++os:=by
    rw[<- hW];show(w.heap.modify b _)++os=_;rw[Qbc e1];simp only[onCells];congr 3;unfold putCells;apply Array.ext_getElem?;intro i;simp only[Array.getElem?_mapIdx,Qad,XV,true_and,Xw,Xv,List.size_toArray];by_cases hi:i<l'.length
    .rw[XN (by simpa[F]using hi),XN (by simpa using hi)];simp[hi,F]
    .rw[XO (by simp;omega),XO (by simp;omega)];simp only[X3,F];cases(u[i-l'.length]?)with
     |none=>rfl
     |some v=>exact congrArg some (Vt hi)
   have g1:∀c,c<w.heap.size->c≠b->W.heap[c]?=w.heap[c]? :=by
    intro c k ai;rw[g,Array.getElem?_append_left (by simpa using k),Vf,Vt (λq=>ai q.symm)]
   have g2:W.heap[b]?=some (.cells ((l'.map (Value.int .i64)++u)).toArray t (0,0)):=by
    rw[g,Array.getElem?_append_left (by simpa using hb),Vf,Vu rfl,Vu hb]
   have g3:w.heap.size<=W.heap.size:=by rw[g];simp
   have B:∀c y,w.shape? c=some y->W.shape? c=some y:=by
    intro c y G;by_cases k:c=b
    .subst k;unfold World.shape? at G⊢;rw[e1]at G;rw[g2];simp only[Option.some.injEq]at G⊢;rw[<- G];simp[F]
    .unfold World.shape? at G⊢;rw[g1 c (QbM G) k];exact G
   have ab:W.os=w.os:=by rw[<- hW];rfl
   have ae:W.tape=w.tape:=by rw[<- hW];rfl
   have ac:W.output=w.output:=by rw[<- hW];rfl
   have ah:w.drawn<=W.drawn:=by rw[<- hW];exact Nat.le_add_right _ _
   have T:Qe fr M w M W:=
    ⟨λ_ q=>q,λc k=>g1 c (s.roLt c k) (λq=>Q (q▸k)),λc k=>g1 c (s.frLt c k) (λq=>R (q▸k)),g3,B,ab,ae,ac,ah⟩
   have J:σ.length=1:=s.len;have aa:Sim fr M σ [.row t 1 (l'.map λx=>[A.int .i64 x])] W:=by
    have Y:∀{i:Nat} {x:Blk},([.row t 1 (l'.map λx=>[A.int .i64 x])]:Qc)[i]?=some x->i=0/\x=.row t 1 (l'.map λx=>[A.int .i64 x]):=by
     intro i x h;cases i with
     |zero=>simp at h;exact⟨rfl,h.symm⟩
     |succ i=>simp at h
    refine⟨J,s.roOk.to (λ_ q=>q) T.keepRo (λc k=>Vg (s.roLt c k) g3),λc k=>Vg (s.frLt c k) g3,s.roFr,λi c x O N h3=>?_,λi j c x y O N h3 h4 _ _=>?_,λi y x O N=>?_,λi b x c O N h3=>by obtain⟨rfl,rfl⟩:=Y N;exact h3.elim⟩
    .obtain⟨rfl,rfl⟩:=Y N;obtain⟨p1,p2⟩:=s.own 0 c _ O rfl rfl;exact⟨Vg p1 g3,p2⟩
    .rw[(Y h3).1,(Y h4).1]
    .obtain⟨rfl,rfl⟩:=Y N;rw[q1]at O;cases O;exact⟨_,g2,Qfr l' u⟩
   exact⟨_,_,_,M,[],rfl,⟨rfl,rfl⟩,by simpa using aa,⟨[],rfl,rfl⟩,T⟩
section
variable {P:Program} {o:Oper} {env:Env} {H:Qc} {α:Type} {e:α->List A} {T et k b t:Nat} {x y:Operand}
theorem Qlp{lo hi:Option Operand}{l r:List α}{a c:Int}(h:slc l a c=some r)(E1:∀w,(underlying T).run P w=.ok (.slice et) w)(E2:∀w,(sizeOf et).run P w=.ok k w)
  (g:lo=none/\a=0\/ ∃y,lo=some y/\opA env y=.int .i64 a)(f:hi=none/\c=l.length\/ ∃y,hi=some y/\opA env y=.int .i64 c)
  (j:o.op=.slice T x lo hi none:=by exact rfl)(hx:opA env x=.osl b 0 l.length k:=by exact rfl):OpV P o env H (.osl b (0+a.toNat) (c.toNat-a.toNat) k):=by
 obtain⟨i,n,m,_⟩:=QiX h;refine Qfx (l:=a.toNat) (h:=c.toNat) E1 E2 j hx ?_ ?_ (by omega) (by omega)
 .rcases g with⟨e,d⟩|⟨y,e,d⟩
  .exact .inl ⟨e,by rw[d];rfl⟩
  .exact .inr ⟨y,a,e,d,i,rfl⟩
 .rcases f with⟨e,d⟩|⟨y,e,d⟩
  .exact .inl ⟨e,by rw[d];simp⟩
  .exact .inr ⟨y,c,e,d,by omega,rfl⟩
end
end Go.Sw
namespace Go.Sw
inductive Bx where
 |mk (a:A)
def lkB:Env->Nat->Bx
 |[],_=>.mk .any
 |(d,a)::r,s=>bif Nat.beq s d then .mk a else lkB r s
theorem Qjd:∀{env:Env} {s:Nat} {a:A},lkB env s=.mk a->lk env s=a
 |[],s,a,h=>by cases h;rfl
 |(d,b)::r,s,a,h=>by
  unfold lkB at h;unfold lk;cases q:Nat.beq s d with
  |true=>rw[q]at h;cases h;rfl
  |false=>rw[q]at h;exact Qjd h
inductive FBy where
 |mk (l:List UInt8)
def fby:List UInt8->FBy
 |[]=>.mk []
 |a::r=>match fby r with
  |.mk r'=>.mk (a::r')
theorem QmA:∀l:List UInt8,fby l=.mk l
 |[]=>rfl
 |a::r=>by unfold fby;rw[QmA r]
def opB(env:Env):Operand->Bx
 |.tmp t=>lkB env t
 |.const (.bool b)=>.mk (.bool b)
 |.const (.int k n)=>.mk (.int k n)
 |.const (.string s)=>match fby s.data.toList with
  |.mk l=>.mk (.str l)
 |.const (.pointer none)=>.mk .nilp
 |.const (.slice none 0 0)=>.mk .nils
 |.const (.map none)=>.mk .nilm
 |.const .nilFunc=>.mk .nilf
 |.const .nilIface=>.mk .nilif
 |.func f=>.mk (.fn (.func f) [] [])
 |_=>.mk .any
theorem Qz{env:Env}{x:Operand}{a:A}(h:opB env x=.mk a):opA env x=a:=by
 cases x with
 |tmp t=>exact Qjd h
 |const v=>
  cases v with
  |slice b n k=>cases b with
   |none=>cases n with
    |zero=>cases k<;>(cases h;rfl)
    |succ n=>cases h;rfl
   |some b=>cases h;rfl
  |pointer p=>cases p<;>(cases h;rfl)
  |map p=>cases p<;>(cases h;rfl)
  |string s=>
   have d:(match fby s.data.toList with|.mk l=>Bx.mk (.str l))=.mk a:=h;rw[QmA]at d;cases d;rfl
  |_=>cases h;rfl
 |global g=>cases h;rfl
 |func f=>cases h;rfl
def YU{α:Type}:List α->Nat->Option α
 |[],_=>none
 |a::_,0=>some a
 |_::r,n+1=>YU r n
theorem QaE{α:Type}:∀(l:List α) (n:Nat),YU l n=l[n]?
 |[],n=>by simp[YU]
 |a::r,0=>rfl
 |a::r,n+1=>by simp[YU,QaE r n]
def arB:BinOp->IntKind->Int->Int->Option A
 |.add,k,m,n=>some (.int k (k.wrap (m+n)))
 |.sub,k,m,n=>some (.int k (k.wrap (m-n)))
 |.mul,k,m,n=>some (.int k (k.wrap (m*n)))
 |.eql,_,m,n=>some (.bool (m==n))
 |.neq,_,m,n=>some (.bool (m != n))
 |.lss,_,m,n=>some (.bool (decide (m<n)))
 |.leq,_,m,n=>some (.bool (decide (m<=n)))
 |.gtr,_,m,n=>some (.bool (decide (n<m)))
 |.geq,_,m,n=>some (.bool (decide (n<=m)))
 |_,_,_,_=>none
def srB:BinOp->List UInt8->List UInt8->Option A
 |.eql,p,q=>some (.bool (p==q))
 |.neq,p,q=>some (.bool (p != q))
 |.lss,p,q=>some (.bool (Op.bytesLess p q))
 |_,_,_=>none
def biB(b:BinOp):Bx->Bx->Option A
 |.mk (.int k m),.mk (.int k' n)=>if k=k' then arB b k m n else none
 |.mk (.str p),.mk (.str q)=>srB b p q
 |_,_=>none
def unB:UnOp->Bx->Option A
 |.not,.mk (.bool b)=>some (.bool !b)
 |.neg,.mk (.int k n)=>some (.int k (k.wrap (0-n)))
 |_,_=>none
def exB:Bx->Nat->Option A
 |.mk (.tup vs),i=>YU vs i
 |_,_=>none
def nlB:Bx->Option A
 |.mk (.ptr i j)=>some (.ptr i j)
 |.mk (.rp cs)=>some (.rp cs)
 |_=>none
def piB:Bx->Bx->Bx->Option A
 |.mk (.bool true),.mk a,_=>some a
 |.mk (.bool false),_,.mk a=>some a
 |_,_,_=>none
def svB(env:Env):Op->Option A
 |.move x=>match opB env x with|.mk a=>some a
 |.assign x=>match opB env x with|.mk a=>some a
 |.nilCheck x=>nlB (opB env x)
 |.extract x i=>exB (opB env x) i
 |.unOp u _ x=>unB u (opB env x)
 |.pick c x y=>piB (opB env c) (opB env x) (opB env y)
 |.binOp b _ x y _=>biB b (opB env x) (opB env y)
 |_=>none
def pr(d:Nat):Option A->Option (Nat×A)
 |some a=>some (d,a)
 |none=>none
def stB(o:Oper)(env:Env):Option (Nat×A):=
 match o.dst with
 |some d=>pr d (svB env o.op)
 |none=>none
section
variable {P:Program} {h0 N:Nat} {all:Array Oper} {o:Oper} {l:List Oper} {env:Env} {H H':Qc} {Q:Qx} {d:Nat} {x:A}
theorem QbK{p:Op}(d:o.op=p)(h:svB env p=some x):OpV P o env H x:=by
 unfold svB at h;split at h
 .rename_i y;cases q:opB env y with|mk a=>rw[q]at h;cases h;exact OpV.move d (Qz q)
 .rename_i y;cases q:opB env y with|mk a=>rw[q]at h;cases h;exact OpV.assign d (Qz q)
 .rename_i y;unfold nlB at h;split at h
  .rename_i i j q;cases h;exact Yw d (Qz q) rfl
  .rename_i w q;cases h;exact Yw d (Qz q) rfl
  .cases h
 .rename_i y i;unfold exB at h;split at h
  .rename_i vs _ q;rw[QaE]at h;exact OpV.extract d (Qz q) h
  .cases h
 .rename_i u t y;unfold unB at h;split at h
  .rename_i b q;cases h;exact OpV.not d (Qz q)
  .rename_i k n q;cases h;exact OpV.neg d (Qz q)
  .cases h
 .rename_i c y z;unfold piB at h;split at h
  .rename_i a _ r l;cases h;exact OpV.pick d (Qz r) (by rw[Vu rfl];exact Qz l)
  .rename_i a r l;cases h;exact OpV.pick d (Qz r) (by rw[Vt (by decide)];exact Qz l)
  .cases h
 .rename_i b t y z u;unfold biB at h;split at h
  .rename_i k m s n r l;split at h
   .rename_i e;subst e;have g:=Qz r;have f:=Qz l;unfold arB at h;split at h
    .cases h;exact OpV.add d g f
    .cases h;exact OpV.sub d g f
    .cases h;exact OpV.mul d g f
    .cases h;exact OpV.eql d g f
    .cases h;exact OpV.neq d g f
    .cases h;exact OpV.lss d g f
    .cases h;exact OpV.leq d g f
    .cases h;exact OpV.gtr d g f
    .cases h;exact OpV.geq d g f
    .cases h
   .cases h
  .rename_i p q r l;have g:=Qz r;have f:=Qz l;unfold srB at h;split at h
   .cases h;exact QdJ d g f
   .cases h;exact Qlk d g f
   .cases h;exact Qll d g f
   .cases h
  .cases h
 .cases h
theorem QgJ(h:stB o env=some (d,x)):o.dst=some d/\OpV P o env H x:=by
 unfold stB at h;split at h
 .rename_i b q;cases e:svB env o.op with
  |none=>rw[e]at h;cases h
  |some a=>rw[e]at h;cases h;exact⟨q,QbK rfl e⟩
 .cases h
theorem S(e:stB o env=some (d,x))(k:WO P h0 N all l (up env d x) H Q)(hg:Qn all o env true:=by exact rfl)(hN:Nat.blt d N=true:=by exact rfl):WO P h0 N all (o::l) env H Q:=
 QE hg (QgJ (P:=P) (H:=H) e).1 hN (QgJ e).2 k
theorem Sg(hg:Qn all o env true)(e:stB o env=some (d,x))(k:WO P h0 N all l (up env d x) H Q)(a:Nat.blt d N=true:=by exact rfl):WO P h0 N all (o::l) env H Q:=
 QE hg (QgJ (P:=P) (H:=H) e).1 a (QgJ e).2 k
theorem K(hg:Qn all o env false)(b:o.dst=some d)(k:WO P h0 N all l (up env d (.tup [])) H Q)(a:Nat.blt d N=true:=by exact rfl):WO P h0 N all (o::l) env H Q:=
 WO.skip hg b a k
theorem KF{j s:Nat}{c y:Bool}(a:y= !c)(e:o.dst=some d)(k:WO P h0 N all l (up env d (.tup [])) H Q)(b:Nat.blt d N=true:=by exact rfl)(hg:o.guard=some (j,c):=by exact rfl)(hs:(all[j]?).bind (·.dst)=some s:=by exact rfl)(hl:lk env s=.bool y:=by exact rfl):WO P h0 N all (o::l) env H Q:=
 WO.skip (gF a hg hs hl) e b k
def p2B(v:Bool):Bx->Bx->Bx->Option (Bool×A)
 |.mk (.bool b),.mk a,.mk a'=>match v with|true=>some (b,a)|false=>some (b,a')
 |_,_,_=>none
def pr2(d:Nat):Option (Bool×A)->Option (Nat×Bool×A)
 |some a=>some (d,a)
 |none=>none
def pkB(v:Bool)(o:Oper)(env:Env):Option (Nat×Bool×A):=
 match o.dst,o.op with
 |some d,.pick c x y=>pr2 d (p2B v (opB env c) (opB env x) (opB env y))
 |_,_=>none
theorem Qo6{v b:Bool}{p q r:Bx}(h:p2B v p q r=some (b,x)):∃a a',p=.mk (.bool b)/\q=.mk a/\r=.mk a'/\(bif v then a else a')=x:=by
 obtain⟨p⟩:=p;obtain⟨q⟩:=q;obtain⟨r⟩:=r;cases p<;>first|(cases h;done)|skip
 cases v<;>cases h<;>exact⟨_,_,rfl,rfl,rfl,rfl⟩
theorem Ql5{v b:Bool}(h:pkB v o env=some (d,b,x))(k:b=v):o.dst=some d/\OpV P o env H x:=by
 unfold pkB at h;split at h
 .rename_i p c y z g j;cases e:p2B v (opB env c) (opB env y) (opB env z)with
  |none=>rw[e]at h;cases h
  |some s=>
   rw[e]at h;cases h;obtain⟨a,n,m,i,f,l⟩:=Qo6 e;refine⟨g,OpV.pick j (Qz m) ?_⟩;rw[Qz i,Qz f,k];cases v<;>exact l
 .cases h
theorem Pk{v b:Bool}(a:b=v)(e:pkB v o env=some (d,b,x))(k:WO P h0 N all l (up env d x) H Q)(hg:Qn all o env true:=by exact rfl)(hN:Nat.blt d N=true:=by exact rfl):WO P h0 N all (o::l) env H Q:=
 QE hg (Ql5 (P:=P) (H:=H) e a).1 hN (Ql5 e a).2 k
def fpB(o:Oper)(env:Env):Option (Nat×Nat×Nat×Nat×Nat):=
 match o.dst,o.op with
 |some d,.fieldAddr T x f=>match opB env x with
  |.mk (.ptr i p)=>some (d,T,f,i,p)
  |_=>none
 |_,_=>none
theorem Qg2{T f off n i p:Nat}(a:QY P T f off n)(h:fpB o env=some (d,T,f,i,p)):o.dst=some d/\OpV P o env H (.ptr i (p+off)):=by
 unfold fpB at h;split at h
 .rename_i g b;split at h
  .rename_i e;cases h;exact⟨g,Yq a b (Qz e)⟩
  .cases h
 .cases h
theorem Fp{T f off n i p:Nat}(a:QY P T f off n)(e:fpB o env=some (d,T,f,i,p))(k:WO P h0 N all l (up env d (.ptr i (p+off))) H Q)(hg:Qn all o env true:=by exact rfl)(hN:Nat.blt d N=true:=by exact rfl):WO P h0 N all (o::l) env H Q:=
 QE hg (Qg2 (H:=H) a e).1 hN (Qg2 a e).2 k
theorem Fpg{T f off n i p:Nat}(hg:Qn all o env true)(a:QY P T f off n)(e:fpB o env=some (d,T,f,i,p))(k:WO P h0 N all l (up env d (.ptr i (p+off))) H Q)(b:Nat.blt d N=true:=by exact rfl):WO P h0 N all (o::l) env H Q:=
 QE hg (Qg2 (H:=H) a e).1 b (Qg2 a e).2 k
inductive Lx where
 |mk (l:List A)
def Qfl:Nat->List A->Lx
 |0,l=>.mk l
 |n+1,_::r=>Qfl n r
 |_+1,[]=>.mk []
theorem Qc1:∀{n:Nat} {l r:List A},Qfl n l=.mk r->l.drop n=r
 |0,l,r,h=>by cases h;rfl
 |n+1,a::l,r,h=>by rw[List.drop_succ_cons];exact Qc1 h
 |n+1,[],r,h=>by cases h;rfl
def frB(off:Nat)(o:Oper)(env:Env):Option (Nat×Nat×Nat×List A):=
 match o.dst,o.op with
 |some d,.fieldAddr T x f=>match opB env x with
  |.mk (.rp cs)=>match Qfl off cs with
   |.mk r=>some (d,T,f,r)
  |_=>none
 |_,_=>none
theorem Qmu{T f off n:Nat}{r:List A}(b:QY P T f off n)(h:frB off o env=some (d,T,f,r)):o.dst=some d/\OpV P o env H (.rp r):=by
 unfold frB at h;split at h
 .rename_i j e;split at h
  .rename_i i g;cases a:Qfl off i with|mk r'=>rw[a]at h;cases h;exact⟨j,Qp b e (Qz g) (Qc1 a)⟩
  .cases h
 .cases h
theorem Fr{T f off n:Nat}{r:List A}(a:QY P T f off n)(e:frB off o env=some (d,T,f,r))(k:WO P h0 N all l (up env d (.rp r)) H Q)(hg:Qn all o env true:=by exact rfl)(hN:Nat.blt d N=true:=by exact rfl):WO P h0 N all (o::l) env H Q:=
 QE hg (Qmu (H:=H) a e).1 hN (Qmu a e).2 k
def ctB:Option Blk->Nat->Option A
 |some (.cells _ cs),off=>YU cs off
 |_,_=>none
def lvB(H:Qc):Bx->Option A
 |.mk (.ptr i off)=>ctB (YU H i) off
 |.mk (.rp (a::_))=>some a
 |_=>none
def pr3(d t:Nat):Option A->Option (Nat×Nat×A)
 |some a=>some (d,t,a)
 |none=>none
def ldB(o:Oper)(env:Env)(H:Qc):Option (Nat×Nat×A):=
 match o.dst,o.op with
 |some d,.load t x=>pr3 d t (lvB H (opB env x))
 |_,_=>none
theorem QgX{t:Nat}(l:∀w,(isAgg t).run P w=.ok false w)(h:ldB o env H=some (d,t,x)):o.dst=some d/\OpV P o env H x:=by
 unfold ldB at h;split at h
 .rename_i s p y m k;cases e:lvB H (opB env y)with
  |none=>rw[e]at h;cases h
  |some a=>
   rw[e]at h;cases h;refine⟨m,?_⟩;unfold lvB at e;split at e
   .rename_i i b g;unfold ctB at e;split at e
    .rename_i b q T0 T cs q4;rw[QaE]at e q4;obtain⟨f,n⟩:∃f,cs.drop b=x::f:=by
      have j:=(XM.1 e).1;refine⟨cs.drop (b+1),?_⟩;rw[Xr j,(XM.1 e).2]
     exact OpV.load k l (Qz g) (Pts.cells q4 n)
    .cases e
   .rename_i a r g;cases e;exact OpV.load k l (Qz g) Pts.rp
   .cases e
 .cases h
theorem Ld{t:Nat}(a:∀w,(isAgg t).run P w=.ok false w)(e:ldB o env H=some (d,t,x))(k:WO P h0 N all l (up env d x) H Q)(hg:Qn all o env true:=by exact rfl)(hN:Nat.blt d N=true:=by exact rfl):WO P h0 N all (o::l) env H Q:=
 QE hg (QgX a e).1 hN (QgX a e).2 k
theorem Ldg{t:Nat}(hg:Qn all o env true)(a:∀w,(isAgg t).run P w=.ok false w)(e:ldB o env H=some (d,t,x))(k:WO P h0 N all l (up env d x) H Q)(b:Nat.blt d N=true:=by exact rfl):WO P h0 N all (o::l) env H Q:=
 QE hg (QgX a e).1 b (QgX a e).2 k
def ixB(o:Oper)(env:Env):Option (Nat×Nat×Nat×List (List A)×IntKind×Int):=
 match o.dst,o.op with
 |some d,.indexAddr t x y=>match opB env x,opB env y with
  |.mk (.rsl k es),.mk (.int kk i)=>some (d,t,k,es,kk,i)
  |_,_=>none
 |_,_=>none
theorem Ix{α:Type}{e:α->List A}{t et k:Nat}{L:List α}{m:IntKind}{i:Int}{v:α}(h:idx L i=some v)(b:∀w,(underlying t).run P w=.ok (.slice et) w)(j:∀w,(sizeOf et).run P w=.ok k w)
  (q:ixB o env=some (d,t,k,L.map e,m,i))(k:WO P h0 N all l (up env d (.rp (e v))) H Q)(hg:Qn all o env true:=by exact rfl)(hN:Nat.blt d N=true:=by exact rfl):WO P h0 N all (o::l) env H Q:=by
 unfold ixB at q;split at q
 .rename_i p f;split at q
  .rename_i g n;simp only[Option.some.injEq,Prod.mk.injEq]at q;obtain⟨rfl,rfl,rfl,a,rfl,rfl⟩:=q;exact QE hg p hN (Qhm h b j f (by rw[Qz g,a]) (Qz n)) k
  .cases q
 .cases q
def lnB(o:Oper)(env:Env):Option (Nat×Nat×Bx):=
 match o.dst,o.op with
 |some d,.call c=>match c with
  |{callee:=.builtin .len,args:=⟨[x]⟩,argTypes:=⟨[t]⟩}=>some (d,t,opB env x)
  |_=>none
 |_,_=>none
theorem Qpd{t:Nat}{b:Bx}(q:lnB o env=some (d,t,b)):∃x,o.dst=some d/\o.op=.call {callee:=.builtin .len,args:= #[x],argTypes:= #[t]}/\opB env x=b:=by
 unfold lnB at q;split at q
 .rename_i e a;split at q
  .cases q;exact⟨_,e,a,rfl⟩
  .cases q
 .cases q
theorem LnM{α:Type}{e:α->List A}{t et k:Nat}{L:List α}(a:∀w,(underlying t).run P w=.ok (.slice et) w)(q:lnB o env=some (d,t,.mk (.rsl k (L.map e))))
  (k:WO P h0 N all l (up env d (.int .i64 L.length)) H Q)(hg:Qn all o env true:=by exact rfl)(hN:Nat.blt d N=true:=by exact rfl):WO P h0 N all (o::l) env H Q:=by
 obtain⟨x,g,b,f⟩:=Qpd q;exact QE hg g hN (Qnd a b rfl (Qz f)) k
end
section
variable {P:Program} {h0 N:Nat} {all:Array Oper} {env env':Env} {H H':Qc} {Q:Qx} {c c':Code}
theorem Nx(h:TC P h0 N c env H Q):WO P h0 N all [] env H (Seq P h0 N c Q):=WO.nil (QlQ h)
theorem Rg{id:Nat}{l:List Oper}(h:WO P h0 N l.toArray l env H (Seq P h0 N c Q)):TC P h0 N (.seq (.region id l.toArray false) c) env H Q:=TC.seq (TC.region h)
theorem SkN(h:TC P h0 N c env H Q):TC P h0 N .skip env H (Seq P h0 N c Q):=TC.skip (QlQ h)
theorem ExX{id:Nat}(h:Q (.exit id) env H):TC P h0 N (.exit id) env H (Seq P h0 N c Q):=TC.exit (seqX h)
theorem Oi{α:Type}{x y:α}(h:some x=some y):x=y:=X0 h
theorem Bd{α β:Type}{x:Option α}{f:α->Option β}{r:β}{G:Prop}(h:x.bind f=some r)(k:∀a,x=some a->f a=some r->G):G:=by
 obtain⟨a,b,d⟩:=bnd h;exact k a b d
theorem If{α:Type}{c:Bool}{x y:Option α}{r:α}{G:Prop}(h:(bif c then x else y)=some r)(t:c=true->x=some r->G)(e:c=false->y=some r->G):G:=by
 cases c with
 |true=>exact t rfl h
 |false=>exact e rfl h
theorem Cn{α:Type}{x:Operand}{t:Bool}{p q:Option α}{r:α}(hx:opB env x=.mk (.bool t))(h:(bif t then p else q)=some r)(ht:t=true->p=some r->TC P h0 N c env H Q)(hf:t=false->q=some r->TC P h0 N c' env H Q):TC P h0 N (.cond x c c') env H Q:=
 TC.cond (Qz hx) (λe=>ht e (ifT e h)) (λe=>hf e (ifF e h))
theorem Jl{α:Type}{x:Operand}{t:Bool}{p q:Option α}{r:α}(hx:opB env x=.mk (.bool t))(h:(bif t then p else q)=some r)(hf:t=false->q=some r->TC P h0 N c' env H Q)(ht:t=true->p=some r->TC P h0 N c env H Q):TC P h0 N (.cond x c c') env H Q:=
 TC.cond (Qz hx) (λe=>ht e (ifT e h)) (λe=>hf e (ifF e h))
theorem Lr(π:List Nat)(a:π.take h0=List.range h0:=by exact rfl)(hH:π.map (λp=>H[p]?)=(H'.map (QV (rho π H.length))).map some:=by exact rfl)(hπ:π.Nodup:=by decide)
  (hE:Qd9 (rho π H.length) env env':=by(repeat' (first|exact trivial|refine⟨rfl,?_⟩))):Le h0 env H env' H':=Qnk π a hH hπ hE
end
end Go.Sw
namespace Go.Sw
def Ev{α:Type}(f:Nat->Option α)(v:α):Prop:=∃N,∀n,N<=n->f n=some v
section
variable {α β:Type} {f g:Nat->Option α} {v w:α}
theorem Qa(v:α):Ev (λ_=>some v) v:=⟨0,λ_ _=>rfl⟩
theorem Ev.const{o:Option α}(h:o=some v):Ev (λ_=>o) v:=⟨0,λ_ _=>h⟩
theorem Ev.bind{k:Nat->α->Option β}{b:β}(h:Ev f v)(a:Ev (λn=>k n v) b):Ev (λn=>(f n).bind (k n)) b:=by
 obtain⟨N,h⟩:=h;obtain⟨M,a⟩:=a;exact⟨max N M,λn d=>by show(f n).bind (k n)=some b;rw[h n (by omega),XK];exact a n (by omega)⟩
theorem QaW{o:Option α}{k:Nat->α->Option β}{b:β}(h:o=some v)(hk:Ev (λn=>k n v) b):Ev (λn=>o.bind (k n)) b:=Ev.bind (Ev.const h) hk
theorem Qb3{c:Bool}(b:c=true->Ev f v)(a:c=false->Ev g w):Ev (λn=>bif c then f n else g n) (bif c then v else w):=by
 cases c with
 |true=>exact b rfl
 |false=>exact a rfl
theorem QoD(h:Ev f v):Ev (λn=>bif true then f n else g n) v:=h
theorem Y7(h:Ev g v):Ev (λn=>bif false then f n else g n) v:=h
theorem Qw{c d:Bool}{h:Nat->Option Bool}(a:c=true->Ev h d):Ev (λn=>bif c then h n else some false) (c&&d):=by
 cases c with
 |true=>exact a rfl
 |false=>exact Qa _
theorem Ev.or{c d:Bool}{h:Nat->Option Bool}(a:c=false->Ev h d):Ev (λn=>bif c then some true else h n) (c||d):=by
 cases c with
 |true=>exact Qa _
 |false=>exact a rfl
theorem Ev.eq(h:Ev f v)(e:v=w):Ev f w:=e▸h
theorem Y2(h:Ev f v)(e:∀n,g n=f n):Ev g v:=by
 obtain⟨N,h⟩:=h;exact⟨N,λn a=>by rw[e];exact h n a⟩
theorem YN(h:Ev (λn=>f (n+1)) v):Ev f v:=by
 obtain⟨N,h⟩:=h;refine⟨N+1,λn a=>?_⟩;obtain⟨m,rfl⟩:∃m,n=m+1:=⟨n-1,by omega⟩;exact h m (by omega)
theorem Ev.ex(h:Ev f v):∃n,f n=some v:=let⟨N,h⟩:=h;⟨N,h N (XU _)⟩
theorem Ev.all{k:Nat}{F:Nat->Nat->Option α}{V:Nat->α}(h:∀i,i<k->Ev (F i) (V i)):∃N,∀n,N<=n->∀i,i<k->F i n=some (V i):=by
 induction k with
 |zero=>exact⟨0,λn _ i a=>absurd a (Xn _)⟩
 |succ k b=>
  obtain⟨N,e⟩:=b λi a=>h i (by omega);obtain⟨M,d⟩:=h k (by omega);refine⟨max N M,λn f i a=>?_⟩;rcases Xp.1 a with q|rfl
  .exact e n (by omega) i q
  .exact d n (by omega)
end
section
variable {S B α:Type} {step:Nat->S->Option (Ctl S B)}
theorem Ev.iter{s0:S}(st:Nat->S)(k:Nat){b:B}(h0:st 0=s0)(e:∀i,i<k->Ev (λn=>step n (st i)) (.cont (st (i+1))))(f:Ev (λn=>step n (st k)) (.done b)):
  Ev (λn=>Go.Sw.iter (step n) n s0) b:=by
 obtain⟨N,g⟩:=Ev.all e;obtain⟨M,d⟩:=f;exact⟨max (max N M) (k+1),λn h=>Qmo s0 st b k h0 (λi a=>g n (by omega) i a) (d n (by omega)) n (by omega)⟩
theorem Qcg{step:S->Option (Ctl S B)}{s:S}{b:B}(m:Nat)(h:Go.Sw.iter step m s=some b):Ev (λn=>Go.Sw.iter step n s) b:=by
 have mono:∀m s,Go.Sw.iter step m s=some b->∀n,m<=n->Go.Sw.iter step n s=some b:=by
  intro m
  induction m with
  |zero=>intro s h;cases h
  |succ m f=>
   intro s h n d;obtain⟨a,rfl⟩:∃a,n=a+1:=⟨n-1,by omega⟩;simp only[Go.Sw.iter]at h⊢;cases e:step s with
   |none=>rw[e]at h;cases h
   |some c=>
    rw[e]at h;cases c with
    |cont g=>exact f g h a (by omega)
    |done i=>exact h
 exact⟨m,λn d=>mono m s h n d⟩
structure At (l:List α) (i:Nat) (x:α):Prop where
 get:l[i]?=some x
 lt:decide ((i:Int)<(l.length:Int))=true
 ix:idx l (i:Int)=some x
 nx:IntKind.i64.wrap ((i:Int)+1)=((i+1:Nat):Int)
theorem JB{l:List α}{i:Nat}{x:α}(hl:l.length<=4611686018427387904)(h:l[i]?=some x):At l i x:=by
 have a:=(XM.1 h).1;exact⟨h,Vv (by omega),YS h,Yz (by omega)⟩
theorem At.mem{l:List α}{i:Nat}{x:α}(h:At l i x):x∈l:=VI h.get
theorem At.lt'{l:List α}{i:Nat}{x:α}(h:At l i x):i<l.length:=(XM.1 h.get).1
theorem At.take{l:List α}{i:Nat}{x:α}(h:At l i x):l.take (i+1)=l.take i++[x]:=by
 rw[List.take_add_one,h.get];rfl
theorem Ju(l:List α):decide ((l.length:Int)<(l.length:Int))=false:=Vy (by omega)
theorem Qb2{s0:S}(l:List α)(q:α->Bool)(st:Nat->S)(r b:B)(hl:l.length<=4611686018427387904)(h0:st 0=s0)
  (s:∀i x,At l i x->q x=false->Ev (λn=>step n (st i)) (.cont (st (i+1))))
  (d:∀i x,At l i x->q x=true->Ev (λn=>step n (st i)) (.done r))
  (w:Ev (λn=>step n (st l.length)) (.done b)):Ev (λn=>Go.Sw.iter (step n) n s0) (bif l.any q then r else b):=by
 have p:∀k,k<=l.length->(∀i x,l[i]?=some x->i<k->q x=false)\/ ∃i x,l[i]?=some x/\i<k/\q x=true/\ ∀j y,l[j]?=some y->j<i->q y=false:=by
  intro k
  induction k with
  |zero=>intro _;exact .inl λi x _ a=>absurd a (Xn _)
  |succ k u=>
   intro H;rcases u (by omega)with h|⟨i,x,m,E,g⟩
   .have t:l[k]?=some l[k]:=XL (by omega);cases e:q l[k]with
    |true=>exact .inr ⟨k,_,t,Xo _,e,h⟩
    |false=>
     refine .inl λi x d a=>?_;rcases Xp.1 a with z|rfl
     .exact h i x d z
     .rw[t]at d;cases d;exact e
   .exact .inr ⟨i,x,m,by omega,g⟩
 rcases p l.length (XU _)with h|⟨i,x,m,E,g,G⟩
 .have:l.any q=false:=by
   rw[VN];intro e;obtain⟨x,d,e⟩:=Xu.1 e;obtain⟨i,a,rfl⟩:=List.getElem_of_mem d;rw[h i _ (XL a) a]at e;cases e
  rw[this];exact Ev.iter st l.length h0 (λi a=>s i _ (JB hl (XL a)) (h i _ (XL a) a)) w
 .have:l.any q=true:=Xu.2 ⟨x,VI m,g⟩;rw[this];refine Ev.iter st i h0 (λj F=>?_) (d i x (JB hl m) g);have f:l[j]?=some l[j]:=XL (by omega);exact s j _ (JB hl f) (G j _ f F)
theorem QL{β:Type}{s0:S}(l:List α)(g:β->α->β)(b:β)(st:β->Nat->S)(d:β->B)(hl:l.length<=4611686018427387904)(h0:st b 0=s0)
  (j:∀i x a,At l i x->a=(l.take i).foldl g b->Ev (λn=>step n (st a i)) (.cont (st (g a x) (i+1))))
  (h:Ev (λn=>step n (st (l.foldl g b) l.length)) (.done (d (l.foldl g b)))):Ev (λn=>Go.Sw.iter (step n) n s0) (d (l.foldl g b)):=by
 refine Ev.iter (λi=>st ((l.take i).foldl g b) i) l.length (by simpa using h0) (λi f=>?_) (by simpa using h);have e:=JB (x:=l[i]) hl (XL f);have:=j i _ _ e rfl;rw[e.take,XD];exact this
theorem Ev.contains(l:List α)(q:α->Bool)(g:Nat->α->Option Bool)(hl:l.length<=4611686018427387904)(hg:∀x∈l,Ev (λn=>g n x) (q x)):
  Ev (λn=>(((Go.Sw.iter (λs:Int=>bif decide (s<(l.length:Int))then(idx l s).bind λx=>(g n x).bind λr=>(bif r then some (Ctl.done (Ctl.done s))else some (Ctl.cont (IntKind.i64.wrap (s+1))))else some (Ctl.done (Ctl.cont ()))) n (0:Int):Option (Ctl Unit Int)).bind λb=>
   match b with
   |.cont _=>some (-1)
   |.done s=>some s):Option Int).bind λr=>some (decide (0<=r))) (l.any q):=by
 cases e:l.any q with
 |false=>
  refine Ev.bind (v:=(-1:Int)) (Ev.bind (v:=Ctl.cont ()) (Ev.iter (λi=>(i:Int)) l.length rfl (λi d=>?_) ?_) (Qa _)) (Qa _)
  .have a:=JB (x:=l[i]) hl (XL d);simp only[a.lt,Vq,a.ix,XK];have E:q l[i]=false:=by
    rw[VN];intro h;rw[Xu.2 ⟨_,a.mem,h⟩]at e;cases e
   refine Ev.bind ((hg _ a.mem).eq E) ?_;simp only[Vr,a.nx];exact Qa _
  .simp only[Ju,Vr];exact Qa _
 |true=>
  obtain⟨x,f,h⟩:=Xu.1 e;have t:∀k,k<=l.length->(∀(i:Nat) (x:α),l[i]?=some x->i<k->q x=false)\/ ∃(i:Nat) (x:α),l[i]?=some x/\i<k/\q x=true/\ ∀(j:Nat) (y:α),l[j]?=some y->j<i->q y=false:=by
   intro k
   induction k with
   |zero=>intro _;exact .inl λi x _ d=>absurd d (Xn _)
   |succ k w=>
    intro H;rcases w (by omega)with h|⟨i,x,u,B,p⟩
    .have hg:l[k]?=some l[k]:=XL (by omega);cases e:q l[k]with
     |true=>exact .inr ⟨k,_,hg,Xo _,e,h⟩
     |false=>
      refine .inl λi x f d=>?_;rcases Xp.1 d with z|rfl
      .exact h i x f z
      .rw[hg]at f;cases f;exact e
    .exact .inr ⟨i,x,u,by omega,p⟩
  rcases t l.length (XU _)with G|⟨i,x,u,B,p,F⟩
  .obtain⟨j,m,rfl⟩:=List.getElem_of_mem f;rw[G j _ (XL m) m]at h;cases h
  .refine Ev.bind (v:=(i:Int)) (Ev.bind (v:=Ctl.done (i:Int)) (Ev.iter (λi=>(i:Int)) i rfl (λj m=>?_) ?_) (Qa _)) ?_
   .have a:=JB (x:=l[j]) hl (XL (by omega));simp only[a.lt,Vq,a.ix,XK];refine Ev.bind ((hg _ a.mem).eq (F j _ a.get m)) ?_;simp only[Vr,a.nx];exact Qa _
   .have a:=JB hl u;simp only[a.lt,Vq,a.ix,XK];refine Ev.bind ((hg _ a.mem).eq p) ?_;exact Qa _
   .rw[Vv (by omega)];exact Qa _
end
section
variable {S B α:Type} {step:Nat->S->Option (Ctl S B)}
theorem Qhr{s0:S}(st:Nat->S)(k:Nat)(R:Nat->B)(h0:st 0=s0)(p:∀i,i<k->(Ev (λn=>step n (st i)) (.cont (st (i+1)))/\R i=R (i+1))\/Ev (λn=>step n (st i)) (.done (R i)))
  (f:Ev (λn=>step n (st k)) (.done (R k))):Ev (λn=>Go.Sw.iter (step n) n s0) (R 0):=by
 have e:∀m,m<=k->(∀i,i<m->Ev (λn=>step n (st i)) (.cont (st (i+1)))/\R i=R (i+1))\/ ∃j,j<m/\(∀i,i<j->Ev (λn=>step n (st i)) (.cont (st (i+1)))/\R i=R (i+1))/\Ev (λn=>step n (st j)) (.done (R j)):=by
  intro m
  induction m with
  |zero=>intro _;exact .inl λi a=>absurd a (Xn _)
  |succ m d=>
   intro r;rcases d (by omega)with h|⟨j,l,b⟩
   .rcases p m (by omega)with q|q
    .refine .inl λi a=>?_;rcases Xp.1 a with z|rfl
     .exact h i z
     .exact q
    .exact .inr ⟨m,Xo _,h,q⟩
   .exact .inr ⟨j,by omega,b⟩
 have same:∀m,(∀i,i<m->R i=R (i+1))->R 0=R m:=by
  intro m
  induction m with
  |zero=>intro _;rfl
  |succ m d=>intro h;exact(d λi a=>h i (by omega)).trans (h m (Xo _))
 rcases e k (XU _)with h|⟨j,l,b,g⟩
 .rw[same k λi a=>(h i a).2];exact Ev.iter st k h0 (λi a=>(h i a).1) f
 .rw[same j λi a=>(b i a).2];exact Ev.iter st j h0 (λi a=>(b i a).1) g
theorem At.drop{l:List α}{i:Nat}{x:α}(h:At l i x):l.drop i=x::l.drop (i+1):=by
 have:=h.lt';rw[Xr this,(XM.1 h.get).2]
theorem Qhq{s0:S}(l:List α)(st:Nat->S)(R:Nat->B)(hl:l.length<=4611686018427387904)(h0:st 0=s0)
  (hc:∀i x,At l i x->(Ev (λn=>step n (st i)) (.cont (st (i+1)))/\R i=R (i+1))\/Ev (λn=>step n (st i)) (.done (R i)))
  (hd:Ev (λn=>step n (st l.length)) (.done (R l.length))):Ev (λn=>Go.Sw.iter (step n) n s0) (R 0):=
 Qhr st l.length R h0 (λi hi=>hc i _ (JB hl (XL hi))) hd
end
section
variable {α β:Type} [DecidableEq α]
theorem Qmg(k:α):YD ([]:List (α×β)) k=none:=rfl
theorem YQ(p:α×β)(l:List (α×β))(k:α):YD (p::l) k=if p.1=k then some p.2 else YD l k:=by
 unfold YD;by_cases h:p.1=k<;>simp[List.find?_cons,h]
theorem QkN(p:α×β)(l:List (α×β))(k:α)(v:β):QO (p::l) k v=if p.1=k then(p.1,v)::l.map (λq=>bif decide (q.1=k)then(q.1,v)else q)else p::QO l k v:=by
 unfold QO;by_cases h:p.1=k
 .simp[h]
 .simp only[List.any_cons,h,decide_false,Bool.false_or,if_false,Vk,Vr];cases l.any λp=>decide (p.1=k)<;>simp
theorem Qmh(l:List (α×β))(k a:α)(v:β)(h:a≠k):YD (l.map λq=>bif decide (q.1=k)then(q.1,v)else q) a=YD l a:=by
 induction l with
 |nil=>rfl
 |cons p l b=>
  rw[Vk,YQ,YQ,b];by_cases e:p.1=k
  .have:¬k=a:=λq=>h q.symm;simp[e,this]
  .simp[e]
theorem YB(l:List (α×β))(k a:α)(v:β):YD (QO l k v) a=if a=k then some v else YD l a:=by
 induction l with
 |nil=>
  show YD ([]++[(k,v)]) a=_;rw[Vi,YQ];by_cases h:a=k
  .subst h;simp
  .rw[Vt λq=>h q.symm,Vt h]
 |cons p l b=>
  rw[QkN];by_cases e:p.1=k
  .rw[Vu e,YQ,YQ];by_cases h:a=k
   .subst h;simp[e]
   .have:p.1≠a:=λq=>h (q.symm.trans e);simp only[this,if_false,h];exact Qmh l k a v h
  .rw[Vt e,YQ,YQ,b];by_cases h:p.1=a
   .rw[Vu h,Vt λq=>e (h.trans q),Vu h]
   .rw[Vt h,Vt h]
theorem Qf1(k:α)(z:β):Qo ([]:List (α×β)) k z=z:=rfl
theorem Qcy(l:List (α×β))(k a:α)(v z:β):Qo (QO l k v) a z=if a=k then v else Qo l a z:=by
 unfold Qo;rw[YB];by_cases h:a=k<;>simp[h]
theorem Qdu(l:List (α×β))(k:α)(v:β):(QO l k v).map (·.1)=if k∈l.map (·.1)then l.map (·.1)else l.map (·.1)++[k]:=by
 unfold QO;have e:(l.any λp=>decide (p.1=k))=decide (k∈l.map (·.1)):=by
  rw[XZ];simp only[Xu,Vs,Xf]
 rw[e];by_cases h:k∈l.map (·.1)
 .rw[Vv h,Vu h,Vq,List.map_map];apply List.map_congr_left;intro p _;simp only[Function.comp];cases decide (p.1=k)<;>rfl
 .rw[Vy h,Vt h,Vr,Xg];rfl
def Q0{γ:Type}(key:γ->α)(v:β)(l:List γ):List (α×β):=l.foldl (λm x=>QO m (key x) v) []
theorem QcQ{γ:Type}(a:γ->α)(v:β)(l:List γ)(x:γ):Q0 a v (l++[x])=QO (Q0 a v l) (a x) v:=by
 unfold Q0;rw[XD];rfl
theorem Qar{γ:Type}(a:γ->α)(v z:β)(l:List γ)(k:α):Qo (Q0 a v l) k z=if k∈l.map a then v else z:=by
 have b:∀(l:List γ) (m:List (α×β)),Qo (l.foldl (λm x=>QO m (a x) v) m) k z=if k∈l.map a then v else Qo m k z:=by
  intro l
  induction l with
  |nil=>intro m;simp
  |cons x l d=>
   intro m;rw[XE,d,Qcy];by_cases h:k∈l.map a
   .rw[Vu h,Vu (by simp only[Vk];exact X6 _ h)]
   .rw[Vt h];by_cases e:k=a x
    .rw[Vu e,Vu (by simp[e])]
    .rw[Vt e,Vt (by simp only[Vk,X7,not_or];exact⟨e,h⟩)]
 exact b l []
theorem Qcl{γ:Type}(d:γ->α)(v:β)(l:List γ):(Q0 d v l).length<=l.length/\((Q0 d v l).length=l.length↔(l.map d).Nodup):=by
 have j:∀(l:List γ) (m:List (α×β)),(m.map (·.1)).Nodup->(l.foldl (λm x=>QO m (d x) v) m).length<=m.length+l.length/\((l.foldl (λm x=>QO m (d x) v) m).length=m.length+l.length↔(m.map (·.1)++l.map d).Nodup):=by
  intro l
  induction l with
  |nil=>intro m i;simpa using i
  |cons x l n=>
   intro m i;have g:=Qdu m (d x) v;have f:(QO m (d x) v).length=((QO m (d x) v).map (·.1)).length:=by simp
   by_cases h:d x∈m.map (·.1)
   .rw[Vu h]at g;obtain⟨s,k⟩:=n (QO m (d x) v) (by rw[g];exact i);have e:(QO m (d x) v).length=m.length:=by rw[f,g];simp
    rw[XE];refine⟨by simp only[X2];omega,⟨λq=>?_,λq=>?_⟩⟩
    .simp only[X2]at q;omega
    .exfalso;have:=(List.nodup_append.1 q).2.2 _ h (d x) (by simp);exact this rfl
   .rw[Vt h]at g;have r:((QO m (d x) v).map (·.1)).Nodup:=by
     rw[g];refine List.nodup_append.2 ⟨i,by simp,?_⟩;intro a t b p e;simp only[VC]at p;exact h (by rw[<- p, <- e];exact t)
    obtain⟨s,k⟩:=n (QO m (d x) v) r;have e:(QO m (d x) v).length=m.length+1:=by rw[f,g];simp
    rw[XE];refine⟨by simp only[X2];omega,?_⟩;rw[g]at k;rw[show m.length+(x::l).length=(QO m (d x) v).length+l.length by rw[e];simp;omega,k];simp[Vj]
 have:=j l [] (by simp);simpa[Q0]using this
end
theorem Je{α:Type}(l:List α)(p:α->Bool)(g:Nat->α->Option Bool)(hl:l.length<=4611686018427387904)(hg:∀x∈l,Ev (λn=>g n x) (p x)):
  Ev (λn=>((((Go.Sw.iter (λs:Int=>bif decide (s<(l.length:Int))then(idx l s).bind λx=>((g n x).bind λr1=>some (!r1)).bind λr=>(bif r then some (Ctl.done (Ctl.done s))else some (Ctl.cont (IntKind.i64.wrap (s+1))))else some (Ctl.done (Ctl.cont ()))) n (0:Int):Option (Ctl Unit Int)).bind λb=>
   match b with
   |.cont _=>some (-1)
   |.done s=>some s):Option Int).bind λr=>some (decide (0<=r)):Option Bool).bind λr=>some (!r)) (l.all p):=by
 refine Ev.bind (Ev.contains l (λx=> !p x) (λn x=>(g n x).bind λr1=>some (!r1)) hl λx a=>Ev.bind (hg x a) (Qa _)) ((Qa _).eq ?_);rw[List.not_any_eq_all_not];simp
def Qjv{α κ:Type}[DecidableEq κ](ok:α->Bool)(key:α->κ):List κ->List α->Bool
 |_,[]=>true
 |seen,x::r=>ok x&& !seen.contains (key x)&&Qjv ok key (seen++[key x]) r
theorem Qko{α κ:Type}[DecidableEq κ](ok:α->Bool)(f:α->κ):∀(l:List α) (d:List κ),d.Nodup->Qjv ok f d l=(l.all ok&&decide ((d++l.map f).Nodup))
 |[],d,h=>by simp[Qjv,h]
 |x::r,d,h=>by
  simp only[Qjv,List.all_cons,Vk];by_cases hk:f x∈d
  .have:¬(d++f x::r.map f).Nodup:=by
    intro q;exact(List.nodup_append.1 q).2.2 _ hk (f x) (by simp) rfl
   simp[hk,this]
  .have i:(d++[f x]).Nodup:=by
    refine List.nodup_append.2 ⟨h,by simp,?_⟩;intro a j b g e;simp only[VC]at g;exact hk (by rw[<- g, <- e];exact j)
   rw[Qko ok f r _ i];have:(d.contains (f x))=false:=by simpa using hk
   rw[this];simp[Bool.and_assoc]
theorem Ev.inner{α κ B:Type}[DecidableEq κ]{step:Nat->Int->Option (Ctl Int B)}(l:List α)(i:Nat)(a:α->κ)(k:κ)(r b:B)(hl:l.length<=4611686018427387904)(hi:i<=l.length)
  (w:∀j y,j<i->At l j y->decide (a y=k)=false->Ev (λn=>step n (j:Int)) (.cont ((j+1:Nat):Int)))
  (u:∀j y,j<i->At l j y->decide (a y=k)=true->Ev (λn=>step n (j:Int)) (.done r))
  (s:Ev (λn=>step n (i:Int)) (.done b)):Ev (λn=>Go.Sw.iter (step n) n 0) (bif ((l.take i).map a).contains k then r else b):=by
 have e:((l.take i).map a).contains k=(l.take i).any λy=>decide (a y=k):=by
  rw[XZ];simp only[List.contains_eq_mem,Vs,Xf,Xu]
 rw[e];have h:(l.take i).length=i:=by simp;omega
 have g:∀j y,At (l.take i) j y->j<i/\At l j y:=by
  intro j y f;have t:=f.lt';have d:=f.get;rw[List.getElem?_take]at d;split at d
  .exact⟨by omega,JB hl d⟩
  .cases d
 refine Qb2 (l.take i) (λy=>decide (a y=k)) (λi=>(i:Int)) _ _ (by omega) rfl (λj y f p=>?_) (λj y f p=>?_) ?_
 .obtain⟨q,m⟩:=g j y f;exact w j y q m p
 .obtain⟨q,m⟩:=g j y f;exact u j y q m p
 .rw[h];exact s
theorem QaG{α κ β:Type}[DecidableEq κ]{step:Nat->List (κ×β)×Int->Option (Ctl (List (κ×β)×Int) (List (κ×β)))}(l:List α)(key:α->κ)(v:β)(hl:l.length<=4611686018427387904)
  (hc:∀i x m,At l i x->Ev (λn=>step n (m,(i:Int))) (.cont (QO m (key x) v,((i+1:Nat):Int))))
  (hd:∀m,Ev (λn=>step n (m,(l.length:Int))) (.done m)):Ev (λn=>Go.Sw.iter (step n) n ([],0)) (Q0 key v l):=
 QL l (λm x=>QO m (key x) v) [] (λm i=>(m,(i:Int))) (λm=>m) hl rfl (λi x m ha _=>hc i x m ha) (hd _)
theorem Ev.shift{α:Type}{f:Nat->Option α}{v:α}(h:Ev f v):Ev (λn=>f (n+1)) v:=by
 obtain⟨N,h⟩:=h;exact⟨N,λn a=>h (n+1) (by omega)⟩
def EvI{S B:Type}(step:Nat->S->Option (Ctl S B))(s:S)(b:B):Prop:=∃N,∀n k,N<=n->N<=k->Go.Sw.iter (step n) k s=some b
section
variable {S B:Type} {step:Nat->S->Option (Ctl S B)} {s s':S} {b:B}
theorem EvI.done(h:Ev (λn=>step n s) (.done b)):EvI step s b:=by
 obtain⟨N,h⟩:=h;refine⟨N+1,λn k e d=>?_⟩;obtain⟨a,rfl⟩:∃a,k=a+1:=⟨k-1,by omega⟩;have:=h n (by omega);simp only[Go.Sw.iter,this]
theorem EvI.cont(h:Ev (λn=>step n s) (.cont s'))(q:EvI step s' b):EvI step s b:=by
 obtain⟨N,h⟩:=h;obtain⟨M,q⟩:=q;refine⟨max N M+1,λn k e d=>?_⟩;obtain⟨a,rfl⟩:∃a,k=a+1:=⟨k-1,by omega⟩;have:=h n (by omega);simp only[Go.Sw.iter,this];exact q n a (by omega) (by omega)
theorem EvI.ev(h:EvI step s b):Ev (λn=>Go.Sw.iter (step n) n s) b:=by
 obtain⟨N,h⟩:=h;exact⟨N,λn a=>h n n a a⟩
theorem EvI.eq{b':B}(h:EvI step s b)(e:b=b'):EvI step s b':=e▸h
end
theorem QJ{α:Type}{l r:List α}{i:Nat}{x:α}(hl:l.length<=4611686018427387904)(h:l.drop i=x::r):At l i x/\l.drop (i+1)=r:=by
 have a:l[i]?=some x:=by
  have:=congrArg (λl=>l[0]?) h;simpa using this
 refine⟨JB hl a,?_⟩;have:=(JB hl a).drop;rw[h]at this;exact(List.cons.inj this).2.symm
theorem YE{α:Type}{l:List α}{i:Nat}(h:l.drop i=[])(hi:i<=l.length):decide ((i:Int)<(l.length:Int))=false:=by
 have:=Xs.1 h;exact Vy (by omega)
end Go.Sw
namespace Go.Sw
theorem Z.{u}{α:Sort u}{a:α}:a=a:=rfl
section
variable {P:Program} {h0 N:Nat} {all:Array Oper} {env:Env} {H H':Qc} {Q:Qx} {l:List Oper} {o:Oper} {d:Nat}
theorem aV(x:A)(H:Qc){x':A}{H':Qc}(a:x'=x)(hH:H'=H)(k:WO P h0 N all l (up env d x) H Q):WO P h0 N all l (up env d x') H' Q:=by subst a;subst hH;exact k
theorem vX(x:A)(a:OpV P o env H x)(k:WO P h0 N all l (up env d x) H Q)(hg:Qn all o env true:=by exact rfl)(hd:o.dst=some d:=by exact rfl)(hN:Nat.blt d N=true:=by exact rfl):WO P h0 N all (o::l) env H Q:=
 QE hg hd hN a k
theorem Wp:WO P h0 N all [] env H (Y1 env H):=WO.nil Y1.mk
end
end Go.Sw
namespace Go.Sw
section
variable {P:Program} {o:Oper} {env:Env} {H:Qc}
theorem Qof{ro:Nat->Prop}{σ:Sig}{w:World}(g:GP w){b:Nat}{zs:List Int}(h:Qjg[b]?=some zs):∀(i:Nat),CR ro σ w b ((zs.drop i).map (A.int .i64)) i:=by
 intro i;generalize hl:zs.drop i=l
 induction l generalizing i with
 |nil=>trivial
 |cons z l d=>
  have e:zs[i]?=some z:=by
   have:=congrArg (·[0]?) hl;simpa using this
  have a:zs.drop (i+1)=l:=by
   rw[<- List.drop_drop,hl];rfl
  exact⟨⟨_,g.tab b zs h i z e,by simp[Qm],rfl⟩,d (i+1) a⟩
theorem Qgw{t n g:Nat}{zs:List Int}(f:∀w,(isAgg t).run P w=.ok true w)(i:∀w,(sizeOf t).run P w=.ok n w)(hg:Qjg[g]?=some zs)(hl:zs.length=n)(h:o.op=.load t (.global g):=by exact rfl):
  OpV P o env H (.agg (zs.map (A.int .i64))):=by
 intro k ro σ N a w r;obtain⟨l,j,_,d⟩:=YC (P:=P) (b:=g) (cs:=zs.map (A.int .i64)) (off:=0) 0 (by simpa using Qof (ro:=ro) (σ:=σ) r.sim.roOk.gp hg 0);have d:=d w #[] rfl;rw[X3,hl]at d;refine⟨.agg l.toArray,?_,l,rfl,j⟩;have e:a.eval (.global g)=.pointer (some ⟨g,0,none⟩):=rfl;generalize a.eval=ρ at*;simp[execOp,h,e,Instr.loadAt,Instr.sureAddr,loadVar,f,i,loadCells,d,go_sem]
end
end Go.Sw
namespace Go.Sw
open Go.Proofs
section
variable {P:Program}
def toV(agg:Bool)(l:List Value):Value:=bif agg then .agg l.toArray else l.headD .nilFunc
structure QlA (P:Program) (t:TypeId) (h k:Nat) (agg:Bool) (ok:List Value->Prop):Prop where
 len:∀l,ok l->l.length=k
 ia:∀w,(isAgg t).run P w=.ok agg w
 so:∀w,(sizeOf t).run P w=.ok k w
 eq:∀(w:World) (d:Nat) (l m:List Value),ok l->ok m->∃b:Bool,(Op.equalIn (d+h) t (toV agg l) (toV agg m)).run P w=.ok b w/\(b=true↔l=m)
structure Qnq (P:Program) (fs:List Field) (h off k:Nat) (ok:List Value->Prop):Prop where
 len:∀l,ok l->l.length=k
 eq:∀(w:World) (d:Nat) (p q l m:List Value),p.length=off->q.length=off->ok l->ok m->∃b:Bool,(Op.eqFields (d+h) (p++l).toArray (q++m).toArray fs).run P w=.ok b w/\(b=true↔l=m)
theorem QlA.int{t:TypeId}{k:IntKind}(e:P.underlying t=some (.int k))(a:∀w,(isAgg t).run P w=.ok false w)(b:∀w,(sizeOf t).run P w=.ok 1 w)(h:Nat):QlA P t (h+1) 1 false (λl=>∃n:Int,l=[.int k n]):=by
 refine⟨?_,a,b,?_⟩
 .rintro _ ⟨n,rfl⟩;rfl
 .rintro w d _ _ ⟨n,rfl⟩ ⟨m,rfl⟩;exact⟨_,run_equalIn_int w (d+h) t k k n m e,by simp⟩
theorem QlA.bool{t:TypeId}(e:P.underlying t=some .bool)(a:∀w,(isAgg t).run P w=.ok false w)(b:∀w,(sizeOf t).run P w=.ok 1 w)(h:Nat):QlA P t (h+1) 1 false (λl=>∃n:Bool,l=[.bool n]):=by
 refine⟨?_,a,b,?_⟩
 .rintro _ ⟨n,rfl⟩;rfl
 .rintro w d _ _ ⟨n,rfl⟩ ⟨m,rfl⟩;exact⟨_,run_equalIn_bool' w (d+h) t n m e,by simp⟩
theorem Qnq.nil(h off:Nat):Qnq P [] h off 0 (λl=>l=[]):=by
 refine⟨?_,?_⟩
 .rintro _ rfl;rfl
 .rintro w d p q _ _ _ _ rfl rfl;exact⟨true,by simp[Op.eqFields],by simp⟩
theorem QhM{t:TypeId}{k:Nat}{agg:Bool}{w:World}(b:∀w,(isAgg t).run P w=.ok agg w)(d:∀w,(sizeOf t).run P w=.ok k w)(p a f:List Value)(hl:a.length=k)(e:agg=false->k=1):
  (part t (p++(a++f)).toArray p.length).run P w=.ok (toV agg a) w:=by
 unfold part;cases agg with
 |true=>
  simp[b,d,go_sem,toV];rw[<- hl];simp[List.extract]
 |false=>
  have:=e rfl;subst this
  match a,hl with
  |[v],_=>simp[b,go_sem,toV]
theorem Qnq.cons{f:Field}{fs:List Field}{h off n H:Nat}{agg:Bool}{j i:List Value->Prop}(V:Nat.beq f.offset off=true)(T:f.name≠"_")(g:QlA P f.type h n agg j)(G:agg=false->n=1)(u:Qnq P fs h (off+n) H i):
  Qnq P (f::fs) h off (n+H) (λl=>∃l1 l2,l=l1++l2/\j l1/\i l2):=by
 have t:f.offset=off:=XR V;refine⟨?_,?_⟩
 .rintro _ ⟨l1,l2,rfl,a,b⟩;rw[X4,g.len _ a,u.len _ b]
 .rintro w d p q _ _ z x ⟨l1,l2,rfl,r,L⟩ ⟨k,s,rfl,m,N⟩;have y:=QhM (P:=P) (w:=w) g.ia g.so p l1 l2 (g.len _ r) G;have E:=QhM (P:=P) (w:=w) g.ia g.so q k s (g.len _ m) G;rw[z]at y;rw[x]at E;obtain⟨B,J,R⟩:=g.eq w d l1 k r m;obtain⟨Q,F,O⟩:=u.eq w d (p++l1) (q++k) l2 s (by rw[X4,z,g.len _ r]) (by rw[X4,x,g.len _ m]) L N;rw[Vj,Vj]at F;have M:l1.length=k.length:=by rw[g.len _ r,g.len _ m]
  refine⟨B&&Q,?_,?_⟩
  .generalize(p++(l1++l2)).toArray=X at*;generalize(q++(k++s)).toArray=Y at*;cases B<;>simp[Op.eqFields,T,t,Vn,Result.andThen,y,E,J,F]
  .rw[XX,R,O];constructor
   .rintro⟨rfl,rfl⟩;rfl
   .intro e;exact List.append_inj e M
theorem QlA.struct{t:TypeId}{h k:Nat}{ok:List Value->Prop}(g:P.underlying t=some (.struct (P.fieldsOf t)))(i:P.stoodInHeld t=false)(p:∀w,(isAgg t).run P w=.ok true w)(f:∀w,(sizeOf t).run P w=.ok k w)(e:Qnq P (P.fieldsOf t).toList h 0 k ok):QlA P t (h+1) k true ok:=by
 refine⟨e.len,p,f,λw d l m a b=>?_⟩;obtain⟨r,n,j⟩:=e.eq w d [] [] l m rfl rfl a b;refine⟨r,?_,j⟩;show(Op.equalIn (d+h+1) t (.agg l.toArray) (.agg m.toArray)).run P w=_;rw[run_equalIn_agg w (d+h) t _ _ g i];simpa using n
theorem QM{t:TypeId}{h k:Nat}{fs:Array Field}{ok:List Value->Prop}(a:P.underlying t=some (.struct fs))(g:P.stoodInHeld t=false)(f:∀w,(isAgg t).run P w=.ok true w)(b:∀w,(sizeOf t).run P w=.ok k w)(d:Qnq P fs.toList h 0 k ok):QlA P t (h+1) k true ok:=by
 have e:P.fieldsOf t=fs:=by simp[Program.fieldsOf,a]
 exact QlA.struct (by rw[e];exact a) g f b (by rw[e];exact d)
structure EqD (P:Program) (t:TypeId) {α:Type} (cells:α->List A):Prop where
 scl:∀x,QeE (cells x)=true
 inj:∀x y,YO (cells x)=YO (cells y)->x=y
 guard:P.eqGuardType P.depth t=false
 eq:∀(w:World) x y,∃b:Bool,(Op.equalIn 10000 t (.agg (YO (cells x)).toArray) (.agg (YO (cells y)).toArray)).run P w=.ok b w/\(b=true↔YO (cells x)=YO (cells y))
theorem QkA{α:Type}{cells:α->List A}{t h k:Nat}{ok:List Value->Prop}(E:QlA P t h k true ok)(b:Nat.ble h 10000=true)(a:∀x,ok (YO (cells x)))(d:∀x,QeE (cells x)=true)(hi:∀x y,YO (cells x)=YO (cells y)->x=y)(hg:P.eqGuardType P.depth t=false):EqD P t cells:=by
 refine⟨d,hi,hg,λw x y=>?_⟩;have:=E.eq w (10000-h) (YO (cells x)) (YO (cells y)) (a x) (a y)
 rwa [show 10000-h+h=10000 by have:=XS b;omega]at this
variable {o:Oper} {env:Env} {H:Qc}
theorem Qls{α:Type}[DecidableEq α]{cells:α->List A}{t u:TypeId}{x y:Operand}{p q:α}(E:EqD P t cells)(m:opA env x=.agg (cells p))(z:opA env y=.agg (cells q))(n:o.op=.binOp .eql t x y u:=by exact rfl):OpV P o env H (.bool (p==q)):=by
 intro F B σ N a w r;have h:=Qd r x;have g:=Qd r y;rw[m]at h;rw[z]at g;have s:=VR.val (a:=.agg (cells p)) (E.scl p) h;have j:=VR.val (a:=.agg (cells q)) (E.scl q) g;obtain⟨b,i,l⟩:=E.eq w p q;have k:b=(p==q):=by
  rw[XZ,l,Vz];exact⟨E.inj p q,λe=>by rw[e]⟩
 refine⟨.bool (p==q),?_,rfl⟩;rw[<- k];generalize a.eval=ρ at*;have d:ρ x=.agg (YO (cells p)).toArray:=s;have f:ρ y=.agg (YO (cells q)).toArray:=j;simp[execOp,n,d,f,go_sem,run_eqGuard_agg _ _ _ _ _ _ _ E.guard,run_eql_struct,i]
theorem Qlr{α:Type}[DecidableEq α]{cells:α->List A}{t u:TypeId}{x y:Operand}{p q:α}(E:EqD P t cells)(m:opA env x=.agg (cells p))(z:opA env y=.agg (cells q))(n:o.op=.binOp .neq t x y u:=by exact rfl):OpV P o env H (.bool (p != q)):=by
 intro F B σ N a w r;have h:=Qd r x;have g:=Qd r y;rw[m]at h;rw[z]at g;have s:=VR.val (a:=.agg (cells p)) (E.scl p) h;have j:=VR.val (a:=.agg (cells q)) (E.scl q) g;obtain⟨b,i,l⟩:=E.eq w p q;have k:b=(p==q):=by
  rw[XZ,l,Vz];exact⟨E.inj p q,λe=>by rw[e]⟩
 refine⟨.bool (p != q),?_,rfl⟩;rw[bne, <- k];generalize a.eval=ρ at*;have d:ρ x=.agg (YO (cells p)).toArray:=s;have f:ρ y=.agg (YO (cells q)).toArray:=j;simp[execOp,n,d,f,go_sem,run_eqGuard_agg _ _ _ _ _ _ _ E.guard,run_neq_struct,i]
end
end Go.Sw
namespace Go.Sw
structure Qfp (g g':Nat->Prop) (W W':World):Prop where
 sub:∀b,g b->g' b
 new:∀b,g' b->g b\/W.heap.size<=b
 lt:∀b,g' b->b<W'.heap.size
 all:∀b,W.heap.size<=b->b<W'.heap.size->g' b
 keep:∀b,b<W.heap.size->¬g b->W'.heap[b]?=W.heap[b]?
 size:W.heap.size<=W'.heap.size
 shape:∀b x,W.shape? b=some x->W'.shape? b=some x
 os:W'.os=W.os
 tape:W'.tape=W.tape
 output:W'.output=W.output
 drawn:W.drawn<=W'.drawn
abbrev Jv(T:Type):=List T->(Nat->Prop)->(Nat->Prop)->World->Prop
structure QoG {T:Type} (J:Jv T):Prop where
 ev:∀rem q g W W' ro',J rem q g W->Qe g q W ro' W'->J rem q g W'
 up:∀rem q g g' W,J rem q g W->(∀b,g b->g' b)->(∀b,g' b->b<W.heap.size)->J rem q g' W
theorem Sim.round{fr g g' ro:Nat->Prop}{σ:Sig}{H:Qc}{W W':World}(s:Sim fr ro σ H W)(a:∀b,g b->fr b)(k:Qfp g g' W W'):Sim (λb=>fr b\/g' b) ro σ H W'/\Qe (λb=>b<W.heap.size/\ ¬g b) ro W ro W':=by
 have e:∀b,ro b->W'.heap[b]?=W.heap[b]? :=λb q=>k.keep b (s.roLt b q) (λr=>s.roFr b q (a b r));have m:Ext ro σ W ro σ W':=by
  have ev:Qe (λ_=>False) ro W ro W':=⟨λ_ q=>q,e,λ_ q=>q.elim,k.size,k.shape,k.os,k.tape,k.output,k.drawn⟩;have:=ev.ext σ [];simpa using this
 refine⟨⟨s.len,s.roOk.to (λ_ q=>q) e (λb q=>Vg (s.roLt b q) k.size),λb q=>q.elim (λq=>Vg (s.frLt b q) k.size) (k.lt b),λb q r=>?_,λi b x h f B=>?_,s.inj,λi y x h f=>?_,
  s.hidTo (· = ·) QW k.size (λ_ _ _ _ _ _ _ q=>q) (λi b x c h f B F=>F.elim id λq=>(k.new c q).elim (a c) λl=>(by have:=(s.hid i b x c h f B).lt;omega)) λj d y p t G=>.inl ⟨j,y,rfl,p,t,id,λc q=>s.hidKeep p t (λz=>k.keep d (s.own j d y p t z).1 λr=>(s.own j d y p t z).2.2 (a d r)) e q⟩⟩,
  ⟨λ_ q=>q,e,λb q=>k.keep b q.1 q.2,k.size,k.shape,k.os,k.tape,k.output,k.drawn⟩⟩
 .rcases r with r|r
  .exact s.roFr b q r
  .rcases k.new b r with l|l
   .exact s.roFr b q (a b l)
   .have:=s.roLt b q;omega
 .obtain⟨w,E,n⟩:=s.own i b x h f B;refine⟨Vg w k.size,E,λr=>?_⟩;rcases r with r|r
  .exact n r
  .rcases k.new b r with l|l
   .exact n (a b l)
   .omega
 .refine(s.blk i y x h f).keep m ?_ ?_
  .rintro b rfl u;obtain⟨w,E,n⟩:=s.own i b x h f u;exact k.keep b w (λr=>n (a b r))
  .rintro b c rfl u;have q:=s.hid i b x c h f u;exact k.keep c q.lt (λr=>q.fr (a c r))
def QpA{T:Type}(J Jx:Jv T)(g ri:Nat->Prop)(W1:World)(rem:List T):Ending->World->Prop:=λe W'=>
 ∃g' q',(∀b,q' b->ri b)/\Qfp g g' W1 W'/\((e=.returned (.bool true)/\J rem q' g' W')\/(e=.returned (.bool false)/\Jx rem q' g' W'))
structure Ctx (T:Type) where
 l:Nat
 J:Jv T
 Jx:Jv T
 enc:T->List A
 nx:List T->T->List T->Prop
structure Ctx.ok {T:Type} (X:Ctx T) (P:Program):Prop where
 b:QoG X.J
 bx:QoG X.Jx
 round:∀l x rem q g ri W1 vs,X.nx l x rem->X.J l q g W1->(∀b,q b->ri b)->(∀b,ri b->b<W1.heap.size/\ ¬g b)->LR ri [] W1 (X.enc x) vs->YieldAt Fence.wide 0 P X.l vs.toArray W1 (QpA X.J X.Jx g ri W1 rem)
def QiB{T:Type}(P:Program)(f:FuncId)(caps:List A)(H:Qc)(enc:T->List A)(nx:List T->T->List T->Prop)(xs:List T):Prop:=
 ∀(X:Ctx T),X.enc=enc->X.nx=nx->X.ok P->∀fr ro σ w capv q,Sim fr ro σ H w->(∀b,q b->ro b)->LR ro σ w caps capv->X.J xs q fr w->
  Calls P f ((Value.func (.yield X.l) #[] #[]::capv)).toArray w λe W'=>(∃v,e=.returned v)/\ ∃g q',(∀b,fr b->g b)/\((X.J [] q' g W')\/(∃rem,X.Jx rem q' g W'))
inductive YSt (T:Type) where
 |on (rem:List T)
 |off (rem:List T)
def Ctx.J'{T:Type}(X:Ctx T):YSt T->(Nat->Prop)->(Nat->Prop)->World->Prop
 |.on rem=>X.J rem
 |.off rem=>X.Jx rem
def Ctx.at{T:Type}(X:Ctx T)(st:YSt T)(g ro:Nat->Prop)(W:World):Prop:=∃q,(∀b,q b->ro b)/\X.J' st q g W
theorem Qe.roMono{fr ro ro0 ro':Nat->Prop}{w w':World}(h:Qe fr ro w ro' w')(s:∀b,ro0 b->ro b):Qe fr ro0 w ro' w':=
 ⟨λb q=>h.sub b (s b q),λb q=>h.keepRo b (s b q),h.keepFr,h.size,h.shape,h.os,h.tape,h.output,h.drawn⟩
theorem Ctx.ok.ev{T:Type}{X:Ctx T}{P:Program}(h:X.ok P){st:YSt T}{g ro ro':Nat->Prop}{W W':World}(a:X.at st g ro W)(he:Qe g ro W ro' W'):X.at st g ro' W':=by
 obtain⟨q,d,a⟩:=a;refine⟨q,λb z=>he.sub b (d b z),?_⟩;cases st with
 |on rem=>exact h.b.ev rem q g W W' ro' a (he.roMono d)
 |off rem=>exact h.bx.ev rem q g W W' ro' a (he.roMono d)
theorem Ctx.ok.up{T:Type}{X:Ctx T}{P:Program}(h:X.ok P){st:YSt T}{g g' ro:Nat->Prop}{W:World}(a:X.at st g ro W)(hg:∀b,g b->g' b)(hl:∀b,g' b->b<W.heap.size):X.at st g' ro W:=by
 obtain⟨q,d,a⟩:=a;refine⟨q,d,?_⟩;cases st with
 |on rem=>exact h.b.up rem q g g' W a hg hl
 |off rem=>exact h.bx.up rem q g g' W a hg hl
abbrev Yy(T:Type):=AEx->Env->Qc->YSt T->Prop
structure In (g fr:Nat->Prop) (ds:List Deferred):Prop where
 sub:∀b,g b->fr b
 beside:∀D,({target:=.collected D,args:= #[]}:Deferred)∈ds->¬g D
def Qda{T:Type}(X:Ctx T)(h0:Nat)(fr ro:Nat->Prop)(σ:Sig)(w:World)(N:Nat)(ds:List Deferred)(Q:Yy T):Exit->Act->World->Prop:=
 λe a' w'=>∃x env' H' st ro' σ' fr' g',ExR e x/\Q x env' H' st/\Rel fr' ro' σ' H' env' N a' w'/\(X.at st g' ro' w'/\In g' fr' a'.defers)/\(∀b,ro b->ro' b)/\w.heap.size<=w'.heap.size/\σ'.take h0=σ.take h0/\Grow fr w ds fr' a'.defers
theorem Qda.grow{T:Type}{X:Ctx T}{h0:Nat}{fr d ro f:Nat->Prop}{σ σ1:Sig}{w k:World}{N:Nat}{m g:List Deferred}{Q:Yy T}{e:Exit}{a':Act}{w':World}
  (h:Qda X h0 d f σ1 k N g Q e a' w')(E:∀b,ro b->f b)(l:w.heap.size<=k.heap.size)(y:σ1.take h0=σ.take h0)(hg:Grow fr w m d g):Qda X h0 fr ro σ w N m Q e a' w':=by
 obtain⟨x,a,H',G,i,σ',j,z,F,p,r,t,B,u,s,n⟩:=h;exact⟨x,a,H',G,i,σ',j,z,F,p,r,t,λb q=>B b (E b q),XW l u,s.trans y,hg.trans l n⟩
def TCy{T:Type}(X:Ctx T)(P:Program)(h0 N:Nat)(c:Code)(env:Env)(H:Qc)(st:YSt T)(Q:Yy T):Prop:=
 X.ok P->∀rd fr ro σ a w g,Rel fr ro σ H env N a w->X.at st g ro w/\In g fr a.defers->rd=none->c.wpIn (WF rd) 0 P (Qda X h0 fr ro σ w N a.defers Q) a w
def WOy{T:Type}(X:Ctx T)(P:Program)(h0 N:Nat)(all:Array Oper)(l:List Oper)(env:Env)(H:Qc)(st:YSt T)(Q:Yy T):Prop:=
 X.ok P->∀rd fr ro σ a w g,Rel fr ro σ H env N a w->X.at st g ro w/\In g fr a.defers->rd=none->wpL P rd all (Qda X h0 fr ro σ w N a.defers Q) l a w
theorem In.later{fr a g:Nat->Prop}{w:World}{ds ds':List Deferred}(h:In g fr ds)(hl:∀b,fr b->b<w.heap.size)(hg:Grow fr w ds a ds'):In g a ds':=by
 refine⟨λb q=>hg.sub b (h.sub b q),λD hD q=>?_⟩;rcases hg.ds _ hD with r|⟨D',e,r⟩
 .exact h.beside D r q
 .have:D=D':=by simpa using e
  subst this;have:=hl D (h.sub D q);omega
section
variable {T:Type} {X:Ctx T} {P:Program} {h0 N:Nat} {c c':Code} {env:Env} {H:Qc} {st:YSt T} {Q:Yy T}
theorem Qlj{fr ro:Nat->Prop}{σ:Sig}{w:World}{k:List Deferred}{e:Exit}{a':Act}{w':World}(m:X.ok P)(h:QaR h0 fr ro σ w N k (λx env H=>Q x env H st) e a' w'){g:Nat->Prop}(hl:∀b,fr b->b<w.heap.size)(f:X.at st g ro w/\In g fr k):
  Qda X h0 fr ro σ w N k Q e a' w':=by
 obtain⟨x,a,H',d,σ',j,r,n,p,i,q,l⟩:=h;exact⟨x,a,H',st,d,σ',j,g,r,n,p,⟨m.ev f.1 (i.frMono f.2.sub),f.2.later hl l⟩,i.sub,i.size,q,l⟩
theorem TCy.lift(h:TC P h0 N c env H (λx env H=>Q x env H st)):TCy X P h0 N c env H st Q:=
 λhX rd fr ro σ a w g r hj hrd=>Code.wpIn_mono (λe a' w' q=>Qlj hX q r.sim.frLt hj) (h rd fr ro σ a w r (hrd▸Qeh.none))
def SeqY(X:Ctx T)(P:Program)(h0 N:Nat)(c:Code)(Q:Yy T):Yy T
 |.normal,env,H,st=>TCy X P h0 N c env H st Q
 |.exit id,env,H,st=>Q (.exit id) env H st
 |.ret,env,H,st=>Q .ret env H st
theorem TCy.seq(h:TCy X P h0 N c env H st (SeqY X P h0 N c' Q)):TCy X P h0 N (.seq c c') env H st Q:=by
 intro z y E B σ a w g r hj hrd;refine wpIn_seq (Code.wpIn_mono ?_ (h z y E B σ a w g r hj hrd));rintro e F G ⟨x,b,H',i,d,σ',f,m,j,s,t,k,u,l,n,p⟩;cases e with
 |normal=>
  obtain rfl:x=.normal:=j;exact Code.wpIn_mono (λe a w q=>q.grow u l n p) (s z y f d σ' F G m t k hrd)
 |exit id=>
  obtain rfl:x=.exit id:=j;exact⟨_,b,H',i,d,σ',f,m,rfl,s,t,k,u,l,n,p⟩
 |ret=>
  obtain rfl:x=.ret:=j;exact⟨_,b,H',i,d,σ',f,m,rfl,s,t,k,u,l,n,p⟩
 |_=>exact j.elim
theorem TCy.region{id:Nat}{l:List Oper}(h:WOy X P h0 N l.toArray l env H st Q):TCy X P h0 N (.region id l.toArray false) env H st Q:=
 λhX rd fr ro σ a w g r hj hrd=>wpIn_region_lit (h hX rd fr ro σ a w g r hj hrd)
theorem TCy.cond{x:Operand}{t:Bool}(l:opA env x=.bool t)(j:t=true->TCy X P h0 N c env H st Q)(k:t=false->TCy X P h0 N c' env H st Q):TCy X P h0 N (.cond x c c') env H st Q:=by
 intro b i f d σ a w g r hj hrd;have h:=Qd r x;rw[l]at h;exact wpIn_cond_split h (λe=>j e b i f d σ a w g r hj hrd) (λe=>k e b i f d σ a w g r hj hrd)
theorem WOy.nil{all:Array Oper}(h:Q .normal env H st):WOy X P h0 N all [] env H st Q:=
 λhX rd fr ro σ a w g r hj hrd=>⟨_,env,H,st,ro,σ,fr,g,rfl,h,r,hj,λ_ q=>q,XU _,rfl,Grow.refl _ _ _⟩
end
theorem QiT{P:Program}{rd:Option Nat}{o:Oper}{a:Act}{K K':Act->World->Prop}{Q Q':Exit->Act->World->Prop}(b:∀a w,K a w->K' a w)(i:∀ch a w,Q (.panic ch) a w->Q' (.panic ch) a w)(j:∀a w,Q .outgrown a w->Q' .outgrown a w)
  {r:Result Next}(h:o.uponIn (WF rd) 0 P a K Q r):o.uponIn (WF rd) 0 P a K' Q' r:=by
 cases r with
 |ok x w=>
  cases x with
  |value v=>exact b _ _ h
  |skip=>exact b _ _ h
  |defer d=>exact b _ _ h
  |enter f g=>
   refine⟨h.1,CallsIn.mono h.2 ?_⟩;intro e m q;cases e with
   |returned v=>exact b _ _ q
   |panicked c=>exact i _ _ _ q
   |outgrown=>obtain⟨a,w,q⟩:=q;exact⟨a,w,j _ _ q⟩
  |row r g=>exact⟨h.1,RowsIn.mono h.2 λv m q=>b _ _ q⟩
  |round l f k assign n=>
   refine⟨h.1,RoundIn.mono h.2 ?_⟩;intro e m q;cases e with
   |returned v=>exact b _ _ q
   |panicked c=>exact i _ _ _ q
   |outgrown=>obtain⟨a,w,q⟩:=q;exact⟨a,w,j _ _ q⟩
  |_=>exact h
 |halt x w=>
  cases x with
  |panic v=>exact i _ _ _ h
  |_=>exact h
section
variable {T:Type} {X:Ctx T} {P:Program} {h0 N:Nat} {env:Env} {H:Qc} {st:YSt T} {Q:Yy T}
theorem WOy.step{all:Array Oper}{o:Oper}{rest:List Oper}(h:WO P h0 N all [o] env H (λx env' H'=>x=.normal/\WOy X P h0 N all rest env' H' st Q)):WOy X P h0 N all (o::rest) env H st Q:=by
 intro E s p n σ a w g r hj hrd;have B:∀f j,Qb1 h0 p n σ w N a.defers (λx env' H'=>x=.normal/\WOy X P h0 N all rest env' H' st Q) .normal f j->wpL P s all (Qda X h0 p n σ w N a.defers Q) rest f j:=by
  rintro f j ⟨x,env',H',d,σ',i,M,⟨_,F⟩,G,m,J,y,z⟩;have u:X.at st g d j/\In g i f.defers:=⟨E.ev hj.1 (m.frMono hj.2.sub),by rw[y];exact hj.2.later r.sim.frLt z⟩;have:=F E s i d σ' f j g G u hrd;refine Ye (λe l k q=>?_) _ _ _ this;exact q.grow m.sub m.size J (by rw[y];exact z)
 have b:=h s p n σ a w r (hrd▸Qeh.none);unfold wpL wpListIn at b⊢;split
 .rename_i t;rw[Vu t]at b;refine⟨b.1,QiT (λl k q=>?_) (λL l k q=>?_) (λl k q=>?_) b.2⟩
  .unfold wpListIn at q;exact B l k q
  .obtain⟨x,_,_,_,_,_,q,_⟩:=q;exact q.elim
  .obtain⟨x,_,_,_,_,_,q,_⟩:=q;exact q.elim
 .rename_i t;rw[Vt t]at b;refine⟨b.1,?_⟩;have q:=b.2;unfold wpListIn at q;exact B _ _ q
theorem WOy.yield{all:Array Oper}{o:Oper}{rest:List Oper}{d:Nat}{x:T}{R rem:List T}(J:X.nx R x rem)(hg:Qn all o env true)(B:o.dst=some d)(hN:Nat.blt d N=true)
  (L:∀fr ro σ a w,Rel fr ro σ H env N a w->∃vs:List Value,LR ro [] w (X.enc x) vs/\(execOp a.eval o).run P w=(Instr.yield X.l vs.toArray).run P w)
  (k:∀b:Bool,WOy X P h0 N all rest (up env d (.bool b)) H (bif b then .on rem else .off rem) Q):WOy X P h0 N all (o::rest) env H (.on R) Q:=by
 intro W M fr ro σ a w g r hj hrd;obtain⟨vs,hv,Y⟩:=L fr ro σ a w r;obtain⟨q,hq,G⟩:=hj.1;obtain⟨fn,tmps,assign,V,h1,h2⟩:=W.round R x rem q g ro w vs J G hq (λb z=>⟨r.sim.roLt b z,λy=>r.sim.roFr b z (hj.2.sub b y)⟩) hv;have h3:=Y.trans h1;unfold wpL wpListIn;rw[Vu (YA hg r)];refine⟨λ_ _=>trivial,?_⟩;rw[QcJ h3 (λd e=>by cases e)];refine⟨λh=>by simp[WF,Fence.wide]at h,?_⟩;refine RoundIn.mono (F:=WF M) (n:=0) h2 ?_;rintro e j ⟨i,m,p,u,f⟩;obtain⟨s',ev⟩:=r.sim.round hj.2.sub u;have O:d<N:=by simpa using hN
 have t:Ext ro σ w ro σ j:=by have:=ev.ext σ [];simpa using this
 have fin:∀b:Bool,X.at (bif b then .on rem else .off rem) i ro j->wpL P M all (Qda X h0 fr ro σ w N a.defers Q) rest (a.put o.dst (.bool b)) j:=by
  intro b f;have hm:Qdd (λb=>fr b\/i b) a.defers j:=by
   refine⟨r.defers.1,λd B=>?_⟩;obtain⟨D,rfl,E,q2⟩:=r.defers.2 d B;exact⟨D,rfl,.inl E,(u.keep D (r.sim.frLt D E) (hj.2.beside D B)).trans q2⟩
  have hi:In i (λb=>fr b\/i b) a.defers:=by
   refine⟨λb q=>.inr q,λD hD q=>?_⟩;rcases u.new D q with m|m
   .exact hj.2.beside D hD m
   .obtain⟨D',e,E,_⟩:=r.defers.2 _ hD;have:D=D':=by simpa using e
    subst this;have:=r.sim.frLt D E;omega
  have r':Rel (λb=>fr b\/i b) ro σ H (up env d (.bool b)) N {a with tmps:=a.tmps.setIfInBounds d (.bool b)} j:=
   ⟨s',VR.up (fr:=fr) (λs=>(r.env s).mono t) (by rw[r.size];exact O) rfl,by simpa using r.size,hm⟩
  have:=k b W M _ ro σ _ j i r' ⟨f,hi⟩ hrd;simp only[B,Act.put];refine Ye (λe a2 w2 q=>q.grow (λ_ q=>q) u.size rfl ⟨λ_ q=>.inl q,λb q=>?_,λ_ q=>.inl q⟩) _ _ _ this;rcases q with q|q
  .exact .inl q
  .rcases u.new b q with q|q
   .exact .inl (hj.2.sub b q)
   .exact .inr q
 rcases f with⟨rfl,f⟩|⟨rfl,f⟩
 .exact fin true ⟨m,p,f⟩
 .exact fin false ⟨m,p,f⟩
end
def EndY{T:Type}:Yy T:=λx env H st=>(x=.normal\/x=.ret)/\(st=.on []\/ ∃rem,st=.off rem)
theorem Qc6{T:Type}{P:Program}{f:FuncId}{fn:Func}{c:Code}{N:Nat}{a:List A}{H:Qc}{enc:T->List A}{nx:List T->T->List T->Prop}{xs:List T}
  (hf:P.funcs[f]?=some fn)(hb:fn.body=some c)(hN:fn.ntmps=N)(W:Nat.ble (a.length+1) N=true)(hR:fn.results= #[])
  (h:∀X:Ctx T,X.enc=enc->X.nx=nx->TCy X P H.length N c (Qgm 0 (.fn (.yield X.l) [] []::a)) H (.on xs) EndY):QiB P f a H enc nx xs:=by
 intro X hE hNx hX fr ro0 σ w capv q0 hs hq0 hl hj;have p:LR ro0 σ w (.fn (.yield X.l) [] []::a) (Value.func (.yield X.l) #[] #[]::capv):=⟨_,_,rfl,⟨[],[],rfl,rfl,rfl⟩,hl⟩;have m:=p.length;have aa:a.length+1<=N:=by simpa using W
 refine(callsIn_wide (n:=0)).1 (callsIn_of_wp_marks hf hb trivial (Code.wpIn_mono ?_ (h X hE hNx hX none fr ro0 σ _ w fr ⟨hs,?_,?_,List.nodup_nil,λd u=>by cases u⟩ ⟨⟨q0,hq0,hj⟩,λ_ q=>q,λD hD=>by cases hD⟩ rfl)))
 .rintro e L V ⟨x,Q,H1,st,G,σ1,Y,O,R,⟨h2,z⟩,j,⟨h4,k⟩,h5,h6,h7,h8⟩;have r:LeavesInM Fence.wide 0 P fn L.tmps (λe W'=>(∃v,e=.returned v)/\ ∃g q',(∀b,fr b->g b)/\((X.J [] q' g W')\/(∃rem,X.Jx rem q' g W'))) L.defers .returning V:=by
   refine Qbt (ro:=G) (fr:=O) (σ:=σ1) (H:=H1) L.defers V j.defers.1 (λd u=>?_) (j.sim.frMono k.sub) (λw2 s2 t=>?_)
   .obtain⟨D,rfl,E,q2⟩:=j.defers.2 d u;exact⟨D,rfl,λq=>j.sim.roFr D q E,k.beside D u,λi x M F B=>(j.sim.own i D x M F B).2.2 E,λi d x M F B=>(j.sim.hid i d x D M F B).fr E,q2⟩
   .have y:=hX.up (hX.ev h4 t) (g':=λb=>O b\/fr b) (λb q=>.inl q) (λb q=>Vg (j.sim.frLt b (q.elim (k.sub b) (h8.sub b))) t.size);obtain⟨q9,_,y⟩:=y;refine⟨.tuple #[],by simp[results,hR,go_sem],⟨_,rfl⟩,λb=>O b\/fr b,q9,λb q=>.inr q,?_⟩;rcases z with rfl|⟨rem,rfl⟩
    .exact .inl y
    .exact .inr ⟨rem,y⟩
  cases e with
  |normal=>exact r
  |ret=>exact r
  |exit id=>
   obtain rfl:x=.exit id:=R;rcases h2 with q|q<;>cases q
  |_=>exact R.elim
 .intro s;have:=QeT (i:=0) [] rfl p (Array.replicate (fn.ntmps-(Value.func (.yield X.l) #[] #[]::capv).toArray.size) undef) s;simpa using this
 .simp only[X2]at m;simp[hN];omega
section
variable {T:Type} {X:Ctx T} {P:Program} {h0 N:Nat} {c c':Code} {env:Env} {H:Qc} {st:YSt T} {Q Q':Yy T}
theorem TCy.mono(h:TCy X P h0 N c env H st Q)(m:∀x env H st,Q x env H st->Q' x env H st):TCy X P h0 N c env H st Q':=by
 intro j t p n σ a w g r hj hrd;refine Code.wpIn_mono ?_ (h j t p n σ a w g r hj hrd);rintro e u y ⟨x,b,H',d,f,σ',i,q,s,k,l⟩;exact⟨x,b,H',d,f,σ',i,q,s,m _ _ _ _ k,l⟩
theorem TCy.skip(h:Q .normal env H st):TCy X P h0 N .skip env H st Q:=TCy.lift (TC.skip h)
theorem TCy.ret(h:Q .ret env H st):TCy X P h0 N .ret env H st Q:=TCy.lift (TC.ret h)
theorem TCy.exit{id:Nat}(h:Q (.exit id) env H st):TCy X P h0 N (.exit id) env H st Q:=TCy.lift (TC.exit h)
def BloY(id:Nat)(Q:Yy T):Yy T
 |.normal,env,H,st=>Q .normal env H st
 |.exit id',env,H,st=>bif Nat.beq id' id then Q .normal env H st else Q (.exit id') env H st
 |.ret,env,H,st=>Q .ret env H st
theorem TCy.block{id:Nat}(h:TCy X P h0 N c env H st (BloY id Q)):TCy X P h0 N (.block id c) env H st Q:=by
 intro p y u t σ a w g r hj hrd;refine wpIn_block (Code.wpIn_mono ?_ (h p y u t σ a w g r hj hrd));rintro e z B ⟨x,b,H',f,i,σ',j,m,n,k,l⟩;cases e with
 |normal=>
  obtain rfl:x=.normal:=n;exact⟨_,b,H',f,i,σ',j,m,rfl,k,l⟩
 |exit d=>
  obtain rfl:x=.exit d:=n;show Exit.inBlock id _ _ _ _;unfold Exit.inBlock;simp only[BloY]at k;by_cases q:d=id
  .subst q;rw[VG,Vq]at k;simp only[if_true];exact⟨.normal,b,H',f,i,σ',j,m,rfl,k,l⟩
  .have s:Nat.beq d id=false:=by
    cases e:Nat.beq d id with
    |false=>rfl
    |true=>exact absurd (XR e) q
   rw[s,Vr]at k;simp only[q,if_false];exact⟨.exit d,b,H',f,i,σ',j,m,rfl,k,l⟩
 |ret=>
  obtain rfl:x=.ret:=n;exact⟨_,b,H',f,i,σ',j,m,rfl,k,l⟩
 |_=>exact n.elim
end
section
variable {T:Type} {X:Ctx T} {P:Program} {h0 N:Nat} {c:Code} {env:Env} {H:Qc} {st:YSt T} {Q:Yy T}
def Qlw(I:Env->Qc->YSt T->Prop)(Q:Yy T):Yy T
 |.normal,env,H,st=>I env H st
 |.exit id,env,H,st=>Q (.exit id) env H st
 |.ret,env,H,st=>Q .ret env H st
theorem Qgv{I:Nat->Env->Qc->YSt T->Prop}(body:∀n env H st,I n env H st->TCy X P h0 N c env H st (Qlw (λenv H st=>∃n',n'<n/\I n' env H st) Q)){n:Nat}(F:I n env H st):TCy X P h0 N (.loop c) env H st Q:=by
 intro hX Y B z σ a w g r hj hrd b k cs hro hb hr;have J:∀m n env H st fr1 ro1 σ1 a1 w1 g1,n<m->I n env H st->Rel fr1 ro1 σ1 H env N a1 w1->(∀b,z b->ro1 b)->w.heap.size<=w1.heap.size->σ1.take h0=σ.take h0->Grow B w a.defers fr1 a1.defers->X.at st g1 ro1 w1/\In g1 fr1 a1.defers->
   ∃e h i,Qda X h0 B z σ w N a.defers Q e h i/\ArrivesIn (Machine.fenced P (WF Y)) P (lone (b.atR a1 (.code c::.inLoop c::k)) cs w1) b k cs e h i:=by
  intro m
  induction m with
  |zero=>intro n env H st fr1 ro1 σ1 a1 w1 g1 hn;exact absurd hn (Xn _)
  |succ m ih=>
   intro n env H st fr1 ro1 σ1 a1 w1 g1 hn F r1 s1 z1 t1 gr1 j1;obtain⟨e,h,i,G,d⟩:=body n env H st F hX Y fr1 ro1 σ1 a1 w1 g1 r1 j1 hrd b (.inLoop c::k) cs hro hb hr;obtain⟨x,f,H',j,p,σ',u,R,y,t,L,M,q5,O,q7,q8⟩:=G;have V:=λb q=>q5 b (s1 b q);have s:=gr1.trans z1 q8;have W:∀x,Q x f H' j->ExR e x->Qda X h0 B z σ w N a.defers Q e h i:=λx q q'=>⟨x,f,H',j,p,σ',u,R,q',q,L,M,V,XW z1 O,q7.trans t1,s⟩;cases e with
   |normal=>
    obtain rfl:x=.normal:=y;obtain⟨n',aa,t⟩:=t;obtain⟨e2,a2,w2,E,l⟩:=ih n' f H' j u p σ' h i R (by omega) t L V (XW z1 O) (q7.trans t1) s M;exact⟨e2,a2,w2,E,.of_steps (StepsIn.trans d (.one (fenced_calm hb hr rfl) stepR_inLoop)) l⟩
   |exit id=>
    obtain rfl:x=.exit id:=y;exact⟨_,h,i,W _ t rfl,.pass (x:=.inLoop c) rfl (λ_ _=>.inl (by simp)) d⟩
   |ret=>
    obtain rfl:x=.ret:=y;exact⟨_,h,i,W _ t rfl,.pass (x:=.inLoop c) rfl (λ_ _=>.inl (by simp)) d⟩
   |_=>exact y.elim
 obtain⟨e,h,i,G,d⟩:=J (n+1) n env H st B z σ a w g (Xo _) F r (λ_ q=>q) (XU _) rfl (Grow.refl _ _ _) hj;exact⟨e,h,i,G,.of_steps (.one (fenced_calm hb hr rfl) stepR_loop) d⟩
end
end Go.Sw
namespace Go.Sw
theorem Sim.part{fr ro:Nat->Prop}{σ:Sig}{H:Qc}{w:World}(s0:Sim fr ro σ H w){π:List Nat}{Hc:Qc}(hH:π.map (λp=>H[p]?)=(Hc.map (QV (rho π H.length))).map some)(hπ:π.Nodup):
  Sim (λb=>fr b\/(∃i x,σ[i]?=some (some b)/\H[i]?=some x/\x.live=true/\i∉π)\/ ∃i x d,σ[i]?=some (some d)/\H[i]?=some x/\Hid w x d b/\i∉π) ro (Yb σ π) Hc w/\ ∀j:Nat,σ[rho π H.length j]?=(Yb σ π)[j]? :=by
 have hp:∀p∈π,p<H.length:=λp q=>Jc hH q;have hσl:=s0.len;have n:∀(j p:Nat),π[j]?=some p->H[p]?=(Hc[j]?).map (QV (rho π H.length)):=by
  intro j p a;have:=congrArg (λl=>l[j]?) hH;simp only[Xq,a,Xk]at this;cases e:Hc[j]? with
  |none=>rw[e]at this;simp at this
  |some x=>rw[e]at this;simpa using this
 have O:π.length=Hc.length:=by simpa using congrArg List.length hH
 have hσc:∀j:Nat,σ[rho π H.length j]?=(Yb σ π)[j]? :=by
  intro j;have:=Qej (τ:=[]) hσl hp j;simpa using this
 have hπj:∀(j b:Nat),(Yb σ π)[j]?=some (some b)->∃p,π[j]?=some p/\σ[p]?=some (some b):=by
  intro j b a;simp only[Yb,Xq]at a;cases e:π[j]? with
  |none=>rw[e]at a;simp at a
  |some p=>
   rw[e]at a;simp at a;refine⟨p,rfl,?_⟩;cases r:σ[p]? with
   |none=>rw[r]at a;simp at a
   |some s=>rw[r]at a;simp at a;rw[a]
 refine⟨?_,hσc⟩
 .refine⟨by simp[Yb,O],s0.roOk,?_,?_,?_,?_,?_,?_⟩
  .rintro b (M|⟨i,x,f,m,h,N⟩|⟨i,x,d,f,m,h,N⟩)
   .exact s0.frLt b M
   .exact(s0.own i b x f m h).1
   .exact(s0.hid i d x b f m h).lt
  .rintro b M (L|⟨i,x,f,m,h,N⟩|⟨i,x,d,f,m,h,N⟩)
   .exact s0.roFr b M L
   .exact(s0.own i b x f m h).2.1 M
   .exact(s0.hid i d x b f m h).ro M
  .intro j b x f m h;obtain⟨p,g,r⟩:=hπj j b f;have E:H[p]?=some (QV (rho π H.length) x):=by rw[n j p g,m];rfl
   obtain⟨o1,o2,o3⟩:=s0.own p b _ r E (by rw[QG];exact h);refine⟨o1,o2,?_⟩;rintro(L|⟨i,y,y1,y2,F,P⟩|⟨i,y,d,y1,y2,F,P⟩)
   .exact o3 L
   .have:=s0.inj i p b _ _ y1 r y2 E F (by rw[QG];exact h);subst this;exact P (VI g)
   .exact(s0.hid i d y b y1 y2 F).ne p b _ r E (by rw[QG];exact h) rfl
  .intro i j b x y f m h N q5 q6;obtain⟨p,g,r⟩:=hπj i b f;obtain⟨t,u,X⟩:=hπj j b m;have E:H[p]?=some (QV (rho π H.length) x):=by rw[n i p g,h];rfl
   have Y:H[t]?=some (QV (rho π H.length) y):=by rw[n j t u,N];rfl
   have:=s0.inj p t b _ _ r X E Y (by rw[QG];exact q5) (by rw[QG];exact q6);subst this;have G:i<π.length:=by
    rcases VD i π.length with q|q
    .exact q
    .rw[XP q]at g;simp at g
   have a:j<π.length:=by
    rcases VD j π.length with q|q
    .exact q
    .rw[XP q]at u;simp at u
   rw[XL G]at g;rw[XL a]at u;have z:=(X0 g).trans (X0 u).symm;rcases Nat.lt_trichotomy i j with q|q|q
   .exact(VF.1 hπ i j G a q z).elim
   .exact q
   .exact(VF.1 hπ j i a G q z.symm).elim
  .intro j s x f m;have a:j<π.length:=by
    rcases VD j π.length with q|q
    .exact q
    .rw[XP (by simpa[Yb]using q)]at f;simp at f
   have g:π[j]?=some π[j]:=XL a;have E:H[π[j]]?=some (QV (rho π H.length) x):=by rw[n j _ g,m];rfl
   have r:σ[π[j]]?=some s:=by
    have:=hσc j;rw[f]at this;simpa[rho,g]using this
   exact(Qhv hσc).1 (s0.blk _ s _ r E)
  .intro j b x c f m h;obtain⟨p,g,r⟩:=hπj j b f;have E:H[p]?=some (QV (rho π H.length) x):=by rw[n j p g,m];rfl
   have k:=s0.hid p b _ c r E ((Qaq _ _ _ _ _).2 h);refine⟨k.lt,k.ro,?_,?_,?_⟩
   .rintro(L|⟨i,y,y1,y2,F,P⟩|⟨i,y,d,y1,y2,F,P⟩)
    .exact k.fr L
    .exact k.ne i c y y1 y2 F rfl
    .obtain⟨rfl,rfl⟩:=k.one i d y y1 y2 F;exact P (VI g)
   .intro B Q y R V T;obtain⟨t,J,W⟩:=hπj B Q R;exact k.ne t Q _ W (show H[t]?=some (QV (rho π H.length) y)by rw[n B t J,V];rfl) (by rw[QG];exact T)
   .intro B Q y R V T;obtain⟨t,J,W⟩:=hπj B Q R;obtain⟨z4,z5⟩:=k.one t Q _ W (show H[t]?=some (QV (rho π H.length) y)by rw[n B t J,V];rfl) ((Qaq _ _ _ _ _).2 T);subst z5;have G:B<π.length:=(XM.1 J).1;have a:j<π.length:=(XM.1 g).1;rw[XL G]at J;rw[XL a]at g;have z:=(X0 J).trans (X0 g).symm;refine⟨z4,?_⟩;rcases Nat.lt_trichotomy B j with q|q|q
    .exact(VF.1 hπ B j G a q z).elim
    .exact q
    .exact(VF.1 hπ j B a G q z.symm).elim
theorem Sim.frames{fr fr' ro:Nat->Prop}{σ:Sig}{H:Qc}{w:World}(s:Sim fr ro σ H w)(lt:∀b,fr' b->b<w.heap.size)(hro:∀b,ro b->¬fr' b)(own:∀(i b:Nat) (x:Blk),σ[i]?=some (some b)->H[i]?=some x->x.live=true->¬fr' b)
  (hd:∀(i b:Nat) (x:Blk) (c:Nat),σ[i]?=some (some b)->H[i]?=some x->Hid w x b c->¬fr' c):Sim fr' ro σ H w:=
 ⟨s.len,s.roOk,lt,hro,λi b x q1 q2 q3=>⟨(s.own i b x q1 q2 q3).1,(s.own i b x q1 q2 q3).2.1,own i b x q1 q2 q3⟩,s.inj,s.blk,
  s.hidTo (· = ·) QW (XU _) (λ_ _ _ _ _ _ _ q=>q) (λi b x c q1 q2 q3 q4=>(hd i b x c q1 q2 q3 q4).elim) λj d y g1 g2 g3=>.inl ⟨j,y,rfl,g1,g2,id,λ_ q=>q⟩⟩
def Qj8(H:Qc)(p:Nat):Qc:=match H[p]? with
 |some x=>bif x.holds then H.set p .dead else H
 |none=>H
def QdX:Qc->List Nat->Qc
 |H,[]=>H
 |H,p::π=>QdX (Qj8 H p) π
theorem QdY(H:Qc)(p:Nat):(Qj8 H p=H/\ ∀x,H[p]?=some x->x.holds=false)\/Qj8 H p=H.set p .dead:=by
 unfold Qj8;cases h:H[p]? with
 |none=>exact .inl ⟨rfl,λx q=>by cases q⟩
 |some x=>
  cases q:x.holds with
  |false=>exact .inl ⟨by simp[q],λy a=>by cases a;exact q⟩
  |true=>exact .inr (by simp[q])
theorem QeU:∀(π:List Nat) (H:Qc) (i:Nat) (x:Blk),(QdX H π)[i]?=some x->x=.dead\/(H[i]?=some x/\(x.holds=true->i∉π))
 |[],H,i,x,h=>.inr ⟨h,λ_=>by simp⟩
 |p::π,H,i,x,h=>by
  rcases QeU π _ i x h with h|⟨h1,h2⟩
  .exact .inl h
  .rcases QdY H p with⟨e,hl⟩|e
   .rw[e]at h1;refine .inr ⟨h1,λhx=>?_⟩;simp only[X7,not_or];refine⟨λq=>?_,h2 hx⟩;subst q;have:=hl x h1;rw[this]at hx;cases hx
   .rw[e]at h1;by_cases q:p=i
    .subst q;rw[Xb]at h1;simp at h1;exact .inl h1.2.symm
    .rw[XQ q]at h1;exact .inr ⟨h1,λhx=>by simp only[X7,not_or];exact⟨λr=>q r.symm,h2 hx⟩⟩
theorem QdH{fr ro:Nat->Prop}{σ:Sig}{w:World}:∀(π:List Nat) {H:Qc} (s:Sim fr ro σ H w),Sim fr ro σ (QdX H π) w
 |[],_,s=>s
 |p::π,H,s=>by
  rw[QdX];rcases QdY H p with h|h
  .rw[h.1];exact QdH π s
  .rw[h];exact QdH π (s.kill p)
theorem Sim.put{fr ro:Nat->Prop}{σ:Sig}{H:Qc}{w:World}(s:Sim fr ro σ H w){b:Nat}{obj:Obj}(l:fr b)(t:w.shape? b=none):
  Sim fr ro σ H (w.putObj b obj)/\Qe (λc=>c≠b) ro w ro (w.putObj b obj):=by
 have a:∀c,c≠b->(w.putObj b obj).heap[c]?=w.heap[c]? :=λc G=>World.putObj_heap_other G;have f:(w.putObj b obj).heap.size=w.heap.size:=by simp
 have r:∀c,ro c->c≠b:=λc q e=>s.roFr c q (e▸l);have ev:Qe (λc=>c≠b) ro w ro (w.putObj b obj):=by
  refine⟨λ_ q=>q,λc q=>a c (r c q),λc q=>a c q,by rw[f];exact XU _,λc x q=>?_,rfl,rfl,rfl,XU _⟩;by_cases e:c=b
  .subst e;rw[t]at q;cases q
  .unfold World.shape? at q⊢;rw[a c e];exact q
 have h:Ext ro σ w ro σ (w.putObj b obj):=by have:=ev.ext σ [];simpa using this
 refine⟨⟨s.len,s.roOk.to (λ_ q=>q) ev.keepRo (λc q=>by rw[f];exact s.roLt c q),λc q=>by rw[f];exact s.frLt c q,s.roFr,λi c x k g E=>?_,s.inj,λi y x k g=>?_,
  s.hidTo (· = ·) QW (by rw[f];exact XU _) (λ_ _ _ _ _ _ _ q=>q) (λ_ _ _ _ _ _ _ q=>q) λj d y n p J=>.inl ⟨j,y,rfl,n,p,id,λc q=>s.hidKeep n p (λz=>a d (λe=>(s.own j d y n p z).2.2 (e▸l))) ev.keepRo q⟩⟩,ev⟩
 .obtain⟨u,B,F⟩:=s.own i c x k g E;exact⟨by rw[f];exact u,B,F⟩
 .refine(s.blk i y x k g).keep h ?_ ?_
  .rintro c rfl m;exact a c (λe=>(s.own i c x k g m).2.2 (e▸l))
  .rintro d c rfl m;exact a c (λe=>(s.hid i d x c k g m).fr (e▸l))
theorem Qbp{w:World}{l:Nat}{r:Loop}(h:w.heap[l]?=some (.loop r)):w.shape? l=none:=by
 unfold World.shape?;rw[h]
structure Fix where
 fr:Nat->Prop
 ro:Nat->Prop
 σ:Sig
 w:World
 h1:Nat
 env:Env
 tmps:Array Value
 ds1:List Deferred
 l:Nat
 rc:LoopState->Option Code->Loop
 fr1:Nat->Prop
structure Fix.Ok (D:Fix):Prop where
 sub:∀b,D.fr b->D.fr1 b
 l1:D.fr1 D.l
 lf:¬D.fr D.l
 len:D.σ.length=D.h1
structure RJ (D:Fix) (ro1:Nat->Prop) (σ1:Sig) (H:Qc) (st:LoopState) (pe:Option Code) (q g:Nat->Prop) (W:World):Prop where
 sim:Sim D.fr1 ro1 σ1 H W
 env:∀t,VR ro1 D.σ W (lk D.env t) (D.tmps.getD t undef)
 sig:σ1.take D.h1=D.σ
 ev:Qe D.fr D.ro D.w ro1 W
 marks:Qdd D.fr1 D.ds1 W
 rc:W.heap[D.l]?=some (.loop (D.rc st pe))
 roG:∀b,ro1 b->q b\/g b
 frG:∀b,D.fr1 b->g b
 own:∀(i b:Nat) (x:Blk),σ1[i]?=some (some b)->H[i]?=some x->x.live=true->g b
 hidG:∀(i b:Nat) (x:Blk) (c:Nat),σ1[i]?=some (some b)->H[i]?=some x->Hid W x b c->g c
 lt:∀b,g b->b<W.heap.size
theorem QdP{σ σ1:Sig}{a:Nat}(h:σ1.take a=σ){i b:Nat}(q:σ[i]?=some (some b)):σ1[i]?=some (some b):=by
 subst h;rw[List.getElem?_take]at q;split at q
 .exact q
 .cases q
section
variable {D:Fix} {ro1:Nat->Prop} {σ1:Sig} {H:Qc} {st:LoopState} {pe:Option Code} {qR g:Nat->Prop} {W:World}
theorem RJ.step(r:D.Ok)(j:RJ D ro1 σ1 H st pe qR g W){ro':Nat->Prop}{W':World}(e:Qe g qR W ro' W'):RJ D ro1 σ1 H st pe qR g W':=by
 have f:∀b,ro1 b->W'.heap[b]?=W.heap[b]? :=λb q=>(j.roG b q).elim (e.keepRo b) (e.keepFr b);have ev:Qe D.fr1 ro1 W ro1 W':=⟨λ_ q=>q,f,λb q=>e.keepFr b (j.frG b q),e.size,e.shape,e.os,e.tape,e.output,e.drawn⟩;have k:∀σ,Ext ro1 σ W ro1 σ W':=λ σ=>by have:=ev.ext σ [];simpa using this
 refine⟨⟨j.sim.len,j.sim.roOk.to (λ_ q=>q) f (λb q=>Vg (j.sim.roLt b q) e.size),λb q=>Vg (j.sim.frLt b q) e.size,j.sim.roFr,λi b x h a m=>?_,j.sim.inj,λi z x h a=>?_,
  j.sim.hidTo (· = ·) QW e.size (λ_ _ _ _ _ _ _ q=>q) (λ_ _ _ _ _ _ _ q=>q) λi d y n p w=>.inl ⟨i,y,rfl,n,p,id,λc q=>j.sim.hidKeep n p (λz=>e.keepFr d (j.own i d y n p z)) f q⟩⟩,
  λt=>(j.env t).mono (k _),j.sig,j.ev.trans (ev.frMono r.sub),j.marks.keep ev,(ev.keepFr _ r.l1).trans j.rc,j.roG,j.frG,j.own,λi b x c h a m=>j.hidG i b x c h a (j.sim.hidKeep h a (λz=>e.keepFr b (j.own i b x h a z)) f m),λb q=>Vg (j.lt b q) e.size⟩
 .obtain⟨s,u⟩:=j.sim.own i b x h a m;exact⟨Vg s e.size,u⟩
 .refine(j.sim.blk i z x h a).keep (k _) ?_ ?_
  .rintro b rfl l;exact e.keepFr b (j.own i b x h a l)
  .rintro b c rfl l;exact e.keepFr c (j.hidG i b x c h a l)
theorem RJ.up{g':Nat->Prop}(j:RJ D ro1 σ1 H st pe qR g W)(h:∀b,g b->g' b)(hl:∀b,g' b->b<W.heap.size):RJ D ro1 σ1 H st pe qR g' W:=
 {j with roG:=λb q=>(j.roG b q).imp id (h b),frG:=λb q=>h b (j.frG b q),own:=λi b x q1 q2 q3=>h b (j.own i b x q1 q2 q3),hidG:=λi b x c q1 q2 q3=>h c (j.hidG i b x c q1 q2 q3),lt:=hl}
def FrB(D:Fix)(ro1 g:Nat->Prop)(W:World):Nat->Prop:=λb=>(D.fr1 b\/(¬g b/\ ¬ro1 b))/\b<W.heap.size
theorem RJ.simB(j:RJ D ro1 σ1 H st pe qR g W):Sim (FrB D ro1 g W) ro1 σ1 H W:=by
 refine j.sim.frames (λb q=>q.2) (λb q r=>?_) (λi b x e a d r=>?_) (λi b x c e a d r=>r.1.elim (j.sim.hid i b x c e a d).fr λr=>r.1 (j.hidG i b x c e a d))
 .rcases r.1 with r|r
  .exact j.sim.roFr b q r
  .exact r.2 q
 .rcases r.1 with r|r
  .exact(j.sim.own i b x e a d).2.2 r
  .exact r.1 (j.own i b x e a d)
theorem RJ.fin(F:D.Ok)(j:RJ D ro1 σ1 H st pe qR g W){y ro':Nat->Prop}{σ':Sig}{H':Qc}{W':World}{st':LoopState}{pe':Option Code}
  (ev:Qe (λb=>FrB D ro1 g W b/\b≠D.l) ro1 W ro' W')(s:Sim y ro' σ' H' W')(u:∀b,FrB D ro1 g W b->y b)(hσ:σ'.take D.h1=σ1.take D.h1)(T:W'.heap[D.l]?=some (.loop (D.rc st' pe'))):
  RJ D ro' σ' H' st' pe' qR (λb=>g b\/(W.heap.size<=b/\b<W'.heap.size)) W'/\Qfp g (λb=>g b\/(W.heap.size<=b/\b<W'.heap.size)) W W':=by
 have m:∀b,D.fr1 b->FrB D ro1 g W b:=λb q=>⟨.inl q,j.sim.frLt b q⟩;have L:W.shape? D.l=none:=Qbp j.rc;have G:Qe D.fr ro1 W ro' W':=ev.frMono λb q=>⟨m b (F.sub b q),λe=>F.lf (e▸q)⟩;have w:Ext ro1 D.σ W ro' D.σ W':=ev.ext0 D.σ;have E:∀b,b<W.heap.size->b<W'.heap.size:=λb q=>Vg q ev.size;have n:∀b,b<W.heap.size->¬FrB D ro1 g W b->g b\/ro1 b:=by
  intro b h R;by_cases f:g b
  .exact .inl f
  .by_cases a:ro1 b
   .exact .inr a
   .exact absurd ⟨.inr ⟨f,a⟩,h⟩ R
 refine⟨⟨s.frames (λb q=>E b (j.sim.frLt b q)) (λb q r=>s.roFr b q (u b (m b r))) (λi b x f a p r=>(s.own i b x f a p).2.2 (u b (m b r))) (λi b x c f a p r=>(s.hid i b x c f a p).fr (u c (m c r))),
  λt=>(j.env t).mono w,hσ.trans j.sig,j.ev.trans G,⟨j.marks.1,λd P=>?_⟩,T,λb q=>?_,λb q=>.inl (j.frG b q),λi b x f a p=>?_,λi b x c f a p=>?_,λb q=>q.elim (λq=>E b (j.lt b q)) (λq=>q.2)⟩,
  ⟨λb q=>.inl q,λb q=>q.imp id (λq=>q.1),λb q=>q.elim (λq=>E b (j.lt b q)) (λq=>q.2),λb f a=>.inr ⟨f,a⟩,λb f a=>?_,ev.size,ev.shape,ev.os,ev.tape,ev.output,ev.drawn⟩⟩
 .obtain⟨B,Q,J,z⟩:=j.marks.2 d P;refine⟨B,Q,J,(ev.keepFr B ⟨m B J,λe=>?_⟩).trans z⟩;subst e;rw[j.rc]at z;cases z
 .rcases VD b W.heap.size with h|h
  .rcases n b h (λr=>s.roFr b q (u b r))with r|r
   .exact .inr (.inl r)
   .exact(j.roG b r).imp id .inl
  .exact .inr (.inr ⟨h,s.roLt b q⟩)
 .obtain⟨N,O,M⟩:=s.own i b x f a p;rcases VD b W.heap.size with h|h
  .rcases n b h (λr=>M (u b r))with r|r
   .exact .inl r
   .exact absurd (ev.sub b r) O
  .exact .inr ⟨h,N⟩
 .have k:=s.hid i b x c f a p;rcases VD c W.heap.size with h|h
  .rcases n c h (λr=>k.fr (u c r))with r|r
   .exact .inl r
   .exact absurd (ev.sub c r) k.ro
  .exact .inr ⟨h,k.lt⟩
 .by_cases r:ro1 b
  .exact ev.keepRo b r
  .exact ev.keepFr b ⟨⟨.inr ⟨a,r⟩,f⟩,λe=>a (j.frG b (e▸F.l1))⟩
end
theorem Sim.roAdd{fr ro a:Nat->Prop}{σ:Sig}{H:Qc}{w:World}(s:Sim fr ro σ H w)(l:∀b,a b->b<w.heap.size)(m:∀b,a b->¬fr b)(g:∀(i b:Nat) (x:Blk),σ[i]?=some (some b)->H[i]?=some x->x.live=true->¬a b)
  (h:∀(i b:Nat) (x:Blk) (c:Nat),σ[i]?=some (some b)->H[i]?=some x->Hid w x b c->¬a c):Sim fr (λb=>ro b\/a b) σ H w:=by
 have ext:Ext ro σ w (λb=>ro b\/a b) σ w:=⟨λ_ q=>.inl q,λ_ _=>rfl,λ_ _ q=>q,λ_ _ q=>q⟩;refine⟨s.len,s.roOk.to (λ_ q=>.inl q) (λ_ _=>rfl) (λb q=>q.elim (s.roLt b) (l b)),s.frLt,λb q=>q.elim (s.roFr b) (m b),λi b x f e k=>?_,s.inj,λi y x f e=>(s.blk i y x f e).keep ext (λ_ _ _=>rfl) (λ_ _ _ _=>rfl),
  s.hidTo (· = ·) QW (XU _) (λi b x c f e k z=>z.elim id λq=>(h i b x c f e k q).elim) (λ_ _ _ _ _ _ _ q=>q) λj d y t u B=>.inl ⟨j,y,rfl,t,u,id,λ_ q=>q⟩⟩
 obtain⟨n,p,r⟩:=s.own i b x f e k;exact⟨n,λq=>q.elim p (g i b x f e k),r⟩
theorem RJ.roAdd{D:Fix}{ro1:Nat->Prop}{σ1:Sig}{H:Qc}{st:LoopState}{pe:Option Code}{qR ri g:Nat->Prop}{W:World}(j:RJ D ro1 σ1 H st pe qR g W)(hq:∀b,qR b->ri b)(hI:∀b,ri b->b<W.heap.size/\ ¬g b):RJ D (λb=>ro1 b\/ri b) σ1 H st pe ri g W:=
 {j with
  sim:=j.sim.roAdd (λb q=>(hI b q).1) (λb q z=>(hI b q).2 (j.frG b z)) (λi b x q1 q2 q3 z=>(hI b z).2 (j.own i b x q1 q2 q3)) (λi b x c q1 q2 q3 z=>(hI c z).2 (j.hidG i b x c q1 q2 q3))
  env:=λt=>(j.env t).mono ⟨λ_ q=>.inl q,λ_ _=>rfl,λ_ _ q=>q,λ_ _ q=>q⟩
  ev:=j.ev.trans (YG λ_ q=>.inl q)
  roG:=λb q=>q.elim (λq=>(j.roG b q).imp (hq b) id) .inl}
def QlH:List Nat->List A->Env->Env
 |p::ps,a::zs,env=>QlH ps zs (up env p a)
 |_,_,env=>env
def Qi0:List Nat->List Value->Array Value->Array Value
 |p::ps,v::vs,t=>Qi0 ps vs (t.setIfInBounds p v)
 |_,_,t=>t
theorem QfP:∀(ps:List Nat) (vs:List Value) (t:Array Value),(Qi0 ps vs t).size=t.size
 |[],_,_=>rfl
 |_::_,[],_=>rfl
 |p::ps,v::vs,t=>by simp[Qi0,QfP ps]
theorem QfQ:∀(ps:List Nat) (vs:List Value) (t:Array Value),(ps.toArray.zip vs.toArray).foldl (λt (p,v)=>t.setIfInBounds p v) t=Qi0 ps vs t
 |[],vs,t=>by rw[<- Array.foldl_toList,Array.toList_zip];rfl
 |p::ps,[],t=>by rw[<- Array.foldl_toList,Array.toList_zip];rfl
 |p::ps,v::vs,t=>by
  have:=QfQ ps vs (t.setIfInBounds p v);rw[<- Array.foldl_toList,Array.toList_zip]at this⊢;exact this
theorem QjT{ro:Nat->Prop}{σ:Sig}{w:World}:∀(ps:List Nat) (zs:List A) (vs:List Value) (env:Env) (t:Array Value),LR ro σ w zs vs->(∀p∈ps,p<t.size)->(∀s,VR ro σ w (lk env s) (t.getD s undef))->
  ∀s,VR ro σ w (lk (QlH ps zs env) s) ((Qi0 ps vs t).getD s undef)
 |[],_,_,_,_,_,_,h=>h
 |p::ps,[],vs,_,_,hv,_,h=>by
  obtain rfl:vs=[]:=hv;exact h
 |p::ps,a::zs,vs,env,t,hv,hp,h=>by
  obtain⟨v,vs',rfl,h0,hv'⟩:=hv;have h1:=VR.up (fr:=λ_=>False) (a:={tmps:=t,defers:=[]}) h (hp p (by simp)) h0;exact QjT ps zs vs' (up env p a) (t.setIfInBounds p v) hv' (λq hq=>by simpa using hp q (by simp[hq])) h1
def QjB(h1:Nat)(env:Env)(Q:Qx)(K:Qc->Prop):Qx
 |.normal,env',H'=>∃H2,Le h1 env' H' [] H2/\K H2
 |.exit id,env',H'=>∃H2,Le h1 env' H' [] H2/\Q (.exit id) env H2
 |.ret,env',H'=>∃H2,Le h1 env' H' [] H2/\Q .ret env H2
def Jump(Q:Qx)(env:Env)(c:Code)(H:Qc):Prop:=(∃id,c=.exit id/\Q (.exit id) env H)\/(c=.ret/\Q .ret env H)
section
variable {D:Fix} {ro0:Nat->Prop} {σ1:Sig} {H:Qc} {qR ri g:Nat->Prop} {W:World} {P:Program} {N:Nat} {Q:Qx} {K:Qc->Prop}
theorem RJ.round{fn:FuncId}{ps:List Nat}{assign body:Code}{df:Nat}{cs:List A}{vs:List Value}(hD:D.Ok)(u:D.rc=λst pe=>{state:=st,pending:=pe,fn:=fn,tmps:=D.tmps,params:=ps.toArray,assign:=assign,body:=body,defers:=df})
  (hN:D.tmps.size=N)(aj:∀p∈ps,p<N)(X:cs.length=ps.length)(hq:∀b,qR b->ri b)(hI:∀b,ri b->b<W.heap.size/\ ¬g b)(ac:LR ri [] W cs vs)(j0:RJ D ro0 σ1 H .ready none qR g W)
  (h:TC P D.h1 N assign (QlH ps cs D.env) H λe env1 H1=>e=.normal/\TC P D.h1 N body env1 H1 (QjB D.h1 D.env Q K)):
  YieldAt Fence.wide 0 P D.l vs.toArray W λe W'=>∃g',Qfp g g' W W'/\((e=.returned (.bool true)/\ ∃H2 ro2 σ2,K H2/\RJ D ro2 σ2 H2 .ready none ri g' W')\/
   (e=.returned (.bool false)/\ ∃H2 c ro2 σ2,Jump Q D.env c H2/\RJ D ro2 σ2 H2 .done (some c) ri g' W')):=by
 have ai:vs.length=cs.length:=ac.length;have j:=j0.roAdd hq hI;have E:LR (λb=>ro0 b\/ri b) σ1 W cs vs:=ac.mono ⟨λ_ q=>.inr q,λ_ _=>rfl,λ_ _ q=>q,λi b q=>by simp at q⟩;clear j0;generalize(λb=>ro0 b\/ri b)=ro1 at j E;have al:∀b,D.fr1 b->FrB D ro1 g W b:=λb q=>⟨.inl q,j.sim.frLt b q⟩;have n:=al _ hD.l1;have F:=j.rc;have hy:=run_yield (P:=P) (r:=D.rc .ready none) (args:=vs.toArray) F (by rw[u];simp[ai,X]);refine⟨fn,Qi0 ps vs D.tmps,assign,body,?_,?_⟩
 .rw[hy,u];simp only[];rw[<- QfQ]
 .refine roundIn_of_wpIn trivial ?_;show Code.wpIn (WF (some D.l)) 0 P _ _ _ _;have T:∀s,VR ro1 σ1 W (lk D.env s) (D.tmps.getD s undef):=λs=>(j.env s).mono ⟨λ_ q=>q,λ_ _=>rfl,λ_ _ q=>q,λi b q=>QdP j.sig q⟩;have ah:Qeh (some D.l) (FrB D ro1 g W) W:=λl e=>by cases e;exact⟨n,_,F⟩
  have y:=h (some D.l) (FrB D ro1 g W) ro1 σ1 {tmps:=Qi0 ps vs D.tmps,defers:=[]} W ⟨j.simB,QjT ps cs vs D.env D.tmps E (by rw[hN];exact aj) T,by simp[QfP,hN],List.nodup_nil,λd hd=>by cases hd⟩ ah;refine Code.wpIn_mono ?_ y;rintro e a1 y ⟨x1,env1,H1,ro2,σ2,x,h1,⟨rfl,h2⟩,Y,h4,h5,h6⟩;cases e with
  |normal=>
   have k:y.heap[D.l]?=some (.loop (D.rc .ready none)):=(h4.keepFr _ n).trans F;refine⟨_,run_beginRound k (by rw[u]),?_⟩;obtain⟨s2,M⟩:=Y.sim.put (obj:=.loop {D.rc .ready none with state:=.busy}) (h6.sub _ n) (Qbp k);have ab:D.l<y.heap.size:=by rw[Vd]at k;exact k.1
   have ae:(y.putObj D.l (.loop {D.rc .ready none with state:=.busy})).heap[D.l]?=some (.loop {D.rc .ready none with state:=.busy}):=World.putObj_heap_same ab;generalize hw2:y.putObj D.l (.loop {D.rc .ready none with state:=.busy})=w2 at*;have am:Qdd x a1.defers w2:=by
    refine⟨Y.defers.1,λd hd=>?_⟩;obtain⟨B,e1,e2,e3⟩:=Y.defers.2 d hd;refine⟨B,e1,e2,(M.keepFr B (λe=>?_)).trans e3⟩;subst e;rw[k]at e3;cases e3
   have r2:Rel x ro2 σ2 H1 env1 N a1 w2:=⟨s2,λs=>(Y.env s).mono (M.ext0 σ2),Y.size,am⟩;have G:x D.l:=h6.sub _ n;refine Code.wpIn_mono ?_ (h2 (some D.l) x ro2 σ2 a1 w2 r2 (λl e=>by cases e;exact⟨G,_,ae⟩));rintro e a3 z ⟨x3,aa,H3,J,σ3,af,g1,g2,g3,g4,g5,g6⟩;have t:z.heap[D.l]?=some (.loop {D.rc .ready none with state:=.busy}):=(g4.keepFr _ G).trans ae;have L:∀(H2:Qc) (jump:Option Code),Le D.h1 aa H3 [] H2->∃v m,(Instr.endRound D.l jump).run P z=.ok v m/\v=.bool jump.isNone/\ ∃g',Qfp g g' W m/\ ∃a σ4,RJ D a σ4 H2 (if jump.isNone then .ready else .done) jump ri g' m:=by
    intro H2 jump f;obtain⟨a,σ4,r4,s4,t4⟩:=f af J σ3 N a3 z g3;refine⟨_,_,run_endRound jump t,rfl,?_⟩;have an:af D.l:=g6.sub _ G;obtain⟨s5,ag⟩:=r4.sim.put (obj:=.loop {{D.rc .ready none with state:=.busy}with state:=if jump.isNone then .ready else .done,pending:=jump}) an (Qbp t);have V:D.l<z.heap.size:=by rw[Vd]at t;exact t.1
    have ak:=World.putObj_heap_same (w:=z) (r:=D.l) (o:=.loop {{D.rc .ready none with state:=.busy}with state:=if jump.isNone then .ready else .done,pending:=jump}) V;have e1:Qe (λb=>FrB D ro1 g W b/\b≠D.l) ro1 W ro2 y:=h4.frMono λb q=>q.1;have e2:Qe (λb=>FrB D ro1 g W b/\b≠D.l) ro2 y ro2 w2:=M.frMono λb q=>q.2;have e3:Qe (λb=>FrB D ro1 g W b/\b≠D.l) ro2 w2 J z:=g4.frMono λb q=>h6.sub b q.1;have e4:Qe (λb=>FrB D ro1 g W b/\b≠D.l) J z a z:=YG s4;have e5:=(((e1.trans e2).trans e3).trans e4).trans (ag.frMono λb (q:FrB D ro1 g W b/\b≠D.l)=>q.2);obtain⟨q1,q2⟩:=j.fin hD e5 s5 (λb q=>g6.sub b (h6.sub b q)) (by rw[t4,g5,h5]) (st':=if jump.isNone then .ready else .done) (pe':=jump) (by rw[ak,u]);exact⟨_,q2,a,σ4,q1⟩
   cases e with
   |normal=>
    obtain rfl:x3=.normal:=g1;obtain⟨H2,f,O⟩:=g2;obtain⟨v,m,k1,rfl,g',k2,a,σ4,R⟩:=L H2 none f;exact⟨_,m,k1,g',k2,.inl ⟨rfl,H2,a,σ4,O,R⟩⟩
   |exit id=>
    obtain rfl:x3=.exit id:=g1;obtain⟨H2,f,O⟩:=g2;obtain⟨v,m,k1,rfl,g',k2,a,σ4,R⟩:=L H2 (some (.exit id)) f;exact⟨_,m,k1,g',k2,.inr ⟨rfl,H2,_,a,σ4,.inl ⟨id,rfl,O⟩,R⟩⟩
   |ret=>
    obtain rfl:x3=.ret:=g1;obtain⟨H2,f,O⟩:=g2;obtain⟨v,m,k1,rfl,g',k2,a,σ4,R⟩:=L H2 (some .ret) f;exact⟨_,m,k1,g',k2,.inr ⟨rfl,H2,_,a,σ4,.inr ⟨rfl,O⟩,R⟩⟩
   |_=>exact g1.elim
  |exit id=>cases h1
  |ret=>cases h1
  |_=>exact h1.elim
end
theorem Sim.beside{fr ro:Nat->Prop}{σ:Sig}{H:Qc}{w g:World}(s:Sim fr ro σ H w)(ev:Qe fr ro w ro g)(a:∀b,b<w.heap.size->g.heap[b]?=w.heap[b]?):Sim (λb=>fr b\/(w.heap.size<=b/\b<g.heap.size)) ro σ H g:=by
 have h:Ext ro σ w ro σ g:=ev.ext0 σ;refine⟨s.len,s.roOk.to (λ_ q=>q) ev.keepRo (λb q=>Vg (s.roLt b q) ev.size),λb q=>q.elim (λq=>Vg (s.frLt b q) ev.size) (λq=>q.2),λb q r=>?_,λi b x f e l=>?_,s.inj,λi z x f e=>?_,
  s.hidTo (· = ·) QW ev.size (λ_ _ _ _ _ _ _ q=>q) (λi b x c f e l B=>B.elim id λq=>(by have:=(s.hid i b x c f e l).lt;omega)) λj d y m n E=>.inl ⟨j,y,rfl,m,n,id,λc q=>s.hidKeep m n (λz=>a d (s.own j d y m n z).1) ev.keepRo q⟩⟩
 .rcases r with r|r
  .exact s.roFr b q r
  .have:=s.roLt b q;omega
 .obtain⟨p,t,u⟩:=s.own i b x f e l;refine⟨Vg p ev.size,t,λr=>?_⟩;rcases r with r|r
  .exact u r
  .omega
 .refine(s.blk i z x f e).keep h ?_ ?_
  .rintro b rfl k;exact a b (s.own i b x f e k).1
  .rintro b c rfl k;exact a c (s.hid i b x c f e k).lt
theorem Qcb{w:World}{o:Obj}{b:Nat}(a:b<w.heap.size):(w.alloc o).heap[b]?=w.heap[b]? :=by
 show(w.heap.push o)[b]?=_;rw[Array.getElem?_push,Vt (by omega)]
theorem QmL{P:Program}{fn:FuncId}{tmps:Array Value}{ps:Array Tmp}{assign body:Code}{rd:Option Nat}{fr ro:Nat->Prop}{w:World}(g:Qeh rd fr w)(h:∀b,ro b->b<w.heap.size)(k:∀b,fr b->b<w.heap.size):
  ∃l mark w1 df,(Instr.enterLoop fn tmps ps assign body rd).run P w=.ok (l,mark) w1/\w.heap.size<=l/\l<w1.heap.size/\w1.heap[l]?=some (.loop {state:=.ready,pending:=none,fn:=fn,tmps:=tmps,params:=ps,assign:=assign,body:=body,defers:=df})/\
   (∀b,b<w.heap.size->w1.heap[b]?=w.heap[b]?)/\mark.Nodup/\(∀d∈mark,∃D,d={target:=.collected D,args:= #[]}/\w.heap.size<=D/\D<w1.heap.size/\w1.heap[D]?=some (.deferred (some [])))/\Qe fr ro w ro w1:=by
 have e:∀w1:World,(∀b,b<w.heap.size->w1.heap[b]?=w.heap[b]?)->w.heap.size<=w1.heap.size->w1.os=w.os->w1.tape=w.tape->w1.output=w.output->w1.drawn=w.drawn->Qe fr ro w ro w1:=by
  intro w1 i r s u t p;refine⟨λ_ q=>q,λb q=>i b (h b q),λb q=>i b (k b q),r,λb x q=>?_,s,u,t,by rw[p];exact XU _⟩;have f:b<w.heap.size:=by
   rcases VD b w.heap.size with z|z
   .exact z
   .unfold World.shape? at q;rw[Array.getElem?_eq_none (by simpa using z)]at q;cases q
  unfold World.shape? at q⊢;rw[i b f];exact q
 cases rd with
 |none=>
  have a:∀b,b<w.heap.size->((w.alloc (.deferred (some []))).alloc (.loop {state:=.ready,pending:=none,fn:=fn,tmps:=tmps,params:=ps,assign:=assign,body:=body,defers:=w.heap.size})).heap[b]?=w.heap[b]? :=λb f=>
   (Qcb (by simp;omega)).trans (Qcb f)
  refine⟨_,_,_,w.heap.size,run_enterLoop_outer fn tmps ps assign body,by omega,by simp,?_,a,by simp,?_,e _ a (by simp;omega) rfl rfl rfl rfl⟩
  .have:=World.alloc_heap_new (w.alloc (.deferred (some []))) (.loop {state:=.ready,pending:=none,fn:=fn,tmps:=tmps,params:=ps,assign:=assign,body:=body,defers:=w.heap.size})
   rwa [World.size_alloc]at this
  .intro d j;obtain rfl:=VC.1 j;exact⟨_,rfl,XU _,by simp;omega,(Qcb (by simp)).trans (World.alloc_heap_new w _)⟩
 |some n=>
  obtain⟨_,m,y⟩:=g n rfl;have a:∀b,b<w.heap.size->(w.alloc (.loop {state:=.ready,pending:=none,fn:=fn,tmps:=tmps,params:=ps,assign:=assign,body:=body,defers:=m.defers})).heap[b]?=w.heap[b]? :=λb f=>Qcb f;exact⟨_,_,_,m.defers,run_enterLoop_inner y fn tmps ps assign body,XU _,by simp,World.alloc_heap_new w _,a,List.nodup_nil,(λd j=>absurd j List.not_mem_nil),e _ a (by simp) rfl rfl rfl rfl⟩
theorem TC.rangeFunc{P:Program}{h0 N:Nat}{ae:Operand}{ps:List Nat}{assign body:Code}{env:Env}{H:Qc}{Q:Qx}{f:FuncId}{ag af:List A}{Hc:Qc}{T S:Type}{enc:T->List A}{nx:List T->T->List T->Prop}{xs:List T}
  (π:List Nat)(Hp:S->Qc)(V:S->List T->Prop)(s0:S)(hh:h0<=H.length)(hg:opA env ae=.fn (.func f) [] ag)(hargs:ag=Qaa (rho π H.length) af)(hH:π.map (λp=>H[p]?)=(Hc.map (QV (rho π H.length))).map some)(hπ:π.Nodup)
  (ba:(ps.all λp=>Nat.blt p N)=true)(eg:∀args w,(callFunc f args).run P w=.ok (.enter f args) w)(a1:QiB P f af Hc enc nx xs)(aq:∀x,(enc x).length=ps.length)
  (a8:Le H.length env (QdX H π) env (Hp s0))(hV:V s0 xs)
  (ak:∀s l x rem,V s l->nx l x rem->TC P H.length N assign (QlH ps (enc x) env) (Hp s) λe env1 H1=>e=.normal/\TC P H.length N body env1 H1 (QjB H.length env Q λH2=>∃s',V s' rem/\H2=Hp s'))
  (al:∀s,V s []->Q .normal env (Hp s)):TC P h0 N (.rangeFunc ae ps.toArray assign body) env H Q:=by
 intro rd fr ro σ a w r hrd;have hv:=Qd r ae;rw[hg]at hv;obtain⟨l1,E,hv,a3,ay⟩:=hv;obtain rfl:l1=[]:=a3;refine wpIn_rangeFunc ?_;intro fn bi;obtain⟨l,G,Y,df,he,hl,a6,aw,ax,bf,am,aa⟩:=QmL (P:=P) (fn:=fn) (tmps:=a.tmps) (ps:=ps.toArray) (assign:=assign) (body:=body) (ro:=ro) hrd r.sim.roLt r.sim.frLt;have s1:=r.sim.beside aa ax
 let D:Fix:=⟨fr,ro,σ,w,H.length,env,a.tmps,G++a.defers,l,(λst pe=>{state:=st,pending:=pe,fn:=fn,tmps:=a.tmps,params:=ps.toArray,assign:=assign,body:=body,defers:=df}),(λb=>fr b\/(w.heap.size<=b/\b<Y.heap.size))⟩
 have ah:¬fr l:=λq=>by have:=r.sim.frLt l q;omega
 have hD:D.Ok:=⟨λb q=>.inl q,.inr ⟨hl,a6⟩,ah,r.sim.len⟩;have M:Qdd D.fr1 (G++a.defers) Y:=by
  refine⟨List.nodup_append.2 ⟨bf,r.defers.1,λd O d' a7 e=>?_⟩,λd O=>?_⟩
  .subst e;obtain⟨B,e1,e2,_⟩:=am d O;obtain⟨B',a2,bc,_⟩:=r.defers.2 d a7;rw[e1]at a2;have:B=B':=by simpa using a2
   subst this;have:=r.sim.frLt B bc;omega
  .rcases VE.1 O with O|O
   .obtain⟨B,e1,e2,e3,e4⟩:=am d O;exact⟨B,e1,.inr ⟨e2,e3⟩,e4⟩
   .obtain⟨B,e1,e2,e3⟩:=(r.defers.keep aa).2 d O;exact⟨B,e1,.inl e2,e3⟩
 obtain⟨sp,hσc⟩:=s1.part hH hπ;have an:LR ro (Yb σ π) Y af E:=(QbG hσc).1 (hargs▸ay.mono (aa.ext0 σ))
 let frX:Nat->Prop:=λb=>D.fr1 b\/(∃(j:Nat) (x:Blk),(Yb σ π)[j]?=some (some b)/\Hc[j]?=some x/\x.live=true)\/ ∃(j:Nat) (x:Blk) (d:Nat),(Yb σ π)[j]?=some (some d)/\Hc[j]?=some x/\Hid Y x d b
 have sX:Sim frX ro σ (QdX H π) Y:=by
  refine(QdH π s1).frames (λb q=>?_) (λb q r=>?_) (λi b x n m k r=>?_) (λi b x c n m k r=>?_)
  .rcases q with q|⟨j,x,n,m,k⟩|⟨j,x,d,n,m,k⟩
   .exact s1.frLt b q
   .exact(sp.own j b x n m k).1
   .exact(sp.hid j d x b n m k).lt
  .rcases r with r|⟨j,x,n,m,k⟩|⟨j,x,d,n,m,k⟩
   .exact s1.roFr b q r
   .exact(sp.own j b x n m k).2.1 q
   .exact(sp.hid j d x b n m k).ro q
  .rcases QeU _ _ _ _ m with rfl|⟨m,hi⟩
   .cases k
   .rcases r with r|⟨j,y,p1,p2,p3⟩|⟨j,y,d,p1,p2,p3⟩
    .exact(s1.own i b x n m k).2.2 r
    .exact(sp.own j b y p1 p2 p3).2.2 (.inr (.inl ⟨i,x,n,m,k,hi (QaH k)⟩))
    .exact(sp.hid j d y b p1 p2 p3).fr (.inr (.inl ⟨i,x,n,m,k,hi (QaH k)⟩))
  .rcases QeU _ _ _ _ m with rfl|⟨m,hi⟩
   .exact k.elim
   .rcases r with r|⟨j,y,p1,p2,p3⟩|⟨j,y,d,p1,p2,p3⟩
    .exact(s1.hid i b x c n m k).fr r
    .exact(sp.own j c y p1 p2 p3).2.2 (.inr (.inr ⟨i,x,b,n,m,k,hi k.holds⟩))
    .exact(sp.hid j d y c p1 p2 p3).fr (.inr (.inr ⟨i,x,b,n,m,k,hi k.holds⟩))
 have rX:Rel frX ro σ (QdX H π) env N {a with defers:=G++a.defers} Y:=
  ⟨sX,λs=>(r.env s).mono (aa.ext0 σ),r.size,M.1,λd O=>let⟨B,e1,e2,e3⟩:=M.2 d O;⟨B,e1,.inl e2,e3⟩⟩
 obtain⟨ac,σ',r',ab,bb⟩:=a8 frX ro σ N _ Y rX;have hσt:σ.take H.length=σ:=by rw[<- r.sim.len,Va]
 let g0:Nat->Prop:=λb=>D.fr1 b\/(ac b/\ ¬ro b)\/(∃(i:Nat) (x:Blk),σ'[i]?=some (some b)/\(Hp s0)[i]?=some x/\x.live=true)\/ ∃(i:Nat) (x:Blk) (d:Nat),σ'[i]?=some (some d)/\(Hp s0)[i]?=some x/\Hid Y x d b
 have j0:RJ D ac σ' (Hp s0) .ready none ro g0 Y:=by
  refine⟨r'.sim.frMono λb q=>.inl q,λt=>(r.env t).mono ⟨ab,aa.keepRo,aa.shape,λ_ _ q=>q⟩,bb.trans hσt,aa.trans (YG ab),M,aw,λb q=>?_,λb q=>.inl q,λi b x n m k=>.inr (.inr (.inl ⟨i,x,n,m,k⟩)),λi b x c n m k=>.inr (.inr (.inr ⟨i,x,b,n,m,k⟩)),λb q=>?_⟩
  .by_cases z:ro b
   .exact .inl z
   .exact .inr (.inr (.inl ⟨q,z⟩))
  .rcases q with q|q|⟨i,x,n,m,k⟩|⟨i,x,d,n,m,k⟩
   .exact s1.frLt b q
   .exact r'.sim.roLt b q.1
   .exact(r'.sim.own i b x n m k).1
   .exact(r'.sim.hid i d x b n m k).lt
 have sI:Sim g0 ro (Yb σ π) Hc Y:=by
  refine sp.frames (λb q=>j0.lt b q) (λb q z=>?_) (λj b x n m k z=>?_) (λj b x c n m k z=>?_)
  .rcases z with z|z|⟨i,x,n,m,k⟩|⟨i,x,d,n,m,k⟩
   .exact s1.roFr b q z
   .exact z.2 q
   .exact(r'.sim.own i b x n m k).2.1 (ab b q)
   .exact(r'.sim.hid i d x b n m k).ro (ab b q)
  .have hX:frX b:=.inr (.inl ⟨j,x,n,m,k⟩);rcases z with z|z|⟨i,y,p1,p2,p3⟩|⟨i,y,d,p1,p2,p3⟩
   .exact(sp.own j b x n m k).2.2 (.inl z)
   .exact r'.sim.roFr b z.1 hX
   .exact(r'.sim.own i b y p1 p2 p3).2.2 hX
   .exact(r'.sim.hid i d y b p1 p2 p3).fr hX
  .have hX:frX c:=.inr (.inr ⟨j,x,b,n,m,k⟩);rcases z with z|z|⟨i,y,p1,p2,p3⟩|⟨i,y,d,p1,p2,p3⟩
   .exact(sp.hid j b x c n m k).fr (.inl z)
   .exact r'.sim.roFr c z.1 hX
   .exact(r'.sim.own i c y p1 p2 p3).2.2 hX
   .exact(r'.sim.hid i d y c p1 p2 p3).fr hX
 let X:Ctx T:={l:=l,J:=λrem q g W=>∃s F σ1,V s rem/\RJ D F σ1 (Hp s) .ready none q g W,Jx:=λ_ q g W=>∃H2 c F σ1,Jump Q env c H2/\RJ D F σ1 H2 .done (some c) q g W,enc:=enc,nx:=nx}
 have au:∀p∈ps,p<N:=λp hp=>by simpa using Xt.1 ba p hp
 have hX:X.ok P:=by
  refine⟨⟨λrem q g W W' ac ⟨s,F,σ1,L,R⟩ he=>⟨s,F,σ1,L,R.step hD he⟩,λrem q g g' W ⟨s,F,σ1,L,R⟩ hg hl=>⟨s,F,σ1,L,R.up hg hl⟩⟩,
   ⟨λrem q g W W' ac ⟨H2,c,F,σ1,L,R⟩ he=>⟨H2,c,F,σ1,L,R.step hD he⟩,λrem q g g' W ⟨H2,c,F,σ1,L,R⟩ hg hl=>⟨H2,c,F,σ1,L,R.up hg hl⟩⟩,?_⟩
  rintro lr x rem q g ri W vs be ⟨s,F,σ1,L,R⟩ hq hI bg;obtain⟨a4,tm,bd,a9,y1,y2⟩:=RJ.round (D:=D) (Q:=Q) (K:=λH2=>∃s',V s' rem/\H2=Hp s') hD rfl r.size au (aq x) hq hI bg R (ak s lr x rem L be);refine⟨a4,tm,bd,a9,y1,RoundIn.mono y2 ?_⟩;rintro e W' ⟨g',k1,k2⟩;refine⟨g',ri,λ_ z=>z,k1,?_⟩;rcases k2 with⟨rfl,H2,u,σ2,⟨s',a5,rfl⟩,k3⟩|⟨rfl,H2,c,u,σ2,k3,k4⟩
  .exact .inl ⟨rfl,s',u,σ2,a5,k3⟩
  .exact .inr ⟨rfl,H2,c,u,σ2,k3,k4⟩
 have a0:∀(ev:Operand->Value),ev ae=.func (.func f) #[] E.toArray->ev (.const (.func (.yield l) #[] #[]))=.func (.yield l) #[] #[]->(resolve ev (rangeCall ae l) 0).run P Y=.ok {target:=.fn (.func f) E.toArray,args:= #[.func (.yield l) #[] #[]]} Y:=by
  intro ev L R;simp[resolve,go_sem,L,R]
 refine⟨l,G,Y,{target:=.fn (.func f) E.toArray,args:= #[.func (.yield l) #[] #[]]},Y,f, #[.func (.yield l) #[] #[]]++E.toArray,Y,he,a0 a.eval hv rfl,λ_ _=>trivial,by simp[invoke,go_sem,eg],λh=>by simp[WF,Fence.wide]at h,?_⟩;refine WF.calls.2 ?_;have aj:=a1 X rfl rfl hX g0 ro (Yb σ π) Y E ro sI (λ_ z=>z) an ⟨s0,ac,σ',hV,j0⟩;have ao:(#[.func (.yield l) #[] #[]]++E.toArray:Array Value)=((Value.func (.yield X.l) #[] #[]::E)).toArray:=by simp[X]
 rw[ao];refine Calls.mono aj ?_;rintro e W' ⟨⟨v,rfl⟩,g2,qz,bh,az⟩;have fin:∀(H2:Qc) (st:LoopState) (pe:Option Code) (u:Nat->Prop) (σ2:Sig),st≠ .busy->RJ D u σ2 H2 st pe qz g2 W'->∃w4,(Instr.endLoop l).run P W'=.ok pe w4/\Rel D.fr1 u σ2 H2 env N {a with defers:=G++a.defers} w4/\Qe fr ro w u w4:=by
  intro H2 st pe u σ2 hst j;refine⟨_,run_endLoop j.rc (by exact hst),?_⟩;obtain⟨s5,ai⟩:=j.sim.put (obj:=.loop {(D.rc st pe)with state:=.exhausted}) hD.l1 (Qbp j.rc);have hr:=j.rc;refine⟨⟨s5,λt=>((j.env t).mono ⟨λ_ q=>q,λ_ _=>rfl,λ_ _ q=>q,λi b q=>QdP j.sig q⟩).mono (ai.ext0 σ2),r.size,j.marks.1,λd O=>?_⟩,j.ev.trans (ai.frMono λb q e=>ah (by have e':b=l:=e;rw[<- e'];exact q))⟩;obtain⟨B,e1,e2,e3⟩:=j.marks.2 d O;refine⟨B,e1,e2,(ai.keepFr B (λe=>?_)).trans e3⟩;subst e;rw[hr]at e3;cases e3
 have av:Grow fr w a.defers D.fr1 (G++a.defers):=by
  refine⟨λb q=>.inl q,λb q=>q.imp id (λq=>q.1),λd O=>?_⟩;rcases VE.1 O with O|O
  .obtain⟨B,e1,e2,_⟩:=am d O;exact .inr ⟨B,e1,e2⟩
  .exact .inl O
 have ar:∀{σ2:Sig},σ2.take H.length=σ->σ2.take h0=σ.take h0:=by
  intro σ2 h;have:=congrArg (List.take h0) h
  rwa [List.take_take,XB hh]at this
 rcases az with⟨s,u,σ2,L,R⟩|⟨rem,H2,c,u,σ2,L,R⟩
 .obtain⟨w4,f1,f2,f3⟩:=fin _ _ _ u σ2 (by intro e;cases e) R;exact⟨none,w4,f1,.normal,env,_,u,σ2,_,rfl,al s L,f2,f3,ar R.sig,av⟩
 .obtain⟨w4,f1,f2,f3⟩:=fin _ _ _ u σ2 (by intro e;cases e) R;refine⟨some c,w4,f1,?_⟩;have hc:TC P h0 N c env H2 Q:=by
   rcases L with⟨id,rfl,L⟩|⟨rfl,L⟩
   .exact TC.exit L
   .exact TC.ret L
  exact Code.wpIn_mono (λe a w q=>q.grow f3 (ar R.sig) av) (hc rd D.fr1 u σ2 _ w4 f2 (hrd.to f3 λb q=>.inl q))
end Go.Sw
namespace Go.Sw
theorem QiL{h0 i k t T:Nat}{env:Env}{H:Qc}(hh:Nat.ble h0 H.length=true)(hH:H[i]?=some (.cells T [.nils])):Le h0 env H env (H.set i (.cells T [.osl H.length 0 0 k])++[.row t k []]):=by
 intro fr F σ N a w r;have G:h0<=H.length:=XS hh;have P:i<H.length:=(XM.1 hH).1;have ext:Ext F σ w F (σ++[none]) w:=⟨λ_ q=>q,λ_ _=>rfl,λ_ _ q=>q,λ_ _ h=>YH h⟩;have s:=r.sim.phantom t k;have p:(H++[Blk.row t k []])[i]?=some (.cells T [.nils]):=by rw[XN P];exact hH
 have e0:H.set i (.cells T [.osl H.length 0 0 k])++[.row t k []]=(H++[Blk.row t k []]).set i (.cells T [.osl H.length 0 0 k]):=by
  rw[List.set_append_left _ _ P]
 have g:∀(j:Nat) (v:Blk),((H++[Blk.row t k []]).set i (.cells T [.osl H.length 0 0 k]))[j]?=some v->(j=i/\v=.cells T [.osl H.length 0 0 k])\/(j≠i/\(H++[Blk.row t k []])[j]?=some v):=by
  intro j v h;by_cases e:j=i
  .subst e;rw[Xa (by simp;omega)]at h;exact .inl ⟨rfl,by simpa using h.symm⟩
  .rw[XQ (λq=>e q.symm)]at h;exact .inr ⟨e,h⟩
 have f:∀(j:Nat) (v:Blk),((H++[Blk.row t k []]).set i (.cells T [.osl H.length 0 0 k]))[j]?=some v->v.live=true->∃u,(H++[Blk.row t k []])[j]?=some u/\u.live=true:=by
  intro j v h Y;rcases g j v h with⟨rfl,rfl⟩|⟨_,h⟩
  .exact⟨_,p,rfl⟩
  .exact⟨v,h,Y⟩
 refine⟨F,σ++[none],⟨?_,λq=>(r.env q).mono ext,r.size,r.defers⟩,λ_ q=>q,Qs (by rw[r.sim.len];exact G)⟩;rw[e0];refine⟨by rw[X5];exact s.len,s.roOk,s.frLt,s.roFr,λj b v z B E=>?_,λj M b v u z B E W R X=>?_,λj y v z B=>?_,
  s.hidTo (· = ·) QW (XU _) (λ_ _ _ _ _ _ _ q=>q) (λ_ _ _ _ _ _ _ q=>q) λj d y m n O=>.inl ?_⟩
 rotate_left 3
 .rcases g j y n with⟨rfl,rfl⟩|⟨_,h⟩
  .exact⟨j,_,rfl,m,p,λ_=>rfl,λ_ q=>q.elim⟩
  .exact⟨j,y,rfl,m,h,id,λ_ q=>q⟩
 .obtain⟨u,m,n⟩:=f j v B E;exact s.own j b u z m n
 .obtain⟨x,m,n⟩:=f j v E R;obtain⟨x',J,L⟩:=f M u W X;exact s.inj j M b x x' z B m J n L
 .rcases g j v B with⟨rfl,rfl⟩|⟨_,h⟩
  .have:=s.blk j y _ z p;cases y with
   |none=>exact this
   |some b=>
    obtain⟨l,m,⟨v1,Q,rfl,n,O⟩,V⟩:=this;refine⟨_,m,⟨v1,Q,rfl,.inl ⟨rfl,n⟩,?_⟩,V⟩;obtain rfl:Q=[]:=O;rfl
  .exact s.blk j y v z h
theorem Qkw{h0 i:Nat}{env:Env}{H:Qc}{es:List (A×A)}(hH:H[i]?=some (.map es)):Le h0 env H env (H.set i (.fmap es)):=by
 intro f e σ N a w r;have d:∃s,σ[i]?=some s:=by
  have:i<σ.length:=by rw[r.sim.len];exact(XM.1 hH).1
  exact⟨_,XL this⟩
 obtain⟨s,d⟩:=d;cases s with
 |none=>exact(r.sim.blk i _ _ d hH).elim
 |some b=>
  refine⟨_,σ,⟨r.sim.shutMap d hH,λq=>(r.env q).mono ⟨λ_ q=>.inl q,λ_ _=>rfl,λ_ _ q=>q,λ_ _ q=>q⟩,r.size,r.defers⟩,λ_ q=>.inl q,rfl⟩
def anyN{T:Type}(l:List T)(x:T)(rem:List T):Prop:=l.Perm (x::rem)
def QmZ(ts te:Nat)(ld:Op):Code:=.block 1 (.region 3 #[{dst:=some 8,op:=.load ts (.tmp 2),type:=ts,pos:="iter.go:52",after:= #[],guard:=none},{dst:=some 9,op:=ld,type:=te,pos:="iter.go:52",after:= #[],guard:=none},
 {dst:=some 10,op:=.buildSlice ts 1 #[(0,.tmp 9)],type:=ts,pos:="iter.go:52",after:= #[{on:=1,ground:=.data}],guard:=none},
 {dst:=some 11,op:=.call {callee:=.builtin .append,args:= #[.tmp 8,.tmp 10],argTypes:= #[ts,ts]},type:=ts,pos:="iter.go:52",after:= #[{on:=0,ground:=.data},{on:=2,ground:=.data}],guard:=none},
 {dst:=none,op:=.store ts (.tmp 2) (.tmp 11),type:=0,pos:="iter.go:52",after:= #[{on:=3,ground:=.data},{on:=3,ground:=.chain},{on:=0,ground:=.phase},{on:=1,ground:=.phase},{on:=2,ground:=.phase},{on:=3,ground:=.phase}],guard:=none}] false)
def Qpw(ts tq te:Nat)(asg:Code)(ld:Op):Code:=(Code.region 0 #[{dst:=some 2,op:=.box ts (.tmp 0),type:=0,pos:="iter.go:50",after:= #[],guard:=none},{dst:=some 4,op:=.assign (.const (.slice none 0 0)),type:=ts,pos:="iter.go:50",after:= #[],guard:=none}] false).seq
 (((Code.region 1 #[{dst:=some 6,op:=.move (.tmp 1),type:=tq,pos:="iter.go:51",after:= #[],guard:=none}] false).seq (.block 0 (.rangeFunc (.tmp 6) #[7] asg (QmZ ts te ld)))).seq
  ((Code.region 4 #[{dst:=some 12,op:=.load ts (.tmp 2),type:=ts,pos:="iter.go:54",after:= #[],guard:=none},{dst:=some 4,op:=.assign (.tmp 12),type:=ts,pos:="iter.go:54",after:= #[{on:=0,ground:=.data},{on:=0,ground:=.phase}],guard:=none}] false).seq .ret))
def Qpx(te:Nat):Code:=.region 2 #[{dst:=some 5,op:=.assign (.tmp 7),type:=te,pos:="iter.go:51",after:= #[],guard:=none}] false
section
variable {P:Program} {T:Type} {ts tq te k tm:Nat} {g:FuncId} {es:List (A×A)} {e:T->List A} {ea:T->A} {xs:List T}
abbrev apH(ts te k tm:Nat)(es:List (A×A))(e:T->List A)(done:List T):Qc:=[.dead,.fmap es,.cells ts [.osl 3 0 done.length k],.row te k (done.map e)]
abbrev apE(g:FuncId):Env:=[(6,.fn (.func g) [] [.ptr 0 0]),(4,.nils),(2,.ptr 2 0),(0,.nils),(1,.fn (.func g) [] [.ptr 0 0])]
theorem Qn7{N:Nat}(B:N=13){done:List T}{x:T}{env:Env}{H:Qc}{K:Qc->Prop}{p:Op}(E:QN P ts te k)(J:∀w,(isAgg ts).run P w=.ok false w)(M:∀w,(sizeOf ts).run P w=.ok 1 w)(F:app done [x]=some (done++[x]))
  (V:(e x).length=k)(g:Nat.ble k 16777216=true)(b:Q8 (ea x)=true)(h:Yi (ea x)=e x)(d:(e x).all Yo=true)(G:Yc (e x)=true)(L:Nat.ble 3 H.length=true)
  (j:lk env 2=.ptr 2 0)(l:H[2]?=some (.cells ts [.osl 3 0 done.length k]))(r:H[3]?=some (.row te k (done.map e)))
  (f:∀env',(∀s,s≠8->lk env' s=lk env s)->∀pos,OpV P {dst:=some 9,op:=p,type:=te,pos:=pos,after:= #[],guard:=none} env' H (ea x))
  (u:∀env',∃H2,Le 3 env' (((((H++[Blk.row te k [e x]]).set 3 .dead)++[Blk.row te k ((done++[x]).map e)]).set 2 (.cells ts [.osl (H.length+1) 0 (done++[x]).length k]))) [] H2/\K H2){env0:Env}{Q:Qx}:
  TC P 3 N (QmZ ts te p) env H (QjB 3 env0 Q K):=by
 subst B;have O:3<=H.length:=XS L;have z:3<H.length:=(XM.1 r).1;refine TC.block (TC.region ?_);refine QE rfl rfl rfl (OpV.load (v:=.osl 3 0 done.length k) (cs:=[]) rfl J j (Pts.cells l rfl)) ?_;refine QE rfl rfl rfl (x:=ea x) ?_ ?_
 .refine f _ (λs R=>?_) _;simp only[up,lk];have:Nat.beq s 8=false:=by
   rw[VN];intro q;exact R (XR q)
  rw[this];rfl
 refine YY (by omega) rfl rfl rfl (OpH.lit (xs:=[.tmp 9]) (es:=[e x]) E rfl rfl (by simpa using g) ?_ ?_ ⟨V,trivial⟩ (by simpa using d) (by simpa using G)) ?_
 .simp[opA,lk,up,b]
 .simp[QB,opA,lk,up,h]
 refine YY (x:=.osl (H.length+1) 0 (done++[x]).length k) (H':=((H++[Blk.row te k [e x]]).set 3 .dead)++[Blk.row te k ((done++[x]).map e)]) (by simp;omega) rfl rfl rfl ?_ ?_
 .have:=QR (P:=P) (o:={dst:=some 11,op:=.call {callee:=.builtin .append,args:= #[.tmp 8,.tmp 10],argTypes:= #[ts,ts]},type:=ts,pos:="iter.go:52",after:= #[{on:=0,ground:=.data},{on:=2,ground:=.data}],guard:=none})
   (env:=up (up (up env 8 (.osl 3 0 done.length k)) 9 (ea x)) 10 (.osl H.length 0 1 k)) (H:=H++[Blk.row te k [e x]]) (x:=.tmp 8) (y:=.tmp 10) (e:=e) (m:=[x]) (i:=3) (n:=done.length) (ya:=.osl H.length 0 1 k) F E E.sl (Jy (t:=te) (by simp) rfl) rfl rfl rfl rfl (by rw[XN z];exact r) rfl
  simpa using this
 refine QbB (by simp;omega) rfl rfl (OpU.store (i:=2) (off:=0) (T:=ts) (n:=1) (cs:=[.osl 3 0 done.length k]) (vs:=[.osl (H.length+1) 0 (done++[x]).length k]) (cs':=[.osl (H.length+1) 0 (done++[x]).length k]) (v:=.osl (H.length+1) 0 (done++[x]).length k) rfl ?_ ?_ M rfl rfl rfl rfl rfl rfl rfl) ?_
 .exact j
 .have a:2<H.length:=by omega
  rw[XN (by simp;omega),XQ (by decide),XN a];exact l
 .refine WO.nil ?_;exact u _
theorem QmY{xs done l rem:List T}{x:T}(hl:Nat.ble xs.length Qq=true)(a:(done++l).Perm xs)(b:l.Perm (x::rem)):app done [x]=some (done++[x])/\((done++[x])++rem).Perm xs:=by
 have d:=a.length_eq;have e:=b.length_eq;have f:=XS hl;simp at d e;refine⟨?_,?_⟩
 .unfold app;have:Nat.ble (done.length+[x].length) Qq=true:=XT (by simp;omega);rw[this];rfl
 .refine List.Perm.trans ?_ a;simp only[Vj,List.singleton_append];exact(List.Perm.append_left done b).symm
theorem QgC{j:FuncId}{fn:Func}(s:P.funcs[j]?=some fn)(u:fn.body=some (Qpw ts tq te (Qpx te) (.move (.tmp 5))))(q:fn.ntmps=13)(y:fn.results= #[.tmp 4])(E:QN P ts te 1)(m:∀w,(isAgg ts).run P w=.ok false w)(B:∀w,(sizeOf ts).run P w=.ok 1 w)
  (J:∀args w,(callFunc g args).run P w=.ok (.enter g args) w)(b:QiB P g [.ptr 0 0] [.cells tm [.map 1],.fmap es] (λx=>[ea x]) anyN xs)(hl:Nat.ble xs.length Qq=true)
  (M:∀x,QbO (ea x)=true)(e:∀x,Q8 (ea x)=true)(h:∀x,Yi (ea x)=[ea x])(f:∀x,Yo (ea x)=true)(z:∀x,Ym (ea x)=true):
  C P j [.nils,.fn (.func g) [] [.ptr 0 0]] [.cells tm [.map 1],.fmap es] (λr H1=>∃p:List T,p.Perm xs/\r=.osl 2 0 p.length 1/\H1=[.dead,.fmap es,.row te 1 (p.map λx=>[ea x])]):=by
 refine Qb s u q rfl ?_;refine TC.seq (TC.region ?_);refine YY (XS rfl) rfl rfl rfl (OpH.box (v:=.nils) (cs:=[.nils]) rfl rfl rfl rfl rfl) ?_;refine QE rfl rfl rfl (OpV.assign (v:=.nils) rfl rfl) ?_;refine WO.nil ?_;refine TC.seq (TC.seq (TC.region ?_));refine QE rfl rfl rfl (OpV.move (v:=.fn (.func g) [] [.ptr 0 0]) rfl rfl) ?_;refine WO.nil ?_;refine TC.block ?_;refine TC.rangeFunc (env:=apE g) (ps:=[7]) (S:=List T) [0,1] (apH ts te 1 tm es (λx=>[ea x])) (λdone l=>(done++l).Perm xs) [] (XS rfl) rfl rfl rfl (by decide) rfl J b (λx=>rfl) ?_ (List.Perm.refl _) ?_ ?_
 .exact QiL (h0:=3) (i:=2) (t:=te) (k:=1) (H:=[.dead,.fmap es,.cells ts [.nils]]) rfl rfl
 .intro done l x rem d G;obtain⟨L,n⟩:=QmY hl d G;refine TC.region (QE rfl rfl rfl (OpV.assign (v:=ea x) rfl rfl) (WO.nil ⟨rfl,?_⟩));refine Qn7 (ea:=ea) rfl E m B L rfl rfl (e x) (h x) (by simp[f x]) (by simp[Yc,z x]) rfl rfl rfl rfl ?_ ?_
  .intro a F pos;exact OpV.move rfl (by show lk a 5=ea x;rw[F 5 (by decide)];rfl)
  .intro a;exact⟨_,Lr (H':=apH ts te 1 tm es (λx=>[ea x]) (done++[x])) [0,1,2,5],_,n,rfl⟩
 .intro done d;rw[Vh]at d;refine TC.seq (TC.region ?_);refine QE rfl rfl rfl (OpV.load (v:=.osl 3 0 done.length 1) (cs:=[]) rfl m rfl (Pts.cells rfl rfl)) ?_;refine QE rfl rfl rfl (OpV.assign (v:=.osl 3 0 done.length 1) rfl rfl) ?_;refine WO.nil ?_;refine TC.ret ?_;exact⟨[(4,.osl 2 0 done.length 1)],[.dead,.fmap es,.row te 1 (done.map λx=>[ea x])],_,Lr [0,1,3],Qc8.one y rfl,done,d,rfl,rfl⟩
end
theorem TCy.le{T:Type}{X:Ctx T}{P:Program}{h0 N:Nat}{c:Code}{env env':Env}{H H':Qc}{st:YSt T}{Q:Yy T}(d:Le h0 env H env' H')(h:TCy X P h0 N c env' H' st Q):TCy X P h0 N c env H st Q:=by
 intro m x l n σ a w g r hj hrd;obtain⟨f,σ',u,s,t⟩:=d l n σ N a w r;obtain⟨⟨p,k,i⟩,j⟩:=hj;exact Code.wpIn_mono (λe a w q=>q.grow s (XU _) t (Grow.refl _ _ _)) (h m x l f σ' a w g u ⟨⟨p,λb z=>s b (k b z),i⟩,j⟩ hrd)
mutual
theorem QhH:∀{a:A},QbO a=true->Ym a=true
 |.any,_=>rfl
 |.bool _,_=>rfl
 |.int _ _,_=>rfl
 |.str _,_=>rfl
 |.nilp,_=>rfl
 |.ptr _ _,h=>by simp[QbO]at h
 |.rp _,_=>rfl
 |.nils,_=>rfl
 |.rsl _ _,_=>rfl
 |.osl _ _ _ _,h=>by simp[QbO]at h
 |.agg cs,h=>by simp only[QbO]at h;simp only[Ym];exact QfS h
 |.fn _ a c,h=>by simp[QbO]at h
 |.nilf,_=>rfl
 |.iface _ v,h=>by simp[QbO]at h
 |.nilif,_=>rfl
 |.map _,h=>by simp[QbO]at h
 |.nilm,_=>rfl
 |.tup vs,h=>by simp[QbO]at h
theorem QfS:∀{l:List A},QeE l=true->Yc l=true
 |[],_=>rfl
 |a::r,h=>by
  simp only[QeE,XX]at h;simp only[Yc,XX];exact⟨QhH h.1,QfS h.2⟩
end
theorem Qhw{P:Program}{o:Oper}{env:Env}{H:Qc}{y z:Operand}{l:Nat}{a:A}{e:Array TypeId}(j:o.op=.call {callee:=.value y,args:= #[z],argTypes:=e})(m:opA env y=.fn (.yield l) [] [])(n:opA env z=a)(g:Ym a=true){N:Nat}:
  ∀fr ro σ act w,Rel fr ro σ H env N act w->∃vs:List Value,LR ro [] w [a] vs/\(execOp act.eval o).run P w=(Instr.yield l vs.toArray).run P w:=by
 intro fr ro σ act w r;have b:=Qd r y;rw[m]at b;obtain⟨h,i,b,k,f⟩:=b;obtain rfl:h=[]:=k;obtain rfl:i=[]:=f;have d:=Qd r z;rw[n]at d;refine⟨[act.eval z],⟨_,_,rfl,VR.data g d,rfl⟩,?_⟩;generalize act.eval=ev at*;simp[execOp,j,resolve,invoke,go_sem,b]
theorem QkC{P:Program}{o:Oper}{env:Env}{H:Qc}{y d a:Operand}{l:Nat}{g e:A}{n:Array TypeId}(t:o.op=.call {callee:=.value y,args:= #[d,a],argTypes:=n})(x:opA env y=.fn (.yield l) [] [])(j:opA env d=g)(h:opA env a=e)(f:Ym g=true)(i:Ym e=true){N:Nat}:
  ∀fr ro σ act w,Rel fr ro σ H env N act w->∃vs:List Value,LR ro [] w [g,e] vs/\(execOp act.eval o).run P w=(Instr.yield l vs.toArray).run P w:=by
 intro fr ro σ act w r;have b:=Qd r y;rw[x]at b;obtain⟨q,s,b,u,p⟩:=b;obtain rfl:q=[]:=u;obtain rfl:s=[]:=p;have k:=Qd r d;rw[j]at k;have m:=Qd r a;rw[h]at m;refine⟨[act.eval d,act.eval a],⟨_,_,rfl,VR.data f k,_,_,rfl,VR.data i m,rfl⟩,?_⟩;generalize act.eval=ev at*;simp[execOp,t,resolve,invoke,go_sem,b]
def Qml(tm tb ty tk:Nat)(asg:Array Oper)(ld:Op):Code:=
 (Code.region 0 #[{dst:=some 4,op:=.load tm (.tmp 1),type:=tm,pos:="iter.go:27",after:= #[],guard:=none},{dst:=some 5,op:=.range tm (.tmp 4),type:=0,pos:="iter.go:27",after:= #[{on:=0,ground:=.data}],guard:=none}] false).seq
 (.block 0 (Code.loop ((Code.region 1 #[{dst:=some 6,op:=.next (.tmp 5) false,type:=0,pos:="iter.go:27",after:= #[],guard:=none},{dst:=some 7,op:=.extract (.tmp 6) 0,type:=tb,pos:="iter.go:27",after:= #[{on:=0,ground:=.data}],guard:=none}] false).seq
  ((Code.cond (.tmp 7) .skip (.exit 0)).seq (.block 1 ((Code.region 2 asg false).seq
   ((Code.region 3 #[{dst:=some 10,op:=.move (.tmp 0),type:=ty,pos:="iter.go:28",after:= #[],guard:=none},{dst:=some 11,op:=ld,type:=tk,pos:="iter.go:28",after:= #[],guard:=none},
    {dst:=some 12,op:=.call {callee:=.value (.tmp 10),args:= #[.tmp 11],argTypes:= #[tk]},type:=tb,pos:="iter.go:28",after:= #[{on:=0,ground:=.data},{on:=1,ground:=.data}],guard:=none},
    {dst:=some 13,op:=.unOp .not tb (.tmp 12),type:=tb,pos:="iter.go:28",after:= #[{on:=2,ground:=.data}],guard:=none}] false).seq (.cond (.tmp 13) .ret .skip))))))))
def Qpe(tk:Nat):Array Oper:= #[{dst:=some 8,op:=.entry (.tmp 5),type:=0,pos:="iter.go:27",after:= #[],guard:=none},{dst:=some 9,op:=.extract (.tmp 8) 0,type:=tk,pos:="iter.go:27",after:= #[{on:=0,ground:=.data}],guard:=none},
 {dst:=some 3,op:=.assign (.tmp 9),type:=tk,pos:="iter.go:27",after:= #[{on:=1,ground:=.data},{on:=0,ground:=.phase},{on:=1,ground:=.phase}],guard:=none}]
section
variable {P:Program} {K V:Type} {tm tb ty tk kt et:Nat} {ek:K->A} {ev:V->A} {m:List (K×V)} {T:Type}
abbrev kyE(l:Nat):Env:=[(0,.fn (.yield l) [] []),(1,.ptr 0 0),(5,.ptr 2 0)]
abbrev kyH(tm:Nat)(ek:K->A)(ev:V->A)(m l:List (K×V)):Qc:=[.cells tm [.map 1],.fmap (Qk ek ev m),.iter none (Qk ek ev l)]
theorem QkQ{g:FuncId}{fn:Func}{d:Array Oper}{r:Op}(B:P.funcs[g]?=some fn)(F:fn.body=some (Qml tm tb ty tk d r))(E:fn.ntmps=14)(G:fn.results= #[])(J:∀w,(isAgg tm).run P w=.ok false w)(O:P.underlying tm=some (.map kt et))(M:∀x,QbO (ek x)=true)
  (round:∀(X:Ctx K) (e:K×V) (l:List (K×V)) (env:Env) (H:Qc) (st:YSt K) (Q:Yy K),lk env 0=.fn (.yield X.l) [] []->lk env 1=.ptr 0 0->lk env 5=.ptr 2 0->H=[.cells tm [.map 1],.fmap (Qk ek ev m),.iter (some (ek e.1,ev e.2)) (Qk ek ev l)]->
   (∀env' H',lk env' 0=.fn (.yield X.l) [] []->lk env' 1=.ptr 0 0->lk env' 5=.ptr 2 0->(∀env2 b,lk env2 0=.fn (.yield X.l) [] []->lk env2 1=.ptr 0 0->lk env2 5=.ptr 2 0->Le 2 (up (up env2 12 (.bool b)) 13 (.bool (!b))) H' (kyE X.l) (kyH tm ek ev m l))->
    (∀pos env2,(∀s,s≠10->lk env2 s=lk env' s)->OpV P {dst:=some 11,op:=r,type:=tk,pos:=pos,after:= #[],guard:=none} env2 H' (ek e.1))->Nat.ble 2 H'.length=true->Q .normal env' H' st)->
   TCy X P 2 14 (.region 2 d false) env H st Q):
  QiB P g [.ptr 0 0] [.cells tm [.map 1],.fmap (Qk ek ev m)] (λx=>[ek x]) anyN (m.map Prod.fst):=by
 refine Qc6 B F E rfl G ?_;intro X hE hNx;refine TCy.seq (TCy.lift (TC.region ?_));refine QE rfl rfl rfl (OpV.load (v:=.map 1) (cs:=[]) rfl J rfl (Pts.cells rfl rfl)) ?_;refine YY (XS rfl) rfl rfl rfl (Qfz O) ?_;refine WO.nil ?_;refine TCy.block ?_;refine Qgv (I:=λn env H st=>∃l:List (K×V),l.length=n/\st=.on (l.map Prod.fst)/\Le 2 env H (kyE X.l) (kyH tm ek ev m l)) ?_ ⟨m,rfl,rfl,Lr [0,1,2]⟩;rintro n env H st ⟨l,L,rfl,i⟩;refine TCy.le i ?_;refine TCy.seq (TCy.lift (TC.region ?_));refine Qjz (XS rfl) rfl rfl rfl (OpE.next rfl rfl rfl) ?_;rintro v H' (⟨k,rfl,rfl⟩|⟨T,R,k,rfl,rfl⟩)
 .have u:l=[]:=List.map_eq_nil_iff.1 k;subst u;refine QE rfl rfl rfl (OpV.extract (v:=.bool false) rfl rfl rfl) ?_;refine WO.nil ?_;refine TCy.seq (TCy.cond (t:=false) rfl (λe=>by cases e) (λ_=>?_));exact TCy.exit ⟨.inl rfl,.inl rfl⟩
 .obtain⟨N,p,j⟩:=QfY k rfl;cases N with
  |nil=>cases j
  |cons e h=>
   simp only[Vk,List.cons.injEq]at j;obtain⟨rfl,rfl⟩:=j;have f:h.length<n:=by rw[<- L, <- p.length_eq];simp
   refine QE rfl rfl rfl (OpV.extract (v:=.bool true) rfl rfl rfl) ?_;refine WO.nil ?_;refine TCy.seq (TCy.cond (t:=true) rfl (λ_=>?_) (λe=>by cases e));refine TCy.skip ?_;refine TCy.block ?_;refine TCy.seq (round X e h _ _ _ _ rfl rfl rfl rfl ?_);intro env' H' g0 g1 g5 hfin hld hL;refine TCy.seq (TCy.region ?_);refine WOy.step (QE rfl rfl rfl (OpV.move (v:=.fn (.yield X.l) [] []) rfl g0) (WO.nil ⟨rfl,?_⟩));refine WOy.step (QE rfl rfl rfl (x:=ek e.1) (hld _ _ λs q=>?_) (WO.nil ⟨rfl,?_⟩))
   .simp only[up,lk];have:Nat.beq s 10=false:=by rw[VN];intro z;exact q (XR z)
    rw[this];rfl
   refine WOy.yield (x:=e.1) (rem:=h.map Prod.fst) ?_ rfl rfl rfl ?_ ?_
   .rw[hNx];exact p.symm.map Prod.fst
   .rw[hE];refine Qhw (y:=.tmp 10) (z:=.tmp 11) (l:=X.l) (a:=ek e.1) rfl ?_ ?_ (QhH (M _))
    .rfl
    .rfl
   .intro b;refine WOy.step (QE rfl rfl rfl (OpV.not (b:=b) rfl rfl) (WO.nil ⟨rfl,?_⟩));refine WOy.nil ?_;refine TCy.cond (t:= !b) rfl (λq=>?_) (λq=>?_)
    .obtain rfl:b=false:=by simpa using q
     exact TCy.ret ⟨.inr rfl,.inr ⟨_,rfl⟩⟩
    .obtain rfl:b=true:=by simpa using q
     refine TCy.skip ?_;exact⟨_,f,h,rfl,rfl,hfin _ true g0 g1 g5⟩
theorem Qfo{g:FuncId}{fn:Func}(h:P.funcs[g]?=some fn)(j:fn.body=some (Qml tm tb ty tk (Qpe tk) (.move (.tmp 3))))(f:fn.ntmps=14)(n:fn.results= #[])(q:∀w,(isAgg tm).run P w=.ok false w)(p:P.underlying tm=some (.map kt et))(k:∀x,QbO (ek x)=true):
  QiB P g [.ptr 0 0] [.cells tm [.map 1],.fmap (Qk ek ev m)] (λx=>[ek x]) anyN (m.map Prod.fst):=by
 refine QkQ (et:=et) (kt:=kt) h j f n q p k ?_;intro X e l env H st Q g0 g1 g5 hH hk;subst hH;refine TCy.lift (TC.region ?_);refine QE rfl rfl rfl (OpV.entry (e:=(ek e.1,ev e.2)) rfl g5 rfl) ?_;refine QE rfl rfl rfl (OpV.extract (v:=ek e.1) rfl rfl rfl) ?_;refine QE rfl rfl rfl (OpV.assign (v:=ek e.1) rfl rfl) ?_;refine WO.nil ?_;refine hk _ _ g0 g1 g5 ?_ ?_ rfl
 .intro a b s t r;exact Le.trans (Qgy (i:=2) (es:=Qk ek ev l) rfl rfl) (Lr [0,1,2] (hE:=⟨s,t,r,trivial⟩))
 .intro pos a d;exact OpV.move rfl (by show lk a 3=_;rw[d 3 (by decide)];rfl)
end
def Qpt(ts tq fA:Nat):Code:=(Code.region 0 #[{dst:=some 2,op:=.assign (.const (.slice none 0 0)),type:=ts,pos:="iter.go:59",after:= #[],guard:=none}] false).seq
 ((Code.region 1 #[{dst:=some 3,op:=.move (.tmp 0),type:=tq,pos:="iter.go:60",after:= #[],guard:=none},
  {dst:=some 4,op:=.call {callee:=.value (.func fA),args:= #[.const (.slice none 0 0),.tmp 3],argTypes:= #[ts,tq]},type:=ts,pos:="iter.go:60",after:= #[{on:=0,ground:=.data}],guard:=none},
  {dst:=some 2,op:=.assign (.tmp 4),type:=ts,pos:="iter.go:60",after:= #[{on:=1,ground:=.data},{on:=1,ground:=.chain},{on:=0,ground:=.phase},{on:=1,ground:=.phase}],guard:=none}] false).seq .ret)
theorem QgB{P:Program}{T:Type}{i l b k j:Nat}{g:FuncId}{es:List (A×A)}{e:T->List A}{xs:List T}{fC a:FuncId}{fn:Func}(n:P.funcs[fC]?=some fn)(q:fn.body=some (Qpt i l a))(s:fn.ntmps=5)(t:fn.results= #[.tmp 2])
  (f:∀(env:Env) (H:Qc),lk env 3=.fn (.func g) [] [.ptr 0 0]->OpC P {dst:=some 4,op:=.call {callee:=.value (.func a),args:= #[.const (.slice none 0 0),.tmp 3],argTypes:= #[i,l]},type:=i,pos:="iter.go:60",after:= #[{on:=0,ground:=.data}],guard:=none} env H a [.nils,.fn (.func g) [] [.ptr 0 0]])
  (m:C P a [.nils,.fn (.func g) [] [.ptr 0 0]] [.cells j [.map 1],.fmap es] (λr H1=>∃p:List T,p.Perm xs/\r=.osl 2 0 p.length k/\H1=[.dead,.fmap es,.row b k (p.map e)])):
  C P fC [.fn (.func g) [] [.ptr 0 0]] [.cells j [.map 1],.fmap es] (λr H1=>∃p:List T,p.Perm xs/\r=.osl 2 0 p.length k/\H1=[.dead,.fmap es,.row b k (p.map e)]):=by
 refine Qb n q s rfl ?_;refine TC.seq (TC.region ?_);refine QE rfl rfl rfl (OpV.assign (v:=.nils) rfl rfl) ?_;refine WO.nil ?_;refine TC.seq (TC.region ?_);refine QE rfl rfl rfl (OpV.move (v:=.fn (.func g) [] [.ptr 0 0]) rfl rfl) ?_;refine WO.call (d:=some 4) [0,1] (XS rfl) rfl rfl (λx h=>by cases h;decide) (f _ _ rfl) rfl rfl (by decide) m ?_;rintro r H1 ⟨p,u,rfl,rfl⟩;refine QE rfl rfl rfl (OpV.assign (v:=.osl 2 0 p.length k) rfl rfl) ?_;refine WO.nil ?_;refine TC.ret ?_;exact⟨[(2,.osl 2 0 p.length k)],[.dead,.fmap es,.row b k (p.map e)],_,Lr [0,1,2],Qc8.one t rfl,p,u,rfl,rfl⟩
def Qlc{K R:Type}[DecidableEq R](l:List K)(k:List K->Option R):Option R:=bif Nat.ble l.length Qq then anyP k l else none
theorem Qkr{K R:Type}[DecidableEq R]{l:List K}{k:List K->Option R}{r:R}(h:Qlc l k=some r):Nat.ble l.length Qq=true/\ ∀p,p.Perm l->k p=some r:=by
 unfold Qlc at h;cases q:Nat.ble l.length Qq with
 |true=>rw[q]at h;exact⟨rfl,Qkq h⟩
 |false=>rw[q]at h;cases h
end Go.Sw
namespace Go.Sw
section
variable {P:Program} {o:Oper} {env:Env} {H:Qc} {fr ro:Nat->Prop} {σ:Sig} {w:World}
theorem Qlx{h0 i t b1 b2:Nat}{es:List (List A)}{l:List Ent}(hH:H[i]?=some (.rowr t 3 es))(he:l.map (eC b1 b2)=es):Le h0 env H env (H.set i (.ents t b1 b2 l)):=by
 subst he;intro e d σ N a w r;refine⟨d,σ,⟨r.sim.weaken (x':=.ents t b1 b2 l) hH rfl ?_,r.env,r.size,r.defers⟩,λ_ q=>q,rfl⟩;intro y h;cases y with
 |none=>exact h.elim
 |some b=>exact h
theorem Qc0{b1 b2:Nat}:∀(l:List Ent),allK 3 (l.map (eC b1 b2))
 |[]=>trivial
 |e::l=>⟨rfl,Qc0 l⟩
theorem Sim.phantomE(s:Sim fr ro σ H w)(t b1 b2:Nat):Sim fr ro (σ++[none]) (H++[.ents t b1 b2 []]) w:=by
 have ext:Ext ro σ w ro (σ++[none]) w:=⟨λ_ q=>q,λ_ _=>rfl,λ_ _ q=>q,λ_ _ h=>YH h⟩;have E:=s.len;have a:∀(j:Nat) (v:Blk),(H++[Blk.ents t b1 b2 []])[j]?=some v->(j<H.length/\H[j]?=some v)\/(j=H.length/\v=.ents t b1 b2 []):=by
  intro j v h;rcases Nat.lt_trichotomy j H.length with q|q|q
  .rw[XN q]at h;exact .inl ⟨q,h⟩
  .subst q;simp at h;exact .inr ⟨rfl,h.symm⟩
  .rw[XP (by simp;omega)]at h;cases h
 have hσ:∀(j:Nat) (z:Option Nat),(σ++[none])[j]?=some z->(j<σ.length/\σ[j]?=some z)\/(j=σ.length/\z=none):=by
  intro j z h;rcases Nat.lt_trichotomy j σ.length with q|q|q
  .rw[XN q]at h;exact .inl ⟨q,h⟩
  .subst q;simp at h;exact .inr ⟨rfl,h.symm⟩
  .rw[XP (by simp;omega)]at h;cases h
 refine⟨by simp[E],s.roOk,s.frLt,s.roFr,λi b x k g n=>?_,λi j b x y k g n L B F=>?_,λi z x k g=>?_,
  s.hidTo (· = ·) QW (XU _) (λ_ _ _ _ _ _ _ q=>q) (λ_ _ _ _ _ _ _ q=>q) λj d y G J M=>.inl ?_⟩
 rotate_left 3
 .rcases hσ j _ G with⟨l,f⟩|⟨_,r⟩
  .rcases a j y J with⟨_,e⟩|⟨e,_⟩
   .exact⟨j,y,rfl,f,e,id,λ_ q=>q⟩
   .omega
  .cases r
 .rcases hσ i _ k with⟨l,f⟩|⟨_,r⟩
  .rcases a i x g with⟨_,e⟩|⟨e,_⟩
   .exact s.own i b x f e n
   .omega
  .cases r
 .rcases hσ i _ k with⟨l,f⟩|⟨_,r⟩
  .rcases hσ j _ g with⟨u,m⟩|⟨_,r⟩
   .rcases a i x n with⟨_,e⟩|⟨e,_⟩
    .rcases a j y L with⟨_,p⟩|⟨p,_⟩
     .exact s.inj i j b x y f m e p B F
     .omega
    .omega
   .cases r
  .cases r
 .rcases hσ i _ k with⟨l,f⟩|⟨l,rfl⟩
  .rcases a i x g with⟨_,e⟩|⟨e,_⟩
   .exact(s.blk i z x f e).keep ext (λ_ _ _=>rfl) (λ_ _ _ _=>rfl)
   .omega
  .rcases a i x g with⟨e,_⟩|⟨_,rfl⟩
   .omega
   .rfl
theorem Le.phantomE{h0 i m t T b1 b2:Nat}{cs:List A}(E:Nat.ble h0 H.length=true)(hH:H[i]?=some (.cells T cs))(e:cs[m]?=some .nils):
  Le h0 env H env (H.set i (.cells T (cs.set m (.osl H.length 0 0 3)))++[.ents t b1 b2 []]):=by
 intro G g σ N a w r;have f:h0<=H.length:=XS E;have p:i<H.length:=(XM.1 hH).1;have ext:Ext g σ w g (σ++[none]) w:=⟨λ_ q=>q,λ_ _=>rfl,λ_ _ q=>q,λ_ _ h=>YH h⟩;have s:=r.sim.phantomE t b1 b2;have d:(H++[Blk.ents t b1 b2 []])[i]?=some (.cells T cs):=by rw[XN p];exact hH
 have x:H.set i (.cells T (cs.set m (.osl H.length 0 0 3)))++[.ents t b1 b2 []]=(H++[Blk.ents t b1 b2 []]).set i (.cells T (cs.set m (.osl H.length 0 0 3))):=by
  rw[List.set_append_left _ _ p]
 rw[x];refine⟨g,σ++[none],⟨s.weaken d rfl ?_,λq=>(r.env q).mono ext,r.size,r.defers⟩,λ_ q=>q,Qs (by rw[r.sim.len];exact f)⟩;intro y h;cases y with
 |none=>exact h
 |some b=>
  obtain⟨l,u,F,n⟩:=h;refine⟨l,u,?_,n⟩;clear u n d x hH
  induction cs generalizing m l with
  |nil=>cases e
  |cons c cs B=>
   obtain⟨v,j,rfl,z,k⟩:=F;cases m with
   |zero=>
    simp at e;subst e;exact⟨v,j,rfl,.inl ⟨rfl,z⟩,k⟩
   |succ m=>exact⟨v,j,rfl,z,B (by simpa using e) j k⟩
theorem QU{h0 i m T:Nat}{cs:List A}(hH:H[i]?=some (.cells T cs)):Le h0 env H env (H.set i (.cells T (cs.set m .any))):=by
 intro s n σ N a w r;refine⟨n,σ,⟨r.sim.weaken hH rfl ?_,r.env,r.size,r.defers⟩,λ_ q=>q,rfl⟩;intro y h;cases y with
 |none=>exact h
 |some b=>
  obtain⟨l,g,j,f⟩:=h;refine⟨l,g,?_,f⟩;clear g f hH
  induction cs generalizing m l with
  |nil=>exact j
  |cons c cs k=>
   obtain⟨v,d,rfl,p,e⟩:=j;cases m with
   |zero=>exact⟨v,d,rfl,trivial,e⟩
   |succ m=>exact⟨v,d,rfl,p,k d e⟩
theorem srcE{j m t b1 b2:Nat}{l:List Ent}{v:Value}(s:Sim fr ro σ H w)(hH:H[j]?=some (.ents t b1 b2 l))(e:l.length=m)(h:VR ro σ w (.osl j 0 m 3) v):
  (∃a c,v=.slice a m c)/\ ∃vs:List Value,(∀w':World,w'.heap=w.heap->(Builtin.firstCells 3 m v).run P w'=.ok vs.toArray w')/\LR ro σ w (l.map (eC b1 b2)).flatten vs/\ ∀v∈vs,Qm v:=by
 rcases h with⟨rfl,rfl⟩|⟨b,p,d,E,F,r,rfl,f,B,J,G⟩
 .have:l=[]:=VK.1 e;subst this;exact⟨⟨none,0,rfl⟩,[],λ_ _=>YM,rfl,by simp⟩
 .refine⟨⟨_,d,rfl⟩,?_⟩;obtain⟨L,y,i⟩:=s.blk j _ _ r hH;have q:=YI (pre:=[]) (by simpa using y) i;by_cases u:0<d
  .obtain rfl:=f u;obtain⟨g,z,x⟩:=q.flat;have:=Qb5 (P:=P) (k:=3) (n:=m) (c:=d) g (by rw[x];simp[e]);simpa using this
  .obtain rfl:m=0:=by omega
   have:l=[]:=VK.1 e;subst this;exact⟨[],λ_ _=>YM,rfl,by simp⟩
theorem Qng{c:Call}{T T' t e' i j n m b1 b2:Nat}{x y:Operand}{l k:List Ent}(E:QN P T t 3)(hd:∀w,(underlying T').run P w=.ok (.slice e') w)(F:Nat.ble (l.length+k.length) Qq=true)(ae:Nat.blt 0 n=true)
  (ho:o.op=.call c:=by exact rfl)(hc:c={callee:=.builtin .append,args:= #[x,y],argTypes:= #[T,T']}:=by exact rfl)(hx:opA env x=.osl i 0 n 3:=by exact rfl)(hH:H[i]?=some (.ents t b1 b2 l):=by exact rfl)(hn:l.length=n:=by exact rfl)
  (Q:opA env y=.osl j 0 m 3:=by exact rfl)(hHj:H[j]?=some (.ents t b1 b2 k):=by exact rfl)(hm:k.length=m:=by exact rfl):
  OpH P o env H (.osl H.length 0 (l++k).length 3) (H.set i .dead++[.ents t b1 b2 (l++k)]):=by
 intro fr s σ N a w r;have af:=XS F;have aj:0<n:=by simpa using ae
 have B:=Qd r x;rw[hx]at B;have h2:=Qd r y;rw[Q]at h2;obtain⟨⟨ay,cy,e1⟩,vs,M,O,L⟩:=srcE (P:=P) r.sim hHj hm h2;rw[e1]at M;obtain⟨_,e,o1,o2,o3⟩:=srcE (P:=P) r.sim hH hn B;have ag:i<H.length:=(XM.1 hH).1;have ak:(H.set i .dead).length=H.length:=X5;rw[X4,hn,hm];rcases B with⟨q,_⟩|⟨b,p,cap,t',mm,h3,B,h4,h5,R,h7⟩
 .omega
 have J:=r.sim.blk i _ _ h3 hH;obtain⟨X,g1,g2⟩:=J;have z:vs.length=m*3:=by rw[O.length,Yu (Qc0 k)];simp[hm]
 have ab:e.length=n*3:=by rw[o2.length,Yu (Qc0 l)];simp[hn]
 rw[B]at o1;by_cases g:n+m<=cap
 .obtain rfl:p=0*3:=h4 (by omega);have h:=QcK (t:=o.type) E hd (ad:=some ⟨b,0*3,none⟩) (n:=n) (m:=m) (cap:=cap) (c:=cy) (ax:=ay) g (M w rfl);have u:(n+m)*3<=X.length:=by
   have:w.shape? b=some (t,X.length):=by unfold World.shape?;rw[g1];simp
   rw[this]at R;cases R;exact XW (XC 3 g) (by simpa using h7)
  rw[XA]at u;have ah:=Yg (P:=P) (vs:=vs) (n*3) 0 g1 (by rw[z];simpa using u) L;have f:=r.sim.set (x':=.ents t b1 b2 (l++k)) (obj:=.cells (splice X (n*3) vs).toArray t (0,0)) h3 hH rfl
   (λy Q=>QaJ g1 (Yd (by rw[z];exact u)) y Q)
   (λex ai=>⟨_,ai,by
    have:=(g2.app (n:=n) (by simp[hn]) (Qc0 k) O L).mono ex;rw[VJ (by simp[hn])]at this;rw[Xg];exact this⟩)
  have sm:=f.1.moved (i:=i) (Xa ag) h3;rw[List.set_set]at sm;refine⟨.slice (some ⟨b,0*3,none⟩) (n+m) cap,_,s,[some b],?_,.inr ⟨b,0*3,cap,t',mm,?_,rfl,h4,g,?_,h7⟩,sm,f.2⟩
  .refine YW ho hc _ ?_;rw[B,e1,h];simp only[Ja,Nat.zero_mul,Xw,Vn,ah,Result.andThen,Vp];simp
  .rw[<- r.sim.len];simp
  .exact f.2.shape _ _ R
 .obtain⟨d,nc,Y,aa,h⟩:=QhI (t:=o.type) E hd rfl (by omega) (by omega) M o1
  let w0:World:={w with drawn:=w.drawn+1}
  have G:Sim fr s σ (H.set i .dead) w0:=(r.sim.kill i).heap rfl;have e0:Qe fr s w s w0:=Qe.heap rfl rfl rfl rfl (Nat.le_succ _);have W:LR s σ w0 ((l++k).map (eC b1 b2)).flatten (e++vs):=by
   rw[Xg,List.flatten_append];exact(o2.append O).mono (Ext.heap (w:=w) (w':=w0) rfl)
  have V:∀v∈e++vs,Qm v:=λv hv=>by rcases VE.1 hv with q|q;exact o3 v q;exact L v q
  have s1:=G.alloc (x:=.ents t b1 b2 (l++k)) (obj:=.cells ((e++vs)++d).toArray t) ⟨(e++vs)++d,Q9 _ _,(Y0 (Qc0 _) W V).mono ((Qe.alloc (fr:=fr) _ G.roLt G.frLt).ext σ _)⟩;have ac:Qe fr s w0 s (w0.alloc (.cells ((e++vs)++d).toArray t)):=Qe.alloc _ G.roLt G.frLt;refine⟨_,_,s,[some w.heap.size],YW ho hc a.eval (by rw[B,e1];exact h),.inr ⟨w.heap.size,0,nc,t,(e++vs++d).length,?_,rfl,λ_=>by simp,Y,?_,?_⟩,s1,e0.trans ac⟩
  .rw[<- r.sim.len];simp
  .have:=Q9 w0 (.cells ((e++vs)++d).toArray t);unfold World.shape?;rw[show w.heap.size=w0.heap.size from rfl,this];simp
  .simp only[X4,aa,ab,z,Xw];omega
theorem Qgx{c:Call}{T T' t e' i j n m b1 b2:Nat}{x y:Operand}{d a r:List Ent}(h:app d a=some r)(E:QN P T t 3)(f:∀w,(underlying T').run P w=.ok (.slice e') w)(b:Nat.blt 0 n=true)
  (g:o.op=.call c:=by exact rfl)(hc:c={callee:=.builtin .append,args:= #[x,y],argTypes:= #[T,T']}:=by exact rfl)(hx:opA env x=.osl i 0 n 3:=by exact rfl)(hH:H[i]?=some (.ents t b1 b2 d):=by exact rfl)(hn:d.length=n:=by exact rfl)
  (hy:opA env y=.osl j 0 m 3:=by exact rfl)(hHj:H[j]?=some (.ents t b1 b2 a):=by exact rfl)(hm:a.length=m:=by exact rfl):
  OpH P o env H (.osl H.length 0 r.length 3) (H.set i .dead++[.ents t b1 b2 r]):=by
 obtain⟨e,rfl⟩:=Qhg h;exact Qng E f (XT e) b g hc hx hH hn hy hHj hm
theorem Pts.ents{i off t e f b1 b2:Nat}{l:List Ent}{x:Ent}{cs':List A}(he:l[e]?=some x)(hH:H[i]?=some (.ents t b1 b2 l):=by exact rfl)(ho:off=e*3+f:=by exact rfl)(hcs:(eC b1 b2 x).drop f=cs':=by exact rfl):Pts H (.ptr i off) cs':=by
 intro n m σ w v s h;obtain⟨b,j,d⟩:=h;obtain⟨p,k,g⟩:=s.blk i _ _ j hH;have a:(l.map (eC b1 b2))[e]?=some (eC b1 b2 x):=by rw[Xq,he];rfl
 have:=((YI (pre:=[]) (by simpa using k) g).get e a).2.drop f;refine⟨b,off,d,?_⟩;rw[<- hcs,ho];simpa using this
def QfH(cs:List A)(s:Int)(e:Ent):Option Int:=bif e.fl then(bif e.off==0 then some s else none)else match cs[e.off]? with
 |some (.int .i64 v)=>some v
 |_=>none
def Qi8{F:Type}(put:F->Nat->Int->Option F)(x:F)(s:Int)(e:Ent)(v:Int):Option (F×Int):=
 bif e.fl then(bif e.off==0 then some (x,v)else none)else(put x e.off v).map λy=>(y,s)
abbrev Qhc(b1 b2:Nat)(e:Ent):A:=.ptr (bif e.fl then b2 else b1) e.off
theorem QmN{l:List A}{i:Nat}{a:A}(h:l[i]?=some a):∃r,l.drop i=a::r:=by
 obtain⟨b,rfl⟩:=XM.1 h;exact⟨_,Xr b⟩
theorem Qcd{t b1 b2 T1 T2:Nat}{x:Operand}{e:Ent}{cs:List A}{s v:Int}(h:QfH cs s e=some v)(i:∀w,(isAgg t).run P w=.ok false w)(g:o.op=.load t x:=by exact rfl)(hx:opA env x=Qhc b1 b2 e:=by exact rfl)
  (h1:H[b1]?=some (.cells T1 cs):=by exact rfl)(h2:H[b2]?=some (.cells T2 [.int .i64 s]):=by exact rfl):OpV P o env H (.int .i64 v):=by
 unfold QfH at h;unfold Qhc at hx;cases f:e.fl with
 |true=>
  rw[f]at h hx;simp only[Vq]at h hx;cases b:e.off==0 with
  |false=>rw[b]at h;cases h
  |true=>
   rw[b]at h;have m:e.off=0:=by simpa using b
   rw[m]at hx;have j:s=v:=by simpa using h
   subst j;exact OpV.load g i hx (Pts.cells (cs':=[.int .i64 s]) h2 rfl)
 |false=>
  rw[f]at h hx;simp only[Vr]at h hx;cases d:cs[e.off]? with
  |none=>rw[d]at h;cases h
  |some a=>
   rw[d]at h;obtain⟨r,l⟩:=QmN d;cases a with
   |int k n=>
    cases k<;>first|(cases h;exact OpV.load g i hx (Pts.cells h1 l))|cases h
   |_=>cases h
theorem QiW{l:List A}{i:Nat}{a:A}(h:i<l.length):splice l i [a]=l.set i a:=by
 unfold splice;rw[List.set_eq_take_append_cons_drop,Vu h];simp
theorem QhF{i:Nat}{b:Blk}(h:H[i]?=some b):H.set i b=H:=by
 apply List.ext_getElem?;intro j;rw[Xb];by_cases e:i=j
 .subst e;rw[Vu rfl,Vu (XM.1 h).1,h]
 .rw[Vt e]
theorem QjH{F:Type}{c:F->List A}{put:F->Nat->Int->Option F}{t b1 b2 T1 T2:Nat}{x y:Operand}{e:Ent}{f f':F}{s s' v:Int}(h:Qi8 put f s e v=some (f',s'))(a:∀x o v y,put x o v=some y->c y=(c x).set o (.int .i64 v)/\o<(c x).length)
  (m:∀w,(sizeOf t).run P w=.ok 1 w)(l:o.op=.store t x y:=by exact rfl)(hx:opA env x=Qhc b1 b2 e:=by exact rfl)(h1:H[b1]?=some (.cells T1 (c f)):=by exact rfl)(h2:H[b2]?=some (.cells T2 [.int .i64 s]):=by exact rfl)(hy:opA env y=.int .i64 v:=by exact rfl)
  (hb:Nat.beq b1 b2=false:=by exact rfl):OpU P o env H ((H.set b1 (.cells T1 (c f'))).set b2 (.cells T2 [.int .i64 s'])):=by
 have d:b1≠b2:=λq=>by subst q;rw[VG]at hb;cases hb
 unfold Qi8 at h;unfold Qhc at hx;cases j:e.fl with
 |true=>
  rw[j]at h hx;simp only[Vq]at h hx;cases b:e.off==0 with
  |false=>rw[b]at h;cases h
  |true=>
   rw[b]at h;have p:e.off=0:=by simpa using b
   rw[p]at hx;obtain⟨rfl,rfl⟩:f=f'/\v=s':=by simpa using h
   rw[QhF h1];exact OpU.store (cs:=[.int .i64 s]) (vs:=[.int .i64 v]) (cs':=[.int .i64 v]) (v:=.int .i64 v) l hx h2 m hy rfl rfl rfl rfl rfl rfl
 |false=>
  rw[j]at h hx;simp only[Vr]at h hx;cases i:put f e.off v with
  |none=>rw[i]at h;cases h
  |some g=>
   rw[i]at h;obtain⟨rfl,rfl⟩:g=f'/\s=s':=by simpa using h
   obtain⟨r,k⟩:=a _ _ _ _ i;have n:(H.set b1 (.cells T1 (c g)))[b2]?=some (.cells T2 [.int .i64 s]):=by rw[XQ d];exact h2
   rw[QhF n];exact OpU.store (cs:=c f) (vs:=[.int .i64 v]) (cs':=c g) (v:=.int .i64 v) l hx h1 m hy rfl rfl rfl rfl (XT k) (by rw[QiW k,r])
end
section
variable {P:Program} {h0 N:Nat} {A B C:Code} {env:Env} {H:Qc} {Q:Qx}
theorem Qna{S B1:Type}{b:Ctl S B1}(Eb:S->Env)(Hb:S->Qc)(h:TC P h0 N A env H (Seq P h0 N B (QgA h0 b Eb Hb (Seq P h0 N C Q))))(k:∀s env H,b=.cont s->Le h0 env H (Eb s) (Hb s)->Seq P h0 N C Q .normal env H):TC P h0 N (.seq A (.seq B C)) env H Q:=by
 refine TC.seq (h.mono λx env' H' q=>?_);cases x with
 |normal=>exact TC.seq (Qhj Eb Hb q k)
 |exit id=>exact q
 |ret=>exact q
end
end Go.Sw
namespace Go.Sw
section
variable {P:Program} {o:Oper} {env:Env} {H:Qc}
theorem Qe5{f g:Nat->Option (Nat×Nat)}:∀(parts:List (Nat×Value)) (cs:Array Value),(∀p∈parts,f p.1=g p.1)->Instr.fill f cs parts=Instr.fill g cs parts
 |[],cs,_=>rfl
 |(i,v)::rest,cs,h=>by
  unfold Instr.fill;rw[h (i,v) (by simp)];have ih:=λcs=>Qe5 rest cs (λp hp=>h p (by simp[hp]));cases g i with
  |none=>rfl
  |some p=>
   obtain⟨off,size⟩:=p;simp only;split
   .rfl
   .exact ih _
theorem Jz{t e n k:Nat}{z:Value}{zs cs:List A}{parts:List (Nat×Operand)}(G:∀w,(zeroValue t).run P w=.ok z w)(u:ZR (.agg zs) z)(g:∀w,(underlying t).run P w=.ok (.array n e) w)(x:∀w,(sizeOf e).run P w=.ok k w)
  (s:(parts.all λp=>Nat.blt p.1 n)=true)(B:o.op=.build t parts.toArray:=by exact rfl)(hf:Qd0 env ((List.range n).map λi=>(i*k,k)) zs parts=some cs:=by exact rfl):OpV P o env H (.agg cs):=by
 intro J m σ N a w r;obtain⟨l,rfl,y⟩:=u m σ w;obtain⟨d,E,h⟩:=Qe6 r parts zs l cs y hf;refine⟨.agg d.toArray,?_,d,rfl,h⟩;have f:Instr.fill (λi=>some (i*k,k)) l.toArray (parts.map λp=>(p.1,a.eval p.2))=some d.toArray:=by
  rw[<- E];refine Qe5 _ _ ?_;intro p F;obtain⟨q,j,rfl⟩:=Xf.1 F;have b:q.1<n:=by simpa using Xt.1 s q j
  simp[b]
 generalize hρ:a.eval=ρ at*;simp only[execOp,B,Instr.build,Vn,G,Result.andThen,g,x,XJ,Vp,Value.cells,f]
def orI(k:IntKind)(m n:Int):Int:=k.wrap (BitVec.ofInt k.bits m|||BitVec.ofInt k.bits n).toNat
def Qew(k:IntKind)(m n:Int):Int:=k.wrap (BitVec.ofInt k.bits m^^^BitVec.ofInt k.bits n).toNat
def QeC(k:IntKind)(m n:Int):Int:=k.wrap (m*2^(min n.toNat k.bits))
def Qcs(k:IntKind)(m n:Int):Int:=m.fdiv (2^(min n.toNat k.bits))
theorem OpV.or{t u:TypeId}{x y:Operand}{k:IntKind}{m n:Int}(f:o.op=.binOp .or t x y u)(e:opA env x=.int k m)(g:opA env y=.int k n):OpV P o env H (.int k (orI k m n)):=by
 intro i h σ N a w r;have b:=QK r e;have d:=QK r g;refine⟨_,?_,rfl⟩;generalize a.eval=ρ at*;simp[execOp,f,b,d,Go.binOp,eqGuard,Op.intBits,go_sem,orI]
theorem OpV.xor{t u:TypeId}{x y:Operand}{k:IntKind}{m n:Int}(f:o.op=.binOp .xor t x y u)(e:opA env x=.int k m)(g:opA env y=.int k n):OpV P o env H (.int k (Qew k m n)):=by
 intro i h σ N a w r;have b:=QK r e;have d:=QK r g;refine⟨_,?_,rfl⟩;generalize a.eval=ρ at*;simp[execOp,f,b,d,Go.binOp,eqGuard,Op.intBits,go_sem,Qew]
theorem OpV.shl{t u:TypeId}{x y:Operand}{k b:IntKind}{m n:Int}(h:o.op=.binOp .shl t x y u)(g:opA env x=.int k m)(i:opA env y=.int b n)(e:0<=n):OpV P o env H (.int k (QeC k m n)):=by
 intro l j σ N a w r;have f:=QK r g;have d:=QK r i;refine⟨_,?_,rfl⟩;generalize a.eval=ρ at*;simp[execOp,h,f,d,Go.binOp,eqGuard,Op.shift,go_sem,QeC,Int.not_lt.2 e]
theorem OpV.shr{t u:TypeId}{x y:Operand}{k b:IntKind}{m n:Int}(h:o.op=.binOp .shr t x y u)(g:opA env x=.int k m)(i:opA env y=.int b n)(e:0<=n):OpV P o env H (.int k (Qcs k m n)):=by
 intro l j σ N a w r;have f:=QK r g;have d:=QK r i;refine⟨_,?_,rfl⟩;generalize a.eval=ρ at*;simp[execOp,h,f,d,Go.binOp,eqGuard,Op.shift,go_sem,Qcs,Int.not_lt.2 e]
theorem Qd8{h0 i m t k T:Nat}{cs:List A}(F:Nat.ble h0 H.length=true)(hH:H[i]?=some (.cells T cs))(e:cs[m]?=some .nils):
  Le h0 env H env (H.set i (.cells T (cs.set m (.osl H.length 0 0 k)))++[.row t k []]):=by
 intro J g σ N a w r;have f:h0<=H.length:=XS F;have u:i<H.length:=(XM.1 hH).1;have ext:Ext g σ w g (σ++[none]) w:=⟨λ_ q=>q,λ_ _=>rfl,λ_ _ q=>q,λ_ _ h=>YH h⟩;have s:=r.sim.phantom t k;have d:(H++[Blk.row t k []])[i]?=some (.cells T cs):=by rw[XN u];exact hH
 have z:H.set i (.cells T (cs.set m (.osl H.length 0 0 k)))++[.row t k []]=(H++[Blk.row t k []]).set i (.cells T (cs.set m (.osl H.length 0 0 k))):=by
  rw[List.set_append_left _ _ u]
 rw[z];refine⟨g,σ++[none],⟨s.weaken d rfl ?_,λq=>(r.env q).mono ext,r.size,r.defers⟩,λ_ q=>q,Qs (by rw[r.sim.len];exact f)⟩;intro y h;cases y with
 |none=>exact h
 |some b=>
  obtain⟨l,x,G,p⟩:=h;refine⟨l,x,?_,p⟩;clear x p d z hH
  induction cs generalizing m l with
  |nil=>cases e
  |cons c cs E=>
   obtain⟨v,j,rfl,B,n⟩:=G;cases m with
   |zero=>
    simp at e;subst e;exact⟨v,j,rfl,.inl ⟨rfl,B⟩,n⟩
   |succ m=>exact⟨v,j,rfl,B,E (by simpa using e) j n⟩
theorem Qly{h0 i s g n k:Nat}{x:Blk}(l:lk env s=.osl i g n k)(hH:H[i]?=some x)(y:Nat.ble h0 H.length=true):Le h0 env H (up env s (.osl H.length g n k)) (H.set i .dead++[x]):=by
 intro E f σ N a w r;have z:i<σ.length:=by rw[r.sim.len];exact(XM.1 hH).1
 have hσ:σ[i]?=some σ[i]:=XL z;have ext:Ext f σ w f (σ++[σ[i]]) w:=⟨λ_ q=>q,λ_ _=>rfl,λ_ _ q=>q,λ_ _ h=>YH h⟩;refine⟨f,σ++[σ[i]],⟨r.sim.moved hH hσ,?_,r.size,r.defers⟩,λ_ q=>q,Qs (by rw[r.sim.len];exact XS y)⟩;intro d;simp only[lk];by_cases q:d=s
 .subst q;rw[VG];have:=r.env d;rw[l]at this;rcases this with h|⟨b,p,e,t,m,B,j⟩
  .exact .inl h
  .refine .inr ⟨b,p,e,t,m,?_,j⟩;rw[B]at hσ;rw[<- r.sim.len];simpa using hσ.symm
 .have:Nat.beq d s=false:=by
   rw[VN];intro u;exact q (XR u)
  rw[this];exact(r.env d).mono ext
def Qbz(n:Int):UInt8:=n.toNat.toUInt8
def Qlg(P:Program)(H:Qc)(x:A)(l:List Int):Prop:=
 ∀fr ro σ w v,Sim fr ro σ H w->VR ro σ w x v->(∃a c,v=.slice a 0 c/\l=[])\/ ∃b off c,v=.slice (some ⟨b,off,none⟩) l.length c/\(l=[]\/CR ro σ w b (l.map λn=>A.int .u8 n) off)
theorem Qg4:∀(l:List Int),(l.map (λn=>[A.int .u8 n])).flatten=l.map λn=>A.int .u8 n
 |[]=>rfl
 |n::l=>by simp[Qg4 l]
theorem Qlg.nils:Qlg P H .nils []:=λfr ro σ w v s h=>.inl ⟨none,0,h,rfl⟩
theorem Qlg.row{i t n:Nat}{l:List Int}(hH:H[i]?=some (.row t 1 (l.map λn=>[A.int .u8 n])):=by exact rfl)(hn:l.length=n:=by exact rfl):Qlg P H (.osl i 0 n 1) l:=by
 intro u r σ w v s h;rcases h with⟨rfl,rfl⟩|⟨b,p,a,x,m,j,rfl,f,q,z,y⟩
 .exact .inl ⟨none,0,rfl,VK.1 hn⟩
 .refine .inr ⟨b,p,a,by rw[hn],?_⟩;by_cases d:l=[]
  .exact .inl d
  .have:0<a:=by have:=List.length_pos_iff.2 d;omega
   obtain rfl:=f this;obtain⟨B,k,g⟩:=s.blk i _ _ j hH;have e:=(YI (pre:=[]) (by simpa using k) g).flat.1;rw[Qg4]at e;exact .inr (by simpa using e.lift)
theorem Qlg.rsl{l:List Int}:Qlg P H (.rsl 1 (l.map λn=>[A.int .u8 n])) l:=by
 intro i h σ w v s ⟨a,c,h1,h2,d⟩;subst h1;rw[X3]at*;rcases d with d|⟨b,e,rfl,j,g⟩
 .have:l=[]:=List.map_eq_nil_iff.1 d;subst this;exact .inl ⟨a,c,by simp,rfl⟩
 .have f:=g.flat.1;rw[Qg4]at f;exact .inr ⟨b,e,c,rfl,.inr f.lift⟩
theorem Qck{ro:Nat->Prop}{σ:Sig}{w:World}{b:Nat}:∀(l:List Int) (off:Nat) (a:ByteArray),CR ro σ w b (l.map λn=>A.int .u8 n) off->(Extern.Bytes.loadBytes ⟨b,off,none⟩ l.length a).run P w=.ok ⟨a.data++(l.map Qbz).toArray⟩ w
 |[],off,a,_=>by simp[Extern.Bytes.loadBytes,go_sem]
 |n::l,off,a,⟨⟨v,h1,hp,h2⟩,h3⟩=>by
  have h2':v=.int .u8 n:=h2;subst h2';have ih:=Qck l (off+1) (a.push n.toNat.toUInt8) h3;have hl:(Go.load ⟨b,off,none⟩).run P w=.ok (.int .u8 n) w:=by simp[Go.load,Sem.run,h1]
  simp only[X2,Extern.Bytes.loadBytes,Vn,hl,Result.andThen];have d:(⟨b,off,none⟩:Addr).add 1=⟨b,off+1,none⟩:=by simp[Ja]
  rw[d,ih];simp[Qbz,ByteArray.push]
theorem QdR{fr ro:Nat->Prop}{σ:Sig}{w:World}{x:A}{l:List Int}{v:Value}(h:Qlg P H x l)(s:Sim fr ro σ H w)(f:VR ro σ w x v):(Extern.Bytes.bytesOf v).run P w=.ok ⟨(l.map Qbz).toArray⟩ w:=by
 rcases h fr ro σ w v s f with⟨a,c,rfl,rfl⟩|⟨b,d,c,rfl,e⟩
 .cases a with
  |none=>simp[Extern.Bytes.bytesOf,go_sem];rfl
  |some a=>simp[Extern.Bytes.bytesOf,Extern.Bytes.loadBytes,go_sem];rfl
 .rcases e with rfl|e
  .simp[Extern.Bytes.bytesOf,Extern.Bytes.loadBytes,go_sem];rfl
  .have:=Qck (P:=P) l d .empty e;simp only[Extern.Bytes.bytesOf,this];congr 2;simp[ByteArray.empty,ByteArray.emptyWithCapacity];rfl
def cmpB(l m:List Int):Int:=Lib.compareBytes (l.map Qbz) (m.map Qbz)
theorem OpV.cmpB{c:Call}{f:FuncId}{fn:Func}{x y:Operand}{t:Array TypeId}{ax d:A}{l m:List Int}(p:P.funcs[f]?=some fn)(b:(fn.name=="runtime.NumGoroutine")=false)(q:fn.body.isNone=true)(j:Extern.findNext fn=none)(he:Extern.find fn=some Extern.BytealgCompare.compare)
  (u:Qlg P H ax l)(k:Qlg P H d m)(z:o.op=.call c:=by exact rfl)(hc:c={callee:=.value (.func f),args:= #[x,y],argTypes:=t}:=by exact rfl)(hx:opA env x=ax:=by exact rfl)(hy:opA env y=d:=by exact rfl):OpV P o env H (.int .i64 (cmpB l m)):=by
 intro F E σ N a w r;have g:=Qd r x;rw[hx]at g;have h:=Qd r y;rw[hy]at h;have B:=QdR u r.sim g;have n:=QdR k r.sim h;refine⟨.int .i64 (Sw.cmpB l m),?_,rfl⟩;subst hc;have e:a.eval (.func f)=.func (.func f) #[] #[]:=rfl;have i:(callFunc f #[a.eval x,a.eval y]).run P w=.ok (.value (.int .i64 (Sw.cmpB l m))) w:=by
  rw[run_callFunc_extern p b q j he];have s:Sem.run P (Extern.BytealgCompare.compare #[a.eval x,a.eval y]) w=.ok (.int .i64 (Sw.cmpB l m)) w:=by
   change Sem.run P (do pure (goInt (Extern.BytealgCompare.cmp (<- Extern.Bytes.bytesOf (a.eval x)) (<- Extern.Bytes.bytesOf (a.eval y))))) w=_;simp only[Vn,B,n,Result.andThen,Vp,Lib.cmp_eq];rfl
  rw[s];rfl
 generalize a.eval=ρ at*;simp only[execOp,z,resolve,e,Deferred.ofValue,invoke,Vn,Vp,Result.andThen];simpa using i
theorem Q2{t et n k b off j:Nat}{x y:Operand}{i:Int}{s:IntKind}(g:(i==(j:Int))=true)(z:Nat.blt j n=true)(E:∀w,(underlying t).run P w=.ok (.array n et) w)(G:∀w,(sizeOf et).run P w=.ok k w)(h:Nat.ble 2 n=true)
  (F:o.op=.indexAddr t x y:=by exact rfl)(hx:opA env x=.ptr b off:=by exact rfl)(hy:opA env y=.int s i:=by exact rfl):OpV P o env H (.ptr b (off+j*k)):=by
 intro O M σ N a w r;have f:=Qd r x;rw[hx]at f;obtain⟨e,f,u⟩:=f;have p:=Qd r y;rw[hy]at p;have m:a.eval y=.int s i:=p;have B:i=(j:Int):=by simpa using g
 have l:j<n:=by simpa using z
 have L:2<=n:=XS h;subst B;refine⟨.pointer (some ⟨e,off+j*k,none⟩),?_,e,f,rfl⟩;have J:0<=(j:Int)/\(j:Int)<(n:Int):=by omega
 have d:(⟨e,off,none⟩:Addr).add ((j:Int).toNat*k)=⟨e,off+j*k,none⟩:=by
  unfold Addr.add;split
  .rename_i q;simp at q;simp[q]
  .simp
 generalize a.eval=ρ at*;simp[execOp,F,u,m,Instr.indexAt,asIntOf,E,G,Instr.sureAddr,J,d,go_sem,Result.andThen,l]
end
end Go.Sw
namespace Go.Sw
theorem Qmk{P:Program}{W:World}{name:String}{d:DataW Unit}:∀{a:List (String×DataW Unit)} {ps:List MemPlace},DataW.LaidVars P W a ps->(name,d)∈a->
  ∃(g:Nat) (t:TypeId) (cs:Array Value) (b:Nat) (p:List MemPlace),P.globalNamed name=some g/\(P.globals[g]?).map (·.type)=some t/\W.var? P name=some cs/\DataW.trod (λ_=>()) P W 0 (λ_=>true) false b t cs.toList=some (d,p):=by
 intro a
 induction a with
 |nil=>intro ps h f;cases f
 |cons x a i=>
  intro ps h f;obtain⟨g,t,cs,b,p,q,m,j,k,n,l,r⟩:=h;rcases X7.1 f with e|f
  .subst e;exact⟨g,t,cs,b,p,m,j,k,n⟩
  .exact i l f
theorem Yf{P:Program}{W:World}{name:String}{a b:Int}{g t e:Nat}{k m:Field}{d:List (String×DataW Unit)}{ps:List MemPlace}(h:DataW.LaidVars P W d ps)(J:(name,DataW.agg [.lit (.int .i64 a),.lit (.int .i64 b)])∈d)
  (hg:P.globalNamed name=some g)(i:(P.globals[g]?).map (·.type)=some t)(M:P.underlying t=some (.struct #[k,m]))(T:k.type=e)(L:m.type=e)(Q:k.offset=0)(x:m.offset=1)(he:P.underlying e=some (.int .i64))(f:P.cellsOf e=1)(j:P.cellsOf t=2):
  W.cell? ⟨g,0,none⟩=some (.int .i64 a)/\W.cell? ⟨g,1,none⟩=some (.int .i64 b):=by
 obtain⟨Y,X,cs,u,p,R,G,s,y⟩:=Qmk h J;obtain rfl:=X0 (hg.symm.trans R);obtain rfl:=X0 (i.symm.trans G);obtain⟨V,y1,n,B,H,q,r⟩:=Go.ChangeShapes.trod_struct2 M y;rw[T,Q,f]at q;rw[L,x,f]at r;obtain⟨w,N,E,_⟩:=DataW.trod_int he q;obtain⟨F,z,O,_⟩:=DataW.trod_int he r;subst E O;have l:a=w/\b=F:=by simpa using congrArg Prod.fst B
 obtain⟨rfl,rfl⟩:=l;rw[World.var?_cell hg s,World.var?_cell hg s];rw[j]at H;constructor
 .have:=congrArg (·[0]?) N;simpa[List.getElem?_take]using this
 .have:=congrArg (·[0]?) z;simpa[List.getElem?_take,List.getElem?_drop]using this
theorem Jq{w:World}{g:Nat}{a b:Int}(s:w.cell? ⟨g,0,none⟩=some (.int .i64 a)/\w.cell? ⟨g,1,none⟩=some (.int .i64 b)):∀(zs:List Int),some [a,b]=some zs->∀(i:Nat) (z:Int),zs[i]?=some z->w.cell? ⟨g,i,none⟩=some (.int .i64 z)
 |zs,h,0,z,hi=>by cases h;cases hi;exact s.1
 |zs,h,1,z,hi=>by cases h;cases hi;exact s.2
 |zs,h,i+2,z,hi=>by cases h;simp at hi
end Go.Sw
