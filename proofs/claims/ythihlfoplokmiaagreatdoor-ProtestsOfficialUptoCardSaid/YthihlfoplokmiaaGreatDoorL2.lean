/- The rules by which the code is walked, with what they rest on (part 2). -/
import Derived.Test.YthihlfoplokmiaaGreatDoorL1
import Derived.Shelf.SlSortCmp.NoneTotal
import Derived.Below
import GoSem.ClaimChange
import Derived.Shelf.Strings.Search3
import Derived.Lib.LazyBuf
import Derived.Shelf.Sort.Plain
import Derived.Shelf.Slices.In.SortNone
import Derived.Shelf.Slices.CompactI
import Derived.RangeFuncIn
import Derived.RangeFuncSeq
import Derived.RangeFuncNested
import Derived.Lib.Bytealg
import Derived.Laws.Externs
import Derived.LaidLaws
import Derived.Lib.LaidTab
import Derived.ChangeArms
import Derived.ChangeSame
set_option linter.unusedVariables false
set_option linter.unusedSectionVars false
set_option linter.unusedSimpArgs false
namespace Go.Sw
open Go.Sort Go.Proofs Go.Shelf
section
variable {α:Type}
def ins(lt:α->α->Bool)(x:α):List α->List α
 |[]=>[x]
 |y::l=>bif lt y x then y::ins lt x l else x::y::l
def Y5(lt:α->α->Bool):List α->List α
 |[]=>[]
 |x::l=>ins lt x (Y5 lt l)
theorem QeX(lt:α->α->Bool)(x:α):∀l,(ins lt x l).Perm (x::l)
 |[]=>.refl _
 |y::l=>by
  unfold ins;cases lt y x
  .exact .refl _
  .exact((QeX lt x l).cons y).trans (List.Perm.swap _ _ _)
theorem Qn(lt:α->α->Bool):∀l,(Y5 lt l).Perm l
 |[]=>.refl _
 |x::l=>(QeX lt x _).trans ((Qn lt l).cons x)
structure Qd4 (lt:α->α->Bool) (l:List α):Prop where
 irrefl:∀x∈l,lt x x=false
 trans:∀x∈l,∀y∈l,∀z∈l,lt x y=true->lt y z=true->lt x z=true
 ntrans:∀x∈l,∀y∈l,∀z∈l,lt x y=false->lt y z=false->lt x z=false
theorem Qd4.mono{lt:α->α->Bool}{l m:List α}(h:Qd4 lt l)(hm:∀x∈m,x∈l):Qd4 lt m:=
 ⟨λx hx=>h.irrefl x (hm x hx),λx hx y hy z hz=>h.trans x (hm x hx) y (hm y hy) z (hm z hz),λx hx y hy z hz=>h.ntrans x (hm x hx) y (hm y hy) z (hm z hz)⟩
theorem Qd4.asymm{lt:α->α->Bool}{l:List α}(h:Qd4 lt l){x y:α}(b:x∈l)(d:y∈l)(a:lt x y=true):lt y x=false:=by
 cases q:lt y x
 .rfl
 .rw[<- h.irrefl x b,h.trans x b y d x b a q]
theorem QeW{lt:α->α->Bool}{x:α}:∀{l:List α},Qd4 lt (x::l)->l.Pairwise (λa b=>lt b a=false)->(ins lt x l).Pairwise (λa b=>lt b a=false)
 |[],_,_=>by simp[ins]
 |y::l,h,hp=>by
  obtain⟨h1,h2⟩:=Xc.1 hp;unfold ins;cases q:lt y x
  .refine Xc.2 ⟨λz hz=>?_,hp⟩;rcases X6.1 hz with rfl|hz
   .exact q
   .exact h.ntrans z (by simp[hz]) y (by simp) x (by simp) (h1 z hz) q
  .refine Xc.2 ⟨λz hz=>?_,QeW (h.mono (by intro z hz;rcases X6.1 hz with rfl|hz<;>simp[*])) h2⟩;rcases X6.1 ((QeX lt x l).mem_iff.1 hz)with rfl|hz
   .exact h.asymm (by simp) (by simp) q
   .exact h1 z hz
theorem QZ{lt:α->α->Bool}:∀{l:List α},Qd4 lt l->(Y5 lt l).Pairwise (λa b=>lt b a=false)
 |[],_=>by simp[Y5]
 |x::l,h=>QeW (h.mono (by
   intro z hz;rcases X6.1 hz with rfl|hz
   .simp
   .exact X5 _ ((Qn lt l).mem_iff.1 hz))) (QZ (h.mono λz hz=>X5 _ hz))
theorem Jf{lt:α->α->Bool}:∀{l m:List α},l.Perm m->(∀x∈l,∀y∈l,lt x y=false->lt y x=false->x=y)->l.Pairwise (λa b=>lt b a=false)->m.Pairwise (λa b=>lt b a=false)->l=m
 |[],m,h,_,_,_=>by rw[List.nil_perm.1 h]
 |x::l,[],h,_,_,_=>by have:=h.length_eq;simp at this
 |x::l,y::m,h,ha,hl,hm=>by
  obtain⟨l1,l2⟩:=Xc.1 hl;obtain⟨m1,m2⟩:=Xc.1 hm;have hy:y∈x::l:=h.mem_iff.2 (by simp);have hx:x∈y::m:=h.mem_iff.1 (by simp);have hxy:x=y:=by
   rcases X6.1 hy with e|d
   .exact e.symm
   .rcases X6.1 hx with e|i
    .exact e
    .exact ha x (by simp) y (by simp[d]) (m1 x i) (l1 y d)
  subst hxy;rw[Jf ((List.perm_cons x).1 h) (λa f b g=>ha a (by simp[f]) b (by simp[g])) l2 m2]
def ltO(cf:α->α->Option Int)(x y:α):Bool:=match cf x y with
 |some c=>decide (c<0)
 |none=>false
def Qiu[DecidableEq α](cf:α->α->Option Int)(l:List α):Bool:=
 l.all λx=> !ltO cf x x&&l.all λy=>(cf x y).isSome&&(ltO cf x y||ltO cf y x||decide (x=y))&&l.all λz=>(!ltO cf x y|| !ltO cf y z||ltO cf x z)&&(ltO cf x y||ltO cf y z|| !ltO cf x z)
def QbM[DecidableEq α](cf:α->α->Option Int)(l:List α):Option (List α):=bif Nat.ble l.length Qp&&Qiu cf l then some (Y5 (ltO cf) l)else none
theorem QcI[DecidableEq α]{cf:α->α->Option Int}{l l':List α}(h:QbM cf l=some l'):
  l.length<=Qp/\(∀x∈l,∀y∈l,∃c,cf x y=some c)/\Qd4 (ltO cf) l/\(∀x∈l,∀y∈l,ltO cf x y=false->ltO cf y x=false->x=y)/\Y5 (ltO cf) l=l':=by
 unfold QbM at h;cases i:Nat.ble l.length Qp with
 |false=>rw[i]at h;cases h
 |true=>
 rw[i,VA]at h;cases q:Qiu cf l with
 |false=>rw[q]at h;cases h
 |true=>
  rw[q]at h;refine⟨XS i,?_⟩;unfold Qiu at q;simp only[Xt,XX,Bool.not_eq_true',Bool.or_eq_true,Vr]at q;refine⟨λx b y d=>Option.isSome_iff_exists.1 ((q x b).2 y d).1.1,⟨λx b=>(q x b).1,λx b y d z g f e=>?_,λx b y d z g f e=>?_⟩,λx b y d f e=>?_,XZ h⟩
  .rcases(((q x b).2 y d).2 z g).1 with(a|a)|a
   .rw[f]at a;cases a
   .rw[e]at a;cases a
   .exact a
  .rcases(((q x b).2 y d).2 z g).2 with(a|a)|a
   .rw[f]at a;cases a
   .rw[e]at a;cases a
   .exact a
  .rcases((q x b).2 y d).1.2 with(a|a)|a
   .rw[f]at a;cases a
   .rw[e]at a;cases a
   .exact a
theorem QlS[DecidableEq α]{cf:α->α->Option Int}{l:List α}(h:l.length<=Qp)(c:α->α->Int)(m:∀x∈l,∀y∈l,cf x y=some (c x y))(hi:∀x∈l,¬c x x<0)
  (n:∀x∈l,∀y∈l,∀z∈l,c x y<0->c y z<0->c x z<0)(r:∀x∈l,∀y∈l,∀z∈l,¬c x y<0->¬c y z<0->¬c x z<0)(p:∀x∈l,∀y∈l,¬c x y<0->¬c y x<0->x=y):
  QbM cf l=some (Y5 (ltO cf) l):=by
 have g:∀x∈l,∀y∈l,ltO cf x y=decide (c x y<0):=λx e y f=>by unfold ltO;rw[m x e y f]
 have q:Qiu cf l=true:=by
  unfold Qiu;simp only[Xt,XX,Bool.not_eq_true',Bool.or_eq_true,Vr];intro x e;refine⟨by rw[g x e x e];simpa using hi x e,λy f=>⟨⟨by rw[m x e y f];rfl,?_⟩,λz i=>?_⟩⟩
  .rw[g x e y f,g y f x e];by_cases k:c x y<0
   .simp[k]
   .by_cases j:c y x<0
    .simp[j]
    .exact .inr (p x e y f k j)
  .rw[g x e y f,g y f z i,g x e z i];have k:=n x e y f z i;have j:=r x e y f z i;by_cases a:c x y<0<;>by_cases b:c y z<0<;>by_cases d:c x z<0<;>simp_all
 unfold QbM;rw[q,XT h];rfl
theorem QaL[DecidableEq α]{cf:α->α->Option Int}{l l':List α}(h:QbM cf l=some l'):l.length=l'.length:=by
 rw[<- (QcI h).2.2.2.2];exact(Qn _ _).length_eq.symm
theorem Qbd{l l':List α}{i:Int}{x:α}(h:Qdk l i x=some l'):l.length=l'.length:=by
 unfold Qdk at h;cases q:(decide (0<=i)&&decide (i<(l.length:Int)))with
 |true=>rw[q]at h;rw[<- XZ h];simp
 |false=>rw[q]at h;cases h
theorem QQ{h0:Nat}{env:Env}{H:Qc}{s:Nat}{a a':A}(h:lk env s=a)(e:a=a'):Le h0 env H (up env s a') H:=by
 intro f d σ N act w r;refine⟨d,σ,⟨r.sim,λb=>?_,r.size,r.defers⟩,λ_ q=>q,rfl⟩;subst e;have:lk (up env s a) b=lk env b:=by
  simp only[lk];cases q:Nat.beq b s with
  |true=>rw[XR q,h];rfl
  |false=>rfl
 rw[this];exact r.env b
end
section
variable {fr ro:Nat->Prop} {σ:Sig} {H:Qc} {w w':World}
theorem QdZ(hh:∀b,b<w.heap.size->w'.heap[b]?=w.heap[b]?)(hro:∀b,ro b->b<w.heap.size)(σ:Sig):Ext ro σ w ro σ w':=
 ⟨λ_ q=>q,λb hb=>hh b (hro b hb),λb x hx=>by unfold World.shape? at hx⊢;rw[hh b (QbN hx)];exact hx,λ_ _ q=>q⟩
theorem Sim.grown(s:Sim fr ro σ H w)(a:∀b,b<w.heap.size->w'.heap[b]?=w.heap[b]?)(g:w.heap.size<=w'.heap.size):Sim fr ro σ H w':=by
 refine⟨s.len,s.roOk.to (λ_ q=>q) (λb q=>a b (s.roLt b q)) (λb h=>Vf (s.roLt b h) g),λb h=>Vf (s.frLt b h) g,s.roFr,λi b x f e n=>?_,s.inj,λi y x f e=>?_,s.hidTo (· = ·) QU g (λ_ _ _ _ _ _ _ q=>q) (λ_ _ _ _ _ _ _ q=>q) λj d y l m r=>.inl ⟨j,y,rfl,l,m,id,λc q=>s.hidKeep l m (λz=>a d (s.own j d y l m z).1) (λb q=>a b (s.roLt b q)) q⟩⟩
 .obtain⟨p,q⟩:=s.own i b x f e n;exact⟨Vf p g,q⟩
 .refine(s.blk i y x f e).keep (QdZ a s.roLt σ) ?_ ?_
  .rintro b rfl k;exact a b (s.own i b x f e k).1
  .rintro b c rfl k;exact a c (s.hid i b x c f e k).lt
theorem Qf.grown(hh:∀b,b<w.heap.size->w'.heap[b]?=w.heap[b]?)(hs:w.heap.size<=w'.heap.size)(s:Sim fr ro σ H w)(ho:w'.os=w.os)(ht:w'.tape=w.tape)(hu:w'.output=w.output)(hd:w.drawn<=w'.drawn):Qf fr ro w ro w':=
 ⟨λ_ q=>q,λb h=>hh b (s.roLt b h),λb h=>hh b (s.frLt b h),hs,(QdZ hh s.roLt σ).shape,ho,ht,hu,hd⟩
theorem Qkh(d:∀b,b<w.heap.size->w'.heap[b]?=w.heap[b]?)(n:w.heap.size<=w'.heap.size)(f:w'.os=w.os)(e:w'.tape=w.tape)(h:w'.output=w.output)(m:w.drawn<=w'.drawn):
  ∃q os',w'=grow (w.drewN q) os':=by
 refine⟨w'.drawn-w.drawn,w'.heap.extract w.heap.size w'.heap.size,?_⟩;obtain⟨a,t,j,r,s⟩:=w';simp only at d n f e h m;subst f e h;unfold grow World.drewN;have p:a=w.heap++a.extract w.heap.size a.size:=by
  apply Array.ext_getElem?;intro i;rw[Array.getElem?_append];split
  .rename_i g;exact d i g
  .rename_i g;rw[Array.getElem?_extract];split
   .rename_i k;congr 1;omega
   .rename_i k;rw[Array.getElem?_eq_none];omega
 have l:j=w.drawn+(j-w.drawn):=by omega
 rw[<- p, <- l]
end
end Go.Sw
namespace Go.Sw
open Go.Sort Go.Proofs Go.Shelf
theorem QdW{α:Type}{k:Nat}:∀(vs:List (List α)) (j:Nat),(∀v∈vs,v.length=k)->j<vs.length*k->vs.flatten[j]?=(vs[j/k]?).bind λv=>v[j%k]?
 |[],j,_,h=>by simp at h
 |v::vs,j,hk,h=>by
  have hv:=hk v (by simp);have k0:0<k:=by
   rcases Nat.eq_zero_or_pos k with q|q
   .subst q;simp at h
   .exact q
  rw[Vl];by_cases q:j<k
  .rw[XN (by omega),Nat.div_eq_of_lt q,Nat.mod_eq_of_lt q];simp
  .rw[XO (by omega),hv,QdW vs (j-k) (λv hv=>hk v (by simp[hv])) (by simp[Xm]at h;omega)];have a:j/k=(j-k)/k+1:=by rw[Nat.div_eq_sub_div k0 (by omega)]
   have b:j%k=(j-k)%k:=Nat.mod_eq_sub_mod (by omega);rw[a,b,XG]
theorem Qau{α:Type}{k:Nat}:∀(vs:List (List α)),(∀v∈vs,v.length=k)->vs.flatten.length=vs.length*k
 |[],_=>by simp
 |v::vs,h=>by rw[Vl,X3,Qau vs (λv hv=>h v (by simp[hv])),h v (by simp),X0,Xm];omega
theorem Qad{α:Type}(F:List α)(j:Nat):F.toArray[j]?=F[j]? :=by simp
theorem Qe0{α:Type}[Inhabited α](F:List α)(j:Nat)(h:j<F.length):F[j]?=some (F.toArray[j]!):=by simp[h]
theorem Qh5{β:Type}[Inhabited β]{enc:β->List Value}{k:Nat}(b:∀x,(enc x).length=k)(d:Array β):flatK enc k d=((d.toList.map enc).flatten).toArray:=by
 have a:∀v∈d.toList.map enc,v.length=k:=by
  intro v j;obtain⟨x,_,rfl⟩:=Xf.1 j;exact b x
 apply Array.ext_getElem?;intro t;rw[Qad ((d.toList.map enc).flatten) t];by_cases h:t<d.size*k
 .rw[QdW _ t a (by simpa using h)];have i:0<k:=by
   rcases Nat.eq_zero_or_pos k with q|q
   .subst q;simp at h
   .exact q
  have l:t/k<d.size:=Nat.div_lt_of_lt_mul (by rw[Nat.mul_comm];exact h);have g:t%k<k:=Nat.mod_lt _ i;have f:t<(flatK enc k d).size:=by simpa using h
  have e:=get_flatK enc k d t h;rw[getElem!_pos (flatK enc k d) t f]at e;rw[Array.getElem?_eq_getElem f,e];simp[l];rw[XL (by rw[b];exact g)];rfl
 .have e:(d.toList.map enc).flatten.length=d.size*k:=by rw[Qau _ a];simp
  rw[Array.getElem?_eq_none (by simpa using h),XP (by rw[e];omega)]
section
variable {ro:Nat->Prop} {σ:Sig} {w:World} {T:Type} {enc:T->List A} {k:Nat}
theorem RL.parts:∀{l:List T} {lv:List Value},RL ro σ w k (l.map enc) lv->
  ∃(ps:List (T×List Value)) (rest:List Value),ps.map (·.1)=l/\lv=(ps.map (·.2)).flatten++rest/\ ∀p∈ps,p.2.length=k/\LR ro σ w (enc p.1) p.2/\ ∀v∈p.2,Ql v
 |[],lv,_=>⟨[],lv,rfl,rfl,by simp⟩
 |x::l,lv,h=>by
  obtain⟨l1,l2,rfl,h1,⟨h2,h3⟩,h4⟩:=h;obtain⟨ps,rest,e1,rfl,h5⟩:=RL.parts (l:=l) h4;refine⟨(x,l1)::ps,rest,by simp[e1],by simp,?_⟩;intro p hp;rcases X6.1 hp with rfl|hp
  .exact⟨by rw[h2.length];exact h1,h2,h3⟩
  .exact h5 p hp
theorem QbZ(hk:∀x:T,(enc x).length=k):∀{ps:List (T×List Value)} {rest:List Value},(∀p∈ps,LR ro σ w (enc p.1) p.2/\ ∀v∈p.2,Ql v)->RL ro σ w k ((ps.map (·.1)).map enc) ((ps.map (·.2)).flatten++rest)
 |[],_,_=>trivial
 |p::ps,rest,h=>by
  refine⟨p.2,(ps.map (·.2)).flatten++rest,by simp,hk _,h p (by simp),QbZ hk λq hq=>h q (by simp[hq])⟩
end
structure Elt (ro:Nat->Prop) (w:World) {T:Type} (enc:T->List A) (k:Nat) (l:List T) where
 x:T
 vs:List Value
 mem:x∈l
 len:vs.length=k
 rel:LR ro [] w (enc x) vs
 plain:∀v∈vs,Ql v
theorem QfZ{v:Value}(h:Ql v):v.oneCell'=true:=by cases v<;>first|rfl|exact h.elim
theorem Qoh{P:Program}{ρ:Ren}(L:SlLaysF0.n6 P ρ){T:Type}[DecidableEq T]{enc:T->List A}{k t g:Nat}{cap:List A}{l l':List T}{cf:T->T->Option Int}(hs:QbM cf l=some l')
  (a5:∀x y c,cf x y=some c->C P g ([.agg (enc x),.agg (enc y)]++cap) [] (λa H=>a=.int .i64 c/\H=[]))
  (aE:∀w,(isAgg (ρ.t 24)).run P w=.ok true w)(zE:∀w,(Go.sizeOf (ρ.t 24)).run P w=.ok k w)(eg:∀args w,(callFunc g args).run P w=.ok (.enter g args) w)
  (hk:∀x,(enc x).length=k)(hd:Ya cap=true):
  C P (ρ.f 6) [.osl 0 0 l.length k,.fn (.func g) [] cap] [.row t k (l.map enc)] (λa H=>a=.tup []/\H=[.row t k (l'.map enc)]):=by
 intro fr G σ vals w s hv;obtain⟨vs,r1,rfl,bi,vf,r2,rfl,bo,hr⟩:=hv;cases(show r2=[]from hr);obtain⟨lf,lc,rfl,h1,bb⟩:=bo;cases(show lf=[]from h1);have av:LR G [] w cap lc:=LR.data hd bb;obtain⟨ba,al,N,au,bc⟩:=QcI hs;have E:∀(ad:Option Addr) (c:Nat),vs=.slice ad 0 c->l=[]->
   Calls P (ρ.f 6) [vs,.func (.func g) #[] lc.toArray].toArray w λe w'=>∃v r H' ae τ,e=.returned v/\(r=.tup []/\H'=[.row t k (l'.map enc)])/\Sim fr ae (σ++τ) H' w'/\VR ae (σ++τ) w' r v/\Qf fr G w ae w':=by
  rintro ad c rfl rfl;have af:l'=[]:=by rw[<- bc];rfl
  subst af;refine(AnyF.slices_SortFunc_none L ad c (.func (.func g) #[] lc.toArray) w).mono ?_;rintro e w' ⟨rfl,rfl⟩;exact⟨_,_,_,G,[],rfl,⟨rfl,rfl⟩,by simpa using s,⟨[],rfl,rfl⟩,Qf.refl _ _ _⟩
 rcases bi with⟨h0,rfl⟩|⟨b,p,cp,t',m,q1,rfl,q2,q3,q4,q5⟩
 .exact E none 0 rfl (VJ.1 h0)
 .by_cases af:l=[]
  .subst af;exact E _ cp rfl rfl
  .have bl:0<l.length:=List.length_pos_iff.2 af;obtain rfl:=q2 (Vf bl q3);obtain⟨lv,e1,e2⟩:=s.blk 0 _ _ q1 rfl;obtain⟨hb,ai,a0⟩:=s.own 0 b _ q1 rfl rfl;obtain⟨V,J,a1,rfl,ah⟩:=RL.parts e2
   let α:=Elt G w enc k l
   have a2:∀p∈V,p.1∈l:=λp hp=>by rw[<- a1];exact VG hp
   let ds:List α:=V.attach.map λp=>⟨p.1.1,p.1.2,a2 _ p.2,(ah _ p.2).1,(ah _ p.2).2.1,(ah _ p.2).2.2⟩
   have az:∀{γ:Type} (f:T×List Value->γ),V.attach.map (λp=>f p.1)=V.map f:=λf=>by simp
   have R:ds.map (·.x)=l:=by
    show(V.attach.map _).map _=_;rw[List.map_map];exact(az (·.1)).trans a1
   have ak:ds.map (·.vs)=V.map (·.2):=by
    show(V.attach.map _).map _=_;rw[List.map_map];exact az (·.2)
   have ay:ds.length=l.length:=by rw[<- R];simp
   have a8:ds≠[]:=by intro q;rw[q]at ay;simp at ay;omega
   let inh:Inhabited α:=⟨ds.head a8⟩
   let enc':α->List Value:=λa=>a.vs
   let cf':α->α->Int:=λx y=>(cf x.x y.x).getD 0
   have ac:∀x y:α,ltOf cf' x y=ltO cf x.x y.x:=by
    intro x y;obtain⟨c,B⟩:=al x.x x.mem y.x y.mem;simp only[ltOf,ltO,cf',B,Option.getD_some]
   have hO:SWO (ltOf cf'):=⟨λx=>by rw[ac];exact N.irrefl _ x.mem,λx y z a b=>by rw[ac]at*;exact N.trans _ x.mem _ y.mem _ z.mem a b,
    λx y z a b=>by rw[ac]at*;exact N.ntrans _ x.mem _ y.mem _ z.mem a b⟩
   have aa:∀x:α,(enc' x).length=k:=λx=>x.len;have aw:flatK enc' k ds.toArray=((V.map (·.2)).flatten).toArray:=by
    rw[Qh5 aa];show((ds.map λa=>a.vs).flatten).toArray=_;rw[ak]
   have bm:∀v∈V.map (·.2),v.length=k:=by
    intro v hv;obtain⟨p,hp,rfl⟩:=Xf.1 hv;exact(ah p hp).1
   have Y:(V.map (·.2)).flatten.length=ds.length*k:=by rw[Qau _ bm, <- ak];simp
   have hH:HoldsK enc' k w b (0*k) ds.toArray:=by
    intro j hj;rw[aw]at hj⊢;simp only[List.size_toArray]at hj;constructor
    .unfold World.cell?;simp only[e1,Option.isSome_none,Xj,if_false,Nat.zero_mul,Xw];rw[Qad,XN hj];exact Qe0 _ _ hj
    .unfold World.frozen?;simp only[e1];simp
   have ao:∀(d:Array α),d.size=ds.toArray.size->(putRowK enc' k w b (0*k) d).heap=w.heap.setIfInBounds b (.cells (((d.toList.map enc').flatten++J)).toArray t (0,0)):=by
    intro d u;have ag:(d.toList.map enc').flatten.length=(V.map (·.2)).flatten.length:=by
     rw[Qau _ (k:=k) (by intro v hv;obtain⟨x,_,rfl⟩:=Xf.1 hv;exact aa x),Y];simp at u⊢;rw[u]
    unfold putRowK putRow mapBlock;show w.heap.modify b _=_;rw[Qbg e1];simp only[onCells];congr 2;rw[Qh5 aa];unfold putCells;apply Array.ext_getElem?;intro i;simp only[Array.getElem?_mapIdx,Qad,Nat.zero_mul,XV,true_and,Xw,Xv,List.size_toArray,id_eq];by_cases hi:i<(d.toList.map enc').flatten.length
    .rw[XN hi,XN (by rw[<- ag];exact hi),XL (by rw[<- ag];exact hi),Qe0 _ _ hi];exact congrArg some (Vt hi)
    .rw[XO (by omega),XO (by omega),ag];cases(J[i-(V.map (·.2)).flatten.length]?)with
     |none=>rfl
     |some v=>
      rw[<- ag];exact congrArg some (Vs hi)
   have Q:∀(m:Nat) (os:Array Obj) (d:Array α),d.size=ds.toArray.size->
     (∀c,c<w.heap.size->c≠b->(sortWorldK enc' k w b (0*k) m d os).heap[c]?=w.heap[c]?)/\(sortWorldK enc' k w b (0*k) m d os).heap[b]?=some (.cells (((d.toList.map enc').flatten++J)).toArray t (0,0))/\
     w.heap.size<=(sortWorldK enc' k w b (0*k) m d os).heap.size:=by
    intro m os d u;have e:(sortWorldK enc' k w b (0*k) m d os).heap=w.heap.setIfInBounds b (.cells (((d.toList.map enc').flatten++J)).toArray t (0,0))++os:=by
     rw[<- ao d u];rfl
    rw[e];refine⟨λc B bh=>?_,?_,by simp⟩
    .rw[Array.getElem?_append_left (by simpa using B),Ve,Vs (λq=>bh q.symm)]
    .rw[Array.getElem?_append_left (by simpa using hb),Ve,Vt rfl,Vt hb]
   have O:∀(m:Nat) (os:Array Obj) (d:Array α),d.size=ds.toArray.size->∀c y,w.shape? c=some y->(sortWorldK enc' k w b (0*k) m d os).shape? c=some y:=by
    intro m os d u c y hy;obtain⟨g1,g2,g3⟩:=Q m os d u;by_cases B:c=b
    .subst B;unfold World.shape? at hy⊢;rw[e1]at hy;rw[g2];simp only[Option.some.injEq]at hy⊢;rw[<- hy];congr 1;simp only[List.size_toArray,X3];rw[Qau _ (k:=k) (by intro v hv;obtain⟨x,_,rfl⟩:=Xf.1 hv;exact aa x),Y];simp at u⊢;rw[u]
    .unfold World.shape? at hy⊢;rw[g1 c (QbN hy) B];exact hy
   have am:∀(m:Nat) (os:Array Obj) (d:Array α),d.size=ds.toArray.size->∀τ,Ext G τ w G τ (sortWorldK enc' k w b (0*k) m d os):=by
    intro m os d u τ;obtain⟨g1,g2,g3⟩:=Q m os d u;exact⟨λ_ q=>q,λc B=>g1 c (s.roLt c B) (λq=>ai (q▸B)),O m os d u,λ_ _ q=>q⟩
   have bf:CmpLays P g lc.toArray enc' k cf' b (0*k) ds.toArray.size w:=by
    intro m os dk a9 x y;obtain⟨c,B⟩:=al x.x x.mem y.x y.mem;have F:=am m os dk a9 [];have bp:=a5 _ _ _ B;generalize hW:sortWorldK enc' k w b (0*k) m dk os=W at*;have bn:w.heap.size<=W.heap.size:=by rw[<- hW];exact(Q m os dk a9).2.2
    have sW:Sim (λc=>c<W.heap.size/\ ¬G c) G [] [] W:=
     ⟨rfl,s.roOk.to (λ_ q=>q) F.keep (λc B=>Vf (s.roLt c B) bn),λc B=>B.1,λc B hf=>hf.2 B,λi b x h=>by simp at h,λi j b x y h=>by simp at h,λi y x h=>by simp at h,λi b x c h=>by simp at h⟩
    have ax:LR G [] W ([.agg (enc x.x),.agg (enc y.x)]++cap) ([.agg x.vs.toArray,.agg y.vs.toArray]++lc):=
     LR.append (show LR G [] W [A.agg (enc x.x),A.agg (enc y.x)] [Value.agg x.vs.toArray,Value.agg y.vs.toArray]from⟨_,_,rfl,⟨x.vs,rfl,x.rel.mono F⟩,_,_,rfl,⟨y.vs,rfl,y.rel.mono F⟩,rfl⟩) (av.mono F)
    have M:=bp _ G [] _ W sW ax;have bg:(([Value.agg x.vs.toArray,Value.agg y.vs.toArray]++lc).toArray:Array Value)= #[Value.agg (enc' x).toArray,Value.agg (enc' y).toArray]++lc.toArray:=by simp[enc']
    rw[bg]at M;refine M.mono ?_;rintro e w' ⟨v,r,H',ae,τ,rfl,⟨rfl,rfl⟩,s',be,ev⟩;refine⟨?_,?_⟩
    .rw[show v=.int .i64 c from be];simp only[cf',B,Option.getD_some]
    .refine Qkh (λc B=>?_) ev.size ev.os ev.tape ev.output ev.drawn;by_cases a6:G c
     .exact ev.keepRo c a6
     .exact ev.keepFr c ⟨B,a6⟩
   have X:ds.toArray.size=l.length:=by simpa using ay
   have aj:=AnyQ.slices_SortFunc L k aE zE enc' aa (λx v hv=>QfZ (x.plain v hv)) cf' hO g lc.toArray b (0*k) cp ds.toArray w eg bf hH hb (by rw[X];unfold Qp at ba;omega);rw[X]at aj;refine aj.mono ?_;rintro e w' ⟨rfl,d,n,os,ab,an,rfl⟩;have u:d.size=ds.toArray.size:=ab.1;obtain⟨g1,g2,g3⟩:=Q n os d u;have aq:d.toList.Perm ds:=by
    have h:=ab.2.2;have x1:d.extract 0 l.length=d:=by rw[<- X, <- u];exact Array.extract_size
    have x2:ds.toArray.extract 0 l.length=ds.toArray:=by rw[<- X];exact Array.extract_size
    rw[x1,x2]at h;simpa using h
   have a4:d.toList.map (·.x)=l':=by
    rw[<- bc];refine Jf (lt:=ltO cf) ?_ ?_ ?_ (QZ N)
    .exact((aq.map (·.x)).trans (by rw[R])).trans (Qn _ _).symm
    .intro x hx y hy;have bj:x∈l:=by rw[<- R];exact(aq.map (·.x)).mem_iff.1 hx
     have bk:y∈l:=by rw[<- R];exact(aq.map (·.x)).mem_iff.1 hy
     exact au x bj y bk
    .rw[VE];intro i j hi hj bd;simp only[X2]at hi hj;simp only[List.getElem_map];rw[<- ac];have:=an i j (XV _) bd (by rw[<- X, <- u];simpa using hj);rw[getElem!_pos d j (by simpa using hj),getElem!_pos d i (by simpa using hi)]at this;simpa using this
   have bq:RL G [] (sortWorldK enc' k w b (0*k) n d os) k (l'.map enc) ((d.toList.map enc').flatten++J):=by
    have e3:d.toList.map enc'=(d.toList.map λa=>(a.x,a.vs)).map (·.2):=by simp[enc']
    have e4:l'=(d.toList.map λa=>(a.x,a.vs)).map (·.1):=by rw[<- a4];simp
    rw[e3,e4];refine QbZ hk ?_;intro p hp;obtain⟨a,_,rfl⟩:=Xf.1 hp;exact⟨a.rel.mono (am n os d u []),a.plain⟩
   have a7:Qf fr G w G (sortWorldK enc' k w b (0*k) n d os):=
    ⟨λ_ q=>q,λc B=>g1 c (s.roLt c B) (λq=>ai (q▸B)),λc B=>g1 c (s.frLt c B) (λq=>a0 (q▸B)),g3,O n os d u,rfl,rfl,rfl,Nat.le_add_right _ _⟩
   have ar:σ.length=1:=s.len;have a3:Sim fr G σ [.row t k (l'.map enc)] (sortWorldK enc' k w b (0*k) n d os):=by
    have i0:∀{i:Nat} {x:Blk},([.row t k (l'.map enc)]:Qc)[i]?=some x->i=0/\x=.row t k (l'.map enc):=by
     intro i x h;cases i with
     |zero=>simp at h;exact⟨rfl,h.symm⟩
     |succ i=>simp at h
    refine⟨ar,s.roOk.to (λ_ q=>q) a7.keepRo (λc B=>Vf (s.roLt c B) g3),λc B=>Vf (s.frLt c B) g3,s.roFr,λi c x h1 h2 h3=>?_,λi j c x y h1 h2 h3 h4 _ _=>?_,λi y x h1 h2=>?_,λi b x c h1 h2 h3=>by obtain⟨rfl,rfl⟩:=i0 h2;exact h3.elim⟩
    .obtain⟨rfl,rfl⟩:=i0 h2;obtain⟨p1,p2⟩:=s.own 0 c _ h1 rfl rfl;exact⟨Vf p1 g3,p2⟩
    .rw[(i0 h3).1,(i0 h4).1]
    .obtain⟨rfl,rfl⟩:=i0 h2;rw[q1]at h1;cases h1;exact⟨_,g2,bq⟩
   exact⟨_,_,_,G,[],rfl,⟨rfl,rfl⟩,by simpa using a3,⟨[],rfl,rfl⟩,a7⟩
end Go.Sw
namespace Go.Sw
section
variable {P:Program} {o:Oper} {env:Env} {H:Qc} {fr ro:Nat->Prop} {σ:Sig} {w:World}
theorem Sim.addRo(s:Sim fr ro σ H w){b:Nat}(g:b<w.heap.size)(u:¬fr b)(r:∀(i:Nat) (x:Blk),σ[i]?=some (some b)->H[i]?=some x->x.live=true->False)
  (B:∀(i d:Nat) (x:Blk),σ[i]?=some (some d)->H[i]?=some x->Hid w x d b->False):Sim fr (λc=>ro c\/c=b) σ H w:=by
 refine⟨s.len,s.roOk.to (λ_ q=>.inl q) (λ_ _=>rfl) ?_,s.frLt,?_,?_,s.inj,?_,s.hidTo (· = ·) QU (XU _) (λj d x c m t p l=>l.elim id λq=>(B j d x m t (q▸p)).elim) (λ_ _ _ _ _ _ _ q=>q) λj d y h E F=>.inl ⟨j,y,rfl,h,E,id,λ_ q=>q⟩⟩
 .rintro c (q|rfl)
  .exact s.roLt c q
  .exact g
 .rintro c (q|rfl)
  .exact s.roFr c q
  .exact u
 .intro i c x e a f;obtain⟨z,k,n⟩:=s.own i c x e a f;refine⟨z,?_,n⟩;rintro(q|rfl)
  .exact k q
  .exact r i x e a f
 .intro i y x e a;exact(s.blk i y x e a).keep ⟨λ_ q=>.inl q,λ_ _=>rfl,λ_ _ q=>q,λ_ _ q=>q⟩ (λ_ _ _=>rfl) (λ_ _ _ _=>rfl)
theorem YM{T e k n:Nat}{xs:List Operand}{es:List (List A)}(E:QK P T e k)(Q:o.op=.buildSlice T n (Qak 0 xs).toArray)(J:xs.length=n)(F:Nat.ble (n*k) 16777216=true)
  (R:(xs.all λx=>Q5 (opA env x))=true)(B:QB env xs=es)(M:allK k es)(X:es.flatten.all Ym=true)(hd:Ya es.flatten=true):
  OpH P o env H (.rsl k es) H:=by
 intro Y j σ N a w r;subst B;obtain⟨l,V,L⟩:=Jp r E J F R M;have G:LR j [] w (QB env xs).flatten l:=L.data hd;have f:∀b,b<w.heap.size->(w.alloc (.cells l.toArray e)).heap[b]?=w.heap[b]? :=λb O=>Q7 _ _ b O;have m:w.heap.size<=(w.alloc (.cells l.toArray e)).heap.size:=by rw[Q3];omega
 have s1:=r.sim.grown f m;have t:Qf Y j w j (w.alloc (.cells l.toArray e)):=Qf.alloc _ r.sim.roLt r.sim.frLt;have W:=s1.addRo (b:=w.heap.size) (by rw[Q3];omega) (λq=>Nat.lt_irrefl _ (r.sim.frLt _ q)) (λi x p s u=>Nat.lt_irrefl _ (r.sim.own i _ x p s u).1)
  (λi d x p s u=>Nat.lt_irrefl _ (r.sim.hid i d x _ p s (r.sim.hidKeep p s (λz=>f d (r.sim.own i d x p s z).1) (λb q=>f b (r.sim.roLt b q)) u)).lt)
 have y:RL j [] (w.alloc (.cells l.toArray e)) k (QB env xs) l:=by
  have:=YX (rest:=[]) M (G.mono (t.ext0 [])) (L.plain X)
  rwa [Vg]at this
 have g:(QB env xs).length=n:=by simp[QB,J]
 refine⟨_,_,λc=>j c\/c=w.heap.size,[],Jb Q a.eval V,?_,by simpa using W,t.trans (YE λ_ q=>.inl q)⟩;refine⟨some ⟨w.heap.size,0,none⟩,n,by rw[g],by rw[g];exact XU _,.inr ⟨w.heap.size,0,rfl,.inr rfl,?_⟩⟩;have h:(w.alloc (.cells l.toArray e)).heap[w.heap.size]?=some (.cells (([]:List Value)++l).toArray e (0,0)):=Q6 _ _;have:=YG (pre:=[]) h y;exact this.keep ⟨λ_ q=>.inl q,λ_ _=>rfl,λ_ _ q=>q,λ_ _ q=>q⟩ rfl
end
inductive QjN:List A->List A->Prop
 |nil:QjN [] []
 |eq {a:A} {l m:List A} (h:QjN l m):QjN (a::l) (a::m)
 |nl {k:Nat} {l m:List A} (h:QjN l m):QjN (.nils::l) (.rsl k []::m)
theorem LR.nils{ro:Nat->Prop}{σ:Sig}{w:World}{f g:List A}(h:QjN f g):∀{l:List Value},LR ro σ w f l->LR ro σ w g l:=by
 induction h with
 |nil=>intro l h;exact h
 |eq _ ih=>rintro l ⟨v,d,e,b,a⟩;exact⟨v,d,e,b,ih a⟩
 |nl _ ih=>rintro l ⟨v,d,e,b,a⟩;exact⟨v,d,e,⟨none,0,b,XU _,.inl rfl⟩,ih a⟩
theorem C.nils{P:Program}{f:FuncId}{l1 bs:List A}{H:Qc}{Q:A->Qc->Prop}(hl:QjN l1 bs)(h:C P f bs H Q):C P f l1 H Q:=
 λfr ro σ vals w s l=>h fr ro σ vals w s (LR.nils hl l)
end Go.Sw
namespace Go.Sw
def Qi(k:IntKind)(n:Int):Prop:=k.min<=n/\n<=k.max
def Qd2(w:World):Nat->Prop:=λb=>b<w.heap.size
structure Qnj {H:Type} (μ:DataW H->Nat):Prop where
 str:∀bytes,bytes.length<=μ (.lit (.string bytes))
 sl:∀e s,e.length<=μ (.slice e s)
 sle:∀e s,∀d∈e,μ d<=μ (.slice e s)
 ag:∀ps,∀d∈ps,μ d<=μ (.agg ps)
def RB(P:Program)(n:Nat)(t:TypeId)(T:Type)(e:T->List A)(wf:T->Prop):Prop:=
 ∀(H:Type) (enc:TypeId×Value->H) (w:World) (base:Nat) (spare:Nat->Bool) (held:Bool) (m:Nat) (cs:List Value) d,m<n->DataW.trod enc P w base spare held m t cs=some d->
  ∀μ:DataW H->Nat,Qnj μ->μ d.1<=1048576->∃x:T,wf x/\LR (Qd2 w) [] w (e x) cs/\ ∀v∈cs,Ql v
section
variable {P:Program} {n:Nat} {t:TypeId} {T:Type} {e:T->List A} {wf:T->Prop}
theorem RB.down(h:RB P (n+1) t T e wf):RB P n t T e wf:=λH enc w base spare held m cs d hm=>h H enc w base spare held m cs d (Nat.lt_succ_of_lt hm)
theorem Qeq(h:∀n,RB P n t T e wf->RB P (n+1) t T e wf):∀n,RB P n t T e wf
 |0=>λH enc w base spare held m cs d hm=>absurd hm (Xn _)
 |n+1=>h n (Qeq h n)
theorem QV{T':Type}{b:T'->List A}{a:T'->Prop}(h:RB P n t T e wf)(g:T->T')(he:∀x,b (g x)=e x)(j:∀x,wf x->a (g x)):RB P n t T' b a:=by
 intro H enc w base spare held m cs d hm hd μ hμ hwt;obtain⟨x,i,f,k⟩:=h H enc w base spare held m cs d hm hd μ hμ hwt;exact⟨g x,j x i,by rw[he];exact f,k⟩
theorem RB.int{k:IntKind}(a:P.underlying t=some (.int k)):RB P n t Int (Qj k) (Qi k):=by
 intro H enc w base spare held m cs d hm hd μ hμ hwt;cases m with
 |zero=>simp[DataW.trod]at hd
 |succ m=>
  rcases cs with _|⟨v,_|⟨f,r⟩⟩
  .simp[DataW.trod,a]at hd
  .cases v<;>simp[DataW.trod,a]at hd;rename_i g b;obtain⟨⟨rfl,e⟩,_⟩:=hd;refine⟨b,?_,⟨_,_,rfl,rfl,rfl⟩,by simp[Ql]⟩;simpa[Lit.wf,Qi]using e
  .simp[DataW.trod,a]at hd
theorem RB.bool(a:P.underlying t=some .bool):RB P n t Bool Qba (λ_=>True):=by
 intro H enc w base spare held m cs d hm hd μ hμ hwt;cases m with
 |zero=>simp[DataW.trod]at hd
 |succ m=>
  rcases cs with _|⟨v,_|⟨e,r⟩⟩
  .simp[DataW.trod,a]at hd
  .cases v<;>simp[DataW.trod,a]at hd;rename_i b;exact⟨b,trivial,⟨_,_,rfl,rfl,rfl⟩,by simp[Ql]⟩
  .simp[DataW.trod,a]at hd
theorem RB.string(a:P.underlying t=some .string):RB P n t (List UInt8) encS (λs=>s.length<=1048576):=by
 intro H enc w base spare held m cs d hm hd μ hμ hwt;cases m with
 |zero=>simp[DataW.trod]at hd
 |succ m=>
  rcases cs with _|⟨v,_|⟨b,r⟩⟩
  .simp[DataW.trod,a]at hd
  .cases v<;>simp[DataW.trod,a]at hd;rename_i s;obtain⟨_,rfl⟩:=hd;exact⟨s.data.toList,XW (hμ.str _) hwt,⟨_,_,rfl,rfl,rfl⟩,by simp[Ql]⟩
  .simp[DataW.trod,a]at hd
theorem Qcx{α:Type}{f:Nat->Option α}:∀{n:Nat} {l:List α},(List.range n).mapM f=some l->l.length=n/\ ∀i,i<n->∃y,f i=some y/\l[i]?=some y
 |0,l,h=>by simp at h;subst h;exact⟨rfl,λi hi=>absurd hi (Xn _)⟩
 |n+1,l,h=>by
  rw[List.range_succ,List.mapM_append]at h;cases h1:(List.range n).mapM f with
  |none=>simp[h1]at h
  |some l1=>
   cases h2:f n with
   |none=>simp[h1,h2]at h
   |some y=>
    simp[h1,h2]at h;subst h;obtain⟨e1,e2⟩:=Qcx h1;refine⟨by simp[e1],λi hi=>?_⟩;rcases Xp.1 hi with q|rfl
    .obtain⟨z,z1,z2⟩:=e2 i q;exact⟨z,z1,by rw[XN (by omega)];exact z2⟩
    .exact⟨y,h2,by rw[XO (by omega)];simp[e1]⟩
theorem Qd8{w:World}{ro:Nat->Prop}{b:Nat}:∀{cs:List A} {l:List Value} {off:Nat},LR ro [] w cs l->(∀v∈l,Ql v)->(∀i,i<l.length->w.cell? ⟨b,off+i,none⟩=l[i]?)->CR ro [] w b cs off
 |[],_,_,_,_,_=>trivial
 |a::cs,l,off,h,hp,hc=>by
  obtain⟨v,l',rfl,h1,h2⟩:=h;refine⟨⟨v,by simpa using hc 0 (by simp),hp v (by simp),h1⟩,Qd8 h2 (λv hv=>hp v (by simp[hv])) λi hi=>?_⟩;have:=hc (i+1) (by simpa using hi);rw[show off+1+i=off+(i+1)by omega,this];simp
theorem RB.slice{E:TypeId}{k:Nat}{s:TypeId}(M:P.underlying s=some (.slice E))(hk:P.cellsOf E=k)(h0:Nat.blt 0 k=true)(hl:∀x,(e x).length=k)(h:RB P n E T e wf):
  RB P (n+1) s (List T) (Qju k e) (λl=>l.length<=1048576/\ ∀x∈l,wf x):=by
 intro H enc w base spare held m cs d hm hd μ hμ hwt;have k0:0<k:=by simpa using h0
 cases m with
 |zero=>simp[DataW.trod]at hd
 |succ m=>
  rcases cs with _|⟨v,_|⟨v2,r⟩⟩
  .simp[DataW.trod,M]at hd
  .cases v<;>try (simp[DataW.trod,M]at hd;done)
   rename_i a len t;cases a with
   |none=>
    rcases len with _|len
    .rcases t with _|t
     .refine⟨[],⟨by simp,by simp⟩,⟨_,_,rfl,⟨none,0,rfl,XU _,.inl rfl⟩,rfl⟩,by simp[Ql]⟩
     .simp[DataW.trod,M]at hd
    .simp[DataW.trod,M]at hd
   |some a=>
    simp only[DataW.trod,M]at hd;split at hd
    .rename_i hc;obtain⟨c1,c2,c3⟩:=hc;cases F:(List.range len).mapM (λi=>(w.cells? base (a.add (i*P.cellsOf E)) (P.cellsOf E)).bind (DataW.trod enc P w base spare held m E))with
     |none=>rw[F]at hd;cases hd
     |some f=>
      rw[F]at hd;simp only[XK,Option.map_eq_some_iff]at hd;obtain⟨B,_,rfl⟩:=hd;have L:f.length<=1048576:=by
       have h1:=hμ.sl (f.map (·.1)) (B.map (·.1));rw[X2]at h1;exact XW h1 hwt
      have aa:∀y∈f,μ y.1<=1048576:=λy R=>XW (hμ.sle _ (B.map (·.1)) _ (VG R)) hwt;obtain⟨e1,e2⟩:=Qcx F;have O:∀i,i<len->∃(x:T) (l:List Value),wf x/\LR (Qd2 w) [] w (e x) l/\(∀v∈l,Ql v)/\l.length=k/\ ∀j,j<k->w.cell? ((a.add (i*k)).add j)=l[j]? :=by
       intro i hi;obtain⟨y,y1,y2⟩:=e2 i hi;rw[hk]at y1;cases g:w.cells? base (a.add (i*k)) k with
       |none=>rw[g]at y1;cases y1
       |some l=>
        rw[g]at y1;obtain⟨x,x1,x2,x3⟩:=h H enc w base spare held m l y (by omega) y1 μ hμ (aa y (VH y2));refine⟨x,l,x1,x2,x3,by rw[x2.length];exact hl x,λj hj=>?_⟩;unfold World.cells? at g;split at g
        .obtain⟨_,z2⟩:=Qcx g;obtain⟨v,v1,v2⟩:=z2 j hj;rw[v2, <- v1]
        .cases g
      by_cases Q:len=0
      .subst Q;exact⟨[],⟨by simp,by simp⟩,⟨_,_,rfl,⟨some a,t,rfl,XV _,.inl rfl⟩,rfl⟩,by simp[Ql]⟩
      .have first:a.spot=none/\a.block<w.heap.size:=by
        obtain⟨x',l,p1,p2,p3,p4,p5⟩:=O 0 (by omega);have u:=p5 0 k0;have Y:l[0]?=some l[0]:=XL (by omega);have ea:(a.add (0*k)).add 0=a:=by simp[Addr.add]
        rw[Y,ea]at u;unfold World.cell? at u;split at u
        .rename_i hh;constructor
         .cases q:a.spot with
          |none=>rfl
          |some z=>simp[q]at u
         .exact(Vc.1 hh).1
        .cases u
       obtain⟨p,hb⟩:=first
       have W:∀n,a.add n=⟨a.block,a.off+n,none⟩:=by
        intro n;cases a;simp only at p;subst p;unfold Addr.add;split
        .rename_i q;subst q;rfl
        .rfl
       have J:∀(b o n:Nat),(⟨b,o,none⟩:Addr).add n=⟨b,o+n,none⟩:=by
        intro b o n;unfold Addr.add;split
        .rename_i q;subst q;rfl
        .rfl
       have pick:∀q i,len-i=q->i<=len->∃G:List T,G.length=len-i/\(∀x∈G,wf x)/\RR (Qd2 w) [] w a.block k (G.map e) (a.off+i*k):=by
        intro q
        induction q with
        |zero=>intro i hq hi;exact⟨[],by simp[hq],by simp,trivial⟩
        |succ q ih=>
         intro i hq hi;obtain⟨G,N,X,V⟩:=ih (i+1) (by omega) (by omega);obtain⟨x,l,p1,p2,p3,p4,p5⟩:=O i (by omega);refine⟨x::G,by simp[N];omega,by intro y R;rcases X6.1 R with rfl|R;exact p1;exact X y R,hl x,?_,?_⟩
         .refine Qd8 p2 p3 λj hj=>?_;have u:=p5 j (by omega);rw[W,J]at u;exact u
         .rw[Xm, <- Nat.add_assoc]at V;exact V
       obtain⟨G,N,X,V⟩:=pick len 0 (by omega) (XV _);rw[Nat.zero_mul,Xx]at V;rw[Xv]at N;refine⟨G,⟨by rw[N, <- e1];exact L,X⟩,⟨_,_,rfl,⟨some a,t,by simp[N],by simp[N];exact c2,.inr ⟨a.block,a.off,?_,hb,V⟩⟩,rfl⟩,by simp[Ql]⟩;cases a;simp only at p;subst p;rfl
    .cases hd
  .simp[DataW.trod,M]at hd
def RF(P:Program)(n:Nat)(fs:List Field)(off L:Nat)(T:Type)(e:T->List A)(wf:T->Prop):Prop:=
 ∀(H:Type) (enc:TypeId×Value->H) (w:World) (base:Nat) (spare:Nat->Bool) (held:Bool) (m:Nat) (cs:List Value) ds,m<n->cs.length=L->
  fs.mapM (λf=>DataW.trod enc P w base spare held m f.type ((cs.drop f.offset).take (P.cellsOf f.type)))=some ds->
  ∀μ:DataW H->Nat,Qnj μ->(∀y∈ds,μ y.1<=1048576)->∃x:T,wf x/\LR (Qd2 w) [] w (e x) (cs.drop off)/\ ∀v∈cs.drop off,Ql v
theorem RF.nil{L:Nat}:RF P n [] L L Unit (λ_=>[]) (λ_=>True):=by
 intro H enc w base spare held m cs ds hm hl hd μ hμ hwt;have:cs.drop L=[]:=List.drop_eq_nil_of_le (by omega);rw[this];exact⟨(),trivial,rfl,by simp⟩
theorem RF.cons{f:Field}{fs:List Field}{off L k:Nat}{T2:Type}{s:T2->List A}{a:T2->Prop}(B:f.offset=off)(F:P.cellsOf f.type=k)(h:RB P n f.type T e wf)(r:RF P n fs (off+k) L T2 s a):
  RF P n (f::fs) off L (T×T2) (λp=>e p.1++s p.2) (λp=>wf p.1/\a p.2):=by
 intro H enc w base spare held m cs ds hm hl hd μ hμ hwt;rw[List.mapM_cons]at hd;cases g:DataW.trod enc P w base spare held m f.type ((cs.drop f.offset).take (P.cellsOf f.type))with
 |none=>simp[g]at hd
 |some d=>
  cases j:fs.mapM (λf=>DataW.trod enc P w base spare held m f.type ((cs.drop f.offset).take (P.cellsOf f.type)))with
  |none=>simp[g,j]at hd
  |some i=>
   have l:ds=d::i:=by
    rw[g,j]at hd;exact(XZ hd).symm
   subst l;rw[B,F]at g;obtain⟨x,E,u,t⟩:=h H enc w base spare held m _ d hm g μ hμ (hwt d (by simp));obtain⟨y,y1,y2,G⟩:=r H enc w base spare held m cs i hm hl j μ hμ (λy z=>hwt y (by simp[z]));have b:cs.drop off=(cs.drop off).take k++cs.drop (off+k):=by rw[<- List.drop_drop,Xz]
   refine⟨(x,y),⟨E,y1⟩,by rw[b];exact u.append y2,?_⟩;rw[b];intro v J;rcases VD.1 J with q|q
   .exact t v q
   .exact G v q
theorem RB.struct{fs:Array Field}{L:Nat}(g:P.underlying t=some (.struct fs))(b:P.cellsOf t=L)(h:RF P n fs.toList 0 L T e wf):RB P (n+1) t T e wf:=by
 intro H enc w base spare held m cs d hm hd μ hμ hwt;cases m with
 |zero=>simp[DataW.trod]at hd
 |succ m=>
  unfold DataW.trod at hd;simp only[g]at hd;split at hd
  .rename_i i;cases a:fs.toList.mapM (λf=>DataW.trod enc P w base spare held m f.type ((cs.drop f.offset).take (P.cellsOf f.type)))with
   |none=>rw[a]at hd;cases hd
   |some j=>
    rw[a]at hd;simp only[Xk,Option.some.injEq]at hd;subst hd;have:=h H enc w base spare held m cs j (by omega) (by rw[i,b]) a μ hμ (λy k=>XW (hμ.ag _ _ (VG k)) hwt);simpa using this
  .cases hd
end
theorem C.law{P:Program}{f:FuncId}{args:List A}{W:World}{vals:List Value}(h:C P f args [] (λa H=>a=.bool true/\H=[]))(hl:LR (Qd2 W) [] W args vals)(d:GP W):
  Calls P f vals.toArray W λe W'=>e=.returned (.bool true)/\Go.RowKit.Below W.heap.size W W':=by
 have s:Sim (λ_=>False) (Qd2 W) [] [] W:=
  ⟨rfl,⟨λ_ h=>h,λb m=>d.size b m,d⟩,λ_ h=>h.elim,λ_ _ h=>h,λi b x h=>by simp at h,λi j b x y h=>by simp at h,λi y x h=>by simp at h,λi b x c h=>by simp at h⟩
 refine(h _ _ _ _ W s hl).mono ?_;rintro e W' ⟨v,r,H',l,τ,rfl,⟨rfl,rfl⟩,_,n,ev⟩;exact⟨by rw[show v=.bool true from n],⟨ev.os,ev.tape,ev.output,ev.size,λk g=>ev.keepRo k g⟩⟩
theorem QhR{P:Program}{W:World}{a:Nat}{t:TypeId}{v:Value}{fs:Array Field}(b:P.underlying t=some (.struct fs))(h:Value.okWide P W .any a t v):∃cs,v=.agg cs:=by
 unfold Value.okWide at h;rw[b]at h;obtain⟨cs,rfl,_⟩:=h;exact⟨cs,rfl⟩
theorem QeL{P:Program}{W:World}{t:TypeId}{cs:Array Value}{T:Type}{e:T->List A}{wf:T->Prop}{H:Type}{enc:TypeId×Value->H}{b:Nat}{a:Nat->Bool}{held:Bool}{d:DataW H}{ps:List MemPlace}
  (h:∀n,RB P n t T e wf)(k:DataW.Trod enc P W b a held t (.agg cs) d ps){μ:DataW H->Nat}(hμ:Qnj μ)(f:μ d<=1048576):∃x:T,wf x/\VR (Qd2 W) [] W (.agg (e x)) (.agg cs):=by
 obtain⟨m,i⟩:=k;obtain⟨x,j,g,_⟩:=h (m+1) H enc W b a held m _ _ (Xo _) i μ hμ f;exact⟨x,j,cs.toList,by simp,g⟩
theorem QkN{P:Program}{W:World}{t:TypeId}{a:Option Addr}{len cap:Nat}{T:Type}{e:T->List A}{k:Nat}{wf:List T->Prop}{H:Type}{enc:TypeId×Value->H}{f:Nat}{b:Nat->Bool}{held:Bool}{d:DataW H}{ps:List MemPlace}
  (h:∀n,RB P n t (List T) (Qju k e) wf)(j:DataW.Trod enc P W f b held t (.slice a len cap) d ps){μ:DataW H->Nat}(hμ:Qnj μ)(g:μ d<=1048576):∃x:List T,wf x/\VR (Qd2 W) [] W (.rsl k (x.map e)) (.slice a len cap):=by
 obtain⟨m,l⟩:=j;obtain⟨x,p,⟨v,r,i,q,s⟩,_⟩:=h (m+1) H enc W f b held m _ _ (Xo _) l μ hμ g;refine⟨x,p,?_⟩;have:(Value.slice a len cap).cells.toList=[.slice a len cap]:=rfl;rw[this]at i;cases i;exact q
theorem Qi2{P:Program}{W:World}(h:W.ShapedOpen P){g t u:Nat}{z:Value}(hg:Nat.blt g P.globals.size=true)(s:(((begin P (λ_ _=>0) default).world.heap[g]?).bind Obj.row?)=some (#[z],t))
  (j:P.buildable t=true)(x:P.cellTypes P.depth t=some [u])(w:P.underlying u=some (.int .i64)):∃m:Int,W.cell? ⟨g,0,none⟩=some (.int .i64 m):=by
 obtain⟨d,r,p,l⟩:=h.1 g _ _ (by simpa using hg) s;obtain⟨B,f,_,q⟩:=l j;rw[x]at f;cases f;have E:d.size=1:=p;have a:d[0]?=some d[0]:=Array.getElem?_eq_getElem (by omega);obtain⟨y,e,b⟩:=q 0 _ a;simp at e;subst e;unfold Cell.ok at b;rw[w]at b;cases i:d[0]<;>rw[i]at b<;>simp at b;rename_i k n;obtain⟨rfl,_⟩:=b;refine⟨n,?_⟩;simp only[World.cell?,r];rw[a,i];rfl
end Go.Sw
namespace Go.Sw
theorem Qjh{S B:Type}{step:S->Option (Ctl S B)}(st:Nat->S)(b:B)(k:Nat)(l:∀i,i<k->step (st i)=some (.cont (st (i+1))))(j:step (st k)=some (.done b)):∀n,k<n->iter step n (st 0)=some b:=by
 have d:∀m i n,k-i=m->i<=k->m<n->iter step n (st i)=some b:=by
  intro m
  induction m with
  |zero=>
   intro i n h e p;have:i=k:=by omega
   subst this;obtain⟨a,rfl⟩:∃a,n=a+1:=⟨n-1,by omega⟩;simp[iter,j]
  |succ m f=>
   intro i n h e p;obtain⟨a,rfl⟩:∃a,n=a+1:=⟨n-1,by omega⟩;simp only[iter,l i (by omega)];exact f (i+1) a (by omega) (by omega) (by omega)
 intro n g;exact d k 0 n (by omega) (XV _) g
theorem Qmq{S B:Type}{step:S->Option (Ctl S B)}(s0:S)(st:Nat->S)(b:B)(k:Nat)(h0:st 0=s0)(d:∀i,i<k->step (st i)=some (.cont (st (i+1))))(e:step (st k)=some (.done b))(n:Nat)(a:k<n):iter step n s0=some b:=by
 rw[<- h0];exact Qjh st b k d e n a
theorem Y0{α:Type}{l:List α}{i:Nat}{x:α}(h:l[i]?=some x):idx l (i:Int)=some x:=by
 unfold idx;have:decide ((0:Int)<=i)=true:=by simp
 rw[this];simpa using h
theorem Qan{α:Type}(l:List α)(x:α)(h:l.length<4294967296):app l [x]=some (l++[x]):=by
 unfold app;have:Nat.ble (l.length+[x].length) Qp=true:=by
  apply XT;unfold Qp;simp;omega
 rw[this];rfl
theorem Qix{α:Type}(l m:List α)(h:l.length+m.length<=4294967296):app l m=some (l++m):=by
 unfold app;have:Nat.ble (l.length+m.length) Qp=true:=XT h;rw[this];rfl
theorem Yt{n:Int}(h0: -9223372036854775808<=n)(a:n<=9223372036854775807):IntKind.i64.wrap n=n:=by
 unfold IntKind.wrap;simp[IntKind.bits,IntKind.signed];omega
theorem Yz{i:Nat}(h:i<9223372036854775807):IntKind.i64.wrap ((i:Int)+1)=((i+1:Nat):Int):=by
 rw[Yt (by omega) (by omega)];omega
theorem YU{p:Prop}[Decidable p](h:p):decide p=true:=Vu h
theorem YI{p:Prop}[Decidable p](h:¬p):decide p=false:=Vx h
end Go.Sw
namespace Go.Sw
open Go.Proofs Go.Shelf
def cat(a b:List UInt8):Option (List UInt8):=bif Nat.ble (a.length+b.length) 4294967296 then some (a++b)else none
theorem Qpt{a b r:List UInt8}(h:cat a b=some r):a.length+b.length<=4294967296/\a++b=r:=by
 unfold cat at h;cases q:Nat.ble (a.length+b.length) 4294967296 with
 |true=>rw[q]at h;exact⟨XS q,XZ h⟩
 |false=>rw[q]at h;cases h
def QeZ(s t:List UInt8):Option Bool:=bif Nat.blt s.length 4294967281 then some (Lib.contains s t)else none
section
variable {P:Program} {o:Oper} {env:Env} {H:Qc}
theorem Qfu{t u:TypeId}{x y:Operand}{p q r:List UInt8}(i:cat p q=some r)(j:o.op=.binOp .add t x y u:=by exact rfl)(hx:opA env x=.str p:=by exact rfl)(hy:opA env y=.str q:=by exact rfl):OpV P o env H (.str r):=by
 intro m s σ N a w rr;obtain⟨n,h⟩:=Qpt i;have g:=Qe rr x;rw[hx]at g;have f:=Qe rr y;rw[hy]at f;have e:a.eval x=.string ⟨p.toArray⟩:=g;have d:a.eval y=.string ⟨q.toArray⟩:=f;have k:(⟨p.toArray⟩:ByteArray)++⟨q.toArray⟩=⟨r.toArray⟩:=by
  rw[<- h];apply ByteArray.ext;simp
 refine⟨.string ⟨r.toArray⟩,?_,rfl⟩;have b:¬((((⟨p.toArray⟩:ByteArray).size+(⟨q.toArray⟩:ByteArray).size:Nat):Int)>IntKind.i64.max):=by
  have:IntKind.i64.max=9223372036854775807:=by decide
  rw[this];simp only[ByteArray.size,List.size_toArray];omega
 generalize a.eval=ρ at*;have l:(eqGuard BinOp.add t x y (.string ⟨p.toArray⟩) (.string ⟨q.toArray⟩)).run P w=.ok () w:=by simp[eqGuard]
 simp only[execOp,j,e,d,binOp_string_add,Op.stringOp,Vs b,k,Vm,Vn,Result.andThen,l]
def Qed{α:Type}(n:Nat)(l:List α)(i:Int):Option α:=bif Nat.beq l.length n then idx l i else none
theorem Qa6{α:Type}{n:Nat}{l:List α}{i:Int}{x:α}(h:Qed n l i=some x):l.length=n/\idx l i=some x:=by
 unfold Qed at h;cases q:Nat.beq l.length n with
 |true=>rw[q]at h;exact⟨XR q,h⟩
 |false=>rw[q]at h;cases h
def arr{α:Type}(n:Nat)(l:List α):Option (List α):=bif Nat.beq l.length n then some l else none
theorem Jh{α:Type}{n:Nat}{l l':List α}(h:arr n l=some l'):l.length=n/\l=l':=by
 unfold arr at h;cases q:Nat.beq l.length n with
 |true=>rw[q]at h;exact⟨XR q,XZ h⟩
 |false=>rw[q]at h;cases h
theorem QbC{α:Type}{n:Nat}{l l':List α}(h:arr n l=some l'):l'.length=n:=(Jh h).2▸(Jh h).1
section
variable {α:Type} {e:α->List A} {t et k n b:Nat} {x y:Operand} {l:List α}
theorem Qaj{i:Int}{v:α}{j:IntKind}(h:Qed n l i=some v)(s:∀w,(underlying t).run P w=.ok (.array n et) w)(G:∀w,(sizeOf et).run P w=.ok k w)(z:Nat.ble 2 n=true)
  (u:o.op=.indexAddr t x y:=by exact rfl)(hx:opA env x=.ptr b 0:=by exact rfl)(hy:opA env y=.int j i:=by exact rfl):OpV P o env H (.ptr b (i.toNat*k)):=by
 intro O L σ N a w r;obtain⟨M,J⟩:=Qa6 h;obtain⟨Q,F⟩:=QaQ J;have E:i.toNat<l.length:=(XM.1 F).1;have f:=Qe r x;rw[hx]at f;obtain⟨e,f,B⟩:=f;have m:=Qe r y;rw[hy]at m;have g:a.eval y=.int j i:=m;refine⟨.pointer (some ⟨e,i.toNat*k,none⟩),?_,e,f,rfl⟩;have p:0<=i/\i<(n:Int):=by omega
 have d:(⟨e,0,none⟩:Addr).add (i.toNat*k)=⟨e,i.toNat*k,none⟩:=by
  unfold Addr.add;split
  .rename_i q;rw[q]
  .simp
 generalize a.eval=ρ at*;simp[execOp,u,B,g,Instr.indexAt,asIntOf,s,G,Instr.sureAddr,p,d,go_sem,Result.andThen]
theorem Qky{cs:List A}(hH:H[b]?=some (.row t k (l.map e)):=by exact rfl)(hcs:(l.map e).flatten=cs:=by exact rfl):Pts H (.ptr b 0) cs:=by
 intro m n σ w v s h;obtain⟨f,i,a⟩:=h;obtain⟨j,d,g⟩:=s.blk b _ _ i hH;refine⟨f,0,a,?_⟩;have:=(RR.flat (YG (pre:=[]) (by simpa using d) g)).1;subst hcs;exact this.lift
theorem Qh4(a:∀x,(e x).length=k)(L:List α):(L.map e).flatten.length=L.length*k:=by
 induction L with
 |nil=>simp
 |cons c L ih=>simp only[Vj,Vl,X3,a c,ih,X0,Xm];omega
theorem QiH{f:Nat}{l':List α}(h:arr n l=some l')(m:∀x,(e x).length=k)(a:n*k=f)(g:∀w,(isAgg t).run P w=.ok true w)(j:∀w,(sizeOf t).run P w=.ok f w){T:Nat}
  (i:o.op=.load t x:=by exact rfl)(hx:opA env x=.ptr b 0:=by exact rfl)(hH:H[b]?=some (.row T k (l.map e)):=by exact rfl):OpV P o env H (.agg (l'.map e).flatten):=by
 obtain⟨p,rfl⟩:=Jh h;have d:=Qh4 m l;rw[p,a]at d;exact Qh i g j hx (Qky hH rfl) (VI (by omega)) d
theorem Qlo{r:Nat}{n2 T:Nat}(hl:l.length=n)(g:∀x,(e x).length=k)(a:n*k=n2)(i:∀w,(isAgg t).run P w=.ok true w)(f:∀w,(sizeOf t).run P w=.ok n2 w)
  (h:lk env r=.ptr b 0:=by exact rfl)(hH:H[b]?=some (.row T k (l.map e)):=by exact rfl):Qda P env H (.cell r t) (.agg (l.map e).flatten):=by
 have d:=Qh4 g l;rw[hl,a]at d;have:=Qd5 (b:=r) (p:=.ptr b 0) (n:=n2) i f (Qky hH rfl) h (by rw[VI (by omega)];exact d)
 rwa [VI (by omega)]at this
theorem Qiy{c:List A}{k:Nat}(h:c.length=k):∀n,allK k (List.replicate n c)
 |0=>trivial
 |n+1=>⟨h,Qiy h n⟩
theorem Y3{vs:Array Value}{z:α}(g:∀w,(zeroValue t).run P w=.ok (.agg vs) w)(q:(YS (List.replicate n (e z)).flatten).toArray=vs)(j:QeD (List.replicate n (e z)).flatten=true)(h:(List.replicate n (e z)).flatten.all Ym=true)(l:Nat.beq (e z).length k=true)
  (i:o.op=.alloc t:=by exact rfl):OpH P o env H (.ptr H.length 0) (H++[.row t k ((List.replicate n z).map e)]):=by
 intro s f σ N a w r;have d:LR f [] w (List.replicate n (e z)).flatten (YS (List.replicate n (e z)).flatten):=QfG j;have b:=r.sim.allocRow (t:=t) (rest:=[]) (Qiy (XR l) n) d (d.plain h);rw[Vg]at b;have m:(List.replicate n z).map e=List.replicate n (e z):=List.map_replicate;refine⟨.pointer (some ⟨w.heap.size,0,none⟩),w.alloc (.cells (YS (List.replicate n (e z)).flatten).toArray t),f,[some w.heap.size],?_,⟨w.heap.size,?_,rfl⟩,m▸b,Qf.alloc _ r.sim.roLt r.sim.frLt⟩
 .generalize a.eval=ρ at*;have p:(newVar t (.agg vs)).run P w=.ok ⟨w.heap.size,0,none⟩ (w.alloc (.cells vs t)):=rfl;rw[q];simp only[execOp,i,Instr.alloc,Vm,g,Result.andThen,p];rfl
 .rw[<- r.sim.len];simp
theorem Y2{T n2:Nat}{l':List α}{vs:List A}(h:l.length=n)(h':l'.length=n)(hk:∀x,(e x).length=k)(u:n*k=n2)(hs:∀w,(sizeOf t).run P w=.ok n2 w)
  (hp:∀x,(e x).all Ym=true)(hd:∀x,Ya (e x)=true)(J:(l'.map e).flatten=vs)
  (ho:o.op=.store t x y:=by exact rfl)(F:opA env x=.ptr b 0:=by exact rfl)(hH:H[b]?=some (.row T k (l.map e)):=by exact rfl)(V:opA env y=.agg vs:=by exact rfl):
  OpU P o env H (H.set b (.row T k (l'.map e))):=by
 intro fr ro σ N a w r;subst J;have d:=Qe r x;rw[F]at d;obtain⟨bb,d,W⟩:=d;have Y:=Qe r y;rw[V]at Y;obtain⟨m,h4,G⟩:=Y;obtain⟨z,q1,q2⟩:=r.sim.blk b _ _ d hH;have p:∀(L:List α),allK k (L.map e):=by
  intro L
  induction L with
  |nil=>trivial
  |cons c L g=>exact⟨hk c,g⟩
 have R:(l'.map e).flatten.length=n2:=by rw[Yr (p l'),X2,h',u]
 have hm:m.length=n2:=by rw[G.length,R]
 have i:∀L:List α,(L.map e).flatten.all Ym=true:=by
  intro L
  induction L with
  |nil=>rfl
  |cons c L g=>simp only[Vj,Vl,List.all_append,hp c,g,Bool.and_self]
 have M:∀B E:List A,Ya B=true->Ya E=true->Ya (B++E)=true:=by
  intro B
  induction B with
  |nil=>intro E _ h;exact h
  |cons c B g=>
   intro E d W;simp only[Ya,XX,VK]at d⊢;exact⟨d.1,g E d.2 W⟩
 have X:∀L:List α,Ya (L.map e).flatten=true:=by
  intro L
  induction L with
  |nil=>rfl
  |cons c L g=>simp only[Vj,Vl];exact M _ _ (hd c) g
 have aa:n2<=z.length:=by
  have:=q2.length;rw[X2,h,u]at this;exact this
 have j:=Yf (P:=P) (vs:=m) 0 0 q1 (by omega) (G.plain (i l'));have q:splice z 0 m=m++z.drop n2:=by unfold splice;simp[hm]
 have f:=r.sim.set (x':=.row T k (l'.map e)) (obj:=.cells (splice z 0 m).toArray T (0,0)) d hH rfl
  (λy V=>QaM q1 (Yb (by omega)) y V)
  (λex s=>by
   have F:=(G.data (X l')).mono ex.nil;rw[q]at F s⊢;exact⟨_,s,YX (p l') F (G.plain (i l'))⟩)
 refine⟨_,ro,[],?_,by simpa using f.1,f.2⟩;generalize a.eval=ρ at*;have O:(ρ y).cells.size=n2:=by rw[h4];simp[Value.cells,hm]
 have Q:(storeVar t ⟨bb,0,none⟩ (ρ y)).run P w=.ok () {w with heap:=w.heap.setIfInBounds bb (.cells (splice z 0 m).toArray T (0,0))}:=by
  unfold storeVar;rw[Vm,hs];simp only[Result.andThen];rw[Vs (by simp[O]),h4];have ec:(Value.agg m.toArray).cells.toList=m:=by simp[Value.cells]
  rw[ec];simpa using j
 simp only[execOp,ho,W,Instr.storeAt,Instr.sureAddr,pure_bind,Vm,Q];rfl
end
end
theorem C.contains{P:Program}{ρ:Ren}(L:Lays.n144 P ρ)(hg:ρ.g 1=QkY){s t:List UInt8}{r:Bool}(h:QeZ s t=some r):C P (ρ.f 144) [.str s,.str t] [] (λa H=>a=.bool r/\H=[]):=by
 unfold QeZ at h;cases q:Nat.blt s.length 4294967281 with
 |false=>rw[q]at h;cases h
 |true=>
  rw[q]at h;obtain rfl:=XZ h;intro E p σ vals w sim hv;obtain⟨x,z,rfl,n,d,i,rfl,b,y⟩:=hv;cases(show i=[]from y);obtain⟨m,l⟩:=sim.roOk.gp.max;have u:x=.string ⟨s.toArray⟩:=n;have j:d=.string ⟨t.toArray⟩:=b;subst u j;have k:s.length<4294967281:=by simpa using q
  refine(Any.strings_Contains L ⟨s.toArray⟩ ⟨t.toArray⟩ m w (by simpa[ByteArray.size]using k) (by rw[hg];exact l)).mono ?_;rintro e B ⟨rfl,rfl⟩;exact⟨_,_,_,p,[],rfl,⟨rfl,rfl⟩,by simpa using sim,rfl,Qf.refl _ _ _⟩
section
variable {P:Program} {o:Oper} {env:Env} {H:Qc} {fr ro:Nat->Prop} {σ:Sig} {w:World}
theorem Sim.touch(s:Sim fr ro σ H w){b:Nat}{obj:Obj}(p:¬ro b)(r:¬fr b)(B:∀(i:Nat) (x:Blk),σ[i]?=some (some b)->H[i]?=some x->x.live=true->False)
  (k:∀(i d:Nat) (x:Blk),σ[i]?=some (some d)->H[i]?=some x->Hid w x d b->False)
  (t:∀y,w.shape? b=some y->({w with heap:=w.heap.setIfInBounds b obj}:World).shape? b=some y):
  Sim fr ro σ H {w with heap:=w.heap.setIfInBounds b obj}/\Qf fr ro w ro {w with heap:=w.heap.setIfInBounds b obj}:=by
 have a:∀c,c≠b->({w with heap:=w.heap.setIfInBounds b obj}:World).heap[c]?=w.heap[c]? :=by
  intro c E;show(w.heap.setIfInBounds b obj)[c]?=_;rw[Ve,Vs (λq=>E q.symm)]
 have f:({w with heap:=w.heap.setIfInBounds b obj}:World).heap.size=w.heap.size:=by simp
 have ev:Qf fr ro w ro {w with heap:=w.heap.setIfInBounds b obj}:=
  ⟨λ_ h=>h,λc h=>a c (λq=>p (q▸h)),λc h=>a c (λq=>r (q▸h)),by rw[f];exact XU _,by
   intro c y h;by_cases q:c=b
   .subst q;exact t y h
   .unfold World.shape? at h⊢;rw[a c q];exact h,rfl,rfl,rfl,XU _⟩
 refine⟨⟨s.len,s.roOk.to (λ_ q=>q) ev.keepRo (λc h=>by rw[f];exact s.roLt c h),λc h=>by rw[f];exact s.frLt c h,s.roFr,?_,s.inj,?_,s.hidTo (· = ·) QU (by rw[f];exact XU _) (λ_ _ _ _ _ _ _ q=>q) (λ_ _ _ _ _ _ _ q=>q) λj d y n u G=>.inl ⟨j,y,rfl,n,u,id,λc q=>s.hidKeep n u (λz=>a d (λe=>B j y (e▸n) u z)) ev.keepRo q⟩⟩,ev⟩
 .intro i c x l g F;rw[f];exact s.own i c x l g F
 .intro i y x l g;refine(s.blk i y x l g).keep (ev.ext0 σ) ?_ ?_
  .rintro c rfl m;exact a c (λq=>by subst q;exact B i x l g m)
  .rintro d c rfl m;exact a c (λq=>k i d x l g (q▸m))
theorem Qlz{T E i n t:Nat}{x:Operand}{es:List (List A)}(ht:P.underlying T=some (.slice E))(hE:P.underlying E=some (.int .u8))(hn:es.length=n)(h0:Nat.blt 0 n=true)
  (ho:o.op=.convert T T x:=by exact rfl)(hx:opA env x=.osl i 0 n 1:=by exact rfl)(hH:H[i]?=some (.row t 1 es):=by exact rfl):
  OpH P o env H (.rsl 1 es) (H.set i .dead):=by
 intro fr O σ N a w r;subst hn;have B:=Qe r x;rw[hx]at B;rcases B with⟨hz,_⟩|⟨b,p,L,t',m,B,h2,h6,h3,h4,h5⟩
 .rw[hz]at h0;simp at h0
 .have aa:0<es.length:=by simpa using h0
  obtain rfl:=h6 (by omega);obtain⟨Q,J,h⟩:=r.sim.own i b _ B hH rfl;obtain⟨l,W,q2⟩:=r.sim.blk i _ _ B hH;have s1:=r.sim.kill i;have g:∀(j:Nat) (y:Blk),σ[j]?=some (some b)->(H.set i .dead)[j]?=some y->y.live=true->False:=by
   intro j y F f k;by_cases q:j=i
   .subst q;rw[Xb]at f;simp only[if_true]at f;split at f
    .cases f;simp[Blk.live]at k
    .simp at f
   .rw[XQ (λz=>q z.symm)]at f;exact q (r.sim.inj j i b y _ F B f hH k rfl)
  have G:∀(j d:Nat) (y:Blk),σ[j]?=some (some d)->(H.set i .dead)[j]?=some y->Hid w y d b->False:=by
   intro j d y F f k;by_cases q:j=i
   .subst q;rw[Xb]at f;simp only[if_true]at f;split at f
    .cases f;exact k.elim
    .simp at f
   .rw[XQ (λz=>q z.symm)]at f;exact(r.sim.hid j d y b F f k).ne i b _ B hH rfl rfl
  let fz:Nat×Nat:=(l.length,l.length+1)
  have X:∀y,w.shape? b=some y->({w with heap:=w.heap.setIfInBounds b (.cells l.toArray t fz)}:World).shape? b=some y:=by
   intro y Y;unfold World.shape? at Y⊢;rw[W]at Y;have e:(w.heap.setIfInBounds b (.cells l.toArray t fz))[b]?=some (.cells l.toArray t fz):=by rw[Ve,Vt rfl,Vt Q]
   simp only[e];exact Y
  obtain⟨s2,u⟩:=s1.touch (obj:=.cells l.toArray t fz) J h g G X;have s3:=s2.addRo (b:=b) (by simpa using Q) h g (λj d y F f k=>G j d y F f (s1.hidKeep F f (λz=>by
   show(w.heap.setIfInBounds b _)[d]?=_;rw[Ve,Vs (λe:b=d=>g j y (by rw[e];exact F) f z)]) u.keepRo k))
  have s:({w with heap:=w.heap.setIfInBounds b (.cells l.toArray t fz)}:World).heap[b]?=some (.cells (([]:List Value)++l).toArray t fz):=by
   show(w.heap.setIfInBounds b _)[b]?=_;rw[Ve,Vt rfl,Vt Q];rfl
  have M:Ext O [] w O [] {w with heap:=w.heap.setIfInBounds b (.cells l.toArray t fz)}:=u.ext0 [];refine⟨.slice (some ⟨b,0*1,none⟩) es.length L,_,λc=>O c\/c=b,[],?_,?_,by simpa using s3,u.trans (YE λ_ q=>.inl q)⟩
  .have hf:w.freeze ⟨b,l.length,none⟩ 1={w with heap:=w.heap.setIfInBounds b (.cells l.toArray t fz)}:=by
    unfold World.freeze;simp only[Nat.one_ne_zero,if_false];rw[Qbg W];rfl
   have V:(markStringish ⟨b,0*1,none⟩).run P w=.ok () {w with heap:=w.heap.setIfInBounds b (.cells l.toArray t fz)}:=by
    rw[<- hf];unfold markStringish;simp[shape,freeze,Sem.run,World.shape?,W,Result.andThen]
   have hu:∀w,(underlying T).run P w=.ok (.slice E) w:=run_underlying ht;have R:∀w,(underlying E).run P w=.ok (.int .u8) w:=run_underlying hE;generalize a.eval=ρ at*;simp only[execOp,ho,h2,convert,Vm,hu,R,Result.andThen,beq_self_eq_true,V,Vn]
  .refine⟨some ⟨b,0*1,none⟩,L,rfl,h3,.inr ⟨b,0*1,rfl,.inr rfl,?_⟩⟩;have:=YG (pre:=[]) s (q2.mono M);exact(by simpa using this:RR O [] _ b 1 es (0*1)).keep ⟨λ_ q=>.inl q,λ_ _=>rfl,λ_ _ q=>q,λ_ _ q=>q⟩ rfl
end
mutual
theorem Qdl(ρ:Nat->Nat):∀{a:A},Yk a=true->Yx ρ a=a
 |.any,_=>rfl
 |.bool _,_=>rfl
 |.int _ _,_=>rfl
 |.str _,_=>rfl
 |.nilp,_=>rfl
 |.ptr _ _,h=>by simp[Yk]at h
 |.rp _,_=>rfl
 |.nils,_=>rfl
 |.rsl _ _,_=>rfl
 |.osl _ _ _ _,h=>by simp[Yk]at h
 |.agg cs,h=>by simp only[Yk]at h;simp only[Yx,Qag ρ h]
 |.fn f a c,h=>by simp only[Yk,XX]at h;simp only[Yx,Qag ρ h.1,Qag ρ h.2]
 |.nilf,_=>rfl
 |.iface t a,h=>by simp only[Yk]at h;simp only[Yx,Qdl ρ h]
 |.nilif,_=>rfl
 |.map _,h=>by simp[Yk]at h
 |.nilm,_=>rfl
 |.tup vs,h=>by simp only[Yk]at h;simp only[Yx,Qag ρ h]
theorem Qag(ρ:Nat->Nat):∀{l:List A},Ya l=true->Qaa ρ l=l
 |[],_=>rfl
 |a::l,h=>by simp only[Ya,XX]at h;simp only[Qaa,Qdl ρ h.1,Qag ρ h.2]
end
theorem Qga{α:Type}{e:α->List A}(b:∀x,Ya (e x)=true):∀L:List α,Ya (L.map e).flatten=true
 |[]=>rfl
 |c::L=>by
  have hdt:∀cs ds:List A,Ya cs=true->Ya ds=true->Ya (cs++ds)=true:=by
   intro cs
   induction cs with
   |nil=>intro ds _ h;exact h
   |cons c cs f=>
    intro ds a d;simp only[Ya,XX,VK]at a⊢;exact⟨a.1,f ds a.2 d⟩
  simp only[Vj,Vl];exact hdt _ _ (b c) (Qga b L)
theorem QnG{α:Type}{e:α->List A}(hd:∀x,Ya (e x)=true)(ρ:Nat->Nat)(l:List α):Yx ρ (.agg (l.map e).flatten)=.agg (l.map e).flatten:=
 Qdl ρ (by simp only[Yk];exact Qga hd l)
end Go.Sw
namespace Go.Sw
section
variable {P:Program} {o:Oper} {env:Env} {H:Qc}
theorem Qes{c:Call}{f T:Nat}{x:Operand}{xs:List Operand}{j:Array TypeId}{name:String}{v:A}{args:List A}(b:∀(a:Array Value) (w:World),(callFunc f a).run P w=.ok (.enter f a) w)(k:o.op=.call c)
  (p:c={callee:=.invoke x name,args:=xs.toArray,argTypes:=j})(m:opA env x=.iface T v)(hargs:v::xs.map (opA env)=args)
  (n:∀(u:Value) (w:World),(method (P.types.size+Made.depth) T u name).run P w=.ok (f,u) w):OpC P o env H f args:=by
 intro q s σ N a w r;have d:=Qe r x;rw[m]at d;obtain⟨u,d,i⟩:=d;refine⟨u::xs.map a.eval,?_,hargs▸⟨u,xs.map a.eval,rfl,i,Qbl r xs⟩⟩;subst p;generalize a.eval=ρ at*;have e:(#[ρ x]++(xs.toArray.map ρ):Array Value)=(.iface T u::xs.map ρ).toArray:=by rw[d];simp
 have g:((.iface T u::xs.map ρ).toArray.extract 1 (.iface T u::xs.map ρ).toArray.size:Array Value)=(xs.map ρ).toArray:=by
  simp[VI]
 have h:∀l:Array Value,(callMethod (.iface T u) name l).run P w=.ok (.enter f (#[u]++l)) w:=by
  intro l;simp only[callMethod,Vm,run_program,Result.andThen,n,b]
 simp only[execOp,k,resolve,e,invoke,Vm,Vn,Result.andThen];simp only[XH,XF,g,h];simp
theorem QbF{T I:Nat}{x:Operand}{v:A}{d:TypeDesc}(g:∀w,(underlying T).run P w=.ok d w)(f:∀m,d≠ .interface m)(h:o.op=.typeAssert x I T true:=by exact rfl)(hx:opA env x=.iface T v:=by exact rfl):
  OpV P o env H (.tup [v,.bool true]):=by
 intro i j σ N a w r;have b:=Qe r x;rw[hx]at b;obtain⟨u,b,e⟩:=b;refine⟨.tuple #[u,.bool true],?_,[u,.bool true],rfl,_,_,rfl,e,_,_,rfl,rfl,rfl⟩;generalize a.eval=ρ at*;cases d<;>first|(simp[execOp,h,b,Instr.typeAssert,g,go_sem];done)|exact(f _ rfl).elim
theorem Qhk{T T' I:Nat}{x:Operand}{v z:A}{e:Value}{d:TypeDesc}(i:∀w,(underlying T).run P w=.ok d w)(l:∀m,d≠ .interface m)(b:Nat.beq T' T=false)(h:∀w,(zeroValue T).run P w=.ok e w)(g:ZR z e)
  (j:o.op=.typeAssert x I T true:=by exact rfl)(hx:opA env x=.iface T' v:=by exact rfl):
  OpV P o env H (.tup [z,.bool false]):=by
 intro p s σ N a w r;have f:=Qe r x;rw[hx]at f;obtain⟨u,f,n⟩:=f;have k:T'≠T:=λq=>by rw[q,VF]at b;cases b
 refine⟨.tuple #[e,.bool false],?_,[e,.bool false],rfl,_,_,rfl,g _ _ _,_,_,rfl,rfl,rfl⟩;generalize a.eval=ρ at*;cases d<;>first|(simp[execOp,j,f,Instr.typeAssert,i,k,h,go_sem];done)|exact(l _ rfl).elim
end
def TL(P:Program)(h0 N:Nat)(c:Code)(env:Env)(H:Qc)(Q:Qv):Prop:=
 ∀rd fr ro σ a w,Rel fr ro σ H env N a w->Qeg rd fr w->∀(b:Frame) (k:List Item) (cs:List Frame),b.roundOf=(WF rd).round->(WF rd).fn b.fn->(WF rd).room (cs.length+1+0)->∃e a' w',QaU h0 fr ro σ w N a.defers Q e a' w'/\ArrivesIn (Machine.fenced P (WF rd)) P (lone (b.atR a (.code c::.inLoop c::k)) cs w) b k cs e a' w'
def QjE(P:Program)(h0 N:Nat)(c:Code)(Q:Qv):Qv
 |.normal,env,H=>TL P h0 N c env H Q
 |.exit id,env,H=>Q (.exit id) env H
 |.ret,env,H=>Q .ret env H
section
variable {P:Program} {h0 N:Nat} {c:Code} {env:Env} {H:Qc} {Q:Qv}
theorem Qm8(h:TL P h0 N c env H Q):TC P h0 N (.loop c) env H Q:=by
 intro l i m σ a w r hrd b k cs hro hb hr;obtain⟨e,f,g,j,d⟩:=h l i m σ a w r hrd b k cs hro hb hr;exact⟨e,f,g,j,.of_steps (.one (fenced_calm hb hr rfl) stepR_loop) d⟩
theorem TL.round(h:TC P h0 N c env H (QjE P h0 N c Q)):TL P h0 N c env H Q:=by
 intro z G B σ a w r hrd b k cs hro hb hr;obtain⟨e,l,n,R,d⟩:=h z G B σ a w r hrd b (.inLoop c::k) cs hro hb hr;obtain⟨x,f,H',i,σ',j,m,u,F,t,y,p⟩:=R;have E:∀x,Q x f H'->ExR e x->QaU h0 G B σ w N a.defers Q e l n:=λx q O=>⟨x,f,H',i,σ',j,O,q,F,t,y,p⟩;cases e with
 |normal=>
  obtain rfl:x=.normal:=m;obtain⟨L,M,J,s,g⟩:=u z j i σ' l n F (hrd.to t p.sub) b k cs hro hb hr;exact⟨L,M,J,s.grow t y p,.of_steps (StepsIn.trans d (.one (fenced_calm hb hr rfl) stepR_inLoop)) g⟩
 |exit id=>
  obtain rfl:x=.exit id:=m;exact⟨_,l,n,E _ u rfl,.pass (x:=.inLoop c) rfl (λ_ _=>.inl (by simp)) d⟩
 |ret=>
  obtain rfl:x=.ret:=m;exact⟨_,l,n,E _ u rfl,.pass (x:=.inLoop c) rfl (λ_ _=>.inl (by simp)) d⟩
 |_=>exact m.elim
theorem unrN(h:TC P h0 N c env H (QjE P h0 N c Q)):QjE P h0 N c Q .normal env H:=TL.round h
theorem unrX{id:Nat}(h:Q (.exit id) env H):QjE P h0 N c Q (.exit id) env H:=h
theorem unrR(h:Q .ret env H):QjE P h0 N c Q .ret env H:=h
theorem Qll(h:TC P h0 N c env H (QjE P h0 N c Q)):TC P h0 N (.loop c) env H Q:=Qm8 (TL.round h)
end
section
variable {P:Program} {o:Oper} {env:Env} {H:Qc}
theorem Qer{t et k b n j:Nat}{x y:Operand}{e:IntKind}{i:Int}(f:Nat.blt j n=true)(hi:i=(j:Int))(g:∀w,(underlying t).run P w=.ok (.slice et) w)(d:∀w,(sizeOf et).run P w=.ok k w)
  (h:o.op=.indexAddr t x y:=by exact rfl)(hx:opA env x=.osl b 0 n k:=by exact rfl)(hy:opA env y=.int e i:=by exact rfl):OpV P o env H (.ptr b (j*k)):=by
 subst hi;have a:=Qhl (H:=H) h g d hx hy (by omega) (by simpa using f)
 rwa [Int.toNat_natCast,Nat.zero_mul,Xw]at a
theorem Qcb{b t k e f off:Nat}{es:List (List A)}{c cs':List A}(a:off=e*k+f)(hH:H[b]?=some (.rowr t k es):=by exact rfl)(he:es[e]?=some c:=by exact rfl)(hcs:c.drop f=cs':=by exact rfl):Pts H (.ptr b off) cs':=
 Pts.rowr hH a he hcs
end
theorem Qfs{ro:Nat->Prop}{σ:Sig}{w:World}{k:Nat}:∀{es:List (List A)} {l l':List Value},RL ro σ w k es l->l.take (es.length*k)=l'.take (es.length*k)->RL ro σ w k es l'
 |[],_,_,_,_=>trivial
 |c::es,l,l',h,hp=>by
  obtain⟨l1,l2,rfl,h1,h2,h3⟩:=h;have hl1:l1.length=k:=by rw[h2.1.length];exact h1
  have a:l'.take k=l1:=by
   have:=congrArg (List.take k) hp;simp only[List.take_take,X0,Xm]at this;rw[XB (by omega)]at this;rw[<- this, <- hl1];simp
  refine⟨l1,l'.drop k,by rw[<- a,Xz],h1,h2,Qfs h3 ?_⟩;have:=congrArg (List.drop k) hp;simp only[X0,Xm,List.drop_take]at this;rw[show es.length*k+k-k=es.length*k by omega]at this;rw[<- this, <- hl1];simp
section
variable {P:Program} {o:Oper} {env:Env} {H:Qc}
theorem QfN{c:Call}{T et k b s n t:Nat}{x:Operand}{es es':List (List A)}{z:Value}(ht:P.underlying T=some (.slice et))(hz:∀w,(zeroValue et).run P w=.ok z w)(L:z.cells.size=k)(R:∀v∈z.cells,Ql v)
  (J:es.take s=es')(hb:s+n=es.length)(ho:o.op=.call c:=by exact rfl)(hc:c={callee:=.builtin .clear,args:= #[x],argTypes:= #[T]}:=by exact rfl)
  (hx:opA env x=.osl b s n k:=by exact rfl)(hH:H[b]?=some (.row t k es):=by exact rfl):OpH P o env H (.tup []) (H.set b (.row t k es')):=by
 intro X E σ N a w r;subst J hc;have Y:∀w,(underlying T).run P w=.ok (.slice et) w:=run_underlying ht;have j:=Qe r x;rw[hx]at j;have h:Sim X E σ (H.set b (.row t k (es.take s))) w:=by
  refine r.sim.weaken hH rfl ?_;intro y G;cases y with
  |none=>rw[show es=[]from G];simp[BR]
  |some V=>obtain⟨l,g1,g2⟩:=G;exact⟨l,g1,RL.take s g2⟩
 have f:∀v,a.eval x=v->(Builtin.clear_ #[T] o.type #[v]).run P w=.ok (.tuple #[]) w->
   ∃v w' ro' τ,(execOp a.eval o).run P w=.ok (.value v) w'/\VR ro' (σ++τ) w' (.tup []) v/\Sim X ro' (σ++τ) (H.set b (.row t k (es.take s))) w'/\Qf X E w ro' w':=by
  intro v F d;refine⟨.tuple #[],w,E,[],?_,⟨[],rfl,rfl⟩,by simpa using h,Qf.refl _ _ _⟩;generalize a.eval=ρ at*;simp only[execOp,ho,resolve,Vm,Vn,Result.andThen,invoke,builtin,XJ,Vj,Vk,F,d]
 rcases j with⟨hn,j⟩|⟨V,p,aa,t',m,j,h2,h3,h4,h5,h6⟩
 .refine f _ j ?_;simp[Builtin.clear_,Y,Result.andThen]
 .by_cases hn:n=0
  .subst hn;refine f _ h2 ?_;simp[Builtin.clear_,Y,Result.andThen]
  .obtain rfl:=h3 (by omega);obtain⟨l,q1,q2⟩:=r.sim.blk b _ _ j hH;have ab:=q2.length
   let vs:=(Builtin.zeroCells z.cells n).toList
   have ac:vs.length=n*k:=by simp[vs,Builtin.zeroCells,L]
   have M:∀v∈vs,Ql v:=by
    intro v F;simp only[vs,Builtin.zeroCells,Array.toList_map,Xf,Array.toList_range,List.mem_range]at F;obtain⟨i,hi,rfl⟩:=F;have u:0<z.cells.size:=by
     rcases Nat.eq_zero_or_pos z.cells.size with q|q
     .rw[q,Nat.mul_zero]at hi;omega
     .exact q
    have B:i%z.cells.size<z.cells.size:=Nat.mod_lt _ u;rw[getElem!_pos z.cells _ B];exact R _ (Array.getElem_mem B)
   have ae:s*k+n*k=es.length*k:=by rw[<- XA,hb]
   have d:=Yf (P:=P) (vs:=vs) (s*k) 0 q1 (by omega) M;have g:=r.sim.set (x':=.row t k (es.take s)) (obj:=.cells (splice l (s*k) vs).toArray t (0,0)) j hH rfl
    (λy G=>QaM q1 (Yb (by omega)) y G)
    (λex O=>⟨_,O,by
     refine(Qfs (RL.take s q2) ?_).mono ex.nil;have hl:(es.take s).length*k<=s*k:=XC k (by simp;omega);have Q:(es.take s).length*k<=(l.take (s*k)).length:=by rw[Xy (i:=s*k),XB (by omega)];exact hl
     have e:=X7 (l₂:=vs++l.drop (s*k+vs.length)) Q;unfold splice;rw[Vi,e,List.take_take,XB hl]⟩)
   refine⟨.tuple #[],_,E,[],?_,⟨[],rfl,rfl⟩,by simpa using g.1,g.2⟩;have W:(Builtin.clear_ #[T] o.type #[.slice (some ⟨V,s*k,none⟩) n aa]).run P w=.ok (.tuple #[]) {w with heap:=w.heap.setIfInBounds V (.cells (splice l (s*k) vs).toArray t (0,0))}:=by
    obtain⟨n',rfl⟩:∃n',n=n'+1:=⟨n-1,by omega⟩;simp only[Xx]at d;simp only[Builtin.clear_,XH,XF,Vm,Y,hz,Result.andThen,d,Vn,vs]
   generalize a.eval=ρ at*;simp only[execOp,ho,resolve,Vm,Vn,Result.andThen,invoke,builtin,XJ,Vj,Vk,h2,W]
end
def isNil{α R:Type}[DecidableEq R](l:List α)(x y:Option R):Option R:=bif l.isEmpty then(bif decide (x=y)then x else none)else y
theorem QhW{α R:Type}[DecidableEq R]{l:List α}{x y:Option R}{r:R}(h:isNil l x y=some r)(b:Bool)(d:l≠[]->b=false):(b=true->x=some r)/\(b=false->y=some r):=by
 unfold isNil at h;cases q:l.isEmpty with
 |true=>
  rw[q]at h;by_cases a:x=y
  .subst a;simp at h;exact⟨λ_=>h,λ_=>h⟩
  .simp[a]at h
 |false=>
  rw[q]at h;have f:l≠[]:=by rintro rfl;cases q
  refine⟨λe=>?_,λ_=>h⟩;rw[d f]at e;cases e
section
variable {P:Program} {o:Oper} {env:Env} {H:Qc} {h0 N:Nat} {Q:Qv}
theorem QlA{α:Type}{e:α->List A}{T E k:Nat}{u:TypeId}{x:Operand}{l:List α}(j:P.underlying T=some (.slice E))(m:o.op=.binOp .eql T x (.const (.slice none 0 0)) u)(n:opA env x=.rsl k (l.map e)):
  OpE P o env H (λv H'=>∃b:Bool,v=.bool b/\(l≠[]->b=false)/\H'=H):=by
 intro y p σ N a w r;have g:=Qe r x;rw[n]at g;obtain⟨ad,d,g,t,f⟩:=g;refine⟨.bool ad.isNone,H,.bool ad.isNone,w,p,[],⟨ad.isNone,rfl,λi=>?_,rfl⟩,?_,rfl,by simpa using r.sim,Qf.refl _ _ _⟩
 .rcases f with f|⟨b,s,f,_⟩
  .exact absurd (List.map_eq_nil_iff.1 f) i
  .rw[f];rfl
 .have h:a.eval (.const (.slice none 0 0))=.slice none 0 0:=rfl;generalize a.eval=ρ at*;have q:(eqGuard .eql T x (.const (.slice none 0 0)) (.slice ad (l.map e).length d) (.slice none 0 0)).run P w=.ok () w:=by simp[eqGuard]
  simp only[execOp,m,g,h,Vm,q,Result.andThen,Go.run_eql_slice_nil w T E ad _ d j,Vn]
theorem Qiz{α:Type}{e:α->List A}{T E k d:Nat}{u:TypeId}{x:Operand}{l:List α}{all:Array Oper}{L:List Oper}(h:P.underlying T=some (.slice E))(f:opA env x=.rsl k (l.map e))
  (g:∀b:Bool,(l≠[]->b=false)->WO P h0 N all L (up env d (.bool b)) H Q)
  (i:o.op=.binOp .eql T x (.const (.slice none 0 0)) u:=by exact rfl)(hg:Qm all o env true:=by exact rfl)(hd:o.dst=some d:=by exact rfl)(hN:Nat.blt d N=true:=by exact rfl)(hh:Nat.ble h0 H.length=true:=by exact rfl):WO P h0 N all (o::L) env H Q:=by
 refine QjD (XS hh) hg hd hN (QlA h i f) ?_;rintro v H' ⟨b,rfl,a,rfl⟩;exact g b a
end
theorem slc0{α:Type}{l x:List α}{i:Int}(h:slc l 0 i=some x):0<=i/\i.toNat<=l.length/\l.take i.toNat=x/\x.length=i.toNat:=by
 obtain⟨_,b,e,d⟩:=Qi0 h;have a:l.take i.toNat=x:=by simpa using d
 exact⟨b,by omega,a,by rw[<- a,Xy];omega⟩
section
variable {P:Program} {o:Oper} {env:Env} {H:Qc} {α:Type} {e:α->List A} {T et k b t:Nat} {x y:Operand} {l l':List α} {i:Int}
theorem Qfx(h:slc l 0 i=some l')(E1:∀w,(underlying T).run P w=.ok (.slice et) w)(E2:∀w,(sizeOf et).run P w=.ok k w)(e:o.op=.slice T x (some y) none none:=by exact rfl)
  (hx:opA env x=.osl b 0 l.length k:=by exact rfl)(hy:opA env y=.int .i64 i:=by exact rfl):OpV P o env H (.osl b (0+i.toNat) (l.length-i.toNat) k):=by
 obtain⟨d,a,_,_⟩:=slc0 h;exact Qfz E1 E2 e hx (.inr ⟨y,i,rfl,hy,d,rfl⟩) (.inl ⟨rfl,rfl⟩) a (XU _)
theorem Qfy(h:slc l 0 i=some l')(E1:∀w,(underlying T).run P w=.ok (.slice et) w)(E2:∀w,(sizeOf et).run P w=.ok k w)(f:o.op=.slice T x none (some y) none:=by exact rfl)
  (hx:opA env x=.osl b 0 l.length k:=by exact rfl)(hy:opA env y=.int .i64 i:=by exact rfl):OpV P o env H (.osl b 0 l'.length k):=by
 obtain⟨e,a,_,d⟩:=slc0 h;have:=Qfz (H:=H) E1 E2 f hx (.inl ⟨rfl,rfl⟩) (.inr ⟨y,i,rfl,hy,e,rfl⟩) (XV _) a;rw[d];simpa using this
theorem QfC{c:Call}{z:Value}(h:slc l 0 i=some l')(f:P.underlying T=some (.slice et))(g:∀w,(zeroValue et).run P w=.ok z w)(d:z.cells.size=k)(a:∀v∈z.cells,Ql v)(j:o.op=.call c:=by exact rfl)(hc:c={callee:=.builtin .clear,args:= #[x],argTypes:= #[T]}:=by exact rfl)
  (hx:opA env x=.osl b (0+i.toNat) (l.length-i.toNat) k:=by exact rfl)(hH:H[b]?=some (.row t k (l.map e)):=by exact rfl):OpH P o env H (.tup []) (H.set b (.row t k (l'.map e))):=by
 obtain⟨q,n,m,p⟩:=slc0 h;refine QfN f g d a ?_ ?_ j hc hx hH
 .rw[Xw, <- m,List.map_take]
 .rw[X2];omega
end
end Go.Sw
namespace Go.Sw
open Go.Sort Go.Proofs Go.Shelf
def ltI(x y:Int):Bool:=decide (x<y)
def sortI(l:List Int):Option (List Int):=bif Nat.ble l.length Qp then some (Y5 ltI l)else none
theorem QhE{l l':List Int}(h:sortI l=some l'):l.length<=Qp/\Y5 ltI l=l':=by
 unfold sortI at h;cases e:Nat.ble l.length Qp with
 |false=>rw[e]at h;simp at h
 |true=>rw[e]at h;exact⟨XS e,XZ h⟩
theorem Qaf{l l':List Int}(h:sortI l=some l'):l.length=l'.length:=by
 rw[<- (QhE h).2];exact(Qn _ _).length_eq.symm
theorem QgW(l:List Int):Qd4 ltI l:=
 ⟨λx _=>by simp[ltI],λx _ y _ z _ a b=>by simp[ltI]at*;omega,λx _ y _ z _ a b=>by simp[ltI]at*;omega⟩
theorem Qec(l:List Int):(l.mergeSort λx y=>decide (x<=y))=Y5 ltI l:=by
 refine Jf (lt:=ltI) ?_ ?_ ?_ (QZ (QgW l))
 .exact(List.mergeSort_perm _ _).trans (Qn _ _).symm
 .intro x _ y _ a b;simp[ltI]at*;omega
 .refine(List.pairwise_mergeSort (le:=λx y=>decide (x<=y)) ?_ ?_ l).imp ?_
  .intro a b c;simp;omega
  .intro a b;simp;omega
  .intro a b;simp[ltI]
theorem Qkx{ro:Nat->Prop}{σ:Sig}{w:World}:∀{l:List Int} {lv:List Value},RL ro σ w 1 (l.map λx=>[A.int .i64 x]) lv->∃rest,lv=l.map (Value.int .i64)++rest
 |[],lv,_=>⟨lv,rfl⟩
 |x::l,lv,h=>by
  obtain⟨l1,l2,rfl,h1,⟨h2,h3⟩,h4⟩:=h;obtain⟨rest,rfl⟩:=Qkx (l:=l) h4;obtain⟨v,r,rfl,hv,hr⟩:=h2;cases(show r=[]from hr);exact⟨rest,by rw[show v=.int .i64 x from hv];simp⟩
theorem Qft{ro:Nat->Prop}{σ:Sig}{w:World}:∀(l:List Int) (rest:List Value),RL ro σ w 1 (l.map λx=>[A.int .i64 x]) (l.map (Value.int .i64)++rest)
 |[],_=>trivial
 |x::l,rest=>⟨[.int .i64 x],l.map (Value.int .i64)++rest,by simp,rfl,⟨⟨_,_,rfl,rfl,rfl⟩,by simp[Ql]⟩,Qft l rest⟩
theorem QkF{P:Program}{ρ:Ren}(L:Lays.n189 P ρ){t:Nat}{l l':List Int}(hs:sortI l=some l'):
  C P (ρ.f 189) [.osl 0 0 l.length 1] [.row t 1 (l.map λx=>[A.int .i64 x])] (λa H=>a=.tup []/\H=[.row t 1 (l'.map λx=>[A.int .i64 x])]):=by
 intro fr M σ vals w s hv;obtain⟨vs,r1,rfl,af,hr⟩:=hv;cases(show r1=[]from hr);obtain⟨R,aa⟩:=QhE hs;have d:∀(ad:Option Addr) (c:Nat),vs=.slice ad 0 c->l=[]->
   Calls P (ρ.f 189) [vs].toArray w λe Y=>∃v r H' ro' τ,e=.returned v/\(r=.tup []/\H'=[.row t 1 (l'.map λx=>[A.int .i64 x])])/\Sim fr ro' (σ++τ) H' Y/\VR ro' (σ++τ) Y r v/\Qf fr M w ro' Y:=by
  rintro ad c rfl rfl;have E:l'=[]:=by rw[<- aa];rfl
  subst E;refine(Any.slices_Sort_int_none L ad c w).mono ?_;rintro e Y ⟨rfl,rfl⟩;exact⟨_,_,_,M,[],rfl,⟨rfl,rfl⟩,by simpa using s,⟨[],rfl,rfl⟩,Qf.refl _ _ _⟩
 rcases af with⟨h0,rfl⟩|⟨b,p,cp,t',m,q1,rfl,q2,q3,q4,q5⟩
 .exact d none 0 rfl (VJ.1 h0)
 .by_cases E:l=[]
  .subst E;exact d _ cp rfl rfl
  .have ag:0<l.length:=List.length_pos_iff.2 E;obtain rfl:=q2 (Vf ag q3);obtain⟨lv,e1,e2⟩:=s.blk 0 _ _ q1 rfl;obtain⟨hb,V,Q⟩:=s.own 0 b _ q1 rfl rfl;obtain⟨u,rfl⟩:=Qkx e2;have hH:Holds (Value.int .i64) w b 0 l.toArray:=by
    intro j hj;simp only[List.size_toArray]at hj;constructor
    .unfold World.cell?;simp only[e1,Option.isSome_none,Xj,if_false,Xw];rw[Qad,XN (by simpa using hj)];simp[hj]
    .unfold World.frozen?;simp only[e1];simp
   have z:=Any.slices_Sort_int L b 0 cp l w hH hb (by unfold Qp at R;omega);rw[Qec,aa]at z;simp only[Nat.zero_mul]at z⊢;refine z.mono ?_;rintro e Y ⟨rfl,n,os,rfl⟩;have F:l.length=l'.length:=Qaf hs;generalize hW:grow (putRow (Value.int .i64) (Sort.ahead w n) b 0 l'.toArray) os=W;have g:W.heap=w.heap.setIfInBounds b (.cells ((l'.map (Value.int .i64)++u)).toArray t (0,0))++os:=by
    rw[<- hW];show(w.heap.modify b _)++os=_;rw[Qbg e1];simp only[onCells];congr 3;unfold putCells;apply Array.ext_getElem?;intro i;simp only[Array.getElem?_mapIdx,Qad,XV,true_and,Xw,Xv,List.size_toArray];by_cases hi:i<l'.length
    .rw[XN (by simpa[F]using hi),XN (by simpa using hi)];simp[hi,F]
    .rw[XO (by simp;omega),XO (by simp;omega)];simp only[X2,F];cases(u[i-l'.length]?)with
     |none=>rfl
     |some v=>exact congrArg some (Vs hi)
   have g1:∀c,c<w.heap.size->c≠b->W.heap[c]?=w.heap[c]? :=by
    intro c k ac;rw[g,Array.getElem?_append_left (by simpa using k),Ve,Vs (λq=>ac q.symm)]
   have g2:W.heap[b]?=some (.cells ((l'.map (Value.int .i64)++u)).toArray t (0,0)):=by
    rw[g,Array.getElem?_append_left (by simpa using hb),Ve,Vt rfl,Vt hb]
   have g3:w.heap.size<=W.heap.size:=by rw[g];simp
   have B:∀c y,w.shape? c=some y->W.shape? c=some y:=by
    intro c y J;by_cases k:c=b
    .subst k;unfold World.shape? at J⊢;rw[e1]at J;rw[g2];simp only[Option.some.injEq]at J⊢;rw[<- J];simp[F]
    .unfold World.shape? at J⊢;rw[g1 c (QbN J) k];exact J
   have aj:W.os=w.os:=by rw[<- hW];rfl
   have ah:W.tape=w.tape:=by rw[<- hW];rfl
   have ai:W.output=w.output:=by rw[<- hW];rfl
   have ae:w.drawn<=W.drawn:=by rw[<- hW];exact Nat.le_add_right _ _
   have ab:Qf fr M w M W:=
    ⟨λ_ q=>q,λc k=>g1 c (s.roLt c k) (λq=>V (q▸k)),λc k=>g1 c (s.frLt c k) (λq=>Q (q▸k)),g3,B,aj,ah,ai,ae⟩
   have G:σ.length=1:=s.len;have X:Sim fr M σ [.row t 1 (l'.map λx=>[A.int .i64 x])] W:=by
    have T:∀{i:Nat} {x:Blk},([.row t 1 (l'.map λx=>[A.int .i64 x])]:Qc)[i]?=some x->i=0/\x=.row t 1 (l'.map λx=>[A.int .i64 x]):=by
     intro i x h;cases i with
     |zero=>simp at h;exact⟨rfl,h.symm⟩
     |succ i=>simp at h
    refine⟨G,s.roOk.to (λ_ q=>q) ab.keepRo (λc k=>Vf (s.roLt c k) g3),λc k=>Vf (s.frLt c k) g3,s.roFr,λi c x N O h3=>?_,λi j c x y N O h3 h4 _ _=>?_,λi y x N O=>?_,λi b x c N O h3=>by obtain⟨rfl,rfl⟩:=T O;exact h3.elim⟩
    .obtain⟨rfl,rfl⟩:=T O;obtain⟨p1,p2⟩:=s.own 0 c _ N rfl rfl;exact⟨Vf p1 g3,p2⟩
    .rw[(T h3).1,(T h4).1]
    .obtain⟨rfl,rfl⟩:=T O;rw[q1]at N;cases N;exact⟨_,g2,Qft l' u⟩
   exact⟨_,_,_,M,[],rfl,⟨rfl,rfl⟩,by simpa using X,⟨[],rfl,rfl⟩,ab⟩
section
variable {P:Program} {o:Oper} {env:Env} {H:Qc} {α:Type} {e:α->List A} {T et k b t:Nat} {x y:Operand}
theorem Qlv{lo hi:Option Operand}{l r:List α}{a c:Int}(h:slc l a c=some r)(E1:∀w,(underlying T).run P w=.ok (.slice et) w)(E2:∀w,(sizeOf et).run P w=.ok k w)
  (g:lo=none/\a=0\/ ∃y,lo=some y/\opA env y=.int .i64 a)(f:hi=none/\c=l.length\/ ∃y,hi=some y/\opA env y=.int .i64 c)
  (i:o.op=.slice T x lo hi none:=by exact rfl)(hx:opA env x=.osl b 0 l.length k:=by exact rfl):OpV P o env H (.osl b (0+a.toNat) (c.toNat-a.toNat) k):=by
 obtain⟨j,n,m,_⟩:=Qi0 h;refine Qfz (l:=a.toNat) (h:=c.toNat) E1 E2 i hx ?_ ?_ (by omega) (by omega)
 .rcases g with⟨d,e⟩|⟨y,d,e⟩
  .exact .inl ⟨d,by rw[e];rfl⟩
  .exact .inr ⟨y,a,d,e,j,rfl⟩
 .rcases f with⟨d,e⟩|⟨y,d,e⟩
  .exact .inl ⟨d,by rw[e];simp⟩
  .exact .inr ⟨y,c,d,e,by omega,rfl⟩
end
end Go.Sw
namespace Go.Sw
inductive Bx where
 |mk (a:A)
def lkB:Env->Nat->Bx
 |[],_=>.mk .any
 |(d,a)::r,s=>bif Nat.beq s d then .mk a else lkB r s
theorem Qjg:∀{env:Env} {s:Nat} {a:A},lkB env s=.mk a->lk env s=a
 |[],s,a,h=>by cases h;rfl
 |(d,b)::r,s,a,h=>by
  unfold lkB at h;unfold lk;cases q:Nat.beq s d with
  |true=>rw[q]at h;cases h;rfl
  |false=>rw[q]at h;exact Qjg h
inductive FBy where
 |mk (l:List UInt8)
def fby:List UInt8->FBy
 |[]=>.mk []
 |a::r=>match fby r with
  |.mk r'=>.mk (a::r')
theorem QmD:∀l:List UInt8,fby l=.mk l
 |[]=>rfl
 |a::r=>by unfold fby;rw[QmD r]
def opB(env:Env):Operand->Bx
 |.tmp t=>lkB env t
 |.const (.bool b)=>.mk (.bool b)
 |.const (.int k n)=>.mk (.int k n)
 |.const (.string s)=>match fby s.data.toList with
  |.mk l=>.mk (.str l)
 |.const (.pointer none)=>.mk .nilp
 |.const (.slice none 0 0)=>.mk .nils
 |.const (.map none)=>.mk .nilm
 |.const .nilFunc=>.mk .nilf
 |.const .nilIface=>.mk .nilif
 |.func f=>.mk (.fn (.func f) [] [])
 |_=>.mk .any
theorem Qx{env:Env}{x:Operand}{a:A}(h:opB env x=.mk a):opA env x=a:=by
 cases x with
 |tmp t=>exact Qjg h
 |const v=>
  cases v with
  |slice b n k=>cases b with
   |none=>cases n with
    |zero=>cases k<;>(cases h;rfl)
    |succ n=>cases h;rfl
   |some b=>cases h;rfl
  |pointer p=>cases p<;>(cases h;rfl)
  |map p=>cases p<;>(cases h;rfl)
  |string s=>
   have d:(match fby s.data.toList with|.mk l=>Bx.mk (.str l))=.mk a:=h;rw[QmD]at d;cases d;rfl
  |_=>cases h;rfl
 |global g=>cases h;rfl
 |func f=>cases h;rfl
def YQ{α:Type}:List α->Nat->Option α
 |[],_=>none
 |a::_,0=>some a
 |_::r,n+1=>YQ r n
theorem QaG{α:Type}:∀(l:List α) (n:Nat),YQ l n=l[n]?
 |[],n=>by simp[YQ]
 |a::r,0=>rfl
 |a::r,n+1=>by simp[YQ,QaG r n]
def arB:BinOp->IntKind->Int->Int->Option A
 |.add,k,m,n=>some (.int k (k.wrap (m+n)))
 |.sub,k,m,n=>some (.int k (k.wrap (m-n)))
 |.mul,k,m,n=>some (.int k (k.wrap (m*n)))
 |.eql,_,m,n=>some (.bool (m==n))
 |.neq,_,m,n=>some (.bool (m != n))
 |.lss,_,m,n=>some (.bool (decide (m<n)))
 |.leq,_,m,n=>some (.bool (decide (m<=n)))
 |.gtr,_,m,n=>some (.bool (decide (n<m)))
 |.geq,_,m,n=>some (.bool (decide (n<=m)))
 |_,_,_,_=>none
def srB:BinOp->List UInt8->List UInt8->Option A
 |.eql,p,q=>some (.bool (p==q))
 |.neq,p,q=>some (.bool (p != q))
 |.lss,p,q=>some (.bool (Op.bytesLess p q))
 |_,_,_=>none
def biB(b:BinOp):Bx->Bx->Option A
 |.mk (.int k m),.mk (.int k' n)=>if k=k' then arB b k m n else none
 |.mk (.str p),.mk (.str q)=>srB b p q
 |_,_=>none
def unB:UnOp->Bx->Option A
 |.not,.mk (.bool b)=>some (.bool !b)
 |.neg,.mk (.int k n)=>some (.int k (k.wrap (0-n)))
 |_,_=>none
def exB:Bx->Nat->Option A
 |.mk (.tup vs),i=>YQ vs i
 |_,_=>none
def nlB:Bx->Option A
 |.mk (.ptr i j)=>some (.ptr i j)
 |.mk (.rp cs)=>some (.rp cs)
 |_=>none
def piB:Bx->Bx->Bx->Option A
 |.mk (.bool true),.mk a,_=>some a
 |.mk (.bool false),_,.mk a=>some a
 |_,_,_=>none
def svB(env:Env):Op->Option A
 |.move x=>match opB env x with|.mk a=>some a
 |.assign x=>match opB env x with|.mk a=>some a
 |.nilCheck x=>nlB (opB env x)
 |.extract x i=>exB (opB env x) i
 |.unOp u _ x=>unB u (opB env x)
 |.pick c x y=>piB (opB env c) (opB env x) (opB env y)
 |.binOp b _ x y _=>biB b (opB env x) (opB env y)
 |_=>none
def pr(d:Nat):Option A->Option (Nat×A)
 |some a=>some (d,a)
 |none=>none
def stB(o:Oper)(env:Env):Option (Nat×A):=
 match o.dst with
 |some d=>pr d (svB env o.op)
 |none=>none
section
variable {P:Program} {h0 N:Nat} {all:Array Oper} {o:Oper} {l:List Oper} {env:Env} {H H':Qc} {Q:Qv} {d:Nat} {x:A}
theorem QbL{p:Op}(d:o.op=p)(h:svB env p=some x):OpV P o env H x:=by
 unfold svB at h;split at h
 .rename_i y;cases q:opB env y with|mk a=>rw[q]at h;cases h;exact OpV.move d (Qx q)
 .rename_i y;cases q:opB env y with|mk a=>rw[q]at h;cases h;exact OpV.assign d (Qx q)
 .rename_i y;unfold nlB at h;split at h
  .rename_i i j q;cases h;exact Yv d (Qx q) rfl
  .rename_i w q;cases h;exact Yv d (Qx q) rfl
  .cases h
 .rename_i y i;unfold exB at h;split at h
  .rename_i vs _ q;rw[QaG]at h;exact OpV.extract d (Qx q) h
  .cases h
 .rename_i u t y;unfold unB at h;split at h
  .rename_i b q;cases h;exact OpV.not d (Qx q)
  .rename_i k n q;cases h;exact OpV.neg d (Qx q)
  .cases h
 .rename_i c y z;unfold piB at h;split at h
  .rename_i a _ l r;cases h;exact OpV.pick d (Qx l) (by rw[Vt rfl];exact Qx r)
  .rename_i a l r;cases h;exact OpV.pick d (Qx l) (by rw[Vs (by decide)];exact Qx r)
  .cases h
 .rename_i b t y z u;unfold biB at h;split at h
  .rename_i k m s n l r;split at h
   .rename_i e;subst e;have g:=Qx l;have f:=Qx r;unfold arB at h;split at h
    .cases h;exact OpV.add d g f
    .cases h;exact OpV.sub d g f
    .cases h;exact OpV.mul d g f
    .cases h;exact OpV.eql d g f
    .cases h;exact OpV.neq d g f
    .cases h;exact OpV.lss d g f
    .cases h;exact OpV.leq d g f
    .cases h;exact OpV.gtr d g f
    .cases h;exact OpV.geq d g f
    .cases h
   .cases h
  .rename_i p q l r;have g:=Qx l;have f:=Qx r;unfold srB at h;split at h
   .cases h;exact QdH d g f
   .cases h;exact Qlq d g f
   .cases h;exact Qlr d g f
   .cases h
  .cases h
 .cases h
theorem QgK(h:stB o env=some (d,x)):o.dst=some d/\OpV P o env H x:=by
 unfold stB at h;split at h
 .rename_i b q;cases e:svB env o.op with
  |none=>rw[e]at h;cases h
  |some a=>rw[e]at h;cases h;exact⟨q,QbL rfl e⟩
 .cases h
theorem S(e:stB o env=some (d,x))(k:WO P h0 N all l (up env d x) H Q)(hg:Qm all o env true:=by exact rfl)(hN:Nat.blt d N=true:=by exact rfl):WO P h0 N all (o::l) env H Q:=
 QF hg (QgK (P:=P) (H:=H) e).1 hN (QgK e).2 k
theorem Sg(hg:Qm all o env true)(e:stB o env=some (d,x))(k:WO P h0 N all l (up env d x) H Q)(a:Nat.blt d N=true:=by exact rfl):WO P h0 N all (o::l) env H Q:=
 QF hg (QgK (P:=P) (H:=H) e).1 a (QgK e).2 k
theorem K(hg:Qm all o env false)(a:o.dst=some d)(k:WO P h0 N all l (up env d (.tup [])) H Q)(b:Nat.blt d N=true:=by exact rfl):WO P h0 N all (o::l) env H Q:=
 WO.skip hg a b k
theorem KF{j s:Nat}{c y:Bool}(b:y= !c)(a:o.dst=some d)(k:WO P h0 N all l (up env d (.tup [])) H Q)(e:Nat.blt d N=true:=by exact rfl)(hg:o.guard=some (j,c):=by exact rfl)(hs:(all[j]?).bind (·.dst)=some s:=by exact rfl)(hl:lk env s=.bool y:=by exact rfl):WO P h0 N all (o::l) env H Q:=
 WO.skip (gF b hg hs hl) a e k
def p2B(v:Bool):Bx->Bx->Bx->Option (Bool×A)
 |.mk (.bool b),.mk a,.mk a'=>match v with|true=>some (b,a)|false=>some (b,a')
 |_,_,_=>none
def pr2(d:Nat):Option (Bool×A)->Option (Nat×Bool×A)
 |some a=>some (d,a)
 |none=>none
def pkB(v:Bool)(o:Oper)(env:Env):Option (Nat×Bool×A):=
 match o.dst,o.op with
 |some d,.pick c x y=>pr2 d (p2B v (opB env c) (opB env x) (opB env y))
 |_,_=>none
theorem Qo6{v b:Bool}{p q r:Bx}(h:p2B v p q r=some (b,x)):∃a a',p=.mk (.bool b)/\q=.mk a/\r=.mk a'/\(bif v then a else a')=x:=by
 obtain⟨p⟩:=p;obtain⟨q⟩:=q;obtain⟨r⟩:=r;cases p<;>first|(cases h;done)|skip
 cases v<;>cases h<;>exact⟨_,_,rfl,rfl,rfl,rfl⟩
theorem Qma{v b:Bool}(h:pkB v o env=some (d,b,x))(f:b=v):o.dst=some d/\OpV P o env H x:=by
 unfold pkB at h;split at h
 .rename_i p c y z j k;cases e:p2B v (opB env c) (opB env y) (opB env z)with
  |none=>rw[e]at h;cases h
  |some s=>
   rw[e]at h;cases h;obtain⟨a,n,l,i,g,m⟩:=Qo6 e;refine⟨j,OpV.pick k (Qx l) ?_⟩;rw[Qx i,Qx g,f];cases v<;>exact m
 .cases h
theorem Pk{v b:Bool}(a:b=v)(e:pkB v o env=some (d,b,x))(k:WO P h0 N all l (up env d x) H Q)(hg:Qm all o env true:=by exact rfl)(hN:Nat.blt d N=true:=by exact rfl):WO P h0 N all (o::l) env H Q:=
 QF hg (Qma (P:=P) (H:=H) e a).1 hN (Qma e a).2 k
def fpB(o:Oper)(env:Env):Option (Nat×Nat×Nat×Nat×Nat):=
 match o.dst,o.op with
 |some d,.fieldAddr T x f=>match opB env x with
  |.mk (.ptr i p)=>some (d,T,f,i,p)
  |_=>none
 |_,_=>none
theorem Qg3{T f off n i p:Nat}(g:QW P T f off n)(h:fpB o env=some (d,T,f,i,p)):o.dst=some d/\OpV P o env H (.ptr i (p+off)):=by
 unfold fpB at h;split at h
 .rename_i e b;split at h
  .rename_i a;cases h;exact⟨e,Yo g b (Qx a)⟩
  .cases h
 .cases h
theorem Fp{T f off n i p:Nat}(a:QW P T f off n)(e:fpB o env=some (d,T,f,i,p))(k:WO P h0 N all l (up env d (.ptr i (p+off))) H Q)(hg:Qm all o env true:=by exact rfl)(hN:Nat.blt d N=true:=by exact rfl):WO P h0 N all (o::l) env H Q:=
 QF hg (Qg3 (H:=H) a e).1 hN (Qg3 a e).2 k
theorem Fpg{T f off n i p:Nat}(hg:Qm all o env true)(a:QW P T f off n)(e:fpB o env=some (d,T,f,i,p))(k:WO P h0 N all l (up env d (.ptr i (p+off))) H Q)(b:Nat.blt d N=true:=by exact rfl):WO P h0 N all (o::l) env H Q:=
 QF hg (Qg3 (H:=H) a e).1 b (Qg3 a e).2 k
inductive Lx where
 |mk (l:List A)
def Qfn:Nat->List A->Lx
 |0,l=>.mk l
 |n+1,_::r=>Qfn n r
 |_+1,[]=>.mk []
theorem Qc2:∀{n:Nat} {l r:List A},Qfn n l=.mk r->l.drop n=r
 |0,l,r,h=>by cases h;rfl
 |n+1,a::l,r,h=>by rw[List.drop_succ_cons];exact Qc2 h
 |n+1,[],r,h=>by cases h;rfl
def frB(off:Nat)(o:Oper)(env:Env):Option (Nat×Nat×Nat×List A):=
 match o.dst,o.op with
 |some d,.fieldAddr T x f=>match opB env x with
  |.mk (.rp cs)=>match Qfn off cs with
   |.mk r=>some (d,T,f,r)
  |_=>none
 |_,_=>none
theorem Qmx{T f off n:Nat}{r:List A}(j:QW P T f off n)(h:frB off o env=some (d,T,f,r)):o.dst=some d/\OpV P o env H (.rp r):=by
 unfold frB at h;split at h
 .rename_i e i;split at h
  .rename_i b g;cases a:Qfn off b with|mk r'=>rw[a]at h;cases h;exact⟨e,Qo j i (Qx g) (Qc2 a)⟩
  .cases h
 .cases h
theorem Fr{T f off n:Nat}{r:List A}(a:QW P T f off n)(e:frB off o env=some (d,T,f,r))(k:WO P h0 N all l (up env d (.rp r)) H Q)(hg:Qm all o env true:=by exact rfl)(hN:Nat.blt d N=true:=by exact rfl):WO P h0 N all (o::l) env H Q:=
 QF hg (Qmx (H:=H) a e).1 hN (Qmx a e).2 k
def ctB:Option Blk->Nat->Option A
 |some (.cells _ cs),off=>YQ cs off
 |_,_=>none
def lvB(H:Qc):Bx->Option A
 |.mk (.ptr i off)=>ctB (YQ H i) off
 |.mk (.rp (a::_))=>some a
 |_=>none
def pr3(d t:Nat):Option A->Option (Nat×Nat×A)
 |some a=>some (d,t,a)
 |none=>none
def ldB(o:Oper)(env:Env)(H:Qc):Option (Nat×Nat×A):=
 match o.dst,o.op with
 |some d,.load t x=>pr3 d t (lvB H (opB env x))
 |_,_=>none
theorem QgY{t:Nat}(k:∀w,(isAgg t).run P w=.ok false w)(h:ldB o env H=some (d,t,x)):o.dst=some d/\OpV P o env H x:=by
 unfold ldB at h;split at h
 .rename_i s q y m l;cases e:lvB H (opB env y)with
  |none=>rw[e]at h;cases h
  |some a=>
   rw[e]at h;cases h;refine⟨m,?_⟩;unfold lvB at e;split at e
   .rename_i i b j;unfold ctB at e;split at e
    .rename_i b p T0 T cs q4;rw[QaG]at e q4;obtain⟨f,n⟩:∃f,cs.drop b=x::f:=by
      have g:=(XM.1 e).1;refine⟨cs.drop (b+1),?_⟩;rw[Xr g,(XM.1 e).2]
     exact OpV.load l k (Qx j) (Pts.cells q4 n)
    .cases e
   .rename_i a r j;cases e;exact OpV.load l k (Qx j) Pts.rp
   .cases e
 .cases h
theorem Ld{t:Nat}(a:∀w,(isAgg t).run P w=.ok false w)(e:ldB o env H=some (d,t,x))(k:WO P h0 N all l (up env d x) H Q)(hg:Qm all o env true:=by exact rfl)(hN:Nat.blt d N=true:=by exact rfl):WO P h0 N all (o::l) env H Q:=
 QF hg (QgY a e).1 hN (QgY a e).2 k
theorem Ldg{t:Nat}(hg:Qm all o env true)(a:∀w,(isAgg t).run P w=.ok false w)(e:ldB o env H=some (d,t,x))(k:WO P h0 N all l (up env d x) H Q)(b:Nat.blt d N=true:=by exact rfl):WO P h0 N all (o::l) env H Q:=
 QF hg (QgY a e).1 b (QgY a e).2 k
def ixB(o:Oper)(env:Env):Option (Nat×Nat×Nat×List (List A)×IntKind×Int):=
 match o.dst,o.op with
 |some d,.indexAddr t x y=>match opB env x,opB env y with
  |.mk (.rsl k es),.mk (.int kk i)=>some (d,t,k,es,kk,i)
  |_,_=>none
 |_,_=>none
theorem Ix{α:Type}{e:α->List A}{t et k:Nat}{L:List α}{n:IntKind}{i:Int}{v:α}(h:idx L i=some v)(b:∀w,(underlying t).run P w=.ok (.slice et) w)(j:∀w,(sizeOf et).run P w=.ok k w)
  (q:ixB o env=some (d,t,k,L.map e,n,i))(k:WO P h0 N all l (up env d (.rp (e v))) H Q)(hg:Qm all o env true:=by exact rfl)(hN:Nat.blt d N=true:=by exact rfl):WO P h0 N all (o::l) env H Q:=by
 unfold ixB at q;split at q
 .rename_i f m;split at q
  .rename_i g a;simp only[Option.some.injEq,Prod.mk.injEq]at q;obtain⟨rfl,rfl,rfl,p,rfl,rfl⟩:=q;exact QF hg f hN (Qhm h b j m (by rw[Qx g,p]) (Qx a)) k
  .cases q
 .cases q
def lnB(o:Oper)(env:Env):Option (Nat×Nat×Bx):=
 match o.dst,o.op with
 |some d,.call c=>match c with
  |{callee:=.builtin .len,args:=⟨[x]⟩,argTypes:=⟨[t]⟩}=>some (d,t,opB env x)
  |_=>none
 |_,_=>none
theorem Qpd{t:Nat}{b:Bx}(q:lnB o env=some (d,t,b)):∃x,o.dst=some d/\o.op=.call {callee:=.builtin .len,args:= #[x],argTypes:= #[t]}/\opB env x=b:=by
 unfold lnB at q;split at q
 .rename_i e a;split at q
  .cases q;exact⟨_,e,a,rfl⟩
  .cases q
 .cases q
theorem LnM{α:Type}{e:α->List A}{t et k:Nat}{L:List α}(f:∀w,(underlying t).run P w=.ok (.slice et) w)(q:lnB o env=some (d,t,.mk (.rsl k (L.map e))))
  (k:WO P h0 N all l (up env d (.int .i64 L.length)) H Q)(hg:Qm all o env true:=by exact rfl)(hN:Nat.blt d N=true:=by exact rfl):WO P h0 N all (o::l) env H Q:=by
 obtain⟨x,g,b,a⟩:=Qpd q;exact QF hg g hN (Qne f b rfl (Qx a)) k
end
section
variable {P:Program} {h0 N:Nat} {all:Array Oper} {env env':Env} {H H':Qc} {Q:Qv} {c c':Code}
theorem Nx(h:TC P h0 N c env H Q):WO P h0 N all [] env H (Seq P h0 N c Q):=WO.nil (QlV h)
theorem Rg{id:Nat}{l:List Oper}(h:WO P h0 N l.toArray l env H (Seq P h0 N c Q)):TC P h0 N (.seq (.region id l.toArray false) c) env H Q:=TC.seq (TC.region h)
theorem SkN(h:TC P h0 N c env H Q):TC P h0 N .skip env H (Seq P h0 N c Q):=TC.skip (QlV h)
theorem ExX{id:Nat}(h:Q (.exit id) env H):TC P h0 N (.exit id) env H (Seq P h0 N c Q):=TC.exit (seqX h)
theorem Oi{α:Type}{x y:α}(h:some x=some y):x=y:=XZ h
theorem Bd{α β:Type}{x:Option α}{f:α->Option β}{r:β}{G:Prop}(h:x.bind f=some r)(k:∀a,x=some a->f a=some r->G):G:=by
 obtain⟨a,d,b⟩:=bnd h;exact k a d b
theorem If{α:Type}{c:Bool}{x y:Option α}{r:α}{G:Prop}(h:(bif c then x else y)=some r)(t:c=true->x=some r->G)(e:c=false->y=some r->G):G:=by
 cases c with
 |true=>exact t rfl h
 |false=>exact e rfl h
theorem Cn{α:Type}{x:Operand}{t:Bool}{p q:Option α}{r:α}(hx:opB env x=.mk (.bool t))(h:(bif t then p else q)=some r)(ht:t=true->p=some r->TC P h0 N c env H Q)(hf:t=false->q=some r->TC P h0 N c' env H Q):TC P h0 N (.cond x c c') env H Q:=
 TC.cond (Qx hx) (λe=>ht e (ifT e h)) (λe=>hf e (ifF e h))
theorem Jw{α:Type}{x:Operand}{t:Bool}{p q:Option α}{r:α}(hx:opB env x=.mk (.bool t))(h:(bif t then p else q)=some r)(hf:t=false->q=some r->TC P h0 N c' env H Q)(ht:t=true->p=some r->TC P h0 N c env H Q):TC P h0 N (.cond x c c') env H Q:=
 TC.cond (Qx hx) (λe=>ht e (ifT e h)) (λe=>hf e (ifF e h))
theorem Lr(π:List Nat)(a:π.take h0=List.range h0:=by exact rfl)(hH:π.map (λp=>H[p]?)=(H'.map (QT (rho π H.length))).map some:=by exact rfl)(hπ:π.Nodup:=by decide)
  (hE:Qd7 (rho π H.length) env env':=by(repeat' (first|exact trivial|refine⟨rfl,?_⟩))):Le h0 env H env' H':=Qnl π a hH hπ hE
end
end Go.Sw
namespace Go.Sw
def Ev{α:Type}(f:Nat->Option α)(v:α):Prop:=∃N,∀n,N<=n->f n=some v
section
variable {α β:Type} {f g:Nat->Option α} {v w:α}
theorem Qa(v:α):Ev (λ_=>some v) v:=⟨0,λ_ _=>rfl⟩
theorem Ev.const{o:Option α}(h:o=some v):Ev (λ_=>o) v:=⟨0,λ_ _=>h⟩
theorem Ev.bind{k:Nat->α->Option β}{b:β}(h:Ev f v)(a:Ev (λn=>k n v) b):Ev (λn=>(f n).bind (k n)) b:=by
 obtain⟨N,h⟩:=h;obtain⟨M,a⟩:=a;exact⟨max N M,λn d=>by show(f n).bind (k n)=some b;rw[h n (by omega),XK];exact a n (by omega)⟩
theorem QaZ{o:Option α}{k:Nat->α->Option β}{b:β}(h:o=some v)(hk:Ev (λn=>k n v) b):Ev (λn=>o.bind (k n)) b:=Ev.bind (Ev.const h) hk
theorem Qb2{c:Bool}(a:c=true->Ev f v)(b:c=false->Ev g w):Ev (λn=>bif c then f n else g n) (bif c then v else w):=by
 cases c with
 |true=>exact a rfl
 |false=>exact b rfl
theorem QkD(h:Ev f v):Ev (λn=>bif true then f n else g n) v:=h
theorem YH(h:Ev g v):Ev (λn=>bif false then f n else g n) v:=h
theorem Qu{c d:Bool}{h:Nat->Option Bool}(a:c=true->Ev h d):Ev (λn=>bif c then h n else some false) (c&&d):=by
 cases c with
 |true=>exact a rfl
 |false=>exact Qa _
theorem Ev.or{c d:Bool}{h:Nat->Option Bool}(a:c=false->Ev h d):Ev (λn=>bif c then some true else h n) (c||d):=by
 cases c with
 |true=>exact Qa _
 |false=>exact a rfl
theorem Ev.eq(h:Ev f v)(e:v=w):Ev f w:=e▸h
theorem YZ(h:Ev f v)(e:∀n,g n=f n):Ev g v:=by
 obtain⟨N,h⟩:=h;exact⟨N,λn a=>by rw[e];exact h n a⟩
theorem YL(h:Ev (λn=>f (n+1)) v):Ev f v:=by
 obtain⟨N,h⟩:=h;refine⟨N+1,λn a=>?_⟩;obtain⟨m,rfl⟩:∃m,n=m+1:=⟨n-1,by omega⟩;exact h m (by omega)
theorem Ev.ex(h:Ev f v):∃n,f n=some v:=let⟨N,h⟩:=h;⟨N,h N (XU _)⟩
theorem Qhq(h:Ev f v)(k:Ev f w):v=w:=by
 obtain⟨N,h⟩:=h;obtain⟨M,k⟩:=k;have a:=h (max N M) (by omega);rw[k (max N M) (by omega)]at a;exact(XZ a).symm
theorem Ev.all{k:Nat}{F:Nat->Nat->Option α}{V:Nat->α}(h:∀i,i<k->Ev (F i) (V i)):∃N,∀n,N<=n->∀i,i<k->F i n=some (V i):=by
 induction k with
 |zero=>exact⟨0,λn _ i a=>absurd a (Xn _)⟩
 |succ k b=>
  obtain⟨N,d⟩:=b λi a=>h i (by omega);obtain⟨M,e⟩:=h k (by omega);refine⟨max N M,λn f i a=>?_⟩;rcases Xp.1 a with q|rfl
  .exact d n (by omega) i q
  .exact e n (by omega)
end
section
variable {S B α:Type} {step:Nat->S->Option (Ctl S B)}
theorem Ev.iter{s0:S}(st:Nat->S)(k:Nat){b:B}(h0:st 0=s0)(f:∀i,i<k->Ev (λn=>step n (st i)) (.cont (st (i+1))))(e:Ev (λn=>step n (st k)) (.done b)):
  Ev (λn=>Go.Sw.iter (step n) n s0) b:=by
 obtain⟨N,d⟩:=Ev.all f;obtain⟨M,g⟩:=e;exact⟨max (max N M) (k+1),λn h=>Qmq s0 st b k h0 (λi a=>d n (by omega) i a) (g n (by omega)) n (by omega)⟩
theorem Qcf{step:S->Option (Ctl S B)}{s:S}{b:B}(m:Nat)(h:Go.Sw.iter step m s=some b):Ev (λn=>Go.Sw.iter step n s) b:=by
 have mono:∀m s,Go.Sw.iter step m s=some b->∀n,m<=n->Go.Sw.iter step n s=some b:=by
  intro m
  induction m with
  |zero=>intro s h;cases h
  |succ m f=>
   intro s h n d;obtain⟨a,rfl⟩:∃a,n=a+1:=⟨n-1,by omega⟩;simp only[Go.Sw.iter]at h⊢;cases e:step s with
   |none=>rw[e]at h;cases h
   |some c=>
    rw[e]at h;cases c with
    |cont g=>exact f g h a (by omega)
    |done i=>exact h
 exact⟨m,λn d=>mono m s h n d⟩
structure At (l:List α) (i:Nat) (x:α):Prop where
 get:l[i]?=some x
 lt:decide ((i:Int)<(l.length:Int))=true
 ix:idx l (i:Int)=some x
 nx:IntKind.i64.wrap ((i:Int)+1)=((i+1:Nat):Int)
theorem Jy{l:List α}{i:Nat}{x:α}(hl:l.length<=4611686018427387904)(h:l[i]?=some x):At l i x:=by
 have a:=(XM.1 h).1;exact⟨h,Vu (by omega),Y0 h,Yz (by omega)⟩
theorem At.mem{l:List α}{i:Nat}{x:α}(h:At l i x):x∈l:=VH h.get
theorem At.lt'{l:List α}{i:Nat}{x:α}(h:At l i x):i<l.length:=(XM.1 h.get).1
theorem At.take{l:List α}{i:Nat}{x:α}(h:At l i x):l.take (i+1)=l.take i++[x]:=by
 rw[List.take_add_one,h.get];rfl
theorem QaH(l:List α):decide ((l.length:Int)<(l.length:Int))=false:=Vx (by omega)
theorem Qb1{s0:S}(l:List α)(q:α->Bool)(st:Nat->S)(s b:B)(hl:l.length<=4611686018427387904)(h0:st 0=s0)
  (t:∀i x,At l i x->q x=false->Ev (λn=>step n (st i)) (.cont (st (i+1))))
  (d:∀i x,At l i x->q x=true->Ev (λn=>step n (st i)) (.done s))
  (G:Ev (λn=>step n (st l.length)) (.done b)):Ev (λn=>Go.Sw.iter (step n) n s0) (bif l.any q then s else b):=by
 have p:∀k,k<=l.length->(∀i x,l[i]?=some x->i<k->q x=false)\/ ∃i x,l[i]?=some x/\i<k/\q x=true/\ ∀j y,l[j]?=some y->j<i->q y=false:=by
  intro k
  induction k with
  |zero=>intro _;exact .inl λi x _ a=>absurd a (Xn _)
  |succ k w=>
   intro H;rcases w (by omega)with h|⟨i,x,g,u,m⟩
   .have r:l[k]?=some l[k]:=XL (by omega);cases e:q l[k]with
    |true=>exact .inr ⟨k,_,r,Xo _,e,h⟩
    |false=>
     refine .inl λi x d a=>?_;rcases Xp.1 a with z|rfl
     .exact h i x d z
     .rw[r]at d;cases d;exact e
   .exact .inr ⟨i,x,g,by omega,m⟩
 rcases p l.length (XU _)with h|⟨i,x,g,u,m,F⟩
 .have:l.any q=false:=by
   rw[VM];intro e;obtain⟨x,d,e⟩:=Xu.1 e;obtain⟨i,a,rfl⟩:=List.getElem_of_mem d;rw[h i _ (XL a) a]at e;cases e
  rw[this];exact Ev.iter st l.length h0 (λi a=>t i _ (Jy hl (XL a)) (h i _ (XL a) a)) G
 .have:l.any q=true:=Xu.2 ⟨x,VH g,m⟩;rw[this];refine Ev.iter st i h0 (λj E=>?_) (d i x (Jy hl g) m);have f:l[j]?=some l[j]:=XL (by omega);exact t j _ (Jy hl f) (F j _ f E)
theorem Yc{β:Type}{s0:S}(l:List α)(g:β->α->β)(b:β)(st:β->Nat->S)(d:β->B)(hl:l.length<=4611686018427387904)(h0:st b 0=s0)
  (j:∀i x a,At l i x->a=(l.take i).foldl g b->Ev (λn=>step n (st a i)) (.cont (st (g a x) (i+1))))
  (h:Ev (λn=>step n (st (l.foldl g b) l.length)) (.done (d (l.foldl g b)))):Ev (λn=>Go.Sw.iter (step n) n s0) (d (l.foldl g b)):=by
 refine Ev.iter (λi=>st ((l.take i).foldl g b) i) l.length (by simpa using h0) (λi f=>?_) (by simpa using h);have e:=Jy (x:=l[i]) hl (XL f);have:=j i _ _ e rfl;rw[e.take,XD];exact this
theorem Ev.contains(l:List α)(q:α->Bool)(g:Nat->α->Option Bool)(hl:l.length<=4611686018427387904)(hg:∀x∈l,Ev (λn=>g n x) (q x)):
  Ev (λn=>(((Go.Sw.iter (λs:Int=>bif decide (s<(l.length:Int))then(idx l s).bind λx=>(g n x).bind λr=>(bif r then some (Ctl.done (Ctl.done s))else some (Ctl.cont (IntKind.i64.wrap (s+1))))else some (Ctl.done (Ctl.cont ()))) n (0:Int):Option (Ctl Unit Int)).bind λb=>
   match b with
   |.cont _=>some (-1)
   |.done s=>some s):Option Int).bind λr=>some (decide (0<=r))) (l.any q):=by
 cases e:l.any q with
 |false=>
  refine Ev.bind (v:=(-1:Int)) (Ev.bind (v:=Ctl.cont ()) (Ev.iter (λi=>(i:Int)) l.length rfl (λi d=>?_) ?_) (Qa _)) (Qa _)
  .have a:=Jy (x:=l[i]) hl (XL d);simp only[a.lt,Vp,a.ix,XK];have G:q l[i]=false:=by
    rw[VM];intro h;rw[Xu.2 ⟨_,a.mem,h⟩]at e;cases e
   refine Ev.bind ((hg _ a.mem).eq G) ?_;simp only[Vq,a.nx];exact Qa _
  .simp only[QaH,Vq];exact Qa _
 |true=>
  obtain⟨x,f,h⟩:=Xu.1 e;have p:∀k,k<=l.length->(∀(i:Nat) (x:α),l[i]?=some x->i<k->q x=false)\/ ∃(i:Nat) (x:α),l[i]?=some x/\i<k/\q x=true/\ ∀(j:Nat) (y:α),l[j]?=some y->j<i->q y=false:=by
   intro k
   induction k with
   |zero=>intro _;exact .inl λi x _ d=>absurd d (Xn _)
   |succ k B=>
    intro H;rcases B (by omega)with h|⟨i,x,t,w,u⟩
    .have hg:l[k]?=some l[k]:=XL (by omega);cases e:q l[k]with
     |true=>exact .inr ⟨k,_,hg,Xo _,e,h⟩
     |false=>
      refine .inl λi x f d=>?_;rcases Xp.1 d with z|rfl
      .exact h i x f z
      .rw[hg]at f;cases f;exact e
    .exact .inr ⟨i,x,t,by omega,u⟩
  rcases p l.length (XU _)with F|⟨i,x,t,w,u,E⟩
  .obtain⟨j,m,rfl⟩:=List.getElem_of_mem f;rw[F j _ (XL m) m]at h;cases h
  .refine Ev.bind (v:=(i:Int)) (Ev.bind (v:=Ctl.done (i:Int)) (Ev.iter (λi=>(i:Int)) i rfl (λj m=>?_) ?_) (Qa _)) ?_
   .have a:=Jy (x:=l[j]) hl (XL (by omega));simp only[a.lt,Vp,a.ix,XK];refine Ev.bind ((hg _ a.mem).eq (E j _ a.get m)) ?_;simp only[Vq,a.nx];exact Qa _
   .have a:=Jy hl t;simp only[a.lt,Vp,a.ix,XK];refine Ev.bind ((hg _ a.mem).eq u) ?_;exact Qa _
   .rw[Vu (by omega)];exact Qa _
end
section
variable {S B α:Type} {step:Nat->S->Option (Ctl S B)}
theorem Qhs{s0:S}(st:Nat->S)(k:Nat)(R:Nat->B)(h0:st 0=s0)(l:∀i,i<k->(Ev (λn=>step n (st i)) (.cont (st (i+1)))/\R i=R (i+1))\/Ev (λn=>step n (st i)) (.done (R i)))
  (g:Ev (λn=>step n (st k)) (.done (R k))):Ev (λn=>Go.Sw.iter (step n) n s0) (R 0):=by
 have e:∀m,m<=k->(∀i,i<m->Ev (λn=>step n (st i)) (.cont (st (i+1)))/\R i=R (i+1))\/ ∃j,j<m/\(∀i,i<j->Ev (λn=>step n (st i)) (.cont (st (i+1)))/\R i=R (i+1))/\Ev (λn=>step n (st j)) (.done (R j)):=by
  intro m
  induction m with
  |zero=>intro _;exact .inl λi a=>absurd a (Xn _)
  |succ m d=>
   intro r;rcases d (by omega)with h|⟨j,f,b⟩
   .rcases l m (by omega)with q|q
    .refine .inl λi a=>?_;rcases Xp.1 a with z|rfl
     .exact h i z
     .exact q
    .exact .inr ⟨m,Xo _,h,q⟩
   .exact .inr ⟨j,by omega,b⟩
 have same:∀m,(∀i,i<m->R i=R (i+1))->R 0=R m:=by
  intro m
  induction m with
  |zero=>intro _;rfl
  |succ m d=>intro h;exact(d λi a=>h i (by omega)).trans (h m (Xo _))
 rcases e k (XU _)with h|⟨j,f,b,p⟩
 .rw[same k λi a=>(h i a).2];exact Ev.iter st k h0 (λi a=>(h i a).1) g
 .rw[same j λi a=>(b i a).2];exact Ev.iter st j h0 (λi a=>(b i a).1) p
theorem At.drop{l:List α}{i:Nat}{x:α}(h:At l i x):l.drop i=x::l.drop (i+1):=by
 have:=h.lt';rw[Xr this,(XM.1 h.get).2]
theorem Qhr{s0:S}(l:List α)(st:Nat->S)(R:Nat->B)(hl:l.length<=4611686018427387904)(h0:st 0=s0)
  (hc:∀i x,At l i x->(Ev (λn=>step n (st i)) (.cont (st (i+1)))/\R i=R (i+1))\/Ev (λn=>step n (st i)) (.done (R i)))
  (hd:Ev (λn=>step n (st l.length)) (.done (R l.length))):Ev (λn=>Go.Sw.iter (step n) n s0) (R 0):=
 Qhs st l.length R h0 (λi hi=>hc i _ (Jy hl (XL hi))) hd
end
section
variable {α β:Type} [DecidableEq α]
theorem Qmj(k:α):YO ([]:List (α×β)) k=none:=rfl
theorem YN(p:α×β)(l:List (α×β))(k:α):YO (p::l) k=if p.1=k then some p.2 else YO l k:=by
 unfold YO;by_cases h:p.1=k<;>simp[List.find?_cons,h]
theorem QkS(p:α×β)(l:List (α×β))(k:α)(v:β):Q0 (p::l) k v=if p.1=k then(p.1,v)::l.map (λq=>bif decide (q.1=k)then(q.1,v)else q)else p::Q0 l k v:=by
 unfold Q0;by_cases h:p.1=k
 .simp[h]
 .simp only[List.any_cons,h,decide_false,Bool.false_or,if_false,Vj,Vq];cases l.any λp=>decide (p.1=k)<;>simp
theorem Qmk(l:List (α×β))(k a:α)(v:β)(h:a≠k):YO (l.map λq=>bif decide (q.1=k)then(q.1,v)else q) a=YO l a:=by
 induction l with
 |nil=>rfl
 |cons p l b=>
  rw[Vj,YN,YN,b];by_cases e:p.1=k
  .have:¬k=a:=λq=>h q.symm;simp[e,this]
  .simp[e]
theorem Qf3(l:List (α×β))(k a:α)(v:β):YO (Q0 l k v) a=if a=k then some v else YO l a:=by
 induction l with
 |nil=>
  show YO ([]++[(k,v)]) a=_;rw[Vh,YN];by_cases h:a=k
  .subst h;simp
  .rw[Vs λq=>h q.symm,Vs h]
 |cons p l b=>
  rw[QkS];by_cases e:p.1=k
  .rw[Vt e,YN,YN];by_cases h:a=k
   .subst h;simp[e]
   .have:p.1≠a:=λq=>h (q.symm.trans e);simp only[this,if_false,h];exact Qmk l k a v h
  .rw[Vs e,YN,YN,b];by_cases h:p.1=a
   .rw[Vt h,Vs λq=>e (h.trans q),Vt h]
   .rw[Vs h,Vs h]
theorem Qf4(k:α)(z:β):Qq ([]:List (α×β)) k z=z:=rfl
theorem Qcw(l:List (α×β))(k a:α)(v z:β):Qq (Q0 l k v) a z=if a=k then v else Qq l a z:=by
 unfold Qq;rw[Qf3];by_cases h:a=k<;>simp[h]
theorem Qds(l:List (α×β))(k:α)(v:β):(Q0 l k v).map (·.1)=if k∈l.map (·.1)then l.map (·.1)else l.map (·.1)++[k]:=by
 unfold Q0;have e:(l.any λp=>decide (p.1=k))=decide (k∈l.map (·.1)):=by
  rw[XY];simp only[Xu,Vr,Xf]
 rw[e];by_cases h:k∈l.map (·.1)
 .rw[Vu h,Vt h,Vp,List.map_map];apply List.map_congr_left;intro p _;simp only[Function.comp];cases decide (p.1=k)<;>rfl
 .rw[Vx h,Vs h,Vq,Xg];rfl
def QY{γ:Type}(key:γ->α)(v:β)(l:List γ):List (α×β):=l.foldl (λm x=>Q0 m (key x) v) []
theorem QcQ{γ:Type}(a:γ->α)(v:β)(l:List γ)(x:γ):QY a v (l++[x])=Q0 (QY a v l) (a x) v:=by
 unfold QY;rw[XD];rfl
theorem Qat{γ:Type}(a:γ->α)(v z:β)(l:List γ)(k:α):Qq (QY a v l) k z=if k∈l.map a then v else z:=by
 have b:∀(l:List γ) (m:List (α×β)),Qq (l.foldl (λm x=>Q0 m (a x) v) m) k z=if k∈l.map a then v else Qq m k z:=by
  intro l
  induction l with
  |nil=>intro m;simp
  |cons x l d=>
   intro m;rw[XE,d,Qcw];by_cases h:k∈l.map a
   .rw[Vt h,Vt (by simp only[Vj];exact X5 _ h)]
   .rw[Vs h];by_cases e:k=a x
    .rw[Vt e,Vt (by simp[e])]
    .rw[Vs e,Vs (by simp only[Vj,X6,not_or];exact⟨e,h⟩)]
 exact b l []
theorem Qcl{γ:Type}(d:γ->α)(v:β)(l:List γ):(QY d v l).length<=l.length/\((QY d v l).length=l.length↔(l.map d).Nodup):=by
 have k:∀(l:List γ) (m:List (α×β)),(m.map (·.1)).Nodup->(l.foldl (λm x=>Q0 m (d x) v) m).length<=m.length+l.length/\((l.foldl (λm x=>Q0 m (d x) v) m).length=m.length+l.length↔(m.map (·.1)++l.map d).Nodup):=by
  intro l
  induction l with
  |nil=>intro m i;simpa using i
  |cons x l p=>
   intro m i;have g:=Qds m (d x) v;have f:(Q0 m (d x) v).length=((Q0 m (d x) v).map (·.1)).length:=by simp
   by_cases h:d x∈m.map (·.1)
   .rw[Vt h]at g;obtain⟨t,j⟩:=p (Q0 m (d x) v) (by rw[g];exact i);have e:(Q0 m (d x) v).length=m.length:=by rw[f,g];simp
    rw[XE];refine⟨by simp only[X0];omega,⟨λq=>?_,λq=>?_⟩⟩
    .simp only[X0]at q;omega
    .exfalso;have:=(List.nodup_append.1 q).2.2 _ h (d x) (by simp);exact this rfl
   .rw[Vs h]at g;have s:((Q0 m (d x) v).map (·.1)).Nodup:=by
     rw[g];refine List.nodup_append.2 ⟨i,by simp,?_⟩;intro a r b n e;simp only[VB]at n;exact h (by rw[<- n, <- e];exact r)
    obtain⟨t,j⟩:=p (Q0 m (d x) v) s;have e:(Q0 m (d x) v).length=m.length+1:=by rw[f,g];simp
    rw[XE];refine⟨by simp only[X0];omega,?_⟩;rw[g]at j;rw[show m.length+(x::l).length=(Q0 m (d x) v).length+l.length by rw[e];simp;omega,j];simp[Vi]
 have:=k l [] (by simp);simpa[QY]using this
end
theorem Jc{α:Type}(l:List α)(p:α->Bool)(g:Nat->α->Option Bool)(hl:l.length<=4611686018427387904)(hg:∀x∈l,Ev (λn=>g n x) (p x)):
  Ev (λn=>((((Go.Sw.iter (λs:Int=>bif decide (s<(l.length:Int))then(idx l s).bind λx=>((g n x).bind λr1=>some (!r1)).bind λr=>(bif r then some (Ctl.done (Ctl.done s))else some (Ctl.cont (IntKind.i64.wrap (s+1))))else some (Ctl.done (Ctl.cont ()))) n (0:Int):Option (Ctl Unit Int)).bind λb=>
   match b with
   |.cont _=>some (-1)
   |.done s=>some s):Option Int).bind λr=>some (decide (0<=r)):Option Bool).bind λr=>some (!r)) (l.all p):=by
 refine Ev.bind (Ev.contains l (λx=> !p x) (λn x=>(g n x).bind λr1=>some (!r1)) hl λx a=>Ev.bind (hg x a) (Qa _)) ((Qa _).eq ?_);rw[List.not_any_eq_all_not];simp
def Qjy{α κ:Type}[DecidableEq κ](ok:α->Bool)(key:α->κ):List κ->List α->Bool
 |_,[]=>true
 |seen,x::r=>ok x&& !seen.contains (key x)&&Qjy ok key (seen++[key x]) r
theorem Qkr{α κ:Type}[DecidableEq κ](ok:α->Bool)(f:α->κ):∀(l:List α) (d:List κ),d.Nodup->Qjy ok f d l=(l.all ok&&decide ((d++l.map f).Nodup))
 |[],d,h=>by simp[Qjy,h]
 |x::r,d,h=>by
  simp only[Qjy,List.all_cons,Vj];by_cases hk:f x∈d
  .have:¬(d++f x::r.map f).Nodup:=by
    intro q;exact(List.nodup_append.1 q).2.2 _ hk (f x) (by simp) rfl
   simp[hk,this]
  .have i:(d++[f x]).Nodup:=by
    refine List.nodup_append.2 ⟨h,by simp,?_⟩;intro a j b g e;simp only[VB]at g;exact hk (by rw[<- g, <- e];exact j)
   rw[Qkr ok f r _ i];have:(d.contains (f x))=false:=by simpa using hk
   rw[this];simp[Bool.and_assoc]
theorem Ev.inner{α κ B:Type}[DecidableEq κ]{step:Nat->Int->Option (Ctl Int B)}(l:List α)(i:Nat)(a:α->κ)(k:κ)(r b:B)(hl:l.length<=4611686018427387904)(hi:i<=l.length)
  (t:∀j y,j<i->At l j y->decide (a y=k)=false->Ev (λn=>step n (j:Int)) (.cont ((j+1:Nat):Int)))
  (u:∀j y,j<i->At l j y->decide (a y=k)=true->Ev (λn=>step n (j:Int)) (.done r))
  (w:Ev (λn=>step n (i:Int)) (.done b)):Ev (λn=>Go.Sw.iter (step n) n 0) (bif ((l.take i).map a).contains k then r else b):=by
 have e:((l.take i).map a).contains k=(l.take i).any λy=>decide (a y=k):=by
  rw[XY];simp only[List.contains_eq_mem,Vr,Xf,Xu]
 rw[e];have g:(l.take i).length=i:=by simp;omega
 have h:∀j y,At (l.take i) j y->j<i/\At l j y:=by
  intro j y f;have s:=f.lt';have d:=f.get;rw[List.getElem?_take]at d;split at d
  .exact⟨by omega,Jy hl d⟩
  .cases d
 refine Qb1 (l.take i) (λy=>decide (a y=k)) (λi=>(i:Int)) _ _ (by omega) rfl (λj y f q=>?_) (λj y f q=>?_) ?_
 .obtain⟨p,m⟩:=h j y f;exact t j y p m q
 .obtain⟨p,m⟩:=h j y f;exact u j y p m q
 .rw[g];exact w
theorem QaJ{α κ β:Type}[DecidableEq κ]{step:Nat->List (κ×β)×Int->Option (Ctl (List (κ×β)×Int) (List (κ×β)))}(l:List α)(key:α->κ)(v:β)(hl:l.length<=4611686018427387904)
  (hc:∀i x m,At l i x->Ev (λn=>step n (m,(i:Int))) (.cont (Q0 m (key x) v,((i+1:Nat):Int))))
  (hd:∀m,Ev (λn=>step n (m,(l.length:Int))) (.done m)):Ev (λn=>Go.Sw.iter (step n) n ([],0)) (QY key v l):=
 Yc l (λm x=>Q0 m (key x) v) [] (λm i=>(m,(i:Int))) (λm=>m) hl rfl (λi x m ha _=>hc i x m ha) (hd _)
theorem Ev.shift{α:Type}{f:Nat->Option α}{v:α}(h:Ev f v):Ev (λn=>f (n+1)) v:=by
 obtain⟨N,h⟩:=h;exact⟨N,λn a=>h (n+1) (by omega)⟩
def EvI{S B:Type}(step:Nat->S->Option (Ctl S B))(s:S)(b:B):Prop:=∃N,∀n k,N<=n->N<=k->Go.Sw.iter (step n) k s=some b
section
variable {S B:Type} {step:Nat->S->Option (Ctl S B)} {s s':S} {b:B}
theorem EvI.done(h:Ev (λn=>step n s) (.done b)):EvI step s b:=by
 obtain⟨N,h⟩:=h;refine⟨N+1,λn k e d=>?_⟩;obtain⟨a,rfl⟩:∃a,k=a+1:=⟨k-1,by omega⟩;have:=h n (by omega);simp only[Go.Sw.iter,this]
theorem EvI.cont(h:Ev (λn=>step n s) (.cont s'))(q:EvI step s' b):EvI step s b:=by
 obtain⟨N,h⟩:=h;obtain⟨M,q⟩:=q;refine⟨max N M+1,λn k e d=>?_⟩;obtain⟨a,rfl⟩:∃a,k=a+1:=⟨k-1,by omega⟩;have:=h n (by omega);simp only[Go.Sw.iter,this];exact q n a (by omega) (by omega)
theorem EvI.ev(h:EvI step s b):Ev (λn=>Go.Sw.iter (step n) n s) b:=by
 obtain⟨N,h⟩:=h;exact⟨N,λn a=>h n n a a⟩
theorem EvI.eq{b':B}(h:EvI step s b)(e:b=b'):EvI step s b':=e▸h
end
theorem QO{α:Type}{l r:List α}{i:Nat}{x:α}(hl:l.length<=4611686018427387904)(h:l.drop i=x::r):At l i x/\l.drop (i+1)=r:=by
 have a:l[i]?=some x:=by
  have:=congrArg (λl=>l[0]?) h;simpa using this
 refine⟨Jy hl a,?_⟩;have:=(Jy hl a).drop;rw[h]at this;exact(List.cons.inj this).2.symm
theorem YC{α:Type}{l:List α}{i:Nat}(h:l.drop i=[])(hi:i<=l.length):decide ((i:Int)<(l.length:Int))=false:=by
 have:=Xs.1 h;exact Vx (by omega)
end Go.Sw
namespace Go.Sw
theorem Z.{u}{α:Sort u}{a:α}:a=a:=rfl
section
variable {P:Program} {h0 N:Nat} {all:Array Oper} {env:Env} {H H':Qc} {Q:Qv} {l:List Oper} {o:Oper} {d:Nat}
theorem aV(x:A)(H:Qc){x':A}{H':Qc}(a:x'=x)(hH:H'=H)(k:WO P h0 N all l (up env d x) H Q):WO P h0 N all l (up env d x') H' Q:=by subst a;subst hH;exact k
theorem vX(x:A)(a:OpV P o env H x)(k:WO P h0 N all l (up env d x) H Q)(hg:Qm all o env true:=by exact rfl)(hd:o.dst=some d:=by exact rfl)(hN:Nat.blt d N=true:=by exact rfl):WO P h0 N all (o::l) env H Q:=
 QF hg hd hN a k
theorem Wp:WO P h0 N all [] env H (YY env H):=WO.nil YY.mk
end
end Go.Sw
namespace Go.Sw
section
variable {P:Program} {o:Oper} {env:Env} {H:Qc}
theorem Qog{ro:Nat->Prop}{σ:Sig}{w:World}(g:GP w){b:Nat}{zs:List Int}(h:Qjj[b]?=some zs):∀(i:Nat),CR ro σ w b ((zs.drop i).map (A.int .i64)) i:=by
 intro i;generalize hl:zs.drop i=l
 induction l generalizing i with
 |nil=>trivial
 |cons z l d=>
  have e:zs[i]?=some z:=by
   have:=congrArg (·[0]?) hl;simpa using this
  have a:zs.drop (i+1)=l:=by
   rw[<- List.drop_drop,hl];rfl
  exact⟨⟨_,g.tab b zs h i z e,by simp[Ql],rfl⟩,d (i+1) a⟩
theorem Qgx{t n g:Nat}{zs:List Int}(i:∀w,(isAgg t).run P w=.ok true w)(f:∀w,(sizeOf t).run P w=.ok n w)(hg:Qjj[g]?=some zs)(hl:zs.length=n)(j:o.op=.load t (.global g):=by exact rfl):
  OpV P o env H (.agg (zs.map (A.int .i64))):=by
 intro k ro σ N a w r;obtain⟨l,h,_,d⟩:=YB (P:=P) (b:=g) (cs:=zs.map (A.int .i64)) (off:=0) 0 (by simpa using Qog (ro:=ro) (σ:=σ) r.sim.roOk.gp hg 0);have d:=d w #[] rfl;rw[X2,hl]at d;refine⟨.agg l.toArray,?_,l,rfl,h⟩;have e:a.eval (.global g)=.pointer (some ⟨g,0,none⟩):=rfl;generalize a.eval=ρ at*;simp[execOp,j,e,Instr.loadAt,Instr.sureAddr,loadVar,i,f,loadCells,d,go_sem]
end
end Go.Sw
namespace Go.Sw
open Go.Proofs
section
variable {P:Program}
def toV(agg:Bool)(l:List Value):Value:=bif agg then .agg l.toArray else l.headD .nilFunc
structure QlF (P:Program) (t:TypeId) (h k:Nat) (agg:Bool) (ok:List Value->Prop):Prop where
 len:∀l,ok l->l.length=k
 ia:∀w,(isAgg t).run P w=.ok agg w
 so:∀w,(sizeOf t).run P w=.ok k w
 eq:∀(w:World) (d:Nat) (l m:List Value),ok l->ok m->∃b:Bool,(Op.equalIn (d+h) t (toV agg l) (toV agg m)).run P w=.ok b w/\(b=true↔l=m)
structure Qnq (P:Program) (fs:List Field) (h off k:Nat) (ok:List Value->Prop):Prop where
 len:∀l,ok l->l.length=k
 eq:∀(w:World) (d:Nat) (p q l m:List Value),p.length=off->q.length=off->ok l->ok m->∃b:Bool,(Op.eqFields (d+h) (p++l).toArray (q++m).toArray fs).run P w=.ok b w/\(b=true↔l=m)
theorem QlF.int{t:TypeId}{k:IntKind}(e:P.underlying t=some (.int k))(a:∀w,(isAgg t).run P w=.ok false w)(b:∀w,(sizeOf t).run P w=.ok 1 w)(h:Nat):QlF P t (h+1) 1 false (λl=>∃n:Int,l=[.int k n]):=by
 refine⟨?_,a,b,?_⟩
 .rintro _ ⟨n,rfl⟩;rfl
 .rintro w d _ _ ⟨n,rfl⟩ ⟨m,rfl⟩;exact⟨_,run_equalIn_int w (d+h) t k k n m e,by simp⟩
theorem QlF.bool{t:TypeId}(e:P.underlying t=some .bool)(a:∀w,(isAgg t).run P w=.ok false w)(b:∀w,(sizeOf t).run P w=.ok 1 w)(h:Nat):QlF P t (h+1) 1 false (λl=>∃n:Bool,l=[.bool n]):=by
 refine⟨?_,a,b,?_⟩
 .rintro _ ⟨n,rfl⟩;rfl
 .rintro w d _ _ ⟨n,rfl⟩ ⟨m,rfl⟩;exact⟨_,run_equalIn_bool' w (d+h) t n m e,by simp⟩
theorem Qnq.nil(h off:Nat):Qnq P [] h off 0 (λl=>l=[]):=by
 refine⟨?_,?_⟩
 .rintro _ rfl;rfl
 .rintro w d p q _ _ _ _ rfl rfl;exact⟨true,by simp[Op.eqFields],by simp⟩
theorem QhN{t:TypeId}{k:Nat}{agg:Bool}{w:World}(b:∀w,(isAgg t).run P w=.ok agg w)(d:∀w,(sizeOf t).run P w=.ok k w)(p a f:List Value)(hl:a.length=k)(e:agg=false->k=1):
  (part t (p++(a++f)).toArray p.length).run P w=.ok (toV agg a) w:=by
 unfold part;cases agg with
 |true=>
  simp[b,d,go_sem,toV];rw[<- hl];simp[List.extract]
 |false=>
  have:=e rfl;subst this
  match a,hl with
  |[v],_=>simp[b,go_sem,toV]
theorem Qnq.cons{f:Field}{fs:List Field}{h off n B:Nat}{agg:Bool}{j i:List Value->Prop}(L:Nat.beq f.offset off=true)(N:f.name≠"_")(g:QlF P f.type h n agg j)(x:agg=false->n=1)(z:Qnq P fs h (off+n) B i):
  Qnq P (f::fs) h off (n+B) (λl=>∃l1 l2,l=l1++l2/\j l1/\i l2):=by
 have t:f.offset=off:=XR L;refine⟨?_,?_⟩
 .rintro _ ⟨l1,l2,rfl,a,b⟩;rw[X3,g.len _ a,z.len _ b]
 .rintro w d p q _ _ E G ⟨l1,l2,rfl,r,V⟩ ⟨k,s,rfl,m,Q⟩;have y:=QhN (P:=P) (w:=w) g.ia g.so p l1 l2 (g.len _ r) x;have F:=QhN (P:=P) (w:=w) g.ia g.so q k s (g.len _ m) x;rw[E]at y;rw[G]at F;obtain⟨u,T,J⟩:=g.eq w d l1 k r m;obtain⟨O,H,M⟩:=z.eq w d (p++l1) (q++k) l2 s (by rw[X3,E,g.len _ r]) (by rw[X3,G,g.len _ m]) V Q;rw[Vi,Vi]at H;have R:l1.length=k.length:=by rw[g.len _ r,g.len _ m]
  refine⟨u&&O,?_,?_⟩
  .generalize(p++(l1++l2)).toArray=X at*;generalize(q++(k++s)).toArray=Y at*;cases u<;>simp[Op.eqFields,N,t,Vm,Result.andThen,y,F,T,H]
  .rw[XX,J,M];constructor
   .rintro⟨rfl,rfl⟩;rfl
   .intro e;exact List.append_inj e R
theorem QlF.struct{t:TypeId}{h k:Nat}{ok:List Value->Prop}(i:P.underlying t=some (.struct (P.fieldsOf t)))(f:P.stoodInHeld t=false)(j:∀w,(isAgg t).run P w=.ok true w)(g:∀w,(sizeOf t).run P w=.ok k w)(e:Qnq P (P.fieldsOf t).toList h 0 k ok):QlF P t (h+1) k true ok:=by
 refine⟨e.len,j,g,λw d l m a b=>?_⟩;obtain⟨r,n,p⟩:=e.eq w d [] [] l m rfl rfl a b;refine⟨r,?_,p⟩;show(Op.equalIn (d+h+1) t (.agg l.toArray) (.agg m.toArray)).run P w=_;rw[run_equalIn_agg w (d+h) t _ _ i f];simpa using n
theorem QS{t:TypeId}{h k:Nat}{fs:Array Field}{ok:List Value->Prop}(a:P.underlying t=some (.struct fs))(b:P.stoodInHeld t=false)(f:∀w,(isAgg t).run P w=.ok true w)(d:∀w,(sizeOf t).run P w=.ok k w)(g:Qnq P fs.toList h 0 k ok):QlF P t (h+1) k true ok:=by
 have e:P.fieldsOf t=fs:=by simp[Program.fieldsOf,a]
 exact QlF.struct (by rw[e];exact a) b f d (by rw[e];exact g)
structure EqD (P:Program) (t:TypeId) {α:Type} (cells:α->List A):Prop where
 scl:∀x,QeD (cells x)=true
 inj:∀x y,YS (cells x)=YS (cells y)->x=y
 guard:P.eqGuardType P.depth t=false
 eq:∀(w:World) x y,∃b:Bool,(Op.equalIn 10000 t (.agg (YS (cells x)).toArray) (.agg (YS (cells y)).toArray)).run P w=.ok b w/\(b=true↔YS (cells x)=YS (cells y))
theorem Qof{α:Type}{cells:α->List A}{t h k:Nat}{ok:List Value->Prop}(E:QlF P t h k true ok)(b:Nat.ble h 10000=true)(a:∀x,ok (YS (cells x)))(d:∀x,QeD (cells x)=true)(hi:∀x y,YS (cells x)=YS (cells y)->x=y)(hg:P.eqGuardType P.depth t=false):EqD P t cells:=by
 refine⟨d,hi,hg,λw x y=>?_⟩;have:=E.eq w (10000-h) (YS (cells x)) (YS (cells y)) (a x) (a y)
 rwa [show 10000-h+h=10000 by have:=XS b;omega]at this
variable {o:Oper} {env:Env} {H:Qc}
theorem Qlx{α:Type}[DecidableEq α]{cells:α->List A}{t u:TypeId}{x y:Operand}{p q:α}(E:EqD P t cells)(s:opA env x=.agg (cells p))(m:opA env y=.agg (cells q))(n:o.op=.binOp .eql t x y u:=by exact rfl):OpV P o env H (.bool (p==q)):=by
 intro B F σ N a w r;have h:=Qe r x;have g:=Qe r y;rw[s]at h;rw[m]at g;have z:=VR.val (a:=.agg (cells p)) (E.scl p) h;have l:=VR.val (a:=.agg (cells q)) (E.scl q) g;obtain⟨b,k,j⟩:=E.eq w p q;have i:b=(p==q):=by
  rw[XY,j,Vy];exact⟨E.inj p q,λe=>by rw[e]⟩
 refine⟨.bool (p==q),?_,rfl⟩;rw[<- i];generalize a.eval=ρ at*;have f:ρ x=.agg (YS (cells p)).toArray:=z;have d:ρ y=.agg (YS (cells q)).toArray:=l;simp[execOp,n,f,d,go_sem,run_eqGuard_agg _ _ _ _ _ _ _ E.guard,run_eql_struct,k]
end
end Go.Sw
namespace Go.Sw
structure Qfr (g g':Nat->Prop) (W W':World):Prop where
 sub:∀b,g b->g' b
 new:∀b,g' b->g b\/W.heap.size<=b
 lt:∀b,g' b->b<W'.heap.size
 all:∀b,W.heap.size<=b->b<W'.heap.size->g' b
 keep:∀b,b<W.heap.size->¬g b->W'.heap[b]?=W.heap[b]?
 size:W.heap.size<=W'.heap.size
 shape:∀b x,W.shape? b=some x->W'.shape? b=some x
 os:W'.os=W.os
 tape:W'.tape=W.tape
 output:W'.output=W.output
 drawn:W.drawn<=W'.drawn
abbrev Jv(T:Type):=List T->(Nat->Prop)->(Nat->Prop)->World->Prop
structure QoG {T:Type} (J:Jv T):Prop where
 ev:∀rem q g W W' ro',J rem q g W->Qf g q W ro' W'->J rem q g W'
 up:∀rem q g g' W,J rem q g W->(∀b,g b->g' b)->(∀b,g' b->b<W.heap.size)->J rem q g' W
theorem Sim.round{fr g g' ro:Nat->Prop}{σ:Sig}{H:Qc}{W W':World}(s:Sim fr ro σ H W)(a:∀b,g b->fr b)(k:Qfr g g' W W'):Sim (λb=>fr b\/g' b) ro σ H W'/\Qf (λb=>b<W.heap.size/\ ¬g b) ro W ro W':=by
 have e:∀b,ro b->W'.heap[b]?=W.heap[b]? :=λb q=>k.keep b (s.roLt b q) (λr=>s.roFr b q (a b r));have m:Ext ro σ W ro σ W':=by
  have ev:Qf (λ_=>False) ro W ro W':=⟨λ_ q=>q,e,λ_ q=>q.elim,k.size,k.shape,k.os,k.tape,k.output,k.drawn⟩;have:=ev.ext σ [];simpa using this
 refine⟨⟨s.len,s.roOk.to (λ_ q=>q) e (λb q=>Vf (s.roLt b q) k.size),λb q=>q.elim (λq=>Vf (s.frLt b q) k.size) (k.lt b),λb q r=>?_,λi b x f h w=>?_,s.inj,λi y x f h=>?_,
  s.hidTo (· = ·) QU k.size (λ_ _ _ _ _ _ _ q=>q) (λi b x c f h w F=>F.elim id λq=>(k.new c q).elim (a c) λl=>(by have:=(s.hid i b x c f h w).lt;omega)) λj d y n t G=>.inl ⟨j,y,rfl,n,t,id,λc q=>s.hidKeep n t (λz=>k.keep d (s.own j d y n t z).1 λr=>(s.own j d y n t z).2.2 (a d r)) e q⟩⟩,
  ⟨λ_ q=>q,e,λb q=>k.keep b q.1 q.2,k.size,k.shape,k.os,k.tape,k.output,k.drawn⟩⟩
 .rcases r with r|r
  .exact s.roFr b q r
  .rcases k.new b r with l|l
   .exact s.roFr b q (a b l)
   .have:=s.roLt b q;omega
 .obtain⟨B,E,p⟩:=s.own i b x f h w;refine⟨Vf B k.size,E,λr=>?_⟩;rcases r with r|r
  .exact p r
  .rcases k.new b r with l|l
   .exact p (a b l)
   .omega
 .refine(s.blk i y x f h).keep m ?_ ?_
  .rintro b rfl u;obtain⟨B,E,p⟩:=s.own i b x f h u;exact k.keep b B (λr=>p (a b r))
  .rintro b c rfl u;have q:=s.hid i b x c f h u;exact k.keep c q.lt (λr=>q.fr (a c r))
def Qpz{T:Type}(J Jx:Jv T)(g ri:Nat->Prop)(W1:World)(rem:List T):Ending->World->Prop:=λe W'=>
 ∃g' q',(∀b,q' b->ri b)/\Qfr g g' W1 W'/\((e=.returned (.bool true)/\J rem q' g' W')\/(e=.returned (.bool false)/\Jx rem q' g' W'))
structure Ctx (T:Type) where
 l:Nat
 J:Jv T
 Jx:Jv T
 enc:T->List A
 nx:List T->T->List T->Prop
structure Ctx.ok {T:Type} (X:Ctx T) (P:Program):Prop where
 b:QoG X.J
 bx:QoG X.Jx
 round:∀l x rem q g ri W1 vs,X.nx l x rem->X.J l q g W1->(∀b,q b->ri b)->(∀b,ri b->b<W1.heap.size/\ ¬g b)->LR ri [] W1 (X.enc x) vs->YieldAt Fence.wide 0 P X.l vs.toArray W1 (Qpz X.J X.Jx g ri W1 rem)
def QiE{T:Type}(P:Program)(f:FuncId)(caps:List A)(H:Qc)(enc:T->List A)(nx:List T->T->List T->Prop)(xs:List T):Prop:=
 ∀(X:Ctx T),X.enc=enc->X.nx=nx->X.ok P->∀fr ro σ w capv q,Sim fr ro σ H w->(∀b,q b->ro b)->LR ro σ w caps capv->X.J xs q fr w->
  Calls P f ((Value.func (.yield X.l) #[] #[]::capv)).toArray w λe W'=>(∃v,e=.returned v)/\ ∃g q',(∀b,fr b->g b)/\((X.J [] q' g W')\/(∃rem,X.Jx rem q' g W'))
inductive YSt (T:Type) where
 |on (rem:List T)
 |off (rem:List T)
def Ctx.J'{T:Type}(X:Ctx T):YSt T->(Nat->Prop)->(Nat->Prop)->World->Prop
 |.on rem=>X.J rem
 |.off rem=>X.Jx rem
def Ctx.at{T:Type}(X:Ctx T)(st:YSt T)(g ro:Nat->Prop)(W:World):Prop:=∃q,(∀b,q b->ro b)/\X.J' st q g W
theorem Qf.roMono{fr ro ro0 ro':Nat->Prop}{w w':World}(h:Qf fr ro w ro' w')(s:∀b,ro0 b->ro b):Qf fr ro0 w ro' w':=
 ⟨λb q=>h.sub b (s b q),λb q=>h.keepRo b (s b q),h.keepFr,h.size,h.shape,h.os,h.tape,h.output,h.drawn⟩
theorem Ctx.ok.ev{T:Type}{X:Ctx T}{P:Program}(h:X.ok P){st:YSt T}{g ro ro':Nat->Prop}{W W':World}(a:X.at st g ro W)(he:Qf g ro W ro' W'):X.at st g ro' W':=by
 obtain⟨q,d,a⟩:=a;refine⟨q,λb z=>he.sub b (d b z),?_⟩;cases st with
 |on rem=>exact h.b.ev rem q g W W' ro' a (he.roMono d)
 |off rem=>exact h.bx.ev rem q g W W' ro' a (he.roMono d)
theorem Ctx.ok.up{T:Type}{X:Ctx T}{P:Program}(h:X.ok P){st:YSt T}{g g' ro:Nat->Prop}{W:World}(a:X.at st g ro W)(hg:∀b,g b->g' b)(hl:∀b,g' b->b<W.heap.size):X.at st g' ro W:=by
 obtain⟨q,d,a⟩:=a;refine⟨q,d,?_⟩;cases st with
 |on rem=>exact h.b.up rem q g g' W a hg hl
 |off rem=>exact h.bx.up rem q g g' W a hg hl
abbrev Yy(T:Type):=AEx->Env->Qc->YSt T->Prop
structure In (g fr:Nat->Prop) (ds:List Deferred):Prop where
 sub:∀b,g b->fr b
 beside:∀D,({target:=.collected D,args:= #[]}:Deferred)∈ds->¬g D
def Qdb{T:Type}(X:Ctx T)(h0:Nat)(fr ro:Nat->Prop)(σ:Sig)(w:World)(N:Nat)(ds:List Deferred)(Q:Yy T):Exit->Act->World->Prop:=
 λe a' w'=>∃x env' H' st ro' σ' fr' g',ExR e x/\Q x env' H' st/\Rel fr' ro' σ' H' env' N a' w'/\(X.at st g' ro' w'/\In g' fr' a'.defers)/\(∀b,ro b->ro' b)/\w.heap.size<=w'.heap.size/\σ'.take h0=σ.take h0/\Grow fr w ds fr' a'.defers
theorem Qdb.grow{T:Type}{X:Ctx T}{h0:Nat}{fr g ro a:Nat->Prop}{σ σ1:Sig}{w l:World}{N:Nat}{m d:List Deferred}{Q:Yy T}{e:Exit}{a':Act}{w':World}
  (h:Qdb X h0 g a σ1 l N d Q e a' w')(n:∀b,ro b->a b)(k:w.heap.size<=l.heap.size)(F:σ1.take h0=σ.take h0)(hg:Grow fr w m g d):Qdb X h0 fr ro σ w N m Q e a' w':=by
 obtain⟨x,f,H',y,i,σ',j,t,r,u,s,B,G,p,z,E⟩:=h;exact⟨x,f,H',y,i,σ',j,t,r,u,s,B,λb q=>G b (n b q),XW k p,z.trans F,hg.trans k E⟩
def TCy{T:Type}(X:Ctx T)(P:Program)(h0 N:Nat)(c:Code)(env:Env)(H:Qc)(st:YSt T)(Q:Yy T):Prop:=
 X.ok P->∀rd fr ro σ a w g,Rel fr ro σ H env N a w->X.at st g ro w/\In g fr a.defers->rd=none->c.wpIn (WF rd) 0 P (Qdb X h0 fr ro σ w N a.defers Q) a w
def WOy{T:Type}(X:Ctx T)(P:Program)(h0 N:Nat)(all:Array Oper)(l:List Oper)(env:Env)(H:Qc)(st:YSt T)(Q:Yy T):Prop:=
 X.ok P->∀rd fr ro σ a w g,Rel fr ro σ H env N a w->X.at st g ro w/\In g fr a.defers->rd=none->wpL P rd all (Qdb X h0 fr ro σ w N a.defers Q) l a w
theorem In.later{fr a g:Nat->Prop}{w:World}{ds ds':List Deferred}(h:In g fr ds)(hl:∀b,fr b->b<w.heap.size)(hg:Grow fr w ds a ds'):In g a ds':=by
 refine⟨λb q=>hg.sub b (h.sub b q),λD hD q=>?_⟩;rcases hg.ds _ hD with r|⟨D',e,r⟩
 .exact h.beside D r q
 .have:D=D':=by simpa using e
  subst this;have:=hl D (h.sub D q);omega
section
variable {T:Type} {X:Ctx T} {P:Program} {h0 N:Nat} {c c':Code} {env:Env} {H:Qc} {st:YSt T} {Q:Yy T}
theorem Qlp{fr ro:Nat->Prop}{σ:Sig}{w:World}{j:List Deferred}{e:Exit}{a':Act}{w':World}(q:X.ok P)(h:QaU h0 fr ro σ w N j (λx env H=>Q x env H st) e a' w'){g:Nat->Prop}(hl:∀b,fr b->b<w.heap.size)(f:X.at st g ro w/\In g fr j):
  Qdb X h0 fr ro σ w N j Q e a' w':=by
 obtain⟨x,a,H',d,σ',k,p,m,r,i,n,l⟩:=h;exact⟨x,a,H',st,d,σ',k,g,p,m,r,⟨q.ev f.1 (i.frMono f.2.sub),f.2.later hl l⟩,i.sub,i.size,n,l⟩
theorem TCy.lift(h:TC P h0 N c env H (λx env H=>Q x env H st)):TCy X P h0 N c env H st Q:=
 λhX rd fr ro σ a w g r hj hrd=>Code.wpIn_mono (λe a' w' q=>Qlp hX q r.sim.frLt hj) (h rd fr ro σ a w r (hrd▸Qeg.none))
def SeqY(X:Ctx T)(P:Program)(h0 N:Nat)(c:Code)(Q:Yy T):Yy T
 |.normal,env,H,st=>TCy X P h0 N c env H st Q
 |.exit id,env,H,st=>Q (.exit id) env H st
 |.ret,env,H,st=>Q .ret env H st
theorem TCy.seq(h:TCy X P h0 N c env H st (SeqY X P h0 N c' Q)):TCy X P h0 N (.seq c c') env H st Q:=by
 intro z y G E σ a w g r hj hrd;refine wpIn_seq (Code.wpIn_mono ?_ (h z y G E σ a w g r hj hrd));rintro e B F ⟨x,b,H',i,d,σ',f,l,j,t,k,n,u,s,m,p⟩;cases e with
 |normal=>
  obtain rfl:x=.normal:=j;exact Code.wpIn_mono (λe a w q=>q.grow u s m p) (t z y f d σ' B F l k n hrd)
 |exit id=>
  obtain rfl:x=.exit id:=j;exact⟨_,b,H',i,d,σ',f,l,rfl,t,k,n,u,s,m,p⟩
 |ret=>
  obtain rfl:x=.ret:=j;exact⟨_,b,H',i,d,σ',f,l,rfl,t,k,n,u,s,m,p⟩
 |_=>exact j.elim
theorem TCy.region{id:Nat}{l:List Oper}(h:WOy X P h0 N l.toArray l env H st Q):TCy X P h0 N (.region id l.toArray false) env H st Q:=
 λhX rd fr ro σ a w g r hj hrd=>wpIn_region_lit (h hX rd fr ro σ a w g r hj hrd)
theorem TCy.cond{x:Operand}{t:Bool}(k:opA env x=.bool t)(j:t=true->TCy X P h0 N c env H st Q)(l:t=false->TCy X P h0 N c' env H st Q):TCy X P h0 N (.cond x c c') env H st Q:=by
 intro h b d f σ a w g r hj hrd;have i:=Qe r x;rw[k]at i;exact wpIn_cond_split i (λe=>j e h b d f σ a w g r hj hrd) (λe=>l e h b d f σ a w g r hj hrd)
theorem WOy.nil{all:Array Oper}(h:Q .normal env H st):WOy X P h0 N all [] env H st Q:=
 λhX rd fr ro σ a w g r hj hrd=>⟨_,env,H,st,ro,σ,fr,g,rfl,h,r,hj,λ_ q=>q,XU _,rfl,Grow.refl _ _ _⟩
end
theorem QiW{P:Program}{rd:Option Nat}{o:Oper}{a:Act}{K K':Act->World->Prop}{Q Q':Exit->Act->World->Prop}(b:∀a w,K a w->K' a w)(i:∀ch a w,Q (.panic ch) a w->Q' (.panic ch) a w)(k:∀a w,Q .outgrown a w->Q' .outgrown a w)
  {r:Result Next}(h:o.uponIn (WF rd) 0 P a K Q r):o.uponIn (WF rd) 0 P a K' Q' r:=by
 cases r with
 |ok x w=>
  cases x with
  |value v=>exact b _ _ h
  |skip=>exact b _ _ h
  |defer d=>exact b _ _ h
  |enter f g=>
   refine⟨h.1,CallsIn.mono h.2 ?_⟩;intro e n q;cases e with
   |returned v=>exact b _ _ q
   |panicked c=>exact i _ _ _ q
   |outgrown=>obtain⟨a,w,q⟩:=q;exact⟨a,w,k _ _ q⟩
  |row r g=>exact⟨h.1,RowsIn.mono h.2 λv n q=>b _ _ q⟩
  |round l f j assign m=>
   refine⟨h.1,RoundIn.mono h.2 ?_⟩;intro e n q;cases e with
   |returned v=>exact b _ _ q
   |panicked c=>exact i _ _ _ q
   |outgrown=>obtain⟨a,w,q⟩:=q;exact⟨a,w,k _ _ q⟩
  |_=>exact h
 |halt x w=>
  cases x with
  |panic v=>exact i _ _ _ h
  |_=>exact h
section
variable {T:Type} {X:Ctx T} {P:Program} {h0 N:Nat} {env:Env} {H:Qc} {st:YSt T} {Q:Yy T}
theorem WOy.step{all:Array Oper}{o:Oper}{rest:List Oper}(h:WO P h0 N all [o] env H (λx env' H'=>x=.normal/\WOy X P h0 N all rest env' H' st Q)):WOy X P h0 N all (o::rest) env H st Q:=by
 intro B m u n σ a w g r hj hrd;have E:∀f j,Qb0 h0 u n σ w N a.defers (λx env' H'=>x=.normal/\WOy X P h0 N all rest env' H' st Q) .normal f j->wpL P m all (Qdb X h0 u n σ w N a.defers Q) rest f j:=by
  rintro f j ⟨x,env',H',d,σ',i,L,⟨_,G⟩,F,p,J,z,y⟩;have t:X.at st g d j/\In g i f.defers:=⟨B.ev hj.1 (p.frMono hj.2.sub),by rw[z];exact hj.2.later r.sim.frLt y⟩;have:=G B m i d σ' f j g F t hrd;refine Yd (λe l k q=>?_) _ _ _ this;exact q.grow p.sub p.size J (by rw[z];exact y)
 have b:=h m u n σ a w r (hrd▸Qeg.none);unfold wpL wpListIn at b⊢;split
 .rename_i s;rw[Vt s]at b;refine⟨b.1,QiW (λl k q=>?_) (λM l k q=>?_) (λl k q=>?_) b.2⟩
  .unfold wpListIn at q;exact E l k q
  .obtain⟨x,_,_,_,_,_,q,_⟩:=q;exact q.elim
  .obtain⟨x,_,_,_,_,_,q,_⟩:=q;exact q.elim
 .rename_i s;rw[Vs s]at b;refine⟨b.1,?_⟩;have q:=b.2;unfold wpListIn at q;exact E _ _ q
theorem WOy.yield{all:Array Oper}{o:Oper}{rest:List Oper}{d:Nat}{x:T}{G rem:List T}(M:X.nx G x rem)(hg:Qm all o env true)(E:o.dst=some d)(hN:Nat.blt d N=true)
  (O:∀fr ro σ a w,Rel fr ro σ H env N a w->∃vs:List Value,LR ro [] w (X.enc x) vs/\(execOp a.eval o).run P w=(Instr.yield X.l vs.toArray).run P w)
  (k:∀b:Bool,WOy X P h0 N all rest (up env d (.bool b)) H (bif b then .on rem else .off rem) Q):WOy X P h0 N all (o::rest) env H (.on G) Q:=by
 intro W J fr ro σ a w g r hj hrd;obtain⟨vs,hv,Y⟩:=O fr ro σ a w r;obtain⟨q,hq,R⟩:=hj.1;obtain⟨fn,tmps,assign,V,h1,h2⟩:=W.round G x rem q g ro w vs M R hq (λb z=>⟨r.sim.roLt b z,λy=>r.sim.roFr b z (hj.2.sub b y)⟩) hv;have h3:=Y.trans h1;unfold wpL wpListIn;rw[Vt (YA hg r)];refine⟨λ_ _=>trivial,?_⟩;rw[QcJ h3 (λd e=>by cases e)];refine⟨λh=>by simp[WF,Fence.wide]at h,?_⟩;refine RoundIn.mono (F:=WF J) (n:=0) h2 ?_;rintro e j ⟨i,m,p,t,f⟩;obtain⟨s',ev⟩:=r.sim.round hj.2.sub t;have L:d<N:=by simpa using hN
 have u:Ext ro σ w ro σ j:=by have:=ev.ext σ [];simpa using this
 have fin:∀b:Bool,X.at (bif b then .on rem else .off rem) i ro j->wpL P J all (Qdb X h0 fr ro σ w N a.defers Q) rest (a.put o.dst (.bool b)) j:=by
  intro b f;have hm:Qde (λb=>fr b\/i b) a.defers j:=by
   refine⟨r.defers.1,λd E=>?_⟩;obtain⟨D,rfl,B,q2⟩:=r.defers.2 d E;exact⟨D,rfl,.inl B,(t.keep D (r.sim.frLt D B) (hj.2.beside D E)).trans q2⟩
  have hi:In i (λb=>fr b\/i b) a.defers:=by
   refine⟨λb q=>.inr q,λD hD q=>?_⟩;rcases t.new D q with m|m
   .exact hj.2.beside D hD m
   .obtain⟨D',e,B,_⟩:=r.defers.2 _ hD;have:D=D':=by simpa using e
    subst this;have:=r.sim.frLt D B;omega
  have r':Rel (λb=>fr b\/i b) ro σ H (up env d (.bool b)) N {a with tmps:=a.tmps.setIfInBounds d (.bool b)} j:=
   ⟨s',VR.up (fr:=fr) (λs=>(r.env s).mono u) (by rw[r.size];exact L) rfl,by simpa using r.size,hm⟩
  have:=k b W J _ ro σ _ j i r' ⟨f,hi⟩ hrd;simp only[E,Act.put];refine Yd (λe a2 w2 q=>q.grow (λ_ q=>q) t.size rfl ⟨λ_ q=>.inl q,λb q=>?_,λ_ q=>.inl q⟩) _ _ _ this;rcases q with q|q
  .exact .inl q
  .rcases t.new b q with q|q
   .exact .inl (hj.2.sub b q)
   .exact .inr q
 rcases f with⟨rfl,f⟩|⟨rfl,f⟩
 .exact fin true ⟨m,p,f⟩
 .exact fin false ⟨m,p,f⟩
end
def EndY{T:Type}:Yy T:=λx env H st=>(x=.normal\/x=.ret)/\(st=.on []\/ ∃rem,st=.off rem)
theorem Qc7{T:Type}{P:Program}{f:FuncId}{fn:Func}{c:Code}{N:Nat}{a:List A}{H:Qc}{enc:T->List A}{nx:List T->T->List T->Prop}{xs:List T}
  (hf:P.funcs[f]?=some fn)(W:fn.body=some c)(hN:fn.ntmps=N)(Y:Nat.ble (a.length+1) N=true)(hR:fn.results= #[])
  (h:∀X:Ctx T,X.enc=enc->X.nx=nx->TCy X P H.length N c (Qgn 0 (.fn (.yield X.l) [] []::a)) H (.on xs) EndY):QiE P f a H enc nx xs:=by
 intro X hE hNx hX fr ro0 σ w capv q0 hs hq0 hl hj;have r:LR ro0 σ w (.fn (.yield X.l) [] []::a) (Value.func (.yield X.l) #[] #[]::capv):=⟨_,_,rfl,⟨[],[],rfl,rfl,rfl⟩,hl⟩;have p:=r.length;have aa:a.length+1<=N:=by simpa using Y
 refine(callsIn_wide (n:=0)).1 (callsIn_of_wp_marks hf W trivial (Code.wpIn_mono ?_ (h X hE hNx hX none fr ro0 σ _ w fr ⟨hs,?_,?_,List.nodup_nil,λd y=>by cases y⟩ ⟨⟨q0,hq0,hj⟩,λ_ q=>q,λD hD=>by cases hD⟩ rfl)))
 .rintro e z V ⟨x,Q,H1,st,G,σ1,ab,L,R,⟨h2,F⟩,j,⟨h4,k⟩,h5,h6,h7,h8⟩;have m:LeavesInM Fence.wide 0 P fn z.tmps (λe W'=>(∃v,e=.returned v)/\ ∃g q',(∀b,fr b->g b)/\((X.J [] q' g W')\/(∃rem,X.Jx rem q' g W'))) z.defers .returning V:=by
   refine Qbw (ro:=G) (fr:=L) (σ:=σ1) (H:=H1) z.defers V j.defers.1 (λd y=>?_) (j.sim.frMono k.sub) (λw2 s2 t=>?_)
   .obtain⟨D,rfl,E,q2⟩:=j.defers.2 d y;exact⟨D,rfl,λq=>j.sim.roFr D q E,k.beside D y,λi x B O M=>(j.sim.own i D x B O M).2.2 E,λi d x B O M=>(j.sim.hid i d x D B O M).fr E,q2⟩
   .have u:=hX.up (hX.ev h4 t) (g':=λb=>L b\/fr b) (λb q=>.inl q) (λb q=>Vf (j.sim.frLt b (q.elim (k.sub b) (h8.sub b))) t.size);obtain⟨q9,_,u⟩:=u;refine⟨.tuple #[],by simp[results,hR,go_sem],⟨_,rfl⟩,λb=>L b\/fr b,q9,λb q=>.inr q,?_⟩;rcases F with rfl|⟨rem,rfl⟩
    .exact .inl u
    .exact .inr ⟨rem,u⟩
  cases e with
  |normal=>exact m
  |ret=>exact m
  |exit id=>
   obtain rfl:x=.exit id:=R;rcases h2 with q|q<;>cases q
  |_=>exact R.elim
 .intro s;have:=QeU (i:=0) [] rfl r (Array.replicate (fn.ntmps-(Value.func (.yield X.l) #[] #[]::capv).toArray.size) undef) s;simpa using this
 .simp only[X0]at p;simp[hN];omega
section
variable {T:Type} {X:Ctx T} {P:Program} {h0 N:Nat} {c c':Code} {env:Env} {H:Qc} {st:YSt T} {Q Q':Yy T}
theorem TCy.mono(h:TCy X P h0 N c env H st Q)(p:∀x env H st,Q x env H st->Q' x env H st):TCy X P h0 N c env H st Q':=by
 intro q n l s σ a w g r hj hrd;refine Code.wpIn_mono ?_ (h q n l s σ a w g r hj hrd);rintro e u y ⟨x,b,H',f,d,σ',i,j,m,k,t⟩;exact⟨x,b,H',f,d,σ',i,j,m,p _ _ _ _ k,t⟩
theorem TCy.skip(h:Q .normal env H st):TCy X P h0 N .skip env H st Q:=TCy.lift (TC.skip h)
theorem TCy.ret(h:Q .ret env H st):TCy X P h0 N .ret env H st Q:=TCy.lift (TC.ret h)
theorem TCy.exit{id:Nat}(h:Q (.exit id) env H st):TCy X P h0 N (.exit id) env H st Q:=TCy.lift (TC.exit h)
def BloY(id:Nat)(Q:Yy T):Yy T
 |.normal,env,H,st=>Q .normal env H st
 |.exit id',env,H,st=>bif Nat.beq id' id then Q .normal env H st else Q (.exit id') env H st
 |.ret,env,H,st=>Q .ret env H st
theorem TCy.block{id:Nat}(h:TCy X P h0 N c env H st (BloY id Q)):TCy X P h0 N (.block id c) env H st Q:=by
 intro y s t u σ a w g r hj hrd;refine wpIn_block (Code.wpIn_mono ?_ (h y s t u σ a w g r hj hrd));rintro e z B ⟨x,b,H',j,f,σ',i,l,m,k,n⟩;cases e with
 |normal=>
  obtain rfl:x=.normal:=m;exact⟨_,b,H',j,f,σ',i,l,rfl,k,n⟩
 |exit d=>
  obtain rfl:x=.exit d:=m;show Exit.inBlock id _ _ _ _;unfold Exit.inBlock;simp only[BloY]at k;by_cases q:d=id
  .subst q;rw[VF,Vp]at k;simp only[if_true];exact⟨.normal,b,H',j,f,σ',i,l,rfl,k,n⟩
  .have p:Nat.beq d id=false:=by
    cases e:Nat.beq d id with
    |false=>rfl
    |true=>exact absurd (XR e) q
   rw[p,Vq]at k;simp only[q,if_false];exact⟨.exit d,b,H',j,f,σ',i,l,rfl,k,n⟩
 |ret=>
  obtain rfl:x=.ret:=m;exact⟨_,b,H',j,f,σ',i,l,rfl,k,n⟩
 |_=>exact m.elim
end
section
variable {T:Type} {X:Ctx T} {P:Program} {h0 N:Nat} {c:Code} {env:Env} {H:Qc} {st:YSt T} {Q:Yy T}
def QlB(I:Env->Qc->YSt T->Prop)(Q:Yy T):Yy T
 |.normal,env,H,st=>I env H st
 |.exit id,env,H,st=>Q (.exit id) env H st
 |.ret,env,H,st=>Q .ret env H st
theorem Qgw{I:Nat->Env->Qc->YSt T->Prop}(body:∀n env H st,I n env H st->TCy X P h0 N c env H st (QlB (λenv H st=>∃n',n'<n/\I n' env H st) Q)){n:Nat}(G:I n env H st):TCy X P h0 N (.loop c) env H st Q:=by
 intro hX L B y σ a w g r hj hrd b k cs hro hb hr;have E:∀m n env H st fr1 ro1 σ1 a1 w1 g1,n<m->I n env H st->Rel fr1 ro1 σ1 H env N a1 w1->(∀b,y b->ro1 b)->w.heap.size<=w1.heap.size->σ1.take h0=σ.take h0->Grow B w a.defers fr1 a1.defers->X.at st g1 ro1 w1/\In g1 fr1 a1.defers->
   ∃e h i,Qdb X h0 B y σ w N a.defers Q e h i/\ArrivesIn (Machine.fenced P (WF L)) P (lone (b.atR a1 (.code c::.inLoop c::k)) cs w1) b k cs e h i:=by
  intro m
  induction m with
  |zero=>intro n env H st fr1 ro1 σ1 a1 w1 g1 hn;exact absurd hn (Xn _)
  |succ m ih=>
   intro n env H st fr1 ro1 σ1 a1 w1 g1 hn G r1 s1 z1 t1 gr1 j1;obtain⟨e,h,i,J,d⟩:=body n env H st G hX L fr1 ro1 σ1 a1 w1 g1 r1 j1 hrd b (.inLoop c::k) cs hro hb hr;obtain⟨x,f,H',j,p,σ',s,O,z,t,q3,Y,q5,V,W,q8⟩:=J;have M:=λb q=>q5 b (s1 b q);have u:=gr1.trans z1 q8;have R:∀x,Q x f H' j->ExR e x->Qdb X h0 B y σ w N a.defers Q e h i:=λx q q'=>⟨x,f,H',j,p,σ',s,O,q',q,q3,Y,M,XW z1 V,W.trans t1,u⟩;cases e with
   |normal=>
    obtain rfl:x=.normal:=z;obtain⟨n',aa,t⟩:=t;obtain⟨e2,a2,w2,F,l⟩:=ih n' f H' j s p σ' h i O (by omega) t q3 M (XW z1 V) (W.trans t1) u Y;exact⟨e2,a2,w2,F,.of_steps (StepsIn.trans d (.one (fenced_calm hb hr rfl) stepR_inLoop)) l⟩
   |exit id=>
    obtain rfl:x=.exit id:=z;exact⟨_,h,i,R _ t rfl,.pass (x:=.inLoop c) rfl (λ_ _=>.inl (by simp)) d⟩
   |ret=>
    obtain rfl:x=.ret:=z;exact⟨_,h,i,R _ t rfl,.pass (x:=.inLoop c) rfl (λ_ _=>.inl (by simp)) d⟩
   |_=>exact z.elim
 obtain⟨e,h,i,J,d⟩:=E (n+1) n env H st B y σ a w g (Xo _) G r (λ_ q=>q) (XU _) rfl (Grow.refl _ _ _) hj;exact⟨e,h,i,J,.of_steps (.one (fenced_calm hb hr rfl) stepR_loop) d⟩
end
end Go.Sw
namespace Go.Sw
theorem Sim.part{fr ro:Nat->Prop}{σ:Sig}{H:Qc}{w:World}(s0:Sim fr ro σ H w){π:List Nat}{Hc:Qc}(hH:π.map (λp=>H[p]?)=(Hc.map (QT (rho π H.length))).map some)(hπ:π.Nodup):
  Sim (λb=>fr b\/(∃i x,σ[i]?=some (some b)/\H[i]?=some x/\x.live=true/\i∉π)\/ ∃i x d,σ[i]?=some (some d)/\H[i]?=some x/\Hid w x d b/\i∉π) ro (Q9 σ π) Hc w/\ ∀j:Nat,σ[rho π H.length j]?=(Q9 σ π)[j]? :=by
 have hp:∀p∈π,p<H.length:=λp q=>Ja hH q;have hσl:=s0.len;have h:∀(j p:Nat),π[j]?=some p->H[p]?=(Hc[j]?).map (QT (rho π H.length)):=by
  intro j p a;have:=congrArg (λl=>l[j]?) hH;simp only[Xq,a,Xk]at this;cases e:Hc[j]? with
  |none=>rw[e]at this;simp at this
  |some x=>rw[e]at this;simpa using this
 have P:π.length=Hc.length:=by simpa using congrArg List.length hH
 have hσc:∀j:Nat,σ[rho π H.length j]?=(Q9 σ π)[j]? :=by
  intro j;have:=Qei (τ:=[]) hσl hp j;simpa using this
 have hπj:∀(j b:Nat),(Q9 σ π)[j]?=some (some b)->∃p,π[j]?=some p/\σ[p]?=some (some b):=by
  intro j b a;simp only[Q9,Xq]at a;cases e:π[j]? with
  |none=>rw[e]at a;simp at a
  |some p=>
   rw[e]at a;simp at a;refine⟨p,rfl,?_⟩;cases r:σ[p]? with
   |none=>rw[r]at a;simp at a
   |some s=>rw[r]at a;simp at a;rw[a]
 refine⟨?_,hσc⟩
 .refine⟨by simp[Q9,P],s0.roOk,?_,?_,?_,?_,?_,?_⟩
  .rintro b (L|⟨i,x,g,n,m,Q⟩|⟨i,x,d,g,n,m,Q⟩)
   .exact s0.frLt b L
   .exact(s0.own i b x g n m).1
   .exact(s0.hid i d x b g n m).lt
  .rintro b L (O|⟨i,x,g,n,m,Q⟩|⟨i,x,d,g,n,m,Q⟩)
   .exact s0.roFr b L O
   .exact(s0.own i b x g n m).2.1 L
   .exact(s0.hid i d x b g n m).ro L
  .intro j b x g n m;obtain⟨p,f,r⟩:=hπj j b g;have B:H[p]?=some (QT (rho π H.length) x):=by rw[h j p f,n];rfl
   obtain⟨o1,o2,o3⟩:=s0.own p b _ r B (by rw[QH];exact m);refine⟨o1,o2,?_⟩;rintro(O|⟨i,y,y1,y2,F,M⟩|⟨i,y,d,y1,y2,F,M⟩)
   .exact o3 O
   .have:=s0.inj i p b _ _ y1 r y2 B F (by rw[QH];exact m);subst this;exact M (VH f)
   .exact(s0.hid i d y b y1 y2 F).ne p b _ r B (by rw[QH];exact m) rfl
  .intro i j b x y g n m Q q5 q6;obtain⟨p,f,r⟩:=hπj i b g;obtain⟨t,u,R⟩:=hπj j b n;have B:H[p]?=some (QT (rho π H.length) x):=by rw[h i p f,m];rfl
   have V:H[t]?=some (QT (rho π H.length) y):=by rw[h j t u,Q];rfl
   have:=s0.inj p t b _ _ r R B V (by rw[QH];exact q5) (by rw[QH];exact q6);subst this;have G:i<π.length:=by
    rcases VC i π.length with q|q
    .exact q
    .rw[XP q]at f;simp at f
   have a:j<π.length:=by
    rcases VC j π.length with q|q
    .exact q
    .rw[XP q]at u;simp at u
   rw[XL G]at f;rw[XL a]at u;have z:=(XZ f).trans (XZ u).symm;rcases Nat.lt_trichotomy i j with q|q|q
   .exact(VE.1 hπ i j G a q z).elim
   .exact q
   .exact(VE.1 hπ j i a G q z.symm).elim
  .intro j s x g n;have a:j<π.length:=by
    rcases VC j π.length with q|q
    .exact q
    .rw[XP (by simpa[Q9]using q)]at g;simp at g
   have f:π[j]?=some π[j]:=XL a;have B:H[π[j]]?=some (QT (rho π H.length) x):=by rw[h j _ f,n];rfl
   have r:σ[π[j]]?=some s:=by
    have:=hσc j;rw[g]at this;simpa[rho,f]using this
   exact(Qhw hσc).1 (s0.blk _ s _ r B)
  .intro j b x c g n m;obtain⟨p,f,r⟩:=hπj j b g;have B:H[p]?=some (QT (rho π H.length) x):=by rw[h j p f,n];rfl
   have k:=s0.hid p b _ c r B ((Qas _ _ _ _ _).2 m);refine⟨k.lt,k.ro,?_,?_,?_⟩
   .rintro(O|⟨i,y,y1,y2,F,M⟩|⟨i,y,d,y1,y2,F,M⟩)
    .exact k.fr O
    .exact k.ne i c y y1 y2 F rfl
    .obtain⟨rfl,rfl⟩:=k.one i d y y1 y2 F;exact M (VH f)
   .intro E N y Y W T;obtain⟨t,J,X⟩:=hπj E N Y;exact k.ne t N _ X (show H[t]?=some (QT (rho π H.length) y)by rw[h E t J,W];rfl) (by rw[QH];exact T)
   .intro E N y Y W T;obtain⟨t,J,X⟩:=hπj E N Y;obtain⟨z4,z5⟩:=k.one t N _ X (show H[t]?=some (QT (rho π H.length) y)by rw[h E t J,W];rfl) ((Qas _ _ _ _ _).2 T);subst z5;have G:E<π.length:=(XM.1 J).1;have a:j<π.length:=(XM.1 f).1;rw[XL G]at J;rw[XL a]at f;have z:=(XZ J).trans (XZ f).symm;refine⟨z4,?_⟩;rcases Nat.lt_trichotomy E j with q|q|q
    .exact(VE.1 hπ E j G a q z).elim
    .exact q
    .exact(VE.1 hπ j E a G q z.symm).elim
theorem Sim.frames{fr fr' ro:Nat->Prop}{σ:Sig}{H:Qc}{w:World}(s:Sim fr ro σ H w)(lt:∀b,fr' b->b<w.heap.size)(hro:∀b,ro b->¬fr' b)(own:∀(i b:Nat) (x:Blk),σ[i]?=some (some b)->H[i]?=some x->x.live=true->¬fr' b)
  (hd:∀(i b:Nat) (x:Blk) (c:Nat),σ[i]?=some (some b)->H[i]?=some x->Hid w x b c->¬fr' c):Sim fr' ro σ H w:=
 ⟨s.len,s.roOk,lt,hro,λi b x q1 q2 q3=>⟨(s.own i b x q1 q2 q3).1,(s.own i b x q1 q2 q3).2.1,own i b x q1 q2 q3⟩,s.inj,s.blk,
  s.hidTo (· = ·) QU (XU _) (λ_ _ _ _ _ _ _ q=>q) (λi b x c q1 q2 q3 q4=>(hd i b x c q1 q2 q3 q4).elim) λj d y g1 g2 g3=>.inl ⟨j,y,rfl,g1,g2,id,λ_ q=>q⟩⟩
def Qkc(H:Qc)(p:Nat):Qc:=match H[p]? with
 |some x=>bif x.holds then H.set p .dead else H
 |none=>H
def QdU:Qc->List Nat->Qc
 |H,[]=>H
 |H,p::π=>QdU (Qkc H p) π
theorem QdV(H:Qc)(p:Nat):(Qkc H p=H/\ ∀x,H[p]?=some x->x.holds=false)\/Qkc H p=H.set p .dead:=by
 unfold Qkc;cases h:H[p]? with
 |none=>exact .inl ⟨rfl,λx q=>by cases q⟩
 |some x=>
  cases q:x.holds with
  |false=>exact .inl ⟨by simp[q],λy a=>by cases a;exact q⟩
  |true=>exact .inr (by simp[q])
theorem QeV:∀(π:List Nat) (H:Qc) (i:Nat) (x:Blk),(QdU H π)[i]?=some x->x=.dead\/(H[i]?=some x/\(x.holds=true->i∉π))
 |[],H,i,x,h=>.inr ⟨h,λ_=>by simp⟩
 |p::π,H,i,x,h=>by
  rcases QeV π _ i x h with h|⟨h1,h2⟩
  .exact .inl h
  .rcases QdV H p with⟨e,hl⟩|e
   .rw[e]at h1;refine .inr ⟨h1,λhx=>?_⟩;simp only[X6,not_or];refine⟨λq=>?_,h2 hx⟩;subst q;have:=hl x h1;rw[this]at hx;cases hx
   .rw[e]at h1;by_cases q:p=i
    .subst q;rw[Xb]at h1;simp at h1;exact .inl h1.2.symm
    .rw[XQ q]at h1;exact .inr ⟨h1,λhx=>by simp only[X6,not_or];exact⟨λr=>q r.symm,h2 hx⟩⟩
theorem QdF{fr ro:Nat->Prop}{σ:Sig}{w:World}:∀(π:List Nat) {H:Qc} (s:Sim fr ro σ H w),Sim fr ro σ (QdU H π) w
 |[],_,s=>s
 |p::π,H,s=>by
  rw[QdU];rcases QdV H p with h|h
  .rw[h.1];exact QdF π s
  .rw[h];exact QdF π (s.kill p)
theorem Sim.put{fr ro:Nat->Prop}{σ:Sig}{H:Qc}{w:World}(s:Sim fr ro σ H w){b:Nat}{obj:Obj}(l:fr b)(r:w.shape? b=none):
  Sim fr ro σ H (w.putObj b obj)/\Qf (λc=>c≠b) ro w ro (w.putObj b obj):=by
 have a:∀c,c≠b->(w.putObj b obj).heap[c]?=w.heap[c]? :=λc F=>World.putObj_heap_other F;have f:(w.putObj b obj).heap.size=w.heap.size:=by simp
 have p:∀c,ro c->c≠b:=λc q e=>s.roFr c q (e▸l);have ev:Qf (λc=>c≠b) ro w ro (w.putObj b obj):=by
  refine⟨λ_ q=>q,λc q=>a c (p c q),λc q=>a c q,by rw[f];exact XU _,λc x q=>?_,rfl,rfl,rfl,XU _⟩;by_cases e:c=b
  .subst e;rw[r]at q;cases q
  .unfold World.shape? at q⊢;rw[a c e];exact q
 have g:Ext ro σ w ro σ (w.putObj b obj):=by have:=ev.ext σ [];simpa using this
 refine⟨⟨s.len,s.roOk.to (λ_ q=>q) ev.keepRo (λc q=>by rw[f];exact s.roLt c q),λc q=>by rw[f];exact s.frLt c q,s.roFr,λi c x h k B=>?_,s.inj,λi y x h k=>?_,
  s.hidTo (· = ·) QU (by rw[f];exact XU _) (λ_ _ _ _ _ _ _ q=>q) (λ_ _ _ _ _ _ _ q=>q) λj d y n t J=>.inl ⟨j,y,rfl,n,t,id,λc q=>s.hidKeep n t (λz=>a d (λe=>(s.own j d y n t z).2.2 (e▸l))) ev.keepRo q⟩⟩,ev⟩
 .obtain⟨E,G,u⟩:=s.own i c x h k B;exact⟨by rw[f];exact E,G,u⟩
 .refine(s.blk i y x h k).keep g ?_ ?_
  .rintro c rfl m;exact a c (λe=>(s.own i c x h k m).2.2 (e▸l))
  .rintro d c rfl m;exact a c (λe=>(s.hid i d x c h k m).fr (e▸l))
theorem Qbt{w:World}{l:Nat}{r:Loop}(h:w.heap[l]?=some (.loop r)):w.shape? l=none:=by
 unfold World.shape?;rw[h]
structure Fix where
 fr:Nat->Prop
 ro:Nat->Prop
 σ:Sig
 w:World
 h1:Nat
 env:Env
 tmps:Array Value
 ds1:List Deferred
 l:Nat
 rc:LoopState->Option Code->Loop
 fr1:Nat->Prop
structure Fix.Ok (D:Fix):Prop where
 sub:∀b,D.fr b->D.fr1 b
 l1:D.fr1 D.l
 lf:¬D.fr D.l
 len:D.σ.length=D.h1
structure RJ (D:Fix) (ro1:Nat->Prop) (σ1:Sig) (H:Qc) (st:LoopState) (pe:Option Code) (q g:Nat->Prop) (W:World):Prop where
 sim:Sim D.fr1 ro1 σ1 H W
 env:∀t,VR ro1 D.σ W (lk D.env t) (D.tmps.getD t undef)
 sig:σ1.take D.h1=D.σ
 ev:Qf D.fr D.ro D.w ro1 W
 marks:Qde D.fr1 D.ds1 W
 rc:W.heap[D.l]?=some (.loop (D.rc st pe))
 roG:∀b,ro1 b->q b\/g b
 frG:∀b,D.fr1 b->g b
 own:∀(i b:Nat) (x:Blk),σ1[i]?=some (some b)->H[i]?=some x->x.live=true->g b
 hidG:∀(i b:Nat) (x:Blk) (c:Nat),σ1[i]?=some (some b)->H[i]?=some x->Hid W x b c->g c
 lt:∀b,g b->b<W.heap.size
theorem QdM{σ σ1:Sig}{a:Nat}(h:σ1.take a=σ){i b:Nat}(q:σ[i]?=some (some b)):σ1[i]?=some (some b):=by
 subst h;rw[List.getElem?_take]at q;split at q
 .exact q
 .cases q
section
variable {D:Fix} {ro1:Nat->Prop} {σ1:Sig} {H:Qc} {st:LoopState} {pe:Option Code} {qR g:Nat->Prop} {W:World}
theorem RJ.step(r:D.Ok)(j:RJ D ro1 σ1 H st pe qR g W){ro':Nat->Prop}{W':World}(e:Qf g qR W ro' W'):RJ D ro1 σ1 H st pe qR g W':=by
 have f:∀b,ro1 b->W'.heap[b]?=W.heap[b]? :=λb q=>(j.roG b q).elim (e.keepRo b) (e.keepFr b);have ev:Qf D.fr1 ro1 W ro1 W':=⟨λ_ q=>q,f,λb q=>e.keepFr b (j.frG b q),e.size,e.shape,e.os,e.tape,e.output,e.drawn⟩;have k:∀σ,Ext ro1 σ W ro1 σ W':=λ σ=>by have:=ev.ext σ [];simpa using this
 refine⟨⟨j.sim.len,j.sim.roOk.to (λ_ q=>q) f (λb q=>Vf (j.sim.roLt b q) e.size),λb q=>Vf (j.sim.frLt b q) e.size,j.sim.roFr,λi b x a h n=>?_,j.sim.inj,λi z x a h=>?_,
  j.sim.hidTo (· = ·) QU e.size (λ_ _ _ _ _ _ _ q=>q) (λ_ _ _ _ _ _ _ q=>q) λi d y m p w=>.inl ⟨i,y,rfl,m,p,id,λc q=>j.sim.hidKeep m p (λz=>e.keepFr d (j.own i d y m p z)) f q⟩⟩,
  λt=>(j.env t).mono (k _),j.sig,j.ev.trans (ev.frMono r.sub),j.marks.keep ev,(ev.keepFr _ r.l1).trans j.rc,j.roG,j.frG,j.own,λi b x c a h n=>j.hidG i b x c a h (j.sim.hidKeep a h (λz=>e.keepFr b (j.own i b x a h z)) f n),λb q=>Vf (j.lt b q) e.size⟩
 .obtain⟨s,u⟩:=j.sim.own i b x a h n;exact⟨Vf s e.size,u⟩
 .refine(j.sim.blk i z x a h).keep (k _) ?_ ?_
  .rintro b rfl l;exact e.keepFr b (j.own i b x a h l)
  .rintro b c rfl l;exact e.keepFr c (j.hidG i b x c a h l)
theorem RJ.up{g':Nat->Prop}(j:RJ D ro1 σ1 H st pe qR g W)(h:∀b,g b->g' b)(hl:∀b,g' b->b<W.heap.size):RJ D ro1 σ1 H st pe qR g' W:=
 {j with roG:=λb q=>(j.roG b q).imp id (h b),frG:=λb q=>h b (j.frG b q),own:=λi b x q1 q2 q3=>h b (j.own i b x q1 q2 q3),hidG:=λi b x c q1 q2 q3=>h c (j.hidG i b x c q1 q2 q3),lt:=hl}
def FrB(D:Fix)(ro1 g:Nat->Prop)(W:World):Nat->Prop:=λb=>(D.fr1 b\/(¬g b/\ ¬ro1 b))/\b<W.heap.size
theorem RJ.simB(j:RJ D ro1 σ1 H st pe qR g W):Sim (FrB D ro1 g W) ro1 σ1 H W:=by
 refine j.sim.frames (λb q=>q.2) (λb q r=>?_) (λi b x e d a r=>?_) (λi b x c e d a r=>r.1.elim (j.sim.hid i b x c e d a).fr λr=>r.1 (j.hidG i b x c e d a))
 .rcases r.1 with r|r
  .exact j.sim.roFr b q r
  .exact r.2 q
 .rcases r.1 with r|r
  .exact(j.sim.own i b x e d a).2.2 r
  .exact r.1 (j.own i b x e d a)
theorem RJ.fin(z:D.Ok)(j:RJ D ro1 σ1 H st pe qR g W){w ro':Nat->Prop}{σ':Sig}{H':Qc}{W':World}{st':LoopState}{pe':Option Code}
  (ev:Qf (λb=>FrB D ro1 g W b/\b≠D.l) ro1 W ro' W')(s:Sim w ro' σ' H' W')(u:∀b,FrB D ro1 g W b->w b)(hσ:σ'.take D.h1=σ1.take D.h1)(L:W'.heap[D.l]?=some (.loop (D.rc st' pe'))):
  RJ D ro' σ' H' st' pe' qR (λb=>g b\/(W.heap.size<=b/\b<W'.heap.size)) W'/\Qfr g (λb=>g b\/(W.heap.size<=b/\b<W'.heap.size)) W W':=by
 have n:∀b,D.fr1 b->FrB D ro1 g W b:=λb q=>⟨.inl q,j.sim.frLt b q⟩;have R:W.shape? D.l=none:=Qbt j.rc;have E:Qf D.fr ro1 W ro' W':=ev.frMono λb q=>⟨n b (z.sub b q),λe=>z.lf (e▸q)⟩;have y:Ext ro1 D.σ W ro' D.σ W':=ev.ext0 D.σ;have G:∀b,b<W.heap.size->b<W'.heap.size:=λb q=>Vf q ev.size;have m:∀b,b<W.heap.size->¬FrB D ro1 g W b->g b\/ro1 b:=by
  intro b h N;by_cases f:g b
  .exact .inl f
  .by_cases a:ro1 b
   .exact .inr a
   .exact absurd ⟨.inr ⟨f,a⟩,h⟩ N
 refine⟨⟨s.frames (λb q=>G b (j.sim.frLt b q)) (λb q r=>s.roFr b q (u b (n b r))) (λi b x f a p r=>(s.own i b x f a p).2.2 (u b (n b r))) (λi b x c f a p r=>(s.hid i b x c f a p).fr (u c (n c r))),
  λt=>(j.env t).mono y,hσ.trans j.sig,j.ev.trans E,⟨j.marks.1,λd T=>?_⟩,L,λb q=>?_,λb q=>.inl (j.frG b q),λi b x f a p=>?_,λi b x c f a p=>?_,λb q=>q.elim (λq=>G b (j.lt b q)) (λq=>q.2)⟩,
  ⟨λb q=>.inl q,λb q=>q.imp id (λq=>q.1),λb q=>q.elim (λq=>G b (j.lt b q)) (λq=>q.2),λb f a=>.inr ⟨f,a⟩,λb f a=>?_,ev.size,ev.shape,ev.os,ev.tape,ev.output,ev.drawn⟩⟩
 .obtain⟨B,O,J,F⟩:=j.marks.2 d T;refine⟨B,O,J,(ev.keepFr B ⟨n B J,λe=>?_⟩).trans F⟩;subst e;rw[j.rc]at F;cases F
 .rcases VC b W.heap.size with h|h
  .rcases m b h (λr=>s.roFr b q (u b r))with r|r
   .exact .inr (.inl r)
   .exact(j.roG b r).imp id .inl
  .exact .inr (.inr ⟨h,s.roLt b q⟩)
 .obtain⟨P,M,Q⟩:=s.own i b x f a p;rcases VC b W.heap.size with h|h
  .rcases m b h (λr=>Q (u b r))with r|r
   .exact .inl r
   .exact absurd (ev.sub b r) M
  .exact .inr ⟨h,P⟩
 .have k:=s.hid i b x c f a p;rcases VC c W.heap.size with h|h
  .rcases m c h (λr=>k.fr (u c r))with r|r
   .exact .inl r
   .exact absurd (ev.sub c r) k.ro
  .exact .inr ⟨h,k.lt⟩
 .by_cases r:ro1 b
  .exact ev.keepRo b r
  .exact ev.keepFr b ⟨⟨.inr ⟨a,r⟩,f⟩,λe=>a (j.frG b (e▸z.l1))⟩
end
theorem Sim.roAdd{fr ro a:Nat->Prop}{σ:Sig}{H:Qc}{w:World}(s:Sim fr ro σ H w)(l:∀b,a b->b<w.heap.size)(m:∀b,a b->¬fr b)(g:∀(i b:Nat) (x:Blk),σ[i]?=some (some b)->H[i]?=some x->x.live=true->¬a b)
  (h:∀(i b:Nat) (x:Blk) (c:Nat),σ[i]?=some (some b)->H[i]?=some x->Hid w x b c->¬a c):Sim fr (λb=>ro b\/a b) σ H w:=by
 have ext:Ext ro σ w (λb=>ro b\/a b) σ w:=⟨λ_ q=>.inl q,λ_ _=>rfl,λ_ _ q=>q,λ_ _ q=>q⟩;refine⟨s.len,s.roOk.to (λ_ q=>.inl q) (λ_ _=>rfl) (λb q=>q.elim (s.roLt b) (l b)),s.frLt,λb q=>q.elim (s.roFr b) (m b),λi b x e f k=>?_,s.inj,λi y x e f=>(s.blk i y x e f).keep ext (λ_ _ _=>rfl) (λ_ _ _ _=>rfl),
  s.hidTo (· = ·) QU (XU _) (λi b x c e f k p=>p.elim id λq=>(h i b x c e f k q).elim) (λ_ _ _ _ _ _ _ q=>q) λj d y n u B=>.inl ⟨j,y,rfl,n,u,id,λ_ q=>q⟩⟩
 obtain⟨t,z,r⟩:=s.own i b x e f k;exact⟨t,λq=>q.elim z (g i b x e f k),r⟩
theorem RJ.roAdd{D:Fix}{ro1:Nat->Prop}{σ1:Sig}{H:Qc}{st:LoopState}{pe:Option Code}{qR ri g:Nat->Prop}{W:World}(j:RJ D ro1 σ1 H st pe qR g W)(hq:∀b,qR b->ri b)(hI:∀b,ri b->b<W.heap.size/\ ¬g b):RJ D (λb=>ro1 b\/ri b) σ1 H st pe ri g W:=
 {j with
  sim:=j.sim.roAdd (λb q=>(hI b q).1) (λb q z=>(hI b q).2 (j.frG b z)) (λi b x q1 q2 q3 z=>(hI b z).2 (j.own i b x q1 q2 q3)) (λi b x c q1 q2 q3 z=>(hI c z).2 (j.hidG i b x c q1 q2 q3))
  env:=λt=>(j.env t).mono ⟨λ_ q=>.inl q,λ_ _=>rfl,λ_ _ q=>q,λ_ _ q=>q⟩
  ev:=j.ev.trans (YE λ_ q=>.inl q)
  roG:=λb q=>q.elim (λq=>(j.roG b q).imp (hq b) id) .inl}
def QlM:List Nat->List A->Env->Env
 |p::ps,a::zs,env=>QlM ps zs (up env p a)
 |_,_,env=>env
def Qi3:List Nat->List Value->Array Value->Array Value
 |p::ps,v::vs,t=>Qi3 ps vs (t.setIfInBounds p v)
 |_,_,t=>t
theorem QfR:∀(ps:List Nat) (vs:List Value) (t:Array Value),(Qi3 ps vs t).size=t.size
 |[],_,_=>rfl
 |_::_,[],_=>rfl
 |p::ps,v::vs,t=>by simp[Qi3,QfR ps]
theorem QfS:∀(ps:List Nat) (vs:List Value) (t:Array Value),(ps.toArray.zip vs.toArray).foldl (λt (p,v)=>t.setIfInBounds p v) t=Qi3 ps vs t
 |[],vs,t=>by rw[<- Array.foldl_toList,Array.toList_zip];rfl
 |p::ps,[],t=>by rw[<- Array.foldl_toList,Array.toList_zip];rfl
 |p::ps,v::vs,t=>by
  have:=QfS ps vs (t.setIfInBounds p v);rw[<- Array.foldl_toList,Array.toList_zip]at this⊢;exact this
theorem QjX{ro:Nat->Prop}{σ:Sig}{w:World}:∀(ps:List Nat) (zs:List A) (vs:List Value) (env:Env) (t:Array Value),LR ro σ w zs vs->(∀p∈ps,p<t.size)->(∀s,VR ro σ w (lk env s) (t.getD s undef))->
  ∀s,VR ro σ w (lk (QlM ps zs env) s) ((Qi3 ps vs t).getD s undef)
 |[],_,_,_,_,_,_,h=>h
 |p::ps,[],vs,_,_,hv,_,h=>by
  obtain rfl:vs=[]:=hv;exact h
 |p::ps,a::zs,vs,env,t,hv,hp,h=>by
  obtain⟨v,vs',rfl,h0,hv'⟩:=hv;have h1:=VR.up (fr:=λ_=>False) (a:={tmps:=t,defers:=[]}) h (hp p (by simp)) h0;exact QjX ps zs vs' (up env p a) (t.setIfInBounds p v) hv' (λq hq=>by simpa using hp q (by simp[hq])) h1
def QjF(h1:Nat)(env:Env)(Q:Qv)(K:Qc->Prop):Qv
 |.normal,env',H'=>∃H2,Le h1 env' H' [] H2/\K H2
 |.exit id,env',H'=>∃H2,Le h1 env' H' [] H2/\Q (.exit id) env H2
 |.ret,env',H'=>∃H2,Le h1 env' H' [] H2/\Q .ret env H2
def Jump(Q:Qv)(env:Env)(c:Code)(H:Qc):Prop:=(∃id,c=.exit id/\Q (.exit id) env H)\/(c=.ret/\Q .ret env H)
section
variable {D:Fix} {ro0:Nat->Prop} {σ1:Sig} {H:Qc} {qR ri g:Nat->Prop} {W:World} {P:Program} {N:Nat} {Q:Qv} {K:Qc->Prop}
theorem RJ.round{fn:FuncId}{ps:List Nat}{assign body:Code}{df:Nat}{cs:List A}{vs:List Value}(hD:D.Ok)(m:D.rc=λst pe=>{state:=st,pending:=pe,fn:=fn,tmps:=D.tmps,params:=ps.toArray,assign:=assign,body:=body,defers:=df})
  (hN:D.tmps.size=N)(ak:∀p∈ps,p<N)(ac:cs.length=ps.length)(hq:∀b,qR b->ri b)(hI:∀b,ri b->b<W.heap.size/\ ¬g b)(R:LR ri [] W cs vs)(j0:RJ D ro0 σ1 H .ready none qR g W)
  (h:TC P D.h1 N assign (QlM ps cs D.env) H λe env1 H1=>e=.normal/\TC P D.h1 N body env1 H1 (QjF D.h1 D.env Q K)):
  YieldAt Fence.wide 0 P D.l vs.toArray W λe W'=>∃g',Qfr g g' W W'/\((e=.returned (.bool true)/\ ∃H2 ro2 σ2,K H2/\RJ D ro2 σ2 H2 .ready none ri g' W')\/
   (e=.returned (.bool false)/\ ∃H2 c ro2 σ2,Jump Q D.env c H2/\RJ D ro2 σ2 H2 .done (some c) ri g' W')):=by
 have aj:vs.length=cs.length:=R.length;have j:=j0.roAdd hq hI;have z:LR (λb=>ro0 b\/ri b) σ1 W cs vs:=R.mono ⟨λ_ q=>.inr q,λ_ _=>rfl,λ_ _ q=>q,λi b q=>by simp at q⟩;clear j0;generalize(λb=>ro0 b\/ri b)=ro1 at j z;have an:∀b,D.fr1 b->FrB D ro1 g W b:=λb q=>⟨.inl q,j.sim.frLt b q⟩;have n:=an _ hD.l1;have M:=j.rc;have hy:=run_yield (P:=P) (r:=D.rc .ready none) (args:=vs.toArray) M (by rw[m];simp[aj,ac]);refine⟨fn,Qi3 ps vs D.tmps,assign,body,?_,?_⟩
 .rw[hy,m];simp only[];rw[<- QfS]
 .refine roundIn_of_wpIn trivial ?_;show Code.wpIn (WF (some D.l)) 0 P _ _ _ _;have aa:∀s,VR ro1 σ1 W (lk D.env s) (D.tmps.getD s undef):=λs=>(j.env s).mono ⟨λ_ q=>q,λ_ _=>rfl,λ_ _ q=>q,λi b q=>QdM j.sig q⟩;have ao:Qeg (some D.l) (FrB D ro1 g W) W:=λl e=>by cases e;exact⟨n,_,M⟩
  have E:=h (some D.l) (FrB D ro1 g W) ro1 σ1 {tmps:=Qi3 ps vs D.tmps,defers:=[]} W ⟨j.simB,QjX ps cs vs D.env D.tmps z (by rw[hN];exact ak) aa,by simp[QfR,hN],List.nodup_nil,λd hd=>by cases hd⟩ ao;refine Code.wpIn_mono ?_ E;rintro e a1 E ⟨x1,env1,H1,ro2,σ2,t,h1,⟨rfl,h2⟩,T,h4,h5,h6⟩;cases e with
  |normal=>
   have k:E.heap[D.l]?=some (.loop (D.rc .ready none)):=(h4.keepFr _ n).trans M;refine⟨_,run_beginRound k (by rw[m]),?_⟩;obtain⟨s2,L⟩:=T.sim.put (obj:=.loop {D.rc .ready none with state:=.busy}) (h6.sub _ n) (Qbt k);have V:D.l<E.heap.size:=by rw[Vc]at k;exact k.1
   have ab:(E.putObj D.l (.loop {D.rc .ready none with state:=.busy})).heap[D.l]?=some (.loop {D.rc .ready none with state:=.busy}):=World.putObj_heap_same V;generalize hw2:E.putObj D.l (.loop {D.rc .ready none with state:=.busy})=w2 at*;have ai:Qde t a1.defers w2:=by
    refine⟨T.defers.1,λd hd=>?_⟩;obtain⟨B,e1,e2,X⟩:=T.defers.2 d hd;refine⟨B,e1,e2,(L.keepFr B (λe=>?_)).trans X⟩;subst e;rw[k]at X;cases X
   have r2:Rel t ro2 σ2 H1 env1 N a1 w2:=⟨s2,λs=>(T.env s).mono (L.ext0 σ2),T.size,ai⟩;have J:t D.l:=h6.sub _ n;refine Code.wpIn_mono ?_ (h2 (some D.l) t ro2 σ2 a1 w2 r2 (λl e=>by cases e;exact⟨J,_,ab⟩));rintro e a3 y ⟨x3,ag,H3,G,σ3,af,g1,g2,g3,g4,g5,g6⟩;have u:y.heap[D.l]?=some (.loop {D.rc .ready none with state:=.busy}):=(g4.keepFr _ J).trans ab;have F:∀(H2:Qc) (jump:Option Code),Le D.h1 ag H3 [] H2->∃v x,(Instr.endRound D.l jump).run P y=.ok v x/\v=.bool jump.isNone/\ ∃g',Qfr g g' W x/\ ∃a σ4,RJ D a σ4 H2 (if jump.isNone then .ready else .done) jump ri g' x:=by
    intro H2 jump f;obtain⟨a,σ4,r4,s4,t4⟩:=f af G σ3 N a3 y g3;refine⟨_,_,run_endRound jump u,rfl,?_⟩;have al:af D.l:=g6.sub _ J;obtain⟨s5,ah⟩:=r4.sim.put (obj:=.loop {{D.rc .ready none with state:=.busy}with state:=if jump.isNone then .ready else .done,pending:=jump}) al (Qbt u);have ae:D.l<y.heap.size:=by rw[Vc]at u;exact u.1
    have am:=World.putObj_heap_same (w:=y) (r:=D.l) (o:=.loop {{D.rc .ready none with state:=.busy}with state:=if jump.isNone then .ready else .done,pending:=jump}) ae;have e1:Qf (λb=>FrB D ro1 g W b/\b≠D.l) ro1 W ro2 E:=h4.frMono λb q=>q.1;have e2:Qf (λb=>FrB D ro1 g W b/\b≠D.l) ro2 E ro2 w2:=L.frMono λb q=>q.2;have X:Qf (λb=>FrB D ro1 g W b/\b≠D.l) ro2 w2 G y:=g4.frMono λb q=>h6.sub b q.1;have e4:Qf (λb=>FrB D ro1 g W b/\b≠D.l) G y a y:=YE s4;have e5:=(((e1.trans e2).trans X).trans e4).trans (ah.frMono λb (q:FrB D ro1 g W b/\b≠D.l)=>q.2);obtain⟨q1,q2⟩:=j.fin hD e5 s5 (λb q=>g6.sub b (h6.sub b q)) (by rw[t4,g5,h5]) (st':=if jump.isNone then .ready else .done) (pe':=jump) (by rw[am,m]);exact⟨_,q2,a,σ4,q1⟩
   cases e with
   |normal=>
    obtain rfl:x3=.normal:=g1;obtain⟨H2,f,Y⟩:=g2;obtain⟨v,x,O,rfl,g',k2,a,σ4,k3⟩:=F H2 none f;exact⟨_,x,O,g',k2,.inl ⟨rfl,H2,a,σ4,Y,k3⟩⟩
   |exit id=>
    obtain rfl:x3=.exit id:=g1;obtain⟨H2,f,Y⟩:=g2;obtain⟨v,x,O,rfl,g',k2,a,σ4,k3⟩:=F H2 (some (.exit id)) f;exact⟨_,x,O,g',k2,.inr ⟨rfl,H2,_,a,σ4,.inl ⟨id,rfl,Y⟩,k3⟩⟩
   |ret=>
    obtain rfl:x3=.ret:=g1;obtain⟨H2,f,Y⟩:=g2;obtain⟨v,x,O,rfl,g',k2,a,σ4,k3⟩:=F H2 (some .ret) f;exact⟨_,x,O,g',k2,.inr ⟨rfl,H2,_,a,σ4,.inr ⟨rfl,Y⟩,k3⟩⟩
   |_=>exact g1.elim
  |exit id=>cases h1
  |ret=>cases h1
  |_=>exact h1.elim
end
theorem Sim.beside{fr ro:Nat->Prop}{σ:Sig}{H:Qc}{w h:World}(s:Sim fr ro σ H w)(ev:Qf fr ro w ro h)(a:∀b,b<w.heap.size->h.heap[b]?=w.heap[b]?):Sim (λb=>fr b\/(w.heap.size<=b/\b<h.heap.size)) ro σ H h:=by
 have g:Ext ro σ w ro σ h:=ev.ext0 σ;refine⟨s.len,s.roOk.to (λ_ q=>q) ev.keepRo (λb q=>Vf (s.roLt b q) ev.size),λb q=>q.elim (λq=>Vf (s.frLt b q) ev.size) (λq=>q.2),λb q r=>?_,λi b x e f m=>?_,s.inj,λi z x e f=>?_,
  s.hidTo (· = ·) QU ev.size (λ_ _ _ _ _ _ _ q=>q) (λi b x c e f m p=>p.elim id λq=>(by have:=(s.hid i b x c e f m).lt;omega)) λj d y l n E=>.inl ⟨j,y,rfl,l,n,id,λc q=>s.hidKeep l n (λz=>a d (s.own j d y l n z).1) ev.keepRo q⟩⟩
 .rcases r with r|r
  .exact s.roFr b q r
  .have:=s.roLt b q;omega
 .obtain⟨u,B,t⟩:=s.own i b x e f m;refine⟨Vf u ev.size,B,λr=>?_⟩;rcases r with r|r
  .exact t r
  .omega
 .refine(s.blk i z x e f).keep g ?_ ?_
  .rintro b rfl k;exact a b (s.own i b x e f k).1
  .rintro b c rfl k;exact a c (s.hid i b x c e f k).lt
theorem Qca{w:World}{o:Obj}{b:Nat}(a:b<w.heap.size):(w.alloc o).heap[b]?=w.heap[b]? :=by
 show(w.heap.push o)[b]?=_;rw[Array.getElem?_push,Vs (by omega)]
theorem QmM{P:Program}{fn:FuncId}{tmps:Array Value}{ps:Array Tmp}{assign body:Code}{rd:Option Nat}{fr ro:Nat->Prop}{w:World}(j:Qeg rd fr w)(g:∀b,ro b->b<w.heap.size)(h:∀b,fr b->b<w.heap.size):
  ∃l mark w1 df,(Instr.enterLoop fn tmps ps assign body rd).run P w=.ok (l,mark) w1/\w.heap.size<=l/\l<w1.heap.size/\w1.heap[l]?=some (.loop {state:=.ready,pending:=none,fn:=fn,tmps:=tmps,params:=ps,assign:=assign,body:=body,defers:=df})/\
   (∀b,b<w.heap.size->w1.heap[b]?=w.heap[b]?)/\mark.Nodup/\(∀d∈mark,∃D,d={target:=.collected D,args:= #[]}/\w.heap.size<=D/\D<w1.heap.size/\w1.heap[D]?=some (.deferred (some [])))/\Qf fr ro w ro w1:=by
 have f:∀w1:World,(∀b,b<w.heap.size->w1.heap[b]?=w.heap[b]?)->w.heap.size<=w1.heap.size->w1.os=w.os->w1.tape=w.tape->w1.output=w.output->w1.drawn=w.drawn->Qf fr ro w ro w1:=by
  intro w1 i n y p u s;refine⟨λ_ q=>q,λb q=>i b (g b q),λb q=>i b (h b q),n,λb x q=>?_,y,p,u,by rw[s];exact XU _⟩;have e:b<w.heap.size:=by
   rcases VC b w.heap.size with z|z
   .exact z
   .unfold World.shape? at q;rw[Array.getElem?_eq_none (by simpa using z)]at q;cases q
  unfold World.shape? at q⊢;rw[i b e];exact q
 cases rd with
 |none=>
  have a:∀b,b<w.heap.size->((w.alloc (.deferred (some []))).alloc (.loop {state:=.ready,pending:=none,fn:=fn,tmps:=tmps,params:=ps,assign:=assign,body:=body,defers:=w.heap.size})).heap[b]?=w.heap[b]? :=λb e=>
   (Qca (by simp;omega)).trans (Qca e)
  refine⟨_,_,_,w.heap.size,run_enterLoop_outer fn tmps ps assign body,by omega,by simp,?_,a,by simp,?_,f _ a (by simp;omega) rfl rfl rfl rfl⟩
  .have:=World.alloc_heap_new (w.alloc (.deferred (some []))) (.loop {state:=.ready,pending:=none,fn:=fn,tmps:=tmps,params:=ps,assign:=assign,body:=body,defers:=w.heap.size})
   rwa [World.size_alloc]at this
  .intro d k;obtain rfl:=VB.1 k;exact⟨_,rfl,XU _,by simp;omega,(Qca (by simp)).trans (World.alloc_heap_new w _)⟩
 |some t=>
  obtain⟨_,m,r⟩:=j t rfl;have a:∀b,b<w.heap.size->(w.alloc (.loop {state:=.ready,pending:=none,fn:=fn,tmps:=tmps,params:=ps,assign:=assign,body:=body,defers:=m.defers})).heap[b]?=w.heap[b]? :=λb e=>Qca e;exact⟨_,_,_,m.defers,run_enterLoop_inner r fn tmps ps assign body,XU _,by simp,World.alloc_heap_new w _,a,List.nodup_nil,(λd k=>absurd k List.not_mem_nil),f _ a (by simp) rfl rfl rfl rfl⟩
theorem TC.rangeFunc{P:Program}{h0 N:Nat}{ae:Operand}{ps:List Nat}{assign body:Code}{env:Env}{H:Qc}{Q:Qv}{f:FuncId}{ag af:List A}{Hc:Qc}{T S:Type}{enc:T->List A}{nx:List T->T->List T->Prop}{xs:List T}
  (π:List Nat)(Hp:S->Qc)(V:S->List T->Prop)(s0:S)(hh:h0<=H.length)(hg:opA env ae=.fn (.func f) [] ag)(hargs:ag=Qaa (rho π H.length) af)(hH:π.map (λp=>H[p]?)=(Hc.map (QT (rho π H.length))).map some)(hπ:π.Nodup)
  (a3:(ps.all λp=>Nat.blt p N)=true)(eg:∀args w,(callFunc f args).run P w=.ok (.enter f args) w)(a1:QiE P f af Hc enc nx xs)(aq:∀x,(enc x).length=ps.length)
  (bc:Le H.length env (QdU H π) env (Hp s0))(hV:V s0 xs)
  (ao:∀s l x rem,V s l->nx l x rem->TC P H.length N assign (QlM ps (enc x) env) (Hp s) λe env1 H1=>e=.normal/\TC P H.length N body env1 H1 (QjF H.length env Q λH2=>∃s',V s' rem/\H2=Hp s'))
  (am:∀s,V s []->Q .normal env (Hp s)):TC P h0 N (.rangeFunc ae ps.toArray assign body) env H Q:=by
 intro rd fr ro σ a w r hrd;have hv:=Qe r ae;rw[hg]at hv;obtain⟨l1,E,hv,bf,a2⟩:=hv;obtain rfl:l1=[]:=bf;refine wpIn_rangeFunc ?_;intro fn bh;obtain⟨l,G,Y,df,he,hl,bg,az,aw,bb,aj,aa⟩:=QmM (P:=P) (fn:=fn) (tmps:=a.tmps) (ps:=ps.toArray) (assign:=assign) (body:=body) (ro:=ro) hrd r.sim.roLt r.sim.frLt;have s1:=r.sim.beside aa aw
 let D:Fix:=⟨fr,ro,σ,w,H.length,env,a.tmps,G++a.defers,l,(λst pe=>{state:=st,pending:=pe,fn:=fn,tmps:=a.tmps,params:=ps.toArray,assign:=assign,body:=body,defers:=df}),(λb=>fr b\/(w.heap.size<=b/\b<Y.heap.size))⟩
 have ah:¬fr l:=λq=>by have:=r.sim.frLt l q;omega
 have hD:D.Ok:=⟨λb q=>.inl q,.inr ⟨hl,bg⟩,ah,r.sim.len⟩;have M:Qde D.fr1 (G++a.defers) Y:=by
  refine⟨List.nodup_append.2 ⟨bb,r.defers.1,λd R d' a5 e=>?_⟩,λd R=>?_⟩
  .subst e;obtain⟨B,e1,e2,_⟩:=aj d R;obtain⟨B',ay,a9,_⟩:=r.defers.2 d a5;rw[e1]at ay;have:B=B':=by simpa using ay
   subst this;have:=r.sim.frLt B a9;omega
  .rcases VD.1 R with R|R
   .obtain⟨B,e1,e2,e3,e4⟩:=aj d R;exact⟨B,e1,.inr ⟨e2,e3⟩,e4⟩
   .obtain⟨B,e1,e2,e3⟩:=(r.defers.keep aa).2 d R;exact⟨B,e1,.inl e2,e3⟩
 obtain⟨sp,hσc⟩:=s1.part hH hπ;have an:LR ro (Q9 σ π) Y af E:=(QbH hσc).1 (hargs▸a2.mono (aa.ext0 σ))
 let frX:Nat->Prop:=λb=>D.fr1 b\/(∃(j:Nat) (x:Blk),(Q9 σ π)[j]?=some (some b)/\Hc[j]?=some x/\x.live=true)\/ ∃(j:Nat) (x:Blk) (d:Nat),(Q9 σ π)[j]?=some (some d)/\Hc[j]?=some x/\Hid Y x d b
 have sX:Sim frX ro σ (QdU H π) Y:=by
  refine(QdF π s1).frames (λb q=>?_) (λb q r=>?_) (λi b x n m k r=>?_) (λi b x c n m k r=>?_)
  .rcases q with q|⟨j,x,n,m,k⟩|⟨j,x,d,n,m,k⟩
   .exact s1.frLt b q
   .exact(sp.own j b x n m k).1
   .exact(sp.hid j d x b n m k).lt
  .rcases r with r|⟨j,x,n,m,k⟩|⟨j,x,d,n,m,k⟩
   .exact s1.roFr b q r
   .exact(sp.own j b x n m k).2.1 q
   .exact(sp.hid j d x b n m k).ro q
  .rcases QeV _ _ _ _ m with rfl|⟨m,hi⟩
   .cases k
   .rcases r with r|⟨j,y,p1,p2,p3⟩|⟨j,y,d,p1,p2,p3⟩
    .exact(s1.own i b x n m k).2.2 r
    .exact(sp.own j b y p1 p2 p3).2.2 (.inr (.inl ⟨i,x,n,m,k,hi (QaK k)⟩))
    .exact(sp.hid j d y b p1 p2 p3).fr (.inr (.inl ⟨i,x,n,m,k,hi (QaK k)⟩))
  .rcases QeV _ _ _ _ m with rfl|⟨m,hi⟩
   .exact k.elim
   .rcases r with r|⟨j,y,p1,p2,p3⟩|⟨j,y,d,p1,p2,p3⟩
    .exact(s1.hid i b x c n m k).fr r
    .exact(sp.own j c y p1 p2 p3).2.2 (.inr (.inr ⟨i,x,b,n,m,k,hi k.holds⟩))
    .exact(sp.hid j d y c p1 p2 p3).fr (.inr (.inr ⟨i,x,b,n,m,k,hi k.holds⟩))
 have rX:Rel frX ro σ (QdU H π) env N {a with defers:=G++a.defers} Y:=
  ⟨sX,λs=>(r.env s).mono (aa.ext0 σ),r.size,M.1,λd R=>let⟨B,e1,e2,e3⟩:=M.2 d R;⟨B,e1,.inl e2,e3⟩⟩
 obtain⟨ac,σ',r',ab,a8⟩:=bc frX ro σ N _ Y rX;have hσt:σ.take H.length=σ:=by rw[<- r.sim.len,X9]
 let g0:Nat->Prop:=λb=>D.fr1 b\/(ac b/\ ¬ro b)\/(∃(i:Nat) (x:Blk),σ'[i]?=some (some b)/\(Hp s0)[i]?=some x/\x.live=true)\/ ∃(i:Nat) (x:Blk) (d:Nat),σ'[i]?=some (some d)/\(Hp s0)[i]?=some x/\Hid Y x d b
 have j0:RJ D ac σ' (Hp s0) .ready none ro g0 Y:=by
  refine⟨r'.sim.frMono λb q=>.inl q,λt=>(r.env t).mono ⟨ab,aa.keepRo,aa.shape,λ_ _ q=>q⟩,a8.trans hσt,aa.trans (YE ab),M,az,λb q=>?_,λb q=>.inl q,λi b x n m k=>.inr (.inr (.inl ⟨i,x,n,m,k⟩)),λi b x c n m k=>.inr (.inr (.inr ⟨i,x,b,n,m,k⟩)),λb q=>?_⟩
  .by_cases z:ro b
   .exact .inl z
   .exact .inr (.inr (.inl ⟨q,z⟩))
  .rcases q with q|q|⟨i,x,n,m,k⟩|⟨i,x,d,n,m,k⟩
   .exact s1.frLt b q
   .exact r'.sim.roLt b q.1
   .exact(r'.sim.own i b x n m k).1
   .exact(r'.sim.hid i d x b n m k).lt
 have sI:Sim g0 ro (Q9 σ π) Hc Y:=by
  refine sp.frames (λb q=>j0.lt b q) (λb q z=>?_) (λj b x n m k z=>?_) (λj b x c n m k z=>?_)
  .rcases z with z|z|⟨i,x,n,m,k⟩|⟨i,x,d,n,m,k⟩
   .exact s1.roFr b q z
   .exact z.2 q
   .exact(r'.sim.own i b x n m k).2.1 (ab b q)
   .exact(r'.sim.hid i d x b n m k).ro (ab b q)
  .have hX:frX b:=.inr (.inl ⟨j,x,n,m,k⟩);rcases z with z|z|⟨i,y,p1,p2,p3⟩|⟨i,y,d,p1,p2,p3⟩
   .exact(sp.own j b x n m k).2.2 (.inl z)
   .exact r'.sim.roFr b z.1 hX
   .exact(r'.sim.own i b y p1 p2 p3).2.2 hX
   .exact(r'.sim.hid i d y b p1 p2 p3).fr hX
  .have hX:frX c:=.inr (.inr ⟨j,x,b,n,m,k⟩);rcases z with z|z|⟨i,y,p1,p2,p3⟩|⟨i,y,d,p1,p2,p3⟩
   .exact(sp.hid j b x c n m k).fr (.inl z)
   .exact r'.sim.roFr c z.1 hX
   .exact(r'.sim.own i c y p1 p2 p3).2.2 hX
   .exact(r'.sim.hid i d y c p1 p2 p3).fr hX
 let X:Ctx T:={l:=l,J:=λrem q g W=>∃s F σ1,V s rem/\RJ D F σ1 (Hp s) .ready none q g W,Jx:=λ_ q g W=>∃H2 c F σ1,Jump Q env c H2/\RJ D F σ1 H2 .done (some c) q g W,enc:=enc,nx:=nx}
 have ax:∀p∈ps,p<N:=λp hp=>by simpa using Xt.1 a3 p hp
 have hX:X.ok P:=by
  refine⟨⟨λrem q g W W' ac ⟨s,F,σ1,L,O⟩ he=>⟨s,F,σ1,L,O.step hD he⟩,λrem q g g' W ⟨s,F,σ1,L,O⟩ hg hl=>⟨s,F,σ1,L,O.up hg hl⟩⟩,
   ⟨λrem q g W W' ac ⟨H2,c,F,σ1,L,O⟩ he=>⟨H2,c,F,σ1,L,O.step hD he⟩,λrem q g g' W ⟨H2,c,F,σ1,L,O⟩ hg hl=>⟨H2,c,F,σ1,L,O.up hg hl⟩⟩,?_⟩
  rintro lr x rem q g ri W vs be ⟨s,F,σ1,L,O⟩ hq hI a4;obtain⟨bd,tm,ba,a7,y1,y2⟩:=RJ.round (D:=D) (Q:=Q) (K:=λH2=>∃s',V s' rem/\H2=Hp s') hD rfl r.size ax (aq x) hq hI a4 O (ao s lr x rem L be);refine⟨bd,tm,ba,a7,y1,RoundIn.mono y2 ?_⟩;rintro e W' ⟨g',k1,k2⟩;refine⟨g',ri,λ_ z=>z,k1,?_⟩;rcases k2 with⟨rfl,H2,u,σ2,⟨s',a6,rfl⟩,k3⟩|⟨rfl,H2,c,u,σ2,k3,k4⟩
  .exact .inl ⟨rfl,s',u,σ2,a6,k3⟩
  .exact .inr ⟨rfl,H2,c,u,σ2,k3,k4⟩
 have au:∀(ev:Operand->Value),ev ae=.func (.func f) #[] E.toArray->ev (.const (.func (.yield l) #[] #[]))=.func (.yield l) #[] #[]->(resolve ev (rangeCall ae l) 0).run P Y=.ok {target:=.fn (.func f) E.toArray,args:= #[.func (.yield l) #[] #[]]} Y:=by
  intro ev L O;simp[resolve,go_sem,L,O]
 refine⟨l,G,Y,{target:=.fn (.func f) E.toArray,args:= #[.func (.yield l) #[] #[]]},Y,f, #[.func (.yield l) #[] #[]]++E.toArray,Y,he,au a.eval hv rfl,λ_ _=>trivial,by simp[invoke,go_sem,eg],λh=>by simp[WF,Fence.wide]at h,?_⟩;refine WF.calls.2 ?_;have al:=a1 X rfl rfl hX g0 ro (Q9 σ π) Y E ro sI (λ_ z=>z) an ⟨s0,ac,σ',hV,j0⟩;have ak:(#[.func (.yield l) #[] #[]]++E.toArray:Array Value)=((Value.func (.yield X.l) #[] #[]::E)).toArray:=by simp[X]
 rw[ak];refine Calls.mono al ?_;rintro e W' ⟨⟨v,rfl⟩,g2,qz,bi,ar⟩;have fin:∀(H2:Qc) (st:LoopState) (pe:Option Code) (u:Nat->Prop) (σ2:Sig),st≠ .busy->RJ D u σ2 H2 st pe qz g2 W'->∃w4,(Instr.endLoop l).run P W'=.ok pe w4/\Rel D.fr1 u σ2 H2 env N {a with defers:=G++a.defers} w4/\Qf fr ro w u w4:=by
  intro H2 st pe u σ2 hst j;refine⟨_,run_endLoop j.rc (by exact hst),?_⟩;obtain⟨s5,ai⟩:=j.sim.put (obj:=.loop {(D.rc st pe)with state:=.exhausted}) hD.l1 (Qbt j.rc);have hr:=j.rc;refine⟨⟨s5,λt=>((j.env t).mono ⟨λ_ q=>q,λ_ _=>rfl,λ_ _ q=>q,λi b q=>QdM j.sig q⟩).mono (ai.ext0 σ2),r.size,j.marks.1,λd R=>?_⟩,j.ev.trans (ai.frMono λb q e=>ah (by have e':b=l:=e;rw[<- e'];exact q))⟩;obtain⟨B,e1,e2,e3⟩:=j.marks.2 d R;refine⟨B,e1,e2,(ai.keepFr B (λe=>?_)).trans e3⟩;subst e;rw[hr]at e3;cases e3
 have av:Grow fr w a.defers D.fr1 (G++a.defers):=by
  refine⟨λb q=>.inl q,λb q=>q.imp id (λq=>q.1),λd R=>?_⟩;rcases VD.1 R with R|R
  .obtain⟨B,e1,e2,_⟩:=aj d R;exact .inr ⟨B,e1,e2⟩
  .exact .inl R
 have a0:∀{σ2:Sig},σ2.take H.length=σ->σ2.take h0=σ.take h0:=by
  intro σ2 h;have:=congrArg (List.take h0) h
  rwa [List.take_take,XB hh]at this
 rcases ar with⟨s,u,σ2,L,O⟩|⟨rem,H2,c,u,σ2,L,O⟩
 .obtain⟨w4,f1,f2,f3⟩:=fin _ _ _ u σ2 (by intro e;cases e) O;exact⟨none,w4,f1,.normal,env,_,u,σ2,_,rfl,am s L,f2,f3,a0 O.sig,av⟩
 .obtain⟨w4,f1,f2,f3⟩:=fin _ _ _ u σ2 (by intro e;cases e) O;refine⟨some c,w4,f1,?_⟩;have hc:TC P h0 N c env H2 Q:=by
   rcases L with⟨id,rfl,L⟩|⟨rfl,L⟩
   .exact TC.exit L
   .exact TC.ret L
  exact Code.wpIn_mono (λe a w q=>q.grow f3 (a0 O.sig) av) (hc rd D.fr1 u σ2 _ w4 f2 (hrd.to f3 λb q=>.inl q))
end Go.Sw
namespace Go.Sw
theorem QiO{h0 i k t T:Nat}{env:Env}{H:Qc}(Y:Nat.ble h0 H.length=true)(hH:H[i]?=some (.cells T [.nils])):Le h0 env H env (H.set i (.cells T [.osl H.length 0 0 k])++[.row t k []]):=by
 intro fr E σ N a w r;have J:h0<=H.length:=XS Y;have O:i<H.length:=(XM.1 hH).1;have ext:Ext E σ w E (σ++[none]) w:=⟨λ_ q=>q,λ_ _=>rfl,λ_ _ q=>q,λ_ _ h=>YF h⟩;have s:=r.sim.phantom t k;have n:(H++[Blk.row t k []])[i]?=some (.cells T [.nils]):=by rw[XN O];exact hH
 have e0:H.set i (.cells T [.osl H.length 0 0 k])++[.row t k []]=(H++[Blk.row t k []]).set i (.cells T [.osl H.length 0 0 k]):=by
  rw[List.set_append_left _ _ O]
 have g:∀(j:Nat) (v:Blk),((H++[Blk.row t k []]).set i (.cells T [.osl H.length 0 0 k]))[j]?=some v->(j=i/\v=.cells T [.osl H.length 0 0 k])\/(j≠i/\(H++[Blk.row t k []])[j]?=some v):=by
  intro j v h;by_cases e:j=i
  .subst e;rw[Xa (by simp;omega)]at h;exact .inl ⟨rfl,by simpa using h.symm⟩
  .rw[XQ (λq=>e q.symm)]at h;exact .inr ⟨e,h⟩
 have f:∀(j:Nat) (v:Blk),((H++[Blk.row t k []]).set i (.cells T [.osl H.length 0 0 k]))[j]?=some v->v.live=true->∃z,(H++[Blk.row t k []])[j]?=some z/\z.live=true:=by
  intro j v h X;rcases g j v h with⟨rfl,rfl⟩|⟨_,h⟩
  .exact⟨_,n,rfl⟩
  .exact⟨v,h,X⟩
 refine⟨E,σ++[none],⟨?_,λq=>(r.env q).mono ext,r.size,r.defers⟩,λ_ q=>q,Qs (by rw[r.sim.len];exact J)⟩;rw[e0];refine⟨by rw[X4];exact s.len,s.roOk,s.frLt,s.roFr,λj b v u B L=>?_,λj Q b v z u B L q4 V q6=>?_,λj y v u B=>?_,
  s.hidTo (· = ·) QU (XU _) (λ_ _ _ _ _ _ _ q=>q) (λ_ _ _ _ _ _ _ q=>q) λj d y m p M=>.inl ?_⟩
 rotate_left 3
 .rcases g j y p with⟨rfl,rfl⟩|⟨_,h⟩
  .exact⟨j,_,rfl,m,n,λ_=>rfl,λ_ q=>q.elim⟩
  .exact⟨j,y,rfl,m,h,id,λ_ q=>q⟩
 .obtain⟨z,m,p⟩:=f j v B L;exact s.own j b z u m p
 .obtain⟨x,m,p⟩:=f j v L V;obtain⟨x',F,G⟩:=f Q z q4 q6;exact s.inj j Q b x x' u B m F p G
 .rcases g j v B with⟨rfl,rfl⟩|⟨_,h⟩
  .have:=s.blk j y _ u n;cases y with
   |none=>exact this
   |some b=>
    obtain⟨l,m,⟨W,P,rfl,p,M⟩,R⟩:=this;refine⟨_,m,⟨W,P,rfl,.inl ⟨rfl,p⟩,?_⟩,R⟩;obtain rfl:P=[]:=M;rfl
  .exact s.blk j y v u h
theorem QkA{h0 i:Nat}{env:Env}{H:Qc}{es:List (A×A)}(hH:H[i]?=some (.map es)):Le h0 env H env (H.set i (.fmap es)):=by
 intro e f σ N a w r;have d:∃s,σ[i]?=some s:=by
  have:i<σ.length:=by rw[r.sim.len];exact(XM.1 hH).1
  exact⟨_,XL this⟩
 obtain⟨s,d⟩:=d;cases s with
 |none=>exact(r.sim.blk i _ _ d hH).elim
 |some b=>
  refine⟨_,σ,⟨r.sim.shutMap d hH,λq=>(r.env q).mono ⟨λ_ q=>.inl q,λ_ _=>rfl,λ_ _ q=>q,λ_ _ q=>q⟩,r.size,r.defers⟩,λ_ q=>.inl q,rfl⟩
def anyN{T:Type}(l:List T)(x:T)(rem:List T):Prop:=l.Perm (x::rem)
def QmZ(ts te:Nat)(ld:Op):Code:=.block 1 (.region 3 #[{dst:=some 8,op:=.load ts (.tmp 2),type:=ts,pos:="iter.go:52",after:= #[],guard:=none},{dst:=some 9,op:=ld,type:=te,pos:="iter.go:52",after:= #[],guard:=none},
 {dst:=some 10,op:=.buildSlice ts 1 #[(0,.tmp 9)],type:=ts,pos:="iter.go:52",after:= #[{on:=1,ground:=.data}],guard:=none},
 {dst:=some 11,op:=.call {callee:=.builtin .append,args:= #[.tmp 8,.tmp 10],argTypes:= #[ts,ts]},type:=ts,pos:="iter.go:52",after:= #[{on:=0,ground:=.data},{on:=2,ground:=.data}],guard:=none},
 {dst:=none,op:=.store ts (.tmp 2) (.tmp 11),type:=0,pos:="iter.go:52",after:= #[{on:=3,ground:=.data},{on:=3,ground:=.chain},{on:=0,ground:=.phase},{on:=1,ground:=.phase},{on:=2,ground:=.phase},{on:=3,ground:=.phase}],guard:=none}] false)
def Qpv(ts tq te:Nat)(asg:Code)(ld:Op):Code:=(Code.region 0 #[{dst:=some 2,op:=.box ts (.tmp 0),type:=0,pos:="iter.go:50",after:= #[],guard:=none},{dst:=some 4,op:=.assign (.const (.slice none 0 0)),type:=ts,pos:="iter.go:50",after:= #[],guard:=none}] false).seq
 (((Code.region 1 #[{dst:=some 6,op:=.move (.tmp 1),type:=tq,pos:="iter.go:51",after:= #[],guard:=none}] false).seq (.block 0 (.rangeFunc (.tmp 6) #[7] asg (QmZ ts te ld)))).seq
  ((Code.region 4 #[{dst:=some 12,op:=.load ts (.tmp 2),type:=ts,pos:="iter.go:54",after:= #[],guard:=none},{dst:=some 4,op:=.assign (.tmp 12),type:=ts,pos:="iter.go:54",after:= #[{on:=0,ground:=.data},{on:=0,ground:=.phase}],guard:=none}] false).seq .ret))
def Qpw(te:Nat):Code:=.region 2 #[{dst:=some 5,op:=.assign (.tmp 7),type:=te,pos:="iter.go:51",after:= #[],guard:=none}] false
section
variable {P:Program} {T:Type} {ts tq te k tm:Nat} {g:FuncId} {es:List (A×A)} {e:T->List A} {ea:T->A} {xs:List T}
abbrev apH(ts te k tm:Nat)(es:List (A×A))(e:T->List A)(done:List T):Qc:=[.dead,.fmap es,.cells ts [.osl 3 0 done.length k],.row te k (done.map e)]
abbrev apE(g:FuncId):Env:=[(6,.fn (.func g) [] [.ptr 0 0]),(4,.nils),(2,.ptr 2 0),(0,.nils),(1,.fn (.func g) [] [.ptr 0 0])]
theorem Qn7{N:Nat}(z:N=13){done:List T}{x:T}{env:Env}{H:Qc}{K:Qc->Prop}{p:Op}(E:QK P ts te k)(G:∀w,(isAgg ts).run P w=.ok false w)(F:∀w,(sizeOf ts).run P w=.ok 1 w)(u:app done [x]=some (done++[x]))
  (J:(e x).length=k)(d:Nat.ble k 16777216=true)(h:Q5 (ea x)=true)(a:Yh (ea x)=e x)(b:(e x).all Ym=true)(V:Ya (e x)=true)(M:Nat.ble 3 H.length=true)
  (l:lk env 2=.ptr 2 0)(r:H[2]?=some (.cells ts [.osl 3 0 done.length k]))(j:H[3]?=some (.row te k (done.map e)))
  (g:∀env',(∀s,s≠8->lk env' s=lk env s)->∀pos,OpV P {dst:=some 9,op:=p,type:=te,pos:=pos,after:= #[],guard:=none} env' H (ea x))
  (O:∀env',∃H2,Le 3 env' (((((H++[Blk.row te k [e x]]).set 3 .dead)++[Blk.row te k ((done++[x]).map e)]).set 2 (.cells ts [.osl (H.length+1) 0 (done++[x]).length k]))) [] H2/\K H2){env0:Env}{Q:Qv}:
  TC P 3 N (QmZ ts te p) env H (QjF 3 env0 Q K):=by
 subst z;have B:3<=H.length:=XS M;have L:3<H.length:=(XM.1 j).1;refine TC.block (TC.region ?_);refine QF rfl rfl rfl (OpV.load (v:=.osl 3 0 done.length k) (cs:=[]) rfl G l (Pts.cells r rfl)) ?_;refine QF rfl rfl rfl (x:=ea x) ?_ ?_
 .refine g _ (λs R=>?_) _;simp only[up,lk];have:Nat.beq s 8=false:=by
   rw[VM];intro q;exact R (XR q)
  rw[this];rfl
 refine YV (by omega) rfl rfl rfl (OpH.lit (xs:=[.tmp 9]) (es:=[e x]) E rfl rfl (by simpa using d) ?_ ?_ ⟨J,trivial⟩ (by simpa using b) (by simpa using V)) ?_
 .simp[opA,lk,up,h]
 .simp[QB,opA,lk,up,a]
 refine YV (x:=.osl (H.length+1) 0 (done++[x]).length k) (H':=((H++[Blk.row te k [e x]]).set 3 .dead)++[Blk.row te k ((done++[x]).map e)]) (by simp;omega) rfl rfl rfl ?_ ?_
 .have:=QN (P:=P) (o:={dst:=some 11,op:=.call {callee:=.builtin .append,args:= #[.tmp 8,.tmp 10],argTypes:= #[ts,ts]},type:=ts,pos:="iter.go:52",after:= #[{on:=0,ground:=.data},{on:=2,ground:=.data}],guard:=none})
   (env:=up (up (up env 8 (.osl 3 0 done.length k)) 9 (ea x)) 10 (.osl H.length 0 1 k)) (H:=H++[Blk.row te k [e x]]) (x:=.tmp 8) (y:=.tmp 10) (e:=e) (m:=[x]) (i:=3) (n:=done.length) (ya:=.osl H.length 0 1 k) u E E.sl (Js (t:=te) (by simp) rfl) rfl rfl rfl rfl (by rw[XN L];exact j) rfl
  simpa using this
 refine QbD (by simp;omega) rfl rfl (OpU.store (i:=2) (off:=0) (T:=ts) (n:=1) (cs:=[.osl 3 0 done.length k]) (vs:=[.osl (H.length+1) 0 (done++[x]).length k]) (cs':=[.osl (H.length+1) 0 (done++[x]).length k]) (v:=.osl (H.length+1) 0 (done++[x]).length k) rfl ?_ ?_ F rfl rfl rfl rfl rfl rfl rfl) ?_
 .exact l
 .have f:2<H.length:=by omega
  rw[XN (by simp;omega),XQ (by decide),XN f];exact r
 .refine WO.nil ?_;exact O _
theorem QmY{xs done l rem:List T}{x:T}(hl:Nat.ble xs.length Qp=true)(b:(done++l).Perm xs)(a:l.Perm (x::rem)):app done [x]=some (done++[x])/\((done++[x])++rem).Perm xs:=by
 have e:=b.length_eq;have d:=a.length_eq;have f:=XS hl;simp at e d;refine⟨?_,?_⟩
 .unfold app;have:Nat.ble (done.length+[x].length) Qp=true:=XT (by simp;omega);rw[this];rfl
 .refine List.Perm.trans ?_ b;simp only[Vi,List.singleton_append];exact(List.Perm.append_left done a).symm
theorem QgD{m:FuncId}{fn:Func}(L:P.funcs[m]?=some fn)(q:fn.body=some (Qpv ts tq te (Qpw te) (.move (.tmp 5))))(s:fn.ntmps=13)(F:fn.results= #[.tmp 4])(E:QK P ts te 1)(j:∀w,(isAgg ts).run P w=.ok false w)(u:∀w,(sizeOf ts).run P w=.ok 1 w)
  (G:∀args w,(callFunc g args).run P w=.ok (.enter g args) w)(b:QiE P g [.ptr 0 0] [.cells tm [.map 1],.fmap es] (λx=>[ea x]) anyN xs)(hl:Nat.ble xs.length Qp=true)
  (M:∀x,QbP (ea x)=true)(h:∀x,Q5 (ea x)=true)(e:∀x,Yh (ea x)=[ea x])(f:∀x,Ym (ea x)=true)(J:∀x,Yk (ea x)=true):
  C P m [.nils,.fn (.func g) [] [.ptr 0 0]] [.cells tm [.map 1],.fmap es] (λr H1=>∃p:List T,p.Perm xs/\r=.osl 2 0 p.length 1/\H1=[.dead,.fmap es,.row te 1 (p.map λx=>[ea x])]):=by
 refine Qb L q s rfl ?_;refine TC.seq (TC.region ?_);refine YV (XS rfl) rfl rfl rfl (OpH.box (v:=.nils) (cs:=[.nils]) rfl rfl rfl rfl rfl) ?_;refine QF rfl rfl rfl (OpV.assign (v:=.nils) rfl rfl) ?_;refine WO.nil ?_;refine TC.seq (TC.seq (TC.region ?_));refine QF rfl rfl rfl (OpV.move (v:=.fn (.func g) [] [.ptr 0 0]) rfl rfl) ?_;refine WO.nil ?_;refine TC.block ?_;refine TC.rangeFunc (env:=apE g) (ps:=[7]) (S:=List T) [0,1] (apH ts te 1 tm es (λx=>[ea x])) (λdone l=>(done++l).Perm xs) [] (XS rfl) rfl rfl rfl (by decide) rfl G b (λx=>rfl) ?_ (List.Perm.refl _) ?_ ?_
 .exact QiO (h0:=3) (i:=2) (t:=te) (k:=1) (H:=[.dead,.fmap es,.cells ts [.nils]]) rfl rfl
 .intro done l x rem d y;obtain⟨z,B⟩:=QmY hl d y;refine TC.region (QF rfl rfl rfl (OpV.assign (v:=ea x) rfl rfl) (WO.nil ⟨rfl,?_⟩));refine Qn7 (ea:=ea) rfl E j u z rfl rfl (h x) (e x) (by simp[f x]) (by simp[Ya,J x]) rfl rfl rfl rfl ?_ ?_
  .intro a n pos;exact OpV.move rfl (by show lk a 5=ea x;rw[n 5 (by decide)];rfl)
  .intro a;exact⟨_,Lr (H':=apH ts te 1 tm es (λx=>[ea x]) (done++[x])) [0,1,2,5],_,B,rfl⟩
 .intro done d;rw[Vg]at d;refine TC.seq (TC.region ?_);refine QF rfl rfl rfl (OpV.load (v:=.osl 3 0 done.length 1) (cs:=[]) rfl j rfl (Pts.cells rfl rfl)) ?_;refine QF rfl rfl rfl (OpV.assign (v:=.osl 3 0 done.length 1) rfl rfl) ?_;refine WO.nil ?_;refine TC.ret ?_;exact⟨[(4,.osl 2 0 done.length 1)],[.dead,.fmap es,.row te 1 (done.map λx=>[ea x])],_,Lr [0,1,3],Qc9.one F rfl,done,d,rfl,rfl⟩
end
theorem TCy.le{T:Type}{X:Ctx T}{P:Program}{h0 N:Nat}{c:Code}{env env':Env}{H H':Qc}{st:YSt T}{Q:Yy T}(j:Le h0 env H env' H')(h:TCy X P h0 N c env' H' st Q):TCy X P h0 N c env H st Q:=by
 intro n u l x σ a w g r hj hrd;obtain⟨f,σ',m,s,t⟩:=j l x σ N a w r;obtain⟨⟨p,i,k⟩,d⟩:=hj;exact Code.wpIn_mono (λe a w q=>q.grow s (XU _) t (Grow.refl _ _ _)) (h n u l f σ' a w g m ⟨⟨p,λb z=>s b (i b z),k⟩,d⟩ hrd)
mutual
theorem QhI:∀{a:A},QbP a=true->Yk a=true
 |.any,_=>rfl
 |.bool _,_=>rfl
 |.int _ _,_=>rfl
 |.str _,_=>rfl
 |.nilp,_=>rfl
 |.ptr _ _,h=>by simp[QbP]at h
 |.rp _,_=>rfl
 |.nils,_=>rfl
 |.rsl _ _,_=>rfl
 |.osl _ _ _ _,h=>by simp[QbP]at h
 |.agg cs,h=>by simp only[QbP]at h;simp only[Yk];exact QfU h
 |.fn _ a c,h=>by simp[QbP]at h
 |.nilf,_=>rfl
 |.iface _ v,h=>by simp[QbP]at h
 |.nilif,_=>rfl
 |.map _,h=>by simp[QbP]at h
 |.nilm,_=>rfl
 |.tup vs,h=>by simp[QbP]at h
theorem QfU:∀{l:List A},QeD l=true->Ya l=true
 |[],_=>rfl
 |a::r,h=>by
  simp only[QeD,XX]at h;simp only[Ya,XX];exact⟨QhI h.1,QfU h.2⟩
end
theorem Qhx{P:Program}{o:Oper}{env:Env}{H:Qc}{y z:Operand}{l:Nat}{a:A}{j:Array TypeId}(k:o.op=.call {callee:=.value y,args:= #[z],argTypes:=j})(i:opA env y=.fn (.yield l) [] [])(h:opA env z=a)(m:Yk a=true){N:Nat}:
  ∀fr ro σ act w,Rel fr ro σ H env N act w->∃vs:List Value,LR ro [] w [a] vs/\(execOp act.eval o).run P w=(Instr.yield l vs.toArray).run P w:=by
 intro fr ro σ act w r;have b:=Qe r y;rw[i]at b;obtain⟨e,f,b,n,g⟩:=b;obtain rfl:e=[]:=n;obtain rfl:f=[]:=g;have d:=Qe r z;rw[h]at d;refine⟨[act.eval z],⟨_,_,rfl,VR.data m d,rfl⟩,?_⟩;generalize act.eval=ev at*;simp[execOp,k,resolve,invoke,go_sem,b]
theorem QkG{P:Program}{o:Oper}{env:Env}{H:Qc}{y b a:Operand}{l:Nat}{e h:A}{s:Array TypeId}(t:o.op=.call {callee:=.value y,args:= #[b,a],argTypes:=s})(u:opA env y=.fn (.yield l) [] [])(g:opA env b=e)(i:opA env a=h)(f:Yk e=true)(j:Yk h=true){N:Nat}:
  ∀fr ro σ act w,Rel fr ro σ H env N act w->∃vs:List Value,LR ro [] w [e,h] vs/\(execOp act.eval o).run P w=(Instr.yield l vs.toArray).run P w:=by
 intro fr ro σ act w r;have d:=Qe r y;rw[u]at d;obtain⟨n,p,d,x,q⟩:=d;obtain rfl:n=[]:=x;obtain rfl:p=[]:=q;have k:=Qe r b;rw[g]at k;have m:=Qe r a;rw[i]at m;refine⟨[act.eval b,act.eval a],⟨_,_,rfl,VR.data f k,_,_,rfl,VR.data j m,rfl⟩,?_⟩;generalize act.eval=ev at*;simp[execOp,t,resolve,invoke,go_sem,d]
def Qmn(tm tb ty tk:Nat)(asg:Array Oper)(ld:Op):Code:=
 (Code.region 0 #[{dst:=some 4,op:=.load tm (.tmp 1),type:=tm,pos:="iter.go:27",after:= #[],guard:=none},{dst:=some 5,op:=.range tm (.tmp 4),type:=0,pos:="iter.go:27",after:= #[{on:=0,ground:=.data}],guard:=none}] false).seq
 (.block 0 (Code.loop ((Code.region 1 #[{dst:=some 6,op:=.next (.tmp 5) false,type:=0,pos:="iter.go:27",after:= #[],guard:=none},{dst:=some 7,op:=.extract (.tmp 6) 0,type:=tb,pos:="iter.go:27",after:= #[{on:=0,ground:=.data}],guard:=none}] false).seq
  ((Code.cond (.tmp 7) .skip (.exit 0)).seq (.block 1 ((Code.region 2 asg false).seq
   ((Code.region 3 #[{dst:=some 10,op:=.move (.tmp 0),type:=ty,pos:="iter.go:28",after:= #[],guard:=none},{dst:=some 11,op:=ld,type:=tk,pos:="iter.go:28",after:= #[],guard:=none},
    {dst:=some 12,op:=.call {callee:=.value (.tmp 10),args:= #[.tmp 11],argTypes:= #[tk]},type:=tb,pos:="iter.go:28",after:= #[{on:=0,ground:=.data},{on:=1,ground:=.data}],guard:=none},
    {dst:=some 13,op:=.unOp .not tb (.tmp 12),type:=tb,pos:="iter.go:28",after:= #[{on:=2,ground:=.data}],guard:=none}] false).seq (.cond (.tmp 13) .ret .skip))))))))
def Qpe(tk:Nat):Array Oper:= #[{dst:=some 8,op:=.entry (.tmp 5),type:=0,pos:="iter.go:27",after:= #[],guard:=none},{dst:=some 9,op:=.extract (.tmp 8) 0,type:=tk,pos:="iter.go:27",after:= #[{on:=0,ground:=.data}],guard:=none},
 {dst:=some 3,op:=.assign (.tmp 9),type:=tk,pos:="iter.go:27",after:= #[{on:=1,ground:=.data},{on:=0,ground:=.phase},{on:=1,ground:=.phase}],guard:=none}]
section
variable {P:Program} {K V:Type} {tm tb ty tk kt et:Nat} {ek:K->A} {ev:V->A} {m:List (K×V)} {T:Type}
abbrev kyE(l:Nat):Env:=[(0,.fn (.yield l) [] []),(1,.ptr 0 0),(5,.ptr 2 0)]
abbrev kyH(tm:Nat)(ek:K->A)(ev:V->A)(m l:List (K×V)):Qc:=[.cells tm [.map 1],.fmap (Qk ek ev m),.iter none (Qk ek ev l)]
theorem QkV{g:FuncId}{fn:Func}{f:Array Oper}{r:Op}(R:P.funcs[g]?=some fn)(u:fn.body=some (Qmn tm tb ty tk f r))(E:fn.ntmps=14)(L:fn.results= #[])(F:∀w,(isAgg tm).run P w=.ok false w)(O:P.underlying tm=some (.map kt et))(N:∀x,QbP (ek x)=true)
  (round:∀(X:Ctx K) (e:K×V) (l:List (K×V)) (env:Env) (H:Qc) (st:YSt K) (Q:Yy K),lk env 0=.fn (.yield X.l) [] []->lk env 1=.ptr 0 0->lk env 5=.ptr 2 0->H=[.cells tm [.map 1],.fmap (Qk ek ev m),.iter (some (ek e.1,ev e.2)) (Qk ek ev l)]->
   (∀env' H',lk env' 0=.fn (.yield X.l) [] []->lk env' 1=.ptr 0 0->lk env' 5=.ptr 2 0->(∀env2 b,lk env2 0=.fn (.yield X.l) [] []->lk env2 1=.ptr 0 0->lk env2 5=.ptr 2 0->Le 2 (up (up env2 12 (.bool b)) 13 (.bool (!b))) H' (kyE X.l) (kyH tm ek ev m l))->
    (∀pos env2,(∀s,s≠10->lk env2 s=lk env' s)->OpV P {dst:=some 11,op:=r,type:=tk,pos:=pos,after:= #[],guard:=none} env2 H' (ek e.1))->Nat.ble 2 H'.length=true->Q .normal env' H' st)->
   TCy X P 2 14 (.region 2 f false) env H st Q):
  QiE P g [.ptr 0 0] [.cells tm [.map 1],.fmap (Qk ek ev m)] (λx=>[ek x]) anyN (m.map Prod.fst):=by
 refine Qc7 R u E rfl L ?_;intro X hE hNx;refine TCy.seq (TCy.lift (TC.region ?_));refine QF rfl rfl rfl (OpV.load (v:=.map 1) (cs:=[]) rfl F rfl (Pts.cells rfl rfl)) ?_;refine YV (XS rfl) rfl rfl rfl (QfB O) ?_;refine WO.nil ?_;refine TCy.block ?_;refine Qgw (I:=λn env H st=>∃l:List (K×V),l.length=n/\st=.on (l.map Prod.fst)/\Le 2 env H (kyE X.l) (kyH tm ek ev m l)) ?_ ⟨m,rfl,rfl,Lr [0,1,2]⟩;rintro n env H st ⟨l,G,rfl,k⟩;refine TCy.le k ?_;refine TCy.seq (TCy.lift (TC.region ?_));refine QjD (XS rfl) rfl rfl rfl (OpE.next rfl rfl rfl) ?_;rintro v H' (⟨j,rfl,rfl⟩|⟨T,M,j,rfl,rfl⟩)
 .have J:l=[]:=List.map_eq_nil_iff.1 j;subst J;refine QF rfl rfl rfl (OpV.extract (v:=.bool false) rfl rfl rfl) ?_;refine WO.nil ?_;refine TCy.seq (TCy.cond (t:=false) rfl (λe=>by cases e) (λ_=>?_));exact TCy.exit ⟨.inl rfl,.inl rfl⟩
 .obtain⟨B,p,i⟩:=Qf0 j rfl;cases B with
  |nil=>cases i
  |cons e h=>
   simp only[Vj,List.cons.injEq]at i;obtain⟨rfl,rfl⟩:=i;have d:h.length<n:=by rw[<- G, <- p.length_eq];simp
   refine QF rfl rfl rfl (OpV.extract (v:=.bool true) rfl rfl rfl) ?_;refine WO.nil ?_;refine TCy.seq (TCy.cond (t:=true) rfl (λ_=>?_) (λe=>by cases e));refine TCy.skip ?_;refine TCy.block ?_;refine TCy.seq (round X e h _ _ _ _ rfl rfl rfl rfl ?_);intro env' H' g0 g1 g5 hfin hld hL;refine TCy.seq (TCy.region ?_);refine WOy.step (QF rfl rfl rfl (OpV.move (v:=.fn (.yield X.l) [] []) rfl g0) (WO.nil ⟨rfl,?_⟩));refine WOy.step (QF rfl rfl rfl (x:=ek e.1) (hld _ _ λs q=>?_) (WO.nil ⟨rfl,?_⟩))
   .simp only[up,lk];have:Nat.beq s 10=false:=by rw[VM];intro z;exact q (XR z)
    rw[this];rfl
   refine WOy.yield (x:=e.1) (rem:=h.map Prod.fst) ?_ rfl rfl rfl ?_ ?_
   .rw[hNx];exact p.symm.map Prod.fst
   .rw[hE];refine Qhx (y:=.tmp 10) (z:=.tmp 11) (l:=X.l) (a:=ek e.1) rfl ?_ ?_ (QhI (N _))
    .rfl
    .rfl
   .intro b;refine WOy.step (QF rfl rfl rfl (OpV.not (b:=b) rfl rfl) (WO.nil ⟨rfl,?_⟩));refine WOy.nil ?_;refine TCy.cond (t:= !b) rfl (λq=>?_) (λq=>?_)
    .obtain rfl:b=false:=by simpa using q
     exact TCy.ret ⟨.inr rfl,.inr ⟨_,rfl⟩⟩
    .obtain rfl:b=true:=by simpa using q
     refine TCy.skip ?_;exact⟨_,d,h,rfl,rfl,hfin _ true g0 g1 g5⟩
theorem Qfq{g:FuncId}{fn:Func}(t:P.funcs[g]?=some fn)(h:fn.body=some (Qmn tm tb ty tk (Qpe tk) (.move (.tmp 3))))(k:fn.ntmps=14)(j:fn.results= #[])(n:∀w,(isAgg tm).run P w=.ok false w)(r:P.underlying tm=some (.map kt et))(p:∀x,QbP (ek x)=true):
  QiE P g [.ptr 0 0] [.cells tm [.map 1],.fmap (Qk ek ev m)] (λx=>[ek x]) anyN (m.map Prod.fst):=by
 refine QkV (et:=et) (kt:=kt) t h k j n r p ?_;intro X e l env H st Q g0 g1 g5 hH hk;subst hH;refine TCy.lift (TC.region ?_);refine QF rfl rfl rfl (OpV.entry (e:=(ek e.1,ev e.2)) rfl g5 rfl) ?_;refine QF rfl rfl rfl (OpV.extract (v:=ek e.1) rfl rfl rfl) ?_;refine QF rfl rfl rfl (OpV.assign (v:=ek e.1) rfl rfl) ?_;refine WO.nil ?_;refine hk _ _ g0 g1 g5 ?_ ?_ rfl
 .intro a b d s q;exact Le.trans (Qgz (i:=2) (es:=Qk ek ev l) rfl rfl) (Lr [0,1,2] (hE:=⟨d,s,q,trivial⟩))
 .intro pos a f;exact OpV.move rfl (by show lk a 3=_;rw[f 3 (by decide)];rfl)
end
def Qps(ts tq fA:Nat):Code:=(Code.region 0 #[{dst:=some 2,op:=.assign (.const (.slice none 0 0)),type:=ts,pos:="iter.go:59",after:= #[],guard:=none}] false).seq
 ((Code.region 1 #[{dst:=some 3,op:=.move (.tmp 0),type:=tq,pos:="iter.go:60",after:= #[],guard:=none},
  {dst:=some 4,op:=.call {callee:=.value (.func fA),args:= #[.const (.slice none 0 0),.tmp 3],argTypes:= #[ts,tq]},type:=ts,pos:="iter.go:60",after:= #[{on:=0,ground:=.data}],guard:=none},
  {dst:=some 2,op:=.assign (.tmp 4),type:=ts,pos:="iter.go:60",after:= #[{on:=1,ground:=.data},{on:=1,ground:=.chain},{on:=0,ground:=.phase},{on:=1,ground:=.phase}],guard:=none}] false).seq .ret)
theorem QgC{P:Program}{T:Type}{b l i k j:Nat}{g:FuncId}{es:List (A×A)}{e:T->List A}{xs:List T}{fC a:FuncId}{fn:Func}(u:P.funcs[fC]?=some fn)(m:fn.body=some (Qps b l a))(q:fn.ntmps=5)(n:fn.results= #[.tmp 2])
  (f:∀(env:Env) (H:Qc),lk env 3=.fn (.func g) [] [.ptr 0 0]->OpC P {dst:=some 4,op:=.call {callee:=.value (.func a),args:= #[.const (.slice none 0 0),.tmp 3],argTypes:= #[b,l]},type:=b,pos:="iter.go:60",after:= #[{on:=0,ground:=.data}],guard:=none} env H a [.nils,.fn (.func g) [] [.ptr 0 0]])
  (s:C P a [.nils,.fn (.func g) [] [.ptr 0 0]] [.cells j [.map 1],.fmap es] (λr H1=>∃p:List T,p.Perm xs/\r=.osl 2 0 p.length k/\H1=[.dead,.fmap es,.row i k (p.map e)])):
  C P fC [.fn (.func g) [] [.ptr 0 0]] [.cells j [.map 1],.fmap es] (λr H1=>∃p:List T,p.Perm xs/\r=.osl 2 0 p.length k/\H1=[.dead,.fmap es,.row i k (p.map e)]):=by
 refine Qb u m q rfl ?_;refine TC.seq (TC.region ?_);refine QF rfl rfl rfl (OpV.assign (v:=.nils) rfl rfl) ?_;refine WO.nil ?_;refine TC.seq (TC.region ?_);refine QF rfl rfl rfl (OpV.move (v:=.fn (.func g) [] [.ptr 0 0]) rfl rfl) ?_;refine WO.call (d:=some 4) [0,1] (XS rfl) rfl rfl (λx h=>by cases h;decide) (f _ _ rfl) rfl rfl (by decide) s ?_;rintro r H1 ⟨p,t,rfl,rfl⟩;refine QF rfl rfl rfl (OpV.assign (v:=.osl 2 0 p.length k) rfl rfl) ?_;refine WO.nil ?_;refine TC.ret ?_;exact⟨[(2,.osl 2 0 p.length k)],[.dead,.fmap es,.row i k (p.map e)],_,Lr [0,1,2],Qc9.one n rfl,p,t,rfl,rfl⟩
def Qm0{K R:Type}[DecidableEq R](l:List K)(k:List K->Option R):Option R:=bif Nat.ble l.length Qp then anyP k l else none
theorem Qkv{K R:Type}[DecidableEq R]{l:List K}{k:List K->Option R}{r:R}(h:Qm0 l k=some r):Nat.ble l.length Qp=true/\ ∀p,p.Perm l->k p=some r:=by
 unfold Qm0 at h;cases q:Nat.ble l.length Qp with
 |true=>rw[q]at h;exact⟨rfl,Qkt h⟩
 |false=>rw[q]at h;cases h
end Go.Sw
namespace Go.Sw
section
variable {P:Program} {o:Oper} {env:Env} {H:Qc} {fr ro:Nat->Prop} {σ:Sig} {w:World}
theorem QlC{h0 i t b1 b2:Nat}{es:List (List A)}{l:List Ent}(hH:H[i]?=some (.rowr t 3 es))(he:l.map (eC b1 b2)=es):Le h0 env H env (H.set i (.ents t b1 b2 l)):=by
 subst he;intro e d σ N a w r;refine⟨d,σ,⟨r.sim.weaken (x':=.ents t b1 b2 l) hH rfl ?_,r.env,r.size,r.defers⟩,λ_ q=>q,rfl⟩;intro y h;cases y with
 |none=>exact h.elim
 |some b=>exact h
theorem Qc1{b1 b2:Nat}:∀(l:List Ent),allK 3 (l.map (eC b1 b2))
 |[]=>trivial
 |e::l=>⟨rfl,Qc1 l⟩
theorem Sim.phantomE(s:Sim fr ro σ H w)(t b1 b2:Nat):Sim fr ro (σ++[none]) (H++[.ents t b1 b2 []]) w:=by
 have ext:Ext ro σ w ro (σ++[none]) w:=⟨λ_ q=>q,λ_ _=>rfl,λ_ _ q=>q,λ_ _ h=>YF h⟩;have u:=s.len;have a:∀(j:Nat) (v:Blk),(H++[Blk.ents t b1 b2 []])[j]?=some v->(j<H.length/\H[j]?=some v)\/(j=H.length/\v=.ents t b1 b2 []):=by
  intro j v h;rcases Nat.lt_trichotomy j H.length with q|q|q
  .rw[XN q]at h;exact .inl ⟨q,h⟩
  .subst q;simp at h;exact .inr ⟨rfl,h.symm⟩
  .rw[XP (by simp;omega)]at h;cases h
 have hσ:∀(j:Nat) (z:Option Nat),(σ++[none])[j]?=some z->(j<σ.length/\σ[j]?=some z)\/(j=σ.length/\z=none):=by
  intro j z h;rcases Nat.lt_trichotomy j σ.length with q|q|q
  .rw[XN q]at h;exact .inl ⟨q,h⟩
  .subst q;simp at h;exact .inr ⟨rfl,h.symm⟩
  .rw[XP (by simp;omega)]at h;cases h
 refine⟨by simp[u],s.roOk,s.frLt,s.roFr,λi b x k g m=>?_,λi j b x y k g m E G F=>?_,λi z x k g=>?_,
  s.hidTo (· = ·) QU (XU _) (λ_ _ _ _ _ _ _ q=>q) (λ_ _ _ _ _ _ _ q=>q) λj d y B J M=>.inl ?_⟩
 rotate_left 3
 .rcases hσ j _ B with⟨l,f⟩|⟨_,r⟩
  .rcases a j y J with⟨_,e⟩|⟨e,_⟩
   .exact⟨j,y,rfl,f,e,id,λ_ q=>q⟩
   .omega
  .cases r
 .rcases hσ i _ k with⟨l,f⟩|⟨_,r⟩
  .rcases a i x g with⟨_,e⟩|⟨e,_⟩
   .exact s.own i b x f e m
   .omega
  .cases r
 .rcases hσ i _ k with⟨l,f⟩|⟨_,r⟩
  .rcases hσ j _ g with⟨L,n⟩|⟨_,r⟩
   .rcases a i x m with⟨_,e⟩|⟨e,_⟩
    .rcases a j y E with⟨_,p⟩|⟨p,_⟩
     .exact s.inj i j b x y f n e p G F
     .omega
    .omega
   .cases r
  .cases r
 .rcases hσ i _ k with⟨l,f⟩|⟨l,rfl⟩
  .rcases a i x g with⟨_,e⟩|⟨e,_⟩
   .exact(s.blk i z x f e).keep ext (λ_ _ _=>rfl) (λ_ _ _ _=>rfl)
   .omega
  .rcases a i x g with⟨e,_⟩|⟨_,rfl⟩
   .omega
   .rfl
theorem Le.phantomE{h0 i m t T b1 b2:Nat}{cs:List A}(E:Nat.ble h0 H.length=true)(hH:H[i]?=some (.cells T cs))(e:cs[m]?=some .nils):
  Le h0 env H env (H.set i (.cells T (cs.set m (.osl H.length 0 0 3)))++[.ents t b1 b2 []]):=by
 intro G j σ N a w r;have g:h0<=H.length:=XS E;have z:i<H.length:=(XM.1 hH).1;have ext:Ext j σ w j (σ++[none]) w:=⟨λ_ q=>q,λ_ _=>rfl,λ_ _ q=>q,λ_ _ h=>YF h⟩;have s:=r.sim.phantomE t b1 b2;have d:(H++[Blk.ents t b1 b2 []])[i]?=some (.cells T cs):=by rw[XN z];exact hH
 have k:H.set i (.cells T (cs.set m (.osl H.length 0 0 3)))++[.ents t b1 b2 []]=(H++[Blk.ents t b1 b2 []]).set i (.cells T (cs.set m (.osl H.length 0 0 3))):=by
  rw[List.set_append_left _ _ z]
 rw[k];refine⟨j,σ++[none],⟨s.weaken d rfl ?_,λq=>(r.env q).mono ext,r.size,r.defers⟩,λ_ q=>q,Qs (by rw[r.sim.len];exact g)⟩;intro y h;cases y with
 |none=>exact h
 |some b=>
  obtain⟨l,n,F,u⟩:=h;refine⟨l,n,?_,u⟩;clear n u d k hH
  induction cs generalizing m l with
  |nil=>cases e
  |cons c cs B=>
   obtain⟨v,f,rfl,p,x⟩:=F;cases m with
   |zero=>
    simp at e;subst e;exact⟨v,f,rfl,.inl ⟨rfl,p⟩,x⟩
   |succ m=>exact⟨v,f,rfl,p,B (by simpa using e) f x⟩
theorem QR{h0 i m T:Nat}{cs:List A}(hH:H[i]?=some (.cells T cs)):Le h0 env H env (H.set i (.cells T (cs.set m .any))):=by
 intro s p σ N a w r;refine⟨p,σ,⟨r.sim.weaken hH rfl ?_,r.env,r.size,r.defers⟩,λ_ q=>q,rfl⟩;intro y h;cases y with
 |none=>exact h
 |some b=>
  obtain⟨l,e,j,f⟩:=h;refine⟨l,e,?_,f⟩;clear e f hH
  induction cs generalizing m l with
  |nil=>exact j
  |cons c cs k=>
   obtain⟨v,d,rfl,n,g⟩:=j;cases m with
   |zero=>exact⟨v,d,rfl,trivial,g⟩
   |succ m=>exact⟨v,d,rfl,n,k d g⟩
theorem srcE{j m t b1 b2:Nat}{l:List Ent}{v:Value}(s:Sim fr ro σ H w)(hH:H[j]?=some (.ents t b1 b2 l))(e:l.length=m)(h:VR ro σ w (.osl j 0 m 3) v):
  (∃a c,v=.slice a m c)/\ ∃vs:List Value,(∀w':World,w'.heap=w.heap->(Builtin.firstCells 3 m v).run P w'=.ok vs.toArray w')/\LR ro σ w (l.map (eC b1 b2)).flatten vs/\ ∀v∈vs,Ql v:=by
 rcases h with⟨rfl,rfl⟩|⟨b,p,d,B,J,u,rfl,f,L,E,G⟩
 .have:l=[]:=VJ.1 e;subst this;exact⟨⟨none,0,rfl⟩,[],λ_ _=>YK,rfl,by simp⟩
 .refine⟨⟨_,d,rfl⟩,?_⟩;obtain⟨F,q,r⟩:=s.blk j _ _ u hH;have g:=YG (pre:=[]) (by simpa using q) r;by_cases y:0<d
  .obtain rfl:=f y;obtain⟨x,z,i⟩:=g.flat;have:=Qb5 (P:=P) (k:=3) (n:=m) (c:=d) x (by rw[i];simp[e]);simpa using this
  .obtain rfl:m=0:=by omega
   have:l=[]:=VJ.1 e;subst this;exact⟨[],λ_ _=>YK,rfl,by simp⟩
theorem Qnh{c:Call}{T T' t e' i j n m b1 b2:Nat}{x y:Operand}{l k:List Ent}(E:QK P T t 3)(hd:∀w,(underlying T').run P w=.ok (.slice e') w)(G:Nat.ble (l.length+k.length) Qp=true)(ac:Nat.blt 0 n=true)
  (ho:o.op=.call c:=by exact rfl)(hc:c={callee:=.builtin .append,args:= #[x,y],argTypes:= #[T,T']}:=by exact rfl)(hx:opA env x=.osl i 0 n 3:=by exact rfl)(hH:H[i]?=some (.ents t b1 b2 l):=by exact rfl)(hn:l.length=n:=by exact rfl)
  (hy:opA env y=.osl j 0 m 3:=by exact rfl)(hHj:H[j]?=some (.ents t b1 b2 k):=by exact rfl)(hm:k.length=m:=by exact rfl):
  OpH P o env H (.osl H.length 0 (l++k).length 3) (H.set i .dead++[.ents t b1 b2 (l++k)]):=by
 intro fr s σ N a w r;have X:=XS G;have ag:0<n:=by simpa using ac
 have B:=Qe r x;rw[hx]at B;have h2:=Qe r y;rw[hy]at h2;obtain⟨⟨ay,cy,O⟩,vs,q3,q4,M⟩:=srcE (P:=P) r.sim hHj hm h2;rw[O]at q3;obtain⟨_,d,o1,o2,o3⟩:=srcE (P:=P) r.sim hH hn B;have ae:i<H.length:=(XM.1 hH).1;have ah:(H.set i .dead).length=H.length:=X4;rw[X3,hn,hm];rcases B with⟨q,_⟩|⟨b,p,cap,t',mm,R,B,h4,h5,h6,h7⟩
 .omega
 have J:=r.sim.blk i _ _ R hH;obtain⟨lb,g1,g2⟩:=J;have z:vs.length=m*3:=by rw[q4.length,Yr (Qc1 k)];simp[hm]
 have Q:d.length=n*3:=by rw[o2.length,Yr (Qc1 l)];simp[hn]
 rw[B]at o1;by_cases h:n+m<=cap
 .obtain rfl:p=0*3:=h4 (by omega);have f:=QcK (t:=o.type) E hd (ad:=some ⟨b,0*3,none⟩) (n:=n) (m:=m) (cap:=cap) (c:=cy) (ax:=ay) h (q3 w rfl);have u:(n+m)*3<=lb.length:=by
   have:w.shape? b=some (t,lb.length):=by unfold World.shape?;rw[g1];simp
   rw[this]at h6;cases h6;exact XW (XC 3 h) (by simpa using h7)
  rw[XA]at u;have V:=Yf (P:=P) (vs:=vs) (n*3) 0 g1 (by rw[z];simpa using u) M;have g:=r.sim.set (x':=.ents t b1 b2 (l++k)) (obj:=.cells (splice lb (n*3) vs).toArray t (0,0)) R hH rfl
   (λy hy=>QaM g1 (Yb (by rw[z];exact u)) y hy)
   (λex W=>⟨_,W,by
    have:=(g2.app (n:=n) (by simp[hn]) (Qc1 k) q4 M).mono ex;rw[VI (by simp[hn])]at this;rw[Xg];exact this⟩)
  have sm:=g.1.moved (i:=i) (Xa ae) R;rw[List.set_set]at sm;refine⟨.slice (some ⟨b,0*3,none⟩) (n+m) cap,_,s,[some b],?_,.inr ⟨b,0*3,cap,t',mm,?_,rfl,h4,h,?_,h7⟩,sm,g.2⟩
  .refine YT ho hc _ ?_;rw[B,O,f];simp only[Y8,Nat.zero_mul,Xw,Vm,V,Result.andThen,Vn];simp
  .rw[<- r.sim.len];simp
  .exact g.2.shape _ _ h6
 .obtain⟨e,nc,aa,af,f⟩:=QhJ (t:=o.type) E hd rfl (by omega) (by omega) q3 o1
  let w0:World:={w with drawn:=w.drawn+1}
  have F:Sim fr s σ (H.set i .dead) w0:=(r.sim.kill i).heap rfl;have e0:Qf fr s w s w0:=Qf.heap rfl rfl rfl rfl (Nat.le_succ _);have Y:LR s σ w0 ((l++k).map (eC b1 b2)).flatten (d++vs):=by
   rw[Xg,List.flatten_append];exact(o2.append q4).mono (Ext.heap (w:=w) (w':=w0) rfl)
  have L:∀v∈d++vs,Ql v:=λv hv=>by rcases VD.1 hv with q|q;exact o3 v q;exact M v q
  have s1:=F.alloc (x:=.ents t b1 b2 (l++k)) (obj:=.cells ((d++vs)++e).toArray t) ⟨(d++vs)++e,Q6 _ _,(YX (Qc1 _) Y L).mono ((Qf.alloc (fr:=fr) _ F.roLt F.frLt).ext σ _)⟩;have ab:Qf fr s w0 s (w0.alloc (.cells ((d++vs)++e).toArray t)):=Qf.alloc _ F.roLt F.frLt;refine⟨_,_,s,[some w.heap.size],YT ho hc a.eval (by rw[B,O];exact f),.inr ⟨w.heap.size,0,nc,t,(d++vs++e).length,?_,rfl,λ_=>by simp,aa,?_,?_⟩,s1,e0.trans ab⟩
  .rw[<- r.sim.len];simp
  .have:=Q6 w0 (.cells ((d++vs)++e).toArray t);unfold World.shape?;rw[show w.heap.size=w0.heap.size from rfl,this];simp
  .simp only[X3,af,Q,z,Xw];omega
theorem Qgy{c:Call}{T T' t e' i j n m b1 b2:Nat}{x y:Operand}{a d r:List Ent}(h:app a d=some r)(E:QK P T t 3)(f:∀w,(underlying T').run P w=.ok (.slice e') w)(b:Nat.blt 0 n=true)
  (g:o.op=.call c:=by exact rfl)(hc:c={callee:=.builtin .append,args:= #[x,y],argTypes:= #[T,T']}:=by exact rfl)(hx:opA env x=.osl i 0 n 3:=by exact rfl)(hH:H[i]?=some (.ents t b1 b2 a):=by exact rfl)(hn:a.length=n:=by exact rfl)
  (hy:opA env y=.osl j 0 m 3:=by exact rfl)(hHj:H[j]?=some (.ents t b1 b2 d):=by exact rfl)(hm:d.length=m:=by exact rfl):
  OpH P o env H (.osl H.length 0 r.length 3) (H.set i .dead++[.ents t b1 b2 r]):=by
 obtain⟨e,rfl⟩:=Qhh h;exact Qnh E f (XT e) b g hc hx hH hn hy hHj hm
theorem Pts.ents{i off t e f b1 b2:Nat}{l:List Ent}{x:Ent}{cs':List A}(he:l[e]?=some x)(hH:H[i]?=some (.ents t b1 b2 l):=by exact rfl)(ho:off=e*3+f:=by exact rfl)(hcs:(eC b1 b2 x).drop f=cs':=by exact rfl):Pts H (.ptr i off) cs':=by
 intro n p σ w v s h;obtain⟨b,k,d⟩:=h;obtain⟨m,g,j⟩:=s.blk i _ _ k hH;have a:(l.map (eC b1 b2))[e]?=some (eC b1 b2 x):=by rw[Xq,he];rfl
 have:=((YG (pre:=[]) (by simpa using g) j).get e a).2.drop f;refine⟨b,off,d,?_⟩;rw[<- hcs,ho];simpa using this
def QfJ(cs:List A)(s:Int)(e:Ent):Option Int:=bif e.fl then(bif e.off==0 then some s else none)else match cs[e.off]? with
 |some (.int .i64 v)=>some v
 |_=>none
def Qja{F:Type}(put:F->Nat->Int->Option F)(x:F)(s:Int)(e:Ent)(v:Int):Option (F×Int):=
 bif e.fl then(bif e.off==0 then some (x,v)else none)else(put x e.off v).map λy=>(y,s)
abbrev Qhd(b1 b2:Nat)(e:Ent):A:=.ptr (bif e.fl then b2 else b1) e.off
theorem QmO{l:List A}{i:Nat}{a:A}(h:l[i]?=some a):∃r,l.drop i=a::r:=by
 obtain⟨b,rfl⟩:=XM.1 h;exact⟨_,Xr b⟩
theorem Qcc{t b1 b2 T1 T2:Nat}{x:Operand}{e:Ent}{cs:List A}{s v:Int}(h:QfJ cs s e=some v)(f:∀w,(isAgg t).run P w=.ok false w)(g:o.op=.load t x:=by exact rfl)(hx:opA env x=Qhd b1 b2 e:=by exact rfl)
  (h1:H[b1]?=some (.cells T1 cs):=by exact rfl)(h2:H[b2]?=some (.cells T2 [.int .i64 s]):=by exact rfl):OpV P o env H (.int .i64 v):=by
 unfold QfJ at h;unfold Qhd at hx;cases i:e.fl with
 |true=>
  rw[i]at h hx;simp only[Vp]at h hx;cases b:e.off==0 with
  |false=>rw[b]at h;cases h
  |true=>
   rw[b]at h;have j:e.off=0:=by simpa using b
   rw[j]at hx;have m:s=v:=by simpa using h
   subst m;exact OpV.load g f hx (Pts.cells (cs':=[.int .i64 s]) h2 rfl)
 |false=>
  rw[i]at h hx;simp only[Vq]at h hx;cases d:cs[e.off]? with
  |none=>rw[d]at h;cases h
  |some a=>
   rw[d]at h;obtain⟨r,l⟩:=QmO d;cases a with
   |int k n=>
    cases k<;>first|(cases h;exact OpV.load g f hx (Pts.cells h1 l))|cases h
   |_=>cases h
theorem QiZ{l:List A}{i:Nat}{a:A}(h:i<l.length):splice l i [a]=l.set i a:=by
 unfold splice;rw[List.set_eq_take_append_cons_drop,Vt h];simp
theorem QhG{i:Nat}{b:Blk}(h:H[i]?=some b):H.set i b=H:=by
 apply List.ext_getElem?;intro j;rw[Xb];by_cases e:i=j
 .subst e;rw[Vt rfl,Vt (XM.1 h).1,h]
 .rw[Vs e]
theorem QjL{F:Type}{c:F->List A}{put:F->Nat->Int->Option F}{t b1 b2 T1 T2:Nat}{x y:Operand}{e:Ent}{f f':F}{s s' v:Int}(h:Qja put f s e v=some (f',s'))(a:∀x o v y,put x o v=some y->c y=(c x).set o (.int .i64 v)/\o<(c x).length)
  (k:∀w,(sizeOf t).run P w=.ok 1 w)(j:o.op=.store t x y:=by exact rfl)(hx:opA env x=Qhd b1 b2 e:=by exact rfl)(h1:H[b1]?=some (.cells T1 (c f)):=by exact rfl)(h2:H[b2]?=some (.cells T2 [.int .i64 s]):=by exact rfl)(hy:opA env y=.int .i64 v:=by exact rfl)
  (hb:Nat.beq b1 b2=false:=by exact rfl):OpU P o env H ((H.set b1 (.cells T1 (c f'))).set b2 (.cells T2 [.int .i64 s'])):=by
 have d:b1≠b2:=λq=>by subst q;rw[VF]at hb;cases hb
 unfold Qja at h;unfold Qhd at hx;cases m:e.fl with
 |true=>
  rw[m]at h hx;simp only[Vp]at h hx;cases b:e.off==0 with
  |false=>rw[b]at h;cases h
  |true=>
   rw[b]at h;have n:e.off=0:=by simpa using b
   rw[n]at hx;obtain⟨rfl,rfl⟩:f=f'/\v=s':=by simpa using h
   rw[QhG h1];exact OpU.store (cs:=[.int .i64 s]) (vs:=[.int .i64 v]) (cs':=[.int .i64 v]) (v:=.int .i64 v) j hx h2 k hy rfl rfl rfl rfl rfl rfl
 |false=>
  rw[m]at h hx;simp only[Vq]at h hx;cases i:put f e.off v with
  |none=>rw[i]at h;cases h
  |some g=>
   rw[i]at h;obtain⟨rfl,rfl⟩:g=f'/\s=s':=by simpa using h
   obtain⟨p,l⟩:=a _ _ _ _ i;have r:(H.set b1 (.cells T1 (c g)))[b2]?=some (.cells T2 [.int .i64 s]):=by rw[XQ d];exact h2
   rw[QhG r];exact OpU.store (cs:=c f) (vs:=[.int .i64 v]) (cs':=c g) (v:=.int .i64 v) j hx h1 k hy rfl rfl rfl rfl (XT l) (by rw[QiZ l,p])
end
section
variable {P:Program} {h0 N:Nat} {A B C:Code} {env:Env} {H:Qc} {Q:Qv}
theorem Qnb{S B1:Type}{b:Ctl S B1}(Eb:S->Env)(Hb:S->Qc)(h:TC P h0 N A env H (Seq P h0 N B (QgB h0 b Eb Hb (Seq P h0 N C Q))))(k:∀s env H,b=.cont s->Le h0 env H (Eb s) (Hb s)->Seq P h0 N C Q .normal env H):TC P h0 N (.seq A (.seq B C)) env H Q:=by
 refine TC.seq (h.mono λx env' H' q=>?_);cases x with
 |normal=>exact TC.seq (Qhj Eb Hb q k)
 |exit id=>exact q
 |ret=>exact q
end
end Go.Sw
namespace Go.Sw
section
variable {P:Program} {o:Oper} {env:Env} {H:Qc}
theorem Qe6{f g:Nat->Option (Nat×Nat)}:∀(parts:List (Nat×Value)) (cs:Array Value),(∀p∈parts,f p.1=g p.1)->Instr.fill f cs parts=Instr.fill g cs parts
 |[],cs,_=>rfl
 |(i,v)::rest,cs,h=>by
  unfold Instr.fill;rw[h (i,v) (by simp)];have ih:=λcs=>Qe6 rest cs (λp hp=>h p (by simp[hp]));cases g i with
  |none=>rfl
  |some p=>
   obtain⟨off,size⟩:=p;simp only;split
   .rfl
   .exact ih _
theorem Jt{t e n k:Nat}{z:Value}{zs cs:List A}{parts:List (Nat×Operand)}(u:∀w,(zeroValue t).run P w=.ok z w)(G:ZR (.agg zs) z)(s:∀w,(underlying t).run P w=.ok (.array n e) w)(y:∀w,(sizeOf e).run P w=.ok k w)
  (f:(parts.all λp=>Nat.blt p.1 n)=true)(x:o.op=.build t parts.toArray:=by exact rfl)(hf:QdY env ((List.range n).map λi=>(i*k,k)) zs parts=some cs:=by exact rfl):OpV P o env H (.agg cs):=by
 intro J E σ N a w r;obtain⟨l,rfl,h⟩:=G E σ w;obtain⟨b,F,m⟩:=Qe7 r parts zs l cs h hf;refine⟨.agg b.toArray,?_,b,rfl,m⟩;have g:Instr.fill (λi=>some (i*k,k)) l.toArray (parts.map λp=>(p.1,a.eval p.2))=some b.toArray:=by
  rw[<- F];refine Qe6 _ _ ?_;intro p j;obtain⟨q,B,rfl⟩:=Xf.1 j;have d:q.1<n:=by simpa using Xt.1 f q B
  simp[d]
 generalize hρ:a.eval=ρ at*;simp only[execOp,x,Instr.build,Vm,u,Result.andThen,s,y,XJ,Vn,Value.cells,g]
def orI(k:IntKind)(m n:Int):Int:=k.wrap (BitVec.ofInt k.bits m|||BitVec.ofInt k.bits n).toNat
def Qev(k:IntKind)(m n:Int):Int:=k.wrap (BitVec.ofInt k.bits m^^^BitVec.ofInt k.bits n).toNat
def QeB(k:IntKind)(m n:Int):Int:=k.wrap (m*2^(min n.toNat k.bits))
def Qcr(k:IntKind)(m n:Int):Int:=m.fdiv (2^(min n.toNat k.bits))
theorem OpV.or{t u:TypeId}{x y:Operand}{k:IntKind}{m n:Int}(g:o.op=.binOp .or t x y u)(d:opA env x=.int k m)(f:opA env y=.int k n):OpV P o env H (.int k (orI k m n)):=by
 intro h i σ N a w r;have e:=QI r d;have b:=QI r f;refine⟨_,?_,rfl⟩;generalize a.eval=ρ at*;simp[execOp,g,e,b,Go.binOp,eqGuard,Op.intBits,go_sem,orI]
theorem OpV.xor{t u:TypeId}{x y:Operand}{k:IntKind}{m n:Int}(g:o.op=.binOp .xor t x y u)(d:opA env x=.int k m)(f:opA env y=.int k n):OpV P o env H (.int k (Qev k m n)):=by
 intro h i σ N a w r;have e:=QI r d;have b:=QI r f;refine⟨_,?_,rfl⟩;generalize a.eval=ρ at*;simp[execOp,g,e,b,Go.binOp,eqGuard,Op.intBits,go_sem,Qev]
theorem OpV.shl{t u:TypeId}{x y:Operand}{k d:IntKind}{m n:Int}(f:o.op=.binOp .shl t x y u)(h:opA env x=.int k m)(e:opA env y=.int d n)(g:0<=n):OpV P o env H (.int k (QeB k m n)):=by
 intro j l σ N a w r;have i:=QI r h;have b:=QI r e;refine⟨_,?_,rfl⟩;generalize a.eval=ρ at*;simp[execOp,f,i,b,Go.binOp,eqGuard,Op.shift,go_sem,QeB,Int.not_lt.2 g]
theorem OpV.shr{t u:TypeId}{x y:Operand}{k d:IntKind}{m n:Int}(f:o.op=.binOp .shr t x y u)(h:opA env x=.int k m)(e:opA env y=.int d n)(g:0<=n):OpV P o env H (.int k (Qcr k m n)):=by
 intro j l σ N a w r;have i:=QI r h;have b:=QI r e;refine⟨_,?_,rfl⟩;generalize a.eval=ρ at*;simp[execOp,f,i,b,Go.binOp,eqGuard,Op.shift,go_sem,Qcr,Int.not_lt.2 g]
theorem Qd6{h0 i m t k T:Nat}{cs:List A}(F:Nat.ble h0 H.length=true)(hH:H[i]?=some (.cells T cs))(e:cs[m]?=some .nils):
  Le h0 env H env (H.set i (.cells T (cs.set m (.osl H.length 0 0 k)))++[.row t k []]):=by
 intro J j σ N a w r;have g:h0<=H.length:=XS F;have B:i<H.length:=(XM.1 hH).1;have ext:Ext j σ w j (σ++[none]) w:=⟨λ_ q=>q,λ_ _=>rfl,λ_ _ q=>q,λ_ _ h=>YF h⟩;have s:=r.sim.phantom t k;have d:(H++[Blk.row t k []])[i]?=some (.cells T cs):=by rw[XN B];exact hH
 have n:H.set i (.cells T (cs.set m (.osl H.length 0 0 k)))++[.row t k []]=(H++[Blk.row t k []]).set i (.cells T (cs.set m (.osl H.length 0 0 k))):=by
  rw[List.set_append_left _ _ B]
 rw[n];refine⟨j,σ++[none],⟨s.weaken d rfl ?_,λq=>(r.env q).mono ext,r.size,r.defers⟩,λ_ q=>q,Qs (by rw[r.sim.len];exact g)⟩;intro y h;cases y with
 |none=>exact h
 |some b=>
  obtain⟨l,p,G,x⟩:=h;refine⟨l,p,?_,x⟩;clear p x d n hH
  induction cs generalizing m l with
  |nil=>cases e
  |cons c cs E=>
   obtain⟨v,f,rfl,u,z⟩:=G;cases m with
   |zero=>
    simp at e;subst e;exact⟨v,f,rfl,.inl ⟨rfl,u⟩,z⟩
   |succ m=>exact⟨v,f,rfl,u,E (by simpa using e) f z⟩
theorem QlD{h0 i s g n k:Nat}{x:Blk}(y:lk env s=.osl i g n k)(hH:H[i]?=some x)(l:Nat.ble h0 H.length=true):Le h0 env H (up env s (.osl H.length g n k)) (H.set i .dead++[x]):=by
 intro E e σ N a w r;have z:i<σ.length:=by rw[r.sim.len];exact(XM.1 hH).1
 have hσ:σ[i]?=some σ[i]:=XL z;have ext:Ext e σ w e (σ++[σ[i]]) w:=⟨λ_ q=>q,λ_ _=>rfl,λ_ _ q=>q,λ_ _ h=>YF h⟩;refine⟨e,σ++[σ[i]],⟨r.sim.moved hH hσ,?_,r.size,r.defers⟩,λ_ q=>q,Qs (by rw[r.sim.len];exact XS l)⟩;intro d;simp only[lk];by_cases q:d=s
 .subst q;rw[VF];have:=r.env d;rw[y]at this;rcases this with h|⟨b,p,f,t,m,B,j⟩
  .exact .inl h
  .refine .inr ⟨b,p,f,t,m,?_,j⟩;rw[B]at hσ;rw[<- r.sim.len];simpa using hσ.symm
 .have:Nat.beq d s=false:=by
   rw[VM];intro u;exact q (XR u)
  rw[this];exact(r.env d).mono ext
def QbB(n:Int):UInt8:=n.toNat.toUInt8
def Qlm(P:Program)(H:Qc)(x:A)(l:List Int):Prop:=
 ∀fr ro σ w v,Sim fr ro σ H w->VR ro σ w x v->(∃a c,v=.slice a 0 c/\l=[])\/ ∃b off c,v=.slice (some ⟨b,off,none⟩) l.length c/\(l=[]\/CR ro σ w b (l.map λn=>A.int .u8 n) off)
theorem Qg5:∀(l:List Int),(l.map (λn=>[A.int .u8 n])).flatten=l.map λn=>A.int .u8 n
 |[]=>rfl
 |n::l=>by simp[Qg5 l]
theorem Qlm.nils:Qlm P H .nils []:=λfr ro σ w v s h=>.inl ⟨none,0,h,rfl⟩
theorem Qlm.row{i t n:Nat}{l:List Int}(hH:H[i]?=some (.row t 1 (l.map λn=>[A.int .u8 n])):=by exact rfl)(hn:l.length=n:=by exact rfl):Qlm P H (.osl i 0 n 1) l:=by
 intro x z σ w v s h;rcases h with⟨rfl,rfl⟩|⟨b,p,a,q,m,k,rfl,f,B,r,y⟩
 .exact .inl ⟨none,0,rfl,VJ.1 hn⟩
 .refine .inr ⟨b,p,a,by rw[hn],?_⟩;by_cases d:l=[]
  .exact .inl d
  .have:0<a:=by have:=List.length_pos_iff.2 d;omega
   obtain rfl:=f this;obtain⟨u,g,j⟩:=s.blk i _ _ k hH;have e:=(YG (pre:=[]) (by simpa using g) j).flat.1;rw[Qg5]at e;exact .inr (by simpa using e.lift)
theorem Qlm.rsl{l:List Int}:Qlm P H (.rsl 1 (l.map λn=>[A.int .u8 n])) l:=by
 intro i j σ w v s ⟨a,c,h1,h2,e⟩;subst h1;rw[X2]at*;rcases e with e|⟨b,d,rfl,h,g⟩
 .have:l=[]:=List.map_eq_nil_iff.1 e;subst this;exact .inl ⟨a,c,by simp,rfl⟩
 .have f:=g.flat.1;rw[Qg5]at f;exact .inr ⟨b,d,c,rfl,.inr f.lift⟩
theorem Qck{ro:Nat->Prop}{σ:Sig}{w:World}{b:Nat}:∀(l:List Int) (off:Nat) (a:ByteArray),CR ro σ w b (l.map λn=>A.int .u8 n) off->(Extern.Bytes.loadBytes ⟨b,off,none⟩ l.length a).run P w=.ok ⟨a.data++(l.map QbB).toArray⟩ w
 |[],off,a,_=>by simp[Extern.Bytes.loadBytes,go_sem]
 |n::l,off,a,⟨⟨v,h1,hp,h2⟩,h3⟩=>by
  have h2':v=.int .u8 n:=h2;subst h2';have ih:=Qck l (off+1) (a.push n.toNat.toUInt8) h3;have hl:(Go.load ⟨b,off,none⟩).run P w=.ok (.int .u8 n) w:=by simp[Go.load,Sem.run,h1]
  simp only[X0,Extern.Bytes.loadBytes,Vm,hl,Result.andThen];have d:(⟨b,off,none⟩:Addr).add 1=⟨b,off+1,none⟩:=by simp[Y8]
  rw[d,ih];simp[QbB,ByteArray.push]
theorem QdO{fr ro:Nat->Prop}{σ:Sig}{w:World}{x:A}{l:List Int}{v:Value}(h:Qlm P H x l)(s:Sim fr ro σ H w)(f:VR ro σ w x v):(Extern.Bytes.bytesOf v).run P w=.ok ⟨(l.map QbB).toArray⟩ w:=by
 rcases h fr ro σ w v s f with⟨a,c,rfl,rfl⟩|⟨b,e,c,rfl,d⟩
 .cases a with
  |none=>simp[Extern.Bytes.bytesOf,go_sem];rfl
  |some a=>simp[Extern.Bytes.bytesOf,Extern.Bytes.loadBytes,go_sem];rfl
 .rcases d with rfl|d
  .simp[Extern.Bytes.bytesOf,Extern.Bytes.loadBytes,go_sem];rfl
  .have:=Qck (P:=P) l e .empty d;simp only[Extern.Bytes.bytesOf,this];congr 2;simp[ByteArray.empty,ByteArray.emptyWithCapacity];rfl
def cmpB(l m:List Int):Int:=Lib.compareBytes (l.map QbB) (m.map QbB)
theorem OpV.cmpB{c:Call}{f:FuncId}{fn:Func}{x y:Operand}{n:Array TypeId}{ax g:A}{l m:List Int}(B:P.funcs[f]?=some fn)(b:(fn.name=="runtime.NumGoroutine")=false)(j:fn.body.isNone=true)(s:Extern.findNext fn=none)(he:Extern.find fn=some Extern.BytealgCompare.compare)
  (u:Qlm P H ax l)(i:Qlm P H g m)(q:o.op=.call c:=by exact rfl)(hc:c={callee:=.value (.func f),args:= #[x,y],argTypes:=n}:=by exact rfl)(hx:opA env x=ax:=by exact rfl)(hy:opA env y=g:=by exact rfl):OpV P o env H (.int .i64 (cmpB l m)):=by
 intro E F σ N a w r;have h:=Qe r x;rw[hx]at h;have d:=Qe r y;rw[hy]at d;have z:=QdO u r.sim h;have p:=QdO i r.sim d;refine⟨.int .i64 (Sw.cmpB l m),?_,rfl⟩;subst hc;have e:a.eval (.func f)=.func (.func f) #[] #[]:=rfl;have k:(callFunc f #[a.eval x,a.eval y]).run P w=.ok (.value (.int .i64 (Sw.cmpB l m))) w:=by
  rw[run_callFunc_extern B b j s he];have t:Sem.run P (Extern.BytealgCompare.compare #[a.eval x,a.eval y]) w=.ok (.int .i64 (Sw.cmpB l m)) w:=by
   change Sem.run P (do pure (goInt (Extern.BytealgCompare.cmp (<- Extern.Bytes.bytesOf (a.eval x)) (<- Extern.Bytes.bytesOf (a.eval y))))) w=_;simp only[Vm,z,p,Result.andThen,Vn,Lib.cmp_eq];rfl
  rw[t];rfl
 generalize a.eval=ρ at*;simp only[execOp,q,resolve,e,Deferred.ofValue,invoke,Vm,Vn,Result.andThen];simpa using k
theorem Q2{t et n k b off j:Nat}{x y:Operand}{i:Int}{p:IntKind}(g:(i==(j:Int))=true)(G:Nat.blt j n=true)(z:∀w,(underlying t).run P w=.ok (.array n et) w)(J:∀w,(sizeOf et).run P w=.ok k w)(h:Nat.ble 2 n=true)
  (E:o.op=.indexAddr t x y:=by exact rfl)(hx:opA env x=.ptr b off:=by exact rfl)(hy:opA env y=.int p i:=by exact rfl):OpV P o env H (.ptr b (off+j*k)):=by
 intro O M σ N a w r;have f:=Qe r x;rw[hx]at f;obtain⟨e,f,F⟩:=f;have s:=Qe r y;rw[hy]at s;have m:a.eval y=.int p i:=s;have L:i=(j:Int):=by simpa using g
 have l:j<n:=by simpa using G
 have B:2<=n:=XS h;subst L;refine⟨.pointer (some ⟨e,off+j*k,none⟩),?_,e,f,rfl⟩;have u:0<=(j:Int)/\(j:Int)<(n:Int):=by omega
 have d:(⟨e,off,none⟩:Addr).add ((j:Int).toNat*k)=⟨e,off+j*k,none⟩:=by
  unfold Addr.add;split
  .rename_i q;simp at q;simp[q]
  .simp
 generalize a.eval=ρ at*;simp[execOp,E,F,m,Instr.indexAt,asIntOf,z,J,Instr.sureAddr,u,d,go_sem,Result.andThen,l]
end
end Go.Sw
namespace Go.Sw
theorem Qmm{P:Program}{W:World}{name:String}{d:DataW Unit}:∀{a:List (String×DataW Unit)} {ps:List MemPlace},DataW.LaidVars P W a ps->(name,d)∈a->
  ∃(g:Nat) (t:TypeId) (cs:Array Value) (b:Nat) (p:List MemPlace),P.globalNamed name=some g/\(P.globals[g]?).map (·.type)=some t/\W.var? P name=some cs/\DataW.trod (λ_=>()) P W 0 (λ_=>true) false b t cs.toList=some (d,p):=by
 intro a
 induction a with
 |nil=>intro ps h f;cases f
 |cons x a j=>
  intro ps h f;obtain⟨g,t,cs,b,p,q,l,i,n,k,m,r⟩:=h;rcases X6.1 f with e|f
  .subst e;exact⟨g,t,cs,b,p,l,i,n,k⟩
  .exact j m f
theorem Ye{P:Program}{W:World}{name:String}{a b:Int}{g t e:Nat}{i k:Field}{d:List (String×DataW Unit)}{ps:List MemPlace}(h:DataW.LaidVars P W d ps)(R:(name,DataW.agg [.lit (.int .i64 a),.lit (.int .i64 b)])∈d)
  (hg:P.globalNamed name=some g)(l:(P.globals[g]?).map (·.type)=some t)(w:P.underlying t=some (.struct #[i,k]))(G:i.type=e)(y:k.type=e)(J:i.offset=0)(B:k.offset=1)(he:P.underlying e=some (.int .i64))(f:P.cellsOf e=1)(m:P.cellsOf t=2):
  W.cell? ⟨g,0,none⟩=some (.int .i64 a)/\W.cell? ⟨g,1,none⟩=some (.int .i64 b):=by
 obtain⟨X,t',Y,q,p,M,N,r,E⟩:=Qmm h R;obtain rfl:=XZ (hg.symm.trans M);obtain rfl:=XZ (l.symm.trans N);obtain⟨V,y1,n,F,L,u,s⟩:=Go.ChangeShapes.trod_struct2 w E;rw[G,J,f]at u;rw[y,B,f]at s;obtain⟨z,x,T,_⟩:=DataW.trod_int he u;obtain⟨O,Q,H,_⟩:=DataW.trod_int he s;subst T H;have j:a=z/\b=O:=by simpa using congrArg Prod.fst F
 obtain⟨rfl,rfl⟩:=j;rw[World.var?_cell hg r,World.var?_cell hg r];rw[m]at L;constructor
 .have:=congrArg (·[0]?) x;simpa[List.getElem?_take]using this
 .have:=congrArg (·[0]?) Q;simpa[List.getElem?_take,List.getElem?_drop]using this
theorem Jn{w:World}{g:Nat}{a b:Int}(s:w.cell? ⟨g,0,none⟩=some (.int .i64 a)/\w.cell? ⟨g,1,none⟩=some (.int .i64 b)):∀(zs:List Int),some [a,b]=some zs->∀(i:Nat) (z:Int),zs[i]?=some z->w.cell? ⟨g,i,none⟩=some (.int .i64 z)
 |zs,h,0,z,hi=>by cases h;cases hi;exact s.1
 |zs,h,1,z,hi=>by cases h;cases hi;exact s.2
 |zs,h,i+2,z,hi=>by cases h;simp at hi
end Go.Sw
