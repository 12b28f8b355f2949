/- The rules by which the code is walked, with what they rest on (part 2). -/
import Derived.Test.YtkfjchmhgpkcbaaGreatL1
import Derived.Shelf.SlSortCmp.NoneTotal
import Derived.Below
import GoSem.ClaimChange
import Derived.Shelf.Strings.Search3
import Derived.Lib.LazyBuf
import Derived.Shelf.Sort.Plain
import Derived.Shelf.Slices.In.SortNone
import Derived.Shelf.Slices.CompactI
import Derived.RangeFuncIn
import Derived.RangeFuncSeq
import Derived.RangeFuncNested
import Derived.Lib.Bytealg
import Derived.Laws.Externs
import Derived.LaidLaws
import Derived.Lib.LaidTab
import Derived.ChangeArms
import Derived.ChangeSame
import Derived.Laws.BytesString
set_option linter.unusedVariables false
set_option linter.unusedSectionVars false
set_option linter.unusedSimpArgs false
namespace Go.Sw
open Go.Sort Go.Proofs Go.Shelf
section
variable {α:Type}
def ins(lt:α->α->Bool)(x:α):List α->List α
 |[]=>[x]
 |y::l=>bif lt y x then y::ins lt x l else x::y::l
def QaB(lt:α->α->Bool):List α->List α
 |[]=>[]
 |x::l=>ins lt x (QaB lt l)
theorem Qem(lt:α->α->Bool)(x:α):∀l,(ins lt x l).Perm (x::l)
 |[]=>.refl _
 |y::l=>by
  unfold ins;cases lt y x
  .exact .refl _
  .exact((Qem lt x l).cons y).trans (List.Perm.swap _ _ _)
theorem QK(lt:α->α->Bool):∀l,(QaB lt l).Perm l
 |[]=>.refl _
 |x::l=>(Qem lt x _).trans ((QK lt l).cons x)
structure QeN (lt:α->α->Bool) (l:List α):Prop where
 irrefl:∀x∈l,lt x x=false
 trans:∀x∈l,∀y∈l,∀z∈l,lt x y=true->lt y z=true->lt x z=true
 ntrans:∀x∈l,∀y∈l,∀z∈l,lt x y=false->lt y z=false->lt x z=false
theorem QeN.mono{lt:α->α->Bool}{l m:List α}(h:QeN lt l)(hm:∀x∈m,x∈l):QeN lt m:=
 ⟨λx hx=>h.irrefl x (hm x hx),λx hx y hy z hz=>h.trans x (hm x hx) y (hm y hy) z (hm z hz),λx hx y hy z hz=>h.ntrans x (hm x hx) y (hm y hy) z (hm z hz)⟩
theorem QeN.asymm{lt:α->α->Bool}{l:List α}(h:QeN lt l){x y:α}(b:x∈l)(d:y∈l)(a:lt x y=true):lt y x=false:=by
 cases q:lt y x
 .rfl
 .rw[<- h.irrefl x b,h.trans x b y d x b a q]
theorem Qel{lt:α->α->Bool}{x:α}:∀{l:List α},QeN lt (x::l)->l.Pairwise (λa b=>lt b a=false)->(ins lt x l).Pairwise (λa b=>lt b a=false)
 |[],_,_=>by simp[ins]
 |y::l,h,hp=>by
  obtain⟨h1,h2⟩:=Xc.1 hp;unfold ins;cases q:lt y x
  .refine Xc.2 ⟨λz hz=>?_,hp⟩;rcases Ve.1 hz with rfl|hz
   .exact q
   .exact h.ntrans z (by simp[hz]) y (by simp) x (by simp) (h1 z hz) q
  .refine Xc.2 ⟨λz hz=>?_,Qel (h.mono (by intro z hz;rcases Ve.1 hz with rfl|hz<;>simp[*])) h2⟩;rcases Ve.1 ((Qem lt x l).mem_iff.1 hz)with rfl|hz
   .exact h.asymm (by simp) (by simp) q
   .exact h1 z hz
theorem Yy{lt:α->α->Bool}:∀{l:List α},QeN lt l->(QaB lt l).Pairwise (λa b=>lt b a=false)
 |[],_=>by simp[QaB]
 |x::l,h=>Qel (h.mono (by
   intro z hz;rcases Ve.1 hz with rfl|hz
   .simp
   .exact Vd _ ((QK lt l).mem_iff.1 hz))) (Yy (h.mono λz hz=>Vd _ hz))
theorem QaA{lt:α->α->Bool}:∀{l m:List α},l.Perm m->(∀x∈l,∀y∈l,lt x y=false->lt y x=false->x=y)->l.Pairwise (λa b=>lt b a=false)->m.Pairwise (λa b=>lt b a=false)->l=m
 |[],m,h,_,_,_=>by rw[List.nil_perm.1 h]
 |x::l,[],h,_,_,_=>by have:=h.length_eq;simp at this
 |x::l,y::m,h,ha,hl,hm=>by
  obtain⟨l1,l2⟩:=Xc.1 hl;obtain⟨m1,m2⟩:=Xc.1 hm;have hy:y∈x::l:=h.mem_iff.2 (by simp);have hx:x∈y::m:=h.mem_iff.1 (by simp);have hxy:x=y:=by
   rcases Ve.1 hy with e|d
   .exact e.symm
   .rcases Ve.1 hx with e|f
    .exact e
    .exact ha x (by simp) y (by simp[d]) (m1 x f) (l1 y d)
  subst hxy;rw[QaA ((List.perm_cons x).1 h) (λa i b g=>ha a (by simp[i]) b (by simp[g])) l2 m2]
def ltO(cf:α->α->Option Int)(x y:α):Bool:=match cf x y with
 |some c=>decide (c<0)
 |none=>false
def QhC[DecidableEq α](cf:α->α->Option Int)(l:List α):Bool:=
 l.all λx=> !ltO cf x x&&l.all λy=>(cf x y).isSome&&(ltO cf x y||ltO cf y x||decide (x=y))&&l.all λz=>(!ltO cf x y|| !ltO cf y z||ltO cf x z)&&(ltO cf x y||ltO cf y z|| !ltO cf x z)
def Qcf[DecidableEq α](cf:α->α->Option Int)(l:List α):Option (List α):=bif Nat.ble l.length QR&&QhC cf l then some (QaB (ltO cf) l)else none
theorem QdW[DecidableEq α]{cf:α->α->Option Int}{l l':List α}(h:Qcf cf l=some l'):
  l.length<=QR/\(∀x∈l,∀y∈l,∃c,cf x y=some c)/\QeN (ltO cf) l/\(∀x∈l,∀y∈l,ltO cf x y=false->ltO cf y x=false->x=y)/\QaB (ltO cf) l=l':=by
 unfold Qcf at h;cases g:Nat.ble l.length QR with
 |false=>rw[g]at h;cases h
 |true=>
 rw[g,Bool.true_and]at h;cases q:QhC cf l with
 |false=>rw[q]at h;cases h
 |true=>
  rw[q]at h;refine⟨XY g,?_⟩;unfold QhC at q;simp only[Xw,X4,Bool.not_eq_true',Bool.or_eq_true,decide_eq_true_eq]at q;refine⟨λx b y d=>Option.isSome_iff_exists.1 ((q x b).2 y d).1.1,⟨λx b=>(q x b).1,λx b y d z i f e=>?_,λx b y d z i f e=>?_⟩,λx b y d f e=>?_,X7 h⟩
  .rcases(((q x b).2 y d).2 z i).1 with(a|a)|a
   .rw[f]at a;cases a
   .rw[e]at a;cases a
   .exact a
  .rcases(((q x b).2 y d).2 z i).2 with(a|a)|a
   .rw[f]at a;cases a
   .rw[e]at a;cases a
   .exact a
  .rcases((q x b).2 y d).1.2 with(a|a)|a
   .rw[f]at a;cases a
   .rw[e]at a;cases a
   .exact a
theorem Qk0[DecidableEq α]{cf:α->α->Option Int}{l:List α}(h:l.length<=QR)(c:α->α->Int)(m:∀x∈l,∀y∈l,cf x y=some (c x y))(s:∀x∈l,¬c x x<0)
  (r:∀x∈l,∀y∈l,∀z∈l,c x y<0->c y z<0->c x z<0)(n:∀x∈l,∀y∈l,∀z∈l,¬c x y<0->¬c y z<0->¬c x z<0)(p:∀x∈l,∀y∈l,¬c x y<0->¬c y x<0->x=y):
  Qcf cf l=some (QaB (ltO cf) l):=by
 have g:∀x∈l,∀y∈l,ltO cf x y=decide (c x y<0):=λx e y f=>by unfold ltO;rw[m x e y f]
 have q:QhC cf l=true:=by
  unfold QhC;simp only[Xw,X4,Bool.not_eq_true',Bool.or_eq_true,decide_eq_true_eq];intro x e;refine⟨by rw[g x e x e];simpa using s x e,λy f=>⟨⟨by rw[m x e y f];rfl,?_⟩,λz i=>?_⟩⟩
  .rw[g x e y f,g y f x e];by_cases k:c x y<0
   .simp[k]
   .by_cases j:c y x<0
    .simp[j]
    .exact .inr (p x e y f k j)
  .rw[g x e y f,g y f z i,g x e z i];have k:=r x e y f z i;have j:=n x e y f z i;by_cases a:c x y<0<;>by_cases b:c y z<0<;>by_cases d:c x z<0<;>simp_all
 unfold Qcf;rw[q,XZ h];rfl
theorem Qff[DecidableEq α]{cf:α->α->Option Int}{l l':List α}(h:Qcf cf l=some l'):l.length=l'.length:=by
 rw[<- (QdW h).2.2.2.2];exact(QK _ _).length_eq.symm
theorem Y2{l l':List α}{i:Int}{x:α}(h:Qbs l i x=some l'):l.length=l'.length:=by
 unfold Qbs at h;cases q:(decide (0<=i)&&decide (i<(l.length:Int)))with
 |true=>rw[q]at h;rw[<- X7 h];simp
 |false=>rw[q]at h;cases h
theorem Qu{h0:Nat}{env:Env}{H:Qc}{s:Nat}{a a':A}(h:lk env s=a)(e:a=a'):Le h0 env H (up env s a') H:=by
 intro f d σ N act w r;refine⟨d,σ,⟨r.sim,λb=>?_,r.size,r.defers⟩,λ_ q=>q,rfl⟩;subst e;have:lk (up env s a) b=lk env b:=by
  simp only[lk];cases q:Nat.beq b s with
  |true=>rw[XX q,h];rfl
  |false=>rfl
 rw[this];exact r.env b
end
section
variable {fr ro:Nat->Prop}{σ:Sig}{H:Qc}{w w':World}
theorem Qdo(hh:∀b,b<w.heap.size->w'.heap[b]?=w.heap[b]?)(hro:∀b,ro b->b<w.heap.size)(σ:Sig):Ext ro σ w ro σ w':=
 ⟨λ_ q=>q,λb hb=>hh b (hro b hb),λb x hx=>by unfold World.shape? at hx⊢;rw[hh b (Qcg hx)];exact hx,λ_ _ q=>q⟩
theorem Sim.grown(s:Sim fr ro σ H w)(a:∀b,b<w.heap.size->w'.heap[b]?=w.heap[b]?)(g:w.heap.size<=w'.heap.size):Sim fr ro σ H w':=by
 refine⟨s.len,s.roOk.to (λ_ q=>q) (λb q=>a b (s.roLt b q)) (λb h=>Vn (s.roLt b h) g),λb h=>Vn (s.frLt b h) g,s.roFr,λi b x f e n=>?_,s.inj,λi y x f e=>?_,s.hidTo (· = ·) Q2 g (λ_ _ _ _ _ _ _ q=>q) (λ_ _ _ _ _ _ _ q=>q) λj d y l m r=>.inl ⟨j,y,rfl,l,m,id,λc q=>s.hidKeep l m (λz=>a d (s.own j d y l m z).1) (λb q=>a b (s.roLt b q)) q⟩⟩
 .obtain⟨p,q⟩:=s.own i b x f e n;exact⟨Vn p g,q⟩
 .refine(s.blk i y x f e).keep (Qdo a s.roLt σ) ?_ ?_
  .rintro b rfl k;exact a b (s.own i b x f e k).1
  .rintro b c rfl k;exact a c (s.hid i b x c f e k).lt
theorem Qf.grown(hh:∀b,b<w.heap.size->w'.heap[b]?=w.heap[b]?)(hs:w.heap.size<=w'.heap.size)(s:Sim fr ro σ H w)(ho:w'.os=w.os)(ht:w'.tape=w.tape)(hu:w'.output=w.output)(hd:w.drawn<=w'.drawn):Qf fr ro w ro w':=
 ⟨λ_ q=>q,λb h=>hh b (s.roLt b h),λb h=>hh b (s.frLt b h),hs,(Qdo hh s.roLt σ).shape,ho,ht,hu,hd⟩
theorem Qnd(d:∀b,b<w.heap.size->w'.heap[b]?=w.heap[b]?)(p:w.heap.size<=w'.heap.size)(g:w'.os=w.os)(f:w'.tape=w.tape)(e:w'.output=w.output)(k:w.drawn<=w'.drawn):
  ∃q os',w'=grow (w.drewN q) os':=by
 refine⟨w'.drawn-w.drawn,w'.heap.extract w.heap.size w'.heap.size,?_⟩;obtain⟨a,t,j,r,s⟩:=w';simp only at d p g f e k;subst g f e;unfold grow World.drewN;have m:a=w.heap++a.extract w.heap.size a.size:=by
  apply Array.ext_getElem?;intro i;rw[Array.getElem?_append];split
  .rename_i h;exact d i h
  .rename_i h;rw[Array.getElem?_extract];split
   .rename_i l;congr 1;omega
   .rename_i l;rw[Array.getElem?_eq_none];omega
 have n:j=w.drawn+(j-w.drawn):=by omega
 rw[<- m, <- n]
end
end Go.Sw
namespace Go.Sw
open Go.Sort Go.Proofs Go.Shelf
theorem Qdn{α:Type}{k:Nat}:∀(vs:List (List α)) (j:Nat),(∀v∈vs,v.length=k)->j<vs.length*k->vs.flatten[j]?=(vs[j/k]?).bind λv=>v[j%k]?
 |[],j,_,h=>by simp at h
 |v::vs,j,hk,h=>by
  have hv:=hk v (by simp);have k0:0<k:=by
   rcases Nat.eq_zero_or_pos k with q|q
   .subst q;simp at h
   .exact q
  rw[Vt];by_cases q:j<k
  .rw[XT (by omega),Nat.div_eq_of_lt q,Nat.mod_eq_of_lt q];simp
  .rw[XU (by omega),hv,Qdn vs (j-k) (λv hv=>hk v (by simp[hv])) (by simp[Xn]at h;omega)];have a:j/k=(j-k)/k+1:=by rw[Nat.div_eq_sub_div k0 (by omega)]
   have b:j%k=(j-k)%k:=Nat.mod_eq_sub_mod (by omega);rw[a,b,XM]
theorem Qak{α:Type}{k:Nat}:∀(vs:List (List α)),(∀v∈vs,v.length=k)->vs.flatten.length=vs.length*k
 |[],_=>by simp
 |v::vs,h=>by rw[Vt,Va,Qak vs (λv hv=>h v (by simp[hv])),h v (by simp),X8,Xn];omega
theorem QaP{α:Type}(F:List α)(j:Nat):F.toArray[j]?=F[j]? :=by simp
theorem Qha{α:Type}[Inhabited α](F:List α)(j:Nat)(h:j<F.length):F[j]?=some (F.toArray[j]!):=by simp[h]
theorem Qhf{β:Type}[Inhabited β]{enc:β->List Value}{k:Nat}(b:∀x,(enc x).length=k)(d:Array β):flatK enc k d=((d.toList.map enc).flatten).toArray:=by
 have a:∀v∈d.toList.map enc,v.length=k:=by
  intro v l;obtain⟨x,_,rfl⟩:=Xf.1 l;exact b x
 apply Array.ext_getElem?;intro t;rw[QaP ((d.toList.map enc).flatten) t];by_cases h:t<d.size*k
 .rw[Qdn _ t a (by simpa using h)];have j:0<k:=by
   rcases Nat.eq_zero_or_pos k with q|q
   .subst q;simp at h
   .exact q
  have i:t/k<d.size:=Nat.div_lt_of_lt_mul (by rw[Nat.mul_comm];exact h);have g:t%k<k:=Nat.mod_lt _ j;have f:t<(flatK enc k d).size:=by simpa using h
  have e:=get_flatK enc k d t h;rw[getElem!_pos (flatK enc k d) t f]at e;rw[Array.getElem?_eq_getElem f,e];simp[i];rw[XR (by rw[b];exact g)];rfl
 .have e:(d.toList.map enc).flatten.length=d.size*k:=by rw[Qak _ a];simp
  rw[Array.getElem?_eq_none (by simpa using h),XV (by rw[e];omega)]
section
variable {ro:Nat->Prop}{σ:Sig}{w:World}{T:Type}{enc:T->List A}{k:Nat}
theorem QhK:∀{l:List T}{lv:List Value},RL ro σ w k (l.map enc) lv->
  ∃(ps:List (T×List Value)) (rest:List Value),ps.map (·.1)=l/\lv=(ps.map (·.2)).flatten++rest/\ ∀p∈ps,p.2.length=k/\LR ro σ w (enc p.1) p.2/\ ∀v∈p.2,QA v
 |[],lv,_=>⟨[],lv,rfl,rfl,by simp⟩
 |x::l,lv,h=>by
  obtain⟨l1,l2,rfl,h1,⟨h2,h3⟩,h4⟩:=h;obtain⟨ps,rest,e1,rfl,h5⟩:=QhK (l:=l) h4;refine⟨(x,l1)::ps,rest,by simp[e1],by simp,?_⟩;intro p hp;rcases Ve.1 hp with rfl|hp
  .exact⟨by rw[h2.length];exact h1,h2,h3⟩
  .exact h5 p hp
theorem Qdu(hk:∀x:T,(enc x).length=k):∀{ps:List (T×List Value)}{rest:List Value},(∀p∈ps,LR ro σ w (enc p.1) p.2/\ ∀v∈p.2,QA v)->RL ro σ w k ((ps.map (·.1)).map enc) ((ps.map (·.2)).flatten++rest)
 |[],_,_=>trivial
 |p::ps,rest,h=>by
  refine⟨p.2,(ps.map (·.2)).flatten++rest,by simp,hk _,h p (by simp),Qdu hk λq hq=>h q (by simp[hq])⟩
end
structure Elt (ro:Nat->Prop) (w:World) {T:Type} (enc:T->List A) (k:Nat) (l:List T) where
 x:T
 vs:List Value
 mem:x∈l
 len:vs.length=k
 rel:LR ro [] w (enc x) vs
 plain:∀v∈vs,QA v
theorem QjM{v:Value}(h:QA v):v.oneCell'=true:=by cases v<;>first|rfl|exact h.elim
theorem QnS{P:Program}{ρ:Ren}(L:SlLaysF0.n6 P ρ){T:Type}[DecidableEq T]{enc:T->List A}{k t g:Nat}{cap:List A}{l l':List T}{cf:T->T->Option Int}(hs:Qcf cf l=some l')
  (a4:∀x y c,cf x y=some c->C P g ([.agg (enc x),.agg (enc y)]++cap) [] (λa H=>a=.int .i64 c/\H=[]))
  (aE:∀w,(isAgg (ρ.t 24)).run P w=.ok true w)(zE:∀w,(Go.sizeOf (ρ.t 24)).run P w=.ok k w)(eg:∀args w,(callFunc g args).run P w=.ok (.enter g args) w)
  (hk:∀x,(enc x).length=k)(hd:Yj cap=true):
  C P (ρ.f 6) [.osl 0 0 l.length k,.fn (.func g) [] cap] [.row t k (l.map enc)] (λa H=>a=.tup []/\H=[.row t k (l'.map enc)]):=by
 intro fr J σ vals w s hv;obtain⟨vs,r1,rfl,bm,vf,r2,rfl,bo,hr⟩:=hv;cases(show r2=[]from hr);obtain⟨lf,lc,rfl,h1,a7⟩:=bo;cases(show lf=[]from h1);have an:LR J [] w cap lc:=LR.data hd a7;obtain⟨bb,ai,O,ar,a9⟩:=QdW hs;have E:∀(ad:Option Addr) (c:Nat),vs=.slice ad 0 c->l=[]->
   Calls P (ρ.f 6) [vs,.func (.func g) #[] lc.toArray].toArray w λe w'=>∃v r H' ac τ,e=.returned v/\(r=.tup []/\H'=[.row t k (l'.map enc)])/\Sim fr ac (σ++τ) H' w'/\VR ac (σ++τ) w' r v/\Qf fr J w ac w':=by
  rintro ad c rfl rfl;have ah:l'=[]:=by rw[<- a9];rfl
  subst ah;refine(AnyF.slices_SortFunc_none L ad c (.func (.func g) #[] lc.toArray) w).mono ?_;rintro e w' ⟨rfl,rfl⟩;exact⟨_,_,_,J,[],rfl,⟨rfl,rfl⟩,by simpa using s,⟨[],rfl,rfl⟩,Qf.refl _ _ _⟩
 rcases bm with⟨h0,rfl⟩|⟨b,p,cp,t',m,q1,rfl,q2,q3,q4,q5⟩
 .exact E none 0 rfl (List.length_eq_zero_iff.1 h0)
 .by_cases ah:l=[]
  .subst ah;exact E _ cp rfl rfl
  .have bp:0<l.length:=List.length_pos_iff.2 ah;obtain rfl:=q2 (Vn bp q3);obtain⟨lv,e1,e2⟩:=s.blk 0 _ _ q1 rfl;obtain⟨hb,ak,ba⟩:=s.own 0 b _ q1 rfl rfl;obtain⟨V,G,a6,rfl,ae⟩:=QhK e2
   let α:=Elt J w enc k l
   have a8:∀p∈V,p.1∈l:=λp hp=>by rw[<- a6];exact List.mem_map_of_mem hp
   let ds:List α:=V.attach.map λp=>⟨p.1.1,p.1.2,a8 _ p.2,(ae _ p.2).1,(ae _ p.2).2.1,(ae _ p.2).2.2⟩
   have bc:∀{γ:Type} (f:T×List Value->γ),V.attach.map (λp=>f p.1)=V.map f:=λf=>by simp
   have R:ds.map (·.x)=l:=by
    show(V.attach.map _).map _=_;rw[List.map_map];exact(bc (·.1)).trans a6
   have aj:ds.map (·.vs)=V.map (·.2):=by
    show(V.attach.map _).map _=_;rw[List.map_map];exact bc (·.2)
   have au:ds.length=l.length:=by rw[<- R];simp
   have a1:ds≠[]:=by intro q;rw[q]at au;simp at au;omega
   let inh:Inhabited α:=⟨ds.head a1⟩
   let enc':α->List Value:=λa=>a.vs
   let cf':α->α->Int:=λx y=>(cf x.x y.x).getD 0
   have ag:∀x y:α,ltOf cf' x y=ltO cf x.x y.x:=by
    intro x y;obtain⟨c,B⟩:=ai x.x x.mem y.x y.mem;simp only[ltOf,ltO,cf',B,Option.getD_some]
   have hO:SWO (ltOf cf'):=⟨λx=>by rw[ag];exact O.irrefl _ x.mem,λx y z a b=>by rw[ag]at*;exact O.trans _ x.mem _ y.mem _ z.mem a b,
    λx y z a b=>by rw[ag]at*;exact O.ntrans _ x.mem _ y.mem _ z.mem a b⟩
   have ab:∀x:α,(enc' x).length=k:=λx=>x.len;have aq:flatK enc' k ds.toArray=((V.map (·.2)).flatten).toArray:=by
    rw[Qhf ab];show((ds.map λa=>a.vs).flatten).toArray=_;rw[aj]
   have bi:∀v∈V.map (·.2),v.length=k:=by
    intro v hv;obtain⟨p,hp,rfl⟩:=Xf.1 hv;exact(ae p hp).1
   have X:(V.map (·.2)).flatten.length=ds.length*k:=by rw[Qak _ bi, <- aj];simp
   have hH:HoldsK enc' k w b (0*k) ds.toArray:=by
    intro j hj;rw[aq]at hj⊢;simp only[List.size_toArray]at hj;constructor
    .unfold World.cell?;simp only[e1,Option.isSome_none,Xj,if_false,Nat.zero_mul,XB];rw[QaP,XT hj];exact Qha _ _ hj
    .unfold World.frozen?;simp only[e1];simp
   have av:∀(d:Array α),d.size=ds.toArray.size->(putRowK enc' k w b (0*k) d).heap=w.heap.setIfInBounds b (.cells (((d.toList.map enc').flatten++G)).toArray t (0,0)):=by
    intro d u;have af:(d.toList.map enc').flatten.length=(V.map (·.2)).flatten.length:=by
     rw[Qak _ (k:=k) (by intro v hv;obtain⟨x,_,rfl⟩:=Xf.1 hv;exact ab x),X];simp at u⊢;rw[u]
    unfold putRowK putRow mapBlock;show w.heap.modify b _=_;rw[QbK e1];simp only[onCells];congr 2;rw[Qhf ab];unfold putCells;apply Array.ext_getElem?;intro i;simp only[Array.getElem?_mapIdx,QaP,Nat.zero_mul,X2,true_and,XB,XA,List.size_toArray,id_eq];by_cases hi:i<(d.toList.map enc').flatten.length
    .rw[XT hi,XT (by rw[<- af];exact hi),XR (by rw[<- af];exact hi),Qha _ _ hi];exact congrArg some (if_pos hi)
    .rw[XU (by omega),XU (by omega),af];cases(G[i-(V.map (·.2)).flatten.length]?)with
     |none=>rfl
     |some v=>
      rw[<- af];exact congrArg some (if_neg hi)
   have N:∀(m:Nat) (os:Array Obj) (d:Array α),d.size=ds.toArray.size->
     (∀c,c<w.heap.size->c≠b->(sortWorldK enc' k w b (0*k) m d os).heap[c]?=w.heap[c]?)/\(sortWorldK enc' k w b (0*k) m d os).heap[b]?=some (.cells (((d.toList.map enc').flatten++G)).toArray t (0,0))/\
     w.heap.size<=(sortWorldK enc' k w b (0*k) m d os).heap.size:=by
    intro m os d u;have e:(sortWorldK enc' k w b (0*k) m d os).heap=w.heap.setIfInBounds b (.cells (((d.toList.map enc').flatten++G)).toArray t (0,0))++os:=by
     rw[<- av d u];rfl
    rw[e];refine⟨λc B bh=>?_,?_,by simp⟩
    .rw[Array.getElem?_append_left (by simpa using B),Vm,if_neg (λq=>bh q.symm)]
    .rw[Array.getElem?_append_left (by simpa using hb),Vm,if_pos rfl,if_pos hb]
   have M:∀(m:Nat) (os:Array Obj) (d:Array α),d.size=ds.toArray.size->∀c y,w.shape? c=some y->(sortWorldK enc' k w b (0*k) m d os).shape? c=some y:=by
    intro m os d u c y hy;obtain⟨g1,g2,g3⟩:=N m os d u;by_cases B:c=b
    .subst B;unfold World.shape? at hy⊢;rw[e1]at hy;rw[g2];simp only[Option.some.injEq]at hy⊢;rw[<- hy];congr 1;simp only[List.size_toArray,Va];rw[Qak _ (k:=k) (by intro v hv;obtain⟨x,_,rfl⟩:=Xf.1 hv;exact ab x),X];simp at u⊢;rw[u]
    .unfold World.shape? at hy⊢;rw[g1 c (Qcg hy) B];exact hy
   have am:∀(m:Nat) (os:Array Obj) (d:Array α),d.size=ds.toArray.size->∀τ,Ext J τ w J τ (sortWorldK enc' k w b (0*k) m d os):=by
    intro m os d u τ;obtain⟨g1,g2,g3⟩:=N m os d u;exact⟨λ_ q=>q,λc B=>g1 c (s.roLt c B) (λq=>ak (q▸B)),M m os d u,λ_ _ q=>q⟩
   have bg:CmpLays P g lc.toArray enc' k cf' b (0*k) ds.toArray.size w:=by
    intro m os dk a2 x y;obtain⟨c,B⟩:=ai x.x x.mem y.x y.mem;have F:=am m os dk a2 [];have be:=a4 _ _ _ B;generalize hW:sortWorldK enc' k w b (0*k) m dk os=W at*;have bk:w.heap.size<=W.heap.size:=by rw[<- hW];exact(N m os dk a2).2.2
    have sW:Sim (λc=>c<W.heap.size/\ ¬J c) J [] [] W:=
     ⟨rfl,s.roOk.to (λ_ q=>q) F.keep (λc B=>Vn (s.roLt c B) bk),λc B=>B.1,λc B hf=>hf.2 B,λi b x h=>by simp at h,λi j b x y h=>by simp at h,λi y x h=>by simp at h,λi b x c h=>by simp at h⟩
    have aw:LR J [] W ([.agg (enc x.x),.agg (enc y.x)]++cap) ([.agg x.vs.toArray,.agg y.vs.toArray]++lc):=
     LR.append (show LR J [] W [A.agg (enc x.x),A.agg (enc y.x)] [Value.agg x.vs.toArray,Value.agg y.vs.toArray]from⟨_,_,rfl,⟨x.vs,rfl,x.rel.mono F⟩,_,_,rfl,⟨y.vs,rfl,y.rel.mono F⟩,rfl⟩) (an.mono F)
    have Q:=be _ J [] _ W sW aw;have bn:(([Value.agg x.vs.toArray,Value.agg y.vs.toArray]++lc).toArray:Array Value)= #[Value.agg (enc' x).toArray,Value.agg (enc' y).toArray]++lc.toArray:=by simp[enc']
    rw[bn]at Q;refine Q.mono ?_;rintro e w' ⟨v,r,H',ac,τ,rfl,⟨rfl,rfl⟩,s',bj,ev⟩;refine⟨?_,?_⟩
    .rw[show v=.int .i64 c from bj];simp only[cf',B,Option.getD_some]
    .refine Qnd (λc B=>?_) ev.size ev.os ev.tape ev.output ev.drawn;by_cases a0:J c
     .exact ev.keepRo c a0
     .exact ev.keepFr c ⟨B,a0⟩
   have aa:ds.toArray.size=l.length:=by simpa using au
   have al:=AnyQ.slices_SortFunc L k aE zE enc' ab (λx v hv=>QjM (x.plain v hv)) cf' hO g lc.toArray b (0*k) cp ds.toArray w eg bg hH hb (by rw[aa];unfold QR at bb;omega);rw[aa]at al;refine al.mono ?_;rintro e w' ⟨rfl,d,n,os,Y,ax,rfl⟩;have u:d.size=ds.toArray.size:=Y.1;obtain⟨g1,g2,g3⟩:=N n os d u;have ao:d.toList.Perm ds:=by
    have h:=Y.2.2;have x1:d.extract 0 l.length=d:=by rw[<- aa, <- u];exact Array.extract_size
    have x2:ds.toArray.extract 0 l.length=ds.toArray:=by rw[<- aa];exact Array.extract_size
    rw[x1,x2]at h;simpa using h
   have a5:d.toList.map (·.x)=l':=by
    rw[<- a9];refine QaA (lt:=ltO cf) ?_ ?_ ?_ (Yy O)
    .exact((ao.map (·.x)).trans (by rw[R])).trans (QK _ _).symm
    .intro x hx y hy;have bq:x∈l:=by rw[<- R];exact(ao.map (·.x)).mem_iff.1 hx
     have bl:y∈l:=by rw[<- R];exact(ao.map (·.x)).mem_iff.1 hy
     exact ar x bq y bl
    .rw[List.pairwise_iff_getElem];intro i j hi hj bf;simp only[X9]at hi hj;simp only[List.getElem_map];rw[<- ag];have:=ax i j (X2 _) bf (by rw[<- aa, <- u];simpa using hj);rw[getElem!_pos d j (by simpa using hj),getElem!_pos d i (by simpa using hi)]at this;simpa using this
   have bd:RL J [] (sortWorldK enc' k w b (0*k) n d os) k (l'.map enc) ((d.toList.map enc').flatten++G):=by
    have e3:d.toList.map enc'=(d.toList.map λa=>(a.x,a.vs)).map (·.2):=by simp[enc']
    have e4:l'=(d.toList.map λa=>(a.x,a.vs)).map (·.1):=by rw[<- a5];simp
    rw[e3,e4];refine Qdu hk ?_;intro p hp;obtain⟨a,_,rfl⟩:=Xf.1 hp;exact⟨a.rel.mono (am n os d u []),a.plain⟩
   have a3:Qf fr J w J (sortWorldK enc' k w b (0*k) n d os):=
    ⟨λ_ q=>q,λc B=>g1 c (s.roLt c B) (λq=>ak (q▸B)),λc B=>g1 c (s.frLt c B) (λq=>ba (q▸B)),g3,M n os d u,rfl,rfl,rfl,Nat.le_add_right _ _⟩
   have ay:σ.length=1:=s.len;have az:Sim fr J σ [.row t k (l'.map enc)] (sortWorldK enc' k w b (0*k) n d os):=by
    have i0:∀{i:Nat}{x:Blk},([.row t k (l'.map enc)]:Qc)[i]?=some x->i=0/\x=.row t k (l'.map enc):=by
     intro i x h;cases i with
     |zero=>simp at h;exact⟨rfl,h.symm⟩
     |succ i=>simp at h
    refine⟨ay,s.roOk.to (λ_ q=>q) a3.keepRo (λc B=>Vn (s.roLt c B) g3),λc B=>Vn (s.frLt c B) g3,s.roFr,λi c x h1 h2 h3=>?_,λi j c x y h1 h2 h3 h4 _ _=>?_,λi y x h1 h2=>?_,λi b x c h1 h2 h3=>by obtain⟨rfl,rfl⟩:=i0 h2;exact h3.elim⟩
    .obtain⟨rfl,rfl⟩:=i0 h2;obtain⟨p1,p2⟩:=s.own 0 c _ h1 rfl rfl;exact⟨Vn p1 g3,p2⟩
    .rw[(i0 h3).1,(i0 h4).1]
    .obtain⟨rfl,rfl⟩:=i0 h2;rw[q1]at h1;cases h1;exact⟨_,g2,bd⟩
   exact⟨_,_,_,J,[],rfl,⟨rfl,rfl⟩,by simpa using az,⟨[],rfl,rfl⟩,a3⟩
end Go.Sw
namespace Go.Sw
section
variable {P:Program}{o:Oper}{env:Env}{H:Qc}{fr ro:Nat->Prop}{σ:Sig}{w:World}
theorem Sim.addRo(s:Sim fr ro σ H w){b:Nat}(g:b<w.heap.size)(l:¬fr b)(t:∀(i:Nat) (x:Blk),σ[i]?=some (some b)->H[i]?=some x->x.live=true->False)
  (m:∀(i d:Nat) (x:Blk),σ[i]?=some (some d)->H[i]?=some x->Hid w x d b->False):Sim fr (λc=>ro c\/c=b) σ H w:=by
 refine⟨s.len,s.roOk.to (λ_ q=>.inl q) (λ_ _=>rfl) ?_,s.frLt,?_,?_,s.inj,?_,s.hidTo (· = ·) Q2 (X0 _) (λj d x c n B u h=>h.elim id λq=>(m j d x n B (q▸u)).elim) (λ_ _ _ _ _ _ _ q=>q) λj d y r p F=>.inl ⟨j,y,rfl,r,p,id,λ_ q=>q⟩⟩
 .rintro c (q|rfl)
  .exact s.roLt c q
  .exact g
 .rintro c (q|rfl)
  .exact s.roFr c q
  .exact l
 .intro i c x e a f;obtain⟨z,E,k⟩:=s.own i c x e a f;refine⟨z,?_,k⟩;rintro(q|rfl)
  .exact E q
  .exact t i x e a f
 .intro i y x e a;exact(s.blk i y x e a).keep ⟨λ_ q=>.inl q,λ_ _=>rfl,λ_ _ q=>q,λ_ _ q=>q⟩ (λ_ _ _=>rfl) (λ_ _ _ _=>rfl)
theorem QcN{T e k n:Nat}{xs:List Operand}{es:List (List A)}(E:Q0 P T e k)(R:o.op=.buildSlice T n (QaK 0 xs).toArray)(M:xs.length=n)(F:Nat.ble (n*k) 16777216=true)
  (V:(xs.all λx=>Yk (opA env x))=true)(G:Yc env xs=es)(L:allK k es)(hp:es.flatten.all Ys=true)(X:Yj es.flatten=true):
  OpH P o env H (.rsl k es) H:=by
 intro fr t σ N a w r;subst G;obtain⟨l,Y,J⟩:=Qbv r E M F V L;have B:LR t [] w (Yc env xs).flatten l:=J.data X;have f:∀b,b<w.heap.size->(w.alloc (.cells l.toArray e)).heap[b]?=w.heap[b]? :=λb O=>Yp _ _ b O;have s:w.heap.size<=(w.alloc (.cells l.toArray e)).heap.size:=by rw[Yo];omega
 have Q:=r.sim.grown f s;have h:Qf fr t w t (w.alloc (.cells l.toArray e)):=Qf.alloc _ r.sim.roLt r.sim.frLt;have W:=Q.addRo (b:=w.heap.size) (by rw[Yo];omega) (λq=>Nat.lt_irrefl _ (r.sim.frLt _ q)) (λi x j m u=>Nat.lt_irrefl _ (r.sim.own i _ x j m u).1)
  (λi d x j m u=>Nat.lt_irrefl _ (r.sim.hid i d x _ j m (r.sim.hidKeep j m (λz=>f d (r.sim.own i d x j m z).1) (λb q=>f b (r.sim.roLt b q)) u)).lt)
 have y:RL t [] (w.alloc (.cells l.toArray e)) k (Yc env xs) l:=by
  have:=QaF (rest:=[]) L (B.mono (h.ext0 [])) (J.plain hp)
  rwa [Vo]at this
 have g:(Yc env xs).length=n:=by simp[Yc,M]
 refine⟨_,_,λc=>t c\/c=w.heap.size,[],Qbn R a.eval Y,?_,by simpa using W,h.trans (YB λ_ q=>.inl q)⟩;refine⟨some ⟨w.heap.size,0,none⟩,n,by rw[g],by rw[g];exact X0 _,.inr ⟨w.heap.size,0,rfl,.inr rfl,?_⟩⟩;have p:(w.alloc (.cells l.toArray e)).heap[w.heap.size]?=some (.cells (([]:List Value)++l).toArray e (0,0)):=YH _ _;have:=Jm (pre:=[]) p y;exact this.keep ⟨λ_ q=>.inl q,λ_ _=>rfl,λ_ _ q=>q,λ_ _ q=>q⟩ rfl
end
inductive QiF:List A->List A->Prop
 |nil:QiF [] []
 |eq {a:A}{l m:List A} (h:QiF l m):QiF (a::l) (a::m)
 |nl {k:Nat}{l m:List A} (h:QiF l m):QiF (.nils::l) (.rsl k []::m)
theorem LR.nils{ro:Nat->Prop}{σ:Sig}{w:World}{g f:List A}(h:QiF g f):∀{l:List Value},LR ro σ w g l->LR ro σ w f l:=by
 induction h with
 |nil=>intro l h;exact h
 |eq _ ih=>rintro l ⟨v,b,e,d,a⟩;exact⟨v,b,e,d,ih a⟩
 |nl _ ih=>rintro l ⟨v,b,e,d,a⟩;exact⟨v,b,e,⟨none,0,d,X0 _,.inl rfl⟩,ih a⟩
theorem C.nils{P:Program}{f:FuncId}{l1 bs:List A}{H:Qc}{Q:A->Qc->Prop}(hl:QiF l1 bs)(h:C P f bs H Q):C P f l1 H Q:=
 λfr ro σ vals w s l=>h fr ro σ vals w s (LR.nils hl l)
end Go.Sw
namespace Go.Sw
def QE(k:IntKind)(n:Int):Prop:=k.min<=n/\n<=k.max
def QeL(w:World):Nat->Prop:=λb=>b<w.heap.size
structure Meas {H:Type} (μ:DataW H->Nat):Prop where
 str:∀bytes,bytes.length<=μ (.lit (.string bytes))
 sl:∀e s,e.length<=μ (.slice e s)
 sle:∀e s,∀d∈e,μ d<=μ (.slice e s)
 ag:∀ps,∀d∈ps,μ d<=μ (.agg ps)
def RB(P:Program)(n:Nat)(t:TypeId)(T:Type)(e:T->List A)(wf:T->Prop):Prop:=
 ∀(H:Type) (enc:TypeId×Value->H) (w:World) (base:Nat) (spare:Nat->Bool) (held:Bool) (m:Nat) (cs:List Value) d,m<n->DataW.trod enc P w base spare held m t cs=some d->
  ∀μ:DataW H->Nat,Meas μ->μ d.1<=1048576->∃x:T,wf x/\LR (QeL w) [] w (e x) cs/\ ∀v∈cs,QA v
section
variable {P:Program}{n:Nat}{t:TypeId}{T:Type}{e:T->List A}{wf:T->Prop}
theorem RB.down(h:RB P (n+1) t T e wf):RB P n t T e wf:=λH enc w base spare held m cs d hm=>h H enc w base spare held m cs d (Nat.lt_succ_of_lt hm)
theorem QdM(h:∀n,RB P n t T e wf->RB P (n+1) t T e wf):∀n,RB P n t T e wf
 |0=>λH enc w base spare held m cs d hm=>absurd hm (Xo _)
 |n+1=>h n (QdM h n)
theorem Q7{T':Type}{b:T'->List A}{a:T'->Prop}(h:RB P n t T e wf)(g:T->T')(he:∀x,b (g x)=e x)(i:∀x,wf x->a (g x)):RB P n t T' b a:=by
 intro H enc w base spare held m cs d hm hd μ hμ hwt;obtain⟨x,k,j,f⟩:=h H enc w base spare held m cs d hm hd μ hμ hwt;exact⟨g x,i x k,by rw[he];exact j,f⟩
theorem RB.int{k:IntKind}(a:P.underlying t=some (.int k)):RB P n t Int (Qd k) (QE k):=by
 intro H enc w base spare held m cs d hm hd μ hμ hwt;cases m with
 |zero=>simp[DataW.trod]at hd
 |succ m=>
  rcases cs with _|⟨v,_|⟨g,r⟩⟩
  .simp[DataW.trod,a]at hd
  .cases v<;>simp[DataW.trod,a]at hd;rename_i f e;obtain⟨⟨rfl,b⟩,_⟩:=hd;refine⟨e,?_,⟨_,_,rfl,rfl,rfl⟩,by simp[QA]⟩;simpa[Lit.wf,QE]using b
  .simp[DataW.trod,a]at hd
theorem RB.bool(a:P.underlying t=some .bool):RB P n t Bool encB (λ_=>True):=by
 intro H enc w base spare held m cs d hm hd μ hμ hwt;cases m with
 |zero=>simp[DataW.trod]at hd
 |succ m=>
  rcases cs with _|⟨v,_|⟨e,r⟩⟩
  .simp[DataW.trod,a]at hd
  .cases v<;>simp[DataW.trod,a]at hd;rename_i b;exact⟨b,trivial,⟨_,_,rfl,rfl,rfl⟩,by simp[QA]⟩
  .simp[DataW.trod,a]at hd
theorem RB.string(a:P.underlying t=some .string):RB P n t (List UInt8) encS (λs=>s.length<=1048576):=by
 intro H enc w base spare held m cs d hm hd μ hμ hwt;cases m with
 |zero=>simp[DataW.trod]at hd
 |succ m=>
  rcases cs with _|⟨v,_|⟨b,r⟩⟩
  .simp[DataW.trod,a]at hd
  .cases v<;>simp[DataW.trod,a]at hd;rename_i s;obtain⟨_,rfl⟩:=hd;exact⟨s.data.toList,X3 (hμ.str _) hwt,⟨_,_,rfl,rfl,rfl⟩,by simp[QA]⟩
  .simp[DataW.trod,a]at hd
theorem Qb2{α:Type}{f:Nat->Option α}:∀{n:Nat}{l:List α},(List.range n).mapM f=some l->l.length=n/\ ∀i,i<n->∃y,f i=some y/\l[i]?=some y
 |0,l,h=>by simp at h;subst h;exact⟨rfl,λi hi=>absurd hi (Xo _)⟩
 |n+1,l,h=>by
  rw[Xz,List.mapM_append]at h;cases h1:(List.range n).mapM f with
  |none=>simp[h1]at h
  |some l1=>
   cases h2:f n with
   |none=>simp[h1,h2]at h
   |some y=>
    simp[h1,h2]at h;subst h;obtain⟨e1,e2⟩:=Qb2 h1;refine⟨by simp[e1],λi hi=>?_⟩;rcases Xq.1 hi with q|rfl
    .obtain⟨z,z1,z2⟩:=e2 i q;exact⟨z,z1,by rw[XT (by omega)];exact z2⟩
    .exact⟨y,h2,by rw[XU (by omega)];simp[e1]⟩
theorem Qdv{w:World}{ro:Nat->Prop}{b:Nat}:∀{cs:List A}{l:List Value}{off:Nat},LR ro [] w cs l->(∀v∈l,QA v)->(∀i,i<l.length->w.cell? ⟨b,off+i,none⟩=l[i]?)->CR ro [] w b cs off
 |[],_,_,_,_,_=>trivial
 |a::cs,l,off,h,hp,hc=>by
  obtain⟨v,l',rfl,h1,h2⟩:=h;refine⟨⟨v,by simpa using hc 0 (by simp),hp v (by simp),h1⟩,Qdv h2 (λv hv=>hp v (by simp[hv])) λi hi=>?_⟩;have:=hc (i+1) (by simpa using hi);rw[show off+1+i=off+(i+1)by omega,this];simp
theorem RB.slice{E:TypeId}{k:Nat}{s:TypeId}(N:P.underlying s=some (.slice E))(hk:P.cellsOf E=k)(h0:Nat.blt 0 k=true)(hl:∀x,(e x).length=k)(h:RB P n E T e wf):
  RB P (n+1) s (List T) (YC k e) (λl=>l.length<=1048576/\ ∀x∈l,wf x):=by
 intro H enc w base spare held m cs d hm hd μ hμ hwt;have k0:0<k:=by simpa using h0
 cases m with
 |zero=>simp[DataW.trod]at hd
 |succ m=>
  rcases cs with _|⟨v,_|⟨v2,r⟩⟩
  .simp[DataW.trod,N]at hd
  .cases v<;>try (simp[DataW.trod,N]at hd;done)
   rename_i a len p;cases a with
   |none=>
    rcases len with _|len
    .rcases p with _|p
     .refine⟨[],⟨by simp,by simp⟩,⟨_,_,rfl,⟨none,0,rfl,X0 _,.inl rfl⟩,rfl⟩,by simp[QA]⟩
     .simp[DataW.trod,N]at hd
    .simp[DataW.trod,N]at hd
   |some a=>
    simp only[DataW.trod,N]at hd;split at hd
    .rename_i hc;obtain⟨c1,c2,c3⟩:=hc;cases F:(List.range len).mapM (λi=>(w.cells? base (a.add (i*P.cellsOf E)) (P.cellsOf E)).bind (DataW.trod enc P w base spare held m E))with
     |none=>rw[F]at hd;cases hd
     |some f=>
      rw[F]at hd;simp only[XQ,Option.map_eq_some_iff]at hd;obtain⟨B,_,rfl⟩:=hd;have G:f.length<=1048576:=by
       have h1:=hμ.sl (f.map (·.1)) (B.map (·.1));rw[X9]at h1;exact X3 h1 hwt
      have Y:∀y∈f,μ y.1<=1048576:=λy V=>X3 (hμ.sle _ (B.map (·.1)) _ (List.mem_map_of_mem V)) hwt;obtain⟨e1,e2⟩:=Qb2 F;have O:∀i,i<len->∃(x:T) (l:List Value),wf x/\LR (QeL w) [] w (e x) l/\(∀v∈l,QA v)/\l.length=k/\ ∀j,j<k->w.cell? ((a.add (i*k)).add j)=l[j]? :=by
       intro i hi;obtain⟨y,y1,y2⟩:=e2 i hi;rw[hk]at y1;cases g:w.cells? base (a.add (i*k)) k with
       |none=>rw[g]at y1;cases y1
       |some l=>
        rw[g]at y1;obtain⟨x,x1,x2,x3⟩:=h H enc w base spare held m l y (by omega) y1 μ hμ (Y y (List.mem_of_getElem? y2));refine⟨x,l,x1,x2,x3,by rw[x2.length];exact hl x,λj hj=>?_⟩;unfold World.cells? at g;split at g
        .obtain⟨_,z2⟩:=Qb2 g;obtain⟨v,v1,v2⟩:=z2 j hj;rw[v2, <- v1]
        .cases g
      by_cases W:len=0
      .subst W;exact⟨[],⟨by simp,by simp⟩,⟨_,_,rfl,⟨some a,p,rfl,X2 _,.inl rfl⟩,rfl⟩,by simp[QA]⟩
      .have first:a.spot=none/\a.block<w.heap.size:=by
        obtain⟨x',l,p1,p2,p3,p4,p5⟩:=O 0 (by omega);have u:=p5 0 k0;have aa:l[0]?=some l[0]:=XR (by omega);have ea:(a.add (0*k)).add 0=a:=by simp[Addr.add]
        rw[aa,ea]at u;unfold World.cell? at u;split at u
        .rename_i hh;constructor
         .cases q:a.spot with
          |none=>rfl
          |some z=>simp[q]at u
         .exact(Vk.1 hh).1
        .cases u
       obtain⟨t,hb⟩:=first
       have R:∀n,a.add n=⟨a.block,a.off+n,none⟩:=by
        intro n;cases a;simp only at t;subst t;unfold Addr.add;split
        .rename_i q;subst q;rfl
        .rfl
       have L:∀(b o n:Nat),(⟨b,o,none⟩:Addr).add n=⟨b,o+n,none⟩:=by
        intro b o n;unfold Addr.add;split
        .rename_i q;subst q;rfl
        .rfl
       have pick:∀q i,len-i=q->i<=len->∃J:List T,J.length=len-i/\(∀x∈J,wf x)/\RR (QeL w) [] w a.block k (J.map e) (a.off+i*k):=by
        intro q
        induction q with
        |zero=>intro i hq hi;exact⟨[],by simp[hq],by simp,trivial⟩
        |succ q ih=>
         intro i hq hi;obtain⟨J,M,X,Q⟩:=ih (i+1) (by omega) (by omega);obtain⟨x,l,p1,p2,p3,p4,p5⟩:=O i (by omega);refine⟨x::J,by simp[M];omega,by intro y V;rcases Ve.1 V with rfl|V;exact p1;exact X y V,hl x,?_,?_⟩
         .refine Qdv p2 p3 λj hj=>?_;have u:=p5 j (by omega);rw[R,L]at u;exact u
         .rw[Xn, <- Nat.add_assoc]at Q;exact Q
       obtain⟨J,M,X,Q⟩:=pick len 0 (by omega) (X2 _);rw[Nat.zero_mul,XC]at Q;rw[XA]at M;refine⟨J,⟨by rw[M, <- e1];exact G,X⟩,⟨_,_,rfl,⟨some a,p,by simp[M],by simp[M];exact c2,.inr ⟨a.block,a.off,?_,hb,Q⟩⟩,rfl⟩,by simp[QA]⟩;cases a;simp only at t;subst t;rfl
    .cases hd
  .simp[DataW.trod,N]at hd
def RF(P:Program)(n:Nat)(fs:List Field)(off L:Nat)(T:Type)(e:T->List A)(wf:T->Prop):Prop:=
 ∀(H:Type) (enc:TypeId×Value->H) (w:World) (base:Nat) (spare:Nat->Bool) (held:Bool) (m:Nat) (cs:List Value) ds,m<n->cs.length=L->
  fs.mapM (λf=>DataW.trod enc P w base spare held m f.type ((cs.drop f.offset).take (P.cellsOf f.type)))=some ds->
  ∀μ:DataW H->Nat,Meas μ->(∀y∈ds,μ y.1<=1048576)->∃x:T,wf x/\LR (QeL w) [] w (e x) (cs.drop off)/\ ∀v∈cs.drop off,QA v
theorem RF.nil{L:Nat}:RF P n [] L L Unit (λ_=>[]) (λ_=>True):=by
 intro H enc w base spare held m cs ds hm hl hd μ hμ hwt;have:cs.drop L=[]:=List.drop_eq_nil_of_le (by omega);rw[this];exact⟨(),trivial,rfl,by simp⟩
theorem RF.cons{f:Field}{fs:List Field}{off L k:Nat}{T2:Type}{e2:T2->List A}{g:T2->Prop}(B:f.offset=off)(F:P.cellsOf f.type=k)(h:RB P n f.type T e wf)(r:RF P n fs (off+k) L T2 e2 g):
  RF P n (f::fs) off L (T×T2) (λp=>e p.1++e2 p.2) (λp=>wf p.1/\g p.2):=by
 intro H enc w base spare held m cs ds hm hl hd μ hμ hwt;rw[List.mapM_cons]at hd;cases b:DataW.trod enc P w base spare held m f.type ((cs.drop f.offset).take (P.cellsOf f.type))with
 |none=>simp[b]at hd
 |some d=>
  cases j:fs.mapM (λf=>DataW.trod enc P w base spare held m f.type ((cs.drop f.offset).take (P.cellsOf f.type)))with
  |none=>simp[b,j]at hd
  |some i=>
   have l:ds=d::i:=by
    rw[b,j]at hd;exact(X7 hd).symm
   subst l;rw[B,F]at b;obtain⟨x,t,z,s⟩:=h H enc w base spare held m _ d hm b μ hμ (hwt d (by simp));obtain⟨y,y1,y2,u⟩:=r H enc w base spare held m cs i hm hl j μ hμ (λy E=>hwt y (by simp[E]));have a:cs.drop off=(cs.drop off).take k++cs.drop (off+k):=by rw[<- List.drop_drop,XF]
   refine⟨(x,y),⟨t,y1⟩,by rw[a];exact z.append y2,?_⟩;rw[a];intro v G;rcases List.mem_append.1 G with q|q
   .exact s v q
   .exact u v q
theorem RB.struct{fs:Array Field}{L:Nat}(j:P.underlying t=some (.struct fs))(b:P.cellsOf t=L)(h:RF P n fs.toList 0 L T e wf):RB P (n+1) t T e wf:=by
 intro H enc w base spare held m cs d hm hd μ hμ hwt;cases m with
 |zero=>simp[DataW.trod]at hd
 |succ m=>
  unfold DataW.trod at hd;simp only[j]at hd;split at hd
  .rename_i k;cases a:fs.toList.mapM (λf=>DataW.trod enc P w base spare held m f.type ((cs.drop f.offset).take (P.cellsOf f.type)))with
   |none=>rw[a]at hd;cases hd
   |some i=>
    rw[a]at hd;simp only[Xk,Option.some.injEq]at hd;subst hd;have:=h H enc w base spare held m cs i (by omega) (by rw[k,b]) a μ hμ (λy g=>X3 (hμ.ag _ _ (List.mem_map_of_mem g)) hwt);simpa using this
  .cases hd
end
theorem C.law{P:Program}{f:FuncId}{args:List A}{W:World}{vals:List Value}(h:C P f args [] (λa H=>a=.bool true/\H=[]))(l:LR (QeL W) [] W args vals)(d:GP W):
  Calls P f vals.toArray W λe W'=>e=.returned (.bool true)/\Go.RowKit.Below W.heap.size W W':=by
 have s:Sim (λ_=>False) (QeL W) [] [] W:=
  ⟨rfl,⟨λ_ h=>h,λb g=>d.size b g,d⟩,λ_ h=>h.elim,λ_ _ h=>h,λi b x h=>by simp at h,λi j b x y h=>by simp at h,λi y x h=>by simp at h,λi b x c h=>by simp at h⟩
 refine(h _ _ _ _ W s l).mono ?_;rintro e W' ⟨v,r,H',n,τ,rfl,⟨rfl,rfl⟩,_,p,ev⟩;exact⟨by rw[show v=.bool true from p],⟨ev.os,ev.tape,ev.output,ev.size,λk m=>ev.keepRo k m⟩⟩
theorem Qed{P:Program}{W:World}{a:Nat}{t:TypeId}{v:Value}{fs:Array Field}(b:P.underlying t=some (.struct fs))(h:Value.okWide P W .any a t v):∃cs,v=.agg cs:=by
 unfold Value.okWide at h;rw[b]at h;obtain⟨cs,rfl,_⟩:=h;exact⟨cs,rfl⟩
theorem QbY{P:Program}{W:World}{t:TypeId}{cs:Array Value}{T:Type}{e:T->List A}{wf:T->Prop}{H:Type}{enc:TypeId×Value->H}{b:Nat}{a:Nat->Bool}{held:Bool}{d:DataW H}{ps:List MemPlace}
  (h:∀n,RB P n t T e wf)(g:DataW.Trod enc P W b a held t (.agg cs) d ps){μ:DataW H->Nat}(hμ:Meas μ)(f:μ d<=1048576):∃x:T,wf x/\VR (QeL W) [] W (.agg (e x)) (.agg cs):=by
 obtain⟨m,i⟩:=g;obtain⟨x,k,j,_⟩:=h (m+1) H enc W b a held m _ _ (Xp _) i μ hμ f;exact⟨x,k,cs.toList,by simp,j⟩
theorem Qh1{P:Program}{W:World}(h:W.ShapedOpen P){g t u:Nat}{z:Value}(hg:Nat.blt g P.globals.size=true)(q:(((begin P (λ_ _=>0) default).world.heap[g]?).bind Obj.row?)=some (#[z],t))
  (j:P.buildable t=true)(l:P.cellTypes P.depth t=some [u])(p:P.underlying u=some (.int .i64)):∃m:Int,W.cell? ⟨g,0,none⟩=some (.int .i64 m):=by
 obtain⟨d,s,w,r⟩:=h.1 g _ _ (by simpa using hg) q;obtain⟨y,e,_,x⟩:=r j;rw[l]at e;cases e;have E:d.size=1:=w;have a:d[0]?=some d[0]:=Array.getElem?_eq_getElem (by omega);obtain⟨B,f,b⟩:=x 0 _ a;simp at f;subst f;unfold Cell.ok at b;rw[p]at b;cases i:d[0]<;>rw[i]at b<;>simp at b;rename_i k n;obtain⟨rfl,_⟩:=b;refine⟨n,?_⟩;simp only[World.cell?,s];rw[a,i];rfl
end Go.Sw
namespace Go.Sw
theorem Qh9{S B:Type}{step:S->Option (Ctl S B)}(d:Nat->S)(b:B)(k:Nat)(g:∀i,i<k->step (d i)=some (.cont (d (i+1))))(h:step (d k)=some (.done b)):∀n,k<n->iter step n (d 0)=some b:=by
 have e:∀m i n,k-i=m->i<=k->m<n->iter step n (d i)=some b:=by
  intro m
  induction m with
  |zero=>
   intro i n l j q;have:i=k:=by omega
   subst this;obtain⟨a,rfl⟩:∃a,n=a+1:=⟨n-1,by omega⟩;simp[iter,h]
  |succ m p=>
   intro i n l j q;obtain⟨a,rfl⟩:∃a,n=a+1:=⟨n-1,by omega⟩;simp only[iter,g i (by omega)];exact p (i+1) a (by omega) (by omega) (by omega)
 intro n f;exact e k 0 n (by omega) (X2 _) f
theorem QlK{S B:Type}{step:S->Option (Ctl S B)}(s0:S)(a:Nat->S)(b:B)(k:Nat)(h0:a 0=s0)(f:∀i,i<k->step (a i)=some (.cont (a (i+1))))(e:step (a k)=some (.done b))(n:Nat)(d:k<n):iter step n s0=some b:=by
 rw[<- h0];exact Qh9 a b k f e n d
theorem Qq{α:Type}{l:List α}{i:Nat}{x:α}(h:l[i]?=some x):idx l (i:Int)=some x:=by
 unfold idx;have:decide ((0:Int)<=i)=true:=by simp
 rw[this];simpa using h
theorem QnD{α:Type}(l:List α)(x:α)(h:l.length<4294967296):app l [x]=some (l++[x]):=by
 unfold app;have:Nat.ble (l.length+[x].length) QR=true:=by
  apply XZ;unfold QR;simp;omega
 rw[this];rfl
theorem QhH{α:Type}(l m:List α)(h:l.length+m.length<=4294967296):app l m=some (l++m):=by
 unfold app;have:Nat.ble (l.length+m.length) QR=true:=XZ h;rw[this];rfl
theorem QO{n:Int}(h0: -9223372036854775808<=n)(a:n<=9223372036854775807):IntKind.i64.wrap n=n:=by
 unfold IntKind.wrap;simp[IntKind.bits,IntKind.signed];omega
theorem Qay{i:Nat}(h:i<9223372036854775807):IntKind.i64.wrap ((i:Int)+1)=((i+1:Nat):Int):=by
 rw[QO (by omega) (by omega)];omega
theorem Yh{p:Prop}[Decidable p](h:p):decide p=true:=decide_eq_true h
theorem Q4{p:Prop}[Decidable p](h:¬p):decide p=false:=decide_eq_false h
end Go.Sw
namespace Go.Sw
open Go.Proofs Go.Shelf
def cat(a b:List UInt8):Option (List UInt8):=bif Nat.ble (a.length+b.length) 4294967296 then some (a++b)else none
theorem QoX{a b r:List UInt8}(h:cat a b=some r):a.length+b.length<=4294967296/\a++b=r:=by
 unfold cat at h;cases q:Nat.ble (a.length+b.length) 4294967296 with
 |true=>rw[q]at h;exact⟨XY q,X7 h⟩
 |false=>rw[q]at h;cases h
def Qep(s t:List UInt8):Option Bool:=bif Nat.blt s.length 4294967281 then some (Lib.contains s t)else none
section
variable {P:Program}{o:Oper}{env:Env}{H:Qc}
theorem QeR{t u:TypeId}{x y:Operand}{p q r:List UInt8}(h:cat p q=some r)(j:o.op=.binOp .add t x y u:=by exact rfl)(hx:opA env x=.str p:=by exact rfl)(hy:opA env y=.str q:=by exact rfl):OpV P o env H (.str r):=by
 intro m s σ N a w rr;obtain⟨n,i⟩:=QoX h;have f:=Qg rr x;rw[hx]at f;have g:=Qg rr y;rw[hy]at g;have d:a.eval x=.string ⟨p.toArray⟩:=f;have e:a.eval y=.string ⟨q.toArray⟩:=g;have k:(⟨p.toArray⟩:ByteArray)++⟨q.toArray⟩=⟨r.toArray⟩:=by
  rw[<- i];apply ByteArray.ext;simp
 refine⟨.string ⟨r.toArray⟩,?_,rfl⟩;have b:¬((((⟨p.toArray⟩:ByteArray).size+(⟨q.toArray⟩:ByteArray).size:Nat):Int)>IntKind.i64.max):=by
  have:IntKind.i64.max=9223372036854775807:=by decide
  rw[this];simp only[ByteArray.size,List.size_toArray];omega
 generalize a.eval=ρ at*;have l:(eqGuard BinOp.add t x y (.string ⟨p.toArray⟩) (.string ⟨q.toArray⟩)).run P w=.ok () w:=by simp[eqGuard]
 simp only[execOp,j,d,e,binOp_string_add,Op.stringOp,if_neg b,k,Vu,Vv,Result.andThen,l]
def Qb5{α:Type}(n:Nat)(l:List α)(i:Int):Option α:=bif Nat.beq l.length n then idx l i else none
theorem Qaf{α:Type}{n:Nat}{l:List α}{i:Int}{x:α}(h:Qb5 n l i=some x):l.length=n/\idx l i=some x:=by
 unfold Qb5 at h;cases q:Nat.beq l.length n with
 |true=>rw[q]at h;exact⟨XX q,h⟩
 |false=>rw[q]at h;cases h
def arr{α:Type}(n:Nat)(l:List α):Option (List α):=bif Nat.beq l.length n then some l else none
theorem QbD{α:Type}{n:Nat}{l l':List α}(h:arr n l=some l'):l.length=n/\l=l':=by
 unfold arr at h;cases q:Nat.beq l.length n with
 |true=>rw[q]at h;exact⟨XX q,X7 h⟩
 |false=>rw[q]at h;cases h
theorem Qgr{α:Type}{n:Nat}{l l':List α}(h:arr n l=some l'):l'.length=n:=(QbD h).2▸(QbD h).1
section
variable {α:Type}{e:α->List A}{t et k n b:Nat}{x y:Operand}{l:List α}
theorem YZ{i:Int}{v:α}{j:IntKind}(h:Qb5 n l i=some v)(E:∀w,(underlying t).run P w=.ok (.array n et) w)(J:∀w,(sizeOf et).run P w=.ok k w)(s:Nat.ble 2 n=true)
  (B:o.op=.indexAddr t x y:=by exact rfl)(hx:opA env x=.ptr b 0:=by exact rfl)(hy:opA env y=.int j i:=by exact rfl):OpV P o env H (.ptr b (i.toNat*k)):=by
 intro Q M σ N a w r;obtain⟨L,F⟩:=Qaf h;obtain⟨O,z⟩:=Qa9 F;have G:i.toNat<l.length:=(XS.1 z).1;have e:=Qg r x;rw[hx]at e;obtain⟨f,e,u⟩:=e;have m:=Qg r y;rw[hy]at m;have g:a.eval y=.int j i:=m;refine⟨.pointer (some ⟨f,i.toNat*k,none⟩),?_,f,e,rfl⟩;have p:0<=i/\i<(n:Int):=by omega
 have d:(⟨f,0,none⟩:Addr).add (i.toNat*k)=⟨f,i.toNat*k,none⟩:=by
  unfold Addr.add;split
  .rename_i q;rw[q]
  .simp
 generalize a.eval=ρ at*;simp[execOp,B,u,g,Instr.indexAt,asIntOf,E,J,Instr.sureAddr,p,d,go_sem,Result.andThen]
theorem Qjy{cs:List A}(a:H[b]?=some (.row t k (l.map e)):=by exact rfl)(hcs:(l.map e).flatten=cs:=by exact rfl):Pts H (.ptr b 0) cs:=by
 intro p m σ w v s h;obtain⟨i,f,d⟩:=h;obtain⟨n,g,j⟩:=s.blk b _ _ f a;refine⟨i,0,d,?_⟩;have:=(RR.flat (Jm (pre:=[]) (by simpa using g) j)).1;subst hcs;exact this.lift
theorem Qhe(a:∀x,(e x).length=k)(L:List α):(L.map e).flatten.length=L.length*k:=by
 induction L with
 |nil=>simp
 |cons c L ih=>simp only[Vr,Vt,Va,a c,ih,X8,Xn];omega
theorem QhM{f:Nat}{l':List α}(h:arr n l=some l')(p:∀x,(e x).length=k)(a:n*k=f)(g:∀w,(isAgg t).run P w=.ok true w)(m:∀w,(sizeOf t).run P w=.ok f w){T:Nat}
  (j:o.op=.load t x:=by exact rfl)(hx:opA env x=.ptr b 0:=by exact rfl)(hH:H[b]?=some (.row T k (l.map e)):=by exact rfl):OpV P o env H (.agg (l'.map e).flatten):=by
 obtain⟨i,rfl⟩:=QbD h;have d:=Qhe p l;rw[i,a]at d;exact Qy j g m hx (Qjy hH rfl) (List.take_of_length_le (by omega)) d
theorem Qkq{r:Nat}{n2 T:Nat}(g:l.length=n)(i:∀x,(e x).length=k)(a:n*k=n2)(f:∀w,(isAgg t).run P w=.ok true w)(h:∀w,(sizeOf t).run P w=.ok n2 w)
  (j:lk env r=.ptr b 0:=by exact rfl)(hH:H[b]?=some (.row T k (l.map e)):=by exact rfl):QcI P env H (.cell r t) (.agg (l.map e).flatten):=by
 have d:=Qhe i l;rw[g,a]at d;have:=Qdt (b:=r) (p:=.ptr b 0) (n:=n2) f h (Qjy hH rfl) j (by rw[List.take_of_length_le (by omega)];exact d)
 rwa [List.take_of_length_le (by omega)]at this
theorem QhI{c:List A}{k:Nat}(h:c.length=k):∀n,allK k (List.replicate n c)
 |0=>trivial
 |n+1=>⟨h,QhI h n⟩
theorem Qbf{vs:Array Value}{z:α}(q:∀w,(zeroValue t).run P w=.ok (.agg vs) w)(i:(YW (List.replicate n (e z)).flatten).toArray=vs)(p:QdZ (List.replicate n (e z)).flatten=true)(l:(List.replicate n (e z)).flatten.all Ys=true)(h:Nat.beq (e z).length k=true)
  (m:o.op=.alloc t:=by exact rfl):OpH P o env H (.ptr H.length 0) (H++[.row t k ((List.replicate n z).map e)]):=by
 intro s f σ N a w r;have d:LR f [] w (List.replicate n (e z)).flatten (YW (List.replicate n (e z)).flatten):=Qe2 p;have b:=r.sim.allocRow (t:=t) (rest:=[]) (QhI (XX h) n) d (d.plain l);rw[Vo]at b;have g:(List.replicate n z).map e=List.replicate n (e z):=List.map_replicate;refine⟨.pointer (some ⟨w.heap.size,0,none⟩),w.alloc (.cells (YW (List.replicate n (e z)).flatten).toArray t),f,[some w.heap.size],?_,⟨w.heap.size,?_,rfl⟩,g▸b,Qf.alloc _ r.sim.roLt r.sim.frLt⟩
 .generalize a.eval=ρ at*;have j:(newVar t (.agg vs)).run P w=.ok ⟨w.heap.size,0,none⟩ (w.alloc (.cells vs t)):=rfl;rw[i];simp only[execOp,m,Instr.alloc,Vu,q,Result.andThen,j];rfl
 .rw[<- r.sim.len];simp
theorem QcM{T n2:Nat}{l':List α}{vs:List A}(h:l.length=n)(h':l'.length=n)(hk:∀x,(e x).length=k)(u:n*k=n2)(hs:∀w,(sizeOf t).run P w=.ok n2 w)
  (hp:∀x,(e x).all Ys=true)(hd:∀x,Yj (e x)=true)(O:(l'.map e).flatten=vs)
  (ho:o.op=.store t x y:=by exact rfl)(G:opA env x=.ptr b 0:=by exact rfl)(hH:H[b]?=some (.row T k (l.map e)):=by exact rfl)(R:opA env y=.agg vs:=by exact rfl):
  OpU P o env H (H.set b (.row T k (l'.map e))):=by
 intro fr ro σ N a w r;subst O;have d:=Qg r x;rw[G]at d;obtain⟨bb,d,J⟩:=d;have Y:=Qg r y;rw[R]at Y;obtain⟨m,h4,F⟩:=Y;obtain⟨j,q1,q2⟩:=r.sim.blk b _ _ d hH;have s:∀(L:List α),allK k (L.map e):=by
  intro L
  induction L with
  |nil=>trivial
  |cons c L g=>exact⟨hk c,g⟩
 have V:(l'.map e).flatten.length=n2:=by rw[YS (s l'),X9,h',u]
 have hm:m.length=n2:=by rw[F.length,V]
 have z:∀L:List α,(L.map e).flatten.all Ys=true:=by
  intro L
  induction L with
  |nil=>rfl
  |cons c L g=>simp only[Vr,Vt,List.all_append,hp c,g,Bool.and_self]
 have M:∀E p:List A,Yj E=true->Yj p=true->Yj (E++p)=true:=by
  intro E
  induction E with
  |nil=>intro p _ h;exact h
  |cons c E g=>
   intro p d J;simp only[Yj,X4,List.cons_append]at d⊢;exact⟨d.1,g p d.2 J⟩
 have Q:∀L:List α,Yj (L.map e).flatten=true:=by
  intro L
  induction L with
  |nil=>rfl
  |cons c L g=>simp only[Vr,Vt];exact M _ _ (hd c) g
 have aa:n2<=j.length:=by
  have:=q2.length;rw[X9,h,u]at this;exact this
 have B:=YF (P:=P) (vs:=m) 0 0 q1 (by omega) (F.plain (z l'));have q:splice j 0 m=m++j.drop n2:=by unfold splice;simp[hm]
 have f:=r.sim.set (x':=.row T k (l'.map e)) (obj:=.cells (splice j 0 m).toArray T (0,0)) d hH rfl
  (λy R=>QaR q1 (Yl (by omega)) y R)
  (λex i=>by
   have G:=(F.data (Q l')).mono ex.nil;rw[q]at G i⊢;exact⟨_,i,QaF (s l') G (F.plain (z l'))⟩)
 refine⟨_,ro,[],?_,by simpa using f.1,f.2⟩;generalize a.eval=ρ at*;have X:(ρ y).cells.size=n2:=by rw[h4];simp[Value.cells,hm]
 have W:(storeVar t ⟨bb,0,none⟩ (ρ y)).run P w=.ok () {w with heap:=w.heap.setIfInBounds bb (.cells (splice j 0 m).toArray T (0,0))}:=by
  unfold storeVar;rw[Vu,hs];simp only[Result.andThen];rw[if_neg (by simp[X]),h4];have ec:(Value.agg m.toArray).cells.toList=m:=by simp[Value.cells]
  rw[ec];simpa using B
 simp only[execOp,ho,J,Instr.storeAt,Instr.sureAddr,pure_bind,Vu,W];rfl
end
end
theorem C.contains{P:Program}{ρ:Ren}(L:Lays.n144 P ρ)(hg:ρ.g 1=QjY){s t:List UInt8}{r:Bool}(h:Qep s t=some r):C P (ρ.f 144) [.str s,.str t] [] (λa H=>a=.bool r/\H=[]):=by
 unfold Qep at h;cases q:Nat.blt s.length 4294967281 with
 |false=>rw[q]at h;cases h
 |true=>
  rw[q]at h;obtain rfl:=X7 h;intro E u σ vals w sim hv;obtain⟨d,z,rfl,k,i,l,rfl,j,y⟩:=hv;cases(show l=[]from y);obtain⟨m,b⟩:=sim.roOk.gp.max;have n:d=.string ⟨s.toArray⟩:=k;have p:i=.string ⟨t.toArray⟩:=j;subst n p;have x:s.length<4294967281:=by simpa using q
  refine(Any.strings_Contains L ⟨s.toArray⟩ ⟨t.toArray⟩ m w (by simpa[ByteArray.size]using x) (by rw[hg];exact b)).mono ?_;rintro e B ⟨rfl,rfl⟩;exact⟨_,_,_,u,[],rfl,⟨rfl,rfl⟩,by simpa using sim,rfl,Qf.refl _ _ _⟩
section
variable {P:Program}{o:Oper}{env:Env}{H:Qc}{fr ro:Nat->Prop}{σ:Sig}{w:World}
theorem Sim.touch(s:Sim fr ro σ H w){b:Nat}{obj:Obj}(n:¬ro b)(t:¬fr b)(B:∀(i:Nat) (x:Blk),σ[i]?=some (some b)->H[i]?=some x->x.live=true->False)
  (l:∀(i d:Nat) (x:Blk),σ[i]?=some (some d)->H[i]?=some x->Hid w x d b->False)
  (r:∀y,w.shape? b=some y->({w with heap:=w.heap.setIfInBounds b obj}:World).shape? b=some y):
  Sim fr ro σ H {w with heap:=w.heap.setIfInBounds b obj}/\Qf fr ro w ro {w with heap:=w.heap.setIfInBounds b obj}:=by
 have a:∀c,c≠b->({w with heap:=w.heap.setIfInBounds b obj}:World).heap[c]?=w.heap[c]? :=by
  intro c E;show(w.heap.setIfInBounds b obj)[c]?=_;rw[Vm,if_neg (λq=>E q.symm)]
 have f:({w with heap:=w.heap.setIfInBounds b obj}:World).heap.size=w.heap.size:=by simp
 have ev:Qf fr ro w ro {w with heap:=w.heap.setIfInBounds b obj}:=
  ⟨λ_ h=>h,λc h=>a c (λq=>n (q▸h)),λc h=>a c (λq=>t (q▸h)),by rw[f];exact X0 _,by
   intro c y h;by_cases q:c=b
   .subst q;exact r y h
   .unfold World.shape? at h⊢;rw[a c q];exact h,rfl,rfl,rfl,X0 _⟩
 refine⟨⟨s.len,s.roOk.to (λ_ q=>q) ev.keepRo (λc h=>by rw[f];exact s.roLt c h),λc h=>by rw[f];exact s.frLt c h,s.roFr,?_,s.inj,?_,s.hidTo (· = ·) Q2 (by rw[f];exact X0 _) (λ_ _ _ _ _ _ _ q=>q) (λ_ _ _ _ _ _ _ q=>q) λj d y p u G=>.inl ⟨j,y,rfl,p,u,id,λc q=>s.hidKeep p u (λz=>a d (λe=>B j y (e▸p) u z)) ev.keepRo q⟩⟩,ev⟩
 .intro i c x k g F;rw[f];exact s.own i c x k g F
 .intro i y x k g;refine(s.blk i y x k g).keep (ev.ext0 σ) ?_ ?_
  .rintro c rfl m;exact a c (λq=>by subst q;exact B i x k g m)
  .rintro d c rfl m;exact a c (λq=>l i d x k g (q▸m))
theorem QkF{T E i n t:Nat}{x:Operand}{es:List (List A)}(ht:P.underlying T=some (.slice E))(hE:P.underlying E=some (.int .u8))(hn:es.length=n)(h0:Nat.blt 0 n=true)
  (ho:o.op=.convert T T x:=by exact rfl)(hx:opA env x=.osl i 0 n 1:=by exact rfl)(hH:H[i]?=some (.row t 1 es):=by exact rfl):
  OpH P o env H (.rsl 1 es) (H.set i .dead):=by
 intro fr O σ N a w r;subst hn;have B:=Qg r x;rw[hx]at B;rcases B with⟨hz,_⟩|⟨b,p,G,t',m,B,h2,h6,h3,h4,h5⟩
 .rw[hz]at h0;simp at h0
 .have aa:0<es.length:=by simpa using h0
  obtain rfl:=h6 (by omega);obtain⟨W,L,h⟩:=r.sim.own i b _ B hH rfl;obtain⟨l,R,q2⟩:=r.sim.blk i _ _ B hH;have s1:=r.sim.kill i;have g:∀(j:Nat) (y:Blk),σ[j]?=some (some b)->(H.set i .dead)[j]?=some y->y.live=true->False:=by
   intro j y F f u;by_cases q:j=i
   .subst q;rw[Xb]at f;simp only[if_true]at f;split at f
    .cases f;simp[Blk.live]at u
    .simp at f
   .rw[XW (λz=>q z.symm)]at f;exact q (r.sim.inj j i b y _ F B f hH u rfl)
  have M:∀(j d:Nat) (y:Blk),σ[j]?=some (some d)->(H.set i .dead)[j]?=some y->Hid w y d b->False:=by
   intro j d y F f u;by_cases q:j=i
   .subst q;rw[Xb]at f;simp only[if_true]at f;split at f
    .cases f;exact u.elim
    .simp at f
   .rw[XW (λz=>q z.symm)]at f;exact(r.sim.hid j d y b F f u).ne i b _ B hH rfl rfl
  let fz:Nat×Nat:=(l.length,l.length+1)
  have Y:∀y,w.shape? b=some y->({w with heap:=w.heap.setIfInBounds b (.cells l.toArray t fz)}:World).shape? b=some y:=by
   intro y V;unfold World.shape? at V⊢;rw[R]at V;have e:(w.heap.setIfInBounds b (.cells l.toArray t fz))[b]?=some (.cells l.toArray t fz):=by rw[Vm,if_pos rfl,if_pos W]
   simp only[e];exact V
  obtain⟨s2,k⟩:=s1.touch (obj:=.cells l.toArray t fz) L h g M Y;have s3:=s2.addRo (b:=b) (by simpa using W) h g (λj d y F f u=>M j d y F f (s1.hidKeep F f (λz=>by
   show(w.heap.setIfInBounds b _)[d]?=_;rw[Vm,if_neg (λe:b=d=>g j y (by rw[e];exact F) f z)]) k.keepRo u))
  have s:({w with heap:=w.heap.setIfInBounds b (.cells l.toArray t fz)}:World).heap[b]?=some (.cells (([]:List Value)++l).toArray t fz):=by
   show(w.heap.setIfInBounds b _)[b]?=_;rw[Vm,if_pos rfl,if_pos W];rfl
  have J:Ext O [] w O [] {w with heap:=w.heap.setIfInBounds b (.cells l.toArray t fz)}:=k.ext0 [];refine⟨.slice (some ⟨b,0*1,none⟩) es.length G,_,λc=>O c\/c=b,[],?_,?_,by simpa using s3,k.trans (YB λ_ q=>.inl q)⟩
  .have hf:w.freeze ⟨b,l.length,none⟩ 1={w with heap:=w.heap.setIfInBounds b (.cells l.toArray t fz)}:=by
    unfold World.freeze;simp only[Nat.one_ne_zero,if_false];rw[QbK R];rfl
   have X:(markStringish ⟨b,0*1,none⟩).run P w=.ok () {w with heap:=w.heap.setIfInBounds b (.cells l.toArray t fz)}:=by
    rw[<- hf];unfold markStringish;simp[shape,freeze,Sem.run,World.shape?,R,Result.andThen]
   have hu:∀w,(underlying T).run P w=.ok (.slice E) w:=run_underlying ht;have Q:∀w,(underlying E).run P w=.ok (.int .u8) w:=run_underlying hE;generalize a.eval=ρ at*;simp only[execOp,ho,h2,convert,Vu,hu,Q,Result.andThen,beq_self_eq_true,X,Vv]
  .refine⟨some ⟨b,0*1,none⟩,G,rfl,h3,.inr ⟨b,0*1,rfl,.inr rfl,?_⟩⟩;have:=Jm (pre:=[]) s (q2.mono J);exact(by simpa using this:RR O [] _ b 1 es (0*1)).keep ⟨λ_ q=>.inl q,λ_ _=>rfl,λ_ _ q=>q,λ_ _ q=>q⟩ rfl
end
mutual
theorem QcW(ρ:Nat->Nat):∀{a:A},Ye a=true->Yx ρ a=a
 |.any,_=>rfl
 |.bool _,_=>rfl
 |.int _ _,_=>rfl
 |.str _,_=>rfl
 |.nilp,_=>rfl
 |.ptr _ _,h=>by simp[Ye]at h
 |.rp _,_=>rfl
 |.nils,_=>rfl
 |.rsl _ _,_=>rfl
 |.osl _ _ _ _,h=>by simp[Ye]at h
 |.agg cs,h=>by simp only[Ye]at h;simp only[Yx,Qae ρ h]
 |.fn f a c,h=>by simp only[Ye,X4]at h;simp only[Yx,Qae ρ h.1,Qae ρ h.2]
 |.nilf,_=>rfl
 |.iface t a,h=>by simp only[Ye]at h;simp only[Yx,QcW ρ h]
 |.nilif,_=>rfl
 |.map _,h=>by simp[Ye]at h
 |.nilm,_=>rfl
 |.tup vs,h=>by simp only[Ye]at h;simp only[Yx,Qae ρ h]
theorem Qae(ρ:Nat->Nat):∀{l:List A},Yj l=true->Qaa ρ l=l
 |[],_=>rfl
 |a::l,h=>by simp only[Yj,X4]at h;simp only[Qaa,QcW ρ h.1,Qae ρ h.2]
end
theorem Qfv{α:Type}{e:α->List A}(b:∀x,Yj (e x)=true):∀L:List α,Yj (L.map e).flatten=true
 |[]=>rfl
 |c::L=>by
  have hdt:∀cs ds:List A,Yj cs=true->Yj ds=true->Yj (cs++ds)=true:=by
   intro cs
   induction cs with
   |nil=>intro ds _ h;exact h
   |cons c cs d=>
    intro ds a f;simp only[Yj,X4,List.cons_append]at a⊢;exact⟨a.1,d ds a.2 f⟩
  simp only[Vr,Vt];exact hdt _ _ (b c) (Qfv b L)
theorem Qm1{α:Type}{e:α->List A}(hd:∀x,Yj (e x)=true)(ρ:Nat->Nat)(l:List α):Yx ρ (.agg (l.map e).flatten)=.agg (l.map e).flatten:=
 QcW ρ (by simp only[Ye];exact Qfv hd l)
end Go.Sw
namespace Go.Sw
section
variable {P:Program}{o:Oper}{env:Env}{H:Qc}
theorem QdN{c:Call}{f T:Nat}{x:Operand}{xs:List Operand}{q:Array TypeId}{b:String}{v:A}{args:List A}(d:∀(a:Array Value) (w:World),(callFunc f a).run P w=.ok (.enter f a) w)(p:o.op=.call c)
  (k:c={callee:=.invoke x b,args:=xs.toArray,argTypes:=q})(n:opA env x=.iface T v)(hargs:v::xs.map (opA env)=args)
  (j:∀(u:Value) (w:World),(method (P.types.size+Made.depth) T u b).run P w=.ok (f,u) w):OpC P o env H f args:=by
 intro t s σ N a w r;have g:=Qg r x;rw[n]at g;obtain⟨u,g,m⟩:=g;refine⟨u::xs.map a.eval,?_,hargs▸⟨u,xs.map a.eval,rfl,m,Qa0 r xs⟩⟩;subst k;generalize a.eval=ρ at*;have e:(#[ρ x]++(xs.toArray.map ρ):Array Value)=(.iface T u::xs.map ρ).toArray:=by rw[g];simp
 have i:((.iface T u::xs.map ρ).toArray.extract 1 (.iface T u::xs.map ρ).toArray.size:Array Value)=(xs.map ρ).toArray:=by
  simp[List.take_of_length_le]
 have h:∀l:Array Value,(callMethod (.iface T u) b l).run P w=.ok (.enter f (#[u]++l)) w:=by
  intro l;simp only[callMethod,Vu,run_program,Result.andThen,j,d]
 simp only[execOp,p,resolve,e,invoke,Vu,Vv,Result.andThen];simp only[XN,XL,i,h];simp
theorem Qbe{T I:Nat}{x:Operand}{v:A}{d:TypeDesc}(e:∀w,(underlying T).run P w=.ok d w)(g:∀m,d≠ .interface m)(f:o.op=.typeAssert x I T true:=by exact rfl)(hx:opA env x=.iface T v:=by exact rfl):
  OpV P o env H (.tup [v,.bool true]):=by
 intro j i σ N a w r;have b:=Qg r x;rw[hx]at b;obtain⟨u,b,h⟩:=b;refine⟨.tuple #[u,.bool true],?_,[u,.bool true],rfl,_,_,rfl,h,_,_,rfl,rfl,rfl⟩;generalize a.eval=ρ at*;cases d<;>first|(simp[execOp,f,b,Instr.typeAssert,e,go_sem];done)|exact(g _ rfl).elim
theorem Qgv{T T' I:Nat}{x:Operand}{v z:A}{zv:Value}{d:TypeDesc}(i:∀w,(underlying T).run P w=.ok d w)(h:∀m,d≠ .interface m)(b:Nat.beq T' T=false)(k:∀w,(zeroValue T).run P w=.ok zv w)(f:ZR z zv)
  (j:o.op=.typeAssert x I T true:=by exact rfl)(hx:opA env x=.iface T' v:=by exact rfl):
  OpV P o env H (.tup [z,.bool false]):=by
 intro p n σ N a w r;have e:=Qg r x;rw[hx]at e;obtain⟨u,e,l⟩:=e;have g:T'≠T:=λq=>by rw[q,Nat.beq_refl]at b;cases b
 refine⟨.tuple #[zv,.bool false],?_,[zv,.bool false],rfl,_,_,rfl,f _ _ _,_,_,rfl,rfl,rfl⟩;generalize a.eval=ρ at*;cases d<;>first|(simp[execOp,j,e,Instr.typeAssert,i,g,k,go_sem];done)|exact(h _ rfl).elim
end
def TL(P:Program)(h0 N:Nat)(c:Code)(env:Env)(H:Qc)(Q:QC):Prop:=
 ∀rd fr ro σ a w,Rel fr ro σ H env N a w->Qdy rd fr w->∀(b:Frame) (k:List Item) (cs:List Frame),b.roundOf=(WF rd).round->(WF rd).fn b.fn->(WF rd).room (cs.length+1+0)->∃e a' w',Qa1 h0 fr ro σ w N a.defers Q e a' w'/\ArrivesIn (Machine.fenced P (WF rd)) P (lone (b.atR a (.code c::.inLoop c::k)) cs w) b k cs e a' w'
def Qix(P:Program)(h0 N:Nat)(c:Code)(Q:QC):QC
 |.normal,env,H=>TL P h0 N c env H Q
 |.exit id,env,H=>Q (.exit id) env H
 |.ret,env,H=>Q .ret env H
section
variable {P:Program}{h0 N:Nat}{c:Code}{env:Env}{H:Qc}{Q:QC}
theorem Qmx(h:TL P h0 N c env H Q):TC P h0 N (.loop c) env H Q:=by
 intro f m l σ a w r hrd b k cs hro hb hr;obtain⟨e,j,g,i,d⟩:=h f m l σ a w r hrd b k cs hro hb hr;exact⟨e,j,g,i,.of_steps (.one (fenced_calm hb hr rfl) stepR_loop) d⟩
theorem TL.round(h:TC P h0 N c env H (Qix P h0 N c Q)):TL P h0 N c env H Q:=by
 intro E B G σ a w r hrd b k cs hro hb hr;obtain⟨e,n,l,M,d⟩:=h E B G σ a w r hrd b (.inLoop c::k) cs hro hb hr;obtain⟨x,f,H',i,σ',j,m,t,y,u,F,s⟩:=M;have z:∀x,Q x f H'->ExR e x->Qa1 h0 B G σ w N a.defers Q e n l:=λx q O=>⟨x,f,H',i,σ',j,O,q,y,u,F,s⟩;cases e with
 |normal=>
  obtain rfl:x=.normal:=m;obtain⟨R,J,L,p,g⟩:=t E j i σ' n l y (hrd.to u s.sub) b k cs hro hb hr;exact⟨R,J,L,p.grow u F s,.of_steps (StepsIn.trans d (.one (fenced_calm hb hr rfl) stepR_inLoop)) g⟩
 |exit id=>
  obtain rfl:x=.exit id:=m;exact⟨_,n,l,z _ t rfl,.pass (x:=.inLoop c) rfl (λ_ _=>.inl (by simp)) d⟩
 |ret=>
  obtain rfl:x=.ret:=m;exact⟨_,n,l,z _ t rfl,.pass (x:=.inLoop c) rfl (λ_ _=>.inl (by simp)) d⟩
 |_=>exact m.elim
theorem unrN(h:TC P h0 N c env H (Qix P h0 N c Q)):Qix P h0 N c Q .normal env H:=TL.round h
theorem unrX{id:Nat}(h:Q (.exit id) env H):Qix P h0 N c Q (.exit id) env H:=h
theorem unrR(h:Q .ret env H):Qix P h0 N c Q .ret env H:=h
theorem Qkn(h:TC P h0 N c env H (Qix P h0 N c Q)):TC P h0 N (.loop c) env H Q:=Qmx (TL.round h)
end
section
variable {P:Program}{o:Oper}{env:Env}{H:Qc}
end
section
variable {P:Program}{o:Oper}{env:Env}{H:Qc}
end
def isNil{α R:Type}[DecidableEq R](l:List α)(x y:Option R):Option R:=bif l.isEmpty then(bif decide (x=y)then x else none)else y
theorem QlL{α R:Type}[DecidableEq R]{l:List α}{x y:Option R}{r:R}(h:isNil l x y=some r)(b:Bool)(d:l≠[]->b=false):(b=true->x=some r)/\(b=false->y=some r):=by
 unfold isNil at h;cases q:l.isEmpty with
 |true=>
  rw[q]at h;by_cases a:x=y
  .subst a;simp at h;exact⟨λ_=>h,λ_=>h⟩
  .simp[a]at h
 |false=>
  rw[q]at h;have f:l≠[]:=by rintro rfl;cases q
  refine⟨λe=>?_,λ_=>h⟩;rw[d f]at e;cases e
section
variable {P:Program}{o:Oper}{env:Env}{H:Qc}{h0 N:Nat}{Q:QC}
theorem QkG{α:Type}{e:α->List A}{T E k:Nat}{u:TypeId}{x:Operand}{l:List α}(p:P.underlying T=some (.slice E))(q:o.op=.binOp .eql T x (.const (.slice none 0 0)) u)(m:opA env x=.rsl k (l.map e)):
  OpE P o env H (λv H'=>∃b:Bool,v=.bool b/\(l≠[]->b=false)/\H'=H):=by
 intro z i σ N a w r;have h:=Qg r x;rw[m]at h;obtain⟨d,f,h,y,g⟩:=h;refine⟨.bool d.isNone,H,.bool d.isNone,w,i,[],⟨d.isNone,rfl,λj=>?_,rfl⟩,?_,rfl,by simpa using r.sim,Qf.refl _ _ _⟩
 .rcases g with g|⟨b,s,g,_⟩
  .exact absurd (List.map_eq_nil_iff.1 g) j
  .rw[g];rfl
 .have n:a.eval (.const (.slice none 0 0))=.slice none 0 0:=rfl;generalize a.eval=ρ at*;have t:(eqGuard .eql T x (.const (.slice none 0 0)) (.slice d (l.map e).length f) (.slice none 0 0)).run P w=.ok () w:=by simp[eqGuard]
  simp only[execOp,q,h,n,Vu,t,Result.andThen,Go.run_eql_slice_nil w T E d _ f p,Vv]
theorem Qmv{α:Type}{e:α->List A}{T E k d:Nat}{u:TypeId}{x:Operand}{l:List α}{all:Array Oper}{L:List Oper}(a:P.underlying T=some (.slice E))(i:opA env x=.rsl k (l.map e))
  (g:∀b:Bool,(l≠[]->b=false)->WO P h0 N all L (up env d (.bool b)) H Q)
  (h:o.op=.binOp .eql T x (.const (.slice none 0 0)) u:=by exact rfl)(hg:Qx all o env true:=by exact rfl)(hd:o.dst=some d:=by exact rfl)(hN:Nat.blt d N=true:=by exact rfl)(hh:Nat.ble h0 H.length=true:=by exact rfl):WO P h0 N all (o::L) env H Q:=by
 refine Qmu (XY hh) hg hd hN (QkG a h i) ?_;rintro v H' ⟨b,rfl,f,rfl⟩;exact g b f
end
theorem slc0{α:Type}{l x:List α}{i:Int}(h:slc l 0 i=some x):0<=i/\i.toNat<=l.length/\l.take i.toNat=x/\x.length=i.toNat:=by
 obtain⟨_,d,e,b⟩:=QdX h;have a:l.take i.toNat=x:=by simpa using b
 exact⟨d,by omega,a,by rw[<- a,XD];omega⟩
section
variable {P:Program}{o:Oper}{env:Env}{H:Qc}{α:Type}{e:α->List A}{T et k b t:Nat}{x y:Operand}{l l':List α}{i:Int}
end
end Go.Sw
namespace Go.Sw
open Go.Sort Go.Proofs Go.Shelf
def ltI(x y:Int):Bool:=decide (x<y)
def sortI(l:List Int):Option (List Int):=bif Nat.ble l.length QR then some (QaB ltI l)else none
theorem QgM{l l':List Int}(h:sortI l=some l'):l.length<=QR/\QaB ltI l=l':=by
 unfold sortI at h;cases e:Nat.ble l.length QR with
 |false=>rw[e]at h;simp at h
 |true=>rw[e]at h;exact⟨XY e,X7 h⟩
theorem Qac{l l':List Int}(h:sortI l=some l'):l.length=l'.length:=by
 rw[<- (QgM h).2];exact(QK _ _).length_eq.symm
theorem Qcr(l:List Int):QeN ltI l:=
 ⟨λx _=>by simp[ltI],λx _ y _ z _ a b=>by simp[ltI]at*;omega,λx _ y _ z _ a b=>by simp[ltI]at*;omega⟩
theorem Qdw(l:List Int):(l.mergeSort λx y=>decide (x<=y))=QaB ltI l:=by
 refine QaA (lt:=ltI) ?_ ?_ ?_ (Yy (Qcr l))
 .exact(List.mergeSort_perm _ _).trans (QK _ _).symm
 .intro x _ y _ a b;simp[ltI]at*;omega
 .refine(List.pairwise_mergeSort (le:=λx y=>decide (x<=y)) ?_ ?_ l).imp ?_
  .intro a b c;simp;omega
  .intro a b;simp;omega
  .intro a b;simp[ltI]
theorem Qjx{ro:Nat->Prop}{σ:Sig}{w:World}:∀{l:List Int}{lv:List Value},RL ro σ w 1 (l.map λx=>[A.int .i64 x]) lv->∃rest,lv=l.map (Value.int .i64)++rest
 |[],lv,_=>⟨lv,rfl⟩
 |x::l,lv,h=>by
  obtain⟨l1,l2,rfl,h1,⟨h2,h3⟩,h4⟩:=h;obtain⟨rest,rfl⟩:=Qjx (l:=l) h4;obtain⟨v,r,rfl,hv,hr⟩:=h2;cases(show r=[]from hr);exact⟨rest,by rw[show v=.int .i64 x from hv];simp⟩
theorem QeQ{ro:Nat->Prop}{σ:Sig}{w:World}:∀(l:List Int) (rest:List Value),RL ro σ w 1 (l.map λx=>[A.int .i64 x]) (l.map (Value.int .i64)++rest)
 |[],_=>trivial
 |x::l,rest=>⟨[.int .i64 x],l.map (Value.int .i64)++rest,by simp,rfl,⟨⟨_,_,rfl,rfl,rfl⟩,by simp[QA]⟩,QeQ l rest⟩
theorem QjE{P:Program}{ρ:Ren}(L:Lays.n189 P ρ){t:Nat}{l l':List Int}(hs:sortI l=some l'):
  C P (ρ.f 189) [.osl 0 0 l.length 1] [.row t 1 (l.map λx=>[A.int .i64 x])] (λa H=>a=.tup []/\H=[.row t 1 (l'.map λx=>[A.int .i64 x])]):=by
 intro fr N σ vals w s hv;obtain⟨vs,r1,rfl,ab,hr⟩:=hv;cases(show r1=[]from hr);obtain⟨Q,X⟩:=QgM hs;have d:∀(ad:Option Addr) (c:Nat),vs=.slice ad 0 c->l=[]->
   Calls P (ρ.f 189) [vs].toArray w λe R=>∃v r H' ro' τ,e=.returned v/\(r=.tup []/\H'=[.row t 1 (l'.map λx=>[A.int .i64 x])])/\Sim fr ro' (σ++τ) H' R/\VR ro' (σ++τ) R r v/\Qf fr N w ro' R:=by
  rintro ad c rfl rfl;have F:l'=[]:=by rw[<- X];rfl
  subst F;refine(Any.slices_Sort_int_none L ad c w).mono ?_;rintro e R ⟨rfl,rfl⟩;exact⟨_,_,_,N,[],rfl,⟨rfl,rfl⟩,by simpa using s,⟨[],rfl,rfl⟩,Qf.refl _ _ _⟩
 rcases ab with⟨h0,rfl⟩|⟨b,p,cp,t',m,q1,rfl,q2,q3,q4,q5⟩
 .exact d none 0 rfl (List.length_eq_zero_iff.1 h0)
 .by_cases F:l=[]
  .subst F;exact d _ cp rfl rfl
  .have ag:0<l.length:=List.length_pos_iff.2 F;obtain rfl:=q2 (Vn ag q3);obtain⟨lv,e1,e2⟩:=s.blk 0 _ _ q1 rfl;obtain⟨hb,aa,V⟩:=s.own 0 b _ q1 rfl rfl;obtain⟨u,rfl⟩:=Qjx e2;have hH:Holds (Value.int .i64) w b 0 l.toArray:=by
    intro j hj;simp only[List.size_toArray]at hj;constructor
    .unfold World.cell?;simp only[e1,Option.isSome_none,Xj,if_false,XB];rw[QaP,XT (by simpa using hj)];simp[hj]
    .unfold World.frozen?;simp only[e1];simp
   have z:=Any.slices_Sort_int L b 0 cp l w hH hb (by unfold QR at Q;omega);rw[Qdw,X]at z;simp only[Nat.zero_mul]at z⊢;refine z.mono ?_;rintro e R ⟨rfl,n,os,rfl⟩;have E:l.length=l'.length:=Qac hs;generalize hW:grow (putRow (Value.int .i64) (Sort.ahead w n) b 0 l'.toArray) os=W;have g:W.heap=w.heap.setIfInBounds b (.cells ((l'.map (Value.int .i64)++u)).toArray t (0,0))++os:=by
    rw[<- hW];show(w.heap.modify b _)++os=_;rw[QbK e1];simp only[onCells];congr 3;unfold putCells;apply Array.ext_getElem?;intro i;simp only[Array.getElem?_mapIdx,QaP,X2,true_and,XB,XA,List.size_toArray];by_cases hi:i<l'.length
    .rw[XT (by simpa[E]using hi),XT (by simpa using hi)];simp[hi,E]
    .rw[XU (by simp;omega),XU (by simp;omega)];simp only[X9,E];cases(u[i-l'.length]?)with
     |none=>rfl
     |some v=>exact congrArg some (if_neg hi)
   have g1:∀c,c<w.heap.size->c≠b->W.heap[c]?=w.heap[c]? :=by
    intro c k ac;rw[g,Array.getElem?_append_left (by simpa using k),Vm,if_neg (λq=>ac q.symm)]
   have g2:W.heap[b]?=some (.cells ((l'.map (Value.int .i64)++u)).toArray t (0,0)):=by
    rw[g,Array.getElem?_append_left (by simpa using hb),Vm,if_pos rfl,if_pos hb]
   have g3:w.heap.size<=W.heap.size:=by rw[g];simp
   have B:∀c y,w.shape? c=some y->W.shape? c=some y:=by
    intro c y J;by_cases k:c=b
    .subst k;unfold World.shape? at J⊢;rw[e1]at J;rw[g2];simp only[Option.some.injEq]at J⊢;rw[<- J];simp[E]
    .unfold World.shape? at J⊢;rw[g1 c (Qcg J) k];exact J
   have ae:W.os=w.os:=by rw[<- hW];rfl
   have ah:W.tape=w.tape:=by rw[<- hW];rfl
   have af:W.output=w.output:=by rw[<- hW];rfl
   have ai:w.drawn<=W.drawn:=by rw[<- hW];exact Nat.le_add_right _ _
   have Y:Qf fr N w N W:=
    ⟨λ_ q=>q,λc k=>g1 c (s.roLt c k) (λq=>aa (q▸k)),λc k=>g1 c (s.frLt c k) (λq=>V (q▸k)),g3,B,ae,ah,af,ai⟩
   have G:σ.length=1:=s.len;have T:Sim fr N σ [.row t 1 (l'.map λx=>[A.int .i64 x])] W:=by
    have i0:∀{i:Nat}{x:Blk},([.row t 1 (l'.map λx=>[A.int .i64 x])]:Qc)[i]?=some x->i=0/\x=.row t 1 (l'.map λx=>[A.int .i64 x]):=by
     intro i x h;cases i with
     |zero=>simp at h;exact⟨rfl,h.symm⟩
     |succ i=>simp at h
    refine⟨G,s.roOk.to (λ_ q=>q) Y.keepRo (λc k=>Vn (s.roLt c k) g3),λc k=>Vn (s.frLt c k) g3,s.roFr,λi c x O M h3=>?_,λi j c x y O M h3 h4 _ _=>?_,λi y x O M=>?_,λi b x c O M h3=>by obtain⟨rfl,rfl⟩:=i0 M;exact h3.elim⟩
    .obtain⟨rfl,rfl⟩:=i0 M;obtain⟨p1,p2⟩:=s.own 0 c _ O rfl rfl;exact⟨Vn p1 g3,p2⟩
    .rw[(i0 h3).1,(i0 h4).1]
    .obtain⟨rfl,rfl⟩:=i0 M;rw[q1]at O;cases O;exact⟨_,g2,QeQ l' u⟩
   exact⟨_,_,_,N,[],rfl,⟨rfl,rfl⟩,by simpa using T,⟨[],rfl,rfl⟩,Y⟩
section
variable {P:Program}{o:Oper}{env:Env}{H:Qc}{α:Type}{e:α->List A}{T et k b t:Nat}{x y:Operand}
theorem QfQ{lo g:Option Operand}{l r:List α}{a c:Int}(h:slc l a c=some r)(E1:∀w,(underlying T).run P w=.ok (.slice et) w)(E2:∀w,(sizeOf et).run P w=.ok k w)
  (i:lo=none/\a=0\/ ∃y,lo=some y/\opA env y=.int .i64 a)(f:g=none/\c=l.length\/ ∃y,g=some y/\opA env y=.int .i64 c)
  (m:o.op=.slice T x lo g none:=by exact rfl)(hx:opA env x=.osl b 0 l.length k:=by exact rfl):OpV P o env H (.osl b (0+a.toNat) (c.toNat-a.toNat) k):=by
 obtain⟨j,p,n,_⟩:=QdX h;refine QhO (l:=a.toNat) (h:=c.toNat) E1 E2 m hx ?_ ?_ (by omega) (by omega)
 .rcases i with⟨d,e⟩|⟨y,d,e⟩
  .exact .inl ⟨d,by rw[e];rfl⟩
  .exact .inr ⟨y,a,d,e,j,rfl⟩
 .rcases f with⟨d,e⟩|⟨y,d,e⟩
  .exact .inl ⟨d,by rw[e];simp⟩
  .exact .inr ⟨y,c,d,e,by omega,rfl⟩
end
end Go.Sw
namespace Go.Sw
inductive Bx where
 |mk (a:A)
def lkB:Env->Nat->Bx
 |[],_=>.mk .any
 |(d,a)::r,s=>bif Nat.beq s d then .mk a else lkB r s
theorem Qh8:∀{env:Env}{s:Nat}{a:A},lkB env s=.mk a->lk env s=a
 |[],s,a,h=>by cases h;rfl
 |(d,b)::r,s,a,h=>by
  unfold lkB at h;unfold lk;cases q:Nat.beq s d with
  |true=>rw[q]at h;cases h;rfl
  |false=>rw[q]at h;exact Qh8 h
inductive FBy where
 |mk (l:List UInt8)
def fby:List UInt8->FBy
 |[]=>.mk []
 |a::r=>match fby r with
  |.mk r'=>.mk (a::r')
theorem QlV:∀l:List UInt8,fby l=.mk l
 |[]=>rfl
 |a::r=>by unfold fby;rw[QlV r]
def opB(env:Env):Operand->Bx
 |.tmp t=>lkB env t
 |.const (.bool b)=>.mk (.bool b)
 |.const (.int k n)=>.mk (.int k n)
 |.const (.string s)=>match fby s.data.toList with
  |.mk l=>.mk (.str l)
 |.const (.pointer none)=>.mk .nilp
 |.const (.slice none 0 0)=>.mk .nils
 |.const (.map none)=>.mk .nilm
 |.const .nilFunc=>.mk .nilf
 |.const .nilIface=>.mk .nilif
 |.func f=>.mk (.fn (.func f) [] [])
 |_=>.mk .any
theorem QB{env:Env}{x:Operand}{a:A}(h:opB env x=.mk a):opA env x=a:=by
 cases x with
 |tmp t=>exact Qh8 h
 |const v=>
  cases v with
  |slice b n k=>cases b with
   |none=>cases n with
    |zero=>cases k<;>(cases h;rfl)
    |succ n=>cases h;rfl
   |some b=>cases h;rfl
  |pointer p=>cases p<;>(cases h;rfl)
  |map p=>cases p<;>(cases h;rfl)
  |string s=>
   have d:(match fby s.data.toList with|.mk l=>Bx.mk (.str l))=.mk a:=h;rw[QlV]at d;cases d;rfl
  |_=>cases h;rfl
 |global g=>cases h;rfl
 |func f=>cases h;rfl
def YO{α:Type}:List α->Nat->Option α
 |[],_=>none
 |a::_,0=>some a
 |_::r,n+1=>YO r n
theorem Qax{α:Type}:∀(l:List α) (n:Nat),YO l n=l[n]?
 |[],n=>by simp[YO]
 |a::r,0=>rfl
 |a::r,n+1=>by simp[YO,Qax r n]
def arB:BinOp->IntKind->Int->Int->Option A
 |.add,k,m,n=>some (.int k (k.wrap (m+n)))
 |.sub,k,m,n=>some (.int k (k.wrap (m-n)))
 |.mul,k,m,n=>some (.int k (k.wrap (m*n)))
 |.eql,_,m,n=>some (.bool (m==n))
 |.neq,_,m,n=>some (.bool (m != n))
 |.lss,_,m,n=>some (.bool (decide (m<n)))
 |.leq,_,m,n=>some (.bool (decide (m<=n)))
 |.gtr,_,m,n=>some (.bool (decide (n<m)))
 |.geq,_,m,n=>some (.bool (decide (n<=m)))
 |_,_,_,_=>none
def srB:BinOp->List UInt8->List UInt8->Option A
 |.eql,p,q=>some (.bool (p==q))
 |.neq,p,q=>some (.bool (p != q))
 |.lss,p,q=>some (.bool (Op.bytesLess p q))
 |_,_,_=>none
def biB(b:BinOp):Bx->Bx->Option A
 |.mk (.int k m),.mk (.int k' n)=>if k=k' then arB b k m n else none
 |.mk (.str p),.mk (.str q)=>srB b p q
 |_,_=>none
def unB:UnOp->Bx->Option A
 |.not,.mk (.bool b)=>some (.bool !b)
 |.neg,.mk (.int k n)=>some (.int k (k.wrap (0-n)))
 |_,_=>none
def exB:Bx->Nat->Option A
 |.mk (.tup vs),i=>YO vs i
 |_,_=>none
def nlB:Bx->Option A
 |.mk (.ptr i j)=>some (.ptr i j)
 |.mk (.rp cs)=>some (.rp cs)
 |_=>none
def piB:Bx->Bx->Bx->Option A
 |.mk (.bool true),.mk a,_=>some a
 |.mk (.bool false),_,.mk a=>some a
 |_,_,_=>none
def svB(env:Env):Op->Option A
 |.move x=>match opB env x with|.mk a=>some a
 |.assign x=>match opB env x with|.mk a=>some a
 |.nilCheck x=>nlB (opB env x)
 |.extract x i=>exB (opB env x) i
 |.unOp u _ x=>unB u (opB env x)
 |.pick c x y=>piB (opB env c) (opB env x) (opB env y)
 |.binOp b _ x y _=>biB b (opB env x) (opB env y)
 |_=>none
def pr(d:Nat):Option A->Option (Nat×A)
 |some a=>some (d,a)
 |none=>none
def stB(o:Oper)(env:Env):Option (Nat×A):=
 match o.dst with
 |some d=>pr d (svB env o.op)
 |none=>none
section
variable {P:Program}{h0 N:Nat}{all:Array Oper}{o:Oper}{l:List Oper}{env:Env}{H H':Qc}{Q:QC}{d:Nat}{x:A}
theorem Qbr{p:Op}(d:o.op=p)(h:svB env p=some x):OpV P o env H x:=by
 unfold svB at h;split at h
 .rename_i y;cases q:opB env y with|mk a=>rw[q]at h;cases h;exact OpV.move d (QB q)
 .rename_i y;cases q:opB env y with|mk a=>rw[q]at h;cases h;exact OpV.assign d (QB q)
 .rename_i y;unfold nlB at h;split at h
  .rename_i i j q;cases h;exact QeS d (QB q) rfl
  .rename_i s q;cases h;exact QeS d (QB q) rfl
  .cases h
 .rename_i y i;unfold exB at h;split at h
  .rename_i vs _ q;rw[Qax]at h;exact OpV.extract d (QB q) h
  .cases h
 .rename_i u t y;unfold unB at h;split at h
  .rename_i b q;cases h;exact OpV.not d (QB q)
  .rename_i k n q;cases h;exact OpV.neg d (QB q)
  .cases h
 .rename_i c y z;unfold piB at h;split at h
  .rename_i a _ l r;cases h;exact OpV.pick d (QB l) (by rw[if_pos rfl];exact QB r)
  .rename_i a l r;cases h;exact OpV.pick d (QB l) (by rw[if_neg (by decide)];exact QB r)
  .cases h
 .rename_i b t y z u;unfold biB at h;split at h
  .rename_i k m w n l r;split at h
   .rename_i e;subst e;have g:=QB l;have f:=QB r;unfold arB at h;split at h
    .cases h;exact OpV.add d g f
    .cases h;exact OpV.sub d g f
    .cases h;exact OpV.mul d g f
    .cases h;exact OpV.eql d g f
    .cases h;exact OpV.neq d g f
    .cases h;exact OpV.lss d g f
    .cases h;exact OpV.leq d g f
    .cases h;exact OpV.gtr d g f
    .cases h;exact OpV.geq d g f
    .cases h
   .cases h
  .rename_i p q l r;have g:=QB l;have f:=QB r;unfold srB at h;split at h
   .cases h;exact Qkw d g f
   .cases h;exact Qkt d g f
   .cases h;exact Qku d g f
   .cases h
  .cases h
 .cases h
theorem QfY(h:stB o env=some (d,x)):o.dst=some d/\OpV P o env H x:=by
 unfold stB at h;split at h
 .rename_i b q;cases e:svB env o.op with
  |none=>rw[e]at h;cases h
  |some a=>rw[e]at h;cases h;exact⟨q,Qbr rfl e⟩
 .cases h
theorem S(e:stB o env=some (d,x))(k:WO P h0 N all l (up env d x) H Q)(hg:Qx all o env true:=by exact rfl)(hN:Nat.blt d N=true:=by exact rfl):WO P h0 N all (o::l) env H Q:=
 QH hg (QfY (P:=P) (H:=H) e).1 hN (QfY e).2 k
theorem Sg(hg:Qx all o env true)(e:stB o env=some (d,x))(k:WO P h0 N all l (up env d x) H Q)(a:Nat.blt d N=true:=by exact rfl):WO P h0 N all (o::l) env H Q:=
 QH hg (QfY (P:=P) (H:=H) e).1 a (QfY e).2 k
theorem K(hg:Qx all o env false)(a:o.dst=some d)(k:WO P h0 N all l (up env d (.tup [])) H Q)(b:Nat.blt d N=true:=by exact rfl):WO P h0 N all (o::l) env H Q:=
 WO.skip hg a b k
def p2B(v:Bool):Bx->Bx->Bx->Option (Bool×A)
 |.mk (.bool b),.mk a,.mk a'=>match v with|true=>some (b,a)|false=>some (b,a')
 |_,_,_=>none
def pr2(d:Nat):Option (Bool×A)->Option (Nat×Bool×A)
 |some a=>some (d,a)
 |none=>none
def pkB(v:Bool)(o:Oper)(env:Env):Option (Nat×Bool×A):=
 match o.dst,o.op with
 |some d,.pick c x y=>pr2 d (p2B v (opB env c) (opB env x) (opB env y))
 |_,_=>none
theorem QoD{v b:Bool}{p q r:Bx}(h:p2B v p q r=some (b,x)):∃a a',p=.mk (.bool b)/\q=.mk a/\r=.mk a'/\(bif v then a else a')=x:=by
 obtain⟨p⟩:=p;obtain⟨q⟩:=q;obtain⟨r⟩:=r;cases p<;>first|(cases h;done)|skip
 cases v<;>cases h<;>exact⟨_,_,rfl,rfl,rfl,rfl⟩
theorem Qls{v b:Bool}(h:pkB v o env=some (d,b,x))(f:b=v):o.dst=some d/\OpV P o env H x:=by
 unfold pkB at h;split at h
 .rename_i p c y z i m;cases e:p2B v (opB env c) (opB env y) (opB env z)with
  |none=>rw[e]at h;cases h
  |some s=>
   rw[e]at h;cases h;obtain⟨a,n,k,l,j,g⟩:=QoD e;refine⟨i,OpV.pick m (QB k) ?_⟩;rw[QB l,QB j,f];cases v<;>exact g
 .cases h
theorem Pk{v b:Bool}(a:b=v)(e:pkB v o env=some (d,b,x))(k:WO P h0 N all l (up env d x) H Q)(hg:Qx all o env true:=by exact rfl)(hN:Nat.blt d N=true:=by exact rfl):WO P h0 N all (o::l) env H Q:=
 QH hg (Qls (P:=P) (H:=H) e a).1 hN (Qls e a).2 k
def fpB(o:Oper)(env:Env):Option (Nat×Nat×Nat×Nat×Nat):=
 match o.dst,o.op with
 |some d,.fieldAddr T x f=>match opB env x with
  |.mk (.ptr i p)=>some (d,T,f,i,p)
  |_=>none
 |_,_=>none
theorem Qge{T f off n i p:Nat}(e:Y8 P T f off n)(h:fpB o env=some (d,T,f,i,p)):o.dst=some d/\OpV P o env H (.ptr i (p+off)):=by
 unfold fpB at h;split at h
 .rename_i a b;split at h
  .rename_i g;cases h;exact⟨a,Qcb e b (QB g)⟩
  .cases h
 .cases h
theorem Fp{T f off n i p:Nat}(a:Y8 P T f off n)(e:fpB o env=some (d,T,f,i,p))(k:WO P h0 N all l (up env d (.ptr i (p+off))) H Q)(hg:Qx all o env true:=by exact rfl)(hN:Nat.blt d N=true:=by exact rfl):WO P h0 N all (o::l) env H Q:=
 QH hg (Qge (H:=H) a e).1 hN (Qge a e).2 k
theorem Fpg{T f off n i p:Nat}(hg:Qx all o env true)(a:Y8 P T f off n)(e:fpB o env=some (d,T,f,i,p))(k:WO P h0 N all l (up env d (.ptr i (p+off))) H Q)(b:Nat.blt d N=true:=by exact rfl):WO P h0 N all (o::l) env H Q:=
 QH hg (Qge (H:=H) a e).1 b (Qge a e).2 k
inductive Lx where
 |mk (l:List A)
def Qhx:Nat->List A->Lx
 |0,l=>.mk l
 |n+1,_::r=>Qhx n r
 |_+1,[]=>.mk []
theorem QeF:∀{n:Nat}{l r:List A},Qhx n l=.mk r->l.drop n=r
 |0,l,r,h=>by cases h;rfl
 |n+1,a::l,r,h=>by rw[List.drop_succ_cons];exact QeF h
 |n+1,[],r,h=>by cases h;rfl
def ctB:Option Blk->Nat->Option A
 |some (.cells _ cs),off=>YO cs off
 |_,_=>none
def lvB(H:Qc):Bx->Option A
 |.mk (.ptr i off)=>ctB (YO H i) off
 |.mk (.rp (a::_))=>some a
 |_=>none
def pr3(d t:Nat):Option A->Option (Nat×Nat×A)
 |some a=>some (d,t,a)
 |none=>none
def ldB(o:Oper)(env:Env)(H:Qc):Option (Nat×Nat×A):=
 match o.dst,o.op with
 |some d,.load t x=>pr3 d t (lvB H (opB env x))
 |_,_=>none
theorem Qga{t:Nat}(k:∀w,(isAgg t).run P w=.ok false w)(h:ldB o env H=some (d,t,x)):o.dst=some d/\OpV P o env H x:=by
 unfold ldB at h;split at h
 .rename_i p s y n l;cases e:lvB H (opB env y)with
  |none=>rw[e]at h;cases h
  |some a=>
   rw[e]at h;cases h;refine⟨n,?_⟩;unfold lvB at e;split at e
   .rename_i i b g;unfold ctB at e;split at e
    .rename_i b q T0 T cs q4;rw[Qax]at e q4;obtain⟨f,m⟩:∃f,cs.drop b=x::f:=by
      have j:=(XS.1 e).1;refine⟨cs.drop (b+1),?_⟩;rw[Xs j,(XS.1 e).2]
     exact OpV.load l k (QB g) (Pts.cells q4 m)
    .cases e
   .rename_i a r g;cases e;exact OpV.load l k (QB g) Pts.rp
   .cases e
 .cases h
theorem Ld{t:Nat}(a:∀w,(isAgg t).run P w=.ok false w)(e:ldB o env H=some (d,t,x))(k:WO P h0 N all l (up env d x) H Q)(hg:Qx all o env true:=by exact rfl)(hN:Nat.blt d N=true:=by exact rfl):WO P h0 N all (o::l) env H Q:=
 QH hg (Qga a e).1 hN (Qga a e).2 k
theorem Ldg{t:Nat}(hg:Qx all o env true)(a:∀w,(isAgg t).run P w=.ok false w)(e:ldB o env H=some (d,t,x))(k:WO P h0 N all l (up env d x) H Q)(b:Nat.blt d N=true:=by exact rfl):WO P h0 N all (o::l) env H Q:=
 QH hg (Qga a e).1 b (Qga a e).2 k
def ixB(o:Oper)(env:Env):Option (Nat×Nat×Nat×List (List A)×IntKind×Int):=
 match o.dst,o.op with
 |some d,.indexAddr t x y=>match opB env x,opB env y with
  |.mk (.rsl k es),.mk (.int kk i)=>some (d,t,k,es,kk,i)
  |_,_=>none
 |_,_=>none
theorem Ix{α:Type}{e:α->List A}{t et k:Nat}{L:List α}{g:IntKind}{i:Int}{v:α}(h:idx L i=some v)(f:∀w,(underlying t).run P w=.ok (.slice et) w)(p:∀w,(sizeOf et).run P w=.ok k w)
  (q:ixB o env=some (d,t,k,L.map e,g,i))(k:WO P h0 N all l (up env d (.rp (e v))) H Q)(hg:Qx all o env true:=by exact rfl)(hN:Nat.blt d N=true:=by exact rfl):WO P h0 N all (o::l) env H Q:=by
 unfold ixB at q;split at q
 .rename_i b n;split at q
  .rename_i m a;simp only[Option.some.injEq,Prod.mk.injEq]at q;obtain⟨rfl,rfl,rfl,j,rfl,rfl⟩:=q;exact QH hg b hN (YJ h f p n (by rw[QB m,j]) (QB a)) k
  .cases q
 .cases q
def lnB(o:Oper)(env:Env):Option (Nat×Nat×Bx):=
 match o.dst,o.op with
 |some d,.call c=>match c with
  |{callee:=.builtin .len,args:=⟨[x]⟩,argTypes:=⟨[t]⟩}=>some (d,t,opB env x)
  |_=>none
 |_,_=>none
theorem QoH{t:Nat}{b:Bx}(q:lnB o env=some (d,t,b)):∃x,o.dst=some d/\o.op=.call {callee:=.builtin .len,args:= #[x],argTypes:= #[t]}/\opB env x=b:=by
 unfold lnB at q;split at q
 .rename_i a e;split at q
  .cases q;exact⟨_,a,e,rfl⟩
  .cases q
 .cases q
theorem LnM{α:Type}{e:α->List A}{t et k:Nat}{L:List α}(b:∀w,(underlying t).run P w=.ok (.slice et) w)(q:lnB o env=some (d,t,.mk (.rsl k (L.map e))))
  (k:WO P h0 N all l (up env d (.int .i64 L.length)) H Q)(hg:Qx all o env true:=by exact rfl)(hN:Nat.blt d N=true:=by exact rfl):WO P h0 N all (o::l) env H Q:=by
 obtain⟨x,a,f,g⟩:=QoH q;exact QH hg a hN (Yz b f rfl (QB g)) k
end
section
variable {P:Program}{h0 N:Nat}{all:Array Oper}{env env':Env}{H H':Qc}{Q:QC}{c c':Code}
theorem Nx(h:TC P h0 N c env H Q):WO P h0 N all [] env H (Seq P h0 N c Q):=WO.nil (Qk3 h)
theorem Rg{id:Nat}{l:List Oper}(h:WO P h0 N l.toArray l env H (Seq P h0 N c Q)):TC P h0 N (.seq (.region id l.toArray false) c) env H Q:=TC.seq (TC.region h)
theorem SkN(h:TC P h0 N c env H Q):TC P h0 N .skip env H (Seq P h0 N c Q):=TC.skip (Qk3 h)
theorem ExX{id:Nat}(h:Q (.exit id) env H):TC P h0 N (.exit id) env H (Seq P h0 N c Q):=TC.exit (seqX h)
theorem Oi{α:Type}{x y:α}(h:some x=some y):x=y:=X7 h
theorem Bd{α β:Type}{x:Option α}{f:α->Option β}{r:β}{G:Prop}(h:x.bind f=some r)(k:∀a,x=some a->f a=some r->G):G:=by
 obtain⟨a,d,b⟩:=YP h;exact k a d b
theorem If{α:Type}{c:Bool}{x y:Option α}{r:α}{G:Prop}(h:(bif c then x else y)=some r)(t:c=true->x=some r->G)(e:c=false->y=some r->G):G:=by
 cases c with
 |true=>exact t rfl h
 |false=>exact e rfl h
theorem Cn{α:Type}{x:Operand}{t:Bool}{p q:Option α}{r:α}(hx:opB env x=.mk (.bool t))(h:(bif t then p else q)=some r)(ht:t=true->p=some r->TC P h0 N c env H Q)(hf:t=false->q=some r->TC P h0 N c' env H Q):TC P h0 N (.cond x c c') env H Q:=
 TC.cond (QB hx) (λe=>ht e (ifT e h)) (λe=>hf e (ifF e h))
theorem Ya{α:Type}{x:Operand}{t:Bool}{p q:Option α}{r:α}(hx:opB env x=.mk (.bool t))(h:(bif t then p else q)=some r)(hf:t=false->q=some r->TC P h0 N c' env H Q)(ht:t=true->p=some r->TC P h0 N c env H Q):TC P h0 N (.cond x c c') env H Q:=
 TC.cond (QB hx) (λe=>ht e (ifT e h)) (λe=>hf e (ifF e h))
theorem CnF{x:Operand}{t:Bool}(h:t=false)(hx:opB env x=.mk (.bool t))(hf:TC P h0 N c' env H Q):TC P h0 N (.cond x c c') env H Q:=QhJ (QB hx) h hf
theorem Lr(π:List Nat)(a:π.take h0=List.range h0:=by exact rfl)(hH:π.map (λp=>H[p]?)=(H'.map (QZ (rho π H.length))).map some:=by exact rfl)(hπ:π.Nodup:=by decide)
  (hE:Qe4 (rho π H.length) env env':=by(repeat' (first|exact trivial|refine⟨rfl,?_⟩))):Le h0 env H env' H':=Qo5 π a hH hπ hE
end
end Go.Sw
namespace Go.Sw
def Ev{α:Type}(f:Nat->Option α)(v:α):Prop:=∃N,∀n,N<=n->f n=some v
section
variable {α β:Type}{f g:Nat->Option α}{v w:α}
theorem Qa(v:α):Ev (λ_=>some v) v:=⟨0,λ_ _=>rfl⟩
theorem Ev.const{o:Option α}(h:o=some v):Ev (λ_=>o) v:=⟨0,λ_ _=>h⟩
theorem Ev.bind{k:Nat->α->Option β}{b:β}(h:Ev f v)(a:Ev (λn=>k n v) b):Ev (λn=>(f n).bind (k n)) b:=by
 obtain⟨N,h⟩:=h;obtain⟨M,a⟩:=a;exact⟨max N M,λn d=>by show(f n).bind (k n)=some b;rw[h n (by omega),XQ];exact a n (by omega)⟩
theorem QaH{o:Option α}{k:Nat->α->Option β}{b:β}(h:o=some v)(hk:Ev (λn=>k n v) b):Ev (λn=>o.bind (k n)) b:=Ev.bind (Ev.const h) hk
theorem YN{c:Bool}(a:c=true->Ev f v)(b:c=false->Ev g w):Ev (λn=>bif c then f n else g n) (bif c then v else w):=by
 cases c with
 |true=>exact a rfl
 |false=>exact b rfl
theorem QhV(h:Ev f v):Ev (λn=>bif true then f n else g n) v:=h
theorem Ym(h:Ev g v):Ev (λn=>bif false then f n else g n) v:=h
theorem Ev.and{c d:Bool}{h:Nat->Option Bool}(a:c=true->Ev h d):Ev (λn=>bif c then h n else some false) (c&&d):=by
 cases c with
 |true=>exact a rfl
 |false=>exact Qa _
theorem Qi{c d:Bool}{h:Nat->Option Bool}(a:c=false->Ev h d):Ev (λn=>bif c then some true else h n) (c||d):=by
 cases c with
 |true=>exact Qa _
 |false=>exact a rfl
theorem Ev.eq(h:Ev f v)(e:v=w):Ev f w:=e▸h
theorem QhW(h:Ev f v)(e:∀n,g n=f n):Ev g v:=by
 obtain⟨N,h⟩:=h;exact⟨N,λn a=>by rw[e];exact h n a⟩
theorem Y0(h:Ev (λn=>f (n+1)) v):Ev f v:=by
 obtain⟨N,h⟩:=h;refine⟨N+1,λn a=>?_⟩;obtain⟨m,rfl⟩:∃m,n=m+1:=⟨n-1,by omega⟩;exact h m (by omega)
theorem Ev.ex(h:Ev f v):∃n,f n=some v:=let⟨N,h⟩:=h;⟨N,h N (X0 _)⟩
theorem Ev.uniq(h:Ev f v)(k:Ev f w):v=w:=by
 obtain⟨N,h⟩:=h;obtain⟨M,k⟩:=k;have a:=h (max N M) (by omega);rw[k (max N M) (by omega)]at a;exact(X7 a).symm
theorem Ev.all{k:Nat}{F:Nat->Nat->Option α}{V:Nat->α}(h:∀i,i<k->Ev (F i) (V i)):∃N,∀n,N<=n->∀i,i<k->F i n=some (V i):=by
 induction k with
 |zero=>exact⟨0,λn _ i a=>absurd a (Xo _)⟩
 |succ k d=>
  obtain⟨N,e⟩:=d λi a=>h i (by omega);obtain⟨M,b⟩:=h k (by omega);refine⟨max N M,λn f i a=>?_⟩;rcases Xq.1 a with q|rfl
  .exact e n (by omega) i q
  .exact b n (by omega)
end
section
variable {S B α:Type}{step:Nat->S->Option (Ctl S B)}
theorem Ev.iter{s0:S}(a:Nat->S)(k:Nat){b:B}(h0:a 0=s0)(f:∀i,i<k->Ev (λn=>step n (a i)) (.cont (a (i+1))))(d:Ev (λn=>step n (a k)) (.done b)):
  Ev (λn=>Go.Sw.iter (step n) n s0) b:=by
 obtain⟨N,g⟩:=Ev.all f;obtain⟨M,h⟩:=d;exact⟨max (max N M) (k+1),λn j=>QlK s0 a b k h0 (λi e=>g n (by omega) i e) (h n (by omega)) n (by omega)⟩
theorem Qa4{step:S->Option (Ctl S B)}{s:S}{b:B}(m:Nat)(h:Go.Sw.iter step m s=some b):Ev (λn=>Go.Sw.iter step n s) b:=by
 have mono:∀m s,Go.Sw.iter step m s=some b->∀n,m<=n->Go.Sw.iter step n s=some b:=by
  intro m
  induction m with
  |zero=>intro s h;cases h
  |succ m g=>
   intro s h n d;obtain⟨a,rfl⟩:∃a,n=a+1:=⟨n-1,by omega⟩;simp only[Go.Sw.iter]at h⊢;cases e:step s with
   |none=>rw[e]at h;cases h
   |some c=>
    rw[e]at h;cases c with
    |cont f=>exact g f h a (by omega)
    |done i=>exact h
 exact⟨m,λn d=>mono m s h n d⟩
structure At (l:List α) (i:Nat) (x:α):Prop where
 get:l[i]?=some x
 lt:decide ((i:Int)<(l.length:Int))=true
 ix:idx l (i:Int)=some x
 nx:IntKind.i64.wrap ((i:Int)+1)=((i+1:Nat):Int)
theorem Jp{l:List α}{i:Nat}{x:α}(a:l.length<=4611686018427387904)(h:l[i]?=some x):At l i x:=by
 have b:=(XS.1 h).1;exact⟨h,decide_eq_true (by omega),Qq h,Qay (by omega)⟩
theorem At.mem{l:List α}{i:Nat}{x:α}(h:At l i x):x∈l:=List.mem_of_getElem? h.get
theorem At.lt'{l:List α}{i:Nat}{x:α}(h:At l i x):i<l.length:=(XS.1 h.get).1
theorem At.take{l:List α}{i:Nat}{x:α}(h:At l i x):l.take (i+1)=l.take i++[x]:=by
 rw[List.take_add_one,h.get];rfl
theorem YR(l:List α):decide ((l.length:Int)<(l.length:Int))=false:=decide_eq_false (by omega)
theorem QbG{s0:S}(l:List α)(q:α->Bool)(f:Nat->S)(w b:B)(r:l.length<=4611686018427387904)(h0:f 0=s0)
  (u:∀i x,At l i x->q x=false->Ev (λn=>step n (f i)) (.cont (f (i+1))))
  (d:∀i x,At l i x->q x=true->Ev (λn=>step n (f i)) (.done w))
  (F:Ev (λn=>step n (f l.length)) (.done b)):Ev (λn=>Go.Sw.iter (step n) n s0) (bif l.any q then w else b):=by
 have s:∀k,k<=l.length->(∀i x,l[i]?=some x->i<k->q x=false)\/ ∃i x,l[i]?=some x/\i<k/\q x=true/\ ∀j y,l[j]?=some y->j<i->q y=false:=by
  intro k
  induction k with
  |zero=>intro _;exact .inl λi x _ a=>absurd a (Xo _)
  |succ k J=>
   intro L;rcases J (by omega)with h|⟨i,x,m,G,p⟩
   .have t:l[k]?=some l[k]:=XR (by omega);cases e:q l[k]with
    |true=>exact .inr ⟨k,_,t,Xp _,e,h⟩
    |false=>
     refine .inl λi x d a=>?_;rcases Xq.1 a with z|rfl
     .exact h i x d z
     .rw[t]at d;cases d;exact e
   .exact .inr ⟨i,x,m,by omega,p⟩
 rcases s l.length (X0 _)with h|⟨i,x,m,G,p,E⟩
 .have:l.any q=false:=by
   rw[Bool.eq_false_iff];intro e;obtain⟨x,d,e⟩:=Xx.1 e;obtain⟨i,a,rfl⟩:=List.getElem_of_mem d;rw[h i _ (XR a) a]at e;cases e
  rw[this];exact Ev.iter f l.length h0 (λi a=>u i _ (Jp r (XR a)) (h i _ (XR a) a)) F
 .have:l.any q=true:=Xx.2 ⟨x,List.mem_of_getElem? m,p⟩;rw[this];refine Ev.iter f i h0 (λj H=>?_) (d i x (Jp r m) p);have g:l[j]?=some l[j]:=XR (by omega);exact u j _ (Jp r g) (E j _ g H)
theorem Qbh{β:Type}{s0:S}(l:List α)(g:β->α->β)(b:β)(e:β->Nat->S)(d:β->B)(h:l.length<=4611686018427387904)(h0:e b 0=s0)
  (j:∀i x a,At l i x->a=(l.take i).foldl g b->Ev (λn=>step n (e a i)) (.cont (e (g a x) (i+1))))
  (k:Ev (λn=>step n (e (l.foldl g b) l.length)) (.done (d (l.foldl g b)))):Ev (λn=>Go.Sw.iter (step n) n s0) (d (l.foldl g b)):=by
 refine Ev.iter (λi=>e ((l.take i).foldl g b) i) l.length (by simpa using h0) (λi m=>?_) (by simpa using k);have f:=Jp (x:=l[i]) h (XR m);have:=j i _ _ f rfl;rw[f.take,XJ];exact this
theorem Ev.contains(l:List α)(q:α->Bool)(g:Nat->α->Option Bool)(p:l.length<=4611686018427387904)(hg:∀x∈l,Ev (λn=>g n x) (q x)):
  Ev (λn=>(((Go.Sw.iter (λs:Int=>bif decide (s<(l.length:Int))then(idx l s).bind λx=>(g n x).bind λr=>(bif r then some (Ctl.done (Ctl.done s))else some (Ctl.cont (IntKind.i64.wrap (s+1))))else some (Ctl.done (Ctl.cont ()))) n (0:Int):Option (Ctl Unit Int)).bind λb=>
   match b with
   |.cont _=>some (-1)
   |.done s=>some s):Option Int).bind λr=>some (decide (0<=r))) (l.any q):=by
 cases e:l.any q with
 |false=>
  refine Ev.bind (v:=(-1:Int)) (Ev.bind (v:=Ctl.cont ()) (Ev.iter (λi=>(i:Int)) l.length rfl (λi f=>?_) ?_) (Qa _)) (Qa _)
  .have a:=Jp (x:=l[i]) p (XR f);simp only[a.lt,cond_true,a.ix,XQ];have G:q l[i]=false:=by
    rw[Bool.eq_false_iff];intro h;rw[Xx.2 ⟨_,a.mem,h⟩]at e;cases e
   refine Ev.bind ((hg _ a.mem).eq G) ?_;simp only[cond_false,a.nx];exact Qa _
  .simp only[YR,cond_false];exact Qa _
 |true=>
  obtain⟨x,d,h⟩:=Xx.1 e;have t:∀k,k<=l.length->(∀(i:Nat) (x:α),l[i]?=some x->i<k->q x=false)\/ ∃(i:Nat) (x:α),l[i]?=some x/\i<k/\q x=true/\ ∀(j:Nat) (y:α),l[j]?=some y->j<i->q y=false:=by
   intro k
   induction k with
   |zero=>intro _;exact .inl λi x _ f=>absurd f (Xo _)
   |succ k F=>
    intro J;rcases F (by omega)with h|⟨i,x,u,E,w⟩
    .have hg:l[k]?=some l[k]:=XR (by omega);cases e:q l[k]with
     |true=>exact .inr ⟨k,_,hg,Xp _,e,h⟩
     |false=>
      refine .inl λi x d f=>?_;rcases Xq.1 f with z|rfl
      .exact h i x d z
      .rw[hg]at d;cases d;exact e
    .exact .inr ⟨i,x,u,by omega,w⟩
  rcases t l.length (X0 _)with H|⟨i,x,u,E,w,B⟩
  .obtain⟨j,m,rfl⟩:=List.getElem_of_mem d;rw[H j _ (XR m) m]at h;cases h
  .refine Ev.bind (v:=(i:Int)) (Ev.bind (v:=Ctl.done (i:Int)) (Ev.iter (λi=>(i:Int)) i rfl (λj m=>?_) ?_) (Qa _)) ?_
   .have a:=Jp (x:=l[j]) p (XR (by omega));simp only[a.lt,cond_true,a.ix,XQ];refine Ev.bind ((hg _ a.mem).eq (B j _ a.get m)) ?_;simp only[cond_false,a.nx];exact Qa _
   .have a:=Jp p u;simp only[a.lt,cond_true,a.ix,XQ];refine Ev.bind ((hg _ a.mem).eq w) ?_;exact Qa _
   .rw[decide_eq_true (by omega)];exact Qa _
end
section
variable {S B α:Type}{step:Nat->S->Option (Ctl S B)}
theorem QgC{s0:S}(a:Nat->S)(k:Nat)(R:Nat->B)(h0:a 0=s0)(g:∀i,i<k->(Ev (λn=>step n (a i)) (.cont (a (i+1)))/\R i=R (i+1))\/Ev (λn=>step n (a i)) (.done (R i)))
  (l:Ev (λn=>step n (a k)) (.done (R k))):Ev (λn=>Go.Sw.iter (step n) n s0) (R 0):=by
 have e:∀m,m<=k->(∀i,i<m->Ev (λn=>step n (a i)) (.cont (a (i+1)))/\R i=R (i+1))\/ ∃j,j<m/\(∀i,i<j->Ev (λn=>step n (a i)) (.cont (a (i+1)))/\R i=R (i+1))/\Ev (λn=>step n (a j)) (.done (R j)):=by
  intro m
  induction m with
  |zero=>intro _;exact .inl λi b=>absurd b (Xo _)
  |succ m f=>
   intro s;rcases f (by omega)with h|⟨j,p,d⟩
   .rcases g m (by omega)with q|q
    .refine .inl λi b=>?_;rcases Xq.1 b with z|rfl
     .exact h i z
     .exact q
    .exact .inr ⟨m,Xp _,h,q⟩
   .exact .inr ⟨j,by omega,d⟩
 have same:∀m,(∀i,i<m->R i=R (i+1))->R 0=R m:=by
  intro m
  induction m with
  |zero=>intro _;rfl
  |succ m f=>intro h;exact(f λi b=>h i (by omega)).trans (h m (Xp _))
 rcases e k (X0 _)with h|⟨j,p,d,r⟩
 .rw[same k λi b=>(h i b).2];exact Ev.iter a k h0 (λi b=>(h i b).1) l
 .rw[same j λi b=>(d i b).2];exact Ev.iter a j h0 (λi b=>(d i b).1) r
theorem At.drop{l:List α}{i:Nat}{x:α}(h:At l i x):l.drop i=x::l.drop (i+1):=by
 have:=h.lt';rw[Xs this,(XS.1 h.get).2]
theorem QgB{s0:S}(l:List α)(st:Nat->S)(R:Nat->B)(hl:l.length<=4611686018427387904)(h0:st 0=s0)
  (hc:∀i x,At l i x->(Ev (λn=>step n (st i)) (.cont (st (i+1)))/\R i=R (i+1))\/Ev (λn=>step n (st i)) (.done (R i)))
  (hd:Ev (λn=>step n (st l.length)) (.done (R l.length))):Ev (λn=>Go.Sw.iter (step n) n s0) (R 0):=
 QgC st l.length R h0 (λi hi=>hc i _ (Jp hl (XR hi))) hd
end
section
variable {α β:Type} [DecidableEq α]
theorem YX(p:α×β)(l:List (α×β))(k:α):YK (p::l) k=if p.1=k then some p.2 else YK l k:=by
 unfold YK;by_cases h:p.1=k<;>simp[List.find?_cons,h]
theorem QjS(p:α×β)(l:List (α×β))(k:α)(v:β):QW (p::l) k v=if p.1=k then(p.1,v)::l.map (λq=>bif decide (q.1=k)then(q.1,v)else q)else p::QW l k v:=by
 unfold QW;by_cases h:p.1=k
 .simp[h]
 .simp only[List.any_cons,h,decide_false,Bool.false_or,if_false,Vr,cond_false];cases l.any λp=>decide (p.1=k)<;>simp
theorem QlE(l:List (α×β))(k a:α)(v:β)(h:a≠k):YK (l.map λq=>bif decide (q.1=k)then(q.1,v)else q) a=YK l a:=by
 induction l with
 |nil=>rfl
 |cons p l b=>
  rw[Vr,YX,YX,b];by_cases e:p.1=k
  .have:¬k=a:=λq=>h q.symm;simp[e,this]
  .simp[e]
theorem Qc2(l:List (α×β))(k a:α)(v:β):YK (QW l k v) a=if a=k then some v else YK l a:=by
 induction l with
 |nil=>
  show YK ([]++[(k,v)]) a=_;rw[Vp,YX];by_cases h:a=k
  .subst h;simp
  .rw[if_neg λq=>h q.symm,if_neg h]
 |cons p l b=>
  rw[QjS];by_cases e:p.1=k
  .rw[if_pos e,YX,YX];by_cases h:a=k
   .subst h;simp[e]
   .have:p.1≠a:=λq=>h (q.symm.trans e);simp only[this,if_false,h];exact QlE l k a v h
  .rw[if_neg e,YX,YX,b];by_cases h:p.1=a
   .rw[if_pos h,if_neg λq=>e (h.trans q),if_pos h]
   .rw[if_neg h,if_neg h]
theorem QjT(k:α)(z:β):QF ([]:List (α×β)) k z=z:=rfl
theorem Qb1(l:List (α×β))(k a:α)(v z:β):QF (QW l k v) a z=if a=k then v else QF l a z:=by
 unfold QF;rw[Qc2];by_cases h:a=k<;>simp[h]
theorem QbJ(l:List (α×β))(k:α)(v:β):(QW l k v).map (·.1)=if k∈l.map (·.1)then l.map (·.1)else l.map (·.1)++[k]:=by
 unfold QW;have e:(l.any λp=>decide (p.1=k))=decide (k∈l.map (·.1)):=by
  rw[X6];simp only[Xx,decide_eq_true_eq,Xf]
 rw[e];by_cases h:k∈l.map (·.1)
 .rw[decide_eq_true h,if_pos h,cond_true,List.map_map];apply List.map_congr_left;intro p _;simp only[Function.comp];cases decide (p.1=k)<;>rfl
 .rw[decide_eq_false h,if_neg h,cond_false,Xg];rfl
def Yd{γ:Type}(key:γ->α)(v:β)(l:List γ):List (α×β):=l.foldl (λm x=>QW m (key x) v) []
theorem Qf6{γ:Type}(key:γ->α)(v:β)(l:List γ)(x:γ):Yd key v (l++[x])=QW (Yd key v l) (key x) v:=by
 unfold Yd;rw[XJ];rfl
theorem Qdj{γ:Type}(key:γ->α)(v z:β)(l:List γ)(k:α):QF (Yd key v l) k z=if k∈l.map key then v else z:=by
 have a:∀(l:List γ) (m:List (α×β)),QF (l.foldl (λm x=>QW m (key x) v) m) k z=if k∈l.map key then v else QF m k z:=by
  intro l
  induction l with
  |nil=>intro m;simp
  |cons x l b=>
   intro m;rw[XK,b,Qb1];by_cases h:k∈l.map key
   .rw[if_pos h,if_pos (by simp only[Vr];exact Vd _ h)]
   .rw[if_neg h];by_cases e:k=key x
    .rw[if_pos e,if_pos (by simp[e])]
    .rw[if_neg e,if_neg (by simp only[Vr,Ve,not_or];exact⟨e,h⟩)]
 exact a l []
theorem QbR{γ:Type}(key:γ->α)(v:β)(l:List γ):(Yd key v l).length<=l.length/\((Yd key v l).length=l.length↔(l.map key).Nodup):=by
 have j:∀(l:List γ) (m:List (α×β)),(m.map (·.1)).Nodup->(l.foldl (λm x=>QW m (key x) v) m).length<=m.length+l.length/\((l.foldl (λm x=>QW m (key x) v) m).length=m.length+l.length↔(m.map (·.1)++l.map key).Nodup):=by
  intro l
  induction l with
  |nil=>intro m g;simpa using g
  |cons x l n=>
   intro m g;have f:=QbJ m (key x) v;have d:(QW m (key x) v).length=((QW m (key x) v).map (·.1)).length:=by simp
   by_cases h:key x∈m.map (·.1)
   .rw[if_pos h]at f;obtain⟨s,i⟩:=n (QW m (key x) v) (by rw[f];exact g);have e:(QW m (key x) v).length=m.length:=by rw[d,f];simp
    rw[XK];refine⟨by simp only[X8];omega,⟨λq=>?_,λq=>?_⟩⟩
    .simp only[X8]at q;omega
    .exfalso;have:=(List.nodup_append.1 q).2.2 _ h (key x) (by simp);exact this rfl
   .rw[if_neg h]at f;have p:((QW m (key x) v).map (·.1)).Nodup:=by
     rw[f];refine List.nodup_append.2 ⟨g,by simp,?_⟩;intro a r b k e;simp only[List.mem_singleton]at k;exact h (by rw[<- k, <- e];exact r)
    obtain⟨s,i⟩:=n (QW m (key x) v) p;have e:(QW m (key x) v).length=m.length+1:=by rw[d,f];simp
    rw[XK];refine⟨by simp only[X8];omega,?_⟩;rw[f]at i;rw[show m.length+(x::l).length=(QW m (key x) v).length+l.length by rw[e];simp;omega,i];simp[Vq]
 have:=j l [] (by simp);simpa[Yd]using this
end
theorem Y9{α:Type}(l:List α)(p:α->Bool)(g:Nat->α->Option Bool)(d:l.length<=4611686018427387904)(hg:∀x∈l,Ev (λn=>g n x) (p x)):
  Ev (λn=>((((Go.Sw.iter (λs:Int=>bif decide (s<(l.length:Int))then(idx l s).bind λx=>((g n x).bind λr1=>some (!r1)).bind λr=>(bif r then some (Ctl.done (Ctl.done s))else some (Ctl.cont (IntKind.i64.wrap (s+1))))else some (Ctl.done (Ctl.cont ()))) n (0:Int):Option (Ctl Unit Int)).bind λb=>
   match b with
   |.cont _=>some (-1)
   |.done s=>some s):Option Int).bind λr=>some (decide (0<=r)):Option Bool).bind λr=>some (!r)) (l.all p):=by
 refine Ev.bind (Ev.contains l (λx=> !p x) (λn x=>(g n x).bind λr1=>some (!r1)) d λx a=>Ev.bind (hg x a) (Qa _)) ((Qa _).eq ?_);rw[List.not_any_eq_all_not];simp
theorem Ev.inner{α κ B:Type}[DecidableEq κ]{step:Nat->Int->Option (Ctl Int B)}(l:List α)(i:Nat)(key:α->κ)(k:κ)(q b:B)(r:l.length<=4611686018427387904)(x:i<=l.length)
  (s:∀j y,j<i->At l j y->decide (key y=k)=false->Ev (λn=>step n (j:Int)) (.cont ((j+1:Nat):Int)))
  (u:∀j y,j<i->At l j y->decide (key y=k)=true->Ev (λn=>step n (j:Int)) (.done q))
  (t:Ev (λn=>step n (i:Int)) (.done b)):Ev (λn=>Go.Sw.iter (step n) n 0) (bif ((l.take i).map key).contains k then q else b):=by
 have e:((l.take i).map key).contains k=(l.take i).any λy=>decide (key y=k):=by
  rw[X6];simp only[List.contains_eq_mem,decide_eq_true_eq,Xf,Xx]
 rw[e];have g:(l.take i).length=i:=by simp;omega
 have f:∀j y,At (l.take i) j y->j<i/\At l j y:=by
  intro j y d;have w:=d.lt';have a:=d.get;rw[List.getElem?_take]at a;split at a
  .exact⟨by omega,Jp r a⟩
  .cases a
 refine QbG (l.take i) (λy=>decide (key y=k)) (λi=>(i:Int)) _ _ (by omega) rfl (λj y d p=>?_) (λj y d p=>?_) ?_
 .obtain⟨m,h⟩:=f j y d;exact s j y m h p
 .obtain⟨m,h⟩:=f j y d;exact u j y m h p
 .rw[g];exact t
theorem Qbi{α κ β:Type}[DecidableEq κ]{step:Nat->List (κ×β)×Int->Option (Ctl (List (κ×β)×Int) (List (κ×β)))}(l:List α)(key:α->κ)(v:β)(hl:l.length<=4611686018427387904)
  (hc:∀i x m,At l i x->Ev (λn=>step n (m,(i:Int))) (.cont (QW m (key x) v,((i+1:Nat):Int))))
  (hd:∀m,Ev (λn=>step n (m,(l.length:Int))) (.done m)):Ev (λn=>Go.Sw.iter (step n) n ([],0)) (Yd key v l):=
 Qbh l (λm x=>QW m (key x) v) [] (λm i=>(m,(i:Int))) (λm=>m) hl rfl (λi x m ha _=>hc i x m ha) (hd _)
theorem Ev.shift{α:Type}{f:Nat->Option α}{v:α}(h:Ev f v):Ev (λn=>f (n+1)) v:=by
 obtain⟨N,h⟩:=h;exact⟨N,λn a=>h (n+1) (by omega)⟩
def EvI{S B:Type}(step:Nat->S->Option (Ctl S B))(s:S)(b:B):Prop:=∃N,∀n k,N<=n->N<=k->Go.Sw.iter (step n) k s=some b
section
variable {S B:Type}{step:Nat->S->Option (Ctl S B)}{s s':S}{b:B}
theorem EvI.done(h:Ev (λn=>step n s) (.done b)):EvI step s b:=by
 obtain⟨N,h⟩:=h;refine⟨N+1,λn k d e=>?_⟩;obtain⟨a,rfl⟩:∃a,k=a+1:=⟨k-1,by omega⟩;have:=h n (by omega);simp only[Go.Sw.iter,this]
theorem EvI.cont(h:Ev (λn=>step n s) (.cont s'))(q:EvI step s' b):EvI step s b:=by
 obtain⟨N,h⟩:=h;obtain⟨M,q⟩:=q;refine⟨max N M+1,λn k d e=>?_⟩;obtain⟨a,rfl⟩:∃a,k=a+1:=⟨k-1,by omega⟩;have:=h n (by omega);simp only[Go.Sw.iter,this];exact q n a (by omega) (by omega)
theorem EvI.ev(h:EvI step s b):Ev (λn=>Go.Sw.iter (step n) n s) b:=by
 obtain⟨N,h⟩:=h;exact⟨N,λn a=>h n n a a⟩
theorem EvI.eq{b':B}(h:EvI step s b)(e:b=b'):EvI step s b':=e▸h
end
theorem QT{α:Type}{l r:List α}{i:Nat}{x:α}(a:l.length<=4611686018427387904)(h:l.drop i=x::r):At l i x/\l.drop (i+1)=r:=by
 have b:l[i]?=some x:=by
  have:=congrArg (λl=>l[0]?) h;simpa using this
 refine⟨Jp a b,?_⟩;have:=(Jp a b).drop;rw[h]at this;exact(List.cons.inj this).2.symm
theorem YG{α:Type}{l:List α}{i:Nat}(h:l.drop i=[])(a:i<=l.length):decide ((i:Int)<(l.length:Int))=false:=by
 have:=Xu.1 h;exact decide_eq_false (by omega)
end Go.Sw
namespace Go.Sw
theorem Z.{u}{α:Sort u}{a:α}:a=a:=rfl
section
variable {P:Program}{h0 N:Nat}{all:Array Oper}{env:Env}{H H':Qc}{Q:QC}{l:List Oper}{o:Oper}{d:Nat}
theorem aV(x:A)(H:Qc){x':A}{H':Qc}(b:x'=x)(a:H'=H)(k:WO P h0 N all l (up env d x) H Q):WO P h0 N all l (up env d x') H' Q:=by subst b;subst a;exact k
theorem vX(x:A)(a:OpV P o env H x)(k:WO P h0 N all l (up env d x) H Q)(hg:Qx all o env true:=by exact rfl)(hd:o.dst=some d:=by exact rfl)(hN:Nat.blt d N=true:=by exact rfl):WO P h0 N all (o::l) env H Q:=
 QH hg hd hN a k
theorem Wp:WO P h0 N all [] env H (YU env H):=WO.nil YU.mk
end
end Go.Sw
namespace Go.Sw
section
variable {P:Program}{o:Oper}{env:Env}{H:Qc}
theorem QnR{ro:Nat->Prop}{σ:Sig}{w:World}(g:GP w){b:Nat}{zs:List Int}(h:Qib[b]?=some zs):∀(i:Nat),CR ro σ w b ((zs.drop i).map (A.int .i64)) i:=by
 intro i;generalize hl:zs.drop i=l
 induction l generalizing i with
 |nil=>trivial
 |cons z l e=>
  have d:zs[i]?=some z:=by
   have:=congrArg (·[0]?) hl;simpa using this
  have a:zs.drop (i+1)=l:=by
   rw[<- List.drop_drop,hl];rfl
  exact⟨⟨_,g.tab b zs h i z d,by simp[QA],rfl⟩,e (i+1) a⟩
theorem QfP{t n g:Nat}{zs:List Int}(e:∀w,(isAgg t).run P w=.ok true w)(k:∀w,(sizeOf t).run P w=.ok n w)(hg:Qib[g]?=some zs)(f:zs.length=n)(j:o.op=.load t (.global g):=by exact rfl):
  OpV P o env H (.agg (zs.map (A.int .i64))):=by
 intro m ro σ N a w r;obtain⟨l,i,_,d⟩:=Yw (P:=P) (b:=g) (cs:=zs.map (A.int .i64)) (off:=0) 0 (by simpa using QnR (ro:=ro) (σ:=σ) r.sim.roOk.gp hg 0);have d:=d w #[] rfl;rw[X9,f]at d;refine⟨.agg l.toArray,?_,l,rfl,i⟩;have h:a.eval (.global g)=.pointer (some ⟨g,0,none⟩):=rfl;generalize a.eval=ρ at*;simp[execOp,j,h,Instr.loadAt,Instr.sureAddr,loadVar,e,k,loadCells,d,go_sem]
end
end Go.Sw
namespace Go.Sw
open Go.Proofs
section
variable {P:Program}
def toV(agg:Bool)(l:List Value):Value:=bif agg then .agg l.toArray else l.headD .nilFunc
structure QkJ (P:Program) (t:TypeId) (h k:Nat) (agg:Bool) (ok:List Value->Prop):Prop where
 len:∀l,ok l->l.length=k
 ia:∀w,(isAgg t).run P w=.ok agg w
 so:∀w,(sizeOf t).run P w=.ok k w
 eq:∀(w:World) (d:Nat) (l m:List Value),ok l->ok m->∃b:Bool,(Op.equalIn (d+h) t (toV agg l) (toV agg m)).run P w=.ok b w/\(b=true↔l=m)
structure QmM (P:Program) (fs:List Field) (h off k:Nat) (ok:List Value->Prop):Prop where
 len:∀l,ok l->l.length=k
 eq:∀(w:World) (d:Nat) (p q l m:List Value),p.length=off->q.length=off->ok l->ok m->∃b:Bool,(Op.eqFields (d+h) (p++l).toArray (q++m).toArray fs).run P w=.ok b w/\(b=true↔l=m)
theorem QkJ.int{t:TypeId}{k:IntKind}(e:P.underlying t=some (.int k))(b:∀w,(isAgg t).run P w=.ok false w)(a:∀w,(sizeOf t).run P w=.ok 1 w)(h:Nat):QkJ P t (h+1) 1 false (λl=>∃n:Int,l=[.int k n]):=by
 refine⟨?_,b,a,?_⟩
 .rintro _ ⟨n,rfl⟩;rfl
 .rintro w d _ _ ⟨n,rfl⟩ ⟨m,rfl⟩;exact⟨_,run_equalIn_int w (d+h) t k k n m e,by simp⟩
theorem QkJ.bool{t:TypeId}(e:P.underlying t=some .bool)(b:∀w,(isAgg t).run P w=.ok false w)(a:∀w,(sizeOf t).run P w=.ok 1 w)(h:Nat):QkJ P t (h+1) 1 false (λl=>∃n:Bool,l=[.bool n]):=by
 refine⟨?_,b,a,?_⟩
 .rintro _ ⟨n,rfl⟩;rfl
 .rintro w d _ _ ⟨n,rfl⟩ ⟨m,rfl⟩;exact⟨_,run_equalIn_bool' w (d+h) t n m e,by simp⟩
theorem QmM.nil(h off:Nat):QmM P [] h off 0 (λl=>l=[]):=by
 refine⟨?_,?_⟩
 .rintro _ rfl;rfl
 .rintro w d p q _ _ _ _ rfl rfl;exact⟨true,by simp[Op.eqFields],by simp⟩
theorem QgU{t:TypeId}{k:Nat}{agg:Bool}{w:World}(b:∀w,(isAgg t).run P w=.ok agg w)(f:∀w,(sizeOf t).run P w=.ok k w)(p a e:List Value)(d:a.length=k)(g:agg=false->k=1):
  (part t (p++(a++e)).toArray p.length).run P w=.ok (toV agg a) w:=by
 unfold part;cases agg with
 |true=>
  simp[b,f,go_sem,toV];rw[<- d];simp[List.extract]
 |false=>
  have:=g rfl;subst this
  match a,d with
  |[v],_=>simp[b,go_sem,toV]
theorem QmM.cons{f:Field}{fs:List Field}{h off n x:Nat}{agg:Bool}{k j:List Value->Prop}(M:Nat.beq f.offset off=true)(N:f.name≠"_")(g:QkJ P f.type h n agg k)(z:agg=false->n=1)(y:QmM P fs h (off+n) x j):
  QmM P (f::fs) h off (n+x) (λl=>∃l1 l2,l=l1++l2/\k l1/\j l2):=by
 have t:f.offset=off:=XX M;refine⟨?_,?_⟩
 .rintro _ ⟨l1,l2,rfl,a,b⟩;rw[Va,g.len _ a,y.len _ b]
 .rintro w d p q _ _ F H ⟨l1,l2,rfl,r,L⟩ ⟨i,s,rfl,m,J⟩;have E:=QgU (P:=P) (w:=w) g.ia g.so p l1 l2 (g.len _ r) z;have G:=QgU (P:=P) (w:=w) g.ia g.so q i s (g.len _ m) z;rw[F]at E;rw[H]at G;obtain⟨B,R,T⟩:=g.eq w d l1 i r m;obtain⟨Q,u,V⟩:=y.eq w d (p++l1) (q++i) l2 s (by rw[Va,F,g.len _ r]) (by rw[Va,H,g.len _ m]) L J;rw[Vq,Vq]at u;have O:l1.length=i.length:=by rw[g.len _ r,g.len _ m]
  refine⟨B&&Q,?_,?_⟩
  .generalize(p++(l1++l2)).toArray=X at*;generalize(q++(i++s)).toArray=Y at*;cases B<;>simp[Op.eqFields,N,t,Vu,Result.andThen,E,G,R,u]
  .rw[X4,T,V];constructor
   .rintro⟨rfl,rfl⟩;rfl
   .intro e;exact List.append_inj e O
theorem QkJ.struct{t:TypeId}{h k:Nat}{ok:List Value->Prop}(n:P.underlying t=some (.struct (P.fieldsOf t)))(j:P.stoodInHeld t=false)(f:∀w,(isAgg t).run P w=.ok true w)(p:∀w,(sizeOf t).run P w=.ok k w)(e:QmM P (P.fieldsOf t).toList h 0 k ok):QkJ P t (h+1) k true ok:=by
 refine⟨e.len,f,p,λw d l m a b=>?_⟩;obtain⟨r,g,i⟩:=e.eq w d [] [] l m rfl rfl a b;refine⟨r,?_,i⟩;show(Op.equalIn (d+h+1) t (.agg l.toArray) (.agg m.toArray)).run P w=_;rw[run_equalIn_agg w (d+h) t _ _ n j];simpa using g
theorem QcP{t:TypeId}{h k:Nat}{fs:Array Field}{ok:List Value->Prop}(a:P.underlying t=some (.struct fs))(f:P.stoodInHeld t=false)(b:∀w,(isAgg t).run P w=.ok true w)(g:∀w,(sizeOf t).run P w=.ok k w)(d:QmM P fs.toList h 0 k ok):QkJ P t (h+1) k true ok:=by
 have e:P.fieldsOf t=fs:=by simp[Program.fieldsOf,a]
 exact QkJ.struct (by rw[e];exact a) f b g (by rw[e];exact d)
structure EqD (P:Program) (t:TypeId) {α:Type} (cells:α->List A):Prop where
 scl:∀x,QdZ (cells x)=true
 inj:∀x y,YW (cells x)=YW (cells y)->x=y
 guard:P.eqGuardType P.depth t=false
 eq:∀(w:World) x y,∃b:Bool,(Op.equalIn 10000 t (.agg (YW (cells x)).toArray) (.agg (YW (cells y)).toArray)).run P w=.ok b w/\(b=true↔YW (cells x)=YW (cells y))
theorem QjC{α:Type}{cells:α->List A}{t h k:Nat}{ok:List Value->Prop}(E:QkJ P t h k true ok)(d:Nat.ble h 10000=true)(a:∀x,ok (YW (cells x)))(b:∀x,QdZ (cells x)=true)(e:∀x y,YW (cells x)=YW (cells y)->x=y)(hg:P.eqGuardType P.depth t=false):EqD P t cells:=by
 refine⟨b,e,hg,λw x y=>?_⟩;have:=E.eq w (10000-h) (YW (cells x)) (YW (cells y)) (a x) (a y)
 rwa [show 10000-h+h=10000 by have:=XY d;omega]at this
variable {o:Oper}{env:Env}{H:Qc}
theorem QkA{α:Type}[DecidableEq α]{cells:α->List A}{t u:TypeId}{x y:Operand}{p q:α}(E:EqD P t cells)(k:opA env x=.agg (cells p))(z:opA env y=.agg (cells q))(m:o.op=.binOp .eql t x y u:=by exact rfl):OpV P o env H (.bool (p==q)):=by
 intro B F σ N a w r;have h:=Qg r x;have g:=Qg r y;rw[k]at h;rw[z]at g;have n:=VR.val (a:=.agg (cells p)) (E.scl p) h;have s:=VR.val (a:=.agg (cells q)) (E.scl q) g;obtain⟨b,l,j⟩:=E.eq w p q;have i:b=(p==q):=by
  rw[X6,j,beq_iff_eq];exact⟨E.inj p q,λe=>by rw[e]⟩
 refine⟨.bool (p==q),?_,rfl⟩;rw[<- i];generalize a.eval=ρ at*;have d:ρ x=.agg (YW (cells p)).toArray:=n;have f:ρ y=.agg (YW (cells q)).toArray:=s;simp[execOp,m,d,f,go_sem,run_eqGuard_agg _ _ _ _ _ _ _ E.guard,run_eql_struct,l]
theorem Qkz{α:Type}[DecidableEq α]{cells:α->List A}{t u:TypeId}{x y:Operand}{p q:α}(E:EqD P t cells)(k:opA env x=.agg (cells p))(z:opA env y=.agg (cells q))(m:o.op=.binOp .neq t x y u:=by exact rfl):OpV P o env H (.bool (p != q)):=by
 intro B F σ N a w r;have h:=Qg r x;have g:=Qg r y;rw[k]at h;rw[z]at g;have n:=VR.val (a:=.agg (cells p)) (E.scl p) h;have s:=VR.val (a:=.agg (cells q)) (E.scl q) g;obtain⟨b,l,j⟩:=E.eq w p q;have i:b=(p==q):=by
  rw[X6,j,beq_iff_eq];exact⟨E.inj p q,λe=>by rw[e]⟩
 refine⟨.bool (p != q),?_,rfl⟩;rw[bne, <- i];generalize a.eval=ρ at*;have d:ρ x=.agg (YW (cells p)).toArray:=n;have f:ρ y=.agg (YW (cells q)).toArray:=s;simp[execOp,m,d,f,go_sem,run_eqGuard_agg _ _ _ _ _ _ _ E.guard,run_neq_struct,l]
end
end Go.Sw
namespace Go.Sw
structure QeP (g g':Nat->Prop) (W W':World):Prop where
 sub:∀b,g b->g' b
 new:∀b,g' b->g b\/W.heap.size<=b
 lt:∀b,g' b->b<W'.heap.size
 all:∀b,W.heap.size<=b->b<W'.heap.size->g' b
 keep:∀b,b<W.heap.size->¬g b->W'.heap[b]?=W.heap[b]?
 size:W.heap.size<=W'.heap.size
 shape:∀b x,W.shape? b=some x->W'.shape? b=some x
 os:W'.os=W.os
 tape:W'.tape=W.tape
 output:W'.output=W.output
 drawn:W.drawn<=W'.drawn
abbrev Jv(T:Type):=List T->(Nat->Prop)->(Nat->Prop)->World->Prop
structure Qoc {T:Type} (J:Jv T):Prop where
 ev:∀rem q g W W' ro',J rem q g W->Qf g q W ro' W'->J rem q g W'
 up:∀rem q g g' W,J rem q g W->(∀b,g b->g' b)->(∀b,g' b->b<W.heap.size)->J rem q g' W
theorem Sim.round{fr g g' ro:Nat->Prop}{σ:Sig}{H:Qc}{W W':World}(s:Sim fr ro σ H W)(a:∀b,g b->fr b)(k:QeP g g' W W'):Sim (λb=>fr b\/g' b) ro σ H W'/\Qf (λb=>b<W.heap.size/\ ¬g b) ro W ro W':=by
 have e:∀b,ro b->W'.heap[b]?=W.heap[b]? :=λb q=>k.keep b (s.roLt b q) (λr=>s.roFr b q (a b r));have m:Ext ro σ W ro σ W':=by
  have ev:Qf (λ_=>False) ro W ro W':=⟨λ_ q=>q,e,λ_ q=>q.elim,k.size,k.shape,k.os,k.tape,k.output,k.drawn⟩;have:=ev.ext σ [];simpa using this
 refine⟨⟨s.len,s.roOk.to (λ_ q=>q) e (λb q=>Vn (s.roLt b q) k.size),λb q=>q.elim (λq=>Vn (s.frLt b q) k.size) (k.lt b),λb q r=>?_,λi b x f h w=>?_,s.inj,λi y x f h=>?_,
  s.hidTo (· = ·) Q2 k.size (λ_ _ _ _ _ _ _ q=>q) (λi b x c f h w F=>F.elim id λq=>(k.new c q).elim (a c) λl=>(by have:=(s.hid i b x c f h w).lt;omega)) λj d y t p G=>.inl ⟨j,y,rfl,t,p,id,λc q=>s.hidKeep t p (λz=>k.keep d (s.own j d y t p z).1 λr=>(s.own j d y t p z).2.2 (a d r)) e q⟩⟩,
  ⟨λ_ q=>q,e,λb q=>k.keep b q.1 q.2,k.size,k.shape,k.os,k.tape,k.output,k.drawn⟩⟩
 .rcases r with r|r
  .exact s.roFr b q r
  .rcases k.new b r with l|l
   .exact s.roFr b q (a b l)
   .have:=s.roLt b q;omega
 .obtain⟨B,E,n⟩:=s.own i b x f h w;refine⟨Vn B k.size,E,λr=>?_⟩;rcases r with r|r
  .exact n r
  .rcases k.new b r with l|l
   .exact n (a b l)
   .omega
 .refine(s.blk i y x f h).keep m ?_ ?_
  .rintro b rfl u;obtain⟨B,E,n⟩:=s.own i b x f h u;exact k.keep b B (λr=>n (a b r))
  .rintro b c rfl u;have q:=s.hid i b x c f h u;exact k.keep c q.lt (λr=>q.fr (a c r))
def Qo4{T:Type}(J Jx:Jv T)(g ri:Nat->Prop)(W1:World)(rem:List T):Ending->World->Prop:=λe W'=>
 ∃g' q',(∀b,q' b->ri b)/\QeP g g' W1 W'/\((e=.returned (.bool true)/\J rem q' g' W')\/(e=.returned (.bool false)/\Jx rem q' g' W'))
structure Ctx (T:Type) where
 l:Nat
 J:Jv T
 Jx:Jv T
 enc:T->List A
 nx:List T->T->List T->Prop
structure Ctx.ok {T:Type} (X:Ctx T) (P:Program):Prop where
 b:Qoc X.J
 bx:Qoc X.Jx
 round:∀l x rem q g ri W1 vs,X.nx l x rem->X.J l q g W1->(∀b,q b->ri b)->(∀b,ri b->b<W1.heap.size/\ ¬g b)->LR ri [] W1 (X.enc x) vs->YieldAt Fence.wide 0 P X.l vs.toArray W1 (Qo4 X.J X.Jx g ri W1 rem)
def Qdx{T:Type}(P:Program)(f:FuncId)(caps:List A)(H:Qc)(enc:T->List A)(nx:List T->T->List T->Prop)(xs:List T):Prop:=
 ∀(X:Ctx T),X.enc=enc->X.nx=nx->X.ok P->∀fr ro σ w capv q,Sim fr ro σ H w->(∀b,q b->ro b)->LR ro σ w caps capv->X.J xs q fr w->
  Calls P f ((Value.func (.yield X.l) #[] #[]::capv)).toArray w λe W'=>(∃v,e=.returned v)/\ ∃g q',(∀b,fr b->g b)/\((X.J [] q' g W')\/(∃rem,X.Jx rem q' g W'))
inductive YSt (T:Type) where
 |on (rem:List T)
 |off (rem:List T)
def Ctx.J'{T:Type}(X:Ctx T):YSt T->(Nat->Prop)->(Nat->Prop)->World->Prop
 |.on rem=>X.J rem
 |.off rem=>X.Jx rem
def Ctx.at{T:Type}(X:Ctx T)(st:YSt T)(g ro:Nat->Prop)(W:World):Prop:=∃q,(∀b,q b->ro b)/\X.J' st q g W
theorem Qf.roMono{fr ro ro0 ro':Nat->Prop}{w w':World}(h:Qf fr ro w ro' w')(s:∀b,ro0 b->ro b):Qf fr ro0 w ro' w':=
 ⟨λb q=>h.sub b (s b q),λb q=>h.keepRo b (s b q),h.keepFr,h.size,h.shape,h.os,h.tape,h.output,h.drawn⟩
theorem Ctx.ok.ev{T:Type}{X:Ctx T}{P:Program}(h:X.ok P){d:YSt T}{g ro ro':Nat->Prop}{W W':World}(a:X.at d g ro W)(he:Qf g ro W ro' W'):X.at d g ro' W':=by
 obtain⟨q,e,a⟩:=a;refine⟨q,λb z=>he.sub b (e b z),?_⟩;cases d with
 |on rem=>exact h.b.ev rem q g W W' ro' a (he.roMono e)
 |off rem=>exact h.bx.ev rem q g W W' ro' a (he.roMono e)
theorem Ctx.ok.up{T:Type}{X:Ctx T}{P:Program}(h:X.ok P){d:YSt T}{g g' ro:Nat->Prop}{W:World}(a:X.at d g ro W)(hg:∀b,g b->g' b)(e:∀b,g' b->b<W.heap.size):X.at d g' ro W:=by
 obtain⟨q,f,a⟩:=a;refine⟨q,f,?_⟩;cases d with
 |on rem=>exact h.b.up rem q g g' W a hg e
 |off rem=>exact h.bx.up rem q g g' W a hg e
abbrev Yq(T:Type):=AEx->Env->Qc->YSt T->Prop
structure In (g fr:Nat->Prop) (ds:List Deferred):Prop where
 sub:∀b,g b->fr b
 beside:∀D,({target:=.collected D,args:= #[]}:Deferred)∈ds->¬g D
def QcJ{T:Type}(X:Ctx T)(h0:Nat)(fr ro:Nat->Prop)(σ:Sig)(w:World)(N:Nat)(ds:List Deferred)(Q:Yq T):Exit->Act->World->Prop:=
 λe a' w'=>∃x env' H' st ro' σ' fr' g',ExR e x/\Q x env' H' st/\Rel fr' ro' σ' H' env' N a' w'/\(X.at st g' ro' w'/\In g' fr' a'.defers)/\(∀b,ro b->ro' b)/\w.heap.size<=w'.heap.size/\σ'.take h0=σ.take h0/\Grow fr w ds fr' a'.defers
theorem QcJ.grow{T:Type}{X:Ctx T}{h0:Nat}{fr d ro f:Nat->Prop}{σ σ1:Sig}{w m:World}{N:Nat}{k a:List Deferred}{Q:Yq T}{e:Exit}{a':Act}{w':World}
  (h:QcJ X h0 d f σ1 m N a Q e a' w')(p:∀b,ro b->f b)(l:w.heap.size<=m.heap.size)(F:σ1.take h0=σ.take h0)(hg:Grow fr w k d a):QcJ X h0 fr ro σ w N k Q e a' w':=by
 obtain⟨x,g,H',B,i,σ',j,G,E,r,t,y,n,u,s,z⟩:=h;exact⟨x,g,H',B,i,σ',j,G,E,r,t,y,λb q=>n b (p b q),X3 l u,s.trans F,hg.trans l z⟩
def TCy{T:Type}(X:Ctx T)(P:Program)(h0 N:Nat)(c:Code)(env:Env)(H:Qc)(st:YSt T)(Q:Yq T):Prop:=
 X.ok P->∀rd fr ro σ a w g,Rel fr ro σ H env N a w->X.at st g ro w/\In g fr a.defers->rd=none->c.wpIn (WF rd) 0 P (QcJ X h0 fr ro σ w N a.defers Q) a w
def WOy{T:Type}(X:Ctx T)(P:Program)(h0 N:Nat)(all:Array Oper)(l:List Oper)(env:Env)(H:Qc)(st:YSt T)(Q:Yq T):Prop:=
 X.ok P->∀rd fr ro σ a w g,Rel fr ro σ H env N a w->X.at st g ro w/\In g fr a.defers->rd=none->wpL P rd all (QcJ X h0 fr ro σ w N a.defers Q) l a w
theorem In.later{fr a g:Nat->Prop}{w:World}{ds d:List Deferred}(h:In g fr ds)(f:∀b,fr b->b<w.heap.size)(hg:Grow fr w ds a d):In g a d:=by
 refine⟨λb q=>hg.sub b (h.sub b q),λD hD q=>?_⟩;rcases hg.ds _ hD with r|⟨D',e,r⟩
 .exact h.beside D r q
 .have:D=D':=by simpa using e
  subst this;have:=f D (h.sub D q);omega
section
variable {T:Type}{X:Ctx T}{P:Program}{h0 N:Nat}{c c':Code}{env:Env}{H:Qc}{st:YSt T}{Q:Yq T}
theorem Qks{fr ro:Nat->Prop}{σ:Sig}{w:World}{i:List Deferred}{e:Exit}{a':Act}{w':World}(q:X.ok P)(h:Qa1 h0 fr ro σ w N i (λx env H=>Q x env H st) e a' w'){g:Nat->Prop}(m:∀b,fr b->b<w.heap.size)(k:X.at st g ro w/\In g fr i):
  QcJ X h0 fr ro σ w N i Q e a' w':=by
 obtain⟨x,a,H',j,σ',f,r,p,s,d,n,l⟩:=h;exact⟨x,a,H',st,j,σ',f,g,r,p,s,⟨q.ev k.1 (d.frMono k.2.sub),k.2.later m l⟩,d.sub,d.size,n,l⟩
theorem TCy.lift(h:TC P h0 N c env H (λx env H=>Q x env H st)):TCy X P h0 N c env H st Q:=
 λhX rd fr ro σ a w g r hj hrd=>Code.wpIn_mono (λe a' w' q=>Qks hX q r.sim.frLt hj) (h rd fr ro σ a w r (hrd▸QbM))
def SeqY(X:Ctx T)(P:Program)(h0 N:Nat)(c:Code)(Q:Yq T):Yq T
 |.normal,env,H,st=>TCy X P h0 N c env H st Q
 |.exit id,env,H,st=>Q (.exit id) env H st
 |.ret,env,H,st=>Q .ret env H st
theorem TCy.seq(h:TCy X P h0 N c env H st (SeqY X P h0 N c' Q)):TCy X P h0 N (.seq c c') env H st Q:=by
 intro y z E G σ a w g r hj hrd;refine wpIn_seq (Code.wpIn_mono ?_ (h y z E G σ a w g r hj hrd));rintro e F B ⟨x,b,H',i,d,σ',f,u,j,k,l,m,p,n,s,t⟩;cases e with
 |normal=>
  obtain rfl:x=.normal:=j;exact Code.wpIn_mono (λe a w q=>q.grow p n s t) (k y z f d σ' F B u l m hrd)
 |exit id=>
  obtain rfl:x=.exit id:=j;exact⟨_,b,H',i,d,σ',f,u,rfl,k,l,m,p,n,s,t⟩
 |ret=>
  obtain rfl:x=.ret:=j;exact⟨_,b,H',i,d,σ',f,u,rfl,k,l,m,p,n,s,t⟩
 |_=>exact j.elim
theorem TCy.region{id:Nat}{l:List Oper}(h:WOy X P h0 N l.toArray l env H st Q):TCy X P h0 N (.region id l.toArray false) env H st Q:=
 λhX rd fr ro σ a w g r hj hrd=>wpIn_region_lit (h hX rd fr ro σ a w g r hj hrd)
theorem TCy.cond{x:Operand}{t:Bool}(k:opA env x=.bool t)(l:t=true->TCy X P h0 N c env H st Q)(j:t=false->TCy X P h0 N c' env H st Q):TCy X P h0 N (.cond x c c') env H st Q:=by
 intro d f b h σ a w g r hj hrd;have i:=Qg r x;rw[k]at i;exact wpIn_cond_split i (λe=>l e d f b h σ a w g r hj hrd) (λe=>j e d f b h σ a w g r hj hrd)
theorem WOy.nil{all:Array Oper}(h:Q .normal env H st):WOy X P h0 N all [] env H st Q:=
 λhX rd fr ro σ a w g r hj hrd=>⟨_,env,H,st,ro,σ,fr,g,rfl,h,r,hj,λ_ q=>q,X0 _,rfl,Grow.refl _ _ _⟩
end
theorem QhZ{P:Program}{rd:Option Nat}{o:Oper}{a:Act}{K K':Act->World->Prop}{Q Q':Exit->Act->World->Prop}(b:∀a w,K a w->K' a w)(i:∀ch a w,Q (.panic ch) a w->Q' (.panic ch) a w)(m:∀a w,Q .outgrown a w->Q' .outgrown a w)
  {r:Result Next}(h:o.uponIn (WF rd) 0 P a K Q r):o.uponIn (WF rd) 0 P a K' Q' r:=by
 cases r with
 |ok x w=>
  cases x with
  |value v=>exact b _ _ h
  |skip=>exact b _ _ h
  |defer d=>exact b _ _ h
  |enter f g=>
   refine⟨h.1,CallsIn.mono h.2 ?_⟩;intro e j q;cases e with
   |returned v=>exact b _ _ q
   |panicked c=>exact i _ _ _ q
   |outgrown=>obtain⟨a,w,q⟩:=q;exact⟨a,w,m _ _ q⟩
  |row r g=>exact⟨h.1,RowsIn.mono h.2 λv j q=>b _ _ q⟩
  |round l f n assign k=>
   refine⟨h.1,RoundIn.mono h.2 ?_⟩;intro e j q;cases e with
   |returned v=>exact b _ _ q
   |panicked c=>exact i _ _ _ q
   |outgrown=>obtain⟨a,w,q⟩:=q;exact⟨a,w,m _ _ q⟩
  |_=>exact h
 |halt x w=>
  cases x with
  |panic v=>exact i _ _ _ h
  |_=>exact h
section
variable {T:Type}{X:Ctx T}{P:Program}{h0 N:Nat}{env:Env}{H:Qc}{st:YSt T}{Q:Yq T}
theorem WOy.step{all:Array Oper}{o:Oper}{rest:List Oper}(h:WO P h0 N all [o] env H (λx env' H'=>x=.normal/\WOy X P h0 N all rest env' H' st Q)):WOy X P h0 N all (o::rest) env H st Q:=by
 intro y t s u σ a w g r hj hrd;have E:∀i f,QbF h0 s u σ w N a.defers (λx env' H'=>x=.normal/\WOy X P h0 N all rest env' H' st Q) .normal i f->wpL P t all (QcJ X h0 s u σ w N a.defers Q) rest i f:=by
  rintro i f ⟨x,env',H',d,σ',j,M,⟨_,F⟩,G,n,J,z,B⟩;have p:X.at st g d f/\In g j i.defers:=⟨y.ev hj.1 (n.frMono hj.2.sub),by rw[z];exact hj.2.later r.sim.frLt B⟩;have:=F y t j d σ' i f g G p hrd;refine Yn (λe k l q=>?_) _ _ _ this;exact q.grow n.sub n.size J (by rw[z];exact B)
 have b:=h t s u σ a w r (hrd▸QbM);unfold wpL wpListIn at b⊢;split
 .rename_i m;rw[if_pos m]at b;refine⟨b.1,QhZ (λk l q=>?_) (λL k l q=>?_) (λk l q=>?_) b.2⟩
  .unfold wpListIn at q;exact E k l q
  .obtain⟨x,_,_,_,_,_,q,_⟩:=q;exact q.elim
  .obtain⟨x,_,_,_,_,_,q,_⟩:=q;exact q.elim
 .rename_i m;rw[if_neg m]at b;refine⟨b.1,?_⟩;have q:=b.2;unfold wpListIn at q;exact E _ _ q
theorem WOy.yield{all:Array Oper}{o:Oper}{rest:List Oper}{d:Nat}{x:T}{M rem:List T}(G:X.nx M x rem)(hg:Qx all o env true)(E:o.dst=some d)(hN:Nat.blt d N=true)
  (J:∀fr ro σ a w,Rel fr ro σ H env N a w->∃vs:List Value,LR ro [] w (X.enc x) vs/\(execOp a.eval o).run P w=(Instr.yield X.l vs.toArray).run P w)
  (k:∀b:Bool,WOy X P h0 N all rest (up env d (.bool b)) H (bif b then .on rem else .off rem) Q):WOy X P h0 N all (o::rest) env H (.on M) Q:=by
 intro V O fr ro σ a w g r hj hrd;obtain⟨vs,hv,he⟩:=J fr ro σ a w r;obtain⟨q,hq,R⟩:=hj.1;obtain⟨fn,tmps,assign,W,h1,Y⟩:=V.round M x rem q g ro w vs G R hq (λb z=>⟨r.sim.roLt b z,λy=>r.sim.roFr b z (hj.2.sub b y)⟩) hv;have h3:=he.trans h1;unfold wpL wpListIn;rw[if_pos (Jg hg r)];refine⟨λ_ _=>trivial,?_⟩;rw[Qch h3 (λd e=>by cases e)];refine⟨λh=>by simp[WF,Fence.wide]at h,?_⟩;refine RoundIn.mono (F:=WF O) (n:=0) Y ?_;rintro e i ⟨j,p,t,m,f⟩;obtain⟨s',ev⟩:=r.sim.round hj.2.sub m;have L:d<N:=by simpa using hN
 have u:Ext ro σ w ro σ i:=by have:=ev.ext σ [];simpa using this
 have fin:∀b:Bool,X.at (bif b then .on rem else .off rem) j ro i->wpL P O all (QcJ X h0 fr ro σ w N a.defers Q) rest (a.put o.dst (.bool b)) i:=by
  intro b f;have hm:QcO (λb=>fr b\/j b) a.defers i:=by
   refine⟨r.defers.1,λd E=>?_⟩;obtain⟨D,rfl,B,q2⟩:=r.defers.2 d E;exact⟨D,rfl,.inl B,(m.keep D (r.sim.frLt D B) (hj.2.beside D E)).trans q2⟩
  have hi:In j (λb=>fr b\/j b) a.defers:=by
   refine⟨λb q=>.inr q,λD hD q=>?_⟩;rcases m.new D q with p|p
   .exact hj.2.beside D hD p
   .obtain⟨D',e,B,_⟩:=r.defers.2 _ hD;have:D=D':=by simpa using e
    subst this;have:=r.sim.frLt D B;omega
  have r':Rel (λb=>fr b\/j b) ro σ H (up env d (.bool b)) N {a with tmps:=a.tmps.setIfInBounds d (.bool b)} i:=
   ⟨s',VR.up (fr:=fr) (λs=>(r.env s).mono u) (by rw[r.size];exact L) rfl,by simpa using r.size,hm⟩
  have:=k b V O _ ro σ _ i j r' ⟨f,hi⟩ hrd;simp only[E,Act.put];refine Yn (λe a2 w2 q=>q.grow (λ_ q=>q) m.size rfl ⟨λ_ q=>.inl q,λb q=>?_,λ_ q=>.inl q⟩) _ _ _ this;rcases q with q|q
  .exact .inl q
  .rcases m.new b q with q|q
   .exact .inl (hj.2.sub b q)
   .exact .inr q
 rcases f with⟨rfl,f⟩|⟨rfl,f⟩
 .exact fin true ⟨p,t,f⟩
 .exact fin false ⟨p,t,f⟩
end
def EndY{T:Type}:Yq T:=λx env H st=>(x=.normal\/x=.ret)/\(st=.on []\/ ∃rem,st=.off rem)
theorem QcF{T:Type}{P:Program}{f:FuncId}{fn:Func}{c:Code}{N:Nat}{a:List A}{H:Qc}{enc:T->List A}{nx:List T->T->List T->Prop}{xs:List T}
  (W:P.funcs[f]?=some fn)(hb:fn.body=some c)(hN:fn.ntmps=N)(hA:Nat.ble (a.length+1) N=true)(hR:fn.results= #[])
  (h:∀X:Ctx T,X.enc=enc->X.nx=nx->TCy X P H.length N c (QfF 0 (.fn (.yield X.l) [] []::a)) H (.on xs) EndY):Qdx P f a H enc nx xs:=by
 intro X hE hNx hX fr ro0 σ w capv q0 hs hq0 hl hj;have p:LR ro0 σ w (.fn (.yield X.l) [] []::a) (Value.func (.yield X.l) #[] #[]::capv):=⟨_,_,rfl,⟨[],[],rfl,rfl,rfl⟩,hl⟩;have t:=p.length;have ab:a.length+1<=N:=by simpa using hA
 refine(callsIn_wide (n:=0)).1 (callsIn_of_wp_marks W hb trivial (Code.wpIn_mono ?_ (h X hE hNx hX none fr ro0 σ _ w fr ⟨hs,?_,?_,List.nodup_nil,λd y=>by cases y⟩ ⟨⟨q0,hq0,hj⟩,λ_ q=>q,λD hD=>by cases hD⟩ rfl)))
 .rintro e L Q ⟨x,R,H1,st,M,σ1,aa,O,V,⟨Y,E⟩,j,⟨h4,k⟩,h5,h6,h7,h8⟩;have r:LeavesInM Fence.wide 0 P fn L.tmps (λe W'=>(∃v,e=.returned v)/\ ∃g q',(∀b,fr b->g b)/\((X.J [] q' g W')\/(∃rem,X.Jx rem q' g W'))) L.defers .returning Q:=by
   refine Qa7 (ro:=M) (fr:=O) (σ:=σ1) (H:=H1) L.defers Q j.defers.1 (λd y=>?_) (j.sim.frMono k.sub) (λw2 s2 m=>?_)
   .obtain⟨D,rfl,G,q2⟩:=j.defers.2 d y;exact⟨D,rfl,λq=>j.sim.roFr D q G,k.beside D y,λi x z F B=>(j.sim.own i D x z F B).2.2 G,λi d x z F B=>(j.sim.hid i d x D z F B).fr G,q2⟩
   .have u:=hX.up (hX.ev h4 m) (g':=λb=>O b\/fr b) (λb q=>.inl q) (λb q=>Vn (j.sim.frLt b (q.elim (k.sub b) (h8.sub b))) m.size);obtain⟨q9,_,u⟩:=u;refine⟨.tuple #[],by simp[results,hR,go_sem],⟨_,rfl⟩,λb=>O b\/fr b,q9,λb q=>.inr q,?_⟩;rcases E with rfl|⟨rem,rfl⟩
    .exact .inl u
    .exact .inr ⟨rem,u⟩
  cases e with
  |normal=>exact r
  |ret=>exact r
  |exit id=>
   obtain rfl:x=.exit id:=V;rcases Y with q|q<;>cases q
  |_=>exact V.elim
 .intro s;have:=Qei (i:=0) [] rfl p (Array.replicate (fn.ntmps-(Value.func (.yield X.l) #[] #[]::capv).toArray.size) undef) s;simpa using this
 .simp only[X8]at t;simp[hN];omega
section
variable {T:Type}{X:Ctx T}{P:Program}{h0 N:Nat}{c c':Code}{env:Env}{H:Qc}{st:YSt T}{Q Q':Yq T}
theorem TCy.mono(h:TCy X P h0 N c env H st Q)(n:∀x env H st,Q x env H st->Q' x env H st):TCy X P h0 N c env H st Q':=by
 intro j m t p σ a w g r hj hrd;refine Code.wpIn_mono ?_ (h j m t p σ a w g r hj hrd);rintro e y u ⟨x,b,H',d,f,σ',i,q,l,k,s⟩;exact⟨x,b,H',d,f,σ',i,q,l,n _ _ _ _ k,s⟩
theorem TCy.skip(h:Q .normal env H st):TCy X P h0 N .skip env H st Q:=TCy.lift (TC.skip h)
theorem TCy.ret(h:Q .ret env H st):TCy X P h0 N .ret env H st Q:=TCy.lift (TC.ret h)
theorem TCy.exit{id:Nat}(h:Q (.exit id) env H st):TCy X P h0 N (.exit id) env H st Q:=TCy.lift (TC.exit h)
def BloY(id:Nat)(Q:Yq T):Yq T
 |.normal,env,H,st=>Q .normal env H st
 |.exit id',env,H,st=>bif Nat.beq id' id then Q .normal env H st else Q (.exit id') env H st
 |.ret,env,H,st=>Q .ret env H st
theorem TCy.block{id:Nat}(h:TCy X P h0 N c env H st (BloY id Q)):TCy X P h0 N (.block id c) env H st Q:=by
 intro s t y u σ a w g r hj hrd;refine wpIn_block (Code.wpIn_mono ?_ (h s t y u σ a w g r hj hrd));rintro e B z ⟨x,b,H',f,i,σ',j,m,l,k,n⟩;cases e with
 |normal=>
  obtain rfl:x=.normal:=l;exact⟨_,b,H',f,i,σ',j,m,rfl,k,n⟩
 |exit d=>
  obtain rfl:x=.exit d:=l;show Exit.inBlock id _ _ _ _;unfold Exit.inBlock;simp only[BloY]at k;by_cases q:d=id
  .subst q;rw[Nat.beq_refl,cond_true]at k;simp only[if_true];exact⟨.normal,b,H',f,i,σ',j,m,rfl,k,n⟩
  .have p:Nat.beq d id=false:=by
    cases e:Nat.beq d id with
    |false=>rfl
    |true=>exact absurd (XX e) q
   rw[p,cond_false]at k;simp only[q,if_false];exact⟨.exit d,b,H',f,i,σ',j,m,rfl,k,n⟩
 |ret=>
  obtain rfl:x=.ret:=l;exact⟨_,b,H',f,i,σ',j,m,rfl,k,n⟩
 |_=>exact l.elim
end
section
variable {T:Type}{X:Ctx T}{P:Program}{h0 N:Nat}{c:Code}{env:Env}{H:Qc}{st:YSt T}{Q:Yq T}
def QkH(I:Env->Qc->YSt T->Prop)(Q:Yq T):Yq T
 |.normal,env,H,st=>I env H st
 |.exit id,env,H,st=>Q (.exit id) env H st
 |.ret,env,H,st=>Q .ret env H st
theorem QfN{I:Nat->Env->Qc->YSt T->Prop}(body:∀n env H st,I n env H st->TCy X P h0 N c env H st (QkH (λenv H st=>∃n',n'<n/\I n' env H st) Q)){n:Nat}(F:I n env H st):TCy X P h0 N (.loop c) env H st Q:=by
 intro hX V z B σ a w g r hj hrd b k cs hro hb hr;have J:∀m n env H st fr1 ro1 σ1 a1 w1 g1,n<m->I n env H st->Rel fr1 ro1 σ1 H env N a1 w1->(∀b,B b->ro1 b)->w.heap.size<=w1.heap.size->σ1.take h0=σ.take h0->Grow z w a.defers fr1 a1.defers->X.at st g1 ro1 w1/\In g1 fr1 a1.defers->
   ∃e i h,QcJ X h0 z B σ w N a.defers Q e i h/\ArrivesIn (Machine.fenced P (WF V)) P (lone (b.atR a1 (.code c::.inLoop c::k)) cs w1) b k cs e i h:=by
  intro m
  induction m with
  |zero=>intro n env H st fr1 ro1 σ1 a1 w1 g1 hn;exact absurd hn (Xo _)
  |succ m ih=>
   intro n env H st fr1 ro1 σ1 a1 w1 g1 hn F r1 s1 z1 t1 gr1 j1;obtain⟨e,i,h,G,d⟩:=body n env H st F hX V fr1 ro1 σ1 a1 w1 g1 r1 j1 hrd b (.inLoop c::k) cs hro hb hr;obtain⟨x,f,H',j,s,σ',t,g',y,u,M,Y,q5,L,R,q8⟩:=G;have W:=λb q=>q5 b (s1 b q);have p:=gr1.trans z1 q8;have O:∀x,Q x f H' j->ExR e x->QcJ X h0 z B σ w N a.defers Q e i h:=λx q q'=>⟨x,f,H',j,s,σ',t,g',q',q,M,Y,W,X3 z1 L,R.trans t1,p⟩;cases e with
   |normal=>
    obtain rfl:x=.normal:=y;obtain⟨n',aa,u⟩:=u;obtain⟨e2,a2,w2,E,l⟩:=ih n' f H' j t s σ' i h g' (by omega) u M W (X3 z1 L) (R.trans t1) p Y;exact⟨e2,a2,w2,E,.of_steps (StepsIn.trans d (.one (fenced_calm hb hr rfl) stepR_inLoop)) l⟩
   |exit id=>
    obtain rfl:x=.exit id:=y;exact⟨_,i,h,O _ u rfl,.pass (x:=.inLoop c) rfl (λ_ _=>.inl (by simp)) d⟩
   |ret=>
    obtain rfl:x=.ret:=y;exact⟨_,i,h,O _ u rfl,.pass (x:=.inLoop c) rfl (λ_ _=>.inl (by simp)) d⟩
   |_=>exact y.elim
 obtain⟨e,i,h,G,d⟩:=J (n+1) n env H st z B σ a w g (Xp _) F r (λ_ q=>q) (X0 _) rfl (Grow.refl _ _ _) hj;exact⟨e,i,h,G,.of_steps (.one (fenced_calm hb hr rfl) stepR_loop) d⟩
end
end Go.Sw
namespace Go.Sw
theorem Sim.part{fr ro:Nat->Prop}{σ:Sig}{H:Qc}{w:World}(s0:Sim fr ro σ H w){π:List Nat}{Hc:Qc}(Y:π.map (λp=>H[p]?)=(Hc.map (QZ (rho π H.length))).map some)(hπ:π.Nodup):
  Sim (λb=>fr b\/(∃i x,σ[i]?=some (some b)/\H[i]?=some x/\x.live=true/\i∉π)\/ ∃i x d,σ[i]?=some (some d)/\H[i]?=some x/\Hid w x d b/\i∉π) ro (Q6 σ π) Hc w/\ ∀j:Nat,σ[rho π H.length j]?=(Q6 σ π)[j]? :=by
 have hp:∀p∈π,p<H.length:=λp q=>Y6 Y q;have hσl:=s0.len;have h:∀(j p:Nat),π[j]?=some p->H[p]?=(Hc[j]?).map (QZ (rho π H.length)):=by
  intro j p a;have:=congrArg (λl=>l[j]?) Y;simp only[Xr,a,Xk]at this;cases e:Hc[j]? with
  |none=>rw[e]at this;simp at this
  |some x=>rw[e]at this;simpa using this
 have Q:π.length=Hc.length:=by simpa using congrArg List.length Y
 have hσc:∀j:Nat,σ[rho π H.length j]?=(Q6 σ π)[j]? :=by
  intro j;have:=Qdz (τ:=[]) hσl hp j;simpa using this
 have hπj:∀(j b:Nat),(Q6 σ π)[j]?=some (some b)->∃p,π[j]?=some p/\σ[p]?=some (some b):=by
  intro j b a;simp only[Q6,Xr]at a;cases e:π[j]? with
  |none=>rw[e]at a;simp at a
  |some p=>
   rw[e]at a;simp at a;refine⟨p,rfl,?_⟩;cases r:σ[p]? with
   |none=>rw[r]at a;simp at a
   |some s=>rw[r]at a;simp at a;rw[a]
 refine⟨?_,hσc⟩
 .refine⟨by simp[Q6,Q],s0.roOk,?_,?_,?_,?_,?_,?_⟩
  .rintro b (M|⟨i,x,f,n,m,O⟩|⟨i,x,d,f,n,m,O⟩)
   .exact s0.frLt b M
   .exact(s0.own i b x f n m).1
   .exact(s0.hid i d x b f n m).lt
  .rintro b M (L|⟨i,x,f,n,m,O⟩|⟨i,x,d,f,n,m,O⟩)
   .exact s0.roFr b M L
   .exact(s0.own i b x f n m).2.1 M
   .exact(s0.hid i d x b f n m).ro M
  .intro j b x f n m;obtain⟨p,g,r⟩:=hπj j b f;have E:H[p]?=some (QZ (rho π H.length) x):=by rw[h j p g,n];rfl
   obtain⟨o1,o2,o3⟩:=s0.own p b _ r E (by rw[QI];exact m);refine⟨o1,o2,?_⟩;rintro(L|⟨i,y,y1,y2,F,P⟩|⟨i,y,d,y1,y2,F,P⟩)
   .exact o3 L
   .have:=s0.inj i p b _ _ y1 r y2 E F (by rw[QI];exact m);subst this;exact P (List.mem_of_getElem? g)
   .exact(s0.hid i d y b y1 y2 F).ne p b _ r E (by rw[QI];exact m) rfl
  .intro i j b x y f n m O q5 q6;obtain⟨p,g,r⟩:=hπj i b f;obtain⟨u,t,X⟩:=hπj j b n;have E:H[p]?=some (QZ (rho π H.length) x):=by rw[h i p g,m];rfl
   have V:H[u]?=some (QZ (rho π H.length) y):=by rw[h j u t,O];rfl
   have:=s0.inj p u b _ _ r X E V (by rw[QI];exact q5) (by rw[QI];exact q6);subst this;have G:i<π.length:=by
    rcases Nat.lt_or_ge i π.length with q|q
    .exact q
    .rw[XV q]at g;simp at g
   have a:j<π.length:=by
    rcases Nat.lt_or_ge j π.length with q|q
    .exact q
    .rw[XV q]at t;simp at t
   rw[XR G]at g;rw[XR a]at t;have z:=(X7 g).trans (X7 t).symm;rcases Nat.lt_trichotomy i j with q|q|q
   .exact(List.pairwise_iff_getElem.1 hπ i j G a q z).elim
   .exact q
   .exact(List.pairwise_iff_getElem.1 hπ j i a G q z.symm).elim
  .intro j s x f n;have a:j<π.length:=by
    rcases Nat.lt_or_ge j π.length with q|q
    .exact q
    .rw[XV (by simpa[Q6]using q)]at f;simp at f
   have g:π[j]?=some π[j]:=XR a;have E:H[π[j]]?=some (QZ (rho π H.length) x):=by rw[h j _ g,n];rfl
   have r:σ[π[j]]?=some s:=by
    have:=hσc j;rw[f]at this;simpa[rho,g]using this
   exact(QgF hσc).1 (s0.blk _ s _ r E)
  .intro j b x c f n m;obtain⟨p,g,r⟩:=hπj j b f;have E:H[p]?=some (QZ (rho π H.length) x):=by rw[h j p g,n];rfl
   have k:=s0.hid p b _ c r E ((Qaj _ _ _ _ _).2 m);refine⟨k.lt,k.ro,?_,?_,?_⟩
   .rintro(L|⟨i,y,y1,y2,F,P⟩|⟨i,y,d,y1,y2,F,P⟩)
    .exact k.fr L
    .exact k.ne i c y y1 y2 F rfl
    .obtain⟨rfl,rfl⟩:=k.one i d y y1 y2 F;exact P (List.mem_of_getElem? g)
   .intro B N y R z2 T;obtain⟨u,J,W⟩:=hπj B N R;exact k.ne u N _ W (show H[u]?=some (QZ (rho π H.length) y)by rw[h B u J,z2];rfl) (by rw[QI];exact T)
   .intro B N y R z2 T;obtain⟨u,J,W⟩:=hπj B N R;obtain⟨z4,z5⟩:=k.one u N _ W (show H[u]?=some (QZ (rho π H.length) y)by rw[h B u J,z2];rfl) ((Qaj _ _ _ _ _).2 T);subst z5;have G:B<π.length:=(XS.1 J).1;have a:j<π.length:=(XS.1 g).1;rw[XR G]at J;rw[XR a]at g;have z:=(X7 J).trans (X7 g).symm;refine⟨z4,?_⟩;rcases Nat.lt_trichotomy B j with q|q|q
    .exact(List.pairwise_iff_getElem.1 hπ B j G a q z).elim
    .exact q
    .exact(List.pairwise_iff_getElem.1 hπ j B a G q z.symm).elim
theorem Sim.frames{fr fr' ro:Nat->Prop}{σ:Sig}{H:Qc}{w:World}(s:Sim fr ro σ H w)(lt:∀b,fr' b->b<w.heap.size)(hro:∀b,ro b->¬fr' b)(own:∀(i b:Nat) (x:Blk),σ[i]?=some (some b)->H[i]?=some x->x.live=true->¬fr' b)
  (hd:∀(i b:Nat) (x:Blk) (c:Nat),σ[i]?=some (some b)->H[i]?=some x->Hid w x b c->¬fr' c):Sim fr' ro σ H w:=
 ⟨s.len,s.roOk,lt,hro,λi b x q1 q2 q3=>⟨(s.own i b x q1 q2 q3).1,(s.own i b x q1 q2 q3).2.1,own i b x q1 q2 q3⟩,s.inj,s.blk,
  s.hidTo (· = ·) Q2 (X0 _) (λ_ _ _ _ _ _ _ q=>q) (λi b x c q1 q2 q3 q4=>(hd i b x c q1 q2 q3 q4).elim) λj d y g1 g2 g3=>.inl ⟨j,y,rfl,g1,g2,id,λ_ q=>q⟩⟩
def Qi5(H:Qc)(p:Nat):Qc:=match H[p]? with
 |some x=>bif x.holds then H.set p .dead else H
 |none=>H
def Qdk:Qc->List Nat->Qc
 |H,[]=>H
 |H,p::π=>Qdk (Qi5 H p) π
theorem Qdl(H:Qc)(p:Nat):(Qi5 H p=H/\ ∀x,H[p]?=some x->x.holds=false)\/Qi5 H p=H.set p .dead:=by
 unfold Qi5;cases h:H[p]? with
 |none=>exact .inl ⟨rfl,λx q=>by cases q⟩
 |some x=>
  cases q:x.holds with
  |false=>exact .inl ⟨by simp[q],λy a=>by cases a;exact q⟩
  |true=>exact .inr (by simp[q])
theorem Qej:∀(π:List Nat) (H:Qc) (i:Nat) (x:Blk),(Qdk H π)[i]?=some x->x=.dead\/(H[i]?=some x/\(x.holds=true->i∉π))
 |[],H,i,x,h=>.inr ⟨h,λ_=>by simp⟩
 |p::π,H,i,x,h=>by
  rcases Qej π _ i x h with h|⟨h1,h2⟩
  .exact .inl h
  .rcases Qdl H p with⟨e,hl⟩|e
   .rw[e]at h1;refine .inr ⟨h1,λhx=>?_⟩;simp only[Ve,not_or];refine⟨λq=>?_,h2 hx⟩;subst q;have:=hl x h1;rw[this]at hx;cases hx
   .rw[e]at h1;by_cases q:p=i
    .subst q;rw[Xb]at h1;simp at h1;exact .inl h1.2.symm
    .rw[XW q]at h1;exact .inr ⟨h1,λhx=>by simp only[Ve,not_or];exact⟨λr=>q r.symm,h2 hx⟩⟩
theorem Qda{fr ro:Nat->Prop}{σ:Sig}{w:World}:∀(π:List Nat) {H:Qc} (s:Sim fr ro σ H w),Sim fr ro σ (Qdk H π) w
 |[],_,s=>s
 |p::π,H,s=>by
  rw[Qdk];rcases Qdl H p with h|h
  .rw[h.1];exact Qda π s
  .rw[h];exact Qda π (s.kill p)
theorem Sim.put{fr ro:Nat->Prop}{σ:Sig}{H:Qc}{w:World}(s:Sim fr ro σ H w){b:Nat}{obj:Obj}(l:fr b)(r:w.shape? b=none):
  Sim fr ro σ H (w.putObj b obj)/\Qf (λc=>c≠b) ro w ro (w.putObj b obj):=by
 have a:∀c,c≠b->(w.putObj b obj).heap[c]?=w.heap[c]? :=λc u=>World.putObj_heap_other u;have f:(w.putObj b obj).heap.size=w.heap.size:=by simp
 have t:∀c,ro c->c≠b:=λc q e=>s.roFr c q (e▸l);have ev:Qf (λc=>c≠b) ro w ro (w.putObj b obj):=by
  refine⟨λ_ q=>q,λc q=>a c (t c q),λc q=>a c q,by rw[f];exact X0 _,λc x q=>?_,rfl,rfl,rfl,X0 _⟩;by_cases e:c=b
  .subst e;rw[r]at q;cases q
  .unfold World.shape? at q⊢;rw[a c e];exact q
 have g:Ext ro σ w ro σ (w.putObj b obj):=by have:=ev.ext σ [];simpa using this
 refine⟨⟨s.len,s.roOk.to (λ_ q=>q) ev.keepRo (λc q=>by rw[f];exact s.roLt c q),λc q=>by rw[f];exact s.frLt c q,s.roFr,λi c x h k E=>?_,s.inj,λi y x h k=>?_,
  s.hidTo (· = ·) Q2 (by rw[f];exact X0 _) (λ_ _ _ _ _ _ _ q=>q) (λ_ _ _ _ _ _ _ q=>q) λj d y p n J=>.inl ⟨j,y,rfl,p,n,id,λc q=>s.hidKeep p n (λz=>a d (λe=>(s.own j d y p n z).2.2 (e▸l))) ev.keepRo q⟩⟩,ev⟩
 .obtain⟨F,G,B⟩:=s.own i c x h k E;exact⟨by rw[f];exact F,G,B⟩
 .refine(s.blk i y x h k).keep g ?_ ?_
  .rintro c rfl m;exact a c (λe=>(s.own i c x h k m).2.2 (e▸l))
  .rintro d c rfl m;exact a c (λe=>(s.hid i d x c h k m).fr (e▸l))
theorem Qa6{w:World}{l:Nat}{r:Loop}(h:w.heap[l]?=some (.loop r)):w.shape? l=none:=by
 unfold World.shape?;rw[h]
structure Fix where
 fr:Nat->Prop
 ro:Nat->Prop
 σ:Sig
 w:World
 h1:Nat
 env:Env
 tmps:Array Value
 ds1:List Deferred
 l:Nat
 rc:LoopState->Option Code->Loop
 fr1:Nat->Prop
structure Fix.Ok (D:Fix):Prop where
 sub:∀b,D.fr b->D.fr1 b
 l1:D.fr1 D.l
 lf:¬D.fr D.l
 len:D.σ.length=D.h1
structure RJ (D:Fix) (ro1:Nat->Prop) (σ1:Sig) (H:Qc) (st:LoopState) (pe:Option Code) (q g:Nat->Prop) (W:World):Prop where
 sim:Sim D.fr1 ro1 σ1 H W
 env:∀t,VR ro1 D.σ W (lk D.env t) (D.tmps.getD t undef)
 sig:σ1.take D.h1=D.σ
 ev:Qf D.fr D.ro D.w ro1 W
 marks:QcO D.fr1 D.ds1 W
 rc:W.heap[D.l]?=some (.loop (D.rc st pe))
 roG:∀b,ro1 b->q b\/g b
 frG:∀b,D.fr1 b->g b
 own:∀(i b:Nat) (x:Blk),σ1[i]?=some (some b)->H[i]?=some x->x.live=true->g b
 hidG:∀(i b:Nat) (x:Blk) (c:Nat),σ1[i]?=some (some b)->H[i]?=some x->Hid W x b c->g c
 lt:∀b,g b->b<W.heap.size
theorem Qde{σ σ1:Sig}{a:Nat}(h:σ1.take a=σ){i b:Nat}(q:σ[i]?=some (some b)):σ1[i]?=some (some b):=by
 subst h;rw[List.getElem?_take]at q;split at q
 .exact q
 .cases q
section
variable {D:Fix}{ro1:Nat->Prop}{σ1:Sig}{H:Qc}{st:LoopState}{pe:Option Code}{qR g:Nat->Prop}{W:World}
theorem RJ.step(r:D.Ok)(j:RJ D ro1 σ1 H st pe qR g W){ro':Nat->Prop}{W':World}(e:Qf g qR W ro' W'):RJ D ro1 σ1 H st pe qR g W':=by
 have a:∀b,ro1 b->W'.heap[b]?=W.heap[b]? :=λb q=>(j.roG b q).elim (e.keepRo b) (e.keepFr b);have ev:Qf D.fr1 ro1 W ro1 W':=⟨λ_ q=>q,a,λb q=>e.keepFr b (j.frG b q),e.size,e.shape,e.os,e.tape,e.output,e.drawn⟩;have k:∀σ,Ext ro1 σ W ro1 σ W':=λ σ=>by have:=ev.ext σ [];simpa using this
 refine⟨⟨j.sim.len,j.sim.roOk.to (λ_ q=>q) a (λb q=>Vn (j.sim.roLt b q) e.size),λb q=>Vn (j.sim.frLt b q) e.size,j.sim.roFr,λi b x f h p=>?_,j.sim.inj,λi z x f h=>?_,
  j.sim.hidTo (· = ·) Q2 e.size (λ_ _ _ _ _ _ _ q=>q) (λ_ _ _ _ _ _ _ q=>q) λi d y n m w=>.inl ⟨i,y,rfl,n,m,id,λc q=>j.sim.hidKeep n m (λz=>e.keepFr d (j.own i d y n m z)) a q⟩⟩,
  λt=>(j.env t).mono (k _),j.sig,j.ev.trans (ev.frMono r.sub),j.marks.keep ev,(ev.keepFr _ r.l1).trans j.rc,j.roG,j.frG,j.own,λi b x c f h p=>j.hidG i b x c f h (j.sim.hidKeep f h (λz=>e.keepFr b (j.own i b x f h z)) a p),λb q=>Vn (j.lt b q) e.size⟩
 .obtain⟨s,u⟩:=j.sim.own i b x f h p;exact⟨Vn s e.size,u⟩
 .refine(j.sim.blk i z x f h).keep (k _) ?_ ?_
  .rintro b rfl l;exact e.keepFr b (j.own i b x f h l)
  .rintro b c rfl l;exact e.keepFr c (j.hidG i b x c f h l)
theorem RJ.up{g':Nat->Prop}(j:RJ D ro1 σ1 H st pe qR g W)(h:∀b,g b->g' b)(hl:∀b,g' b->b<W.heap.size):RJ D ro1 σ1 H st pe qR g' W:=
 {j with roG:=λb q=>(j.roG b q).imp id (h b),frG:=λb q=>h b (j.frG b q),own:=λi b x q1 q2 q3=>h b (j.own i b x q1 q2 q3),hidG:=λi b x c q1 q2 q3=>h c (j.hidG i b x c q1 q2 q3),lt:=hl}
def FrB(D:Fix)(ro1 g:Nat->Prop)(W:World):Nat->Prop:=λb=>(D.fr1 b\/(¬g b/\ ¬ro1 b))/\b<W.heap.size
theorem RJ.simB(j:RJ D ro1 σ1 H st pe qR g W):Sim (FrB D ro1 g W) ro1 σ1 H W:=by
 refine j.sim.frames (λb q=>q.2) (λb q r=>?_) (λi b x a d e r=>?_) (λi b x c a d e r=>r.1.elim (j.sim.hid i b x c a d e).fr λr=>r.1 (j.hidG i b x c a d e))
 .rcases r.1 with r|r
  .exact j.sim.roFr b q r
  .exact r.2 q
 .rcases r.1 with r|r
  .exact(j.sim.own i b x a d e).2.2 r
  .exact r.1 (j.own i b x a d e)
theorem RJ.fin(G:D.Ok)(j:RJ D ro1 σ1 H st pe qR g W){w ro':Nat->Prop}{σ':Sig}{H':Qc}{W':World}{st':LoopState}{pe':Option Code}
  (ev:Qf (λb=>FrB D ro1 g W b/\b≠D.l) ro1 W ro' W')(s:Sim w ro' σ' H' W')(u:∀b,FrB D ro1 g W b->w b)(hσ:σ'.take D.h1=σ1.take D.h1)(L:W'.heap[D.l]?=some (.loop (D.rc st' pe'))):
  RJ D ro' σ' H' st' pe' qR (λb=>g b\/(W.heap.size<=b/\b<W'.heap.size)) W'/\QeP g (λb=>g b\/(W.heap.size<=b/\b<W'.heap.size)) W W':=by
 have n:∀b,D.fr1 b->FrB D ro1 g W b:=λb q=>⟨.inl q,j.sim.frLt b q⟩;have R:W.shape? D.l=none:=Qa6 j.rc;have E:Qf D.fr ro1 W ro' W':=ev.frMono λb q=>⟨n b (G.sub b q),λe=>G.lf (e▸q)⟩;have y:Ext ro1 D.σ W ro' D.σ W':=ev.ext0 D.σ;have z:∀b,b<W.heap.size->b<W'.heap.size:=λb q=>Vn q ev.size;have m:∀b,b<W.heap.size->¬FrB D ro1 g W b->g b\/ro1 b:=by
  intro b h O;by_cases f:g b
  .exact .inl f
  .by_cases a:ro1 b
   .exact .inr a
   .exact absurd ⟨.inr ⟨f,a⟩,h⟩ O
 refine⟨⟨s.frames (λb q=>z b (j.sim.frLt b q)) (λb q r=>s.roFr b q (u b (n b r))) (λi b x f a p r=>(s.own i b x f a p).2.2 (u b (n b r))) (λi b x c f a p r=>(s.hid i b x c f a p).fr (u c (n c r))),
  λt=>(j.env t).mono y,hσ.trans j.sig,j.ev.trans E,⟨j.marks.1,λd P=>?_⟩,L,λb q=>?_,λb q=>.inl (j.frG b q),λi b x f a p=>?_,λi b x c f a p=>?_,λb q=>q.elim (λq=>z b (j.lt b q)) (λq=>q.2)⟩,
  ⟨λb q=>.inl q,λb q=>q.imp id (λq=>q.1),λb q=>q.elim (λq=>z b (j.lt b q)) (λq=>q.2),λb f a=>.inr ⟨f,a⟩,λb f a=>?_,ev.size,ev.shape,ev.os,ev.tape,ev.output,ev.drawn⟩⟩
 .obtain⟨B,T,J,F⟩:=j.marks.2 d P;refine⟨B,T,J,(ev.keepFr B ⟨n B J,λe=>?_⟩).trans F⟩;subst e;rw[j.rc]at F;cases F
 .rcases Nat.lt_or_ge b W.heap.size with h|h
  .rcases m b h (λr=>s.roFr b q (u b r))with r|r
   .exact .inr (.inl r)
   .exact(j.roG b r).imp id .inl
  .exact .inr (.inr ⟨h,s.roLt b q⟩)
 .obtain⟨M,N,Q⟩:=s.own i b x f a p;rcases Nat.lt_or_ge b W.heap.size with h|h
  .rcases m b h (λr=>Q (u b r))with r|r
   .exact .inl r
   .exact absurd (ev.sub b r) N
  .exact .inr ⟨h,M⟩
 .have k:=s.hid i b x c f a p;rcases Nat.lt_or_ge c W.heap.size with h|h
  .rcases m c h (λr=>k.fr (u c r))with r|r
   .exact .inl r
   .exact absurd (ev.sub c r) k.ro
  .exact .inr ⟨h,k.lt⟩
 .by_cases r:ro1 b
  .exact ev.keepRo b r
  .exact ev.keepFr b ⟨⟨.inr ⟨a,r⟩,f⟩,λe=>a (j.frG b (e▸G.l1))⟩
end
theorem Sim.roAdd{fr ro e:Nat->Prop}{σ:Sig}{H:Qc}{w:World}(s:Sim fr ro σ H w)(l:∀b,e b->b<w.heap.size)(m:∀b,e b->¬fr b)(g:∀(i b:Nat) (x:Blk),σ[i]?=some (some b)->H[i]?=some x->x.live=true->¬e b)
  (h:∀(i b:Nat) (x:Blk) (c:Nat),σ[i]?=some (some b)->H[i]?=some x->Hid w x b c->¬e c):Sim fr (λb=>ro b\/e b) σ H w:=by
 have ext:Ext ro σ w (λb=>ro b\/e b) σ w:=⟨λ_ q=>.inl q,λ_ _=>rfl,λ_ _ q=>q,λ_ _ q=>q⟩;refine⟨s.len,s.roOk.to (λ_ q=>.inl q) (λ_ _=>rfl) (λb q=>q.elim (s.roLt b) (l b)),s.frLt,λb q=>q.elim (s.roFr b) (m b),λi b x a f k=>?_,s.inj,λi y x a f=>(s.blk i y x a f).keep ext (λ_ _ _=>rfl) (λ_ _ _ _=>rfl),
  s.hidTo (· = ·) Q2 (X0 _) (λi b x c a f k n=>n.elim id λq=>(h i b x c a f k q).elim) (λ_ _ _ _ _ _ _ q=>q) λj d y t z B=>.inl ⟨j,y,rfl,t,z,id,λ_ q=>q⟩⟩
 obtain⟨u,r,p⟩:=s.own i b x a f k;exact⟨u,λq=>q.elim r (g i b x a f k),p⟩
theorem RJ.roAdd{D:Fix}{ro1:Nat->Prop}{σ1:Sig}{H:Qc}{st:LoopState}{pe:Option Code}{qR ri g:Nat->Prop}{W:World}(j:RJ D ro1 σ1 H st pe qR g W)(hq:∀b,qR b->ri b)(hI:∀b,ri b->b<W.heap.size/\ ¬g b):RJ D (λb=>ro1 b\/ri b) σ1 H st pe ri g W:=
 {j with
  sim:=j.sim.roAdd (λb q=>(hI b q).1) (λb q z=>(hI b q).2 (j.frG b z)) (λi b x q1 q2 q3 z=>(hI b z).2 (j.own i b x q1 q2 q3)) (λi b x c q1 q2 q3 z=>(hI c z).2 (j.hidG i b x c q1 q2 q3))
  env:=λt=>(j.env t).mono ⟨λ_ q=>.inl q,λ_ _=>rfl,λ_ _ q=>q,λ_ _ q=>q⟩
  ev:=j.ev.trans (YB λ_ q=>.inl q)
  roG:=λb q=>q.elim (λq=>(j.roG b q).imp (hq b) id) .inl}
def QkR:List Nat->List A->Env->Env
 |p::ps,a::zs,env=>QkR ps zs (up env p a)
 |_,_,env=>env
def Qh2:List Nat->List Value->Array Value->Array Value
 |p::ps,v::vs,t=>Qh2 ps vs (t.setIfInBounds p v)
 |_,_,t=>t
theorem Qfg:∀(ps:List Nat) (vs:List Value) (t:Array Value),(Qh2 ps vs t).size=t.size
 |[],_,_=>rfl
 |_::_,[],_=>rfl
 |p::ps,v::vs,t=>by simp[Qh2,Qfg ps]
theorem Qfh:∀(ps:List Nat) (vs:List Value) (t:Array Value),(ps.toArray.zip vs.toArray).foldl (λt (p,v)=>t.setIfInBounds p v) t=Qh2 ps vs t
 |[],vs,t=>by rw[<- Array.foldl_toList,Array.toList_zip];rfl
 |p::ps,[],t=>by rw[<- Array.foldl_toList,Array.toList_zip];rfl
 |p::ps,v::vs,t=>by
  have:=Qfh ps vs (t.setIfInBounds p v);rw[<- Array.foldl_toList,Array.toList_zip]at this⊢;exact this
theorem QiP{ro:Nat->Prop}{σ:Sig}{w:World}:∀(ps:List Nat) (zs:List A) (vs:List Value) (env:Env) (t:Array Value),LR ro σ w zs vs->(∀p∈ps,p<t.size)->(∀s,VR ro σ w (lk env s) (t.getD s undef))->
  ∀s,VR ro σ w (lk (QkR ps zs env) s) ((Qh2 ps vs t).getD s undef)
 |[],_,_,_,_,_,_,h=>h
 |p::ps,[],vs,_,_,hv,_,h=>by
  obtain rfl:vs=[]:=hv;exact h
 |p::ps,a::zs,vs,env,t,hv,hp,h=>by
  obtain⟨v,vs',rfl,h0,hv'⟩:=hv;have h1:=VR.up (fr:=λ_=>False) (a:={tmps:=t,defers:=[]}) h (hp p (by simp)) h0;exact QiP ps zs vs' (up env p a) (t.setIfInBounds p v) hv' (λq hq=>by simpa using hp q (by simp[hq])) h1
def Qiy(h1:Nat)(env:Env)(Q:QC)(K:Qc->Prop):QC
 |.normal,env',H'=>∃H2,Le h1 env' H' [] H2/\K H2
 |.exit id,env',H'=>∃H2,Le h1 env' H' [] H2/\Q (.exit id) env H2
 |.ret,env',H'=>∃H2,Le h1 env' H' [] H2/\Q .ret env H2
def Jump(Q:QC)(env:Env)(c:Code)(H:Qc):Prop:=(∃id,c=.exit id/\Q (.exit id) env H)\/(c=.ret/\Q .ret env H)
section
variable {D:Fix}{ro0:Nat->Prop}{σ1:Sig}{H:Qc}{qR ri g:Nat->Prop}{W:World}{P:Program}{N:Nat}{Q:QC}{K:Qc->Prop}
theorem RJ.round{fn:FuncId}{ps:List Nat}{assign body:Code}{df:Nat}{cs:List A}{vs:List Value}(hD:D.Ok)(m:D.rc=λst pe=>{state:=st,pending:=pe,fn:=fn,tmps:=D.tmps,params:=ps.toArray,assign:=assign,body:=body,defers:=df})
  (hN:D.tmps.size=N)(ah:∀p∈ps,p<N)(ae:cs.length=ps.length)(hq:∀b,qR b->ri b)(hI:∀b,ri b->b<W.heap.size/\ ¬g b)(T:LR ri [] W cs vs)(j0:RJ D ro0 σ1 H .ready none qR g W)
  (h:TC P D.h1 N assign (QkR ps cs D.env) H λe env1 H1=>e=.normal/\TC P D.h1 N body env1 H1 (Qiy D.h1 D.env Q K)):
  YieldAt Fence.wide 0 P D.l vs.toArray W λe W'=>∃g',QeP g g' W W'/\((e=.returned (.bool true)/\ ∃H2 ro2 σ2,K H2/\RJ D ro2 σ2 H2 .ready none ri g' W')\/
   (e=.returned (.bool false)/\ ∃H2 c ro2 σ2,Jump Q D.env c H2/\RJ D ro2 σ2 H2 .done (some c) ri g' W')):=by
 have ai:vs.length=cs.length:=T.length;have j:=j0.roAdd hq hI;have E:LR (λb=>ro0 b\/ri b) σ1 W cs vs:=T.mono ⟨λ_ q=>.inr q,λ_ _=>rfl,λ_ _ q=>q,λi b q=>by simp at q⟩;clear j0;generalize(λb=>ro0 b\/ri b)=ro1 at j E;have al:∀b,D.fr1 b->FrB D ro1 g W b:=λb q=>⟨.inl q,j.sim.frLt b q⟩;have x:=al _ hD.l1;have G:=j.rc;have hy:=run_yield (P:=P) (r:=D.rc .ready none) (args:=vs.toArray) G (by rw[m];simp[ai,ae]);refine⟨fn,Qh2 ps vs D.tmps,assign,body,?_,?_⟩
 .rw[hy,m];simp only[];rw[<- Qfh]
 .refine roundIn_of_wpIn trivial ?_;show Code.wpIn (WF (some D.l)) 0 P _ _ _ _;have ac:∀s,VR ro1 σ1 W (lk D.env s) (D.tmps.getD s undef):=λs=>(j.env s).mono ⟨λ_ q=>q,λ_ _=>rfl,λ_ _ q=>q,λi b q=>Qde j.sig q⟩;have ag:Qdy (some D.l) (FrB D ro1 g W) W:=λl e=>by cases e;exact⟨x,_,G⟩
  have y:=h (some D.l) (FrB D ro1 g W) ro1 σ1 {tmps:=Qh2 ps vs D.tmps,defers:=[]} W ⟨j.simB,QiP ps cs vs D.env D.tmps E (by rw[hN];exact ah) ac,by simp[Qfg,hN],List.nodup_nil,λd hd=>by cases hd⟩ ag;refine Code.wpIn_mono ?_ y;rintro e a1 y ⟨x1,env1,H1,ro2,σ2,u,h1,⟨rfl,h2⟩,R,h4,h5,h6⟩;cases e with
  |normal=>
   have k:y.heap[D.l]?=some (.loop (D.rc .ready none)):=(h4.keepFr _ x).trans G;refine⟨_,run_beginRound k (by rw[m]),?_⟩;obtain⟨s2,F⟩:=R.sim.put (obj:=.loop {D.rc .ready none with state:=.busy}) (h6.sub _ x) (Qa6 k);have Y:D.l<y.heap.size:=by rw[Vk]at k;exact k.1
   have X:(y.putObj D.l (.loop {D.rc .ready none with state:=.busy})).heap[D.l]?=some (.loop {D.rc .ready none with state:=.busy}):=World.putObj_heap_same Y;generalize hw2:y.putObj D.l (.loop {D.rc .ready none with state:=.busy})=w2 at*;have aj:QcO u a1.defers w2:=by
    refine⟨R.defers.1,λd hd=>?_⟩;obtain⟨B,e1,e2,e3⟩:=R.defers.2 d hd;refine⟨B,e1,e2,(F.keepFr B (λe=>?_)).trans e3⟩;subst e;rw[k]at e3;cases e3
   have r2:Rel u ro2 σ2 H1 env1 N a1 w2:=⟨s2,λs=>(R.env s).mono (F.ext0 σ2),R.size,aj⟩;have J:u D.l:=h6.sub _ x;refine Code.wpIn_mono ?_ (h2 (some D.l) u ro2 σ2 a1 w2 r2 (λl e=>by cases e;exact⟨J,_,X⟩));rintro e a3 z ⟨x3,ad,H3,L,σ3,ab,g1,g2,g3,g4,g5,g6⟩;have n:z.heap[D.l]?=some (.loop {D.rc .ready none with state:=.busy}):=(g4.keepFr _ J).trans X;have M:∀(H2:Qc) (jump:Option Code),Le D.h1 ad H3 [] H2->∃v t,(Instr.endRound D.l jump).run P z=.ok v t/\v=.bool jump.isNone/\ ∃g',QeP g g' W t/\ ∃a σ4,RJ D a σ4 H2 (if jump.isNone then .ready else .done) jump ri g' t:=by
    intro H2 jump f;obtain⟨a,σ4,r4,s4,t4⟩:=f ab L σ3 N a3 z g3;refine⟨_,_,run_endRound jump n,rfl,?_⟩;have am:ab D.l:=g6.sub _ J;obtain⟨s5,ak⟩:=r4.sim.put (obj:=.loop {{D.rc .ready none with state:=.busy}with state:=if jump.isNone then .ready else .done,pending:=jump}) am (Qa6 n);have aa:D.l<z.heap.size:=by rw[Vk]at n;exact n.1
    have af:=World.putObj_heap_same (w:=z) (r:=D.l) (o:=.loop {{D.rc .ready none with state:=.busy}with state:=if jump.isNone then .ready else .done,pending:=jump}) aa;have e1:Qf (λb=>FrB D ro1 g W b/\b≠D.l) ro1 W ro2 y:=h4.frMono λb q=>q.1;have e2:Qf (λb=>FrB D ro1 g W b/\b≠D.l) ro2 y ro2 w2:=F.frMono λb q=>q.2;have e3:Qf (λb=>FrB D ro1 g W b/\b≠D.l) ro2 w2 L z:=g4.frMono λb q=>h6.sub b q.1;have e4:Qf (λb=>FrB D ro1 g W b/\b≠D.l) L z a z:=YB s4;have e5:=(((e1.trans e2).trans e3).trans e4).trans (ak.frMono λb (q:FrB D ro1 g W b/\b≠D.l)=>q.2);obtain⟨q1,q2⟩:=j.fin hD e5 s5 (λb q=>g6.sub b (h6.sub b q)) (by rw[t4,g5,h5]) (st':=if jump.isNone then .ready else .done) (pe':=jump) (by rw[af,m]);exact⟨_,q2,a,σ4,q1⟩
   cases e with
   |normal=>
    obtain rfl:x3=.normal:=g1;obtain⟨H2,f,hK⟩:=g2;obtain⟨v,t,V,rfl,g',O,a,σ4,k3⟩:=M H2 none f;exact⟨_,t,V,g',O,.inl ⟨rfl,H2,a,σ4,hK,k3⟩⟩
   |exit id=>
    obtain rfl:x3=.exit id:=g1;obtain⟨H2,f,hK⟩:=g2;obtain⟨v,t,V,rfl,g',O,a,σ4,k3⟩:=M H2 (some (.exit id)) f;exact⟨_,t,V,g',O,.inr ⟨rfl,H2,_,a,σ4,.inl ⟨id,rfl,hK⟩,k3⟩⟩
   |ret=>
    obtain rfl:x3=.ret:=g1;obtain⟨H2,f,hK⟩:=g2;obtain⟨v,t,V,rfl,g',O,a,σ4,k3⟩:=M H2 (some .ret) f;exact⟨_,t,V,g',O,.inr ⟨rfl,H2,_,a,σ4,.inr ⟨rfl,hK⟩,k3⟩⟩
   |_=>exact g1.elim
  |exit id=>cases h1
  |ret=>cases h1
  |_=>exact h1.elim
end
theorem Sim.beside{fr ro:Nat->Prop}{σ:Sig}{H:Qc}{w g:World}(s:Sim fr ro σ H w)(ev:Qf fr ro w ro g)(a:∀b,b<w.heap.size->g.heap[b]?=w.heap[b]?):Sim (λb=>fr b\/(w.heap.size<=b/\b<g.heap.size)) ro σ H g:=by
 have h:Ext ro σ w ro σ g:=ev.ext0 σ;refine⟨s.len,s.roOk.to (λ_ q=>q) ev.keepRo (λb q=>Vn (s.roLt b q) ev.size),λb q=>q.elim (λq=>Vn (s.frLt b q) ev.size) (λq=>q.2),λb q r=>?_,λi b x e f n=>?_,s.inj,λi z x e f=>?_,
  s.hidTo (· = ·) Q2 ev.size (λ_ _ _ _ _ _ _ q=>q) (λi b x c e f n p=>p.elim id λq=>(by have:=(s.hid i b x c e f n).lt;omega)) λj d y m l E=>.inl ⟨j,y,rfl,m,l,id,λc q=>s.hidKeep m l (λz=>a d (s.own j d y m l z).1) ev.keepRo q⟩⟩
 .rcases r with r|r
  .exact s.roFr b q r
  .have:=s.roLt b q;omega
 .obtain⟨u,B,t⟩:=s.own i b x e f n;refine⟨Vn u ev.size,B,λr=>?_⟩;rcases r with r|r
  .exact t r
  .omega
 .refine(s.blk i z x e f).keep h ?_ ?_
  .rintro b rfl k;exact a b (s.own i b x e f k).1
  .rintro b c rfl k;exact a c (s.hid i b x c e f k).lt
theorem QbL{w:World}{o:Obj}{b:Nat}(a:b<w.heap.size):(w.alloc o).heap[b]?=w.heap[b]? :=by
 show(w.heap.push o)[b]?=_;rw[Array.getElem?_push,if_neg (by omega)]
theorem Qmf{P:Program}{fn:FuncId}{tmps:Array Value}{ps:Array Tmp}{assign body:Code}{rd:Option Nat}{fr ro:Nat->Prop}{w:World}(j:Qdy rd fr w)(g:∀b,ro b->b<w.heap.size)(k:∀b,fr b->b<w.heap.size):
  ∃l mark w1 df,(Instr.enterLoop fn tmps ps assign body rd).run P w=.ok (l,mark) w1/\w.heap.size<=l/\l<w1.heap.size/\w1.heap[l]?=some (.loop {state:=.ready,pending:=none,fn:=fn,tmps:=tmps,params:=ps,assign:=assign,body:=body,defers:=df})/\
   (∀b,b<w.heap.size->w1.heap[b]?=w.heap[b]?)/\mark.Nodup/\(∀d∈mark,∃D,d={target:=.collected D,args:= #[]}/\w.heap.size<=D/\D<w1.heap.size/\w1.heap[D]?=some (.deferred (some [])))/\Qf fr ro w ro w1:=by
 have f:∀w1:World,(∀b,b<w.heap.size->w1.heap[b]?=w.heap[b]?)->w.heap.size<=w1.heap.size->w1.os=w.os->w1.tape=w.tape->w1.output=w.output->w1.drawn=w.drawn->Qf fr ro w ro w1:=by
  intro w1 i r u n p y;refine⟨λ_ q=>q,λb q=>i b (g b q),λb q=>i b (k b q),r,λb x q=>?_,u,n,p,by rw[y];exact X0 _⟩;have e:b<w.heap.size:=by
   rcases Nat.lt_or_ge b w.heap.size with z|z
   .exact z
   .unfold World.shape? at q;rw[Array.getElem?_eq_none (by simpa using z)]at q;cases q
  unfold World.shape? at q⊢;rw[i b e];exact q
 cases rd with
 |none=>
  have a:∀b,b<w.heap.size->((w.alloc (.deferred (some []))).alloc (.loop {state:=.ready,pending:=none,fn:=fn,tmps:=tmps,params:=ps,assign:=assign,body:=body,defers:=w.heap.size})).heap[b]?=w.heap[b]? :=λb e=>
   (QbL (by simp;omega)).trans (QbL e)
  refine⟨_,_,_,w.heap.size,run_enterLoop_outer fn tmps ps assign body,by omega,by simp,?_,a,by simp,?_,f _ a (by simp;omega) rfl rfl rfl rfl⟩
  .have:=World.alloc_heap_new (w.alloc (.deferred (some []))) (.loop {state:=.ready,pending:=none,fn:=fn,tmps:=tmps,params:=ps,assign:=assign,body:=body,defers:=w.heap.size})
   rwa [World.size_alloc]at this
  .intro d h;obtain rfl:=List.mem_singleton.1 h;exact⟨_,rfl,X0 _,by simp;omega,(QbL (by simp)).trans (World.alloc_heap_new w _)⟩
 |some s=>
  obtain⟨_,m,t⟩:=j s rfl;have a:∀b,b<w.heap.size->(w.alloc (.loop {state:=.ready,pending:=none,fn:=fn,tmps:=tmps,params:=ps,assign:=assign,body:=body,defers:=m.defers})).heap[b]?=w.heap[b]? :=λb e=>QbL e;exact⟨_,_,_,m.defers,run_enterLoop_inner t fn tmps ps assign body,X0 _,by simp,World.alloc_heap_new w _,a,List.nodup_nil,(λd h=>absurd h List.not_mem_nil),f _ a (by simp) rfl rfl rfl rfl⟩
theorem TC.rangeFunc{P:Program}{h0 N:Nat}{ad:Operand}{ps:List Nat}{assign body:Code}{env:Env}{H:Qc}{Q:QC}{f:FuncId}{af ae:List A}{Hc:Qc}{T S:Type}{enc:T->List A}{nx:List T->T->List T->Prop}{xs:List T}
  (π:List Nat)(Hp:S->Qc)(V:S->List T->Prop)(s0:S)(hh:h0<=H.length)(hg:opA env ad=.fn (.func f) [] af)(hargs:af=Qaa (rho π H.length) ae)(hH:π.map (λp=>H[p]?)=(Hc.map (QZ (rho π H.length))).map some)(hπ:π.Nodup)
  (a9:(ps.all λp=>Nat.blt p N)=true)(eg:∀args w,(callFunc f args).run P w=.ok (.enter f args) w)(a0:Qdx P f ae Hc enc nx xs)(az:∀x,(enc x).length=ps.length)
  (a4:Le H.length env (Qdk H π) env (Hp s0))(hV:V s0 xs)
  (al:∀s l x rem,V s l->nx l x rem->TC P H.length N assign (QkR ps (enc x) env) (Hp s) λe env1 H1=>e=.normal/\TC P H.length N body env1 H1 (Qiy H.length env Q λH2=>∃s',V s' rem/\H2=Hp s'))
  (an:∀s,V s []->Q .normal env (Hp s)):TC P h0 N (.rangeFunc ad ps.toArray assign body) env H Q:=by
 intro rd fr ro σ a w r hrd;have hv:=Qg r ad;rw[hg]at hv;obtain⟨l1,E,hv,ba,ax⟩:=hv;obtain rfl:l1=[]:=ba;refine wpIn_rangeFunc ?_;intro fn bh;obtain⟨l,G,Y,df,he,hl,bb,ar,au,a6,am,aa⟩:=Qmf (P:=P) (fn:=fn) (tmps:=a.tmps) (ps:=ps.toArray) (assign:=assign) (body:=body) (ro:=ro) hrd r.sim.roLt r.sim.frLt;have s1:=r.sim.beside aa au
 let D:Fix:=⟨fr,ro,σ,w,H.length,env,a.tmps,G++a.defers,l,(λst pe=>{state:=st,pending:=pe,fn:=fn,tmps:=a.tmps,params:=ps.toArray,assign:=assign,body:=body,defers:=df}),(λb=>fr b\/(w.heap.size<=b/\b<Y.heap.size))⟩
 have ag:¬fr l:=λq=>by have:=r.sim.frLt l q;omega
 have hD:D.Ok:=⟨λb q=>.inl q,.inr ⟨hl,bb⟩,ag,r.sim.len⟩;have L:QcO D.fr1 (G++a.defers) Y:=by
  refine⟨List.nodup_append.2 ⟨a6,r.defers.1,λd O d' be e=>?_⟩,λd O=>?_⟩
  .subst e;obtain⟨B,e1,e2,_⟩:=am d O;obtain⟨B',aw,a3,_⟩:=r.defers.2 d be;rw[e1]at aw;have:B=B':=by simpa using aw
   subst this;have:=r.sim.frLt B a3;omega
  .rcases List.mem_append.1 O with O|O
   .obtain⟨B,e1,e2,e3,e4⟩:=am d O;exact⟨B,e1,.inr ⟨e2,e3⟩,e4⟩
   .obtain⟨B,e1,e2,e3⟩:=(r.defers.keep aa).2 d O;exact⟨B,e1,.inl e2,e3⟩
 obtain⟨sp,hσc⟩:=s1.part hH hπ;have ak:LR ro (Q6 σ π) Y ae E:=(Qbg hσc).1 (hargs▸ax.mono (aa.ext0 σ))
 let frX:Nat->Prop:=λb=>D.fr1 b\/(∃(j:Nat) (x:Blk),(Q6 σ π)[j]?=some (some b)/\Hc[j]?=some x/\x.live=true)\/ ∃(j:Nat) (x:Blk) (d:Nat),(Q6 σ π)[j]?=some (some d)/\Hc[j]?=some x/\Hid Y x d b
 have sX:Sim frX ro σ (Qdk H π) Y:=by
  refine(Qda π s1).frames (λb q=>?_) (λb q r=>?_) (λi b x n m k r=>?_) (λi b x c n m k r=>?_)
  .rcases q with q|⟨j,x,n,m,k⟩|⟨j,x,d,n,m,k⟩
   .exact s1.frLt b q
   .exact(sp.own j b x n m k).1
   .exact(sp.hid j d x b n m k).lt
  .rcases r with r|⟨j,x,n,m,k⟩|⟨j,x,d,n,m,k⟩
   .exact s1.roFr b q r
   .exact(sp.own j b x n m k).2.1 q
   .exact(sp.hid j d x b n m k).ro q
  .rcases Qej _ _ _ _ m with rfl|⟨m,hi⟩
   .cases k
   .rcases r with r|⟨j,y,p1,p2,p3⟩|⟨j,y,d,p1,p2,p3⟩
    .exact(s1.own i b x n m k).2.2 r
    .exact(sp.own j b y p1 p2 p3).2.2 (.inr (.inl ⟨i,x,n,m,k,hi (Qbj k)⟩))
    .exact(sp.hid j d y b p1 p2 p3).fr (.inr (.inl ⟨i,x,n,m,k,hi (Qbj k)⟩))
  .rcases Qej _ _ _ _ m with rfl|⟨m,hi⟩
   .exact k.elim
   .rcases r with r|⟨j,y,p1,p2,p3⟩|⟨j,y,d,p1,p2,p3⟩
    .exact(s1.hid i b x c n m k).fr r
    .exact(sp.own j c y p1 p2 p3).2.2 (.inr (.inr ⟨i,x,b,n,m,k,hi k.holds⟩))
    .exact(sp.hid j d y c p1 p2 p3).fr (.inr (.inr ⟨i,x,b,n,m,k,hi k.holds⟩))
 have rX:Rel frX ro σ (Qdk H π) env N {a with defers:=G++a.defers} Y:=
  ⟨sX,λs=>(r.env s).mono (aa.ext0 σ),r.size,L.1,λd O=>let⟨B,e1,e2,e3⟩:=L.2 d O;⟨B,e1,.inl e2,e3⟩⟩
 obtain⟨ac,σ',r',ab,bc⟩:=a4 frX ro σ N _ Y rX;have hσt:σ.take H.length=σ:=by rw[<- r.sim.len,Vh]
 let g0:Nat->Prop:=λb=>D.fr1 b\/(ac b/\ ¬ro b)\/(∃(i:Nat) (x:Blk),σ'[i]?=some (some b)/\(Hp s0)[i]?=some x/\x.live=true)\/ ∃(i:Nat) (x:Blk) (d:Nat),σ'[i]?=some (some d)/\(Hp s0)[i]?=some x/\Hid Y x d b
 have j0:RJ D ac σ' (Hp s0) .ready none ro g0 Y:=by
  refine⟨r'.sim.frMono λb q=>.inl q,λt=>(r.env t).mono ⟨ab,aa.keepRo,aa.shape,λ_ _ q=>q⟩,bc.trans hσt,aa.trans (YB ab),L,ar,λb q=>?_,λb q=>.inl q,λi b x n m k=>.inr (.inr (.inl ⟨i,x,n,m,k⟩)),λi b x c n m k=>.inr (.inr (.inr ⟨i,x,b,n,m,k⟩)),λb q=>?_⟩
  .by_cases z:ro b
   .exact .inl z
   .exact .inr (.inr (.inl ⟨q,z⟩))
  .rcases q with q|q|⟨i,x,n,m,k⟩|⟨i,x,d,n,m,k⟩
   .exact s1.frLt b q
   .exact r'.sim.roLt b q.1
   .exact(r'.sim.own i b x n m k).1
   .exact(r'.sim.hid i d x b n m k).lt
 have sI:Sim g0 ro (Q6 σ π) Hc Y:=by
  refine sp.frames (λb q=>j0.lt b q) (λb q z=>?_) (λj b x n m k z=>?_) (λj b x c n m k z=>?_)
  .rcases z with z|z|⟨i,x,n,m,k⟩|⟨i,x,d,n,m,k⟩
   .exact s1.roFr b q z
   .exact z.2 q
   .exact(r'.sim.own i b x n m k).2.1 (ab b q)
   .exact(r'.sim.hid i d x b n m k).ro (ab b q)
  .have hX:frX b:=.inr (.inl ⟨j,x,n,m,k⟩);rcases z with z|z|⟨i,y,p1,p2,p3⟩|⟨i,y,d,p1,p2,p3⟩
   .exact(sp.own j b x n m k).2.2 (.inl z)
   .exact r'.sim.roFr b z.1 hX
   .exact(r'.sim.own i b y p1 p2 p3).2.2 hX
   .exact(r'.sim.hid i d y b p1 p2 p3).fr hX
  .have hX:frX c:=.inr (.inr ⟨j,x,b,n,m,k⟩);rcases z with z|z|⟨i,y,p1,p2,p3⟩|⟨i,y,d,p1,p2,p3⟩
   .exact(sp.hid j b x c n m k).fr (.inl z)
   .exact r'.sim.roFr c z.1 hX
   .exact(r'.sim.own i c y p1 p2 p3).2.2 hX
   .exact(r'.sim.hid i d y c p1 p2 p3).fr hX
 let X:Ctx T:={l:=l,J:=λrem q g W=>∃s F σ1,V s rem/\RJ D F σ1 (Hp s) .ready none q g W,Jx:=λ_ q g W=>∃H2 c F σ1,Jump Q env c H2/\RJ D F σ1 H2 .done (some c) q g W,enc:=enc,nx:=nx}
 have aq:∀p∈ps,p<N:=λp hp=>by simpa using Xw.1 a9 p hp
 have hX:X.ok P:=by
  refine⟨⟨λrem q g W W' ac ⟨s,F,σ1,M,R⟩ he=>⟨s,F,σ1,M,R.step hD he⟩,λrem q g g' W ⟨s,F,σ1,M,R⟩ hg hl=>⟨s,F,σ1,M,R.up hg hl⟩⟩,
   ⟨λrem q g W W' ac ⟨H2,c,F,σ1,M,R⟩ he=>⟨H2,c,F,σ1,M,R.step hD he⟩,λrem q g g' W ⟨H2,c,F,σ1,M,R⟩ hg hl=>⟨H2,c,F,σ1,M,R.up hg hl⟩⟩,?_⟩
  rintro lr x rem q g ri W vs a2 ⟨s,F,σ1,M,R⟩ hq hI bf;obtain⟨bd,tm,a8,a7,y1,y2⟩:=RJ.round (D:=D) (Q:=Q) (K:=λH2=>∃s',V s' rem/\H2=Hp s') hD rfl r.size aq (az x) hq hI bf R (al s lr x rem M a2);refine⟨bd,tm,a8,a7,y1,RoundIn.mono y2 ?_⟩;rintro e W' ⟨g',k1,k2⟩;refine⟨g',ri,λ_ z=>z,k1,?_⟩;rcases k2 with⟨rfl,H2,u,σ2,⟨s',a5,rfl⟩,k3⟩|⟨rfl,H2,c,u,σ2,k3,k4⟩
  .exact .inl ⟨rfl,s',u,σ2,a5,k3⟩
  .exact .inr ⟨rfl,H2,c,u,σ2,k3,k4⟩
 have av:∀(ev:Operand->Value),ev ad=.func (.func f) #[] E.toArray->ev (.const (.func (.yield l) #[] #[]))=.func (.yield l) #[] #[]->(resolve ev (rangeCall ad l) 0).run P Y=.ok {target:=.fn (.func f) E.toArray,args:= #[.func (.yield l) #[] #[]]} Y:=by
  intro ev M R;simp[resolve,go_sem,M,R]
 refine⟨l,G,Y,{target:=.fn (.func f) E.toArray,args:= #[.func (.yield l) #[] #[]]},Y,f, #[.func (.yield l) #[] #[]]++E.toArray,Y,he,av a.eval hv rfl,λ_ _=>trivial,by simp[invoke,go_sem,eg],λh=>by simp[WF,Fence.wide]at h,?_⟩;refine WF.calls.2 ?_;have ai:=a0 X rfl rfl hX g0 ro (Q6 σ π) Y E ro sI (λ_ z=>z) ak ⟨s0,ac,σ',hV,j0⟩;have aj:(#[.func (.yield l) #[] #[]]++E.toArray:Array Value)=((Value.func (.yield X.l) #[] #[]::E)).toArray:=by simp[X]
 rw[aj];refine Calls.mono ai ?_;rintro e W' ⟨⟨v,rfl⟩,g2,qz,bg,a1⟩;have fin:∀(H2:Qc) (st:LoopState) (pe:Option Code) (u:Nat->Prop) (σ2:Sig),st≠ .busy->RJ D u σ2 H2 st pe qz g2 W'->∃w4,(Instr.endLoop l).run P W'=.ok pe w4/\Rel D.fr1 u σ2 H2 env N {a with defers:=G++a.defers} w4/\Qf fr ro w u w4:=by
  intro H2 st pe u σ2 hst j;refine⟨_,run_endLoop j.rc (by exact hst),?_⟩;obtain⟨s5,ah⟩:=j.sim.put (obj:=.loop {(D.rc st pe)with state:=.exhausted}) hD.l1 (Qa6 j.rc);have hr:=j.rc;refine⟨⟨s5,λt=>((j.env t).mono ⟨λ_ q=>q,λ_ _=>rfl,λ_ _ q=>q,λi b q=>Qde j.sig q⟩).mono (ah.ext0 σ2),r.size,j.marks.1,λd O=>?_⟩,j.ev.trans (ah.frMono λb q e=>ag (by have e':b=l:=e;rw[<- e'];exact q))⟩;obtain⟨B,e1,e2,e3⟩:=j.marks.2 d O;refine⟨B,e1,e2,(ah.keepFr B (λe=>?_)).trans e3⟩;subst e;rw[hr]at e3;cases e3
 have ay:Grow fr w a.defers D.fr1 (G++a.defers):=by
  refine⟨λb q=>.inl q,λb q=>q.imp id (λq=>q.1),λd O=>?_⟩;rcases List.mem_append.1 O with O|O
  .obtain⟨B,e1,e2,_⟩:=am d O;exact .inr ⟨B,e1,e2⟩
  .exact .inl O
 have ao:∀{σ2:Sig},σ2.take H.length=σ->σ2.take h0=σ.take h0:=by
  intro σ2 h;have:=congrArg (List.take h0) h
  rwa [List.take_take,XH hh]at this
 rcases a1 with⟨s,u,σ2,M,R⟩|⟨rem,H2,c,u,σ2,M,R⟩
 .obtain⟨w4,f1,f2,f3⟩:=fin _ _ _ u σ2 (by intro e;cases e) R;exact⟨none,w4,f1,.normal,env,_,u,σ2,_,rfl,an s M,f2,f3,ao R.sig,ay⟩
 .obtain⟨w4,f1,f2,f3⟩:=fin _ _ _ u σ2 (by intro e;cases e) R;refine⟨some c,w4,f1,?_⟩;have hc:TC P h0 N c env H2 Q:=by
   rcases M with⟨id,rfl,M⟩|⟨rfl,M⟩
   .exact TC.exit M
   .exact TC.ret M
  exact Code.wpIn_mono (λe a w q=>q.grow f3 (ao R.sig) ay) (hc rd D.fr1 u σ2 _ w4 f2 (hrd.to f3 λb q=>.inl q))
end Go.Sw
namespace Go.Sw
theorem QhS{h0 i k t T:Nat}{env:Env}{H:Qc}(W:Nat.ble h0 H.length=true)(Q:H[i]?=some (.cells T [.nils])):Le h0 env H env (H.set i (.cells T [.osl H.length 0 0 k])++[.row t k []]):=by
 intro fr J σ N a w r;have L:h0<=H.length:=XY W;have P:i<H.length:=(XS.1 Q).1;have ext:Ext J σ w J (σ++[none]) w:=⟨λ_ q=>q,λ_ _=>rfl,λ_ _ q=>q,λ_ _ h=>Jd h⟩;have s:=r.sim.phantom t k;have n:(H++[Blk.row t k []])[i]?=some (.cells T [.nils]):=by rw[XT P];exact Q
 have e0:H.set i (.cells T [.osl H.length 0 0 k])++[.row t k []]=(H++[Blk.row t k []]).set i (.cells T [.osl H.length 0 0 k]):=by
  rw[List.set_append_left _ _ P]
 have g:∀(j:Nat) (v:Blk),((H++[Blk.row t k []]).set i (.cells T [.osl H.length 0 0 k]))[j]?=some v->(j=i/\v=.cells T [.osl H.length 0 0 k])\/(j≠i/\(H++[Blk.row t k []])[j]?=some v):=by
  intro j v h;by_cases e:j=i
  .subst e;rw[Xa (by simp;omega)]at h;exact .inl ⟨rfl,by simpa using h.symm⟩
  .rw[XW (λq=>e q.symm)]at h;exact .inr ⟨e,h⟩
 have f:∀(j:Nat) (v:Blk),((H++[Blk.row t k []]).set i (.cells T [.osl H.length 0 0 k]))[j]?=some v->v.live=true->∃z,(H++[Blk.row t k []])[j]?=some z/\z.live=true:=by
  intro j v h hv;rcases g j v h with⟨rfl,rfl⟩|⟨_,h⟩
  .exact⟨_,n,rfl⟩
  .exact⟨v,h,hv⟩
 refine⟨J,σ++[none],⟨?_,λq=>(r.env q).mono ext,r.size,r.defers⟩,λ_ q=>q,QU (by rw[r.sim.len];exact L)⟩;rw[e0];refine⟨by rw[Vb];exact s.len,s.roOk,s.frLt,s.roFr,λj b v u B E=>?_,λj M b v z u B E q4 q5 V=>?_,λj y v u B=>?_,
  s.hidTo (· = ·) Q2 (X0 _) (λ_ _ _ _ _ _ _ q=>q) (λ_ _ _ _ _ _ _ q=>q) λj d y m p R=>.inl ?_⟩
 rotate_left 3
 .rcases g j y p with⟨rfl,rfl⟩|⟨_,h⟩
  .exact⟨j,_,rfl,m,n,λ_=>rfl,λ_ q=>q.elim⟩
  .exact⟨j,y,rfl,m,h,id,λ_ q=>q⟩
 .obtain⟨z,m,p⟩:=f j v B E;exact s.own j b z u m p
 .obtain⟨x,m,p⟩:=f j v E q5;obtain⟨X,F,G⟩:=f M z q4 V;exact s.inj j M b x X u B m F p G
 .rcases g j v B with⟨rfl,rfl⟩|⟨_,h⟩
  .have:=s.blk j y _ u n;cases y with
   |none=>exact this
   |some b=>
    obtain⟨l,m,⟨Y,O,rfl,p,R⟩,g4⟩:=this;refine⟨_,m,⟨Y,O,rfl,.inl ⟨rfl,p⟩,?_⟩,g4⟩;obtain rfl:O=[]:=R;rfl
  .exact s.blk j y v u h
theorem QnP{h0 i:Nat}{env:Env}{H:Qc}{es:List (A×A)}(e:H[i]?=some (.map es)):Le h0 env H env (H.set i (.fmap es)):=by
 intro g f σ N a w r;have d:∃s,σ[i]?=some s:=by
  have:i<σ.length:=by rw[r.sim.len];exact(XS.1 e).1
  exact⟨_,XR this⟩
 obtain⟨s,d⟩:=d;cases s with
 |none=>exact(r.sim.blk i _ _ d e).elim
 |some b=>
  refine⟨_,σ,⟨r.sim.shutMap d e,λq=>(r.env q).mono ⟨λ_ q=>.inl q,λ_ _=>rfl,λ_ _ q=>q,λ_ _ q=>q⟩,r.size,r.defers⟩,λ_ q=>.inl q,rfl⟩
def anyN{T:Type}(l:List T)(x:T)(rem:List T):Prop:=l.Perm (x::rem)
def Qmr(ts te:Nat)(ld:Op):Code:=.block 1 (.region 3 #[{dst:=some 8,op:=.load ts (.tmp 2),type:=ts,pos:="iter.go:52",after:= #[],guard:=none},{dst:=some 9,op:=ld,type:=te,pos:="iter.go:52",after:= #[],guard:=none},
 {dst:=some 10,op:=.buildSlice ts 1 #[(0,.tmp 9)],type:=ts,pos:="iter.go:52",after:= #[{on:=1,ground:=.data}],guard:=none},
 {dst:=some 11,op:=.call {callee:=.builtin .append,args:= #[.tmp 8,.tmp 10],argTypes:= #[ts,ts]},type:=ts,pos:="iter.go:52",after:= #[{on:=0,ground:=.data},{on:=2,ground:=.data}],guard:=none},
 {dst:=none,op:=.store ts (.tmp 2) (.tmp 11),type:=0,pos:="iter.go:52",after:= #[{on:=3,ground:=.data},{on:=3,ground:=.chain},{on:=0,ground:=.phase},{on:=1,ground:=.phase},{on:=2,ground:=.phase},{on:=3,ground:=.phase}],guard:=none}] false)
def Qo0(ts tq te:Nat)(asg:Code)(ld:Op):Code:=(Code.region 0 #[{dst:=some 2,op:=.box ts (.tmp 0),type:=0,pos:="iter.go:50",after:= #[],guard:=none},{dst:=some 4,op:=.assign (.const (.slice none 0 0)),type:=ts,pos:="iter.go:50",after:= #[],guard:=none}] false).seq
 (((Code.region 1 #[{dst:=some 6,op:=.move (.tmp 1),type:=tq,pos:="iter.go:51",after:= #[],guard:=none}] false).seq (.block 0 (.rangeFunc (.tmp 6) #[7] asg (Qmr ts te ld)))).seq
  ((Code.region 4 #[{dst:=some 12,op:=.load ts (.tmp 2),type:=ts,pos:="iter.go:54",after:= #[],guard:=none},{dst:=some 4,op:=.assign (.tmp 12),type:=ts,pos:="iter.go:54",after:= #[{on:=0,ground:=.data},{on:=0,ground:=.phase}],guard:=none}] false).seq .ret))
def Qo1(te:Nat):Code:=.region 2 #[{dst:=some 5,op:=.assign (.tmp 7),type:=te,pos:="iter.go:51",after:= #[],guard:=none}] false
section
variable {P:Program}{T:Type}{ts tq te k tm:Nat}{g:FuncId}{es:List (A×A)}{e:T->List A}{ea:T->A}{xs:List T}
abbrev apH(ts te k tm:Nat)(es:List (A×A))(e:T->List A)(done:List T):Qc:=[.dead,.fmap es,.cells ts [.osl 3 0 done.length k],.row te k (done.map e)]
abbrev apE(g:FuncId):Env:=[(6,.fn (.func g) [] [.ptr 0 0]),(4,.nils),(2,.ptr 2 0),(0,.nils),(1,.fn (.func g) [] [.ptr 0 0])]
theorem QnE{N:Nat}(V:N=13){done:List T}{x:T}{env:Env}{H:Qc}{K:Qc->Prop}{l:Op}(E:Q0 P ts te k)(u:∀w,(isAgg ts).run P w=.ok false w)(J:∀w,(sizeOf ts).run P w=.ok 1 w)(z:app done [x]=some (done++[x]))
  (G:(e x).length=k)(f:Nat.ble k 16777216=true)(h:Yk (ea x)=true)(b:Q8 (ea x)=e x)(g:(e x).all Ys=true)(O:Yj (e x)=true)(M:Nat.ble 3 H.length=true)
  (r:lk env 2=.ptr 2 0)(j:H[2]?=some (.cells ts [.osl 3 0 done.length k]))(p:H[3]?=some (.row te k (done.map e)))
  (d:∀env',(∀s,s≠8->lk env' s=lk env s)->∀pos,OpV P {dst:=some 9,op:=l,type:=te,pos:=pos,after:= #[],guard:=none} env' H (ea x))
  (B:∀env',∃H2,Le 3 env' (((((H++[Blk.row te k [e x]]).set 3 .dead)++[Blk.row te k ((done++[x]).map e)]).set 2 (.cells ts [.osl (H.length+1) 0 (done++[x]).length k]))) [] H2/\K H2){env0:Env}{Q:QC}:
  TC P 3 N (Qmr ts te l) env H (Qiy 3 env0 Q K):=by
 subst V;have L:3<=H.length:=XY M;have F:3<H.length:=(XS.1 p).1;refine TC.block (TC.region ?_);refine QH rfl rfl rfl (OpV.load (v:=.osl 3 0 done.length k) (cs:=[]) rfl u r (Pts.cells j rfl)) ?_;refine QH rfl rfl rfl (x:=ea x) ?_ ?_
 .refine d _ (λs R=>?_) _;simp only[up,lk];have:Nat.beq s 8=false:=by
   rw[Bool.eq_false_iff];intro q;exact R (XX q)
  rw[this];rfl
 refine Qca (by omega) rfl rfl rfl (OpH.lit (xs:=[.tmp 9]) (es:=[e x]) E rfl rfl (by simpa using f) ?_ ?_ ⟨G,trivial⟩ (by simpa using g) (by simpa using O)) ?_
 .simp[opA,lk,up,h]
 .simp[Yc,opA,lk,up,b]
 refine Qca (x:=.osl (H.length+1) 0 (done++[x]).length k) (H':=((H++[Blk.row te k [e x]]).set 3 .dead)++[Blk.row te k ((done++[x]).map e)]) (by simp;omega) rfl rfl rfl ?_ ?_
 .have:=QM (P:=P) (o:={dst:=some 11,op:=.call {callee:=.builtin .append,args:= #[.tmp 8,.tmp 10],argTypes:= #[ts,ts]},type:=ts,pos:="iter.go:52",after:= #[{on:=0,ground:=.data},{on:=2,ground:=.data}],guard:=none})
   (env:=up (up (up env 8 (.osl 3 0 done.length k)) 9 (ea x)) 10 (.osl H.length 0 1 k)) (H:=H++[Blk.row te k [e x]]) (x:=.tmp 8) (y:=.tmp 10) (e:=e) (m:=[x]) (i:=3) (n:=done.length) (ya:=.osl H.length 0 1 k) z E E.sl (YI (t:=te) (by simp) rfl) rfl rfl rfl rfl (by rw[XT F];exact p) rfl
  simpa using this
 refine Qiw (by simp;omega) rfl rfl (OpU.store (i:=2) (off:=0) (T:=ts) (n:=1) (cs:=[.osl 3 0 done.length k]) (vs:=[.osl (H.length+1) 0 (done++[x]).length k]) (cs':=[.osl (H.length+1) 0 (done++[x]).length k]) (v:=.osl (H.length+1) 0 (done++[x]).length k) rfl ?_ ?_ J rfl rfl rfl rfl rfl rfl rfl) ?_
 .exact r
 .have a:2<H.length:=by omega
  rw[XT (by simp;omega),XW (by decide),XT a];exact j
 .refine WO.nil ?_;exact B _
theorem Qmq{xs done l rem:List T}{x:T}(d:Nat.ble xs.length QR=true)(b:(done++l).Perm xs)(a:l.Perm (x::rem)):app done [x]=some (done++[x])/\((done++[x])++rem).Perm xs:=by
 have f:=b.length_eq;have e:=a.length_eq;have g:=XY d;simp at f e;refine⟨?_,?_⟩
 .unfold app;have:Nat.ble (done.length+[x].length) QR=true:=XZ (by simp;omega);rw[this];rfl
 .refine List.Perm.trans ?_ b;simp only[Vq,List.singleton_append];exact(List.Perm.append_left done a).symm
theorem QfU{m:FuncId}{fn:Func}(s:P.funcs[m]?=some fn)(q:fn.body=some (Qo0 ts tq te (Qo1 te) (.move (.tmp 5))))(M:fn.ntmps=13)(n:fn.results= #[.tmp 4])(E:Q0 P ts te 1)(j:∀w,(isAgg ts).run P w=.ok false w)(y:∀w,(sizeOf ts).run P w=.ok 1 w)
  (B:∀args w,(callFunc g args).run P w=.ok (.enter g args) w)(b:Qdx P g [.ptr 0 0] [.cells tm [.map 1],.fmap es] (λx=>[ea x]) anyN xs)(F:Nat.ble xs.length QR=true)
  (N:∀x,Qbu (ea x)=true)(h:∀x,Yk (ea x)=true)(e:∀x,Q8 (ea x)=[ea x])(f:∀x,Ys (ea x)=true)(G:∀x,Ye (ea x)=true):
  C P m [.nils,.fn (.func g) [] [.ptr 0 0]] [.cells tm [.map 1],.fmap es] (λr H1=>∃p:List T,p.Perm xs/\r=.osl 2 0 p.length 1/\H1=[.dead,.fmap es,.row te 1 (p.map λx=>[ea x])]):=by
 refine Qb s q M rfl ?_;refine TC.seq (TC.region ?_);refine Qca (XY rfl) rfl rfl rfl (OpH.box (v:=.nils) (cs:=[.nils]) rfl rfl rfl rfl rfl) ?_;refine QH rfl rfl rfl (OpV.assign (v:=.nils) rfl rfl) ?_;refine WO.nil ?_;refine TC.seq (TC.seq (TC.region ?_));refine QH rfl rfl rfl (OpV.move (v:=.fn (.func g) [] [.ptr 0 0]) rfl rfl) ?_;refine WO.nil ?_;refine TC.block ?_;refine TC.rangeFunc (env:=apE g) (ps:=[7]) (S:=List T) [0,1] (apH ts te 1 tm es (λx=>[ea x])) (λdone l=>(done++l).Perm xs) [] (XY rfl) rfl rfl rfl (by decide) rfl B b (λx=>rfl) ?_ (List.Perm.refl _) ?_ ?_
 .exact QhS (h0:=3) (i:=2) (t:=te) (k:=1) (H:=[.dead,.fmap es,.cells ts [.nils]]) rfl rfl
 .intro done l x rem d z;obtain⟨J,u⟩:=Qmq F d z;refine TC.region (QH rfl rfl rfl (OpV.assign (v:=ea x) rfl rfl) (WO.nil ⟨rfl,?_⟩));refine QnE (ea:=ea) rfl E j y J rfl rfl (h x) (e x) (by simp[f x]) (by simp[Yj,G x]) rfl rfl rfl rfl ?_ ?_
  .intro a L pos;exact OpV.move rfl (by show lk a 5=ea x;rw[L 5 (by decide)];rfl)
  .intro a;exact⟨_,Lr (H':=apH ts te 1 tm es (λx=>[ea x]) (done++[x])) [0,1,2,5],_,u,rfl⟩
 .intro done d;rw[Vo]at d;refine TC.seq (TC.region ?_);refine QH rfl rfl rfl (OpV.load (v:=.osl 3 0 done.length 1) (cs:=[]) rfl j rfl (Pts.cells rfl rfl)) ?_;refine QH rfl rfl rfl (OpV.assign (v:=.osl 3 0 done.length 1) rfl rfl) ?_;refine WO.nil ?_;refine TC.ret ?_;exact⟨[(4,.osl 2 0 done.length 1)],[.dead,.fmap es,.row te 1 (done.map λx=>[ea x])],_,Lr [0,1,3],QcH.one n rfl,done,d,rfl,rfl⟩
end
theorem TCy.le{T:Type}{X:Ctx T}{P:Program}{h0 N:Nat}{c:Code}{env env':Env}{H H':Qc}{l:YSt T}{Q:Yq T}(d:Le h0 env H env' H')(h:TCy X P h0 N c env' H' l Q):TCy X P h0 N c env H l Q:=by
 intro p x m y σ a w g r hj hrd;obtain⟨i,σ',n,s,t⟩:=d m y σ N a w r;obtain⟨⟨u,f,k⟩,j⟩:=hj;exact Code.wpIn_mono (λe a w q=>q.grow s (X0 _) t (Grow.refl _ _ _)) (h p x m i σ' a w g n ⟨⟨u,λb z=>s b (f b z),k⟩,j⟩ hrd)
mutual
theorem QgP:∀{a:A},Qbu a=true->Ye a=true
 |.any,_=>rfl
 |.bool _,_=>rfl
 |.int _ _,_=>rfl
 |.str _,_=>rfl
 |.nilp,_=>rfl
 |.ptr _ _,h=>by simp[Qbu]at h
 |.rp _,_=>rfl
 |.nils,_=>rfl
 |.rsl _ _,_=>rfl
 |.osl _ _ _ _,h=>by simp[Qbu]at h
 |.agg cs,h=>by simp only[Qbu]at h;simp only[Ye];exact Qfi h
 |.fn _ a c,h=>by simp[Qbu]at h
 |.nilf,_=>rfl
 |.iface _ v,h=>by simp[Qbu]at h
 |.nilif,_=>rfl
 |.map _,h=>by simp[Qbu]at h
 |.nilm,_=>rfl
 |.tup vs,h=>by simp[Qbu]at h
theorem Qfi:∀{l:List A},QdZ l=true->Yj l=true
 |[],_=>rfl
 |a::r,h=>by
  simp only[QdZ,X4]at h;simp only[Yj,X4];exact⟨QgP h.1,Qfi h.2⟩
end
theorem QgI{P:Program}{o:Oper}{env:Env}{H:Qc}{y z:Operand}{l:Nat}{a:A}{f:Array TypeId}(g:o.op=.call {callee:=.value y,args:= #[z],argTypes:=f})(j:opA env y=.fn (.yield l) [] [])(n:opA env z=a)(m:Ye a=true){N:Nat}:
  ∀fr ro σ act w,Rel fr ro σ H env N act w->∃vs:List Value,LR ro [] w [a] vs/\(execOp act.eval o).run P w=(Instr.yield l vs.toArray).run P w:=by
 intro fr ro σ act w r;have b:=Qg r y;rw[j]at b;obtain⟨e,h,b,i,k⟩:=b;obtain rfl:e=[]:=i;obtain rfl:h=[]:=k;have d:=Qg r z;rw[n]at d;refine⟨[act.eval z],⟨_,_,rfl,VR.data m d,rfl⟩,?_⟩;generalize act.eval=ev at*;simp[execOp,g,resolve,invoke,go_sem,b]
theorem QjF{P:Program}{o:Oper}{env:Env}{H:Qc}{y a b:Operand}{l:Nat}{j g:A}{p:Array TypeId}(q:o.op=.call {callee:=.value y,args:= #[a,b],argTypes:=p})(u:opA env y=.fn (.yield l) [] [])(f:opA env a=j)(e:opA env b=g)(h:Ye j=true)(i:Ye g=true){N:Nat}:
  ∀fr ro σ act w,Rel fr ro σ H env N act w->∃vs:List Value,LR ro [] w [j,g] vs/\(execOp act.eval o).run P w=(Instr.yield l vs.toArray).run P w:=by
 intro fr ro σ act w r;have d:=Qg r y;rw[u]at d;obtain⟨n,s,d,t,x⟩:=d;obtain rfl:n=[]:=t;obtain rfl:s=[]:=x;have k:=Qg r a;rw[f]at k;have m:=Qg r b;rw[e]at m;refine⟨[act.eval a,act.eval b],⟨_,_,rfl,VR.data h k,_,_,rfl,VR.data i m,rfl⟩,?_⟩;generalize act.eval=ev at*;simp[execOp,q,resolve,invoke,go_sem,d]
def QlG(tm tb ty tk:Nat)(asg:Array Oper)(ld:Op):Code:=
 (Code.region 0 #[{dst:=some 4,op:=.load tm (.tmp 1),type:=tm,pos:="iter.go:27",after:= #[],guard:=none},{dst:=some 5,op:=.range tm (.tmp 4),type:=0,pos:="iter.go:27",after:= #[{on:=0,ground:=.data}],guard:=none}] false).seq
 (.block 0 (Code.loop ((Code.region 1 #[{dst:=some 6,op:=.next (.tmp 5) false,type:=0,pos:="iter.go:27",after:= #[],guard:=none},{dst:=some 7,op:=.extract (.tmp 6) 0,type:=tb,pos:="iter.go:27",after:= #[{on:=0,ground:=.data}],guard:=none}] false).seq
  ((Code.cond (.tmp 7) .skip (.exit 0)).seq (.block 1 ((Code.region 2 asg false).seq
   ((Code.region 3 #[{dst:=some 10,op:=.move (.tmp 0),type:=ty,pos:="iter.go:28",after:= #[],guard:=none},{dst:=some 11,op:=ld,type:=tk,pos:="iter.go:28",after:= #[],guard:=none},
    {dst:=some 12,op:=.call {callee:=.value (.tmp 10),args:= #[.tmp 11],argTypes:= #[tk]},type:=tb,pos:="iter.go:28",after:= #[{on:=0,ground:=.data},{on:=1,ground:=.data}],guard:=none},
    {dst:=some 13,op:=.unOp .not tb (.tmp 12),type:=tb,pos:="iter.go:28",after:= #[{on:=2,ground:=.data}],guard:=none}] false).seq (.cond (.tmp 13) .ret .skip))))))))
def QoI(tk:Nat):Array Oper:= #[{dst:=some 8,op:=.entry (.tmp 5),type:=0,pos:="iter.go:27",after:= #[],guard:=none},{dst:=some 9,op:=.extract (.tmp 8) 0,type:=tk,pos:="iter.go:27",after:= #[{on:=0,ground:=.data}],guard:=none},
 {dst:=some 3,op:=.assign (.tmp 9),type:=tk,pos:="iter.go:27",after:= #[{on:=1,ground:=.data},{on:=0,ground:=.phase},{on:=1,ground:=.phase}],guard:=none}]
section
variable {P:Program}{K V:Type}{tm tb ty tk kt et:Nat}{ek:K->A}{ev:V->A}{m:List (K×V)}{T:Type}
abbrev kyE(l:Nat):Env:=[(0,.fn (.yield l) [] []),(1,.ptr 0 0),(5,.ptr 2 0)]
abbrev kyH(tm:Nat)(ek:K->A)(ev:V->A)(m l:List (K×V)):Qc:=[.cells tm [.map 1],.fmap (Qz ek ev m),.iter none (Qz ek ev l)]
theorem QjU{g:FuncId}{fn:Func}{d:Array Oper}{r:Op}(G:P.funcs[g]?=some fn)(E:fn.body=some (QlG tm tb ty tk d r))(T:fn.ntmps=14)(B:fn.results= #[])(F:∀w,(isAgg tm).run P w=.ok false w)(L:P.underlying tm=some (.map kt et))(R:∀x,Qbu (ek x)=true)
  (round:∀(X:Ctx K) (e:K×V) (l:List (K×V)) (env:Env) (H:Qc) (f:YSt K) (Q:Yq K),lk env 0=.fn (.yield X.l) [] []->lk env 1=.ptr 0 0->lk env 5=.ptr 2 0->H=[.cells tm [.map 1],.fmap (Qz ek ev m),.iter (some (ek e.1,ev e.2)) (Qz ek ev l)]->
   (∀env' H',lk env' 0=.fn (.yield X.l) [] []->lk env' 1=.ptr 0 0->lk env' 5=.ptr 2 0->(∀env2 b,lk env2 0=.fn (.yield X.l) [] []->lk env2 1=.ptr 0 0->lk env2 5=.ptr 2 0->Le 2 (up (up env2 12 (.bool b)) 13 (.bool (!b))) H' (kyE X.l) (kyH tm ek ev m l))->
    (∀pos env2,(∀s,s≠10->lk env2 s=lk env' s)->OpV P {dst:=some 11,op:=r,type:=tk,pos:=pos,after:= #[],guard:=none} env2 H' (ek e.1))->Nat.ble 2 H'.length=true->Q .normal env' H' f)->
   TCy X P 2 14 (.region 2 d false) env H f Q):
  Qdx P g [.ptr 0 0] [.cells tm [.map 1],.fmap (Qz ek ev m)] (λx=>[ek x]) anyN (m.map Prod.fst):=by
 refine QcF G E T rfl B ?_;intro X hE hNx;refine TCy.seq (TCy.lift (TC.region ?_));refine QH rfl rfl rfl (OpV.load (v:=.map 1) (cs:=[]) rfl F rfl (Pts.cells rfl rfl)) ?_;refine Qca (XY rfl) rfl rfl rfl (QiD L) ?_;refine WO.nil ?_;refine TCy.block ?_;refine QfN (I:=λn env H f=>∃l:List (K×V),l.length=n/\f=.on (l.map Prod.fst)/\Le 2 env H (kyE X.l) (kyH tm ek ev m l)) ?_ ⟨m,rfl,rfl,Lr [0,1,2]⟩;rintro n env H f ⟨l,M,rfl,j⟩;refine TCy.le j ?_;refine TCy.seq (TCy.lift (TC.region ?_));refine Qmu (XY rfl) rfl rfl rfl (OpE.next rfl rfl rfl) ?_;rintro v H' (⟨k,rfl,rfl⟩|⟨W,J,k,rfl,rfl⟩)
 .have N:l=[]:=List.map_eq_nil_iff.1 k;subst N;refine QH rfl rfl rfl (OpV.extract (v:=.bool false) rfl rfl rfl) ?_;refine WO.nil ?_;refine TCy.seq (TCy.cond (t:=false) rfl (λe=>by cases e) (λ_=>?_));exact TCy.exit ⟨.inl rfl,.inl rfl⟩
 .obtain⟨O,u,p⟩:=QjN k rfl;cases O with
  |nil=>cases p
  |cons e i=>
   simp only[Vr,List.cons.injEq]at p;obtain⟨rfl,rfl⟩:=p;have h:i.length<n:=by rw[<- M, <- u.length_eq];simp
   refine QH rfl rfl rfl (OpV.extract (v:=.bool true) rfl rfl rfl) ?_;refine WO.nil ?_;refine TCy.seq (TCy.cond (t:=true) rfl (λ_=>?_) (λe=>by cases e));refine TCy.skip ?_;refine TCy.block ?_;refine TCy.seq (round X e i _ _ _ _ rfl rfl rfl rfl ?_);intro env' H' g0 g1 g5 hfin hld hL;refine TCy.seq (TCy.region ?_);refine WOy.step (QH rfl rfl rfl (OpV.move (v:=.fn (.yield X.l) [] []) rfl g0) (WO.nil ⟨rfl,?_⟩));refine WOy.step (QH rfl rfl rfl (x:=ek e.1) (hld _ _ λs q=>?_) (WO.nil ⟨rfl,?_⟩))
   .simp only[up,lk];have:Nat.beq s 10=false:=by rw[Bool.eq_false_iff];intro z;exact q (XX z)
    rw[this];rfl
   refine WOy.yield (x:=e.1) (rem:=i.map Prod.fst) ?_ rfl rfl rfl ?_ ?_
   .rw[hNx];exact u.symm.map Prod.fst
   .rw[hE];refine QgI (y:=.tmp 10) (z:=.tmp 11) (l:=X.l) (a:=ek e.1) rfl ?_ ?_ (QgP (R _))
    .rfl
    .rfl
   .intro b;refine WOy.step (QH rfl rfl rfl (OpV.not (b:=b) rfl rfl) (WO.nil ⟨rfl,?_⟩));refine WOy.nil ?_;refine TCy.cond (t:= !b) rfl (λq=>?_) (λq=>?_)
    .obtain rfl:b=false:=by simpa using q
     exact TCy.ret ⟨.inr rfl,.inr ⟨_,rfl⟩⟩
    .obtain rfl:b=true:=by simpa using q
     refine TCy.skip ?_;exact⟨_,h,i,rfl,rfl,hfin _ true g0 g1 g5⟩
theorem QeO{g:FuncId}{fn:Func}(j:P.funcs[g]?=some fn)(h:fn.body=some (QlG tm tb ty tk (QoI tk) (.move (.tmp 3))))(t:fn.ntmps=14)(d:fn.results= #[])(f:∀w,(isAgg tm).run P w=.ok false w)(r:P.underlying tm=some (.map kt et))(s:∀x,Qbu (ek x)=true):
  Qdx P g [.ptr 0 0] [.cells tm [.map 1],.fmap (Qz ek ev m)] (λx=>[ek x]) anyN (m.map Prod.fst):=by
 refine QjU (et:=et) (kt:=kt) j h t d f r s ?_;intro X e l env H st Q g0 g1 g5 hH hk;subst hH;refine TCy.lift (TC.region ?_);refine QH rfl rfl rfl (OpV.entry (e:=(ek e.1,ev e.2)) rfl g5 rfl) ?_;refine QH rfl rfl rfl (OpV.extract (v:=ek e.1) rfl rfl rfl) ?_;refine QH rfl rfl rfl (OpV.assign (v:=ek e.1) rfl rfl) ?_;refine WO.nil ?_;refine hk _ _ g0 g1 g5 ?_ ?_ rfl
 .intro a b k n p;exact Le.trans (QkI (i:=2) (es:=Qz ek ev l) rfl rfl) (Lr [0,1,2] (hE:=⟨k,n,p,trivial⟩))
 .intro pos a q;exact OpV.move rfl (by show lk a 3=_;rw[q 3 (by decide)];rfl)
end
def QoV(ts tq fA:Nat):Code:=(Code.region 0 #[{dst:=some 2,op:=.assign (.const (.slice none 0 0)),type:=ts,pos:="iter.go:59",after:= #[],guard:=none}] false).seq
 ((Code.region 1 #[{dst:=some 3,op:=.move (.tmp 0),type:=tq,pos:="iter.go:60",after:= #[],guard:=none},
  {dst:=some 4,op:=.call {callee:=.value (.func fA),args:= #[.const (.slice none 0 0),.tmp 3],argTypes:= #[ts,tq]},type:=ts,pos:="iter.go:60",after:= #[{on:=0,ground:=.data}],guard:=none},
  {dst:=some 2,op:=.assign (.tmp 4),type:=ts,pos:="iter.go:60",after:= #[{on:=1,ground:=.data},{on:=1,ground:=.chain},{on:=0,ground:=.phase},{on:=1,ground:=.phase}],guard:=none}] false).seq .ret)
theorem QfT{P:Program}{T:Type}{i l f k j:Nat}{g:FuncId}{es:List (A×A)}{e:T->List A}{xs:List T}{fC a:FuncId}{fn:Func}(q:P.funcs[fC]?=some fn)(n:fn.body=some (QoV i l a))(u:fn.ntmps=5)(m:fn.results= #[.tmp 2])
  (b:∀(env:Env) (H:Qc),lk env 3=.fn (.func g) [] [.ptr 0 0]->OpC P {dst:=some 4,op:=.call {callee:=.value (.func a),args:= #[.const (.slice none 0 0),.tmp 3],argTypes:= #[i,l]},type:=i,pos:="iter.go:60",after:= #[{on:=0,ground:=.data}],guard:=none} env H a [.nils,.fn (.func g) [] [.ptr 0 0]])
  (t:C P a [.nils,.fn (.func g) [] [.ptr 0 0]] [.cells j [.map 1],.fmap es] (λr H1=>∃p:List T,p.Perm xs/\r=.osl 2 0 p.length k/\H1=[.dead,.fmap es,.row f k (p.map e)])):
  C P fC [.fn (.func g) [] [.ptr 0 0]] [.cells j [.map 1],.fmap es] (λr H1=>∃p:List T,p.Perm xs/\r=.osl 2 0 p.length k/\H1=[.dead,.fmap es,.row f k (p.map e)]):=by
 refine Qb q n u rfl ?_;refine TC.seq (TC.region ?_);refine QH rfl rfl rfl (OpV.assign (v:=.nils) rfl rfl) ?_;refine WO.nil ?_;refine TC.seq (TC.region ?_);refine QH rfl rfl rfl (OpV.move (v:=.fn (.func g) [] [.ptr 0 0]) rfl rfl) ?_;refine WO.call (d:=some 4) [0,1] (XY rfl) rfl rfl (λx h=>by cases h;decide) (b _ _ rfl) rfl rfl (by decide) t ?_;rintro r H1 ⟨p,s,rfl,rfl⟩;refine QH rfl rfl rfl (OpV.assign (v:=.osl 2 0 p.length k) rfl rfl) ?_;refine WO.nil ?_;refine TC.ret ?_;exact⟨[(2,.osl 2 0 p.length k)],[.dead,.fmap es,.row f k (p.map e)],_,Lr [0,1,2],QcH.one m rfl,p,s,rfl,rfl⟩
def Qkk{K R:Type}[DecidableEq R](l:List K)(k:List K->Option R):Option R:=bif Nat.ble l.length QR then anyP k l else none
theorem Qjr{K R:Type}[DecidableEq R]{l:List K}{k:List K->Option R}{r:R}(h:Qkk l k=some r):Nat.ble l.length QR=true/\ ∀p,p.Perm l->k p=some r:=by
 unfold Qkk at h;cases q:Nat.ble l.length QR with
 |true=>rw[q]at h;exact⟨rfl,QnF h⟩
 |false=>rw[q]at h;cases h
end Go.Sw
namespace Go.Sw
section
variable {P:Program}{o:Oper}{env:Env}{H:Qc}{fr ro:Nat->Prop}{σ:Sig}{w:World}
end
section
variable {P:Program}{h0 N:Nat}{A B C:Code}{env:Env}{H:Qc}{Q:QC}
end
end Go.Sw
namespace Go.Sw
section
variable {P:Program}{o:Oper}{env:Env}{H:Qc}
def YD(k:IntKind)(m n:Int):Int:=k.wrap (BitVec.ofInt k.bits m&&& BitVec.ofInt k.bits n).toNat
def YE(k:IntKind)(m n:Int):Int:=m.fdiv (2^(min n.toNat k.bits))
theorem OpV.and{t u:TypeId}{x y:Operand}{k:IntKind}{m n:Int}(b:o.op=.binOp .and t x y u)(e:opA env x=.int k m)(d:opA env y=.int k n):OpV P o env H (.int k (YD k m n)):=by
 intro i h σ N a w r;have f:=QX r e;have g:=QX r d;refine⟨_,?_,rfl⟩;generalize a.eval=ρ at*;simp[execOp,b,f,g,Go.binOp,eqGuard,Op.intBits,go_sem,YD]
theorem OpV.shr{t u:TypeId}{x y:Operand}{k g:IntKind}{m n:Int}(i:o.op=.binOp .shr t x y u)(e:opA env x=.int k m)(h:opA env y=.int g n)(b:0<=n):OpV P o env H (.int k (YE k m n)):=by
 intro l j σ N a w r;have f:=QX r e;have d:=QX r h;refine⟨_,?_,rfl⟩;generalize a.eval=ρ at*;simp[execOp,i,f,d,Go.binOp,eqGuard,Op.shift,go_sem,YE,Int.not_lt.2 b]
theorem Q9{h0 i m t k T:Nat}{cs:List A}(F:Nat.ble h0 H.length=true)(f:H[i]?=some (.cells T cs))(e:cs[m]?=some .nils):
  Le h0 env H env (H.set i (.cells T (cs.set m (.osl H.length 0 0 k)))++[.row t k []]):=by
 intro L n σ N a w r;have g:h0<=H.length:=XY F;have B:i<H.length:=(XS.1 f).1;have ext:Ext n σ w n (σ++[none]) w:=⟨λ_ q=>q,λ_ _=>rfl,λ_ _ q=>q,λ_ _ h=>Jd h⟩;have s:=r.sim.phantom t k;have d:(H++[Blk.row t k []])[i]?=some (.cells T cs):=by rw[XT B];exact f
 have x:H.set i (.cells T (cs.set m (.osl H.length 0 0 k)))++[.row t k []]=(H++[Blk.row t k []]).set i (.cells T (cs.set m (.osl H.length 0 0 k))):=by
  rw[List.set_append_left _ _ B]
 rw[x];refine⟨n,σ++[none],⟨s.weaken d rfl ?_,λq=>(r.env q).mono ext,r.size,r.defers⟩,λ_ q=>q,QU (by rw[r.sim.len];exact g)⟩;intro y h;cases y with
 |none=>exact h
 |some b=>
  obtain⟨l,z,J,p⟩:=h;refine⟨l,z,?_,p⟩;clear z p d x f
  induction cs generalizing m l with
  |nil=>cases e
  |cons c cs G=>
   obtain⟨v,j,rfl,u,E⟩:=J;cases m with
   |zero=>
    simp at e;subst e;exact⟨v,j,rfl,.inl ⟨rfl,u⟩,E⟩
   |succ m=>exact⟨v,j,rfl,u,G (by simpa using e) j E⟩
end
end Go.Sw
namespace Go.Sw
end Go.Sw
namespace Go.Sw
def Qb3:Option Blk->Bool
 |some .dead=>true
 |_=>false
def Qap(hB hE:Nat)(H H':Qc):Bool:=(List.range (hE-hB)).all λp=> !Qb3 H'[hB+p]? ||Qb3 H[hB+p]?
def QjB(hB hE:Nat)(σ:Sig)(H:Qc):Prop:=∀p,hB<=p->p<hE->Qb3 H[p]?=true->σ[p]?=some none
theorem Qkc{hB hE:Nat}{H H':Qc}(h:Qap hB hE H H'=true){p:Nat}(d:hB<=p)(b:p<hE)(a:Qb3 H'[p]?=true):Qb3 H[p]?=true:=by
 have:=Xw.1 h (p-hB) (List.mem_range.2 (by omega));rw[show hB+(p-hB)=p by omega,a]at this;simpa using this
theorem Sim.allocAt{fr ro:Nat->Prop}{σ:Sig}{H:Qc}{w:World}(s:Sim fr ro σ H w){p:Nat}(L:σ[p]?=some none){obj:Obj}{x:Blk}
  (O:BR ro (σ.set p (some w.heap.size)) (w.alloc obj) x (some w.heap.size))
  (F:∀c,Hid (w.alloc obj) x w.heap.size c->False:=by exact λ_ h=>h.elim):Sim fr ro (σ.set p (some w.heap.size)) (H.set p x) (w.alloc obj):=by
 have ev:Qf fr ro w ro (w.alloc obj):=Qf.alloc obj s.roLt s.frLt;have t:=s.len;have E:p<σ.length:=(XS.1 L).1;have u:Ext ro σ w ro (σ.set p (some w.heap.size)) (w.alloc obj):=⟨ev.sub,ev.keepRo,ev.shape,λi b q=>by
  rw[XW (λz=>by subst z;rw[L]at q;cases q)];exact q⟩
 have e:∀(i:Nat) (y:Option Nat),(σ.set p (some w.heap.size))[i]?=some y->(i≠p/\σ[i]?=some y)\/(i=p/\y=some w.heap.size):=by
  intro i y h;by_cases q:i=p
  .subst q;rw[Xa E]at h;exact .inr ⟨rfl,(X7 h).symm⟩
  .rw[XW (λz=>q z.symm)]at h;exact .inl ⟨q,h⟩
 have m:∀i:Nat,i≠p->(H.set p x)[i]?=H[i]? :=λi P=>XW (λz=>P z.symm);have J:(H.set p x)[p]?=some x:=Xa (by omega);refine⟨by simp[t],s.roOk.to (λ_ q=>q) ev.keepRo (λb h=>?_),λb h=>?_,s.roFr,?_,?_,?_,s.hidTo (· = ·) Q2 (by rw[Yo];omega) (λ_ _ _ _ _ _ _ q=>q) (λ_ _ _ _ _ _ _ q=>q) λj d y l k Q=>?_⟩
 rotate_left 5
 .rcases e j _ l with⟨q,l⟩|⟨rfl,n⟩
  .rw[m j q]at k;exact .inl ⟨j,y,rfl,l,k,id,λc q=>s.hidKeep l k (λz=>Yp w obj d (s.own j d y l k z).1) ev.keepRo q⟩
  .rw[J]at k;cases k;cases n;exact .inr ⟨X0 _,F⟩
 .rw[Yo];have:=s.roLt b h;omega
 .rw[Yo];have:=s.frLt b h;omega
 .intro i b y g f r;rw[Yo];rcases e i _ g with⟨q,g⟩|⟨rfl,n⟩
  .rw[m i q]at f;obtain⟨a,b,c⟩:=s.own i b y g f r;exact⟨by omega,b,c⟩
  .cases n;exact⟨by omega,λq=>by have:=s.roLt _ q;omega,λq=>by have:=s.frLt _ q;omega⟩
 .intro i j b y z g f r B G M;rcases e i _ g with⟨q,l⟩|⟨N,n⟩<;>rcases e j _ f with⟨q',k⟩|⟨ej,e2⟩
  .rw[m i q]at r;rw[m j q']at B;exact s.inj i j b y z l k r B G M
  .cases e2;rw[m i q]at r;have:=(s.own i _ y l r G).1;omega
  .cases n;rw[m j q']at B;have:=(s.own j _ z k B M).1;omega
  .rw[N,ej]
 .intro i y z g f;rcases e i _ g with⟨q,g⟩|⟨rfl,n⟩
  .rw[m i q]at f;refine(s.blk i y z g f).keep u ?_ ?_
   .rintro b rfl t;exact Yp w obj b (s.own i b z g f t).1
   .rintro b c rfl t;exact Yp w obj c (s.hid i b z c g f t).lt
  .rw[J]at f;cases f;subst n;exact O
def OpZ(P:Program)(o:Oper)(t:Nat)(cs:List A):Prop:=
 ∀(ro:Nat->Prop) (σ:Sig) (w:World) (a:Act),∃l:List Value,(execOp a.eval o).run P w=.ok (.value (.pointer (some ⟨w.heap.size,0,none⟩))) (w.alloc (.cells l.toArray t))/\LR ro σ w cs l/\ ∀v∈l,QA v
theorem OpZ.alloc{P:Program}{o:Oper}{t:Nat}{z:Value}{v:A}{cs:List A}(g:∀w,(zeroValue t).run P w=.ok z w)(i:ZR v z)(d:o.op=.alloc t:=by exact rfl)(hk:Yk v=true:=by exact rfl)(hcs:Q8 v=cs:=by exact rfl)(hpl:cs.all Ys=true:=by exact rfl):
  OpZ P o t cs:=by
 intro f σ w a;obtain⟨l,h,b⟩:=(i f σ w).cells hk;subst hcs;refine⟨l,?_,b,b.plain hpl⟩;generalize a.eval=ρ at*;have e:(newVar t z).run P w=.ok ⟨w.heap.size,0,none⟩ (w.alloc (.cells l.toArray t)):=by
  unfold newVar;rw[h];rfl
 simp only[execOp,d,Instr.alloc,Vu,g,Result.andThen,e];rfl
theorem Qcn{P:Program}{l:List Oper}{i:Nat}{o:Oper}{rd:Option Nat}{R:Exit->Act->World->Prop}{Q:Exit->Act->World->Prop}{K:Act->World->Prop}{a:Act}{w:World}
  (B:l[i]?=some o)(g:wpL P rd l.toArray R [o] a w)(h:∀e a' w',R e a' w'->e=.normal/\a'.defers=a.defers)(k:∀v w',R .normal (a.put o.dst v) w'->K (a.put o.dst v) w'):
  wpOpIn (WF rd) 0 P l.toArray Q i K a w:=by
 unfold wpOpIn;have t:l.toArray[i]?=some o:=by simpa using B
 rw[t];simp only;unfold wpL wpListIn at g;split at g
 .rename_i s;rw[if_pos s];obtain⟨j,g⟩:=g;refine⟨j,?_⟩;have d:=QkP (by
   intro a' w' q;unfold wpListIn at q;exact(h _ _ _ q).2) g
  generalize(o.semAt (WF rd).round a.eval).run P w=res at*;cases res with
  |ok n w'=>
   cases n with
   |value v=>exact k _ _ d.1
   |skip=>exact k _ _ d.1
   |defer F=>
    exfalso;have:=(h _ _ _ d.1).2;have:=congrArg List.length this
    revert this
    cases o.dst<;>simp[Act.put]
   |enter f m=>
    refine⟨d.1,CallsIn.mono d.2 (λe p b=>?_)⟩;cases e with
    |returned v=>exact k _ _ b.1
    |panicked c=>have:=(h _ _ _ b).1;cases this
    |outgrown=>obtain⟨E,z,b⟩:=b;have:=(h _ _ _ b).1;cases this
   |row r m=>
    exact⟨d.1,RowsIn.mono d.2 (λ_ _ b=>k _ _ b.1)⟩
   |round l f y assign u=>
    refine⟨d.1,RoundIn.mono d.2 (λe p b=>?_)⟩;cases e with
    |returned v=>exact k _ _ b.1
    |panicked c=>have:=(h _ _ _ b).1;cases this
    |outgrown=>obtain⟨E,z,b⟩:=b;have:=(h _ _ _ b).1;cases this
   |_=>exact d.elim
  |halt x w'=>
   cases x with
   |panic v=>have:=(h _ _ _ d).1;cases this
   |_=>exact d.elim
 .rename_i s;rw[if_neg s];obtain⟨j,g⟩:=g;refine⟨j,?_⟩;unfold wpListIn at g;exact k _ _ g
theorem Qkb{P:Program}{l:List Oper}{m:Nat}(n:∀i o,l[i]?=some o->∀j∈Qh o,j<i)(k:∀i o,m<i->l[i]?=some o->i-1∈Qh o){Q:Exit->Act->World->Prop}{rd:Option Nat}:
  ∀(b t:Nat) (L:Array Bool) (a:Act) (w:World),L.size=l.length->(∀i,i<l.length->(onL L i↔i<t))->unl L<=b->m<=t->t<=l.length->
   wpL P rd l.toArray Q (l.drop t) a w->wpAnyIn (WF rd) 0 P .any l.toArray Q b L a w:=by
 intro b
 induction b with
 |zero=>
  intro t L a w hsz hL hf hm ht h;have:t=l.length:=by
   rcases Nat.lt_or_ge t l.length with q|q
   .have:=QiQ (L:=L) (i:=t) (by omega) (λz=>by have:=(hL t q).1 z;omega);omega
   .omega
  subst this;refine⟨List.eq_nil_iff_forall_not_mem.2 λi r=>?_,?_⟩
  .obtain⟨o,f,g,_⟩:=(Qaz hsz).1 r;have d:=(XS.1 f).1;exact g ((hL i d).2 d)
  .rw[List.drop_length]at h;exact h
 |succ b H=>
  intro t L a w hsz hL hf hm ht h;have x:∀i o,l[i]?=some o->¬onL L i->(∀j∈Qh o,onL L j)->i=t:=by
   intro i o f g u;have d:=(XS.1 f).1;have G:t<=i:=by
    rcases Nat.lt_or_ge i t with q|q
    .exact absurd ((hL i d).2 q) g
    .exact q
   rcases Nat.lt_or_ge t i with q|q
   .have:=(hL (i-1) (by omega)).1 (u _ (k i o (by omega) f));omega
   .omega
  rcases Nat.lt_or_ge t l.length with e|e
  .have F:l[t]?=some l[t]:=XR e;have p:¬onL L t:=λq=>by have:=(hL t e).1 q;omega
   have E:t∈Region.ready .any l.toArray L:=by
    refine(Qaz hsz).2 ⟨_,F,p,λj y=>?_⟩;have:=n t _ F j y;exact(hL j (by omega)).2 this
   refine⟨λq=>(by rw[q]at E;cases E),λi r=>?_⟩;obtain⟨o,f,g,u⟩:=(Qaz hsz).1 r;obtain rfl:=x i o f g u;rw[Xs e]at h;obtain rfl:l[i]=o:=by rw[XR e]at f;exact X7 f
   unfold wpOpIn;rw[show l.toArray[i]?=some l[i]by rw[XN];exact f];simp only;unfold wpL wpListIn at h;have B:∀a w,wpL P rd l.toArray Q (l.drop (i+1)) a w->wpAnyIn (WF rd) 0 P .any l.toArray Q b (L.setIfInBounds i true) a w:=by
    intro a w q;have J:=QfX (L:=L) (i:=i) (by omega) p;refine H (i+1) _ a w (by simpa using hsz) (λj y=>?_) (by omega) (by omega) (by omega) q;rw[Jl (by omega),hL j y];omega
   split at h
   .rename_i s;rw[if_pos s];exact Oper.wpIn_mono B h
   .rename_i s;rw[if_neg s];exact⟨h.1,B _ _ h.2⟩
  .have:t=l.length:=by omega
   subst this;rw[List.drop_length]at h;refine⟨λ_=>h,λi r=>?_⟩;obtain⟨o,f,g,_⟩:=(Qaz hsz).1 r;have d:=(XS.1 f).1;exact absurd ((hL i d).2 d) g
def QmO(af ds:List Nat)(xs:List A)(env0 e:Env):Prop:=
 ∀s,(∃j x,af.contains j=true/\ds[j]?=some s/\xs[j]?=some x/\lk e s=x)\/lk e s=.any\/(ds.contains s=false/\lk e s=lk env0 s)
inductive Jo (P:Program) (N:Nat) (l:List Oper) (ds:List Nat) (xs:List A) (env0:Env) (hB hE:Nat) (i:Nat) (H H':Qc):Prop
 |mk (o:Oper) (e:Env) (d:Nat) (x:A) (ho:l[i]?=some o) (hd:o.dst=some d) (hx:xs[i]?=some x) (hdd:Qap hB hE H H'=true) (hs:Sb (Qh o) (Qis l i) ds xs env0 e)
   (h:WO P H.length N l.toArray [o] e H (YU (up e d x) H')):Jo P N l ds xs env0 hB hE i H H'
 |unit (o:Oper) (e:Env) (ho:l[i]?=some o) (hd:o.dst=none) (hx:xs[i]?=some .any) (hdd:Qap hB hE H H'=true) (hs:Sb (Qh o) (Qis l i) ds xs env0 e)
   (h:WO P H.length N l.toArray [o] e H (YU e H')):Jo P N l ds xs env0 hB hE i H H'
 |alloc (o:Oper) (d t p:Nat) (cs:List A) (ho:l[i]?=some o) (hd:o.dst=some d) (hg:o.guard=none) (hx:xs[i]?=some (.ptr p 0)) (hp:(Nat.ble hB p&&Nat.blt p hE)=true) (hdead:Qb3 H[p]?=true)
   (hH:H.set p (.cells t cs)=H') (h:OpZ P o t cs) (hN:Nat.blt d N=true):Jo P N l ds xs env0 hB hE i H H'
 |val (o:Oper) (e:Env) (d:Nat) (x:A) (ho:l[i]?=some o) (hd:o.dst=some d) (hg:o.guard=none) (hx:xs[i]?=some x) (hN:Nat.blt d N=true) (he:QmO (Qh o) ds xs env0 e) (h:OpV P o e H x)
   (hH:H=H':=by rfl):Jo P N l ds xs env0 hB hE i H H'
 |woE (o:Oper) (e:Env) (d:Nat) (x:A) (ho:l[i]?=some o) (hd:o.dst=some d) (hx:xs[i]?=some x) (he:QmO (Qh o) ds xs env0 e) (hdd:Qap hB hE H H'=true) (h:WO P H.length N l.toArray [o] e H (YU (up e d x) H')):Jo P N l ds xs env0 hB hE i H H'
theorem Sb.rel{af f d:List Nat}{xs:List A}{env0 e:Env}{ro:Nat->Prop}{σ:Sig}{w:World}{a:Act}(i:Sb af f d xs env0 e)
  (h:∀j∈af,∀s x,d[j]?=some s->xs[j]?=some x->VR ro σ w x (a.tmps.getD s undef))
  (g:∀s,d.contains s=false->VR ro σ w (lk env0 s) (a.tmps.getD s undef))(hP:∀j s,f.contains j=true->d[j]?=some s->VR ro σ w (lk env0 s) (a.tmps.getD s undef)):
  ∀s,VR ro σ w (lk e s) (a.tmps.getD s undef):=by
 intro s
 induction i with
 |nil=>exact trivial
 | @dep j s1 x1 r h1 h2 h3 _ ih=>
  unfold lk;cases b:Nat.beq s s1 with
  |false=>exact ih
  |true=>
   obtain rfl:=XX b;exact h j (by simpa using h1) _ _ h2 h3
 | @old s1 x1 r h1 h2 _ ih=>
  unfold lk;cases b:Nat.beq s s1 with
  |false=>exact ih
  |true=>
   obtain rfl:=XX b;subst h2;exact g _ h1
 | @pre j s1 x1 r h1 h2 h3 _ ih=>
  unfold lk;cases b:Nat.beq s s1 with
  |false=>exact ih
  |true=>
   obtain rfl:=XX b;subst h3;exact hP j _ h1 h2
structure After (fr ro:Nat->Prop) (σ:Sig) (w:World) (hB hE:Nat) (H':Qc) (xs:List A) (i:Nat) (o:Oper) (a':Act) (w':World) (ro':Nat->Prop) (σ':Sig):Prop where
 val:∀x,xs[i]?=some x->match o.dst with
  |some d=>VR ro' σ' w' x (a'.tmps.getD d undef)
  |none=>x=.any
 sim:Sim fr ro' σ' H' w'
 ev:Qf fr ro w ro' w'
 ext:Ext ro σ w ro' σ' w'
 holes:QjB hB hE σ' H'
 take:σ'.take hB=σ.take hB
theorem Jo.use{P:Program}{N:Nat}{l:List Oper}{ds:List Nat}{xs:List A}{env0:Env}{hB hE i:Nat}{H H':Qc}(hb:Jo P N l ds xs env0 hB hE i H H')
  {Q:Exit->Act->World->Prop}{K:Act->World->Prop}{fr ro:Nat->Prop}{σ:Sig}{a:Act}{w:World}{o:Oper}{rd:Option Nat}(O:l[i]?=some o)
  (f:Sim fr ro σ H w)(hN:a.tmps.size=N)(n:QcO fr a.defers w)(ac:Qdy rd fr w)(hh:QjB hB hE σ H)(hl:hE<=H.length)(aj:hB<=hE)
  (hD:∀j∈Qh o,∀s x,ds[j]?=some s->xs[j]?=some x->VR ro σ w x (a.tmps.getD s undef))
  (hO:∀s,ds.contains s=false->VR ro σ w (lk env0 s) (a.tmps.getD s undef))(hP:∀j s,(Qis l i).contains j=true->ds[j]?=some s->VR ro σ w (lk env0 s) (a.tmps.getD s undef))
  (hK:∀v w' ro' σ',After fr ro σ w hB hE H' xs i o (a.put o.dst v) w' ro' σ'->K (a.put o.dst v) w'):
  wpOpIn (WF rd) 0 P l.toArray Q i K a w:=by
 have F:∀{e:Env}{H2:Qc}{E:Exit}{u:Act}{w':World},QbF H.length fr ro σ w N a.defers (YU e H2) E u w'->E=.normal/\u.defers=a.defers:=by
  rintro e H2 E u w' ⟨x,_,_,_,_,_,k,⟨rfl,_⟩,_,_,_,B,_⟩;refine⟨?_,B⟩;cases E<;>first|rfl|exact k.elim|cases k
 have ah:∀{σ':Sig}{w':World},Qf fr ro w ro w'->σ'.take H.length=σ.take H.length->True:=λ_ _=>trivial;have J:∀{e:Env}{u:Act}{w':World},QbF H.length fr ro σ w N a.defers (YU e H') .normal u w'->Qap hB hE H H'=true->
   ∃ro' σ',Sim fr ro' σ' H' w'/\Qf fr ro w ro' w'/\Ext ro σ w ro' σ' w'/\QjB hB hE σ' H'/\σ'.take hB=σ.take hB/\ ∀s,VR ro' σ' w' (lk e s) (u.tmps.getD s undef):=by
  rintro e u w' ⟨_,ai,H2,ro',σ',ak,_,⟨_,rfl,rfl⟩,r',he,ht,_,af⟩ m;have hσ:σ'=σ++σ'.drop H.length:=by
   conv=>lhs;rw[<- XF H.length σ']
   rw[ht, <- f.len,Vh]
  refine⟨ro',σ',r'.sim.frMono af.sub,he,?_,?_,?_,r'.env⟩
  .rw[hσ];exact he.ext σ _
  .intro p k B X;have:=hh p k B (Qkc m k B X);rw[hσ,XT (by rw[f.len];omega)];exact this
  .rw[hσ];exact QU (by rw[f.len];omega)
 cases hb with
 |woE r e d x g L V he m h=>
  obtain rfl:r=o:=X7 (g.symm.trans O);have hr:∀s,VR ro σ w (lk e s) (a.tmps.getD s undef):=λs=>by
   rcases he s with⟨j,x,k,B,X,G⟩|G|⟨k,G⟩
   .rw[G];exact hD j (by simpa using k) s x B X
   .rw[G];exact trivial
   .rw[G];exact hO s k
  refine Qcn O (h rd fr ro σ a w ⟨f,hr,hN,n⟩ ac) (λ_ _ _ q=>F q) (λv w' q=>?_);obtain⟨ro',σ',g1,g2,M,g4,g5,g6⟩:=J q m;refine hK v w' ro' σ' ⟨λy T=>?_,g1,g2,M,g4,g5⟩;obtain rfl:=X7 (V.symm.trans T);have:=g6 d;unfold lk at this;rw[Nat.beq_refl]at this;rw[L]at this⊢;exact this
 |mk r e d x g L V m hs h=>
  obtain rfl:r=o:=X7 (g.symm.trans O);refine Qcn O (h rd fr ro σ a w ⟨f,hs.rel hD hO hP,hN,n⟩ ac) (λ_ _ _ q=>F q) (λv w' q=>?_);obtain⟨ro',σ',g1,g2,M,g4,g5,g6⟩:=J q m;refine hK v w' ro' σ' ⟨λy T=>?_,g1,g2,M,g4,g5⟩;obtain rfl:=X7 (V.symm.trans T);have:=g6 d;unfold lk at this;rw[Nat.beq_refl]at this;rw[L]at this⊢;exact this
 |unit r e g L V m hs h=>
  obtain rfl:r=o:=X7 (g.symm.trans O);refine Qcn O (h rd fr ro σ a w ⟨f,hs.rel hD hO hP,hN,n⟩ ac) (λ_ _ _ q=>F q) (λv w' q=>?_);obtain⟨ro',σ',g1,g2,M,g4,g5,g6⟩:=J q m;refine hK v w' ro' σ' ⟨λy T=>?_,g1,g2,M,g4,g5⟩;obtain rfl:=X7 (V.symm.trans T);rw[L]
 |val r e d x g L hg V aa he h hH=>
  obtain rfl:r=o:=X7 (g.symm.trans O);subst hH;have hr:Rel fr ro σ H e N a w:=by
   refine⟨f,λs=>?_,hN,n⟩;rcases he s with⟨j,x,k,B,X,G⟩|G|⟨k,G⟩
   .rw[G];exact hD j (by simpa using k) s x B X
   .rw[G];exact trivial
   .rw[G];exact hO s k
  obtain⟨v0,k,B⟩:=h fr ro σ N a w hr;have hw:Region.wanted r (yielded l.toArray a.tmps)=true:=by unfold Region.wanted;rw[hg]
  refine Qcn (R:=λE u w'=>E=.normal/\u.defers=a.defers/\u=a.put r.dst v0/\w'=w) O (QaO hw k ?_) (λ_ _ _ q=>⟨q.1,q.2.1⟩) (λv w' q=>?_)
  .unfold wpL wpListIn;refine⟨rfl,?_,rfl,rfl⟩;rw[L];rfl
  .obtain⟨_,_,q1,rfl⟩:=q;refine hK v _ ro σ ⟨λy T=>?_,f,Qf.refl _ _ _,⟨λ_ q=>q,λ_ _=>rfl,λ_ _ q=>q,λ_ _ q=>q⟩,hh,rfl⟩;obtain rfl:=X7 (V.symm.trans T);rw[q1,L];have Y:d<a.tmps.size:=by rw[hN];simpa using aa
   show VR ro σ w' x _;simpa[Act.put,Array.getD_eq_getD_getElem?,Y]using B
 |alloc r d t p cs g L hg V hp ab hH h aa=>
  obtain rfl:r=o:=X7 (g.symm.trans O);subst hH;simp only[X4]at hp;have ae:=XY hp.1;have ad:p<hE:=by simpa using hp.2
  have hσp:=hh p ae ad ab;obtain⟨lv,k,B,X⟩:=h ro σ w a;have hw:Region.wanted r (yielded l.toArray a.tmps)=true:=by unfold Region.wanted;rw[hg]
  have ev:Qf fr ro w ro (w.alloc (.cells lv.toArray t)):=Qf.alloc _ f.roLt f.frLt;have ag:p<σ.length:=by rw[f.len];omega
  have W:Ext ro σ w ro (σ.set p (some w.heap.size)) (w.alloc (.cells lv.toArray t)):=⟨ev.sub,ev.keepRo,ev.shape,λj b q=>by
   rw[XW (λz=>by subst z;rw[hσp]at q;cases q)];exact q⟩
  refine Qcn (R:=λE u w'=>E=.normal/\u.defers=a.defers/\u=a.put r.dst (.pointer (some ⟨w.heap.size,0,none⟩))/\w'=w.alloc (.cells lv.toArray t)) O (QaO hw k ?_) (λ_ _ _ q=>⟨q.1,q.2.1⟩) (λv w' q=>?_)
  .unfold wpL wpListIn;refine⟨rfl,?_,rfl,rfl⟩;rw[L];rfl
  .obtain⟨_,_,q1,rfl⟩:=q;refine hK v _ ro (σ.set p (some w.heap.size)) ⟨λy T=>?_,f.allocAt hσp ⟨lv,YH _ _,B.mono W,X⟩,ev,W,λp' g1 g2 M=>?_,?_⟩
   .obtain rfl:=X7 (V.symm.trans T);rw[q1,L];have Y:d<a.tmps.size:=by rw[hN];simpa using aa
    refine⟨w.heap.size,Xa ag,?_⟩;simp[Act.put,Array.getD_eq_getD_getElem?,Y]
   .by_cases q:p'=p
    .subst q;rw[Xa (by omega)]at M;cases M
    .rw[XW (λz=>q z.symm)]at M⊢;exact hh p' g1 g2 M
   .rw[List.take_set,List.set_eq_of_length_le];rw[XD];omega
def same(a b:List Nat):Bool:=a.all (b.contains ·)&&b.all (a.contains ·)
theorem QmY{a b:List Nat}(h:same a b=true)(i:Nat):i∈a↔i∈b:=by
 unfold same at h;simp only[X4,Xw,List.contains_iff_mem]at h;exact⟨h.1 i,h.2 i⟩
structure QmP (l:List Oper) (m:Nat) (ds:List Nat) (hs:List Bool) (rq ms:List (List Nat)) (pl:List (List (Nat×Nat))) (N:Nat):Prop where
 len:m<=l.length
 dst:∀i o,i<m->l[i]?=some o->(∃d,o.dst=some d/\ds[i]?=some d/\d<N)\/o.dst=none
 dsl:ds.length=m
 nodup:∀(i j d:Nat),ds[i]?=some d->ds[j]?=some d->i=j
 back:∀i o,l[i]?=some o->∀j∈Qh o,j<i
 mid:∀o,l[m]?=some o->∀j,j<m->QbV l m j
 chain:∀i o,m<i->l[i]?=some o->i-1∈Qh o
 rqs:∀i o,i<m->l[i]?=some o->∀h∈rq.getD i [],h<m/\hs.getD h false=true/\(h∈Qh o\/ ∃j∈Qh o,j<m/\h∈rq.getD j [])
 ms0:ms.getD 0 []=[]
 full:∀st,st<ms.length->st+1=ms.length\/ ∃i,i<m/\hs.getD i false=true/\i∉ms.getD st []
 msh:∀st h,h∈ms.getD st []->h<m/\hs.getD h false=true
 pls:∀i st,i<m->st<ms.length->(∀h∈rq.getD i [],h∈ms.getD st [])->(hs.getD i false=true->i∉ms.getD st [])->(∀h∈ms.getD st [],¬QbV l h i)->
  ∃st',(st,st')∈pl.getD i []/\st'<ms.length/\if hs.getD i false then∀j,j∈ms.getD st' []↔j=i\/j∈ms.getD st []else st'=st
theorem Qja{α:Type}{l:List α}{i:Nat}{d x:α}(h:l[i]?=some x):l.getD i d=x:=by rw[List.getD_eq_getElem?_getD,h];rfl
theorem Qhy{P:Program}{l:List Oper}{m:Nat}{X:List Nat}{hs:List Bool}{rq ms:List (List Nat)}{pl:List (List (Nat×Nat))}{N h0 hB hE:Nat}{xs:List A}{env0:Env}{Hs:List Qc}{Hk:Qc}
  (ok:QmP l m X hs rq ms pl N)(a2:xs.length=m)(ba:Hs.length=ms.length)(ay:h0<=hB)(av:hB<=hE)(aw:∀H∈Hs,hE<=H.length)
  (a0:∀i p,i<m->p∈pl.getD i []->Jo P N l X xs env0 hB hE i (Hs.getD p.1 []) (Hs.getD p.2 []))(a7:Hs.getD (ms.length-1) []=Hk)
  {fr ro0:Nat->Prop}{σ0:Sig}{w0:World}{rd:Option Nat}{ds0:List Deferred}{R:Exit->Act->World->Prop}
  (hk:∀ro σ a w,Rel fr ro σ Hk (Qar X xs env0) N a w->Qf fr ro0 w0 ro w->σ.take h0=σ0.take h0->a.defers=ds0->wpL P rd l.toArray R (l.drop m) a w)(ae:QcO fr ds0 w0)(az:Qdy rd fr w0):
  ∀(b:Nat) (L:Array Bool) (a:Act) (w:World) (ro:Nat->Prop) (σ:Sig) (t:Nat),
   L.size=l.length->unl L<=b->(∀i,m<=i->¬onL L i)->t<ms.length->Sim fr ro σ (Hs.getD t []) w->a.tmps.size=N->a.defers=ds0->
   (∀(i d:Nat) (x:A),onL L i->X[i]?=some d->xs[i]?=some x->VR ro σ w x (a.tmps.getD d undef))->(∀s,(∀j,X[j]?=some s->¬onL L j)->VR ro σ w (lk env0 s) (a.tmps.getD s undef))->
   Qf fr ro0 w0 ro w->σ.take h0=σ0.take h0->QjB hB hE σ (Hs.getD t [])->
   (∀i,i<m->onL L i->∀h∈rq.getD i [],onL L h)->(∀i,i<m->hs.getD i false=true->(onL L i↔i∈ms.getD t []))->
   (∀i o,onL L i->l[i]?=some o->∀j∈Qh o,onL L j)->
   wpAnyIn (WF rd) 0 P .any l.toArray R b L a w:=by
 have a4:∀t,t<ms.length->hE<=(Hs.getD t []).length:=by
  intro t h;have e:Hs[t]?=some Hs[t]:=XR (by omega);rw[Qja e];exact aw _ (Vl _)
 have fin:∀(b:Nat) (L:Array Bool) (a:Act) (w:World) (ro:Nat->Prop) (σ:Sig) (t:Nat),
   L.size=l.length->unl L<=b->(∀i,m<=i->¬onL L i)->t<ms.length->Sim fr ro σ (Hs.getD t []) w->a.tmps.size=N->a.defers=ds0->
   (∀(i d:Nat) (x:A),onL L i->X[i]?=some d->xs[i]?=some x->VR ro σ w x (a.tmps.getD d undef))->(∀s,(∀j,X[j]?=some s->¬onL L j)->VR ro σ w (lk env0 s) (a.tmps.getD s undef))->
   Qf fr ro0 w0 ro w->σ.take h0=σ0.take h0->
   (∀i,i<m->hs.getD i false=true->(onL L i↔i∈ms.getD t []))->(∀i,i<m->onL L i)->
   wpAnyIn (WF rd) 0 P .any l.toArray R b L a w:=by
  intro b L a w ro σ t hsz hu hsuf hst hsim hN hdef hD hE' hev htk hI2 k;have ai:t=ms.length-1:=by
   rcases ok.full t hst with q|⟨i,O,h2,h3⟩
   .omega
   .exact absurd ((hI2 i O h2).1 (k i O)) h3
  rw[ai,a7]at hsim;refine Qkb ok.back ok.chain b m L a w hsz (λi hi=>⟨λq=>?_,λq=>k i q⟩) hu (X0 _) ok.len ?_
  .rcases Nat.lt_or_ge i m with z|z
   .exact z
   .exact absurd q (hsuf i z)
  .have hr:Rel fr ro σ Hk (Qar X xs env0) N a w:=by
    refine⟨hsim,λs=>?_,hN,by rw[hdef];exact ae.keep hev⟩;rcases Qm8 (env0:=env0) (by rw[ok.dsl,a2]) s with⟨j,x,O,h2,h3⟩|⟨O,h2⟩
    .rw[h3];have f:j<m:=by have:=(XS.1 O).1;rw[ok.dsl]at this;exact this
     exact hD j s x (k j f) O h2
    .rw[h2];exact hE' s (λj q=>absurd (List.mem_of_getElem? q) (by simpa using O))
   exact hk ro σ a w hr hev htk hdef
 intro b
 induction b with
 |zero=>
  intro L a w ro σ t hsz hu hsuf hst hsim hN hdef hD hE' hev htk hho hI1 hI2 hcl;refine fin 0 L a w ro σ t hsz hu hsuf hst hsim hN hdef hD hE' hev htk hI2 (λi hi=>?_);by_cases q:onL L i
  .exact q
  .have:=QiQ (L:=L) (i:=i) (by have:=ok.len;omega) q;omega
 |succ b ih=>
  intro L a w ro σ t hsz hu hsuf hst hsim hN hdef hD hE' hev htk hho hI1 hI2 hcl;by_cases k:∀i,i<m->onL L i
  .exact fin (b+1) L a w ro σ t hsz hu hsuf hst hsim hN hdef hD hE' hev htk hI2 k
  .have ar:∃i,i<m/\ ¬onL L i:=by
    refine Classical.byContradiction λq=>k λi hi=>Classical.byContradiction λz=>q ⟨i,hi,z⟩
   obtain⟨n,hn,al⟩:=ar;obtain⟨i0,O,h2,h3⟩:=least (p:=λi=>¬onL L i) (λi=>Classical.em _) n al;have bb:=ok.len;have am:l[i0]?=some l[i0]:=XR (by omega);have hr:i0∈Region.ready .any l.toArray L:=(Qaz hsz).2 ⟨_,am,h2,λj f=>Classical.byContradiction λz=>h3 j (ok.back i0 _ am j f) z⟩;refine⟨λq=>(by rw[q]at hr;cases hr),λi hi=>?_⟩;obtain⟨o,V,W,F⟩:=(Qaz hsz).1 hi;have B:i<m:=by
    rcases Nat.lt_or_ge i m with q|q
    .exact q
    .exfalso;rcases Nat.lt_or_ge m i with z|z
     .exact hsuf (i-1) (by omega) (F _ (ok.chain i o z V))
     .have:i=m:=by omega
      subst this;have a5:∀j,QbV l i j->onL L j:=by
       intro j f
       induction f with
       |one r f=>rw[V]at r;cases r;exact F _ f
       |step _ r f ihr=>exact hcl _ _ ihr r _ f
      exact al (a5 n (ok.mid o V n hn))
   have ah:∀h∈rq.getD i [],onL L h:=by
    intro h T;obtain⟨_,_,q|⟨j,q1,q2,q3⟩⟩:=ok.rqs i o B V h T
    .exact F h q
    .exact hI1 j q2 (F j q1) h q3
   obtain⟨an,au,aq,J⟩:=ok.pls i t B hst (λh T=>by
    obtain⟨q1,q2,_⟩:=ok.rqs i o B V h T;exact(hI2 h q1 q2).1 (ah h T)) (λq z=>W ((hI2 i B q).2 z)) (λh T hR=>by
    obtain⟨q1,q2⟩:=ok.msh t h T;have a3:onL L h:=(hI2 h q1 q2).2 T;have ag:∀j,QbV l h j->onL L j:=by
     intro j f
     induction f with
     |one r f=>exact hcl _ _ a3 r _ f
     |step _ r f ihr=>exact hcl _ _ ihr r _ f
    exact W (ag i hR))
   have hb:=a0 i _ B au;refine hb.use V hsim hN (by rw[hdef];exact ae.keep hev) (az.to hev λ_ q=>q) hho (a4 t hst) av (λj f s x q1 q2=>hD j s x (F j f) q1 q2) (λs O=>hE' s (λj q=>absurd (List.mem_of_getElem? q) (by simpa using O))) (λj s O h2=>hE' s (λj' q q'=>?_)) ?_
   .obtain rfl:=ok.nodup j' j s q h2;have f:=Xe.1 (List.contains_iff_mem.1 O);cases ad:l[j']? with
    |none=>rw[ad]at f;simp at f
    |some oj=>
     rw[ad]at f;exact W (hcl j' oj q' ad i (by simpa using f.2))
   intro v w' ao σ' af;have ab:=af.ext;have aa:∀s,(∀d,o.dst=some d->s≠d)->(a.put o.dst v).tmps.getD s undef=a.tmps.getD s undef:=by
    intro s a1;cases Y:o.dst with
    |none=>rfl
    |some d=>
     simp only[Act.put,Array.getD_eq_getD_getElem?,Vm];rw[if_neg (λq=>a1 d Y q.symm)]
   have ac:(a.put o.dst v).tmps.size=N:=by
    cases Y:o.dst with
    |none=>simpa[Act.put]using hN
    |some d=>simpa[Act.put]using hN
   have ax:(a.put o.dst v).defers=ds0:=by
    cases Y:o.dst with
    |none=>simpa[Act.put]using hdef
    |some d=>simpa[Act.put]using hdef
   have a9:=QfX (L:=L) (i:=i) (by omega) W;have u:i<L.size:=by omega
   have a8:∀s j,X[j]?=some s->j≠i->∀d,o.dst=some d->s≠d:=by
    intro s j f E d Y q;subst q;rcases ok.dst i o B V with⟨d',g,Q,ak⟩|g
    .rw[Y]at g;cases g;exact E (ok.nodup j i _ f Q)
    .rw[Y]at g;cases g
   refine ih _ _ w' ao σ' an (by simpa using hsz) (by omega) (λj f q=>?_) aq af.sim ac ax ?_ ?_ (hev.trans af.ev) ?_ af.holes ?_ ?_ ?_
   .rcases(Jl u).1 q with z|z
    .omega
    .exact hsuf j f z
   .intro j s y f M hy;by_cases E:j=i
    .subst E;have hv:=af.val y hy;rcases ok.dst j o B V with⟨d',g,Q,ak⟩|g
     .obtain rfl:s=d':=X7 (M.symm.trans Q);simp only[g]at hv⊢;exact hv
     .simp only[g]at hv;subst hv;exact trivial
    .rw[aa s (a8 s j M E)];rcases(Jl u).1 f with z|z
     .exact absurd z E
     .exact(hD j s y z M hy).mono ab
   .intro s M;have a6:∀d,o.dst=some d->s≠d:=by
     rintro d Y rfl;rcases ok.dst i o B V with⟨d',g,Q,ak⟩|g
     .rw[Y]at g;cases g;exact M i Q ((Jl u).2 (.inl rfl))
     .rw[Y]at g;cases g
    rw[aa s a6];exact(hE' s (λj q z=>M j q ((Jl u).2 (.inr z)))).mono ab
   .rw[<- htk];have:=congrArg (List.take h0) af.take;rw[List.take_take,List.take_take,XH ay]at this;exact this
   .intro j f G h T;refine(Jl u).2 (.inr ?_);rcases(Jl u).1 G with z|z
    .subst z;exact ah h T
    .exact hI1 j f z h T
   .intro j f G;rw[Jl u];cases q:hs.getD i false with
    |false=>
     have E:j≠i:=by rintro rfl;rw[q]at G;cases G
     rw[q]at J;simp only[Xj,if_false]at J;simp only[E,false_or];rw[J];exact hI2 j f G
    |true=>
     rw[q]at J;simp only[if_true]at J;rw[J j,hI2 j f G]
   .intro j o' f r j' aj;rcases(Jl u).1 f with z|z
    .subst z;rw[V]at r;cases r;exact(Jl u).2 (.inr (F _ aj))
    .exact(Jl u).2 (.inr (hcl j o' z r j' aj))
def Qdp.dstB(N:Nat):Nat->List Oper->List Nat->Bool
 |_,_,[]=>true
 |i,o::r,d::ds=>(match o.dst with|some d'=>Nat.beq d' d&&Nat.blt d N|none=>true)&&Qdp.dstB N (i+1) r ds
 |_,[],_::_=>false
def Qdp.rqB(m:Nat)(hs:List Bool)(rq:List (List Nat)):Nat->List Oper->Bool
 |_,[]=>true
 |i,o::r=>(rq.getD i []).all (λh=>Nat.blt h m&&hs.getD h false&&((Qh o).contains h||(Qh o).any λj=>Nat.blt j m&&(rq.getD j []).contains h))&&Qdp.rqB m hs rq (i+1) r
def Qh5(l:List Oper)(h:Nat):List Nat:=match l[h]? with
 |some o=>Qea l h (Qh o)
 |none=>[]
theorem QjJ{l:List Oper}{h j:Nat}(q:j∈Qh5 l h):QbV l h j:=by
 unfold Qh5 at q;cases a:l[h]? with
 |none=>rw[a]at q;cases q
 |some o=>rw[a]at q;exact QbI h (Qh o) (λi b=>.one a b) j q
def Qdp.plB(l:List Oper)(m:Nat)(hs:List Bool)(rq ms:List (List Nat))(pl:List (List (Nat×Nat))):Bool:=
 (List.range m).all λi=>(List.range ms.length).all λst=>((ms.getD st []).any λh=>(Qh5 l h).contains i)|| !(rq.getD i []).all ((ms.getD st []).contains ·)||(hs.getD i false&&(ms.getD st []).contains i)||
  (pl.getD i []).any λp=>Nat.beq p.1 st&&Nat.blt p.2 ms.length&&(bif hs.getD i false then same (ms.getD p.2 []) (i::ms.getD st [])else Nat.beq p.2 st)
def Qdp(l:List Oper)(m N:Nat)(ds:List Nat)(hs:List Bool)(rq ms:List (List Nat))(pl:List (List (Nat×Nat))):Bool:=
 Nat.ble m l.length&&(ds.length==m)&&Qdp.dstB N 0 l ds&&drawChk.nodupB ds&&drawChk.goB l m 0 l&&Qdp.rqB m hs rq 0 l&&(ms.getD 0 []).isEmpty&&Nat.blt 0 ms.length
 &&((List.range ms.length).all λst=>Nat.beq (st+1) ms.length||(List.range m).any λi=>hs.getD i false&& !(ms.getD st []).contains i)&&Qdp.plB l m hs rq ms pl&&(List.range ms.length).all λst=>(ms.getD st []).all λh=>Nat.blt h m&&hs.getD h false
theorem QfH{N:Nat}:∀(l:List Oper) (a:List Nat) (b:Nat),Qdp.dstB N b l a=true->∀(i d:Nat) (o:Oper),l[i]?=some o->a[i]?=some d->
  (o.dst=some d/\d<N)\/o.dst=none:=by
 intro l
 induction l with
 |nil=>intro a b h i d o f;simp at f
 |cons x r k=>
  intro a b h i d o f g;cases a with
  |nil=>simp at g
  |cons y a=>
   simp only[Qdp.dstB,X4]at h;cases i with
   |zero=>
    simp at f g;subst f;subst g;have h:=h.1;split at h
    .rename_i m j;simp only[X4]at h;have e:=XX h.1;subst e;exact .inl ⟨j,by simpa using h.2⟩
    .rename_i j;exact .inr j
   |succ i=>
    have:=k a (b+1) h.2 i d o (by simpa using f) (by simpa using g);exact this
theorem Qk7{m:Nat}{e:List Bool}{d:List (List Nat)}:∀(l:List Oper) (b:Nat),Qdp.rqB m e d b l=true->∀(i:Nat) (o:Oper),l[i]?=some o->
  ∀h∈d.getD (b+i) [],h<m/\e.getD h false=true/\(h∈Qh o\/ ∃j∈Qh o,j<m/\h∈d.getD j []):=by
 intro l
 induction l with
 |nil=>intro b h i o a;simp at a
 |cons x r s=>
  intro b h i o a;simp only[Qdp.rqB,X4]at h;cases i with
  |zero=>
   simp at a;subst a;intro k w;have:=Xw.1 h.1 k (by simpa using w);simp only[X4,Bool.or_eq_true,List.contains_iff_mem,Xx]at this;obtain⟨⟨p,u⟩,t⟩:=this;refine⟨by simpa using p,u,?_⟩;rcases t with q|⟨j,g,f,n⟩
   .exact .inl q
   .exact .inr ⟨j,g,by simpa using f,n⟩
  |succ i=>
   have:=s (b+1) h.2 i o (by simpa using a);rw[show b+1+i=b+(i+1)by omega]at this;exact this
theorem Qmk{l:List Oper}{m N:Nat}{t:List Nat}{B:List Bool}{F s:List (List Nat)}{H:List (List (Nat×Nat))}(h:Qdp l m N t B F s H=true):
  QmP l m t B F s H N/\0<s.length:=by
 unfold Qdp at h;simp only[X4]at h;obtain⟨⟨⟨⟨⟨⟨⟨⟨⟨⟨h1,J⟩,L⟩,M⟩,Q⟩,P⟩,V⟩,X⟩,T⟩,G⟩,y⟩:=h;have x:m<=l.length:=XY h1;have E:t.length=m:=by simpa using J
 have g:=Qg9 l 0 Q;refine⟨⟨x,λi o r b=>?_,E,Qdi M,λi o b=>by have:=(g i o b).1;simpa using this,λo b j hj=>QbI m (Qh o) (λi r=>.one b r) j ((g m o b).2.1 (by omega) j hj),
  λi o r b=>by have:=(g i o b).2.2 (by omega);simpa using this,λi o r b h f=>by have:=Qk7 l 0 P i o b h (by simpa using f);exact this,
  by simpa using V,λk a=>?_,λk h f=>?_,λi k r a R W Y=>?_⟩,by simpa using X⟩
 .have u:t[i]?=some t[i]:=XR (by omega);rcases QfH l t 0 L i _ o b u with⟨n,w⟩|n
  .exact .inl ⟨_,n,u,w⟩
  .exact .inr n
 .have:=Xw.1 T k (List.mem_range.2 a);simp only[Bool.or_eq_true,Xx,X4,Bool.not_eq_true']at this;rcases this with q|⟨i,n,w,d⟩
  .exact .inl (XX q)
  .exact .inr ⟨i,List.mem_range.1 n,w,λz=>by rw[List.contains_iff_mem.2 z]at d;cases d⟩
 .have a:k<s.length:=by
   rcases Nat.lt_or_ge k s.length with q|q
   .exact q
   .rw[List.getD_eq_getElem?_getD,XV q]at f;cases f
  have:=Xw.1 (Xw.1 y k (List.mem_range.2 a)) h f;simp only[X4]at this;exact⟨by simpa using this.1,this.2⟩
 .have:=Xw.1 (Xw.1 G i (List.mem_range.2 r)) k (List.mem_range.2 a);simp only[Bool.or_eq_true,Bool.not_eq_true']at this;rcases this with((q|q)|q)|q
  .exfalso;obtain⟨h,f,q⟩:=Xx.1 q;exact Y h f (QjJ (List.contains_iff_mem.1 q))
  .exfalso;have:((F.getD i []).all ((s.getD k []).contains ·))=true:=Xw.2 λh f=>List.contains_iff_mem.2 (R h f);rw[this]at q;cases q
  .simp only[X4]at q;exact absurd (List.contains_iff_mem.1 q.2) (W q.1)
  .obtain⟨p,O,q⟩:=Xx.1 q;simp only[X4]at q;obtain⟨⟨n,w⟩,d⟩:=q;have e:=XX n;refine⟨p.2,by rw[<- e];exact O,by simpa using w,?_⟩;cases z:B.getD i false with
   |true=>
    rw[z]at d;simp only[cond_true]at d;simp only[if_true];intro j;rw[QmY d j,Ve]
   |false=>
    rw[z]at d;simp only[cond_false]at d;simp only[Xj,if_false];exact XX d
inductive Qgz (P:Program) (N:Nat) (l:List Oper) (ds:List Nat) (xs:List A) (env0:Env) (hB hE:Nat):Nat->List (List (Qc×Qc))->Prop
 |nil {i:Nat}:Qgz P N l ds xs env0 hB hE i []
 |cons {i:Nat}{s:List (Qc×Qc)}{r:List (List (Qc×Qc))} (h:∀p∈s,Jo P N l ds xs env0 hB hE i p.1 p.2) (k:Qgz P N l ds xs env0 hB hE (i+1) r):Qgz P N l ds xs env0 hB hE i (s::r)
theorem Qgz.get{P:Program}{N:Nat}{l:List Oper}{e:List Nat}{xs:List A}{env0:Env}{hB hE b:Nat}{d:List (List (Qc×Qc))}(h:Qgz P N l e xs env0 hB hE b d):
  ∀(i:Nat) (s:List (Qc×Qc)),d[i]?=some s->∀p∈s,Jo P N l e xs env0 hB hE (b+i) p.1 p.2:=by
 induction h with
 |nil=>intro i s h;simp at h
 | @cons b s0 r h _ ih=>
  intro i s a;cases i with
  |zero=>simp at a;subst a;exact h
  |succ i=>
   have:=ih i s (by simpa using a);rw[show b+1+i=b+(i+1)by omega]at this;exact this
theorem Ql{P:Program}{N:Nat}{l:List Oper}{b:List Nat}{xs:List A}{env0:Env}{hB hE i:Nat}:∀p∈([]:List (Qc×Qc)),Jo P N l b xs env0 hB hE i p.1 p.2:=by
 intro p a;cases a
theorem Qe{P:Program}{N:Nat}{l:List Oper}{a:List Nat}{xs:List A}{env0:Env}{hB hE i:Nat}{H H':Qc}{r:List (Qc×Qc)}(h:Jo P N l a xs env0 hB hE i H H')
  (k:∀p∈r,Jo P N l a xs env0 hB hE i p.1 p.2):∀p∈(H,H')::r,Jo P N l a xs env0 hB hE i p.1 p.2:=by
 intro p b;rcases Ve.1 b with rfl|q
 .exact h
 .exact k p q
theorem Qf1{P:Program}{h0 N:Nat}{id:Nat}{l:List Oper}{env:Env}{H:Qc}{fr ro:Nat->Prop}{σ:Sig}{a:Act}{w:World}{rd:Option Nat}{R:Exit->Act->World->Prop}(m c:Nat)(ds:List Nat)(hs:List Bool)(rq Y:List (List Nat))(J:List (List (Nat×Nat)))(xs:List A)(Hs:List Qc)(Hk:Qc)
  (hm:P.follows .mixedOrders=true)(hc:Qdp l m N ds hs rq Y J=true)(W:Nat.beq xs.length m=true)(ag:Nat.beq Hs.length Y.length=true)(ac:Nat.ble h0 H.length=true)
  (hh:Hs.all (λX=>Nat.ble (H.length+c) X.length)=true)(V:Hs[0]?=some (H++List.replicate c .dead))(aa:Hs.getD (Y.length-1) []=Hk)
  (af:Qgz P N l ds xs env H.length (H.length+c) 0 (J.map λq=>q.map λp=>(Hs.getD p.1 [],Hs.getD p.2 [])))(ab:Nat.beq J.length m=true)
  (r:Rel fr ro σ H env N a w)(ae:Qdy rd fr w)
  (hk:∀ro' σ' a' w',Rel fr ro' σ' Hk (Qar ds xs env) N a' w'->Qf fr ro w ro' w'->σ'.take h0=σ.take h0->a'.defers=a.defers->wpL P rd l.toArray R (l.drop m) a' w'):(Code.region id l.toArray true).wpIn (WF rd) 0 P R a w:=by
 obtain⟨ok,G⟩:=Qmk hc;have O:=XX W;have B:=XX ag;have ah:=XX ab;have M:Qf fr ro w ro {w with drawn:=w.drawn+1}:=⟨λ_ q=>q,λ_ _=>rfl,λ_ _=>rfl,X0 _,λ_ _ q=>q,rfl,rfl,rfl,Nat.le_succ _⟩;have u:Ext ro σ w ro (σ++List.replicate c none) {w with drawn:=w.drawn+1}:=M.ext σ _;have ad:=r.sim.len;have E:Hs.getD 0 []=H++List.replicate c .dead:=Qja V;have k:∀(i:Nat) (s:Option Nat) (x:Blk),(σ++List.replicate c none)[i]?=some s->(H++List.replicate c Blk.dead)[i]?=some x->(σ[i]?=some s/\H[i]?=some x)\/(s=none/\x=.dead):=by
  intro i s x n h;rcases Nat.lt_or_ge i σ.length with q|q
  .rw[XT q]at n;rw[XT (by omega)]at h;exact .inl ⟨n,h⟩
  .rw[XU q]at n;rw[XU (by omega)]at h;have a1:=List.mem_of_getElem? n;have a2:=List.mem_of_getElem? h;exact .inr ⟨(List.mem_replicate.1 a1).2,(List.mem_replicate.1 a2).2⟩
 have F:Sim fr ro (σ++List.replicate c none) (H++List.replicate c .dead) {w with drawn:=w.drawn+1}:=by
  refine⟨by simp[ad],r.sim.roOk.to (λ_ q=>q) (λ_ _=>rfl) r.sim.roLt,r.sim.frLt,r.sim.roFr,?_,?_,?_,
   r.sim.hidTo (· = ·) Q2 (X0 _) (λ_ _ _ _ _ _ _ q=>q) (λ_ _ _ _ _ _ _ q=>q) λj d y g1 g2 g3=>.inl ?_⟩
  rotate_left 3
  .rcases k j _ _ g1 g2 with⟨g,t⟩|⟨g,_⟩
   .exact⟨j,y,rfl,g,t,(λz=>z),λc q=>q⟩
   .cases g
  .intro i b blk n h Q;rcases k i _ _ n h with⟨g,t⟩|⟨g,_⟩
   .exact r.sim.own i b blk g t Q
   .cases g
  .intro i j b x y n h Q h4 h5 h6;rcases k i _ _ n Q with⟨g,t⟩|⟨g,_⟩
   .rcases k j _ _ h h4 with⟨T,q4⟩|⟨T,_⟩
    .exact r.sim.inj i j b x y g T t q4 h5 h6
    .cases T
   .cases g
  .intro i s x n h;rcases k i _ _ n h with⟨g,t⟩|⟨g,t⟩
   .exact BR.keep u (λb hb _=>rfl) (r.sim.blk i s x g t) (λ_ _ _ _=>rfl)
   .subst t;exact trivial
 have f:∀i,¬onL (Array.replicate l.length false) i:=by
  intro i q;unfold onL at q;rw[Array.getElem?_replicate]at q;split at q<;>simp at q
 have L:=XY ac;refine wpIn_region_any hm ?_;rw[List.size_toArray];refine Qhy ok O B L (Nat.le_add_right _ _) (λX hX=>XY (Xw.1 hh X hX)) ?_ aa (ro0:=ro) (σ0:=σ) (w0:=w) (ds0:=a.defers) hk r.defers ae
  l.length _ a _ ro (σ++List.replicate c none) 0 (by simp) ?_ (λi _=>f i) G (by rw[E];exact F) r.size rfl (λi d x q=>absurd q (f i)) (λs _=>(r.env s).mono u) M (QU (by omega)) ?_
  (λi _ q=>absurd q (f i)) (λi _ _=>⟨λq=>absurd q (f i),λq=>by rw[ok.ms0]at q;cases q⟩) (λi o q=>absurd q (f i))
 .intro i p hi hp;have e:(J.map λq=>q.map λp=>(Hs.getD p.1 [],Hs.getD p.2 []))[i]?=some ((J.getD i []).map λp=>(Hs.getD p.1 [],Hs.getD p.2 [])):=by
   rw[Xr,XR (by omega),List.getD_eq_getElem?_getD,XR (by omega)];rfl
  have:=af.get i _ e _ (Xf.2 ⟨p,hp,rfl⟩);simpa using this
 .unfold unl;simp[List.countP_replicate]
 .intro p n h Q;rw[XU (by omega),List.getElem?_replicate,if_pos (by omega)]
theorem QaE{P:Program}{h0 N:Nat}{id:Nat}{l:List Oper}{env:Env}{H:Qc}{Q:QC}(m c:Nat)(d:List Nat)(x:List Bool)(u g:List (List Nat))(f:List (List (Nat×Nat)))(xs:List A)(Hs:List Qc)(Hk:Qc)
  (y:P.follows .mixedOrders=true)(z:Qdp l m N d x u g f=true)(t:Nat.beq xs.length m=true)(k:Nat.beq Hs.length g.length=true)(j:Nat.ble h0 H.length=true)
  (F:Hs.all (λX=>Nat.ble (H.length+c) X.length)=true)(h:Hs[0]?=some (H++List.replicate c .dead))(s:Hs.getD (g.length-1) []=Hk)
  (n:Qgz P N l d xs env H.length (H.length+c) 0 (f.map λq=>q.map λp=>(Hs.getD p.1 [],Hs.getD p.2 [])))(i:Nat.beq f.length m=true)
  (E:WO P h0 N l.toArray (l.drop m) (Qar d xs env) Hk Q):TC P h0 N (.region id l.toArray true) env H Q:=by
 intro B G J σ a w r hrd;refine Code.wpIn_mono (λe a w q=>QbF.postW q) (Qf1 m c d x u g f xs Hs Hk y z t k j F h s n i r hrd λro' σ' a' w' hr hev htk hdf=>?_);have b:=E B G ro' σ' a' w' hr (hrd.to hev λ_ q=>q);rw[hdf]at b;exact Yn (λe a w q=>q.step hev htk) _ _ _ b
def draw0(l:List Oper)(m N:Nat)(ds:List Nat):Bool:=Nat.ble m l.length&&(ds.length==m)&&Qdp.dstB N 0 l ds&&drawChk.nodupB ds&&drawChk.goB l m 0 l
inductive Oq (P:Program) (N:Nat) (l:List Oper) (ds:List Nat) (xs:List A) (env0:Env) (H:Qc):Nat->Nat->Prop
 |n {i:Nat}:Oq P N l ds xs env0 H i 0
 |c {i c:Nat} (h:Jo P N l ds xs env0 H.length H.length i H H) (k:Oq P N l ds xs env0 H (i+1) c):Oq P N l ds xs env0 H i (c+1)
theorem Oq.get{P:Program}{N:Nat}{l:List Oper}{a:List Nat}{xs:List A}{env0:Env}{H:Qc}{b c:Nat}(h:Oq P N l a xs env0 H b c):∀i,i<c->Jo P N l a xs env0 H.length H.length (b+i) H H:=by
 induction h with
 |n=>intro i d;omega
 | @c b c h _ ih=>
  intro i d;cases i with
  |zero=>exact h
  |succ i=>
   have:=ih i (by omega);rw[show b+1+i=b+(i+1)by omega]at this;exact this
theorem Qml{l:List Oper}{m N:Nat}{d:List Nat}(h:draw0 l m N d=true):QmP l m d [] [] [[]] (List.replicate m [(0,0)]) N:=by
 unfold draw0 at h;simp only[X4]at h;obtain⟨⟨⟨⟨w,u⟩,z⟩,s⟩,t⟩:=h;have p:m<=l.length:=XY w;have r:d.length=m:=by simpa using u
 have g:=Qg9 l 0 t;refine⟨p,λi o e b=>?_,r,Qdi s,λi o b=>by have:=(g i o b).1;simpa using this,λo b j x=>QbI m (Qh o) (λi e=>.one b e) j ((g m o b).2.1 (by omega) j x),
  λi o e b=>by have:=(g i o b).2.2 (by omega);simpa using this,λi o e b h n=>by simp at n,rfl,λk a=>.inl (by simp at a;simp[a]),λk h n=>by cases k<;>simp at n,λi k e a _ _ _=>?_⟩
 .have f:d[i]?=some d[i]:=XR (by omega);rcases QfH l d 0 z i _ o b f with⟨q,y⟩|q
  .exact .inl ⟨_,q,f,y⟩
  .exact .inr q
 .have:k=0:=by simp at a;exact a
  subst this;refine⟨0,?_,by simp,by simp⟩;rw[List.getD_eq_getElem?_getD,List.getElem?_replicate,if_pos e];exact List.mem_singleton.2 rfl
theorem Qck{P:Program}{h0 N:Nat}{id:Nat}{l:List Oper}{env:Env}{H:Qc}{fr ro:Nat->Prop}{σ:Sig}{a:Act}{w:World}{rd:Option Nat}{R:Exit->Act->World->Prop}(m:Nat)(k:List Nat)(xs:List A)
  (B:P.follows .mixedOrders=true)(E:Go.Sw.draw0 l m N k=true)(u:Nat.beq xs.length m=true)(j:Nat.ble h0 H.length=true)
  (t:Oq P N l k xs env H 0 m)(r:Rel fr ro σ H env N a w)(n:Qdy rd fr w)
  (F:∀ro' σ' a' w',Rel fr ro' σ' H (Qar k xs env) N a' w'->Qf fr ro w ro' w'->σ'.take h0=σ.take h0->a'.defers=a.defers->wpL P rd l.toArray R (l.drop m) a' w'):(Code.region id l.toArray true).wpIn (WF rd) 0 P R a w:=by
 have ok:=Qml E;have e:=XX u;have f:Qf fr ro w ro {w with drawn:=w.drawn+1}:=⟨λ_ q=>q,λ_ _=>rfl,λ_ _=>rfl,X0 _,λ_ _ q=>q,rfl,rfl,rfl,Nat.le_succ _⟩;have h:Ext ro σ w ro σ {w with drawn:=w.drawn+1}:=f.ext0 σ;have g:Sim fr ro σ H {w with drawn:=w.drawn+1}:=r.sim.heap rfl;have b:∀i,¬onL (Array.replicate l.length false) i:=by
  intro i q;unfold onL at q;rw[Array.getElem?_replicate]at q;split at q<;>simp at q
 refine wpIn_region_any B ?_;rw[List.size_toArray];refine Qhy (hB:=H.length) (hE:=H.length) (Hs:=[H]) (Hk:=H) ok e rfl (XY j) (X0 _) (λX hX=>by rw[List.mem_singleton.1 hX];exact X0 _) ?_ rfl (ro0:=ro) (σ0:=σ) (w0:=w) (ds0:=a.defers) F r.defers n
  l.length _ a _ ro σ 0 (by simp) ?_ (λi _=>b i) (by simp) g r.size rfl (λi d x q=>absurd q (b i)) (λs _=>(r.env s).mono h) f rfl (λp J G=>by omega)
  (λi _ q=>absurd q (b i)) (λi _ _=>⟨λq=>absurd q (b i),λq=>by cases q⟩) (λi o q=>absurd q (b i))
 .intro i p z y;rw[List.getD_eq_getElem?_getD,List.getElem?_replicate,if_pos z]at y;obtain rfl:=List.mem_singleton.1 y;have:=t.get i z;rw[XB]at this;exact this
 .unfold unl;simp[List.countP_replicate]
theorem TC.draw0{P:Program}{h0 N:Nat}{id:Nat}{l:List Oper}{env:Env}{H:Qc}{Q:QC}(m:Nat)(d:List Nat)(xs:List A)
  (i:P.follows .mixedOrders=true)(j:Go.Sw.draw0 l m N d=true)(h:Nat.beq xs.length m=true)(f:Nat.ble h0 H.length=true)
  (g:Oq P N l d xs env H 0 m)(k:WO P h0 N l.toArray (l.drop m) (Qar d xs env) H Q):TC P h0 N (.region id l.toArray true) env H Q:=by
 intro n p s σ a w r hrd;refine Code.wpIn_mono (λe a w q=>QbF.postW q) (Qck m d xs i j h f g r hrd λro' σ' a' w' hr hev htk hdf=>?_);have b:=k n p ro' σ' a' w' hr (hrd.to hev λ_ q=>q);rw[hdf]at b;exact Yn (λe a w q=>q.step hev htk) _ _ _ b
section
variable {P:Program}{N:Nat}{l:List Oper}{ds af bf:List Nat}{xs:List A}{env0 e r:Env}{H H':Qc}{i hB hE:Nat}{o:Oper}{d s:Nat}{x a:A}
theorem sN:Sb af bf ds xs env0 []:=.nil
theorem sD(j:Nat)(k:Sb af bf ds xs env0 r)(b:af.contains j=true:=by exact rfl)(h2:ds[j]?=some s:=by exact rfl)(h3:xs[j]?=some a:=by exact rfl):Sb af bf ds xs env0 ((s,a)::r):=.dep j b h2 h3 k
theorem sO(s:Nat)(k:Sb af bf ds xs env0 r)(b:ds.contains s=false:=by exact rfl)(h2:lk env0 s=a:=by exact rfl):Sb af bf ds xs env0 ((s,a)::r):=.old b h2 k
theorem Qdq(H:Qc):Qap hB hE H H=true:=by
 unfold Qap;refine Xw.2 λp _=>?_;cases Qb3 H[hB+p]? <;>rfl
theorem Om(f:l[i]?=some o)(a:Sb (Qh o) (Qis l i) ds xs env0 e)(h:WO P H.length N l.toArray [o] e H (YU (up e d x) H))(b:o.dst=some d:=by exact rfl)(hx:xs[i]?=some x:=by exact rfl):Jo P N l ds xs env0 hB hE i H H:=
 .mk o e d x f b hx (Qdq H) a h
theorem Om1(f:l[i]?=some o)(a:Sb (Qh o) (Qis l i) ds xs env0 e)(h:WO P H.length N l.toArray [o] e H (YU (up e d x) H'))(b:o.dst=some d:=by exact rfl)(hx:xs[i]?=some x:=by exact rfl)(hdd:Qap hB hE H H'=true:=by exact rfl):Jo P N l ds xs env0 hB hE i H H':=
 .mk o e d x f b hx hdd a h
theorem Om2(d:l[i]?=some o)(a:Sb (Qh o) (Qis l i) ds xs env0 e)(h:WO P H.length N l.toArray [o] e H (YU e H'))(b:o.dst=none:=by exact rfl)(hx:xs[i]?=some .any:=by exact rfl)(hdd:Qap hB hE H H'=true:=by exact rfl):Jo P N l ds xs env0 hB hE i H H':=
 .unit o e d b hx hdd a h
end
end Go.Sw
namespace Go.Sw
structure TyI where
 fld:List (Nat×Nat×Nat)
 agg:List (Nat×Bool×Nat)
 zer:List (Nat×List A×List (Nat×Nat))
structure TyOK (P:Program) (T:TyI):Prop where
 fld:∀e∈T.fld,∃n,Y8 P e.1 e.2.1 e.2.2 n
 agg:∀e∈T.agg,(∀w,(isAgg e.1).run P w=.ok e.2.1 w)/\ ∀w,(sizeOf e.1).run P w=.ok e.2.2 w
 zer:∀e∈T.zer,(∃z,(∀w,(zeroValue e.1).run P w=.ok z w)/\ZR (.agg e.2.1) z)/\QL P e.1 e.2.2
def Qhd:List (Nat×Nat×Nat)->Nat->Nat->Option Nat
 |[],_,_=>none
 |(a,b,c)::r,t,f=>bif Nat.beq a t&&Nat.beq b f then some c else Qhd r t f
def QbP{β:Type}:List (Nat×β)->Nat->Option β
 |[],_=>none
 |(a,b)::r,t=>bif Nat.beq a t then some b else QbP r t
theorem Qhc{l:List (Nat×Nat×Nat)}{t f c:Nat}(h:Qhd l t f=some c):(t,f,c)∈l:=by
 induction l with
 |nil=>cases h
 |cons x r i=>
  obtain⟨a,b,d⟩:=x;unfold Qhd at h;cases q:(Nat.beq a t&&Nat.beq b f)with
  |true=>
   rw[q]at h;simp only[X4]at q;have g:=XX q.1;have e:=XX q.2;simp only[cond_true,Option.some.injEq]at h;subst g e h;exact .head _
  |false=>rw[q]at h;exact .tail _ (i h)
theorem Qat{β:Type}{l:List (Nat×β)}{t:Nat}{c:β}(h:QbP l t=some c):(t,c)∈l:=by
 induction l with
 |nil=>cases h
 |cons x r e=>
  obtain⟨a,b⟩:=x;unfold QbP at h;cases q:Nat.beq a t with
  |true=>
   rw[q]at h;have d:=XX q;simp only[cond_true,Option.some.injEq]at h;subst d h;exact .head _
  |false=>rw[q]at h;exact .tail _ (e h)
def Qgq(H:Qc):A->Option (List A)
 |.rp cs=>some cs
 |.ptr i off=>match H[i]? with
  |some (.cells _ cs)=>some (cs.drop off)
  |_=>none
 |_=>none
theorem Qir{H:Qc}{p:A}{cs:List A}(h:Qgq H p=some cs):Pts H p cs:=by
 unfold Qgq at h;split at h
 .cases h;exact Pts.rp
 .split at h
  .rename_i a;cases h;exact Pts.cells a rfl
  .cases h
 .cases h
def QkX(T:TyI)(o:Oper)(env:Env)(H:Qc):Option A:=
 match o.op with
 |.move x=>some (opA env x)
 |.assign x=>some (opA env x)
 |.fieldAddr t x f=>match Qhd T.fld t f with
  |none=>none
  |some off=>match opA env x with
   |.ptr i p=>some (.ptr i (p+off))
   |.rp cs=>some (.rp (cs.drop off))
   |_=>none
 |.load t x=>match QbP T.agg t with
  |none=>none
  |some (b,n)=>match x with
   |.global g=>match Qib[g]? with
    |some zs=>bif b&&Nat.beq zs.length n then some (.agg (zs.map (A.int .i64)))else none
    |none=>none
   |x=>match Qgq H (opA env x)with
    |none=>none
    |some cs=>bif b then(bif Nat.beq (cs.take n).length n then some (.agg (cs.take n))else none)else cs.head?
 |.build t parts=>match QbP T.zer t with
  |none=>none
  |some (zs,pl)=>match Qet env pl zs parts.toList with
   |some cs=>some (.agg cs)
   |none=>none
 |.extract x i=>match opA env x with
  |.tup vs=>vs[i]?
  |_=>none
 |.makeFunc f first cap=>some (.fn f (first.toList.map (opA env)) (cap.toList.map (opA env)))
 |_=>none
theorem QkW{P:Program}{T:TyI}(m:TyOK P T){o:Oper}{env:Env}{H:Qc}{x:A}(h:QkX T o env H=some x):OpV P o env H x:=by
 unfold QkX at h;split at h
 .rename_i y a;cases h;exact OpV.move a rfl
 .rename_i y a;cases h;exact OpV.assign a rfl
 .rename_i t y f a;split at h
  .cases h
  .rename_i G l;obtain⟨n,r⟩:=m.fld _ (Qhc l);split at h
   .rename_i i p j;cases h;exact Qcb r a j
   .rename_i d j;cases h;exact QeV r a j rfl
   .cases h
 .rename_i t y a;split at h
  .cases h
  .rename_i b n E;obtain⟨e,k⟩:=m.agg _ (Qat E);split at h
   .rename_i g;split at h
    .rename_i u B;cases q:(b&&Nat.beq u.length n)with
     |false=>rw[q]at h;cases h
     |true=>
      rw[q]at h;cases h;simp only[X4]at q;obtain⟨rfl,F⟩:=q;exact QfP e k B (XX F) a
    .cases h
   .split at h
    .cases h
    .rename_i d w;have s:=Qir w;cases b with
     |true=>
      simp only[cond_true]at h;cases q:Nat.beq (d.take n).length n with
      |false=>rw[q]at h;cases h
      |true=>
       rw[q]at h;cases h;exact Qy a e k rfl s rfl (XX q)
     |false=>
      simp only[cond_false]at h;cases d with
      |nil=>cases h
      |cons v d=>cases h;exact OpV.load a e rfl s
 .rename_i t parts a;split at h
  .cases h
  .rename_i u M L;obtain⟨⟨z,e,k⟩,J⟩:=m.zer _ (Qat L);split at h
   .rename_i d l;cases h;exact OpV.build e k J (by rw[a]) l
   .cases h
 .rename_i y i a;split at h
  .rename_i vs j;exact OpV.extract a j h
  .cases h
 .rename_i f first cap a
  cases h;exact OpV.makeFunc (first:=first.toList) (cap:=cap.toList) (by rw[a]) rfl rfl
 .cases h
def Qhw(af:List Nat):Nat->List Nat->List A->Env->Env
 |j,d::ds,x::xs,e=>(d,bif af.contains j then x else .any)::Qhw af (j+1) ds xs e
 |_,_,_,e=>e
theorem Qnz{af:List Nat}{env0:Env}(s:Nat):∀(a:List Nat) (xs:List A) (b:Nat),a.length=xs.length->
  (∃(j:Nat) (x:A),a[j]?=some s/\xs[j]?=some x/\lk (Qhw af b a xs env0) s=bif af.contains (b+j)then x else .any)\/(a.contains s=false/\lk (Qhw af b a xs env0) s=lk env0 s):=by
 intro a
 induction a with
 |nil=>intro xs b f;right;exact⟨rfl,by unfold Qhw;rfl⟩
 |cons d a k=>
  intro xs b f;cases xs with
  |nil=>cases f
  |cons x xs=>
   cases q:Nat.beq s d with
   |true=>
    have e:=XX q;subst e;left;refine⟨0,x,rfl,rfl,?_⟩;simp only[Qhw,lk,q,cond_true];rfl
   |false=>
    have i:s≠d:=λz=>by subst z;simp[Nat.beq_refl]at q
    simp only[Qhw,lk,q,cond_false];rcases k xs (b+1) (by simpa using f)with⟨j,y,h,g,l⟩|⟨h,g⟩
    .left;refine⟨j+1,y,by simpa using h,by simpa using g,?_⟩;rw[show b+(j+1)=b+1+j by omega];exact l
    .right;refine⟨?_,g⟩;rw[List.contains_cons,h];simpa using i
def QiR(T:TyI)(N:Nat)(l:List Oper)(ds:List Nat)(xs:List A)(env0:Env)(H:Qc)(i:Nat):Option A:=
 match l[i]? with
 |none=>none
 |some o=>match o.guard,o.dst with
  |none,some d=>bif Nat.blt d N&&Nat.beq ds.length xs.length then QkX T o (Qhw (Qh o) 0 ds xs env0) H else none
  |_,_=>none
theorem Qny{af b:List Nat}{xs:List A}{env0:Env}(d:b.length=xs.length):QmO af b xs env0 (Qhw af 0 b xs env0):=by
 intro s;rcases Qnz (af:=af) (env0:=env0) s b xs 0 d with⟨j,x,f,e,a⟩|h
 .rw[XB]at a;cases q:af.contains j with
  |true=>rw[q]at a;exact .inl ⟨j,x,q,f,e,a⟩
  |false=>rw[q]at a;exact .inr (.inl a)
 .exact .inr (.inr h)
theorem vQ{P:Program}{T:TyI}(e:TyOK P T){N:Nat}{l:List Oper}{a:List Nat}{xs:List A}{env0:Env}{hB hE i:Nat}{H:Qc}{x:A}(j:xs[i]?=some x)(h:QiR T N l a xs env0 H i=some x):Jo P N l a xs env0 hB hE i H H:=by
 unfold QiR at h;split at h
 .cases h
 .rename_i o b;split at h
  .rename_i d f g;cases q:(Nat.blt d N&&Nat.beq a.length xs.length)with
   |false=>rw[q]at h;cases h
   |true=>
    rw[q]at h;simp only[X4]at q;exact .val o _ d x b g f j q.1 (Qny (XX q.2)) (QkW e h)
  .cases h
abbrev I(n:Int):A:=.int .i64 n
theorem zc{a:A}{v:Value}{al:List A}{vl:List Value}(h:ZR a v)(k:ZL al vl):ZL (a::al) (v::vl):=ZL.cons h k
def zr1:A->Value->Bool
 |.int k n,.int k' n'=>decide (k=k')&&decide (n=n')
 |.bool b,.bool b'=>b==b'
 |.str s,.string s'=>s.isEmpty&&s'.data.toList.isEmpty
 |.rsl _ es,.slice none 0 0=>es.isEmpty
 |.nils,.slice none 0 0=>true
 |.nilp,.pointer none=>true
 |.nilf,.nilFunc=>true
 |.nilm,.map none=>true
 |.nilif,.nilIface=>true
 |_,_=>false
def zrL:List A->List Value->Bool
 |[],[]=>true
 |a::r,v::s=>zr1 a v&&zrL r s
 |_,_=>false
def zrB:A->Value->Bool
 |.agg r,.agg s=>zrL r s.toList
 |a,v=>zr1 a v
theorem QkM{a:A}{v:Value}(h:zr1 a v=true):ZR a v:=by
 unfold zr1 at h;split at h
 .simp only[X4,decide_eq_true_eq]at h;obtain⟨rfl,rfl⟩:=h;exact ZR.int
 .simp only[beq_iff_eq]at h;subst h;exact ZR.bool
 .rename_i s f;simp only[X4,List.isEmpty_iff]at h;obtain⟨rfl,b⟩:=h;obtain⟨d⟩:=f;obtain⟨d⟩:=d;have b:d=[]:=b;subst b;exact ZR.str
 .rename_i k g;have h:g=[]:=List.isEmpty_iff.1 h;subst h;exact ZR.rsl (α:=A) (e:=λx=>[x])
 .exact ZR.nils
 .exact ZR.nilp
 .exact ZR.nilf
 .exact ZR.nilm
 .exact QnJ
 .cases h
theorem QkL:∀{r:List A}{s:List Value},zrL r s=true->ZL r s
 |[],[],_=>ZL.nil
 |a::r,v::s,h=>by
  simp only[zrL,X4]at h;exact ZL.cons (QkM h.1) (QkL h.2)
 |[],_::_,h=>by cases h
 |_::_,[],h=>by cases h
theorem zrC{a:A}{v:Value}(h:zrB a v=true):ZR a v:=by
 unfold zrB at h;split at h
 .rename_i r s;have:=ZR.agg (QkL h);simpa using this
 .exact QkM h
end Go.Sw
namespace Go.Sw
section
variable {P:Program}{o:Oper}{env:Env}{H:Qc}
end
end Go.Sw
