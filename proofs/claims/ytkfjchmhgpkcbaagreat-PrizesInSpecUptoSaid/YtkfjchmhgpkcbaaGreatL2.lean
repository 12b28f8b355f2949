/- The rules by which the code is walked, with what they rest on (part 2). -/
import Derived.Test.YtkfjchmhgpkcbaaGreatL1
import Derived.Shelf.SlSortCmp.NoneTotal
import Derived.Below
import GoSem.ClaimChange
import Derived.Shelf.Strings.Search3
import Derived.Lib.LazyBuf
import Derived.Shelf.Sort.Plain
import Derived.Shelf.Slices.In.SortNone
import Derived.Shelf.Slices.CompactI
import Derived.RangeFuncIn
import Derived.RangeFuncSeq
import Derived.RangeFuncNested
import Derived.Lib.Bytealg
import Derived.Laws.Externs
import Derived.LaidLaws
import Derived.Lib.LaidTab
import Derived.ChangeArms
import Derived.ChangeSame
import Derived.Laws.BytesString
set_option linter.unusedVariables false
set_option linter.unusedSectionVars false
set_option linter.unusedSimpArgs false
namespace Go.Sw
open Go.Sort Go.Proofs Go.Shelf
section
variable {α:Type}
def ins(lt:α->α->Bool)(x:α):List α->List α
 |[]=>[x]
 |y::l=>bif lt y x then y::ins lt x l else x::y::l
def QaD(lt:α->α->Bool):List α->List α
 |[]=>[]
 |x::l=>ins lt x (QaD lt l)
theorem Qew(lt:α->α->Bool)(x:α):∀l,(ins lt x l).Perm (x::l)
 |[]=>.refl _
 |y::l=>by
  unfold ins;cases lt y x
  .exact .refl _
  .exact((Qew lt x l).cons y).trans (List.Perm.swap _ _ _)
theorem QS(lt:α->α->Bool):∀l,(QaD lt l).Perm l
 |[]=>.refl _
 |x::l=>(Qew lt x _).trans ((QS lt l).cons x)
structure Qe6 (lt:α->α->Bool) (l:List α):Prop where
 irrefl:∀x∈l,lt x x=false
 trans:∀x∈l,∀y∈l,∀z∈l,lt x y=true->lt y z=true->lt x z=true
 ntrans:∀x∈l,∀y∈l,∀z∈l,lt x y=false->lt y z=false->lt x z=false
theorem Qe6.mono{lt:α->α->Bool}{l m:List α}(h:Qe6 lt l)(hm:∀x∈m,x∈l):Qe6 lt m:=
 ⟨λx hx=>h.irrefl x (hm x hx),λx hx y hy z hz=>h.trans x (hm x hx) y (hm y hy) z (hm z hz),λx hx y hy z hz=>h.ntrans x (hm x hx) y (hm y hy) z (hm z hz)⟩
theorem Qe6.asymm{lt:α->α->Bool}{l:List α}(h:Qe6 lt l){x y:α}(b:x∈l)(d:y∈l)(a:lt x y=true):lt y x=false:=by
 cases q:lt y x
 .rfl
 .rw[<- h.irrefl x b,h.trans x b y d x b a q]
theorem Qev{lt:α->α->Bool}{x:α}:∀{l:List α},Qe6 lt (x::l)->l.Pairwise (λa b=>lt b a=false)->(ins lt x l).Pairwise (λa b=>lt b a=false)
 |[],_,_=>by simp[ins]
 |y::l,h,hp=>by
  obtain⟨h1,h2⟩:=Xc.1 hp;unfold ins;cases q:lt y x
  .refine Xc.2 ⟨λz hz=>?_,hp⟩;rcases Vf.1 hz with rfl|hz
   .exact q
   .exact h.ntrans z (by simp[hz]) y (by simp) x (by simp) (h1 z hz) q
  .refine Xc.2 ⟨λz hz=>?_,Qev (h.mono (by intro z hz;rcases Vf.1 hz with rfl|hz<;>simp[*])) h2⟩;rcases Vf.1 ((Qew lt x l).mem_iff.1 hz)with rfl|hz
   .exact h.asymm (by simp) (by simp) q
   .exact h1 z hz
theorem YL{lt:α->α->Bool}:∀{l:List α},Qe6 lt l->(QaD lt l).Pairwise (λa b=>lt b a=false)
 |[],_=>by simp[QaD]
 |x::l,h=>Qev (h.mono (by
   intro z hz;rcases Vf.1 hz with rfl|hz
   .simp
   .exact Ve _ ((QS lt l).mem_iff.1 hz))) (YL (h.mono λz hz=>Ve _ hz))
theorem QaB{lt:α->α->Bool}:∀{l m:List α},l.Perm m->(∀x∈l,∀y∈l,lt x y=false->lt y x=false->x=y)->l.Pairwise (λa b=>lt b a=false)->m.Pairwise (λa b=>lt b a=false)->l=m
 |[],m,h,_,_,_=>by rw[List.nil_perm.1 h]
 |x::l,[],h,_,_,_=>by have:=h.length_eq;simp at this
 |x::l,y::m,h,ha,hl,hm=>by
  obtain⟨l1,l2⟩:=Xc.1 hl;obtain⟨m1,m2⟩:=Xc.1 hm;have hy:y∈x::l:=h.mem_iff.2 (by simp);have hx:x∈y::m:=h.mem_iff.1 (by simp);have hxy:x=y:=by
   rcases Vf.1 hy with e|d
   .exact e.symm
   .rcases Vf.1 hx with e|f
    .exact e
    .exact ha x (by simp) y (by simp[d]) (m1 x f) (l1 y d)
  subst hxy;rw[QaB ((List.perm_cons x).1 h) (λa g b i=>ha a (by simp[g]) b (by simp[i])) l2 m2]
def ltO(cf:α->α->Option Int)(x y:α):Bool:=match cf x y with
 |some c=>decide (c<0)
 |none=>false
def QhU[DecidableEq α](cf:α->α->Option Int)(l:List α):Bool:=
 l.all λx=> !ltO cf x x&&l.all λy=>(cf x y).isSome&&(ltO cf x y||ltO cf y x||decide (x=y))&&l.all λz=>(!ltO cf x y|| !ltO cf y z||ltO cf x z)&&(ltO cf x y||ltO cf y z|| !ltO cf x z)
def Qcr[DecidableEq α](cf:α->α->Option Int)(l:List α):Option (List α):=bif Nat.ble l.length Q1&&QhU cf l then some (QaD (ltO cf) l)else none
theorem Qeb[DecidableEq α]{cf:α->α->Option Int}{l l':List α}(h:Qcr cf l=some l'):
  l.length<=Q1/\(∀x∈l,∀y∈l,∃c,cf x y=some c)/\Qe6 (ltO cf) l/\(∀x∈l,∀y∈l,ltO cf x y=false->ltO cf y x=false->x=y)/\QaD (ltO cf) l=l':=by
 unfold Qcr at h;cases g:Nat.ble l.length Q1 with
 |false=>rw[g]at h;cases h
 |true=>
 rw[g,Bool.true_and]at h;cases q:QhU cf l with
 |false=>rw[q]at h;cases h
 |true=>
  rw[q]at h;refine⟨XZ g,?_⟩;unfold QhU at q;simp only[Xx,X5,Bool.not_eq_true',Bool.or_eq_true,decide_eq_true_eq]at q;refine⟨λx b y d=>Option.isSome_iff_exists.1 ((q x b).2 y d).1.1,⟨λx b=>(q x b).1,λx b y d z i e f=>?_,λx b y d z i e f=>?_⟩,λx b y d e f=>?_,X8 h⟩
  .rcases(((q x b).2 y d).2 z i).1 with(a|a)|a
   .rw[e]at a;cases a
   .rw[f]at a;cases a
   .exact a
  .rcases(((q x b).2 y d).2 z i).2 with(a|a)|a
   .rw[e]at a;cases a
   .rw[f]at a;cases a
   .exact a
  .rcases((q x b).2 y d).1.2 with(a|a)|a
   .rw[e]at a;cases a
   .rw[f]at a;cases a
   .exact a
theorem Qlj[DecidableEq α]{cf:α->α->Option Int}{l:List α}(h:l.length<=Q1)(c:α->α->Int)(m:∀x∈l,∀y∈l,cf x y=some (c x y))(hi:∀x∈l,¬c x x<0)
  (p:∀x∈l,∀y∈l,∀z∈l,c x y<0->c y z<0->c x z<0)(n:∀x∈l,∀y∈l,∀z∈l,¬c x y<0->¬c y z<0->¬c x z<0)(r:∀x∈l,∀y∈l,¬c x y<0->¬c y x<0->x=y):
  Qcr cf l=some (QaD (ltO cf) l):=by
 have g:∀x∈l,∀y∈l,ltO cf x y=decide (c x y<0):=λx e y f=>by unfold ltO;rw[m x e y f]
 have q:QhU cf l=true:=by
  unfold QhU;simp only[Xx,X5,Bool.not_eq_true',Bool.or_eq_true,decide_eq_true_eq];intro x e;refine⟨by rw[g x e x e];simpa using hi x e,λy f=>⟨⟨by rw[m x e y f];rfl,?_⟩,λz i=>?_⟩⟩
  .rw[g x e y f,g y f x e];by_cases j:c x y<0
   .simp[j]
   .by_cases k:c y x<0
    .simp[k]
    .exact .inr (r x e y f j k)
  .rw[g x e y f,g y f z i,g x e z i];have j:=p x e y f z i;have k:=n x e y f z i;by_cases a:c x y<0<;>by_cases b:c y z<0<;>by_cases d:c x z<0<;>simp_all
 unfold Qcr;rw[q,X0 h];rfl
theorem Qfy[DecidableEq α]{cf:α->α->Option Int}{l l':List α}(h:Qcr cf l=some l'):l.length=l'.length:=by
 rw[<- (Qeb h).2.2.2.2];exact(QS _ _).length_eq.symm
theorem Qah{l l':List α}{i:Int}{x:α}(h:Qbz l i x=some l'):l.length=l'.length:=by
 unfold Qbz at h;cases q:(decide (0<=i)&&decide (i<(l.length:Int)))with
 |true=>rw[q]at h;rw[<- X8 h];simp
 |false=>rw[q]at h;cases h
theorem QQ{h0:Nat}{env:Env}{H:Qc}{s:Nat}{a a':A}(h:lk env s=a)(e:a=a'):Le h0 env H (up env s a') H:=by
 intro f d σ N act w r;refine⟨d,σ,⟨r.sim,λb=>?_,r.size,r.defers⟩,λ_ q=>q,rfl⟩;subst e;have:lk (up env s a) b=lk env b:=by
  simp only[lk];cases q:Nat.beq b s with
  |true=>rw[XY q,h];rfl
  |false=>rfl
 rw[this];exact r.env b
end
section
variable {fr ro:Nat->Prop}{σ:Sig}{H:Qc}{w w':World}
theorem Qdz(hh:∀b,b<w.heap.size->w'.heap[b]?=w.heap[b]?)(hro:∀b,ro b->b<w.heap.size)(σ:Sig):Ext ro σ w ro σ w':=
 ⟨λ_ q=>q,λb hb=>hh b (hro b hb),λb x hx=>by unfold World.shape? at hx⊢;rw[hh b (Qct hx)];exact hx,λ_ _ q=>q⟩
theorem Sim.grown(s:Sim fr ro σ H w)(a:∀b,b<w.heap.size->w'.heap[b]?=w.heap[b]?)(g:w.heap.size<=w'.heap.size):Sim fr ro σ H w':=by
 refine⟨s.len,s.roOk.to (λ_ q=>q) (λb q=>a b (s.roLt b q)) (λb h=>Vo (s.roLt b h) g),λb h=>Vo (s.frLt b h) g,s.roFr,λi b x e f n=>?_,s.inj,λi y x e f=>?_,s.hidTo (· = ·) Yc g (λ_ _ _ _ _ _ _ q=>q) (λ_ _ _ _ _ _ _ q=>q) λj d y k l r=>.inl ⟨j,y,rfl,k,l,id,λc q=>s.hidKeep k l (λz=>a d (s.own j d y k l z).1) (λb q=>a b (s.roLt b q)) q⟩⟩
 .obtain⟨p,q⟩:=s.own i b x e f n;exact⟨Vo p g,q⟩
 .refine(s.blk i y x e f).keep (Qdz a s.roLt σ) ?_ ?_
  .rintro b rfl m;exact a b (s.own i b x e f m).1
  .rintro b c rfl m;exact a c (s.hid i b x c e f m).lt
theorem Qj.grown(hh:∀b,b<w.heap.size->w'.heap[b]?=w.heap[b]?)(hs:w.heap.size<=w'.heap.size)(s:Sim fr ro σ H w)(ho:w'.os=w.os)(ht:w'.tape=w.tape)(hu:w'.output=w.output)(hd:w.drawn<=w'.drawn):Qj fr ro w ro w':=
 ⟨λ_ q=>q,λb h=>hh b (s.roLt b h),λb h=>hh b (s.frLt b h),hs,(Qdz hh s.roLt σ).shape,ho,ht,hu,hd⟩
theorem Qnz(e:∀b,b<w.heap.size->w'.heap[b]?=w.heap[b]?)(n:w.heap.size<=w'.heap.size)(g:w'.os=w.os)(h:w'.tape=w.tape)(f:w'.output=w.output)(k:w.drawn<=w'.drawn):
  ∃q os',w'=grow (w.drewN q) os':=by
 refine⟨w'.drawn-w.drawn,w'.heap.extract w.heap.size w'.heap.size,?_⟩;obtain⟨a,t,j,r,s⟩:=w';simp only at e n g h f k;subst g h f;unfold grow World.drewN;have p:a=w.heap++a.extract w.heap.size a.size:=by
  apply Array.ext_getElem?;intro i;rw[Array.getElem?_append];split
  .rename_i d;exact e i d
  .rename_i d;rw[Array.getElem?_extract];split
   .rename_i l;congr 1;omega
   .rename_i l;rw[Array.getElem?_eq_none];omega
 have m:j=w.drawn+(j-w.drawn):=by omega
 rw[<- p, <- m]
end
end Go.Sw
namespace Go.Sw
open Go.Sort Go.Proofs Go.Shelf
theorem Qdy{α:Type}{k:Nat}:∀(vs:List (List α)) (j:Nat),(∀v∈vs,v.length=k)->j<vs.length*k->vs.flatten[j]?=(vs[j/k]?).bind λv=>v[j%k]?
 |[],j,_,h=>by simp at h
 |v::vs,j,hk,h=>by
  have hv:=hk v (by simp);have k0:0<k:=by
   rcases Nat.eq_zero_or_pos k with q|q
   .subst q;simp at h
   .exact q
  rw[Vu];by_cases q:j<k
  .rw[XU (by omega),Nat.div_eq_of_lt q,Nat.mod_eq_of_lt q];simp
  .rw[XV (by omega),hv,Qdy vs (j-k) (λv hv=>hk v (by simp[hv])) (by simp[Xn]at h;omega)];have b:j/k=(j-k)/k+1:=by rw[Nat.div_eq_sub_div k0 (by omega)]
   have a:j%k=(j-k)%k:=Nat.mod_eq_sub_mod (by omega);rw[b,a,XN]
theorem Qal{α:Type}{k:Nat}:∀(vs:List (List α)),(∀v∈vs,v.length=k)->vs.flatten.length=vs.length*k
 |[],_=>by simp
 |v::vs,h=>by rw[Vu,Vb,Qal vs (λv hv=>h v (by simp[hv])),h v (by simp),X9,Xn];omega
theorem QaX{α:Type}(F:List α)(j:Nat):F.toArray[j]?=F[j]? :=by simp
theorem Qhq{α:Type}[Inhabited α](F:List α)(j:Nat)(h:j<F.length):F[j]?=some (F.toArray[j]!):=by simp[h]
theorem Qhv{β:Type}[Inhabited β]{enc:β->List Value}{k:Nat}(b:∀x,(enc x).length=k)(d:Array β):flatK enc k d=((d.toList.map enc).flatten).toArray:=by
 have a:∀v∈d.toList.map enc,v.length=k:=by
  intro v j;obtain⟨x,_,rfl⟩:=Xf.1 j;exact b x
 apply Array.ext_getElem?;intro t;rw[QaX ((d.toList.map enc).flatten) t];by_cases h:t<d.size*k
 .rw[Qdy _ t a (by simpa using h)];have i:0<k:=by
   rcases Nat.eq_zero_or_pos k with q|q
   .subst q;simp at h
   .exact q
  have g:t/k<d.size:=Nat.div_lt_of_lt_mul (by rw[Nat.mul_comm];exact h);have l:t%k<k:=Nat.mod_lt _ i;have f:t<(flatK enc k d).size:=by simpa using h
  have e:=get_flatK enc k d t h;rw[getElem!_pos (flatK enc k d) t f]at e;rw[Array.getElem?_eq_getElem f,e];simp[g];rw[XS (by rw[b];exact l)];rfl
 .have e:(d.toList.map enc).flatten.length=d.size*k:=by rw[Qal _ a];simp
  rw[Array.getElem?_eq_none (by simpa using h),XW (by rw[e];omega)]
section
variable {ro:Nat->Prop}{σ:Sig}{w:World}{T:Type}{enc:T->List A}{k:Nat}
theorem QhY:∀{l:List T}{lv:List Value},RL ro σ w k (l.map enc) lv->
  ∃(ps:List (T×List Value)) (rest:List Value),ps.map (·.1)=l/\lv=(ps.map (·.2)).flatten++rest/\ ∀p∈ps,p.2.length=k/\LR ro σ w (enc p.1) p.2/\ ∀v∈p.2,Qz v
 |[],lv,_=>⟨[],lv,rfl,rfl,by simp⟩
 |x::l,lv,h=>by
  obtain⟨l1,l2,rfl,h1,⟨h2,h3⟩,h4⟩:=h;obtain⟨ps,rest,e1,rfl,h5⟩:=QhY (l:=l) h4;refine⟨(x,l1)::ps,rest,by simp[e1],by simp,?_⟩;intro p hp;rcases Vf.1 hp with rfl|hp
  .exact⟨by rw[h2.length];exact h1,h2,h3⟩
  .exact h5 p hp
theorem QdH(hk:∀x:T,(enc x).length=k):∀{ps:List (T×List Value)}{rest:List Value},(∀p∈ps,LR ro σ w (enc p.1) p.2/\ ∀v∈p.2,Qz v)->RL ro σ w k ((ps.map (·.1)).map enc) ((ps.map (·.2)).flatten++rest)
 |[],_,_=>trivial
 |p::ps,rest,h=>by
  refine⟨p.2,(ps.map (·.2)).flatten++rest,by simp,hk _,h p (by simp),QdH hk λq hq=>h q (by simp[hq])⟩
end
structure Elt (ro:Nat->Prop) (w:World) {T:Type} (enc:T->List A) (k:Nat) (l:List T) where
 x:T
 vs:List Value
 mem:x∈l
 len:vs.length=k
 rel:LR ro [] w (enc x) vs
 plain:∀v∈vs,Qz v
theorem Qj1{v:Value}(h:Qz v):v.oneCell'=true:=by cases v<;>first|rfl|exact h.elim
theorem Qod{P:Program}{ρ:Ren}(L:SlLaysF0.n6 P ρ){T:Type}[DecidableEq T]{enc:T->List A}{k t g:Nat}{cap:List A}{l l':List T}{cf:T->T->Option Int}(hs:Qcr cf l=some l')
  (a1:∀x y c,cf x y=some c->C P g ([.agg (enc x),.agg (enc y)]++cap) [] (λa H=>a=.int .i64 c/\H=[]))
  (aE:∀w,(isAgg (ρ.t 24)).run P w=.ok true w)(zE:∀w,(Go.sizeOf (ρ.t 24)).run P w=.ok k w)(eg:∀args w,(callFunc g args).run P w=.ok (.enter g args) w)
  (hk:∀x,(enc x).length=k)(hd:Yu cap=true):
  C P (ρ.f 6) [.osl 0 0 l.length k,.fn (.func g) [] cap] [.row t k (l.map enc)] (λa H=>a=.tup []/\H=[.row t k (l'.map enc)]):=by
 intro fr G σ vals w s hv;obtain⟨vs,r1,rfl,bh,vf,r2,rfl,bf,hr⟩:=hv;cases(show r2=[]from hr);obtain⟨lf,lc,rfl,h1,a3⟩:=bf;cases(show lf=[]from h1);have ao:LR G [] w cap lc:=LR.data hd a3;obtain⟨a7,am,Q,an,bb⟩:=Qeb hs;have E:∀(ad:Option Addr) (c:Nat),vs=.slice ad 0 c->l=[]->
   Calls P (ρ.f 6) [vs,.func (.func g) #[] lc.toArray].toArray w λe w'=>∃v r H' ac τ,e=.returned v/\(r=.tup []/\H'=[.row t k (l'.map enc)])/\Sim fr ac (σ++τ) H' w'/\VR ac (σ++τ) w' r v/\Qj fr G w ac w':=by
  rintro ad c rfl rfl;have ae:l'=[]:=by rw[<- bb];rfl
  subst ae;refine(AnyF.slices_SortFunc_none L ad c (.func (.func g) #[] lc.toArray) w).mono ?_;rintro e w' ⟨rfl,rfl⟩;exact⟨_,_,_,G,[],rfl,⟨rfl,rfl⟩,by simpa using s,⟨[],rfl,rfl⟩,Qj.refl _ _ _⟩
 rcases bh with⟨h0,rfl⟩|⟨b,p,cp,t',m,q1,rfl,q2,q3,q4,q5⟩
 .exact E none 0 rfl (List.length_eq_zero_iff.1 h0)
 .by_cases ae:l=[]
  .subst ae;exact E _ cp rfl rfl
  .have bn:0<l.length:=List.length_pos_iff.2 ae;obtain rfl:=q2 (Vo bn q3);obtain⟨lv,e1,e2⟩:=s.blk 0 _ _ q1 rfl;obtain⟨hb,ak,az⟩:=s.own 0 b _ q1 rfl rfl;obtain⟨V,J,a9,rfl,af⟩:=QhY e2
   let α:=Elt G w enc k l
   have a5:∀p∈V,p.1∈l:=λp hp=>by rw[<- a9];exact List.mem_map_of_mem hp
   let ds:List α:=V.attach.map λp=>⟨p.1.1,p.1.2,a5 _ p.2,(af _ p.2).1,(af _ p.2).2.1,(af _ p.2).2.2⟩
   have a2:∀{γ:Type} (f:T×List Value->γ),V.attach.map (λp=>f p.1)=V.map f:=λf=>by simp
   have O:ds.map (·.x)=l:=by
    show(V.attach.map _).map _=_;rw[List.map_map];exact(a2 (·.1)).trans a9
   have al:ds.map (·.vs)=V.map (·.2):=by
    show(V.attach.map _).map _=_;rw[List.map_map];exact a2 (·.2)
   have ay:ds.length=l.length:=by rw[<- O];simp
   have a0:ds≠[]:=by intro q;rw[q]at ay;simp at ay;omega
   let inh:Inhabited α:=⟨ds.head a0⟩
   let enc':α->List Value:=λa=>a.vs
   let cf':α->α->Int:=λx y=>(cf x.x y.x).getD 0
   have ag:∀x y:α,ltOf cf' x y=ltO cf x.x y.x:=by
    intro x y;obtain⟨c,B⟩:=am x.x x.mem y.x y.mem;simp only[ltOf,ltO,cf',B,Option.getD_some]
   have hO:SWO (ltOf cf'):=⟨λx=>by rw[ag];exact Q.irrefl _ x.mem,λx y z a b=>by rw[ag]at*;exact Q.trans _ x.mem _ y.mem _ z.mem a b,
    λx y z a b=>by rw[ag]at*;exact Q.ntrans _ x.mem _ y.mem _ z.mem a b⟩
   have aa:∀x:α,(enc' x).length=k:=λx=>x.len;have aq:flatK enc' k ds.toArray=((V.map (·.2)).flatten).toArray:=by
    rw[Qhv aa];show((ds.map λa=>a.vs).flatten).toArray=_;rw[al]
   have bm:∀v∈V.map (·.2),v.length=k:=by
    intro v hv;obtain⟨p,hp,rfl⟩:=Xf.1 hv;exact(af p hp).1
   have ab:(V.map (·.2)).flatten.length=ds.length*k:=by rw[Qal _ bm, <- al];simp
   have hH:HoldsK enc' k w b (0*k) ds.toArray:=by
    intro j hj;rw[aq]at hj⊢;simp only[List.size_toArray]at hj;constructor
    .unfold World.cell?;simp only[e1,Option.isSome_none,Xj,if_false,Nat.zero_mul,XC];rw[QaX,XU hj];exact Qhq _ _ hj
    .unfold World.frozen?;simp only[e1];simp
   have av:∀(d:Array α),d.size=ds.toArray.size->(putRowK enc' k w b (0*k) d).heap=w.heap.setIfInBounds b (.cells (((d.toList.map enc').flatten++J)).toArray t (0,0)):=by
    intro d u;have ah:(d.toList.map enc').flatten.length=(V.map (·.2)).flatten.length:=by
     rw[Qal _ (k:=k) (by intro v hv;obtain⟨x,_,rfl⟩:=Xf.1 hv;exact aa x),ab];simp at u⊢;rw[u]
    unfold putRowK putRow mapBlock;show w.heap.modify b _=_;rw[QbV e1];simp only[onCells];congr 2;rw[Qhv aa];unfold putCells;apply Array.ext_getElem?;intro i;simp only[Array.getElem?_mapIdx,QaX,Nat.zero_mul,X3,true_and,XC,XB,List.size_toArray,id_eq];by_cases hi:i<(d.toList.map enc').flatten.length
    .rw[XU hi,XU (by rw[<- ah];exact hi),XS (by rw[<- ah];exact hi),Qhq _ _ hi];exact congrArg some (if_pos hi)
    .rw[XV (by omega),XV (by omega),ah];cases(J[i-(V.map (·.2)).flatten.length]?)with
     |none=>rfl
     |some v=>
      rw[<- ah];exact congrArg some (if_neg hi)
   have M:∀(m:Nat) (os:Array Obj) (d:Array α),d.size=ds.toArray.size->
     (∀c,c<w.heap.size->c≠b->(sortWorldK enc' k w b (0*k) m d os).heap[c]?=w.heap[c]?)/\(sortWorldK enc' k w b (0*k) m d os).heap[b]?=some (.cells (((d.toList.map enc').flatten++J)).toArray t (0,0))/\
     w.heap.size<=(sortWorldK enc' k w b (0*k) m d os).heap.size:=by
    intro m os d u;have e:(sortWorldK enc' k w b (0*k) m d os).heap=w.heap.setIfInBounds b (.cells (((d.toList.map enc').flatten++J)).toArray t (0,0))++os:=by
     rw[<- av d u];rfl
    rw[e];refine⟨λc B bd=>?_,?_,by simp⟩
    .rw[Array.getElem?_append_left (by simpa using B),Vn,if_neg (λq=>bd q.symm)]
    .rw[Array.getElem?_append_left (by simpa using hb),Vn,if_pos rfl,if_pos hb]
   have N:∀(m:Nat) (os:Array Obj) (d:Array α),d.size=ds.toArray.size->∀c y,w.shape? c=some y->(sortWorldK enc' k w b (0*k) m d os).shape? c=some y:=by
    intro m os d u c y hy;obtain⟨g1,g2,g3⟩:=M m os d u;by_cases B:c=b
    .subst B;unfold World.shape? at hy⊢;rw[e1]at hy;rw[g2];simp only[Option.some.injEq]at hy⊢;rw[<- hy];congr 1;simp only[List.size_toArray,Vb];rw[Qal _ (k:=k) (by intro v hv;obtain⟨x,_,rfl⟩:=Xf.1 hv;exact aa x),ab];simp at u⊢;rw[u]
    .unfold World.shape? at hy⊢;rw[g1 c (Qct hy) B];exact hy
   have aj:∀(m:Nat) (os:Array Obj) (d:Array α),d.size=ds.toArray.size->∀τ,Ext G τ w G τ (sortWorldK enc' k w b (0*k) m d os):=by
    intro m os d u τ;obtain⟨g1,g2,g3⟩:=M m os d u;exact⟨λ_ q=>q,λc B=>g1 c (s.roLt c B) (λq=>ak (q▸B)),N m os d u,λ_ _ q=>q⟩
   have be:CmpLays P g lc.toArray enc' k cf' b (0*k) ds.toArray.size w:=by
    intro m os dk a4 x y;obtain⟨c,B⟩:=am x.x x.mem y.x y.mem;have F:=aj m os dk a4 [];have bg:=a1 _ _ _ B;generalize hW:sortWorldK enc' k w b (0*k) m dk os=W at*;have bp:w.heap.size<=W.heap.size:=by rw[<- hW];exact(M m os dk a4).2.2
    have sW:Sim (λc=>c<W.heap.size/\ ¬G c) G [] [] W:=
     ⟨rfl,s.roOk.to (λ_ q=>q) F.keep (λc B=>Vo (s.roLt c B) bp),λc B=>B.1,λc B hf=>hf.2 B,λi b x h=>by simp at h,λi j b x y h=>by simp at h,λi y x h=>by simp at h,λi b x c h=>by simp at h⟩
    have au:LR G [] W ([.agg (enc x.x),.agg (enc y.x)]++cap) ([.agg x.vs.toArray,.agg y.vs.toArray]++lc):=
     LR.append (show LR G [] W [A.agg (enc x.x),A.agg (enc y.x)] [Value.agg x.vs.toArray,Value.agg y.vs.toArray]from⟨_,_,rfl,⟨x.vs,rfl,x.rel.mono F⟩,_,_,rfl,⟨y.vs,rfl,y.rel.mono F⟩,rfl⟩) (ao.mono F)
    have R:=bg _ G [] _ W sW au;have bj:(([Value.agg x.vs.toArray,Value.agg y.vs.toArray]++lc).toArray:Array Value)= #[Value.agg (enc' x).toArray,Value.agg (enc' y).toArray]++lc.toArray:=by simp[enc']
    rw[bj]at R;refine R.mono ?_;rintro e w' ⟨v,r,H',ac,τ,rfl,⟨rfl,rfl⟩,s',bk,ev⟩;refine⟨?_,?_⟩
    .rw[show v=.int .i64 c from bk];simp only[cf',B,Option.getD_some]
    .refine Qnz (λc B=>?_) ev.size ev.os ev.tape ev.output ev.drawn;by_cases a8:G c
     .exact ev.keepRo c a8
     .exact ev.keepFr c ⟨B,a8⟩
   have X:ds.toArray.size=l.length:=by simpa using ay
   have ai:=AnyQ.slices_SortFunc L k aE zE enc' aa (λx v hv=>Qj1 (x.plain v hv)) cf' hO g lc.toArray b (0*k) cp ds.toArray w eg be hH hb (by rw[X];unfold Q1 at a7;omega);rw[X]at ai;refine ai.mono ?_;rintro e w' ⟨rfl,d,n,os,Y,ax,rfl⟩;have u:d.size=ds.toArray.size:=Y.1;obtain⟨g1,g2,g3⟩:=M n os d u;have aw:d.toList.Perm ds:=by
    have h:=Y.2.2;have x1:d.extract 0 l.length=d:=by rw[<- X, <- u];exact Array.extract_size
    have x2:ds.toArray.extract 0 l.length=ds.toArray:=by rw[<- X];exact Array.extract_size
    rw[x1,x2]at h;simpa using h
   have ba:d.toList.map (·.x)=l':=by
    rw[<- bb];refine QaB (lt:=ltO cf) ?_ ?_ ?_ (YL Q)
    .exact((aw.map (·.x)).trans (by rw[O])).trans (QS _ _).symm
    .intro x hx y hy;have bo:x∈l:=by rw[<- O];exact(aw.map (·.x)).mem_iff.1 hx
     have bl:y∈l:=by rw[<- O];exact(aw.map (·.x)).mem_iff.1 hy
     exact an x bo y bl
    .rw[List.pairwise_iff_getElem];intro i j hi hj bq;simp only[Va]at hi hj;simp only[List.getElem_map];rw[<- ag];have:=ax i j (X3 _) bq (by rw[<- X, <- u];simpa using hj);rw[getElem!_pos d j (by simpa using hj),getElem!_pos d i (by simpa using hi)]at this;simpa using this
   have bi:RL G [] (sortWorldK enc' k w b (0*k) n d os) k (l'.map enc) ((d.toList.map enc').flatten++J):=by
    have e3:d.toList.map enc'=(d.toList.map λa=>(a.x,a.vs)).map (·.2):=by simp[enc']
    have e4:l'=(d.toList.map λa=>(a.x,a.vs)).map (·.1):=by rw[<- ba];simp
    rw[e3,e4];refine QdH hk ?_;intro p hp;obtain⟨a,_,rfl⟩:=Xf.1 hp;exact⟨a.rel.mono (aj n os d u []),a.plain⟩
   have a6:Qj fr G w G (sortWorldK enc' k w b (0*k) n d os):=
    ⟨λ_ q=>q,λc B=>g1 c (s.roLt c B) (λq=>ak (q▸B)),λc B=>g1 c (s.frLt c B) (λq=>az (q▸B)),g3,N n os d u,rfl,rfl,rfl,Nat.le_add_right _ _⟩
   have ar:σ.length=1:=s.len;have bc:Sim fr G σ [.row t k (l'.map enc)] (sortWorldK enc' k w b (0*k) n d os):=by
    have i0:∀{i:Nat}{x:Blk},([.row t k (l'.map enc)]:Qc)[i]?=some x->i=0/\x=.row t k (l'.map enc):=by
     intro i x h;cases i with
     |zero=>simp at h;exact⟨rfl,h.symm⟩
     |succ i=>simp at h
    refine⟨ar,s.roOk.to (λ_ q=>q) a6.keepRo (λc B=>Vo (s.roLt c B) g3),λc B=>Vo (s.frLt c B) g3,s.roFr,λi c x h1 h2 h3=>?_,λi j c x y h1 h2 h3 h4 _ _=>?_,λi y x h1 h2=>?_,λi b x c h1 h2 h3=>by obtain⟨rfl,rfl⟩:=i0 h2;exact h3.elim⟩
    .obtain⟨rfl,rfl⟩:=i0 h2;obtain⟨p1,p2⟩:=s.own 0 c _ h1 rfl rfl;exact⟨Vo p1 g3,p2⟩
    .rw[(i0 h3).1,(i0 h4).1]
    .obtain⟨rfl,rfl⟩:=i0 h2;rw[q1]at h1;cases h1;exact⟨_,g2,bi⟩
   exact⟨_,_,_,G,[],rfl,⟨rfl,rfl⟩,by simpa using bc,⟨[],rfl,rfl⟩,a6⟩
end Go.Sw
namespace Go.Sw
section
variable {P:Program}{o:Oper}{env:Env}{H:Qc}{fr ro:Nat->Prop}{σ:Sig}{w:World}
theorem Sim.addRo(s:Sim fr ro σ H w){b:Nat}(k:b<w.heap.size)(n:¬fr b)(B:∀(i:Nat) (x:Blk),σ[i]?=some (some b)->H[i]?=some x->x.live=true->False)
  (h:∀(i d:Nat) (x:Blk),σ[i]?=some (some d)->H[i]?=some x->Hid w x d b->False):Sim fr (λc=>ro c\/c=b) σ H w:=by
 refine⟨s.len,s.roOk.to (λ_ q=>.inl q) (λ_ _=>rfl) ?_,s.frLt,?_,?_,s.inj,?_,s.hidTo (· = ·) Yc (X2 _) (λj d x c u g l t=>t.elim id λq=>(h j d x u g (q▸l)).elim) (λ_ _ _ _ _ _ _ q=>q) λj d y m p F=>.inl ⟨j,y,rfl,m,p,id,λ_ q=>q⟩⟩
 .rintro c (q|rfl)
  .exact s.roLt c q
  .exact k
 .rintro c (q|rfl)
  .exact s.roFr c q
  .exact n
 .intro i c x a e f;obtain⟨z,E,r⟩:=s.own i c x a e f;refine⟨z,?_,r⟩;rintro(q|rfl)
  .exact E q
  .exact B i x a e f
 .intro i y x a e;exact(s.blk i y x a e).keep ⟨λ_ q=>.inl q,λ_ _=>rfl,λ_ _ q=>q,λ_ _ q=>q⟩ (λ_ _ _=>rfl) (λ_ _ _ _=>rfl)
theorem QaH{T e k n:Nat}{xs:List Operand}{es:List (List A)}(E:Q6 P T e k)(X:o.op=.buildSlice T n (QaM 0 xs).toArray)(J:xs.length=n)(u:Nat.ble (n*k) 16777216=true)
  (W:(xs.all λx=>Yv (opA env x))=true)(G:Yn env xs=es)(L:allK k es)(hp:es.flatten.all YG=true)(Y:Yu es.flatten=true):
  OpH P o env H (.rsl k es) H:=by
 intro R t σ N a w r;subst G;obtain⟨l,O,M⟩:=QbE r E J u W L;have y:LR t [] w (Yn env xs).flatten l:=M.data Y;have f:∀b,b<w.heap.size->(w.alloc (.cells l.toArray e)).heap[b]?=w.heap[b]? :=λb hb=>YB _ _ b hb;have p:w.heap.size<=(w.alloc (.cells l.toArray e)).heap.size:=by rw[YA];omega
 have V:=r.sim.grown f p;have s:Qj R t w t (w.alloc (.cells l.toArray e)):=Qj.alloc _ r.sim.roLt r.sim.frLt;have Q:=V.addRo (b:=w.heap.size) (by rw[YA];omega) (λq=>Nat.lt_irrefl _ (r.sim.frLt _ q)) (λi x j m F=>Nat.lt_irrefl _ (r.sim.own i _ x j m F).1)
  (λi d x j m F=>Nat.lt_irrefl _ (r.sim.hid i d x _ j m (r.sim.hidKeep j m (λz=>f d (r.sim.own i d x j m z).1) (λb q=>f b (r.sim.roLt b q)) F)).lt)
 have B:RL t [] (w.alloc (.cells l.toArray e)) k (Yn env xs) l:=by
  have:=QaG (rest:=[]) L (y.mono (s.ext0 [])) (M.plain hp)
  rwa [Vp]at this
 have g:(Yn env xs).length=n:=by simp[Yn,J]
 refine⟨_,_,λc=>t c\/c=w.heap.size,[],Qbx X a.eval O,?_,by simpa using Q,s.trans (YN λ_ q=>.inl q)⟩;refine⟨some ⟨w.heap.size,0,none⟩,n,by rw[g],by rw[g];exact X2 _,.inr ⟨w.heap.size,0,rfl,.inr rfl,?_⟩⟩;have h:(w.alloc (.cells l.toArray e)).heap[w.heap.size]?=some (.cells (([]:List Value)++l).toArray e (0,0)):=YU _ _;have:=Jw (pre:=[]) h B;exact this.keep ⟨λ_ q=>.inl q,λ_ _=>rfl,λ_ _ q=>q,λ_ _ q=>q⟩ rfl
end
inductive QiW:List A->List A->Prop
 |nil:QiW [] []
 |eq {a:A}{l m:List A} (h:QiW l m):QiW (a::l) (a::m)
 |nl {k:Nat}{l m:List A} (h:QiW l m):QiW (.nils::l) (.rsl k []::m)
theorem LR.nils{ro:Nat->Prop}{σ:Sig}{w:World}{g f:List A}(h:QiW g f):∀{l:List Value},LR ro σ w g l->LR ro σ w f l:=by
 induction h with
 |nil=>intro l h;exact h
 |eq _ ih=>rintro l ⟨v,b,e,a,d⟩;exact⟨v,b,e,a,ih d⟩
 |nl _ ih=>rintro l ⟨v,b,e,a,d⟩;exact⟨v,b,e,⟨none,0,a,X2 _,.inl rfl⟩,ih d⟩
theorem C.nils{P:Program}{f:FuncId}{l1 bs:List A}{H:Qc}{Q:A->Qc->Prop}(hl:QiW l1 bs)(h:C P f bs H Q):C P f l1 H Q:=
 λfr ro σ vals w s l=>h fr ro σ vals w s (LR.nils hl l)
end Go.Sw
namespace Go.Sw
def QF(k:IntKind)(n:Int):Prop:=k.min<=n/\n<=k.max
def Qe4(w:World):Nat->Prop:=λb=>b<w.heap.size
structure Meas {H:Type} (μ:DataW H->Nat):Prop where
 str:∀bytes,bytes.length<=μ (.lit (.string bytes))
 sl:∀e s,e.length<=μ (.slice e s)
 sle:∀e s,∀d∈e,μ d<=μ (.slice e s)
 ag:∀ps,∀d∈ps,μ d<=μ (.agg ps)
def RB(P:Program)(n:Nat)(t:TypeId)(T:Type)(e:T->List A)(wf:T->Prop):Prop:=
 ∀(H:Type) (enc:TypeId×Value->H) (w:World) (base:Nat) (spare:Nat->Bool) (held:Bool) (m:Nat) (cs:List Value) d,m<n->DataW.trod enc P w base spare held m t cs=some d->
  ∀μ:DataW H->Nat,Meas μ->μ d.1<=1048576->∃x:T,wf x/\LR (Qe4 w) [] w (e x) cs/\ ∀v∈cs,Qz v
section
variable {P:Program}{n:Nat}{t:TypeId}{T:Type}{e:T->List A}{wf:T->Prop}
theorem RB.down(h:RB P (n+1) t T e wf):RB P n t T e wf:=λH enc w base spare held m cs d hm=>h H enc w base spare held m cs d (Nat.lt_succ_of_lt hm)
theorem Qd1(h:∀n,RB P n t T e wf->RB P (n+1) t T e wf):∀n,RB P n t T e wf
 |0=>λH enc w base spare held m cs d hm=>absurd hm (Xo _)
 |n+1=>h n (Qd1 h n)
theorem Yh{T':Type}{b:T'->List A}{a:T'->Prop}(h:RB P n t T e wf)(g:T->T')(he:∀x,b (g x)=e x)(k:∀x,wf x->a (g x)):RB P n t T' b a:=by
 intro H enc w base spare held m cs d hm hd μ hμ hwt;obtain⟨x,f,j,i⟩:=h H enc w base spare held m cs d hm hd μ hμ hwt;exact⟨g x,k x f,by rw[he];exact j,i⟩
theorem RB.int{k:IntKind}(a:P.underlying t=some (.int k)):RB P n t Int (Qd k) (QF k):=by
 intro H enc w base spare held m cs d hm hd μ hμ hwt;cases m with
 |zero=>simp[DataW.trod]at hd
 |succ m=>
  rcases cs with _|⟨v,_|⟨f,r⟩⟩
  .simp[DataW.trod,a]at hd
  .cases v<;>simp[DataW.trod,a]at hd;rename_i g b;obtain⟨⟨rfl,e⟩,_⟩:=hd;refine⟨b,?_,⟨_,_,rfl,rfl,rfl⟩,by simp[Qz]⟩;simpa[Lit.wf,QF]using e
  .simp[DataW.trod,a]at hd
theorem RB.bool(a:P.underlying t=some .bool):RB P n t Bool encB (λ_=>True):=by
 intro H enc w base spare held m cs d hm hd μ hμ hwt;cases m with
 |zero=>simp[DataW.trod]at hd
 |succ m=>
  rcases cs with _|⟨v,_|⟨e,r⟩⟩
  .simp[DataW.trod,a]at hd
  .cases v<;>simp[DataW.trod,a]at hd;rename_i b;exact⟨b,trivial,⟨_,_,rfl,rfl,rfl⟩,by simp[Qz]⟩
  .simp[DataW.trod,a]at hd
theorem RB.string(a:P.underlying t=some .string):RB P n t (List UInt8) Jr (λs=>s.length<=1048576):=by
 intro H enc w base spare held m cs d hm hd μ hμ hwt;cases m with
 |zero=>simp[DataW.trod]at hd
 |succ m=>
  rcases cs with _|⟨v,_|⟨b,r⟩⟩
  .simp[DataW.trod,a]at hd
  .cases v<;>simp[DataW.trod,a]at hd;rename_i s;obtain⟨_,rfl⟩:=hd;exact⟨s.data.toList,X4 (hμ.str _) hwt,⟨_,_,rfl,rfl,rfl⟩,by simp[Qz]⟩
  .simp[DataW.trod,a]at hd
theorem Qcf{α:Type}{f:Nat->Option α}:∀{n:Nat}{l:List α},(List.range n).mapM f=some l->l.length=n/\ ∀i,i<n->∃y,f i=some y/\l[i]?=some y
 |0,l,h=>by simp at h;subst h;exact⟨rfl,λi hi=>absurd hi (Xo _)⟩
 |n+1,l,h=>by
  rw[XA,List.mapM_append]at h;cases h1:(List.range n).mapM f with
  |none=>simp[h1]at h
  |some l1=>
   cases h2:f n with
   |none=>simp[h1,h2]at h
   |some y=>
    simp[h1,h2]at h;subst h;obtain⟨e1,e2⟩:=Qcf h1;refine⟨by simp[e1],λi hi=>?_⟩;rcases Xq.1 hi with q|rfl
    .obtain⟨z,z1,z2⟩:=e2 i q;exact⟨z,z1,by rw[XU (by omega)];exact z2⟩
    .exact⟨y,h2,by rw[XV (by omega)];simp[e1]⟩
theorem QdI{w:World}{ro:Nat->Prop}{b:Nat}:∀{cs:List A}{l:List Value}{off:Nat},LR ro [] w cs l->(∀v∈l,Qz v)->(∀i,i<l.length->w.cell? ⟨b,off+i,none⟩=l[i]?)->CR ro [] w b cs off
 |[],_,_,_,_,_=>trivial
 |a::cs,l,off,h,hp,hc=>by
  obtain⟨v,l',rfl,h1,h2⟩:=h;refine⟨⟨v,by simpa using hc 0 (by simp),hp v (by simp),h1⟩,QdI h2 (λv hv=>hp v (by simp[hv])) λi hi=>?_⟩;have:=hc (i+1) (by simpa using hi);rw[show off+1+i=off+(i+1)by omega,this];simp
theorem RB.slice{E:TypeId}{k:Nat}{s:TypeId}(M:P.underlying s=some (.slice E))(hk:P.cellsOf E=k)(h0:Nat.blt 0 k=true)(hl:∀x,(e x).length=k)(h:RB P n E T e wf):
  RB P (n+1) s (List T) (YF k e) (λl=>l.length<=1048576/\ ∀x∈l,wf x):=by
 intro H enc w base spare held m cs d hm hd μ hμ hwt;have k0:0<k:=by simpa using h0
 cases m with
 |zero=>simp[DataW.trod]at hd
 |succ m=>
  rcases cs with _|⟨v,_|⟨v2,r⟩⟩
  .simp[DataW.trod,M]at hd
  .cases v<;>try (simp[DataW.trod,M]at hd;done)
   rename_i a len p;cases a with
   |none=>
    rcases len with _|len
    .rcases p with _|p
     .refine⟨[],⟨by simp,by simp⟩,⟨_,_,rfl,⟨none,0,rfl,X2 _,.inl rfl⟩,rfl⟩,by simp[Qz]⟩
     .simp[DataW.trod,M]at hd
    .simp[DataW.trod,M]at hd
   |some a=>
    simp only[DataW.trod,M]at hd;split at hd
    .rename_i hc;obtain⟨c1,c2,c3⟩:=hc;cases J:(List.range len).mapM (λi=>(w.cells? base (a.add (i*P.cellsOf E)) (P.cellsOf E)).bind (DataW.trod enc P w base spare held m E))with
     |none=>rw[J]at hd;cases hd
     |some f=>
      rw[J]at hd;simp only[XR,Option.map_eq_some_iff]at hd;obtain⟨B,_,rfl⟩:=hd;have F:f.length<=1048576:=by
       have h1:=hμ.sl (f.map (·.1)) (B.map (·.1));rw[Va]at h1;exact X4 h1 hwt
      have Y:∀y∈f,μ y.1<=1048576:=λy Q=>X4 (hμ.sle _ (B.map (·.1)) _ (List.mem_map_of_mem Q)) hwt;obtain⟨e1,e2⟩:=Qcf J;have V:∀i,i<len->∃(x:T) (l:List Value),wf x/\LR (Qe4 w) [] w (e x) l/\(∀v∈l,Qz v)/\l.length=k/\ ∀j,j<k->w.cell? ((a.add (i*k)).add j)=l[j]? :=by
       intro i hi;obtain⟨y,y1,y2⟩:=e2 i hi;rw[hk]at y1;cases g:w.cells? base (a.add (i*k)) k with
       |none=>rw[g]at y1;cases y1
       |some l=>
        rw[g]at y1;obtain⟨x,x1,x2,x3⟩:=h H enc w base spare held m l y (by omega) y1 μ hμ (Y y (List.mem_of_getElem? y2));refine⟨x,l,x1,x2,x3,by rw[x2.length];exact hl x,λj hj=>?_⟩;unfold World.cells? at g;split at g
        .obtain⟨_,z2⟩:=Qcf g;obtain⟨v,v1,v2⟩:=z2 j hj;rw[v2, <- v1]
        .cases g
      by_cases O:len=0
      .subst O;exact⟨[],⟨by simp,by simp⟩,⟨_,_,rfl,⟨some a,p,rfl,X3 _,.inl rfl⟩,rfl⟩,by simp[Qz]⟩
      .have first:a.spot=none/\a.block<w.heap.size:=by
        obtain⟨x',l,p1,p2,p3,p4,X⟩:=V 0 (by omega);have u:=X 0 k0;have aa:l[0]?=some l[0]:=XS (by omega);have ea:(a.add (0*k)).add 0=a:=by simp[Addr.add]
        rw[aa,ea]at u;unfold World.cell? at u;split at u
        .rename_i hh;constructor
         .cases q:a.spot with
          |none=>rfl
          |some z=>simp[q]at u
         .exact(Vl.1 hh).1
        .cases u
       obtain⟨t,hb⟩:=first
       have W:∀n,a.add n=⟨a.block,a.off+n,none⟩:=by
        intro n;cases a;simp only at t;subst t;unfold Addr.add;split
        .rename_i q;subst q;rfl
        .rfl
       have G:∀(b o n:Nat),(⟨b,o,none⟩:Addr).add n=⟨b,o+n,none⟩:=by
        intro b o n;unfold Addr.add;split
        .rename_i q;subst q;rfl
        .rfl
       have pick:∀q i,len-i=q->i<=len->∃L:List T,L.length=len-i/\(∀x∈L,wf x)/\RR (Qe4 w) [] w a.block k (L.map e) (a.off+i*k):=by
        intro q
        induction q with
        |zero=>intro i hq hi;exact⟨[],by simp[hq],by simp,trivial⟩
        |succ q ih=>
         intro i hq hi;obtain⟨L,N,w2,R⟩:=ih (i+1) (by omega) (by omega);obtain⟨x,l,p1,p2,p3,p4,X⟩:=V i (by omega);refine⟨x::L,by simp[N];omega,by intro y Q;rcases Vf.1 Q with rfl|Q;exact p1;exact w2 y Q,hl x,?_,?_⟩
         .refine QdI p2 p3 λj hj=>?_;have u:=X j (by omega);rw[W,G]at u;exact u
         .rw[Xn, <- Nat.add_assoc]at R;exact R
       obtain⟨L,N,w2,R⟩:=pick len 0 (by omega) (X3 _);rw[Nat.zero_mul,XD]at R;rw[XB]at N;refine⟨L,⟨by rw[N, <- e1];exact F,w2⟩,⟨_,_,rfl,⟨some a,p,by simp[N],by simp[N];exact c2,.inr ⟨a.block,a.off,?_,hb,R⟩⟩,rfl⟩,by simp[Qz]⟩;cases a;simp only at t;subst t;rfl
    .cases hd
  .simp[DataW.trod,M]at hd
def RF(P:Program)(n:Nat)(fs:List Field)(off L:Nat)(T:Type)(e:T->List A)(wf:T->Prop):Prop:=
 ∀(H:Type) (enc:TypeId×Value->H) (w:World) (base:Nat) (spare:Nat->Bool) (held:Bool) (m:Nat) (cs:List Value) ds,m<n->cs.length=L->
  fs.mapM (λf=>DataW.trod enc P w base spare held m f.type ((cs.drop f.offset).take (P.cellsOf f.type)))=some ds->
  ∀μ:DataW H->Nat,Meas μ->(∀y∈ds,μ y.1<=1048576)->∃x:T,wf x/\LR (Qe4 w) [] w (e x) (cs.drop off)/\ ∀v∈cs.drop off,Qz v
theorem RF.nil{L:Nat}:RF P n [] L L Unit (λ_=>[]) (λ_=>True):=by
 intro H enc w base spare held m cs ds hm hl hd μ hμ hwt;have:cs.drop L=[]:=List.drop_eq_nil_of_le (by omega);rw[this];exact⟨(),trivial,rfl,by simp⟩
theorem RF.cons{f:Field}{fs:List Field}{off L k:Nat}{T2:Type}{e2:T2->List A}{g:T2->Prop}(u:f.offset=off)(s:P.cellsOf f.type=k)(h:RB P n f.type T e wf)(r:RF P n fs (off+k) L T2 e2 g):
  RF P n (f::fs) off L (T×T2) (λp=>e p.1++e2 p.2) (λp=>wf p.1/\g p.2):=by
 intro H enc w base spare held m cs ds hm hl hd μ hμ hwt;rw[List.mapM_cons]at hd;cases a:DataW.trod enc P w base spare held m f.type ((cs.drop f.offset).take (P.cellsOf f.type))with
 |none=>simp[a]at hd
 |some d=>
  cases l:fs.mapM (λf=>DataW.trod enc P w base spare held m f.type ((cs.drop f.offset).take (P.cellsOf f.type)))with
  |none=>simp[a,l]at hd
  |some i=>
   have j:ds=d::i:=by
    rw[a,l]at hd;exact(X8 hd).symm
   subst j;rw[u,s]at a;obtain⟨x,z,F,B⟩:=h H enc w base spare held m _ d hm a μ hμ (hwt d (by simp));obtain⟨y,y1,y2,G⟩:=r H enc w base spare held m cs i hm hl l μ hμ (λy E=>hwt y (by simp[E]));have b:cs.drop off=(cs.drop off).take k++cs.drop (off+k):=by rw[<- List.drop_drop,XG]
   refine⟨(x,y),⟨z,y1⟩,by rw[b];exact F.append y2,?_⟩;rw[b];intro v t;rcases List.mem_append.1 t with q|q
   .exact B v q
   .exact G v q
theorem RB.struct{fs:Array Field}{L:Nat}(k:P.underlying t=some (.struct fs))(b:P.cellsOf t=L)(h:RF P n fs.toList 0 L T e wf):RB P (n+1) t T e wf:=by
 intro H enc w base spare held m cs d hm hd μ hμ hwt;cases m with
 |zero=>simp[DataW.trod]at hd
 |succ m=>
  unfold DataW.trod at hd;simp only[k]at hd;split at hd
  .rename_i g;cases a:fs.toList.mapM (λf=>DataW.trod enc P w base spare held m f.type ((cs.drop f.offset).take (P.cellsOf f.type)))with
   |none=>rw[a]at hd;cases hd
   |some j=>
    rw[a]at hd;simp only[Xk,Option.some.injEq]at hd;subst hd;have:=h H enc w base spare held m cs j (by omega) (by rw[g,b]) a μ hμ (λy i=>X4 (hμ.ag _ _ (List.mem_map_of_mem i)) hwt);simpa using this
  .cases hd
end
theorem C.law{P:Program}{f:FuncId}{args:List A}{W:World}{vals:List Value}(h:C P f args [] (λa H=>a=.bool true/\H=[]))(n:LR (Qe4 W) [] W args vals)(d:GP W):
  Calls P f vals.toArray W λe W'=>e=.returned (.bool true)/\Go.RowKit.Below W.heap.size W W':=by
 have s:Sim (λ_=>False) (Qe4 W) [] [] W:=
  ⟨rfl,⟨λ_ h=>h,λb m=>d.size b m,d⟩,λ_ h=>h.elim,λ_ _ h=>h,λi b x h=>by simp at h,λi j b x y h=>by simp at h,λi y x h=>by simp at h,λi b x c h=>by simp at h⟩
 refine(h _ _ _ _ W s n).mono ?_;rintro e W' ⟨v,r,H',l,τ,rfl,⟨rfl,rfl⟩,_,g,ev⟩;exact⟨by rw[show v=.bool true from g],⟨ev.os,ev.tape,ev.output,ev.size,λk p=>ev.keepRo k p⟩⟩
theorem Qeo{P:Program}{W:World}{a:Nat}{t:TypeId}{v:Value}{fs:Array Field}(b:P.underlying t=some (.struct fs))(h:Value.okWide P W .any a t v):∃cs,v=.agg cs:=by
 unfold Value.okWide at h;rw[b]at h;obtain⟨cs,rfl,_⟩:=h;exact⟨cs,rfl⟩
theorem Qcb{P:Program}{W:World}{t:TypeId}{cs:Array Value}{T:Type}{e:T->List A}{wf:T->Prop}{H:Type}{enc:TypeId×Value->H}{b:Nat}{a:Nat->Bool}{held:Bool}{d:DataW H}{ps:List MemPlace}
  (h:∀n,RB P n t T e wf)(i:DataW.Trod enc P W b a held t (.agg cs) d ps){μ:DataW H->Nat}(hμ:Meas μ)(f:μ d<=1048576):∃x:T,wf x/\VR (Qe4 W) [] W (.agg (e x)) (.agg cs):=by
 obtain⟨m,j⟩:=i;obtain⟨x,g,k,_⟩:=h (m+1) H enc W b a held m _ _ (Xp _) j μ hμ f;exact⟨x,g,cs.toList,by simp,k⟩
theorem Qig{P:Program}{W:World}(h:W.ShapedOpen P){g t u:Nat}{z:Value}(hg:Nat.blt g P.globals.size=true)(j:(((begin P (λ_ _=>0) default).world.heap[g]?).bind Obj.row?)=some (#[z],t))
  (l:P.buildable t=true)(p:P.cellTypes P.depth t=some [u])(r:P.underlying u=some (.int .i64)):∃m:Int,W.cell? ⟨g,0,none⟩=some (.int .i64 m):=by
 obtain⟨d,x,s,q⟩:=h.1 g _ _ (by simpa using hg) j;obtain⟨y,e,_,w⟩:=q l;rw[p]at e;cases e;have E:d.size=1:=s;have b:d[0]?=some d[0]:=Array.getElem?_eq_getElem (by omega);obtain⟨B,f,a⟩:=w 0 _ b;simp at f;subst f;unfold Cell.ok at a;rw[r]at a;cases i:d[0]<;>rw[i]at a<;>simp at a;rename_i k n;obtain⟨rfl,_⟩:=a;refine⟨n,?_⟩;simp only[World.cell?,x];rw[b,i];rfl
end Go.Sw
namespace Go.Sw
theorem Qip{S B:Type}{step:S->Option (Ctl S B)}(d:Nat->S)(b:B)(k:Nat)(l:∀i,i<k->step (d i)=some (.cont (d (i+1))))(j:step (d k)=some (.done b)):∀n,k<n->iter step n (d 0)=some b:=by
 have e:∀m i n,k-i=m->i<=k->m<n->iter step n (d i)=some b:=by
  intro m
  induction m with
  |zero=>
   intro i n f q p;have:i=k:=by omega
   subst this;obtain⟨a,rfl⟩:∃a,n=a+1:=⟨n-1,by omega⟩;simp[iter,j]
  |succ m g=>
   intro i n f q p;obtain⟨a,rfl⟩:∃a,n=a+1:=⟨n-1,by omega⟩;simp only[iter,l i (by omega)];exact g (i+1) a (by omega) (by omega) (by omega)
 intro n h;exact e k 0 n (by omega) (X3 _) h
theorem QlY{S B:Type}{step:S->Option (Ctl S B)}(s0:S)(a:Nat->S)(b:B)(k:Nat)(h0:a 0=s0)(e:∀i,i<k->step (a i)=some (.cont (a (i+1))))(f:step (a k)=some (.done b))(n:Nat)(d:k<n):iter step n s0=some b:=by
 rw[<- h0];exact Qip a b k e f n d
theorem Qq{α:Type}{l:List α}{i:Nat}{x:α}(h:l[i]?=some x):idx l (i:Int)=some x:=by
 unfold idx;have:decide ((0:Int)<=i)=true:=by simp
 rw[this];simpa using h
theorem QnZ{α:Type}(l:List α)(x:α)(h:l.length<4294967296):app l [x]=some (l++[x]):=by
 unfold app;have:Nat.ble (l.length+[x].length) Q1=true:=by
  apply X0;unfold Q1;simp;omega
 rw[this];rfl
theorem QcL{α:Type}(l m:List α)(h:l.length+m.length<=4294967296):app l m=some (l++m):=by
 unfold app;have:Nat.ble (l.length+m.length) Q1=true:=X0 h;rw[this];rfl
theorem Qu{n:Int}(h0: -9223372036854775808<=n)(a:n<=9223372036854775807):IntKind.i64.wrap n=n:=by
 unfold IntKind.wrap;simp[IntKind.bits,IntKind.signed];omega
theorem YQ{i:Nat}(h:i<9223372036854775807):IntKind.i64.wrap ((i:Int)+1)=((i+1:Nat):Int):=by
 rw[Qu (by omega) (by omega)];omega
theorem QN{p:Prop}[Decidable p](h:p):decide p=true:=decide_eq_true h
theorem QD{p:Prop}[Decidable p](h:¬p):decide p=false:=decide_eq_false h
end Go.Sw
namespace Go.Sw
open Go.Proofs Go.Shelf
def cat(a b:List UInt8):Option (List UInt8):=bif Nat.ble (a.length+b.length) 4294967296 then some (a++b)else none
theorem Qpa{a b r:List UInt8}(h:cat a b=some r):a.length+b.length<=4294967296/\a++b=r:=by
 unfold cat at h;cases q:Nat.ble (a.length+b.length) 4294967296 with
 |true=>rw[q]at h;exact⟨XZ q,X8 h⟩
 |false=>rw[q]at h;cases h
def QeD(s t:List UInt8):Option Bool:=bif Nat.blt s.length 4294967281 then some (Lib.contains s t)else none
section
variable {P:Program}{o:Oper}{env:Env}{H:Qc}
theorem Qfa{t u:TypeId}{x y:Operand}{p q r:List UInt8}(h:cat p q=some r)(i:o.op=.binOp .add t x y u:=by exact rfl)(hx:opA env x=.str p:=by exact rfl)(hy:opA env y=.str q:=by exact rfl):OpV P o env H (.str r):=by
 intro n s σ N a w rr;obtain⟨m,k⟩:=Qpa h;have g:=Qk rr x;rw[hx]at g;have f:=Qk rr y;rw[hy]at f;have d:a.eval x=.string ⟨p.toArray⟩:=g;have e:a.eval y=.string ⟨q.toArray⟩:=f;have j:(⟨p.toArray⟩:ByteArray)++⟨q.toArray⟩=⟨r.toArray⟩:=by
  rw[<- k];apply ByteArray.ext;simp
 refine⟨.string ⟨r.toArray⟩,?_,rfl⟩;have b:¬((((⟨p.toArray⟩:ByteArray).size+(⟨q.toArray⟩:ByteArray).size:Nat):Int)>IntKind.i64.max):=by
  have:IntKind.i64.max=9223372036854775807:=by decide
  rw[this];simp only[ByteArray.size,List.size_toArray];omega
 generalize a.eval=ρ at*;have l:(eqGuard BinOp.add t x y (.string ⟨p.toArray⟩) (.string ⟨q.toArray⟩)).run P w=.ok () w:=by simp[eqGuard]
 simp only[execOp,i,d,e,binOp_string_add,Op.stringOp,if_neg b,j,Vv,Vw,Result.andThen,l]
def Qch{α:Type}(n:Nat)(l:List α)(i:Int):Option α:=bif Nat.beq l.length n then idx l i else none
theorem Qag{α:Type}{n:Nat}{l:List α}{i:Int}{x:α}(h:Qch n l i=some x):l.length=n/\idx l i=some x:=by
 unfold Qch at h;cases q:Nat.beq l.length n with
 |true=>rw[q]at h;exact⟨XY q,h⟩
 |false=>rw[q]at h;cases h
def arr{α:Type}(n:Nat)(l:List α):Option (List α):=bif Nat.beq l.length n then some l else none
theorem QbO{α:Type}{n:Nat}{l l':List α}(h:arr n l=some l'):l.length=n/\l=l':=by
 unfold arr at h;cases q:Nat.beq l.length n with
 |true=>rw[q]at h;exact⟨XY q,X8 h⟩
 |false=>rw[q]at h;cases h
theorem QgK{α:Type}{n:Nat}{l l':List α}(h:arr n l=some l'):l'.length=n:=(QbO h).2▸(QbO h).1
section
variable {α:Type}{e:α->List A}{t et k n b:Nat}{x y:Operand}{l:List α}
theorem Jc{i:Int}{v:α}{m:IntKind}(h:Qch n l i=some v)(E:∀w,(underlying t).run P w=.ok (.array n et) w)(F:∀w,(sizeOf et).run P w=.ok k w)(B:Nat.ble 2 n=true)
  (u:o.op=.indexAddr t x y:=by exact rfl)(hx:opA env x=.ptr b 0:=by exact rfl)(hy:opA env y=.int m i:=by exact rfl):OpV P o env H (.ptr b (i.toNat*k)):=by
 intro L Q σ N a w r;obtain⟨O,z⟩:=Qag h;obtain⟨M,p⟩:=QaV z;have G:i.toNat<l.length:=(XT.1 p).1;have e:=Qk r x;rw[hx]at e;obtain⟨f,e,J⟩:=e;have j:=Qk r y;rw[hy]at j;have g:a.eval y=.int m i:=j;refine⟨.pointer (some ⟨f,i.toNat*k,none⟩),?_,f,e,rfl⟩;have s:0<=i/\i<(n:Int):=by omega
 have d:(⟨f,0,none⟩:Addr).add (i.toNat*k)=⟨f,i.toNat*k,none⟩:=by
  unfold Addr.add;split
  .rename_i q;rw[q]
  .simp
 generalize a.eval=ρ at*;simp[execOp,u,J,g,Instr.indexAt,asIntOf,E,F,Instr.sureAddr,s,d,go_sem,Result.andThen]
theorem QjL{cs:List A}(d:H[b]?=some (.row t k (l.map e)):=by exact rfl)(hcs:(l.map e).flatten=cs:=by exact rfl):Pts H (.ptr b 0) cs:=by
 intro m p σ w v s h;obtain⟨f,a,j⟩:=h;obtain⟨n,g,i⟩:=s.blk b _ _ a d;refine⟨f,0,j,?_⟩;have:=(RR.flat (Jw (pre:=[]) (by simpa using g) i)).1;subst hcs;exact this.lift
theorem Qhu(a:∀x,(e x).length=k)(L:List α):(L.map e).flatten.length=L.length*k:=by
 induction L with
 |nil=>simp
 |cons c L ih=>simp only[Vs,Vu,Vb,a c,ih,X9,Xn];omega
theorem Qh0{d:Nat}{l':List α}(h:arr n l=some l')(i:∀x,(e x).length=k)(a:n*k=d)(p:∀w,(isAgg t).run P w=.ok true w)(m:∀w,(sizeOf t).run P w=.ok d w){T:Nat}
  (j:o.op=.load t x:=by exact rfl)(hx:opA env x=.ptr b 0:=by exact rfl)(hH:H[b]?=some (.row T k (l.map e)):=by exact rfl):OpV P o env H (.agg (l'.map e).flatten):=by
 obtain⟨g,rfl⟩:=QbO h;have f:=Qhu i l;rw[g,a]at f;exact QX j p m hx (QjL hH rfl) (List.take_of_length_le (by omega)) f
theorem QkJ{r:Nat}{n2 T:Nat}(i:l.length=n)(j:∀x,(e x).length=k)(a:n*k=n2)(h:∀w,(isAgg t).run P w=.ok true w)(f:∀w,(sizeOf t).run P w=.ok n2 w)
  (g:lk env r=.ptr b 0:=by exact rfl)(hH:H[b]?=some (.row T k (l.map e)):=by exact rfl):QcV P env H (.cell r t) (.agg (l.map e).flatten):=by
 have d:=Qhu j l;rw[i,a]at d;have:=QdG (b:=r) (p:=.ptr b 0) (n:=n2) h f (QjL hH rfl) g (by rw[List.take_of_length_le (by omega)];exact d)
 rwa [List.take_of_length_le (by omega)]at this
theorem QhX{c:List A}{k:Nat}(h:c.length=k):∀n,allK k (List.replicate n c)
 |0=>trivial
 |n+1=>⟨h,QhX h n⟩
theorem Qbn{vs:Array Value}{z:α}(h:∀w,(zeroValue t).run P w=.ok (.agg vs) w)(l:(Y9 (List.replicate n (e z)).flatten).toArray=vs)(p:Qed (List.replicate n (e z)).flatten=true)(g:(List.replicate n (e z)).flatten.all YG=true)(j:Nat.beq (e z).length k=true)
  (m:o.op=.alloc t:=by exact rfl):OpH P o env H (.ptr H.length 0) (H++[.row t k ((List.replicate n z).map e)]):=by
 intro s f σ N a w r;have d:LR f [] w (List.replicate n (e z)).flatten (Y9 (List.replicate n (e z)).flatten):=Qfl p;have b:=r.sim.allocRow (t:=t) (rest:=[]) (QhX (XY j) n) d (d.plain g);rw[Vp]at b;have i:(List.replicate n z).map e=List.replicate n (e z):=List.map_replicate;refine⟨.pointer (some ⟨w.heap.size,0,none⟩),w.alloc (.cells (Y9 (List.replicate n (e z)).flatten).toArray t),f,[some w.heap.size],?_,⟨w.heap.size,?_,rfl⟩,i▸b,Qj.alloc _ r.sim.roLt r.sim.frLt⟩
 .generalize a.eval=ρ at*;have q:(newVar t (.agg vs)).run P w=.ok ⟨w.heap.size,0,none⟩ (w.alloc (.cells vs t)):=rfl;rw[l];simp only[execOp,m,Instr.alloc,Vv,h,Result.andThen,q];rfl
 .rw[<- r.sim.len];simp
theorem QcZ{T n2:Nat}{l':List α}{vs:List A}(h:l.length=n)(h':l'.length=n)(hk:∀x,(e x).length=k)(s:n*k=n2)(hs:∀w,(sizeOf t).run P w=.ok n2 w)
  (hp:∀x,(e x).all YG=true)(hd:∀x,Yu (e x)=true)(W:(l'.map e).flatten=vs)
  (ho:o.op=.store t x y:=by exact rfl)(G:opA env x=.ptr b 0:=by exact rfl)(hH:H[b]?=some (.row T k (l.map e)):=by exact rfl)(Q:opA env y=.agg vs:=by exact rfl):
  OpU P o env H (H.set b (.row T k (l'.map e))):=by
 intro fr ro σ N a w r;subst W;have d:=Qk r x;rw[G]at d;obtain⟨bb,d,R⟩:=d;have h3:=Qk r y;rw[Q]at h3;obtain⟨m,h4,F⟩:=h3;obtain⟨i,q1,q2⟩:=r.sim.blk b _ _ d hH;have B:∀(L:List α),allK k (L.map e):=by
  intro L
  induction L with
  |nil=>trivial
  |cons c L g=>exact⟨hk c,g⟩
 have X:(l'.map e).flatten.length=n2:=by rw[Y5 (B l'),Va,h',s]
 have hm:m.length=n2:=by rw[F.length,X]
 have p:∀L:List α,(L.map e).flatten.all YG=true:=by
  intro L
  induction L with
  |nil=>rfl
  |cons c L g=>simp only[Vs,Vu,List.all_append,hp c,g,Bool.and_self]
 have V:∀j u:List A,Yu j=true->Yu u=true->Yu (j++u)=true:=by
  intro j
  induction j with
  |nil=>intro u _ h;exact h
  |cons c j g=>
   intro u d R;simp only[Yu,X5,List.cons_append]at d⊢;exact⟨d.1,g u d.2 R⟩
 have M:∀L:List α,Yu (L.map e).flatten=true:=by
  intro L
  induction L with
  |nil=>rfl
  |cons c L g=>simp only[Vs,Vu];exact V _ _ (hd c) g
 have Y:n2<=i.length:=by
  have:=q2.length;rw[Va,h,s]at this;exact this
 have E:=YT (P:=P) (vs:=m) 0 0 q1 (by omega) (F.plain (p l'));have q:splice i 0 m=m++i.drop n2:=by unfold splice;simp[hm]
 have f:=r.sim.set (x':=.row T k (l'.map e)) (obj:=.cells (splice i 0 m).toArray T (0,0)) d hH rfl
  (λy Q=>QaY q1 (Yx (by omega)) y Q)
  (λex z=>by
   have G:=(F.data (M l')).mono ex.nil;rw[q]at G z⊢;exact⟨_,z,QaG (B l') G (F.plain (p l'))⟩)
 refine⟨_,ro,[],?_,by simpa using f.1,f.2⟩;generalize a.eval=ρ at*;have J:(ρ y).cells.size=n2:=by rw[h4];simp[Value.cells,hm]
 have O:(storeVar t ⟨bb,0,none⟩ (ρ y)).run P w=.ok () {w with heap:=w.heap.setIfInBounds bb (.cells (splice i 0 m).toArray T (0,0))}:=by
  unfold storeVar;rw[Vv,hs];simp only[Result.andThen];rw[if_neg (by simp[J]),h4];have ec:(Value.agg m.toArray).cells.toList=m:=by simp[Value.cells]
  rw[ec];simpa using E
 simp only[execOp,ho,R,Instr.storeAt,Instr.sureAddr,pure_bind,Vv,O];rfl
end
end
theorem C.contains{P:Program}{ρ:Ren}(L:Lays.n144 P ρ)(hg:ρ.g 1=Qkd){s t:List UInt8}{r:Bool}(h:QeD s t=some r):C P (ρ.f 144) [.str s,.str t] [] (λa H=>a=.bool r/\H=[]):=by
 unfold QeD at h;cases q:Nat.blt s.length 4294967281 with
 |false=>rw[q]at h;cases h
 |true=>
  rw[q]at h;obtain rfl:=X8 h;intro z n σ vals w sim hv;obtain⟨y,B,rfl,b,j,d,rfl,x,u⟩:=hv;cases(show d=[]from u);obtain⟨m,i⟩:=sim.roOk.gp.max;have p:y=.string ⟨s.toArray⟩:=b;have k:j=.string ⟨t.toArray⟩:=x;subst p k;have l:s.length<4294967281:=by simpa using q
  refine(Any.strings_Contains L ⟨s.toArray⟩ ⟨t.toArray⟩ m w (by simpa[ByteArray.size]using l) (by rw[hg];exact i)).mono ?_;rintro e E ⟨rfl,rfl⟩;exact⟨_,_,_,n,[],rfl,⟨rfl,rfl⟩,by simpa using sim,rfl,Qj.refl _ _ _⟩
section
variable {P:Program}{o:Oper}{env:Env}{H:Qc}{fr ro:Nat->Prop}{σ:Sig}{w:World}
theorem Sim.touch(s:Sim fr ro σ H w){b:Nat}{obj:Obj}(m:¬ro b)(t:¬fr b)(B:∀(i:Nat) (x:Blk),σ[i]?=some (some b)->H[i]?=some x->x.live=true->False)
  (k:∀(i d:Nat) (x:Blk),σ[i]?=some (some d)->H[i]?=some x->Hid w x d b->False)
  (u:∀y,w.shape? b=some y->({w with heap:=w.heap.setIfInBounds b obj}:World).shape? b=some y):
  Sim fr ro σ H {w with heap:=w.heap.setIfInBounds b obj}/\Qj fr ro w ro {w with heap:=w.heap.setIfInBounds b obj}:=by
 have a:∀c,c≠b->({w with heap:=w.heap.setIfInBounds b obj}:World).heap[c]?=w.heap[c]? :=by
  intro c E;show(w.heap.setIfInBounds b obj)[c]?=_;rw[Vn,if_neg (λq=>E q.symm)]
 have f:({w with heap:=w.heap.setIfInBounds b obj}:World).heap.size=w.heap.size:=by simp
 have ev:Qj fr ro w ro {w with heap:=w.heap.setIfInBounds b obj}:=
  ⟨λ_ h=>h,λc h=>a c (λq=>m (q▸h)),λc h=>a c (λq=>t (q▸h)),by rw[f];exact X2 _,by
   intro c y h;by_cases q:c=b
   .subst q;exact u y h
   .unfold World.shape? at h⊢;rw[a c q];exact h,rfl,rfl,rfl,X2 _⟩
 refine⟨⟨s.len,s.roOk.to (λ_ q=>q) ev.keepRo (λc h=>by rw[f];exact s.roLt c h),λc h=>by rw[f];exact s.frLt c h,s.roFr,?_,s.inj,?_,s.hidTo (· = ·) Yc (by rw[f];exact X2 _) (λ_ _ _ _ _ _ _ q=>q) (λ_ _ _ _ _ _ _ q=>q) λj d y n p G=>.inl ⟨j,y,rfl,n,p,id,λc q=>s.hidKeep n p (λz=>a d (λe=>B j y (e▸n) p z)) ev.keepRo q⟩⟩,ev⟩
 .intro i c x g l F;rw[f];exact s.own i c x g l F
 .intro i y x g l;refine(s.blk i y x g l).keep (ev.ext0 σ) ?_ ?_
  .rintro c rfl r;exact a c (λq=>by subst q;exact B i x g l r)
  .rintro d c rfl r;exact a c (λq=>k i d x g l (q▸r))
theorem QkY{T E i n t:Nat}{x:Operand}{es:List (List A)}(ht:P.underlying T=some (.slice E))(hE:P.underlying E=some (.int .u8))(hn:es.length=n)(h0:Nat.blt 0 n=true)
  (ho:o.op=.convert T T x:=by exact rfl)(hx:opA env x=.osl i 0 n 1:=by exact rfl)(hH:H[i]?=some (.row t 1 es):=by exact rfl):
  OpH P o env H (.rsl 1 es) (H.set i .dead):=by
 intro fr O σ N a w r;subst hn;have B:=Qk r x;rw[hx]at B;rcases B with⟨hz,_⟩|⟨b,p,M,t',m,B,h2,h6,h3,h4,h5⟩
 .rw[hz]at h0;simp at h0
 .have aa:0<es.length:=by simpa using h0
  obtain rfl:=h6 (by omega);obtain⟨W,G,h⟩:=r.sim.own i b _ B hH rfl;obtain⟨l,X,q2⟩:=r.sim.blk i _ _ B hH;have s1:=r.sim.kill i;have g:∀(j:Nat) (y:Blk),σ[j]?=some (some b)->(H.set i .dead)[j]?=some y->y.live=true->False:=by
   intro j y s f F;by_cases q:j=i
   .subst q;rw[Xb]at f;simp only[if_true]at f;split at f
    .cases f;simp[Blk.live]at F
    .simp at f
   .rw[XX (λz=>q z.symm)]at f;exact q (r.sim.inj j i b y _ s B f hH F rfl)
  have L:∀(j d:Nat) (y:Blk),σ[j]?=some (some d)->(H.set i .dead)[j]?=some y->Hid w y d b->False:=by
   intro j d y s f F;by_cases q:j=i
   .subst q;rw[Xb]at f;simp only[if_true]at f;split at f
    .cases f;exact F.elim
    .simp at f
   .rw[XX (λz=>q z.symm)]at f;exact(r.sim.hid j d y b s f F).ne i b _ B hH rfl rfl
  let fz:Nat×Nat:=(l.length,l.length+1)
  have V:∀y,w.shape? b=some y->({w with heap:=w.heap.setIfInBounds b (.cells l.toArray t fz)}:World).shape? b=some y:=by
   intro y Q;unfold World.shape? at Q⊢;rw[X]at Q;have e:(w.heap.setIfInBounds b (.cells l.toArray t fz))[b]?=some (.cells l.toArray t fz):=by rw[Vn,if_pos rfl,if_pos W]
   simp only[e];exact Q
  obtain⟨s2,u⟩:=s1.touch (obj:=.cells l.toArray t fz) G h g L V;have s3:=s2.addRo (b:=b) (by simpa using W) h g (λj d y s f F=>L j d y s f (s1.hidKeep s f (λz=>by
   show(w.heap.setIfInBounds b _)[d]?=_;rw[Vn,if_neg (λe:b=d=>g j y (by rw[e];exact s) f z)]) u.keepRo F))
  have k:({w with heap:=w.heap.setIfInBounds b (.cells l.toArray t fz)}:World).heap[b]?=some (.cells (([]:List Value)++l).toArray t fz):=by
   show(w.heap.setIfInBounds b _)[b]?=_;rw[Vn,if_pos rfl,if_pos W];rfl
  have J:Ext O [] w O [] {w with heap:=w.heap.setIfInBounds b (.cells l.toArray t fz)}:=u.ext0 [];refine⟨.slice (some ⟨b,0*1,none⟩) es.length M,_,λc=>O c\/c=b,[],?_,?_,by simpa using s3,u.trans (YN λ_ q=>.inl q)⟩
  .have hf:w.freeze ⟨b,l.length,none⟩ 1={w with heap:=w.heap.setIfInBounds b (.cells l.toArray t fz)}:=by
    unfold World.freeze;simp only[Nat.one_ne_zero,if_false];rw[QbV X];rfl
   have R:(markStringish ⟨b,0*1,none⟩).run P w=.ok () {w with heap:=w.heap.setIfInBounds b (.cells l.toArray t fz)}:=by
    rw[<- hf];unfold markStringish;simp[shape,freeze,Sem.run,World.shape?,X,Result.andThen]
   have hu:∀w,(underlying T).run P w=.ok (.slice E) w:=run_underlying ht;have Y:∀w,(underlying E).run P w=.ok (.int .u8) w:=run_underlying hE;generalize a.eval=ρ at*;simp only[execOp,ho,h2,convert,Vv,hu,Y,Result.andThen,beq_self_eq_true,R,Vw]
  .refine⟨some ⟨b,0*1,none⟩,M,rfl,h3,.inr ⟨b,0*1,rfl,.inr rfl,?_⟩⟩;have:=Jw (pre:=[]) k (q2.mono J);exact(by simpa using this:RR O [] _ b 1 es (0*1)).keep ⟨λ_ q=>.inl q,λ_ _=>rfl,λ_ _ q=>q,λ_ _ q=>q⟩ rfl
end
mutual
theorem Qc8(ρ:Nat->Nat):∀{a:A},Yp a=true->YK ρ a=a
 |.any,_=>rfl
 |.bool _,_=>rfl
 |.int _ _,_=>rfl
 |.str _,_=>rfl
 |.nilp,_=>rfl
 |.ptr _ _,h=>by simp[Yp]at h
 |.rp _,_=>rfl
 |.nils,_=>rfl
 |.rsl _ _,_=>rfl
 |.osl _ _ _ _,h=>by simp[Yp]at h
 |.agg cs,h=>by simp only[Yp]at h;simp only[YK,Qae ρ h]
 |.fn f a c,h=>by simp only[Yp,X5]at h;simp only[YK,Qae ρ h.1,Qae ρ h.2]
 |.nilf,_=>rfl
 |.iface t a,h=>by simp only[Yp]at h;simp only[YK,Qc8 ρ h]
 |.nilif,_=>rfl
 |.map _,h=>by simp[Yp]at h
 |.nilm,_=>rfl
 |.tup vs,h=>by simp only[Yp]at h;simp only[YK,Qae ρ h]
theorem Qae(ρ:Nat->Nat):∀{l:List A},Yu l=true->Qaa ρ l=l
 |[],_=>rfl
 |a::l,h=>by simp only[Yu,X5]at h;simp only[Qaa,Qc8 ρ h.1,Qae ρ h.2]
end
theorem QfP{α:Type}{e:α->List A}(b:∀x,Yu (e x)=true):∀L:List α,Yu (L.map e).flatten=true
 |[]=>rfl
 |c::L=>by
  have hdt:∀cs ds:List A,Yu cs=true->Yu ds=true->Yu (cs++ds)=true:=by
   intro cs
   induction cs with
   |nil=>intro ds _ h;exact h
   |cons c cs d=>
    intro ds a f;simp only[Yu,X5,List.cons_append]at a⊢;exact⟨a.1,d ds a.2 f⟩
  simp only[Vs,Vu];exact hdt _ _ (b c) (QfP b L)
theorem Qnn{α:Type}{e:α->List A}(hd:∀x,Yu (e x)=true)(ρ:Nat->Nat)(l:List α):YK ρ (.agg (l.map e).flatten)=.agg (l.map e).flatten:=
 Qc8 ρ (by simp only[Yp];exact QfP hd l)
end Go.Sw
namespace Go.Sw
section
variable {P:Program}{o:Oper}{env:Env}{H:Qc}
theorem Qd2{c:Call}{f T:Nat}{x:Operand}{xs:List Operand}{m:Array TypeId}{b:String}{v:A}{args:List A}(d:∀(a:Array Value) (w:World),(callFunc f a).run P w=.ok (.enter f a) w)(n:o.op=.call c)
  (j:c={callee:=.invoke x b,args:=xs.toArray,argTypes:=m})(p:opA env x=.iface T v)(hargs:v::xs.map (opA env)=args)
  (k:∀(u:Value) (w:World),(method (P.types.size+Made.depth) T u b).run P w=.ok (f,u) w):OpC P o env H f args:=by
 intro s t σ N a w r;have g:=Qk r x;rw[p]at g;obtain⟨u,g,q⟩:=g;refine⟨u::xs.map a.eval,?_,hargs▸⟨u,xs.map a.eval,rfl,q,Qa7 r xs⟩⟩;subst j;generalize a.eval=ρ at*;have e:(#[ρ x]++(xs.toArray.map ρ):Array Value)=(.iface T u::xs.map ρ).toArray:=by rw[g];simp
 have i:((.iface T u::xs.map ρ).toArray.extract 1 (.iface T u::xs.map ρ).toArray.size:Array Value)=(xs.map ρ).toArray:=by
  simp[List.take_of_length_le]
 have h:∀l:Array Value,(callMethod (.iface T u) b l).run P w=.ok (.enter f (#[u]++l)) w:=by
  intro l;simp only[callMethod,Vv,run_program,Result.andThen,k,d]
 simp only[execOp,n,resolve,e,invoke,Vv,Vw,Result.andThen];simp only[XO,XM,i,h];simp
theorem Qbm{T I:Nat}{x:Operand}{v:A}{d:TypeDesc}(f:∀w,(underlying T).run P w=.ok d w)(g:∀m,d≠ .interface m)(e:o.op=.typeAssert x I T true:=by exact rfl)(hx:opA env x=.iface T v:=by exact rfl):
  OpV P o env H (.tup [v,.bool true]):=by
 intro j i σ N a w r;have b:=Qk r x;rw[hx]at b;obtain⟨u,b,h⟩:=b;refine⟨.tuple #[u,.bool true],?_,[u,.bool true],rfl,_,_,rfl,h,_,_,rfl,rfl,rfl⟩;generalize a.eval=ρ at*;cases d<;>first|(simp[execOp,e,b,Instr.typeAssert,f,go_sem];done)|exact(g _ rfl).elim
theorem QgN{T T' I:Nat}{x:Operand}{v z:A}{zv:Value}{d:TypeDesc}(k:∀w,(underlying T).run P w=.ok d w)(h:∀m,d≠ .interface m)(b:Nat.beq T' T=false)(i:∀w,(zeroValue T).run P w=.ok zv w)(f:ZR z zv)
  (j:o.op=.typeAssert x I T true:=by exact rfl)(hx:opA env x=.iface T' v:=by exact rfl):
  OpV P o env H (.tup [z,.bool false]):=by
 intro l n σ N a w r;have e:=Qk r x;rw[hx]at e;obtain⟨u,e,p⟩:=e;have g:T'≠T:=λq=>by rw[q,Nat.beq_refl]at b;cases b
 refine⟨.tuple #[zv,.bool false],?_,[zv,.bool false],rfl,_,_,rfl,f _ _ _,_,_,rfl,rfl,rfl⟩;generalize a.eval=ρ at*;cases d<;>first|(simp[execOp,j,e,Instr.typeAssert,k,g,i,go_sem];done)|exact(h _ rfl).elim
end
def TL(P:Program)(h0 N:Nat)(c:Code)(env:Env)(H:Qc)(Q:QE):Prop:=
 ∀rd fr ro σ a w,Rel fr ro σ H env N a w->QdM rd fr w->∀(b:Frame) (k:List Item) (cs:List Frame),b.roundOf=(WF rd).round->(WF rd).fn b.fn->(WF rd).room (cs.length+1+0)->∃e a' w',Qa9 h0 fr ro σ w N a.defers Q e a' w'/\ArrivesIn (Machine.fenced P (WF rd)) P (lone (b.atR a (.code c::.inLoop c::k)) cs w) b k cs e a' w'
def QiO(P:Program)(h0 N:Nat)(c:Code)(Q:QE):QE
 |.normal,env,H=>TL P h0 N c env H Q
 |.exit id,env,H=>Q (.exit id) env H
 |.ret,env,H=>Q .ret env H
section
variable {P:Program}{h0 N:Nat}{c:Code}{env:Env}{H:Qc}{Q:QE}
theorem QmR(h:TL P h0 N c env H Q):TC P h0 N (.loop c) env H Q:=by
 intro l f i σ a w r hrd b k cs hro hb hr;obtain⟨e,j,m,g,d⟩:=h l f i σ a w r hrd b k cs hro hb hr;exact⟨e,j,m,g,.of_steps (.one (fenced_calm hb hr rfl) stepR_loop) d⟩
theorem TL.round(h:TC P h0 N c env H (QiO P h0 N c Q)):TL P h0 N c env H Q:=by
 intro F y B σ a w r hrd b k cs hro hb hr;obtain⟨e,l,m,J,d⟩:=h F y B σ a w r hrd b (.inLoop c::k) cs hro hb hr;obtain⟨x,f,H',j,σ',i,n,u,E,t,z,s⟩:=J;have G:∀x,Q x f H'->ExR e x->Qa9 h0 y B σ w N a.defers Q e l m:=λx q L=>⟨x,f,H',j,σ',i,L,q,E,t,z,s⟩;cases e with
 |normal=>
  obtain rfl:x=.normal:=n;obtain⟨O,M,R,p,g⟩:=u F i j σ' l m E (hrd.to t s.sub) b k cs hro hb hr;exact⟨O,M,R,p.grow t z s,.of_steps (StepsIn.trans d (.one (fenced_calm hb hr rfl) stepR_inLoop)) g⟩
 |exit id=>
  obtain rfl:x=.exit id:=n;exact⟨_,l,m,G _ u rfl,.pass (x:=.inLoop c) rfl (λ_ _=>.inl (by simp)) d⟩
 |ret=>
  obtain rfl:x=.ret:=n;exact⟨_,l,m,G _ u rfl,.pass (x:=.inLoop c) rfl (λ_ _=>.inl (by simp)) d⟩
 |_=>exact n.elim
theorem unrN(h:TC P h0 N c env H (QiO P h0 N c Q)):QiO P h0 N c Q .normal env H:=TL.round h
theorem unrX{id:Nat}(h:Q (.exit id) env H):QiO P h0 N c Q (.exit id) env H:=h
theorem unrR(h:Q .ret env H):QiO P h0 N c Q .ret env H:=h
theorem QkG(h:TC P h0 N c env H (QiO P h0 N c Q)):TC P h0 N (.loop c) env H Q:=QmR (TL.round h)
end
section
variable {P:Program}{o:Oper}{env:Env}{H:Qc}
end
section
variable {P:Program}{o:Oper}{env:Env}{H:Qc}
end
def isNil{α R:Type}[DecidableEq R](l:List α)(x y:Option R):Option R:=bif l.isEmpty then(bif decide (x=y)then x else none)else y
theorem QlZ{α R:Type}[DecidableEq R]{l:List α}{x y:Option R}{r:R}(h:isNil l x y=some r)(b:Bool)(f:l≠[]->b=false):(b=true->x=some r)/\(b=false->y=some r):=by
 unfold isNil at h;cases q:l.isEmpty with
 |true=>
  rw[q]at h;by_cases a:x=y
  .subst a;simp at h;exact⟨λ_=>h,λ_=>h⟩
  .simp[a]at h
 |false=>
  rw[q]at h;have d:l≠[]:=by rintro rfl;cases q
  refine⟨λe=>?_,λ_=>h⟩;rw[f d]at e;cases e
section
variable {P:Program}{o:Oper}{env:Env}{H:Qc}{h0 N:Nat}{Q:QE}
theorem QkZ{α:Type}{e:α->List A}{T E k:Nat}{u:TypeId}{x:Operand}{l:List α}(n:P.underlying T=some (.slice E))(m:o.op=.binOp .eql T x (.const (.slice none 0 0)) u)(i:opA env x=.rsl k (l.map e)):
  OpE P o env H (λv H'=>∃b:Bool,v=.bool b/\(l≠[]->b=false)/\H'=H):=by
 intro y q σ N a w r;have h:=Qk r x;rw[i]at h;obtain⟨f,d,h,z,g⟩:=h;refine⟨.bool f.isNone,H,.bool f.isNone,w,q,[],⟨f.isNone,rfl,λj=>?_,rfl⟩,?_,rfl,by simpa using r.sim,Qj.refl _ _ _⟩
 .rcases g with g|⟨b,s,g,_⟩
  .exact absurd (List.map_eq_nil_iff.1 g) j
  .rw[g];rfl
 .have p:a.eval (.const (.slice none 0 0))=.slice none 0 0:=rfl;generalize a.eval=ρ at*;have t:(eqGuard .eql T x (.const (.slice none 0 0)) (.slice f (l.map e).length d) (.slice none 0 0)).run P w=.ok () w:=by simp[eqGuard]
  simp only[execOp,m,h,p,Vv,t,Result.andThen,Go.run_eql_slice_nil w T E f _ d n,Vw]
theorem QmP{α:Type}{e:α->List A}{T E k d:Nat}{u:TypeId}{x:Operand}{l:List α}{all:Array Oper}{L:List Oper}(f:P.underlying T=some (.slice E))(h:opA env x=.rsl k (l.map e))
  (i:∀b:Bool,(l≠[]->b=false)->WO P h0 N all L (up env d (.bool b)) H Q)
  (a:o.op=.binOp .eql T x (.const (.slice none 0 0)) u:=by exact rfl)(hg:Qx all o env true:=by exact rfl)(hd:o.dst=some d:=by exact rfl)(hN:Nat.blt d N=true:=by exact rfl)(hh:Nat.ble h0 H.length=true:=by exact rfl):WO P h0 N all (o::L) env H Q:=by
 refine QmO (XZ hh) hg hd hN (QkZ f a h) ?_;rintro v H' ⟨b,rfl,g,rfl⟩;exact i b g
end
theorem slc0{α:Type}{l x:List α}{i:Int}(h:slc l 0 i=some x):0<=i/\i.toNat<=l.length/\l.take i.toNat=x/\x.length=i.toNat:=by
 obtain⟨_,b,e,d⟩:=Qc5 h;have a:l.take i.toNat=x:=by simpa using d
 exact⟨b,by omega,a,by rw[<- a,XE];omega⟩
section
variable {P:Program}{o:Oper}{env:Env}{H:Qc}{α:Type}{e:α->List A}{T et k b t:Nat}{x y:Operand}{l l':List α}{i:Int}
end
end Go.Sw
namespace Go.Sw
open Go.Sort Go.Proofs Go.Shelf
def ltI(x y:Int):Bool:=decide (x<y)
def sortI(l:List Int):Option (List Int):=bif Nat.ble l.length Q1 then some (QaD ltI l)else none
theorem Qg1{l l':List Int}(h:sortI l=some l'):l.length<=Q1/\QaD ltI l=l':=by
 unfold sortI at h;cases e:Nat.ble l.length Q1 with
 |false=>rw[e]at h;simp at h
 |true=>rw[e]at h;exact⟨XZ e,X8 h⟩
theorem Qac{l l':List Int}(h:sortI l=some l'):l.length=l'.length:=by
 rw[<- (Qg1 h).2];exact(QS _ _).length_eq.symm
theorem QcF(l:List Int):Qe6 ltI l:=
 ⟨λx _=>by simp[ltI],λx _ y _ z _ a b=>by simp[ltI]at*;omega,λx _ y _ z _ a b=>by simp[ltI]at*;omega⟩
theorem QdJ(l:List Int):(l.mergeSort λx y=>decide (x<=y))=QaD ltI l:=by
 refine QaB (lt:=ltI) ?_ ?_ ?_ (YL (QcF l))
 .exact(List.mergeSort_perm _ _).trans (QS _ _).symm
 .intro x _ y _ a b;simp[ltI]at*;omega
 .refine(List.pairwise_mergeSort (le:=λx y=>decide (x<=y)) ?_ ?_ l).imp ?_
  .intro a b c;simp;omega
  .intro a b;simp;omega
  .intro a b;simp[ltI]
theorem QjK{ro:Nat->Prop}{σ:Sig}{w:World}:∀{l:List Int}{lv:List Value},RL ro σ w 1 (l.map λx=>[A.int .i64 x]) lv->∃rest,lv=l.map (Value.int .i64)++rest
 |[],lv,_=>⟨lv,rfl⟩
 |x::l,lv,h=>by
  obtain⟨l1,l2,rfl,h1,⟨h2,h3⟩,h4⟩:=h;obtain⟨rest,rfl⟩:=QjK (l:=l) h4;obtain⟨v,r,rfl,hv,hr⟩:=h2;cases(show r=[]from hr);exact⟨rest,by rw[show v=.int .i64 x from hv];simp⟩
theorem Qe9{ro:Nat->Prop}{σ:Sig}{w:World}:∀(l:List Int) (rest:List Value),RL ro σ w 1 (l.map λx=>[A.int .i64 x]) (l.map (Value.int .i64)++rest)
 |[],_=>trivial
 |x::l,rest=>⟨[.int .i64 x],l.map (Value.int .i64)++rest,by simp,rfl,⟨⟨_,_,rfl,rfl,rfl⟩,by simp[Qz]⟩,Qe9 l rest⟩
theorem QjS{P:Program}{ρ:Ren}(L:Lays.n189 P ρ){t:Nat}{l l':List Int}(hs:sortI l=some l'):
  C P (ρ.f 189) [.osl 0 0 l.length 1] [.row t 1 (l.map λx=>[A.int .i64 x])] (λa H=>a=.tup []/\H=[.row t 1 (l'.map λx=>[A.int .i64 x])]):=by
 intro fr M σ vals w s hv;obtain⟨vs,r1,rfl,ah,hr⟩:=hv;cases(show r1=[]from hr);obtain⟨aa,R⟩:=Qg1 hs;have d:∀(ad:Option Addr) (c:Nat),vs=.slice ad 0 c->l=[]->
   Calls P (ρ.f 189) [vs].toArray w λe X=>∃v r H' ro' τ,e=.returned v/\(r=.tup []/\H'=[.row t 1 (l'.map λx=>[A.int .i64 x])])/\Sim fr ro' (σ++τ) H' X/\VR ro' (σ++τ) X r v/\Qj fr M w ro' X:=by
  rintro ad c rfl rfl;have B:l'=[]:=by rw[<- R];rfl
  subst B;refine(Any.slices_Sort_int_none L ad c w).mono ?_;rintro e X ⟨rfl,rfl⟩;exact⟨_,_,_,M,[],rfl,⟨rfl,rfl⟩,by simpa using s,⟨[],rfl,rfl⟩,Qj.refl _ _ _⟩
 rcases ah with⟨h0,rfl⟩|⟨b,p,cp,t',m,q1,rfl,q2,q3,q4,q5⟩
 .exact d none 0 rfl (List.length_eq_zero_iff.1 h0)
 .by_cases B:l=[]
  .subst B;exact d _ cp rfl rfl
  .have af:0<l.length:=List.length_pos_iff.2 B;obtain rfl:=q2 (Vo af q3);obtain⟨lv,e1,e2⟩:=s.blk 0 _ _ q1 rfl;obtain⟨hb,T,Q⟩:=s.own 0 b _ q1 rfl rfl;obtain⟨u,rfl⟩:=QjK e2;have hH:Holds (Value.int .i64) w b 0 l.toArray:=by
    intro j hj;simp only[List.size_toArray]at hj;constructor
    .unfold World.cell?;simp only[e1,Option.isSome_none,Xj,if_false,XC];rw[QaX,XU (by simpa using hj)];simp[hj]
    .unfold World.frozen?;simp only[e1];simp
   have z:=Any.slices_Sort_int L b 0 cp l w hH hb (by unfold Q1 at aa;omega);rw[QdJ,R]at z;simp only[Nat.zero_mul]at z⊢;refine z.mono ?_;rintro e X ⟨rfl,n,os,rfl⟩;have E:l.length=l'.length:=Qac hs;generalize hW:grow (putRow (Value.int .i64) (Sort.ahead w n) b 0 l'.toArray) os=W;have g:W.heap=w.heap.setIfInBounds b (.cells ((l'.map (Value.int .i64)++u)).toArray t (0,0))++os:=by
    rw[<- hW];show(w.heap.modify b _)++os=_;rw[QbV e1];simp only[onCells];congr 3;unfold putCells;apply Array.ext_getElem?;intro i;simp only[Array.getElem?_mapIdx,QaX,X3,true_and,XC,XB,List.size_toArray];by_cases hi:i<l'.length
    .rw[XU (by simpa[E]using hi),XU (by simpa using hi)];simp[hi,E]
    .rw[XV (by simp;omega),XV (by simp;omega)];simp only[Va,E];cases(u[i-l'.length]?)with
     |none=>rfl
     |some v=>exact congrArg some (if_neg hi)
   have g1:∀c,c<w.heap.size->c≠b->W.heap[c]?=w.heap[c]? :=by
    intro c k ab;rw[g,Array.getElem?_append_left (by simpa using k),Vn,if_neg (λq=>ab q.symm)]
   have g2:W.heap[b]?=some (.cells ((l'.map (Value.int .i64)++u)).toArray t (0,0)):=by
    rw[g,Array.getElem?_append_left (by simpa using hb),Vn,if_pos rfl,if_pos hb]
   have g3:w.heap.size<=W.heap.size:=by rw[g];simp
   have F:∀c y,w.shape? c=some y->W.shape? c=some y:=by
    intro c y J;by_cases k:c=b
    .subst k;unfold World.shape? at J⊢;rw[e1]at J;rw[g2];simp only[Option.some.injEq]at J⊢;rw[<- J];simp[E]
    .unfold World.shape? at J⊢;rw[g1 c (Qct J) k];exact J
   have ag:W.os=w.os:=by rw[<- hW];rfl
   have ai:W.tape=w.tape:=by rw[<- hW];rfl
   have ae:W.output=w.output:=by rw[<- hW];rfl
   have ac:w.drawn<=W.drawn:=by rw[<- hW];exact Nat.le_add_right _ _
   have V:Qj fr M w M W:=
    ⟨λ_ q=>q,λc k=>g1 c (s.roLt c k) (λq=>T (q▸k)),λc k=>g1 c (s.frLt c k) (λq=>Q (q▸k)),g3,F,ag,ai,ae,ac⟩
   have G:σ.length=1:=s.len;have Y:Sim fr M σ [.row t 1 (l'.map λx=>[A.int .i64 x])] W:=by
    have i0:∀{i:Nat}{x:Blk},([.row t 1 (l'.map λx=>[A.int .i64 x])]:Qc)[i]?=some x->i=0/\x=.row t 1 (l'.map λx=>[A.int .i64 x]):=by
     intro i x h;cases i with
     |zero=>simp at h;exact⟨rfl,h.symm⟩
     |succ i=>simp at h
    refine⟨G,s.roOk.to (λ_ q=>q) V.keepRo (λc k=>Vo (s.roLt c k) g3),λc k=>Vo (s.frLt c k) g3,s.roFr,λi c x O N h3=>?_,λi j c x y O N h3 h4 _ _=>?_,λi y x O N=>?_,λi b x c O N h3=>by obtain⟨rfl,rfl⟩:=i0 N;exact h3.elim⟩
    .obtain⟨rfl,rfl⟩:=i0 N;obtain⟨p1,p2⟩:=s.own 0 c _ O rfl rfl;exact⟨Vo p1 g3,p2⟩
    .rw[(i0 h3).1,(i0 h4).1]
    .obtain⟨rfl,rfl⟩:=i0 N;rw[q1]at O;cases O;exact⟨_,g2,Qe9 l' u⟩
   exact⟨_,_,_,M,[],rfl,⟨rfl,rfl⟩,by simpa using Y,⟨[],rfl,rfl⟩,V⟩
section
variable {P:Program}{o:Oper}{env:Env}{H:Qc}{α:Type}{e:α->List A}{T et k b t:Nat}{x y:Operand}
theorem Qf7{lo hi:Option Operand}{l r:List α}{a c:Int}(h:slc l a c=some r)(E1:∀w,(underlying T).run P w=.ok (.slice et) w)(E2:∀w,(sizeOf et).run P w=.ok k w)
  (f:lo=none/\a=0\/ ∃y,lo=some y/\opA env y=.int .i64 a)(g:hi=none/\c=l.length\/ ∃y,hi=some y/\opA env y=.int .i64 c)
  (i:o.op=.slice T x lo hi none:=by exact rfl)(hx:opA env x=.osl b 0 l.length k:=by exact rfl):OpV P o env H (.osl b (0+a.toNat) (c.toNat-a.toNat) k):=by
 obtain⟨j,m,n,_⟩:=Qc5 h;refine Qh2 (l:=a.toNat) (h:=c.toNat) E1 E2 i hx ?_ ?_ (by omega) (by omega)
 .rcases f with⟨d,e⟩|⟨y,d,e⟩
  .exact .inl ⟨d,by rw[e];rfl⟩
  .exact .inr ⟨y,a,d,e,j,rfl⟩
 .rcases g with⟨d,e⟩|⟨y,d,e⟩
  .exact .inl ⟨d,by rw[e];simp⟩
  .exact .inr ⟨y,c,d,e,by omega,rfl⟩
end
end Go.Sw
namespace Go.Sw
inductive Bx where
 |mk (a:A)
def lkB:Env->Nat->Bx
 |[],_=>.mk .any
 |(d,a)::r,s=>bif Nat.beq s d then .mk a else lkB r s
theorem Qio:∀{env:Env}{s:Nat}{a:A},lkB env s=.mk a->lk env s=a
 |[],s,a,h=>by cases h;rfl
 |(d,b)::r,s,a,h=>by
  unfold lkB at h;unfold lk;cases q:Nat.beq s d with
  |true=>rw[q]at h;cases h;rfl
  |false=>rw[q]at h;exact Qio h
inductive FBy where
 |mk (l:List UInt8)
def fby:List UInt8->FBy
 |[]=>.mk []
 |a::r=>match fby r with
  |.mk r'=>.mk (a::r')
theorem Ql8:∀l:List UInt8,fby l=.mk l
 |[]=>rfl
 |a::r=>by unfold fby;rw[Ql8 r]
def opB(env:Env):Operand->Bx
 |.tmp t=>lkB env t
 |.const (.bool b)=>.mk (.bool b)
 |.const (.int k n)=>.mk (.int k n)
 |.const (.string s)=>match fby s.data.toList with
  |.mk l=>.mk (.str l)
 |.const (.pointer none)=>.mk .nilp
 |.const (.slice none 0 0)=>.mk .nils
 |.const (.map none)=>.mk .nilm
 |.const .nilFunc=>.mk .nilf
 |.const .nilIface=>.mk .nilif
 |.func f=>.mk (.fn (.func f) [] [])
 |_=>.mk .any
theorem QH{env:Env}{x:Operand}{a:A}(h:opB env x=.mk a):opA env x=a:=by
 cases x with
 |tmp t=>exact Qio h
 |const v=>
  cases v with
  |slice b n k=>cases b with
   |none=>cases n with
    |zero=>cases k<;>(cases h;rfl)
    |succ n=>cases h;rfl
   |some b=>cases h;rfl
  |pointer p=>cases p<;>(cases h;rfl)
  |map p=>cases p<;>(cases h;rfl)
  |string s=>
   have d:(match fby s.data.toList with|.mk l=>Bx.mk (.str l))=.mk a:=h;rw[Ql8]at d;cases d;rfl
  |_=>cases h;rfl
 |global g=>cases h;rfl
 |func f=>cases h;rfl
def Y0{α:Type}:List α->Nat->Option α
 |[],_=>none
 |a::_,0=>some a
 |_::r,n+1=>Y0 r n
theorem Qay{α:Type}:∀(l:List α) (n:Nat),Y0 l n=l[n]?
 |[],n=>by simp[Y0]
 |a::r,0=>rfl
 |a::r,n+1=>by simp[Y0,Qay r n]
def arB:BinOp->IntKind->Int->Int->Option A
 |.add,k,m,n=>some (.int k (k.wrap (m+n)))
 |.sub,k,m,n=>some (.int k (k.wrap (m-n)))
 |.mul,k,m,n=>some (.int k (k.wrap (m*n)))
 |.eql,_,m,n=>some (.bool (m==n))
 |.neq,_,m,n=>some (.bool (m != n))
 |.lss,_,m,n=>some (.bool (decide (m<n)))
 |.leq,_,m,n=>some (.bool (decide (m<=n)))
 |.gtr,_,m,n=>some (.bool (decide (n<m)))
 |.geq,_,m,n=>some (.bool (decide (n<=m)))
 |_,_,_,_=>none
def srB:BinOp->List UInt8->List UInt8->Option A
 |.eql,p,q=>some (.bool (p==q))
 |.neq,p,q=>some (.bool (p != q))
 |.lss,p,q=>some (.bool (Op.bytesLess p q))
 |_,_,_=>none
def biB(b:BinOp):Bx->Bx->Option A
 |.mk (.int k m),.mk (.int k' n)=>if k=k' then arB b k m n else none
 |.mk (.str p),.mk (.str q)=>srB b p q
 |_,_=>none
def unB:UnOp->Bx->Option A
 |.not,.mk (.bool b)=>some (.bool !b)
 |.neg,.mk (.int k n)=>some (.int k (k.wrap (0-n)))
 |_,_=>none
def exB:Bx->Nat->Option A
 |.mk (.tup vs),i=>Y0 vs i
 |_,_=>none
def nlB:Bx->Option A
 |.mk (.ptr i j)=>some (.ptr i j)
 |.mk (.rp cs)=>some (.rp cs)
 |_=>none
def piB:Bx->Bx->Bx->Option A
 |.mk (.bool true),.mk a,_=>some a
 |.mk (.bool false),_,.mk a=>some a
 |_,_,_=>none
def svB(env:Env):Op->Option A
 |.move x=>match opB env x with|.mk a=>some a
 |.assign x=>match opB env x with|.mk a=>some a
 |.nilCheck x=>nlB (opB env x)
 |.extract x i=>exB (opB env x) i
 |.unOp u _ x=>unB u (opB env x)
 |.pick c x y=>piB (opB env c) (opB env x) (opB env y)
 |.binOp b _ x y _=>biB b (opB env x) (opB env y)
 |_=>none
def pr(d:Nat):Option A->Option (Nat×A)
 |some a=>some (d,a)
 |none=>none
def stB(o:Oper)(env:Env):Option (Nat×A):=
 match o.dst with
 |some d=>pr d (svB env o.op)
 |none=>none
section
variable {P:Program}{h0 N:Nat}{all:Array Oper}{o:Oper}{l:List Oper}{env:Env}{H H':Qc}{Q:QE}{d:Nat}{x:A}
theorem QbB{p:Op}(d:o.op=p)(h:svB env p=some x):OpV P o env H x:=by
 unfold svB at h;split at h
 .rename_i y;cases q:opB env y with|mk a=>rw[q]at h;cases h;exact OpV.move d (QH q)
 .rename_i y;cases q:opB env y with|mk a=>rw[q]at h;cases h;exact OpV.assign d (QH q)
 .rename_i y;unfold nlB at h;split at h
  .rename_i i j q;cases h;exact Qfb d (QH q) rfl
  .rename_i s q;cases h;exact Qfb d (QH q) rfl
  .cases h
 .rename_i y i;unfold exB at h;split at h
  .rename_i vs _ q;rw[Qay]at h;exact OpV.extract d (QH q) h
  .cases h
 .rename_i u t y;unfold unB at h;split at h
  .rename_i b q;cases h;exact OpV.not d (QH q)
  .rename_i k n q;cases h;exact OpV.neg d (QH q)
  .cases h
 .rename_i c y z;unfold piB at h;split at h
  .rename_i a _ l r;cases h;exact OpV.pick d (QH l) (by rw[if_pos rfl];exact QH r)
  .rename_i a l r;cases h;exact OpV.pick d (QH l) (by rw[if_neg (by decide)];exact QH r)
  .cases h
 .rename_i b t y z u;unfold biB at h;split at h
  .rename_i k m w n l r;split at h
   .rename_i e;subst e;have f:=QH l;have g:=QH r;unfold arB at h;split at h
    .cases h;exact OpV.add d f g
    .cases h;exact OpV.sub d f g
    .cases h;exact OpV.mul d f g
    .cases h;exact OpV.eql d f g
    .cases h;exact OpV.neq d f g
    .cases h;exact OpV.lss d f g
    .cases h;exact OpV.leq d f g
    .cases h;exact OpV.gtr d f g
    .cases h;exact OpV.geq d f g
    .cases h
   .cases h
  .rename_i p q l r;have f:=QH l;have g:=QH r;unfold srB at h;split at h
   .cases h;exact QkP d f g
   .cases h;exact QkM d f g
   .cases h;exact QkN d f g
   .cases h
  .cases h
 .cases h
theorem Qgh(h:stB o env=some (d,x)):o.dst=some d/\OpV P o env H x:=by
 unfold stB at h;split at h
 .rename_i b q;cases e:svB env o.op with
  |none=>rw[e]at h;cases h
  |some a=>rw[e]at h;cases h;exact⟨q,QbB rfl e⟩
 .cases h
theorem S(e:stB o env=some (d,x))(k:WO P h0 N all l (up env d x) H Q)(hg:Qx all o env true:=by exact rfl)(hN:Nat.blt d N=true:=by exact rfl):WO P h0 N all (o::l) env H Q:=
 QM hg (Qgh (P:=P) (H:=H) e).1 hN (Qgh e).2 k
theorem Sg(hg:Qx all o env true)(e:stB o env=some (d,x))(k:WO P h0 N all l (up env d x) H Q)(a:Nat.blt d N=true:=by exact rfl):WO P h0 N all (o::l) env H Q:=
 QM hg (Qgh (P:=P) (H:=H) e).1 a (Qgh e).2 k
theorem K(hg:Qx all o env false)(b:o.dst=some d)(k:WO P h0 N all l (up env d (.tup [])) H Q)(a:Nat.blt d N=true:=by exact rfl):WO P h0 N all (o::l) env H Q:=
 WO.skip hg b a k
def p2B(v:Bool):Bx->Bx->Bx->Option (Bool×A)
 |.mk (.bool b),.mk a,.mk a'=>match v with|true=>some (b,a)|false=>some (b,a')
 |_,_,_=>none
def pr2(d:Nat):Option (Bool×A)->Option (Nat×Bool×A)
 |some a=>some (d,a)
 |none=>none
def pkB(v:Bool)(o:Oper)(env:Env):Option (Nat×Bool×A):=
 match o.dst,o.op with
 |some d,.pick c x y=>pr2 d (p2B v (opB env c) (opB env x) (opB env y))
 |_,_=>none
theorem QoT{v b:Bool}{p q r:Bx}(h:p2B v p q r=some (b,x)):∃a a',p=.mk (.bool b)/\q=.mk a/\r=.mk a'/\(bif v then a else a')=x:=by
 obtain⟨p⟩:=p;obtain⟨q⟩:=q;obtain⟨r⟩:=r;cases p<;>first|(cases h;done)|skip
 cases v<;>cases h<;>exact⟨_,_,rfl,rfl,rfl,rfl⟩
theorem QlM{v b:Bool}(h:pkB v o env=some (d,b,x))(g:b=v):o.dst=some d/\OpV P o env H x:=by
 unfold pkB at h;split at h
 .rename_i p c y z j m;cases e:p2B v (opB env c) (opB env y) (opB env z)with
  |none=>rw[e]at h;cases h
  |some s=>
   rw[e]at h;cases h;obtain⟨a,n,l,k,i,f⟩:=QoT e;refine⟨j,OpV.pick m (QH l) ?_⟩;rw[QH k,QH i,g];cases v<;>exact f
 .cases h
theorem Pk{v b:Bool}(a:b=v)(e:pkB v o env=some (d,b,x))(k:WO P h0 N all l (up env d x) H Q)(hg:Qx all o env true:=by exact rfl)(hN:Nat.blt d N=true:=by exact rfl):WO P h0 N all (o::l) env H Q:=
 QM hg (QlM (P:=P) (H:=H) e a).1 hN (QlM e a).2 k
def fpB(o:Oper)(env:Env):Option (Nat×Nat×Nat×Nat×Nat):=
 match o.dst,o.op with
 |some d,.fieldAddr T x f=>match opB env x with
  |.mk (.ptr i p)=>some (d,T,f,i,p)
  |_=>none
 |_,_=>none
theorem Qgw{T f off n i p:Nat}(b:Jy P T f off n)(h:fpB o env=some (d,T,f,i,p)):o.dst=some d/\OpV P o env H (.ptr i (p+off)):=by
 unfold fpB at h;split at h
 .rename_i g a;split at h
  .rename_i e;cases h;exact⟨g,Qco b a (QH e)⟩
  .cases h
 .cases h
theorem Fp{T f off n i p:Nat}(a:Jy P T f off n)(e:fpB o env=some (d,T,f,i,p))(k:WO P h0 N all l (up env d (.ptr i (p+off))) H Q)(hg:Qx all o env true:=by exact rfl)(hN:Nat.blt d N=true:=by exact rfl):WO P h0 N all (o::l) env H Q:=
 QM hg (Qgw (H:=H) a e).1 hN (Qgw a e).2 k
theorem Fpg{T f off n i p:Nat}(hg:Qx all o env true)(a:Jy P T f off n)(e:fpB o env=some (d,T,f,i,p))(k:WO P h0 N all l (up env d (.ptr i (p+off))) H Q)(b:Nat.blt d N=true:=by exact rfl):WO P h0 N all (o::l) env H Q:=
 QM hg (Qgw (H:=H) a e).1 b (Qgw a e).2 k
inductive Lx where
 |mk (l:List A)
def QhO:Nat->List A->Lx
 |0,l=>.mk l
 |n+1,_::r=>QhO n r
 |_+1,[]=>.mk []
theorem QeX:∀{n:Nat}{l r:List A},QhO n l=.mk r->l.drop n=r
 |0,l,r,h=>by cases h;rfl
 |n+1,a::l,r,h=>by rw[List.drop_succ_cons];exact QeX h
 |n+1,[],r,h=>by cases h;rfl
def ctB:Option Blk->Nat->Option A
 |some (.cells _ cs),off=>Y0 cs off
 |_,_=>none
def lvB(H:Qc):Bx->Option A
 |.mk (.ptr i off)=>ctB (Y0 H i) off
 |.mk (.rp (a::_))=>some a
 |_=>none
def pr3(d t:Nat):Option A->Option (Nat×Nat×A)
 |some a=>some (d,t,a)
 |none=>none
def ldB(o:Oper)(env:Env)(H:Qc):Option (Nat×Nat×A):=
 match o.dst,o.op with
 |some d,.load t x=>pr3 d t (lvB H (opB env x))
 |_,_=>none
theorem Qgs{t:Nat}(k:∀w,(isAgg t).run P w=.ok false w)(h:ldB o env H=some (d,t,x)):o.dst=some d/\OpV P o env H x:=by
 unfold ldB at h;split at h
 .rename_i s p y n l;cases e:lvB H (opB env y)with
  |none=>rw[e]at h;cases h
  |some a=>
   rw[e]at h;cases h;refine⟨n,?_⟩;unfold lvB at e;split at e
   .rename_i i b g;unfold ctB at e;split at e
    .rename_i b q T0 T cs q4;rw[Qay]at e q4;obtain⟨f,m⟩:∃f,cs.drop b=x::f:=by
      have j:=(XT.1 e).1;refine⟨cs.drop (b+1),?_⟩;rw[Xs j,(XT.1 e).2]
     exact OpV.load l k (QH g) (Pts.cells q4 m)
    .cases e
   .rename_i a r g;cases e;exact OpV.load l k (QH g) Pts.rp
   .cases e
 .cases h
theorem Ld{t:Nat}(a:∀w,(isAgg t).run P w=.ok false w)(e:ldB o env H=some (d,t,x))(k:WO P h0 N all l (up env d x) H Q)(hg:Qx all o env true:=by exact rfl)(hN:Nat.blt d N=true:=by exact rfl):WO P h0 N all (o::l) env H Q:=
 QM hg (Qgs a e).1 hN (Qgs a e).2 k
theorem Ldg{t:Nat}(hg:Qx all o env true)(a:∀w,(isAgg t).run P w=.ok false w)(e:ldB o env H=some (d,t,x))(k:WO P h0 N all l (up env d x) H Q)(b:Nat.blt d N=true:=by exact rfl):WO P h0 N all (o::l) env H Q:=
 QM hg (Qgs a e).1 b (Qgs a e).2 k
def ixB(o:Oper)(env:Env):Option (Nat×Nat×Nat×List (List A)×IntKind×Int):=
 match o.dst,o.op with
 |some d,.indexAddr t x y=>match opB env x,opB env y with
  |.mk (.rsl k es),.mk (.int kk i)=>some (d,t,k,es,kk,i)
  |_,_=>none
 |_,_=>none
theorem Ix{α:Type}{e:α->List A}{t et k:Nat}{L:List α}{b:IntKind}{i:Int}{v:α}(h:idx L i=some v)(j:∀w,(underlying t).run P w=.ok (.slice et) w)(m:∀w,(sizeOf et).run P w=.ok k w)
  (q:ixB o env=some (d,t,k,L.map e,b,i))(k:WO P h0 N all l (up env d (.rp (e v))) H Q)(hg:Qx all o env true:=by exact rfl)(hN:Nat.blt d N=true:=by exact rfl):WO P h0 N all (o::l) env H Q:=by
 unfold ixB at q;split at q
 .rename_i f p;split at q
  .rename_i a g;simp only[Option.some.injEq,Prod.mk.injEq]at q;obtain⟨rfl,rfl,rfl,n,rfl,rfl⟩:=q;exact QM hg f hN (Yw h j m p (by rw[QH a,n]) (QH g)) k
  .cases q
 .cases q
def lnB(o:Oper)(env:Env):Option (Nat×Nat×Bx):=
 match o.dst,o.op with
 |some d,.call c=>match c with
  |{callee:=.builtin .len,args:=⟨[x]⟩,argTypes:=⟨[t]⟩}=>some (d,t,opB env x)
  |_=>none
 |_,_=>none
theorem QoX{t:Nat}{b:Bx}(q:lnB o env=some (d,t,b)):∃x,o.dst=some d/\o.op=.call {callee:=.builtin .len,args:= #[x],argTypes:= #[t]}/\opB env x=b:=by
 unfold lnB at q;split at q
 .rename_i e a;split at q
  .cases q;exact⟨_,e,a,rfl⟩
  .cases q
 .cases q
theorem LnM{α:Type}{e:α->List A}{t et k:Nat}{L:List α}(a:∀w,(underlying t).run P w=.ok (.slice et) w)(q:lnB o env=some (d,t,.mk (.rsl k (L.map e))))
  (k:WO P h0 N all l (up env d (.int .i64 L.length)) H Q)(hg:Qx all o env true:=by exact rfl)(hN:Nat.blt d N=true:=by exact rfl):WO P h0 N all (o::l) env H Q:=by
 obtain⟨x,g,b,f⟩:=QoX q;exact QM hg g hN (YM a b rfl (QH f)) k
end
section
variable {P:Program}{h0 N:Nat}{all:Array Oper}{env env':Env}{H H':Qc}{Q:QE}{c c':Code}
theorem Nx(h:TC P h0 N c env H Q):WO P h0 N all [] env H (Seq P h0 N c Q):=WO.nil (Qlo h)
theorem Rg{id:Nat}{l:List Oper}(h:WO P h0 N l.toArray l env H (Seq P h0 N c Q)):TC P h0 N (.seq (.region id l.toArray false) c) env H Q:=TC.seq (TC.region h)
theorem SkN(h:TC P h0 N c env H Q):TC P h0 N .skip env H (Seq P h0 N c Q):=TC.skip (Qlo h)
theorem ExX{id:Nat}(h:Q (.exit id) env H):TC P h0 N (.exit id) env H (Seq P h0 N c Q):=TC.exit (seqX h)
theorem Oi{α:Type}{x y:α}(h:some x=some y):x=y:=X8 h
theorem Bd{α β:Type}{x:Option α}{f:α->Option β}{r:β}{G:Prop}(h:x.bind f=some r)(k:∀a,x=some a->f a=some r->G):G:=by
 obtain⟨a,b,d⟩:=Yy h;exact k a b d
theorem If{α:Type}{c:Bool}{x y:Option α}{r:α}{G:Prop}(h:(bif c then x else y)=some r)(t:c=true->x=some r->G)(e:c=false->y=some r->G):G:=by
 cases c with
 |true=>exact t rfl h
 |false=>exact e rfl h
theorem Cn{α:Type}{x:Operand}{t:Bool}{p q:Option α}{r:α}(hx:opB env x=.mk (.bool t))(h:(bif t then p else q)=some r)(ht:t=true->p=some r->TC P h0 N c env H Q)(hf:t=false->q=some r->TC P h0 N c' env H Q):TC P h0 N (.cond x c c') env H Q:=
 TC.cond (QH hx) (λe=>ht e (ifT e h)) (λe=>hf e (ifF e h))
theorem QW{α:Type}{x:Operand}{t:Bool}{p q:Option α}{r:α}(hx:opB env x=.mk (.bool t))(h:(bif t then p else q)=some r)(hf:t=false->q=some r->TC P h0 N c' env H Q)(ht:t=true->p=some r->TC P h0 N c env H Q):TC P h0 N (.cond x c c') env H Q:=
 TC.cond (QH hx) (λe=>ht e (ifT e h)) (λe=>hf e (ifF e h))
theorem Lr(π:List Nat)(a:π.take h0=List.range h0:=by exact rfl)(hH:π.map (λp=>H[p]?)=(H'.map (Q9 (rho π H.length))).map some:=by exact rfl)(hπ:π.Nodup:=by decide)
  (hE:Qfn (rho π H.length) env env':=by(repeat' (first|exact trivial|refine⟨rfl,?_⟩))):Le h0 env H env' H':=Qpi π a hH hπ hE
end
end Go.Sw
namespace Go.Sw
def Ev{α:Type}(f:Nat->Option α)(v:α):Prop:=∃N,∀n,N<=n->f n=some v
section
variable {α β:Type}{f g:Nat->Option α}{v w:α}
theorem Qa(v:α):Ev (λ_=>some v) v:=⟨0,λ_ _=>rfl⟩
theorem Ev.const{o:Option α}(h:o=some v):Ev (λ_=>o) v:=⟨0,λ_ _=>h⟩
theorem Ev.bind{k:Nat->α->Option β}{b:β}(h:Ev f v)(a:Ev (λn=>k n v) b):Ev (λn=>(f n).bind (k n)) b:=by
 obtain⟨N,h⟩:=h;obtain⟨M,a⟩:=a;exact⟨max N M,λn d=>by show(f n).bind (k n)=some b;rw[h n (by omega),XR];exact a n (by omega)⟩
theorem Jz{o:Option α}{k:Nat->α->Option β}{b:β}(h:o=some v)(hk:Ev (λn=>k n v) b):Ev (λn=>o.bind (k n)) b:=Ev.bind (Ev.const h) hk
theorem Qpk{c:Bool}(a:c=true->Ev f v)(b:c=false->Ev g v):Ev (λn=>bif c then f n else g n) v:=by
 cases c with
 |true=>exact a rfl
 |false=>exact b rfl
theorem YE{c:Bool}(a:c=true->Ev f v)(b:c=false->Ev g w):Ev (λn=>bif c then f n else g n) (bif c then v else w):=by
 cases c with
 |true=>exact a rfl
 |false=>exact b rfl
theorem Qga(h:Ev f v):Ev (λn=>bif true then f n else g n) v:=h
theorem QK(h:Ev g v):Ev (λn=>bif false then f n else g n) v:=h
theorem Ev.and{c d:Bool}{h:Nat->Option Bool}(a:c=true->Ev h d):Ev (λn=>bif c then h n else some false) (c&&d):=by
 cases c with
 |true=>exact a rfl
 |false=>exact Qa _
theorem Qf{c d:Bool}{h:Nat->Option Bool}(a:c=false->Ev h d):Ev (λn=>bif c then some true else h n) (c||d):=by
 cases c with
 |true=>exact Qa _
 |false=>exact a rfl
theorem Ev.eq(h:Ev f v)(e:v=w):Ev f w:=e▸h
theorem Qib(h:Ev f v)(e:∀n,g n=f n):Ev g v:=by
 obtain⟨N,h⟩:=h;exact⟨N,λn a=>by rw[e];exact h n a⟩
theorem Yf(h:Ev (λn=>f (n+1)) v):Ev f v:=by
 obtain⟨N,h⟩:=h;refine⟨N+1,λn a=>?_⟩;obtain⟨m,rfl⟩:∃m,n=m+1:=⟨n-1,by omega⟩;exact h m (by omega)
theorem Ev.ex(h:Ev f v):∃n,f n=some v:=let⟨N,h⟩:=h;⟨N,h N (X2 _)⟩
theorem Ev.uniq(h:Ev f v)(k:Ev f w):v=w:=by
 obtain⟨N,h⟩:=h;obtain⟨M,k⟩:=k;have a:=h (max N M) (by omega);rw[k (max N M) (by omega)]at a;exact(X8 a).symm
theorem Ev.all{k:Nat}{F:Nat->Nat->Option α}{V:Nat->α}(h:∀i,i<k->Ev (F i) (V i)):∃N,∀n,N<=n->∀i,i<k->F i n=some (V i):=by
 induction k with
 |zero=>exact⟨0,λn _ i a=>absurd a (Xo _)⟩
 |succ k b=>
  obtain⟨N,d⟩:=b λi a=>h i (by omega);obtain⟨M,e⟩:=h k (by omega);refine⟨max N M,λn f i a=>?_⟩;rcases Xq.1 a with q|rfl
  .exact d n (by omega) i q
  .exact e n (by omega)
end
section
variable {S B α:Type}{step:Nat->S->Option (Ctl S B)}
theorem Ev.iter{s0:S}(a:Nat->S)(k:Nat){b:B}(h0:a 0=s0)(g:∀i,i<k->Ev (λn=>step n (a i)) (.cont (a (i+1))))(e:Ev (λn=>step n (a k)) (.done b)):
  Ev (λn=>Go.Sw.iter (step n) n s0) b:=by
 obtain⟨N,f⟩:=Ev.all g;obtain⟨M,h⟩:=e;exact⟨max (max N M) (k+1),λn j=>QlY s0 a b k h0 (λi d=>f n (by omega) i d) (h n (by omega)) n (by omega)⟩
theorem Qbd{step:S->Option (Ctl S B)}{s:S}{b:B}(m:Nat)(h:Go.Sw.iter step m s=some b):Ev (λn=>Go.Sw.iter step n s) b:=by
 have mono:∀m s,Go.Sw.iter step m s=some b->∀n,m<=n->Go.Sw.iter step n s=some b:=by
  intro m
  induction m with
  |zero=>intro s h;cases h
  |succ m f=>
   intro s h n d;obtain⟨a,rfl⟩:∃a,n=a+1:=⟨n-1,by omega⟩;simp only[Go.Sw.iter]at h⊢;cases e:step s with
   |none=>rw[e]at h;cases h
   |some c=>
    rw[e]at h;cases c with
    |cont g=>exact f g h a (by omega)
    |done i=>exact h
 exact⟨m,λn d=>mono m s h n d⟩
structure At (l:List α) (i:Nat) (x:α):Prop where
 get:l[i]?=some x
 lt:decide ((i:Int)<(l.length:Int))=true
 ix:idx l (i:Int)=some x
 nx:IntKind.i64.wrap ((i:Int)+1)=((i+1:Nat):Int)
theorem JA{l:List α}{i:Nat}{x:α}(b:l.length<=4611686018427387904)(h:l[i]?=some x):At l i x:=by
 have a:=(XT.1 h).1;exact⟨h,decide_eq_true (by omega),Qq h,YQ (by omega)⟩
theorem At.mem{l:List α}{i:Nat}{x:α}(h:At l i x):x∈l:=List.mem_of_getElem? h.get
theorem At.lt'{l:List α}{i:Nat}{x:α}(h:At l i x):i<l.length:=(XT.1 h.get).1
theorem At.take{l:List α}{i:Nat}{x:α}(h:At l i x):l.take (i+1)=l.take i++[x]:=by
 rw[List.take_add_one,h.get];rfl
theorem Yt(l:List α):decide ((l.length:Int)<(l.length:Int))=false:=decide_eq_false (by omega)
theorem Y7{s0:S}(l:List α)(q:α->Bool)(d:Nat->S)(u b:B)(s:l.length<=4611686018427387904)(h0:d 0=s0)
  (t:∀i x,At l i x->q x=false->Ev (λn=>step n (d i)) (.cont (d (i+1))))
  (f:∀i x,At l i x->q x=true->Ev (λn=>step n (d i)) (.done u))
  (F:Ev (λn=>step n (d l.length)) (.done b)):Ev (λn=>Go.Sw.iter (step n) n s0) (bif l.any q then u else b):=by
 have r:∀k,k<=l.length->(∀i x,l[i]?=some x->i<k->q x=false)\/ ∃i x,l[i]?=some x/\i<k/\q x=true/\ ∀j y,l[j]?=some y->j<i->q y=false:=by
  intro k
  induction k with
  |zero=>intro _;exact .inl λi x _ a=>absurd a (Xo _)
  |succ k E=>
   intro L;rcases E (by omega)with h|⟨i,x,m,J,p⟩
   .have w:l[k]?=some l[k]:=XS (by omega);cases e:q l[k]with
    |true=>exact .inr ⟨k,_,w,Xp _,e,h⟩
    |false=>
     refine .inl λi x f a=>?_;rcases Xq.1 a with z|rfl
     .exact h i x f z
     .rw[w]at f;cases f;exact e
   .exact .inr ⟨i,x,m,by omega,p⟩
 rcases r l.length (X2 _)with h|⟨i,x,m,J,p,H⟩
 .have:l.any q=false:=by
   rw[Bool.eq_false_iff];intro e;obtain⟨x,f,e⟩:=Xy.1 e;obtain⟨i,a,rfl⟩:=List.getElem_of_mem f;rw[h i _ (XS a) a]at e;cases e
  rw[this];exact Ev.iter d l.length h0 (λi a=>t i _ (JA s (XS a)) (h i _ (XS a) a)) F
 .have:l.any q=true:=Xy.2 ⟨x,List.mem_of_getElem? m,p⟩;rw[this];refine Ev.iter d i h0 (λj G=>?_) (f i x (JA s m) p);have g:l[j]?=some l[j]:=XS (by omega);exact t j _ (JA s g) (H j _ g G)
theorem Qbq{β:Type}{s0:S}(l:List α)(g:β->α->β)(b:β)(d:β->Nat->S)(e:β->B)(m:l.length<=4611686018427387904)(h0:d b 0=s0)
  (k:∀i x a,At l i x->a=(l.take i).foldl g b->Ev (λn=>step n (d a i)) (.cont (d (g a x) (i+1))))
  (j:Ev (λn=>step n (d (l.foldl g b) l.length)) (.done (e (l.foldl g b)))):Ev (λn=>Go.Sw.iter (step n) n s0) (e (l.foldl g b)):=by
 refine Ev.iter (λi=>d ((l.take i).foldl g b) i) l.length (by simpa using h0) (λi h=>?_) (by simpa using j);have f:=JA (x:=l[i]) m (XS h);have:=k i _ _ f rfl;rw[f.take,XK];exact this
theorem Ev.contains(l:List α)(q:α->Bool)(g:Nat->α->Option Bool)(u:l.length<=4611686018427387904)(hg:∀x∈l,Ev (λn=>g n x) (q x)):
  Ev (λn=>(((Go.Sw.iter (λs:Int=>bif decide (s<(l.length:Int))then(idx l s).bind λx=>(g n x).bind λr=>(bif r then some (Ctl.done (Ctl.done s))else some (Ctl.cont (IntKind.i64.wrap (s+1))))else some (Ctl.done (Ctl.cont ()))) n (0:Int):Option (Ctl Unit Int)).bind λb=>
   match b with
   |.cont _=>some (-1)
   |.done s=>some s):Option Int).bind λr=>some (decide (0<=r))) (l.any q):=by
 cases e:l.any q with
 |false=>
  refine Ev.bind (v:=(-1:Int)) (Ev.bind (v:=Ctl.cont ()) (Ev.iter (λi=>(i:Int)) l.length rfl (λi d=>?_) ?_) (Qa _)) (Qa _)
  .have a:=JA (x:=l[i]) u (XS d);simp only[a.lt,cond_true,a.ix,XR];have E:q l[i]=false:=by
    rw[Bool.eq_false_iff];intro h;rw[Xy.2 ⟨_,a.mem,h⟩]at e;cases e
   refine Ev.bind ((hg _ a.mem).eq E) ?_;simp only[cond_false,a.nx];exact Qa _
  .simp only[Yt,cond_false];exact Qa _
 |true=>
  obtain⟨x,f,h⟩:=Xy.1 e;have t:∀k,k<=l.length->(∀(i:Nat) (x:α),l[i]?=some x->i<k->q x=false)\/ ∃(i:Nat) (x:α),l[i]?=some x/\i<k/\q x=true/\ ∀(j:Nat) (y:α),l[j]?=some y->j<i->q y=false:=by
   intro k
   induction k with
   |zero=>intro _;exact .inl λi x _ d=>absurd d (Xo _)
   |succ k B=>
    intro J;rcases B (by omega)with h|⟨i,x,p,H,w⟩
    .have hg:l[k]?=some l[k]:=XS (by omega);cases e:q l[k]with
     |true=>exact .inr ⟨k,_,hg,Xp _,e,h⟩
     |false=>
      refine .inl λi x f d=>?_;rcases Xq.1 d with z|rfl
      .exact h i x f z
      .rw[hg]at f;cases f;exact e
    .exact .inr ⟨i,x,p,by omega,w⟩
  rcases t l.length (X2 _)with G|⟨i,x,p,H,w,F⟩
  .obtain⟨j,m,rfl⟩:=List.getElem_of_mem f;rw[G j _ (XS m) m]at h;cases h
  .refine Ev.bind (v:=(i:Int)) (Ev.bind (v:=Ctl.done (i:Int)) (Ev.iter (λi=>(i:Int)) i rfl (λj m=>?_) ?_) (Qa _)) ?_
   .have a:=JA (x:=l[j]) u (XS (by omega));simp only[a.lt,cond_true,a.ix,XR];refine Ev.bind ((hg _ a.mem).eq (F j _ a.get m)) ?_;simp only[cond_false,a.nx];exact Qa _
   .have a:=JA u p;simp only[a.lt,cond_true,a.ix,XR];refine Ev.bind ((hg _ a.mem).eq w) ?_;exact Qa _
   .rw[decide_eq_true (by omega)];exact Qa _
end
section
variable {S B α:Type}{step:Nat->S->Option (Ctl S B)}
theorem QgT{s0:S}(b:Nat->S)(k:Nat)(R:Nat->B)(h0:b 0=s0)(p:∀i,i<k->(Ev (λn=>step n (b i)) (.cont (b (i+1)))/\R i=R (i+1))\/Ev (λn=>step n (b i)) (.done (R i)))
  (l:Ev (λn=>step n (b k)) (.done (R k))):Ev (λn=>Go.Sw.iter (step n) n s0) (R 0):=by
 have f:∀m,m<=k->(∀i,i<m->Ev (λn=>step n (b i)) (.cont (b (i+1)))/\R i=R (i+1))\/ ∃j,j<m/\(∀i,i<j->Ev (λn=>step n (b i)) (.cont (b (i+1)))/\R i=R (i+1))/\Ev (λn=>step n (b j)) (.done (R j)):=by
  intro m
  induction m with
  |zero=>intro _;exact .inl λi a=>absurd a (Xo _)
  |succ m e=>
   intro s;rcases e (by omega)with h|⟨j,g,d⟩
   .rcases p m (by omega)with q|q
    .refine .inl λi a=>?_;rcases Xq.1 a with z|rfl
     .exact h i z
     .exact q
    .exact .inr ⟨m,Xp _,h,q⟩
   .exact .inr ⟨j,by omega,d⟩
 have same:∀m,(∀i,i<m->R i=R (i+1))->R 0=R m:=by
  intro m
  induction m with
  |zero=>intro _;rfl
  |succ m e=>intro h;exact(e λi a=>h i (by omega)).trans (h m (Xp _))
 rcases f k (X2 _)with h|⟨j,g,d,r⟩
 .rw[same k λi a=>(h i a).2];exact Ev.iter b k h0 (λi a=>(h i a).1) l
 .rw[same j λi a=>(d i a).2];exact Ev.iter b j h0 (λi a=>(d i a).1) r
theorem At.drop{l:List α}{i:Nat}{x:α}(h:At l i x):l.drop i=x::l.drop (i+1):=by
 have:=h.lt';rw[Xs this,(XT.1 h.get).2]
theorem Qbp{s0:S}(l:List α)(st:Nat->S)(R:Nat->B)(hl:l.length<=4611686018427387904)(h0:st 0=s0)
  (hc:∀i x,At l i x->(Ev (λn=>step n (st i)) (.cont (st (i+1)))/\R i=R (i+1))\/Ev (λn=>step n (st i)) (.done (R i)))
  (hd:Ev (λn=>step n (st l.length)) (.done (R l.length))):Ev (λn=>Go.Sw.iter (step n) n s0) (R 0):=
 QgT st l.length R h0 (λi hi=>hc i _ (JA hl (XS hi))) hd
end
section
variable {α β:Type} [DecidableEq α]
theorem Ja(p:α×β)(l:List (α×β))(k:α):YV (p::l) k=if p.1=k then some p.2 else YV l k:=by
 unfold YV;by_cases h:p.1=k<;>simp[List.find?_cons,h]
theorem Qj6(p:α×β)(l:List (α×β))(k:α)(v:β):Q5 (p::l) k v=if p.1=k then(p.1,v)::l.map (λq=>bif decide (q.1=k)then(q.1,v)else q)else p::Q5 l k v:=by
 unfold Q5;by_cases h:p.1=k
 .simp[h]
 .simp only[List.any_cons,h,decide_false,Bool.false_or,if_false,Vs,cond_false];cases l.any λp=>decide (p.1=k)<;>simp
theorem QlU(l:List (α×β))(k a:α)(v:β)(h:a≠k):YV (l.map λq=>bif decide (q.1=k)then(q.1,v)else q) a=YV l a:=by
 induction l with
 |nil=>rfl
 |cons p l b=>
  rw[Vs,Ja,Ja,b];by_cases e:p.1=k
  .have:¬k=a:=λq=>h q.symm;simp[e,this]
  .simp[e]
theorem Qdd(l:List (α×β))(k a:α)(v:β):YV (Q5 l k v) a=if a=k then some v else YV l a:=by
 induction l with
 |nil=>
  show YV ([]++[(k,v)]) a=_;rw[Vq,Ja];by_cases h:a=k
  .subst h;simp
  .rw[if_neg λq=>h q.symm,if_neg h]
 |cons p l b=>
  rw[Qj6];by_cases e:p.1=k
  .rw[if_pos e,Ja,Ja];by_cases h:a=k
   .subst h;simp[e]
   .have:p.1≠a:=λq=>h (q.symm.trans e);simp only[this,if_false,h];exact QlU l k a v h
  .rw[if_neg e,Ja,Ja,b];by_cases h:p.1=a
   .rw[if_pos h,if_neg λq=>e (h.trans q),if_pos h]
   .rw[if_neg h,if_neg h]
theorem Qj7(k:α)(z:β):QI ([]:List (α×β)) k z=z:=rfl
theorem Qce(l:List (α×β))(k a:α)(v z:β):QI (Q5 l k v) a z=if a=k then v else QI l a z:=by
 unfold QI;rw[Qdd];by_cases h:a=k<;>simp[h]
theorem QbU(l:List (α×β))(k:α)(v:β):(Q5 l k v).map (·.1)=if k∈l.map (·.1)then l.map (·.1)else l.map (·.1)++[k]:=by
 unfold Q5;have e:(l.any λp=>decide (p.1=k))=decide (k∈l.map (·.1)):=by
  rw[X7];simp only[Xy,decide_eq_true_eq,Xf]
 rw[e];by_cases h:k∈l.map (·.1)
 .rw[decide_eq_true h,if_pos h,cond_true,List.map_map];apply List.map_congr_left;intro p _;simp only[Function.comp];cases decide (p.1=k)<;>rfl
 .rw[decide_eq_false h,if_neg h,cond_false,Xg];rfl
def Yo{γ:Type}(key:γ->α)(v:β)(l:List γ):List (α×β):=l.foldl (λm x=>Q5 m (key x) v) []
theorem Qgo{γ:Type}(key:γ->α)(v:β)(l:List γ)(x:γ):Yo key v (l++[x])=Q5 (Yo key v l) (key x) v:=by
 unfold Yo;rw[XK];rfl
theorem Qdu{γ:Type}(key:γ->α)(v z:β)(l:List γ)(k:α):QI (Yo key v l) k z=if k∈l.map key then v else z:=by
 have a:∀(l:List γ) (m:List (α×β)),QI (l.foldl (λm x=>Q5 m (key x) v) m) k z=if k∈l.map key then v else QI m k z:=by
  intro l
  induction l with
  |nil=>intro m;simp
  |cons x l b=>
   intro m;rw[XL,b,Qce];by_cases h:k∈l.map key
   .rw[if_pos h,if_pos (by simp only[Vs];exact Ve _ h)]
   .rw[if_neg h];by_cases e:k=key x
    .rw[if_pos e,if_pos (by simp[e])]
    .rw[if_neg e,if_neg (by simp only[Vs,Vf,not_or];exact⟨e,h⟩)]
 exact a l []
theorem Qb3{γ:Type}(key:γ->α)(v:β)(l:List γ):(Yo key v l).length<=l.length/\((Yo key v l).length=l.length↔(l.map key).Nodup):=by
 have i:∀(l:List γ) (m:List (α×β)),(m.map (·.1)).Nodup->(l.foldl (λm x=>Q5 m (key x) v) m).length<=m.length+l.length/\((l.foldl (λm x=>Q5 m (key x) v) m).length=m.length+l.length↔(m.map (·.1)++l.map key).Nodup):=by
  intro l
  induction l with
  |nil=>intro m g;simpa using g
  |cons x l k=>
   intro m g;have f:=QbU m (key x) v;have d:(Q5 m (key x) v).length=((Q5 m (key x) v).map (·.1)).length:=by simp
   by_cases h:key x∈m.map (·.1)
   .rw[if_pos h]at f;obtain⟨p,j⟩:=k (Q5 m (key x) v) (by rw[f];exact g);have e:(Q5 m (key x) v).length=m.length:=by rw[d,f];simp
    rw[XL];refine⟨by simp only[X9];omega,⟨λq=>?_,λq=>?_⟩⟩
    .simp only[X9]at q;omega
    .exfalso;have:=(List.nodup_append.1 q).2.2 _ h (key x) (by simp);exact this rfl
   .rw[if_neg h]at f;have r:((Q5 m (key x) v).map (·.1)).Nodup:=by
     rw[f];refine List.nodup_append.2 ⟨g,by simp,?_⟩;intro a s b n e;simp only[List.mem_singleton]at n;exact h (by rw[<- n, <- e];exact s)
    obtain⟨p,j⟩:=k (Q5 m (key x) v) r;have e:(Q5 m (key x) v).length=m.length+1:=by rw[d,f];simp
    rw[XL];refine⟨by simp only[X9];omega,?_⟩;rw[f]at j;rw[show m.length+(x::l).length=(Q5 m (key x) v).length+l.length by rw[e];simp;omega,j];simp[Vr]
 have:=i l [] (by simp);simpa[Yo]using this
end
theorem Jj{α:Type}(l:List α)(p:α->Bool)(g:Nat->α->Option Bool)(d:l.length<=4611686018427387904)(hg:∀x∈l,Ev (λn=>g n x) (p x)):
  Ev (λn=>((((Go.Sw.iter (λs:Int=>bif decide (s<(l.length:Int))then(idx l s).bind λx=>((g n x).bind λr1=>some (!r1)).bind λr=>(bif r then some (Ctl.done (Ctl.done s))else some (Ctl.cont (IntKind.i64.wrap (s+1))))else some (Ctl.done (Ctl.cont ()))) n (0:Int):Option (Ctl Unit Int)).bind λb=>
   match b with
   |.cont _=>some (-1)
   |.done s=>some s):Option Int).bind λr=>some (decide (0<=r)):Option Bool).bind λr=>some (!r)) (l.all p):=by
 refine Ev.bind (Ev.contains l (λx=> !p x) (λn x=>(g n x).bind λr1=>some (!r1)) d λx a=>Ev.bind (hg x a) (Qa _)) ((Qa _).eq ?_);rw[List.not_any_eq_all_not];simp
def QkA{α κ:Type}[DecidableEq κ](ok:α->Bool)(key:α->κ):List κ->List α->Bool
 |_,[]=>true
 |seen,x::r=>ok x&& !seen.contains (key x)&&QkA ok key (seen++[key x]) r
theorem QjC{α κ:Type}[DecidableEq κ](ok:α->Bool)(key:α->κ):∀(l:List α) (d:List κ),d.Nodup->QkA ok key d l=(l.all ok&&decide ((d++l.map key).Nodup))
 |[],d,h=>by simp[QkA,h]
 |x::r,d,h=>by
  simp only[QkA,List.all_cons,Vs];by_cases hk:key x∈d
  .have:¬(d++key x::r.map key).Nodup:=by
    intro q;exact(List.nodup_append.1 q).2.2 _ hk (key x) (by simp) rfl
   simp[hk,this]
  .have i:(d++[key x]).Nodup:=by
    refine List.nodup_append.2 ⟨h,by simp,?_⟩;intro a g b f e;simp only[List.mem_singleton]at f;exact hk (by rw[<- f, <- e];exact g)
   rw[QjC ok key r _ i];have:(d.contains (key x))=false:=by simpa using hk
   rw[this];simp[Bool.and_assoc]
theorem Qm7{α κ B:Type}[DecidableEq κ]{step:Nat->Int->Option (Ctl Int B)}(l:List α)(ok:α->Bool)(key:α->κ)(d b:B)(k:l.length<=4611686018427387904)
  (j:∀i x,At l i x->ok x=true->((l.take i).map key).contains (key x)=false->Ev (λn=>step n (i:Int)) (.cont ((i+1:Nat):Int)))
  (m:∀i x,At l i x->ok x=false->Ev (λn=>step n (i:Int)) (.done d))
  (p:∀i x,At l i x->ok x=true->((l.take i).map key).contains (key x)=true->Ev (λn=>step n (i:Int)) (.done d))
  (h:Ev (λn=>step n (l.length:Int)) (.done b)):Ev (λn=>Go.Sw.iter (step n) n 0) (bif l.all ok&&decide ((l.map key).Nodup)then b else d):=by
 have e:=QjC ok key l [] (by simp);rw[Vq]at e;rw[<- e];refine Qbp l (λi=>(i:Int)) (λi=>bif QkA ok key ((l.take i).map key) (l.drop i)then b else d) k rfl (λi x a=>?_) ?_
 .rw[a.drop];simp only[QkA];rw[show(l.take i).map key++[key x]=(l.take (i+1)).map key by rw[a.take];simp];cases f:ok x with
  |false=>exact .inr (by simpa using m i x a f)
  |true=>
   cases g:((l.take i).map key).contains (key x)with
   |true=>exact .inr (by simpa using p i x a f g)
   |false=>exact .inl ⟨j i x a f g,by simp⟩
 .rw[Xv];exact h
theorem Qia{α κ B:Type}[DecidableEq κ]{step:Nat->Int->Option (Ctl Int B)}(l:List α)(i:Nat)(key:α->κ)(k:κ)(q b:B)(t:l.length<=4611686018427387904)(hi:i<=l.length)
  (s:∀j y,j<i->At l j y->decide (key y=k)=false->Ev (λn=>step n (j:Int)) (.cont ((j+1:Nat):Int)))
  (w:∀j y,j<i->At l j y->decide (key y=k)=true->Ev (λn=>step n (j:Int)) (.done q))
  (r:Ev (λn=>step n (i:Int)) (.done b)):Ev (λn=>Go.Sw.iter (step n) n 0) (bif ((l.take i).map key).contains k then q else b):=by
 have e:((l.take i).map key).contains k=(l.take i).any λy=>decide (key y=k):=by
  rw[X7];simp only[List.contains_eq_mem,decide_eq_true_eq,Xf,Xy]
 rw[e];have f:(l.take i).length=i:=by simp;omega
 have g:∀j y,At (l.take i) j y->j<i/\At l j y:=by
  intro j y d;have u:=d.lt';have a:=d.get;rw[List.getElem?_take]at a;split at a
  .exact⟨by omega,JA t a⟩
  .cases a
 refine Y7 (l.take i) (λy=>decide (key y=k)) (λi=>(i:Int)) _ _ (by omega) rfl (λj y d m=>?_) (λj y d m=>?_) ?_
 .obtain⟨h,p⟩:=g j y d;exact s j y h p m
 .obtain⟨h,p⟩:=g j y d;exact w j y h p m
 .rw[f];exact r
theorem Qbr{α κ β:Type}[DecidableEq κ]{step:Nat->List (κ×β)×Int->Option (Ctl (List (κ×β)×Int) (List (κ×β)))}(l:List α)(key:α->κ)(v:β)(hl:l.length<=4611686018427387904)
  (hc:∀i x m,At l i x->Ev (λn=>step n (m,(i:Int))) (.cont (Q5 m (key x) v,((i+1:Nat):Int))))
  (hd:∀m,Ev (λn=>step n (m,(l.length:Int))) (.done m)):Ev (λn=>Go.Sw.iter (step n) n ([],0)) (Yo key v l):=
 Qbq l (λm x=>Q5 m (key x) v) [] (λm i=>(m,(i:Int))) (λm=>m) hl rfl (λi x m ha _=>hc i x m ha) (hd _)
theorem Ev.shift{α:Type}{f:Nat->Option α}{v:α}(h:Ev f v):Ev (λn=>f (n+1)) v:=by
 obtain⟨N,h⟩:=h;exact⟨N,λn a=>h (n+1) (by omega)⟩
def EvI{S B:Type}(step:Nat->S->Option (Ctl S B))(s:S)(b:B):Prop:=∃N,∀n k,N<=n->N<=k->Go.Sw.iter (step n) k s=some b
section
variable {S B:Type}{step:Nat->S->Option (Ctl S B)}{s s':S}{b:B}
theorem EvI.done(h:Ev (λn=>step n s) (.done b)):EvI step s b:=by
 obtain⟨N,h⟩:=h;refine⟨N+1,λn k d e=>?_⟩;obtain⟨a,rfl⟩:∃a,k=a+1:=⟨k-1,by omega⟩;have:=h n (by omega);simp only[Go.Sw.iter,this]
theorem EvI.cont(h:Ev (λn=>step n s) (.cont s'))(q:EvI step s' b):EvI step s b:=by
 obtain⟨N,h⟩:=h;obtain⟨M,q⟩:=q;refine⟨max N M+1,λn k d e=>?_⟩;obtain⟨a,rfl⟩:∃a,k=a+1:=⟨k-1,by omega⟩;have:=h n (by omega);simp only[Go.Sw.iter,this];exact q n a (by omega) (by omega)
theorem EvI.ev(h:EvI step s b):Ev (λn=>Go.Sw.iter (step n) n s) b:=by
 obtain⟨N,h⟩:=h;exact⟨N,λn a=>h n n a a⟩
theorem EvI.eq{b':B}(h:EvI step s b)(e:b=b'):EvI step s b':=e▸h
end
theorem Qp{α:Type}{l r:List α}{i:Nat}{x:α}(b:l.length<=4611686018427387904)(h:l.drop i=x::r):At l i x/\l.drop (i+1)=r:=by
 have a:l[i]?=some x:=by
  have:=congrArg (λl=>l[0]?) h;simpa using this
 refine⟨JA b a,?_⟩;have:=(JA b a).drop;rw[h]at this;exact(List.cons.inj this).2.symm
theorem QU{α:Type}{l:List α}{i:Nat}(h:l.drop i=[])(hi:i<=l.length):decide ((i:Int)<(l.length:Int))=false:=by
 have:=Xu.1 h;exact decide_eq_false (by omega)
end Go.Sw
namespace Go.Sw
theorem Z.{u}{α:Sort u}{a:α}:a=a:=rfl
section
variable {P:Program}{h0 N:Nat}{all:Array Oper}{env:Env}{H H':Qc}{Q:QE}{l:List Oper}{o:Oper}{d:Nat}
theorem aV(x:A)(H:Qc){x':A}{H':Qc}(a:x'=x)(b:H'=H)(k:WO P h0 N all l (up env d x) H Q):WO P h0 N all l (up env d x') H' Q:=by subst a;subst b;exact k
theorem vX(x:A)(a:OpV P o env H x)(k:WO P h0 N all l (up env d x) H Q)(hg:Qx all o env true:=by exact rfl)(hd:o.dst=some d:=by exact rfl)(hN:Nat.blt d N=true:=by exact rfl):WO P h0 N all (o::l) env H Q:=
 QM hg hd hN a k
theorem Wp:WO P h0 N all [] env H (Jd env H):=WO.nil Jd.mk
end
end Go.Sw
namespace Go.Sw
section
variable {P:Program}{o:Oper}{env:Env}{H:Qc}
theorem Qoc{ro:Nat->Prop}{σ:Sig}{w:World}(g:GP w){b:Nat}{zs:List Int}(h:Qir[b]?=some zs):∀(i:Nat),CR ro σ w b ((zs.drop i).map (A.int .i64)) i:=by
 intro i;generalize hl:zs.drop i=l
 induction l generalizing i with
 |nil=>trivial
 |cons z l d=>
  have e:zs[i]?=some z:=by
   have:=congrArg (·[0]?) hl;simpa using this
  have a:zs.drop (i+1)=l:=by
   rw[<- List.drop_drop,hl];rfl
  exact⟨⟨_,g.tab b zs h i z e,by simp[Qz],rfl⟩,d (i+1) a⟩
theorem Qf6{t n g:Nat}{zs:List Int}(j:∀w,(isAgg t).run P w=.ok true w)(i:∀w,(sizeOf t).run P w=.ok n w)(hg:Qir[g]?=some zs)(e:zs.length=n)(h:o.op=.load t (.global g):=by exact rfl):
  OpV P o env H (.agg (zs.map (A.int .i64))):=by
 intro m ro σ N a w r;obtain⟨l,f,_,d⟩:=YJ (P:=P) (b:=g) (cs:=zs.map (A.int .i64)) (off:=0) 0 (by simpa using Qoc (ro:=ro) (σ:=σ) r.sim.roOk.gp hg 0);have d:=d w #[] rfl;rw[Va,e]at d;refine⟨.agg l.toArray,?_,l,rfl,f⟩;have k:a.eval (.global g)=.pointer (some ⟨g,0,none⟩):=rfl;generalize a.eval=ρ at*;simp[execOp,h,k,Instr.loadAt,Instr.sureAddr,loadVar,j,i,loadCells,d,go_sem]
end
end Go.Sw
namespace Go.Sw
open Go.Proofs
section
variable {P:Program}
def toV(agg:Bool)(l:List Value):Value:=bif agg then .agg l.toArray else l.headD .nilFunc
structure Qk2 (P:Program) (t:TypeId) (h k:Nat) (agg:Bool) (ok:List Value->Prop):Prop where
 len:∀l,ok l->l.length=k
 ia:∀w,(isAgg t).run P w=.ok agg w
 so:∀w,(sizeOf t).run P w=.ok k w
 eq:∀(w:World) (d:Nat) (l m:List Value),ok l->ok m->∃b:Bool,(Op.equalIn (d+h) t (toV agg l) (toV agg m)).run P w=.ok b w/\(b=true↔l=m)
structure Qm8 (P:Program) (fs:List Field) (h off k:Nat) (ok:List Value->Prop):Prop where
 len:∀l,ok l->l.length=k
 eq:∀(w:World) (d:Nat) (p q l m:List Value),p.length=off->q.length=off->ok l->ok m->∃b:Bool,(Op.eqFields (d+h) (p++l).toArray (q++m).toArray fs).run P w=.ok b w/\(b=true↔l=m)
theorem Qk2.int{t:TypeId}{k:IntKind}(e:P.underlying t=some (.int k))(b:∀w,(isAgg t).run P w=.ok false w)(a:∀w,(sizeOf t).run P w=.ok 1 w)(h:Nat):Qk2 P t (h+1) 1 false (λl=>∃n:Int,l=[.int k n]):=by
 refine⟨?_,b,a,?_⟩
 .rintro _ ⟨n,rfl⟩;rfl
 .rintro w d _ _ ⟨n,rfl⟩ ⟨m,rfl⟩;exact⟨_,run_equalIn_int w (d+h) t k k n m e,by simp⟩
theorem Qk2.bool{t:TypeId}(e:P.underlying t=some .bool)(b:∀w,(isAgg t).run P w=.ok false w)(a:∀w,(sizeOf t).run P w=.ok 1 w)(h:Nat):Qk2 P t (h+1) 1 false (λl=>∃n:Bool,l=[.bool n]):=by
 refine⟨?_,b,a,?_⟩
 .rintro _ ⟨n,rfl⟩;rfl
 .rintro w d _ _ ⟨n,rfl⟩ ⟨m,rfl⟩;exact⟨_,run_equalIn_bool' w (d+h) t n m e,by simp⟩
theorem Qm8.nil(h off:Nat):Qm8 P [] h off 0 (λl=>l=[]):=by
 refine⟨?_,?_⟩
 .rintro _ rfl;rfl
 .rintro w d p q _ _ _ _ rfl rfl;exact⟨true,by simp[Op.eqFields],by simp⟩
theorem Qhb{t:TypeId}{k:Nat}{agg:Bool}{w:World}(b:∀w,(isAgg t).run P w=.ok agg w)(f:∀w,(sizeOf t).run P w=.ok k w)(p a g:List Value)(d:a.length=k)(e:agg=false->k=1):
  (part t (p++(a++g)).toArray p.length).run P w=.ok (toV agg a) w:=by
 unfold part;cases agg with
 |true=>
  simp[b,f,go_sem,toV];rw[<- d];simp[List.extract]
 |false=>
  have:=e rfl;subst this
  match a,d with
  |[v],_=>simp[b,go_sem,toV]
theorem Qm8.cons{f:Field}{fs:List Field}{h off n H:Nat}{agg:Bool}{k i:List Value->Prop}(N:Nat.beq f.offset off=true)(J:f.name≠"_")(g:Qk2 P f.type h n agg k)(x:agg=false->n=1)(z:Qm8 P fs h (off+n) H i):
  Qm8 P (f::fs) h off (n+H) (λl=>∃l1 l2,l=l1++l2/\k l1/\i l2):=by
 have t:f.offset=off:=XY N;refine⟨?_,?_⟩
 .rintro _ ⟨l1,l2,rfl,a,b⟩;rw[Vb,g.len _ a,z.len _ b]
 .rintro w d p q _ _ E G ⟨l1,l2,rfl,r,L⟩ ⟨j,s,rfl,m,V⟩;have B:=Qhb (P:=P) (w:=w) g.ia g.so p l1 l2 (g.len _ r) x;have y:=Qhb (P:=P) (w:=w) g.ia g.so q j s (g.len _ m) x;rw[E]at B;rw[G]at y;obtain⟨F,M,R⟩:=g.eq w d l1 j r m;obtain⟨Q,u,O⟩:=z.eq w d (p++l1) (q++j) l2 s (by rw[Vb,E,g.len _ r]) (by rw[Vb,G,g.len _ m]) L V;rw[Vr,Vr]at u;have T:l1.length=j.length:=by rw[g.len _ r,g.len _ m]
  refine⟨F&&Q,?_,?_⟩
  .generalize(p++(l1++l2)).toArray=X at*;generalize(q++(j++s)).toArray=Y at*;cases F<;>simp[Op.eqFields,J,t,Vv,Result.andThen,B,y,M,u]
  .rw[X5,R,O];constructor
   .rintro⟨rfl,rfl⟩;rfl
   .intro e;exact List.append_inj e T
theorem Qk2.struct{t:TypeId}{h k:Nat}{ok:List Value->Prop}(p:P.underlying t=some (.struct (P.fieldsOf t)))(i:P.stoodInHeld t=false)(j:∀w,(isAgg t).run P w=.ok true w)(g:∀w,(sizeOf t).run P w=.ok k w)(e:Qm8 P (P.fieldsOf t).toList h 0 k ok):Qk2 P t (h+1) k true ok:=by
 refine⟨e.len,j,g,λw d l m a b=>?_⟩;obtain⟨r,n,f⟩:=e.eq w d [] [] l m rfl rfl a b;refine⟨r,?_,f⟩;show(Op.equalIn (d+h+1) t (.agg l.toArray) (.agg m.toArray)).run P w=_;rw[run_equalIn_agg w (d+h) t _ _ p i];simpa using n
theorem Qc1{t:TypeId}{h k:Nat}{fs:Array Field}{ok:List Value->Prop}(a:P.underlying t=some (.struct fs))(d:P.stoodInHeld t=false)(f:∀w,(isAgg t).run P w=.ok true w)(b:∀w,(sizeOf t).run P w=.ok k w)(g:Qm8 P fs.toList h 0 k ok):Qk2 P t (h+1) k true ok:=by
 have e:P.fieldsOf t=fs:=by simp[Program.fieldsOf,a]
 exact Qk2.struct (by rw[e];exact a) d f b (by rw[e];exact g)
structure EqD (P:Program) (t:TypeId) {α:Type} (cells:α->List A):Prop where
 scl:∀x,Qed (cells x)=true
 inj:∀x y,Y9 (cells x)=Y9 (cells y)->x=y
 guard:P.eqGuardType P.depth t=false
 eq:∀(w:World) x y,∃b:Bool,(Op.equalIn 10000 t (.agg (Y9 (cells x)).toArray) (.agg (Y9 (cells y)).toArray)).run P w=.ok b w/\(b=true↔Y9 (cells x)=Y9 (cells y))
theorem QjP{α:Type}{cells:α->List A}{t h k:Nat}{ok:List Value->Prop}(E:Qk2 P t h k true ok)(b:Nat.ble h 10000=true)(a:∀x,ok (Y9 (cells x)))(d:∀x,Qed (cells x)=true)(hi:∀x y,Y9 (cells x)=Y9 (cells y)->x=y)(hg:P.eqGuardType P.depth t=false):EqD P t cells:=by
 refine⟨d,hi,hg,λw x y=>?_⟩;have:=E.eq w (10000-h) (Y9 (cells x)) (Y9 (cells y)) (a x) (a y)
 rwa [show 10000-h+h=10000 by have:=XZ b;omega]at this
variable {o:Oper}{env:Env}{H:Qc}
theorem QkT{α:Type}[DecidableEq α]{cells:α->List A}{t u:TypeId}{x y:Operand}{p q:α}(E:EqD P t cells)(s:opA env x=.agg (cells p))(z:opA env y=.agg (cells q))(m:o.op=.binOp .eql t x y u:=by exact rfl):OpV P o env H (.bool (p==q)):=by
 intro B F σ N a w r;have g:=Qk r x;have h:=Qk r y;rw[s]at g;rw[z]at h;have n:=VR.val (a:=.agg (cells p)) (E.scl p) g;have l:=VR.val (a:=.agg (cells q)) (E.scl q) h;obtain⟨b,k,i⟩:=E.eq w p q;have j:b=(p==q):=by
  rw[X7,i,beq_iff_eq];exact⟨E.inj p q,λe=>by rw[e]⟩
 refine⟨.bool (p==q),?_,rfl⟩;rw[<- j];generalize a.eval=ρ at*;have d:ρ x=.agg (Y9 (cells p)).toArray:=n;have f:ρ y=.agg (Y9 (cells q)).toArray:=l;simp[execOp,m,d,f,go_sem,run_eqGuard_agg _ _ _ _ _ _ _ E.guard,run_eql_struct,k]
theorem QkS{α:Type}[DecidableEq α]{cells:α->List A}{t u:TypeId}{x y:Operand}{p q:α}(E:EqD P t cells)(s:opA env x=.agg (cells p))(z:opA env y=.agg (cells q))(m:o.op=.binOp .neq t x y u:=by exact rfl):OpV P o env H (.bool (p != q)):=by
 intro B F σ N a w r;have g:=Qk r x;have h:=Qk r y;rw[s]at g;rw[z]at h;have n:=VR.val (a:=.agg (cells p)) (E.scl p) g;have l:=VR.val (a:=.agg (cells q)) (E.scl q) h;obtain⟨b,k,i⟩:=E.eq w p q;have j:b=(p==q):=by
  rw[X7,i,beq_iff_eq];exact⟨E.inj p q,λe=>by rw[e]⟩
 refine⟨.bool (p != q),?_,rfl⟩;rw[bne, <- j];generalize a.eval=ρ at*;have d:ρ x=.agg (Y9 (cells p)).toArray:=n;have f:ρ y=.agg (Y9 (cells q)).toArray:=l;simp[execOp,m,d,f,go_sem,run_eqGuard_agg _ _ _ _ _ _ _ E.guard,run_neq_struct,k]
end
end Go.Sw
namespace Go.Sw
structure Qe8 (g g':Nat->Prop) (W W':World):Prop where
 sub:∀b,g b->g' b
 new:∀b,g' b->g b\/W.heap.size<=b
 lt:∀b,g' b->b<W'.heap.size
 all:∀b,W.heap.size<=b->b<W'.heap.size->g' b
 keep:∀b,b<W.heap.size->¬g b->W'.heap[b]?=W.heap[b]?
 size:W.heap.size<=W'.heap.size
 shape:∀b x,W.shape? b=some x->W'.shape? b=some x
 os:W'.os=W.os
 tape:W'.tape=W.tape
 output:W'.output=W.output
 drawn:W.drawn<=W'.drawn
abbrev Jv(T:Type):=List T->(Nat->Prop)->(Nat->Prop)->World->Prop
structure Qot {T:Type} (J:Jv T):Prop where
 ev:∀rem q g W W' ro',J rem q g W->Qj g q W ro' W'->J rem q g W'
 up:∀rem q g g' W,J rem q g W->(∀b,g b->g' b)->(∀b,g' b->b<W.heap.size)->J rem q g' W
theorem Sim.round{fr g g' ro:Nat->Prop}{σ:Sig}{H:Qc}{W W':World}(s:Sim fr ro σ H W)(a:∀b,g b->fr b)(k:Qe8 g g' W W'):Sim (λb=>fr b\/g' b) ro σ H W'/\Qj (λb=>b<W.heap.size/\ ¬g b) ro W ro W':=by
 have e:∀b,ro b->W'.heap[b]?=W.heap[b]? :=λb q=>k.keep b (s.roLt b q) (λr=>s.roFr b q (a b r));have m:Ext ro σ W ro σ W':=by
  have ev:Qj (λ_=>False) ro W ro W':=⟨λ_ q=>q,e,λ_ q=>q.elim,k.size,k.shape,k.os,k.tape,k.output,k.drawn⟩;have:=ev.ext σ [];simpa using this
 refine⟨⟨s.len,s.roOk.to (λ_ q=>q) e (λb q=>Vo (s.roLt b q) k.size),λb q=>q.elim (λq=>Vo (s.frLt b q) k.size) (k.lt b),λb q r=>?_,λi b x h f u=>?_,s.inj,λi y x h f=>?_,
  s.hidTo (· = ·) Yc k.size (λ_ _ _ _ _ _ _ q=>q) (λi b x c h f u F=>F.elim id λq=>(k.new c q).elim (a c) λl=>(by have:=(s.hid i b x c h f u).lt;omega)) λj d y n p G=>.inl ⟨j,y,rfl,n,p,id,λc q=>s.hidKeep n p (λz=>k.keep d (s.own j d y n p z).1 λr=>(s.own j d y n p z).2.2 (a d r)) e q⟩⟩,
  ⟨λ_ q=>q,e,λb q=>k.keep b q.1 q.2,k.size,k.shape,k.os,k.tape,k.output,k.drawn⟩⟩
 .rcases r with r|r
  .exact s.roFr b q r
  .rcases k.new b r with l|l
   .exact s.roFr b q (a b l)
   .have:=s.roLt b q;omega
 .obtain⟨B,E,t⟩:=s.own i b x h f u;refine⟨Vo B k.size,E,λr=>?_⟩;rcases r with r|r
  .exact t r
  .rcases k.new b r with l|l
   .exact t (a b l)
   .omega
 .refine(s.blk i y x h f).keep m ?_ ?_
  .rintro b rfl w;obtain⟨B,E,t⟩:=s.own i b x h f w;exact k.keep b B (λr=>t (a b r))
  .rintro b c rfl w;have q:=s.hid i b x c h f w;exact k.keep c q.lt (λr=>q.fr (a c r))
def Qph{T:Type}(J Jx:Jv T)(g ri:Nat->Prop)(W1:World)(rem:List T):Ending->World->Prop:=λe W'=>
 ∃g' q',(∀b,q' b->ri b)/\Qe8 g g' W1 W'/\((e=.returned (.bool true)/\J rem q' g' W')\/(e=.returned (.bool false)/\Jx rem q' g' W'))
structure Ctx (T:Type) where
 l:Nat
 J:Jv T
 Jx:Jv T
 enc:T->List A
 nx:List T->T->List T->Prop
structure Ctx.ok {T:Type} (X:Ctx T) (P:Program):Prop where
 b:Qot X.J
 bx:Qot X.Jx
 round:∀l x rem q g ri W1 vs,X.nx l x rem->X.J l q g W1->(∀b,q b->ri b)->(∀b,ri b->b<W1.heap.size/\ ¬g b)->LR ri [] W1 (X.enc x) vs->YieldAt Fence.wide 0 P X.l vs.toArray W1 (Qph X.J X.Jx g ri W1 rem)
def QdL{T:Type}(P:Program)(f:FuncId)(caps:List A)(H:Qc)(enc:T->List A)(nx:List T->T->List T->Prop)(xs:List T):Prop:=
 ∀(X:Ctx T),X.enc=enc->X.nx=nx->X.ok P->∀fr ro σ w capv q,Sim fr ro σ H w->(∀b,q b->ro b)->LR ro σ w caps capv->X.J xs q fr w->
  Calls P f ((Value.func (.yield X.l) #[] #[]::capv)).toArray w λe W'=>(∃v,e=.returned v)/\ ∃g q',(∀b,fr b->g b)/\((X.J [] q' g W')\/(∃rem,X.Jx rem q' g W'))
inductive YSt (T:Type) where
 |on (rem:List T)
 |off (rem:List T)
def Ctx.J'{T:Type}(X:Ctx T):YSt T->(Nat->Prop)->(Nat->Prop)->World->Prop
 |.on rem=>X.J rem
 |.off rem=>X.Jx rem
def Ctx.at{T:Type}(X:Ctx T)(st:YSt T)(g ro:Nat->Prop)(W:World):Prop:=∃q,(∀b,q b->ro b)/\X.J' st q g W
theorem Qj.roMono{fr ro ro0 ro':Nat->Prop}{w w':World}(h:Qj fr ro w ro' w')(s:∀b,ro0 b->ro b):Qj fr ro0 w ro' w':=
 ⟨λb q=>h.sub b (s b q),λb q=>h.keepRo b (s b q),h.keepFr,h.size,h.shape,h.os,h.tape,h.output,h.drawn⟩
theorem Ctx.ok.ev{T:Type}{X:Ctx T}{P:Program}(h:X.ok P){e:YSt T}{g ro ro':Nat->Prop}{W W':World}(a:X.at e g ro W)(he:Qj g ro W ro' W'):X.at e g ro' W':=by
 obtain⟨q,d,a⟩:=a;refine⟨q,λb z=>he.sub b (d b z),?_⟩;cases e with
 |on rem=>exact h.b.ev rem q g W W' ro' a (he.roMono d)
 |off rem=>exact h.bx.ev rem q g W W' ro' a (he.roMono d)
theorem Ctx.ok.up{T:Type}{X:Ctx T}{P:Program}(h:X.ok P){d:YSt T}{g g' ro:Nat->Prop}{W:World}(a:X.at d g ro W)(hg:∀b,g b->g' b)(e:∀b,g' b->b<W.heap.size):X.at d g' ro W:=by
 obtain⟨q,f,a⟩:=a;refine⟨q,f,?_⟩;cases d with
 |on rem=>exact h.b.up rem q g g' W a hg e
 |off rem=>exact h.bx.up rem q g g' W a hg e
abbrev YC(T:Type):=AEx->Env->Qc->YSt T->Prop
structure In (g fr:Nat->Prop) (ds:List Deferred):Prop where
 sub:∀b,g b->fr b
 beside:∀D,({target:=.collected D,args:= #[]}:Deferred)∈ds->¬g D
def QcW{T:Type}(X:Ctx T)(h0:Nat)(fr ro:Nat->Prop)(σ:Sig)(w:World)(N:Nat)(ds:List Deferred)(Q:YC T):Exit->Act->World->Prop:=
 λe a' w'=>∃x env' H' st ro' σ' fr' g',ExR e x/\Q x env' H' st/\Rel fr' ro' σ' H' env' N a' w'/\(X.at st g' ro' w'/\In g' fr' a'.defers)/\(∀b,ro b->ro' b)/\w.heap.size<=w'.heap.size/\σ'.take h0=σ.take h0/\Grow fr w ds fr' a'.defers
theorem QcW.grow{T:Type}{X:Ctx T}{h0:Nat}{fr d ro f:Nat->Prop}{σ σ1:Sig}{w l:World}{N:Nat}{k g:List Deferred}{Q:YC T}{e:Exit}{a':Act}{w':World}
  (h:QcW X h0 d f σ1 l N g Q e a' w')(r:∀b,ro b->f b)(m:w.heap.size<=l.heap.size)(z:σ1.take h0=σ.take h0)(hg:Grow fr w k d g):QcW X h0 fr ro σ w N k Q e a' w':=by
 obtain⟨x,a,H',s,j,σ',i,G,n,F,E,p,u,t,y,B⟩:=h;exact⟨x,a,H',s,j,σ',i,G,n,F,E,p,λb q=>u b (r b q),X4 m t,y.trans z,hg.trans m B⟩
def TCy{T:Type}(X:Ctx T)(P:Program)(h0 N:Nat)(c:Code)(env:Env)(H:Qc)(st:YSt T)(Q:YC T):Prop:=
 X.ok P->∀rd fr ro σ a w g,Rel fr ro σ H env N a w->X.at st g ro w/\In g fr a.defers->rd=none->c.wpIn (WF rd) 0 P (QcW X h0 fr ro σ w N a.defers Q) a w
def WOy{T:Type}(X:Ctx T)(P:Program)(h0 N:Nat)(all:Array Oper)(l:List Oper)(env:Env)(H:Qc)(st:YSt T)(Q:YC T):Prop:=
 X.ok P->∀rd fr ro σ a w g,Rel fr ro σ H env N a w->X.at st g ro w/\In g fr a.defers->rd=none->wpL P rd all (QcW X h0 fr ro σ w N a.defers Q) l a w
theorem In.later{fr a g:Nat->Prop}{w:World}{ds d:List Deferred}(h:In g fr ds)(f:∀b,fr b->b<w.heap.size)(hg:Grow fr w ds a d):In g a d:=by
 refine⟨λb q=>hg.sub b (h.sub b q),λD hD q=>?_⟩;rcases hg.ds _ hD with r|⟨D',e,r⟩
 .exact h.beside D r q
 .have:D=D':=by simpa using e
  subst this;have:=f D (h.sub D q);omega
section
variable {T:Type}{X:Ctx T}{P:Program}{h0 N:Nat}{c c':Code}{env:Env}{H:Qc}{st:YSt T}{Q:YC T}
theorem QkL{fr ro:Nat->Prop}{σ:Sig}{w:World}{k:List Deferred}{e:Exit}{a':Act}{w':World}(q:X.ok P)(h:Qa9 h0 fr ro σ w N k (λx env H=>Q x env H st) e a' w'){g:Nat->Prop}(p:∀b,fr b->b<w.heap.size)(d:X.at st g ro w/\In g fr k):
  QcW X h0 fr ro σ w N k Q e a' w':=by
 obtain⟨x,a,H',j,σ',f,m,s,r,i,n,l⟩:=h;exact⟨x,a,H',st,j,σ',f,g,m,s,r,⟨q.ev d.1 (i.frMono d.2.sub),d.2.later p l⟩,i.sub,i.size,n,l⟩
theorem TCy.lift(h:TC P h0 N c env H (λx env H=>Q x env H st)):TCy X P h0 N c env H st Q:=
 λhX rd fr ro σ a w g r hj hrd=>Code.wpIn_mono (λe a' w' q=>QkL hX q r.sim.frLt hj) (h rd fr ro σ a w r (hrd▸QbY))
def SeqY(X:Ctx T)(P:Program)(h0 N:Nat)(c:Code)(Q:YC T):YC T
 |.normal,env,H,st=>TCy X P h0 N c env H st Q
 |.exit id,env,H,st=>Q (.exit id) env H st
 |.ret,env,H,st=>Q .ret env H st
theorem TCy.seq(h:TCy X P h0 N c env H st (SeqY X P h0 N c' Q)):TCy X P h0 N (.seq c c') env H st Q:=by
 intro z y B E σ a w g r hj hrd;refine wpIn_seq (Code.wpIn_mono ?_ (h z y B E σ a w g r hj hrd));rintro e F G ⟨x,b,H',i,f,σ',d,p,j,n,m,s,l,k,t,u⟩;cases e with
 |normal=>
  obtain rfl:x=.normal:=j;exact Code.wpIn_mono (λe a w q=>q.grow l k t u) (n z y d f σ' F G p m s hrd)
 |exit id=>
  obtain rfl:x=.exit id:=j;exact⟨_,b,H',i,f,σ',d,p,rfl,n,m,s,l,k,t,u⟩
 |ret=>
  obtain rfl:x=.ret:=j;exact⟨_,b,H',i,f,σ',d,p,rfl,n,m,s,l,k,t,u⟩
 |_=>exact j.elim
theorem TCy.region{id:Nat}{l:List Oper}(h:WOy X P h0 N l.toArray l env H st Q):TCy X P h0 N (.region id l.toArray false) env H st Q:=
 λhX rd fr ro σ a w g r hj hrd=>wpIn_region_lit (h hX rd fr ro σ a w g r hj hrd)
theorem TCy.cond{x:Operand}{t:Bool}(l:opA env x=.bool t)(k:t=true->TCy X P h0 N c env H st Q)(j:t=false->TCy X P h0 N c' env H st Q):TCy X P h0 N (.cond x c c') env H st Q:=by
 intro i h b f σ a w g r hj hrd;have d:=Qk r x;rw[l]at d;exact wpIn_cond_split d (λe=>k e i h b f σ a w g r hj hrd) (λe=>j e i h b f σ a w g r hj hrd)
theorem WOy.nil{all:Array Oper}(h:Q .normal env H st):WOy X P h0 N all [] env H st Q:=
 λhX rd fr ro σ a w g r hj hrd=>⟨_,env,H,st,ro,σ,fr,g,rfl,h,r,hj,λ_ q=>q,X2 _,rfl,Grow.refl _ _ _⟩
end
theorem Qie{P:Program}{rd:Option Nat}{o:Oper}{a:Act}{K K':Act->World->Prop}{Q Q':Exit->Act->World->Prop}(b:∀a w,K a w->K' a w)(i:∀ch a w,Q (.panic ch) a w->Q' (.panic ch) a w)(j:∀a w,Q .outgrown a w->Q' .outgrown a w)
  {r:Result Next}(h:o.uponIn (WF rd) 0 P a K Q r):o.uponIn (WF rd) 0 P a K' Q' r:=by
 cases r with
 |ok x w=>
  cases x with
  |value v=>exact b _ _ h
  |skip=>exact b _ _ h
  |defer d=>exact b _ _ h
  |enter f g=>
   refine⟨h.1,CallsIn.mono h.2 ?_⟩;intro e m q;cases e with
   |returned v=>exact b _ _ q
   |panicked c=>exact i _ _ _ q
   |outgrown=>obtain⟨a,w,q⟩:=q;exact⟨a,w,j _ _ q⟩
  |row r g=>exact⟨h.1,RowsIn.mono h.2 λv m q=>b _ _ q⟩
  |round l f k assign n=>
   refine⟨h.1,RoundIn.mono h.2 ?_⟩;intro e m q;cases e with
   |returned v=>exact b _ _ q
   |panicked c=>exact i _ _ _ q
   |outgrown=>obtain⟨a,w,q⟩:=q;exact⟨a,w,j _ _ q⟩
  |_=>exact h
 |halt x w=>
  cases x with
  |panic v=>exact i _ _ _ h
  |_=>exact h
section
variable {T:Type}{X:Ctx T}{P:Program}{h0 N:Nat}{env:Env}{H:Qc}{st:YSt T}{Q:YC T}
theorem WOy.step{all:Array Oper}{o:Oper}{rest:List Oper}(h:WO P h0 N all [o] env H (λx env' H'=>x=.normal/\WOy X P h0 N all rest env' H' st Q)):WOy X P h0 N all (o::rest) env H st Q:=by
 intro B t m p σ a w g r hj hrd;have y:∀d f,QbQ h0 m p σ w N a.defers (λx env' H'=>x=.normal/\WOy X P h0 N all rest env' H' st Q) .normal d f->wpL P t all (QcW X h0 m p σ w N a.defers Q) rest d f:=by
  rintro d f ⟨x,env',H',j,σ',i,L,⟨_,J⟩,G,s,F,z,E⟩;have n:X.at st g j f/\In g i d.defers:=⟨B.ev hj.1 (s.frMono hj.2.sub),by rw[z];exact hj.2.later r.sim.frLt E⟩;have:=J B t i j σ' d f g G n hrd;refine Yz (λe k l q=>?_) _ _ _ this;exact q.grow s.sub s.size F (by rw[z];exact E)
 have b:=h t m p σ a w r (hrd▸QbY);unfold wpL wpListIn at b⊢;split
 .rename_i u;rw[if_pos u]at b;refine⟨b.1,Qie (λk l q=>?_) (λM k l q=>?_) (λk l q=>?_) b.2⟩
  .unfold wpListIn at q;exact y k l q
  .obtain⟨x,_,_,_,_,_,q,_⟩:=q;exact q.elim
  .obtain⟨x,_,_,_,_,_,q,_⟩:=q;exact q.elim
 .rename_i u;rw[if_neg u]at b;refine⟨b.1,?_⟩;have q:=b.2;unfold wpListIn at q;exact y _ _ q
theorem WOy.yield{all:Array Oper}{o:Oper}{rest:List Oper}{d:Nat}{x:T}{J rem:List T}(L:X.nx J x rem)(hg:Qx all o env true)(B:o.dst=some d)(Y:Nat.blt d N=true)
  (R:∀fr ro σ a w,Rel fr ro σ H env N a w->∃vs:List Value,LR ro [] w (X.enc x) vs/\(execOp a.eval o).run P w=(Instr.yield X.l vs.toArray).run P w)
  (k:∀b:Bool,WOy X P h0 N all rest (up env d (.bool b)) H (bif b then .on rem else .off rem) Q):WOy X P h0 N all (o::rest) env H (.on J) Q:=by
 intro W M fr ro σ a w g r hj hrd;obtain⟨vs,hv,he⟩:=R fr ro σ a w r;obtain⟨q,hq,G⟩:=hj.1;obtain⟨fn,tmps,assign,V,h1,h2⟩:=W.round J x rem q g ro w vs L G hq (λb z=>⟨r.sim.roLt b z,λy=>r.sim.roFr b z (hj.2.sub b y)⟩) hv;have h3:=he.trans h1;unfold wpL wpListIn;rw[if_pos (Jp hg r)];refine⟨λ_ _=>trivial,?_⟩;rw[Qcu h3 (λd e=>by cases e)];refine⟨λh=>by simp[WF,Fence.wide]at h,?_⟩;refine RoundIn.mono (F:=WF M) (n:=0) h2 ?_;rintro e i ⟨j,p,t,u,f⟩;obtain⟨s',ev⟩:=r.sim.round hj.2.sub u;have O:d<N:=by simpa using Y
 have m:Ext ro σ w ro σ i:=by have:=ev.ext σ [];simpa using this
 have fin:∀b:Bool,X.at (bif b then .on rem else .off rem) j ro i->wpL P M all (QcW X h0 fr ro σ w N a.defers Q) rest (a.put o.dst (.bool b)) i:=by
  intro b f;have hm:Qc0 (λb=>fr b\/j b) a.defers i:=by
   refine⟨r.defers.1,λd B=>?_⟩;obtain⟨D,rfl,E,q2⟩:=r.defers.2 d B;exact⟨D,rfl,.inl E,(u.keep D (r.sim.frLt D E) (hj.2.beside D B)).trans q2⟩
  have hi:In j (λb=>fr b\/j b) a.defers:=by
   refine⟨λb q=>.inr q,λD hD q=>?_⟩;rcases u.new D q with p|p
   .exact hj.2.beside D hD p
   .obtain⟨D',e,E,_⟩:=r.defers.2 _ hD;have:D=D':=by simpa using e
    subst this;have:=r.sim.frLt D E;omega
  have r':Rel (λb=>fr b\/j b) ro σ H (up env d (.bool b)) N {a with tmps:=a.tmps.setIfInBounds d (.bool b)} i:=
   ⟨s',VR.up (fr:=fr) (λs=>(r.env s).mono m) (by rw[r.size];exact O) rfl,by simpa using r.size,hm⟩
  have:=k b W M _ ro σ _ i j r' ⟨f,hi⟩ hrd;simp only[B,Act.put];refine Yz (λe a2 w2 q=>q.grow (λ_ q=>q) u.size rfl ⟨λ_ q=>.inl q,λb q=>?_,λ_ q=>.inl q⟩) _ _ _ this;rcases q with q|q
  .exact .inl q
  .rcases u.new b q with q|q
   .exact .inl (hj.2.sub b q)
   .exact .inr q
 rcases f with⟨rfl,f⟩|⟨rfl,f⟩
 .exact fin true ⟨p,t,f⟩
 .exact fin false ⟨p,t,f⟩
end
def EndY{T:Type}:YC T:=λx env H st=>(x=.normal\/x=.ret)/\(st=.on []\/ ∃rem,st=.off rem)
theorem QcS{T:Type}{P:Program}{f:FuncId}{fn:Func}{c:Code}{N:Nat}{a:List A}{H:Qc}{enc:T->List A}{nx:List T->T->List T->Prop}{xs:List T}
  (Y:P.funcs[f]?=some fn)(hb:fn.body=some c)(W:fn.ntmps=N)(hA:Nat.ble (a.length+1) N=true)(hR:fn.results= #[])
  (h:∀X:Ctx T,X.enc=enc->X.nx=nx->TCy X P H.length N c (QfY 0 (.fn (.yield X.l) [] []::a)) H (.on xs) EndY):QdL P f a H enc nx xs:=by
 intro X hE hNx hX fr ro0 σ w capv q0 hs hq0 hl hj;have r:LR ro0 σ w (.fn (.yield X.l) [] []::a) (Value.func (.yield X.l) #[] #[]::capv):=⟨_,_,rfl,⟨[],[],rfl,rfl,rfl⟩,hl⟩;have p:=r.length;have ab:a.length+1<=N:=by simpa using hA
 refine(callsIn_wide (n:=0)).1 (callsIn_of_wp_marks Y hb trivial (Code.wpIn_mono ?_ (h X hE hNx hX none fr ro0 σ _ w fr ⟨hs,?_,?_,List.nodup_nil,λd y=>by cases y⟩ ⟨⟨q0,hq0,hj⟩,λ_ q=>q,λD hD=>by cases hD⟩ rfl)))
 .rintro e F Q ⟨x,V,H1,st,G,σ1,aa,z,R,⟨h2,B⟩,j,⟨h4,k⟩,h5,h6,h7,h8⟩;have t:LeavesInM Fence.wide 0 P fn F.tmps (λe W'=>(∃v,e=.returned v)/\ ∃g q',(∀b,fr b->g b)/\((X.J [] q' g W')\/(∃rem,X.Jx rem q' g W'))) F.defers .returning Q:=by
   refine Qbf (ro:=G) (fr:=z) (σ:=σ1) (H:=H1) F.defers Q j.defers.1 (λd y=>?_) (j.sim.frMono k.sub) (λw2 s2 m=>?_)
   .obtain⟨D,rfl,O,q2⟩:=j.defers.2 d y;exact⟨D,rfl,λq=>j.sim.roFr D q O,k.beside D y,λi x L E M=>(j.sim.own i D x L E M).2.2 O,λi d x L E M=>(j.sim.hid i d x D L E M).fr O,q2⟩
   .have u:=hX.up (hX.ev h4 m) (g':=λb=>z b\/fr b) (λb q=>.inl q) (λb q=>Vo (j.sim.frLt b (q.elim (k.sub b) (h8.sub b))) m.size);obtain⟨q9,_,u⟩:=u;refine⟨.tuple #[],by simp[results,hR,go_sem],⟨_,rfl⟩,λb=>z b\/fr b,q9,λb q=>.inr q,?_⟩;rcases B with rfl|⟨rem,rfl⟩
    .exact .inl u
    .exact .inr ⟨rem,u⟩
  cases e with
  |normal=>exact t
  |ret=>exact t
  |exit id=>
   obtain rfl:x=.exit id:=R;rcases h2 with q|q<;>cases q
  |_=>exact R.elim
 .intro s;have:=Qet (i:=0) [] rfl r (Array.replicate (fn.ntmps-(Value.func (.yield X.l) #[] #[]::capv).toArray.size) undef) s;simpa using this
 .simp only[X9]at p;simp[W];omega
section
variable {T:Type}{X:Ctx T}{P:Program}{h0 N:Nat}{c c':Code}{env:Env}{H:Qc}{st:YSt T}{Q Q':YC T}
theorem TCy.mono(h:TCy X P h0 N c env H st Q)(l:∀x env H st,Q x env H st->Q' x env H st):TCy X P h0 N c env H st Q':=by
 intro m q k n σ a w g r hj hrd;refine Code.wpIn_mono ?_ (h m q k n σ a w g r hj hrd);rintro e u y ⟨x,b,H',f,i,σ',d,t,j,s,p⟩;exact⟨x,b,H',f,i,σ',d,t,j,l _ _ _ _ s,p⟩
theorem TCy.skip(h:Q .normal env H st):TCy X P h0 N .skip env H st Q:=TCy.lift (TC.skip h)
theorem TCy.ret(h:Q .ret env H st):TCy X P h0 N .ret env H st Q:=TCy.lift (TC.ret h)
theorem TCy.exit{id:Nat}(h:Q (.exit id) env H st):TCy X P h0 N (.exit id) env H st Q:=TCy.lift (TC.exit h)
def BloY(id:Nat)(Q:YC T):YC T
 |.normal,env,H,st=>Q .normal env H st
 |.exit id',env,H,st=>bif Nat.beq id' id then Q .normal env H st else Q (.exit id') env H st
 |.ret,env,H,st=>Q .ret env H st
theorem TCy.block{id:Nat}(h:TCy X P h0 N c env H st (BloY id Q)):TCy X P h0 N (.block id c) env H st Q:=by
 intro t y s u σ a w g r hj hrd;refine wpIn_block (Code.wpIn_mono ?_ (h t y s u σ a w g r hj hrd));rintro e z B ⟨x,b,H',i,j,σ',f,n,l,k,m⟩;cases e with
 |normal=>
  obtain rfl:x=.normal:=l;exact⟨_,b,H',i,j,σ',f,n,rfl,k,m⟩
 |exit d=>
  obtain rfl:x=.exit d:=l;show Exit.inBlock id _ _ _ _;unfold Exit.inBlock;simp only[BloY]at k;by_cases q:d=id
  .subst q;rw[Nat.beq_refl,cond_true]at k;simp only[if_true];exact⟨.normal,b,H',i,j,σ',f,n,rfl,k,m⟩
  .have p:Nat.beq d id=false:=by
    cases e:Nat.beq d id with
    |false=>rfl
    |true=>exact absurd (XY e) q
   rw[p,cond_false]at k;simp only[q,if_false];exact⟨.exit d,b,H',i,j,σ',f,n,rfl,k,m⟩
 |ret=>
  obtain rfl:x=.ret:=l;exact⟨_,b,H',i,j,σ',f,n,rfl,k,m⟩
 |_=>exact l.elim
end
section
variable {T:Type}{X:Ctx T}{P:Program}{h0 N:Nat}{c:Code}{env:Env}{H:Qc}{st:YSt T}{Q:YC T}
def Qk0(I:Env->Qc->YSt T->Prop)(Q:YC T):YC T
 |.normal,env,H,st=>I env H st
 |.exit id,env,H,st=>Q (.exit id) env H st
 |.ret,env,H,st=>Q .ret env H st
theorem Qf4{I:Nat->Env->Qc->YSt T->Prop}(body:∀n env H st,I n env H st->TCy X P h0 N c env H st (Qk0 (λenv H st=>∃n',n'<n/\I n' env H st) Q)){n:Nat}(G:I n env H st):TCy X P h0 N (.loop c) env H st Q:=by
 intro hX W y z σ a w g r hj hrd b k cs hro hb hr;have J:∀m n env H st fr1 ro1 σ1 a1 w1 g1,n<m->I n env H st->Rel fr1 ro1 σ1 H env N a1 w1->(∀b,z b->ro1 b)->w.heap.size<=w1.heap.size->σ1.take h0=σ.take h0->Grow y w a.defers fr1 a1.defers->X.at st g1 ro1 w1/\In g1 fr1 a1.defers->
   ∃e h i,QcW X h0 y z σ w N a.defers Q e h i/\ArrivesIn (Machine.fenced P (WF W)) P (lone (b.atR a1 (.code c::.inLoop c::k)) cs w1) b k cs e h i:=by
  intro m
  induction m with
  |zero=>intro n env H st fr1 ro1 σ1 a1 w1 g1 hn;exact absurd hn (Xo _)
  |succ m ih=>
   intro n env H st fr1 ro1 σ1 a1 w1 g1 hn G r1 s1 z1 t1 gr1 j1;obtain⟨e,h,i,F,d⟩:=body n env H st G hX W fr1 ro1 σ1 a1 w1 g1 r1 j1 hrd b (.inLoop c::k) cs hro hb hr;obtain⟨x,f,H',l,t,σ',s,R,B,u,V,O,q5,M,Y,q8⟩:=F;have L:=λb q=>q5 b (s1 b q);have p:=gr1.trans z1 q8;have hp:∀x,Q x f H' l->ExR e x->QcW X h0 y z σ w N a.defers Q e h i:=λx q q'=>⟨x,f,H',l,t,σ',s,R,q',q,V,O,L,X4 z1 M,Y.trans t1,p⟩;cases e with
   |normal=>
    obtain rfl:x=.normal:=B;obtain⟨n',aa,u⟩:=u;obtain⟨e2,a2,w2,E,j⟩:=ih n' f H' l s t σ' h i R (by omega) u V L (X4 z1 M) (Y.trans t1) p O;exact⟨e2,a2,w2,E,.of_steps (StepsIn.trans d (.one (fenced_calm hb hr rfl) stepR_inLoop)) j⟩
   |exit id=>
    obtain rfl:x=.exit id:=B;exact⟨_,h,i,hp _ u rfl,.pass (x:=.inLoop c) rfl (λ_ _=>.inl (by simp)) d⟩
   |ret=>
    obtain rfl:x=.ret:=B;exact⟨_,h,i,hp _ u rfl,.pass (x:=.inLoop c) rfl (λ_ _=>.inl (by simp)) d⟩
   |_=>exact B.elim
 obtain⟨e,h,i,F,d⟩:=J (n+1) n env H st y z σ a w g (Xp _) G r (λ_ q=>q) (X2 _) rfl (Grow.refl _ _ _) hj;exact⟨e,h,i,F,.of_steps (.one (fenced_calm hb hr rfl) stepR_loop) d⟩
end
end Go.Sw
namespace Go.Sw
theorem Sim.part{fr ro:Nat->Prop}{σ:Sig}{H:Qc}{w:World}(s0:Sim fr ro σ H w){π:List Nat}{Hc:Qc}(R:π.map (λp=>H[p]?)=(Hc.map (Q9 (rho π H.length))).map some)(hπ:π.Nodup):
  Sim (λb=>fr b\/(∃i x,σ[i]?=some (some b)/\H[i]?=some x/\x.live=true/\i∉π)\/ ∃i x d,σ[i]?=some (some d)/\H[i]?=some x/\Hid w x d b/\i∉π) ro (Yg σ π) Hc w/\ ∀j:Nat,σ[rho π H.length j]?=(Yg σ π)[j]? :=by
 have hp:∀p∈π,p<H.length:=λp q=>Jh R q;have hσl:=s0.len;have n:∀(j p:Nat),π[j]?=some p->H[p]?=(Hc[j]?).map (Q9 (rho π H.length)):=by
  intro j p a;have:=congrArg (λl=>l[j]?) R;simp only[Xr,a,Xk]at this;cases e:Hc[j]? with
  |none=>rw[e]at this;simp at this
  |some x=>rw[e]at this;simpa using this
 have L:π.length=Hc.length:=by simpa using congrArg List.length R
 have hσc:∀j:Nat,σ[rho π H.length j]?=(Yg σ π)[j]? :=by
  intro j;have:=QdO (τ:=[]) hσl hp j;simpa using this
 have hπj:∀(j b:Nat),(Yg σ π)[j]?=some (some b)->∃p,π[j]?=some p/\σ[p]?=some (some b):=by
  intro j b a;simp only[Yg,Xr]at a;cases e:π[j]? with
  |none=>rw[e]at a;simp at a
  |some p=>
   rw[e]at a;simp at a;refine⟨p,rfl,?_⟩;cases r:σ[p]? with
   |none=>rw[r]at a;simp at a
   |some s=>rw[r]at a;simp at a;rw[a]
 refine⟨?_,hσc⟩
 .refine⟨by simp[Yg,L],s0.roOk,?_,?_,?_,?_,?_,?_⟩
  .rintro b (P|⟨i,x,g,h,m,N⟩|⟨i,x,d,g,h,m,N⟩)
   .exact s0.frLt b P
   .exact(s0.own i b x g h m).1
   .exact(s0.hid i d x b g h m).lt
  .rintro b P (M|⟨i,x,g,h,m,N⟩|⟨i,x,d,g,h,m,N⟩)
   .exact s0.roFr b P M
   .exact(s0.own i b x g h m).2.1 P
   .exact(s0.hid i d x b g h m).ro P
  .intro j b x g h m;obtain⟨p,f,r⟩:=hπj j b g;have B:H[p]?=some (Q9 (rho π H.length) x):=by rw[n j p f,h];rfl
   obtain⟨o1,o2,o3⟩:=s0.own p b _ r B (by rw[QP];exact m);refine⟨o1,o2,?_⟩;rintro(M|⟨i,y,y1,y2,F,Q⟩|⟨i,y,d,y1,y2,F,Q⟩)
   .exact o3 M
   .have:=s0.inj i p b _ _ y1 r y2 B F (by rw[QP];exact m);subst this;exact Q (List.mem_of_getElem? f)
   .exact(s0.hid i d y b y1 y2 F).ne p b _ r B (by rw[QP];exact m) rfl
  .intro i j b x y g h m N q5 q6;obtain⟨p,f,r⟩:=hπj i b g;obtain⟨u,t,X⟩:=hπj j b h;have B:H[p]?=some (Q9 (rho π H.length) x):=by rw[n i p f,m];rfl
   have Y:H[u]?=some (Q9 (rho π H.length) y):=by rw[n j u t,N];rfl
   have:=s0.inj p u b _ _ r X B Y (by rw[QP];exact q5) (by rw[QP];exact q6);subst this;have G:i<π.length:=by
    rcases Nat.lt_or_ge i π.length with q|q
    .exact q
    .rw[XW q]at f;simp at f
   have a:j<π.length:=by
    rcases Nat.lt_or_ge j π.length with q|q
    .exact q
    .rw[XW q]at t;simp at t
   rw[XS G]at f;rw[XS a]at t;have z:=(X8 f).trans (X8 t).symm;rcases Nat.lt_trichotomy i j with q|q|q
   .exact(List.pairwise_iff_getElem.1 hπ i j G a q z).elim
   .exact q
   .exact(List.pairwise_iff_getElem.1 hπ j i a G q z.symm).elim
  .intro j s x g h;have a:j<π.length:=by
    rcases Nat.lt_or_ge j π.length with q|q
    .exact q
    .rw[XW (by simpa[Yg]using q)]at g;simp at g
   have f:π[j]?=some π[j]:=XS a;have B:H[π[j]]?=some (Q9 (rho π H.length) x):=by rw[n j _ f,h];rfl
   have r:σ[π[j]]?=some s:=by
    have:=hσc j;rw[g]at this;simpa[rho,f]using this
   exact(QgW hσc).1 (s0.blk _ s _ r B)
  .intro j b x c g h m;obtain⟨p,f,r⟩:=hπj j b g;have B:H[p]?=some (Q9 (rho π H.length) x):=by rw[n j p f,h];rfl
   have k:=s0.hid p b _ c r B ((Qai _ _ _ _ _).2 m);refine⟨k.lt,k.ro,?_,?_,?_⟩
   .rintro(M|⟨i,y,y1,y2,F,Q⟩|⟨i,y,d,y1,y2,F,Q⟩)
    .exact k.fr M
    .exact k.ne i c y y1 y2 F rfl
    .obtain⟨rfl,rfl⟩:=k.one i d y y1 y2 F;exact Q (List.mem_of_getElem? f)
   .intro E O y z1 W T;obtain⟨u,J,V⟩:=hπj E O z1;exact k.ne u O _ V (show H[u]?=some (Q9 (rho π H.length) y)by rw[n E u J,W];rfl) (by rw[QP];exact T)
   .intro E O y z1 W T;obtain⟨u,J,V⟩:=hπj E O z1;obtain⟨z4,z5⟩:=k.one u O _ V (show H[u]?=some (Q9 (rho π H.length) y)by rw[n E u J,W];rfl) ((Qai _ _ _ _ _).2 T);subst z5;have G:E<π.length:=(XT.1 J).1;have a:j<π.length:=(XT.1 f).1;rw[XS G]at J;rw[XS a]at f;have z:=(X8 J).trans (X8 f).symm;refine⟨z4,?_⟩;rcases Nat.lt_trichotomy E j with q|q|q
    .exact(List.pairwise_iff_getElem.1 hπ E j G a q z).elim
    .exact q
    .exact(List.pairwise_iff_getElem.1 hπ j E a G q z.symm).elim
theorem Sim.frames{fr fr' ro:Nat->Prop}{σ:Sig}{H:Qc}{w:World}(s:Sim fr ro σ H w)(lt:∀b,fr' b->b<w.heap.size)(hro:∀b,ro b->¬fr' b)(own:∀(i b:Nat) (x:Blk),σ[i]?=some (some b)->H[i]?=some x->x.live=true->¬fr' b)
  (hd:∀(i b:Nat) (x:Blk) (c:Nat),σ[i]?=some (some b)->H[i]?=some x->Hid w x b c->¬fr' c):Sim fr' ro σ H w:=
 ⟨s.len,s.roOk,lt,hro,λi b x q1 q2 q3=>⟨(s.own i b x q1 q2 q3).1,(s.own i b x q1 q2 q3).2.1,own i b x q1 q2 q3⟩,s.inj,s.blk,
  s.hidTo (· = ·) Yc (X2 _) (λ_ _ _ _ _ _ _ q=>q) (λi b x c q1 q2 q3 q4=>(hd i b x c q1 q2 q3 q4).elim) λj d y g1 g2 g3=>.inl ⟨j,y,rfl,g1,g2,id,λ_ q=>q⟩⟩
def Qjh(H:Qc)(p:Nat):Qc:=match H[p]? with
 |some x=>bif x.holds then H.set p .dead else H
 |none=>H
def Qdv:Qc->List Nat->Qc
 |H,[]=>H
 |H,p::π=>Qdv (Qjh H p) π
theorem Qdw(H:Qc)(p:Nat):(Qjh H p=H/\ ∀x,H[p]?=some x->x.holds=false)\/Qjh H p=H.set p .dead:=by
 unfold Qjh;cases h:H[p]? with
 |none=>exact .inl ⟨rfl,λx q=>by cases q⟩
 |some x=>
  cases q:x.holds with
  |false=>exact .inl ⟨by simp[q],λy a=>by cases a;exact q⟩
  |true=>exact .inr (by simp[q])
theorem Qeu:∀(π:List Nat) (H:Qc) (i:Nat) (x:Blk),(Qdv H π)[i]?=some x->x=.dead\/(H[i]?=some x/\(x.holds=true->i∉π))
 |[],H,i,x,h=>.inr ⟨h,λ_=>by simp⟩
 |p::π,H,i,x,h=>by
  rcases Qeu π _ i x h with h|⟨h1,h2⟩
  .exact .inl h
  .rcases Qdw H p with⟨e,hl⟩|e
   .rw[e]at h1;refine .inr ⟨h1,λhx=>?_⟩;simp only[Vf,not_or];refine⟨λq=>?_,h2 hx⟩;subst q;have:=hl x h1;rw[this]at hx;cases hx
   .rw[e]at h1;by_cases q:p=i
    .subst q;rw[Xb]at h1;simp at h1;exact .inl h1.2.symm
    .rw[XX q]at h1;exact .inr ⟨h1,λhx=>by simp only[Vf,not_or];exact⟨λr=>q r.symm,h2 hx⟩⟩
theorem Qdl{fr ro:Nat->Prop}{σ:Sig}{w:World}:∀(π:List Nat) {H:Qc} (s:Sim fr ro σ H w),Sim fr ro σ (Qdv H π) w
 |[],_,s=>s
 |p::π,H,s=>by
  rw[Qdv];rcases Qdw H p with h|h
  .rw[h.1];exact Qdl π s
  .rw[h];exact Qdl π (s.kill p)
theorem Sim.put{fr ro:Nat->Prop}{σ:Sig}{H:Qc}{w:World}(s:Sim fr ro σ H w){b:Nat}{obj:Obj}(l:fr b)(t:w.shape? b=none):
  Sim fr ro σ H (w.putObj b obj)/\Qj (λc=>c≠b) ro w ro (w.putObj b obj):=by
 have a:∀c,c≠b->(w.putObj b obj).heap[c]?=w.heap[c]? :=λc E=>World.putObj_heap_other E;have f:(w.putObj b obj).heap.size=w.heap.size:=by simp
 have r:∀c,ro c->c≠b:=λc q e=>s.roFr c q (e▸l);have ev:Qj (λc=>c≠b) ro w ro (w.putObj b obj):=by
  refine⟨λ_ q=>q,λc q=>a c (r c q),λc q=>a c q,by rw[f];exact X2 _,λc x q=>?_,rfl,rfl,rfl,X2 _⟩;by_cases e:c=b
  .subst e;rw[t]at q;cases q
  .unfold World.shape? at q⊢;rw[a c e];exact q
 have h:Ext ro σ w ro σ (w.putObj b obj):=by have:=ev.ext σ [];simpa using this
 refine⟨⟨s.len,s.roOk.to (λ_ q=>q) ev.keepRo (λc q=>by rw[f];exact s.roLt c q),λc q=>by rw[f];exact s.frLt c q,s.roFr,λi c x k g B=>?_,s.inj,λi y x k g=>?_,
  s.hidTo (· = ·) Yc (by rw[f];exact X2 _) (λ_ _ _ _ _ _ _ q=>q) (λ_ _ _ _ _ _ _ q=>q) λj d y m n J=>.inl ⟨j,y,rfl,m,n,id,λc q=>s.hidKeep m n (λz=>a d (λe=>(s.own j d y m n z).2.2 (e▸l))) ev.keepRo q⟩⟩,ev⟩
 .obtain⟨G,u,F⟩:=s.own i c x k g B;exact⟨by rw[f];exact G,u,F⟩
 .refine(s.blk i y x k g).keep h ?_ ?_
  .rintro c rfl p;exact a c (λe=>(s.own i c x k g p).2.2 (e▸l))
  .rintro d c rfl p;exact a c (λe=>(s.hid i d x c k g p).fr (e▸l))
theorem Qbe{w:World}{l:Nat}{r:Loop}(h:w.heap[l]?=some (.loop r)):w.shape? l=none:=by
 unfold World.shape?;rw[h]
structure Fix where
 fr:Nat->Prop
 ro:Nat->Prop
 σ:Sig
 w:World
 h1:Nat
 env:Env
 tmps:Array Value
 ds1:List Deferred
 l:Nat
 rc:LoopState->Option Code->Loop
 fr1:Nat->Prop
structure Fix.Ok (D:Fix):Prop where
 sub:∀b,D.fr b->D.fr1 b
 l1:D.fr1 D.l
 lf:¬D.fr D.l
 len:D.σ.length=D.h1
structure RJ (D:Fix) (ro1:Nat->Prop) (σ1:Sig) (H:Qc) (st:LoopState) (pe:Option Code) (q g:Nat->Prop) (W:World):Prop where
 sim:Sim D.fr1 ro1 σ1 H W
 env:∀t,VR ro1 D.σ W (lk D.env t) (D.tmps.getD t undef)
 sig:σ1.take D.h1=D.σ
 ev:Qj D.fr D.ro D.w ro1 W
 marks:Qc0 D.fr1 D.ds1 W
 rc:W.heap[D.l]?=some (.loop (D.rc st pe))
 roG:∀b,ro1 b->q b\/g b
 frG:∀b,D.fr1 b->g b
 own:∀(i b:Nat) (x:Blk),σ1[i]?=some (some b)->H[i]?=some x->x.live=true->g b
 hidG:∀(i b:Nat) (x:Blk) (c:Nat),σ1[i]?=some (some b)->H[i]?=some x->Hid W x b c->g c
 lt:∀b,g b->b<W.heap.size
theorem Qdp{σ σ1:Sig}{a:Nat}(h:σ1.take a=σ){i b:Nat}(q:σ[i]?=some (some b)):σ1[i]?=some (some b):=by
 subst h;rw[List.getElem?_take]at q;split at q
 .exact q
 .cases q
section
variable {D:Fix}{ro1:Nat->Prop}{σ1:Sig}{H:Qc}{st:LoopState}{pe:Option Code}{qR g:Nat->Prop}{W:World}
theorem RJ.step(r:D.Ok)(j:RJ D ro1 σ1 H st pe qR g W){ro':Nat->Prop}{W':World}(e:Qj g qR W ro' W'):RJ D ro1 σ1 H st pe qR g W':=by
 have a:∀b,ro1 b->W'.heap[b]?=W.heap[b]? :=λb q=>(j.roG b q).elim (e.keepRo b) (e.keepFr b);have ev:Qj D.fr1 ro1 W ro1 W':=⟨λ_ q=>q,a,λb q=>e.keepFr b (j.frG b q),e.size,e.shape,e.os,e.tape,e.output,e.drawn⟩;have k:∀σ,Ext ro1 σ W ro1 σ W':=λ σ=>by have:=ev.ext σ [];simpa using this
 refine⟨⟨j.sim.len,j.sim.roOk.to (λ_ q=>q) a (λb q=>Vo (j.sim.roLt b q) e.size),λb q=>Vo (j.sim.frLt b q) e.size,j.sim.roFr,λi b x h f l=>?_,j.sim.inj,λi z x h f=>?_,
  j.sim.hidTo (· = ·) Yc e.size (λ_ _ _ _ _ _ _ q=>q) (λ_ _ _ _ _ _ _ q=>q) λi d y m n w=>.inl ⟨i,y,rfl,m,n,id,λc q=>j.sim.hidKeep m n (λz=>e.keepFr d (j.own i d y m n z)) a q⟩⟩,
  λt=>(j.env t).mono (k _),j.sig,j.ev.trans (ev.frMono r.sub),j.marks.keep ev,(ev.keepFr _ r.l1).trans j.rc,j.roG,j.frG,j.own,λi b x c h f l=>j.hidG i b x c h f (j.sim.hidKeep h f (λz=>e.keepFr b (j.own i b x h f z)) a l),λb q=>Vo (j.lt b q) e.size⟩
 .obtain⟨s,u⟩:=j.sim.own i b x h f l;exact⟨Vo s e.size,u⟩
 .refine(j.sim.blk i z x h f).keep (k _) ?_ ?_
  .rintro b rfl p;exact e.keepFr b (j.own i b x h f p)
  .rintro b c rfl p;exact e.keepFr c (j.hidG i b x c h f p)
theorem RJ.up{g':Nat->Prop}(j:RJ D ro1 σ1 H st pe qR g W)(h:∀b,g b->g' b)(hl:∀b,g' b->b<W.heap.size):RJ D ro1 σ1 H st pe qR g' W:=
 {j with roG:=λb q=>(j.roG b q).imp id (h b),frG:=λb q=>h b (j.frG b q),own:=λi b x q1 q2 q3=>h b (j.own i b x q1 q2 q3),hidG:=λi b x c q1 q2 q3=>h c (j.hidG i b x c q1 q2 q3),lt:=hl}
def FrB(D:Fix)(ro1 g:Nat->Prop)(W:World):Nat->Prop:=λb=>(D.fr1 b\/(¬g b/\ ¬ro1 b))/\b<W.heap.size
theorem RJ.simB(j:RJ D ro1 σ1 H st pe qR g W):Sim (FrB D ro1 g W) ro1 σ1 H W:=by
 refine j.sim.frames (λb q=>q.2) (λb q r=>?_) (λi b x e a d r=>?_) (λi b x c e a d r=>r.1.elim (j.sim.hid i b x c e a d).fr λr=>r.1 (j.hidG i b x c e a d))
 .rcases r.1 with r|r
  .exact j.sim.roFr b q r
  .exact r.2 q
 .rcases r.1 with r|r
  .exact(j.sim.own i b x e a d).2.2 r
  .exact r.1 (j.own i b x e a d)
theorem RJ.fin(G:D.Ok)(j:RJ D ro1 σ1 H st pe qR g W){y ro':Nat->Prop}{σ':Sig}{H':Qc}{W':World}{st':LoopState}{pe':Option Code}
  (ev:Qj (λb=>FrB D ro1 g W b/\b≠D.l) ro1 W ro' W')(s:Sim y ro' σ' H' W')(u:∀b,FrB D ro1 g W b->y b)(hσ:σ'.take D.h1=σ1.take D.h1)(M:W'.heap[D.l]?=some (.loop (D.rc st' pe'))):
  RJ D ro' σ' H' st' pe' qR (λb=>g b\/(W.heap.size<=b/\b<W'.heap.size)) W'/\Qe8 g (λb=>g b\/(W.heap.size<=b/\b<W'.heap.size)) W W':=by
 have n:∀b,D.fr1 b->FrB D ro1 g W b:=λb q=>⟨.inl q,j.sim.frLt b q⟩;have R:W.shape? D.l=none:=Qbe j.rc;have F:Qj D.fr ro1 W ro' W':=ev.frMono λb q=>⟨n b (G.sub b q),λe=>G.lf (e▸q)⟩;have w:Ext ro1 D.σ W ro' D.σ W':=ev.ext0 D.σ;have E:∀b,b<W.heap.size->b<W'.heap.size:=λb q=>Vo q ev.size;have m:∀b,b<W.heap.size->¬FrB D ro1 g W b->g b\/ro1 b:=by
  intro b h L;by_cases f:g b
  .exact .inl f
  .by_cases a:ro1 b
   .exact .inr a
   .exact absurd ⟨.inr ⟨f,a⟩,h⟩ L
 refine⟨⟨s.frames (λb q=>E b (j.sim.frLt b q)) (λb q r=>s.roFr b q (u b (n b r))) (λi b x f a p r=>(s.own i b x f a p).2.2 (u b (n b r))) (λi b x c f a p r=>(s.hid i b x c f a p).fr (u c (n c r))),
  λt=>(j.env t).mono w,hσ.trans j.sig,j.ev.trans F,⟨j.marks.1,λd P=>?_⟩,M,λb q=>?_,λb q=>.inl (j.frG b q),λi b x f a p=>?_,λi b x c f a p=>?_,λb q=>q.elim (λq=>E b (j.lt b q)) (λq=>q.2)⟩,
  ⟨λb q=>.inl q,λb q=>q.imp id (λq=>q.1),λb q=>q.elim (λq=>E b (j.lt b q)) (λq=>q.2),λb f a=>.inr ⟨f,a⟩,λb f a=>?_,ev.size,ev.shape,ev.os,ev.tape,ev.output,ev.drawn⟩⟩
 .obtain⟨B,N,J,z⟩:=j.marks.2 d P;refine⟨B,N,J,(ev.keepFr B ⟨n B J,λe=>?_⟩).trans z⟩;subst e;rw[j.rc]at z;cases z
 .rcases Nat.lt_or_ge b W.heap.size with h|h
  .rcases m b h (λr=>s.roFr b q (u b r))with r|r
   .exact .inr (.inl r)
   .exact(j.roG b r).imp id .inl
  .exact .inr (.inr ⟨h,s.roLt b q⟩)
 .obtain⟨T,O,Q⟩:=s.own i b x f a p;rcases Nat.lt_or_ge b W.heap.size with h|h
  .rcases m b h (λr=>Q (u b r))with r|r
   .exact .inl r
   .exact absurd (ev.sub b r) O
  .exact .inr ⟨h,T⟩
 .have k:=s.hid i b x c f a p;rcases Nat.lt_or_ge c W.heap.size with h|h
  .rcases m c h (λr=>k.fr (u c r))with r|r
   .exact .inl r
   .exact absurd (ev.sub c r) k.ro
  .exact .inr ⟨h,k.lt⟩
 .by_cases r:ro1 b
  .exact ev.keepRo b r
  .exact ev.keepFr b ⟨⟨.inr ⟨a,r⟩,f⟩,λe=>a (j.frG b (e▸G.l1))⟩
end
theorem Sim.roAdd{fr ro f:Nat->Prop}{σ:Sig}{H:Qc}{w:World}(s:Sim fr ro σ H w)(m:∀b,f b->b<w.heap.size)(l:∀b,f b->¬fr b)(h:∀(i b:Nat) (x:Blk),σ[i]?=some (some b)->H[i]?=some x->x.live=true->¬f b)
  (g:∀(i b:Nat) (x:Blk) (c:Nat),σ[i]?=some (some b)->H[i]?=some x->Hid w x b c->¬f c):Sim fr (λb=>ro b\/f b) σ H w:=by
 have ext:Ext ro σ w (λb=>ro b\/f b) σ w:=⟨λ_ q=>.inl q,λ_ _=>rfl,λ_ _ q=>q,λ_ _ q=>q⟩;refine⟨s.len,s.roOk.to (λ_ q=>.inl q) (λ_ _=>rfl) (λb q=>q.elim (s.roLt b) (m b)),s.frLt,λb q=>q.elim (s.roFr b) (l b),λi b x e a k=>?_,s.inj,λi y x e a=>(s.blk i y x e a).keep ext (λ_ _ _=>rfl) (λ_ _ _ _=>rfl),
  s.hidTo (· = ·) Yc (X2 _) (λi b x c e a k t=>t.elim id λq=>(g i b x c e a k q).elim) (λ_ _ _ _ _ _ _ q=>q) λj d y n p B=>.inl ⟨j,y,rfl,n,p,id,λ_ q=>q⟩⟩
 obtain⟨u,z,r⟩:=s.own i b x e a k;exact⟨u,λq=>q.elim z (h i b x e a k),r⟩
theorem RJ.roAdd{D:Fix}{ro1:Nat->Prop}{σ1:Sig}{H:Qc}{st:LoopState}{pe:Option Code}{qR ri g:Nat->Prop}{W:World}(j:RJ D ro1 σ1 H st pe qR g W)(hq:∀b,qR b->ri b)(hI:∀b,ri b->b<W.heap.size/\ ¬g b):RJ D (λb=>ro1 b\/ri b) σ1 H st pe ri g W:=
 {j with
  sim:=j.sim.roAdd (λb q=>(hI b q).1) (λb q z=>(hI b q).2 (j.frG b z)) (λi b x q1 q2 q3 z=>(hI b z).2 (j.own i b x q1 q2 q3)) (λi b x c q1 q2 q3 z=>(hI c z).2 (j.hidG i b x c q1 q2 q3))
  env:=λt=>(j.env t).mono ⟨λ_ q=>.inl q,λ_ _=>rfl,λ_ _ q=>q,λ_ _ q=>q⟩
  ev:=j.ev.trans (YN λ_ q=>.inl q)
  roG:=λb q=>q.elim (λq=>(j.roG b q).imp (hq b) id) .inl}
def Qlc:List Nat->List A->Env->Env
 |p::ps,a::zs,env=>Qlc ps zs (up env p a)
 |_,_,env=>env
def Qih:List Nat->List Value->Array Value->Array Value
 |p::ps,v::vs,t=>Qih ps vs (t.setIfInBounds p v)
 |_,_,t=>t
theorem QfA:∀(ps:List Nat) (vs:List Value) (t:Array Value),(Qih ps vs t).size=t.size
 |[],_,_=>rfl
 |_::_,[],_=>rfl
 |p::ps,v::vs,t=>by simp[Qih,QfA ps]
theorem QfB:∀(ps:List Nat) (vs:List Value) (t:Array Value),(ps.toArray.zip vs.toArray).foldl (λt (p,v)=>t.setIfInBounds p v) t=Qih ps vs t
 |[],vs,t=>by rw[<- Array.foldl_toList,Array.toList_zip];rfl
 |p::ps,[],t=>by rw[<- Array.foldl_toList,Array.toList_zip];rfl
 |p::ps,v::vs,t=>by
  have:=QfB ps vs (t.setIfInBounds p v);rw[<- Array.foldl_toList,Array.toList_zip]at this⊢;exact this
theorem Qi3{ro:Nat->Prop}{σ:Sig}{w:World}:∀(ps:List Nat) (zs:List A) (vs:List Value) (env:Env) (t:Array Value),LR ro σ w zs vs->(∀p∈ps,p<t.size)->(∀s,VR ro σ w (lk env s) (t.getD s undef))->
  ∀s,VR ro σ w (lk (Qlc ps zs env) s) ((Qih ps vs t).getD s undef)
 |[],_,_,_,_,_,_,h=>h
 |p::ps,[],vs,_,_,hv,_,h=>by
  obtain rfl:vs=[]:=hv;exact h
 |p::ps,a::zs,vs,env,t,hv,hp,h=>by
  obtain⟨v,vs',rfl,h0,hv'⟩:=hv;have h1:=VR.up (fr:=λ_=>False) (a:={tmps:=t,defers:=[]}) h (hp p (by simp)) h0;exact Qi3 ps zs vs' (up env p a) (t.setIfInBounds p v) hv' (λq hq=>by simpa using hp q (by simp[hq])) h1
def QiP(h1:Nat)(env:Env)(Q:QE)(K:Qc->Prop):QE
 |.normal,env',H'=>∃H2,Le h1 env' H' [] H2/\K H2
 |.exit id,env',H'=>∃H2,Le h1 env' H' [] H2/\Q (.exit id) env H2
 |.ret,env',H'=>∃H2,Le h1 env' H' [] H2/\Q .ret env H2
def Jump(Q:QE)(env:Env)(c:Code)(H:Qc):Prop:=(∃id,c=.exit id/\Q (.exit id) env H)\/(c=.ret/\Q .ret env H)
section
variable {D:Fix}{ro0:Nat->Prop}{σ1:Sig}{H:Qc}{qR ri g:Nat->Prop}{W:World}{P:Program}{N:Nat}{Q:QE}{K:Qc->Prop}
theorem RJ.round{fn:FuncId}{ps:List Nat}{assign body:Code}{df:Nat}{cs:List A}{vs:List Value}(hD:D.Ok)(n:D.rc=λst pe=>{state:=st,pending:=pe,fn:=fn,tmps:=D.tmps,params:=ps.toArray,assign:=assign,body:=body,defers:=df})
  (hN:D.tmps.size=N)(am:∀p∈ps,p<N)(R:cs.length=ps.length)(hq:∀b,qR b->ri b)(hI:∀b,ri b->b<W.heap.size/\ ¬g b)(ae:LR ri [] W cs vs)(j0:RJ D ro0 σ1 H .ready none qR g W)
  (h:TC P D.h1 N assign (Qlc ps cs D.env) H λe env1 H1=>e=.normal/\TC P D.h1 N body env1 H1 (QiP D.h1 D.env Q K)):
  YieldAt Fence.wide 0 P D.l vs.toArray W λe W'=>∃g',Qe8 g g' W W'/\((e=.returned (.bool true)/\ ∃H2 ro2 σ2,K H2/\RJ D ro2 σ2 H2 .ready none ri g' W')\/
   (e=.returned (.bool false)/\ ∃H2 c ro2 σ2,Jump Q D.env c H2/\RJ D ro2 σ2 H2 .done (some c) ri g' W')):=by
 have al:vs.length=cs.length:=ae.length;have j:=j0.roAdd hq hI;have z:LR (λb=>ro0 b\/ri b) σ1 W cs vs:=ae.mono ⟨λ_ q=>.inr q,λ_ _=>rfl,λ_ _ q=>q,λi b q=>by simp at q⟩;clear j0;generalize(λb=>ro0 b\/ri b)=ro1 at j z;have af:∀b,D.fr1 b->FrB D ro1 g W b:=λb q=>⟨.inl q,j.sim.frLt b q⟩;have t:=af _ hD.l1;have G:=j.rc;have hy:=run_yield (P:=P) (r:=D.rc .ready none) (args:=vs.toArray) G (by rw[n];simp[al,R]);refine⟨fn,Qih ps vs D.tmps,assign,body,?_,?_⟩
 .rw[hy,n];simp only[];rw[<- QfB]
 .refine roundIn_of_wpIn trivial ?_;show Code.wpIn (WF (some D.l)) 0 P _ _ _ _;have ac:∀s,VR ro1 σ1 W (lk D.env s) (D.tmps.getD s undef):=λs=>(j.env s).mono ⟨λ_ q=>q,λ_ _=>rfl,λ_ _ q=>q,λi b q=>Qdp j.sig q⟩;have ag:QdM (some D.l) (FrB D ro1 g W) W:=λl e=>by cases e;exact⟨t,_,G⟩
  have E:=h (some D.l) (FrB D ro1 g W) ro1 σ1 {tmps:=Qih ps vs D.tmps,defers:=[]} W ⟨j.simB,Qi3 ps cs vs D.env D.tmps z (by rw[hN];exact am) ac,by simp[QfA,hN],List.nodup_nil,λd hd=>by cases hd⟩ ag;refine Code.wpIn_mono ?_ E;rintro e a1 E ⟨x1,env1,H1,ro2,σ2,x,h1,⟨rfl,h2⟩,X,h4,h5,h6⟩;cases e with
  |normal=>
   have k:E.heap[D.l]?=some (.loop (D.rc .ready none)):=(h4.keepFr _ t).trans G;refine⟨_,run_beginRound k (by rw[n]),?_⟩;obtain⟨s2,F⟩:=X.sim.put (obj:=.loop {D.rc .ready none with state:=.busy}) (h6.sub _ t) (Qbe k);have O:D.l<E.heap.size:=by rw[Vl]at k;exact k.1
   have T:(E.putObj D.l (.loop {D.rc .ready none with state:=.busy})).heap[D.l]?=some (.loop {D.rc .ready none with state:=.busy}):=World.putObj_heap_same O;generalize hw2:E.putObj D.l (.loop {D.rc .ready none with state:=.busy})=w2 at*;have aj:Qc0 x a1.defers w2:=by
    refine⟨X.defers.1,λd hd=>?_⟩;obtain⟨B,e1,e2,e3⟩:=X.defers.2 d hd;refine⟨B,e1,e2,(F.keepFr B (λe=>?_)).trans e3⟩;subst e;rw[k]at e3;cases e3
   have r2:Rel x ro2 σ2 H1 env1 N a1 w2:=⟨s2,λs=>(X.env s).mono (F.ext0 σ2),X.size,aj⟩;have J:x D.l:=h6.sub _ t;refine Code.wpIn_mono ?_ (h2 (some D.l) x ro2 σ2 a1 w2 r2 (λl e=>by cases e;exact⟨J,_,T⟩));rintro e a3 y ⟨x3,aa,H3,M,σ3,ab,g1,g2,g3,g4,g5,g6⟩;have m:y.heap[D.l]?=some (.loop {D.rc .ready none with state:=.busy}):=(g4.keepFr _ J).trans T;have L:∀(H2:Qc) (jump:Option Code),Le D.h1 aa H3 [] H2->∃v u,(Instr.endRound D.l jump).run P y=.ok v u/\v=.bool jump.isNone/\ ∃g',Qe8 g g' W u/\ ∃a σ4,RJ D a σ4 H2 (if jump.isNone then .ready else .done) jump ri g' u:=by
    intro H2 jump f;obtain⟨a,σ4,r4,s4,t4⟩:=f ab M σ3 N a3 y g3;refine⟨_,_,run_endRound jump m,rfl,?_⟩;have ah:ab D.l:=g6.sub _ J;obtain⟨s5,ai⟩:=r4.sim.put (obj:=.loop {{D.rc .ready none with state:=.busy}with state:=if jump.isNone then .ready else .done,pending:=jump}) ah (Qbe m);have ad:D.l<y.heap.size:=by rw[Vl]at m;exact m.1
    have ak:=World.putObj_heap_same (w:=y) (r:=D.l) (o:=.loop {{D.rc .ready none with state:=.busy}with state:=if jump.isNone then .ready else .done,pending:=jump}) ad;have e1:Qj (λb=>FrB D ro1 g W b/\b≠D.l) ro1 W ro2 E:=h4.frMono λb q=>q.1;have e2:Qj (λb=>FrB D ro1 g W b/\b≠D.l) ro2 E ro2 w2:=F.frMono λb q=>q.2;have e3:Qj (λb=>FrB D ro1 g W b/\b≠D.l) ro2 w2 M y:=g4.frMono λb q=>h6.sub b q.1;have e4:Qj (λb=>FrB D ro1 g W b/\b≠D.l) M y a y:=YN s4;have e5:=(((e1.trans e2).trans e3).trans e4).trans (ai.frMono λb (q:FrB D ro1 g W b/\b≠D.l)=>q.2);obtain⟨q1,q2⟩:=j.fin hD e5 s5 (λb q=>g6.sub b (h6.sub b q)) (by rw[t4,g5,h5]) (st':=if jump.isNone then .ready else .done) (pe':=jump) (by rw[ak,n]);exact⟨_,q2,a,σ4,q1⟩
   cases e with
   |normal=>
    obtain rfl:x3=.normal:=g1;obtain⟨H2,f,Y⟩:=g2;obtain⟨v,u,k1,rfl,g',k2,a,σ4,V⟩:=L H2 none f;exact⟨_,u,k1,g',k2,.inl ⟨rfl,H2,a,σ4,Y,V⟩⟩
   |exit id=>
    obtain rfl:x3=.exit id:=g1;obtain⟨H2,f,Y⟩:=g2;obtain⟨v,u,k1,rfl,g',k2,a,σ4,V⟩:=L H2 (some (.exit id)) f;exact⟨_,u,k1,g',k2,.inr ⟨rfl,H2,_,a,σ4,.inl ⟨id,rfl,Y⟩,V⟩⟩
   |ret=>
    obtain rfl:x3=.ret:=g1;obtain⟨H2,f,Y⟩:=g2;obtain⟨v,u,k1,rfl,g',k2,a,σ4,V⟩:=L H2 (some .ret) f;exact⟨_,u,k1,g',k2,.inr ⟨rfl,H2,_,a,σ4,.inr ⟨rfl,Y⟩,V⟩⟩
   |_=>exact g1.elim
  |exit id=>cases h1
  |ret=>cases h1
  |_=>exact h1.elim
end
theorem Sim.beside{fr ro:Nat->Prop}{σ:Sig}{H:Qc}{w g:World}(s:Sim fr ro σ H w)(ev:Qj fr ro w ro g)(a:∀b,b<w.heap.size->g.heap[b]?=w.heap[b]?):Sim (λb=>fr b\/(w.heap.size<=b/\b<g.heap.size)) ro σ H g:=by
 have h:Ext ro σ w ro σ g:=ev.ext0 σ;refine⟨s.len,s.roOk.to (λ_ q=>q) ev.keepRo (λb q=>Vo (s.roLt b q) ev.size),λb q=>q.elim (λq=>Vo (s.frLt b q) ev.size) (λq=>q.2),λb q r=>?_,λi b x f e k=>?_,s.inj,λi z x f e=>?_,
  s.hidTo (· = ·) Yc ev.size (λ_ _ _ _ _ _ _ q=>q) (λi b x c f e k t=>t.elim id λq=>(by have:=(s.hid i b x c f e k).lt;omega)) λj d y l m E=>.inl ⟨j,y,rfl,l,m,id,λc q=>s.hidKeep l m (λz=>a d (s.own j d y l m z).1) ev.keepRo q⟩⟩
 .rcases r with r|r
  .exact s.roFr b q r
  .have:=s.roLt b q;omega
 .obtain⟨u,B,p⟩:=s.own i b x f e k;refine⟨Vo u ev.size,B,λr=>?_⟩;rcases r with r|r
  .exact p r
  .omega
 .refine(s.blk i z x f e).keep h ?_ ?_
  .rintro b rfl n;exact a b (s.own i b x f e n).1
  .rintro b c rfl n;exact a c (s.hid i b x c f e n).lt
theorem QbX{w:World}{o:Obj}{b:Nat}(a:b<w.heap.size):(w.alloc o).heap[b]?=w.heap[b]? :=by
 show(w.heap.push o)[b]?=_;rw[Array.getElem?_push,if_neg (by omega)]
theorem QmA{P:Program}{fn:FuncId}{tmps:Array Value}{ps:Array Tmp}{assign body:Code}{rd:Option Nat}{fr ro:Nat->Prop}{w:World}(j:QdM rd fr w)(h:∀b,ro b->b<w.heap.size)(k:∀b,fr b->b<w.heap.size):
  ∃l mark w1 df,(Instr.enterLoop fn tmps ps assign body rd).run P w=.ok (l,mark) w1/\w.heap.size<=l/\l<w1.heap.size/\w1.heap[l]?=some (.loop {state:=.ready,pending:=none,fn:=fn,tmps:=tmps,params:=ps,assign:=assign,body:=body,defers:=df})/\
   (∀b,b<w.heap.size->w1.heap[b]?=w.heap[b]?)/\mark.Nodup/\(∀d∈mark,∃D,d={target:=.collected D,args:= #[]}/\w.heap.size<=D/\D<w1.heap.size/\w1.heap[D]?=some (.deferred (some [])))/\Qj fr ro w ro w1:=by
 have f:∀w1:World,(∀b,b<w.heap.size->w1.heap[b]?=w.heap[b]?)->w.heap.size<=w1.heap.size->w1.os=w.os->w1.tape=w.tape->w1.output=w.output->w1.drawn=w.drawn->Qj fr ro w ro w1:=by
  intro w1 g y u s r p;refine⟨λ_ q=>q,λb q=>g b (h b q),λb q=>g b (k b q),y,λb x q=>?_,u,s,r,by rw[p];exact X2 _⟩;have e:b<w.heap.size:=by
   rcases Nat.lt_or_ge b w.heap.size with z|z
   .exact z
   .unfold World.shape? at q;rw[Array.getElem?_eq_none (by simpa using z)]at q;cases q
  unfold World.shape? at q⊢;rw[g b e];exact q
 cases rd with
 |none=>
  have a:∀b,b<w.heap.size->((w.alloc (.deferred (some []))).alloc (.loop {state:=.ready,pending:=none,fn:=fn,tmps:=tmps,params:=ps,assign:=assign,body:=body,defers:=w.heap.size})).heap[b]?=w.heap[b]? :=λb e=>
   (QbX (by simp;omega)).trans (QbX e)
  refine⟨_,_,_,w.heap.size,run_enterLoop_outer fn tmps ps assign body,by omega,by simp,?_,a,by simp,?_,f _ a (by simp;omega) rfl rfl rfl rfl⟩
  .have:=World.alloc_heap_new (w.alloc (.deferred (some []))) (.loop {state:=.ready,pending:=none,fn:=fn,tmps:=tmps,params:=ps,assign:=assign,body:=body,defers:=w.heap.size})
   rwa [World.size_alloc]at this
  .intro d i;obtain rfl:=List.mem_singleton.1 i;exact⟨_,rfl,X2 _,by simp;omega,(QbX (by simp)).trans (World.alloc_heap_new w _)⟩
 |some n=>
  obtain⟨_,m,t⟩:=j n rfl;have a:∀b,b<w.heap.size->(w.alloc (.loop {state:=.ready,pending:=none,fn:=fn,tmps:=tmps,params:=ps,assign:=assign,body:=body,defers:=m.defers})).heap[b]?=w.heap[b]? :=λb e=>QbX e;exact⟨_,_,_,m.defers,run_enterLoop_inner t fn tmps ps assign body,X2 _,by simp,World.alloc_heap_new w _,a,List.nodup_nil,(λd i=>absurd i List.not_mem_nil),f _ a (by simp) rfl rfl rfl rfl⟩
theorem TC.rangeFunc{P:Program}{h0 N:Nat}{ae:Operand}{ps:List Nat}{assign body:Code}{env:Env}{H:Qc}{Q:QE}{f:FuncId}{ag ad:List A}{Hc:Qc}{T S:Type}{enc:T->List A}{nx:List T->T->List T->Prop}{xs:List T}
  (π:List Nat)(Hp:S->Qc)(V:S->List T->Prop)(s0:S)(hh:h0<=H.length)(hg:opA env ae=.fn (.func f) [] ag)(hargs:ag=Qaa (rho π H.length) ad)(hH:π.map (λp=>H[p]?)=(Hc.map (Q9 (rho π H.length))).map some)(hπ:π.Nodup)
  (a8:(ps.all λp=>Nat.blt p N)=true)(eg:∀args w,(callFunc f args).run P w=.ok (.enter f args) w)(a0:QdL P f ad Hc enc nx xs)(ao:∀x,(enc x).length=ps.length)
  (bf:Le H.length env (Qdv H π) env (Hp s0))(hV:V s0 xs)
  (am:∀s l x rem,V s l->nx l x rem->TC P H.length N assign (Qlc ps (enc x) env) (Hp s) λe env1 H1=>e=.normal/\TC P H.length N body env1 H1 (QiP H.length env Q λH2=>∃s',V s' rem/\H2=Hp s'))
  (ah:∀s,V s []->Q .normal env (Hp s)):TC P h0 N (.rangeFunc ae ps.toArray assign body) env H Q:=by
 intro rd fr ro σ a w r hrd;have hv:=Qk r ae;rw[hg]at hv;obtain⟨l1,E,hv,a2,av⟩:=hv;obtain rfl:l1=[]:=a2;refine wpIn_rangeFunc ?_;intro fn bh;obtain⟨l,G,Y,df,he,hl,bb,ay,az,a7,an,aa⟩:=QmA (P:=P) (fn:=fn) (tmps:=a.tmps) (ps:=ps.toArray) (assign:=assign) (body:=body) (ro:=ro) hrd r.sim.roLt r.sim.frLt;have s1:=r.sim.beside aa az
 let D:Fix:=⟨fr,ro,σ,w,H.length,env,a.tmps,G++a.defers,l,(λst pe=>{state:=st,pending:=pe,fn:=fn,tmps:=a.tmps,params:=ps.toArray,assign:=assign,body:=body,defers:=df}),(λb=>fr b\/(w.heap.size<=b/\b<Y.heap.size))⟩
 have af:¬fr l:=λq=>by have:=r.sim.frLt l q;omega
 have hD:D.Ok:=⟨λb q=>.inl q,.inr ⟨hl,bb⟩,af,r.sim.len⟩;have L:Qc0 D.fr1 (G++a.defers) Y:=by
  refine⟨List.nodup_append.2 ⟨a7,r.defers.1,λd R d' a5 e=>?_⟩,λd R=>?_⟩
  .subst e;obtain⟨B,e1,e2,_⟩:=an d R;obtain⟨B',aw,a6,_⟩:=r.defers.2 d a5;rw[e1]at aw;have:B=B':=by simpa using aw
   subst this;have:=r.sim.frLt B a6;omega
  .rcases List.mem_append.1 R with R|R
   .obtain⟨B,e1,e2,e3,e4⟩:=an d R;exact⟨B,e1,.inr ⟨e2,e3⟩,e4⟩
   .obtain⟨B,e1,e2,e3⟩:=(r.defers.keep aa).2 d R;exact⟨B,e1,.inl e2,e3⟩
 obtain⟨sp,hσc⟩:=s1.part hH hπ;have al:LR ro (Yg σ π) Y ad E:=(Qbo hσc).1 (hargs▸av.mono (aa.ext0 σ))
 let frX:Nat->Prop:=λb=>D.fr1 b\/(∃(j:Nat) (x:Blk),(Yg σ π)[j]?=some (some b)/\Hc[j]?=some x/\x.live=true)\/ ∃(j:Nat) (x:Blk) (d:Nat),(Yg σ π)[j]?=some (some d)/\Hc[j]?=some x/\Hid Y x d b
 have sX:Sim frX ro σ (Qdv H π) Y:=by
  refine(Qdl π s1).frames (λb q=>?_) (λb q r=>?_) (λi b x n m k r=>?_) (λi b x c n m k r=>?_)
  .rcases q with q|⟨j,x,n,m,k⟩|⟨j,x,d,n,m,k⟩
   .exact s1.frLt b q
   .exact(sp.own j b x n m k).1
   .exact(sp.hid j d x b n m k).lt
  .rcases r with r|⟨j,x,n,m,k⟩|⟨j,x,d,n,m,k⟩
   .exact s1.roFr b q r
   .exact(sp.own j b x n m k).2.1 q
   .exact(sp.hid j d x b n m k).ro q
  .rcases Qeu _ _ _ _ m with rfl|⟨m,hi⟩
   .cases k
   .rcases r with r|⟨j,y,p1,p2,p3⟩|⟨j,y,d,p1,p2,p3⟩
    .exact(s1.own i b x n m k).2.2 r
    .exact(sp.own j b y p1 p2 p3).2.2 (.inr (.inl ⟨i,x,n,m,k,hi (Qbs k)⟩))
    .exact(sp.hid j d y b p1 p2 p3).fr (.inr (.inl ⟨i,x,n,m,k,hi (Qbs k)⟩))
  .rcases Qeu _ _ _ _ m with rfl|⟨m,hi⟩
   .exact k.elim
   .rcases r with r|⟨j,y,p1,p2,p3⟩|⟨j,y,d,p1,p2,p3⟩
    .exact(s1.hid i b x c n m k).fr r
    .exact(sp.own j c y p1 p2 p3).2.2 (.inr (.inr ⟨i,x,b,n,m,k,hi k.holds⟩))
    .exact(sp.hid j d y c p1 p2 p3).fr (.inr (.inr ⟨i,x,b,n,m,k,hi k.holds⟩))
 have rX:Rel frX ro σ (Qdv H π) env N {a with defers:=G++a.defers} Y:=
  ⟨sX,λs=>(r.env s).mono (aa.ext0 σ),r.size,L.1,λd R=>let⟨B,e1,e2,e3⟩:=L.2 d R;⟨B,e1,.inl e2,e3⟩⟩
 obtain⟨ac,σ',r',ab,a4⟩:=bf frX ro σ N _ Y rX;have hσt:σ.take H.length=σ:=by rw[<- r.sim.len,Vi]
 let g0:Nat->Prop:=λb=>D.fr1 b\/(ac b/\ ¬ro b)\/(∃(i:Nat) (x:Blk),σ'[i]?=some (some b)/\(Hp s0)[i]?=some x/\x.live=true)\/ ∃(i:Nat) (x:Blk) (d:Nat),σ'[i]?=some (some d)/\(Hp s0)[i]?=some x/\Hid Y x d b
 have j0:RJ D ac σ' (Hp s0) .ready none ro g0 Y:=by
  refine⟨r'.sim.frMono λb q=>.inl q,λt=>(r.env t).mono ⟨ab,aa.keepRo,aa.shape,λ_ _ q=>q⟩,a4.trans hσt,aa.trans (YN ab),L,ay,λb q=>?_,λb q=>.inl q,λi b x n m k=>.inr (.inr (.inl ⟨i,x,n,m,k⟩)),λi b x c n m k=>.inr (.inr (.inr ⟨i,x,b,n,m,k⟩)),λb q=>?_⟩
  .by_cases z:ro b
   .exact .inl z
   .exact .inr (.inr (.inl ⟨q,z⟩))
  .rcases q with q|q|⟨i,x,n,m,k⟩|⟨i,x,d,n,m,k⟩
   .exact s1.frLt b q
   .exact r'.sim.roLt b q.1
   .exact(r'.sim.own i b x n m k).1
   .exact(r'.sim.hid i d x b n m k).lt
 have sI:Sim g0 ro (Yg σ π) Hc Y:=by
  refine sp.frames (λb q=>j0.lt b q) (λb q z=>?_) (λj b x n m k z=>?_) (λj b x c n m k z=>?_)
  .rcases z with z|z|⟨i,x,n,m,k⟩|⟨i,x,d,n,m,k⟩
   .exact s1.roFr b q z
   .exact z.2 q
   .exact(r'.sim.own i b x n m k).2.1 (ab b q)
   .exact(r'.sim.hid i d x b n m k).ro (ab b q)
  .have hX:frX b:=.inr (.inl ⟨j,x,n,m,k⟩);rcases z with z|z|⟨i,y,p1,p2,p3⟩|⟨i,y,d,p1,p2,p3⟩
   .exact(sp.own j b x n m k).2.2 (.inl z)
   .exact r'.sim.roFr b z.1 hX
   .exact(r'.sim.own i b y p1 p2 p3).2.2 hX
   .exact(r'.sim.hid i d y b p1 p2 p3).fr hX
  .have hX:frX c:=.inr (.inr ⟨j,x,b,n,m,k⟩);rcases z with z|z|⟨i,y,p1,p2,p3⟩|⟨i,y,d,p1,p2,p3⟩
   .exact(sp.hid j b x c n m k).fr (.inl z)
   .exact r'.sim.roFr c z.1 hX
   .exact(r'.sim.own i c y p1 p2 p3).2.2 hX
   .exact(r'.sim.hid i d y c p1 p2 p3).fr hX
 let X:Ctx T:={l:=l,J:=λrem q g W=>∃s F σ1,V s rem/\RJ D F σ1 (Hp s) .ready none q g W,Jx:=λ_ q g W=>∃H2 c F σ1,Jump Q env c H2/\RJ D F σ1 H2 .done (some c) q g W,enc:=enc,nx:=nx}
 have aq:∀p∈ps,p<N:=λp hp=>by simpa using Xx.1 a8 p hp
 have hX:X.ok P:=by
  refine⟨⟨λrem q g W W' ac ⟨s,F,σ1,M,O⟩ he=>⟨s,F,σ1,M,O.step hD he⟩,λrem q g g' W ⟨s,F,σ1,M,O⟩ hg hl=>⟨s,F,σ1,M,O.up hg hl⟩⟩,
   ⟨λrem q g W W' ac ⟨H2,c,F,σ1,M,O⟩ he=>⟨H2,c,F,σ1,M,O.step hD he⟩,λrem q g g' W ⟨H2,c,F,σ1,M,O⟩ hg hl=>⟨H2,c,F,σ1,M,O.up hg hl⟩⟩,?_⟩
  rintro lr x rem q g ri W vs bc ⟨s,F,σ1,M,O⟩ hq hI ba;obtain⟨be,tm,bd,a9,y1,y2⟩:=RJ.round (D:=D) (Q:=Q) (K:=λH2=>∃s',V s' rem/\H2=Hp s') hD rfl r.size aq (ao x) hq hI ba O (am s lr x rem M bc);refine⟨be,tm,bd,a9,y1,RoundIn.mono y2 ?_⟩;rintro e W' ⟨g',k1,k2⟩;refine⟨g',ri,λ_ z=>z,k1,?_⟩;rcases k2 with⟨rfl,H2,u,σ2,⟨s',a3,rfl⟩,k3⟩|⟨rfl,H2,c,u,σ2,k3,k4⟩
  .exact .inl ⟨rfl,s',u,σ2,a3,k3⟩
  .exact .inr ⟨rfl,H2,c,u,σ2,k3,k4⟩
 have ax:∀(ev:Operand->Value),ev ae=.func (.func f) #[] E.toArray->ev (.const (.func (.yield l) #[] #[]))=.func (.yield l) #[] #[]->(resolve ev (rangeCall ae l) 0).run P Y=.ok {target:=.fn (.func f) E.toArray,args:= #[.func (.yield l) #[] #[]]} Y:=by
  intro ev M O;simp[resolve,go_sem,M,O]
 refine⟨l,G,Y,{target:=.fn (.func f) E.toArray,args:= #[.func (.yield l) #[] #[]]},Y,f, #[.func (.yield l) #[] #[]]++E.toArray,Y,he,ax a.eval hv rfl,λ_ _=>trivial,by simp[invoke,go_sem,eg],λh=>by simp[WF,Fence.wide]at h,?_⟩;refine WF.calls.2 ?_;have aj:=a0 X rfl rfl hX g0 ro (Yg σ π) Y E ro sI (λ_ z=>z) al ⟨s0,ac,σ',hV,j0⟩;have ak:(#[.func (.yield l) #[] #[]]++E.toArray:Array Value)=((Value.func (.yield X.l) #[] #[]::E)).toArray:=by simp[X]
 rw[ak];refine Calls.mono aj ?_;rintro e W' ⟨⟨v,rfl⟩,g2,qz,bg,au⟩;have fin:∀(H2:Qc) (st:LoopState) (pe:Option Code) (u:Nat->Prop) (σ2:Sig),st≠ .busy->RJ D u σ2 H2 st pe qz g2 W'->∃w4,(Instr.endLoop l).run P W'=.ok pe w4/\Rel D.fr1 u σ2 H2 env N {a with defers:=G++a.defers} w4/\Qj fr ro w u w4:=by
  intro H2 st pe u σ2 hst j;refine⟨_,run_endLoop j.rc (by exact hst),?_⟩;obtain⟨s5,ai⟩:=j.sim.put (obj:=.loop {(D.rc st pe)with state:=.exhausted}) hD.l1 (Qbe j.rc);have hr:=j.rc;refine⟨⟨s5,λt=>((j.env t).mono ⟨λ_ q=>q,λ_ _=>rfl,λ_ _ q=>q,λi b q=>Qdp j.sig q⟩).mono (ai.ext0 σ2),r.size,j.marks.1,λd R=>?_⟩,j.ev.trans (ai.frMono λb q e=>af (by have e':b=l:=e;rw[<- e'];exact q))⟩;obtain⟨B,e1,e2,e3⟩:=j.marks.2 d R;refine⟨B,e1,e2,(ai.keepFr B (λe=>?_)).trans e3⟩;subst e;rw[hr]at e3;cases e3
 have a1:Grow fr w a.defers D.fr1 (G++a.defers):=by
  refine⟨λb q=>.inl q,λb q=>q.imp id (λq=>q.1),λd R=>?_⟩;rcases List.mem_append.1 R with R|R
  .obtain⟨B,e1,e2,_⟩:=an d R;exact .inr ⟨B,e1,e2⟩
  .exact .inl R
 have ar:∀{σ2:Sig},σ2.take H.length=σ->σ2.take h0=σ.take h0:=by
  intro σ2 h;have:=congrArg (List.take h0) h
  rwa [List.take_take,XI hh]at this
 rcases au with⟨s,u,σ2,M,O⟩|⟨rem,H2,c,u,σ2,M,O⟩
 .obtain⟨w4,f1,f2,f3⟩:=fin _ _ _ u σ2 (by intro e;cases e) O;exact⟨none,w4,f1,.normal,env,_,u,σ2,_,rfl,ah s M,f2,f3,ar O.sig,a1⟩
 .obtain⟨w4,f1,f2,f3⟩:=fin _ _ _ u σ2 (by intro e;cases e) O;refine⟨some c,w4,f1,?_⟩;have hc:TC P h0 N c env H2 Q:=by
   rcases M with⟨id,rfl,M⟩|⟨rfl,M⟩
   .exact TC.exit M
   .exact TC.ret M
  exact Code.wpIn_mono (λe a w q=>q.grow f3 (ar O.sig) a1) (hc rd D.fr1 u σ2 _ w4 f2 (hrd.to f3 λb q=>.inl q))
end Go.Sw
namespace Go.Sw
theorem Qh7{h0 i k t T:Nat}{env:Env}{H:Qc}(X:Nat.ble h0 H.length=true)(M:H[i]?=some (.cells T [.nils])):Le h0 env H env (H.set i (.cells T [.osl H.length 0 0 k])++[.row t k []]):=by
 intro fr G σ N a w r;have F:h0<=H.length:=XZ X;have P:i<H.length:=(XT.1 M).1;have ext:Ext G σ w G (σ++[none]) w:=⟨λ_ q=>q,λ_ _=>rfl,λ_ _ q=>q,λ_ _ h=>Jm h⟩;have s:=r.sim.phantom t k;have n:(H++[Blk.row t k []])[i]?=some (.cells T [.nils]):=by rw[XU P];exact M
 have e0:H.set i (.cells T [.osl H.length 0 0 k])++[.row t k []]=(H++[Blk.row t k []]).set i (.cells T [.osl H.length 0 0 k]):=by
  rw[List.set_append_left _ _ P]
 have g:∀(j:Nat) (v:Blk),((H++[Blk.row t k []]).set i (.cells T [.osl H.length 0 0 k]))[j]?=some v->(j=i/\v=.cells T [.osl H.length 0 0 k])\/(j≠i/\(H++[Blk.row t k []])[j]?=some v):=by
  intro j v h;by_cases e:j=i
  .subst e;rw[Xa (by simp;omega)]at h;exact .inl ⟨rfl,by simpa using h.symm⟩
  .rw[XX (λq=>e q.symm)]at h;exact .inr ⟨e,h⟩
 have f:∀(j:Nat) (v:Blk),((H++[Blk.row t k []]).set i (.cells T [.osl H.length 0 0 k]))[j]?=some v->v.live=true->∃u,(H++[Blk.row t k []])[j]?=some u/\u.live=true:=by
  intro j v h hv;rcases g j v h with⟨rfl,rfl⟩|⟨_,h⟩
  .exact⟨_,n,rfl⟩
  .exact⟨v,h,hv⟩
 refine⟨G,σ++[none],⟨?_,λq=>(r.env q).mono ext,r.size,r.defers⟩,λ_ q=>q,Q4 (by rw[r.sim.len];exact F)⟩;rw[e0];refine⟨by rw[Vc];exact s.len,s.roOk,s.frLt,s.roFr,λj b v z B J=>?_,λj R b v u z B J Y W V=>?_,λj y v z B=>?_,
  s.hidTo (· = ·) Yc (X2 _) (λ_ _ _ _ _ _ _ q=>q) (λ_ _ _ _ _ _ _ q=>q) λj d y m p Q=>.inl ?_⟩
 rotate_left 3
 .rcases g j y p with⟨rfl,rfl⟩|⟨_,h⟩
  .exact⟨j,_,rfl,m,n,λ_=>rfl,λ_ q=>q.elim⟩
  .exact⟨j,y,rfl,m,h,id,λ_ q=>q⟩
 .obtain⟨u,m,p⟩:=f j v B J;exact s.own j b u z m p
 .obtain⟨x,m,p⟩:=f j v J W;obtain⟨x',L,E⟩:=f R u Y V;exact s.inj j R b x x' z B m L p E
 .rcases g j v B with⟨rfl,rfl⟩|⟨_,h⟩
  .have:=s.blk j y _ z n;cases y with
   |none=>exact this
   |some b=>
    obtain⟨l,m,⟨v1,O,rfl,p,Q⟩,g4⟩:=this;refine⟨_,m,⟨v1,O,rfl,.inl ⟨rfl,p⟩,?_⟩,g4⟩;obtain rfl:O=[]:=Q;rfl
  .exact s.blk j y v z h
theorem Qob{h0 i:Nat}{env:Env}{H:Qc}{es:List (A×A)}(e:H[i]?=some (.map es)):Le h0 env H env (H.set i (.fmap es)):=by
 intro f g σ N a w r;have d:∃s,σ[i]?=some s:=by
  have:i<σ.length:=by rw[r.sim.len];exact(XT.1 e).1
  exact⟨_,XS this⟩
 obtain⟨s,d⟩:=d;cases s with
 |none=>exact(r.sim.blk i _ _ d e).elim
 |some b=>
  refine⟨_,σ,⟨r.sim.shutMap d e,λq=>(r.env q).mono ⟨λ_ q=>.inl q,λ_ _=>rfl,λ_ _ q=>q,λ_ _ q=>q⟩,r.size,r.defers⟩,λ_ q=>.inl q,rfl⟩
def anyN{T:Type}(l:List T)(x:T)(rem:List T):Prop:=l.Perm (x::rem)
def QmL(ts te:Nat)(ld:Op):Code:=.block 1 (.region 3 #[{dst:=some 8,op:=.load ts (.tmp 2),type:=ts,pos:="iter.go:52",after:= #[],guard:=none},{dst:=some 9,op:=ld,type:=te,pos:="iter.go:52",after:= #[],guard:=none},
 {dst:=some 10,op:=.buildSlice ts 1 #[(0,.tmp 9)],type:=ts,pos:="iter.go:52",after:= #[{on:=1,ground:=.data}],guard:=none},
 {dst:=some 11,op:=.call {callee:=.builtin .append,args:= #[.tmp 8,.tmp 10],argTypes:= #[ts,ts]},type:=ts,pos:="iter.go:52",after:= #[{on:=0,ground:=.data},{on:=2,ground:=.data}],guard:=none},
 {dst:=none,op:=.store ts (.tmp 2) (.tmp 11),type:=0,pos:="iter.go:52",after:= #[{on:=3,ground:=.data},{on:=3,ground:=.chain},{on:=0,ground:=.phase},{on:=1,ground:=.phase},{on:=2,ground:=.phase},{on:=3,ground:=.phase}],guard:=none}] false)
def Qpd(ts tq te:Nat)(asg:Code)(ld:Op):Code:=(Code.region 0 #[{dst:=some 2,op:=.box ts (.tmp 0),type:=0,pos:="iter.go:50",after:= #[],guard:=none},{dst:=some 4,op:=.assign (.const (.slice none 0 0)),type:=ts,pos:="iter.go:50",after:= #[],guard:=none}] false).seq
 (((Code.region 1 #[{dst:=some 6,op:=.move (.tmp 1),type:=tq,pos:="iter.go:51",after:= #[],guard:=none}] false).seq (.block 0 (.rangeFunc (.tmp 6) #[7] asg (QmL ts te ld)))).seq
  ((Code.region 4 #[{dst:=some 12,op:=.load ts (.tmp 2),type:=ts,pos:="iter.go:54",after:= #[],guard:=none},{dst:=some 4,op:=.assign (.tmp 12),type:=ts,pos:="iter.go:54",after:= #[{on:=0,ground:=.data},{on:=0,ground:=.phase}],guard:=none}] false).seq .ret))
def Qpe(te:Nat):Code:=.region 2 #[{dst:=some 5,op:=.assign (.tmp 7),type:=te,pos:="iter.go:51",after:= #[],guard:=none}] false
section
variable {P:Program}{T:Type}{ts tq te k tm:Nat}{g:FuncId}{es:List (A×A)}{e:T->List A}{ea:T->A}{xs:List T}
abbrev apH(ts te k tm:Nat)(es:List (A×A))(e:T->List A)(done:List T):Qc:=[.dead,.fmap es,.cells ts [.osl 3 0 done.length k],.row te k (done.map e)]
abbrev apE(g:FuncId):Env:=[(6,.fn (.func g) [] [.ptr 0 0]),(4,.nils),(2,.ptr 2 0),(0,.nils),(1,.fn (.func g) [] [.ptr 0 0])]
theorem Qn0{N:Nat}(z:N=13){done:List T}{x:T}{env:Env}{H:Qc}{K:Qc->Prop}{p:Op}(E:Q6 P ts te k)(R:∀w,(isAgg ts).run P w=.ok false w)(L:∀w,(sizeOf ts).run P w=.ok 1 w)(J:app done [x]=some (done++[x]))
  (B:(e x).length=k)(g:Nat.ble k 16777216=true)(b:Yv (ea x)=true)(f:Yj (ea x)=e x)(d:(e x).all YG=true)(F:Yu (e x)=true)(u:Nat.ble 3 H.length=true)
  (l:lk env 2=.ptr 2 0)(r:H[2]?=some (.cells ts [.osl 3 0 done.length k]))(j:H[3]?=some (.row te k (done.map e)))
  (a:∀env',(∀s,s≠8->lk env' s=lk env s)->∀pos,OpV P {dst:=some 9,op:=p,type:=te,pos:=pos,after:= #[],guard:=none} env' H (ea x))
  (V:∀env',∃H2,Le 3 env' (((((H++[Blk.row te k [e x]]).set 3 .dead)++[Blk.row te k ((done++[x]).map e)]).set 2 (.cells ts [.osl (H.length+1) 0 (done++[x]).length k]))) [] H2/\K H2){env0:Env}{Q:QE}:
  TC P 3 N (QmL ts te p) env H (QiP 3 env0 Q K):=by
 subst z;have G:3<=H.length:=XZ u;have O:3<H.length:=(XT.1 j).1;refine TC.block (TC.region ?_);refine QM rfl rfl rfl (OpV.load (v:=.osl 3 0 done.length k) (cs:=[]) rfl R l (Pts.cells r rfl)) ?_;refine QM rfl rfl rfl (x:=ea x) ?_ ?_
 .refine a _ (λs M=>?_) _;simp only[up,lk];have:Nat.beq s 8=false:=by
   rw[Bool.eq_false_iff];intro q;exact M (XY q)
  rw[this];rfl
 refine Qcm (by omega) rfl rfl rfl (OpH.lit (xs:=[.tmp 9]) (es:=[e x]) E rfl rfl (by simpa using g) ?_ ?_ ⟨B,trivial⟩ (by simpa using d) (by simpa using F)) ?_
 .simp[opA,lk,up,b]
 .simp[Yn,opA,lk,up,f]
 refine Qcm (x:=.osl (H.length+1) 0 (done++[x]).length k) (H':=((H++[Blk.row te k [e x]]).set 3 .dead)++[Blk.row te k ((done++[x]).map e)]) (by simp;omega) rfl rfl rfl ?_ ?_
 .have:=Qt (P:=P) (o:={dst:=some 11,op:=.call {callee:=.builtin .append,args:= #[.tmp 8,.tmp 10],argTypes:= #[ts,ts]},type:=ts,pos:="iter.go:52",after:= #[{on:=0,ground:=.data},{on:=2,ground:=.data}],guard:=none})
   (env:=up (up (up env 8 (.osl 3 0 done.length k)) 9 (ea x)) 10 (.osl H.length 0 1 k)) (H:=H++[Blk.row te k [e x]]) (x:=.tmp 8) (y:=.tmp 10) (e:=e) (m:=[x]) (i:=3) (n:=done.length) (ya:=.osl H.length 0 1 k) J E E.sl (Yd (t:=te) (by simp) rfl) rfl rfl rfl rfl (by rw[XU O];exact j) rfl
  simpa using this
 refine QiN (by simp;omega) rfl rfl (OpU.store (i:=2) (off:=0) (T:=ts) (n:=1) (cs:=[.osl 3 0 done.length k]) (vs:=[.osl (H.length+1) 0 (done++[x]).length k]) (cs':=[.osl (H.length+1) 0 (done++[x]).length k]) (v:=.osl (H.length+1) 0 (done++[x]).length k) rfl ?_ ?_ L rfl rfl rfl rfl rfl rfl rfl) ?_
 .exact l
 .have h:2<H.length:=by omega
  rw[XU (by simp;omega),XX (by decide),XU h];exact r
 .refine WO.nil ?_;exact V _
theorem QmK{xs done l rem:List T}{x:T}(e:Nat.ble xs.length Q1=true)(b:(done++l).Perm xs)(a:l.Perm (x::rem)):app done [x]=some (done++[x])/\((done++[x])++rem).Perm xs:=by
 have d:=b.length_eq;have f:=a.length_eq;have g:=XZ e;simp at d f;refine⟨?_,?_⟩
 .unfold app;have:Nat.ble (done.length+[x].length) Q1=true:=X0 (by simp;omega);rw[this];rfl
 .refine List.Perm.trans ?_ b;simp only[Vr,List.singleton_append];exact(List.Perm.append_left done a).symm
theorem Qgc{j:FuncId}{fn:Func}(B:P.funcs[j]?=some fn)(y:fn.body=some (Qpd ts tq te (Qpe te) (.move (.tmp 5))))(s:fn.ntmps=13)(F:fn.results= #[.tmp 4])(E:Q6 P ts te 1)(m:∀w,(isAgg ts).run P w=.ok false w)(z:∀w,(sizeOf ts).run P w=.ok 1 w)
  (G:∀args w,(callFunc g args).run P w=.ok (.enter g args) w)(b:QdL P g [.ptr 0 0] [.cells tm [.map 1],.fmap es] (λx=>[ea x]) anyN xs)(L:Nat.ble xs.length Q1=true)
  (N:∀x,QbD (ea x)=true)(e:∀x,Yv (ea x)=true)(h:∀x,Yj (ea x)=[ea x])(f:∀x,YG (ea x)=true)(u:∀x,Yp (ea x)=true):
  C P j [.nils,.fn (.func g) [] [.ptr 0 0]] [.cells tm [.map 1],.fmap es] (λr H1=>∃p:List T,p.Perm xs/\r=.osl 2 0 p.length 1/\H1=[.dead,.fmap es,.row te 1 (p.map λx=>[ea x])]):=by
 refine Qb B y s rfl ?_;refine TC.seq (TC.region ?_);refine Qcm (XZ rfl) rfl rfl rfl (OpH.box (v:=.nils) (cs:=[.nils]) rfl rfl rfl rfl rfl) ?_;refine QM rfl rfl rfl (OpV.assign (v:=.nils) rfl rfl) ?_;refine WO.nil ?_;refine TC.seq (TC.seq (TC.region ?_));refine QM rfl rfl rfl (OpV.move (v:=.fn (.func g) [] [.ptr 0 0]) rfl rfl) ?_;refine WO.nil ?_;refine TC.block ?_;refine TC.rangeFunc (env:=apE g) (ps:=[7]) (S:=List T) [0,1] (apH ts te 1 tm es (λx=>[ea x])) (λdone l=>(done++l).Perm xs) [] (XZ rfl) rfl rfl rfl (by decide) rfl G b (λx=>rfl) ?_ (List.Perm.refl _) ?_ ?_
 .exact Qh7 (h0:=3) (i:=2) (t:=te) (k:=1) (H:=[.dead,.fmap es,.cells ts [.nils]]) rfl rfl
 .intro done l x rem d q;obtain⟨n,M⟩:=QmK L d q;refine TC.region (QM rfl rfl rfl (OpV.assign (v:=ea x) rfl rfl) (WO.nil ⟨rfl,?_⟩));refine Qn0 (ea:=ea) rfl E m z n rfl rfl (e x) (h x) (by simp[f x]) (by simp[Yu,u x]) rfl rfl rfl rfl ?_ ?_
  .intro a J pos;exact OpV.move rfl (by show lk a 5=ea x;rw[J 5 (by decide)];rfl)
  .intro a;exact⟨_,Lr (H':=apH ts te 1 tm es (λx=>[ea x]) (done++[x])) [0,1,2,5],_,M,rfl⟩
 .intro done d;rw[Vp]at d;refine TC.seq (TC.region ?_);refine QM rfl rfl rfl (OpV.load (v:=.osl 3 0 done.length 1) (cs:=[]) rfl m rfl (Pts.cells rfl rfl)) ?_;refine QM rfl rfl rfl (OpV.assign (v:=.osl 3 0 done.length 1) rfl rfl) ?_;refine WO.nil ?_;refine TC.ret ?_;exact⟨[(4,.osl 2 0 done.length 1)],[.dead,.fmap es,.row te 1 (done.map λx=>[ea x])],_,Lr [0,1,3],QcU.one F rfl,done,d,rfl,rfl⟩
end
theorem TCy.le{T:Type}{X:Ctx T}{P:Program}{h0 N:Nat}{c:Code}{env env':Env}{H H':Qc}{l:YSt T}{Q:YC T}(j:Le h0 env H env' H')(h:TCy X P h0 N c env' H' l Q):TCy X P h0 N c env H l Q:=by
 intro x y m p σ a w g r hj hrd;obtain⟨f,σ',u,s,t⟩:=j m p σ N a w r;obtain⟨⟨n,i,k⟩,d⟩:=hj;exact Code.wpIn_mono (λe a w q=>q.grow s (X2 _) t (Grow.refl _ _ _)) (h x y m f σ' a w g u ⟨⟨n,λb z=>s b (i b z),k⟩,d⟩ hrd)
mutual
theorem Qg3:∀{a:A},QbD a=true->Yp a=true
 |.any,_=>rfl
 |.bool _,_=>rfl
 |.int _ _,_=>rfl
 |.str _,_=>rfl
 |.nilp,_=>rfl
 |.ptr _ _,h=>by simp[QbD]at h
 |.rp _,_=>rfl
 |.nils,_=>rfl
 |.rsl _ _,_=>rfl
 |.osl _ _ _ _,h=>by simp[QbD]at h
 |.agg cs,h=>by simp only[QbD]at h;simp only[Yp];exact QfC h
 |.fn _ a c,h=>by simp[QbD]at h
 |.nilf,_=>rfl
 |.iface _ v,h=>by simp[QbD]at h
 |.nilif,_=>rfl
 |.map _,h=>by simp[QbD]at h
 |.nilm,_=>rfl
 |.tup vs,h=>by simp[QbD]at h
theorem QfC:∀{l:List A},Qed l=true->Yu l=true
 |[],_=>rfl
 |a::r,h=>by
  simp only[Qed,X5]at h;simp only[Yu,X5];exact⟨Qg3 h.1,QfC h.2⟩
end
theorem QgY{P:Program}{o:Oper}{env:Env}{H:Qc}{y z:Operand}{l:Nat}{a:A}{m:Array TypeId}(h:o.op=.call {callee:=.value y,args:= #[z],argTypes:=m})(i:opA env y=.fn (.yield l) [] [])(e:opA env z=a)(j:Yp a=true){N:Nat}:
  ∀fr ro σ act w,Rel fr ro σ H env N act w->∃vs:List Value,LR ro [] w [a] vs/\(execOp act.eval o).run P w=(Instr.yield l vs.toArray).run P w:=by
 intro fr ro σ act w r;have b:=Qk r y;rw[i]at b;obtain⟨n,f,b,k,g⟩:=b;obtain rfl:n=[]:=k;obtain rfl:f=[]:=g;have d:=Qk r z;rw[e]at d;refine⟨[act.eval z],⟨_,_,rfl,VR.data j d,rfl⟩,?_⟩;generalize act.eval=ev at*;simp[execOp,h,resolve,invoke,go_sem,b]
theorem QjU{P:Program}{o:Oper}{env:Env}{H:Qc}{y d b:Operand}{l:Nat}{h f:A}{u:Array TypeId}(q:o.op=.call {callee:=.value y,args:= #[d,b],argTypes:=u})(s:opA env y=.fn (.yield l) [] [])(j:opA env d=h)(i:opA env b=f)(e:Yp h=true)(g:Yp f=true){N:Nat}:
  ∀fr ro σ act w,Rel fr ro σ H env N act w->∃vs:List Value,LR ro [] w [h,f] vs/\(execOp act.eval o).run P w=(Instr.yield l vs.toArray).run P w:=by
 intro fr ro σ act w r;have a:=Qk r y;rw[s]at a;obtain⟨x,n,a,t,p⟩:=a;obtain rfl:x=[]:=t;obtain rfl:n=[]:=p;have m:=Qk r d;rw[j]at m;have k:=Qk r b;rw[i]at k;refine⟨[act.eval d,act.eval b],⟨_,_,rfl,VR.data e m,_,_,rfl,VR.data g k,rfl⟩,?_⟩;generalize act.eval=ev at*;simp[execOp,q,resolve,invoke,go_sem,a]
def QlV(tm tb ty tk:Nat)(asg:Array Oper)(ld:Op):Code:=
 (Code.region 0 #[{dst:=some 4,op:=.load tm (.tmp 1),type:=tm,pos:="iter.go:27",after:= #[],guard:=none},{dst:=some 5,op:=.range tm (.tmp 4),type:=0,pos:="iter.go:27",after:= #[{on:=0,ground:=.data}],guard:=none}] false).seq
 (.block 0 (Code.loop ((Code.region 1 #[{dst:=some 6,op:=.next (.tmp 5) false,type:=0,pos:="iter.go:27",after:= #[],guard:=none},{dst:=some 7,op:=.extract (.tmp 6) 0,type:=tb,pos:="iter.go:27",after:= #[{on:=0,ground:=.data}],guard:=none}] false).seq
  ((Code.cond (.tmp 7) .skip (.exit 0)).seq (.block 1 ((Code.region 2 asg false).seq
   ((Code.region 3 #[{dst:=some 10,op:=.move (.tmp 0),type:=ty,pos:="iter.go:28",after:= #[],guard:=none},{dst:=some 11,op:=ld,type:=tk,pos:="iter.go:28",after:= #[],guard:=none},
    {dst:=some 12,op:=.call {callee:=.value (.tmp 10),args:= #[.tmp 11],argTypes:= #[tk]},type:=tb,pos:="iter.go:28",after:= #[{on:=0,ground:=.data},{on:=1,ground:=.data}],guard:=none},
    {dst:=some 13,op:=.unOp .not tb (.tmp 12),type:=tb,pos:="iter.go:28",after:= #[{on:=2,ground:=.data}],guard:=none}] false).seq (.cond (.tmp 13) .ret .skip))))))))
def QoY(tk:Nat):Array Oper:= #[{dst:=some 8,op:=.entry (.tmp 5),type:=0,pos:="iter.go:27",after:= #[],guard:=none},{dst:=some 9,op:=.extract (.tmp 8) 0,type:=tk,pos:="iter.go:27",after:= #[{on:=0,ground:=.data}],guard:=none},
 {dst:=some 3,op:=.assign (.tmp 9),type:=tk,pos:="iter.go:27",after:= #[{on:=1,ground:=.data},{on:=0,ground:=.phase},{on:=1,ground:=.phase}],guard:=none}]
section
variable {P:Program}{K V:Type}{tm tb ty tk kt et:Nat}{ek:K->A}{ev:V->A}{m:List (K×V)}{T:Type}
abbrev kyE(l:Nat):Env:=[(0,.fn (.yield l) [] []),(1,.ptr 0 0),(5,.ptr 2 0)]
abbrev kyH(tm:Nat)(ek:K->A)(ev:V->A)(m l:List (K×V)):Qc:=[.cells tm [.map 1],.fmap (Qy ek ev m),.iter none (Qy ek ev l)]
theorem Qka{g:FuncId}{fn:Func}{d:Array Oper}{r:Op}(L:P.funcs[g]?=some fn)(J:fn.body=some (QlV tm tb ty tk d r))(E:fn.ntmps=14)(M:fn.results= #[])(T:∀w,(isAgg tm).run P w=.ok false w)(F:P.underlying tm=some (.map kt et))(R:∀x,QbD (ek x)=true)
  (round:∀(X:Ctx K) (e:K×V) (l:List (K×V)) (env:Env) (H:Qc) (h:YSt K) (Q:YC K),lk env 0=.fn (.yield X.l) [] []->lk env 1=.ptr 0 0->lk env 5=.ptr 2 0->H=[.cells tm [.map 1],.fmap (Qy ek ev m),.iter (some (ek e.1,ev e.2)) (Qy ek ev l)]->
   (∀env' H',lk env' 0=.fn (.yield X.l) [] []->lk env' 1=.ptr 0 0->lk env' 5=.ptr 2 0->(∀env2 b,lk env2 0=.fn (.yield X.l) [] []->lk env2 1=.ptr 0 0->lk env2 5=.ptr 2 0->Le 2 (up (up env2 12 (.bool b)) 13 (.bool (!b))) H' (kyE X.l) (kyH tm ek ev m l))->
    (∀pos env2,(∀s,s≠10->lk env2 s=lk env' s)->OpV P {dst:=some 11,op:=r,type:=tk,pos:=pos,after:= #[],guard:=none} env2 H' (ek e.1))->Nat.ble 2 H'.length=true->Q .normal env' H' h)->
   TCy X P 2 14 (.region 2 d false) env H h Q):
  QdL P g [.ptr 0 0] [.cells tm [.map 1],.fmap (Qy ek ev m)] (λx=>[ek x]) anyN (m.map Prod.fst):=by
 refine QcS L J E rfl M ?_;intro X hE hNx;refine TCy.seq (TCy.lift (TC.region ?_));refine QM rfl rfl rfl (OpV.load (v:=.map 1) (cs:=[]) rfl T rfl (Pts.cells rfl rfl)) ?_;refine Qcm (XZ rfl) rfl rfl rfl (QiU F) ?_;refine WO.nil ?_;refine TCy.block ?_;refine Qf4 (I:=λn env H h=>∃l:List (K×V),l.length=n/\h=.on (l.map Prod.fst)/\Le 2 env H (kyE X.l) (kyH tm ek ev m l)) ?_ ⟨m,rfl,rfl,Lr [0,1,2]⟩;rintro n env H h ⟨l,B,rfl,k⟩;refine TCy.le k ?_;refine TCy.seq (TCy.lift (TC.region ?_));refine QmO (XZ rfl) rfl rfl rfl (OpE.next rfl rfl rfl) ?_;rintro v H' (⟨j,rfl,rfl⟩|⟨W,O,j,rfl,rfl⟩)
 .have N:l=[]:=List.map_eq_nil_iff.1 j;subst N;refine QM rfl rfl rfl (OpV.extract (v:=.bool false) rfl rfl rfl) ?_;refine WO.nil ?_;refine TCy.seq (TCy.cond (t:=false) rfl (λe=>by cases e) (λ_=>?_));exact TCy.exit ⟨.inl rfl,.inl rfl⟩
 .obtain⟨G,u,p⟩:=Qj2 j rfl;cases G with
  |nil=>cases p
  |cons e i=>
   simp only[Vs,List.cons.injEq]at p;obtain⟨rfl,rfl⟩:=p;have f:i.length<n:=by rw[<- B, <- u.length_eq];simp
   refine QM rfl rfl rfl (OpV.extract (v:=.bool true) rfl rfl rfl) ?_;refine WO.nil ?_;refine TCy.seq (TCy.cond (t:=true) rfl (λ_=>?_) (λe=>by cases e));refine TCy.skip ?_;refine TCy.block ?_;refine TCy.seq (round X e i _ _ _ _ rfl rfl rfl rfl ?_);intro env' H' g0 g1 g5 hfin hld hL;refine TCy.seq (TCy.region ?_);refine WOy.step (QM rfl rfl rfl (OpV.move (v:=.fn (.yield X.l) [] []) rfl g0) (WO.nil ⟨rfl,?_⟩));refine WOy.step (QM rfl rfl rfl (x:=ek e.1) (hld _ _ λs q=>?_) (WO.nil ⟨rfl,?_⟩))
   .simp only[up,lk];have:Nat.beq s 10=false:=by rw[Bool.eq_false_iff];intro z;exact q (XY z)
    rw[this];rfl
   refine WOy.yield (x:=e.1) (rem:=i.map Prod.fst) ?_ rfl rfl rfl ?_ ?_
   .rw[hNx];exact u.symm.map Prod.fst
   .rw[hE];refine QgY (y:=.tmp 10) (z:=.tmp 11) (l:=X.l) (a:=ek e.1) rfl ?_ ?_ (Qg3 (R _))
    .rfl
    .rfl
   .intro b;refine WOy.step (QM rfl rfl rfl (OpV.not (b:=b) rfl rfl) (WO.nil ⟨rfl,?_⟩));refine WOy.nil ?_;refine TCy.cond (t:= !b) rfl (λq=>?_) (λq=>?_)
    .obtain rfl:b=false:=by simpa using q
     exact TCy.ret ⟨.inr rfl,.inr ⟨_,rfl⟩⟩
    .obtain rfl:b=true:=by simpa using q
     refine TCy.skip ?_;exact⟨_,f,i,rfl,rfl,hfin _ true g0 g1 g5⟩
theorem Qe7{g:FuncId}{fn:Func}(h:P.funcs[g]?=some fn)(f:fn.body=some (QlV tm tb ty tk (QoY tk) (.move (.tmp 3))))(j:fn.ntmps=14)(k:fn.results= #[])(t:∀w,(isAgg tm).run P w=.ok false w)(s:P.underlying tm=some (.map kt et))(p:∀x,QbD (ek x)=true):
  QdL P g [.ptr 0 0] [.cells tm [.map 1],.fmap (Qy ek ev m)] (λx=>[ek x]) anyN (m.map Prod.fst):=by
 refine Qka (et:=et) (kt:=kt) h f j k t s p ?_;intro X e l env H st Q g0 g1 g5 hH hk;subst hH;refine TCy.lift (TC.region ?_);refine QM rfl rfl rfl (OpV.entry (e:=(ek e.1,ev e.2)) rfl g5 rfl) ?_;refine QM rfl rfl rfl (OpV.extract (v:=ek e.1) rfl rfl rfl) ?_;refine QM rfl rfl rfl (OpV.assign (v:=ek e.1) rfl rfl) ?_;refine WO.nil ?_;refine hk _ _ g0 g1 g5 ?_ ?_ rfl
 .intro a b q r d;exact Le.trans (Qk1 (i:=2) (es:=Qy ek ev l) rfl rfl) (Lr [0,1,2] (hE:=⟨q,r,d,trivial⟩))
 .intro pos a n;exact OpV.move rfl (by show lk a 3=_;rw[n 3 (by decide)];rfl)
end
def Qo9(ts tq fA:Nat):Code:=(Code.region 0 #[{dst:=some 2,op:=.assign (.const (.slice none 0 0)),type:=ts,pos:="iter.go:59",after:= #[],guard:=none}] false).seq
 ((Code.region 1 #[{dst:=some 3,op:=.move (.tmp 0),type:=tq,pos:="iter.go:60",after:= #[],guard:=none},
  {dst:=some 4,op:=.call {callee:=.value (.func fA),args:= #[.const (.slice none 0 0),.tmp 3],argTypes:= #[ts,tq]},type:=ts,pos:="iter.go:60",after:= #[{on:=0,ground:=.data}],guard:=none},
  {dst:=some 2,op:=.assign (.tmp 4),type:=ts,pos:="iter.go:60",after:= #[{on:=1,ground:=.data},{on:=1,ground:=.chain},{on:=0,ground:=.phase},{on:=1,ground:=.phase}],guard:=none}] false).seq .ret)
theorem Qgb{P:Program}{T:Type}{f j i k l:Nat}{g:FuncId}{es:List (A×A)}{e:T->List A}{xs:List T}{fC a:FuncId}{fn:Func}(q:P.funcs[fC]?=some fn)(n:fn.body=some (Qo9 f j a))(s:fn.ntmps=5)(t:fn.results= #[.tmp 2])
  (b:∀(env:Env) (H:Qc),lk env 3=.fn (.func g) [] [.ptr 0 0]->OpC P {dst:=some 4,op:=.call {callee:=.value (.func a),args:= #[.const (.slice none 0 0),.tmp 3],argTypes:= #[f,j]},type:=f,pos:="iter.go:60",after:= #[{on:=0,ground:=.data}],guard:=none} env H a [.nils,.fn (.func g) [] [.ptr 0 0]])
  (u:C P a [.nils,.fn (.func g) [] [.ptr 0 0]] [.cells l [.map 1],.fmap es] (λr H1=>∃p:List T,p.Perm xs/\r=.osl 2 0 p.length k/\H1=[.dead,.fmap es,.row i k (p.map e)])):
  C P fC [.fn (.func g) [] [.ptr 0 0]] [.cells l [.map 1],.fmap es] (λr H1=>∃p:List T,p.Perm xs/\r=.osl 2 0 p.length k/\H1=[.dead,.fmap es,.row i k (p.map e)]):=by
 refine Qb q n s rfl ?_;refine TC.seq (TC.region ?_);refine QM rfl rfl rfl (OpV.assign (v:=.nils) rfl rfl) ?_;refine WO.nil ?_;refine TC.seq (TC.region ?_);refine QM rfl rfl rfl (OpV.move (v:=.fn (.func g) [] [.ptr 0 0]) rfl rfl) ?_;refine WO.call (d:=some 4) [0,1] (XZ rfl) rfl rfl (λx h=>by cases h;decide) (b _ _ rfl) rfl rfl (by decide) u ?_;rintro r H1 ⟨p,m,rfl,rfl⟩;refine QM rfl rfl rfl (OpV.assign (v:=.osl 2 0 p.length k) rfl rfl) ?_;refine WO.nil ?_;refine TC.ret ?_;exact⟨[(2,.osl 2 0 p.length k)],[.dead,.fmap es,.row i k (p.map e)],_,Lr [0,1,2],QcU.one t rfl,p,m,rfl,rfl⟩
def QkD{K R:Type}[DecidableEq R](l:List K)(k:List K->Option R):Option R:=bif Nat.ble l.length Q1 then anyP k l else none
theorem QjF{K R:Type}[DecidableEq R]{l:List K}{k:List K->Option R}{r:R}(h:QkD l k=some r):Nat.ble l.length Q1=true/\ ∀p,p.Perm l->k p=some r:=by
 unfold QkD at h;cases q:Nat.ble l.length Q1 with
 |true=>rw[q]at h;exact⟨rfl,Qn1 h⟩
 |false=>rw[q]at h;cases h
end Go.Sw
namespace Go.Sw
section
variable {P:Program}{o:Oper}{env:Env}{H:Qc}{fr ro:Nat->Prop}{σ:Sig}{w:World}
end
section
variable {P:Program}{h0 N:Nat}{A B C:Code}{env:Env}{H:Qc}{Q:QE}
end
end Go.Sw
namespace Go.Sw
section
variable {P:Program}{o:Oper}{env:Env}{H:Qc}
def YP(k:IntKind)(m n:Int):Int:=k.wrap (BitVec.ofInt k.bits m&&& BitVec.ofInt k.bits n).toNat
def YS(k:IntKind)(m n:Int):Int:=m.fdiv (2^(min n.toNat k.bits))
theorem OpV.and{t u:TypeId}{x y:Operand}{k:IntKind}{m n:Int}(d:o.op=.binOp .and t x y u)(e:opA env x=.int k m)(f:opA env y=.int k n):OpV P o env H (.int k (YP k m n)):=by
 intro i h σ N a w r;have b:=Q7 r e;have g:=Q7 r f;refine⟨_,?_,rfl⟩;generalize a.eval=ρ at*;simp[execOp,d,b,g,Go.binOp,eqGuard,Op.intBits,go_sem,YP]
theorem OpV.shr{t u:TypeId}{x y:Operand}{k g:IntKind}{m n:Int}(f:o.op=.binOp .shr t x y u)(d:opA env x=.int k m)(h:opA env y=.int g n)(e:0<=n):OpV P o env H (.int k (YS k m n)):=by
 intro j l σ N a w r;have b:=Q7 r d;have i:=Q7 r h;refine⟨_,?_,rfl⟩;generalize a.eval=ρ at*;simp[execOp,f,b,i,Go.binOp,eqGuard,Op.shift,go_sem,YS,Int.not_lt.2 e]
theorem Yk{h0 i m t k T:Nat}{cs:List A}(G:Nat.ble h0 H.length=true)(f:H[i]?=some (.cells T cs))(e:cs[m]?=some .nils):
  Le h0 env H env (H.set i (.cells T (cs.set m (.osl H.length 0 0 k)))++[.row t k []]):=by
 intro L j σ N a w r;have g:h0<=H.length:=XZ G;have p:i<H.length:=(XT.1 f).1;have ext:Ext j σ w j (σ++[none]) w:=⟨λ_ q=>q,λ_ _=>rfl,λ_ _ q=>q,λ_ _ h=>Jm h⟩;have s:=r.sim.phantom t k;have d:(H++[Blk.row t k []])[i]?=some (.cells T cs):=by rw[XU p];exact f
 have z:H.set i (.cells T (cs.set m (.osl H.length 0 0 k)))++[.row t k []]=(H++[Blk.row t k []]).set i (.cells T (cs.set m (.osl H.length 0 0 k))):=by
  rw[List.set_append_left _ _ p]
 rw[z];refine⟨j,σ++[none],⟨s.weaken d rfl ?_,λq=>(r.env q).mono ext,r.size,r.defers⟩,λ_ q=>q,Q4 (by rw[r.sim.len];exact g)⟩;intro y h;cases y with
 |none=>exact h
 |some b=>
  obtain⟨l,u,J,B⟩:=h;refine⟨l,u,?_,B⟩;clear u B d z f
  induction cs generalizing m l with
  |nil=>cases e
  |cons c cs F=>
   obtain⟨v,n,rfl,x,E⟩:=J;cases m with
   |zero=>
    simp at e;subst e;exact⟨v,n,rfl,.inl ⟨rfl,x⟩,E⟩
   |succ m=>exact⟨v,n,rfl,x,F (by simpa using e) n E⟩
end
end Go.Sw
namespace Go.Sw
end Go.Sw
namespace Go.Sw
def Qcg:Option Blk->Bool
 |some .dead=>true
 |_=>false
def Qaq(hB hE:Nat)(H H':Qc):Bool:=(List.range (hE-hB)).all λp=> !Qcg H'[hB+p]? ||Qcg H[hB+p]?
def QjO(hB hE:Nat)(σ:Sig)(H:Qc):Prop:=∀p,hB<=p->p<hE->Qcg H[p]?=true->σ[p]?=some none
theorem Qku{hB hE:Nat}{H H':Qc}(h:Qaq hB hE H H'=true){p:Nat}(b:hB<=p)(d:p<hE)(a:Qcg H'[p]?=true):Qcg H[p]?=true:=by
 have:=Xx.1 h (p-hB) (List.mem_range.2 (by omega));rw[show hB+(p-hB)=p by omega,a]at this;simpa using this
theorem Sim.allocAt{fr ro:Nat->Prop}{σ:Sig}{H:Qc}{w:World}(s:Sim fr ro σ H w){p:Nat}(J:σ[p]?=some none){obj:Obj}{x:Blk}
  (P:BR ro (σ.set p (some w.heap.size)) (w.alloc obj) x (some w.heap.size))
  (E:∀c,Hid (w.alloc obj) x w.heap.size c->False:=by exact λ_ h=>h.elim):Sim fr ro (σ.set p (some w.heap.size)) (H.set p x) (w.alloc obj):=by
 have ev:Qj fr ro w ro (w.alloc obj):=Qj.alloc obj s.roLt s.frLt;have u:=s.len;have F:p<σ.length:=(XT.1 J).1;have t:Ext ro σ w ro (σ.set p (some w.heap.size)) (w.alloc obj):=⟨ev.sub,ev.keepRo,ev.shape,λi b q=>by
  rw[XX (λz=>by subst z;rw[J]at q;cases q)];exact q⟩
 have e:∀(i:Nat) (y:Option Nat),(σ.set p (some w.heap.size))[i]?=some y->(i≠p/\σ[i]?=some y)\/(i=p/\y=some w.heap.size):=by
  intro i y h;by_cases q:i=p
  .subst q;rw[Xa F]at h;exact .inr ⟨rfl,(X8 h).symm⟩
  .rw[XX (λz=>q z.symm)]at h;exact .inl ⟨q,h⟩
 have m:∀i:Nat,i≠p->(H.set p x)[i]?=H[i]? :=λi O=>XX (λz=>O z.symm);have M:(H.set p x)[p]?=some x:=Xa (by omega);refine⟨by simp[u],s.roOk.to (λ_ q=>q) ev.keepRo (λb h=>?_),λb h=>?_,s.roFr,?_,?_,?_,s.hidTo (· = ·) Yc (by rw[YA];omega) (λ_ _ _ _ _ _ _ q=>q) (λ_ _ _ _ _ _ _ q=>q) λj d y l k Q=>?_⟩
 rotate_left 5
 .rcases e j _ l with⟨q,l⟩|⟨rfl,n⟩
  .rw[m j q]at k;exact .inl ⟨j,y,rfl,l,k,id,λc q=>s.hidKeep l k (λz=>YB w obj d (s.own j d y l k z).1) ev.keepRo q⟩
  .rw[M]at k;cases k;cases n;exact .inr ⟨X2 _,E⟩
 .rw[YA];have:=s.roLt b h;omega
 .rw[YA];have:=s.frLt b h;omega
 .intro i b y f g r;rw[YA];rcases e i _ f with⟨q,f⟩|⟨rfl,n⟩
  .rw[m i q]at g;obtain⟨a,b,c⟩:=s.own i b y f g r;exact⟨by omega,b,c⟩
  .cases n;exact⟨by omega,λq=>by have:=s.roLt _ q;omega,λq=>by have:=s.frLt _ q;omega⟩
 .intro i j b y z f g r B L G;rcases e i _ f with⟨q,l⟩|⟨N,n⟩<;>rcases e j _ g with⟨q',k⟩|⟨ej,e2⟩
  .rw[m i q]at r;rw[m j q']at B;exact s.inj i j b y z l k r B L G
  .cases e2;rw[m i q]at r;have:=(s.own i _ y l r L).1;omega
  .cases n;rw[m j q']at B;have:=(s.own j _ z k B G).1;omega
  .rw[N,ej]
 .intro i y z f g;rcases e i _ f with⟨q,f⟩|⟨rfl,n⟩
  .rw[m i q]at g;refine(s.blk i y z f g).keep t ?_ ?_
   .rintro b rfl u;exact YB w obj b (s.own i b z f g u).1
   .rintro b c rfl u;exact YB w obj c (s.hid i b z c f g u).lt
  .rw[M]at g;cases g;subst n;exact P
def OpZ(P:Program)(o:Oper)(t:Nat)(cs:List A):Prop:=
 ∀(ro:Nat->Prop) (σ:Sig) (w:World) (a:Act),∃l:List Value,(execOp a.eval o).run P w=.ok (.value (.pointer (some ⟨w.heap.size,0,none⟩))) (w.alloc (.cells l.toArray t))/\LR ro σ w cs l/\ ∀v∈l,Qz v
theorem OpZ.alloc{P:Program}{o:Oper}{t:Nat}{z:Value}{v:A}{cs:List A}(h:∀w,(zeroValue t).run P w=.ok z w)(d:ZR v z)(f:o.op=.alloc t:=by exact rfl)(hk:Yv v=true:=by exact rfl)(hcs:Yj v=cs:=by exact rfl)(hpl:cs.all YG=true:=by exact rfl):
  OpZ P o t cs:=by
 intro g σ w a;obtain⟨l,i,b⟩:=(d g σ w).cells hk;subst hcs;refine⟨l,?_,b,b.plain hpl⟩;generalize a.eval=ρ at*;have e:(newVar t z).run P w=.ok ⟨w.heap.size,0,none⟩ (w.alloc (.cells l.toArray t)):=by
  unfold newVar;rw[i];rfl
 simp only[execOp,f,Instr.alloc,Vv,h,Result.andThen,e];rfl
theorem QcA{P:Program}{l:List Oper}{i:Nat}{o:Oper}{rd:Option Nat}{R:Exit->Act->World->Prop}{Q:Exit->Act->World->Prop}{K:Act->World->Prop}{a:Act}{w:World}
  (E:l[i]?=some o)(g:wpL P rd l.toArray R [o] a w)(h:∀e a' w',R e a' w'->e=.normal/\a'.defers=a.defers)(k:∀v w',R .normal (a.put o.dst v) w'->K (a.put o.dst v) w'):
  wpOpIn (WF rd) 0 P l.toArray Q i K a w:=by
 unfold wpOpIn;have s:l.toArray[i]?=some o:=by simpa using E
 rw[s];simp only;unfold wpL wpListIn at g;split at g
 .rename_i t;rw[if_pos t];obtain⟨j,g⟩:=g;refine⟨j,?_⟩;have d:=Qla (by
   intro a' w' q;unfold wpListIn at q;exact(h _ _ _ q).2) g
  generalize(o.semAt (WF rd).round a.eval).run P w=res at*;cases res with
  |ok n w'=>
   cases n with
   |value v=>exact k _ _ d.1
   |skip=>exact k _ _ d.1
   |defer F=>
    exfalso;have:=(h _ _ _ d.1).2;have:=congrArg List.length this
    revert this
    cases o.dst<;>simp[Act.put]
   |enter f m=>
    refine⟨d.1,CallsIn.mono d.2 (λe p b=>?_)⟩;cases e with
    |returned v=>exact k _ _ b.1
    |panicked c=>have:=(h _ _ _ b).1;cases this
    |outgrown=>obtain⟨B,z,b⟩:=b;have:=(h _ _ _ b).1;cases this
   |row r m=>
    exact⟨d.1,RowsIn.mono d.2 (λ_ _ b=>k _ _ b.1)⟩
   |round l f u assign y=>
    refine⟨d.1,RoundIn.mono d.2 (λe p b=>?_)⟩;cases e with
    |returned v=>exact k _ _ b.1
    |panicked c=>have:=(h _ _ _ b).1;cases this
    |outgrown=>obtain⟨B,z,b⟩:=b;have:=(h _ _ _ b).1;cases this
   |_=>exact d.elim
  |halt x w'=>
   cases x with
   |panic v=>have:=(h _ _ _ d).1;cases this
   |_=>exact d.elim
 .rename_i t;rw[if_neg t];obtain⟨j,g⟩:=g;refine⟨j,?_⟩;unfold wpListIn at g;exact k _ _ g
theorem Qkt{P:Program}{l:List Oper}{m:Nat}(r:∀i o,l[i]?=some o->∀j∈Ql o,j<i)(g:∀i o,m<i->l[i]?=some o->i-1∈Ql o){Q:Exit->Act->World->Prop}{rd:Option Nat}:
  ∀(b t:Nat) (L:Array Bool) (a:Act) (w:World),L.size=l.length->(∀i,i<l.length->(onL L i↔i<t))->unl L<=b->m<=t->t<=l.length->
   wpL P rd l.toArray Q (l.drop t) a w->wpAnyIn (WF rd) 0 P .any l.toArray Q b L a w:=by
 intro b
 induction b with
 |zero=>
  intro t L a w hsz hL hf hm ht h;have:t=l.length:=by
   rcases Nat.lt_or_ge t l.length with q|q
   .have:=Qi4 (L:=L) (i:=t) (by omega) (λz=>by have:=(hL t q).1 z;omega);omega
   .omega
  subst this;refine⟨List.eq_nil_iff_forall_not_mem.2 λi p=>?_,?_⟩
  .obtain⟨o,e,k,_⟩:=(Qaz hsz).1 p;have d:=(XT.1 e).1;exact k ((hL i d).2 d)
  .rw[Xv]at h;exact h
 |succ b H=>
  intro t L a w hsz hL hf hm ht h;have x:∀i o,l[i]?=some o->¬onL L i->(∀j∈Ql o,onL L j)->i=t:=by
   intro i o e k y;have d:=(XT.1 e).1;have G:t<=i:=by
    rcases Nat.lt_or_ge i t with q|q
    .exact absurd ((hL i d).2 q) k
    .exact q
   rcases Nat.lt_or_ge t i with q|q
   .have:=(hL (i-1) (by omega)).1 (y _ (g i o (by omega) e));omega
   .omega
  rcases Nat.lt_or_ge t l.length with f|f
  .have E:l[t]?=some l[t]:=XS f;have n:¬onL L t:=λq=>by have:=(hL t f).1 q;omega
   have F:t∈Region.ready .any l.toArray L:=by
    refine(Qaz hsz).2 ⟨_,E,n,λj s=>?_⟩;have:=r t _ E j s;exact(hL j (by omega)).2 this
   refine⟨λq=>(by rw[q]at F;cases F),λi p=>?_⟩;obtain⟨o,e,k,y⟩:=(Qaz hsz).1 p;obtain rfl:=x i o e k y;rw[Xs f]at h;obtain rfl:l[i]=o:=by rw[XS f]at e;exact X8 e
   unfold wpOpIn;rw[show l.toArray[i]?=some l[i]by rw[XO];exact e];simp only;unfold wpL wpListIn at h;have B:∀a w,wpL P rd l.toArray Q (l.drop (i+1)) a w->wpAnyIn (WF rd) 0 P .any l.toArray Q b (L.setIfInBounds i true) a w:=by
    intro a w q;have J:=Qgg (L:=L) (i:=i) (by omega) n;refine H (i+1) _ a w (by simpa using hsz) (λj s=>?_) (by omega) (by omega) (by omega) q;rw[Jt (by omega),hL j s];omega
   split at h
   .rename_i u;rw[if_pos u];exact Oper.wpIn_mono B h
   .rename_i u;rw[if_neg u];exact⟨h.1,B _ _ h.2⟩
  .have:t=l.length:=by omega
   subst this;rw[Xv]at h;refine⟨λ_=>h,λi p=>?_⟩;obtain⟨o,e,k,_⟩:=(Qaz hsz).1 p;have d:=(XT.1 e).1;exact absurd ((hL i d).2 d) k
def Qna(af ds:List Nat)(xs:List A)(env0 e:Env):Prop:=
 ∀s,(∃j x,af.contains j=true/\ds[j]?=some s/\xs[j]?=some x/\lk e s=x)\/lk e s=.any\/(ds.contains s=false/\lk e s=lk env0 s)
inductive Qab (P:Program) (N:Nat) (l:List Oper) (ds:List Nat) (xs:List A) (env0:Env) (hB hE:Nat) (i:Nat) (H H':Qc):Prop
 |mk (o:Oper) (e:Env) (d:Nat) (x:A) (ho:l[i]?=some o) (hd:o.dst=some d) (hx:xs[i]?=some x) (hdd:Qaq hB hE H H'=true) (hs:Sb (Ql o) (QkC l i) ds xs env0 e)
   (h:WO P H.length N l.toArray [o] e H (Jd (up e d x) H')):Qab P N l ds xs env0 hB hE i H H'
 |unit (o:Oper) (e:Env) (ho:l[i]?=some o) (hd:o.dst=none) (hx:xs[i]?=some .any) (hdd:Qaq hB hE H H'=true) (hs:Sb (Ql o) (QkC l i) ds xs env0 e)
   (h:WO P H.length N l.toArray [o] e H (Jd e H')):Qab P N l ds xs env0 hB hE i H H'
 |alloc (o:Oper) (d t p:Nat) (cs:List A) (ho:l[i]?=some o) (hd:o.dst=some d) (hg:o.guard=none) (hx:xs[i]?=some (.ptr p 0)) (hp:(Nat.ble hB p&&Nat.blt p hE)=true) (hdead:Qcg H[p]?=true)
   (hH:H.set p (.cells t cs)=H') (h:OpZ P o t cs) (hN:Nat.blt d N=true):Qab P N l ds xs env0 hB hE i H H'
 |val (o:Oper) (e:Env) (d:Nat) (x:A) (ho:l[i]?=some o) (hd:o.dst=some d) (hg:o.guard=none) (hx:xs[i]?=some x) (hN:Nat.blt d N=true) (he:Qna (Ql o) ds xs env0 e) (h:OpV P o e H x)
   (hH:H=H':=by rfl):Qab P N l ds xs env0 hB hE i H H'
 |woE (o:Oper) (e:Env) (d:Nat) (x:A) (ho:l[i]?=some o) (hd:o.dst=some d) (hx:xs[i]?=some x) (he:Qna (Ql o) ds xs env0 e) (hdd:Qaq hB hE H H'=true) (h:WO P H.length N l.toArray [o] e H (Jd (up e d x) H')):Qab P N l ds xs env0 hB hE i H H'
theorem Sb.rel{af f d:List Nat}{xs:List A}{env0 e:Env}{ro:Nat->Prop}{σ:Sig}{w:World}{a:Act}(g:Sb af f d xs env0 e)
  (i:∀j∈af,∀s x,d[j]?=some s->xs[j]?=some x->VR ro σ w x (a.tmps.getD s undef))
  (h:∀s,d.contains s=false->VR ro σ w (lk env0 s) (a.tmps.getD s undef))(hP:∀j s,f.contains j=true->d[j]?=some s->VR ro σ w (lk env0 s) (a.tmps.getD s undef)):
  ∀s,VR ro σ w (lk e s) (a.tmps.getD s undef):=by
 intro s
 induction g with
 |nil=>exact trivial
 | @dep j s1 x1 r h1 h2 h3 _ ih=>
  unfold lk;cases b:Nat.beq s s1 with
  |false=>exact ih
  |true=>
   obtain rfl:=XY b;exact i j (by simpa using h1) _ _ h2 h3
 | @old s1 x1 r h1 h2 _ ih=>
  unfold lk;cases b:Nat.beq s s1 with
  |false=>exact ih
  |true=>
   obtain rfl:=XY b;subst h2;exact h _ h1
 | @pre j s1 x1 r h1 h2 h3 _ ih=>
  unfold lk;cases b:Nat.beq s s1 with
  |false=>exact ih
  |true=>
   obtain rfl:=XY b;subst h3;exact hP j _ h1 h2
structure After (fr ro:Nat->Prop) (σ:Sig) (w:World) (hB hE:Nat) (H':Qc) (xs:List A) (i:Nat) (o:Oper) (a':Act) (w':World) (ro':Nat->Prop) (σ':Sig):Prop where
 val:∀x,xs[i]?=some x->match o.dst with
  |some d=>VR ro' σ' w' x (a'.tmps.getD d undef)
  |none=>x=.any
 sim:Sim fr ro' σ' H' w'
 ev:Qj fr ro w ro' w'
 ext:Ext ro σ w ro' σ' w'
 holes:QjO hB hE σ' H'
 take:σ'.take hB=σ.take hB
theorem Qab.use{P:Program}{N:Nat}{l:List Oper}{ds:List Nat}{xs:List A}{env0:Env}{hB hE i:Nat}{H H':Qc}(hb:Qab P N l ds xs env0 hB hE i H H')
  {Q:Exit->Act->World->Prop}{K:Act->World->Prop}{fr ro:Nat->Prop}{σ:Sig}{a:Act}{w:World}{o:Oper}{rd:Option Nat}(M:l[i]?=some o)
  (f:Sim fr ro σ H w)(hN:a.tmps.size=N)(n:Qc0 fr a.defers w)(aa:QdM rd fr w)(hh:QjO hB hE σ H)(hl:hE<=H.length)(al:hB<=hE)
  (hD:∀j∈Ql o,∀s x,ds[j]?=some s->xs[j]?=some x->VR ro σ w x (a.tmps.getD s undef))
  (hO:∀s,ds.contains s=false->VR ro σ w (lk env0 s) (a.tmps.getD s undef))(hP:∀j s,(QkC l i).contains j=true->ds[j]?=some s->VR ro σ w (lk env0 s) (a.tmps.getD s undef))
  (hK:∀v w' ro' σ',After fr ro σ w hB hE H' xs i o (a.put o.dst v) w' ro' σ'->K (a.put o.dst v) w'):
  wpOpIn (WF rd) 0 P l.toArray Q i K a w:=by
 have F:∀{e:Env}{H2:Qc}{E:Exit}{r:Act}{w':World},QbQ H.length fr ro σ w N a.defers (Jd e H2) E r w'->E=.normal/\r.defers=a.defers:=by
  rintro e H2 E r w' ⟨x,_,_,_,_,_,k,⟨rfl,_⟩,_,_,_,B,_⟩;refine⟨?_,B⟩;cases E<;>first|rfl|exact k.elim|cases k
 have aj:∀{σ':Sig}{w':World},Qj fr ro w ro w'->σ'.take H.length=σ.take H.length->True:=λ_ _=>trivial;have G:∀{e:Env}{r:Act}{w':World},QbQ H.length fr ro σ w N a.defers (Jd e H') .normal r w'->Qaq hB hE H H'=true->
   ∃ro' σ',Sim fr ro' σ' H' w'/\Qj fr ro w ro' w'/\Ext ro σ w ro' σ' w'/\QjO hB hE σ' H'/\σ'.take hB=σ.take hB/\ ∀s,VR ro' σ' w' (lk e s) (r.tmps.getD s undef):=by
  rintro e r w' ⟨_,ai,H2,ro',σ',ak,_,⟨_,rfl,rfl⟩,r',he,ht,_,ah⟩ m;have hσ:σ'=σ++σ'.drop H.length:=by
   conv=>lhs;rw[<- XG H.length σ']
   rw[ht, <- f.len,Vi]
  refine⟨ro',σ',r'.sim.frMono ah.sub,he,?_,?_,?_,r'.env⟩
  .rw[hσ];exact he.ext σ _
  .intro p k B Y;have:=hh p k B (Qku m k B Y);rw[hσ,XU (by rw[f.len];omega)];exact this
  .rw[hσ];exact Q4 (by rw[f.len];omega)
 cases hb with
 |woE u e d x g L V he m h=>
  obtain rfl:u=o:=X8 (g.symm.trans M);have hr:∀s,VR ro σ w (lk e s) (a.tmps.getD s undef):=λs=>by
   rcases he s with⟨j,x,k,B,Y,J⟩|J|⟨k,J⟩
   .rw[J];exact hD j (by simpa using k) s x B Y
   .rw[J];exact trivial
   .rw[J];exact hO s k
  refine QcA M (h rd fr ro σ a w ⟨f,hr,hN,n⟩ aa) (λ_ _ _ q=>F q) (λv w' q=>?_);obtain⟨ro',σ',X,g2,O,g4,g5,g6⟩:=G q m;refine hK v w' ro' σ' ⟨λy T=>?_,X,g2,O,g4,g5⟩;obtain rfl:=X8 (V.symm.trans T);have:=g6 d;unfold lk at this;rw[Nat.beq_refl]at this;rw[L]at this⊢;exact this
 |mk u e d x g L V m hs h=>
  obtain rfl:u=o:=X8 (g.symm.trans M);refine QcA M (h rd fr ro σ a w ⟨f,hs.rel hD hO hP,hN,n⟩ aa) (λ_ _ _ q=>F q) (λv w' q=>?_);obtain⟨ro',σ',X,g2,O,g4,g5,g6⟩:=G q m;refine hK v w' ro' σ' ⟨λy T=>?_,X,g2,O,g4,g5⟩;obtain rfl:=X8 (V.symm.trans T);have:=g6 d;unfold lk at this;rw[Nat.beq_refl]at this;rw[L]at this⊢;exact this
 |unit u e g L V m hs h=>
  obtain rfl:u=o:=X8 (g.symm.trans M);refine QcA M (h rd fr ro σ a w ⟨f,hs.rel hD hO hP,hN,n⟩ aa) (λ_ _ _ q=>F q) (λv w' q=>?_);obtain⟨ro',σ',X,g2,O,g4,g5,g6⟩:=G q m;refine hK v w' ro' σ' ⟨λy T=>?_,X,g2,O,g4,g5⟩;obtain rfl:=X8 (V.symm.trans T);rw[L]
 |val u e d x g L hg V ab he h hH=>
  obtain rfl:u=o:=X8 (g.symm.trans M);subst hH;have hr:Rel fr ro σ H e N a w:=by
   refine⟨f,λs=>?_,hN,n⟩;rcases he s with⟨j,x,k,B,Y,J⟩|J|⟨k,J⟩
   .rw[J];exact hD j (by simpa using k) s x B Y
   .rw[J];exact trivial
   .rw[J];exact hO s k
  obtain⟨v0,k,B⟩:=h fr ro σ N a w hr;have hw:Region.wanted u (yielded l.toArray a.tmps)=true:=by unfold Region.wanted;rw[hg]
  refine QcA (R:=λE r w'=>E=.normal/\r.defers=a.defers/\r=a.put u.dst v0/\w'=w) M (QaW hw k ?_) (λ_ _ _ q=>⟨q.1,q.2.1⟩) (λv w' q=>?_)
  .unfold wpL wpListIn;refine⟨rfl,?_,rfl,rfl⟩;rw[L];rfl
  .obtain⟨_,_,q1,rfl⟩:=q;refine hK v _ ro σ ⟨λy T=>?_,f,Qj.refl _ _ _,⟨λ_ q=>q,λ_ _=>rfl,λ_ _ q=>q,λ_ _ q=>q⟩,hh,rfl⟩;obtain rfl:=X8 (V.symm.trans T);rw[q1,L];have ac:d<a.tmps.size:=by rw[hN];simpa using ab
   show VR ro σ w' x _;simpa[Act.put,Array.getD_eq_getD_getElem?,ac]using B
 |alloc u d t p cs g L hg V hp ad hH h ab=>
  obtain rfl:u=o:=X8 (g.symm.trans M);subst hH;simp only[X5]at hp;have ae:=XZ hp.1;have ag:p<hE:=by simpa using hp.2
  have hσp:=hh p ae ag ad;obtain⟨lv,k,B,Y⟩:=h ro σ w a;have hw:Region.wanted u (yielded l.toArray a.tmps)=true:=by unfold Region.wanted;rw[hg]
  have ev:Qj fr ro w ro (w.alloc (.cells lv.toArray t)):=Qj.alloc _ f.roLt f.frLt;have af:p<σ.length:=by rw[f.len];omega
  have W:Ext ro σ w ro (σ.set p (some w.heap.size)) (w.alloc (.cells lv.toArray t)):=⟨ev.sub,ev.keepRo,ev.shape,λj b q=>by
   rw[XX (λz=>by subst z;rw[hσp]at q;cases q)];exact q⟩
  refine QcA (R:=λE r w'=>E=.normal/\r.defers=a.defers/\r=a.put u.dst (.pointer (some ⟨w.heap.size,0,none⟩))/\w'=w.alloc (.cells lv.toArray t)) M (QaW hw k ?_) (λ_ _ _ q=>⟨q.1,q.2.1⟩) (λv w' q=>?_)
  .unfold wpL wpListIn;refine⟨rfl,?_,rfl,rfl⟩;rw[L];rfl
  .obtain⟨_,_,q1,rfl⟩:=q;refine hK v _ ro (σ.set p (some w.heap.size)) ⟨λy T=>?_,f.allocAt hσp ⟨lv,YU _ _,B.mono W,Y⟩,ev,W,λp' X g2 O=>?_,?_⟩
   .obtain rfl:=X8 (V.symm.trans T);rw[q1,L];have ac:d<a.tmps.size:=by rw[hN];simpa using ab
    refine⟨w.heap.size,Xa af,?_⟩;simp[Act.put,Array.getD_eq_getD_getElem?,ac]
   .by_cases q:p'=p
    .subst q;rw[Xa (by omega)]at O;cases O
    .rw[XX (λz=>q z.symm)]at O⊢;exact hh p' X g2 O
   .rw[List.take_set,List.set_eq_of_length_le];rw[XE];omega
def same(a b:List Nat):Bool:=a.all (b.contains ·)&&b.all (a.contains ·)
theorem Qnk{a b:List Nat}(h:same a b=true)(i:Nat):i∈a↔i∈b:=by
 unfold same at h;simp only[X5,Xx,List.contains_iff_mem]at h;exact⟨h.1 i,h.2 i⟩
structure Qnb (l:List Oper) (m:Nat) (ds:List Nat) (hs:List Bool) (rq ms:List (List Nat)) (pl:List (List (Nat×Nat))) (N:Nat):Prop where
 len:m<=l.length
 dst:∀i o,i<m->l[i]?=some o->(∃d,o.dst=some d/\ds[i]?=some d/\d<N)\/o.dst=none
 dsl:ds.length=m
 nodup:∀(i j d:Nat),ds[i]?=some d->ds[j]?=some d->i=j
 back:∀i o,l[i]?=some o->∀j∈Ql o,j<i
 mid:∀o,l[m]?=some o->∀j,j<m->Qb8 l m j
 chain:∀i o,m<i->l[i]?=some o->i-1∈Ql o
 rqs:∀i o,i<m->l[i]?=some o->∀h∈rq.getD i [],h<m/\hs.getD h false=true/\(h∈Ql o\/ ∃j∈Ql o,j<m/\h∈rq.getD j [])
 ms0:ms.getD 0 []=[]
 full:∀st,st<ms.length->st+1=ms.length\/ ∃i,i<m/\hs.getD i false=true/\i∉ms.getD st []
 msh:∀st h,h∈ms.getD st []->h<m/\hs.getD h false=true
 pls:∀i st,i<m->st<ms.length->(∀h∈rq.getD i [],h∈ms.getD st [])->(hs.getD i false=true->i∉ms.getD st [])->(∀h∈ms.getD st [],¬Qb8 l h i)->
  ∃st',(st,st')∈pl.getD i []/\st'<ms.length/\if hs.getD i false then∀j,j∈ms.getD st' []↔j=i\/j∈ms.getD st []else st'=st
theorem Qjm{α:Type}{l:List α}{i:Nat}{d x:α}(h:l[i]?=some x):l.getD i d=x:=by rw[List.getD_eq_getElem?_getD,h];rfl
theorem QhP{P:Program}{l:List Oper}{m:Nat}{ds:List Nat}{hs:List Bool}{rq X:List (List Nat)}{pl:List (List (Nat×Nat))}{N h0 hB hE:Nat}{xs:List A}{env0:Env}{Hs:List Qc}{Hk:Qc}
  (ok:Qnb l m ds hs rq X pl N)(ay:xs.length=m)(ba:Hs.length=X.length)(ar:h0<=hB)(a6:hB<=hE)(aq:∀H∈Hs,hE<=H.length)
  (a0:∀i p,i<m->p∈pl.getD i []->Qab P N l ds xs env0 hB hE i (Hs.getD p.1 []) (Hs.getD p.2 []))(a5:Hs.getD (X.length-1) []=Hk)
  {fr ro0:Nat->Prop}{σ0:Sig}{w0:World}{rd:Option Nat}{ds0:List Deferred}{R:Exit->Act->World->Prop}
  (hk:∀ro σ a w,Rel fr ro σ Hk (Qas ds xs env0) N a w->Qj fr ro0 w0 ro w->σ.take h0=σ0.take h0->a.defers=ds0->wpL P rd l.toArray R (l.drop m) a w)(ah:Qc0 fr ds0 w0)(a4:QdM rd fr w0):
  ∀(f:Nat) (L:Array Bool) (a:Act) (w:World) (ro:Nat->Prop) (σ:Sig) (t:Nat),
   L.size=l.length->unl L<=f->(∀i,m<=i->¬onL L i)->t<X.length->Sim fr ro σ (Hs.getD t []) w->a.tmps.size=N->a.defers=ds0->
   (∀(i d:Nat) (x:A),onL L i->ds[i]?=some d->xs[i]?=some x->VR ro σ w x (a.tmps.getD d undef))->(∀s,(∀j,ds[j]?=some s->¬onL L j)->VR ro σ w (lk env0 s) (a.tmps.getD s undef))->
   Qj fr ro0 w0 ro w->σ.take h0=σ0.take h0->QjO hB hE σ (Hs.getD t [])->
   (∀i,i<m->onL L i->∀h∈rq.getD i [],onL L h)->(∀i,i<m->hs.getD i false=true->(onL L i↔i∈X.getD t []))->
   (∀i o,onL L i->l[i]?=some o->∀j∈Ql o,onL L j)->
   wpAnyIn (WF rd) 0 P .any l.toArray R f L a w:=by
 have ax:∀t,t<X.length->hE<=(Hs.getD t []).length:=by
  intro t h;have e:Hs[t]?=some Hs[t]:=XS (by omega);rw[Qjm e];exact aq _ (Vm _)
 have fin:∀(f:Nat) (L:Array Bool) (a:Act) (w:World) (ro:Nat->Prop) (σ:Sig) (t:Nat),
   L.size=l.length->unl L<=f->(∀i,m<=i->¬onL L i)->t<X.length->Sim fr ro σ (Hs.getD t []) w->a.tmps.size=N->a.defers=ds0->
   (∀(i d:Nat) (x:A),onL L i->ds[i]?=some d->xs[i]?=some x->VR ro σ w x (a.tmps.getD d undef))->(∀s,(∀j,ds[j]?=some s->¬onL L j)->VR ro σ w (lk env0 s) (a.tmps.getD s undef))->
   Qj fr ro0 w0 ro w->σ.take h0=σ0.take h0->
   (∀i,i<m->hs.getD i false=true->(onL L i↔i∈X.getD t []))->(∀i,i<m->onL L i)->
   wpAnyIn (WF rd) 0 P .any l.toArray R f L a w:=by
  intro f L a w ro σ t hsz hu hsuf hst hsim hN hdef hD hE' hev htk hI2 k;have al:t=X.length-1:=by
   rcases ok.full t hst with q|⟨i,O,W,h3⟩
   .omega
   .exact absurd ((hI2 i O W).1 (k i O)) h3
  rw[al,a5]at hsim;refine Qkt ok.back ok.chain f m L a w hsz (λi hi=>⟨λq=>?_,λq=>k i q⟩) hu (X2 _) ok.len ?_
  .rcases Nat.lt_or_ge i m with z|z
   .exact z
   .exact absurd q (hsuf i z)
  .have hr:Rel fr ro σ Hk (Qas ds xs env0) N a w:=by
    refine⟨hsim,λs=>?_,hN,by rw[hdef];exact ah.keep hev⟩;rcases Qnu (env0:=env0) (by rw[ok.dsl,ay]) s with⟨j,x,O,W,h3⟩|⟨O,W⟩
    .rw[h3];have b:j<m:=by have:=(XT.1 O).1;rw[ok.dsl]at this;exact this
     exact hD j s x (k j b) O W
    .rw[W];exact hE' s (λj q=>absurd (List.mem_of_getElem? q) (by simpa using O))
   exact hk ro σ a w hr hev htk hdef
 intro f
 induction f with
 |zero=>
  intro L a w ro σ t hsz hu hsuf hst hsim hN hdef hD hE' hev htk hho hI1 hI2 hcl;refine fin 0 L a w ro σ t hsz hu hsuf hst hsim hN hdef hD hE' hev htk hI2 (λi hi=>?_);by_cases q:onL L i
  .exact q
  .have:=Qi4 (L:=L) (i:=i) (by have:=ok.len;omega) q;omega
 |succ f ih=>
  intro L a w ro σ t hsz hu hsuf hst hsim hN hdef hD hE' hev htk hho hI1 hI2 hcl;by_cases k:∀i,i<m->onL L i
  .exact fin (f+1) L a w ro σ t hsz hu hsuf hst hsim hN hdef hD hE' hev htk hI2 k
  .have av:∃i,i<m/\ ¬onL L i:=by
    refine Classical.byContradiction λq=>k λi hi=>Classical.byContradiction λz=>q ⟨i,hi,z⟩
   obtain⟨n,hn,ag⟩:=av;obtain⟨i0,O,W,h3⟩:=least (p:=λi=>¬onL L i) (λi=>Classical.em _) n ag;have bb:=ok.len;have ae:l[i0]?=some l[i0]:=XS (by omega);have hr:i0∈Region.ready .any l.toArray L:=(Qaz hsz).2 ⟨_,ae,W,λj b=>Classical.byContradiction λz=>h3 j (ok.back i0 _ ae j b) z⟩;refine⟨λq=>(by rw[q]at hr;cases hr),λi hi=>?_⟩;obtain⟨o,T,Y,J⟩:=(Qaz hsz).1 hi;have B:i<m:=by
    rcases Nat.lt_or_ge i m with q|q
    .exact q
    .exfalso;rcases Nat.lt_or_ge m i with z|z
     .exact hsuf (i-1) (by omega) (J _ (ok.chain i o z T))
     .have:i=m:=by omega
      subst this;have a3:∀j,Qb8 l i j->onL L j:=by
       intro j b
       induction b with
       |one r b=>rw[T]at r;cases r;exact J _ b
       |step _ r b ihr=>exact hcl _ _ ihr r _ b
      exact ag (a3 n (ok.mid o T n hn))
   have ai:∀h∈rq.getD i [],onL L h:=by
    intro h V;obtain⟨_,_,q|⟨j,q1,q2,q3⟩⟩:=ok.rqs i o B T h V
    .exact J h q
    .exact hI1 j q2 (J j q1) h q3
   obtain⟨a8,an,az,F⟩:=ok.pls i t B hst (λh V=>by
    obtain⟨q1,q2,_⟩:=ok.rqs i o B T h V;exact(hI2 h q1 q2).1 (ai h V)) (λq z=>Y ((hI2 i B q).2 z)) (λh V hR=>by
    obtain⟨q1,q2⟩:=ok.msh t h V;have ao:onL L h:=(hI2 h q1 q2).2 V;have ak:∀j,Qb8 l h j->onL L j:=by
     intro j b
     induction b with
     |one r b=>exact hcl _ _ ao r _ b
     |step _ r b ihr=>exact hcl _ _ ihr r _ b
    exact Y (ak i hR))
   have hb:=a0 i _ B an;refine hb.use T hsim hN (by rw[hdef];exact ah.keep hev) (a4.to hev λ_ q=>q) hho (ax t hst) a6 (λj b s x q1 q2=>hD j s x (J j b) q1 q2) (λs O=>hE' s (λj q=>absurd (List.mem_of_getElem? q) (by simpa using O))) (λj s O W=>hE' s (λj' q q'=>?_)) ?_
   .obtain rfl:=ok.nodup j' j s q W;have b:=Xe.1 (List.contains_iff_mem.1 O);cases ac:l[j']? with
    |none=>rw[ac]at b;simp at b
    |some oj=>
     rw[ac]at b;exact Y (hcl j' oj q' ac i (by simpa using b.2))
   intro v w' au σ' af;have ab:=af.ext;have aa:∀s,(∀d,o.dst=some d->s≠d)->(a.put o.dst v).tmps.getD s undef=a.tmps.getD s undef:=by
    intro s aw;cases hd:o.dst with
    |none=>rfl
    |some d=>
     simp only[Act.put,Array.getD_eq_getD_getElem?,Vn];rw[if_neg (λq=>aw d hd q.symm)]
   have ad:(a.put o.dst v).tmps.size=N:=by
    cases hd:o.dst with
    |none=>simpa[Act.put]using hN
    |some d=>simpa[Act.put]using hN
   have a1:(a.put o.dst v).defers=ds0:=by
    cases hd:o.dst with
    |none=>simpa[Act.put]using hdef
    |some d=>simpa[Act.put]using hdef
   have a9:=Qgg (L:=L) (i:=i) (by omega) Y;have u:i<L.size:=by omega
   have a7:∀s j,ds[j]?=some s->j≠i->∀d,o.dst=some d->s≠d:=by
    intro s j b E d hd q;subst q;rcases ok.dst i o B T with⟨d',g,Q,am⟩|g
    .rw[hd]at g;cases g;exact E (ok.nodup j i _ b Q)
    .rw[hd]at g;cases g
   refine ih _ _ w' au σ' a8 (by simpa using hsz) (by omega) (λj b q=>?_) az af.sim ad a1 ?_ ?_ (hev.trans af.ev) ?_ af.holes ?_ ?_ ?_
   .rcases(Jt u).1 q with z|z
    .omega
    .exact hsuf j b z
   .intro j s y b M hy;by_cases E:j=i
    .subst E;have hv:=af.val y hy;rcases ok.dst j o B T with⟨d',g,Q,am⟩|g
     .obtain rfl:s=d':=X8 (M.symm.trans Q);simp only[g]at hv⊢;exact hv
     .simp only[g]at hv;subst hv;exact trivial
    .rw[aa s (a7 s j M E)];rcases(Jt u).1 b with z|z
     .exact absurd z E
     .exact(hD j s y z M hy).mono ab
   .intro s M;have a2:∀d,o.dst=some d->s≠d:=by
     rintro d hd rfl;rcases ok.dst i o B T with⟨d',g,Q,am⟩|g
     .rw[hd]at g;cases g;exact M i Q ((Jt u).2 (.inl rfl))
     .rw[hd]at g;cases g
    rw[aa s a2];exact(hE' s (λj q z=>M j q ((Jt u).2 (.inr z)))).mono ab
   .rw[<- htk];have:=congrArg (List.take h0) af.take;rw[List.take_take,List.take_take,XI ar]at this;exact this
   .intro j b G h V;refine(Jt u).2 (.inr ?_);rcases(Jt u).1 G with z|z
    .subst z;exact ai h V
    .exact hI1 j b z h V
   .intro j b G;rw[Jt u];cases q:hs.getD i false with
    |false=>
     have E:j≠i:=by rintro rfl;rw[q]at G;cases G
     rw[q]at F;simp only[Xj,if_false]at F;simp only[E,false_or];rw[F];exact hI2 j b G
    |true=>
     rw[q]at F;simp only[if_true]at F;rw[F j,hI2 j b G]
   .intro j o' b r j' aj;rcases(Jt u).1 b with z|z
    .subst z;rw[T]at r;cases r;exact(Jt u).2 (.inr (J _ aj))
    .exact(Jt u).2 (.inr (hcl j o' z r j' aj))
def QdC.dstB(N:Nat):Nat->List Oper->List Nat->Bool
 |_,_,[]=>true
 |i,o::r,d::ds=>(match o.dst with|some d'=>Nat.beq d' d&&Nat.blt d N|none=>true)&&QdC.dstB N (i+1) r ds
 |_,[],_::_=>false
def QdC.rqB(m:Nat)(hs:List Bool)(rq:List (List Nat)):Nat->List Oper->Bool
 |_,[]=>true
 |i,o::r=>(rq.getD i []).all (λh=>Nat.blt h m&&hs.getD h false&&((Ql o).contains h||(Ql o).any λj=>Nat.blt j m&&(rq.getD j []).contains h))&&QdC.rqB m hs rq (i+1) r
def Qik(l:List Oper)(h:Nat):List Nat:=match l[h]? with
 |some o=>Qen l h (Ql o)
 |none=>[]
theorem QjY{l:List Oper}{h j:Nat}(q:j∈Qik l h):Qb8 l h j:=by
 unfold Qik at q;cases a:l[h]? with
 |none=>rw[a]at q;cases q
 |some o=>rw[a]at q;exact QbS h (Ql o) (λi b=>.one a b) j q
def QdC.plB(l:List Oper)(m:Nat)(hs:List Bool)(rq ms:List (List Nat))(pl:List (List (Nat×Nat))):Bool:=
 (List.range m).all λi=>(List.range ms.length).all λst=>((ms.getD st []).any λh=>(Qik l h).contains i)|| !(rq.getD i []).all ((ms.getD st []).contains ·)||(hs.getD i false&&(ms.getD st []).contains i)||
  (pl.getD i []).any λp=>Nat.beq p.1 st&&Nat.blt p.2 ms.length&&(bif hs.getD i false then same (ms.getD p.2 []) (i::ms.getD st [])else Nat.beq p.2 st)
def QdC(l:List Oper)(m N:Nat)(ds:List Nat)(hs:List Bool)(rq ms:List (List Nat))(pl:List (List (Nat×Nat))):Bool:=
 Nat.ble m l.length&&(ds.length==m)&&QdC.dstB N 0 l ds&&drawChk.nodupB ds&&drawChk.goB l m 0 l&&QdC.rqB m hs rq 0 l&&(ms.getD 0 []).isEmpty&&Nat.blt 0 ms.length
 &&((List.range ms.length).all λst=>Nat.beq (st+1) ms.length||(List.range m).any λi=>hs.getD i false&& !(ms.getD st []).contains i)&&QdC.plB l m hs rq ms pl&&(List.range ms.length).all λst=>(ms.getD st []).all λh=>Nat.blt h m&&hs.getD h false
theorem QfZ{N:Nat}:∀(l:List Oper) (a:List Nat) (b:Nat),QdC.dstB N b l a=true->∀(i d:Nat) (o:Oper),l[i]?=some o->a[i]?=some d->
  (o.dst=some d/\d<N)\/o.dst=none:=by
 intro l
 induction l with
 |nil=>intro a b h i d o f;simp at f
 |cons x r k=>
  intro a b h i d o f g;cases a with
  |nil=>simp at g
  |cons y a=>
   simp only[QdC.dstB,X5]at h;cases i with
   |zero=>
    simp at f g;subst f;subst g;have h:=h.1;split at h
    .rename_i m j;simp only[X5]at h;have e:=XY h.1;subst e;exact .inl ⟨j,by simpa using h.2⟩
    .rename_i j;exact .inr j
   |succ i=>
    have:=k a (b+1) h.2 i d o (by simpa using f) (by simpa using g);exact this
theorem Qls{m:Nat}{e:List Bool}{d:List (List Nat)}:∀(l:List Oper) (b:Nat),QdC.rqB m e d b l=true->∀(i:Nat) (o:Oper),l[i]?=some o->
  ∀h∈d.getD (b+i) [],h<m/\e.getD h false=true/\(h∈Ql o\/ ∃j∈Ql o,j<m/\h∈d.getD j []):=by
 intro l
 induction l with
 |nil=>intro b h i o a;simp at a
 |cons x r g=>
  intro b h i o a;simp only[QdC.rqB,X5]at h;cases i with
  |zero=>
   simp at a;subst a;intro k s;have:=Xx.1 h.1 k (by simpa using s);simp only[X5,Bool.or_eq_true,List.contains_iff_mem,Xy]at this;obtain⟨⟨u,w⟩,n⟩:=this;refine⟨by simpa using u,w,?_⟩;rcases n with q|⟨j,t,p,f⟩
   .exact .inl q
   .exact .inr ⟨j,t,by simpa using p,f⟩
  |succ i=>
   have:=g (b+1) h.2 i o (by simpa using a);rw[show b+1+i=b+(i+1)by omega]at this;exact this
theorem QmF{l:List Oper}{m N:Nat}{t:List Nat}{G:List Bool}{F s:List (List Nat)}{H:List (List (Nat×Nat))}(h:QdC l m N t G F s H=true):
  Qnb l m t G F s H N/\0<s.length:=by
 unfold QdC at h;simp only[X5]at h;obtain⟨⟨⟨⟨⟨⟨⟨⟨⟨⟨T,R⟩,Q⟩,V⟩,O⟩,M⟩,Y⟩,h8⟩,P⟩,B⟩,x⟩:=h;have E:m<=l.length:=XZ T;have y:t.length=m:=by simpa using R
 have g:=Qhp l 0 O;refine⟨⟨E,λi o r b=>?_,y,Qdt V,λi o b=>by have:=(g i o b).1;simpa using this,λo b j L=>QbS m (Ql o) (λi r=>.one b r) j ((g m o b).2.1 (by omega) j L),
  λi o r b=>by have:=(g i o b).2.2 (by omega);simpa using this,λi o r b h d=>by have:=Qls l 0 M i o b h (by simpa using d);exact this,
  by simpa using Y,λk a=>?_,λk h d=>?_,λi k r a W J hx=>?_⟩,by simpa using h8⟩
 .have u:t[i]?=some t[i]:=XS (by omega);rcases QfZ l t 0 Q i _ o b u with⟨n,w⟩|n
  .exact .inl ⟨_,n,u,w⟩
  .exact .inr n
 .have:=Xx.1 P k (List.mem_range.2 a);simp only[Bool.or_eq_true,Xy,X5,Bool.not_eq_true']at this;rcases this with q|⟨i,n,w,f⟩
  .exact .inl (XY q)
  .exact .inr ⟨i,List.mem_range.1 n,w,λz=>by rw[List.contains_iff_mem.2 z]at f;cases f⟩
 .have a:k<s.length:=by
   rcases Nat.lt_or_ge k s.length with q|q
   .exact q
   .rw[List.getD_eq_getElem?_getD,XW q]at d;cases d
  have:=Xx.1 (Xx.1 x k (List.mem_range.2 a)) h d;simp only[X5]at this;exact⟨by simpa using this.1,this.2⟩
 .have:=Xx.1 (Xx.1 B i (List.mem_range.2 r)) k (List.mem_range.2 a);simp only[Bool.or_eq_true,Bool.not_eq_true']at this;rcases this with((q|q)|q)|q
  .exfalso;obtain⟨h,d,q⟩:=Xy.1 q;exact hx h d (QjY (List.contains_iff_mem.1 q))
  .exfalso;have:((F.getD i []).all ((s.getD k []).contains ·))=true:=Xx.2 λh d=>List.contains_iff_mem.2 (W h d);rw[this]at q;cases q
  .simp only[X5]at q;exact absurd (List.contains_iff_mem.1 q.2) (J q.1)
  .obtain⟨p,X,q⟩:=Xy.1 q;simp only[X5]at q;obtain⟨⟨n,w⟩,f⟩:=q;have e:=XY n;refine⟨p.2,by rw[<- e];exact X,by simpa using w,?_⟩;cases z:G.getD i false with
   |true=>
    rw[z]at f;simp only[cond_true]at f;simp only[if_true];intro j;rw[Qnk f j,Vf]
   |false=>
    rw[z]at f;simp only[cond_false]at f;simp only[Xj,if_false];exact XY f
inductive QgR (P:Program) (N:Nat) (l:List Oper) (ds:List Nat) (xs:List A) (env0:Env) (hB hE:Nat):Nat->List (List (Qc×Qc))->Prop
 |nil {i:Nat}:QgR P N l ds xs env0 hB hE i []
 |cons {i:Nat}{s:List (Qc×Qc)}{r:List (List (Qc×Qc))} (h:∀p∈s,Qab P N l ds xs env0 hB hE i p.1 p.2) (k:QgR P N l ds xs env0 hB hE (i+1) r):QgR P N l ds xs env0 hB hE i (s::r)
theorem QgR.get{P:Program}{N:Nat}{l:List Oper}{e:List Nat}{xs:List A}{env0:Env}{hB hE b:Nat}{d:List (List (Qc×Qc))}(h:QgR P N l e xs env0 hB hE b d):
  ∀(i:Nat) (s:List (Qc×Qc)),d[i]?=some s->∀p∈s,Qab P N l e xs env0 hB hE (b+i) p.1 p.2:=by
 induction h with
 |nil=>intro i s h;simp at h
 | @cons b s0 r h _ ih=>
  intro i s a;cases i with
  |zero=>simp at a;subst a;exact h
  |succ i=>
   have:=ih i s (by simpa using a);rw[show b+1+i=b+(i+1)by omega]at this;exact this
theorem QO{P:Program}{N:Nat}{l:List Oper}{a:List Nat}{xs:List A}{env0:Env}{hB hE i:Nat}:∀p∈([]:List (Qc×Qc)),Qab P N l a xs env0 hB hE i p.1 p.2:=by
 intro p b;cases b
theorem Qe{P:Program}{N:Nat}{l:List Oper}{a:List Nat}{xs:List A}{env0:Env}{hB hE i:Nat}{H H':Qc}{r:List (Qc×Qc)}(h:Qab P N l a xs env0 hB hE i H H')
  (k:∀p∈r,Qab P N l a xs env0 hB hE i p.1 p.2):∀p∈(H,H')::r,Qab P N l a xs env0 hB hE i p.1 p.2:=by
 intro p b;rcases Vf.1 b with rfl|q
 .exact h
 .exact k p q
theorem Qgj{P:Program}{h0 N:Nat}{id:Nat}{l:List Oper}{env:Env}{H:Qc}{fr ro:Nat->Prop}{σ:Sig}{a:Act}{w:World}{rd:Option Nat}{R:Exit->Act->World->Prop}(m c:Nat)(ds:List Nat)(hs:List Bool)(rq ms:List (List Nat))(F:List (List (Nat×Nat)))(xs:List A)(Hs:List Qc)(Hk:Qc)
  (hm:P.follows .mixedOrders=true)(hc:QdC l m N ds hs rq ms F=true)(ac:Nat.beq xs.length m=true)(Y:Nat.beq Hs.length ms.length=true)(aa:Nat.ble h0 H.length=true)
  (hh:Hs.all (λX=>Nat.ble (H.length+c) X.length)=true)(W:Hs[0]?=some (H++List.replicate c .dead))(T:Hs.getD (ms.length-1) []=Hk)
  (ae:QgR P N l ds xs env H.length (H.length+c) 0 (F.map λq=>q.map λp=>(Hs.getD p.1 [],Hs.getD p.2 [])))(V:Nat.beq F.length m=true)
  (r:Rel fr ro σ H env N a w)(ab:QdM rd fr w)
  (hk:∀ro' σ' a' w',Rel fr ro' σ' Hk (Qas ds xs env) N a' w'->Qj fr ro w ro' w'->σ'.take h0=σ.take h0->a'.defers=a.defers->wpL P rd l.toArray R (l.drop m) a' w'):(Code.region id l.toArray true).wpIn (WF rd) 0 P R a w:=by
 obtain⟨ok,L⟩:=QmF hc;have O:=XY ac;have E:=XY Y;have af:=XY V;have J:Qj fr ro w ro {w with drawn:=w.drawn+1}:=⟨λ_ q=>q,λ_ _=>rfl,λ_ _=>rfl,X2 _,λ_ _ q=>q,rfl,rfl,rfl,Nat.le_succ _⟩;have u:Ext ro σ w ro (σ++List.replicate c none) {w with drawn:=w.drawn+1}:=J.ext σ _;have ad:=r.sim.len;have B:Hs.getD 0 []=H++List.replicate c .dead:=Qjm W;have n:∀(i:Nat) (s:Option Nat) (x:Blk),(σ++List.replicate c none)[i]?=some s->(H++List.replicate c Blk.dead)[i]?=some x->(σ[i]?=some s/\H[i]?=some x)\/(s=none/\x=.dead):=by
  intro i s x k h;rcases Nat.lt_or_ge i σ.length with q|q
  .rw[XU q]at k;rw[XU (by omega)]at h;exact .inl ⟨k,h⟩
  .rw[XV q]at k;rw[XV (by omega)]at h;have a1:=List.mem_of_getElem? k;have a2:=List.mem_of_getElem? h;exact .inr ⟨(List.mem_replicate.1 a1).2,(List.mem_replicate.1 a2).2⟩
 have M:Sim fr ro (σ++List.replicate c none) (H++List.replicate c .dead) {w with drawn:=w.drawn+1}:=by
  refine⟨by simp[ad],r.sim.roOk.to (λ_ q=>q) (λ_ _=>rfl) r.sim.roLt,r.sim.frLt,r.sim.roFr,?_,?_,?_,
   r.sim.hidTo (· = ·) Yc (X2 _) (λ_ _ _ _ _ _ _ q=>q) (λ_ _ _ _ _ _ _ q=>q) λj d y g1 g2 g3=>.inl ?_⟩
  rotate_left 3
  .rcases n j _ _ g1 g2 with⟨g,t⟩|⟨g,_⟩
   .exact⟨j,y,rfl,g,t,(λz=>z),λc q=>q⟩
   .cases g
  .intro i b blk k h Q;rcases n i _ _ k h with⟨g,t⟩|⟨g,_⟩
   .exact r.sim.own i b blk g t Q
   .cases g
  .intro i j b x y k h Q h4 h5 h6;rcases n i _ _ k Q with⟨g,t⟩|⟨g,_⟩
   .rcases n j _ _ h h4 with⟨q3,q4⟩|⟨q3,_⟩
    .exact r.sim.inj i j b x y g q3 t q4 h5 h6
    .cases q3
   .cases g
  .intro i s x k h;rcases n i _ _ k h with⟨g,t⟩|⟨g,t⟩
   .exact BR.keep u (λb hb _=>rfl) (r.sim.blk i s x g t) (λ_ _ _ _=>rfl)
   .subst t;exact trivial
 have f:∀i,¬onL (Array.replicate l.length false) i:=by
  intro i q;unfold onL at q;rw[Array.getElem?_replicate]at q;split at q<;>simp at q
 have G:=XZ aa;refine wpIn_region_any hm ?_;rw[List.size_toArray];refine QhP ok O E G (Nat.le_add_right _ _) (λX hX=>XZ (Xx.1 hh X hX)) ?_ T (ro0:=ro) (σ0:=σ) (w0:=w) (ds0:=a.defers) hk r.defers ab
  l.length _ a _ ro (σ++List.replicate c none) 0 (by simp) ?_ (λi _=>f i) L (by rw[B];exact M) r.size rfl (λi d x q=>absurd q (f i)) (λs _=>(r.env s).mono u) J (Q4 (by omega)) ?_
  (λi _ q=>absurd q (f i)) (λi _ _=>⟨λq=>absurd q (f i),λq=>by rw[ok.ms0]at q;cases q⟩) (λi o q=>absurd q (f i))
 .intro i p hi hp;have e:(F.map λq=>q.map λp=>(Hs.getD p.1 [],Hs.getD p.2 []))[i]?=some ((F.getD i []).map λp=>(Hs.getD p.1 [],Hs.getD p.2 [])):=by
   rw[Xr,XS (by omega),List.getD_eq_getElem?_getD,XS (by omega)];rfl
  have:=ae.get i _ e _ (Xf.2 ⟨p,hp,rfl⟩);simpa using this
 .unfold unl;simp[List.countP_replicate]
 .intro p k h Q;rw[XV (by omega),List.getElem?_replicate,if_pos (by omega)]
theorem Qa8{P:Program}{h0 N:Nat}{id:Nat}{l:List Oper}{env:Env}{H:Qc}{Q:QE}(m c:Nat)(f:List Nat)(x:List Bool)(u g:List (List Nat))(d:List (List (Nat×Nat)))(xs:List A)(Hs:List Qc)(Hk:Qc)
  (z:P.follows .mixedOrders=true)(G:QdC l m N f x u g d=true)(i:Nat.beq xs.length m=true)(s:Nat.beq Hs.length g.length=true)(t:Nat.ble h0 H.length=true)
  (F:Hs.all (λX=>Nat.ble (H.length+c) X.length)=true)(k:Hs[0]?=some (H++List.replicate c .dead))(h:Hs.getD (g.length-1) []=Hk)
  (n:QgR P N l f xs env H.length (H.length+c) 0 (d.map λq=>q.map λp=>(Hs.getD p.1 [],Hs.getD p.2 [])))(j:Nat.beq d.length m=true)
  (B:WO P h0 N l.toArray (l.drop m) (Qas f xs env) Hk Q):TC P h0 N (.region id l.toArray true) env H Q:=by
 intro E y J σ a w r hrd;refine Code.wpIn_mono (λe a w q=>QbQ.postW q) (Qgj m c f x u g d xs Hs Hk z G i s t F k h n j r hrd λro' σ' a' w' hr hev htk hdf=>?_);have b:=B E y ro' σ' a' w' hr (hrd.to hev λ_ q=>q);rw[hdf]at b;exact Yz (λe a w q=>q.step hev htk) _ _ _ b
def draw0(l:List Oper)(m N:Nat)(ds:List Nat):Bool:=Nat.ble m l.length&&(ds.length==m)&&QdC.dstB N 0 l ds&&drawChk.nodupB ds&&drawChk.goB l m 0 l
inductive Oq (P:Program) (N:Nat) (l:List Oper) (ds:List Nat) (xs:List A) (env0:Env) (H:Qc):Nat->Nat->Prop
 |n {i:Nat}:Oq P N l ds xs env0 H i 0
 |c {i c:Nat} (h:Qab P N l ds xs env0 H.length H.length i H H) (k:Oq P N l ds xs env0 H (i+1) c):Oq P N l ds xs env0 H i (c+1)
theorem Oq.get{P:Program}{N:Nat}{l:List Oper}{a:List Nat}{xs:List A}{env0:Env}{H:Qc}{b c:Nat}(h:Oq P N l a xs env0 H b c):∀i,i<c->Qab P N l a xs env0 H.length H.length (b+i) H H:=by
 induction h with
 |n=>intro i d;omega
 | @c b c h _ ih=>
  intro i d;cases i with
  |zero=>exact h
  |succ i=>
   have:=ih i (by omega);rw[show b+1+i=b+(i+1)by omega]at this;exact this
theorem QmG{l:List Oper}{m N:Nat}{e:List Nat}(h:draw0 l m N e=true):Qnb l m e [] [] [[]] (List.replicate m [(0,0)]) N:=by
 unfold draw0 at h;simp only[X5]at h;obtain⟨⟨⟨⟨s,z⟩,x⟩,w⟩,u⟩:=h;have r:m<=l.length:=XZ s;have n:e.length=m:=by simpa using z
 have g:=Qhp l 0 u;refine⟨r,λi o d b=>?_,n,Qdt w,λi o b=>by have:=(g i o b).1;simpa using this,λo b j t=>QbS m (Ql o) (λi d=>.one b d) j ((g m o b).2.1 (by omega) j t),
  λi o d b=>by have:=(g i o b).2.2 (by omega);simpa using this,λi o d b h p=>by simp at p,rfl,λk a=>.inl (by simp at a;simp[a]),λk h p=>by cases k<;>simp at p,λi k d a _ _ _=>?_⟩
 .have f:e[i]?=some e[i]:=XS (by omega);rcases QfZ l e 0 x i _ o b f with⟨q,y⟩|q
  .exact .inl ⟨_,q,f,y⟩
  .exact .inr q
 .have:k=0:=by simp at a;exact a
  subst this;refine⟨0,?_,by simp,by simp⟩;rw[List.getD_eq_getElem?_getD,List.getElem?_replicate,if_pos d];exact List.mem_singleton.2 rfl
theorem Qcz{P:Program}{h0 N:Nat}{id:Nat}{l:List Oper}{env:Env}{H:Qc}{fr ro:Nat->Prop}{σ:Sig}{a:Act}{w:World}{rd:Option Nat}{R:Exit->Act->World->Prop}(m:Nat)(t:List Nat)(xs:List A)
  (B:P.follows .mixedOrders=true)(E:Go.Sw.draw0 l m N t=true)(j:Nat.beq xs.length m=true)(u:Nat.ble h0 H.length=true)
  (n:Oq P N l t xs env H 0 m)(r:Rel fr ro σ H env N a w)(k:QdM rd fr w)
  (F:∀ro' σ' a' w',Rel fr ro' σ' H (Qas t xs env) N a' w'->Qj fr ro w ro' w'->σ'.take h0=σ.take h0->a'.defers=a.defers->wpL P rd l.toArray R (l.drop m) a' w'):(Code.region id l.toArray true).wpIn (WF rd) 0 P R a w:=by
 have ok:=QmG E;have g:=XY j;have h:Qj fr ro w ro {w with drawn:=w.drawn+1}:=⟨λ_ q=>q,λ_ _=>rfl,λ_ _=>rfl,X2 _,λ_ _ q=>q,rfl,rfl,rfl,Nat.le_succ _⟩;have f:Ext ro σ w ro σ {w with drawn:=w.drawn+1}:=h.ext0 σ;have e:Sim fr ro σ H {w with drawn:=w.drawn+1}:=r.sim.heap rfl;have b:∀i,¬onL (Array.replicate l.length false) i:=by
  intro i q;unfold onL at q;rw[Array.getElem?_replicate]at q;split at q<;>simp at q
 refine wpIn_region_any B ?_;rw[List.size_toArray];refine QhP (hB:=H.length) (hE:=H.length) (Hs:=[H]) (Hk:=H) ok g rfl (XZ u) (X2 _) (λX hX=>by rw[List.mem_singleton.1 hX];exact X2 _) ?_ rfl (ro0:=ro) (σ0:=σ) (w0:=w) (ds0:=a.defers) F r.defers k
  l.length _ a _ ro σ 0 (by simp) ?_ (λi _=>b i) (by simp) e r.size rfl (λi d x q=>absurd q (b i)) (λs _=>(r.env s).mono f) h rfl (λp G J=>by omega)
  (λi _ q=>absurd q (b i)) (λi _ _=>⟨λq=>absurd q (b i),λq=>by cases q⟩) (λi o q=>absurd q (b i))
 .intro i p y z;rw[List.getD_eq_getElem?_getD,List.getElem?_replicate,if_pos y]at z;obtain rfl:=List.mem_singleton.1 z;have:=n.get i y;rw[XC]at this;exact this
 .unfold unl;simp[List.countP_replicate]
theorem TC.draw0{P:Program}{h0 N:Nat}{id:Nat}{l:List Oper}{env:Env}{H:Qc}{Q:QE}(m:Nat)(d:List Nat)(xs:List A)
  (j:P.follows .mixedOrders=true)(k:Go.Sw.draw0 l m N d=true)(f:Nat.beq xs.length m=true)(h:Nat.ble h0 H.length=true)
  (g:Oq P N l d xs env H 0 m)(n:WO P h0 N l.toArray (l.drop m) (Qas d xs env) H Q):TC P h0 N (.region id l.toArray true) env H Q:=by
 intro p i s σ a w r hrd;refine Code.wpIn_mono (λe a w q=>QbQ.postW q) (Qcz m d xs j k f h g r hrd λro' σ' a' w' hr hev htk hdf=>?_);have b:=n p i ro' σ' a' w' hr (hrd.to hev λ_ q=>q);rw[hdf]at b;exact Yz (λe a w q=>q.step hev htk) _ _ _ b
section
variable {P:Program}{N:Nat}{l:List Oper}{ds af bf:List Nat}{xs:List A}{env0 e r:Env}{H H':Qc}{i hB hE:Nat}{o:Oper}{d s:Nat}{x a:A}
theorem sN:Sb af bf ds xs env0 []:=.nil
theorem sD(j:Nat)(k:Sb af bf ds xs env0 r)(b:af.contains j=true:=by exact rfl)(h2:ds[j]?=some s:=by exact rfl)(h3:xs[j]?=some a:=by exact rfl):Sb af bf ds xs env0 ((s,a)::r):=.dep j b h2 h3 k
theorem sO(s:Nat)(k:Sb af bf ds xs env0 r)(b:ds.contains s=false:=by exact rfl)(h2:lk env0 s=a:=by exact rfl):Sb af bf ds xs env0 ((s,a)::r):=.old b h2 k
theorem QhQ(H:Qc):Qaq hB hE H H=true:=by
 unfold Qaq;refine Xx.2 λp _=>?_;cases Qcg H[hB+p]? <;>rfl
theorem Om1(a:l[i]?=some o)(b:Sb (Ql o) (QkC l i) ds xs env0 e)(h:WO P H.length N l.toArray [o] e H (Jd (up e d x) H'))(f:o.dst=some d:=by exact rfl)(hx:xs[i]?=some x:=by exact rfl)(hdd:Qaq hB hE H H'=true:=by exact rfl):Qab P N l ds xs env0 hB hE i H H':=
 .mk o e d x a f hx hdd b h
theorem Om2(a:l[i]?=some o)(b:Sb (Ql o) (QkC l i) ds xs env0 e)(h:WO P H.length N l.toArray [o] e H (Jd e H'))(d:o.dst=none:=by exact rfl)(hx:xs[i]?=some .any:=by exact rfl)(hdd:Qaq hB hE H H'=true:=by exact rfl):Qab P N l ds xs env0 hB hE i H H':=
 .unit o e a d hx hdd b h
end
end Go.Sw
namespace Go.Sw
structure TyI where
 fld:List (Nat×Nat×Nat)
 agg:List (Nat×Bool×Nat)
 zer:List (Nat×List A×List (Nat×Nat))
structure TyOK (P:Program) (T:TyI):Prop where
 fld:∀e∈T.fld,∃n,Jy P e.1 e.2.1 e.2.2 n
 agg:∀e∈T.agg,(∀w,(isAgg e.1).run P w=.ok e.2.1 w)/\ ∀w,(sizeOf e.1).run P w=.ok e.2.2 w
 zer:∀e∈T.zer,(∃z,(∀w,(zeroValue e.1).run P w=.ok z w)/\ZR (.agg e.2.1) z)/\QT P e.1 e.2.2
def Qht:List (Nat×Nat×Nat)->Nat->Nat->Option Nat
 |[],_,_=>none
 |(a,b,c)::r,t,f=>bif Nat.beq a t&&Nat.beq b f then some c else Qht r t f
def Qb1{β:Type}:List (Nat×β)->Nat->Option β
 |[],_=>none
 |(a,b)::r,t=>bif Nat.beq a t then some b else Qb1 r t
theorem Qhs{l:List (Nat×Nat×Nat)}{t f c:Nat}(h:Qht l t f=some c):(t,f,c)∈l:=by
 induction l with
 |nil=>cases h
 |cons x r g=>
  obtain⟨a,b,d⟩:=x;unfold Qht at h;cases q:(Nat.beq a t&&Nat.beq b f)with
  |true=>
   rw[q]at h;simp only[X5]at q;have i:=XY q.1;have e:=XY q.2;simp only[cond_true,Option.some.injEq]at h;subst i e h;exact .head _
  |false=>rw[q]at h;exact .tail _ (g h)
theorem Qau{β:Type}{l:List (Nat×β)}{t:Nat}{c:β}(h:Qb1 l t=some c):(t,c)∈l:=by
 induction l with
 |nil=>cases h
 |cons x r d=>
  obtain⟨a,b⟩:=x;unfold Qb1 at h;cases q:Nat.beq a t with
  |true=>
   rw[q]at h;have e:=XY q;simp only[cond_true,Option.some.injEq]at h;subst e h;exact .head _
  |false=>rw[q]at h;exact .tail _ (d h)
def QgI(H:Qc):A->Option (List A)
 |.rp cs=>some cs
 |.ptr i off=>match H[i]? with
  |some (.cells _ cs)=>some (cs.drop off)
  |_=>none
 |_=>none
theorem QiJ{H:Qc}{p:A}{cs:List A}(h:QgI H p=some cs):Pts H p cs:=by
 unfold QgI at h;split at h
 .cases h;exact Pts.rp
 .split at h
  .rename_i a;cases h;exact Pts.cells a rfl
  .cases h
 .cases h
def Qlh(T:TyI)(o:Oper)(env:Env)(H:Qc):Option A:=
 match o.op with
 |.move x=>some (opA env x)
 |.assign x=>some (opA env x)
 |.fieldAddr t x f=>match Qht T.fld t f with
  |none=>none
  |some off=>match opA env x with
   |.ptr i p=>some (.ptr i (p+off))
   |.rp cs=>some (.rp (cs.drop off))
   |_=>none
 |.load t x=>match Qb1 T.agg t with
  |none=>none
  |some (b,n)=>match x with
   |.global g=>match Qir[g]? with
    |some zs=>bif b&&Nat.beq zs.length n then some (.agg (zs.map (A.int .i64)))else none
    |none=>none
   |x=>match QgI H (opA env x)with
    |none=>none
    |some cs=>bif b then(bif Nat.beq (cs.take n).length n then some (.agg (cs.take n))else none)else cs.head?
 |.build t parts=>match Qb1 T.zer t with
  |none=>none
  |some (zs,pl)=>match QeG env pl zs parts.toList with
   |some cs=>some (.agg cs)
   |none=>none
 |.extract x i=>match opA env x with
  |.tup vs=>vs[i]?
  |_=>none
 |.makeFunc f first cap=>some (.fn f (first.toList.map (opA env)) (cap.toList.map (opA env)))
 |_=>none
theorem Qlg{P:Program}{T:TyI}(m:TyOK P T){o:Oper}{env:Env}{H:Qc}{x:A}(h:Qlh T o env H=some x):OpV P o env H x:=by
 unfold Qlh at h;split at h
 .rename_i y a;cases h;exact OpV.move a rfl
 .rename_i y a;cases h;exact OpV.assign a rfl
 .rename_i t y f a;split at h
  .cases h
  .rename_i G l;obtain⟨n,r⟩:=m.fld _ (Qhs l);split at h
   .rename_i i p j;cases h;exact Qco r a j
   .rename_i e j;cases h;exact Qfe r a j rfl
   .cases h
 .rename_i t y a;split at h
  .cases h
  .rename_i b n F;obtain⟨d,k⟩:=m.agg _ (Qau F);split at h
   .rename_i g;split at h
    .rename_i u L;cases q:(b&&Nat.beq u.length n)with
     |false=>rw[q]at h;cases h
     |true=>
      rw[q]at h;cases h;simp only[X5]at q;obtain⟨rfl,w⟩:=q;exact Qf6 d k L (XY w) a
    .cases h
   .split at h
    .cases h
    .rename_i e E;have s:=QiJ E;cases b with
     |true=>
      simp only[cond_true]at h;cases q:Nat.beq (e.take n).length n with
      |false=>rw[q]at h;cases h
      |true=>
       rw[q]at h;cases h;exact QX a d k rfl s rfl (XY q)
     |false=>
      simp only[cond_false]at h;cases e with
      |nil=>cases h
      |cons v e=>cases h;exact OpV.load a d rfl s
 .rename_i t parts a;split at h
  .cases h
  .rename_i u M B;obtain⟨⟨z,d,k⟩,J⟩:=m.zer _ (Qau B);split at h
   .rename_i e l;cases h;exact OpV.build d k J (by rw[a]) l
   .cases h
 .rename_i y i a;split at h
  .rename_i vs j;exact OpV.extract a j h
  .cases h
 .rename_i f first cap a
  cases h;exact OpV.makeFunc (first:=first.toList) (cap:=cap.toList) (by rw[a]) rfl rfl
 .cases h
def QhN(af:List Nat):Nat->List Nat->List A->Env->Env
 |j,d::ds,x::xs,e=>(d,bif af.contains j then x else .any)::QhN af (j+1) ds xs e
 |_,_,_,e=>e
theorem QnW{af:List Nat}{env0:Env}(s:Nat):∀(a:List Nat) (xs:List A) (b:Nat),a.length=xs.length->
  (∃(j:Nat) (x:A),a[j]?=some s/\xs[j]?=some x/\lk (QhN af b a xs env0) s=bif af.contains (b+j)then x else .any)\/(a.contains s=false/\lk (QhN af b a xs env0) s=lk env0 s):=by
 intro a
 induction a with
 |nil=>intro xs b g;right;exact⟨rfl,by unfold QhN;rfl⟩
 |cons d a k=>
  intro xs b g;cases xs with
  |nil=>cases g
  |cons x xs=>
   cases q:Nat.beq s d with
   |true=>
    have e:=XY q;subst e;left;refine⟨0,x,rfl,rfl,?_⟩;simp only[QhN,lk,q,cond_true];rfl
   |false=>
    have h:s≠d:=λz=>by subst z;simp[Nat.beq_refl]at q
    simp only[QhN,lk,q,cond_false];rcases k xs (b+1) (by simpa using g)with⟨j,y,f,i,l⟩|⟨f,i⟩
    .left;refine⟨j+1,y,by simpa using f,by simpa using i,?_⟩;rw[show b+(j+1)=b+1+j by omega];exact l
    .right;refine⟨?_,i⟩;rw[List.contains_cons,f];simpa using h
def Qi5(T:TyI)(N:Nat)(l:List Oper)(ds:List Nat)(xs:List A)(env0:Env)(H:Qc)(i:Nat):Option A:=
 match l[i]? with
 |none=>none
 |some o=>match o.guard,o.dst with
  |none,some d=>bif Nat.blt d N&&Nat.beq ds.length xs.length then Qlh T o (QhN (Ql o) 0 ds xs env0) H else none
  |_,_=>none
theorem QnV{af b:List Nat}{xs:List A}{env0:Env}(e:b.length=xs.length):Qna af b xs env0 (QhN af 0 b xs env0):=by
 intro s;rcases QnW (af:=af) (env0:=env0) s b xs 0 e with⟨j,x,d,f,a⟩|h
 .rw[XC]at a;cases q:af.contains j with
  |true=>rw[q]at a;exact .inl ⟨j,x,q,d,f,a⟩
  |false=>rw[q]at a;exact .inr (.inl a)
 .exact .inr (.inr h)
theorem vQ{P:Program}{T:TyI}(f:TyOK P T){N:Nat}{l:List Oper}{a:List Nat}{xs:List A}{env0:Env}{hB hE i:Nat}{H:Qc}{x:A}(g:xs[i]?=some x)(h:Qi5 T N l a xs env0 H i=some x):Qab P N l a xs env0 hB hE i H H:=by
 unfold Qi5 at h;split at h
 .cases h
 .rename_i o b;split at h
  .rename_i d j e;cases q:(Nat.blt d N&&Nat.beq a.length xs.length)with
   |false=>rw[q]at h;cases h
   |true=>
    rw[q]at h;simp only[X5]at q;exact .val o _ d x b e j g q.1 (QnV (XY q.2)) (Qlg f h)
  .cases h
abbrev I(n:Int):A:=.int .i64 n
theorem zc{a:A}{v:Value}{al:List A}{vl:List Value}(h:ZR a v)(k:ZL al vl):ZL (a::al) (v::vl):=ZL.cons h k
def zr1:A->Value->Bool
 |.int k n,.int k' n'=>decide (k=k')&&decide (n=n')
 |.bool b,.bool b'=>b==b'
 |.str s,.string s'=>s.isEmpty&&s'.data.toList.isEmpty
 |.rsl _ es,.slice none 0 0=>es.isEmpty
 |.nils,.slice none 0 0=>true
 |.nilp,.pointer none=>true
 |.nilf,.nilFunc=>true
 |.nilm,.map none=>true
 |.nilif,.nilIface=>true
 |_,_=>false
def zrL:List A->List Value->Bool
 |[],[]=>true
 |a::r,v::s=>zr1 a v&&zrL r s
 |_,_=>false
def zrB:A->Value->Bool
 |.agg r,.agg s=>zrL r s.toList
 |a,v=>zr1 a v
theorem Qk5{a:A}{v:Value}(h:zr1 a v=true):ZR a v:=by
 unfold zr1 at h;split at h
 .simp only[X5,decide_eq_true_eq]at h;obtain⟨rfl,rfl⟩:=h;exact ZR.int
 .simp only[beq_iff_eq]at h;subst h;exact ZR.bool
 .rename_i s g;simp only[X5,List.isEmpty_iff]at h;obtain⟨rfl,b⟩:=h;obtain⟨d⟩:=g;obtain⟨d⟩:=d;have b:d=[]:=b;subst b;exact ZR.str
 .rename_i k f;have h:f=[]:=List.isEmpty_iff.1 h;subst h;exact ZR.rsl (α:=A) (e:=λx=>[x])
 .exact ZR.nils
 .exact ZR.nilp
 .exact ZR.nilf
 .exact ZR.nilm
 .exact Qn5
 .cases h
theorem Qk4:∀{r:List A}{s:List Value},zrL r s=true->ZL r s
 |[],[],_=>ZL.nil
 |a::r,v::s,h=>by
  simp only[zrL,X5]at h;exact ZL.cons (Qk5 h.1) (Qk4 h.2)
 |[],_::_,h=>by cases h
 |_::_,[],h=>by cases h
theorem zrC{a:A}{v:Value}(h:zrB a v=true):ZR a v:=by
 unfold zrB at h;split at h
 .rename_i r s;have:=ZR.agg (Qk4 h);simpa using this
 .exact Qk5 h
end Go.Sw
namespace Go.Sw
section
variable {P:Program}{o:Oper}{env:Env}{H:Qc}
end
end Go.Sw
