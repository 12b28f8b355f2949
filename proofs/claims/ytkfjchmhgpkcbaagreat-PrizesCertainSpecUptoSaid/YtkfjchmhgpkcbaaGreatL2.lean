/- The rules by which the code is walked, with what they rest on (part 2). -/
import Derived.Test.YtkfjchmhgpkcbaaGreatL1
import Derived.Shelf.SlSortCmp.NoneTotal
import Derived.Below
import GoSem.ClaimChange
import Derived.Shelf.Strings.Search3
import Derived.Lib.LazyBuf
import Derived.Shelf.Sort.Plain
import Derived.Shelf.Slices.In.SortNone
import Derived.Shelf.Slices.CompactI
import Derived.RangeFuncIn
import Derived.RangeFuncSeq
import Derived.RangeFuncNested
import Derived.Lib.Bytealg
import Derived.Laws.Externs
import Derived.LaidLaws
import Derived.Lib.LaidTab
import Derived.ChangeArms
import Derived.ChangeSame
import Derived.Laws.BytesString
set_option linter.unusedVariables false
set_option linter.unusedSectionVars false
set_option linter.unusedSimpArgs false
namespace Go.Sw
open Go.Sort Go.Proofs Go.Shelf
section
variable {α:Type}
def ins(lt:α->α->Bool)(x:α):List α->List α
 |[]=>[x]
 |y::l=>bif lt y x then y::ins lt x l else x::y::l
def Qa8(lt:α->α->Bool):List α->List α
 |[]=>[]
 |x::l=>ins lt x (Qa8 lt l)
theorem Qes(lt:α->α->Bool)(x:α):∀l,(ins lt x l).Perm (x::l)
 |[]=>.refl _
 |y::l=>by
  unfold ins;cases lt y x
  .exact .refl _
  .exact((Qes lt x l).cons y).trans (List.Perm.swap _ _ _)
theorem Yd(lt:α->α->Bool):∀l,(Qa8 lt l).Perm l
 |[]=>.refl _
 |x::l=>(Qes lt x _).trans ((Yd lt l).cons x)
structure Qe1 (lt:α->α->Bool) (l:List α):Prop where
 irrefl:∀x∈l,lt x x=false
 trans:∀x∈l,∀y∈l,∀z∈l,lt x y=true->lt y z=true->lt x z=true
 ntrans:∀x∈l,∀y∈l,∀z∈l,lt x y=false->lt y z=false->lt x z=false
theorem Qe1.mono{lt:α->α->Bool}{l m:List α}(h:Qe1 lt l)(hm:∀x∈m,x∈l):Qe1 lt m:=
 ⟨λx hx=>h.irrefl x (hm x hx),λx hx y hy z hz=>h.trans x (hm x hx) y (hm y hy) z (hm z hz),λx hx y hy z hz=>h.ntrans x (hm x hx) y (hm y hy) z (hm z hz)⟩
theorem Qe1.asymm{lt:α->α->Bool}{l:List α}(h:Qe1 lt l){x y:α}(b:x∈l)(d:y∈l)(a:lt x y=true):lt y x=false:=by
 cases q:lt y x
 .rfl
 .rw[<- h.irrefl x b,h.trans x b y d x b a q]
theorem Qer{lt:α->α->Bool}{x:α}:∀{l:List α},Qe1 lt (x::l)->l.Pairwise (λa b=>lt b a=false)->(ins lt x l).Pairwise (λa b=>lt b a=false)
 |[],_,_=>by simp[ins]
 |y::l,h,hp=>by
  obtain⟨h1,h2⟩:=Xc.1 hp;unfold ins;cases q:lt y x
  .refine Xc.2 ⟨λz hz=>?_,hp⟩;rcases Ve.1 hz with rfl|hz
   .exact q
   .exact h.ntrans z (by simp[hz]) y (by simp) x (by simp) (h1 z hz) q
  .refine Xc.2 ⟨λz hz=>?_,Qer (h.mono (by intro z hz;rcases Ve.1 hz with rfl|hz<;>simp[*])) h2⟩;rcases Ve.1 ((Qes lt x l).mem_iff.1 hz)with rfl|hz
   .exact h.asymm (by simp) (by simp) q
   .exact h1 z hz
theorem Y8{lt:α->α->Bool}:∀{l:List α},Qe1 lt l->(Qa8 lt l).Pairwise (λa b=>lt b a=false)
 |[],_=>by simp[Qa8]
 |x::l,h=>Qer (h.mono (by
   intro z hz;rcases Ve.1 hz with rfl|hz
   .simp
   .exact Vd _ ((Yd lt l).mem_iff.1 hz))) (Y8 (h.mono λz hz=>Vd _ hz))
theorem Qbj{lt:α->α->Bool}:∀{l m:List α},l.Perm m->(∀x∈l,∀y∈l,lt x y=false->lt y x=false->x=y)->l.Pairwise (λa b=>lt b a=false)->m.Pairwise (λa b=>lt b a=false)->l=m
 |[],m,h,_,_,_=>by rw[List.nil_perm.1 h]
 |x::l,[],h,_,_,_=>by have:=h.length_eq;simp at this
 |x::l,y::m,h,ha,hl,hm=>by
  obtain⟨l1,l2⟩:=Xc.1 hl;obtain⟨m1,m2⟩:=Xc.1 hm;have hy:y∈x::l:=h.mem_iff.2 (by simp);have hx:x∈y::m:=h.mem_iff.1 (by simp);have hxy:x=y:=by
   rcases Ve.1 hy with e|d
   .exact e.symm
   .rcases Ve.1 hx with e|f
    .exact e
    .exact ha x (by simp) y (by simp[d]) (m1 x f) (l1 y d)
  subst hxy;rw[Qbj ((List.perm_cons x).1 h) (λa i b g=>ha a (by simp[i]) b (by simp[g])) l2 m2]
def ltO(cf:α->α->Option Int)(x y:α):Bool:=match cf x y with
 |some c=>decide (c<0)
 |none=>false
def Qmj[DecidableEq α](cf:α->α->Option Int)(l:List α):Bool:=
 l.all λx=> !ltO cf x x&&l.all λy=>(cf x y).isSome&&(ltO cf x y||ltO cf y x||decide (x=y))&&l.all λz=>(!ltO cf x y|| !ltO cf y z||ltO cf x z)&&(ltO cf x y||ltO cf y z|| !ltO cf x z)
def QgU[DecidableEq α](cf:α->α->Option Int)(l:List α):Option (List α):=bif Nat.ble l.length Q5&&Qmj cf l then some (Qa8 (ltO cf) l)else none
theorem QgT[DecidableEq α]{d:α->α->Option Int}{l l':List α}(h:QgU d l=some l'):
  l.length<=Q5/\(∀x∈l,∀y∈l,∃c,d x y=some c)/\Qe1 (ltO d) l/\(∀x∈l,∀y∈l,ltO d x y=false->ltO d y x=false->x=y)/\Qa8 (ltO d) l=l':=by
 unfold QgU at h;cases j:Nat.ble l.length Q5 with
 |false=>rw[j]at h;cases h
 |true=>
 rw[j,Bool.true_and]at h;cases q:Qmj d l with
 |false=>rw[q]at h;cases h
 |true=>
  rw[q]at h;refine⟨XY j,?_⟩;unfold Qmj at q;simp only[Xw,X4,Bool.not_eq_true',Bool.or_eq_true,decide_eq_true_eq]at q;refine⟨λx b y e=>Option.isSome_iff_exists.1 ((q x b).2 y e).1.1,⟨λx b=>(q x b).1,λx b y e z i f g=>?_,λx b y e z i f g=>?_⟩,λx b y e f g=>?_,X7 h⟩
  .rcases(((q x b).2 y e).2 z i).1 with(a|a)|a
   .rw[f]at a;cases a
   .rw[g]at a;cases a
   .exact a
  .rcases(((q x b).2 y e).2 z i).2 with(a|a)|a
   .rw[f]at a;cases a
   .rw[g]at a;cases a
   .exact a
  .rcases((q x b).2 y e).1.2 with(a|a)|a
   .rw[f]at a;cases a
   .rw[g]at a;cases a
   .exact a
theorem Qft[DecidableEq α]{a:α->α->Option Int}{l l':List α}(h:QgU a l=some l'):l.length=l'.length:=by
 rw[<- (QgT h).2.2.2.2];exact(Yd _ _).length_eq.symm
theorem Q9{h0:Nat}{env:Env}{H:Qc}{s:Nat}{a a':A}(h:lk env s=a)(e:a=a'):Le h0 env H (up env s a') H:=by
 intro f d σ N act w r;refine⟨d,σ,⟨r.sim,λb=>?_,r.size,r.defers⟩,λ_ q=>q,rfl⟩;subst e;have:lk (up env s a) b=lk env b:=by
  simp only[lk];cases q:Nat.beq b s with
  |true=>rw[XX q,h];rfl
  |false=>rfl
 rw[this];exact r.env b
end
section
variable {fr ro:Nat->Prop}{σ:Sig}{H:Qc}{w w':World}
theorem Qdx(hh:∀b,b<w.heap.size->w'.heap[b]?=w.heap[b]?)(hro:∀b,ro b->b<w.heap.size)(σ:Sig):Ext ro σ w ro σ w':=
 ⟨λ_ q=>q,λb hb=>hh b (hro b hb),λb x hx=>by unfold World.shape? at hx⊢;rw[hh b (Qcr hx)];exact hx,λ_ _ q=>q⟩
theorem Sim.grown(s:Sim fr ro σ H w)(a:∀b,b<w.heap.size->w'.heap[b]?=w.heap[b]?)(g:w.heap.size<=w'.heap.size):Sim fr ro σ H w':=by
 refine⟨s.len,s.roOk.to (λ_ q=>q) (λb q=>a b (s.roLt b q)) (λb h=>Vn (s.roLt b h) g),λb h=>Vn (s.frLt b h) g,s.roFr,λi b x e f n=>?_,s.inj,λi y x e f=>?_,s.hidTo (· = ·) Q8 g (λ_ _ _ _ _ _ _ q=>q) (λ_ _ _ _ _ _ _ q=>q) λj d y l k r=>.inl ⟨j,y,rfl,l,k,id,λc q=>s.hidKeep l k (λz=>a d (s.own j d y l k z).1) (λb q=>a b (s.roLt b q)) q⟩⟩
 .obtain⟨p,q⟩:=s.own i b x e f n;exact⟨Vn p g,q⟩
 .refine(s.blk i y x e f).keep (Qdx a s.roLt σ) ?_ ?_
  .rintro b rfl m;exact a b (s.own i b x e f m).1
  .rintro b c rfl m;exact a c (s.hid i b x c e f m).lt
theorem Qi.grown(hh:∀b,b<w.heap.size->w'.heap[b]?=w.heap[b]?)(hs:w.heap.size<=w'.heap.size)(s:Sim fr ro σ H w)(ho:w'.os=w.os)(ht:w'.tape=w.tape)(hu:w'.output=w.output)(hd:w.drawn<=w'.drawn):Qi fr ro w ro w':=
 ⟨λ_ q=>q,λb h=>hh b (s.roLt b h),λb h=>hh b (s.frLt b h),hs,(Qdx hh s.roLt σ).shape,ho,ht,hu,hd⟩
theorem Qm9(e:∀b,b<w.heap.size->w'.heap[b]?=w.heap[b]?)(l:w.heap.size<=w'.heap.size)(j:w'.os=w.os)(f:w'.tape=w.tape)(h:w'.output=w.output)(m:w.drawn<=w'.drawn):
  ∃q os',w'=grow (w.drewN q) os':=by
 refine⟨w'.drawn-w.drawn,w'.heap.extract w.heap.size w'.heap.size,?_⟩;obtain⟨a,t,g,r,s⟩:=w';simp only at e l j f h m;subst j f h;unfold grow World.drewN;have k:a=w.heap++a.extract w.heap.size a.size:=by
  apply Array.ext_getElem?;intro i;rw[Array.getElem?_append];split
  .rename_i d;exact e i d
  .rename_i d;rw[Array.getElem?_extract];split
   .rename_i n;congr 1;omega
   .rename_i n;rw[Array.getElem?_eq_none];omega
 have p:g=w.drawn+(g-w.drawn):=by omega
 rw[<- k, <- p]
end
end Go.Sw
namespace Go.Sw
open Go.Sort Go.Proofs Go.Shelf
theorem Qdw{α:Type}{k:Nat}:∀(vs:List (List α)) (j:Nat),(∀v∈vs,v.length=k)->j<vs.length*k->vs.flatten[j]?=(vs[j/k]?).bind λv=>v[j%k]?
 |[],j,_,h=>by simp at h
 |v::vs,j,hk,h=>by
  have hv:=hk v (by simp);have k0:0<k:=by
   rcases Nat.eq_zero_or_pos k with q|q
   .subst q;simp at h
   .exact q
  rw[Vt];by_cases q:j<k
  .rw[XT (by omega),Nat.div_eq_of_lt q,Nat.mod_eq_of_lt q];simp
  .rw[XU (by omega),hv,Qdw vs (j-k) (λv hv=>hk v (by simp[hv])) (by simp[Xm]at h;omega)];have a:j/k=(j-k)/k+1:=by rw[Nat.div_eq_sub_div k0 (by omega)]
   have b:j%k=(j-k)%k:=Nat.mod_eq_sub_mod (by omega);rw[a,b,XM]
theorem Qam{α:Type}{k:Nat}:∀(vs:List (List α)),(∀v∈vs,v.length=k)->vs.flatten.length=vs.length*k
 |[],_=>by simp
 |v::vs,h=>by rw[Vt,Va,Qam vs (λv hv=>h v (by simp[hv])),h v (by simp),X8,Xm];omega
theorem Qa1{α:Type}(F:List α)(j:Nat):F.toArray[j]?=F[j]? :=by simp
theorem Qhc{α:Type}[Inhabited α](F:List α)(j:Nat)(h:j<F.length):F[j]?=some (F.toArray[j]!):=by simp[h]
theorem Qhh{β:Type}[Inhabited β]{enc:β->List Value}{k:Nat}(a:∀x,(enc x).length=k)(d:Array β):flatK enc k d=((d.toList.map enc).flatten).toArray:=by
 have b:∀v∈d.toList.map enc,v.length=k:=by
  intro v i;obtain⟨x,_,rfl⟩:=Xf.1 i;exact a x
 apply Array.ext_getElem?;intro t;rw[Qa1 ((d.toList.map enc).flatten) t];by_cases h:t<d.size*k
 .rw[Qdw _ t b (by simpa using h)];have j:0<k:=by
   rcases Nat.eq_zero_or_pos k with q|q
   .subst q;simp at h
   .exact q
  have g:t/k<d.size:=Nat.div_lt_of_lt_mul (by rw[Nat.mul_comm];exact h);have l:t%k<k:=Nat.mod_lt _ j;have f:t<(flatK enc k d).size:=by simpa using h
  have e:=get_flatK enc k d t h;rw[getElem!_pos (flatK enc k d) t f]at e;rw[Array.getElem?_eq_getElem f,e];simp[g];rw[XR (by rw[a];exact l)];rfl
 .have e:(d.toList.map enc).flatten.length=d.size*k:=by rw[Qam _ b];simp
  rw[Array.getElem?_eq_none (by simpa using h),XV (by rw[e];omega)]
section
variable {ro:Nat->Prop}{σ:Sig}{w:World}{T:Type}{enc:T->List A}{k:Nat}
theorem QhR:∀{l:List T}{lv:List Value},RL ro σ w k (l.map enc) lv->
  ∃(ps:List (T×List Value)) (rest:List Value),ps.map (·.1)=l/\lv=(ps.map (·.2)).flatten++rest/\ ∀p∈ps,p.2.length=k/\LR ro σ w (enc p.1) p.2/\ ∀v∈p.2,Qz v
 |[],lv,_=>⟨[],lv,rfl,rfl,by simp⟩
 |x::l,lv,h=>by
  obtain⟨l1,l2,rfl,h1,⟨h2,h3⟩,h4⟩:=h;obtain⟨ps,rest,e1,rfl,h5⟩:=QhR (l:=l) h4;refine⟨(x,l1)::ps,rest,by simp[e1],by simp,?_⟩;intro p hp;rcases Ve.1 hp with rfl|hp
  .exact⟨by rw[h2.length];exact h1,h2,h3⟩
  .exact h5 p hp
theorem QdE(hk:∀x:T,(enc x).length=k):∀{ps:List (T×List Value)}{rest:List Value},(∀p∈ps,LR ro σ w (enc p.1) p.2/\ ∀v∈p.2,Qz v)->RL ro σ w k ((ps.map (·.1)).map enc) ((ps.map (·.2)).flatten++rest)
 |[],_,_=>trivial
 |p::ps,rest,h=>by
  refine⟨p.2,(ps.map (·.2)).flatten++rest,by simp,hk _,h p (by simp),QdE hk λq hq=>h q (by simp[hq])⟩
end
structure Elt (ro:Nat->Prop) (w:World) {T:Type} (enc:T->List A) (k:Nat) (l:List T) where
 x:T
 vs:List Value
 mem:x∈l
 len:vs.length=k
 rel:LR ro [] w (enc x) vs
 plain:∀v∈vs,Qz v
theorem QjP{v:Value}(h:Qz v):v.oneCell'=true:=by cases v<;>first|rfl|exact h.elim
theorem QnJ{P:Program}{ρ:Ren}(L:SlLaysF0.n6 P ρ){T:Type}[DecidableEq T]{enc:T->List A}{k t g:Nat}{cap:List A}{l l':List T}{cf:T->T->Option Int}(hs:QgU cf l=some l')
  (a9:∀x y c,cf x y=some c->C P g ([.agg (enc x),.agg (enc y)]++cap) [] (λa H=>a=.int .i64 c/\H=[]))
  (aE:∀w,(isAgg (ρ.t 24)).run P w=.ok true w)(zE:∀w,(Go.sizeOf (ρ.t 24)).run P w=.ok k w)(eg:∀args w,(callFunc g args).run P w=.ok (.enter g args) w)
  (hk:∀x,(enc x).length=k)(hd:Yt cap=true):
  C P (ρ.f 6) [.osl 0 0 l.length k,.fn (.func g) [] cap] [.row t k (l.map enc)] (λa H=>a=.tup []/\H=[.row t k (l'.map enc)]):=by
 intro fr G σ vals w s hv;obtain⟨vs,r1,rfl,bg,vf,r2,rfl,bm,hr⟩:=hv;cases(show r2=[]from hr);obtain⟨lf,lc,rfl,h1,bb⟩:=bm;cases(show lf=[]from h1);have ar:LR G [] w cap lc:=LR.data hd bb;obtain⟨a4,ai,N,ax,az⟩:=QgT hs;have E:∀(ad:Option Addr) (c:Nat),vs=.slice ad 0 c->l=[]->
   Calls P (ρ.f 6) [vs,.func (.func g) #[] lc.toArray].toArray w λe w'=>∃v r H' af τ,e=.returned v/\(r=.tup []/\H'=[.row t k (l'.map enc)])/\Sim fr af (σ++τ) H' w'/\VR af (σ++τ) w' r v/\Qi fr G w af w':=by
  rintro ad c rfl rfl;have ah:l'=[]:=by rw[<- az];rfl
  subst ah;refine(AnyF.slices_SortFunc_none L ad c (.func (.func g) #[] lc.toArray) w).mono ?_;rintro e w' ⟨rfl,rfl⟩;exact⟨_,_,_,G,[],rfl,⟨rfl,rfl⟩,by simpa using s,⟨[],rfl,rfl⟩,Qi.refl _ _ _⟩
 rcases bg with⟨h0,rfl⟩|⟨b,p,cp,t',m,q1,rfl,q2,q3,q4,q5⟩
 .exact E none 0 rfl (List.length_eq_zero_iff.1 h0)
 .by_cases ah:l=[]
  .subst ah;exact E _ cp rfl rfl
  .have bd:0<l.length:=List.length_pos_iff.2 ah;obtain rfl:=q2 (Vn bd q3);obtain⟨lv,e1,e2⟩:=s.blk 0 _ _ q1 rfl;obtain⟨hb,am,a6⟩:=s.own 0 b _ q1 rfl rfl;obtain⟨V,J,a5,rfl,ae⟩:=QhR e2
   let α:=Elt G w enc k l
   have a2:∀p∈V,p.1∈l:=λp hp=>by rw[<- a5];exact List.mem_map_of_mem hp
   let ds:List α:=V.attach.map λp=>⟨p.1.1,p.1.2,a2 _ p.2,(ae _ p.2).1,(ae _ p.2).2.1,(ae _ p.2).2.2⟩
   have a1:∀{γ:Type} (f:T×List Value->γ),V.attach.map (λp=>f p.1)=V.map f:=λf=>by simp
   have R:ds.map (·.x)=l:=by
    show(V.attach.map _).map _=_;rw[List.map_map];exact(a1 (·.1)).trans a5
   have ak:ds.map (·.vs)=V.map (·.2):=by
    show(V.attach.map _).map _=_;rw[List.map_map];exact a1 (·.2)
   have ay:ds.length=l.length:=by rw[<- R];simp
   have bc:ds≠[]:=by intro q;rw[q]at ay;simp at ay;omega
   let inh:Inhabited α:=⟨ds.head bc⟩
   let enc':α->List Value:=λa=>a.vs
   let cf':α->α->Int:=λx y=>(cf x.x y.x).getD 0
   have ag:∀x y:α,ltOf cf' x y=ltO cf x.x y.x:=by
    intro x y;obtain⟨c,B⟩:=ai x.x x.mem y.x y.mem;simp only[ltOf,ltO,cf',B,Option.getD_some]
   have hO:SWO (ltOf cf'):=⟨λx=>by rw[ag];exact N.irrefl _ x.mem,λx y z a b=>by rw[ag]at*;exact N.trans _ x.mem _ y.mem _ z.mem a b,
    λx y z a b=>by rw[ag]at*;exact N.ntrans _ x.mem _ y.mem _ z.mem a b⟩
   have aa:∀x:α,(enc' x).length=k:=λx=>x.len;have av:flatK enc' k ds.toArray=((V.map (·.2)).flatten).toArray:=by
    rw[Qhh aa];show((ds.map λa=>a.vs).flatten).toArray=_;rw[ak]
   have be:∀v∈V.map (·.2),v.length=k:=by
    intro v hv;obtain⟨p,hp,rfl⟩:=Xf.1 hv;exact(ae p hp).1
   have ab:(V.map (·.2)).flatten.length=ds.length*k:=by rw[Qam _ be, <- ak];simp
   have hH:HoldsK enc' k w b (0*k) ds.toArray:=by
    intro j hj;rw[av]at hj⊢;simp only[List.size_toArray]at hj;constructor
    .unfold World.cell?;simp only[e1,Option.isSome_none,Xj,if_false,Nat.zero_mul,XB];rw[Qa1,XT hj];exact Qhc _ _ hj
    .unfold World.frozen?;simp only[e1];simp
   have aw:∀(d:Array α),d.size=ds.toArray.size->(putRowK enc' k w b (0*k) d).heap=w.heap.setIfInBounds b (.cells (((d.toList.map enc').flatten++J)).toArray t (0,0)):=by
    intro d u;have ac:(d.toList.map enc').flatten.length=(V.map (·.2)).flatten.length:=by
     rw[Qam _ (k:=k) (by intro v hv;obtain⟨x,_,rfl⟩:=Xf.1 hv;exact aa x),ab];simp at u⊢;rw[u]
    unfold putRowK putRow mapBlock;show w.heap.modify b _=_;rw[QbW e1];simp only[onCells];congr 2;rw[Qhh aa];unfold putCells;apply Array.ext_getElem?;intro i;simp only[Array.getElem?_mapIdx,Qa1,Nat.zero_mul,X2,true_and,XB,XA,List.size_toArray,id_eq];by_cases hi:i<(d.toList.map enc').flatten.length
    .rw[XT hi,XT (by rw[<- ac];exact hi),XR (by rw[<- ac];exact hi),Qhc _ _ hi];exact congrArg some (if_pos hi)
    .rw[XU (by omega),XU (by omega),ac];cases(J[i-(V.map (·.2)).flatten.length]?)with
     |none=>rfl
     |some v=>
      rw[<- ac];exact congrArg some (if_neg hi)
   have Q:∀(m:Nat) (os:Array Obj) (d:Array α),d.size=ds.toArray.size->
     (∀c,c<w.heap.size->c≠b->(sortWorldK enc' k w b (0*k) m d os).heap[c]?=w.heap[c]?)/\(sortWorldK enc' k w b (0*k) m d os).heap[b]?=some (.cells (((d.toList.map enc').flatten++J)).toArray t (0,0))/\
     w.heap.size<=(sortWorldK enc' k w b (0*k) m d os).heap.size:=by
    intro m os d u;have e:(sortWorldK enc' k w b (0*k) m d os).heap=w.heap.setIfInBounds b (.cells (((d.toList.map enc').flatten++J)).toArray t (0,0))++os:=by
     rw[<- aw d u];rfl
    rw[e];refine⟨λc B bn=>?_,?_,by simp⟩
    .rw[Array.getElem?_append_left (by simpa using B),Vm,if_neg (λq=>bn q.symm)]
    .rw[Array.getElem?_append_left (by simpa using hb),Vm,if_pos rfl,if_pos hb]
   have M:∀(m:Nat) (os:Array Obj) (d:Array α),d.size=ds.toArray.size->∀c y,w.shape? c=some y->(sortWorldK enc' k w b (0*k) m d os).shape? c=some y:=by
    intro m os d u c y hy;obtain⟨g1,g2,g3⟩:=Q m os d u;by_cases B:c=b
    .subst B;unfold World.shape? at hy⊢;rw[e1]at hy;rw[g2];simp only[Option.some.injEq]at hy⊢;rw[<- hy];congr 1;simp only[List.size_toArray,Va];rw[Qam _ (k:=k) (by intro v hv;obtain⟨x,_,rfl⟩:=Xf.1 hv;exact aa x),ab];simp at u⊢;rw[u]
    .unfold World.shape? at hy⊢;rw[g1 c (Qcr hy) B];exact hy
   have al:∀(m:Nat) (os:Array Obj) (d:Array α),d.size=ds.toArray.size->∀τ,Ext G τ w G τ (sortWorldK enc' k w b (0*k) m d os):=by
    intro m os d u τ;obtain⟨g1,g2,g3⟩:=Q m os d u;exact⟨λ_ q=>q,λc B=>g1 c (s.roLt c B) (λq=>am (q▸B)),M m os d u,λ_ _ q=>q⟩
   have bh:CmpLays P g lc.toArray enc' k cf' b (0*k) ds.toArray.size w:=by
    intro m os dk a8 x y;obtain⟨c,B⟩:=ai x.x x.mem y.x y.mem;have F:=al m os dk a8 [];have bf:=a9 _ _ _ B;generalize hW:sortWorldK enc' k w b (0*k) m dk os=W at*;have bi:w.heap.size<=W.heap.size:=by rw[<- hW];exact(Q m os dk a8).2.2
    have sW:Sim (λc=>c<W.heap.size/\ ¬G c) G [] [] W:=
     ⟨rfl,s.roOk.to (λ_ q=>q) F.keep (λc B=>Vn (s.roLt c B) bi),λc B=>B.1,λc B hf=>hf.2 B,λi b x h=>by simp at h,λi j b x y h=>by simp at h,λi y x h=>by simp at h,λi b x c h=>by simp at h⟩
    have aq:LR G [] W ([.agg (enc x.x),.agg (enc y.x)]++cap) ([.agg x.vs.toArray,.agg y.vs.toArray]++lc):=
     LR.append (show LR G [] W [A.agg (enc x.x),A.agg (enc y.x)] [Value.agg x.vs.toArray,Value.agg y.vs.toArray]from⟨_,_,rfl,⟨x.vs,rfl,x.rel.mono F⟩,_,_,rfl,⟨y.vs,rfl,y.rel.mono F⟩,rfl⟩) (ar.mono F)
    have O:=bf _ G [] _ W sW aq;have bq:(([Value.agg x.vs.toArray,Value.agg y.vs.toArray]++lc).toArray:Array Value)= #[Value.agg (enc' x).toArray,Value.agg (enc' y).toArray]++lc.toArray:=by simp[enc']
    rw[bq]at O;refine O.mono ?_;rintro e w' ⟨v,r,H',af,τ,rfl,⟨rfl,rfl⟩,s',bl,ev⟩;refine⟨?_,?_⟩
    .rw[show v=.int .i64 c from bl];simp only[cf',B,Option.getD_some]
    .refine Qm9 (λc B=>?_) ev.size ev.os ev.tape ev.output ev.drawn;by_cases ba:G c
     .exact ev.keepRo c ba
     .exact ev.keepFr c ⟨B,ba⟩
   have X:ds.toArray.size=l.length:=by simpa using ay
   have aj:=AnyQ.slices_SortFunc L k aE zE enc' aa (λx v hv=>QjP (x.plain v hv)) cf' hO g lc.toArray b (0*k) cp ds.toArray w eg bh hH hb (by rw[X];unfold Q5 at a4;omega);rw[X]at aj;refine aj.mono ?_;rintro e w' ⟨rfl,d,n,os,Y,au,rfl⟩;have u:d.size=ds.toArray.size:=Y.1;obtain⟨g1,g2,g3⟩:=Q n os d u;have an:d.toList.Perm ds:=by
    have h:=Y.2.2;have x1:d.extract 0 l.length=d:=by rw[<- X, <- u];exact Array.extract_size
    have x2:ds.toArray.extract 0 l.length=ds.toArray:=by rw[<- X];exact Array.extract_size
    rw[x1,x2]at h;simpa using h
   have a3:d.toList.map (·.x)=l':=by
    rw[<- az];refine Qbj (lt:=ltO cf) ?_ ?_ ?_ (Y8 N)
    .exact((an.map (·.x)).trans (by rw[R])).trans (Yd _ _).symm
    .intro x hx y hy;have bk:x∈l:=by rw[<- R];exact(an.map (·.x)).mem_iff.1 hx
     have bo:y∈l:=by rw[<- R];exact(an.map (·.x)).mem_iff.1 hy
     exact ax x bk y bo
    .rw[List.pairwise_iff_getElem];intro i j hi hj bj;simp only[X9]at hi hj;simp only[List.getElem_map];rw[<- ag];have:=au i j (X2 _) bj (by rw[<- X, <- u];simpa using hj);rw[getElem!_pos d j (by simpa using hj),getElem!_pos d i (by simpa using hi)]at this;simpa using this
   have bp:RL G [] (sortWorldK enc' k w b (0*k) n d os) k (l'.map enc) ((d.toList.map enc').flatten++J):=by
    have e3:d.toList.map enc'=(d.toList.map λa=>(a.x,a.vs)).map (·.2):=by simp[enc']
    have e4:l'=(d.toList.map λa=>(a.x,a.vs)).map (·.1):=by rw[<- a3];simp
    rw[e3,e4];refine QdE hk ?_;intro p hp;obtain⟨a,_,rfl⟩:=Xf.1 hp;exact⟨a.rel.mono (al n os d u []),a.plain⟩
   have a0:Qi fr G w G (sortWorldK enc' k w b (0*k) n d os):=
    ⟨λ_ q=>q,λc B=>g1 c (s.roLt c B) (λq=>am (q▸B)),λc B=>g1 c (s.frLt c B) (λq=>a6 (q▸B)),g3,M n os d u,rfl,rfl,rfl,Nat.le_add_right _ _⟩
   have ao:σ.length=1:=s.len;have a7:Sim fr G σ [.row t k (l'.map enc)] (sortWorldK enc' k w b (0*k) n d os):=by
    have i0:∀{i:Nat}{x:Blk},([.row t k (l'.map enc)]:Qc)[i]?=some x->i=0/\x=.row t k (l'.map enc):=by
     intro i x h;cases i with
     |zero=>simp at h;exact⟨rfl,h.symm⟩
     |succ i=>simp at h
    refine⟨ao,s.roOk.to (λ_ q=>q) a0.keepRo (λc B=>Vn (s.roLt c B) g3),λc B=>Vn (s.frLt c B) g3,s.roFr,λi c x h1 h2 h3=>?_,λi j c x y h1 h2 h3 h4 _ _=>?_,λi y x h1 h2=>?_,λi b x c h1 h2 h3=>by obtain⟨rfl,rfl⟩:=i0 h2;exact h3.elim⟩
    .obtain⟨rfl,rfl⟩:=i0 h2;obtain⟨p1,p2⟩:=s.own 0 c _ h1 rfl rfl;exact⟨Vn p1 g3,p2⟩
    .rw[(i0 h3).1,(i0 h4).1]
    .obtain⟨rfl,rfl⟩:=i0 h2;rw[q1]at h1;cases h1;exact⟨_,g2,bp⟩
   exact⟨_,_,_,G,[],rfl,⟨rfl,rfl⟩,by simpa using a7,⟨[],rfl,rfl⟩,a0⟩
end Go.Sw
namespace Go.Sw
section
variable {P:Program}{o:Oper}{env:Env}{H:Qc}{fr ro:Nat->Prop}{σ:Sig}{w:World}
theorem Sim.addRo(s:Sim fr ro σ H w){b:Nat}(z:b<w.heap.size)(u:¬fr b)(B:∀(i:Nat) (x:Blk),σ[i]?=some (some b)->H[i]?=some x->x.live=true->False)
  (m:∀(i d:Nat) (x:Blk),σ[i]?=some (some d)->H[i]?=some x->Hid w x d b->False):Sim fr (λc=>ro c\/c=b) σ H w:=by
 refine⟨s.len,s.roOk.to (λ_ q=>.inl q) (λ_ _=>rfl) ?_,s.frLt,?_,?_,s.inj,?_,s.hidTo (· = ·) Q8 (X0 _) (λj d x c p h k E=>E.elim id λq=>(m j d x p h (q▸k)).elim) (λ_ _ _ _ _ _ _ q=>q) λj d y r l F=>.inl ⟨j,y,rfl,r,l,id,λ_ q=>q⟩⟩
 .rintro c (q|rfl)
  .exact s.roLt c q
  .exact z
 .rintro c (q|rfl)
  .exact s.roFr c q
  .exact u
 .intro i c x a e f;obtain⟨g,t,n⟩:=s.own i c x a e f;refine⟨g,?_,n⟩;rintro(q|rfl)
  .exact t q
  .exact B i x a e f
 .intro i y x a e;exact(s.blk i y x a e).keep ⟨λ_ q=>.inl q,λ_ _=>rfl,λ_ _ q=>q,λ_ _ q=>q⟩ (λ_ _ _=>rfl) (λ_ _ _ _=>rfl)
theorem QaH{T e k n:Nat}{xs:List Operand}{es:List (List A)}(E:Q1 P T e k)(ho:o.op=.buildSlice T n (QaO 0 xs).toArray)(M:xs.length=n)(B:Nat.ble (n*k) 16777216=true)
  (O:(xs.all λx=>Yu (opA env x))=true)(u:Yo env xs=es)(J:allK k es)(Y:es.flatten.all YF=true)(Q:Yt es.flatten=true):
  OpH P o env H (.rsl k es) H:=by
 intro W s σ N a w r;subst u;obtain⟨l,X,L⟩:=QbH r E M B O J;have G:LR s [] w (Yo env xs).flatten l:=L.data Q;have f:∀b,b<w.heap.size->(w.alloc (.cells l.toArray e)).heap[b]?=w.heap[b]? :=λb R=>Yz _ _ b R;have p:w.heap.size<=(w.alloc (.cells l.toArray e)).heap.size:=by rw[Yy];omega
 have V:=r.sim.grown f p;have m:Qi W s w s (w.alloc (.cells l.toArray e)):=Qi.alloc _ r.sim.roLt r.sim.frLt;have s2:=V.addRo (b:=w.heap.size) (by rw[Yy];omega) (λq=>Nat.lt_irrefl _ (r.sim.frLt _ q)) (λi x h t y=>Nat.lt_irrefl _ (r.sim.own i _ x h t y).1)
  (λi d x h t y=>Nat.lt_irrefl _ (r.sim.hid i d x _ h t (r.sim.hidKeep h t (λz=>f d (r.sim.own i d x h t z).1) (λb q=>f b (r.sim.roLt b q)) y)).lt)
 have F:RL s [] (w.alloc (.cells l.toArray e)) k (Yo env xs) l:=by
  have:=QaF (rest:=[]) J (G.mono (m.ext0 [])) (L.plain Y)
  rwa [Vo]at this
 have g:(Yo env xs).length=n:=by simp[Yo,M]
 refine⟨_,_,λc=>s c\/c=w.heap.size,[],QbA ho a.eval X,?_,by simpa using s2,m.trans (YK λ_ q=>.inl q)⟩;refine⟨some ⟨w.heap.size,0,none⟩,n,by rw[g],by rw[g];exact X0 _,.inr ⟨w.heap.size,0,rfl,.inr rfl,?_⟩⟩;have j:(w.alloc (.cells l.toArray e)).heap[w.heap.size]?=some (.cells (([]:List Value)++l).toArray e (0,0)):=YU _ _;have:=Js (pre:=[]) j F;exact this.keep ⟨λ_ q=>.inl q,λ_ _=>rfl,λ_ _ q=>q,λ_ _ q=>q⟩ rfl
end
inductive QiP:List A->List A->Prop
 |nil:QiP [] []
 |eq {a:A}{l m:List A} (h:QiP l m):QiP (a::l) (a::m)
 |nl {k:Nat}{l m:List A} (h:QiP l m):QiP (.nils::l) (.rsl k []::m)
theorem LR.nils{ro:Nat->Prop}{σ:Sig}{w:World}{g f:List A}(h:QiP g f):∀{l:List Value},LR ro σ w g l->LR ro σ w f l:=by
 induction h with
 |nil=>intro l h;exact h
 |eq _ ih=>rintro l ⟨v,d,e,a,b⟩;exact⟨v,d,e,a,ih b⟩
 |nl _ ih=>rintro l ⟨v,d,e,a,b⟩;exact⟨v,d,e,⟨none,0,a,X0 _,.inl rfl⟩,ih b⟩
theorem C.nils{P:Program}{f:FuncId}{l1 bs:List A}{H:Qc}{Q:A->Qc->Prop}(hl:QiP l1 bs)(h:C P f bs H Q):C P f l1 H Q:=
 λfr ro σ vals w s l=>h fr ro σ vals w s (LR.nils hl l)
end Go.Sw
namespace Go.Sw
def QM(k:IntKind)(n:Int):Prop:=k.min<=n/\n<=k.max
def QeZ(w:World):Nat->Prop:=λb=>b<w.heap.size
structure Meas {H:Type} (μ:DataW H->Nat):Prop where
 str:∀bytes,bytes.length<=μ (.lit (.string bytes))
 sl:∀e s,e.length<=μ (.slice e s)
 sle:∀e s,∀d∈e,μ d<=μ (.slice e s)
 ag:∀ps,∀d∈ps,μ d<=μ (.agg ps)
def RB(P:Program)(n:Nat)(t:TypeId)(T:Type)(e:T->List A)(wf:T->Prop):Prop:=
 ∀(H:Type) (enc:TypeId×Value->H) (w:World) (base:Nat) (spare:Nat->Bool) (held:Bool) (m:Nat) (cs:List Value) d,m<n->DataW.trod enc P w base spare held m t cs=some d->
  ∀μ:DataW H->Nat,Meas μ->μ d.1<=1048576->∃x:T,wf x/\LR (QeZ w) [] w (e x) cs/\ ∀v∈cs,Qz v
section
variable {P:Program}{n:Nat}{t:TypeId}{T:Type}{e:T->List A}{wf:T->Prop}
theorem RB.down(h:RB P (n+1) t T e wf):RB P n t T e wf:=λH enc w base spare held m cs d hm=>h H enc w base spare held m cs d (Nat.lt_succ_of_lt hm)
theorem QdX(h:∀n,RB P n t T e wf->RB P (n+1) t T e wf):∀n,RB P n t T e wf
 |0=>λH enc w base spare held m cs d hm=>absurd hm (Xn _)
 |n+1=>h n (QdX h n)
theorem Yv{T':Type}{b:T'->List A}{a:T'->Prop}(h:RB P n t T e wf)(g:T->T')(he:∀x,b (g x)=e x)(k:∀x,wf x->a (g x)):RB P n t T' b a:=by
 intro H enc w base spare held m cs d hm hd μ hμ hwt;obtain⟨x,f,i,j⟩:=h H enc w base spare held m cs d hm hd μ hμ hwt;exact⟨g x,k x f,by rw[he];exact i,j⟩
theorem RB.int{k:IntKind}(a:P.underlying t=some (.int k)):RB P n t Int (Qd k) (QM k):=by
 intro H enc w base spare held m cs d hm hd μ hμ hwt;cases m with
 |zero=>simp[DataW.trod]at hd
 |succ m=>
  rcases cs with _|⟨v,_|⟨f,r⟩⟩
  .simp[DataW.trod,a]at hd
  .cases v<;>simp[DataW.trod,a]at hd;rename_i g e;obtain⟨⟨rfl,b⟩,_⟩:=hd;refine⟨e,?_,⟨_,_,rfl,rfl,rfl⟩,by simp[Qz]⟩;simpa[Lit.wf,QM]using b
  .simp[DataW.trod,a]at hd
theorem RB.bool(a:P.underlying t=some .bool):RB P n t Bool encB (λ_=>True):=by
 intro H enc w base spare held m cs d hm hd μ hμ hwt;cases m with
 |zero=>simp[DataW.trod]at hd
 |succ m=>
  rcases cs with _|⟨v,_|⟨e,r⟩⟩
  .simp[DataW.trod,a]at hd
  .cases v<;>simp[DataW.trod,a]at hd;rename_i b;exact⟨b,trivial,⟨_,_,rfl,rfl,rfl⟩,by simp[Qz]⟩
  .simp[DataW.trod,a]at hd
theorem RB.string(a:P.underlying t=some .string):RB P n t (List UInt8) Jo (λs=>s.length<=1048576):=by
 intro H enc w base spare held m cs d hm hd μ hμ hwt;cases m with
 |zero=>simp[DataW.trod]at hd
 |succ m=>
  rcases cs with _|⟨v,_|⟨b,r⟩⟩
  .simp[DataW.trod,a]at hd
  .cases v<;>simp[DataW.trod,a]at hd;rename_i s;obtain⟨_,rfl⟩:=hd;exact⟨s.data.toList,X3 (hμ.str _) hwt,⟨_,_,rfl,rfl,rfl⟩,by simp[Qz]⟩
  .simp[DataW.trod,a]at hd
theorem Qcf{α:Type}{f:Nat->Option α}:∀{n:Nat}{l:List α},(List.range n).mapM f=some l->l.length=n/\ ∀i,i<n->∃y,f i=some y/\l[i]?=some y
 |0,l,h=>by simp at h;subst h;exact⟨rfl,λi hi=>absurd hi (Xn _)⟩
 |n+1,l,h=>by
  rw[Xz,List.mapM_append]at h;cases h1:(List.range n).mapM f with
  |none=>simp[h1]at h
  |some l1=>
   cases h2:f n with
   |none=>simp[h1,h2]at h
   |some y=>
    simp[h1,h2]at h;subst h;obtain⟨e1,e2⟩:=Qcf h1;refine⟨by simp[e1],λi hi=>?_⟩;rcases Xp.1 hi with q|rfl
    .obtain⟨z,z1,z2⟩:=e2 i q;exact⟨z,z1,by rw[XT (by omega)];exact z2⟩
    .exact⟨y,h2,by rw[XU (by omega)];simp[e1]⟩
theorem QdF{w:World}{ro:Nat->Prop}{b:Nat}:∀{cs:List A}{l:List Value}{off:Nat},LR ro [] w cs l->(∀v∈l,Qz v)->(∀i,i<l.length->w.cell? ⟨b,off+i,none⟩=l[i]?)->CR ro [] w b cs off
 |[],_,_,_,_,_=>trivial
 |a::cs,l,off,h,hp,hc=>by
  obtain⟨v,l',rfl,h1,h2⟩:=h;refine⟨⟨v,by simpa using hc 0 (by simp),hp v (by simp),h1⟩,QdF h2 (λv hv=>hp v (by simp[hv])) λi hi=>?_⟩;have:=hc (i+1) (by simpa using hi);rw[show off+1+i=off+(i+1)by omega,this];simp
theorem RB.slice{E:TypeId}{k:Nat}{s:TypeId}(N:P.underlying s=some (.slice E))(hk:P.cellsOf E=k)(h0:Nat.blt 0 k=true)(hl:∀x,(e x).length=k)(h:RB P n E T e wf):
  RB P (n+1) s (List T) (YD k e) (λl=>l.length<=1048576/\ ∀x∈l,wf x):=by
 intro H enc w base spare held m cs d hm hd μ hμ hwt;have k0:0<k:=by simpa using h0
 cases m with
 |zero=>simp[DataW.trod]at hd
 |succ m=>
  rcases cs with _|⟨v,_|⟨v2,r⟩⟩
  .simp[DataW.trod,N]at hd
  .cases v<;>try (simp[DataW.trod,N]at hd;done)
   rename_i a len p;cases a with
   |none=>
    rcases len with _|len
    .rcases p with _|p
     .refine⟨[],⟨by simp,by simp⟩,⟨_,_,rfl,⟨none,0,rfl,X0 _,.inl rfl⟩,rfl⟩,by simp[Qz]⟩
     .simp[DataW.trod,N]at hd
    .simp[DataW.trod,N]at hd
   |some a=>
    simp only[DataW.trod,N]at hd;split at hd
    .rename_i hc;obtain⟨c1,c2,c3⟩:=hc;cases L:(List.range len).mapM (λi=>(w.cells? base (a.add (i*P.cellsOf E)) (P.cellsOf E)).bind (DataW.trod enc P w base spare held m E))with
     |none=>rw[L]at hd;cases hd
     |some f=>
      rw[L]at hd;simp only[XQ,Option.map_eq_some_iff]at hd;obtain⟨u,_,rfl⟩:=hd;have F:f.length<=1048576:=by
       have h1:=hμ.sl (f.map (·.1)) (u.map (·.1));rw[X9]at h1;exact X3 h1 hwt
      have aa:∀y∈f,μ y.1<=1048576:=λy W=>X3 (hμ.sle _ (u.map (·.1)) _ (List.mem_map_of_mem W)) hwt;obtain⟨e1,e2⟩:=Qcf L;have Q:∀i,i<len->∃(x:T) (l:List Value),wf x/\LR (QeZ w) [] w (e x) l/\(∀v∈l,Qz v)/\l.length=k/\ ∀j,j<k->w.cell? ((a.add (i*k)).add j)=l[j]? :=by
       intro i Y;obtain⟨y,y1,y2⟩:=e2 i Y;rw[hk]at y1;cases g:w.cells? base (a.add (i*k)) k with
       |none=>rw[g]at y1;cases y1
       |some l=>
        rw[g]at y1;obtain⟨x,x1,x2,x3⟩:=h H enc w base spare held m l y (by omega) y1 μ hμ (aa y (List.mem_of_getElem? y2));refine⟨x,l,x1,x2,x3,by rw[x2.length];exact hl x,λj hj=>?_⟩;unfold World.cells? at g;split at g
        .obtain⟨_,z2⟩:=Qcf g;obtain⟨v,v1,v2⟩:=z2 j hj;rw[v2, <- v1]
        .cases g
      by_cases O:len=0
      .subst O;exact⟨[],⟨by simp,by simp⟩,⟨_,_,rfl,⟨some a,p,rfl,X2 _,.inl rfl⟩,rfl⟩,by simp[Qz]⟩
      .have first:a.spot=none/\a.block<w.heap.size:=by
        obtain⟨x',l,p1,p2,p3,p4,p5⟩:=Q 0 (by omega);have B:=p5 0 k0;have X:l[0]?=some l[0]:=XR (by omega);have ea:(a.add (0*k)).add 0=a:=by simp[Addr.add]
        rw[X,ea]at B;unfold World.cell? at B;split at B
        .rename_i hh;constructor
         .cases q:a.spot with
          |none=>rfl
          |some z=>simp[q]at B
         .exact(Vk.1 hh).1
        .cases B
       obtain⟨t,hb⟩:=first
       have R:∀n,a.add n=⟨a.block,a.off+n,none⟩:=by
        intro n;cases a;simp only at t;subst t;unfold Addr.add;split
        .rename_i q;subst q;rfl
        .rfl
       have G:∀(b o n:Nat),(⟨b,o,none⟩:Addr).add n=⟨b,o+n,none⟩:=by
        intro b o n;unfold Addr.add;split
        .rename_i q;subst q;rfl
        .rfl
       have pick:∀q i,len-i=q->i<=len->∃J:List T,J.length=len-i/\(∀x∈J,wf x)/\RR (QeZ w) [] w a.block k (J.map e) (a.off+i*k):=by
        intro q
        induction q with
        |zero=>intro i hq Y;exact⟨[],by simp[hq],by simp,trivial⟩
        |succ q ih=>
         intro i hq Y;obtain⟨J,M,w2,V⟩:=ih (i+1) (by omega) (by omega);obtain⟨x,l,p1,p2,p3,p4,p5⟩:=Q i (by omega);refine⟨x::J,by simp[M];omega,by intro y W;rcases Ve.1 W with rfl|W;exact p1;exact w2 y W,hl x,?_,?_⟩
         .refine QdF p2 p3 λj hj=>?_;have B:=p5 j (by omega);rw[R,G]at B;exact B
         .rw[Xm, <- Nat.add_assoc]at V;exact V
       obtain⟨J,M,w2,V⟩:=pick len 0 (by omega) (X2 _);rw[Nat.zero_mul,XC]at V;rw[XA]at M;refine⟨J,⟨by rw[M, <- e1];exact F,w2⟩,⟨_,_,rfl,⟨some a,p,by simp[M],by simp[M];exact c2,.inr ⟨a.block,a.off,?_,hb,V⟩⟩,rfl⟩,by simp[Qz]⟩;cases a;simp only at t;subst t;rfl
    .cases hd
  .simp[DataW.trod,N]at hd
def RF(P:Program)(n:Nat)(fs:List Field)(off L:Nat)(T:Type)(e:T->List A)(wf:T->Prop):Prop:=
 ∀(H:Type) (enc:TypeId×Value->H) (w:World) (base:Nat) (spare:Nat->Bool) (held:Bool) (m:Nat) (cs:List Value) ds,m<n->cs.length=L->
  fs.mapM (λf=>DataW.trod enc P w base spare held m f.type ((cs.drop f.offset).take (P.cellsOf f.type)))=some ds->
  ∀μ:DataW H->Nat,Meas μ->(∀y∈ds,μ y.1<=1048576)->∃x:T,wf x/\LR (QeZ w) [] w (e x) (cs.drop off)/\ ∀v∈cs.drop off,Qz v
theorem RF.nil{L:Nat}:RF P n [] L L Unit (λ_=>[]) (λ_=>True):=by
 intro H enc w base spare held m cs ds hm hl hd μ hμ hwt;have:cs.drop L=[]:=List.drop_eq_nil_of_le (by omega);rw[this];exact⟨(),trivial,rfl,by simp⟩
theorem RF.cons{f:Field}{fs:List Field}{off L k:Nat}{T2:Type}{e2:T2->List A}{g:T2->Prop}(E:f.offset=off)(s:P.cellsOf f.type=k)(h:RB P n f.type T e wf)(r:RF P n fs (off+k) L T2 e2 g):
  RF P n (f::fs) off L (T×T2) (λp=>e p.1++e2 p.2) (λp=>wf p.1/\g p.2):=by
 intro H enc w base spare held m cs ds hm hl hd μ hμ hwt;rw[List.mapM_cons]at hd;cases b:DataW.trod enc P w base spare held m f.type ((cs.drop f.offset).take (P.cellsOf f.type))with
 |none=>simp[b]at hd
 |some d=>
  cases j:fs.mapM (λf=>DataW.trod enc P w base spare held m f.type ((cs.drop f.offset).take (P.cellsOf f.type)))with
  |none=>simp[b,j]at hd
  |some i=>
   have l:ds=d::i:=by
    rw[b,j]at hd;exact(X7 hd).symm
   subst l;rw[E,s]at b;obtain⟨x,B,z,t⟩:=h H enc w base spare held m _ d hm b μ hμ (hwt d (by simp));obtain⟨y,y1,y2,G⟩:=r H enc w base spare held m cs i hm hl j μ hμ (λy F=>hwt y (by simp[F]));have a:cs.drop off=(cs.drop off).take k++cs.drop (off+k):=by rw[<- List.drop_drop,XF]
   refine⟨(x,y),⟨B,y1⟩,by rw[a];exact z.append y2,?_⟩;rw[a];intro v u;rcases List.mem_append.1 u with q|q
   .exact t v q
   .exact G v q
theorem RB.struct{fs:Array Field}{L:Nat}(j:P.underlying t=some (.struct fs))(g:P.cellsOf t=L)(h:RF P n fs.toList 0 L T e wf):RB P (n+1) t T e wf:=by
 intro H enc w base spare held m cs d hm hd μ hμ hwt;cases m with
 |zero=>simp[DataW.trod]at hd
 |succ m=>
  unfold DataW.trod at hd;simp only[j]at hd;split at hd
  .rename_i b;cases a:fs.toList.mapM (λf=>DataW.trod enc P w base spare held m f.type ((cs.drop f.offset).take (P.cellsOf f.type)))with
   |none=>rw[a]at hd;cases hd
   |some i=>
    rw[a]at hd;simp only[Xk,Option.some.injEq]at hd;subst hd;have:=h H enc w base spare held m cs i (by omega) (by rw[b,g]) a μ hμ (λy k=>X3 (hμ.ag _ _ (List.mem_map_of_mem k)) hwt);simpa using this
  .cases hd
end
theorem C.law{P:Program}{f:FuncId}{args:List A}{W:World}{vals:List Value}(h:C P f args [] (λa H=>a=.bool true/\H=[]))(g:LR (QeZ W) [] W args vals)(d:GP W):
  Calls P f vals.toArray W λe W'=>e=.returned (.bool true)/\Go.RowKit.Below W.heap.size W W':=by
 have s:Sim (λ_=>False) (QeZ W) [] [] W:=
  ⟨rfl,⟨λ_ h=>h,λb l=>d.size b l,d⟩,λ_ h=>h.elim,λ_ _ h=>h,λi b x h=>by simp at h,λi j b x y h=>by simp at h,λi y x h=>by simp at h,λi b x c h=>by simp at h⟩
 refine(h _ _ _ _ W s g).mono ?_;rintro e W' ⟨v,r,H',p,τ,rfl,⟨rfl,rfl⟩,_,n,ev⟩;exact⟨by rw[show v=.bool true from n],⟨ev.os,ev.tape,ev.output,ev.size,λk m=>ev.keepRo k m⟩⟩
theorem Qg5{P:Program}{W:World}{a:Nat}{t:TypeId}{v:Value}{fs:Array Field}(b:P.underlying t=some (.struct fs))(h:Value.okWide P W .any a t v):∃cs,v=.agg cs:=by
 unfold Value.okWide at h;rw[b]at h;obtain⟨cs,rfl,_⟩:=h;exact⟨cs,rfl⟩
theorem Qeg{P:Program}{W:World}{t:TypeId}{cs:Array Value}{T:Type}{e:T->List A}{wf:T->Prop}{H:Type}{enc:TypeId×Value->H}{b:Nat}{a:Nat->Bool}{held:Bool}{d:DataW H}{ps:List MemPlace}
  (h:∀n,RB P n t T e wf)(k:DataW.Trod enc P W b a held t (.agg cs) d ps){μ:DataW H->Nat}(hμ:Meas μ)(f:μ d<=1048576):∃x:T,wf x/\VR (QeZ W) [] W (.agg (e x)) (.agg cs):=by
 obtain⟨m,j⟩:=k;obtain⟨x,g,i,_⟩:=h (m+1) H enc W b a held m _ _ (Xo _) j μ hμ f;exact⟨x,g,cs.toList,by simp,i⟩
theorem Qh9{P:Program}{W:World}(h:W.ShapedOpen P){g t u:Nat}{z:Value}(hg:Nat.blt g P.globals.size=true)(j:(((begin P (λ_ _=>0) default).world.heap[g]?).bind Obj.row?)=some (#[z],t))
  (r:P.buildable t=true)(q:P.cellTypes P.depth t=some [u])(w:P.underlying u=some (.int .i64)):∃m:Int,W.cell? ⟨g,0,none⟩=some (.int .i64 m):=by
 obtain⟨d,l,p,s⟩:=h.1 g _ _ (by simpa using hg) j;obtain⟨B,e,_,x⟩:=s r;rw[q]at e;cases e;have y:d.size=1:=p;have b:d[0]?=some d[0]:=Array.getElem?_eq_getElem (by omega);obtain⟨E,i,a⟩:=x 0 _ b;simp at i;subst i;unfold Cell.ok at a;rw[w]at a;cases f:d[0]<;>rw[f]at a<;>simp at a;rename_i k n;obtain⟨rfl,_⟩:=a;refine⟨n,?_⟩;simp only[World.cell?,l];rw[b,f];rfl
end Go.Sw
namespace Go.Sw
theorem Qii{S B:Type}{step:S->Option (Ctl S B)}(d:Nat->S)(b:B)(k:Nat)(q:∀i,i<k->step (d i)=some (.cont (d (i+1))))(h:step (d k)=some (.done b)):∀n,k<n->iter step n (d 0)=some b:=by
 have e:∀m i n,k-i=m->i<=k->m<n->iter step n (d i)=some b:=by
  intro m
  induction m with
  |zero=>
   intro i n f l p;have:i=k:=by omega
   subst this;obtain⟨a,rfl⟩:∃a,n=a+1:=⟨n-1,by omega⟩;simp[iter,h]
  |succ m j=>
   intro i n f l p;obtain⟨a,rfl⟩:∃a,n=a+1:=⟨n-1,by omega⟩;simp only[iter,q i (by omega)];exact j (i+1) a (by omega) (by omega) (by omega)
 intro n g;exact e k 0 n (by omega) (X2 _) g
theorem QlF{S B:Type}{step:S->Option (Ctl S B)}(s0:S)(a:Nat->S)(b:B)(k:Nat)(h0:a 0=s0)(f:∀i,i<k->step (a i)=some (.cont (a (i+1))))(d:step (a k)=some (.done b))(n:Nat)(e:k<n):iter step n s0=some b:=by
 rw[<- h0];exact Qii a b k f d n e
theorem Qo{α:Type}{l:List α}{i:Nat}{x:α}(h:l[i]?=some x):idx l (i:Int)=some x:=by
 unfold idx;have:decide ((0:Int)<=i)=true:=by simp
 rw[this];simpa using h
theorem Qnv{α:Type}(l:List α)(x:α)(h:l.length<4294967296):app l [x]=some (l++[x]):=by
 unfold app;have:Nat.ble (l.length+[x].length) Q5=true:=by
  apply XZ;unfold Q5;simp;omega
 rw[this];rfl
theorem QcJ{α:Type}(l m:List α)(h:l.length+m.length<=4294967296):app l m=some (l++m):=by
 unfold app;have:Nat.ble (l.length+m.length) Q5=true:=XZ h;rw[this];rfl
theorem QQ{n:Int}(h0: -9223372036854775808<=n)(a:n<=9223372036854775807):IntKind.i64.wrap n=n:=by
 unfold IntKind.wrap;simp[IntKind.bits,IntKind.signed];omega
theorem YP{i:Nat}(h:i<9223372036854775807):IntKind.i64.wrap ((i:Int)+1)=((i+1:Nat):Int):=by
 rw[QQ (by omega) (by omega)];omega
theorem QJ{p:Prop}[Decidable p](h:p):decide p=true:=decide_eq_true h
theorem QD{p:Prop}[Decidable p](h:¬p):decide p=false:=decide_eq_false h
end Go.Sw
namespace Go.Sw
open Go.Proofs Go.Shelf
def cat(a b:List UInt8):Option (List UInt8):=bif Nat.ble (a.length+b.length) 4294967296 then some (a++b)else none
theorem QoF{a b r:List UInt8}(h:cat a b=some r):a.length+b.length<=4294967296/\a++b=r:=by
 unfold cat at h;cases q:Nat.ble (a.length+b.length) 4294967296 with
 |true=>rw[q]at h;exact⟨XY q,X7 h⟩
 |false=>rw[q]at h;cases h
def Qex(s t:List UInt8):Option Bool:=bif Nat.blt s.length 4294967281 then some (Lib.contains s t)else none
section
variable {P:Program}{o:Oper}{env:Env}{H:Qc}
theorem Qe5{t u:TypeId}{x y:Operand}{p q r:List UInt8}(k:cat p q=some r)(i:o.op=.binOp .add t x y u:=by exact rfl)(hx:opA env x=.str p:=by exact rfl)(hy:opA env y=.str q:=by exact rfl):OpV P o env H (.str r):=by
 intro s n σ N a w rr;obtain⟨m,j⟩:=QoF k;have f:=Qj rr x;rw[hx]at f;have g:=Qj rr y;rw[hy]at g;have e:a.eval x=.string ⟨p.toArray⟩:=f;have d:a.eval y=.string ⟨q.toArray⟩:=g;have h:(⟨p.toArray⟩:ByteArray)++⟨q.toArray⟩=⟨r.toArray⟩:=by
  rw[<- j];apply ByteArray.ext;simp
 refine⟨.string ⟨r.toArray⟩,?_,rfl⟩;have b:¬((((⟨p.toArray⟩:ByteArray).size+(⟨q.toArray⟩:ByteArray).size:Nat):Int)>IntKind.i64.max):=by
  have:IntKind.i64.max=9223372036854775807:=by decide
  rw[this];simp only[ByteArray.size,List.size_toArray];omega
 generalize a.eval=ρ at*;have l:(eqGuard BinOp.add t x y (.string ⟨p.toArray⟩) (.string ⟨q.toArray⟩)).run P w=.ok () w:=by simp[eqGuard]
 simp only[execOp,i,e,d,binOp_string_add,Op.stringOp,if_neg b,h,Vu,Vv,Result.andThen,l]
def QcC{α:Type}(n:Nat)(l:List α)(i:Int):Option α:=bif Nat.beq l.length n then idx l i else none
theorem Qah{α:Type}{n:Nat}{l:List α}{i:Int}{x:α}(h:QcC n l i=some x):l.length=n/\idx l i=some x:=by
 unfold QcC at h;cases q:Nat.beq l.length n with
 |true=>rw[q]at h;exact⟨XX q,h⟩
 |false=>rw[q]at h;cases h
def arr{α:Type}(n:Nat)(l:List α):Option (List α):=bif Nat.beq l.length n then some l else none
theorem QbR{α:Type}{n:Nat}{l l':List α}(h:arr n l=some l'):l.length=n/\l=l':=by
 unfold arr at h;cases q:Nat.beq l.length n with
 |true=>rw[q]at h;exact⟨XX q,X7 h⟩
 |false=>rw[q]at h;cases h
theorem QgD{α:Type}{n:Nat}{l l':List α}(h:arr n l=some l'):l'.length=n:=(QbR h).2▸(QbR h).1
section
variable {α:Type}{e:α->List A}{t et k n b:Nat}{x y:Operand}{l:List α}
theorem Ja{i:Int}{v:α}{m:IntKind}(h:QcC n l i=some v)(z:∀w,(underlying t).run P w=.ok (.array n et) w)(p:∀w,(sizeOf et).run P w=.ok k w)(s:Nat.ble 2 n=true)
  (J:o.op=.indexAddr t x y:=by exact rfl)(hx:opA env x=.ptr b 0:=by exact rfl)(hy:opA env y=.int m i:=by exact rfl):OpV P o env H (.ptr b (i.toNat*k)):=by
 intro O Q σ N a w r;obtain⟨M,F⟩:=Qah h;obtain⟨L,E⟩:=QaZ F;have B:i.toNat<l.length:=(XS.1 E).1;have e:=Qj r x;rw[hx]at e;obtain⟨f,e,u⟩:=e;have j:=Qj r y;rw[hy]at j;have g:a.eval y=.int m i:=j;refine⟨.pointer (some ⟨f,i.toNat*k,none⟩),?_,f,e,rfl⟩;have G:0<=i/\i<(n:Int):=by omega
 have d:(⟨f,0,none⟩:Addr).add (i.toNat*k)=⟨f,i.toNat*k,none⟩:=by
  unfold Addr.add;split
  .rename_i q;rw[q]
  .simp
 generalize a.eval=ρ at*;simp[execOp,J,u,g,Instr.indexAt,asIntOf,z,p,Instr.sureAddr,G,d,go_sem,Result.andThen]
theorem Qjz{cs:List A}(j:H[b]?=some (.row t k (l.map e)):=by exact rfl)(hcs:(l.map e).flatten=cs:=by exact rfl):Pts H (.ptr b 0) cs:=by
 intro p m σ w v s h;obtain⟨f,d,i⟩:=h;obtain⟨n,g,a⟩:=s.blk b _ _ d j;refine⟨f,0,i,?_⟩;have:=(RR.flat (Js (pre:=[]) (by simpa using g) a)).1;subst hcs;exact this.lift
theorem Qhg(a:∀x,(e x).length=k)(L:List α):(L.map e).flatten.length=L.length*k:=by
 induction L with
 |nil=>simp
 |cons c L ih=>simp only[Vr,Vt,Va,a c,ih,X8,Xm];omega
theorem QhT{d:Nat}{l':List α}(h:arr n l=some l')(i:∀x,(e x).length=k)(a:n*k=d)(p:∀w,(isAgg t).run P w=.ok true w)(j:∀w,(sizeOf t).run P w=.ok d w){T:Nat}
  (m:o.op=.load t x:=by exact rfl)(hx:opA env x=.ptr b 0:=by exact rfl)(hH:H[b]?=some (.row T k (l.map e)):=by exact rfl):OpV P o env H (.agg (l'.map e).flatten):=by
 obtain⟨g,rfl⟩:=QbR h;have f:=Qhg i l;rw[g,a]at f;exact QR m p j hx (Qjz hH rfl) (List.take_of_length_le (by omega)) f
theorem Qkw{r:Nat}{n2 T:Nat}(f:l.length=n)(g:∀x,(e x).length=k)(a:n*k=n2)(i:∀w,(isAgg t).run P w=.ok true w)(h:∀w,(sizeOf t).run P w=.ok n2 w)
  (j:lk env r=.ptr b 0:=by exact rfl)(hH:H[b]?=some (.row T k (l.map e)):=by exact rfl):QcT P env H (.cell r t) (.agg (l.map e).flatten):=by
 have d:=Qhg g l;rw[f,a]at d;have:=QdD (b:=r) (p:=.ptr b 0) (n:=n2) i h (Qjz hH rfl) j (by rw[List.take_of_length_le (by omega)];exact d)
 rwa [List.take_of_length_le (by omega)]at this
theorem QhQ{c:List A}{k:Nat}(h:c.length=k):∀n,allK k (List.replicate n c)
 |0=>trivial
 |n+1=>⟨h,QhQ h n⟩
theorem Qbq{vs:Array Value}{z:α}(p:∀w,(zeroValue t).run P w=.ok (.agg vs) w)(j:(Y7 (List.replicate n (e z)).flatten).toArray=vs)(i:Qd6 (List.replicate n (e z)).flatten=true)(q:(List.replicate n (e z)).flatten.all YF=true)(h:Nat.beq (e z).length k=true)
  (m:o.op=.alloc t:=by exact rfl):OpH P o env H (.ptr H.length 0) (H++[.row t k ((List.replicate n z).map e)]):=by
 intro s d σ N a w r;have f:LR d [] w (List.replicate n (e z)).flatten (Y7 (List.replicate n (e z)).flatten):=Qfg i;have b:=r.sim.allocRow (t:=t) (rest:=[]) (QhQ (XX h) n) f (f.plain q);rw[Vo]at b;have l:(List.replicate n z).map e=List.replicate n (e z):=List.map_replicate;refine⟨.pointer (some ⟨w.heap.size,0,none⟩),w.alloc (.cells (Y7 (List.replicate n (e z)).flatten).toArray t),d,[some w.heap.size],?_,⟨w.heap.size,?_,rfl⟩,l▸b,Qi.alloc _ r.sim.roLt r.sim.frLt⟩
 .generalize a.eval=ρ at*;have g:(newVar t (.agg vs)).run P w=.ok ⟨w.heap.size,0,none⟩ (w.alloc (.cells vs t)):=rfl;rw[j];simp only[execOp,m,Instr.alloc,Vu,p,Result.andThen,g];rfl
 .rw[<- r.sim.len];simp
theorem QcX{T n2:Nat}{l':List α}{vs:List A}(h:l.length=n)(h':l'.length=n)(hk:∀x,(e x).length=k)(q:n*k=n2)(hs:∀w,(sizeOf t).run P w=.ok n2 w)
  (hp:∀x,(e x).all YF=true)(hd:∀x,Yt (e x)=true)(W:(l'.map e).flatten=vs)
  (ho:o.op=.store t x y:=by exact rfl)(G:opA env x=.ptr b 0:=by exact rfl)(hH:H[b]?=some (.row T k (l.map e)):=by exact rfl)(X:opA env y=.agg vs:=by exact rfl):
  OpU P o env H (H.set b (.row T k (l'.map e))):=by
 intro fr ro σ N a w r;subst W;have d:=Qj r x;rw[G]at d;obtain⟨bb,d,J⟩:=d;have h3:=Qj r y;rw[X]at h3;obtain⟨m,h4,F⟩:=h3;obtain⟨i,q1,q2⟩:=r.sim.blk b _ _ d hH;have u:∀(L:List α),allK k (L.map e):=by
  intro L
  induction L with
  |nil=>trivial
  |cons c L g=>exact⟨hk c,g⟩
 have R:(l'.map e).flatten.length=n2:=by rw[Y3 (u l'),X9,h',q]
 have hm:m.length=n2:=by rw[F.length,R]
 have B:∀L:List α,(L.map e).flatten.all YF=true:=by
  intro L
  induction L with
  |nil=>rfl
  |cons c L g=>simp only[Vr,Vt,List.all_append,hp c,g,Bool.and_self]
 have O:∀p s:List A,Yt p=true->Yt s=true->Yt (p++s)=true:=by
  intro p
  induction p with
  |nil=>intro s _ h;exact h
  |cons c p g=>
   intro s d J;simp only[Yt,X4,List.cons_append]at d⊢;exact⟨d.1,g s d.2 J⟩
 have V:∀L:List α,Yt (L.map e).flatten=true:=by
  intro L
  induction L with
  |nil=>rfl
  |cons c L g=>simp only[Vr,Vt];exact O _ _ (hd c) g
 have Y:n2<=i.length:=by
  have:=q2.length;rw[X9,h,q]at this;exact this
 have j:=YS (P:=P) (vs:=m) 0 0 q1 (by omega) (F.plain (B l'));have E:splice i 0 m=m++i.drop n2:=by unfold splice;simp[hm]
 have f:=r.sim.set (x':=.row T k (l'.map e)) (obj:=.cells (splice i 0 m).toArray T (0,0)) d hH rfl
  (λy X=>Qa2 q1 (Yw (by omega)) y X)
  (λex z=>by
   have G:=(F.data (V l')).mono ex.nil;rw[E]at G z⊢;exact⟨_,z,QaF (u l') G (F.plain (B l'))⟩)
 refine⟨_,ro,[],?_,by simpa using f.1,f.2⟩;generalize a.eval=ρ at*;have Q:(ρ y).cells.size=n2:=by rw[h4];simp[Value.cells,hm]
 have M:(storeVar t ⟨bb,0,none⟩ (ρ y)).run P w=.ok () {w with heap:=w.heap.setIfInBounds bb (.cells (splice i 0 m).toArray T (0,0))}:=by
  unfold storeVar;rw[Vu,hs];simp only[Result.andThen];rw[if_neg (by simp[Q]),h4];have ec:(Value.agg m.toArray).cells.toList=m:=by simp[Value.cells]
  rw[ec];simpa using j
 simp only[execOp,ho,J,Instr.storeAt,Instr.sureAddr,pure_bind,Vu,M];rfl
end
end
theorem C.contains{P:Program}{ρ:Ren}(L:Lays.n144 P ρ)(hg:ρ.g 1=QjY){s t:List UInt8}{r:Bool}(h:Qex s t=some r):C P (ρ.f 144) [.str s,.str t] [] (λa H=>a=.bool r/\H=[]):=by
 unfold Qex at h;cases q:Nat.blt s.length 4294967281 with
 |false=>rw[q]at h;cases h
 |true=>
  rw[q]at h;obtain rfl:=X7 h;intro B l σ vals w sim hv;obtain⟨p,z,rfl,b,j,n,rfl,u,x⟩:=hv;cases(show n=[]from x);obtain⟨m,k⟩:=sim.roOk.gp.max;have d:p=.string ⟨s.toArray⟩:=b;have y:j=.string ⟨t.toArray⟩:=u;subst d y;have i:s.length<4294967281:=by simpa using q
  refine(Any.strings_Contains L ⟨s.toArray⟩ ⟨t.toArray⟩ m w (by simpa[ByteArray.size]using i) (by rw[hg];exact k)).mono ?_;rintro e E ⟨rfl,rfl⟩;exact⟨_,_,_,l,[],rfl,⟨rfl,rfl⟩,by simpa using sim,rfl,Qi.refl _ _ _⟩
section
variable {P:Program}{o:Oper}{env:Env}{H:Qc}{fr ro:Nat->Prop}{σ:Sig}{w:World}
theorem Sim.touch(s:Sim fr ro σ H w){b:Nat}{obj:Obj}(m:¬ro b)(t:¬fr b)(B:∀(i:Nat) (x:Blk),σ[i]?=some (some b)->H[i]?=some x->x.live=true->False)
  (k:∀(i d:Nat) (x:Blk),σ[i]?=some (some d)->H[i]?=some x->Hid w x d b->False)
  (u:∀y,w.shape? b=some y->({w with heap:=w.heap.setIfInBounds b obj}:World).shape? b=some y):
  Sim fr ro σ H {w with heap:=w.heap.setIfInBounds b obj}/\Qi fr ro w ro {w with heap:=w.heap.setIfInBounds b obj}:=by
 have a:∀c,c≠b->({w with heap:=w.heap.setIfInBounds b obj}:World).heap[c]?=w.heap[c]? :=by
  intro c F;show(w.heap.setIfInBounds b obj)[c]?=_;rw[Vm,if_neg (λq=>F q.symm)]
 have f:({w with heap:=w.heap.setIfInBounds b obj}:World).heap.size=w.heap.size:=by simp
 have ev:Qi fr ro w ro {w with heap:=w.heap.setIfInBounds b obj}:=
  ⟨λ_ h=>h,λc h=>a c (λq=>m (q▸h)),λc h=>a c (λq=>t (q▸h)),by rw[f];exact X0 _,by
   intro c y h;by_cases q:c=b
   .subst q;exact u y h
   .unfold World.shape? at h⊢;rw[a c q];exact h,rfl,rfl,rfl,X0 _⟩
 refine⟨⟨s.len,s.roOk.to (λ_ q=>q) ev.keepRo (λc h=>by rw[f];exact s.roLt c h),λc h=>by rw[f];exact s.frLt c h,s.roFr,?_,s.inj,?_,s.hidTo (· = ·) Q8 (by rw[f];exact X0 _) (λ_ _ _ _ _ _ _ q=>q) (λ_ _ _ _ _ _ _ q=>q) λj d y p n G=>.inl ⟨j,y,rfl,p,n,id,λc q=>s.hidKeep p n (λz=>a d (λe=>B j y (e▸p) n z)) ev.keepRo q⟩⟩,ev⟩
 .intro i c x g l E;rw[f];exact s.own i c x g l E
 .intro i y x g l;refine(s.blk i y x g l).keep (ev.ext0 σ) ?_ ?_
  .rintro c rfl r;exact a c (λq=>by subst q;exact B i x g l r)
  .rintro d c rfl r;exact a c (λq=>k i d x g l (q▸r))
theorem QkL{T E i n t:Nat}{x:Operand}{es:List (List A)}(ht:P.underlying T=some (.slice E))(hE:P.underlying E=some (.int .u8))(hn:es.length=n)(h0:Nat.blt 0 n=true)
  (ho:o.op=.convert T T x:=by exact rfl)(hx:opA env x=.osl i 0 n 1:=by exact rfl)(hH:H[i]?=some (.row t 1 es):=by exact rfl):
  OpH P o env H (.rsl 1 es) (H.set i .dead):=by
 intro fr O σ N a w r;subst hn;have u:=Qj r x;rw[hx]at u;rcases u with⟨hz,_⟩|⟨b,p,G,t',m,u,h2,h6,h3,h4,h5⟩
 .rw[hz]at h0;simp at h0
 .have aa:0<es.length:=by simpa using h0
  obtain rfl:=h6 (by omega);obtain⟨R,M,h⟩:=r.sim.own i b _ u hH rfl;obtain⟨l,Q,q2⟩:=r.sim.blk i _ _ u hH;have s1:=r.sim.kill i;have g:∀(j:Nat) (y:Blk),σ[j]?=some (some b)->(H.set i .dead)[j]?=some y->y.live=true->False:=by
   intro j y s f k;by_cases q:j=i
   .subst q;rw[Xb]at f;simp only[if_true]at f;split at f
    .cases f;simp[Blk.live]at k
    .simp at f
   .rw[XW (λz=>q z.symm)]at f;exact q (r.sim.inj j i b y _ s u f hH k rfl)
  have J:∀(j d:Nat) (y:Blk),σ[j]?=some (some d)->(H.set i .dead)[j]?=some y->Hid w y d b->False:=by
   intro j d y s f k;by_cases q:j=i
   .subst q;rw[Xb]at f;simp only[if_true]at f;split at f
    .cases f;exact k.elim
    .simp at f
   .rw[XW (λz=>q z.symm)]at f;exact(r.sim.hid j d y b s f k).ne i b _ u hH rfl rfl
  let fz:Nat×Nat:=(l.length,l.length+1)
  have V:∀y,w.shape? b=some y->({w with heap:=w.heap.setIfInBounds b (.cells l.toArray t fz)}:World).shape? b=some y:=by
   intro y X;unfold World.shape? at X⊢;rw[Q]at X;have e:(w.heap.setIfInBounds b (.cells l.toArray t fz))[b]?=some (.cells l.toArray t fz):=by rw[Vm,if_pos rfl,if_pos R]
   simp only[e];exact X
  obtain⟨s2,F⟩:=s1.touch (obj:=.cells l.toArray t fz) M h g J V;have s3:=s2.addRo (b:=b) (by simpa using R) h g (λj d y s f k=>J j d y s f (s1.hidKeep s f (λz=>by
   show(w.heap.setIfInBounds b _)[d]?=_;rw[Vm,if_neg (λe:b=d=>g j y (by rw[e];exact s) f z)]) F.keepRo k))
  have B:({w with heap:=w.heap.setIfInBounds b (.cells l.toArray t fz)}:World).heap[b]?=some (.cells (([]:List Value)++l).toArray t fz):=by
   show(w.heap.setIfInBounds b _)[b]?=_;rw[Vm,if_pos rfl,if_pos R];rfl
  have L:Ext O [] w O [] {w with heap:=w.heap.setIfInBounds b (.cells l.toArray t fz)}:=F.ext0 [];refine⟨.slice (some ⟨b,0*1,none⟩) es.length G,_,λc=>O c\/c=b,[],?_,?_,by simpa using s3,F.trans (YK λ_ q=>.inl q)⟩
  .have hf:w.freeze ⟨b,l.length,none⟩ 1={w with heap:=w.heap.setIfInBounds b (.cells l.toArray t fz)}:=by
    unfold World.freeze;simp only[Nat.one_ne_zero,if_false];rw[QbW Q];rfl
   have Y:(markStringish ⟨b,0*1,none⟩).run P w=.ok () {w with heap:=w.heap.setIfInBounds b (.cells l.toArray t fz)}:=by
    rw[<- hf];unfold markStringish;simp[shape,freeze,Sem.run,World.shape?,Q,Result.andThen]
   have hu:∀w,(underlying T).run P w=.ok (.slice E) w:=run_underlying ht;have W:∀w,(underlying E).run P w=.ok (.int .u8) w:=run_underlying hE;generalize a.eval=ρ at*;simp only[execOp,ho,h2,convert,Vu,hu,W,Result.andThen,beq_self_eq_true,Y,Vv]
  .refine⟨some ⟨b,0*1,none⟩,G,rfl,h3,.inr ⟨b,0*1,rfl,.inr rfl,?_⟩⟩;have:=Js (pre:=[]) B (q2.mono L);exact(by simpa using this:RR O [] _ b 1 es (0*1)).keep ⟨λ_ q=>.inl q,λ_ _=>rfl,λ_ _ q=>q,λ_ _ q=>q⟩ rfl
end
mutual
theorem Qc6(ρ:Nat->Nat):∀{a:A},Yq a=true->YI ρ a=a
 |.any,_=>rfl
 |.bool _,_=>rfl
 |.int _ _,_=>rfl
 |.str _,_=>rfl
 |.nilp,_=>rfl
 |.ptr _ _,h=>by simp[Yq]at h
 |.rp _,_=>rfl
 |.nils,_=>rfl
 |.rsl _ _,_=>rfl
 |.osl _ _ _ _,h=>by simp[Yq]at h
 |.agg cs,h=>by simp only[Yq]at h;simp only[YI,Qae ρ h]
 |.fn f a c,h=>by simp only[Yq,X4]at h;simp only[YI,Qae ρ h.1,Qae ρ h.2]
 |.nilf,_=>rfl
 |.iface t a,h=>by simp only[Yq]at h;simp only[YI,Qc6 ρ h]
 |.nilif,_=>rfl
 |.map _,h=>by simp[Yq]at h
 |.nilm,_=>rfl
 |.tup vs,h=>by simp only[Yq]at h;simp only[YI,Qae ρ h]
theorem Qae(ρ:Nat->Nat):∀{l:List A},Yt l=true->Qaa ρ l=l
 |[],_=>rfl
 |a::l,h=>by simp only[Yt,X4]at h;simp only[Qaa,Qc6 ρ h.1,Qae ρ h.2]
end
theorem QfI{α:Type}{e:α->List A}(b:∀x,Yt (e x)=true):∀L:List α,Yt (L.map e).flatten=true
 |[]=>rfl
 |c::L=>by
  have hdt:∀cs ds:List A,Yt cs=true->Yt ds=true->Yt (cs++ds)=true:=by
   intro cs
   induction cs with
   |nil=>intro ds _ h;exact h
   |cons c cs d=>
    intro ds a f;simp only[Yt,X4,List.cons_append]at a⊢;exact⟨a.1,d ds a.2 f⟩
  simp only[Vr,Vt];exact hdt _ _ (b c) (QfI b L)
theorem Qm1{α:Type}{e:α->List A}(hd:∀x,Yt (e x)=true)(ρ:Nat->Nat)(l:List α):YI ρ (.agg (l.map e).flatten)=.agg (l.map e).flatten:=
 Qc6 ρ (by simp only[Yq];exact QfI hd l)
end Go.Sw
namespace Go.Sw
section
variable {P:Program}{o:Oper}{env:Env}{H:Qc}
theorem QdY{c:Call}{f T:Nat}{x:Operand}{xs:List Operand}{k:Array TypeId}{b:String}{v:A}{args:List A}(d:∀(a:Array Value) (w:World),(callFunc f a).run P w=.ok (.enter f a) w)(p:o.op=.call c)
  (n:c={callee:=.invoke x b,args:=xs.toArray,argTypes:=k})(q:opA env x=.iface T v)(hargs:v::xs.map (opA env)=args)
  (j:∀(u:Value) (w:World),(method (P.types.size+Made.depth) T u b).run P w=.ok (f,u) w):OpC P o env H f args:=by
 intro t s σ N a w r;have g:=Qj r x;rw[q]at g;obtain⟨u,g,m⟩:=g;refine⟨u::xs.map a.eval,?_,hargs▸⟨u,xs.map a.eval,rfl,m,Qbc r xs⟩⟩;subst n;generalize a.eval=ρ at*;have e:(#[ρ x]++(xs.toArray.map ρ):Array Value)=(.iface T u::xs.map ρ).toArray:=by rw[g];simp
 have h:((.iface T u::xs.map ρ).toArray.extract 1 (.iface T u::xs.map ρ).toArray.size:Array Value)=(xs.map ρ).toArray:=by
  simp[List.take_of_length_le]
 have i:∀l:Array Value,(callMethod (.iface T u) b l).run P w=.ok (.enter f (#[u]++l)) w:=by
  intro l;simp only[callMethod,Vu,run_program,Result.andThen,j,d]
 simp only[execOp,p,resolve,e,invoke,Vu,Vv,Result.andThen];simp only[XN,XL,h,i];simp
theorem Qbp{T I:Nat}{x:Operand}{v:A}{d:TypeDesc}(e:∀w,(underlying T).run P w=.ok d w)(g:∀m,d≠ .interface m)(h:o.op=.typeAssert x I T true:=by exact rfl)(hx:opA env x=.iface T v:=by exact rfl):
  OpV P o env H (.tup [v,.bool true]):=by
 intro i j σ N a w r;have b:=Qj r x;rw[hx]at b;obtain⟨u,b,f⟩:=b;refine⟨.tuple #[u,.bool true],?_,[u,.bool true],rfl,_,_,rfl,f,_,_,rfl,rfl,rfl⟩;generalize a.eval=ρ at*;cases d<;>first|(simp[execOp,h,b,Instr.typeAssert,e,go_sem];done)|exact(g _ rfl).elim
theorem QgG{T T' I:Nat}{x:Operand}{v z:A}{zv:Value}{d:TypeDesc}(j:∀w,(underlying T).run P w=.ok d w)(h:∀m,d≠ .interface m)(b:Nat.beq T' T=false)(i:∀w,(zeroValue T).run P w=.ok zv w)(f:ZR z zv)
  (k:o.op=.typeAssert x I T true:=by exact rfl)(hx:opA env x=.iface T' v:=by exact rfl):
  OpV P o env H (.tup [z,.bool false]):=by
 intro p l σ N a w r;have e:=Qj r x;rw[hx]at e;obtain⟨u,e,n⟩:=e;have g:T'≠T:=λq=>by rw[q,Nat.beq_refl]at b;cases b
 refine⟨.tuple #[zv,.bool false],?_,[zv,.bool false],rfl,_,_,rfl,f _ _ _,_,_,rfl,rfl,rfl⟩;generalize a.eval=ρ at*;cases d<;>first|(simp[execOp,k,e,Instr.typeAssert,j,g,i,go_sem];done)|exact(h _ rfl).elim
end
def TL(P:Program)(h0 N:Nat)(c:Code)(env:Env)(H:Qc)(Q:QC):Prop:=
 ∀rd fr ro σ a w,Rel fr ro σ H env N a w->QdJ rd fr w->∀(b:Frame) (k:List Item) (cs:List Frame),b.roundOf=(WF rd).round->(WF rd).fn b.fn->(WF rd).room (cs.length+1+0)->∃e a' w',Qbe h0 fr ro σ w N a.defers Q e a' w'/\ArrivesIn (Machine.fenced P (WF rd)) P (lone (b.atR a (.code c::.inLoop c::k)) cs w) b k cs e a' w'
def QiH(P:Program)(h0 N:Nat)(c:Code)(Q:QC):QC
 |.normal,env,H=>TL P h0 N c env H Q
 |.exit id,env,H=>Q (.exit id) env H
 |.ret,env,H=>Q .ret env H
section
variable {P:Program}{h0 N:Nat}{c:Code}{env:Env}{H:Qc}{Q:QC}
theorem Qmv(h:TL P h0 N c env H Q):TC P h0 N (.loop c) env H Q:=by
 intro f l g σ a w r hrd b k cs hro hb hr;obtain⟨e,i,m,j,d⟩:=h f l g σ a w r hrd b k cs hro hb hr;exact⟨e,i,m,j,.of_steps (.one (fenced_calm hb hr rfl) stepR_loop) d⟩
theorem TL.round(h:TC P h0 N c env H (QiH P h0 N c Q)):TL P h0 N c env H Q:=by
 intro G F y σ a w r hrd b k cs hro hb hr;obtain⟨e,l,n,R,d⟩:=h G F y σ a w r hrd b (.inLoop c::k) cs hro hb hr;obtain⟨x,f,H',i,σ',j,m,p,B,s,E,u⟩:=R;have z:∀x,Q x f H'->ExR e x->Qbe h0 F y σ w N a.defers Q e l n:=λx q O=>⟨x,f,H',i,σ',j,O,q,B,s,E,u⟩;cases e with
 |normal=>
  obtain rfl:x=.normal:=m;obtain⟨M,L,J,t,g⟩:=p G j i σ' l n B (hrd.to s u.sub) b k cs hro hb hr;exact⟨M,L,J,t.grow s E u,.of_steps (StepsIn.trans d (.one (fenced_calm hb hr rfl) stepR_inLoop)) g⟩
 |exit id=>
  obtain rfl:x=.exit id:=m;exact⟨_,l,n,z _ p rfl,.pass (x:=.inLoop c) rfl (λ_ _=>.inl (by simp)) d⟩
 |ret=>
  obtain rfl:x=.ret:=m;exact⟨_,l,n,z _ p rfl,.pass (x:=.inLoop c) rfl (λ_ _=>.inl (by simp)) d⟩
 |_=>exact m.elim
theorem unrN(h:TC P h0 N c env H (QiH P h0 N c Q)):QiH P h0 N c Q .normal env H:=TL.round h
theorem unrX{id:Nat}(h:Q (.exit id) env H):QiH P h0 N c Q (.exit id) env H:=h
theorem unrR(h:Q .ret env H):QiH P h0 N c Q .ret env H:=h
theorem Qkt(h:TC P h0 N c env H (QiH P h0 N c Q)):TC P h0 N (.loop c) env H Q:=Qmv (TL.round h)
end
section
variable {P:Program}{o:Oper}{env:Env}{H:Qc}
end
section
variable {P:Program}{o:Oper}{env:Env}{H:Qc}
end
def QlH{α R:Type}[DecidableEq R](l:List α)(x y:Option R):Option R:=bif l.isEmpty then(bif decide (x=y)then x else none)else y
theorem QlG{α R:Type}[DecidableEq R]{l:List α}{x y:Option R}{r:R}(h:QlH l x y=some r)(b:Bool)(f:l≠[]->b=false):(b=true->x=some r)/\(b=false->y=some r):=by
 unfold QlH at h;cases q:l.isEmpty with
 |true=>
  rw[q]at h;by_cases a:x=y
  .subst a;simp at h;exact⟨λ_=>h,λ_=>h⟩
  .simp[a]at h
 |false=>
  rw[q]at h;have d:l≠[]:=by rintro rfl;cases q
  refine⟨λe=>?_,λ_=>h⟩;rw[f d]at e;cases e
section
variable {P:Program}{o:Oper}{env:Env}{H:Qc}{h0 N:Nat}{Q:QC}
theorem QkM{α:Type}{e:α->List A}{T E k:Nat}{u:TypeId}{x:Operand}{l:List α}(p:P.underlying T=some (.slice E))(q:o.op=.binOp .eql T x (.const (.slice none 0 0)) u)(t:opA env x=.rsl k (l.map e)):
  OpE P o env H (λv H'=>∃b:Bool,v=.bool b/\(l≠[]->b=false)/\H'=H):=by
 intro z j σ N a w r;have h:=Qj r x;rw[t]at h;obtain⟨d,g,h,y,f⟩:=h;refine⟨.bool d.isNone,H,.bool d.isNone,w,j,[],⟨d.isNone,rfl,λm=>?_,rfl⟩,?_,rfl,by simpa using r.sim,Qi.refl _ _ _⟩
 .rcases f with f|⟨b,i,f,_⟩
  .exact absurd (List.map_eq_nil_iff.1 f) m
  .rw[f];rfl
 .have s:a.eval (.const (.slice none 0 0))=.slice none 0 0:=rfl;generalize a.eval=ρ at*;have n:(eqGuard .eql T x (.const (.slice none 0 0)) (.slice d (l.map e).length g) (.slice none 0 0)).run P w=.ok () w:=by simp[eqGuard]
  simp only[execOp,q,h,s,Vu,n,Result.andThen,Go.run_eql_slice_nil w T E d _ g p,Vv]
theorem Qmt{α:Type}{e:α->List A}{T E k d:Nat}{u:TypeId}{x:Operand}{l:List α}{all:Array Oper}{L:List Oper}(f:P.underlying T=some (.slice E))(i:opA env x=.rsl k (l.map e))
  (g:∀b:Bool,(l≠[]->b=false)->WO P h0 N all L (up env d (.bool b)) H Q)
  (h:o.op=.binOp .eql T x (.const (.slice none 0 0)) u:=by exact rfl)(hg:Qv all o env true:=by exact rfl)(hd:o.dst=some d:=by exact rfl)(hN:Nat.blt d N=true:=by exact rfl)(hh:Nat.ble h0 H.length=true:=by exact rfl):WO P h0 N all (o::L) env H Q:=by
 refine Qms (XY hh) hg hd hN (QkM f h i) ?_;rintro v H' ⟨b,rfl,a,rfl⟩;exact g b a
end
theorem slc0{α:Type}{l x:List α}{i:Int}(h:slc l 0 i=some x):0<=i/\i.toNat<=l.length/\l.take i.toNat=x/\x.length=i.toNat:=by
 obtain⟨_,b,e,d⟩:=Qc3 h;have a:l.take i.toNat=x:=by simpa using d
 exact⟨b,by omega,a,by rw[<- a,XD];omega⟩
section
variable {P:Program}{o:Oper}{env:Env}{H:Qc}{α:Type}{e:α->List A}{T et k b t:Nat}{x y:Operand}{l l':List α}{i:Int}
end
end Go.Sw
namespace Go.Sw
open Go.Sort Go.Proofs Go.Shelf
def ltI(x y:Int):Bool:=decide (x<y)
def sortI(l:List Int):Option (List Int):=bif Nat.ble l.length Q5 then some (Qa8 ltI l)else none
theorem QgS{l l':List Int}(h:sortI l=some l'):l.length<=Q5/\Qa8 ltI l=l':=by
 unfold sortI at h;cases e:Nat.ble l.length Q5 with
 |false=>rw[e]at h;simp at h
 |true=>rw[e]at h;exact⟨XY e,X7 h⟩
theorem Qac{l l':List Int}(h:sortI l=some l'):l.length=l'.length:=by
 rw[<- (QgS h).2];exact(Yd _ _).length_eq.symm
theorem QdR(l:List Int):Qe1 ltI l:=
 ⟨λx _=>by simp[ltI],λx _ y _ z _ a b=>by simp[ltI]at*;omega,λx _ y _ z _ a b=>by simp[ltI]at*;omega⟩
theorem QdG(l:List Int):(l.mergeSort λx y=>decide (x<=y))=Qa8 ltI l:=by
 refine Qbj (lt:=ltI) ?_ ?_ ?_ (Y8 (QdR l))
 .exact(List.mergeSort_perm _ _).trans (Yd _ _).symm
 .intro x _ y _ a b;simp[ltI]at*;omega
 .refine(List.pairwise_mergeSort (le:=λx y=>decide (x<=y)) ?_ ?_ l).imp ?_
  .intro a b c;simp;omega
  .intro a b;simp;omega
  .intro a b;simp[ltI]
theorem Qjy{ro:Nat->Prop}{σ:Sig}{w:World}:∀{l:List Int}{lv:List Value},RL ro σ w 1 (l.map λx=>[A.int .i64 x]) lv->∃rest,lv=l.map (Value.int .i64)++rest
 |[],lv,_=>⟨lv,rfl⟩
 |x::l,lv,h=>by
  obtain⟨l1,l2,rfl,h1,⟨h2,h3⟩,h4⟩:=h;obtain⟨rest,rfl⟩:=Qjy (l:=l) h4;obtain⟨v,r,rfl,hv,hr⟩:=h2;cases(show r=[]from hr);exact⟨rest,by rw[show v=.int .i64 x from hv];simp⟩
theorem Qe4{ro:Nat->Prop}{σ:Sig}{w:World}:∀(l:List Int) (rest:List Value),RL ro σ w 1 (l.map λx=>[A.int .i64 x]) (l.map (Value.int .i64)++rest)
 |[],_=>trivial
 |x::l,rest=>⟨[.int .i64 x],l.map (Value.int .i64)++rest,by simp,rfl,⟨⟨_,_,rfl,rfl,rfl⟩,by simp[Qz]⟩,Qe4 l rest⟩
theorem QjG{P:Program}{ρ:Ren}(L:Lays.n189 P ρ){t:Nat}{l l':List Int}(hs:sortI l=some l'):
  C P (ρ.f 189) [.osl 0 0 l.length 1] [.row t 1 (l.map λx=>[A.int .i64 x])] (λa H=>a=.tup []/\H=[.row t 1 (l'.map λx=>[A.int .i64 x])]):=by
 intro fr N σ vals w s hv;obtain⟨vs,r1,rfl,ai,hr⟩:=hv;cases(show r1=[]from hr);obtain⟨R,Q⟩:=QgS hs;have d:∀(ad:Option Addr) (c:Nat),vs=.slice ad 0 c->l=[]->
   Calls P (ρ.f 189) [vs].toArray w λe V=>∃v r H' ro' τ,e=.returned v/\(r=.tup []/\H'=[.row t 1 (l'.map λx=>[A.int .i64 x])])/\Sim fr ro' (σ++τ) H' V/\VR ro' (σ++τ) V r v/\Qi fr N w ro' V:=by
  rintro ad c rfl rfl;have E:l'=[]:=by rw[<- Q];rfl
  subst E;refine(Any.slices_Sort_int_none L ad c w).mono ?_;rintro e V ⟨rfl,rfl⟩;exact⟨_,_,_,N,[],rfl,⟨rfl,rfl⟩,by simpa using s,⟨[],rfl,rfl⟩,Qi.refl _ _ _⟩
 rcases ai with⟨h0,rfl⟩|⟨b,p,cp,t',m,q1,rfl,q2,q3,q4,q5⟩
 .exact d none 0 rfl (List.length_eq_zero_iff.1 h0)
 .by_cases E:l=[]
  .subst E;exact d _ cp rfl rfl
  .have ac:0<l.length:=List.length_pos_iff.2 E;obtain rfl:=q2 (Vn ac q3);obtain⟨lv,e1,e2⟩:=s.blk 0 _ _ q1 rfl;obtain⟨hb,aa,X⟩:=s.own 0 b _ q1 rfl rfl;obtain⟨u,rfl⟩:=Qjy e2;have hH:Holds (Value.int .i64) w b 0 l.toArray:=by
    intro j hj;simp only[List.size_toArray]at hj;constructor
    .unfold World.cell?;simp only[e1,Option.isSome_none,Xj,if_false,XB];rw[Qa1,XT (by simpa using hj)];simp[hj]
    .unfold World.frozen?;simp only[e1];simp
   have z:=Any.slices_Sort_int L b 0 cp l w hH hb (by unfold Q5 at R;omega);rw[QdG,Q]at z;simp only[Nat.zero_mul]at z⊢;refine z.mono ?_;rintro e V ⟨rfl,n,os,rfl⟩;have F:l.length=l'.length:=Qac hs;generalize hW:grow (putRow (Value.int .i64) (Sort.ahead w n) b 0 l'.toArray) os=W;have g:W.heap=w.heap.setIfInBounds b (.cells ((l'.map (Value.int .i64)++u)).toArray t (0,0))++os:=by
    rw[<- hW];show(w.heap.modify b _)++os=_;rw[QbW e1];simp only[onCells];congr 3;unfold putCells;apply Array.ext_getElem?;intro i;simp only[Array.getElem?_mapIdx,Qa1,X2,true_and,XB,XA,List.size_toArray];by_cases hi:i<l'.length
    .rw[XT (by simpa[F]using hi),XT (by simpa using hi)];simp[hi,F]
    .rw[XU (by simp;omega),XU (by simp;omega)];simp only[X9,F];cases(u[i-l'.length]?)with
     |none=>rfl
     |some v=>exact congrArg some (if_neg hi)
   have g1:∀c,c<w.heap.size->c≠b->W.heap[c]?=w.heap[c]? :=by
    intro c k ag;rw[g,Array.getElem?_append_left (by simpa using k),Vm,if_neg (λq=>ag q.symm)]
   have g2:W.heap[b]?=some (.cells ((l'.map (Value.int .i64)++u)).toArray t (0,0)):=by
    rw[g,Array.getElem?_append_left (by simpa using hb),Vm,if_pos rfl,if_pos hb]
   have g3:w.heap.size<=W.heap.size:=by rw[g];simp
   have B:∀c y,w.shape? c=some y->W.shape? c=some y:=by
    intro c y J;by_cases k:c=b
    .subst k;unfold World.shape? at J⊢;rw[e1]at J;rw[g2];simp only[Option.some.injEq]at J⊢;rw[<- J];simp[F]
    .unfold World.shape? at J⊢;rw[g1 c (Qcr J) k];exact J
   have aj:W.os=w.os:=by rw[<- hW];rfl
   have ah:W.tape=w.tape:=by rw[<- hW];rfl
   have ae:W.output=w.output:=by rw[<- hW];rfl
   have af:w.drawn<=W.drawn:=by rw[<- hW];exact Nat.le_add_right _ _
   have T:Qi fr N w N W:=
    ⟨λ_ q=>q,λc k=>g1 c (s.roLt c k) (λq=>aa (q▸k)),λc k=>g1 c (s.frLt c k) (λq=>X (q▸k)),g3,B,aj,ah,ae,af⟩
   have G:σ.length=1:=s.len;have ab:Sim fr N σ [.row t 1 (l'.map λx=>[A.int .i64 x])] W:=by
    have Y:∀{i:Nat}{x:Blk},([.row t 1 (l'.map λx=>[A.int .i64 x])]:Qc)[i]?=some x->i=0/\x=.row t 1 (l'.map λx=>[A.int .i64 x]):=by
     intro i x h;cases i with
     |zero=>simp at h;exact⟨rfl,h.symm⟩
     |succ i=>simp at h
    refine⟨G,s.roOk.to (λ_ q=>q) T.keepRo (λc k=>Vn (s.roLt c k) g3),λc k=>Vn (s.frLt c k) g3,s.roFr,λi c x O M h3=>?_,λi j c x y O M h3 h4 _ _=>?_,λi y x O M=>?_,λi b x c O M h3=>by obtain⟨rfl,rfl⟩:=Y M;exact h3.elim⟩
    .obtain⟨rfl,rfl⟩:=Y M;obtain⟨p1,p2⟩:=s.own 0 c _ O rfl rfl;exact⟨Vn p1 g3,p2⟩
    .rw[(Y h3).1,(Y h4).1]
    .obtain⟨rfl,rfl⟩:=Y M;rw[q1]at O;cases O;exact⟨_,g2,Qe4 l' u⟩
   exact⟨_,_,_,N,[],rfl,⟨rfl,rfl⟩,by simpa using ab,⟨[],rfl,rfl⟩,T⟩
section
variable {P:Program}{o:Oper}{env:Env}{H:Qc}{α:Type}{e:α->List A}{T et k b t:Nat}{x y:Operand}
theorem Qf3{lo hi:Option Operand}{l r:List α}{a c:Int}(h:slc l a c=some r)(E1:∀w,(underlying T).run P w=.ok (.slice et) w)(E2:∀w,(sizeOf et).run P w=.ok k w)
  (f:lo=none/\a=0\/ ∃y,lo=some y/\opA env y=.int .i64 a)(g:hi=none/\c=l.length\/ ∃y,hi=some y/\opA env y=.int .i64 c)
  (i:o.op=.slice T x lo hi none:=by exact rfl)(hx:opA env x=.osl b 0 l.length k:=by exact rfl):OpV P o env H (.osl b (0+a.toNat) (c.toNat-a.toNat) k):=by
 obtain⟨j,m,n,_⟩:=Qc3 h;refine QhV (l:=a.toNat) (h:=c.toNat) E1 E2 i hx ?_ ?_ (by omega) (by omega)
 .rcases f with⟨e,d⟩|⟨y,e,d⟩
  .exact .inl ⟨e,by rw[d];rfl⟩
  .exact .inr ⟨y,a,e,d,j,rfl⟩
 .rcases g with⟨e,d⟩|⟨y,e,d⟩
  .exact .inl ⟨e,by rw[d];simp⟩
  .exact .inr ⟨y,c,e,d,by omega,rfl⟩
end
end Go.Sw
namespace Go.Sw
inductive Bx where
 |mk (a:A)
def lkB:Env->Nat->Bx
 |[],_=>.mk .any
 |(d,a)::r,s=>bif Nat.beq s d then .mk a else lkB r s
theorem Qih:∀{env:Env}{s:Nat}{a:A},lkB env s=.mk a->lk env s=a
 |[],s,a,h=>by cases h;rfl
 |(d,b)::r,s,a,h=>by
  unfold lkB at h;unfold lk;cases q:Nat.beq s d with
  |true=>rw[q]at h;cases h;rfl
  |false=>rw[q]at h;exact Qih h
inductive FBy where
 |mk (l:List UInt8)
def fby:List UInt8->FBy
 |[]=>.mk []
 |a::r=>match fby r with
  |.mk r'=>.mk (a::r')
theorem QlR:∀l:List UInt8,fby l=.mk l
 |[]=>rfl
 |a::r=>by unfold fby;rw[QlR r]
def opB(env:Env):Operand->Bx
 |.tmp t=>lkB env t
 |.const (.bool b)=>.mk (.bool b)
 |.const (.int k n)=>.mk (.int k n)
 |.const (.string s)=>match fby s.data.toList with
  |.mk l=>.mk (.str l)
 |.const (.pointer none)=>.mk .nilp
 |.const (.slice none 0 0)=>.mk .nils
 |.const (.map none)=>.mk .nilm
 |.const .nilFunc=>.mk .nilf
 |.const .nilIface=>.mk .nilif
 |.func f=>.mk (.fn (.func f) [] [])
 |_=>.mk .any
theorem QE{env:Env}{x:Operand}{a:A}(h:opB env x=.mk a):opA env x=a:=by
 cases x with
 |tmp t=>exact Qih h
 |const v=>
  cases v with
  |slice b n k=>cases b with
   |none=>cases n with
    |zero=>cases k<;>(cases h;rfl)
    |succ n=>cases h;rfl
   |some b=>cases h;rfl
  |pointer p=>cases p<;>(cases h;rfl)
  |map p=>cases p<;>(cases h;rfl)
  |string s=>
   have d:(match fby s.data.toList with|.mk l=>Bx.mk (.str l))=.mk a:=h;rw[QlR]at d;cases d;rfl
  |_=>cases h;rfl
 |global g=>cases h;rfl
 |func f=>cases h;rfl
def YY{α:Type}:List α->Nat->Option α
 |[],_=>none
 |a::_,0=>some a
 |_::r,n+1=>YY r n
theorem Qaz{α:Type}:∀(l:List α) (n:Nat),YY l n=l[n]?
 |[],n=>by simp[YY]
 |a::r,0=>rfl
 |a::r,n+1=>by simp[YY,Qaz r n]
def arB:BinOp->IntKind->Int->Int->Option A
 |.add,k,m,n=>some (.int k (k.wrap (m+n)))
 |.sub,k,m,n=>some (.int k (k.wrap (m-n)))
 |.mul,k,m,n=>some (.int k (k.wrap (m*n)))
 |.eql,_,m,n=>some (.bool (m==n))
 |.neq,_,m,n=>some (.bool (m != n))
 |.lss,_,m,n=>some (.bool (decide (m<n)))
 |.leq,_,m,n=>some (.bool (decide (m<=n)))
 |.gtr,_,m,n=>some (.bool (decide (n<m)))
 |.geq,_,m,n=>some (.bool (decide (n<=m)))
 |_,_,_,_=>none
def srB:BinOp->List UInt8->List UInt8->Option A
 |.eql,p,q=>some (.bool (p==q))
 |.neq,p,q=>some (.bool (p != q))
 |.lss,p,q=>some (.bool (Op.bytesLess p q))
 |_,_,_=>none
def biB(b:BinOp):Bx->Bx->Option A
 |.mk (.int k m),.mk (.int k' n)=>if k=k' then arB b k m n else none
 |.mk (.str p),.mk (.str q)=>srB b p q
 |_,_=>none
def unB:UnOp->Bx->Option A
 |.not,.mk (.bool b)=>some (.bool !b)
 |.neg,.mk (.int k n)=>some (.int k (k.wrap (0-n)))
 |_,_=>none
def exB:Bx->Nat->Option A
 |.mk (.tup vs),i=>YY vs i
 |_,_=>none
def nlB:Bx->Option A
 |.mk (.ptr i j)=>some (.ptr i j)
 |.mk (.rp cs)=>some (.rp cs)
 |_=>none
def piB:Bx->Bx->Bx->Option A
 |.mk (.bool true),.mk a,_=>some a
 |.mk (.bool false),_,.mk a=>some a
 |_,_,_=>none
def svB(env:Env):Op->Option A
 |.move x=>match opB env x with|.mk a=>some a
 |.assign x=>match opB env x with|.mk a=>some a
 |.nilCheck x=>nlB (opB env x)
 |.extract x i=>exB (opB env x) i
 |.unOp u _ x=>unB u (opB env x)
 |.pick c x y=>piB (opB env c) (opB env x) (opB env y)
 |.binOp b _ x y _=>biB b (opB env x) (opB env y)
 |_=>none
def pr(d:Nat):Option A->Option (Nat×A)
 |some a=>some (d,a)
 |none=>none
def stB(o:Oper)(env:Env):Option (Nat×A):=
 match o.dst with
 |some d=>pr d (svB env o.op)
 |none=>none
section
variable {P:Program}{h0 N:Nat}{all:Array Oper}{o:Oper}{l:List Oper}{env:Env}{H H':Qc}{Q:QC}{d:Nat}{x:A}
theorem QbD{p:Op}(d:o.op=p)(h:svB env p=some x):OpV P o env H x:=by
 unfold svB at h;split at h
 .rename_i y;cases q:opB env y with|mk a=>rw[q]at h;cases h;exact OpV.move d (QE q)
 .rename_i y;cases q:opB env y with|mk a=>rw[q]at h;cases h;exact OpV.assign d (QE q)
 .rename_i y;unfold nlB at h;split at h
  .rename_i i j q;cases h;exact Qe6 d (QE q) rfl
  .rename_i w q;cases h;exact Qe6 d (QE q) rfl
  .cases h
 .rename_i y i;unfold exB at h;split at h
  .rename_i vs _ q;rw[Qaz]at h;exact OpV.extract d (QE q) h
  .cases h
 .rename_i u t y;unfold unB at h;split at h
  .rename_i b q;cases h;exact OpV.not d (QE q)
  .rename_i k n q;cases h;exact OpV.neg d (QE q)
  .cases h
 .rename_i c y z;unfold piB at h;split at h
  .rename_i a _ r l;cases h;exact OpV.pick d (QE r) (by rw[if_pos rfl];exact QE l)
  .rename_i a r l;cases h;exact OpV.pick d (QE r) (by rw[if_neg (by decide)];exact QE l)
  .cases h
 .rename_i b t y z u;unfold biB at h;split at h
  .rename_i k m s n r l;split at h
   .rename_i e;subst e;have f:=QE r;have g:=QE l;unfold arB at h;split at h
    .cases h;exact OpV.add d f g
    .cases h;exact OpV.sub d f g
    .cases h;exact OpV.mul d f g
    .cases h;exact OpV.eql d f g
    .cases h;exact OpV.neq d f g
    .cases h;exact OpV.lss d f g
    .cases h;exact OpV.leq d f g
    .cases h;exact OpV.gtr d f g
    .cases h;exact OpV.geq d f g
    .cases h
   .cases h
  .rename_i p q r l;have f:=QE r;have g:=QE l;unfold srB at h;split at h
   .cases h;exact QkC d f g
   .cases h;exact Qkz d f g
   .cases h;exact QkA d f g
   .cases h
  .cases h
 .cases h
theorem Qgc(h:stB o env=some (d,x)):o.dst=some d/\OpV P o env H x:=by
 unfold stB at h;split at h
 .rename_i b q;cases e:svB env o.op with
  |none=>rw[e]at h;cases h
  |some a=>rw[e]at h;cases h;exact⟨q,QbD rfl e⟩
 .cases h
theorem S(e:stB o env=some (d,x))(k:WO P h0 N all l (up env d x) H Q)(hg:Qv all o env true:=by exact rfl)(hN:Nat.blt d N=true:=by exact rfl):WO P h0 N all (o::l) env H Q:=
 QG hg (Qgc (P:=P) (H:=H) e).1 hN (Qgc e).2 k
theorem Sg(hg:Qv all o env true)(e:stB o env=some (d,x))(k:WO P h0 N all l (up env d x) H Q)(a:Nat.blt d N=true:=by exact rfl):WO P h0 N all (o::l) env H Q:=
 QG hg (Qgc (P:=P) (H:=H) e).1 a (Qgc e).2 k
theorem K(hg:Qv all o env false)(a:o.dst=some d)(k:WO P h0 N all l (up env d (.tup [])) H Q)(b:Nat.blt d N=true:=by exact rfl):WO P h0 N all (o::l) env H Q:=
 WO.skip hg a b k
def p2B(v:Bool):Bx->Bx->Bx->Option (Bool×A)
 |.mk (.bool b),.mk a,.mk a'=>match v with|true=>some (b,a)|false=>some (b,a')
 |_,_,_=>none
def pr2(d:Nat):Option (Bool×A)->Option (Nat×Bool×A)
 |some a=>some (d,a)
 |none=>none
def pkB(v:Bool)(o:Oper)(env:Env):Option (Nat×Bool×A):=
 match o.dst,o.op with
 |some d,.pick c x y=>pr2 d (p2B v (opB env c) (opB env x) (opB env y))
 |_,_=>none
theorem Qoo{v b:Bool}{p q r:Bx}(h:p2B v p q r=some (b,x)):∃a a',p=.mk (.bool b)/\q=.mk a/\r=.mk a'/\(bif v then a else a')=x:=by
 obtain⟨p⟩:=p;obtain⟨q⟩:=q;obtain⟨r⟩:=r;cases p<;>first|(cases h;done)|skip
 cases v<;>cases h<;>exact⟨_,_,rfl,rfl,rfl,rfl⟩
theorem Qlu{v b:Bool}(h:pkB v o env=some (d,b,x))(k:b=v):o.dst=some d/\OpV P o env H x:=by
 unfold pkB at h;split at h
 .rename_i n c y z j f;cases e:p2B v (opB env c) (opB env y) (opB env z)with
  |none=>rw[e]at h;cases h
  |some s=>
   rw[e]at h;cases h;obtain⟨a,p,g,m,l,i⟩:=Qoo e;refine⟨j,OpV.pick f (QE g) ?_⟩;rw[QE m,QE l,k];cases v<;>exact i
 .cases h
theorem Pk{v b:Bool}(a:b=v)(e:pkB v o env=some (d,b,x))(k:WO P h0 N all l (up env d x) H Q)(hg:Qv all o env true:=by exact rfl)(hN:Nat.blt d N=true:=by exact rfl):WO P h0 N all (o::l) env H Q:=
 QG hg (Qlu (P:=P) (H:=H) e a).1 hN (Qlu e a).2 k
def fpB(o:Oper)(env:Env):Option (Nat×Nat×Nat×Nat×Nat):=
 match o.dst,o.op with
 |some d,.fieldAddr T x f=>match opB env x with
  |.mk (.ptr i p)=>some (d,T,f,i,p)
  |_=>none
 |_,_=>none
theorem Qgp{T f off n i p:Nat}(a:Jt P T f off n)(h:fpB o env=some (d,T,f,i,p)):o.dst=some d/\OpV P o env H (.ptr i (p+off)):=by
 unfold fpB at h;split at h
 .rename_i g b;split at h
  .rename_i e;cases h;exact⟨g,Qcm a b (QE e)⟩
  .cases h
 .cases h
theorem Fp{T f off n i p:Nat}(a:Jt P T f off n)(e:fpB o env=some (d,T,f,i,p))(k:WO P h0 N all l (up env d (.ptr i (p+off))) H Q)(hg:Qv all o env true:=by exact rfl)(hN:Nat.blt d N=true:=by exact rfl):WO P h0 N all (o::l) env H Q:=
 QG hg (Qgp (H:=H) a e).1 hN (Qgp a e).2 k
theorem Fpg{T f off n i p:Nat}(hg:Qv all o env true)(a:Jt P T f off n)(e:fpB o env=some (d,T,f,i,p))(k:WO P h0 N all l (up env d (.ptr i (p+off))) H Q)(b:Nat.blt d N=true:=by exact rfl):WO P h0 N all (o::l) env H Q:=
 QG hg (Qgp (H:=H) a e).1 b (Qgp a e).2 k
inductive Lx where
 |mk (l:List A)
def QhE:Nat->List A->Lx
 |0,l=>.mk l
 |n+1,_::r=>QhE n r
 |_+1,[]=>.mk []
theorem QeT:∀{n:Nat}{l r:List A},QhE n l=.mk r->l.drop n=r
 |0,l,r,h=>by cases h;rfl
 |n+1,a::l,r,h=>by rw[List.drop_succ_cons];exact QeT h
 |n+1,[],r,h=>by cases h;rfl
def ctB:Option Blk->Nat->Option A
 |some (.cells _ cs),off=>YY cs off
 |_,_=>none
def lvB(H:Qc):Bx->Option A
 |.mk (.ptr i off)=>ctB (YY H i) off
 |.mk (.rp (a::_))=>some a
 |_=>none
def pr3(d t:Nat):Option A->Option (Nat×Nat×A)
 |some a=>some (d,t,a)
 |none=>none
def ldB(o:Oper)(env:Env)(H:Qc):Option (Nat×Nat×A):=
 match o.dst,o.op with
 |some d,.load t x=>pr3 d t (lvB H (opB env x))
 |_,_=>none
theorem Qgm{t:Nat}(l:∀w,(isAgg t).run P w=.ok false w)(h:ldB o env H=some (d,t,x)):o.dst=some d/\OpV P o env H x:=by
 unfold ldB at h;split at h
 .rename_i p s y m k;cases e:lvB H (opB env y)with
  |none=>rw[e]at h;cases h
  |some a=>
   rw[e]at h;cases h;refine⟨m,?_⟩;unfold lvB at e;split at e
   .rename_i i b g;unfold ctB at e;split at e
    .rename_i b q T0 T cs q4;rw[Qaz]at e q4;obtain⟨f,n⟩:∃f,cs.drop b=x::f:=by
      have j:=(XS.1 e).1;refine⟨cs.drop (b+1),?_⟩;rw[Xr j,(XS.1 e).2]
     exact OpV.load k l (QE g) (Pts.cells q4 n)
    .cases e
   .rename_i a r g;cases e;exact OpV.load k l (QE g) Pts.rp
   .cases e
 .cases h
theorem Ld{t:Nat}(a:∀w,(isAgg t).run P w=.ok false w)(e:ldB o env H=some (d,t,x))(k:WO P h0 N all l (up env d x) H Q)(hg:Qv all o env true:=by exact rfl)(hN:Nat.blt d N=true:=by exact rfl):WO P h0 N all (o::l) env H Q:=
 QG hg (Qgm a e).1 hN (Qgm a e).2 k
theorem Ldg{t:Nat}(hg:Qv all o env true)(a:∀w,(isAgg t).run P w=.ok false w)(e:ldB o env H=some (d,t,x))(k:WO P h0 N all l (up env d x) H Q)(b:Nat.blt d N=true:=by exact rfl):WO P h0 N all (o::l) env H Q:=
 QG hg (Qgm a e).1 b (Qgm a e).2 k
def ixB(o:Oper)(env:Env):Option (Nat×Nat×Nat×List (List A)×IntKind×Int):=
 match o.dst,o.op with
 |some d,.indexAddr t x y=>match opB env x,opB env y with
  |.mk (.rsl k es),.mk (.int kk i)=>some (d,t,k,es,kk,i)
  |_,_=>none
 |_,_=>none
theorem Ix{α:Type}{e:α->List A}{t et k:Nat}{L:List α}{g:IntKind}{i:Int}{v:α}(h:idx L i=some v)(n:∀w,(underlying t).run P w=.ok (.slice et) w)(j:∀w,(sizeOf et).run P w=.ok k w)
  (q:ixB o env=some (d,t,k,L.map e,g,i))(k:WO P h0 N all l (up env d (.rp (e v))) H Q)(hg:Qv all o env true:=by exact rfl)(hN:Nat.blt d N=true:=by exact rfl):WO P h0 N all (o::l) env H Q:=by
 unfold ixB at q;split at q
 .rename_i m a;split at q
  .rename_i b p;simp only[Option.some.injEq,Prod.mk.injEq]at q;obtain⟨rfl,rfl,rfl,f,rfl,rfl⟩:=q;exact QG hg m hN (Yi h n j a (by rw[QE b,f]) (QE p)) k
  .cases q
 .cases q
def lnB(o:Oper)(env:Env):Option (Nat×Nat×Bx):=
 match o.dst,o.op with
 |some d,.call c=>match c with
  |{callee:=.builtin .len,args:=⟨[x]⟩,argTypes:=⟨[t]⟩}=>some (d,t,opB env x)
  |_=>none
 |_,_=>none
theorem Qos{t:Nat}{b:Bx}(q:lnB o env=some (d,t,b)):∃x,o.dst=some d/\o.op=.call {callee:=.builtin .len,args:= #[x],argTypes:= #[t]}/\opB env x=b:=by
 unfold lnB at q;split at q
 .rename_i e a;split at q
  .cases q;exact⟨_,e,a,rfl⟩
  .cases q
 .cases q
theorem LnM{α:Type}{e:α->List A}{t et k:Nat}{L:List α}(a:∀w,(underlying t).run P w=.ok (.slice et) w)(q:lnB o env=some (d,t,.mk (.rsl k (L.map e))))
  (k:WO P h0 N all l (up env d (.int .i64 L.length)) H Q)(hg:Qv all o env true:=by exact rfl)(hN:Nat.blt d N=true:=by exact rfl):WO P h0 N all (o::l) env H Q:=by
 obtain⟨x,g,b,f⟩:=Qos q;exact QG hg g hN (YJ a b rfl (QE f)) k
end
section
variable {P:Program}{h0 N:Nat}{all:Array Oper}{env env':Env}{H H':Qc}{Q:QC}{c c':Code}
theorem Nx(h:TC P h0 N c env H Q):WO P h0 N all [] env H (Seq P h0 N c Q):=WO.nil (Qk9 h)
theorem Rg{id:Nat}{l:List Oper}(h:WO P h0 N l.toArray l env H (Seq P h0 N c Q)):TC P h0 N (.seq (.region id l.toArray false) c) env H Q:=TC.seq (TC.region h)
theorem SkN(h:TC P h0 N c env H Q):TC P h0 N .skip env H (Seq P h0 N c Q):=TC.skip (Qk9 h)
theorem ExX{id:Nat}(h:Q (.exit id) env H):TC P h0 N (.exit id) env H (Seq P h0 N c Q):=TC.exit (seqX h)
theorem Oi{α:Type}{x y:α}(h:some x=some y):x=y:=X7 h
theorem Bd{α β:Type}{x:Option α}{f:α->Option β}{r:β}{G:Prop}(h:x.bind f=some r)(k:∀a,x=some a->f a=some r->G):G:=by
 obtain⟨a,b,d⟩:=YB h;exact k a b d
theorem If{α:Type}{c:Bool}{x y:Option α}{r:α}{G:Prop}(h:(bif c then x else y)=some r)(t:c=true->x=some r->G)(e:c=false->y=some r->G):G:=by
 cases c with
 |true=>exact t rfl h
 |false=>exact e rfl h
theorem Cn{α:Type}{x:Operand}{t:Bool}{p q:Option α}{r:α}(hx:opB env x=.mk (.bool t))(h:(bif t then p else q)=some r)(ht:t=true->p=some r->TC P h0 N c env H Q)(hf:t=false->q=some r->TC P h0 N c' env H Q):TC P h0 N (.cond x c c') env H Q:=
 TC.cond (QE hx) (λe=>ht e (ifT e h)) (λe=>hf e (ifF e h))
theorem QX{α:Type}{x:Operand}{t:Bool}{p q:Option α}{r:α}(hx:opB env x=.mk (.bool t))(h:(bif t then p else q)=some r)(hf:t=false->q=some r->TC P h0 N c' env H Q)(ht:t=true->p=some r->TC P h0 N c env H Q):TC P h0 N (.cond x c c') env H Q:=
 TC.cond (QE hx) (λe=>ht e (ifT e h)) (λe=>hf e (ifF e h))
theorem Lr(π:List Nat)(a:π.take h0=List.range h0:=by exact rfl)(hH:π.map (λp=>H[p]?)=(H'.map (Q4 (rho π H.length))).map some:=by exact rfl)(hπ:π.Nodup:=by decide)
  (hE:Qfi (rho π H.length) env env':=by(repeat' (first|exact trivial|refine⟨rfl,?_⟩))):Le h0 env H env' H':=QoM π a hH hπ hE
end
end Go.Sw
namespace Go.Sw
def Ev{α:Type}(f:Nat->Option α)(v:α):Prop:=∃N,∀n,N<=n->f n=some v
section
variable {α β:Type}{f g:Nat->Option α}{v w:α}
theorem Qa(v:α):Ev (λ_=>some v) v:=⟨0,λ_ _=>rfl⟩
theorem Ev.const{o:Option α}(h:o=some v):Ev (λ_=>o) v:=⟨0,λ_ _=>h⟩
theorem Ev.bind{k:Nat->α->Option β}{b:β}(h:Ev f v)(a:Ev (λn=>k n v) b):Ev (λn=>(f n).bind (k n)) b:=by
 obtain⟨N,h⟩:=h;obtain⟨M,a⟩:=a;exact⟨max N M,λn d=>by show(f n).bind (k n)=some b;rw[h n (by omega),XQ];exact a n (by omega)⟩
theorem Ju{o:Option α}{k:Nat->α->Option β}{b:β}(h:o=some v)(hk:Ev (λn=>k n v) b):Ev (λn=>o.bind (k n)) b:=Ev.bind (Ev.const h) hk
theorem QoO{c:Bool}(a:c=true->Ev f v)(b:c=false->Ev g v):Ev (λn=>bif c then f n else g n) v:=by
 cases c with
 |true=>exact a rfl
 |false=>exact b rfl
theorem Ys{c:Bool}(a:c=true->Ev f v)(b:c=false->Ev g w):Ev (λn=>bif c then f n else g n) (bif c then v else w):=by
 cases c with
 |true=>exact a rfl
 |false=>exact b rfl
theorem Qh2(h:Ev f v):Ev (λn=>bif true then f n else g n) v:=h
theorem QN(h:Ev g v):Ev (λn=>bif false then f n else g n) v:=h
theorem Ev.and{c d:Bool}{h:Nat->Option Bool}(a:c=true->Ev h d):Ev (λn=>bif c then h n else some false) (c&&d):=by
 cases c with
 |true=>exact a rfl
 |false=>exact Qa _
theorem Qf{c d:Bool}{h:Nat->Option Bool}(a:c=false->Ev h d):Ev (λn=>bif c then some true else h n) (c||d):=by
 cases c with
 |true=>exact Qa _
 |false=>exact a rfl
theorem Ev.eq(h:Ev f v)(e:v=w):Ev f w:=e▸h
theorem Qfh(h:Ev f v)(e:∀n,g n=f n):Ev g v:=by
 obtain⟨N,h⟩:=h;exact⟨N,λn a=>by rw[e];exact h n a⟩
theorem Yb(h:Ev (λn=>f (n+1)) v):Ev f v:=by
 obtain⟨N,h⟩:=h;refine⟨N+1,λn a=>?_⟩;obtain⟨m,rfl⟩:∃m,n=m+1:=⟨n-1,by omega⟩;exact h m (by omega)
theorem Ev.ex(h:Ev f v):∃n,f n=some v:=let⟨N,h⟩:=h;⟨N,h N (X0 _)⟩
theorem Ev.uniq(h:Ev f v)(k:Ev f w):v=w:=by
 obtain⟨N,h⟩:=h;obtain⟨M,k⟩:=k;have a:=h (max N M) (by omega);rw[k (max N M) (by omega)]at a;exact(X7 a).symm
theorem Ev.all{k:Nat}{F:Nat->Nat->Option α}{V:Nat->α}(h:∀i,i<k->Ev (F i) (V i)):∃N,∀n,N<=n->∀i,i<k->F i n=some (V i):=by
 induction k with
 |zero=>exact⟨0,λn _ i a=>absurd a (Xn _)⟩
 |succ k b=>
  obtain⟨N,d⟩:=b λi a=>h i (by omega);obtain⟨M,e⟩:=h k (by omega);refine⟨max N M,λn f i a=>?_⟩;rcases Xp.1 a with q|rfl
  .exact d n (by omega) i q
  .exact e n (by omega)
end
section
variable {S B α:Type}{step:Nat->S->Option (Ctl S B)}
theorem Ev.iter{s0:S}(a:Nat->S)(k:Nat){b:B}(h0:a 0=s0)(e:∀i,i<k->Ev (λn=>step n (a i)) (.cont (a (i+1))))(f:Ev (λn=>step n (a k)) (.done b)):
  Ev (λn=>Go.Sw.iter (step n) n s0) b:=by
 obtain⟨N,g⟩:=Ev.all e;obtain⟨M,h⟩:=f;exact⟨max (max N M) (k+1),λn j=>QlF s0 a b k h0 (λi d=>g n (by omega) i d) (h n (by omega)) n (by omega)⟩
theorem Qbi{step:S->Option (Ctl S B)}{s:S}{b:B}(m:Nat)(h:Go.Sw.iter step m s=some b):Ev (λn=>Go.Sw.iter step n s) b:=by
 have mono:∀m s,Go.Sw.iter step m s=some b->∀n,m<=n->Go.Sw.iter step n s=some b:=by
  intro m
  induction m with
  |zero=>intro s h;cases h
  |succ m g=>
   intro s h n d;obtain⟨a,rfl⟩:∃a,n=a+1:=⟨n-1,by omega⟩;simp only[Go.Sw.iter]at h⊢;cases e:step s with
   |none=>rw[e]at h;cases h
   |some c=>
    rw[e]at h;cases c with
    |cont f=>exact g f h a (by omega)
    |done i=>exact h
 exact⟨m,λn d=>mono m s h n d⟩
structure At (l:List α) (i:Nat) (x:α):Prop where
 get:l[i]?=some x
 lt:decide ((i:Int)<(l.length:Int))=true
 ix:idx l (i:Int)=some x
 nx:IntKind.i64.wrap ((i:Int)+1)=((i+1:Nat):Int)
theorem Jw{l:List α}{i:Nat}{x:α}(b:l.length<=4611686018427387904)(h:l[i]?=some x):At l i x:=by
 have a:=(XS.1 h).1;exact⟨h,decide_eq_true (by omega),Qo h,YP (by omega)⟩
theorem At.mem{l:List α}{i:Nat}{x:α}(h:At l i x):x∈l:=List.mem_of_getElem? h.get
theorem At.lt'{l:List α}{i:Nat}{x:α}(h:At l i x):i<l.length:=(XS.1 h.get).1
theorem At.take{l:List α}{i:Nat}{x:α}(h:At l i x):l.take (i+1)=l.take i++[x]:=by
 rw[List.take_add_one,h.get];rfl
theorem Yc(l:List α):decide ((l.length:Int)<(l.length:Int))=false:=decide_eq_false (by omega)
theorem Y5{s0:S}(l:List α)(q:α->Bool)(d:Nat->S)(t b:B)(r:l.length<=4611686018427387904)(h0:d 0=s0)
  (u:∀i x,At l i x->q x=false->Ev (λn=>step n (d i)) (.cont (d (i+1))))
  (f:∀i x,At l i x->q x=true->Ev (λn=>step n (d i)) (.done t))
  (F:Ev (λn=>step n (d l.length)) (.done b)):Ev (λn=>Go.Sw.iter (step n) n s0) (bif l.any q then t else b):=by
 have s:∀k,k<=l.length->(∀i x,l[i]?=some x->i<k->q x=false)\/ ∃i x,l[i]?=some x/\i<k/\q x=true/\ ∀j y,l[j]?=some y->j<i->q y=false:=by
  intro k
  induction k with
  |zero=>intro _;exact .inl λi x _ a=>absurd a (Xn _)
  |succ k G=>
   intro L;rcases G (by omega)with h|⟨i,x,m,J,p⟩
   .have w:l[k]?=some l[k]:=XR (by omega);cases e:q l[k]with
    |true=>exact .inr ⟨k,_,w,Xo _,e,h⟩
    |false=>
     refine .inl λi x f a=>?_;rcases Xp.1 a with z|rfl
     .exact h i x f z
     .rw[w]at f;cases f;exact e
   .exact .inr ⟨i,x,m,by omega,p⟩
 rcases s l.length (X0 _)with h|⟨i,x,m,J,p,E⟩
 .have:l.any q=false:=by
   rw[Bool.eq_false_iff];intro e;obtain⟨x,f,e⟩:=Xx.1 e;obtain⟨i,a,rfl⟩:=List.getElem_of_mem f;rw[h i _ (XR a) a]at e;cases e
  rw[this];exact Ev.iter d l.length h0 (λi a=>u i _ (Jw r (XR a)) (h i _ (XR a) a)) F
 .have:l.any q=true:=Xx.2 ⟨x,List.mem_of_getElem? m,p⟩;rw[this];refine Ev.iter d i h0 (λj H=>?_) (f i x (Jw r m) p);have g:l[j]?=some l[j]:=XR (by omega);exact u j _ (Jw r g) (E j _ g H)
theorem Qbt{β:Type}{s0:S}(l:List α)(g:β->α->β)(b:β)(e:β->Nat->S)(d:β->B)(k:l.length<=4611686018427387904)(h0:e b 0=s0)
  (m:∀i x a,At l i x->a=(l.take i).foldl g b->Ev (λn=>step n (e a i)) (.cont (e (g a x) (i+1))))
  (j:Ev (λn=>step n (e (l.foldl g b) l.length)) (.done (d (l.foldl g b)))):Ev (λn=>Go.Sw.iter (step n) n s0) (d (l.foldl g b)):=by
 refine Ev.iter (λi=>e ((l.take i).foldl g b) i) l.length (by simpa using h0) (λi h=>?_) (by simpa using j);have f:=Jw (x:=l[i]) k (XR h);have:=m i _ _ f rfl;rw[f.take,XJ];exact this
theorem Ev.contains(l:List α)(q:α->Bool)(g:Nat->α->Option Bool)(u:l.length<=4611686018427387904)(hg:∀x∈l,Ev (λn=>g n x) (q x)):
  Ev (λn=>(((Go.Sw.iter (λs:Int=>bif decide (s<(l.length:Int))then(idx l s).bind λx=>(g n x).bind λr=>(bif r then some (Ctl.done (Ctl.done s))else some (Ctl.cont (IntKind.i64.wrap (s+1))))else some (Ctl.done (Ctl.cont ()))) n (0:Int):Option (Ctl Unit Int)).bind λb=>
   match b with
   |.cont _=>some (-1)
   |.done s=>some s):Option Int).bind λr=>some (decide (0<=r))) (l.any q):=by
 cases e:l.any q with
 |false=>
  refine Ev.bind (v:=(-1:Int)) (Ev.bind (v:=Ctl.cont ()) (Ev.iter (λi=>(i:Int)) l.length rfl (λi d=>?_) ?_) (Qa _)) (Qa _)
  .have a:=Jw (x:=l[i]) u (XR d);simp only[a.lt,cond_true,a.ix,XQ];have G:q l[i]=false:=by
    rw[Bool.eq_false_iff];intro h;rw[Xx.2 ⟨_,a.mem,h⟩]at e;cases e
   refine Ev.bind ((hg _ a.mem).eq G) ?_;simp only[cond_false,a.nx];exact Qa _
  .simp only[Yc,cond_false];exact Qa _
 |true=>
  obtain⟨x,f,h⟩:=Xx.1 e;have w:∀k,k<=l.length->(∀(i:Nat) (x:α),l[i]?=some x->i<k->q x=false)\/ ∃(i:Nat) (x:α),l[i]?=some x/\i<k/\q x=true/\ ∀(j:Nat) (y:α),l[j]?=some y->j<i->q y=false:=by
   intro k
   induction k with
   |zero=>intro _;exact .inl λi x _ d=>absurd d (Xn _)
   |succ k F=>
    intro J;rcases F (by omega)with h|⟨i,x,p,H,t⟩
    .have hg:l[k]?=some l[k]:=XR (by omega);cases e:q l[k]with
     |true=>exact .inr ⟨k,_,hg,Xo _,e,h⟩
     |false=>
      refine .inl λi x f d=>?_;rcases Xp.1 d with z|rfl
      .exact h i x f z
      .rw[hg]at f;cases f;exact e
    .exact .inr ⟨i,x,p,by omega,t⟩
  rcases w l.length (X0 _)with E|⟨i,x,p,H,t,B⟩
  .obtain⟨j,m,rfl⟩:=List.getElem_of_mem f;rw[E j _ (XR m) m]at h;cases h
  .refine Ev.bind (v:=(i:Int)) (Ev.bind (v:=Ctl.done (i:Int)) (Ev.iter (λi=>(i:Int)) i rfl (λj m=>?_) ?_) (Qa _)) ?_
   .have a:=Jw (x:=l[j]) u (XR (by omega));simp only[a.lt,cond_true,a.ix,XQ];refine Ev.bind ((hg _ a.mem).eq (B j _ a.get m)) ?_;simp only[cond_false,a.nx];exact Qa _
   .have a:=Jw u p;simp only[a.lt,cond_true,a.ix,XQ];refine Ev.bind ((hg _ a.mem).eq t) ?_;exact Qa _
   .rw[decide_eq_true (by omega)];exact Qa _
end
section
variable {S B α:Type}{step:Nat->S->Option (Ctl S B)}
theorem QgM{s0:S}(b:Nat->S)(k:Nat)(R:Nat->B)(h0:b 0=s0)(r:∀i,i<k->(Ev (λn=>step n (b i)) (.cont (b (i+1)))/\R i=R (i+1))\/Ev (λn=>step n (b i)) (.done (R i)))
  (l:Ev (λn=>step n (b k)) (.done (R k))):Ev (λn=>Go.Sw.iter (step n) n s0) (R 0):=by
 have f:∀m,m<=k->(∀i,i<m->Ev (λn=>step n (b i)) (.cont (b (i+1)))/\R i=R (i+1))\/ ∃j,j<m/\(∀i,i<j->Ev (λn=>step n (b i)) (.cont (b (i+1)))/\R i=R (i+1))/\Ev (λn=>step n (b j)) (.done (R j)):=by
  intro m
  induction m with
  |zero=>intro _;exact .inl λi a=>absurd a (Xn _)
  |succ m e=>
   intro s;rcases e (by omega)with h|⟨j,g,d⟩
   .rcases r m (by omega)with q|q
    .refine .inl λi a=>?_;rcases Xp.1 a with z|rfl
     .exact h i z
     .exact q
    .exact .inr ⟨m,Xo _,h,q⟩
   .exact .inr ⟨j,by omega,d⟩
 have same:∀m,(∀i,i<m->R i=R (i+1))->R 0=R m:=by
  intro m
  induction m with
  |zero=>intro _;rfl
  |succ m e=>intro h;exact(e λi a=>h i (by omega)).trans (h m (Xo _))
 rcases f k (X0 _)with h|⟨j,g,d,p⟩
 .rw[same k λi a=>(h i a).2];exact Ev.iter b k h0 (λi a=>(h i a).1) l
 .rw[same j λi a=>(d i a).2];exact Ev.iter b j h0 (λi a=>(d i a).1) p
theorem At.drop{l:List α}{i:Nat}{x:α}(h:At l i x):l.drop i=x::l.drop (i+1):=by
 have:=h.lt';rw[Xr this,(XS.1 h.get).2]
theorem Qbs{s0:S}(l:List α)(st:Nat->S)(R:Nat->B)(hl:l.length<=4611686018427387904)(h0:st 0=s0)
  (hc:∀i x,At l i x->(Ev (λn=>step n (st i)) (.cont (st (i+1)))/\R i=R (i+1))\/Ev (λn=>step n (st i)) (.done (R i)))
  (hd:Ev (λn=>step n (st l.length)) (.done (R l.length))):Ev (λn=>Go.Sw.iter (step n) n s0) (R 0):=
 QgM st l.length R h0 (λi hi=>hc i _ (Jw hl (XR hi))) hd
end
section
variable {α β:Type} [DecidableEq α]
theorem Qaf(p:α×β)(l:List (α×β))(k:α):YN (p::l) k=if p.1=k then some p.2 else YN l k:=by
 unfold YN;by_cases h:p.1=k<;>simp[List.find?_cons,h]
theorem QjS(p:α×β)(l:List (α×β))(k:α)(v:β):Q7 (p::l) k v=if p.1=k then(p.1,v)::l.map (λq=>bif decide (q.1=k)then(q.1,v)else q)else p::Q7 l k v:=by
 unfold Q7;by_cases h:p.1=k
 .simp[h]
 .simp only[List.any_cons,h,decide_false,Bool.false_or,if_false,Vr,cond_false];cases l.any λp=>decide (p.1=k)<;>simp
theorem QlB(l:List (α×β))(k a:α)(v:β)(h:a≠k):YN (l.map λq=>bif decide (q.1=k)then(q.1,v)else q) a=YN l a:=by
 induction l with
 |nil=>rfl
 |cons p l b=>
  rw[Vr,Qaf,Qaf,b];by_cases e:p.1=k
  .have:¬k=a:=λq=>h q.symm;simp[e,this]
  .simp[e]
theorem Qa7(l:List (α×β))(k a:α)(v:β):YN (Q7 l k v) a=if a=k then some v else YN l a:=by
 induction l with
 |nil=>
  show YN ([]++[(k,v)]) a=_;rw[Vp,Qaf];by_cases h:a=k
  .subst h;simp
  .rw[if_neg λq=>h q.symm,if_neg h]
 |cons p l b=>
  rw[QjS];by_cases e:p.1=k
  .rw[if_pos e,Qaf,Qaf];by_cases h:a=k
   .subst h;simp[e]
   .have:p.1≠a:=λq=>h (q.symm.trans e);simp only[this,if_false,h];exact QlB l k a v h
  .rw[if_neg e,Qaf,Qaf,b];by_cases h:p.1=a
   .rw[if_pos h,if_neg λq=>e (h.trans q),if_pos h]
   .rw[if_neg h,if_neg h]
theorem QjT(k:α)(z:β):QU ([]:List (α×β)) k z=z:=rfl
theorem Qel(l:List (α×β))(k a:α)(v z:β):QU (Q7 l k v) a z=if a=k then v else QU l a z:=by
 unfold QU;rw[Qa7];by_cases h:a=k<;>simp[h]
theorem Qdb(l:List (α×β))(k:α)(v:β):(Q7 l k v).map (·.1)=if k∈l.map (·.1)then l.map (·.1)else l.map (·.1)++[k]:=by
 unfold Q7;have e:(l.any λp=>decide (p.1=k))=decide (k∈l.map (·.1)):=by
  rw[X6];simp only[Xx,decide_eq_true_eq,Xf]
 rw[e];by_cases h:k∈l.map (·.1)
 .rw[decide_eq_true h,if_pos h,cond_true,List.map_map];apply List.map_congr_left;intro p _;simp only[Function.comp];cases decide (p.1=k)<;>rfl
 .rw[decide_eq_false h,if_neg h,cond_false,Xg];rfl
def Yp{γ:Type}(key:γ->α)(v:β)(l:List γ):List (α×β):=l.foldl (λm x=>Q7 m (key x) v) []
theorem Qgi{γ:Type}(key:γ->α)(v:β)(l:List γ)(x:γ):Yp key v (l++[x])=Q7 (Yp key v l) (key x) v:=by
 unfold Yp;rw[XJ];rfl
theorem Qds{γ:Type}(key:γ->α)(v z:β)(l:List γ)(k:α):QU (Yp key v l) k z=if k∈l.map key then v else z:=by
 have a:∀(l:List γ) (m:List (α×β)),QU (l.foldl (λm x=>Q7 m (key x) v) m) k z=if k∈l.map key then v else QU m k z:=by
  intro l
  induction l with
  |nil=>intro m;simp
  |cons x l b=>
   intro m;rw[XK,b,Qel];by_cases h:k∈l.map key
   .rw[if_pos h,if_pos (by simp only[Vr];exact Vd _ h)]
   .rw[if_neg h];by_cases e:k=key x
    .rw[if_pos e,if_pos (by simp[e])]
    .rw[if_neg e,if_neg (by simp only[Vr,Ve,not_or];exact⟨e,h⟩)]
 exact a l []
theorem Qb4{γ:Type}(key:γ->α)(v:β)(l:List γ):(Yp key v l).length<=l.length/\((Yp key v l).length=l.length↔(l.map key).Nodup):=by
 have i:∀(l:List γ) (m:List (α×β)),(m.map (·.1)).Nodup->(l.foldl (λm x=>Q7 m (key x) v) m).length<=m.length+l.length/\((l.foldl (λm x=>Q7 m (key x) v) m).length=m.length+l.length↔(m.map (·.1)++l.map key).Nodup):=by
  intro l
  induction l with
  |nil=>intro m g;simpa using g
  |cons x l k=>
   intro m g;have f:=Qdb m (key x) v;have d:(Q7 m (key x) v).length=((Q7 m (key x) v).map (·.1)).length:=by simp
   by_cases h:key x∈m.map (·.1)
   .rw[if_pos h]at f;obtain⟨p,j⟩:=k (Q7 m (key x) v) (by rw[f];exact g);have e:(Q7 m (key x) v).length=m.length:=by rw[d,f];simp
    rw[XK];refine⟨by simp only[X8];omega,⟨λq=>?_,λq=>?_⟩⟩
    .simp only[X8]at q;omega
    .exfalso;have:=(List.nodup_append.1 q).2.2 _ h (key x) (by simp);exact this rfl
   .rw[if_neg h]at f;have r:((Q7 m (key x) v).map (·.1)).Nodup:=by
     rw[f];refine List.nodup_append.2 ⟨g,by simp,?_⟩;intro a s b n e;simp only[List.mem_singleton]at n;exact h (by rw[<- n, <- e];exact s)
    obtain⟨p,j⟩:=k (Q7 m (key x) v) r;have e:(Q7 m (key x) v).length=m.length+1:=by rw[d,f];simp
    rw[XK];refine⟨by simp only[X8];omega,?_⟩;rw[f]at j;rw[show m.length+(x::l).length=(Q7 m (key x) v).length+l.length by rw[e];simp;omega,j];simp[Vq]
 have:=i l [] (by simp);simpa[Yp]using this
end
theorem Jg{α:Type}(l:List α)(p:α->Bool)(g:Nat->α->Option Bool)(a:l.length<=4611686018427387904)(hg:∀x∈l,Ev (λn=>g n x) (p x)):
  Ev (λn=>((((Go.Sw.iter (λs:Int=>bif decide (s<(l.length:Int))then(idx l s).bind λx=>((g n x).bind λr1=>some (!r1)).bind λr=>(bif r then some (Ctl.done (Ctl.done s))else some (Ctl.cont (IntKind.i64.wrap (s+1))))else some (Ctl.done (Ctl.cont ()))) n (0:Int):Option (Ctl Unit Int)).bind λb=>
   match b with
   |.cont _=>some (-1)
   |.done s=>some s):Option Int).bind λr=>some (decide (0<=r)):Option Bool).bind λr=>some (!r)) (l.all p):=by
 refine Ev.bind (Ev.contains l (λx=> !p x) (λn x=>(g n x).bind λr1=>some (!r1)) a λx d=>Ev.bind (hg x d) (Qa _)) ((Qa _).eq ?_);rw[List.not_any_eq_all_not];simp
def Qkm{α κ:Type}[DecidableEq κ](ok:α->Bool)(key:α->κ):List κ->List α->Bool
 |_,[]=>true
 |seen,x::r=>ok x&& !seen.contains (key x)&&Qkm ok key (seen++[key x]) r
theorem Qjp{α κ:Type}[DecidableEq κ](ok:α->Bool)(key:α->κ):∀(l:List α) (d:List κ),d.Nodup->Qkm ok key d l=(l.all ok&&decide ((d++l.map key).Nodup))
 |[],d,h=>by simp[Qkm,h]
 |x::r,d,h=>by
  simp only[Qkm,List.all_cons,Vr];by_cases hk:key x∈d
  .have:¬(d++key x::r.map key).Nodup:=by
    intro q;exact(List.nodup_append.1 q).2.2 _ hk (key x) (by simp) rfl
   simp[hk,this]
  .have g:(d++[key x]).Nodup:=by
    refine List.nodup_append.2 ⟨h,by simp,?_⟩;intro a i b f e;simp only[List.mem_singleton]at f;exact hk (by rw[<- f, <- e];exact i)
   rw[Qjp ok key r _ g];have:(d.contains (key x))=false:=by simpa using hk
   rw[this];simp[Bool.and_assoc]
theorem QmM{α κ B:Type}[DecidableEq κ]{step:Nat->Int->Option (Ctl Int B)}(l:List α)(ok:α->Bool)(key:α->κ)(d b:B)(j:l.length<=4611686018427387904)
  (k:∀i x,At l i x->ok x=true->((l.take i).map key).contains (key x)=false->Ev (λn=>step n (i:Int)) (.cont ((i+1:Nat):Int)))
  (p:∀i x,At l i x->ok x=false->Ev (λn=>step n (i:Int)) (.done d))
  (m:∀i x,At l i x->ok x=true->((l.take i).map key).contains (key x)=true->Ev (λn=>step n (i:Int)) (.done d))
  (h:Ev (λn=>step n (l.length:Int)) (.done b)):Ev (λn=>Go.Sw.iter (step n) n 0) (bif l.all ok&&decide ((l.map key).Nodup)then b else d):=by
 have e:=Qjp ok key l [] (by simp);rw[Vp]at e;rw[<- e];refine Qbs l (λi=>(i:Int)) (λi=>bif Qkm ok key ((l.take i).map key) (l.drop i)then b else d) j rfl (λi x a=>?_) ?_
 .rw[a.drop];simp only[Qkm];rw[show(l.take i).map key++[key x]=(l.take (i+1)).map key by rw[a.take];simp];cases f:ok x with
  |false=>exact .inr (by simpa using p i x a f)
  |true=>
   cases g:((l.take i).map key).contains (key x)with
   |true=>exact .inr (by simpa using m i x a f g)
   |false=>exact .inl ⟨k i x a f g,by simp⟩
 .rw[Xu];exact h
theorem Qh3{α κ B:Type}[DecidableEq κ]{step:Nat->Int->Option (Ctl Int B)}(l:List α)(i:Nat)(key:α->κ)(k:κ)(q b:B)(u:l.length<=4611686018427387904)(hi:i<=l.length)
  (w:∀j y,j<i->At l j y->decide (key y=k)=false->Ev (λn=>step n (j:Int)) (.cont ((j+1:Nat):Int)))
  (r:∀j y,j<i->At l j y->decide (key y=k)=true->Ev (λn=>step n (j:Int)) (.done q))
  (s:Ev (λn=>step n (i:Int)) (.done b)):Ev (λn=>Go.Sw.iter (step n) n 0) (bif ((l.take i).map key).contains k then q else b):=by
 have e:((l.take i).map key).contains k=(l.take i).any λy=>decide (key y=k):=by
  rw[X6];simp only[List.contains_eq_mem,decide_eq_true_eq,Xf,Xx]
 rw[e];have f:(l.take i).length=i:=by simp;omega
 have g:∀j y,At (l.take i) j y->j<i/\At l j y:=by
  intro j y d;have t:=d.lt';have a:=d.get;rw[List.getElem?_take]at a;split at a
  .exact⟨by omega,Jw u a⟩
  .cases a
 refine Y5 (l.take i) (λy=>decide (key y=k)) (λi=>(i:Int)) _ _ (by omega) rfl (λj y d m=>?_) (λj y d m=>?_) ?_
 .obtain⟨h,p⟩:=g j y d;exact w j y h p m
 .obtain⟨h,p⟩:=g j y d;exact r j y h p m
 .rw[f];exact s
theorem Qbu{α κ β:Type}[DecidableEq κ]{step:Nat->List (κ×β)×Int->Option (Ctl (List (κ×β)×Int) (List (κ×β)))}(l:List α)(key:α->κ)(v:β)(hl:l.length<=4611686018427387904)
  (hc:∀i x m,At l i x->Ev (λn=>step n (m,(i:Int))) (.cont (Q7 m (key x) v,((i+1:Nat):Int))))
  (hd:∀m,Ev (λn=>step n (m,(l.length:Int))) (.done m)):Ev (λn=>Go.Sw.iter (step n) n ([],0)) (Yp key v l):=
 Qbt l (λm x=>Q7 m (key x) v) [] (λm i=>(m,(i:Int))) (λm=>m) hl rfl (λi x m ha _=>hc i x m ha) (hd _)
theorem Ev.shift{α:Type}{f:Nat->Option α}{v:α}(h:Ev f v):Ev (λn=>f (n+1)) v:=by
 obtain⟨N,h⟩:=h;exact⟨N,λn a=>h (n+1) (by omega)⟩
def EvI{S B:Type}(step:Nat->S->Option (Ctl S B))(s:S)(b:B):Prop:=∃N,∀n k,N<=n->N<=k->Go.Sw.iter (step n) k s=some b
section
variable {S B:Type}{step:Nat->S->Option (Ctl S B)}{s s':S}{b:B}
theorem EvI.done(h:Ev (λn=>step n s) (.done b)):EvI step s b:=by
 obtain⟨N,h⟩:=h;refine⟨N+1,λn k d e=>?_⟩;obtain⟨a,rfl⟩:∃a,k=a+1:=⟨k-1,by omega⟩;have:=h n (by omega);simp only[Go.Sw.iter,this]
theorem EvI.cont(h:Ev (λn=>step n s) (.cont s'))(q:EvI step s' b):EvI step s b:=by
 obtain⟨N,h⟩:=h;obtain⟨M,q⟩:=q;refine⟨max N M+1,λn k d e=>?_⟩;obtain⟨a,rfl⟩:∃a,k=a+1:=⟨k-1,by omega⟩;have:=h n (by omega);simp only[Go.Sw.iter,this];exact q n a (by omega) (by omega)
theorem EvI.ev(h:EvI step s b):Ev (λn=>Go.Sw.iter (step n) n s) b:=by
 obtain⟨N,h⟩:=h;exact⟨N,λn a=>h n n a a⟩
theorem EvI.eq{b':B}(h:EvI step s b)(e:b=b'):EvI step s b':=e▸h
end
theorem Qq{α:Type}{l r:List α}{i:Nat}{x:α}(a:l.length<=4611686018427387904)(h:l.drop i=x::r):At l i x/\l.drop (i+1)=r:=by
 have b:l[i]?=some x:=by
  have:=congrArg (λl=>l[0]?) h;simpa using this
 refine⟨Jw a b,?_⟩;have:=(Jw a b).drop;rw[h]at this;exact(List.cons.inj this).2.symm
theorem Q0{α:Type}{l:List α}{i:Nat}(h:l.drop i=[])(hi:i<=l.length):decide ((i:Int)<(l.length:Int))=false:=by
 have:=Xt.1 h;exact decide_eq_false (by omega)
end Go.Sw
namespace Go.Sw
theorem Z.{u}{α:Sort u}{a:α}:a=a:=rfl
section
variable {P:Program}{h0 N:Nat}{all:Array Oper}{env:Env}{H H':Qc}{Q:QC}{l:List Oper}{o:Oper}{d:Nat}
theorem aV(x:A)(H:Qc){x':A}{H':Qc}(b:x'=x)(a:H'=H)(k:WO P h0 N all l (up env d x) H Q):WO P h0 N all l (up env d x') H' Q:=by subst b;subst a;exact k
theorem vX(x:A)(a:OpV P o env H x)(k:WO P h0 N all l (up env d x) H Q)(hg:Qv all o env true:=by exact rfl)(hd:o.dst=some d:=by exact rfl)(hN:Nat.blt d N=true:=by exact rfl):WO P h0 N all (o::l) env H Q:=
 QG hg hd hN a k
theorem Wp:WO P h0 N all [] env H (Jb env H):=WO.nil Jb.mk
end
end Go.Sw
namespace Go.Sw
section
variable {P:Program}{o:Oper}{env:Env}{H:Qc}
theorem QnI{ro:Nat->Prop}{σ:Sig}{w:World}(g:GP w){b:Nat}{zs:List Int}(h:Qij[b]?=some zs):∀(i:Nat),CR ro σ w b ((zs.drop i).map (A.int .i64)) i:=by
 intro i;generalize hl:zs.drop i=l
 induction l generalizing i with
 |nil=>trivial
 |cons z l e=>
  have d:zs[i]?=some z:=by
   have:=congrArg (·[0]?) hl;simpa using this
  have a:zs.drop (i+1)=l:=by
   rw[<- List.drop_drop,hl];rfl
  exact⟨⟨_,g.tab b zs h i z d,by simp[Qz],rfl⟩,e (i+1) a⟩
theorem Qf2{t n g:Nat}{zs:List Int}(k:∀w,(isAgg t).run P w=.ok true w)(e:∀w,(sizeOf t).run P w=.ok n w)(hg:Qij[g]?=some zs)(h:zs.length=n)(j:o.op=.load t (.global g):=by exact rfl):
  OpV P o env H (.agg (zs.map (A.int .i64))):=by
 intro m ro σ N a w r;obtain⟨l,f,_,d⟩:=YH (P:=P) (b:=g) (cs:=zs.map (A.int .i64)) (off:=0) 0 (by simpa using QnI (ro:=ro) (σ:=σ) r.sim.roOk.gp hg 0);have d:=d w #[] rfl;rw[X9,h]at d;refine⟨.agg l.toArray,?_,l,rfl,f⟩;have i:a.eval (.global g)=.pointer (some ⟨g,0,none⟩):=rfl;generalize a.eval=ρ at*;simp[execOp,j,i,Instr.loadAt,Instr.sureAddr,loadVar,k,e,loadCells,d,go_sem]
end
end Go.Sw
namespace Go.Sw
open Go.Proofs
section
variable {P:Program}
def toV(agg:Bool)(l:List Value):Value:=bif agg then .agg l.toArray else l.headD .nilFunc
structure QkP (P:Program) (t:TypeId) (h k:Nat) (agg:Bool) (ok:List Value->Prop):Prop where
 len:∀l,ok l->l.length=k
 ia:∀w,(isAgg t).run P w=.ok agg w
 so:∀w,(sizeOf t).run P w=.ok k w
 eq:∀(w:World) (d:Nat) (l m:List Value),ok l->ok m->∃b:Bool,(Op.equalIn (d+h) t (toV agg l) (toV agg m)).run P w=.ok b w/\(b=true↔l=m)
structure QmN (P:Program) (fs:List Field) (h off k:Nat) (ok:List Value->Prop):Prop where
 len:∀l,ok l->l.length=k
 eq:∀(w:World) (d:Nat) (p q l m:List Value),p.length=off->q.length=off->ok l->ok m->∃b:Bool,(Op.eqFields (d+h) (p++l).toArray (q++m).toArray fs).run P w=.ok b w/\(b=true↔l=m)
theorem QkP.int{t:TypeId}{k:IntKind}(a:P.underlying t=some (.int k))(b:∀w,(isAgg t).run P w=.ok false w)(e:∀w,(sizeOf t).run P w=.ok 1 w)(h:Nat):QkP P t (h+1) 1 false (λl=>∃n:Int,l=[.int k n]):=by
 refine⟨?_,b,e,?_⟩
 .rintro _ ⟨n,rfl⟩;rfl
 .rintro w d _ _ ⟨n,rfl⟩ ⟨m,rfl⟩;exact⟨_,run_equalIn_int w (d+h) t k k n m a,by simp⟩
theorem QkP.bool{t:TypeId}(a:P.underlying t=some .bool)(b:∀w,(isAgg t).run P w=.ok false w)(e:∀w,(sizeOf t).run P w=.ok 1 w)(h:Nat):QkP P t (h+1) 1 false (λl=>∃n:Bool,l=[.bool n]):=by
 refine⟨?_,b,e,?_⟩
 .rintro _ ⟨n,rfl⟩;rfl
 .rintro w d _ _ ⟨n,rfl⟩ ⟨m,rfl⟩;exact⟨_,run_equalIn_bool' w (d+h) t n m a,by simp⟩
theorem QmN.nil(h off:Nat):QmN P [] h off 0 (λl=>l=[]):=by
 refine⟨?_,?_⟩
 .rintro _ rfl;rfl
 .rintro w d p q _ _ _ _ rfl rfl;exact⟨true,by simp[Op.eqFields],by simp⟩
theorem Qg2{t:TypeId}{k:Nat}{agg:Bool}{w:World}(d:∀w,(isAgg t).run P w=.ok agg w)(f:∀w,(sizeOf t).run P w=.ok k w)(p a g:List Value)(b:a.length=k)(e:agg=false->k=1):
  (part t (p++(a++g)).toArray p.length).run P w=.ok (toV agg a) w:=by
 unfold part;cases agg with
 |true=>
  simp[d,f,go_sem,toV];rw[<- b];simp[List.extract]
 |false=>
  have:=e rfl;subst this
  match a,b with
  |[v],_=>simp[d,go_sem,toV]
theorem QmN.cons{f:Field}{fs:List Field}{h off m F:Nat}{agg:Bool}{j k:List Value->Prop}(O:Nat.beq f.offset off=true)(M:f.name≠"_")(g:QkP P f.type h m agg j)(u:agg=false->m=1)(x:QmN P fs h (off+m) F k):
  QmN P (f::fs) h off (m+F) (λl=>∃l1 l2,l=l1++l2/\j l1/\k l2):=by
 have s:f.offset=off:=XX O;refine⟨?_,?_⟩
 .rintro _ ⟨l1,l2,rfl,a,b⟩;rw[Va,g.len _ a,x.len _ b]
 .rintro w d p q _ _ H G ⟨l1,l2,rfl,n,T⟩ ⟨i,t,rfl,r,R⟩;have z:=Qg2 (P:=P) (w:=w) g.ia g.so p l1 l2 (g.len _ n) u;have y:=Qg2 (P:=P) (w:=w) g.ia g.so q i t (g.len _ r) u;rw[H]at z;rw[G]at y;obtain⟨E,L,V⟩:=g.eq w d l1 i n r;obtain⟨Q,B,N⟩:=x.eq w d (p++l1) (q++i) l2 t (by rw[Va,H,g.len _ n]) (by rw[Va,G,g.len _ r]) T R;rw[Vq,Vq]at B;have J:l1.length=i.length:=by rw[g.len _ n,g.len _ r]
  refine⟨E&&Q,?_,?_⟩
  .generalize(p++(l1++l2)).toArray=X at*;generalize(q++(i++t)).toArray=Y at*;cases E<;>simp[Op.eqFields,M,s,Vu,Result.andThen,z,y,L,B]
  .rw[X4,V,N];constructor
   .rintro⟨rfl,rfl⟩;rfl
   .intro e;exact List.append_inj e J
theorem QkP.struct{t:TypeId}{h k:Nat}{ok:List Value->Prop}(j:P.underlying t=some (.struct (P.fieldsOf t)))(i:P.stoodInHeld t=false)(g:∀w,(isAgg t).run P w=.ok true w)(n:∀w,(sizeOf t).run P w=.ok k w)(e:QmN P (P.fieldsOf t).toList h 0 k ok):QkP P t (h+1) k true ok:=by
 refine⟨e.len,g,n,λw d l m a b=>?_⟩;obtain⟨r,f,p⟩:=e.eq w d [] [] l m rfl rfl a b;refine⟨r,?_,p⟩;show(Op.equalIn (d+h+1) t (.agg l.toArray) (.agg m.toArray)).run P w=_;rw[run_equalIn_agg w (d+h) t _ _ j i];simpa using f
theorem QcZ{t:TypeId}{h k:Nat}{fs:Array Field}{ok:List Value->Prop}(a:P.underlying t=some (.struct fs))(f:P.stoodInHeld t=false)(d:∀w,(isAgg t).run P w=.ok true w)(g:∀w,(sizeOf t).run P w=.ok k w)(b:QmN P fs.toList h 0 k ok):QkP P t (h+1) k true ok:=by
 have e:P.fieldsOf t=fs:=by simp[Program.fieldsOf,a]
 exact QkP.struct (by rw[e];exact a) f d g (by rw[e];exact b)
structure EqD (P:Program) (t:TypeId) {α:Type} (cells:α->List A):Prop where
 scl:∀x,Qd6 (cells x)=true
 inj:∀x y,Y7 (cells x)=Y7 (cells y)->x=y
 guard:P.eqGuardType P.depth t=false
 eq:∀(w:World) x y,∃b:Bool,(Op.equalIn 10000 t (.agg (Y7 (cells x)).toArray) (.agg (Y7 (cells y)).toArray)).run P w=.ok b w/\(b=true↔Y7 (cells x)=Y7 (cells y))
theorem QjD{α:Type}{cells:α->List A}{t h k:Nat}{ok:List Value->Prop}(E:QkP P t h k true ok)(b:Nat.ble h 10000=true)(a:∀x,ok (Y7 (cells x)))(d:∀x,Qd6 (cells x)=true)(hi:∀x y,Y7 (cells x)=Y7 (cells y)->x=y)(hg:P.eqGuardType P.depth t=false):EqD P t cells:=by
 refine⟨d,hi,hg,λw x y=>?_⟩;have:=E.eq w (10000-h) (Y7 (cells x)) (Y7 (cells y)) (a x) (a y)
 rwa [show 10000-h+h=10000 by have:=XY b;omega]at this
variable {o:Oper}{env:Env}{H:Qc}
theorem QkG{α:Type}[DecidableEq α]{cells:α->List A}{t u:TypeId}{x y:Operand}{p q:α}(E:EqD P t cells)(k:opA env x=.agg (cells p))(s:opA env y=.agg (cells q))(j:o.op=.binOp .eql t x y u:=by exact rfl):OpV P o env H (.bool (p==q)):=by
 intro F B σ N a w r;have g:=Qj r x;have h:=Qj r y;rw[k]at g;rw[s]at h;have i:=VR.val (a:=.agg (cells p)) (E.scl p) g;have z:=VR.val (a:=.agg (cells q)) (E.scl q) h;obtain⟨b,n,l⟩:=E.eq w p q;have m:b=(p==q):=by
  rw[X6,l,beq_iff_eq];exact⟨E.inj p q,λe=>by rw[e]⟩
 refine⟨.bool (p==q),?_,rfl⟩;rw[<- m];generalize a.eval=ρ at*;have f:ρ x=.agg (Y7 (cells p)).toArray:=i;have d:ρ y=.agg (Y7 (cells q)).toArray:=z;simp[execOp,j,f,d,go_sem,run_eqGuard_agg _ _ _ _ _ _ _ E.guard,run_eql_struct,n]
theorem QkF{α:Type}[DecidableEq α]{cells:α->List A}{t u:TypeId}{x y:Operand}{p q:α}(E:EqD P t cells)(k:opA env x=.agg (cells p))(s:opA env y=.agg (cells q))(j:o.op=.binOp .neq t x y u:=by exact rfl):OpV P o env H (.bool (p != q)):=by
 intro F B σ N a w r;have g:=Qj r x;have h:=Qj r y;rw[k]at g;rw[s]at h;have i:=VR.val (a:=.agg (cells p)) (E.scl p) g;have z:=VR.val (a:=.agg (cells q)) (E.scl q) h;obtain⟨b,n,l⟩:=E.eq w p q;have m:b=(p==q):=by
  rw[X6,l,beq_iff_eq];exact⟨E.inj p q,λe=>by rw[e]⟩
 refine⟨.bool (p != q),?_,rfl⟩;rw[bne, <- m];generalize a.eval=ρ at*;have f:ρ x=.agg (Y7 (cells p)).toArray:=i;have d:ρ y=.agg (Y7 (cells q)).toArray:=z;simp[execOp,j,f,d,go_sem,run_eqGuard_agg _ _ _ _ _ _ _ E.guard,run_neq_struct,n]
end
end Go.Sw
namespace Go.Sw
structure Qe3 (g g':Nat->Prop) (W W':World):Prop where
 sub:∀b,g b->g' b
 new:∀b,g' b->g b\/W.heap.size<=b
 lt:∀b,g' b->b<W'.heap.size
 all:∀b,W.heap.size<=b->b<W'.heap.size->g' b
 keep:∀b,b<W.heap.size->¬g b->W'.heap[b]?=W.heap[b]?
 size:W.heap.size<=W'.heap.size
 shape:∀b x,W.shape? b=some x->W'.shape? b=some x
 os:W'.os=W.os
 tape:W'.tape=W.tape
 output:W'.output=W.output
 drawn:W.drawn<=W'.drawn
abbrev Jv(T:Type):=List T->(Nat->Prop)->(Nat->Prop)->World->Prop
structure QnY {T:Type} (J:Jv T):Prop where
 ev:∀rem q g W W' ro',J rem q g W->Qi g q W ro' W'->J rem q g W'
 up:∀rem q g g' W,J rem q g W->(∀b,g b->g' b)->(∀b,g' b->b<W.heap.size)->J rem q g' W
theorem Sim.round{fr g g' ro:Nat->Prop}{σ:Sig}{H:Qc}{W W':World}(s:Sim fr ro σ H W)(a:∀b,g b->fr b)(k:Qe3 g g' W W'):Sim (λb=>fr b\/g' b) ro σ H W'/\Qi (λb=>b<W.heap.size/\ ¬g b) ro W ro W':=by
 have e:∀b,ro b->W'.heap[b]?=W.heap[b]? :=λb q=>k.keep b (s.roLt b q) (λr=>s.roFr b q (a b r));have m:Ext ro σ W ro σ W':=by
  have ev:Qi (λ_=>False) ro W ro W':=⟨λ_ q=>q,e,λ_ q=>q.elim,k.size,k.shape,k.os,k.tape,k.output,k.drawn⟩;have:=ev.ext σ [];simpa using this
 refine⟨⟨s.len,s.roOk.to (λ_ q=>q) e (λb q=>Vn (s.roLt b q) k.size),λb q=>q.elim (λq=>Vn (s.frLt b q) k.size) (k.lt b),λb q r=>?_,λi b x h f w=>?_,s.inj,λi y x h f=>?_,
  s.hidTo (· = ·) Q8 k.size (λ_ _ _ _ _ _ _ q=>q) (λi b x c h f w F=>F.elim id λq=>(k.new c q).elim (a c) λl=>(by have:=(s.hid i b x c h f w).lt;omega)) λj d y t n G=>.inl ⟨j,y,rfl,t,n,id,λc q=>s.hidKeep t n (λz=>k.keep d (s.own j d y t n z).1 λr=>(s.own j d y t n z).2.2 (a d r)) e q⟩⟩,
  ⟨λ_ q=>q,e,λb q=>k.keep b q.1 q.2,k.size,k.shape,k.os,k.tape,k.output,k.drawn⟩⟩
 .rcases r with r|r
  .exact s.roFr b q r
  .rcases k.new b r with l|l
   .exact s.roFr b q (a b l)
   .have:=s.roLt b q;omega
 .obtain⟨u,E,p⟩:=s.own i b x h f w;refine⟨Vn u k.size,E,λr=>?_⟩;rcases r with r|r
  .exact p r
  .rcases k.new b r with l|l
   .exact p (a b l)
   .omega
 .refine(s.blk i y x h f).keep m ?_ ?_
  .rintro b rfl B;obtain⟨u,E,p⟩:=s.own i b x h f B;exact k.keep b u (λr=>p (a b r))
  .rintro b c rfl B;have q:=s.hid i b x c h f B;exact k.keep c q.lt (λr=>q.fr (a c r))
def QoL{T:Type}(J Jx:Jv T)(g ri:Nat->Prop)(W1:World)(rem:List T):Ending->World->Prop:=λe W'=>
 ∃g' q',(∀b,q' b->ri b)/\Qe3 g g' W1 W'/\((e=.returned (.bool true)/\J rem q' g' W')\/(e=.returned (.bool false)/\Jx rem q' g' W'))
structure Ctx (T:Type) where
 l:Nat
 J:Jv T
 Jx:Jv T
 enc:T->List A
 nx:List T->T->List T->Prop
structure Ctx.ok {T:Type} (X:Ctx T) (P:Program):Prop where
 b:QnY X.J
 bx:QnY X.Jx
 round:∀l x rem q g ri W1 vs,X.nx l x rem->X.J l q g W1->(∀b,q b->ri b)->(∀b,ri b->b<W1.heap.size/\ ¬g b)->LR ri [] W1 (X.enc x) vs->YieldAt Fence.wide 0 P X.l vs.toArray W1 (QoL X.J X.Jx g ri W1 rem)
def QdI{T:Type}(P:Program)(f:FuncId)(caps:List A)(H:Qc)(enc:T->List A)(nx:List T->T->List T->Prop)(xs:List T):Prop:=
 ∀(X:Ctx T),X.enc=enc->X.nx=nx->X.ok P->∀fr ro σ w capv q,Sim fr ro σ H w->(∀b,q b->ro b)->LR ro σ w caps capv->X.J xs q fr w->
  Calls P f ((Value.func (.yield X.l) #[] #[]::capv)).toArray w λe W'=>(∃v,e=.returned v)/\ ∃g q',(∀b,fr b->g b)/\((X.J [] q' g W')\/(∃rem,X.Jx rem q' g W'))
inductive YSt (T:Type) where
 |on (rem:List T)
 |off (rem:List T)
def Ctx.J'{T:Type}(X:Ctx T):YSt T->(Nat->Prop)->(Nat->Prop)->World->Prop
 |.on rem=>X.J rem
 |.off rem=>X.Jx rem
def Ctx.at{T:Type}(X:Ctx T)(st:YSt T)(g ro:Nat->Prop)(W:World):Prop:=∃q,(∀b,q b->ro b)/\X.J' st q g W
theorem Qi.roMono{fr ro ro0 ro':Nat->Prop}{w w':World}(h:Qi fr ro w ro' w')(s:∀b,ro0 b->ro b):Qi fr ro0 w ro' w':=
 ⟨λb q=>h.sub b (s b q),λb q=>h.keepRo b (s b q),h.keepFr,h.size,h.shape,h.os,h.tape,h.output,h.drawn⟩
theorem Ctx.ok.ev{T:Type}{X:Ctx T}{P:Program}(h:X.ok P){d:YSt T}{g ro ro':Nat->Prop}{W W':World}(a:X.at d g ro W)(he:Qi g ro W ro' W'):X.at d g ro' W':=by
 obtain⟨q,e,a⟩:=a;refine⟨q,λb z=>he.sub b (e b z),?_⟩;cases d with
 |on rem=>exact h.b.ev rem q g W W' ro' a (he.roMono e)
 |off rem=>exact h.bx.ev rem q g W W' ro' a (he.roMono e)
theorem Ctx.ok.up{T:Type}{X:Ctx T}{P:Program}(h:X.ok P){d:YSt T}{g g' ro:Nat->Prop}{W:World}(a:X.at d g ro W)(hg:∀b,g b->g' b)(e:∀b,g' b->b<W.heap.size):X.at d g' ro W:=by
 obtain⟨q,f,a⟩:=a;refine⟨q,f,?_⟩;cases d with
 |on rem=>exact h.b.up rem q g g' W a hg e
 |off rem=>exact h.bx.up rem q g g' W a hg e
abbrev YA(T:Type):=AEx->Env->Qc->YSt T->Prop
structure In (g fr:Nat->Prop) (ds:List Deferred):Prop where
 sub:∀b,g b->fr b
 beside:∀D,({target:=.collected D,args:= #[]}:Deferred)∈ds->¬g D
def QcU{T:Type}(X:Ctx T)(h0:Nat)(fr ro:Nat->Prop)(σ:Sig)(w:World)(N:Nat)(ds:List Deferred)(Q:YA T):Exit->Act->World->Prop:=
 λe a' w'=>∃x env' H' st ro' σ' fr' g',ExR e x/\Q x env' H' st/\Rel fr' ro' σ' H' env' N a' w'/\(X.at st g' ro' w'/\In g' fr' a'.defers)/\(∀b,ro b->ro' b)/\w.heap.size<=w'.heap.size/\σ'.take h0=σ.take h0/\Grow fr w ds fr' a'.defers
theorem QcU.grow{T:Type}{X:Ctx T}{h0:Nat}{fr a ro d:Nat->Prop}{σ σ1:Sig}{w l:World}{N:Nat}{m g:List Deferred}{Q:YA T}{e:Exit}{a':Act}{w':World}
  (h:QcU X h0 a d σ1 l N g Q e a' w')(F:∀b,ro b->d b)(k:w.heap.size<=l.heap.size)(s:σ1.take h0=σ.take h0)(hg:Grow fr w m a g):QcU X h0 fr ro σ w N m Q e a' w':=by
 obtain⟨x,f,H',t,i,σ',j,E,B,u,y,r,z,p,n,G⟩:=h;exact⟨x,f,H',t,i,σ',j,E,B,u,y,r,λb q=>z b (F b q),X3 k p,n.trans s,hg.trans k G⟩
def TCy{T:Type}(X:Ctx T)(P:Program)(h0 N:Nat)(c:Code)(env:Env)(H:Qc)(st:YSt T)(Q:YA T):Prop:=
 X.ok P->∀rd fr ro σ a w g,Rel fr ro σ H env N a w->X.at st g ro w/\In g fr a.defers->rd=none->c.wpIn (WF rd) 0 P (QcU X h0 fr ro σ w N a.defers Q) a w
def WOy{T:Type}(X:Ctx T)(P:Program)(h0 N:Nat)(all:Array Oper)(l:List Oper)(env:Env)(H:Qc)(st:YSt T)(Q:YA T):Prop:=
 X.ok P->∀rd fr ro σ a w g,Rel fr ro σ H env N a w->X.at st g ro w/\In g fr a.defers->rd=none->wpL P rd all (QcU X h0 fr ro σ w N a.defers Q) l a w
theorem In.later{fr a g:Nat->Prop}{w:World}{ds d:List Deferred}(h:In g fr ds)(f:∀b,fr b->b<w.heap.size)(hg:Grow fr w ds a d):In g a d:=by
 refine⟨λb q=>hg.sub b (h.sub b q),λD hD q=>?_⟩;rcases hg.ds _ hD with r|⟨D',e,r⟩
 .exact h.beside D r q
 .have:D=D':=by simpa using e
  subst this;have:=f D (h.sub D q);omega
section
variable {T:Type}{X:Ctx T}{P:Program}{h0 N:Nat}{c c':Code}{env:Env}{H:Qc}{st:YSt T}{Q:YA T}
theorem Qky{fr ro:Nat->Prop}{σ:Sig}{w:World}{k:List Deferred}{e:Exit}{a':Act}{w':World}(r:X.ok P)(h:Qbe h0 fr ro σ w N k (λx env H=>Q x env H st) e a' w'){g:Nat->Prop}(n:∀b,fr b->b<w.heap.size)(j:X.at st g ro w/\In g fr k):
  QcU X h0 fr ro σ w N k Q e a' w':=by
 obtain⟨x,a,H',f,σ',i,m,p,q,d,s,l⟩:=h;exact⟨x,a,H',st,f,σ',i,g,m,p,q,⟨r.ev j.1 (d.frMono j.2.sub),j.2.later n l⟩,d.sub,d.size,s,l⟩
theorem TCy.lift(h:TC P h0 N c env H (λx env H=>Q x env H st)):TCy X P h0 N c env H st Q:=
 λhX rd fr ro σ a w g r hj hrd=>Code.wpIn_mono (λe a' w' q=>Qky hX q r.sim.frLt hj) (h rd fr ro σ a w r (hrd▸QbZ))
def SeqY(X:Ctx T)(P:Program)(h0 N:Nat)(c:Code)(Q:YA T):YA T
 |.normal,env,H,st=>TCy X P h0 N c env H st Q
 |.exit id,env,H,st=>Q (.exit id) env H st
 |.ret,env,H,st=>Q .ret env H st
theorem TCy.seq(h:TCy X P h0 N c env H st (SeqY X P h0 N c' Q)):TCy X P h0 N (.seq c c') env H st Q:=by
 intro y z G E σ a w g r hj hrd;refine wpIn_seq (Code.wpIn_mono ?_ (h y z G E σ a w g r hj hrd));rintro e B F ⟨x,b,H',i,d,σ',f,m,j,k,l,s,t,p,n,u⟩;cases e with
 |normal=>
  obtain rfl:x=.normal:=j;exact Code.wpIn_mono (λe a w q=>q.grow t p n u) (k y z f d σ' B F m l s hrd)
 |exit id=>
  obtain rfl:x=.exit id:=j;exact⟨_,b,H',i,d,σ',f,m,rfl,k,l,s,t,p,n,u⟩
 |ret=>
  obtain rfl:x=.ret:=j;exact⟨_,b,H',i,d,σ',f,m,rfl,k,l,s,t,p,n,u⟩
 |_=>exact j.elim
theorem TCy.region{id:Nat}{l:List Oper}(h:WOy X P h0 N l.toArray l env H st Q):TCy X P h0 N (.region id l.toArray false) env H st Q:=
 λhX rd fr ro σ a w g r hj hrd=>wpIn_region_lit (h hX rd fr ro σ a w g r hj hrd)
theorem TCy.cond{x:Operand}{t:Bool}(l:opA env x=.bool t)(k:t=true->TCy X P h0 N c env H st Q)(j:t=false->TCy X P h0 N c' env H st Q):TCy X P h0 N (.cond x c c') env H st Q:=by
 intro i d h f σ a w g r hj hrd;have b:=Qj r x;rw[l]at b;exact wpIn_cond_split b (λe=>k e i d h f σ a w g r hj hrd) (λe=>j e i d h f σ a w g r hj hrd)
theorem WOy.nil{all:Array Oper}(h:Q .normal env H st):WOy X P h0 N all [] env H st Q:=
 λhX rd fr ro σ a w g r hj hrd=>⟨_,env,H,st,ro,σ,fr,g,rfl,h,r,hj,λ_ q=>q,X0 _,rfl,Grow.refl _ _ _⟩
end
theorem Qh6{P:Program}{rd:Option Nat}{o:Oper}{a:Act}{K K':Act->World->Prop}{Q Q':Exit->Act->World->Prop}(b:∀a w,K a w->K' a w)(i:∀ch a w,Q (.panic ch) a w->Q' (.panic ch) a w)(k:∀a w,Q .outgrown a w->Q' .outgrown a w)
  {r:Result Next}(h:o.uponIn (WF rd) 0 P a K Q r):o.uponIn (WF rd) 0 P a K' Q' r:=by
 cases r with
 |ok x w=>
  cases x with
  |value v=>exact b _ _ h
  |skip=>exact b _ _ h
  |defer d=>exact b _ _ h
  |enter f g=>
   refine⟨h.1,CallsIn.mono h.2 ?_⟩;intro e n q;cases e with
   |returned v=>exact b _ _ q
   |panicked c=>exact i _ _ _ q
   |outgrown=>obtain⟨a,w,q⟩:=q;exact⟨a,w,k _ _ q⟩
  |row r g=>exact⟨h.1,RowsIn.mono h.2 λv n q=>b _ _ q⟩
  |round l f m assign j=>
   refine⟨h.1,RoundIn.mono h.2 ?_⟩;intro e n q;cases e with
   |returned v=>exact b _ _ q
   |panicked c=>exact i _ _ _ q
   |outgrown=>obtain⟨a,w,q⟩:=q;exact⟨a,w,k _ _ q⟩
  |_=>exact h
 |halt x w=>
  cases x with
  |panic v=>exact i _ _ _ h
  |_=>exact h
section
variable {T:Type}{X:Ctx T}{P:Program}{h0 N:Nat}{env:Env}{H:Qc}{st:YSt T}{Q:YA T}
theorem WOy.step{all:Array Oper}{o:Oper}{rest:List Oper}(h:WO P h0 N all [o] env H (λx env' H'=>x=.normal/\WOy X P h0 N all rest env' H' st Q)):WOy X P h0 N all (o::rest) env H st Q:=by
 intro E u t n σ a w g r hj hrd;have y:∀f i,QbT h0 t n σ w N a.defers (λx env' H'=>x=.normal/\WOy X P h0 N all rest env' H' st Q) .normal f i->wpL P u all (QcU X h0 t n σ w N a.defers Q) rest f i:=by
  rintro f i ⟨x,env',H',d,σ',j,M,⟨_,F⟩,G,s,J,B,z⟩;have m:X.at st g d i/\In g j f.defers:=⟨E.ev hj.1 (s.frMono hj.2.sub),by rw[B];exact hj.2.later r.sim.frLt z⟩;have:=F E u j d σ' f i g G m hrd;refine Yx (λe l k q=>?_) _ _ _ this;exact q.grow s.sub s.size J (by rw[B];exact z)
 have b:=h u t n σ a w r (hrd▸QbZ);unfold wpL wpListIn at b⊢;split
 .rename_i p;rw[if_pos p]at b;refine⟨b.1,Qh6 (λl k q=>?_) (λL l k q=>?_) (λl k q=>?_) b.2⟩
  .unfold wpListIn at q;exact y l k q
  .obtain⟨x,_,_,_,_,_,q,_⟩:=q;exact q.elim
  .obtain⟨x,_,_,_,_,_,q,_⟩:=q;exact q.elim
 .rename_i p;rw[if_neg p]at b;refine⟨b.1,?_⟩;have q:=b.2;unfold wpListIn at q;exact y _ _ q
theorem WOy.yield{all:Array Oper}{o:Oper}{rest:List Oper}{d:Nat}{x:T}{O rem:List T}(G:X.nx O x rem)(hg:Qv all o env true)(B:o.dst=some d)(hN:Nat.blt d N=true)
  (R:∀fr ro σ a w,Rel fr ro σ H env N a w->∃vs:List Value,LR ro [] w (X.enc x) vs/\(execOp a.eval o).run P w=(Instr.yield X.l vs.toArray).run P w)
  (k:∀b:Bool,WOy X P h0 N all rest (up env d (.bool b)) H (bif b then .on rem else .off rem) Q):WOy X P h0 N all (o::rest) env H (.on O) Q:=by
 intro V L fr ro σ a w g r hj hrd;obtain⟨vs,hv,he⟩:=R fr ro σ a w r;obtain⟨q,hq,M⟩:=hj.1;obtain⟨fn,tmps,assign,W,h1,h2⟩:=V.round O x rem q g ro w vs G M hq (λb z=>⟨r.sim.roLt b z,λy=>r.sim.roFr b z (hj.2.sub b y)⟩) hv;have h3:=he.trans h1;unfold wpL wpListIn;rw[if_pos (Jm hg r)];refine⟨λ_ _=>trivial,?_⟩;rw[Qcs h3 (λd e=>by cases e)];refine⟨λh=>by simp[WF,Fence.wide]at h,?_⟩;refine RoundIn.mono (F:=WF L) (n:=0) h2 ?_;rintro e j ⟨i,u,t,m,f⟩;obtain⟨s',ev⟩:=r.sim.round hj.2.sub m;have J:d<N:=by simpa using hN
 have p:Ext ro σ w ro σ j:=by have:=ev.ext σ [];simpa using this
 have fin:∀b:Bool,X.at (bif b then .on rem else .off rem) i ro j->wpL P L all (QcU X h0 fr ro σ w N a.defers Q) rest (a.put o.dst (.bool b)) j:=by
  intro b f;have hm:QcY (λb=>fr b\/i b) a.defers j:=by
   refine⟨r.defers.1,λd B=>?_⟩;obtain⟨D,rfl,E,q2⟩:=r.defers.2 d B;exact⟨D,rfl,.inl E,(m.keep D (r.sim.frLt D E) (hj.2.beside D B)).trans q2⟩
  have hi:In i (λb=>fr b\/i b) a.defers:=by
   refine⟨λb q=>.inr q,λD hD q=>?_⟩;rcases m.new D q with u|u
   .exact hj.2.beside D hD u
   .obtain⟨D',e,E,_⟩:=r.defers.2 _ hD;have:D=D':=by simpa using e
    subst this;have:=r.sim.frLt D E;omega
  have Y:Rel (λb=>fr b\/i b) ro σ H (up env d (.bool b)) N {a with tmps:=a.tmps.setIfInBounds d (.bool b)} j:=
   ⟨s',VR.up (fr:=fr) (λs=>(r.env s).mono p) (by rw[r.size];exact J) rfl,by simpa using r.size,hm⟩
  have:=k b V L _ ro σ _ j i Y ⟨f,hi⟩ hrd;simp only[B,Act.put];refine Yx (λe a2 w2 q=>q.grow (λ_ q=>q) m.size rfl ⟨λ_ q=>.inl q,λb q=>?_,λ_ q=>.inl q⟩) _ _ _ this;rcases q with q|q
  .exact .inl q
  .rcases m.new b q with q|q
   .exact .inl (hj.2.sub b q)
   .exact .inr q
 rcases f with⟨rfl,f⟩|⟨rfl,f⟩
 .exact fin true ⟨u,t,f⟩
 .exact fin false ⟨u,t,f⟩
end
def EndY{T:Type}:YA T:=λx env H st=>(x=.normal\/x=.ret)/\(st=.on []\/ ∃rem,st=.off rem)
theorem QcQ{T:Type}{P:Program}{f:FuncId}{fn:Func}{c:Code}{N:Nat}{a:List A}{H:Qc}{enc:T->List A}{nx:List T->T->List T->Prop}{xs:List T}
  (hf:P.funcs[f]?=some fn)(hb:fn.body=some c)(hN:fn.ntmps=N)(hA:Nat.ble (a.length+1) N=true)(hR:fn.results= #[])
  (h:∀X:Ctx T,X.enc=enc->X.nx=nx->TCy X P H.length N c (QfU 0 (.fn (.yield X.l) [] []::a)) H (.on xs) EndY):QdI P f a H enc nx xs:=by
 intro X hE hNx hX fr ro0 σ w capv q0 hs hq0 hl hj;have p:LR ro0 σ w (.fn (.yield X.l) [] []::a) (Value.func (.yield X.l) #[] #[]::capv):=⟨_,_,rfl,⟨[],[],rfl,rfl,rfl⟩,hl⟩;have m:=p.length;have aa:a.length+1<=N:=by simpa using hA
 refine(callsIn_wide (n:=0)).1 (callsIn_of_wp_marks hf hb trivial (Code.wpIn_mono ?_ (h X hE hNx hX none fr ro0 σ _ w fr ⟨hs,?_,?_,List.nodup_nil,λd u=>by cases u⟩ ⟨⟨q0,hq0,hj⟩,λ_ q=>q,λD hD=>by cases hD⟩ rfl)))
 .rintro e E Q ⟨x,V,H1,st,M,σ1,ab,z,R,⟨h2,L⟩,j,⟨h4,k⟩,h5,h6,h7,h8⟩;have t:LeavesInM Fence.wide 0 P fn E.tmps (λe W'=>(∃v,e=.returned v)/\ ∃g q',(∀b,fr b->g b)/\((X.J [] q' g W')\/(∃rem,X.Jx rem q' g W'))) E.defers .returning Q:=by
   refine Qbl (ro:=M) (fr:=z) (σ:=σ1) (H:=H1) E.defers Q j.defers.1 (λd u=>?_) (j.sim.frMono k.sub) (λw2 s2 r=>?_)
   .obtain⟨D,rfl,G,W⟩:=j.defers.2 d u;exact⟨D,rfl,λq=>j.sim.roFr D q G,k.beside D u,λi x O B F=>(j.sim.own i D x O B F).2.2 G,λi d x O B F=>(j.sim.hid i d x D O B F).fr G,W⟩
   .have y:=hX.up (hX.ev h4 r) (g':=λb=>z b\/fr b) (λb q=>.inl q) (λb q=>Vn (j.sim.frLt b (q.elim (k.sub b) (h8.sub b))) r.size);obtain⟨Y,_,y⟩:=y;refine⟨.tuple #[],by simp[results,hR,go_sem],⟨_,rfl⟩,λb=>z b\/fr b,Y,λb q=>.inr q,?_⟩;rcases L with rfl|⟨rem,rfl⟩
    .exact .inl y
    .exact .inr ⟨rem,y⟩
  cases e with
  |normal=>exact t
  |ret=>exact t
  |exit id=>
   obtain rfl:x=.exit id:=R;rcases h2 with q|q<;>cases q
  |_=>exact R.elim
 .intro s;have:=Qep (i:=0) [] rfl p (Array.replicate (fn.ntmps-(Value.func (.yield X.l) #[] #[]::capv).toArray.size) undef) s;simpa using this
 .simp only[X8]at m;simp[hN];omega
section
variable {T:Type}{X:Ctx T}{P:Program}{h0 N:Nat}{c c':Code}{env:Env}{H:Qc}{st:YSt T}{Q Q':YA T}
theorem TCy.mono(h:TCy X P h0 N c env H st Q)(p:∀x env H st,Q x env H st->Q' x env H st):TCy X P h0 N c env H st Q':=by
 intro k l t m σ a w g r hj hrd;refine Code.wpIn_mono ?_ (h k l t m σ a w g r hj hrd);rintro e u y ⟨x,b,H',i,d,σ',f,n,j,q,s⟩;exact⟨x,b,H',i,d,σ',f,n,j,p _ _ _ _ q,s⟩
theorem TCy.skip(h:Q .normal env H st):TCy X P h0 N .skip env H st Q:=TCy.lift (TC.skip h)
theorem TCy.ret(h:Q .ret env H st):TCy X P h0 N .ret env H st Q:=TCy.lift (TC.ret h)
theorem TCy.exit{id:Nat}(h:Q (.exit id) env H st):TCy X P h0 N (.exit id) env H st Q:=TCy.lift (TC.exit h)
def BloY(id:Nat)(Q:YA T):YA T
 |.normal,env,H,st=>Q .normal env H st
 |.exit id',env,H,st=>bif Nat.beq id' id then Q .normal env H st else Q (.exit id') env H st
 |.ret,env,H,st=>Q .ret env H st
theorem TCy.block{id:Nat}(h:TCy X P h0 N c env H st (BloY id Q)):TCy X P h0 N (.block id c) env H st Q:=by
 intro p s y t σ a w g r hj hrd;refine wpIn_block (Code.wpIn_mono ?_ (h p s y t σ a w g r hj hrd));rintro e B z ⟨x,b,H',j,f,σ',i,m,l,k,n⟩;cases e with
 |normal=>
  obtain rfl:x=.normal:=l;exact⟨_,b,H',j,f,σ',i,m,rfl,k,n⟩
 |exit d=>
  obtain rfl:x=.exit d:=l;show Exit.inBlock id _ _ _ _;unfold Exit.inBlock;simp only[BloY]at k;by_cases q:d=id
  .subst q;rw[Nat.beq_refl,cond_true]at k;simp only[if_true];exact⟨.normal,b,H',j,f,σ',i,m,rfl,k,n⟩
  .have u:Nat.beq d id=false:=by
    cases e:Nat.beq d id with
    |false=>rfl
    |true=>exact absurd (XX e) q
   rw[u,cond_false]at k;simp only[q,if_false];exact⟨.exit d,b,H',j,f,σ',i,m,rfl,k,n⟩
 |ret=>
  obtain rfl:x=.ret:=l;exact⟨_,b,H',j,f,σ',i,m,rfl,k,n⟩
 |_=>exact l.elim
end
section
variable {T:Type}{X:Ctx T}{P:Program}{h0 N:Nat}{c:Code}{env:Env}{H:Qc}{st:YSt T}{Q:YA T}
def QkN(I:Env->Qc->YSt T->Prop)(Q:YA T):YA T
 |.normal,env,H,st=>I env H st
 |.exit id,env,H,st=>Q (.exit id) env H st
 |.ret,env,H,st=>Q .ret env H st
theorem Qf0{I:Nat->Env->Qc->YSt T->Prop}(body:∀n env H st,I n env H st->TCy X P h0 N c env H st (QkN (λenv H st=>∃n',n'<n/\I n' env H st) Q)){n:Nat}(F:I n env H st):TCy X P h0 N (.loop c) env H st Q:=by
 intro hX Y B y σ a w g r hj hrd b k cs hro hb hr;have J:∀m n env H st fr1 ro1 σ1 a1 w1 g1,n<m->I n env H st->Rel fr1 ro1 σ1 H env N a1 w1->(∀b,y b->ro1 b)->w.heap.size<=w1.heap.size->σ1.take h0=σ.take h0->Grow B w a.defers fr1 a1.defers->X.at st g1 ro1 w1/\In g1 fr1 a1.defers->
   ∃e h i,QcU X h0 B y σ w N a.defers Q e h i/\ArrivesIn (Machine.fenced P (WF Y)) P (lone (b.atR a1 (.code c::.inLoop c::k)) cs w1) b k cs e h i:=by
  intro m
  induction m with
  |zero=>intro n env H st fr1 ro1 σ1 a1 w1 g1 hn;exact absurd hn (Xn _)
  |succ m ih=>
   intro n env H st fr1 ro1 σ1 a1 w1 g1 hn F r1 s1 z1 t1 gr1 j1;obtain⟨e,h,i,G,d⟩:=body n env H st F hX Y fr1 ro1 σ1 a1 w1 g1 r1 j1 hrd b (.inLoop c::k) cs hro hb hr;obtain⟨x,f,H',j,s,σ',u,M,z,p,R,L,q5,W,V,q8⟩:=G;have s2:=λb q=>q5 b (s1 b q);have t:=gr1.trans z1 q8;have O:∀x,Q x f H' j->ExR e x->QcU X h0 B y σ w N a.defers Q e h i:=λx q q'=>⟨x,f,H',j,s,σ',u,M,q',q,R,L,s2,X3 z1 W,V.trans t1,t⟩;cases e with
   |normal=>
    obtain rfl:x=.normal:=z;obtain⟨n',aa,p⟩:=p;obtain⟨e2,a2,w2,E,l⟩:=ih n' f H' j u s σ' h i M (by omega) p R s2 (X3 z1 W) (V.trans t1) t L;exact⟨e2,a2,w2,E,.of_steps (StepsIn.trans d (.one (fenced_calm hb hr rfl) stepR_inLoop)) l⟩
   |exit id=>
    obtain rfl:x=.exit id:=z;exact⟨_,h,i,O _ p rfl,.pass (x:=.inLoop c) rfl (λ_ _=>.inl (by simp)) d⟩
   |ret=>
    obtain rfl:x=.ret:=z;exact⟨_,h,i,O _ p rfl,.pass (x:=.inLoop c) rfl (λ_ _=>.inl (by simp)) d⟩
   |_=>exact z.elim
 obtain⟨e,h,i,G,d⟩:=J (n+1) n env H st B y σ a w g (Xo _) F r (λ_ q=>q) (X0 _) rfl (Grow.refl _ _ _) hj;exact⟨e,h,i,G,.of_steps (.one (fenced_calm hb hr rfl) stepR_loop) d⟩
end
end Go.Sw
namespace Go.Sw
theorem Sim.part{fr ro:Nat->Prop}{σ:Sig}{H:Qc}{w:World}(s0:Sim fr ro σ H w){π:List Nat}{Hc:Qc}(T:π.map (λp=>H[p]?)=(Hc.map (Q4 (rho π H.length))).map some)(hπ:π.Nodup):
  Sim (λb=>fr b\/(∃i x,σ[i]?=some (some b)/\H[i]?=some x/\x.live=true/\i∉π)\/ ∃i x d,σ[i]?=some (some d)/\H[i]?=some x/\Hid w x d b/\i∉π) ro (Yf σ π) Hc w/\ ∀j:Nat,σ[rho π H.length j]?=(Yf σ π)[j]? :=by
 have hp:∀p∈π,p<H.length:=λp q=>Je T q;have hσl:=s0.len;have n:∀(j p:Nat),π[j]?=some p->H[p]?=(Hc[j]?).map (Q4 (rho π H.length)):=by
  intro j p a;have:=congrArg (λl=>l[j]?) T;simp only[Xq,a,Xk]at this;cases e:Hc[j]? with
  |none=>rw[e]at this;simp at this
  |some x=>rw[e]at this;simpa using this
 have L:π.length=Hc.length:=by simpa using congrArg List.length T
 have hσc:∀j:Nat,σ[rho π H.length j]?=(Yf σ π)[j]? :=by
  intro j;have:=QdK (τ:=[]) hσl hp j;simpa using this
 have hπj:∀(j b:Nat),(Yf σ π)[j]?=some (some b)->∃p,π[j]?=some p/\σ[p]?=some (some b):=by
  intro j b a;simp only[Yf,Xq]at a;cases e:π[j]? with
  |none=>rw[e]at a;simp at a
  |some p=>
   rw[e]at a;simp at a;refine⟨p,rfl,?_⟩;cases r:σ[p]? with
   |none=>rw[r]at a;simp at a
   |some s=>rw[r]at a;simp at a;rw[a]
 refine⟨?_,hσc⟩
 .refine⟨by simp[Yf,L],s0.roOk,?_,?_,?_,?_,?_,?_⟩
  .rintro b (P|⟨i,x,f,h,m,M⟩|⟨i,x,d,f,h,m,M⟩)
   .exact s0.frLt b P
   .exact(s0.own i b x f h m).1
   .exact(s0.hid i d x b f h m).lt
  .rintro b P (Q|⟨i,x,f,h,m,M⟩|⟨i,x,d,f,h,m,M⟩)
   .exact s0.roFr b P Q
   .exact(s0.own i b x f h m).2.1 P
   .exact(s0.hid i d x b f h m).ro P
  .intro j b x f h m;obtain⟨p,g,r⟩:=hπj j b f;have E:H[p]?=some (Q4 (rho π H.length) x):=by rw[n j p g,h];rfl
   obtain⟨o1,o2,o3⟩:=s0.own p b _ r E (by rw[QI];exact m);refine⟨o1,o2,?_⟩;rintro(Q|⟨i,y,y1,y2,G,N⟩|⟨i,y,d,y1,y2,G,N⟩)
   .exact o3 Q
   .have:=s0.inj i p b _ _ y1 r y2 E G (by rw[QI];exact m);subst this;exact N (List.mem_of_getElem? g)
   .exact(s0.hid i d y b y1 y2 G).ne p b _ r E (by rw[QI];exact m) rfl
  .intro i j b x y f h m M q5 q6;obtain⟨p,g,r⟩:=hπj i b f;obtain⟨z,u,V⟩:=hπj j b h;have E:H[p]?=some (Q4 (rho π H.length) x):=by rw[n i p g,m];rfl
   have aa:H[z]?=some (Q4 (rho π H.length) y):=by rw[n j z u,M];rfl
   have:=s0.inj p z b _ _ r V E aa (by rw[QI];exact q5) (by rw[QI];exact q6);subst this;have F:i<π.length:=by
    rcases Nat.lt_or_ge i π.length with q|q
    .exact q
    .rw[XV q]at g;simp at g
   have a:j<π.length:=by
    rcases Nat.lt_or_ge j π.length with q|q
    .exact q
    .rw[XV q]at u;simp at u
   rw[XR F]at g;rw[XR a]at u;have t:=(X7 g).trans (X7 u).symm;rcases Nat.lt_trichotomy i j with q|q|q
   .exact(List.pairwise_iff_getElem.1 hπ i j F a q t).elim
   .exact q
   .exact(List.pairwise_iff_getElem.1 hπ j i a F q t.symm).elim
  .intro j s x f h;have a:j<π.length:=by
    rcases Nat.lt_or_ge j π.length with q|q
    .exact q
    .rw[XV (by simpa[Yf]using q)]at f;simp at f
   have g:π[j]?=some π[j]:=XR a;have E:H[π[j]]?=some (Q4 (rho π H.length) x):=by rw[n j _ g,h];rfl
   have r:σ[π[j]]?=some s:=by
    have:=hσc j;rw[f]at this;simpa[rho,g]using this
   exact(QgP hσc).1 (s0.blk _ s _ r E)
  .intro j b x c f h m;obtain⟨p,g,r⟩:=hπj j b f;have E:H[p]?=some (Q4 (rho π H.length) x):=by rw[n j p g,h];rfl
   have k:=s0.hid p b _ c r E ((Qai _ _ _ _ _).2 m);refine⟨k.lt,k.ro,?_,?_,?_⟩
   .rintro(Q|⟨i,y,y1,y2,G,N⟩|⟨i,y,d,y1,y2,G,N⟩)
    .exact k.fr Q
    .exact k.ne i c y y1 y2 G rfl
    .obtain⟨rfl,rfl⟩:=k.one i d y y1 y2 G;exact N (List.mem_of_getElem? g)
   .intro B O y Y R X;obtain⟨z,J,W⟩:=hπj B O Y;exact k.ne z O _ W (show H[z]?=some (Q4 (rho π H.length) y)by rw[n B z J,R];rfl) (by rw[QI];exact X)
   .intro B O y Y R X;obtain⟨z,J,W⟩:=hπj B O Y;obtain⟨z4,z5⟩:=k.one z O _ W (show H[z]?=some (Q4 (rho π H.length) y)by rw[n B z J,R];rfl) ((Qai _ _ _ _ _).2 X);subst z5;have F:B<π.length:=(XS.1 J).1;have a:j<π.length:=(XS.1 g).1;rw[XR F]at J;rw[XR a]at g;have t:=(X7 J).trans (X7 g).symm;refine⟨z4,?_⟩;rcases Nat.lt_trichotomy B j with q|q|q
    .exact(List.pairwise_iff_getElem.1 hπ B j F a q t).elim
    .exact q
    .exact(List.pairwise_iff_getElem.1 hπ j B a F q t.symm).elim
theorem Sim.frames{fr fr' ro:Nat->Prop}{σ:Sig}{H:Qc}{w:World}(s:Sim fr ro σ H w)(lt:∀b,fr' b->b<w.heap.size)(hro:∀b,ro b->¬fr' b)(own:∀(i b:Nat) (x:Blk),σ[i]?=some (some b)->H[i]?=some x->x.live=true->¬fr' b)
  (hd:∀(i b:Nat) (x:Blk) (c:Nat),σ[i]?=some (some b)->H[i]?=some x->Hid w x b c->¬fr' c):Sim fr' ro σ H w:=
 ⟨s.len,s.roOk,lt,hro,λi b x q1 q2 q3=>⟨(s.own i b x q1 q2 q3).1,(s.own i b x q1 q2 q3).2.1,own i b x q1 q2 q3⟩,s.inj,s.blk,
  s.hidTo (· = ·) Q8 (X0 _) (λ_ _ _ _ _ _ _ q=>q) (λi b x c q1 q2 q3 q4=>(hd i b x c q1 q2 q3 q4).elim) λj d y g1 g2 g3=>.inl ⟨j,y,rfl,g1,g2,id,λ_ q=>q⟩⟩
def Qi8(H:Qc)(p:Nat):Qc:=match H[p]? with
 |some x=>bif x.holds then H.set p .dead else H
 |none=>H
def Qdt:Qc->List Nat->Qc
 |H,[]=>H
 |H,p::π=>Qdt (Qi8 H p) π
theorem Qdu(H:Qc)(p:Nat):(Qi8 H p=H/\ ∀x,H[p]?=some x->x.holds=false)\/Qi8 H p=H.set p .dead:=by
 unfold Qi8;cases h:H[p]? with
 |none=>exact .inl ⟨rfl,λx q=>by cases q⟩
 |some x=>
  cases q:x.holds with
  |false=>exact .inl ⟨by simp[q],λy a=>by cases a;exact q⟩
  |true=>exact .inr (by simp[q])
theorem Qeq:∀(π:List Nat) (H:Qc) (i:Nat) (x:Blk),(Qdt H π)[i]?=some x->x=.dead\/(H[i]?=some x/\(x.holds=true->i∉π))
 |[],H,i,x,h=>.inr ⟨h,λ_=>by simp⟩
 |p::π,H,i,x,h=>by
  rcases Qeq π _ i x h with h|⟨h1,h2⟩
  .exact .inl h
  .rcases Qdu H p with⟨e,hl⟩|e
   .rw[e]at h1;refine .inr ⟨h1,λhx=>?_⟩;simp only[Ve,not_or];refine⟨λq=>?_,h2 hx⟩;subst q;have:=hl x h1;rw[this]at hx;cases hx
   .rw[e]at h1;by_cases q:p=i
    .subst q;rw[Xb]at h1;simp at h1;exact .inl h1.2.symm
    .rw[XW q]at h1;exact .inr ⟨h1,λhx=>by simp only[Ve,not_or];exact⟨λr=>q r.symm,h2 hx⟩⟩
theorem Qdj{fr ro:Nat->Prop}{σ:Sig}{w:World}:∀(π:List Nat) {H:Qc} (s:Sim fr ro σ H w),Sim fr ro σ (Qdt H π) w
 |[],_,s=>s
 |p::π,H,s=>by
  rw[Qdt];rcases Qdu H p with h|h
  .rw[h.1];exact Qdj π s
  .rw[h];exact Qdj π (s.kill p)
theorem Sim.put{fr ro:Nat->Prop}{σ:Sig}{H:Qc}{w:World}(s:Sim fr ro σ H w){b:Nat}{obj:Obj}(l:fr b)(t:w.shape? b=none):
  Sim fr ro σ H (w.putObj b obj)/\Qi (λc=>c≠b) ro w ro (w.putObj b obj):=by
 have a:∀c,c≠b->(w.putObj b obj).heap[c]?=w.heap[c]? :=λc G=>World.putObj_heap_other G;have f:(w.putObj b obj).heap.size=w.heap.size:=by simp
 have m:∀c,ro c->c≠b:=λc q e=>s.roFr c q (e▸l);have ev:Qi (λc=>c≠b) ro w ro (w.putObj b obj):=by
  refine⟨λ_ q=>q,λc q=>a c (m c q),λc q=>a c q,by rw[f];exact X0 _,λc x q=>?_,rfl,rfl,rfl,X0 _⟩;by_cases e:c=b
  .subst e;rw[t]at q;cases q
  .unfold World.shape? at q⊢;rw[a c e];exact q
 have k:Ext ro σ w ro σ (w.putObj b obj):=by have:=ev.ext σ [];simpa using this
 refine⟨⟨s.len,s.roOk.to (λ_ q=>q) ev.keepRo (λc q=>by rw[f];exact s.roLt c q),λc q=>by rw[f];exact s.frLt c q,s.roFr,λi c x h g B=>?_,s.inj,λi y x h g=>?_,
  s.hidTo (· = ·) Q8 (by rw[f];exact X0 _) (λ_ _ _ _ _ _ _ q=>q) (λ_ _ _ _ _ _ _ q=>q) λj d y p n J=>.inl ⟨j,y,rfl,p,n,id,λc q=>s.hidKeep p n (λz=>a d (λe=>(s.own j d y p n z).2.2 (e▸l))) ev.keepRo q⟩⟩,ev⟩
 .obtain⟨u,F,E⟩:=s.own i c x h g B;exact⟨by rw[f];exact u,F,E⟩
 .refine(s.blk i y x h g).keep k ?_ ?_
  .rintro c rfl r;exact a c (λe=>(s.own i c x h g r).2.2 (e▸l))
  .rintro d c rfl r;exact a c (λe=>(s.hid i d x c h g r).fr (e▸l))
theorem Qbk{w:World}{l:Nat}{r:Loop}(h:w.heap[l]?=some (.loop r)):w.shape? l=none:=by
 unfold World.shape?;rw[h]
structure Fix where
 fr:Nat->Prop
 ro:Nat->Prop
 σ:Sig
 w:World
 h1:Nat
 env:Env
 tmps:Array Value
 ds1:List Deferred
 l:Nat
 rc:LoopState->Option Code->Loop
 fr1:Nat->Prop
structure Fix.Ok (D:Fix):Prop where
 sub:∀b,D.fr b->D.fr1 b
 l1:D.fr1 D.l
 lf:¬D.fr D.l
 len:D.σ.length=D.h1
structure RJ (D:Fix) (ro1:Nat->Prop) (σ1:Sig) (H:Qc) (st:LoopState) (pe:Option Code) (q g:Nat->Prop) (W:World):Prop where
 sim:Sim D.fr1 ro1 σ1 H W
 env:∀t,VR ro1 D.σ W (lk D.env t) (D.tmps.getD t undef)
 sig:σ1.take D.h1=D.σ
 ev:Qi D.fr D.ro D.w ro1 W
 marks:QcY D.fr1 D.ds1 W
 rc:W.heap[D.l]?=some (.loop (D.rc st pe))
 roG:∀b,ro1 b->q b\/g b
 frG:∀b,D.fr1 b->g b
 own:∀(i b:Nat) (x:Blk),σ1[i]?=some (some b)->H[i]?=some x->x.live=true->g b
 hidG:∀(i b:Nat) (x:Blk) (c:Nat),σ1[i]?=some (some b)->H[i]?=some x->Hid W x b c->g c
 lt:∀b,g b->b<W.heap.size
theorem Qdm{σ σ1:Sig}{a:Nat}(h:σ1.take a=σ){i b:Nat}(q:σ[i]?=some (some b)):σ1[i]?=some (some b):=by
 subst h;rw[List.getElem?_take]at q;split at q
 .exact q
 .cases q
section
variable {D:Fix}{ro1:Nat->Prop}{σ1:Sig}{H:Qc}{st:LoopState}{pe:Option Code}{qR g:Nat->Prop}{W:World}
theorem RJ.step(r:D.Ok)(j:RJ D ro1 σ1 H st pe qR g W){ro':Nat->Prop}{W':World}(e:Qi g qR W ro' W'):RJ D ro1 σ1 H st pe qR g W':=by
 have f:∀b,ro1 b->W'.heap[b]?=W.heap[b]? :=λb q=>(j.roG b q).elim (e.keepRo b) (e.keepFr b);have ev:Qi D.fr1 ro1 W ro1 W':=⟨λ_ q=>q,f,λb q=>e.keepFr b (j.frG b q),e.size,e.shape,e.os,e.tape,e.output,e.drawn⟩;have k:∀σ,Ext ro1 σ W ro1 σ W':=λ σ=>by have:=ev.ext σ [];simpa using this
 refine⟨⟨j.sim.len,j.sim.roOk.to (λ_ q=>q) f (λb q=>Vn (j.sim.roLt b q) e.size),λb q=>Vn (j.sim.frLt b q) e.size,j.sim.roFr,λi b x h a l=>?_,j.sim.inj,λi z x h a=>?_,
  j.sim.hidTo (· = ·) Q8 e.size (λ_ _ _ _ _ _ _ q=>q) (λ_ _ _ _ _ _ _ q=>q) λi d y n m w=>.inl ⟨i,y,rfl,n,m,id,λc q=>j.sim.hidKeep n m (λz=>e.keepFr d (j.own i d y n m z)) f q⟩⟩,
  λt=>(j.env t).mono (k _),j.sig,j.ev.trans (ev.frMono r.sub),j.marks.keep ev,(ev.keepFr _ r.l1).trans j.rc,j.roG,j.frG,j.own,λi b x c h a l=>j.hidG i b x c h a (j.sim.hidKeep h a (λz=>e.keepFr b (j.own i b x h a z)) f l),λb q=>Vn (j.lt b q) e.size⟩
 .obtain⟨s,u⟩:=j.sim.own i b x h a l;exact⟨Vn s e.size,u⟩
 .refine(j.sim.blk i z x h a).keep (k _) ?_ ?_
  .rintro b rfl p;exact e.keepFr b (j.own i b x h a p)
  .rintro b c rfl p;exact e.keepFr c (j.hidG i b x c h a p)
theorem RJ.up{g':Nat->Prop}(j:RJ D ro1 σ1 H st pe qR g W)(h:∀b,g b->g' b)(hl:∀b,g' b->b<W.heap.size):RJ D ro1 σ1 H st pe qR g' W:=
 {j with roG:=λb q=>(j.roG b q).imp id (h b),frG:=λb q=>h b (j.frG b q),own:=λi b x q1 q2 q3=>h b (j.own i b x q1 q2 q3),hidG:=λi b x c q1 q2 q3=>h c (j.hidG i b x c q1 q2 q3),lt:=hl}
def FrB(D:Fix)(ro1 g:Nat->Prop)(W:World):Nat->Prop:=λb=>(D.fr1 b\/(¬g b/\ ¬ro1 b))/\b<W.heap.size
theorem RJ.simB(j:RJ D ro1 σ1 H st pe qR g W):Sim (FrB D ro1 g W) ro1 σ1 H W:=by
 refine j.sim.frames (λb q=>q.2) (λb q r=>?_) (λi b x e a d r=>?_) (λi b x c e a d r=>r.1.elim (j.sim.hid i b x c e a d).fr λr=>r.1 (j.hidG i b x c e a d))
 .rcases r.1 with r|r
  .exact j.sim.roFr b q r
  .exact r.2 q
 .rcases r.1 with r|r
  .exact(j.sim.own i b x e a d).2.2 r
  .exact r.1 (j.own i b x e a d)
theorem RJ.fin(E:D.Ok)(j:RJ D ro1 σ1 H st pe qR g W){y ro':Nat->Prop}{σ':Sig}{H':Qc}{W':World}{st':LoopState}{pe':Option Code}
  (ev:Qi (λb=>FrB D ro1 g W b/\b≠D.l) ro1 W ro' W')(s:Sim y ro' σ' H' W')(u:∀b,FrB D ro1 g W b->y b)(hσ:σ'.take D.h1=σ1.take D.h1)(T:W'.heap[D.l]?=some (.loop (D.rc st' pe'))):
  RJ D ro' σ' H' st' pe' qR (λb=>g b\/(W.heap.size<=b/\b<W'.heap.size)) W'/\Qe3 g (λb=>g b\/(W.heap.size<=b/\b<W'.heap.size)) W W':=by
 have m:∀b,D.fr1 b->FrB D ro1 g W b:=λb q=>⟨.inl q,j.sim.frLt b q⟩;have M:W.shape? D.l=none:=Qbk j.rc;have F:Qi D.fr ro1 W ro' W':=ev.frMono λb q=>⟨m b (E.sub b q),λe=>E.lf (e▸q)⟩;have w:Ext ro1 D.σ W ro' D.σ W':=ev.ext0 D.σ;have G:∀b,b<W.heap.size->b<W'.heap.size:=λb q=>Vn q ev.size;have n:∀b,b<W.heap.size->¬FrB D ro1 g W b->g b\/ro1 b:=by
  intro b h Q;by_cases f:g b
  .exact .inl f
  .by_cases a:ro1 b
   .exact .inr a
   .exact absurd ⟨.inr ⟨f,a⟩,h⟩ Q
 refine⟨⟨s.frames (λb q=>G b (j.sim.frLt b q)) (λb q r=>s.roFr b q (u b (m b r))) (λi b x f a p r=>(s.own i b x f a p).2.2 (u b (m b r))) (λi b x c f a p r=>(s.hid i b x c f a p).fr (u c (m c r))),
  λt=>(j.env t).mono w,hσ.trans j.sig,j.ev.trans F,⟨j.marks.1,λd N=>?_⟩,T,λb q=>?_,λb q=>.inl (j.frG b q),λi b x f a p=>?_,λi b x c f a p=>?_,λb q=>q.elim (λq=>G b (j.lt b q)) (λq=>q.2)⟩,
  ⟨λb q=>.inl q,λb q=>q.imp id (λq=>q.1),λb q=>q.elim (λq=>G b (j.lt b q)) (λq=>q.2),λb f a=>.inr ⟨f,a⟩,λb f a=>?_,ev.size,ev.shape,ev.os,ev.tape,ev.output,ev.drawn⟩⟩
 .obtain⟨B,R,J,z⟩:=j.marks.2 d N;refine⟨B,R,J,(ev.keepFr B ⟨m B J,λe=>?_⟩).trans z⟩;subst e;rw[j.rc]at z;cases z
 .rcases Nat.lt_or_ge b W.heap.size with h|h
  .rcases n b h (λr=>s.roFr b q (u b r))with r|r
   .exact .inr (.inl r)
   .exact(j.roG b r).imp id .inl
  .exact .inr (.inr ⟨h,s.roLt b q⟩)
 .obtain⟨L,O,P⟩:=s.own i b x f a p;rcases Nat.lt_or_ge b W.heap.size with h|h
  .rcases n b h (λr=>P (u b r))with r|r
   .exact .inl r
   .exact absurd (ev.sub b r) O
  .exact .inr ⟨h,L⟩
 .have k:=s.hid i b x c f a p;rcases Nat.lt_or_ge c W.heap.size with h|h
  .rcases n c h (λr=>k.fr (u c r))with r|r
   .exact .inl r
   .exact absurd (ev.sub c r) k.ro
  .exact .inr ⟨h,k.lt⟩
 .by_cases r:ro1 b
  .exact ev.keepRo b r
  .exact ev.keepFr b ⟨⟨.inr ⟨a,r⟩,f⟩,λe=>a (j.frG b (e▸E.l1))⟩
end
theorem Sim.roAdd{fr ro f:Nat->Prop}{σ:Sig}{H:Qc}{w:World}(s:Sim fr ro σ H w)(m:∀b,f b->b<w.heap.size)(l:∀b,f b->¬fr b)(h:∀(i b:Nat) (x:Blk),σ[i]?=some (some b)->H[i]?=some x->x.live=true->¬f b)
  (g:∀(i b:Nat) (x:Blk) (c:Nat),σ[i]?=some (some b)->H[i]?=some x->Hid w x b c->¬f c):Sim fr (λb=>ro b\/f b) σ H w:=by
 have ext:Ext ro σ w (λb=>ro b\/f b) σ w:=⟨λ_ q=>.inl q,λ_ _=>rfl,λ_ _ q=>q,λ_ _ q=>q⟩;refine⟨s.len,s.roOk.to (λ_ q=>.inl q) (λ_ _=>rfl) (λb q=>q.elim (s.roLt b) (m b)),s.frLt,λb q=>q.elim (s.roFr b) (l b),λi b x e a k=>?_,s.inj,λi y x e a=>(s.blk i y x e a).keep ext (λ_ _ _=>rfl) (λ_ _ _ _=>rfl),
  s.hidTo (· = ·) Q8 (X0 _) (λi b x c e a k z=>z.elim id λq=>(g i b x c e a k q).elim) (λ_ _ _ _ _ _ _ q=>q) λj d y t p B=>.inl ⟨j,y,rfl,t,p,id,λ_ q=>q⟩⟩
 obtain⟨n,u,r⟩:=s.own i b x e a k;exact⟨n,λq=>q.elim u (h i b x e a k),r⟩
theorem RJ.roAdd{D:Fix}{ro1:Nat->Prop}{σ1:Sig}{H:Qc}{st:LoopState}{pe:Option Code}{qR ri g:Nat->Prop}{W:World}(j:RJ D ro1 σ1 H st pe qR g W)(hq:∀b,qR b->ri b)(hI:∀b,ri b->b<W.heap.size/\ ¬g b):RJ D (λb=>ro1 b\/ri b) σ1 H st pe ri g W:=
 {j with
  sim:=j.sim.roAdd (λb q=>(hI b q).1) (λb q z=>(hI b q).2 (j.frG b z)) (λi b x q1 q2 q3 z=>(hI b z).2 (j.own i b x q1 q2 q3)) (λi b x c q1 q2 q3 z=>(hI c z).2 (j.hidG i b x c q1 q2 q3))
  env:=λt=>(j.env t).mono ⟨λ_ q=>.inl q,λ_ _=>rfl,λ_ _ q=>q,λ_ _ q=>q⟩
  ev:=j.ev.trans (YK λ_ q=>.inl q)
  roG:=λb q=>q.elim (λq=>(j.roG b q).imp (hq b) id) .inl}
def QkY:List Nat->List A->Env->Env
 |p::ps,a::zs,env=>QkY ps zs (up env p a)
 |_,_,env=>env
def Qia:List Nat->List Value->Array Value->Array Value
 |p::ps,v::vs,t=>Qia ps vs (t.setIfInBounds p v)
 |_,_,t=>t
theorem Qfu:∀(ps:List Nat) (vs:List Value) (t:Array Value),(Qia ps vs t).size=t.size
 |[],_,_=>rfl
 |_::_,[],_=>rfl
 |p::ps,v::vs,t=>by simp[Qia,Qfu ps]
theorem Qfv:∀(ps:List Nat) (vs:List Value) (t:Array Value),(ps.toArray.zip vs.toArray).foldl (λt (p,v)=>t.setIfInBounds p v) t=Qia ps vs t
 |[],vs,t=>by rw[<- Array.foldl_toList,Array.toList_zip];rfl
 |p::ps,[],t=>by rw[<- Array.foldl_toList,Array.toList_zip];rfl
 |p::ps,v::vs,t=>by
  have:=Qfv ps vs (t.setIfInBounds p v);rw[<- Array.foldl_toList,Array.toList_zip]at this⊢;exact this
theorem QiV{ro:Nat->Prop}{σ:Sig}{w:World}:∀(ps:List Nat) (zs:List A) (vs:List Value) (env:Env) (t:Array Value),LR ro σ w zs vs->(∀p∈ps,p<t.size)->(∀s,VR ro σ w (lk env s) (t.getD s undef))->
  ∀s,VR ro σ w (lk (QkY ps zs env) s) ((Qia ps vs t).getD s undef)
 |[],_,_,_,_,_,_,h=>h
 |p::ps,[],vs,_,_,hv,_,h=>by
  obtain rfl:vs=[]:=hv;exact h
 |p::ps,a::zs,vs,env,t,hv,hp,h=>by
  obtain⟨v,vs',rfl,h0,hv'⟩:=hv;have h1:=VR.up (fr:=λ_=>False) (a:={tmps:=t,defers:=[]}) h (hp p (by simp)) h0;exact QiV ps zs vs' (up env p a) (t.setIfInBounds p v) hv' (λq hq=>by simpa using hp q (by simp[hq])) h1
def QiI(h1:Nat)(env:Env)(Q:QC)(K:Qc->Prop):QC
 |.normal,env',H'=>∃H2,Le h1 env' H' [] H2/\K H2
 |.exit id,env',H'=>∃H2,Le h1 env' H' [] H2/\Q (.exit id) env H2
 |.ret,env',H'=>∃H2,Le h1 env' H' [] H2/\Q .ret env H2
def Jump(Q:QC)(env:Env)(c:Code)(H:Qc):Prop:=(∃id,c=.exit id/\Q (.exit id) env H)\/(c=.ret/\Q .ret env H)
section
variable {D:Fix}{ro0:Nat->Prop}{σ1:Sig}{H:Qc}{qR ri g:Nat->Prop}{W:World}{P:Program}{N:Nat}{Q:QC}{K:Qc->Prop}
theorem RJ.round{fn:FuncId}{ps:List Nat}{assign body:Code}{df:Nat}{cs:List A}{vs:List Value}(hD:D.Ok)(t:D.rc=λst pe=>{state:=st,pending:=pe,fn:=fn,tmps:=D.tmps,params:=ps.toArray,assign:=assign,body:=body,defers:=df})
  (hN:D.tmps.size=N)(af:∀p∈ps,p<N)(O:cs.length=ps.length)(hq:∀b,qR b->ri b)(hI:∀b,ri b->b<W.heap.size/\ ¬g b)(ac:LR ri [] W cs vs)(j0:RJ D ro0 σ1 H .ready none qR g W)
  (h:TC P D.h1 N assign (QkY ps cs D.env) H λe env1 H1=>e=.normal/\TC P D.h1 N body env1 H1 (QiI D.h1 D.env Q K)):
  YieldAt Fence.wide 0 P D.l vs.toArray W λe W'=>∃g',Qe3 g g' W W'/\((e=.returned (.bool true)/\ ∃H2 ro2 σ2,K H2/\RJ D ro2 σ2 H2 .ready none ri g' W')\/
   (e=.returned (.bool false)/\ ∃H2 c ro2 σ2,Jump Q D.env c H2/\RJ D ro2 σ2 H2 .done (some c) ri g' W')):=by
 have aj:vs.length=cs.length:=ac.length;have j:=j0.roAdd hq hI;have E:LR (λb=>ro0 b\/ri b) σ1 W cs vs:=ac.mono ⟨λ_ q=>.inr q,λ_ _=>rfl,λ_ _ q=>q,λi b q=>by simp at q⟩;clear j0;generalize(λb=>ro0 b\/ri b)=ro1 at j E;have ah:∀b,D.fr1 b->FrB D ro1 g W b:=λb q=>⟨.inl q,j.sim.frLt b q⟩;have n:=ah _ hD.l1;have G:=j.rc;have hy:=run_yield (P:=P) (r:=D.rc .ready none) (args:=vs.toArray) G (by rw[t];simp[aj,O]);refine⟨fn,Qia ps vs D.tmps,assign,body,?_,?_⟩
 .rw[hy,t];simp only[];rw[<- Qfv]
 .refine roundIn_of_wpIn trivial ?_;show Code.wpIn (WF (some D.l)) 0 P _ _ _ _;have ab:∀s,VR ro1 σ1 W (lk D.env s) (D.tmps.getD s undef):=λs=>(j.env s).mono ⟨λ_ q=>q,λ_ _=>rfl,λ_ _ q=>q,λi b q=>Qdm j.sig q⟩;have ak:QdJ (some D.l) (FrB D ro1 g W) W:=λl e=>by cases e;exact⟨n,_,G⟩
  have y:=h (some D.l) (FrB D ro1 g W) ro1 σ1 {tmps:=Qia ps vs D.tmps,defers:=[]} W ⟨j.simB,QiV ps cs vs D.env D.tmps E (by rw[hN];exact af) ab,by simp[Qfu,hN],List.nodup_nil,λd hd=>by cases hd⟩ ak;refine Code.wpIn_mono ?_ y;rintro e a1 y ⟨x1,env1,H1,ro2,σ2,x,h1,⟨rfl,h2⟩,V,h4,h5,h6⟩;cases e with
  |normal=>
   have k:y.heap[D.l]?=some (.loop (D.rc .ready none)):=(h4.keepFr _ n).trans G;refine⟨_,run_beginRound k (by rw[t]),?_⟩;obtain⟨s2,L⟩:=V.sim.put (obj:=.loop {D.rc .ready none with state:=.busy}) (h6.sub _ n) (Qbk k);have X:D.l<y.heap.size:=by rw[Vk]at k;exact k.1
   have Y:(y.putObj D.l (.loop {D.rc .ready none with state:=.busy})).heap[D.l]?=some (.loop {D.rc .ready none with state:=.busy}):=World.putObj_heap_same X;generalize hw2:y.putObj D.l (.loop {D.rc .ready none with state:=.busy})=w2 at*;have ai:QcY x a1.defers w2:=by
    refine⟨V.defers.1,λd hd=>?_⟩;obtain⟨B,e1,e2,e3⟩:=V.defers.2 d hd;refine⟨B,e1,e2,(L.keepFr B (λe=>?_)).trans e3⟩;subst e;rw[k]at e3;cases e3
   have r2:Rel x ro2 σ2 H1 env1 N a1 w2:=⟨s2,λs=>(V.env s).mono (L.ext0 σ2),V.size,ai⟩;have F:x D.l:=h6.sub _ n;refine Code.wpIn_mono ?_ (h2 (some D.l) x ro2 σ2 a1 w2 r2 (λl e=>by cases e;exact⟨F,_,Y⟩));rintro e a3 z ⟨x3,ad,H3,J,σ3,aa,g1,g2,g3,g4,g5,g6⟩;have m:z.heap[D.l]?=some (.loop {D.rc .ready none with state:=.busy}):=(g4.keepFr _ F).trans Y;have M:∀(H2:Qc) (jump:Option Code),Le D.h1 ad H3 [] H2->∃v u,(Instr.endRound D.l jump).run P z=.ok v u/\v=.bool jump.isNone/\ ∃g',Qe3 g g' W u/\ ∃a σ4,RJ D a σ4 H2 (if jump.isNone then .ready else .done) jump ri g' u:=by
    intro H2 jump f;obtain⟨a,σ4,r4,s4,t4⟩:=f aa J σ3 N a3 z g3;refine⟨_,_,run_endRound jump m,rfl,?_⟩;have ae:aa D.l:=g6.sub _ F;obtain⟨s5,al⟩:=r4.sim.put (obj:=.loop {{D.rc .ready none with state:=.busy}with state:=if jump.isNone then .ready else .done,pending:=jump}) ae (Qbk m);have T:D.l<z.heap.size:=by rw[Vk]at m;exact m.1
    have ag:=World.putObj_heap_same (w:=z) (r:=D.l) (o:=.loop {{D.rc .ready none with state:=.busy}with state:=if jump.isNone then .ready else .done,pending:=jump}) T;have e1:Qi (λb=>FrB D ro1 g W b/\b≠D.l) ro1 W ro2 y:=h4.frMono λb q=>q.1;have e2:Qi (λb=>FrB D ro1 g W b/\b≠D.l) ro2 y ro2 w2:=L.frMono λb q=>q.2;have e3:Qi (λb=>FrB D ro1 g W b/\b≠D.l) ro2 w2 J z:=g4.frMono λb q=>h6.sub b q.1;have e4:Qi (λb=>FrB D ro1 g W b/\b≠D.l) J z a z:=YK s4;have e5:=(((e1.trans e2).trans e3).trans e4).trans (al.frMono λb (q:FrB D ro1 g W b/\b≠D.l)=>q.2);obtain⟨q1,q2⟩:=j.fin hD e5 s5 (λb q=>g6.sub b (h6.sub b q)) (by rw[t4,g5,h5]) (st':=if jump.isNone then .ready else .done) (pe':=jump) (by rw[ag,t]);exact⟨_,q2,a,σ4,q1⟩
   cases e with
   |normal=>
    obtain rfl:x3=.normal:=g1;obtain⟨H2,f,hK⟩:=g2;obtain⟨v,u,R,rfl,g',k2,a,σ4,k3⟩:=M H2 none f;exact⟨_,u,R,g',k2,.inl ⟨rfl,H2,a,σ4,hK,k3⟩⟩
   |exit id=>
    obtain rfl:x3=.exit id:=g1;obtain⟨H2,f,hK⟩:=g2;obtain⟨v,u,R,rfl,g',k2,a,σ4,k3⟩:=M H2 (some (.exit id)) f;exact⟨_,u,R,g',k2,.inr ⟨rfl,H2,_,a,σ4,.inl ⟨id,rfl,hK⟩,k3⟩⟩
   |ret=>
    obtain rfl:x3=.ret:=g1;obtain⟨H2,f,hK⟩:=g2;obtain⟨v,u,R,rfl,g',k2,a,σ4,k3⟩:=M H2 (some .ret) f;exact⟨_,u,R,g',k2,.inr ⟨rfl,H2,_,a,σ4,.inr ⟨rfl,hK⟩,k3⟩⟩
   |_=>exact g1.elim
  |exit id=>cases h1
  |ret=>cases h1
  |_=>exact h1.elim
end
theorem Sim.beside{fr ro:Nat->Prop}{σ:Sig}{H:Qc}{w h:World}(s:Sim fr ro σ H w)(ev:Qi fr ro w ro h)(a:∀b,b<w.heap.size->h.heap[b]?=w.heap[b]?):Sim (λb=>fr b\/(w.heap.size<=b/\b<h.heap.size)) ro σ H h:=by
 have g:Ext ro σ w ro σ h:=ev.ext0 σ;refine⟨s.len,s.roOk.to (λ_ q=>q) ev.keepRo (λb q=>Vn (s.roLt b q) ev.size),λb q=>q.elim (λq=>Vn (s.frLt b q) ev.size) (λq=>q.2),λb q r=>?_,λi b x f e k=>?_,s.inj,λi z x f e=>?_,
  s.hidTo (· = ·) Q8 ev.size (λ_ _ _ _ _ _ _ q=>q) (λi b x c f e k B=>B.elim id λq=>(by have:=(s.hid i b x c f e k).lt;omega)) λj d y m l E=>.inl ⟨j,y,rfl,m,l,id,λc q=>s.hidKeep m l (λz=>a d (s.own j d y m l z).1) ev.keepRo q⟩⟩
 .rcases r with r|r
  .exact s.roFr b q r
  .have:=s.roLt b q;omega
 .obtain⟨p,u,t⟩:=s.own i b x f e k;refine⟨Vn p ev.size,u,λr=>?_⟩;rcases r with r|r
  .exact t r
  .omega
 .refine(s.blk i z x f e).keep g ?_ ?_
  .rintro b rfl n;exact a b (s.own i b x f e n).1
  .rintro b c rfl n;exact a c (s.hid i b x c f e n).lt
theorem QbY{w:World}{o:Obj}{b:Nat}(a:b<w.heap.size):(w.alloc o).heap[b]?=w.heap[b]? :=by
 show(w.heap.push o)[b]?=_;rw[Array.getElem?_push,if_neg (by omega)]
theorem Qmb{P:Program}{fn:FuncId}{tmps:Array Value}{ps:Array Tmp}{assign body:Code}{rd:Option Nat}{fr ro:Nat->Prop}{w:World}(k:QdJ rd fr w)(g:∀b,ro b->b<w.heap.size)(j:∀b,fr b->b<w.heap.size):
  ∃l mark w1 df,(Instr.enterLoop fn tmps ps assign body rd).run P w=.ok (l,mark) w1/\w.heap.size<=l/\l<w1.heap.size/\w1.heap[l]?=some (.loop {state:=.ready,pending:=none,fn:=fn,tmps:=tmps,params:=ps,assign:=assign,body:=body,defers:=df})/\
   (∀b,b<w.heap.size->w1.heap[b]?=w.heap[b]?)/\mark.Nodup/\(∀d∈mark,∃D,d={target:=.collected D,args:= #[]}/\w.heap.size<=D/\D<w1.heap.size/\w1.heap[D]?=some (.deferred (some [])))/\Qi fr ro w ro w1:=by
 have f:∀w1:World,(∀b,b<w.heap.size->w1.heap[b]?=w.heap[b]?)->w.heap.size<=w1.heap.size->w1.os=w.os->w1.tape=w.tape->w1.output=w.output->w1.drawn=w.drawn->Qi fr ro w ro w1:=by
  intro w1 h s t r u n;refine⟨λ_ q=>q,λb q=>h b (g b q),λb q=>h b (j b q),s,λb x q=>?_,t,r,u,by rw[n];exact X0 _⟩;have e:b<w.heap.size:=by
   rcases Nat.lt_or_ge b w.heap.size with z|z
   .exact z
   .unfold World.shape? at q;rw[Array.getElem?_eq_none (by simpa using z)]at q;cases q
  unfold World.shape? at q⊢;rw[h b e];exact q
 cases rd with
 |none=>
  have a:∀b,b<w.heap.size->((w.alloc (.deferred (some []))).alloc (.loop {state:=.ready,pending:=none,fn:=fn,tmps:=tmps,params:=ps,assign:=assign,body:=body,defers:=w.heap.size})).heap[b]?=w.heap[b]? :=λb e=>
   (QbY (by simp;omega)).trans (QbY e)
  refine⟨_,_,_,w.heap.size,run_enterLoop_outer fn tmps ps assign body,by omega,by simp,?_,a,by simp,?_,f _ a (by simp;omega) rfl rfl rfl rfl⟩
  .have:=World.alloc_heap_new (w.alloc (.deferred (some []))) (.loop {state:=.ready,pending:=none,fn:=fn,tmps:=tmps,params:=ps,assign:=assign,body:=body,defers:=w.heap.size})
   rwa [World.size_alloc]at this
  .intro d i;obtain rfl:=List.mem_singleton.1 i;exact⟨_,rfl,X0 _,by simp;omega,(QbY (by simp)).trans (World.alloc_heap_new w _)⟩
 |some p=>
  obtain⟨_,m,y⟩:=k p rfl;have a:∀b,b<w.heap.size->(w.alloc (.loop {state:=.ready,pending:=none,fn:=fn,tmps:=tmps,params:=ps,assign:=assign,body:=body,defers:=m.defers})).heap[b]?=w.heap[b]? :=λb e=>QbY e;exact⟨_,_,_,m.defers,run_enterLoop_inner y fn tmps ps assign body,X0 _,by simp,World.alloc_heap_new w _,a,List.nodup_nil,(λd i=>absurd i List.not_mem_nil),f _ a (by simp) rfl rfl rfl rfl⟩
theorem TC.rangeFunc{P:Program}{h0 N:Nat}{ad:Operand}{ps:List Nat}{assign body:Code}{env:Env}{H:Qc}{Q:QC}{f:FuncId}{af ae:List A}{Hc:Qc}{T S:Type}{enc:T->List A}{nx:List T->T->List T->Prop}{xs:List T}
  (π:List Nat)(Hp:S->Qc)(V:S->List T->Prop)(s0:S)(hh:h0<=H.length)(hg:opA env ad=.fn (.func f) [] af)(hargs:af=Qaa (rho π H.length) ae)(hH:π.map (λp=>H[p]?)=(Hc.map (Q4 (rho π H.length))).map some)(hπ:π.Nodup)
  (a8:(ps.all λp=>Nat.blt p N)=true)(eg:∀args w,(callFunc f args).run P w=.ok (.enter f args) w)(aq:QdI P f ae Hc enc nx xs)(ay:∀x,(enc x).length=ps.length)
  (a6:Le H.length env (Qdt H π) env (Hp s0))(hV:V s0 xs)
  (ah:∀s l x rem,V s l->nx l x rem->TC P H.length N assign (QkY ps (enc x) env) (Hp s) λe env1 H1=>e=.normal/\TC P H.length N body env1 H1 (QiI H.length env Q λH2=>∃s',V s' rem/\H2=Hp s'))
  (am:∀s,V s []->Q .normal env (Hp s)):TC P h0 N (.rangeFunc ad ps.toArray assign body) env H Q:=by
 intro rd fr ro σ a w r hrd;have hv:=Qj r ad;rw[hg]at hv;obtain⟨l1,E,hv,bc,az⟩:=hv;obtain rfl:l1=[]:=bc;refine wpIn_rangeFunc ?_;intro fn bg;obtain⟨l,G,Y,df,he,hl,a2,a1,aw,bb,ai,aa⟩:=Qmb (P:=P) (fn:=fn) (tmps:=a.tmps) (ps:=ps.toArray) (assign:=assign) (body:=body) (ro:=ro) hrd r.sim.roLt r.sim.frLt;have s1:=r.sim.beside aa aw
 let D:Fix:=⟨fr,ro,σ,w,H.length,env,a.tmps,G++a.defers,l,(λst pe=>{state:=st,pending:=pe,fn:=fn,tmps:=a.tmps,params:=ps.toArray,assign:=assign,body:=body,defers:=df}),(λb=>fr b\/(w.heap.size<=b/\b<Y.heap.size))⟩
 have ag:¬fr l:=λq=>by have:=r.sim.frLt l q;omega
 have hD:D.Ok:=⟨λb q=>.inl q,.inr ⟨hl,a2⟩,ag,r.sim.len⟩;have M:QcY D.fr1 (G++a.defers) Y:=by
  refine⟨List.nodup_append.2 ⟨bb,r.defers.1,λd O d' bd e=>?_⟩,λd O=>?_⟩
  .subst e;obtain⟨B,e1,e2,_⟩:=ai d O;obtain⟨B',ax,a7,_⟩:=r.defers.2 d bd;rw[e1]at ax;have:B=B':=by simpa using ax
   subst this;have:=r.sim.frLt B a7;omega
  .rcases List.mem_append.1 O with O|O
   .obtain⟨B,e1,e2,e3,e4⟩:=ai d O;exact⟨B,e1,.inr ⟨e2,e3⟩,e4⟩
   .obtain⟨B,e1,e2,e3⟩:=(r.defers.keep aa).2 d O;exact⟨B,e1,.inl e2,e3⟩
 obtain⟨sp,hσc⟩:=s1.part hH hπ;have an:LR ro (Yf σ π) Y ae E:=(Qbr hσc).1 (hargs▸az.mono (aa.ext0 σ))
 let frX:Nat->Prop:=λb=>D.fr1 b\/(∃(j:Nat) (x:Blk),(Yf σ π)[j]?=some (some b)/\Hc[j]?=some x/\x.live=true)\/ ∃(j:Nat) (x:Blk) (d:Nat),(Yf σ π)[j]?=some (some d)/\Hc[j]?=some x/\Hid Y x d b
 have sX:Sim frX ro σ (Qdt H π) Y:=by
  refine(Qdj π s1).frames (λb q=>?_) (λb q r=>?_) (λi b x n m k r=>?_) (λi b x c n m k r=>?_)
  .rcases q with q|⟨j,x,n,m,k⟩|⟨j,x,d,n,m,k⟩
   .exact s1.frLt b q
   .exact(sp.own j b x n m k).1
   .exact(sp.hid j d x b n m k).lt
  .rcases r with r|⟨j,x,n,m,k⟩|⟨j,x,d,n,m,k⟩
   .exact s1.roFr b q r
   .exact(sp.own j b x n m k).2.1 q
   .exact(sp.hid j d x b n m k).ro q
  .rcases Qeq _ _ _ _ m with rfl|⟨m,hi⟩
   .cases k
   .rcases r with r|⟨j,y,p1,p2,p3⟩|⟨j,y,d,p1,p2,p3⟩
    .exact(s1.own i b x n m k).2.2 r
    .exact(sp.own j b y p1 p2 p3).2.2 (.inr (.inl ⟨i,x,n,m,k,hi (Qbv k)⟩))
    .exact(sp.hid j d y b p1 p2 p3).fr (.inr (.inl ⟨i,x,n,m,k,hi (Qbv k)⟩))
  .rcases Qeq _ _ _ _ m with rfl|⟨m,hi⟩
   .exact k.elim
   .rcases r with r|⟨j,y,p1,p2,p3⟩|⟨j,y,d,p1,p2,p3⟩
    .exact(s1.hid i b x c n m k).fr r
    .exact(sp.own j c y p1 p2 p3).2.2 (.inr (.inr ⟨i,x,b,n,m,k,hi k.holds⟩))
    .exact(sp.hid j d y c p1 p2 p3).fr (.inr (.inr ⟨i,x,b,n,m,k,hi k.holds⟩))
 have rX:Rel frX ro σ (Qdt H π) env N {a with defers:=G++a.defers} Y:=
  ⟨sX,λs=>(r.env s).mono (aa.ext0 σ),r.size,M.1,λd O=>let⟨B,e1,e2,e3⟩:=M.2 d O;⟨B,e1,.inl e2,e3⟩⟩
 obtain⟨ac,σ',r',ab,a5⟩:=a6 frX ro σ N _ Y rX;have hσt:σ.take H.length=σ:=by rw[<- r.sim.len,Vh]
 let g0:Nat->Prop:=λb=>D.fr1 b\/(ac b/\ ¬ro b)\/(∃(i:Nat) (x:Blk),σ'[i]?=some (some b)/\(Hp s0)[i]?=some x/\x.live=true)\/ ∃(i:Nat) (x:Blk) (d:Nat),σ'[i]?=some (some d)/\(Hp s0)[i]?=some x/\Hid Y x d b
 have j0:RJ D ac σ' (Hp s0) .ready none ro g0 Y:=by
  refine⟨r'.sim.frMono λb q=>.inl q,λt=>(r.env t).mono ⟨ab,aa.keepRo,aa.shape,λ_ _ q=>q⟩,a5.trans hσt,aa.trans (YK ab),M,a1,λb q=>?_,λb q=>.inl q,λi b x n m k=>.inr (.inr (.inl ⟨i,x,n,m,k⟩)),λi b x c n m k=>.inr (.inr (.inr ⟨i,x,b,n,m,k⟩)),λb q=>?_⟩
  .by_cases z:ro b
   .exact .inl z
   .exact .inr (.inr (.inl ⟨q,z⟩))
  .rcases q with q|q|⟨i,x,n,m,k⟩|⟨i,x,d,n,m,k⟩
   .exact s1.frLt b q
   .exact r'.sim.roLt b q.1
   .exact(r'.sim.own i b x n m k).1
   .exact(r'.sim.hid i d x b n m k).lt
 have sI:Sim g0 ro (Yf σ π) Hc Y:=by
  refine sp.frames (λb q=>j0.lt b q) (λb q z=>?_) (λj b x n m k z=>?_) (λj b x c n m k z=>?_)
  .rcases z with z|z|⟨i,x,n,m,k⟩|⟨i,x,d,n,m,k⟩
   .exact s1.roFr b q z
   .exact z.2 q
   .exact(r'.sim.own i b x n m k).2.1 (ab b q)
   .exact(r'.sim.hid i d x b n m k).ro (ab b q)
  .have hX:frX b:=.inr (.inl ⟨j,x,n,m,k⟩);rcases z with z|z|⟨i,y,p1,p2,p3⟩|⟨i,y,d,p1,p2,p3⟩
   .exact(sp.own j b x n m k).2.2 (.inl z)
   .exact r'.sim.roFr b z.1 hX
   .exact(r'.sim.own i b y p1 p2 p3).2.2 hX
   .exact(r'.sim.hid i d y b p1 p2 p3).fr hX
  .have hX:frX c:=.inr (.inr ⟨j,x,b,n,m,k⟩);rcases z with z|z|⟨i,y,p1,p2,p3⟩|⟨i,y,d,p1,p2,p3⟩
   .exact(sp.hid j b x c n m k).fr (.inl z)
   .exact r'.sim.roFr c z.1 hX
   .exact(r'.sim.own i c y p1 p2 p3).2.2 hX
   .exact(r'.sim.hid i d y c p1 p2 p3).fr hX
 let X:Ctx T:={l:=l,J:=λrem q g W=>∃s F σ1,V s rem/\RJ D F σ1 (Hp s) .ready none q g W,Jx:=λ_ q g W=>∃H2 c F σ1,Jump Q env c H2/\RJ D F σ1 H2 .done (some c) q g W,enc:=enc,nx:=nx}
 have av:∀p∈ps,p<N:=λp hp=>by simpa using Xw.1 a8 p hp
 have hX:X.ok P:=by
  refine⟨⟨λrem q g W W' ac ⟨s,F,σ1,L,R⟩ he=>⟨s,F,σ1,L,R.step hD he⟩,λrem q g g' W ⟨s,F,σ1,L,R⟩ hg hl=>⟨s,F,σ1,L,R.up hg hl⟩⟩,
   ⟨λrem q g W W' ac ⟨H2,c,F,σ1,L,R⟩ he=>⟨H2,c,F,σ1,L,R.step hD he⟩,λrem q g g' W ⟨H2,c,F,σ1,L,R⟩ hg hl=>⟨H2,c,F,σ1,L,R.up hg hl⟩⟩,?_⟩
  rintro lr x rem q g ri W vs a9 ⟨s,F,σ1,L,R⟩ hq hI a4;obtain⟨bf,tm,be,a3,y1,y2⟩:=RJ.round (D:=D) (Q:=Q) (K:=λH2=>∃s',V s' rem/\H2=Hp s') hD rfl r.size av (ay x) hq hI a4 R (ah s lr x rem L a9);refine⟨bf,tm,be,a3,y1,RoundIn.mono y2 ?_⟩;rintro e W' ⟨g',k1,k2⟩;refine⟨g',ri,λ_ z=>z,k1,?_⟩;rcases k2 with⟨rfl,H2,u,σ2,⟨s',ba,rfl⟩,k3⟩|⟨rfl,H2,c,u,σ2,k3,k4⟩
  .exact .inl ⟨rfl,s',u,σ2,ba,k3⟩
  .exact .inr ⟨rfl,H2,c,u,σ2,k3,k4⟩
 have ar:∀(ev:Operand->Value),ev ad=.func (.func f) #[] E.toArray->ev (.const (.func (.yield l) #[] #[]))=.func (.yield l) #[] #[]->(resolve ev (rangeCall ad l) 0).run P Y=.ok {target:=.fn (.func f) E.toArray,args:= #[.func (.yield l) #[] #[]]} Y:=by
  intro ev L R;simp[resolve,go_sem,L,R]
 refine⟨l,G,Y,{target:=.fn (.func f) E.toArray,args:= #[.func (.yield l) #[] #[]]},Y,f, #[.func (.yield l) #[] #[]]++E.toArray,Y,he,ar a.eval hv rfl,λ_ _=>trivial,by simp[invoke,go_sem,eg],λh=>by simp[WF,Fence.wide]at h,?_⟩;refine WF.calls.2 ?_;have aj:=aq X rfl rfl hX g0 ro (Yf σ π) Y E ro sI (λ_ z=>z) an ⟨s0,ac,σ',hV,j0⟩;have al:(#[.func (.yield l) #[] #[]]++E.toArray:Array Value)=((Value.func (.yield X.l) #[] #[]::E)).toArray:=by simp[X]
 rw[al];refine Calls.mono aj ?_;rintro e W' ⟨⟨v,rfl⟩,g2,qz,bh,a0⟩;have fin:∀(H2:Qc) (st:LoopState) (pe:Option Code) (u:Nat->Prop) (σ2:Sig),st≠ .busy->RJ D u σ2 H2 st pe qz g2 W'->∃w4,(Instr.endLoop l).run P W'=.ok pe w4/\Rel D.fr1 u σ2 H2 env N {a with defers:=G++a.defers} w4/\Qi fr ro w u w4:=by
  intro H2 st pe u σ2 hst j;refine⟨_,run_endLoop j.rc (by exact hst),?_⟩;obtain⟨s5,ak⟩:=j.sim.put (obj:=.loop {(D.rc st pe)with state:=.exhausted}) hD.l1 (Qbk j.rc);have hr:=j.rc;refine⟨⟨s5,λt=>((j.env t).mono ⟨λ_ q=>q,λ_ _=>rfl,λ_ _ q=>q,λi b q=>Qdm j.sig q⟩).mono (ak.ext0 σ2),r.size,j.marks.1,λd O=>?_⟩,j.ev.trans (ak.frMono λb q e=>ag (by have e':b=l:=e;rw[<- e'];exact q))⟩;obtain⟨B,e1,e2,e3⟩:=j.marks.2 d O;refine⟨B,e1,e2,(ak.keepFr B (λe=>?_)).trans e3⟩;subst e;rw[hr]at e3;cases e3
 have ao:Grow fr w a.defers D.fr1 (G++a.defers):=by
  refine⟨λb q=>.inl q,λb q=>q.imp id (λq=>q.1),λd O=>?_⟩;rcases List.mem_append.1 O with O|O
  .obtain⟨B,e1,e2,_⟩:=ai d O;exact .inr ⟨B,e1,e2⟩
  .exact .inl O
 have au:∀{σ2:Sig},σ2.take H.length=σ->σ2.take h0=σ.take h0:=by
  intro σ2 h;have:=congrArg (List.take h0) h
  rwa [List.take_take,XH hh]at this
 rcases a0 with⟨s,u,σ2,L,R⟩|⟨rem,H2,c,u,σ2,L,R⟩
 .obtain⟨w4,f1,f2,f3⟩:=fin _ _ _ u σ2 (by intro e;cases e) R;exact⟨none,w4,f1,.normal,env,_,u,σ2,_,rfl,am s L,f2,f3,au R.sig,ao⟩
 .obtain⟨w4,f1,f2,f3⟩:=fin _ _ _ u σ2 (by intro e;cases e) R;refine⟨some c,w4,f1,?_⟩;have hc:TC P h0 N c env H2 Q:=by
   rcases L with⟨id,rfl,L⟩|⟨rfl,L⟩
   .exact TC.exit L
   .exact TC.ret L
  exact Code.wpIn_mono (λe a w q=>q.grow f3 (au R.sig) ao) (hc rd D.fr1 u σ2 _ w4 f2 (hrd.to f3 λb q=>.inl q))
end Go.Sw
namespace Go.Sw
theorem Qh0{h0 i k t T:Nat}{env:Env}{H:Qc}(hh:Nat.ble h0 H.length=true)(O:H[i]?=some (.cells T [.nils])):Le h0 env H env (H.set i (.cells T [.osl H.length 0 0 k])++[.row t k []]):=by
 intro fr E σ N a w r;have L:h0<=H.length:=XY hh;have P:i<H.length:=(XS.1 O).1;have ext:Ext E σ w E (σ++[none]) w:=⟨λ_ q=>q,λ_ _=>rfl,λ_ _ q=>q,λ_ _ h=>Jj h⟩;have s:=r.sim.phantom t k;have p:(H++[Blk.row t k []])[i]?=some (.cells T [.nils]):=by rw[XT P];exact O
 have X:H.set i (.cells T [.osl H.length 0 0 k])++[.row t k []]=(H++[Blk.row t k []]).set i (.cells T [.osl H.length 0 0 k]):=by
  rw[List.set_append_left _ _ P]
 have g:∀(j:Nat) (v:Blk),((H++[Blk.row t k []]).set i (.cells T [.osl H.length 0 0 k]))[j]?=some v->(j=i/\v=.cells T [.osl H.length 0 0 k])\/(j≠i/\(H++[Blk.row t k []])[j]?=some v):=by
  intro j v h;by_cases e:j=i
  .subst e;rw[Xa (by simp;omega)]at h;exact .inl ⟨rfl,by simpa using h.symm⟩
  .rw[XW (λq=>e q.symm)]at h;exact .inr ⟨e,h⟩
 have f:∀(j:Nat) (v:Blk),((H++[Blk.row t k []]).set i (.cells T [.osl H.length 0 0 k]))[j]?=some v->v.live=true->∃u,(H++[Blk.row t k []])[j]?=some u/\u.live=true:=by
  intro j v h V;rcases g j v h with⟨rfl,rfl⟩|⟨_,h⟩
  .exact⟨_,p,rfl⟩
  .exact⟨v,h,V⟩
 refine⟨E,σ++[none],⟨?_,λq=>(r.env q).mono ext,r.size,r.defers⟩,λ_ q=>q,QW (by rw[r.sim.len];exact L)⟩;rw[X];refine⟨by rw[Vb];exact s.len,s.roOk,s.frLt,s.roFr,λj b v z B G=>?_,λj Q b v u z B G Y q5 q6=>?_,λj y v z B=>?_,
  s.hidTo (· = ·) Q8 (X0 _) (λ_ _ _ _ _ _ _ q=>q) (λ_ _ _ _ _ _ _ q=>q) λj d y m n M=>.inl ?_⟩
 rotate_left 3
 .rcases g j y n with⟨rfl,rfl⟩|⟨_,h⟩
  .exact⟨j,_,rfl,m,p,λ_=>rfl,λ_ q=>q.elim⟩
  .exact⟨j,y,rfl,m,h,id,λ_ q=>q⟩
 .obtain⟨u,m,n⟩:=f j v B G;exact s.own j b u z m n
 .obtain⟨x,m,n⟩:=f j v G q5;obtain⟨W,J,F⟩:=f Q u Y q6;exact s.inj j Q b x W z B m J n F
 .rcases g j v B with⟨rfl,rfl⟩|⟨_,h⟩
  .have:=s.blk j y _ z p;cases y with
   |none=>exact this
   |some b=>
    obtain⟨l,m,⟨v1,R,rfl,n,M⟩,g4⟩:=this;refine⟨_,m,⟨v1,R,rfl,.inl ⟨rfl,n⟩,?_⟩,g4⟩;obtain rfl:R=[]:=M;rfl
  .exact s.blk j y v z h
theorem QnH{h0 i:Nat}{env:Env}{H:Qc}{es:List (A×A)}(e:H[i]?=some (.map es)):Le h0 env H env (H.set i (.fmap es)):=by
 intro f g σ N a w r;have d:∃s,σ[i]?=some s:=by
  have:i<σ.length:=by rw[r.sim.len];exact(XS.1 e).1
  exact⟨_,XR this⟩
 obtain⟨s,d⟩:=d;cases s with
 |none=>exact(r.sim.blk i _ _ d e).elim
 |some b=>
  refine⟨_,σ,⟨r.sim.shutMap d e,λq=>(r.env q).mono ⟨λ_ q=>.inl q,λ_ _=>rfl,λ_ _ q=>q,λ_ _ q=>q⟩,r.size,r.defers⟩,λ_ q=>.inl q,rfl⟩
def anyN{T:Type}(l:List T)(x:T)(rem:List T):Prop:=l.Perm (x::rem)
def Qmm(ts te:Nat)(ld:Op):Code:=.block 1 (.region 3 #[{dst:=some 8,op:=.load ts (.tmp 2),type:=ts,pos:="iter.go:52",after:= #[],guard:=none},{dst:=some 9,op:=ld,type:=te,pos:="iter.go:52",after:= #[],guard:=none},
 {dst:=some 10,op:=.buildSlice ts 1 #[(0,.tmp 9)],type:=ts,pos:="iter.go:52",after:= #[{on:=1,ground:=.data}],guard:=none},
 {dst:=some 11,op:=.call {callee:=.builtin .append,args:= #[.tmp 8,.tmp 10],argTypes:= #[ts,ts]},type:=ts,pos:="iter.go:52",after:= #[{on:=0,ground:=.data},{on:=2,ground:=.data}],guard:=none},
 {dst:=none,op:=.store ts (.tmp 2) (.tmp 11),type:=0,pos:="iter.go:52",after:= #[{on:=3,ground:=.data},{on:=3,ground:=.chain},{on:=0,ground:=.phase},{on:=1,ground:=.phase},{on:=2,ground:=.phase},{on:=3,ground:=.phase}],guard:=none}] false)
def QoI(ts tq te:Nat)(asg:Code)(ld:Op):Code:=(Code.region 0 #[{dst:=some 2,op:=.box ts (.tmp 0),type:=0,pos:="iter.go:50",after:= #[],guard:=none},{dst:=some 4,op:=.assign (.const (.slice none 0 0)),type:=ts,pos:="iter.go:50",after:= #[],guard:=none}] false).seq
 (((Code.region 1 #[{dst:=some 6,op:=.move (.tmp 1),type:=tq,pos:="iter.go:51",after:= #[],guard:=none}] false).seq (.block 0 (.rangeFunc (.tmp 6) #[7] asg (Qmm ts te ld)))).seq
  ((Code.region 4 #[{dst:=some 12,op:=.load ts (.tmp 2),type:=ts,pos:="iter.go:54",after:= #[],guard:=none},{dst:=some 4,op:=.assign (.tmp 12),type:=ts,pos:="iter.go:54",after:= #[{on:=0,ground:=.data},{on:=0,ground:=.phase}],guard:=none}] false).seq .ret))
def QoJ(te:Nat):Code:=.region 2 #[{dst:=some 5,op:=.assign (.tmp 7),type:=te,pos:="iter.go:51",after:= #[],guard:=none}] false
section
variable {P:Program}{T:Type}{ts tq te k tm:Nat}{g:FuncId}{es:List (A×A)}{e:T->List A}{ea:T->A}{xs:List T}
abbrev apH(ts te k tm:Nat)(es:List (A×A))(e:T->List A)(done:List T):Qc:=[.dead,.fmap es,.cells ts [.osl 3 0 done.length k],.row te k (done.map e)]
abbrev apE(g:FuncId):Env:=[(6,.fn (.func g) [] [.ptr 0 0]),(4,.nils),(2,.ptr 2 0),(0,.nils),(1,.fn (.func g) [] [.ptr 0 0])]
theorem Qnw{N:Nat}(R:N=13){done:List T}{x:T}{env:Env}{H:Qc}{K:Qc->Prop}{j:Op}(E:Q1 P ts te k)(V:∀w,(isAgg ts).run P w=.ok false w)(O:∀w,(sizeOf ts).run P w=.ok 1 w)(L:app done [x]=some (done++[x]))
  (u:(e x).length=k)(f:Nat.ble k 16777216=true)(h:Yu (ea x)=true)(b:Yj (ea x)=e x)(a:(e x).all YF=true)(B:Yt (e x)=true)(J:Nat.ble 3 H.length=true)
  (l:lk env 2=.ptr 2 0)(p:H[2]?=some (.cells ts [.osl 3 0 done.length k]))(r:H[3]?=some (.row te k (done.map e)))
  (d:∀env',(∀s,s≠8->lk env' s=lk env s)->∀pos,OpV P {dst:=some 9,op:=j,type:=te,pos:=pos,after:= #[],guard:=none} env' H (ea x))
  (M:∀env',∃H2,Le 3 env' (((((H++[Blk.row te k [e x]]).set 3 .dead)++[Blk.row te k ((done++[x]).map e)]).set 2 (.cells ts [.osl (H.length+1) 0 (done++[x]).length k]))) [] H2/\K H2){env0:Env}{Q:QC}:
  TC P 3 N (Qmm ts te j) env H (QiI 3 env0 Q K):=by
 subst R;have F:3<=H.length:=XY J;have G:3<H.length:=(XS.1 r).1;refine TC.block (TC.region ?_);refine QG rfl rfl rfl (OpV.load (v:=.osl 3 0 done.length k) (cs:=[]) rfl V l (Pts.cells p rfl)) ?_;refine QG rfl rfl rfl (x:=ea x) ?_ ?_
 .refine d _ (λs z=>?_) _;simp only[up,lk];have:Nat.beq s 8=false:=by
   rw[Bool.eq_false_iff];intro q;exact z (XX q)
  rw[this];rfl
 refine Qcl (by omega) rfl rfl rfl (OpH.lit (xs:=[.tmp 9]) (es:=[e x]) E rfl rfl (by simpa using f) ?_ ?_ ⟨u,trivial⟩ (by simpa using a) (by simpa using B)) ?_
 .simp[opA,lk,up,h]
 .simp[Yo,opA,lk,up,b]
 refine Qcl (x:=.osl (H.length+1) 0 (done++[x]).length k) (H':=((H++[Blk.row te k [e x]]).set 3 .dead)++[Blk.row te k ((done++[x]).map e)]) (by simp;omega) rfl rfl rfl ?_ ?_
 .have:=Qs (P:=P) (o:={dst:=some 11,op:=.call {callee:=.builtin .append,args:= #[.tmp 8,.tmp 10],argTypes:= #[ts,ts]},type:=ts,pos:="iter.go:52",after:= #[{on:=0,ground:=.data},{on:=2,ground:=.data}],guard:=none})
   (env:=up (up (up env 8 (.osl 3 0 done.length k)) 9 (ea x)) 10 (.osl H.length 0 1 k)) (H:=H++[Blk.row te k [e x]]) (x:=.tmp 8) (y:=.tmp 10) (e:=e) (m:=[x]) (i:=3) (n:=done.length) (ya:=.osl H.length 0 1 k) L E E.sl (Yk (t:=te) (by simp) rfl) rfl rfl rfl rfl (by rw[XT G];exact r) rfl
  simpa using this
 refine QiG (by simp;omega) rfl rfl (OpU.store (i:=2) (off:=0) (T:=ts) (n:=1) (cs:=[.osl 3 0 done.length k]) (vs:=[.osl (H.length+1) 0 (done++[x]).length k]) (cs':=[.osl (H.length+1) 0 (done++[x]).length k]) (v:=.osl (H.length+1) 0 (done++[x]).length k) rfl ?_ ?_ O rfl rfl rfl rfl rfl rfl rfl) ?_
 .exact l
 .have g:2<H.length:=by omega
  rw[XT (by simp;omega),XW (by decide),XT g];exact p
 .refine WO.nil ?_;exact M _
theorem Qml{xs done l rem:List T}{x:T}(f:Nat.ble xs.length Q5=true)(a:(done++l).Perm xs)(b:l.Perm (x::rem)):app done [x]=some (done++[x])/\((done++[x])++rem).Perm xs:=by
 have d:=a.length_eq;have e:=b.length_eq;have g:=XY f;simp at d e;refine⟨?_,?_⟩
 .unfold app;have:Nat.ble (done.length+[x].length) Q5=true:=XZ (by simp;omega);rw[this];rfl
 .refine List.Perm.trans ?_ a;simp only[Vq,List.singleton_append];exact(List.Perm.append_left done b).symm
theorem Qf7{j:FuncId}{fn:Func}(L:P.funcs[j]?=some fn)(y:fn.body=some (QoI ts tq te (QoJ te) (.move (.tmp 5))))(M:fn.ntmps=13)(n:fn.results= #[.tmp 4])(E:Q1 P ts te 1)(m:∀w,(isAgg ts).run P w=.ok false w)(G:∀w,(sizeOf ts).run P w=.ok 1 w)
  (F:∀args w,(callFunc g args).run P w=.ok (.enter g args) w)(b:QdI P g [.ptr 0 0] [.cells tm [.map 1],.fmap es] (λx=>[ea x]) anyN xs)(s:Nat.ble xs.length Q5=true)
  (N:∀x,QbF (ea x)=true)(h:∀x,Yu (ea x)=true)(f:∀x,Yj (ea x)=[ea x])(e:∀x,YF (ea x)=true)(q:∀x,Yq (ea x)=true):
  C P j [.nils,.fn (.func g) [] [.ptr 0 0]] [.cells tm [.map 1],.fmap es] (λr H1=>∃p:List T,p.Perm xs/\r=.osl 2 0 p.length 1/\H1=[.dead,.fmap es,.row te 1 (p.map λx=>[ea x])]):=by
 refine Qb L y M rfl ?_;refine TC.seq (TC.region ?_);refine Qcl (XY rfl) rfl rfl rfl (OpH.box (v:=.nils) (cs:=[.nils]) rfl rfl rfl rfl rfl) ?_;refine QG rfl rfl rfl (OpV.assign (v:=.nils) rfl rfl) ?_;refine WO.nil ?_;refine TC.seq (TC.seq (TC.region ?_));refine QG rfl rfl rfl (OpV.move (v:=.fn (.func g) [] [.ptr 0 0]) rfl rfl) ?_;refine WO.nil ?_;refine TC.block ?_;refine TC.rangeFunc (env:=apE g) (ps:=[7]) (S:=List T) [0,1] (apH ts te 1 tm es (λx=>[ea x])) (λdone l=>(done++l).Perm xs) [] (XY rfl) rfl rfl rfl (by decide) rfl F b (λx=>rfl) ?_ (List.Perm.refl _) ?_ ?_
 .exact Qh0 (h0:=3) (i:=2) (t:=te) (k:=1) (H:=[.dead,.fmap es,.cells ts [.nils]]) rfl rfl
 .intro done l x rem d B;obtain⟨z,u⟩:=Qml s d B;refine TC.region (QG rfl rfl rfl (OpV.assign (v:=ea x) rfl rfl) (WO.nil ⟨rfl,?_⟩));refine Qnw (ea:=ea) rfl E m G z rfl rfl (h x) (f x) (by simp[e x]) (by simp[Yt,q x]) rfl rfl rfl rfl ?_ ?_
  .intro a J pos;exact OpV.move rfl (by show lk a 5=ea x;rw[J 5 (by decide)];rfl)
  .intro a;exact⟨_,Lr (H':=apH ts te 1 tm es (λx=>[ea x]) (done++[x])) [0,1,2,5],_,u,rfl⟩
 .intro done d;rw[Vo]at d;refine TC.seq (TC.region ?_);refine QG rfl rfl rfl (OpV.load (v:=.osl 3 0 done.length 1) (cs:=[]) rfl m rfl (Pts.cells rfl rfl)) ?_;refine QG rfl rfl rfl (OpV.assign (v:=.osl 3 0 done.length 1) rfl rfl) ?_;refine WO.nil ?_;refine TC.ret ?_;exact⟨[(4,.osl 2 0 done.length 1)],[.dead,.fmap es,.row te 1 (done.map λx=>[ea x])],_,Lr [0,1,3],QcS.one n rfl,done,d,rfl,rfl⟩
end
theorem TCy.le{T:Type}{X:Ctx T}{P:Program}{h0 N:Nat}{c:Code}{env env':Env}{H H':Qc}{l:YSt T}{Q:YA T}(k:Le h0 env H env' H')(h:TCy X P h0 N c env' H' l Q):TCy X P h0 N c env H l Q:=by
 intro p u m x σ a w g r hj hrd;obtain⟨f,σ',n,s,t⟩:=k m x σ N a w r;obtain⟨⟨y,i,d⟩,j⟩:=hj;exact Code.wpIn_mono (λe a w q=>q.grow s (X0 _) t (Grow.refl _ _ _)) (h p u m f σ' a w g n ⟨⟨y,λb z=>s b (i b z),d⟩,j⟩ hrd)
mutual
theorem QgV:∀{a:A},QbF a=true->Yq a=true
 |.any,_=>rfl
 |.bool _,_=>rfl
 |.int _ _,_=>rfl
 |.str _,_=>rfl
 |.nilp,_=>rfl
 |.ptr _ _,h=>by simp[QbF]at h
 |.rp _,_=>rfl
 |.nils,_=>rfl
 |.rsl _ _,_=>rfl
 |.osl _ _ _ _,h=>by simp[QbF]at h
 |.agg cs,h=>by simp only[QbF]at h;simp only[Yq];exact Qfw h
 |.fn _ a c,h=>by simp[QbF]at h
 |.nilf,_=>rfl
 |.iface _ v,h=>by simp[QbF]at h
 |.nilif,_=>rfl
 |.map _,h=>by simp[QbF]at h
 |.nilm,_=>rfl
 |.tup vs,h=>by simp[QbF]at h
theorem Qfw:∀{l:List A},Qd6 l=true->Yt l=true
 |[],_=>rfl
 |a::r,h=>by
  simp only[Qd6,X4]at h;simp only[Yt,X4];exact⟨QgV h.1,Qfw h.2⟩
end
theorem QgQ{P:Program}{o:Oper}{env:Env}{H:Qc}{y z:Operand}{l:Nat}{a:A}{i:Array TypeId}(k:o.op=.call {callee:=.value y,args:= #[z],argTypes:=i})(m:opA env y=.fn (.yield l) [] [])(g:opA env z=a)(f:Yq a=true){N:Nat}:
  ∀fr ro σ act w,Rel fr ro σ H env N act w->∃vs:List Value,LR ro [] w [a] vs/\(execOp act.eval o).run P w=(Instr.yield l vs.toArray).run P w:=by
 intro fr ro σ act w r;have b:=Qj r y;rw[m]at b;obtain⟨j,h,b,e,n⟩:=b;obtain rfl:j=[]:=e;obtain rfl:h=[]:=n;have d:=Qj r z;rw[g]at d;refine⟨[act.eval z],⟨_,_,rfl,VR.data f d,rfl⟩,?_⟩;generalize act.eval=ev at*;simp[execOp,k,resolve,invoke,go_sem,b]
theorem QjI{P:Program}{o:Oper}{env:Env}{H:Qc}{y d b:Operand}{l:Nat}{j h:A}{s:Array TypeId}(p:o.op=.call {callee:=.value y,args:= #[d,b],argTypes:=s})(t:opA env y=.fn (.yield l) [] [])(i:opA env d=j)(e:opA env b=h)(f:Yq j=true)(g:Yq h=true){N:Nat}:
  ∀fr ro σ act w,Rel fr ro σ H env N act w->∃vs:List Value,LR ro [] w [j,h] vs/\(execOp act.eval o).run P w=(Instr.yield l vs.toArray).run P w:=by
 intro fr ro σ act w r;have a:=Qj r y;rw[t]at a;obtain⟨u,q,a,n,x⟩:=a;obtain rfl:u=[]:=n;obtain rfl:q=[]:=x;have k:=Qj r d;rw[i]at k;have m:=Qj r b;rw[e]at m;refine⟨[act.eval d,act.eval b],⟨_,_,rfl,VR.data f k,_,_,rfl,VR.data g m,rfl⟩,?_⟩;generalize act.eval=ev at*;simp[execOp,p,resolve,invoke,go_sem,a]
def QlC(tm tb ty tk:Nat)(asg:Array Oper)(ld:Op):Code:=
 (Code.region 0 #[{dst:=some 4,op:=.load tm (.tmp 1),type:=tm,pos:="iter.go:27",after:= #[],guard:=none},{dst:=some 5,op:=.range tm (.tmp 4),type:=0,pos:="iter.go:27",after:= #[{on:=0,ground:=.data}],guard:=none}] false).seq
 (.block 0 (Code.loop ((Code.region 1 #[{dst:=some 6,op:=.next (.tmp 5) false,type:=0,pos:="iter.go:27",after:= #[],guard:=none},{dst:=some 7,op:=.extract (.tmp 6) 0,type:=tb,pos:="iter.go:27",after:= #[{on:=0,ground:=.data}],guard:=none}] false).seq
  ((Code.cond (.tmp 7) .skip (.exit 0)).seq (.block 1 ((Code.region 2 asg false).seq
   ((Code.region 3 #[{dst:=some 10,op:=.move (.tmp 0),type:=ty,pos:="iter.go:28",after:= #[],guard:=none},{dst:=some 11,op:=ld,type:=tk,pos:="iter.go:28",after:= #[],guard:=none},
    {dst:=some 12,op:=.call {callee:=.value (.tmp 10),args:= #[.tmp 11],argTypes:= #[tk]},type:=tb,pos:="iter.go:28",after:= #[{on:=0,ground:=.data},{on:=1,ground:=.data}],guard:=none},
    {dst:=some 13,op:=.unOp .not tb (.tmp 12),type:=tb,pos:="iter.go:28",after:= #[{on:=2,ground:=.data}],guard:=none}] false).seq (.cond (.tmp 13) .ret .skip))))))))
def Qot(tk:Nat):Array Oper:= #[{dst:=some 8,op:=.entry (.tmp 5),type:=0,pos:="iter.go:27",after:= #[],guard:=none},{dst:=some 9,op:=.extract (.tmp 8) 0,type:=tk,pos:="iter.go:27",after:= #[{on:=0,ground:=.data}],guard:=none},
 {dst:=some 3,op:=.assign (.tmp 9),type:=tk,pos:="iter.go:27",after:= #[{on:=1,ground:=.data},{on:=0,ground:=.phase},{on:=1,ground:=.phase}],guard:=none}]
section
variable {P:Program}{K V:Type}{tm tb ty tk kt et:Nat}{ek:K->A}{ev:V->A}{m:List (K×V)}{T:Type}
abbrev kyE(l:Nat):Env:=[(0,.fn (.yield l) [] []),(1,.ptr 0 0),(5,.ptr 2 0)]
abbrev kyH(tm:Nat)(ek:K->A)(ev:V->A)(m l:List (K×V)):Qc:=[.cells tm [.map 1],.fmap (Qx ek ev m),.iter none (Qx ek ev l)]
theorem QjV{g:FuncId}{fn:Func}{h:Array Oper}{r:Op}(N:P.funcs[g]?=some fn)(J:fn.body=some (QlC tm tb ty tk h r))(R:fn.ntmps=14)(E:fn.results= #[])(T:∀w,(isAgg tm).run P w=.ok false w)(M:P.underlying tm=some (.map kt et))(B:∀x,QbF (ek x)=true)
  (round:∀(X:Ctx K) (e:K×V) (l:List (K×V)) (env:Env) (H:Qc) (f:YSt K) (Q:YA K),lk env 0=.fn (.yield X.l) [] []->lk env 1=.ptr 0 0->lk env 5=.ptr 2 0->H=[.cells tm [.map 1],.fmap (Qx ek ev m),.iter (some (ek e.1,ev e.2)) (Qx ek ev l)]->
   (∀env' H',lk env' 0=.fn (.yield X.l) [] []->lk env' 1=.ptr 0 0->lk env' 5=.ptr 2 0->(∀env2 b,lk env2 0=.fn (.yield X.l) [] []->lk env2 1=.ptr 0 0->lk env2 5=.ptr 2 0->Le 2 (up (up env2 12 (.bool b)) 13 (.bool (!b))) H' (kyE X.l) (kyH tm ek ev m l))->
    (∀pos env2,(∀s,s≠10->lk env2 s=lk env' s)->OpV P {dst:=some 11,op:=r,type:=tk,pos:=pos,after:= #[],guard:=none} env2 H' (ek e.1))->Nat.ble 2 H'.length=true->Q .normal env' H' f)->
   TCy X P 2 14 (.region 2 h false) env H f Q):
  QdI P g [.ptr 0 0] [.cells tm [.map 1],.fmap (Qx ek ev m)] (λx=>[ek x]) anyN (m.map Prod.fst):=by
 refine QcQ N J R rfl E ?_;intro X hE hNx;refine TCy.seq (TCy.lift (TC.region ?_));refine QG rfl rfl rfl (OpV.load (v:=.map 1) (cs:=[]) rfl T rfl (Pts.cells rfl rfl)) ?_;refine Qcl (XY rfl) rfl rfl rfl (QiN M) ?_;refine WO.nil ?_;refine TCy.block ?_;refine Qf0 (I:=λn env H f=>∃l:List (K×V),l.length=n/\f=.on (l.map Prod.fst)/\Le 2 env H (kyE X.l) (kyH tm ek ev m l)) ?_ ⟨m,rfl,rfl,Lr [0,1,2]⟩;rintro n env H f ⟨l,L,rfl,p⟩;refine TCy.le p ?_;refine TCy.seq (TCy.lift (TC.region ?_));refine Qms (XY rfl) rfl rfl rfl (OpE.next rfl rfl rfl) ?_;rintro v H' (⟨k,rfl,rfl⟩|⟨W,F,k,rfl,rfl⟩)
 .have G:l=[]:=List.map_eq_nil_iff.1 k;subst G;refine QG rfl rfl rfl (OpV.extract (v:=.bool false) rfl rfl rfl) ?_;refine WO.nil ?_;refine TCy.seq (TCy.cond (t:=false) rfl (λe=>by cases e) (λ_=>?_));exact TCy.exit ⟨.inl rfl,.inl rfl⟩
 .obtain⟨O,u,j⟩:=QjQ k rfl;cases O with
  |nil=>cases j
  |cons e i=>
   simp only[Vr,List.cons.injEq]at j;obtain⟨rfl,rfl⟩:=j;have d:i.length<n:=by rw[<- L, <- u.length_eq];simp
   refine QG rfl rfl rfl (OpV.extract (v:=.bool true) rfl rfl rfl) ?_;refine WO.nil ?_;refine TCy.seq (TCy.cond (t:=true) rfl (λ_=>?_) (λe=>by cases e));refine TCy.skip ?_;refine TCy.block ?_;refine TCy.seq (round X e i _ _ _ _ rfl rfl rfl rfl ?_);intro env' H' g0 g1 g5 hfin hld hL;refine TCy.seq (TCy.region ?_);refine WOy.step (QG rfl rfl rfl (OpV.move (v:=.fn (.yield X.l) [] []) rfl g0) (WO.nil ⟨rfl,?_⟩));refine WOy.step (QG rfl rfl rfl (x:=ek e.1) (hld _ _ λs q=>?_) (WO.nil ⟨rfl,?_⟩))
   .simp only[up,lk];have:Nat.beq s 10=false:=by rw[Bool.eq_false_iff];intro z;exact q (XX z)
    rw[this];rfl
   refine WOy.yield (x:=e.1) (rem:=i.map Prod.fst) ?_ rfl rfl rfl ?_ ?_
   .rw[hNx];exact u.symm.map Prod.fst
   .rw[hE];refine QgQ (y:=.tmp 10) (z:=.tmp 11) (l:=X.l) (a:=ek e.1) rfl ?_ ?_ (QgV (B _))
    .rfl
    .rfl
   .intro b;refine WOy.step (QG rfl rfl rfl (OpV.not (b:=b) rfl rfl) (WO.nil ⟨rfl,?_⟩));refine WOy.nil ?_;refine TCy.cond (t:= !b) rfl (λq=>?_) (λq=>?_)
    .obtain rfl:b=false:=by simpa using q
     exact TCy.ret ⟨.inr rfl,.inr ⟨_,rfl⟩⟩
    .obtain rfl:b=true:=by simpa using q
     refine TCy.skip ?_;exact⟨_,d,i,rfl,rfl,hfin _ true g0 g1 g5⟩
theorem Qe2{g:FuncId}{fn:Func}(p:P.funcs[g]?=some fn)(q:fn.body=some (QlC tm tb ty tk (Qot tk) (.move (.tmp 3))))(r:fn.ntmps=14)(j:fn.results= #[])(s:∀w,(isAgg tm).run P w=.ok false w)(n:P.underlying tm=some (.map kt et))(h:∀x,QbF (ek x)=true):
  QdI P g [.ptr 0 0] [.cells tm [.map 1],.fmap (Qx ek ev m)] (λx=>[ek x]) anyN (m.map Prod.fst):=by
 refine QjV (et:=et) (kt:=kt) p q r j s n h ?_;intro X e l env H st Q g0 g1 g5 hH hk;subst hH;refine TCy.lift (TC.region ?_);refine QG rfl rfl rfl (OpV.entry (e:=(ek e.1,ev e.2)) rfl g5 rfl) ?_;refine QG rfl rfl rfl (OpV.extract (v:=ek e.1) rfl rfl rfl) ?_;refine QG rfl rfl rfl (OpV.assign (v:=ek e.1) rfl rfl) ?_;refine WO.nil ?_;refine hk _ _ g0 g1 g5 ?_ ?_ rfl
 .intro a b t f d;exact Le.trans (QkO (i:=2) (es:=Qx ek ev l) rfl rfl) (Lr [0,1,2] (hE:=⟨t,f,d,trivial⟩))
 .intro pos a k;exact OpV.move rfl (by show lk a 3=_;rw[k 3 (by decide)];rfl)
end
def QoE(ts tq fA:Nat):Code:=(Code.region 0 #[{dst:=some 2,op:=.assign (.const (.slice none 0 0)),type:=ts,pos:="iter.go:59",after:= #[],guard:=none}] false).seq
 ((Code.region 1 #[{dst:=some 3,op:=.move (.tmp 0),type:=tq,pos:="iter.go:60",after:= #[],guard:=none},
  {dst:=some 4,op:=.call {callee:=.value (.func fA),args:= #[.const (.slice none 0 0),.tmp 3],argTypes:= #[ts,tq]},type:=ts,pos:="iter.go:60",after:= #[{on:=0,ground:=.data}],guard:=none},
  {dst:=some 2,op:=.assign (.tmp 4),type:=ts,pos:="iter.go:60",after:= #[{on:=1,ground:=.data},{on:=1,ground:=.chain},{on:=0,ground:=.phase},{on:=1,ground:=.phase}],guard:=none}] false).seq .ret)
theorem Qf6{P:Program}{T:Type}{f l b k j:Nat}{g:FuncId}{es:List (A×A)}{e:T->List A}{xs:List T}{fC a:FuncId}{fn:Func}(n:P.funcs[fC]?=some fn)(q:fn.body=some (QoE f l a))(u:fn.ntmps=5)(m:fn.results= #[.tmp 2])
  (i:∀(env:Env) (H:Qc),lk env 3=.fn (.func g) [] [.ptr 0 0]->OpC P {dst:=some 4,op:=.call {callee:=.value (.func a),args:= #[.const (.slice none 0 0),.tmp 3],argTypes:= #[f,l]},type:=f,pos:="iter.go:60",after:= #[{on:=0,ground:=.data}],guard:=none} env H a [.nils,.fn (.func g) [] [.ptr 0 0]])
  (t:C P a [.nils,.fn (.func g) [] [.ptr 0 0]] [.cells j [.map 1],.fmap es] (λr H1=>∃p:List T,p.Perm xs/\r=.osl 2 0 p.length k/\H1=[.dead,.fmap es,.row b k (p.map e)])):
  C P fC [.fn (.func g) [] [.ptr 0 0]] [.cells j [.map 1],.fmap es] (λr H1=>∃p:List T,p.Perm xs/\r=.osl 2 0 p.length k/\H1=[.dead,.fmap es,.row b k (p.map e)]):=by
 refine Qb n q u rfl ?_;refine TC.seq (TC.region ?_);refine QG rfl rfl rfl (OpV.assign (v:=.nils) rfl rfl) ?_;refine WO.nil ?_;refine TC.seq (TC.region ?_);refine QG rfl rfl rfl (OpV.move (v:=.fn (.func g) [] [.ptr 0 0]) rfl rfl) ?_;refine WO.call (d:=some 4) [0,1] (XY rfl) rfl rfl (λx h=>by cases h;decide) (i _ _ rfl) rfl rfl (by decide) t ?_;rintro r H1 ⟨p,s,rfl,rfl⟩;refine QG rfl rfl rfl (OpV.assign (v:=.osl 2 0 p.length k) rfl rfl) ?_;refine WO.nil ?_;refine TC.ret ?_;exact⟨[(2,.osl 2 0 p.length k)],[.dead,.fmap es,.row b k (p.map e)],_,Lr [0,1,2],QcS.one m rfl,p,s,rfl,rfl⟩
def Qmn{K R:Type}[DecidableEq R](l:List K)(k:List K->Option R):Option R:=bif Nat.ble l.length Q5 then anyP k l else none
theorem Qjs{K R:Type}[DecidableEq R]{l:List K}{k:List K->Option R}{r:R}(h:Qmn l k=some r):Nat.ble l.length Q5=true/\ ∀p,p.Perm l->k p=some r:=by
 unfold Qmn at h;cases q:Nat.ble l.length Q5 with
 |true=>rw[q]at h;exact⟨rfl,Qnx h⟩
 |false=>rw[q]at h;cases h
end Go.Sw
namespace Go.Sw
section
variable {P:Program}{o:Oper}{env:Env}{H:Qc}{fr ro:Nat->Prop}{σ:Sig}{w:World}
end
section
variable {P:Program}{h0 N:Nat}{A B C:Code}{env:Env}{H:Qc}{Q:QC}
end
end Go.Sw
namespace Go.Sw
section
variable {P:Program}{o:Oper}{env:Env}{H:Qc}
def YO(k:IntKind)(m n:Int):Int:=k.wrap (BitVec.ofInt k.bits m&&& BitVec.ofInt k.bits n).toNat
def YR(k:IntKind)(m n:Int):Int:=m.fdiv (2^(min n.toNat k.bits))
theorem OpV.and{t u:TypeId}{x y:Operand}{k:IntKind}{m n:Int}(e:o.op=.binOp .and t x y u)(g:opA env x=.int k m)(f:opA env y=.int k n):OpV P o env H (.int k (YO k m n)):=by
 intro h i σ N a w r;have b:=Q2 r g;have d:=Q2 r f;refine⟨_,?_,rfl⟩;generalize a.eval=ρ at*;simp[execOp,e,b,d,Go.binOp,eqGuard,Op.intBits,go_sem,YO]
theorem OpV.shr{t u:TypeId}{x y:Operand}{k e:IntKind}{m n:Int}(g:o.op=.binOp .shr t x y u)(i:opA env x=.int k m)(h:opA env y=.int e n)(d:0<=n):OpV P o env H (.int k (YR k m n)):=by
 intro l j σ N a w r;have b:=Q2 r i;have f:=Q2 r h;refine⟨_,?_,rfl⟩;generalize a.eval=ρ at*;simp[execOp,g,b,f,Go.binOp,eqGuard,Op.shift,go_sem,YR,Int.not_lt.2 d]
theorem Yl{h0 i m t k T:Nat}{cs:List A}(J:Nat.ble h0 H.length=true)(n:H[i]?=some (.cells T cs))(e:cs[m]?=some .nils):
  Le h0 env H env (H.set i (.cells T (cs.set m (.osl H.length 0 0 k)))++[.row t k []]):=by
 intro L j σ N a w r;have f:h0<=H.length:=XY J;have x:i<H.length:=(XS.1 n).1;have ext:Ext j σ w j (σ++[none]) w:=⟨λ_ q=>q,λ_ _=>rfl,λ_ _ q=>q,λ_ _ h=>Jj h⟩;have s:=r.sim.phantom t k;have d:(H++[Blk.row t k []])[i]?=some (.cells T cs):=by rw[XT x];exact n
 have E:H.set i (.cells T (cs.set m (.osl H.length 0 0 k)))++[.row t k []]=(H++[Blk.row t k []]).set i (.cells T (cs.set m (.osl H.length 0 0 k))):=by
  rw[List.set_append_left _ _ x]
 rw[E];refine⟨j,σ++[none],⟨s.weaken d rfl ?_,λq=>(r.env q).mono ext,r.size,r.defers⟩,λ_ q=>q,QW (by rw[r.sim.len];exact f)⟩;intro y h;cases y with
 |none=>exact h
 |some b=>
  obtain⟨l,B,F,p⟩:=h;refine⟨l,B,?_,p⟩;clear B p d E n
  induction cs generalizing m l with
  |nil=>cases e
  |cons c cs G=>
   obtain⟨v,g,rfl,z,u⟩:=F;cases m with
   |zero=>
    simp at e;subst e;exact⟨v,g,rfl,.inl ⟨rfl,z⟩,u⟩
   |succ m=>exact⟨v,g,rfl,z,G (by simpa using e) g u⟩
end
end Go.Sw
namespace Go.Sw
end Go.Sw
namespace Go.Sw
def Qcg:Option Blk->Bool
 |some .dead=>true
 |_=>false
def Qar(hB hE:Nat)(H H':Qc):Bool:=(List.range (hE-hB)).all λp=> !Qcg H'[hB+p]? ||Qcg H[hB+p]?
def QjC(hB hE:Nat)(σ:Sig)(H:Qc):Prop:=∀p,hB<=p->p<hE->Qcg H[p]?=true->σ[p]?=some none
theorem Qkh{hB hE:Nat}{H H':Qc}(h:Qar hB hE H H'=true){p:Nat}(b:hB<=p)(d:p<hE)(a:Qcg H'[p]?=true):Qcg H[p]?=true:=by
 have:=Xw.1 h (p-hB) (List.mem_range.2 (by omega));rw[show hB+(p-hB)=p by omega,a]at this;simpa using this
theorem Sim.allocAt{fr ro:Nat->Prop}{σ:Sig}{H:Qc}{w:World}(s:Sim fr ro σ H w){p:Nat}(L:σ[p]?=some none){obj:Obj}{x:Blk}
  (N:BR ro (σ.set p (some w.heap.size)) (w.alloc obj) x (some w.heap.size))
  (F:∀c,Hid (w.alloc obj) x w.heap.size c->False:=by exact λ_ h=>h.elim):Sim fr ro (σ.set p (some w.heap.size)) (H.set p x) (w.alloc obj):=by
 have ev:Qi fr ro w ro (w.alloc obj):=Qi.alloc obj s.roLt s.frLt;have t:=s.len;have E:p<σ.length:=(XS.1 L).1;have u:Ext ro σ w ro (σ.set p (some w.heap.size)) (w.alloc obj):=⟨ev.sub,ev.keepRo,ev.shape,λi b q=>by
  rw[XW (λz=>by subst z;rw[L]at q;cases q)];exact q⟩
 have e:∀(i:Nat) (y:Option Nat),(σ.set p (some w.heap.size))[i]?=some y->(i≠p/\σ[i]?=some y)\/(i=p/\y=some w.heap.size):=by
  intro i y h;by_cases q:i=p
  .subst q;rw[Xa E]at h;exact .inr ⟨rfl,(X7 h).symm⟩
  .rw[XW (λz=>q z.symm)]at h;exact .inl ⟨q,h⟩
 have m:∀i:Nat,i≠p->(H.set p x)[i]?=H[i]? :=λi O=>XW (λz=>O z.symm);have M:(H.set p x)[p]?=some x:=Xa (by omega);refine⟨by simp[t],s.roOk.to (λ_ q=>q) ev.keepRo (λb h=>?_),λb h=>?_,s.roFr,?_,?_,?_,s.hidTo (· = ·) Q8 (by rw[Yy];omega) (λ_ _ _ _ _ _ _ q=>q) (λ_ _ _ _ _ _ _ q=>q) λj d y l k Q=>?_⟩
 rotate_left 5
 .rcases e j _ l with⟨q,l⟩|⟨rfl,n⟩
  .rw[m j q]at k;exact .inl ⟨j,y,rfl,l,k,id,λc q=>s.hidKeep l k (λz=>Yz w obj d (s.own j d y l k z).1) ev.keepRo q⟩
  .rw[M]at k;cases k;cases n;exact .inr ⟨X0 _,F⟩
 .rw[Yy];have:=s.roLt b h;omega
 .rw[Yy];have:=s.frLt b h;omega
 .intro i b y g f r;rw[Yy];rcases e i _ g with⟨q,g⟩|⟨rfl,n⟩
  .rw[m i q]at f;obtain⟨a,b,c⟩:=s.own i b y g f r;exact⟨by omega,b,c⟩
  .cases n;exact⟨by omega,λq=>by have:=s.roLt _ q;omega,λq=>by have:=s.frLt _ q;omega⟩
 .intro i j b y z g f r B J G;rcases e i _ g with⟨q,l⟩|⟨P,n⟩<;>rcases e j _ f with⟨q',k⟩|⟨ej,e2⟩
  .rw[m i q]at r;rw[m j q']at B;exact s.inj i j b y z l k r B J G
  .cases e2;rw[m i q]at r;have:=(s.own i _ y l r J).1;omega
  .cases n;rw[m j q']at B;have:=(s.own j _ z k B G).1;omega
  .rw[P,ej]
 .intro i y z g f;rcases e i _ g with⟨q,g⟩|⟨rfl,n⟩
  .rw[m i q]at f;refine(s.blk i y z g f).keep u ?_ ?_
   .rintro b rfl t;exact Yz w obj b (s.own i b z g f t).1
   .rintro b c rfl t;exact Yz w obj c (s.hid i b z c g f t).lt
  .rw[M]at f;cases f;subst n;exact N
def OpZ(P:Program)(o:Oper)(t:Nat)(cs:List A):Prop:=
 ∀(ro:Nat->Prop) (σ:Sig) (w:World) (a:Act),∃l:List Value,(execOp a.eval o).run P w=.ok (.value (.pointer (some ⟨w.heap.size,0,none⟩))) (w.alloc (.cells l.toArray t))/\LR ro σ w cs l/\ ∀v∈l,Qz v
theorem OpZ.alloc{P:Program}{o:Oper}{t:Nat}{z:Value}{v:A}{cs:List A}(g:∀w,(zeroValue t).run P w=.ok z w)(f:ZR v z)(i:o.op=.alloc t:=by exact rfl)(hk:Yu v=true:=by exact rfl)(hcs:Yj v=cs:=by exact rfl)(hpl:cs.all YF=true:=by exact rfl):
  OpZ P o t cs:=by
 intro h σ w a;obtain⟨l,d,b⟩:=(f h σ w).cells hk;subst hcs;refine⟨l,?_,b,b.plain hpl⟩;generalize a.eval=ρ at*;have e:(newVar t z).run P w=.ok ⟨w.heap.size,0,none⟩ (w.alloc (.cells l.toArray t)):=by
  unfold newVar;rw[d];rfl
 simp only[execOp,i,Instr.alloc,Vu,g,Result.andThen,e];rfl
theorem Qcx{P:Program}{l:List Oper}{i:Nat}{o:Oper}{rd:Option Nat}{R:Exit->Act->World->Prop}{Q:Exit->Act->World->Prop}{K:Act->World->Prop}{a:Act}{w:World}
  (B:l[i]?=some o)(g:wpL P rd l.toArray R [o] a w)(h:∀e a' w',R e a' w'->e=.normal/\a'.defers=a.defers)(k:∀v w',R .normal (a.put o.dst v) w'->K (a.put o.dst v) w'):
  wpOpIn (WF rd) 0 P l.toArray Q i K a w:=by
 unfold wpOpIn;have p:l.toArray[i]?=some o:=by simpa using B
 rw[p];simp only;unfold wpL wpListIn at g;split at g
 .rename_i t;rw[if_pos t];obtain⟨j,g⟩:=g;refine⟨j,?_⟩;have d:=QkW (by
   intro a' w' q;unfold wpListIn at q;exact(h _ _ _ q).2) g
  generalize(o.semAt (WF rd).round a.eval).run P w=res at*;cases res with
  |ok n w'=>
   cases n with
   |value v=>exact k _ _ d.1
   |skip=>exact k _ _ d.1
   |defer F=>
    exfalso;have:=(h _ _ _ d.1).2;have:=congrArg List.length this
    revert this
    cases o.dst<;>simp[Act.put]
   |enter f m=>
    refine⟨d.1,CallsIn.mono d.2 (λe s b=>?_)⟩;cases e with
    |returned v=>exact k _ _ b.1
    |panicked c=>have:=(h _ _ _ b).1;cases this
    |outgrown=>obtain⟨E,z,b⟩:=b;have:=(h _ _ _ b).1;cases this
   |row r m=>
    exact⟨d.1,RowsIn.mono d.2 (λ_ _ b=>k _ _ b.1)⟩
   |round l f y assign u=>
    refine⟨d.1,RoundIn.mono d.2 (λe s b=>?_)⟩;cases e with
    |returned v=>exact k _ _ b.1
    |panicked c=>have:=(h _ _ _ b).1;cases this
    |outgrown=>obtain⟨E,z,b⟩:=b;have:=(h _ _ _ b).1;cases this
   |_=>exact d.elim
  |halt x w'=>
   cases x with
   |panic v=>have:=(h _ _ _ d).1;cases this
   |_=>exact d.elim
 .rename_i t;rw[if_neg t];obtain⟨j,g⟩:=g;refine⟨j,?_⟩;unfold wpListIn at g;exact k _ _ g
theorem Qkg{P:Program}{l:List Oper}{m:Nat}(p:∀i o,l[i]?=some o->∀j∈Qk o,j<i)(k:∀i o,m<i->l[i]?=some o->i-1∈Qk o){Q:Exit->Act->World->Prop}{rd:Option Nat}:
  ∀(b t:Nat) (L:Array Bool) (a:Act) (w:World),L.size=l.length->(∀i,i<l.length->(onL L i↔i<t))->unl L<=b->m<=t->t<=l.length->
   wpL P rd l.toArray Q (l.drop t) a w->wpAnyIn (WF rd) 0 P .any l.toArray Q b L a w:=by
 intro b
 induction b with
 |zero=>
  intro t L a w hsz hL hf hm ht h;have:t=l.length:=by
   rcases Nat.lt_or_ge t l.length with q|q
   .have:=QiW (L:=L) (i:=t) (by omega) (λz=>by have:=(hL t q).1 z;omega);omega
   .omega
  subst this;refine⟨List.eq_nil_iff_forall_not_mem.2 λi n=>?_,?_⟩
  .obtain⟨o,e,g,_⟩:=(QaB hsz).1 n;have d:=(XS.1 e).1;exact g ((hL i d).2 d)
  .rw[Xu]at h;exact h
 |succ b G=>
  intro t L a w hsz hL hf hm ht h;have y:∀i o,l[i]?=some o->¬onL L i->(∀j∈Qk o,onL L j)->i=t:=by
   intro i o e g s;have d:=(XS.1 e).1;have H:t<=i:=by
    rcases Nat.lt_or_ge i t with q|q
    .exact absurd ((hL i d).2 q) g
    .exact q
   rcases Nat.lt_or_ge t i with q|q
   .have:=(hL (i-1) (by omega)).1 (s _ (k i o (by omega) e));omega
   .omega
  rcases Nat.lt_or_ge t l.length with f|f
  .have F:l[t]?=some l[t]:=XR f;have r:¬onL L t:=λq=>by have:=(hL t f).1 q;omega
   have E:t∈Region.ready .any l.toArray L:=by
    refine(QaB hsz).2 ⟨_,F,r,λj u=>?_⟩;have:=p t _ F j u;exact(hL j (by omega)).2 this
   refine⟨λq=>(by rw[q]at E;cases E),λi n=>?_⟩;obtain⟨o,e,g,s⟩:=(QaB hsz).1 n;obtain rfl:=y i o e g s;rw[Xr f]at h;obtain rfl:l[i]=o:=by rw[XR f]at e;exact X7 e
   unfold wpOpIn;rw[show l.toArray[i]?=some l[i]by rw[XN];exact e];simp only;unfold wpL wpListIn at h;have B:∀a w,wpL P rd l.toArray Q (l.drop (i+1)) a w->wpAnyIn (WF rd) 0 P .any l.toArray Q b (L.setIfInBounds i true) a w:=by
    intro a w q;have J:=Qgb (L:=L) (i:=i) (by omega) r;refine G (i+1) _ a w (by simpa using hsz) (λj u=>?_) (by omega) (by omega) (by omega) q;rw[Jq (by omega),hL j u];omega
   split at h
   .rename_i x;rw[if_pos x];exact Oper.wpIn_mono B h
   .rename_i x;rw[if_neg x];exact⟨h.1,B _ _ h.2⟩
  .have:t=l.length:=by omega
   subst this;rw[Xu]at h;refine⟨λ_=>h,λi n=>?_⟩;obtain⟨o,e,g,_⟩:=(QaB hsz).1 n;have d:=(XS.1 e).1;exact absurd ((hL i d).2 d) g
def QmP(af ds:List Nat)(xs:List A)(env0 e:Env):Prop:=
 ∀s,(∃j x,af.contains j=true/\ds[j]?=some s/\xs[j]?=some x/\lk e s=x)\/lk e s=.any\/(ds.contains s=false/\lk e s=lk env0 s)
inductive Qab (P:Program) (N:Nat) (l:List Oper) (ds:List Nat) (xs:List A) (env0:Env) (hB hE:Nat) (i:Nat) (H H':Qc):Prop
 |mk (o:Oper) (e:Env) (d:Nat) (x:A) (ho:l[i]?=some o) (hd:o.dst=some d) (hx:xs[i]?=some x) (hdd:Qar hB hE H H'=true) (hs:Sb (Qk o) (Qkp l i) ds xs env0 e)
   (h:WO P H.length N l.toArray [o] e H (Jb (up e d x) H')):Qab P N l ds xs env0 hB hE i H H'
 |unit (o:Oper) (e:Env) (ho:l[i]?=some o) (hd:o.dst=none) (hx:xs[i]?=some .any) (hdd:Qar hB hE H H'=true) (hs:Sb (Qk o) (Qkp l i) ds xs env0 e)
   (h:WO P H.length N l.toArray [o] e H (Jb e H')):Qab P N l ds xs env0 hB hE i H H'
 |alloc (o:Oper) (d t p:Nat) (cs:List A) (ho:l[i]?=some o) (hd:o.dst=some d) (hg:o.guard=none) (hx:xs[i]?=some (.ptr p 0)) (hp:(Nat.ble hB p&&Nat.blt p hE)=true) (hdead:Qcg H[p]?=true)
   (hH:H.set p (.cells t cs)=H') (h:OpZ P o t cs) (hN:Nat.blt d N=true):Qab P N l ds xs env0 hB hE i H H'
 |val (o:Oper) (e:Env) (d:Nat) (x:A) (ho:l[i]?=some o) (hd:o.dst=some d) (hg:o.guard=none) (hx:xs[i]?=some x) (hN:Nat.blt d N=true) (he:QmP (Qk o) ds xs env0 e) (h:OpV P o e H x)
   (hH:H=H':=by rfl):Qab P N l ds xs env0 hB hE i H H'
 |woE (o:Oper) (e:Env) (d:Nat) (x:A) (ho:l[i]?=some o) (hd:o.dst=some d) (hx:xs[i]?=some x) (he:QmP (Qk o) ds xs env0 e) (hdd:Qar hB hE H H'=true) (h:WO P H.length N l.toArray [o] e H (Jb (up e d x) H')):Qab P N l ds xs env0 hB hE i H H'
theorem Sb.rel{af f d:List Nat}{xs:List A}{env0 e:Env}{ro:Nat->Prop}{σ:Sig}{w:World}{a:Act}(i:Sb af f d xs env0 e)
  (g:∀j∈af,∀s x,d[j]?=some s->xs[j]?=some x->VR ro σ w x (a.tmps.getD s undef))
  (h:∀s,d.contains s=false->VR ro σ w (lk env0 s) (a.tmps.getD s undef))(hP:∀j s,f.contains j=true->d[j]?=some s->VR ro σ w (lk env0 s) (a.tmps.getD s undef)):
  ∀s,VR ro σ w (lk e s) (a.tmps.getD s undef):=by
 intro s
 induction i with
 |nil=>exact trivial
 | @dep j s1 x1 r h1 h2 h3 _ ih=>
  unfold lk;cases b:Nat.beq s s1 with
  |false=>exact ih
  |true=>
   obtain rfl:=XX b;exact g j (by simpa using h1) _ _ h2 h3
 | @old s1 x1 r h1 h2 _ ih=>
  unfold lk;cases b:Nat.beq s s1 with
  |false=>exact ih
  |true=>
   obtain rfl:=XX b;subst h2;exact h _ h1
 | @pre j s1 x1 r h1 h2 h3 _ ih=>
  unfold lk;cases b:Nat.beq s s1 with
  |false=>exact ih
  |true=>
   obtain rfl:=XX b;subst h3;exact hP j _ h1 h2
structure After (fr ro:Nat->Prop) (σ:Sig) (w:World) (hB hE:Nat) (H':Qc) (xs:List A) (i:Nat) (o:Oper) (a':Act) (w':World) (ro':Nat->Prop) (σ':Sig):Prop where
 val:∀x,xs[i]?=some x->match o.dst with
  |some d=>VR ro' σ' w' x (a'.tmps.getD d undef)
  |none=>x=.any
 sim:Sim fr ro' σ' H' w'
 ev:Qi fr ro w ro' w'
 ext:Ext ro σ w ro' σ' w'
 holes:QjC hB hE σ' H'
 take:σ'.take hB=σ.take hB
theorem Qab.use{P:Program}{N:Nat}{l:List Oper}{ds:List Nat}{xs:List A}{env0:Env}{hB hE i:Nat}{H H':Qc}(hb:Qab P N l ds xs env0 hB hE i H H')
  {Q:Exit->Act->World->Prop}{K:Act->World->Prop}{fr ro:Nat->Prop}{σ:Sig}{a:Act}{w:World}{o:Oper}{rd:Option Nat}(O:l[i]?=some o)
  (f:Sim fr ro σ H w)(hN:a.tmps.size=N)(n:QcY fr a.defers w)(ac:QdJ rd fr w)(hh:QjC hB hE σ H)(hl:hE<=H.length)(aj:hB<=hE)
  (hD:∀j∈Qk o,∀s x,ds[j]?=some s->xs[j]?=some x->VR ro σ w x (a.tmps.getD s undef))
  (hO:∀s,ds.contains s=false->VR ro σ w (lk env0 s) (a.tmps.getD s undef))(hP:∀j s,(Qkp l i).contains j=true->ds[j]?=some s->VR ro σ w (lk env0 s) (a.tmps.getD s undef))
  (hK:∀v w' ro' σ',After fr ro σ w hB hE H' xs i o (a.put o.dst v) w' ro' σ'->K (a.put o.dst v) w'):
  wpOpIn (WF rd) 0 P l.toArray Q i K a w:=by
 have L:∀{e:Env}{H2:Qc}{E:Exit}{r:Act}{w':World},QbT H.length fr ro σ w N a.defers (Jb e H2) E r w'->E=.normal/\r.defers=a.defers:=by
  rintro e H2 E r w' ⟨x,_,_,_,_,_,k,⟨rfl,_⟩,_,_,_,B,_⟩;refine⟨?_,B⟩;cases E<;>first|rfl|exact k.elim|cases k
 have ai:∀{σ':Sig}{w':World},Qi fr ro w ro w'->σ'.take H.length=σ.take H.length->True:=λ_ _=>trivial;have G:∀{e:Env}{r:Act}{w':World},QbT H.length fr ro σ w N a.defers (Jb e H') .normal r w'->Qar hB hE H H'=true->
   ∃ro' σ',Sim fr ro' σ' H' w'/\Qi fr ro w ro' w'/\Ext ro σ w ro' σ' w'/\QjC hB hE σ' H'/\σ'.take hB=σ.take hB/\ ∀s,VR ro' σ' w' (lk e s) (r.tmps.getD s undef):=by
  rintro e r w' ⟨_,ah,H2,ro',σ',ak,_,⟨_,rfl,rfl⟩,r',he,ht,_,ad⟩ m;have hσ:σ'=σ++σ'.drop H.length:=by
   conv=>lhs;rw[<- XF H.length σ']
   rw[ht, <- f.len,Vh]
  refine⟨ro',σ',r'.sim.frMono ad.sub,he,?_,?_,?_,r'.env⟩
  .rw[hσ];exact he.ext σ _
  .intro p k B h3;have:=hh p k B (Qkh m k B h3);rw[hσ,XT (by rw[f.len];omega)];exact this
  .rw[hσ];exact QW (by rw[f.len];omega)
 cases hb with
 |woE u e d x g F V he m h=>
  obtain rfl:u=o:=X7 (g.symm.trans O);have hr:∀s,VR ro σ w (lk e s) (a.tmps.getD s undef):=λs=>by
   rcases he s with⟨j,x,k,B,h3,J⟩|J|⟨k,J⟩
   .rw[J];exact hD j (by simpa using k) s x B h3
   .rw[J];exact trivial
   .rw[J];exact hO s k
  refine Qcx O (h rd fr ro σ a w ⟨f,hr,hN,n⟩ ac) (λ_ _ _ q=>L q) (λv w' q=>?_);obtain⟨ro',σ',Y,g2,M,g4,g5,g6⟩:=G q m;refine hK v w' ro' σ' ⟨λy T=>?_,Y,g2,M,g4,g5⟩;obtain rfl:=X7 (V.symm.trans T);have:=g6 d;unfold lk at this;rw[Nat.beq_refl]at this;rw[F]at this⊢;exact this
 |mk u e d x g F V m hs h=>
  obtain rfl:u=o:=X7 (g.symm.trans O);refine Qcx O (h rd fr ro σ a w ⟨f,hs.rel hD hO hP,hN,n⟩ ac) (λ_ _ _ q=>L q) (λv w' q=>?_);obtain⟨ro',σ',Y,g2,M,g4,g5,g6⟩:=G q m;refine hK v w' ro' σ' ⟨λy T=>?_,Y,g2,M,g4,g5⟩;obtain rfl:=X7 (V.symm.trans T);have:=g6 d;unfold lk at this;rw[Nat.beq_refl]at this;rw[F]at this⊢;exact this
 |unit u e g F V m hs h=>
  obtain rfl:u=o:=X7 (g.symm.trans O);refine Qcx O (h rd fr ro σ a w ⟨f,hs.rel hD hO hP,hN,n⟩ ac) (λ_ _ _ q=>L q) (λv w' q=>?_);obtain⟨ro',σ',Y,g2,M,g4,g5,g6⟩:=G q m;refine hK v w' ro' σ' ⟨λy T=>?_,Y,g2,M,g4,g5⟩;obtain rfl:=X7 (V.symm.trans T);rw[F]
 |val u e d x g F hg V X he h hH=>
  obtain rfl:u=o:=X7 (g.symm.trans O);subst hH;have hr:Rel fr ro σ H e N a w:=by
   refine⟨f,λs=>?_,hN,n⟩;rcases he s with⟨j,x,k,B,h3,J⟩|J|⟨k,J⟩
   .rw[J];exact hD j (by simpa using k) s x B h3
   .rw[J];exact trivial
   .rw[J];exact hO s k
  obtain⟨v0,k,B⟩:=h fr ro σ N a w hr;have hw:Region.wanted u (yielded l.toArray a.tmps)=true:=by unfold Region.wanted;rw[hg]
  refine Qcx (R:=λE r w'=>E=.normal/\r.defers=a.defers/\r=a.put u.dst v0/\w'=w) O (Qa0 hw k ?_) (λ_ _ _ q=>⟨q.1,q.2.1⟩) (λv w' q=>?_)
  .unfold wpL wpListIn;refine⟨rfl,?_,rfl,rfl⟩;rw[F];rfl
  .obtain⟨_,_,q1,rfl⟩:=q;refine hK v _ ro σ ⟨λy T=>?_,f,Qi.refl _ _ _,⟨λ_ q=>q,λ_ _=>rfl,λ_ _ q=>q,λ_ _ q=>q⟩,hh,rfl⟩;obtain rfl:=X7 (V.symm.trans T);rw[q1,F];have aa:d<a.tmps.size:=by rw[hN];simpa using X
   show VR ro σ w' x _;simpa[Act.put,Array.getD_eq_getD_getElem?,aa]using B
 |alloc u d t p cs g F hg V hp ab hH h X=>
  obtain rfl:u=o:=X7 (g.symm.trans O);subst hH;simp only[X4]at hp;have af:=XY hp.1;have ae:p<hE:=by simpa using hp.2
  have hσp:=hh p af ae ab;obtain⟨lv,k,B,h3⟩:=h ro σ w a;have hw:Region.wanted u (yielded l.toArray a.tmps)=true:=by unfold Region.wanted;rw[hg]
  have ev:Qi fr ro w ro (w.alloc (.cells lv.toArray t)):=Qi.alloc _ f.roLt f.frLt;have ag:p<σ.length:=by rw[f.len];omega
  have W:Ext ro σ w ro (σ.set p (some w.heap.size)) (w.alloc (.cells lv.toArray t)):=⟨ev.sub,ev.keepRo,ev.shape,λj b q=>by
   rw[XW (λz=>by subst z;rw[hσp]at q;cases q)];exact q⟩
  refine Qcx (R:=λE r w'=>E=.normal/\r.defers=a.defers/\r=a.put u.dst (.pointer (some ⟨w.heap.size,0,none⟩))/\w'=w.alloc (.cells lv.toArray t)) O (Qa0 hw k ?_) (λ_ _ _ q=>⟨q.1,q.2.1⟩) (λv w' q=>?_)
  .unfold wpL wpListIn;refine⟨rfl,?_,rfl,rfl⟩;rw[F];rfl
  .obtain⟨_,_,q1,rfl⟩:=q;refine hK v _ ro (σ.set p (some w.heap.size)) ⟨λy T=>?_,f.allocAt hσp ⟨lv,YU _ _,B.mono W,h3⟩,ev,W,λp' Y g2 M=>?_,?_⟩
   .obtain rfl:=X7 (V.symm.trans T);rw[q1,F];have aa:d<a.tmps.size:=by rw[hN];simpa using X
    refine⟨w.heap.size,Xa ag,?_⟩;simp[Act.put,Array.getD_eq_getD_getElem?,aa]
   .by_cases q:p'=p
    .subst q;rw[Xa (by omega)]at M;cases M
    .rw[XW (λz=>q z.symm)]at M⊢;exact hh p' Y g2 M
   .rw[List.take_set,List.set_eq_of_length_le];rw[XD];omega
def same(a b:List Nat):Bool:=a.all (b.contains ·)&&b.all (a.contains ·)
theorem QmY{a b:List Nat}(h:same a b=true)(i:Nat):i∈a↔i∈b:=by
 unfold same at h;simp only[X4,Xw,List.contains_iff_mem]at h;exact⟨h.1 i,h.2 i⟩
structure QmQ (l:List Oper) (m:Nat) (ds:List Nat) (hs:List Bool) (rq ms:List (List Nat)) (pl:List (List (Nat×Nat))) (N:Nat):Prop where
 len:m<=l.length
 dst:∀i o,i<m->l[i]?=some o->(∃d,o.dst=some d/\ds[i]?=some d/\d<N)\/o.dst=none
 dsl:ds.length=m
 nodup:∀(i j d:Nat),ds[i]?=some d->ds[j]?=some d->i=j
 back:∀i o,l[i]?=some o->∀j∈Qk o,j<i
 mid:∀o,l[m]?=some o->∀j,j<m->Qb9 l m j
 chain:∀i o,m<i->l[i]?=some o->i-1∈Qk o
 rqs:∀i o,i<m->l[i]?=some o->∀h∈rq.getD i [],h<m/\hs.getD h false=true/\(h∈Qk o\/ ∃j∈Qk o,j<m/\h∈rq.getD j [])
 ms0:ms.getD 0 []=[]
 full:∀st,st<ms.length->st+1=ms.length\/ ∃i,i<m/\hs.getD i false=true/\i∉ms.getD st []
 msh:∀st h,h∈ms.getD st []->h<m/\hs.getD h false=true
 pls:∀i st,i<m->st<ms.length->(∀h∈rq.getD i [],h∈ms.getD st [])->(hs.getD i false=true->i∉ms.getD st [])->(∀h∈ms.getD st [],¬Qb9 l h i)->
  ∃st',(st,st')∈pl.getD i []/\st'<ms.length/\if hs.getD i false then∀j,j∈ms.getD st' []↔j=i\/j∈ms.getD st []else st'=st
theorem Qjb{α:Type}{l:List α}{i:Nat}{d x:α}(h:l[i]?=some x):l.getD i d=x:=by rw[List.getD_eq_getElem?_getD,h];rfl
theorem QhG{P:Program}{l:List Oper}{m:Nat}{Y:List Nat}{hs:List Bool}{rq ms:List (List Nat)}{pl:List (List (Nat×Nat))}{N h0 hB hE:Nat}{xs:List A}{env0:Env}{Hs:List Qc}{Hk:Qc}
  (ok:QmQ l m Y hs rq ms pl N)(a7:xs.length=m)(bc:Hs.length=ms.length)(a3:h0<=hB)(a4:hB<=hE)(aq:∀H∈Hs,hE<=H.length)
  (a0:∀i p,i<m->p∈pl.getD i []->Qab P N l Y xs env0 hB hE i (Hs.getD p.1 []) (Hs.getD p.2 []))(a6:Hs.getD (ms.length-1) []=Hk)
  {fr ro0:Nat->Prop}{σ0:Sig}{w0:World}{rd:Option Nat}{ds0:List Deferred}{R:Exit->Act->World->Prop}
  (hk:∀ro σ a w,Rel fr ro σ Hk (Qat Y xs env0) N a w->Qi fr ro0 w0 ro w->σ.take h0=σ0.take h0->a.defers=ds0->wpL P rd l.toArray R (l.drop m) a w)(an:QcY fr ds0 w0)(ax:QdJ rd fr w0):
  ∀(b:Nat) (L:Array Bool) (a:Act) (w:World) (ro:Nat->Prop) (σ:Sig) (t:Nat),
   L.size=l.length->unl L<=b->(∀i,m<=i->¬onL L i)->t<ms.length->Sim fr ro σ (Hs.getD t []) w->a.tmps.size=N->a.defers=ds0->
   (∀(i d:Nat) (x:A),onL L i->Y[i]?=some d->xs[i]?=some x->VR ro σ w x (a.tmps.getD d undef))->(∀s,(∀j,Y[j]?=some s->¬onL L j)->VR ro σ w (lk env0 s) (a.tmps.getD s undef))->
   Qi fr ro0 w0 ro w->σ.take h0=σ0.take h0->QjC hB hE σ (Hs.getD t [])->
   (∀i,i<m->onL L i->∀h∈rq.getD i [],onL L h)->(∀i,i<m->hs.getD i false=true->(onL L i↔i∈ms.getD t []))->
   (∀i o,onL L i->l[i]?=some o->∀j∈Qk o,onL L j)->
   wpAnyIn (WF rd) 0 P .any l.toArray R b L a w:=by
 have a2:∀t,t<ms.length->hE<=(Hs.getD t []).length:=by
  intro t h;have e:Hs[t]?=some Hs[t]:=XR (by omega);rw[Qjb e];exact aq _ (Vl _)
 have fin:∀(b:Nat) (L:Array Bool) (a:Act) (w:World) (ro:Nat->Prop) (σ:Sig) (t:Nat),
   L.size=l.length->unl L<=b->(∀i,m<=i->¬onL L i)->t<ms.length->Sim fr ro σ (Hs.getD t []) w->a.tmps.size=N->a.defers=ds0->
   (∀(i d:Nat) (x:A),onL L i->Y[i]?=some d->xs[i]?=some x->VR ro σ w x (a.tmps.getD d undef))->(∀s,(∀j,Y[j]?=some s->¬onL L j)->VR ro σ w (lk env0 s) (a.tmps.getD s undef))->
   Qi fr ro0 w0 ro w->σ.take h0=σ0.take h0->
   (∀i,i<m->hs.getD i false=true->(onL L i↔i∈ms.getD t []))->(∀i,i<m->onL L i)->
   wpAnyIn (WF rd) 0 P .any l.toArray R b L a w:=by
  intro b L a w ro σ t hsz hu hsuf hst hsim hN hdef hD hE' hev htk hI2 k;have am:t=ms.length-1:=by
   rcases ok.full t hst with q|⟨i,O,X,h3⟩
   .omega
   .exact absurd ((hI2 i O X).1 (k i O)) h3
  rw[am,a6]at hsim;refine Qkg ok.back ok.chain b m L a w hsz (λi hi=>⟨λq=>?_,λq=>k i q⟩) hu (X0 _) ok.len ?_
  .rcases Nat.lt_or_ge i m with z|z
   .exact z
   .exact absurd q (hsuf i z)
  .have hr:Rel fr ro σ Hk (Qat Y xs env0) N a w:=by
    refine⟨hsim,λs=>?_,hN,by rw[hdef];exact an.keep hev⟩;rcases Qm7 (env0:=env0) (by rw[ok.dsl,a7]) s with⟨j,x,O,X,h3⟩|⟨O,X⟩
    .rw[h3];have f:j<m:=by have:=(XS.1 O).1;rw[ok.dsl]at this;exact this
     exact hD j s x (k j f) O X
    .rw[X];exact hE' s (λj q=>absurd (List.mem_of_getElem? q) (by simpa using O))
   exact hk ro σ a w hr hev htk hdef
 intro b
 induction b with
 |zero=>
  intro L a w ro σ t hsz hu hsuf hst hsim hN hdef hD hE' hev htk hho hI1 hI2 hcl;refine fin 0 L a w ro σ t hsz hu hsuf hst hsim hN hdef hD hE' hev htk hI2 (λi hi=>?_);by_cases q:onL L i
  .exact q
  .have:=QiW (L:=L) (i:=i) (by have:=ok.len;omega) q;omega
 |succ b ih=>
  intro L a w ro σ t hsz hu hsuf hst hsim hN hdef hD hE' hev htk hho hI1 hI2 hcl;by_cases k:∀i,i<m->onL L i
  .exact fin (b+1) L a w ro σ t hsz hu hsuf hst hsim hN hdef hD hE' hev htk hI2 k
  .have az:∃i,i<m/\ ¬onL L i:=by
    refine Classical.byContradiction λq=>k λi hi=>Classical.byContradiction λz=>q ⟨i,hi,z⟩
   obtain⟨n,hn,aj⟩:=az;obtain⟨i0,O,X,h3⟩:=least (p:=λi=>¬onL L i) (λi=>Classical.em _) n aj;have bb:=ok.len;have ak:l[i0]?=some l[i0]:=XR (by omega);have hr:i0∈Region.ready .any l.toArray L:=(QaB hsz).2 ⟨_,ak,X,λj f=>Classical.byContradiction λz=>h3 j (ok.back i0 _ ak j f) z⟩;refine⟨λq=>(by rw[q]at hr;cases hr),λi hi=>?_⟩;obtain⟨o,V,aa,F⟩:=(QaB hsz).1 hi;have B:i<m:=by
    rcases Nat.lt_or_ge i m with q|q
    .exact q
    .exfalso;rcases Nat.lt_or_ge m i with z|z
     .exact hsuf (i-1) (by omega) (F _ (ok.chain i o z V))
     .have:i=m:=by omega
      subst this;have a8:∀j,Qb9 l i j->onL L j:=by
       intro j f
       induction f with
       |one r f=>rw[V]at r;cases r;exact F _ f
       |step _ r f ihr=>exact hcl _ _ ihr r _ f
      exact aj (a8 n (ok.mid o V n hn))
   have ag:∀h∈rq.getD i [],onL L h:=by
    intro h T;obtain⟨_,_,q|⟨j,q1,q2,q3⟩⟩:=ok.rqs i o B V h T
    .exact F h q
    .exact hI1 j q2 (F j q1) h q3
   obtain⟨au,av,a5,J⟩:=ok.pls i t B hst (λh T=>by
    obtain⟨q1,q2,_⟩:=ok.rqs i o B V h T;exact(hI2 h q1 q2).1 (ag h T)) (λq z=>aa ((hI2 i B q).2 z)) (λh T hR=>by
    obtain⟨q1,q2⟩:=ok.msh t h T;have ar:onL L h:=(hI2 h q1 q2).2 T;have ah:∀j,Qb9 l h j->onL L j:=by
     intro j f
     induction f with
     |one r f=>exact hcl _ _ ar r _ f
     |step _ r f ihr=>exact hcl _ _ ihr r _ f
    exact aa (ah i hR))
   have hb:=a0 i _ B av;refine hb.use V hsim hN (by rw[hdef];exact an.keep hev) (ax.to hev λ_ q=>q) hho (a2 t hst) a4 (λj f s x q1 q2=>hD j s x (F j f) q1 q2) (λs O=>hE' s (λj q=>absurd (List.mem_of_getElem? q) (by simpa using O))) (λj s O X=>hE' s (λj' q q'=>?_)) ?_
   .obtain rfl:=ok.nodup j' j s q X;have f:=Xe.1 (List.contains_iff_mem.1 O);cases ae:l[j']? with
    |none=>rw[ae]at f;simp at f
    |some oj=>
     rw[ae]at f;exact aa (hcl j' oj q' ae i (by simpa using f.2))
   intro v w' ao σ' af;have ab:=af.ext;have ac:∀s,(∀d,o.dst=some d->s≠d)->(a.put o.dst v).tmps.getD s undef=a.tmps.getD s undef:=by
    intro s a9;cases W:o.dst with
    |none=>rfl
    |some d=>
     simp only[Act.put,Array.getD_eq_getD_getElem?,Vm];rw[if_neg (λq=>a9 d W q.symm)]
   have ad:(a.put o.dst v).tmps.size=N:=by
    cases W:o.dst with
    |none=>simpa[Act.put]using hN
    |some d=>simpa[Act.put]using hN
   have aw:(a.put o.dst v).defers=ds0:=by
    cases W:o.dst with
    |none=>simpa[Act.put]using hdef
    |some d=>simpa[Act.put]using hdef
   have ba:=Qgb (L:=L) (i:=i) (by omega) aa;have u:i<L.size:=by omega
   have a1:∀s j,Y[j]?=some s->j≠i->∀d,o.dst=some d->s≠d:=by
    intro s j f E d W q;subst q;rcases ok.dst i o B V with⟨d',g,Q,ai⟩|g
    .rw[W]at g;cases g;exact E (ok.nodup j i _ f Q)
    .rw[W]at g;cases g
   refine ih _ _ w' ao σ' au (by simpa using hsz) (by omega) (λj f q=>?_) a5 af.sim ad aw ?_ ?_ (hev.trans af.ev) ?_ af.holes ?_ ?_ ?_
   .rcases(Jq u).1 q with z|z
    .omega
    .exact hsuf j f z
   .intro j s y f G hy;by_cases E:j=i
    .subst E;have hv:=af.val y hy;rcases ok.dst j o B V with⟨d',g,Q,ai⟩|g
     .obtain rfl:s=d':=X7 (G.symm.trans Q);simp only[g]at hv⊢;exact hv
     .simp only[g]at hv;subst hv;exact trivial
    .rw[ac s (a1 s j G E)];rcases(Jq u).1 f with z|z
     .exact absurd z E
     .exact(hD j s y z G hy).mono ab
   .intro s G;have ay:∀d,o.dst=some d->s≠d:=by
     rintro d W rfl;rcases ok.dst i o B V with⟨d',g,Q,ai⟩|g
     .rw[W]at g;cases g;exact G i Q ((Jq u).2 (.inl rfl))
     .rw[W]at g;cases g
    rw[ac s ay];exact(hE' s (λj q z=>G j q ((Jq u).2 (.inr z)))).mono ab
   .rw[<- htk];have:=congrArg (List.take h0) af.take;rw[List.take_take,List.take_take,XH a3]at this;exact this
   .intro j f M h T;refine(Jq u).2 (.inr ?_);rcases(Jq u).1 M with z|z
    .subst z;exact ag h T
    .exact hI1 j f z h T
   .intro j f M;rw[Jq u];cases q:hs.getD i false with
    |false=>
     have E:j≠i:=by rintro rfl;rw[q]at M;cases M
     rw[q]at J;simp only[Xj,if_false]at J;simp only[E,false_or];rw[J];exact hI2 j f M
    |true=>
     rw[q]at J;simp only[if_true]at J;rw[J j,hI2 j f M]
   .intro j o' f r j' al;rcases(Jq u).1 f with z|z
    .subst z;rw[V]at r;cases r;exact(Jq u).2 (.inr (F _ al))
    .exact(Jq u).2 (.inr (hcl j o' z r j' al))
def QdB.dstB(N:Nat):Nat->List Oper->List Nat->Bool
 |_,_,[]=>true
 |i,o::r,d::ds=>(match o.dst with|some d'=>Nat.beq d' d&&Nat.blt d N|none=>true)&&QdB.dstB N (i+1) r ds
 |_,[],_::_=>false
def QdB.rqB(m:Nat)(hs:List Bool)(rq:List (List Nat)):Nat->List Oper->Bool
 |_,[]=>true
 |i,o::r=>(rq.getD i []).all (λh=>Nat.blt h m&&hs.getD h false&&((Qk o).contains h||(Qk o).any λj=>Nat.blt j m&&(rq.getD j []).contains h))&&QdB.rqB m hs rq (i+1) r
def Qid(l:List Oper)(h:Nat):List Nat:=match l[h]? with
 |some o=>Qeh l h (Qk o)
 |none=>[]
theorem QjM{l:List Oper}{h j:Nat}(q:j∈Qid l h):Qb9 l h j:=by
 unfold Qid at q;cases a:l[h]? with
 |none=>rw[a]at q;cases q
 |some o=>rw[a]at q;exact QbV h (Qk o) (λi b=>.one a b) j q
def QdB.plB(l:List Oper)(m:Nat)(hs:List Bool)(rq ms:List (List Nat))(pl:List (List (Nat×Nat))):Bool:=
 (List.range m).all λi=>(List.range ms.length).all λst=>((ms.getD st []).any λh=>(Qid l h).contains i)|| !(rq.getD i []).all ((ms.getD st []).contains ·)||(hs.getD i false&&(ms.getD st []).contains i)||
  (pl.getD i []).any λp=>Nat.beq p.1 st&&Nat.blt p.2 ms.length&&(bif hs.getD i false then same (ms.getD p.2 []) (i::ms.getD st [])else Nat.beq p.2 st)
def QdB(l:List Oper)(m N:Nat)(ds:List Nat)(hs:List Bool)(rq ms:List (List Nat))(pl:List (List (Nat×Nat))):Bool:=
 Nat.ble m l.length&&(ds.length==m)&&QdB.dstB N 0 l ds&&drawChk.nodupB ds&&drawChk.goB l m 0 l&&QdB.rqB m hs rq 0 l&&(ms.getD 0 []).isEmpty&&Nat.blt 0 ms.length
 &&((List.range ms.length).all λst=>Nat.beq (st+1) ms.length||(List.range m).any λi=>hs.getD i false&& !(ms.getD st []).contains i)&&QdB.plB l m hs rq ms pl&&(List.range ms.length).all λst=>(ms.getD st []).all λh=>Nat.blt h m&&hs.getD h false
theorem QfV{N:Nat}:∀(l:List Oper) (a:List Nat) (b:Nat),QdB.dstB N b l a=true->∀(i d:Nat) (o:Oper),l[i]?=some o->a[i]?=some d->
  (o.dst=some d/\d<N)\/o.dst=none:=by
 intro l
 induction l with
 |nil=>intro a b h i d o f;simp at f
 |cons x r k=>
  intro a b h i d o f g;cases a with
  |nil=>simp at g
  |cons y a=>
   simp only[QdB.dstB,X4]at h;cases i with
   |zero=>
    simp at f g;subst f;subst g;have h:=h.1;split at h
    .rename_i m j;simp only[X4]at h;have e:=XX h.1;subst e;exact .inl ⟨j,by simpa using h.2⟩
    .rename_i j;exact .inr j
   |succ i=>
    have:=k a (b+1) h.2 i d o (by simpa using f) (by simpa using g);exact this
theorem Qlc{m:Nat}{e:List Bool}{d:List (List Nat)}:∀(l:List Oper) (b:Nat),QdB.rqB m e d b l=true->∀(i:Nat) (o:Oper),l[i]?=some o->
  ∀h∈d.getD (b+i) [],h<m/\e.getD h false=true/\(h∈Qk o\/ ∃j∈Qk o,j<m/\h∈d.getD j []):=by
 intro l
 induction l with
 |nil=>intro b h i o a;simp at a
 |cons x r s=>
  intro b h i o a;simp only[QdB.rqB,X4]at h;cases i with
  |zero=>
   simp at a;subst a;intro k n;have:=Xw.1 h.1 k (by simpa using n);simp only[X4,Bool.or_eq_true,List.contains_iff_mem,Xx]at this;obtain⟨⟨t,f⟩,g⟩:=this;refine⟨by simpa using t,f,?_⟩;rcases g with q|⟨j,w,p,u⟩
   .exact .inl q
   .exact .inr ⟨j,w,by simpa using p,u⟩
  |succ i=>
   have:=s (b+1) h.2 i o (by simpa using a);rw[show b+1+i=b+(i+1)by omega]at this;exact this
theorem Qmg{l:List Oper}{m N:Nat}{s:List Nat}{B:List Bool}{G t:List (List Nat)}{H:List (List (Nat×Nat))}(h:QdB l m N s B G t H=true):
  QmQ l m s B G t H N/\0<t.length:=by
 unfold QdB at h;simp only[X4]at h;obtain⟨⟨⟨⟨⟨⟨⟨⟨⟨⟨W,J⟩,L⟩,T⟩,V⟩,R⟩,Q⟩,h8⟩,M⟩,x⟩,E⟩:=h;have F:m<=l.length:=XY W;have y:s.length=m:=by simpa using J
 have g:=Qhb l 0 V;refine⟨⟨F,λi o r b=>?_,y,Qdr T,λi o b=>by have:=(g i o b).1;simpa using this,λo b j Y=>QbV m (Qk o) (λi r=>.one b r) j ((g m o b).2.1 (by omega) j Y),
  λi o r b=>by have:=(g i o b).2.2 (by omega);simpa using this,λi o r b h d=>by have:=Qlc l 0 R i o b h (by simpa using d);exact this,
  by simpa using Q,λk a=>?_,λk h d=>?_,λi k r a O X hx=>?_⟩,by simpa using h8⟩
 .have w:s[i]?=some s[i]:=XR (by omega);rcases QfV l s 0 L i _ o b w with⟨n,u⟩|n
  .exact .inl ⟨_,n,w,u⟩
  .exact .inr n
 .have:=Xw.1 M k (List.mem_range.2 a);simp only[Bool.or_eq_true,Xx,X4,Bool.not_eq_true']at this;rcases this with q|⟨i,n,u,f⟩
  .exact .inl (XX q)
  .exact .inr ⟨i,List.mem_range.1 n,u,λz=>by rw[List.contains_iff_mem.2 z]at f;cases f⟩
 .have a:k<t.length:=by
   rcases Nat.lt_or_ge k t.length with q|q
   .exact q
   .rw[List.getD_eq_getElem?_getD,XV q]at d;cases d
  have:=Xw.1 (Xw.1 E k (List.mem_range.2 a)) h d;simp only[X4]at this;exact⟨by simpa using this.1,this.2⟩
 .have:=Xw.1 (Xw.1 x i (List.mem_range.2 r)) k (List.mem_range.2 a);simp only[Bool.or_eq_true,Bool.not_eq_true']at this;rcases this with((q|q)|q)|q
  .exfalso;obtain⟨h,d,q⟩:=Xx.1 q;exact hx h d (QjM (List.contains_iff_mem.1 q))
  .exfalso;have:((G.getD i []).all ((t.getD k []).contains ·))=true:=Xw.2 λh d=>List.contains_iff_mem.2 (O h d);rw[this]at q;cases q
  .simp only[X4]at q;exact absurd (List.contains_iff_mem.1 q.2) (X q.1)
  .obtain⟨p,P,q⟩:=Xx.1 q;simp only[X4]at q;obtain⟨⟨n,u⟩,f⟩:=q;have e:=XX n;refine⟨p.2,by rw[<- e];exact P,by simpa using u,?_⟩;cases z:B.getD i false with
   |true=>
    rw[z]at f;simp only[cond_true]at f;simp only[if_true];intro j;rw[QmY f j,Ve]
   |false=>
    rw[z]at f;simp only[cond_false]at f;simp only[Xj,if_false];exact XX f
inductive QgK (P:Program) (N:Nat) (l:List Oper) (ds:List Nat) (xs:List A) (env0:Env) (hB hE:Nat):Nat->List (List (Qc×Qc))->Prop
 |nil {i:Nat}:QgK P N l ds xs env0 hB hE i []
 |cons {i:Nat}{s:List (Qc×Qc)}{r:List (List (Qc×Qc))} (h:∀p∈s,Qab P N l ds xs env0 hB hE i p.1 p.2) (k:QgK P N l ds xs env0 hB hE (i+1) r):QgK P N l ds xs env0 hB hE i (s::r)
theorem QgK.get{P:Program}{N:Nat}{l:List Oper}{d:List Nat}{xs:List A}{env0:Env}{hB hE b:Nat}{e:List (List (Qc×Qc))}(h:QgK P N l d xs env0 hB hE b e):
  ∀(i:Nat) (s:List (Qc×Qc)),e[i]?=some s->∀p∈s,Qab P N l d xs env0 hB hE (b+i) p.1 p.2:=by
 induction h with
 |nil=>intro i s h;simp at h
 | @cons b s0 r h _ ih=>
  intro i s a;cases i with
  |zero=>simp at a;subst a;exact h
  |succ i=>
   have:=ih i s (by simpa using a);rw[show b+1+i=b+(i+1)by omega]at this;exact this
theorem QH{P:Program}{N:Nat}{l:List Oper}{a:List Nat}{xs:List A}{env0:Env}{hB hE i:Nat}:∀p∈([]:List (Qc×Qc)),Qab P N l a xs env0 hB hE i p.1 p.2:=by
 intro p b;cases b
theorem Qe{P:Program}{N:Nat}{l:List Oper}{a:List Nat}{xs:List A}{env0:Env}{hB hE i:Nat}{H H':Qc}{r:List (Qc×Qc)}(h:Qab P N l a xs env0 hB hE i H H')
  (k:∀p∈r,Qab P N l a xs env0 hB hE i p.1 p.2):∀p∈(H,H')::r,Qab P N l a xs env0 hB hE i p.1 p.2:=by
 intro p b;rcases Ve.1 b with rfl|q
 .exact h
 .exact k p q
theorem Qgf{P:Program}{h0 N:Nat}{id:Nat}{l:List Oper}{env:Env}{H:Qc}{fr ro:Nat->Prop}{σ:Sig}{a:Act}{w:World}{rd:Option Nat}{R:Exit->Act->World->Prop}(m c:Nat)(V:List Nat)(hs:List Bool)(rq Y:List (List Nat))(M:List (List (Nat×Nat)))(xs:List A)(Hs:List Qc)(Hk:Qc)
  (hm:P.follows .mixedOrders=true)(hc:QdB l m N V hs rq Y M=true)(ac:Nat.beq xs.length m=true)(ad:Nat.beq Hs.length Y.length=true)(ae:Nat.ble h0 H.length=true)
  (hh:Hs.all (λX=>Nat.ble (H.length+c) X.length)=true)(T:Hs[0]?=some (H++List.replicate c .dead))(af:Hs.getD (Y.length-1) []=Hk)
  (aa:QgK P N l V xs env H.length (H.length+c) 0 (M.map λq=>q.map λp=>(Hs.getD p.1 [],Hs.getD p.2 [])))(ab:Nat.beq M.length m=true)
  (r:Rel fr ro σ H env N a w)(W:QdJ rd fr w)
  (hk:∀ro' σ' a' w',Rel fr ro' σ' Hk (Qat V xs env) N a' w'->Qi fr ro w ro' w'->σ'.take h0=σ.take h0->a'.defers=a.defers->wpL P rd l.toArray R (l.drop m) a' w'):(Code.region id l.toArray true).wpIn (WF rd) 0 P R a w:=by
 obtain⟨ok,F⟩:=Qmg hc;have B:=XX ac;have G:=XX ad;have ah:=XX ab;have J:Qi fr ro w ro {w with drawn:=w.drawn+1}:=⟨λ_ q=>q,λ_ _=>rfl,λ_ _=>rfl,X0 _,λ_ _ q=>q,rfl,rfl,rfl,Nat.le_succ _⟩;have u:Ext ro σ w ro (σ++List.replicate c none) {w with drawn:=w.drawn+1}:=J.ext σ _;have ag:=r.sim.len;have E:Hs.getD 0 []=H++List.replicate c .dead:=Qjb T;have h:∀(i:Nat) (s:Option Nat) (x:Blk),(σ++List.replicate c none)[i]?=some s->(H++List.replicate c Blk.dead)[i]?=some x->(σ[i]?=some s/\H[i]?=some x)\/(s=none/\x=.dead):=by
  intro i s x n k;rcases Nat.lt_or_ge i σ.length with q|q
  .rw[XT q]at n;rw[XT (by omega)]at k;exact .inl ⟨n,k⟩
  .rw[XU q]at n;rw[XU (by omega)]at k;have a1:=List.mem_of_getElem? n;have a2:=List.mem_of_getElem? k;exact .inr ⟨(List.mem_replicate.1 a1).2,(List.mem_replicate.1 a2).2⟩
 have O:Sim fr ro (σ++List.replicate c none) (H++List.replicate c .dead) {w with drawn:=w.drawn+1}:=by
  refine⟨by simp[ag],r.sim.roOk.to (λ_ q=>q) (λ_ _=>rfl) r.sim.roLt,r.sim.frLt,r.sim.roFr,?_,?_,?_,
   r.sim.hidTo (· = ·) Q8 (X0 _) (λ_ _ _ _ _ _ _ q=>q) (λ_ _ _ _ _ _ _ q=>q) λj d y g1 g2 g3=>.inl ?_⟩
  rotate_left 3
  .rcases h j _ _ g1 g2 with⟨g,t⟩|⟨g,_⟩
   .exact⟨j,y,rfl,g,t,(λz=>z),λc q=>q⟩
   .cases g
  .intro i b blk n k Q;rcases h i _ _ n k with⟨g,t⟩|⟨g,_⟩
   .exact r.sim.own i b blk g t Q
   .cases g
  .intro i j b x y n k Q h4 h5 h6;rcases h i _ _ n Q with⟨g,t⟩|⟨g,_⟩
   .rcases h j _ _ k h4 with⟨q3,q4⟩|⟨q3,_⟩
    .exact r.sim.inj i j b x y g q3 t q4 h5 h6
    .cases q3
   .cases g
  .intro i s x n k;rcases h i _ _ n k with⟨g,t⟩|⟨g,t⟩
   .exact BR.keep u (λb hb _=>rfl) (r.sim.blk i s x g t) (λ_ _ _ _=>rfl)
   .subst t;exact trivial
 have f:∀i,¬onL (Array.replicate l.length false) i:=by
  intro i q;unfold onL at q;rw[Array.getElem?_replicate]at q;split at q<;>simp at q
 have L:=XY ae;refine wpIn_region_any hm ?_;rw[List.size_toArray];refine QhG ok B G L (Nat.le_add_right _ _) (λX hX=>XY (Xw.1 hh X hX)) ?_ af (ro0:=ro) (σ0:=σ) (w0:=w) (ds0:=a.defers) hk r.defers W
  l.length _ a _ ro (σ++List.replicate c none) 0 (by simp) ?_ (λi _=>f i) F (by rw[E];exact O) r.size rfl (λi d x q=>absurd q (f i)) (λs _=>(r.env s).mono u) J (QW (by omega)) ?_
  (λi _ q=>absurd q (f i)) (λi _ _=>⟨λq=>absurd q (f i),λq=>by rw[ok.ms0]at q;cases q⟩) (λi o q=>absurd q (f i))
 .intro i p hi hp;have e:(M.map λq=>q.map λp=>(Hs.getD p.1 [],Hs.getD p.2 []))[i]?=some ((M.getD i []).map λp=>(Hs.getD p.1 [],Hs.getD p.2 [])):=by
   rw[Xq,XR (by omega),List.getD_eq_getElem?_getD,XR (by omega)];rfl
  have:=aa.get i _ e _ (Xf.2 ⟨p,hp,rfl⟩);simpa using this
 .unfold unl;simp[List.countP_replicate]
 .intro p n k Q;rw[XU (by omega),List.getElem?_replicate,if_pos (by omega)]
theorem Qbd{P:Program}{h0 N:Nat}{id:Nat}{l:List Oper}{env:Env}{H:Qc}{Q:QC}(m c:Nat)(g:List Nat)(u:List Bool)(x d:List (List Nat))(f:List (List (Nat×Nat)))(xs:List A)(Hs:List Qc)(Hk:Qc)
  (z:P.follows .mixedOrders=true)(G:QdB l m N g u x d f=true)(j:Nat.beq xs.length m=true)(n:Nat.beq Hs.length d.length=true)(s:Nat.ble h0 H.length=true)
  (F:Hs.all (λX=>Nat.ble (H.length+c) X.length)=true)(k:Hs[0]?=some (H++List.replicate c .dead))(t:Hs.getD (d.length-1) []=Hk)
  (h:QgK P N l g xs env H.length (H.length+c) 0 (f.map λq=>q.map λp=>(Hs.getD p.1 [],Hs.getD p.2 [])))(i:Nat.beq f.length m=true)
  (y:WO P h0 N l.toArray (l.drop m) (Qat g xs env) Hk Q):TC P h0 N (.region id l.toArray true) env H Q:=by
 intro E B J σ a w r hrd;refine Code.wpIn_mono (λe a w q=>QbT.postW q) (Qgf m c g u x d f xs Hs Hk z G j n s F k t h i r hrd λro' σ' a' w' hr hev htk hdf=>?_);have b:=y E B ro' σ' a' w' hr (hrd.to hev λ_ q=>q);rw[hdf]at b;exact Yx (λe a w q=>q.step hev htk) _ _ _ b
def draw0(l:List Oper)(m N:Nat)(ds:List Nat):Bool:=Nat.ble m l.length&&(ds.length==m)&&QdB.dstB N 0 l ds&&drawChk.nodupB ds&&drawChk.goB l m 0 l
inductive Oq (P:Program) (N:Nat) (l:List Oper) (ds:List Nat) (xs:List A) (env0:Env) (H:Qc):Nat->Nat->Prop
 |n {i:Nat}:Oq P N l ds xs env0 H i 0
 |c {i c:Nat} (h:Qab P N l ds xs env0 H.length H.length i H H) (k:Oq P N l ds xs env0 H (i+1) c):Oq P N l ds xs env0 H i (c+1)
theorem Oq.get{P:Program}{N:Nat}{l:List Oper}{a:List Nat}{xs:List A}{env0:Env}{H:Qc}{b c:Nat}(h:Oq P N l a xs env0 H b c):∀i,i<c->Qab P N l a xs env0 H.length H.length (b+i) H H:=by
 induction h with
 |n=>intro i d;omega
 | @c b c h _ ih=>
  intro i d;cases i with
  |zero=>exact h
  |succ i=>
   have:=ih i (by omega);rw[show b+1+i=b+(i+1)by omega]at this;exact this
theorem Qmh{l:List Oper}{m N:Nat}{e:List Nat}(h:draw0 l m N e=true):QmQ l m e [] [] [[]] (List.replicate m [(0,0)]) N:=by
 unfold draw0 at h;simp only[X4]at h;obtain⟨⟨⟨⟨u,y⟩,z⟩,t⟩,w⟩:=h;have r:m<=l.length:=XY u;have q:e.length=m:=by simpa using y
 have g:=Qhb l 0 w;refine⟨r,λi o d b=>?_,q,Qdr t,λi o b=>by have:=(g i o b).1;simpa using this,λo b j x=>QbV m (Qk o) (λi d=>.one b d) j ((g m o b).2.1 (by omega) j x),
  λi o d b=>by have:=(g i o b).2.2 (by omega);simpa using this,λi o d b h p=>by simp at p,rfl,λk a=>.inl (by simp at a;simp[a]),λk h p=>by cases k<;>simp at p,λi k d a _ _ _=>?_⟩
 .have f:e[i]?=some e[i]:=XR (by omega);rcases QfV l e 0 z i _ o b f with⟨n,s⟩|n
  .exact .inl ⟨_,n,f,s⟩
  .exact .inr n
 .have:k=0:=by simp at a;exact a
  subst this;refine⟨0,?_,by simp,by simp⟩;rw[List.getD_eq_getElem?_getD,List.getElem?_replicate,if_pos d];exact List.mem_singleton.2 rfl
theorem Qcw{P:Program}{h0 N:Nat}{id:Nat}{l:List Oper}{env:Env}{H:Qc}{fr ro:Nat->Prop}{σ:Sig}{a:Act}{w:World}{rd:Option Nat}{R:Exit->Act->World->Prop}(m:Nat)(t:List Nat)(xs:List A)
  (E:P.follows .mixedOrders=true)(F:Go.Sw.draw0 l m N t=true)(n:Nat.beq xs.length m=true)(k:Nat.ble h0 H.length=true)
  (j:Oq P N l t xs env H 0 m)(r:Rel fr ro σ H env N a w)(u:QdJ rd fr w)
  (B:∀ro' σ' a' w',Rel fr ro' σ' H (Qat t xs env) N a' w'->Qi fr ro w ro' w'->σ'.take h0=σ.take h0->a'.defers=a.defers->wpL P rd l.toArray R (l.drop m) a' w'):(Code.region id l.toArray true).wpIn (WF rd) 0 P R a w:=by
 have ok:=Qmh F;have e:=XX n;have f:Qi fr ro w ro {w with drawn:=w.drawn+1}:=⟨λ_ q=>q,λ_ _=>rfl,λ_ _=>rfl,X0 _,λ_ _ q=>q,rfl,rfl,rfl,Nat.le_succ _⟩;have g:Ext ro σ w ro σ {w with drawn:=w.drawn+1}:=f.ext0 σ;have h:Sim fr ro σ H {w with drawn:=w.drawn+1}:=r.sim.heap rfl;have b:∀i,¬onL (Array.replicate l.length false) i:=by
  intro i q;unfold onL at q;rw[Array.getElem?_replicate]at q;split at q<;>simp at q
 refine wpIn_region_any E ?_;rw[List.size_toArray];refine QhG (hB:=H.length) (hE:=H.length) (Hs:=[H]) (Hk:=H) ok e rfl (XY k) (X0 _) (λX hX=>by rw[List.mem_singleton.1 hX];exact X0 _) ?_ rfl (ro0:=ro) (σ0:=σ) (w0:=w) (ds0:=a.defers) B r.defers u
  l.length _ a _ ro σ 0 (by simp) ?_ (λi _=>b i) (by simp) h r.size rfl (λi d x q=>absurd q (b i)) (λs _=>(r.env s).mono g) f rfl (λp G J=>by omega)
  (λi _ q=>absurd q (b i)) (λi _ _=>⟨λq=>absurd q (b i),λq=>by cases q⟩) (λi o q=>absurd q (b i))
 .intro i p y z;rw[List.getD_eq_getElem?_getD,List.getElem?_replicate,if_pos y]at z;obtain rfl:=List.mem_singleton.1 z;have:=j.get i y;rw[XB]at this;exact this
 .unfold unl;simp[List.countP_replicate]
theorem TC.draw0{P:Program}{h0 N:Nat}{id:Nat}{l:List Oper}{env:Env}{H:Qc}{Q:QC}(m:Nat)(d:List Nat)(xs:List A)
  (k:P.follows .mixedOrders=true)(n:Go.Sw.draw0 l m N d=true)(h:Nat.beq xs.length m=true)(g:Nat.ble h0 H.length=true)
  (f:Oq P N l d xs env H 0 m)(i:WO P h0 N l.toArray (l.drop m) (Qat d xs env) H Q):TC P h0 N (.region id l.toArray true) env H Q:=by
 intro j p s σ a w r hrd;refine Code.wpIn_mono (λe a w q=>QbT.postW q) (Qcw m d xs k n h g f r hrd λro' σ' a' w' hr hev htk hdf=>?_);have b:=i j p ro' σ' a' w' hr (hrd.to hev λ_ q=>q);rw[hdf]at b;exact Yx (λe a w q=>q.step hev htk) _ _ _ b
section
variable {P:Program}{N:Nat}{l:List Oper}{ds af bf:List Nat}{xs:List A}{env0 e r:Env}{H H':Qc}{i hB hE:Nat}{o:Oper}{d s:Nat}{x a:A}
theorem sN:Sb af bf ds xs env0 []:=.nil
theorem sD(j:Nat)(k:Sb af bf ds xs env0 r)(b:af.contains j=true:=by exact rfl)(h2:ds[j]?=some s:=by exact rfl)(h3:xs[j]?=some a:=by exact rfl):Sb af bf ds xs env0 ((s,a)::r):=.dep j b h2 h3 k
theorem sO(s:Nat)(k:Sb af bf ds xs env0 r)(b:ds.contains s=false:=by exact rfl)(h2:lk env0 s=a:=by exact rfl):Sb af bf ds xs env0 ((s,a)::r):=.old b h2 k
theorem QhK(H:Qc):Qar hB hE H H=true:=by
 unfold Qar;refine Xw.2 λp _=>?_;cases Qcg H[hB+p]? <;>rfl
theorem Om1(b:l[i]?=some o)(f:Sb (Qk o) (Qkp l i) ds xs env0 e)(h:WO P H.length N l.toArray [o] e H (Jb (up e d x) H'))(a:o.dst=some d:=by exact rfl)(hx:xs[i]?=some x:=by exact rfl)(hdd:Qar hB hE H H'=true:=by exact rfl):Qab P N l ds xs env0 hB hE i H H':=
 .mk o e d x b a hx hdd f h
theorem Om2(b:l[i]?=some o)(d:Sb (Qk o) (Qkp l i) ds xs env0 e)(h:WO P H.length N l.toArray [o] e H (Jb e H'))(a:o.dst=none:=by exact rfl)(hx:xs[i]?=some .any:=by exact rfl)(hdd:Qar hB hE H H'=true:=by exact rfl):Qab P N l ds xs env0 hB hE i H H':=
 .unit o e b a hx hdd d h
end
end Go.Sw
namespace Go.Sw
structure TyI where
 fld:List (Nat×Nat×Nat)
 agg:List (Nat×Bool×Nat)
 zer:List (Nat×List A×List (Nat×Nat))
structure TyOK (P:Program) (T:TyI):Prop where
 fld:∀e∈T.fld,∃n,Jt P e.1 e.2.1 e.2.2 n
 agg:∀e∈T.agg,(∀w,(isAgg e.1).run P w=.ok e.2.1 w)/\ ∀w,(sizeOf e.1).run P w=.ok e.2.2 w
 zer:∀e∈T.zer,(∃z,(∀w,(zeroValue e.1).run P w=.ok z w)/\ZR (.agg e.2.1) z)/\QP P e.1 e.2.2
def Qhf:List (Nat×Nat×Nat)->Nat->Nat->Option Nat
 |[],_,_=>none
 |(a,b,c)::r,t,f=>bif Nat.beq a t&&Nat.beq b f then some c else Qhf r t f
def Qb2{β:Type}:List (Nat×β)->Nat->Option β
 |[],_=>none
 |(a,b)::r,t=>bif Nat.beq a t then some b else Qb2 r t
theorem Qhe{l:List (Nat×Nat×Nat)}{t f c:Nat}(h:Qhf l t f=some c):(t,f,c)∈l:=by
 induction l with
 |nil=>cases h
 |cons x r e=>
  obtain⟨a,b,d⟩:=x;unfold Qhf at h;cases q:(Nat.beq a t&&Nat.beq b f)with
  |true=>
   rw[q]at h;simp only[X4]at q;have g:=XX q.1;have i:=XX q.2;simp only[cond_true,Option.some.injEq]at h;subst g i h;exact .head _
  |false=>rw[q]at h;exact .tail _ (e h)
theorem Qav{β:Type}{l:List (Nat×β)}{t:Nat}{c:β}(h:Qb2 l t=some c):(t,c)∈l:=by
 induction l with
 |nil=>cases h
 |cons x r d=>
  obtain⟨a,b⟩:=x;unfold Qb2 at h;cases q:Nat.beq a t with
  |true=>
   rw[q]at h;have e:=XX q;simp only[cond_true,Option.some.injEq]at h;subst e h;exact .head _
  |false=>rw[q]at h;exact .tail _ (d h)
def QgB(H:Qc):A->Option (List A)
 |.rp cs=>some cs
 |.ptr i off=>match H[i]? with
  |some (.cells _ cs)=>some (cs.drop off)
  |_=>none
 |_=>none
theorem QiD{H:Qc}{p:A}{cs:List A}(h:QgB H p=some cs):Pts H p cs:=by
 unfold QgB at h;split at h
 .cases h;exact Pts.rp
 .split at h
  .rename_i a;cases h;exact Pts.cells a rfl
  .cases h
 .cases h
def Qk3(T:TyI)(o:Oper)(env:Env)(H:Qc):Option A:=
 match o.op with
 |.move x=>some (opA env x)
 |.assign x=>some (opA env x)
 |.fieldAddr t x f=>match Qhf T.fld t f with
  |none=>none
  |some off=>match opA env x with
   |.ptr i p=>some (.ptr i (p+off))
   |.rp cs=>some (.rp (cs.drop off))
   |_=>none
 |.load t x=>match Qb2 T.agg t with
  |none=>none
  |some (b,n)=>match x with
   |.global g=>match Qij[g]? with
    |some zs=>bif b&&Nat.beq zs.length n then some (.agg (zs.map (A.int .i64)))else none
    |none=>none
   |x=>match QgB H (opA env x)with
    |none=>none
    |some cs=>bif b then(bif Nat.beq (cs.take n).length n then some (.agg (cs.take n))else none)else cs.head?
 |.build t parts=>match Qb2 T.zer t with
  |none=>none
  |some (zs,pl)=>match QeA env pl zs parts.toList with
   |some cs=>some (.agg cs)
   |none=>none
 |.extract x i=>match opA env x with
  |.tup vs=>vs[i]?
  |_=>none
 |.makeFunc f first cap=>some (.fn f (first.toList.map (opA env)) (cap.toList.map (opA env)))
 |_=>none
theorem Qk2{P:Program}{T:TyI}(l:TyOK P T){o:Oper}{env:Env}{H:Qc}{x:A}(h:Qk3 T o env H=some x):OpV P o env H x:=by
 unfold Qk3 at h;split at h
 .rename_i y a;cases h;exact OpV.move a rfl
 .rename_i y a;cases h;exact OpV.assign a rfl
 .rename_i t y f a;split at h
  .cases h
  .rename_i B m;obtain⟨n,r⟩:=l.fld _ (Qhe m);split at h
   .rename_i i p e;cases h;exact Qcm r a e
   .rename_i j e;cases h;exact Qe9 r a e rfl
   .cases h
 .rename_i t y a;split at h
  .cases h
  .rename_i b n J;obtain⟨d,k⟩:=l.agg _ (Qav J);split at h
   .rename_i g;split at h
    .rename_i s L;cases q:(b&&Nat.beq s.length n)with
     |false=>rw[q]at h;cases h
     |true=>
      rw[q]at h;cases h;simp only[X4]at q;obtain⟨rfl,w⟩:=q;exact Qf2 d k L (XX w) a
    .cases h
   .split at h
    .cases h
    .rename_i j G;have u:=QiD G;cases b with
     |true=>
      simp only[cond_true]at h;cases q:Nat.beq (j.take n).length n with
      |false=>rw[q]at h;cases h
      |true=>
       rw[q]at h;cases h;exact QR a d k rfl u rfl (XX q)
     |false=>
      simp only[cond_false]at h;cases j with
      |nil=>cases h
      |cons v j=>cases h;exact OpV.load a d rfl u
 .rename_i t parts a;split at h
  .cases h
  .rename_i s M E;obtain⟨⟨z,d,k⟩,F⟩:=l.zer _ (Qav E);split at h
   .rename_i j m;cases h;exact OpV.build d k F (by rw[a]) m
   .cases h
 .rename_i y i a;split at h
  .rename_i vs e;exact OpV.extract a e h
  .cases h
 .rename_i f first cap a
  cases h;exact OpV.makeFunc (first:=first.toList) (cap:=cap.toList) (by rw[a]) rfl rfl
 .cases h
def QhD(af:List Nat):Nat->List Nat->List A->Env->Env
 |j,d::ds,x::xs,e=>(d,bif af.contains j then x else .any)::QhD af (j+1) ds xs e
 |_,_,_,e=>e
theorem Qns{af:List Nat}{env0:Env}(s:Nat):∀(a:List Nat) (xs:List A) (b:Nat),a.length=xs.length->
  (∃(j:Nat) (x:A),a[j]?=some s/\xs[j]?=some x/\lk (QhD af b a xs env0) s=bif af.contains (b+j)then x else .any)\/(a.contains s=false/\lk (QhD af b a xs env0) s=lk env0 s):=by
 intro a
 induction a with
 |nil=>intro xs b h;right;exact⟨rfl,by unfold QhD;rfl⟩
 |cons d a k=>
  intro xs b h;cases xs with
  |nil=>cases h
  |cons x xs=>
   cases q:Nat.beq s d with
   |true=>
    have e:=XX q;subst e;left;refine⟨0,x,rfl,rfl,?_⟩;simp only[QhD,lk,q,cond_true];rfl
   |false=>
    have f:s≠d:=λz=>by subst z;simp[Nat.beq_refl]at q
    simp only[QhD,lk,q,cond_false];rcases k xs (b+1) (by simpa using h)with⟨j,y,g,i,l⟩|⟨g,i⟩
    .left;refine⟨j+1,y,by simpa using g,by simpa using i,?_⟩;rw[show b+(j+1)=b+1+j by omega];exact l
    .right;refine⟨?_,i⟩;rw[List.contains_cons,g];simpa using f
def QiX(T:TyI)(N:Nat)(l:List Oper)(ds:List Nat)(xs:List A)(env0:Env)(H:Qc)(i:Nat):Option A:=
 match l[i]? with
 |none=>none
 |some o=>match o.guard,o.dst with
  |none,some d=>bif Nat.blt d N&&Nat.beq ds.length xs.length then Qk3 T o (QhD (Qk o) 0 ds xs env0) H else none
  |_,_=>none
theorem Qnr{af b:List Nat}{xs:List A}{env0:Env}(f:b.length=xs.length):QmP af b xs env0 (QhD af 0 b xs env0):=by
 intro s;rcases Qns (af:=af) (env0:=env0) s b xs 0 f with⟨j,x,d,e,a⟩|h
 .rw[XB]at a;cases q:af.contains j with
  |true=>rw[q]at a;exact .inl ⟨j,x,q,d,e,a⟩
  |false=>rw[q]at a;exact .inr (.inl a)
 .exact .inr (.inr h)
theorem vQ{P:Program}{T:TyI}(g:TyOK P T){N:Nat}{l:List Oper}{a:List Nat}{xs:List A}{env0:Env}{hB hE i:Nat}{H:Qc}{x:A}(j:xs[i]?=some x)(h:QiX T N l a xs env0 H i=some x):Qab P N l a xs env0 hB hE i H H:=by
 unfold QiX at h;split at h
 .cases h
 .rename_i o f;split at h
  .rename_i d e b;cases q:(Nat.blt d N&&Nat.beq a.length xs.length)with
   |false=>rw[q]at h;cases h
   |true=>
    rw[q]at h;simp only[X4]at q;exact .val o _ d x f b e j q.1 (Qnr (XX q.2)) (Qk2 g h)
  .cases h
abbrev I(n:Int):A:=.int .i64 n
theorem zc{a:A}{v:Value}{al:List A}{vl:List Value}(h:ZR a v)(k:ZL al vl):ZL (a::al) (v::vl):=ZL.cons h k
def zr1:A->Value->Bool
 |.int k n,.int k' n'=>decide (k=k')&&decide (n=n')
 |.bool b,.bool b'=>b==b'
 |.str s,.string s'=>s.isEmpty&&s'.data.toList.isEmpty
 |.rsl _ es,.slice none 0 0=>es.isEmpty
 |.nils,.slice none 0 0=>true
 |.nilp,.pointer none=>true
 |.nilf,.nilFunc=>true
 |.nilm,.map none=>true
 |.nilif,.nilIface=>true
 |_,_=>false
def zrL:List A->List Value->Bool
 |[],[]=>true
 |a::r,v::s=>zr1 a v&&zrL r s
 |_,_=>false
def zrB:A->Value->Bool
 |.agg r,.agg s=>zrL r s.toList
 |a,v=>zr1 a v
theorem QkS{a:A}{v:Value}(h:zr1 a v=true):ZR a v:=by
 unfold zr1 at h;split at h
 .simp only[X4,decide_eq_true_eq]at h;obtain⟨rfl,rfl⟩:=h;exact ZR.int
 .simp only[beq_iff_eq]at h;subst h;exact ZR.bool
 .rename_i s f;simp only[X4,List.isEmpty_iff]at h;obtain⟨rfl,b⟩:=h;obtain⟨d⟩:=f;obtain⟨d⟩:=d;have b:d=[]:=b;subst b;exact ZR.str
 .rename_i k g;have h:g=[]:=List.isEmpty_iff.1 h;subst h;exact ZR.rsl (α:=A) (e:=λx=>[x])
 .exact ZR.nils
 .exact ZR.nilp
 .exact ZR.nilf
 .exact ZR.nilm
 .exact QnB
 .cases h
theorem QkR:∀{r:List A}{s:List Value},zrL r s=true->ZL r s
 |[],[],_=>ZL.nil
 |a::r,v::s,h=>by
  simp only[zrL,X4]at h;exact ZL.cons (QkS h.1) (QkR h.2)
 |[],_::_,h=>by cases h
 |_::_,[],h=>by cases h
theorem zrC{a:A}{v:Value}(h:zrB a v=true):ZR a v:=by
 unfold zrB at h;split at h
 .rename_i r s;have:=ZR.agg (QkR h);simpa using this
 .exact QkS h
end Go.Sw
namespace Go.Sw
section
variable {P:Program}{o:Oper}{env:Env}{H:Qc}
end
end Go.Sw
