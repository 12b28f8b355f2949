/- The rules by which the code is walked, with what they rest on (part 2). -/
import Derived.Test.YtgjcbknjiemdgaaGreatDoorL1
import Derived.Below
import GoSem.ClaimChange
import Derived.Shelf.Strings.Search3
import Derived.Lib.LazyBuf
import Derived.Shelf.Sort.Plain
import Derived.Shelf.Slices.In.SortNone
import Derived.Shelf.Slices.CompactI
import Derived.RangeFuncIn
import Derived.RangeFuncSeq
import Derived.RangeFuncNested
import Derived.Lib.Bytealg
import Derived.Laws.Externs
import Derived.LaidLaws
import Derived.Lib.LaidTab
import Derived.ChangeArms
import Derived.ChangeSame
import Derived.Laws.BytesString
set_option linter.unusedVariables false
set_option linter.unusedSectionVars false
set_option linter.unusedSimpArgs false
namespace Go.Sw
open Go.Sort Go.Proofs Go.Shelf
theorem Qd2{α:Type}{k:Nat}:∀(vs:List (List α)) (j:Nat),(∀v∈vs,v.length=k)->j<vs.length*k->vs.flatten[j]?=(vs[j/k]?).bind λv=>v[j%k]?
 |[],j,_,h=>by simp at h
 |v::vs,j,hk,h=>by
  have hv:=hk v (by simp);have k0:0<k:=by
   rcases Nat.eq_zero_or_pos k with q|q
   .subst q;simp at h
   .exact q
  rw[Vh];by_cases q:j<k
  .rw[XK (by omega),Nat.div_eq_of_lt q,Nat.mod_eq_of_lt q];simp
  .rw[XL (by omega),hv,Qd2 vs (j-k) (λv hv=>hk v (by simp[hv])) (by simp[Xl]at h;omega)];have a:j/k=(j-k)/k+1:=by rw[Nat.div_eq_sub_div k0 (by omega)]
   have d:j%k=(j-k)%k:=Nat.mod_eq_sub_mod (by omega);rw[a,d,XD]
theorem Qaj{α:Type}{k:Nat}:∀(vs:List (List α)),(∀v∈vs,v.length=k)->vs.flatten.length=vs.length*k
 |[],_=>by simp
 |v::vs,h=>by rw[Vh,XZ,Qaj vs (λv hv=>h v (by simp[hv])),h v (by simp),XX,Xl];omega
theorem Qdt{α:Type}(F:List α)(j:Nat):F.toArray[j]?=F[j]? :=by simp
theorem Qij{α:Type}[Inhabited α](F:List α)(j:Nat)(h:j<F.length):F[j]?=some (F.toArray[j]!):=by simp[h]
theorem Qip{β:Type}[Inhabited β]{enc:β->List Value}{k:Nat}(f:∀x,(enc x).length=k)(d:Array β):flatK enc k d=((d.toList.map enc).flatten).toArray:=by
 have a:∀v∈d.toList.map enc,v.length=k:=by
  intro v m;obtain⟨x,_,rfl⟩:=Xe.1 m;exact f x
 apply Array.ext_getElem?;intro t;rw[Qdt ((d.toList.map enc).flatten) t];by_cases h:t<d.size*k
 .rw[Qd2 _ t a (by simpa using h)];have i:0<k:=by
   rcases Nat.eq_zero_or_pos k with q|q
   .subst q;simp at h
   .exact q
  have l:t/k<d.size:=Nat.div_lt_of_lt_mul (by rw[Nat.mul_comm];exact h);have j:t%k<k:=Nat.mod_lt _ i;have g:t<(flatK enc k d).size:=by simpa using h
  have e:=get_flatK enc k d t h;rw[getElem!_pos (flatK enc k d) t g]at e;rw[Array.getElem?_eq_getElem g,e];simp[l];rw[XI (by rw[f];exact j)];rfl
 .have e:(d.toList.map enc).flatten.length=d.size*k:=by rw[Qaj _ a];simp
  rw[Array.getElem?_eq_none (by simpa using h),XM (by rw[e];omega)]
section
variable {ro:Nat->Prop} {σ:Sig} {w:World} {T:Type} {enc:T->List A} {k:Nat}
theorem RL.parts:∀{l:List T} {lv:List Value},RL ro σ w k (l.map enc) lv->
  ∃(ps:List (T×List Value)) (rest:List Value),ps.map (·.1)=l/\lv=(ps.map (·.2)).flatten++rest/\ ∀p∈ps,p.2.length=k/\LR ro σ w (enc p.1) p.2/\ ∀v∈p.2,Qx v
 |[],lv,_=>⟨[],lv,rfl,rfl,by simp⟩
 |x::l,lv,h=>by
  obtain⟨l1,l2,rfl,h1,⟨h2,h3⟩,h4⟩:=h;obtain⟨ps,rest,e1,rfl,h5⟩:=RL.parts (l:=l) h4;refine⟨(x,l1)::ps,rest,by simp[e1],by simp,?_⟩;intro p hp;rcases X3.1 hp with rfl|hp
  .exact⟨by rw[h2.length];exact h1,h2,h3⟩
  .exact h5 p hp
theorem Qee(hk:∀x:T,(enc x).length=k):∀{ps:List (T×List Value)} {rest:List Value},(∀p∈ps,LR ro σ w (enc p.1) p.2/\ ∀v∈p.2,Qx v)->RL ro σ w k ((ps.map (·.1)).map enc) ((ps.map (·.2)).flatten++rest)
 |[],_,_=>trivial
 |p::ps,rest,h=>by
  refine⟨p.2,(ps.map (·.2)).flatten++rest,by simp,hk _,h p (by simp),Qee hk λq hq=>h q (by simp[hq])⟩
end
structure Elt (ro:Nat->Prop) (w:World) {T:Type} (enc:T->List A) (k:Nat) (l:List T) where
 x:T
 vs:List Value
 mem:x∈l
 len:vs.length=k
 rel:LR ro [] w (enc x) vs
 plain:∀v∈vs,Qx v
theorem Qk2{v:Value}(h:Qx v):v.oneCell'=true:=by cases v<;>first|rfl|exact h.elim
theorem QkS{P:Program}{ρ:Ren}(L:SlLaysF0.n6 P ρ){T:Type}[DecidableEq T]{enc:T->List A}{k t g:Nat}{cap:List A}{l l':List T}{cf:T->T->Option Int}(hs:QbI cf l=some l')
  (a9:∀x y c,cf x y=some c->C P g ([.agg (enc x),.agg (enc y)]++cap) [] (λa H=>a=.int .i64 c/\H=[]))
  (aE:∀w,(isAgg (ρ.t 24)).run P w=.ok true w)(zE:∀w,(Go.sizeOf (ρ.t 24)).run P w=.ok k w)(eg:∀args w,(callFunc g args).run P w=.ok (.enter g args) w)
  (hk:∀x,(enc x).length=k)(hd:YK cap=true):
  C P (ρ.f 6) [.osl 0 0 l.length k,.fn (.func g) [] cap] [.row t k (l.map enc)] (λa H=>a=.tup []/\H=[.row t k (l'.map enc)]):=by
 intro fr G σ vals w s hv;obtain⟨vs,r1,rfl,bf,vf,r2,rfl,bk,hr⟩:=hv;cases(show r2=[]from hr);obtain⟨lf,lc,rfl,h1,bc⟩:=bk;cases(show lf=[]from h1);have ao:LR G [] w cap lc:=LR.data hd bc;obtain⟨ba,am,R,ay,a3⟩:=QeS hs;have E:∀(ad:Option Addr) (c:Nat),vs=.slice ad 0 c->l=[]->
   Calls P (ρ.f 6) [vs,.func (.func g) #[] lc.toArray].toArray w λe w'=>∃v r H' ae τ,e=.returned v/\(r=.tup []/\H'=[.row t k (l'.map enc)])/\Sim fr ae (σ++τ) H' w'/\VR ae (σ++τ) w' r v/\Qi fr G w ae w':=by
  rintro ad c rfl rfl;have af:l'=[]:=by rw[<- a3];rfl
  subst af;refine(AnyF.slices_SortFunc_none L ad c (.func (.func g) #[] lc.toArray) w).mono ?_;rintro e w' ⟨rfl,rfl⟩;exact⟨_,_,_,G,[],rfl,⟨rfl,rfl⟩,by simpa using s,⟨[],rfl,rfl⟩,Qi.refl _ _ _⟩
 rcases bf with⟨h0,rfl⟩|⟨b,p,cp,t',m,q1,rfl,q2,⟨q3,br⟩,q4,q5⟩
 .exact E none 0 rfl (VF.1 h0)
 .by_cases af:l=[]
  .subst af;exact E _ cp rfl rfl
  .have be:0<l.length:=List.length_pos_iff.2 af;obtain rfl:=q2 (Vb be q3);obtain⟨lv,e1,e2⟩:=s.blk 0 _ _ q1 rfl;obtain⟨hb,aj,a2⟩:=s.own 0 b _ q1 rfl rfl;obtain⟨V,J,bb,rfl,ac⟩:=RL.parts e2
   let α:=Elt G w enc k l
   have az:∀p∈V,p.1∈l:=λp hp=>by rw[<- bb];exact VC hp
   let ds:List α:=V.attach.map λp=>⟨p.1.1,p.1.2,az _ p.2,(ac _ p.2).1,(ac _ p.2).2.1,(ac _ p.2).2.2⟩
   have a6:∀{γ:Type} (f:T×List Value->γ),V.attach.map (λp=>f p.1)=V.map f:=λf=>by simp
   have N:ds.map (·.x)=l:=by
    show(V.attach.map _).map _=_;rw[List.map_map];exact(a6 (·.1)).trans bb
   have al:ds.map (·.vs)=V.map (·.2):=by
    show(V.attach.map _).map _=_;rw[List.map_map];exact a6 (·.2)
   have aq:ds.length=l.length:=by rw[<- N];simp
   have a4:ds≠[]:=by intro q;rw[q]at aq;simp at aq;omega
   let inh:Inhabited α:=⟨ds.head a4⟩
   let enc':α->List Value:=λa=>a.vs
   let cf':α->α->Int:=λx y=>(cf x.x y.x).getD 0
   have ag:∀x y:α,ltOf cf' x y=ltO cf x.x y.x:=by
    intro x y;obtain⟨c,B⟩:=am x.x x.mem y.x y.mem;simp only[ltOf,ltO,cf',B,Option.getD_some]
   have hO:SWO (ltOf cf'):=⟨λx=>by rw[ag];exact R.irrefl _ x.mem,λx y z a b=>by rw[ag]at*;exact R.trans _ x.mem _ y.mem _ z.mem a b,
    λx y z a b=>by rw[ag]at*;exact R.ntrans _ x.mem _ y.mem _ z.mem a b⟩
   have ab:∀x:α,(enc' x).length=k:=λx=>x.len;have au:flatK enc' k ds.toArray=((V.map (·.2)).flatten).toArray:=by
    rw[Qip ab];show((ds.map λa=>a.vs).flatten).toArray=_;rw[al]
   have bg:∀v∈V.map (·.2),v.length=k:=by
    intro v hv;obtain⟨p,hp,rfl⟩:=Xe.1 hv;exact(ac p hp).1
   have aa:(V.map (·.2)).flatten.length=ds.length*k:=by rw[Qaj _ bg, <- al];simp
   have hH:HoldsK enc' k w b (0*k) ds.toArray:=by
    intro j hj;rw[au]at hj⊢;simp only[List.size_toArray]at hj;constructor
    .unfold World.cell?;simp only[e1,Option.isSome_none,Xi,if_false,Nat.zero_mul,Xu];rw[Qdt,XK hj];exact Qij _ _ hj
    .unfold World.frozen?;simp only[e1];simp
   have av:∀(d:Array α),d.size=ds.toArray.size->(putRowK enc' k w b (0*k) d).heap=w.heap.setIfInBounds b (.cells (((d.toList.map enc').flatten++J)).toArray t (0,0)):=by
    intro d u;have ah:(d.toList.map enc').flatten.length=(V.map (·.2)).flatten.length:=by
     rw[Qaj _ (k:=k) (by intro v hv;obtain⟨x,_,rfl⟩:=Xe.1 hv;exact ab x),aa];simp at u⊢;rw[u]
    unfold putRowK putRow mapBlock;show w.heap.modify b _=_;rw[QdB e1];simp only[onCells];congr 2;rw[Qip ab];unfold putCells;apply Array.ext_getElem?;intro i;simp only[Array.getElem?_mapIdx,Qdt,Nat.zero_mul,XS,true_and,Xu,Nat.sub_zero,List.size_toArray,id_eq];by_cases hi:i<(d.toList.map enc').flatten.length
    .rw[XK hi,XK (by rw[<- ah];exact hi),XI (by rw[<- ah];exact hi),Qij _ _ hi];exact congrArg some (Vp hi)
    .rw[XL (by omega),XL (by omega),ah];cases(J[i-(V.map (·.2)).flatten.length]?)with
     |none=>rfl
     |some v=>
      rw[<- ah];exact congrArg some (Vn hi)
   have Q:∀(m:Nat) (os:Array Obj) (d:Array α),d.size=ds.toArray.size->
     (∀c,c<w.heap.size->c≠b->(sortWorldK enc' k w b (0*k) m d os).heap[c]?=w.heap[c]?)/\(sortWorldK enc' k w b (0*k) m d os).heap[b]?=some (.cells (((d.toList.map enc').flatten++J)).toArray t (0,0))/\
     w.heap.size<=(sortWorldK enc' k w b (0*k) m d os).heap.size:=by
    intro m os d u;have e:(sortWorldK enc' k w b (0*k) m d os).heap=w.heap.setIfInBounds b (.cells (((d.toList.map enc').flatten++J)).toArray t (0,0))++os:=by
     rw[<- av d u];rfl
    rw[e];refine⟨λc B bp=>?_,?_,by simp⟩
    .rw[Array.getElem?_append_left (by simpa using B),Va,Vn (λq=>bp q.symm)]
    .rw[Array.getElem?_append_left (by simpa using hb),Va,Vp rfl,Vp hb]
   have M:∀(m:Nat) (os:Array Obj) (d:Array α),d.size=ds.toArray.size->∀c y,w.shape? c=some y->(sortWorldK enc' k w b (0*k) m d os).shape? c=some y:=by
    intro m os d u c y hy;obtain⟨g1,g2,g3⟩:=Q m os d u;by_cases B:c=b
    .subst B;unfold World.shape? at hy⊢;rw[e1]at hy;rw[g2];simp only[Option.some.injEq]at hy⊢;rw[<- hy];congr 1;simp only[List.size_toArray,XZ];rw[Qaj _ (k:=k) (by intro v hv;obtain⟨x,_,rfl⟩:=Xe.1 hv;exact ab x),aa];simp at u⊢;rw[u]
    .unfold World.shape? at hy⊢;rw[g1 c (Ql9 hy) B];exact hy
   have ai:∀(m:Nat) (os:Array Obj) (d:Array α),d.size=ds.toArray.size->∀τ,Ext G τ w G τ (sortWorldK enc' k w b (0*k) m d os):=by
    intro m os d u τ;obtain⟨g1,g2,g3⟩:=Q m os d u;exact⟨λ_ q=>q,λc B=>g1 c (s.roLt c B) (λq=>aj (q▸B)),M m os d u,λ_ _ q=>q⟩
   have bd:CmpLays P g lc.toArray enc' k cf' b (0*k) ds.toArray.size w:=by
    intro m os dk a8 x y;obtain⟨c,B⟩:=am x.x x.mem y.x y.mem;have F:=ai m os dk a8 [];have bh:=a9 _ _ _ B;generalize hW:sortWorldK enc' k w b (0*k) m dk os=W at*;have bq:w.heap.size<=W.heap.size:=by rw[<- hW];exact(Q m os dk a8).2.2
    have sW:Sim (λc=>c<W.heap.size/\ ¬G c) G [] [] W:=
     ⟨rfl,s.roOk.to (λ_ q=>q) F.keep (λc B=>Vb (s.roLt c B) bq),λc B=>B.1,λc B hf=>hf.2 B,λi b x h=>by simp at h,λi j b x y h=>by simp at h,λi y x h=>by simp at h,λi b x c h=>by simp at h⟩
    have aw:LR G [] W ([.agg (enc x.x),.agg (enc y.x)]++cap) ([.agg x.vs.toArray,.agg y.vs.toArray]++lc):=
     LR.append (show LR G [] W [A.agg (enc x.x),A.agg (enc y.x)] [Value.agg x.vs.toArray,Value.agg y.vs.toArray]from⟨_,_,rfl,⟨x.vs,rfl,x.rel.mono F⟩,_,_,rfl,⟨y.vs,rfl,y.rel.mono F⟩,rfl⟩) (ao.mono F)
    have O:=bh _ G [] _ W sW aw;have bj:(([Value.agg x.vs.toArray,Value.agg y.vs.toArray]++lc).toArray:Array Value)= #[Value.agg (enc' x).toArray,Value.agg (enc' y).toArray]++lc.toArray:=by simp[enc']
    rw[bj]at O;refine O.mono ?_;rintro e w' ⟨v,r,H',ae,τ,rfl,⟨rfl,rfl⟩,s',bn,ev⟩;refine⟨?_,?_⟩
    .rw[show v=.int .i64 c from bn];simp only[cf',B,Option.getD_some]
    .refine Qn1 (λc B=>?_) ev.size ev.os ev.tape ev.output ev.drawn;by_cases a5:G c
     .exact ev.keepRo c a5
     .exact ev.keepFr c ⟨B,a5⟩
   have X:ds.toArray.size=l.length:=by simpa using aq
   have ak:=AnyQ.slices_SortFunc L k aE zE enc' ab (λx v hv=>Qk2 (x.plain v hv)) cf' hO g lc.toArray b (0*k) cp ds.toArray w eg bd hH hb (by rw[X];unfold Yk at ba;omega);rw[X]at ak;refine ak.mono ?_;rintro e w' ⟨rfl,d,n,os,Y,ar,rfl⟩;have u:d.size=ds.toArray.size:=Y.1;obtain⟨g1,g2,g3⟩:=Q n os d u;have ax:d.toList.Perm ds:=by
    have h:=Y.2.2;have x1:d.extract 0 l.length=d:=by rw[<- X, <- u];exact Array.extract_size
    have x2:ds.toArray.extract 0 l.length=ds.toArray:=by rw[<- X];exact Array.extract_size
    rw[x1,x2]at h;simpa using h
   have a1:d.toList.map (·.x)=l':=by
    rw[<- a3];refine Qbh (lt:=ltO cf) ?_ ?_ ?_ (YI R)
    .exact((ax.map (·.x)).trans (by rw[N])).trans (QT _ _).symm
    .intro x hx y hy;have bl:x∈l:=by rw[<- N];exact(ax.map (·.x)).mem_iff.1 hx
     have bi:y∈l:=by rw[<- N];exact(ax.map (·.x)).mem_iff.1 hy
     exact ay x bl y bi
    .rw[VA];intro i j hi hj bm;simp only[XY]at hi hj;simp only[List.getElem_map];rw[<- ag];have:=ar i j (XS _) bm (by rw[<- X, <- u];simpa using hj);rw[getElem!_pos d j (by simpa using hj),getElem!_pos d i (by simpa using hi)]at this;simpa using this
   have bo:RL G [] (sortWorldK enc' k w b (0*k) n d os) k (l'.map enc) ((d.toList.map enc').flatten++J):=by
    have e3:d.toList.map enc'=(d.toList.map λa=>(a.x,a.vs)).map (·.2):=by simp[enc']
    have e4:l'=(d.toList.map λa=>(a.x,a.vs)).map (·.1):=by rw[<- a1];simp
    rw[e3,e4];refine Qee hk ?_;intro p hp;obtain⟨a,_,rfl⟩:=Xe.1 hp;exact⟨a.rel.mono (ai n os d u []),a.plain⟩
   have a7:Qi fr G w G (sortWorldK enc' k w b (0*k) n d os):=
    ⟨λ_ q=>q,λc B=>g1 c (s.roLt c B) (λq=>aj (q▸B)),λc B=>g1 c (s.frLt c B) (λq=>a2 (q▸B)),g3,M n os d u,rfl,rfl,rfl,Nat.le_add_right _ _⟩
   have an:σ.length=1:=s.len;have a0:Sim fr G σ [.row t k (l'.map enc)] (sortWorldK enc' k w b (0*k) n d os):=by
    have i0:∀{i:Nat} {x:Blk},([.row t k (l'.map enc)]:Qd)[i]?=some x->i=0/\x=.row t k (l'.map enc):=by
     intro i x h;cases i with
     |zero=>simp at h;exact⟨rfl,h.symm⟩
     |succ i=>simp at h
    refine⟨an,s.roOk.to (λ_ q=>q) a7.keepRo (λc B=>Vb (s.roLt c B) g3),λc B=>Vb (s.frLt c B) g3,s.roFr,λi c x h1 h2 h3=>?_,λi j c x y h1 h2 h3 h4 _ _=>?_,λi y x h1 h2=>?_,λi b x c h1 h2 h3=>by obtain⟨rfl,rfl⟩:=i0 h2;exact h3.elim⟩
    .obtain⟨rfl,rfl⟩:=i0 h2;obtain⟨p1,p2⟩:=s.own 0 c _ h1 rfl rfl;exact⟨Vb p1 g3,p2⟩
    .rw[(i0 h3).1,(i0 h4).1]
    .obtain⟨rfl,rfl⟩:=i0 h2;rw[q1]at h1;cases h1;exact⟨_,g2,bo⟩
   exact⟨_,_,_,G,[],rfl,⟨rfl,rfl⟩,by simpa using a0,⟨[],rfl,rfl⟩,a7⟩
end Go.Sw
namespace Go.Sw
section
variable {P:Program} {o:Oper} {env:Env} {H:Qd} {fr ro:Nat->Prop} {σ:Sig} {w:World}
theorem Sim.addRo(s:Sim fr ro σ H w){b:Nat}(f:b<w.heap.size)(g:¬fr b)(n:∀(i:Nat) (x:Blk),σ[i]?=some (some b)->H[i]?=some x->x.live=true->False)
  (l:∀(i d:Nat) (x:Blk),σ[i]?=some (some d)->H[i]?=some x->Hid w x d b->False):Sim fr (λc=>ro c\/c=b) σ H w:=by
 refine⟨s.len,s.roOk.to (λ_ q=>.inl q) (λ_ _=>rfl) ?_,s.frLt,?_,?_,s.inj,?_,s.hidTo (· = ·) Yc (XR _) (by grind) (by simp) (by grind)⟩
 .rintro c (q|rfl)
  .exact s.roLt c q
  .exact f
 .rintro c (q|rfl)
  .exact s.roFr c q
  .exact g
 .intro i c x e a h;obtain⟨j,m,k⟩:=s.own i c x e a h
  grind
 .intro i y x e a;exact(s.blk i y x e a).keep ⟨λ_ q=>.inl q,λ_ _=>rfl,λ_ _ q=>q,λ_ _ q=>q⟩ (λ_ _ _=>rfl) (λ_ _ _ _=>rfl)
theorem YE{T e k n:Nat}{xs:List Operand}{es:List (List A)}(E:Ya P T e k)(ho:o.op=.buildSlice T n (Qax 0 xs).toArray)(M:xs.length=n)(y:Nat.ble (n*k) 16777216=true)
  (X:(xs.all λx=>Yp (opA env x))=true)(B:Yj env xs=es)(J:allK k es)(Y:es.flatten.all Yz=true)(R:YK es.flatten=true):
  OpH P o env H (.rsl k es) H:=by
 intro W j σ N a w r;subst B;obtain⟨l,Q,L⟩:=QaF r E M y X J;have u:LR j [] w (Yj env xs).flatten l:=L.data R;have f:∀b,b<w.heap.size->(w.alloc (.cells l.toArray e)).heap[b]?=w.heap[b]? :=λb V=>YD _ _ b V;have t:w.heap.size<=(w.alloc (.cells l.toArray e)).heap.size:=by simp
 have O:=r.sim.grown f t;have p:Qi W j w j (w.alloc (.cells l.toArray e)):=Qi.alloc _ r.sim.roLt r.sim.frLt;have s2:=O.addRo (b:=w.heap.size) (by simp) (λq=>Nat.lt_irrefl _ (r.sim.frLt _ q)) (λi x g s F=>Nat.lt_irrefl _ (r.sim.own i _ x g s F).1)
  (λi d x g s F=>Nat.lt_irrefl _ (r.sim.hid i d x _ g s (r.sim.hidKeep g s (λz=>f d (r.sim.own i d x g s z).1) (λb q=>f b (r.sim.roLt b q)) F)).lt)
 have G:RL j [] (w.alloc (.cells l.toArray e)) k (Yj env xs) l:=by
  have:=YY (rest:=[]) J (u.mono (p.ext0 [])) (L.plain Y)
  grind
 have m:(Yj env xs).length=n:=by simp[Yj,M]
 refine⟨_,_,λc=>j c\/c=w.heap.size,[],Qan ho a.eval Q,?_,by grind,p.trans (YN λ_ q=>.inl q)⟩;refine⟨some ⟨w.heap.size,0,none⟩,n,by rw[m],by omega,.inr ⟨w.heap.size,0,rfl,.inr rfl,?_⟩⟩;have h:(w.alloc (.cells l.toArray e)).heap[w.heap.size]?=some (.cells (([]:List Value)++l).toArray e (0,0)):=Q6 _ _;have:=YF (pre:=[]) h G;exact this.keep ⟨λ_ q=>.inl q,λ_ _=>rfl,λ_ _ q=>q,λ_ _ q=>q⟩ rfl
end
inductive QjV:List A->List A->Prop
 |nil:QjV [] []
 |eq {a:A} {l m:List A} (h:QjV l m):QjV (a::l) (a::m)
 |nl {k:Nat} {l m:List A} (h:QjV l m):QjV (.nils::l) (.rsl k []::m)
theorem LR.nils{ro:Nat->Prop}{σ:Sig}{w:World}{g i:List A}(h:QjV g i):∀{l:List Value},LR ro σ w g l->LR ro σ w i l:=by
 induction h with
 |nil=>simp
 |eq _ ih=>rintro l ⟨v,f,e,d,a⟩;exact⟨v,f,e,d,ih a⟩
 |nl _ ih=>rintro l ⟨v,f,e,d,a⟩;exact⟨v,f,e,⟨none,0,d,XR _,.inl rfl⟩,ih a⟩
theorem C.nils{P:Program}{f:FuncId}{l1 bs:List A}{H:Qd}{Q:A->Qd->Prop}(hl:QjV l1 bs)(h:C P f bs H Q):C P f l1 H Q:=
 λfr ro σ vals w s l=>h fr ro σ vals w s (LR.nils hl l)
def Qm(k:IntKind)(n:Int):Prop:=k.min<=n/\n<=k.max
def Qeb(w:World):Nat->Prop:=λb=>b<w.heap.size
structure Qns {H:Type} (μ:DataW H->Nat):Prop where
 str:∀bytes,bytes.length<=μ (.lit (.string bytes))
 sl:∀e s,e.length<=μ (.slice e s)
 sle:∀e s,∀d∈e,μ d<=μ (.slice e s)
 ag:∀ps,∀d∈ps,μ d<=μ (.agg ps)
def RB(P:Program)(n:Nat)(t:TypeId)(T:Type)(e:T->List A)(wf:T->Prop):Prop:=
 ∀(H:Type) (enc:TypeId×Value->H) (w:World) (base:Nat) (spare:Nat->Bool) (held:Bool) (m:Nat) (cs:List Value) d,m<n->DataW.trod enc P w base spare held m t cs=some d->
  ∀μ:DataW H->Nat,Qns μ->μ d.1<=1048576->∃x:T,wf x/\LR (Qeb w) [] w (e x) cs/\ ∀v∈cs,Qx v
section
variable {P:Program} {n:Nat} {t:TypeId} {T:Type} {e:T->List A} {wf:T->Prop}
theorem RB.down(h:RB P (n+1) t T e wf):RB P n t T e wf:=λH enc w base spare held m cs d hm=>h H enc w base spare held m cs d (Nat.lt_succ_of_lt hm)
theorem QeI(h:∀n,RB P n t T e wf->RB P (n+1) t T e wf):∀n,RB P n t T e wf
 |0=>λH enc w base spare held m cs d hm=>(by omega)
 |n+1=>h n (QeI h n)
theorem Q0{T':Type}{f:T'->List A}{a:T'->Prop}(h:RB P n t T e wf)(g:T->T')(he:∀x,f (g x)=e x)(l:∀x,wf x->a (g x)):RB P n t T' f a:=by
 intro H enc w base spare held m cs d hm hd μ hμ hwt;obtain⟨x,j,i,k⟩:=h H enc w base spare held m cs d hm hd μ hμ hwt
 grind
theorem RB.int{k:IntKind}(a:P.underlying t=some (.int k)):RB P n t Int (Qe k) (Qm k):=by
 intro H enc w base spare held m cs d hm hd μ hμ hwt;cases m with
 |zero=>simp[DataW.trod]at hd
 |succ m=>
  rcases cs with _|⟨v,_|⟨h,r⟩⟩
  .simp[DataW.trod,a]at hd
  .cases v<;>simp[DataW.trod,a]at hd;rename_i g f;obtain⟨⟨rfl,e⟩,_⟩:=hd;refine⟨f,?_,⟨_,_,rfl,rfl,rfl⟩,by simp[Qx]⟩;simpa[Lit.wf,Qm]using e
  .simp[DataW.trod,a]at hd
theorem RB.bool(a:P.underlying t=some .bool):RB P n t Bool Qa1 (λ_=>True):=by
 intro H enc w base spare held m cs d hm hd μ hμ hwt;cases m with
 |zero=>simp[DataW.trod]at hd
 |succ m=>
  rcases cs with _|⟨v,_|⟨e,r⟩⟩
  .simp[DataW.trod,a]at hd
  .cases v<;>simp[DataW.trod,a]at hd;rename_i b;exact⟨b,trivial,⟨_,_,rfl,rfl,rfl⟩,by simp[Qx]⟩
  .simp[DataW.trod,a]at hd
theorem RB.string(a:P.underlying t=some .string):RB P n t (List UInt8) JB (λs=>s.length<=1048576):=by
 intro H enc w base spare held m cs d hm hd μ hμ hwt;cases m with
 |zero=>simp[DataW.trod]at hd
 |succ m=>
  rcases cs with _|⟨v,_|⟨e,r⟩⟩
  .simp[DataW.trod,a]at hd
  .cases v<;>simp[DataW.trod,a]at hd;rename_i s;obtain⟨_,rfl⟩:=hd;exact⟨s.data.toList,XT (hμ.str _) hwt,⟨_,_,rfl,rfl,rfl⟩,by simp[Qx]⟩
  .simp[DataW.trod,a]at hd
theorem QcF{α:Type}{f:Nat->Option α}:∀{n:Nat} {l:List α},(List.range n).mapM f=some l->l.length=n/\ ∀i,i<n->∃y,f i=some y/\l[i]?=some y
 |0,l,h=>by grind
 |n+1,l,h=>by
  rw[List.range_succ,List.mapM_append]at h;cases h1:(List.range n).mapM f with
  |none=>grind
  |some l1=>
   cases h2:f n with
   |none=>grind
   |some y=>
    simp[h1,h2]at h;subst h;obtain⟨e1,e2⟩:=QcF h1
    grind
theorem Qeh{w:World}{ro:Nat->Prop}{b:Nat}:∀{cs:List A} {l:List Value} {off:Nat},LR ro [] w cs l->(∀v∈l,Qx v)->(∀i,i<l.length->w.cell? ⟨b,off+i,none⟩=l[i]?)->CR ro [] w b cs off
 |[],_,_,_,_,_=>trivial
 |a::cs,l,off,h,hp,hc=>by
  obtain⟨v,l',rfl,h1,h2⟩:=h;refine⟨(by grind),Qeh h2 (by grind) λi hi=>?_⟩;have:=hc (i+1) (by grind)
  grind
theorem RB.slice{E:TypeId}{k:Nat}{s:TypeId}(G:P.underlying s=some (.slice E))(hk:P.cellsOf E=k)(h0:Nat.blt 0 k=true)(hl:∀x,(e x).length=k)(h:RB P n E T e wf):
  RB P (n+1) s (List T) (Qu k e) (λl=>l.length<=1048576/\ ∀x∈l,wf x):=by
 intro H enc w base spare held m cs d hm hd μ hμ hwt;have k0:0<k:=by simp_all
 cases m with
 |zero=>simp[DataW.trod]at hd
 |succ m=>
  rcases cs with _|⟨v,_|⟨v2,r⟩⟩
  .simp[DataW.trod,G]at hd
  .cases v<;>try (simp[DataW.trod,G]at hd;done)
   rename_i a len g;cases a with
   |none=>
    rcases len with _|len
    .rcases g with _|g
     .refine⟨[],⟨by simp,by simp⟩,⟨_,_,rfl,⟨none,0,rfl,XR _,.inl rfl⟩,rfl⟩,by simp[Qx]⟩
     .simp[DataW.trod,G]at hd
    .simp[DataW.trod,G]at hd
   |some a=>
    simp only[DataW.trod,G]at hd;split at hd
    .rename_i hc;obtain⟨c1,c2,c3⟩:=hc;cases N:(List.range len).mapM (λi=>(w.cells? base (a.add (i*P.cellsOf E)) (P.cellsOf E)).bind (DataW.trod enc P w base spare held m E))with
     |none=>grind
     |some f=>
      rw[N]at hd;simp only[XH,Option.map_eq_some_iff]at hd;obtain⟨p,_,rfl⟩:=hd;have B:f.length<=1048576:=by
       have h1:=hμ.sl (f.map (·.1)) (p.map (·.1))
       grind
      have V:∀y∈f,μ y.1<=1048576:=λy J=>XT (hμ.sle _ (p.map (·.1)) _ (VC J)) hwt;obtain⟨e1,e2⟩:=QcF N;have R:∀i,i<len->∃(x:T) (l:List Value),wf x/\LR (Qeb w) [] w (e x) l/\(∀v∈l,Qx v)/\l.length=k/\ ∀j,j<k->w.cell? ((a.add (i*k)).add j)=l[j]? :=by
       intro i W;obtain⟨y,y1,y2⟩:=e2 i W;rw[hk]at y1;cases X:w.cells? base (a.add (i*k)) k with
       |none=>grind
       |some l=>
        rw[X]at y1;obtain⟨x,x1,x2,x3⟩:=h H enc w base spare held m l y (by omega) y1 μ hμ (V y (VD y2))
        grind[World.cells?,QcF]
      by_cases O:len=0
      .subst O;exact⟨[],⟨by simp,by simp⟩,⟨_,_,rfl,⟨some a,g,rfl,XS _,.inl rfl⟩,rfl⟩,by simp[Qx]⟩
      .have first:a.spot=none/\a.block<w.heap.size:=by
        obtain⟨x',l,p1,p2,p3,p4,p5⟩:=R 0 (by omega);have t:=p5 0 k0;have Y:l[0]?=some l[0]:=XI (by omega);have ea:(a.add (0*k)).add 0=a:=by simp[Addr.add]
        rw[Y,ea]at t;unfold World.cell? at t;split at t
        .rename_i hh;constructor
         .cases q:a.spot with
          |none=>rfl
          |some z=>simp[q]at t
         .exact(X9.1 hh).1
        .cases t
       obtain⟨M,hb⟩:=first
       have L:∀n,a.add n=⟨a.block,a.off+n,none⟩:=by
        intro n;cases a;simp only at M;subst M;unfold Addr.add;split
        .rename_i q;subst q;rfl
        .rfl
       have u:∀(b o n:Nat),(⟨b,o,none⟩:Addr).add n=⟨b,o+n,none⟩:=by
        intro b o n;unfold Addr.add;split
        .rename_i q;subst q;rfl
        .rfl
       have pick:∀q i,len-i=q->i<=len->∃F:List T,F.length=len-i/\(∀x∈F,wf x)/\RR (Qeb w) [] w a.block k (F.map e) (a.off+i*k):=by
        intro q
        induction q with
        |zero=>intro i hq W;exact⟨[],by simp[hq],by simp,trivial⟩
        |succ q ih=>
         intro i hq W;obtain⟨F,w1,w2,Q⟩:=ih (i+1) (by omega) (by omega);obtain⟨x,l,p1,p2,p3,p4,p5⟩:=R i (by omega);refine⟨x::F,by simp[w1];omega,by intro y J;rcases X3.1 J with rfl|J;exact p1;exact w2 y J,hl x,?_,?_⟩
         .refine Qeh p2 p3 λj hj=>?_;have t:=p5 j (by omega);rw[L,u]at t;exact t
         .rw[Xl, <- Nat.add_assoc]at Q;exact Q
       obtain⟨F,w1,w2,Q⟩:=pick len 0 (by omega) (XS _);rw[Nat.zero_mul,Xv]at Q;rw[Nat.sub_zero]at w1;refine⟨F,⟨by rw[w1, <- e1];exact B,w2⟩,⟨_,_,rfl,⟨some a,g,by simp[w1],by simp[w1];exact c2,.inr ⟨a.block,a.off,?_,hb,Q⟩⟩,rfl⟩,by simp[Qx]⟩;cases a
       grind
    .cases hd
  .simp[DataW.trod,G]at hd
def RF(P:Program)(n:Nat)(fs:List Field)(off L:Nat)(T:Type)(e:T->List A)(wf:T->Prop):Prop:=
 ∀(H:Type) (enc:TypeId×Value->H) (w:World) (base:Nat) (spare:Nat->Bool) (held:Bool) (m:Nat) (cs:List Value) ds,m<n->cs.length=L->
  fs.mapM (λf=>DataW.trod enc P w base spare held m f.type ((cs.drop f.offset).take (P.cellsOf f.type)))=some ds->
  ∀μ:DataW H->Nat,Qns μ->(∀y∈ds,μ y.1<=1048576)->∃x:T,wf x/\LR (Qeb w) [] w (e x) (cs.drop off)/\ ∀v∈cs.drop off,Qx v
theorem RF.nil{L:Nat}:RF P n [] L L Unit (λ_=>[]) (λ_=>True):=by
 intro H enc w base spare held m cs ds hm hl hd μ hμ hwt;have:cs.drop L=[]:=(by grind);rw[this];exact⟨(),trivial,rfl,by simp⟩
theorem RF.cons{f:Field}{fs:List Field}{off L k:Nat}{T2:Type}{q:T2->List A}{a:T2->Prop}(z:f.offset=off)(u:P.cellsOf f.type=k)(h:RB P n f.type T e wf)(r:RF P n fs (off+k) L T2 q a):
  RF P n (f::fs) off L (T×T2) (λp=>e p.1++q p.2) (λp=>wf p.1/\a p.2):=by
 intro H enc w base spare held m cs ds hm hl hd μ hμ hwt;rw[List.mapM_cons]at hd;cases l:DataW.trod enc P w base spare held m f.type ((cs.drop f.offset).take (P.cellsOf f.type))with
 |none=>grind
 |some d=>
  cases s:fs.mapM (λf=>DataW.trod enc P w base spare held m f.type ((cs.drop f.offset).take (P.cellsOf f.type)))with
  |none=>grind
  |some g=>
   have i:ds=d::g:=by
    grind
   subst i;rw[z,u]at l;obtain⟨x,B,t,F⟩:=h H enc w base spare held m _ d hm l μ hμ (hwt d (by simp));obtain⟨y,y1,y2,E⟩:=r H enc w base spare held m cs g hm hl s μ hμ (by grind);have j:cs.drop off=(cs.drop off).take k++cs.drop (off+k):=by rw[<- List.drop_drop,Xx]
   refine⟨(x,y),⟨B,y1⟩,by rw[j];exact t.append y2,?_⟩
   grind
theorem RB.struct{fs:Array Field}{L:Nat}(g:P.underlying t=some (.struct fs))(i:P.cellsOf t=L)(h:RF P n fs.toList 0 L T e wf):RB P (n+1) t T e wf:=by
 intro H enc w base spare held m cs d hm hd μ hμ hwt;cases m with
 |zero=>simp[DataW.trod]at hd
 |succ m=>
  unfold DataW.trod at hd;simp only[g]at hd;split at hd
  .rename_i j;cases a:fs.toList.mapM (λf=>DataW.trod enc P w base spare held m f.type ((cs.drop f.offset).take (P.cellsOf f.type)))with
   |none=>grind
   |some k=>
    rw[a]at hd;simp only[Xj,Option.some.injEq]at hd;subst hd;have:=h H enc w base spare held m cs k (by omega) (by rw[j,i]) a μ hμ (λy l=>XT (hμ.ag _ _ (by grind)) hwt)
    grind
  .cases hd
end
theorem C.law{P:Program}{f:FuncId}{args:List A}{W:World}{vals:List Value}(h:C P f args [] (λa H=>a=.bool true/\H=[]))(g:LR (Qeb W) [] W args vals)(d:GP W):
  Calls P f vals.toArray W λe W'=>e=.returned (.bool true)/\Go.RowKit.Below W.heap.size W W':=by
 have s:Sim (λ_=>False) (Qeb W) [] [] W:=
  ⟨rfl,⟨λ_ h=>h,λb i=>d.size b i,d⟩,λ_ h=>h.elim,λ_ _ h=>h,(by simp),(by simp),(by simp),(by simp)⟩
 refine(h _ _ _ _ W s g).mono ?_;rintro e W' ⟨v,r,H',l,τ,rfl,⟨rfl,rfl⟩,_,m,ev⟩;exact⟨by rw[show v=.bool true from m],⟨ev.os,ev.tape,ev.output,ev.size,λk j=>ev.keepRo k j⟩⟩
theorem Qh7{P:Program}{W:World}{a:Nat}{t:TypeId}{v:Value}{fs:Array Field}(d:P.underlying t=some (.struct fs))(h:Value.okWide P W .any a t v):∃cs,v=.agg cs:=by
 unfold Value.okWide at h
 grind
theorem Qe5{P:Program}{W:World}{t:TypeId}{cs:Array Value}{T:Type}{e:T->List A}{wf:T->Prop}{H:Type}{enc:TypeId×Value->H}{f:Nat}{a:Nat->Bool}{held:Bool}{d:DataW H}{ps:List MemPlace}
  (h:∀n,RB P n t T e wf)(k:DataW.Trod enc P W f a held t (.agg cs) d ps){μ:DataW H->Nat}(hμ:Qns μ)(g:μ d<=1048576):∃x:T,wf x/\VR (Qeb W) [] W (.agg (e x)) (.agg cs):=by
 obtain⟨m,i⟩:=k;obtain⟨x,l,j,_⟩:=h (m+1) H enc W f a held m _ _ (Xm _) i μ hμ g;exact⟨x,l,cs.toList,by simp,j⟩
theorem Qk0{P:Program}{W:World}{t:TypeId}{a:Option Addr}{len cap:Nat}{T:Type}{e:T->List A}{k:Nat}{wf:List T->Prop}{H:Type}{enc:TypeId×Value->H}{g:Nat}{f:Nat->Bool}{held:Bool}{d:DataW H}{ps:List MemPlace}
  (h:∀n,RB P n t (List T) (Qu k e) wf)(p:DataW.Trod enc P W g f held t (.slice a len cap) d ps){μ:DataW H->Nat}(hμ:Qns μ)(i:μ d<=1048576):∃x:List T,wf x/\VR (Qeb W) [] W (.rsl k (x.map e)) (.slice a len cap):=by
 obtain⟨m,j⟩:=p;obtain⟨x,l,⟨v,s,q,r,u⟩,_⟩:=h (m+1) H enc W g f held m _ _ (Xm _) j μ hμ i;refine⟨x,l,?_⟩;have:(Value.slice a len cap).cells.toList=[.slice a len cap]:=rfl
 grind
theorem Qjc{P:Program}{W:World}(h:W.ShapedOpen P){g t u:Nat}{z:Value}(hg:Nat.blt g P.globals.size=true)(n:(((begin P (λ_ _=>0) default).world.heap[g]?).bind Obj.row?)=some (#[z],t))
  (j:P.buildable t=true)(r:P.cellTypes P.depth t=some [u])(p:P.underlying u=some (.int .i64)):∃m:Int,W.cell? ⟨g,0,none⟩=some (.int .i64 m):=by
 obtain⟨d,x,l,q⟩:=h.1 g _ _ (by simp_all) n;obtain⟨B,i,_,k⟩:=q j;rw[r]at i;cases i;have y:d.size=1:=l;have e:d[0]?=some d[0]:=(by simp);obtain⟨w,f,a⟩:=k 0 _ e;simp at f;subst f;unfold Cell.ok at a;rw[p]at a;cases s:d[0]<;>rw[s]at a<;>simp at a
 simp_all[World.cell?]
theorem Qjq{S B:Type}{step:S->Option (Ctl S B)}(d:Nat->S)(b:B)(k:Nat)(p:∀i,i<k->step (d i)=some (.cont (d (i+1))))(h:step (d k)=some (.done b)):∀n,k<n->iter step n (d 0)=some b:=by
 have g:∀m i n,k-i=m->i<=k->m<n->iter step n (d i)=some b:=by
  intro m
  induction m with
  |zero=>
   intro i n f e j;have:i=k:=by omega
   subst this;obtain⟨a,rfl⟩:∃a,n=a+1:=⟨n-1,by omega⟩;simp[iter,h]
  |succ m l=>
   intro i n f e j;obtain⟨a,rfl⟩:∃a,n=a+1:=⟨n-1,by omega⟩
   grind[iter]
 grind
theorem Qmw{S B:Type}{step:S->Option (Ctl S B)}(d:S)(a:Nat->S)(b:B)(k:Nat)(f:a 0=d)(h:∀i,i<k->step (a i)=some (.cont (a (i+1))))(e:step (a k)=some (.done b))(n:Nat)(g:k<n):iter step n d=some b:=by
 rw[<- f];exact Qjq a b k h e n g
theorem Ym{α:Type}{l:List α}{i:Nat}{x:α}(h:l[i]?=some x):idx l (i:Int)=some x:=by
 grind[idx]
theorem Qbs{α:Type}(l:List α)(x:α)(h:l.length<4294967296):app l [x]=some (l++[x]):=by
 unfold app;have:Nat.ble (l.length+[x].length) Yk=true:=by
  grind[Nat.ble_eq_true_of_le,Yk]
 grind
theorem Qde{α:Type}(l m:List α)(h:l.length+m.length<=4294967296):app l m=some (l++m):=by
 simp_all[app,Yk,XQ]
theorem QH{n:Int}(a: -9223372036854775808<=n)(d:n<=9223372036854775807):IntKind.i64.wrap n=n:=by
 grind[IntKind.wrap,IntKind.bits,IntKind.signed]
theorem Yi{i:Nat}(h:i<9223372036854775807):IntKind.i64.wrap ((i:Int)+1)=((i+1:Nat):Int):=by
 rw[QH (by omega) (by omega)];omega
theorem QZ{p:Prop}[Decidable p](h:p):decide p=true:=Vq h
theorem QV{p:Prop}[Decidable p](h:¬p):decide p=false:=Vt h
open Go.Proofs Go.Shelf
def cat(a b:List UInt8):Option (List UInt8):=bif Nat.ble (a.length+b.length) 4294967296 then some (a++b)else none
theorem Qpk{a b r:List UInt8}(h:cat a b=some r):a.length+b.length<=4294967296/\a++b=r:=by
 unfold cat at h;cases q:Nat.ble (a.length+b.length) 4294967296 with
 |true=>simp_all
 |false=>grind
def Qfj(s t:List UInt8):Option Bool:=bif Nat.blt s.length 4294967281 then some (Lib.contains s t)else none
section
variable {P:Program} {o:Oper} {env:Env} {H:Qd}
theorem QfS{t u:TypeId}{x y:Operand}{p q r:List UInt8}(h:cat p q=some r)(n:o.op=.binOp .add t x y u:=by exact rfl)(hx:opA env x=.str p:=by exact rfl)(hy:opA env y=.str q:=by exact rfl):OpV P o env H (.str r):=by
 intro l s σ N a w rr;obtain⟨k,g⟩:=Qpk h;have e:=Qk rr x;rw[hx]at e;have f:=Qk rr y;rw[hy]at f;have j:a.eval x=.string ⟨p.toArray⟩:=e;have i:a.eval y=.string ⟨q.toArray⟩:=f;have m:(⟨p.toArray⟩:ByteArray)++⟨q.toArray⟩=⟨r.toArray⟩:=by
  rw[<- g];rfl
 refine⟨.string ⟨r.toArray⟩,?_,rfl⟩;have d:¬((((⟨p.toArray⟩:ByteArray).size+(⟨q.toArray⟩:ByteArray).size:Nat):Int)>IntKind.i64.max):=by
  have:IntKind.i64.max=9223372036854775807:=by decide
  grind[ByteArray.size]
 simp_all[eqGuard,execOp,binOp_string_add,Op.stringOp,Vn]
def Qel{α:Type}(n:Nat)(l:List α)(i:Int):Option α:=bif Nat.beq l.length n then idx l i else none
theorem QaS{α:Type}{n:Nat}{l:List α}{i:Int}{x:α}(h:Qel n l i=some x):l.length=n/\idx l i=some x:=by
 grind[Qel,Nat.eq_of_beq_eq_true]
def arr{α:Type}(n:Nat)(l:List α):Option (List α):=bif Nat.beq l.length n then some l else none
theorem Jy{α:Type}{n:Nat}{l l':List α}(h:arr n l=some l'):l.length=n/\l=l':=by
 grind[arr,Nat.eq_of_beq_eq_true]
theorem Qbr{α:Type}{n:Nat}{l l':List α}(h:arr n l=some l'):l'.length=n:=(Jy h).2▸(Jy h).1
section
variable {α:Type} {e:α->List A} {t et k n b:Nat} {x y:Operand} {l:List α}
theorem Qaf{i:Int}{v:α}{m:IntKind}(h:Qel n l i=some v)(E:∀w,(underlying t).run P w=.ok (.array n et) w)(s:∀w,(sizeOf et).run P w=.ok k w)(p:Nat.ble 2 n=true)
  (F:o.op=.indexAddr t x y:=by exact rfl)(hx:opA env x=.ptr b 0:=by exact rfl)(hy:opA env y=.int m i:=by exact rfl):OpV P o env H (.ptr b (i.toNat*k)):=by
 intro O J σ N a w r;obtain⟨G,q⟩:=QaS h;obtain⟨L,M⟩:=Qam q;have z:i.toNat<l.length:=(by grind);have e:=Qk r x;rw[hx]at e;obtain⟨f,e,B⟩:=e;have j:=Qk r y;rw[hy]at j;have g:a.eval y=.int m i:=j;refine⟨.pointer (some ⟨f,i.toNat*k,none⟩),?_,f,e,rfl⟩;have u:0<=i/\i<(n:Int):=by omega
 have d:(⟨f,0,none⟩:Addr).add (i.toNat*k)=⟨f,i.toNat*k,none⟩:=by
  grind[Addr.add]
 generalize a.eval=ρ at*;simp[execOp,F,B,g,Instr.indexAt,asIntOf,E,s,Instr.sureAddr,u,d,go_sem,Result.andThen]
theorem QkJ{cs:List A}(j:H[b]?=some (.row t k (l.map e)):=by exact rfl)(hcs:(l.map e).flatten=cs:=by exact rfl):Pts H (.ptr b 0) cs:=by
 intro m p σ w v s h;obtain⟨a,g,d⟩:=h;obtain⟨n,i,f⟩:=s.blk b _ _ g j;refine⟨a,0,d,?_⟩;have:=(RR.flat (YF (pre:=[]) (by simpa using i) f)).1;subst hcs;exact this.lift
theorem Qio(a:∀x,(e x).length=k)(L:List α):(L.map e).flatten.length=L.length*k:=by
 induction L with
 |nil=>simp
 |cons c L ih=>grind
theorem QiU{d:Nat}{l':List α}(h:arr n l=some l')(i:∀x,(e x).length=k)(a:n*k=d)(m:∀w,(isAgg t).run P w=.ok true w)(j:∀w,(sizeOf t).run P w=.ok d w){T:Nat}
  (p:o.op=.load t x:=by exact rfl)(hx:opA env x=.ptr b 0:=by exact rfl)(hH:H[b]?=some (.row T k (l.map e)):=by exact rfl):OpV P o env H (.agg (l'.map e).flatten):=by
 obtain⟨g,rfl⟩:=Jy h;have f:=Qio i l;rw[g,a]at f;exact QE p m j hx (QkJ hH rfl) (by grind) f
theorem QlD{r:Nat}{n2 T:Nat}(f:l.length=n)(i:∀x,(e x).length=k)(a:n*k=n2)(d:∀w,(isAgg t).run P w=.ok true w)(j:∀w,(sizeOf t).run P w=.ok n2 w)
  (g:lk env r=.ptr b 0:=by exact rfl)(hH:H[b]?=some (.row T k (l.map e)):=by exact rfl):Qed P env H (.cell r t) (.agg (l.map e).flatten):=by
 have h:=Qio i l;rw[f,a]at h;have:=Qec (b:=r) (p:=.ptr b 0) (n:=n2) d j (QkJ hH rfl) g (by grind)
 grind
theorem QiR{c:List A}{k:Nat}(h:c.length=k):∀n,allK k (List.replicate n c)
 |0=>trivial
 |n+1=>⟨h,QiR h n⟩
theorem Jh{vs:Array Value}{z:α}(s:∀w,(zeroValue t).run P w=.ok (.agg vs) w)(u:(YW (List.replicate n (e z)).flatten).toArray=vs)(j:Qg0 (List.replicate n (e z)).flatten=true)(l:(List.replicate n (e z)).flatten.all Yz=true)(i:Nat.beq (e z).length k=true)
  (q:o.op=.alloc t:=by exact rfl):OpH P o env H (.ptr H.length 0) (H++[.row t k ((List.replicate n z).map e)]):=by
 intro p g σ N a w r;have f:LR g [] w (List.replicate n (e z)).flatten (YW (List.replicate n (e z)).flatten):=Qf1 j;have d:=r.sim.allocRow (t:=t) (rest:=[]) (QiR (XO i) n) f (f.plain l);rw[Vc]at d;have h:(List.replicate n z).map e=List.replicate n (e z):=List.map_replicate;refine⟨.pointer (some ⟨w.heap.size,0,none⟩),w.alloc (.cells (YW (List.replicate n (e z)).flatten).toArray t),g,[some w.heap.size],?_,⟨w.heap.size,?_,rfl⟩,h▸d,Qi.alloc _ r.sim.roLt r.sim.frLt⟩
 .generalize a.eval=ρ at*;have m:(newVar t (.agg vs)).run P w=.ok ⟨w.heap.size,0,none⟩ (w.alloc (.cells vs t)):=rfl
  simp_all[execOp,Instr.alloc]
 .rw[<- r.sim.len];simp
theorem Jg{T n2:Nat}{l':List α}{vs:List A}(h:l.length=n)(h':l'.length=n)(hk:∀x,(e x).length=k)(O:n*k=n2)(hs:∀w,(sizeOf t).run P w=.ok n2 w)
  (hp:∀x,(e x).all Yz=true)(hd:∀x,YK (e x)=true)(J:(l'.map e).flatten=vs)
  (ho:o.op=.store t x y:=by exact rfl)(s:opA env x=.ptr b 0:=by exact rfl)(hH:H[b]?=some (.row T k (l.map e)):=by exact rfl)(E:opA env y=.agg vs:=by exact rfl):
  OpU P o env H (H.set b (.row T k (l'.map e))):=by
 intro fr X σ N a w r;subst J;have p:=Qk r x;rw[s]at p;obtain⟨bb,p,h2⟩:=p;have Q:=Qk r y;rw[E]at Q;obtain⟨m,h4,u⟩:=Q;obtain⟨z,V,Y⟩:=r.sim.blk b _ _ p hH;have M:∀(L:List α),allK k (L.map e):=by
  intro L
  induction L with
  |nil=>trivial
  |cons c L q=>exact⟨hk c,q⟩
 have B:(l'.map e).flatten.length=n2:=by grind[Yr]
 have hm:m.length=n2:=by rw[u.length,B]
 have i:∀L:List α,(L.map e).flatten.all Yz=true:=by
  grind
 have F:∀j ds:List A,YK j=true->YK ds=true->YK (j++ds)=true:=by
  intro j
  induction j with
  |nil=>simp
  |cons c j q=>
   simp_all[YK]
 have G:∀L:List α,YK (L.map e).flatten=true:=by
  intro L
  induction L with
  |nil=>rfl
  |cons c L q=>simp only[Vf,Vh];exact F _ _ (hd c) q
 have W:n2<=z.length:=by
  have:=Y.length;rw[XY,h,O]at this;exact this
 have R:=Yd (P:=P) (vs:=m) 0 0 V (by omega) (u.plain (i l'));have f:splice z 0 m=m++z.drop n2:=by unfold splice;simp[hm]
 have d:=r.sim.set (x':=.row T k (l'.map e)) (obj:=.cells (splice z 0 m).toArray T (0,0)) p hH rfl
  (λy E=>Jz V (Yb (by omega)) y E)
  (λex g=>by
   have s:=(u.data (G l')).mono ex.nil;rw[f]at s g⊢;exact⟨_,g,YY (M l') s (u.plain (i l'))⟩)
 refine⟨_,X,[],?_,by simpa using d.1,d.2⟩
 simp_all[Value.cells,storeVar,execOp,Instr.storeAt,Instr.sureAddr]
end
end
theorem C.contains{P:Program}{ρ:Ren}(L:Lays.n144 P ρ)(hg:ρ.g 1=Qle){s t:List UInt8}{r:Bool}(h:Qfj s t=some r):C P (ρ.f 144) [.str s,.str t] [] (λa H=>a=.bool r/\H=[]):=by
 unfold Qfj at h;cases q:Nat.blt s.length 4294967281 with
 |false=>grind
 |true=>
  rw[q]at h;obtain rfl:=XW h;intro E x σ vals w sim hv;obtain⟨n,B,rfl,j,y,d,rfl,i,u⟩:=hv;cases(show d=[]from u);obtain⟨m,z⟩:=sim.roOk.gp.max;have k:n=.string ⟨s.toArray⟩:=j;have p:y=.string ⟨t.toArray⟩:=i;subst k p;have l:s.length<4294967281:=by simpa using q
  refine(Any.strings_Contains L ⟨s.toArray⟩ ⟨t.toArray⟩ m w (by simpa[ByteArray.size]using l) (by grind)).mono ?_;rintro e F ⟨rfl,rfl⟩;exact⟨_,_,_,x,[],rfl,⟨rfl,rfl⟩,by grind,rfl,Qi.refl _ _ _⟩
section
variable {P:Program} {o:Oper} {env:Env} {H:Qd} {fr ro:Nat->Prop} {σ:Sig} {w:World}
theorem Sim.touch(s:Sim fr ro σ H w){b:Nat}{obj:Obj}(r:¬ro b)(m:¬fr b)(z:∀(i:Nat) (x:Blk),σ[i]?=some (some b)->H[i]?=some x->x.live=true->False)
  (g:∀(i d:Nat) (x:Blk),σ[i]?=some (some d)->H[i]?=some x->Hid w x d b->False)
  (n:∀y,w.shape? b=some y->({w with heap:=w.heap.setIfInBounds b obj}:World).shape? b=some y):
  Sim fr ro σ H {w with heap:=w.heap.setIfInBounds b obj}/\Qi fr ro w ro {w with heap:=w.heap.setIfInBounds b obj}:=by
 have p:∀c,c≠b->({w with heap:=w.heap.setIfInBounds b obj}:World).heap[c]?=w.heap[c]? :=by
  grind
 have a:({w with heap:=w.heap.setIfInBounds b obj}:World).heap.size=w.heap.size:=by simp
 have ev:Qi fr ro w ro {w with heap:=w.heap.setIfInBounds b obj}:=
  ⟨λ_ h=>h,(by grind),(by grind),by omega,by
   grind[World.shape?],rfl,rfl,rfl,XR _⟩
 refine⟨⟨s.len,s.roOk.to (λ_ q=>q) ev.keepRo (λc h=>by rw[a];exact s.roLt c h),λc h=>by rw[a];exact s.frLt c h,s.roFr,?_,s.inj,?_,s.hidTo (· = ·) Yc (by omega) (by simp) (by simp) λj d y k l u=>.inl ⟨j,y,rfl,k,l,id,λc q=>s.hidKeep k l (by grind) ev.keepRo q⟩⟩,ev⟩
 .intro i c x f e t;rw[a];exact s.own i c x f e t
 .intro i y x f e;refine(s.blk i y x f e).keep (ev.ext0 σ) ?_ ?_
  .grind
  grind
theorem QlN{T E i n t:Nat}{x:Operand}{es:List (List A)}(ht:P.underlying T=some (.slice E))(hE:P.underlying E=some (.int .u8))(hn:es.length=n)(h0:Nat.blt 0 n=true)
  (ho:o.op=.convert T T x:=by exact rfl)(hx:opA env x=.osl i 0 n 1:=by exact rfl)(hH:H[i]?=some (.row t 1 es):=by exact rfl):
  OpH P o env H (.rsl 1 es) (H.set i .dead):=by
 intro fr M σ N a w r;subst hn;have k:=Qk r x;rw[hx]at k;rcases k with⟨hz,_⟩|⟨b,p,G,t',m,k,h2,Y,⟨h3,aa⟩,h4,h5⟩
 .simp_all
 .have V:0<es.length:=by simp_all
  obtain rfl:=Y (by omega);obtain⟨hb,J,g⟩:=r.sim.own i b _ k hH rfl;obtain⟨l,q1,q2⟩:=r.sim.blk i _ _ k hH;have W:=r.sim.kill i;have f:∀(j:Nat) (y:Blk),σ[j]?=some (some b)->(H.set i .dead)[j]?=some y->y.live=true->False:=by
   intro j y B e u;by_cases q:j=i
   .subst q;rw[Xb]at e;simp only[if_true]at e
    grind[Blk.live]
   .rw[XN (λz=>q z.symm)]at e;exact q (r.sim.inj j i b y _ B k e hH u rfl)
  have F:∀(j d:Nat) (y:Blk),σ[j]?=some (some d)->(H.set i .dead)[j]?=some y->Hid w y d b->False:=by
   intro j d y B e u;by_cases q:j=i
   .subst q;rw[Xb]at e;simp only[if_true]at e;split at e
    .cases e;exact u.elim
    .simp at e
   .rw[XN (λz=>q z.symm)]at e;exact(r.sim.hid j d y b B e u).ne i b _ k hH rfl rfl
  let fz:Nat×Nat:=(l.length,l.length+1)
  have R:∀y,w.shape? b=some y->({w with heap:=w.heap.setIfInBounds b (.cells l.toArray t fz)}:World).shape? b=some y:=by
   simp_all[World.shape?]
  obtain⟨s2,s⟩:=W.touch (obj:=.cells l.toArray t fz) J g f F R;have s3:=s2.addRo (b:=b) (by grind) g f (λj d y B e u=>F j d y B e (W.hidKeep B e (by grind) s.keepRo u));have h:({w with heap:=w.heap.setIfInBounds b (.cells l.toArray t fz)}:World).heap[b]?=some (.cells (([]:List Value)++l).toArray t fz):=by
   grind
  have L:Ext M [] w M [] {w with heap:=w.heap.setIfInBounds b (.cells l.toArray t fz)}:=s.ext0 [];refine⟨.slice (some ⟨b,0*1,none⟩) es.length G,_,λc=>M c\/c=b,[],?_,?_,by grind,s.trans (YN λ_ q=>.inl q)⟩
  .have hf:w.freeze ⟨b,l.length,none⟩ 1={w with heap:=w.heap.setIfInBounds b (.cells l.toArray t fz)}:=by
    unfold World.freeze;simp only[Nat.one_ne_zero,if_false];rw[QdB q1];rfl
   have Q:(markStringish ⟨b,0*1,none⟩).run P w=.ok () {w with heap:=w.heap.setIfInBounds b (.cells l.toArray t fz)}:=by
    simp_all[markStringish,World.shape?]
   have X:∀w,(underlying T).run P w=.ok (.slice E) w:=run_underlying ht;have O:∀w,(underlying E).run P w=.ok (.int .u8) w:=run_underlying hE;generalize a.eval=ρ at*;simp only[execOp,ho,h2,convert,Vi,X,O,Result.andThen,beq_self_eq_true,Q,Vj]
  .refine⟨some ⟨b,0*1,none⟩,G,rfl,h3,.inr ⟨b,0*1,rfl,.inr rfl,?_⟩⟩;have:=YF (pre:=[]) h (q2.mono L);exact(by omega:RR M [] _ b 1 es (0*1)).keep ⟨λ_ q=>.inl q,λ_ _=>rfl,λ_ _ q=>q,λ_ _ q=>q⟩ rfl
end
mutual
theorem Qdv(ρ:Nat->Nat):∀{a:A},YC a=true->Y1 ρ a=a
 |.any,_=>rfl
 |.bool _,_=>rfl
 |.int _ _,_=>rfl
 |.str _,_=>rfl
 |.nilp,_=>rfl
 |.ptr _ _,h=>by simp[YC]at h
 |.rp _,_=>rfl
 |.nils,_=>rfl
 |.rsl _ _,_=>rfl
 |.osl _ _ _ _,h=>by simp[YC]at h
 |.agg cs,h=>by simp only[YC]at h;simp only[Y1,Qad ρ h]
 |.fn f a c,h=>by simp only[YC,XU]at h;simp only[Y1,Qad ρ h.1,Qad ρ h.2]
 |.nilf,_=>rfl
 |.iface t a,h=>by simp only[YC]at h;simp only[Y1,Qdv ρ h]
 |.nilif,_=>rfl
 |.map _,h=>by simp[YC]at h
 |.nilm,_=>rfl
 |.tup vs,h=>by simp only[YC]at h;simp only[Y1,Qad ρ h]
theorem Qad(ρ:Nat->Nat):∀{l:List A},YK l=true->Qag ρ l=l
 |[],_=>rfl
 |a::l,h=>by simp only[YK,XU]at h;simp only[Qag,Qdv ρ h.1,Qad ρ h.2]
end
theorem Qgy{α:Type}{e:α->List A}(a:∀x,YK (e x)=true):∀L:List α,YK (L.map e).flatten=true
 |[]=>rfl
 |c::L=>by
  have hdt:∀cs ds:List A,YK cs=true->YK ds=true->YK (cs++ds)=true:=by
   intro cs
   induction cs with
   |nil=>simp
   |cons c cs d=>
    simp_all[YK]
  simp only[Vf,Vh];exact hdt _ _ (a c) (Qgy a L)
theorem QnP{α:Type}{e:α->List A}(hd:∀x,YK (e x)=true)(ρ:Nat->Nat)(l:List α):Y1 ρ (.agg (l.map e).flatten)=.agg (l.map e).flatten:=
 Qdv ρ (by simp only[YC];exact Qgy hd l)
end Go.Sw
namespace Go.Sw
section
variable {P:Program} {o:Oper} {env:Env} {H:Qd}
theorem QeJ{c:Call}{f T:Nat}{x:Operand}{xs:List Operand}{i:Array TypeId}{name:String}{v:A}{args:List A}(d:∀(a:Array Value) (w:World),(callFunc f a).run P w=.ok (.enter f a) w)(l:o.op=.call c)
  (m:c={callee:=.invoke x name,args:=xs.toArray,argTypes:=i})(h:opA env x=.iface T v)(hargs:v::xs.map (opA env)=args)
  (j:∀(u:Value) (w:World),(method (P.types.size+Made.depth) T u name).run P w=.ok (f,u) w):OpC P o env H f args:=by
 intro k n σ N a w r;have e:=Qk r x;rw[h]at e;obtain⟨u,e,g⟩:=e;refine⟨u::xs.map a.eval,?_,hargs▸⟨u,xs.map a.eval,rfl,g,Qbb r xs⟩⟩
 simp_all[VE,callMethod,execOp,resolve,invoke]
theorem Qbv{T I:Nat}{x:Operand}{v:A}{d:TypeDesc}(h:∀w,(underlying T).run P w=.ok d w)(g:∀m,d≠ .interface m)(j:o.op=.typeAssert x I T true:=by exact rfl)(hx:opA env x=.iface T v:=by exact rfl):
  OpV P o env H (.tup [v,.bool true]):=by
 intro i k σ N a w r;have e:=Qk r x;rw[hx]at e;obtain⟨u,e,f⟩:=e;refine⟨.tuple #[u,.bool true],?_,[u,.bool true],rfl,_,_,rfl,f,_,_,rfl,rfl,rfl⟩
 simp_all[execOp,Instr.typeAssert]
theorem QhG{T T' I:Nat}{x:Operand}{v z:A}{zv:Value}{d:TypeDesc}(l:∀w,(underlying T).run P w=.ok d w)(k:∀m,d≠ .interface m)(g:Nat.beq T' T=false)(p:∀w,(zeroValue T).run P w=.ok zv w)(f:ZR z zv)
  (n:o.op=.typeAssert x I T true:=by exact rfl)(hx:opA env x=.iface T' v:=by exact rfl):
  OpV P o env H (.tup [z,.bool false]):=by
 intro i s σ N a w r;have e:=Qk r x;rw[hx]at e;obtain⟨u,e,h⟩:=e;have j:T'≠T:=λq=>by simp_all
 refine⟨.tuple #[zv,.bool false],?_,[zv,.bool false],rfl,_,_,rfl,f _ _ _,_,_,rfl,rfl,rfl⟩
 simp_all[execOp,Instr.typeAssert]
end
def TL(P:Program)(h0 N:Nat)(c:Code)(env:Env)(H:Qd)(Q:QP):Prop:=
 ∀rd fr ro σ a w,Rel fr ro σ H env N a w->QdL rd fr w->∀(b:Frame) (k:List Item) (cs:List Frame),b.roundOf=(WF rd).round->(WF rd).fn b.fn->(WF rd).room (cs.length+1+0)->∃e a' w',QaI h0 fr ro σ w N a.defers Q e a' w'/\ArrivesIn (Machine.fenced P (WF rd)) P (lone (b.atR a (.code c::.inLoop c::k)) cs w) b k cs e a' w'
def QjO(P:Program)(h0 N:Nat)(c:Code)(Q:QP):QP
 |.normal,env,H=>TL P h0 N c env H Q
 |.exit id,env,H=>Q (.exit id) env H
 |.ret,env,H=>Q .ret env H
section
variable {P:Program} {h0 N:Nat} {c:Code} {env:Env} {H:Qd} {Q:QP}
theorem Qnc(h:TL P h0 N c env H Q):TC P h0 N (.loop c) env H Q:=by
 intro g f m σ a w r hrd b k cs hro hb hr;obtain⟨e,j,i,l,d⟩:=h g f m σ a w r hrd b k cs hro hb hr;exact⟨e,j,i,l,.of_steps (.one (fenced_calm hb hr rfl) stepR_loop) d⟩
theorem TL.round(h:TC P h0 N c env H (QjO P h0 N c Q)):TL P h0 N c env H Q:=by
 intro E z y σ a w r hrd b k cs hro hb hr;obtain⟨e,n,l,L,d⟩:=h E z y σ a w r hrd b (.inLoop c::k) cs hro hb hr;obtain⟨x,f,H',i,σ',j,m,s,F,u,G,p⟩:=L;have B:∀x,Q x f H'->ExR e x->QaI h0 z y σ w N a.defers Q e n l:=λx q M=>⟨x,f,H',i,σ',j,M,q,F,u,G,p⟩;cases e with
 |normal=>
  obtain rfl:x=.normal:=m;obtain⟨J,O,w2,t,g⟩:=s E j i σ' n l F (hrd.to u p.sub) b k cs hro hb hr;exact⟨J,O,w2,t.grow u G p,.of_steps (StepsIn.trans d (.one (fenced_calm hb hr rfl) stepR_inLoop)) g⟩
 |exit id=>
  obtain rfl:x=.exit id:=m;exact⟨_,n,l,B _ s rfl,.pass (x:=.inLoop c) rfl (by simp) d⟩
 |ret=>
  obtain rfl:x=.ret:=m;exact⟨_,n,l,B _ s rfl,.pass (x:=.inLoop c) rfl (by simp) d⟩
 |_=>exact m.elim
theorem unrN(h:TC P h0 N c env H (QjO P h0 N c Q)):QjO P h0 N c Q .normal env H:=TL.round h
theorem unrX{id:Nat}(h:Q (.exit id) env H):QjO P h0 N c Q (.exit id) env H:=h
theorem unrR(h:Q .ret env H):QjO P h0 N c Q .ret env H:=h
theorem QlA(h:TC P h0 N c env H (QjO P h0 N c Q)):TC P h0 N (.loop c) env H Q:=Qnc (TL.round h)
end
section
variable {P:Program} {o:Oper} {env:Env} {H:Qd}
theorem OpV.ixL{t a k b n j:Nat}{x y:Operand}{e:IntKind}{i:Int}(l:Nat.blt j n=true)(hi:i=(j:Int))(d:∀w,(underlying t).run P w=.ok (.slice a) w)(g:∀w,(sizeOf a).run P w=.ok k w)
  (f:o.op=.indexAddr t x y:=by exact rfl)(hx:opA env x=.osl b 0 n k:=by exact rfl)(hy:opA env y=.int e i:=by exact rfl):OpV P o env H (.ptr b (j*k)):=by
 subst hi;have h:=QhH (H:=H) f d g hx hy (by omega) (by simp_all)
 grind
end
theorem QfQ{ro:Nat->Prop}{σ:Sig}{w:World}{k:Nat}:∀{es:List (List A)} {l l':List Value},RL ro σ w k es l->l.take (es.length*k)=l'.take (es.length*k)->RL ro σ w k es l'
 |[],_,_,_,_=>trivial
 |c::es,l,l',h,hp=>by
  obtain⟨l1,l2,rfl,h1,h2,h3⟩:=h;have hl1:l1.length=k:=by rw[h2.1.length];exact h1
  have a:l'.take k=l1:=by
   have:=congrArg (List.take k) hp
   grind[Nat.succ_mul]
  refine⟨l1,l'.drop k,by rw[<- a,Xx],h1,h2,QfQ h3 ?_⟩;have:=congrArg (List.drop k) hp
  grind[Nat.succ_mul]
section
variable {P:Program} {o:Oper} {env:Env} {H:Qd}
theorem Qgf{c:Call}{T et k b s n t:Nat}{x:Operand}{es g:List (List A)}{z:Value}(ht:P.underlying T=some (.slice et))(hz:∀w,(zeroValue et).run P w=.ok z w)(B:z.cells.size=k)(ab:∀v∈z.cells,Qx v)
  (O:es.take s=g)(hb:s+n=es.length)(ho:o.op=.call c:=by exact rfl)(hc:c={callee:=.builtin .clear,args:= #[x],argTypes:= #[T]}:=by exact rfl)
  (hx:opA env x=.osl b s n k:=by exact rfl)(hH:H[b]?=some (.row t k es):=by exact rfl):OpH P o env H (.tup []) (H.set b (.row t k g)):=by
 intro E j σ N a w r;subst O hc;have hu:∀w,(underlying T).run P w=.ok (.slice et) w:=run_underlying ht;have e:=Qk r x;rw[hx]at e;have L:Sim E j σ (H.set b (.row t k (es.take s))) w:=by
  refine r.sim.weaken hH rfl ?_;intro y h;cases y with
  |none=>rw[show es=[]from h];simp[BR]
  |some M=>obtain⟨l,g1,g2⟩:=h;exact⟨l,g1,RL.take s g2⟩
 have J:∀v,a.eval x=v->(Builtin.clear_ #[T] o.type #[v]).run P w=.ok (.tuple #[]) w->
   ∃v w' ro' τ,(execOp a.eval o).run P w=.ok (.value v) w'/\VR ro' (σ++τ) w' (.tup []) v/\Sim E ro' (σ++τ) (H.set b (.row t k (es.take s))) w'/\Qi E j w ro' w':=by
  intro v G d;refine⟨.tuple #[],w,j,[],?_,⟨[],rfl,rfl⟩,by grind,Qi.refl _ _ _⟩
  simp_all[execOp,resolve,invoke,builtin]
 rcases e with⟨hn,e⟩|⟨M,p,F,t',m,e,h2,h3,⟨h4,aa⟩,h5,h6⟩
 .simp_all[Builtin.clear_]
 .by_cases hn:n=0
  .simp_all[Builtin.clear_]
  .obtain rfl:=h3 (by omega);obtain⟨l,X,W⟩:=r.sim.blk b _ _ e hH;have Y:=W.length
   let vs:=(Builtin.zeroCells z.cells n).toList
   have ac:vs.length=n*k:=by simp[vs,Builtin.zeroCells,B]
   have Q:∀v∈vs,Qx v:=by
    intro v G;simp only[vs,Builtin.zeroCells,Array.toList_map,Xe,Array.toList_range,List.mem_range]at G;obtain⟨i,hi,rfl⟩:=G;have R:0<z.cells.size:=by
     grind
    grind[Nat.mod_lt]
   have ad:s*k+n*k=es.length*k:=by grind
   have d:=Yd (P:=P) (vs:=vs) (s*k) 0 X (by omega) Q;have f:=r.sim.set (x':=.row t k (es.take s)) (obj:=.cells (splice l (s*k) vs).toArray t (0,0)) e hH rfl
    (λy h=>Jz X (Yb (by omega)) y h)
    (λex u=>⟨_,u,by
     refine(QfQ (RL.take s W) ?_).mono ex.nil
     grind[splice]⟩)
   refine⟨.tuple #[],_,j,[],?_,⟨[],rfl,rfl⟩,by grind,f.2⟩;have q:(Builtin.clear_ #[T] o.type #[.slice (some ⟨M,s*k,none⟩) n F]).run P w=.ok (.tuple #[]) {w with heap:=w.heap.setIfInBounds M (.cells (splice l (s*k) vs).toArray t (0,0))}:=by
    obtain⟨V,rfl⟩:∃V,n=V+1:=⟨n-1,by omega⟩;simp only[Xv]at d;simp only[Builtin.clear_,XE,XC,Vi,hu,hz,Result.andThen,d,Vj,vs]
   generalize a.eval=ρ at*;simp only[execOp,ho,resolve,Vi,Vj,Result.andThen,invoke,builtin,XG,Vf,Vg,h2,q]
end
def isNil{α R:Type}[DecidableEq R](l:List α)(x y:Option R):Option R:=bif l.isEmpty then(bif decide (x=y)then x else none)else y
theorem Qmx{α R:Type}[DecidableEq R]{l:List α}{x y:Option R}{r:R}(h:isNil l x y=some r)(b:Bool)(a:l≠[]->b=false):(b=true->x=some r)/\(b=false->y=some r):=by
 unfold isNil at h
 grind
section
variable {P:Program} {o:Oper} {env:Env} {H:Qd} {h0 N:Nat} {Q:QP}
theorem QlO{α:Type}{e:α->List A}{T E k:Nat}{u:TypeId}{x:Operand}{l:List α}(q:P.underlying T=some (.slice E))(s:o.op=.binOp .eql T x (.const (.slice none 0 0)) u)(g:opA env x=.rsl k (l.map e)):
  OpE P o env H (λv H'=>∃b:Bool,v=.bool b/\(l≠[]->b=false)/\H'=H):=by
 intro n i σ N a w r;have f:=Qk r x;rw[g]at f;obtain⟨d,h,f,j,t⟩:=f;refine⟨.bool d.isNone,H,.bool d.isNone,w,i,[],⟨d.isNone,rfl,λm=>?_,rfl⟩,?_,rfl,by simpa using r.sim,Qi.refl _ _ _⟩
 .grind
 .have p:a.eval (.const (.slice none 0 0))=.slice none 0 0:=rfl
  grind[eqGuard,execOp,Sem.run_bind,Result.andThen,Go.run_eql_slice_nil,Sem.run_pure]
theorem Qm8{α:Type}{e:α->List A}{T E k d:Nat}{u:TypeId}{x:Operand}{l:List α}{all:Array Oper}{L:List Oper}(f:P.underlying T=some (.slice E))(g:opA env x=.rsl k (l.map e))
  (h:∀b:Bool,(l≠[]->b=false)->WO P h0 N all L (up env d (.bool b)) H Q)
  (a:o.op=.binOp .eql T x (.const (.slice none 0 0)) u:=by exact rfl)(hg:QB all o env true:=by exact rfl)(hd:o.dst=some d:=by exact rfl)(hN:Nat.blt d N=true:=by exact rfl)(hh:Nat.ble h0 H.length=true:=by exact rfl):WO P h0 N all (o::L) env H Q:=by
 refine Qm7 (by simp_all) hg hd hN (QlO f a g) ?_
 grind
end
theorem slc0{α:Type}{l x:List α}{i:Int}(h:slc l 0 i=some x):0<=i/\i.toNat<=l.length/\l.take i.toNat=x/\x.length=i.toNat:=by
 obtain⟨_,e,a,d⟩:=QbJ h
 grind
section
variable {P:Program} {o:Oper} {env:Env} {H:Qd} {α:Type} {e:α->List A} {T et k b t:Nat} {x y:Operand} {l l':List α} {i:Int}
theorem QfV(h:slc l 0 i=some l')(E1:∀w,(underlying T).run P w=.ok (.slice et) w)(E2:∀w,(sizeOf et).run P w=.ok k w)(d:o.op=.slice T x (some y) none none:=by exact rfl)
  (hx:opA env x=.osl b 0 l.length k:=by exact rfl)(hy:opA env y=.int .i64 i:=by exact rfl):OpV P o env H (.osl b (0+i.toNat) (l.length-i.toNat) k):=by
 obtain⟨e,a,_,_⟩:=slc0 h;exact QfX E1 E2 d hx (by grind) (.inl ⟨rfl,rfl⟩) a (XR _)
theorem QfW(h:slc l 0 i=some l')(E1:∀w,(underlying T).run P w=.ok (.slice et) w)(E2:∀w,(sizeOf et).run P w=.ok k w)(d:o.op=.slice T x none (some y) none:=by exact rfl)
  (hx:opA env x=.osl b 0 l.length k:=by exact rfl)(hy:opA env y=.int .i64 i:=by exact rfl):OpV P o env H (.osl b 0 l'.length k):=by
 obtain⟨f,a,_,e⟩:=slc0 h;have:=QfX (H:=H) E1 E2 d hx (.inl ⟨rfl,rfl⟩) (by grind) (XS _) a
 grind
theorem QfZ{c:Call}{z:Value}(h:slc l 0 i=some l')(j:P.underlying T=some (.slice et))(g:∀w,(zeroValue et).run P w=.ok z w)(d:z.cells.size=k)(a:∀v∈z.cells,Qx v)(m:o.op=.call c:=by exact rfl)(hc:c={callee:=.builtin .clear,args:= #[x],argTypes:= #[T]}:=by exact rfl)
  (hx:opA env x=.osl b (0+i.toNat) (l.length-i.toNat) k:=by exact rfl)(hH:H[b]?=some (.row t k (l.map e)):=by exact rfl):OpH P o env H (.tup []) (H.set b (.row t k (l'.map e))):=by
 obtain⟨p,n,f,q⟩:=slc0 h;refine Qgf j g d a ?_ ?_ m hc hx hH
 .rw[Xu, <- f,List.map_take]
 grind
end
open Go.Sort Go.Proofs Go.Shelf
section
variable {P:Program} {o:Oper} {env:Env} {H:Qd} {α:Type} {e:α->List A} {T et k b t:Nat} {x y:Operand}
theorem YT{lo hi:Option Operand}{l r:List α}{a c:Int}(h:slc l a c=some r)(E1:∀w,(underlying T).run P w=.ok (.slice et) w)(E2:∀w,(sizeOf et).run P w=.ok k w)
  (f:lo=none/\a=0\/ ∃y,lo=some y/\opA env y=.int .i64 a)(d:hi=none/\c=l.length\/ ∃y,hi=some y/\opA env y=.int .i64 c)
  (e:o.op=.slice T x lo hi none:=by exact rfl)(hx:opA env x=.osl b 0 l.length k:=by exact rfl):OpV P o env H (.osl b (0+a.toNat) (c.toNat-a.toNat) k):=by
 obtain⟨j,i,g,_⟩:=QbJ h;refine QfX (l:=a.toNat) (h:=c.toNat) E1 E2 e hx ?_ ?_ (by omega) (by omega)
 .grind
 grind
theorem QjQ{l r:List α}{a c:Int}(h:slc l a c=some r)(f:H[b]?=some (.row t k (l.map e)):=by exact rfl):Src P H (.osl b (0+a.toNat) (c.toNat-a.toNat) k) k (r.map e):=by
 obtain⟨j,i,g,d⟩:=QbJ h;refine Src.osl f ?_ (by grind);rw[<- d, <- List.map_drop, <- List.map_take,Xu,List.drop_take]
theorem Qnq{c:Call}{T T' et et' k i:Nat}{x y:Operand}{a:A}{l l' m r:List α}{z:Int}(d:slc l 0 z=some l')(h:app l' m=some r)(E:Ya P T et k)(g:∀w,(underlying T').run P w=.ok (.slice et') w)(f:Src P H a k (m.map e))
  (j:o.op=.call c:=by exact rfl)(hc:c={callee:=.builtin .append,args:= #[x,y],argTypes:= #[T,T']}:=by exact rfl)(hx:opA env x=.osl i (0+Int.toNat 0) (z.toNat-Int.toNat 0) k:=by exact rfl)
  (hH:H[i]?=some (.row et k (l.map e)):=by exact rfl)(hy:opA env y=a:=by exact rfl):
  OpH P o env H (.osl H.length 0 r.length k) (H.set i .dead++[.row et k (r.map e)]):=by
 obtain⟨u,rfl⟩:=QhC h;obtain⟨q,s,p,t⟩:=slc0 d;have:=Qef (n:=z.toNat) (gs:=(l'++m).map e) E g j hc hx hH (by grind) hy f (by grind) (by rw[<- List.map_take,p,Xf])
 grind
end
end Go.Sw
namespace Go.Sw
inductive Bx where
 |mk (a:A)
def lkB:Env->Nat->Bx
 |[],_=>.mk .any
 |(d,a)::r,s=>bif Nat.beq s d then .mk a else lkB r s
theorem Qjo:∀{env:Env} {s:Nat} {a:A},lkB env s=.mk a->lk env s=a
 |[],s,a,h=>by cases h;rfl
 |(d,b)::r,s,a,h=>by
  unfold lkB at h;unfold lk;cases q:Nat.beq s d with
  |true=>grind
  |false=>rw[q]at h;exact Qjo h
inductive FBy where
 |mk (l:List UInt8)
def fby:List UInt8->FBy
 |[]=>.mk []
 |a::r=>match fby r with
  |.mk r'=>.mk (a::r')
theorem QmJ:∀l:List UInt8,fby l=.mk l
 |[]=>rfl
 |a::r=>by unfold fby;rw[QmJ r]
def opB(env:Env):Operand->Bx
 |.tmp t=>lkB env t
 |.const (.bool b)=>.mk (.bool b)
 |.const (.int k n)=>.mk (.int k n)
 |.const (.string s)=>match fby s.data.toList with
  |.mk l=>.mk (.str l)
 |.const (.pointer none)=>.mk .nilp
 |.const (.slice none 0 0)=>.mk .nils
 |.const (.map none)=>.mk .nilm
 |.const .nilFunc=>.mk .nilf
 |.const .nilIface=>.mk .nilif
 |.func f=>.mk (.fn (.func f) [] [])
 |_=>.mk .any
theorem QS{env:Env}{x:Operand}{a:A}(h:opB env x=.mk a):opA env x=a:=by
 cases x with
 |tmp t=>exact Qjo h
 |const v=>
  cases v with
  |slice b n k=>cases b with
   |none=>cases n with
    |zero=>cases k<;>(cases h;rfl)
    |succ n=>cases h;rfl
   |some b=>cases h;rfl
  |pointer p=>cases p<;>(cases h;rfl)
  |map p=>cases p<;>(cases h;rfl)
  |string s=>
   have d:(match fby s.data.toList with|.mk l=>Bx.mk (.str l))=.mk a:=h;rw[QmJ]at d;cases d;rfl
  |_=>cases h;rfl
 |global g=>cases h;rfl
 |func f=>cases h;rfl
def Y2{α:Type}:List α->Nat->Option α
 |[],_=>none
 |a::_,0=>some a
 |_::r,n+1=>Y2 r n
theorem Qaz{α:Type}:∀(l:List α) (n:Nat),Y2 l n=l[n]?
 |[],n=>by simp[Y2]
 |a::r,0=>rfl
 |a::r,n+1=>by simp[Y2,Qaz r n]
def arB:BinOp->IntKind->Int->Int->Option A
 |.add,k,m,n=>some (.int k (k.wrap (m+n)))
 |.sub,k,m,n=>some (.int k (k.wrap (m-n)))
 |.mul,k,m,n=>some (.int k (k.wrap (m*n)))
 |.eql,_,m,n=>some (.bool (m==n))
 |.neq,_,m,n=>some (.bool (m != n))
 |.lss,_,m,n=>some (.bool (decide (m<n)))
 |.leq,_,m,n=>some (.bool (decide (m<=n)))
 |.gtr,_,m,n=>some (.bool (decide (n<m)))
 |.geq,_,m,n=>some (.bool (decide (n<=m)))
 |_,_,_,_=>none
def srB:BinOp->List UInt8->List UInt8->Option A
 |.eql,p,q=>some (.bool (p==q))
 |.neq,p,q=>some (.bool (p != q))
 |.lss,p,q=>some (.bool (Op.bytesLess p q))
 |_,_,_=>none
def biB(b:BinOp):Bx->Bx->Option A
 |.mk (.int k m),.mk (.int k' n)=>if k=k' then arB b k m n else none
 |.mk (.str p),.mk (.str q)=>srB b p q
 |_,_=>none
def unB:UnOp->Bx->Option A
 |.not,.mk (.bool b)=>some (.bool !b)
 |.neg,.mk (.int k n)=>some (.int k (k.wrap (0-n)))
 |_,_=>none
def exB:Bx->Nat->Option A
 |.mk (.tup vs),i=>Y2 vs i
 |_,_=>none
def nlB:Bx->Option A
 |.mk (.ptr i j)=>some (.ptr i j)
 |.mk (.rp cs)=>some (.rp cs)
 |_=>none
def piB:Bx->Bx->Bx->Option A
 |.mk (.bool true),.mk a,_=>some a
 |.mk (.bool false),_,.mk a=>some a
 |_,_,_=>none
def svB(env:Env):Op->Option A
 |.move x=>match opB env x with|.mk a=>some a
 |.assign x=>match opB env x with|.mk a=>some a
 |.nilCheck x=>nlB (opB env x)
 |.extract x i=>exB (opB env x) i
 |.unOp u _ x=>unB u (opB env x)
 |.pick c x y=>piB (opB env c) (opB env x) (opB env y)
 |.binOp b _ x y _=>biB b (opB env x) (opB env y)
 |_=>none
def pr(d:Nat):Option A->Option (Nat×A)
 |some a=>some (d,a)
 |none=>none
def stB(o:Oper)(env:Env):Option (Nat×A):=
 match o.dst with
 |some d=>pr d (svB env o.op)
 |none=>none
section
variable {P:Program} {h0 N:Nat} {all:Array Oper} {o:Oper} {l:List Oper} {env:Env} {H H':Qd} {Q:QP} {d:Nat} {x:A}
theorem QbH{p:Op}(g:o.op=p)(h:svB env p=some x):OpV P o env H x:=by
 unfold svB at h;split at h
 .rename_i y;cases q:opB env y with|mk a=>simp_all[OpV.move,QS]
 .rename_i y;cases q:opB env y with|mk a=>simp_all[OpV.assign,QS]
 .rename_i y;unfold nlB at h;split at h
  .rename_i i j q;cases h;exact QfT g (QS q) rfl
  .rename_i w q;cases h;exact QfT g (QS q) rfl
  .cases h
 .rename_i y i;unfold exB at h
  grind[Qaz,OpV.extract,QS]
 .rename_i u t y;unfold unB at h
  grind[OpV.not,QS,OpV.neg]
 .rename_i c y z;unfold piB at h;split at h
  .rename_i a _ f d;cases h;exact OpV.pick g (QS f) (by rw[Vp rfl];exact QS d)
  .rename_i a f d;cases h;exact OpV.pick g (QS f) (by rw[Vn (by decide)];exact QS d)
  .cases h
 .rename_i b t y z u;unfold biB at h;split at h
  .rename_i k m s n f d;split at h
   .rename_i e;subst e;have r:=QS f;have l:=QS d;unfold arB at h
    grind[OpV.add,OpV.sub,OpV.mul,OpV.eql,OpV.neq,OpV.lss,OpV.leq,OpV.gtr,OpV.geq]
   .cases h
  .rename_i p q f d;have r:=QS f;have l:=QS d;unfold srB at h
   grind[QdM,QlF,QlG]
  .cases h
 .cases h
theorem QgZ(h:stB o env=some (d,x)):o.dst=some d/\OpV P o env H x:=by
 unfold stB at h;split at h
 .rename_i f q;cases e:svB env o.op with
  |none=>rw[e]at h;cases h
  |some a=>rw[e]at h;cases h;exact⟨q,QbH rfl e⟩
 .cases h
theorem S(e:stB o env=some (d,x))(k:WO P h0 N all l (up env d x) H Q)(hg:QB all o env true:=by exact rfl)(hN:Nat.blt d N=true:=by exact rfl):WO P h0 N all (o::l) env H Q:=
 YP hg (QgZ (P:=P) (H:=H) e).1 hN (QgZ e).2 k
theorem Sg(hg:QB all o env true)(e:stB o env=some (d,x))(k:WO P h0 N all l (up env d x) H Q)(a:Nat.blt d N=true:=by exact rfl):WO P h0 N all (o::l) env H Q:=
 YP hg (QgZ (P:=P) (H:=H) e).1 a (QgZ e).2 k
theorem K(hg:QB all o env false)(a:o.dst=some d)(k:WO P h0 N all l (up env d (.tup [])) H Q)(e:Nat.blt d N=true:=by exact rfl):WO P h0 N all (o::l) env H Q:=
 WO.skip hg a e k
theorem KF{j s:Nat}{c y:Bool}(f:y= !c)(e:o.dst=some d)(k:WO P h0 N all l (up env d (.tup [])) H Q)(a:Nat.blt d N=true:=by exact rfl)(hg:o.guard=some (j,c):=by exact rfl)(hs:(all[j]?).bind (·.dst)=some s:=by exact rfl)(hl:lk env s=.bool y:=by exact rfl):WO P h0 N all (o::l) env H Q:=
 WO.skip (gF f hg hs hl) e a k
def p2B(v:Bool):Bx->Bx->Bx->Option (Bool×A)
 |.mk (.bool b),.mk a,.mk a'=>match v with|true=>some (b,a)|false=>some (b,a')
 |_,_,_=>none
def pr2(d:Nat):Option (Bool×A)->Option (Nat×Bool×A)
 |some a=>some (d,a)
 |none=>none
def pkB(v:Bool)(o:Oper)(env:Env):Option (Nat×Bool×A):=
 match o.dst,o.op with
 |some d,.pick c x y=>pr2 d (p2B v (opB env c) (opB env x) (opB env y))
 |_,_=>none
theorem Qo2{v b:Bool}{p q r:Bx}(h:p2B v p q r=some (b,x)):∃a a',p=.mk (.bool b)/\q=.mk a/\r=.mk a'/\(bif v then a else a')=x:=by
 obtain⟨p⟩:=p;obtain⟨q⟩:=q;obtain⟨r⟩:=r;cases p<;>first|(cases h;done)|skip
 cases v<;>cases h<;>exact(by simp)
theorem Qmg{v b:Bool}(h:pkB v o env=some (d,b,x))(g:b=v):o.dst=some d/\OpV P o env H x:=by
 unfold pkB at h;split at h
 .rename_i m c y z k f;cases e:p2B v (opB env c) (opB env y) (opB env z)with
  |none=>rw[e]at h;cases h
  |some s=>
   rw[e]at h;cases h;obtain⟨a,p,i,n,j,l⟩:=Qo2 e
   grind[OpV.pick,QS]
 .cases h
theorem Pk{v b:Bool}(a:b=v)(e:pkB v o env=some (d,b,x))(k:WO P h0 N all l (up env d x) H Q)(hg:QB all o env true:=by exact rfl)(hN:Nat.blt d N=true:=by exact rfl):WO P h0 N all (o::l) env H Q:=
 YP hg (Qmg (P:=P) (H:=H) e a).1 hN (Qmg e a).2 k
def fpB(o:Oper)(env:Env):Option (Nat×Nat×Nat×Nat×Nat):=
 match o.dst,o.op with
 |some d,.fieldAddr T x f=>match opB env x with
  |.mk (.ptr i p)=>some (d,T,f,i,p)
  |_=>none
 |_,_=>none
theorem Qhf{T f off n i p:Nat}(a:QL P T f off n)(h:fpB o env=some (d,T,f,i,p)):o.dst=some d/\OpV P o env H (.ptr i (p+off)):=by
 grind[fpB,QcO,QS]
theorem Fp{T f off n i p:Nat}(a:QL P T f off n)(e:fpB o env=some (d,T,f,i,p))(k:WO P h0 N all l (up env d (.ptr i (p+off))) H Q)(hg:QB all o env true:=by exact rfl)(hN:Nat.blt d N=true:=by exact rfl):WO P h0 N all (o::l) env H Q:=
 YP hg (Qhf (H:=H) a e).1 hN (Qhf a e).2 k
theorem Fpg{T f off n i p:Nat}(hg:QB all o env true)(a:QL P T f off n)(e:fpB o env=some (d,T,f,i,p))(k:WO P h0 N all l (up env d (.ptr i (p+off))) H Q)(g:Nat.blt d N=true:=by exact rfl):WO P h0 N all (o::l) env H Q:=
 YP hg (Qhf (H:=H) a e).1 g (Qhf a e).2 k
inductive Lx where
 |mk (l:List A)
def QiL:Nat->List A->Lx
 |0,l=>.mk l
 |n+1,_::r=>QiL n r
 |_+1,[]=>.mk []
theorem QfJ:∀{n:Nat} {l r:List A},QiL n l=.mk r->l.drop n=r
 |0,l,r,h=>by cases h;rfl
 |n+1,a::l,r,h=>by rw[List.drop_succ_cons];exact QfJ h
 |n+1,[],r,h=>by cases h;rfl
def ctB:Option Blk->Nat->Option A
 |some (.cells _ cs),off=>Y2 cs off
 |_,_=>none
def lvB(H:Qd):Bx->Option A
 |.mk (.ptr i off)=>ctB (Y2 H i) off
 |.mk (.rp (a::_))=>some a
 |_=>none
def pr3(d t:Nat):Option A->Option (Nat×Nat×A)
 |some a=>some (d,t,a)
 |none=>none
def ldB(o:Oper)(env:Env)(H:Qd):Option (Nat×Nat×A):=
 match o.dst,o.op with
 |some d,.load t x=>pr3 d t (lvB H (opB env x))
 |_,_=>none
theorem Qhb{t:Nat}(l:∀w,(isAgg t).run P w=.ok false w)(h:ldB o env H=some (d,t,x)):o.dst=some d/\OpV P o env H x:=by
 unfold ldB at h;split at h
 .rename_i s q y m k;cases e:lvB H (opB env y)with
  |none=>rw[e]at h;cases h
  |some a=>
   rw[e]at h;cases h;refine⟨m,?_⟩;unfold lvB at e;split at e
   .rename_i i g j;unfold ctB at e;split at e
    .rename_i g u T0 T cs q4;rw[Qaz]at e q4;obtain⟨f,p⟩:∃f,cs.drop g=x::f:=by
      have n:=(XJ.1 e).1
      simp_all[Xo]
     exact OpV.load k l (QS j) (Pts.cells q4 p)
    .cases e
   .rename_i a r j;cases e;exact OpV.load k l (QS j) Pts.rp
   .cases e
 .cases h
theorem Ld{t:Nat}(a:∀w,(isAgg t).run P w=.ok false w)(e:ldB o env H=some (d,t,x))(k:WO P h0 N all l (up env d x) H Q)(hg:QB all o env true:=by exact rfl)(hN:Nat.blt d N=true:=by exact rfl):WO P h0 N all (o::l) env H Q:=
 YP hg (Qhb a e).1 hN (Qhb a e).2 k
theorem Ldg{t:Nat}(hg:QB all o env true)(a:∀w,(isAgg t).run P w=.ok false w)(e:ldB o env H=some (d,t,x))(k:WO P h0 N all l (up env d x) H Q)(f:Nat.blt d N=true:=by exact rfl):WO P h0 N all (o::l) env H Q:=
 YP hg (Qhb a e).1 f (Qhb a e).2 k
def ixB(o:Oper)(env:Env):Option (Nat×Nat×Nat×List (List A)×IntKind×Int):=
 match o.dst,o.op with
 |some d,.indexAddr t x y=>match opB env x,opB env y with
  |.mk (.rsl k es),.mk (.int kk i)=>some (d,t,k,es,kk,i)
  |_,_=>none
 |_,_=>none
theorem Ix{α:Type}{e:α->List A}{t a k:Nat}{L:List α}{r:IntKind}{i:Int}{v:α}(h:idx L i=some v)(p:∀w,(underlying t).run P w=.ok (.slice a) w)(m:∀w,(sizeOf a).run P w=.ok k w)
  (q:ixB o env=some (d,t,k,L.map e,r,i))(k:WO P h0 N all l (up env d (.rp (e v))) H Q)(hg:QB all o env true:=by exact rfl)(hN:Nat.blt d N=true:=by exact rfl):WO P h0 N all (o::l) env H Q:=by
 unfold ixB at q;split at q
 .rename_i n f;split at q
  .rename_i j s;simp only[Option.some.injEq,Prod.mk.injEq]at q;obtain⟨rfl,rfl,rfl,g,rfl,rfl⟩:=q;exact YP hg n hN (Qdn h p m f (by rw[QS j,g]) (QS s)) k
  .cases q
 .cases q
def lnB(o:Oper)(env:Env):Option (Nat×Nat×Bx):=
 match o.dst,o.op with
 |some d,.call c=>match c with
  |{callee:=.builtin .len,args:=⟨[x]⟩,argTypes:=⟨[t]⟩}=>some (d,t,opB env x)
  |_=>none
 |_,_=>none
theorem Qpb{t:Nat}{b:Bx}(q:lnB o env=some (d,t,b)):∃x,o.dst=some d/\o.op=.call {callee:=.builtin .len,args:= #[x],argTypes:= #[t]}/\opB env x=b:=by
 unfold lnB at q
 grind
theorem LnM{α:Type}{e:α->List A}{t i k:Nat}{L:List α}(g:∀w,(underlying t).run P w=.ok (.slice i) w)(q:lnB o env=some (d,t,.mk (.rsl k (L.map e))))
  (k:WO P h0 N all l (up env d (.int .i64 L.length)) H Q)(hg:QB all o env true:=by exact rfl)(hN:Nat.blt d N=true:=by exact rfl):WO P h0 N all (o::l) env H Q:=by
 obtain⟨x,a,f,h⟩:=Qpb q;exact YP hg a hN (Qnn g f rfl (QS h)) k
end
section
variable {P:Program} {h0 N:Nat} {all:Array Oper} {env env':Env} {H H':Qd} {Q:QP} {c c':Code}
theorem Oi{α:Type}{x y:α}(h:some x=some y):x=y:=XW h
theorem Bd{α β:Type}{x:Option α}{f:α->Option β}{r:β}{G:Prop}(h:x.bind f=some r)(k:∀a,x=some a->f a=some r->G):G:=by
 obtain⟨a,e,d⟩:=Yq h
 grind
theorem If{α:Type}{c:Bool}{x y:Option α}{r:α}{G:Prop}(h:(bif c then x else y)=some r)(t:c=true->x=some r->G)(e:c=false->y=some r->G):G:=by
 grind
theorem Cn{α:Type}{x:Operand}{t:Bool}{p q:Option α}{r:α}(hx:opB env x=.mk (.bool t))(h:(bif t then p else q)=some r)(ht:t=true->p=some r->TC P h0 N c env H Q)(hf:t=false->q=some r->TC P h0 N c' env H Q):TC P h0 N (.cond x c c') env H Q:=
 TC.cond (QS hx) (by grind) (by grind)
theorem Yh{α:Type}{x:Operand}{t:Bool}{p q:Option α}{r:α}(hx:opB env x=.mk (.bool t))(h:(bif t then p else q)=some r)(hf:t=false->q=some r->TC P h0 N c' env H Q)(ht:t=true->p=some r->TC P h0 N c env H Q):TC P h0 N (.cond x c c') env H Q:=
 TC.cond (QS hx) (by grind) (by grind)
theorem Lr(π:List Nat)(a:π.take h0=List.range h0:=by exact rfl)(hH:π.map (λp=>H[p]?)=(H'.map (Q8 (rho π H.length))).map some:=by exact rfl)(hπ:π.Nodup:=by decide)
  (hE:Qf2 (rho π H.length) env env':=by(repeat' (first|exact trivial|refine⟨rfl,?_⟩))):Le h0 env H env' H':=Qpt π a hH hπ hE
end
def Ev{α:Type}(f:Nat->Option α)(v:α):Prop:=∃N,∀n,N<=n->f n=some v
section
variable {α β:Type} {f g:Nat->Option α} {v w:α}
theorem Qa(v:α):Ev (λ_=>some v) v:=⟨0,λ_ _=>rfl⟩
theorem Ev.const{o:Option α}(h:o=some v):Ev (λ_=>o) v:=⟨0,λ_ _=>h⟩
theorem Ev.bind{k:Nat->α->Option β}{b:β}(h:Ev f v)(a:Ev (λn=>k n v) b):Ev (λn=>(f n).bind (k n)) b:=by
 obtain⟨N,h⟩:=h;obtain⟨M,a⟩:=a;exact⟨max N M,λn d=>by grind⟩
theorem JK{o:Option α}{k:Nat->α->Option β}{b:β}(h:o=some v)(hk:Ev (λn=>k n v) b):Ev (λn=>o.bind (k n)) b:=Ev.bind (Ev.const h) hk
theorem Qbz{c:Bool}(d:c=true->Ev f v)(a:c=false->Ev g w):Ev (λn=>bif c then f n else g n) (bif c then v else w):=by
 cases c with
 |true=>exact d rfl
 |false=>exact a rfl
theorem QkQ(h:Ev f v):Ev (λn=>bif true then f n else g n) v:=h
theorem QK(h:Ev g v):Ev (λn=>bif false then f n else g n) v:=h
theorem Ev.and{c d:Bool}{h:Nat->Option Bool}(a:c=true->Ev h d):Ev (λn=>bif c then h n else some false) (c&&d):=by
 cases c with
 |true=>exact a rfl
 |false=>exact Qa _
theorem Ev.or{c d:Bool}{h:Nat->Option Bool}(a:c=false->Ev h d):Ev (λn=>bif c then some true else h n) (c||d):=by
 cases c with
 |true=>exact Qa _
 |false=>exact a rfl
theorem Ev.eq(h:Ev f v)(e:v=w):Ev f w:=e▸h
theorem Qbf(h:Ev f v)(e:∀n,g n=f n):Ev g v:=by
 obtain⟨N,h⟩:=h;exact⟨N,λn a=>by grind⟩
theorem QU(h:Ev (λn=>f (n+1)) v):Ev f v:=by
 obtain⟨N,h⟩:=h;refine⟨N+1,λn a=>?_⟩;obtain⟨m,rfl⟩:∃m,n=m+1:=⟨n-1,by omega⟩
 grind
theorem Ev.ex(h:Ev f v):∃n,f n=some v:=let⟨N,h⟩:=h;⟨N,h N (XR _)⟩
theorem Ev.all{k:Nat}{F:Nat->Nat->Option α}{V:Nat->α}(h:∀i,i<k->Ev (F i) (V i)):∃N,∀n,N<=n->∀i,i<k->F i n=some (V i):=by
 induction k with
 |zero=>simp
 |succ k a=>
  obtain⟨N,g⟩:=a (by grind);obtain⟨M,f⟩:=h k (by omega);refine⟨max N M,λn e i d=>?_⟩
  grind
end
section
variable {S B α:Type} {step:Nat->S->Option (Ctl S B)}
theorem Ev.iter{d:S}(a:Nat->S)(k:Nat){b:B}(g:a 0=d)(h:∀i,i<k->Ev (λn=>step n (a i)) (.cont (a (i+1))))(e:Ev (λn=>step n (a k)) (.done b)):
  Ev (λn=>Go.Sw.iter (step n) n d) b:=by
 obtain⟨N,l⟩:=Ev.all h;obtain⟨M,f⟩:=e;exact⟨max (max N M) (k+1),λn j=>Qmw d a b k g (by grind) (f n (by omega)) n (by omega)⟩
theorem Qcl{step:S->Option (Ctl S B)}{s:S}{b:B}(m:Nat)(h:Go.Sw.iter step m s=some b):Ev (λn=>Go.Sw.iter step n s) b:=by
 have mono:∀m s,Go.Sw.iter step m s=some b->∀n,m<=n->Go.Sw.iter step n s=some b:=by
  intro m
  induction m with
  |zero=>intro s h;cases h
  |succ m d=>
   intro s h n e;obtain⟨a,rfl⟩:∃a,n=a+1:=⟨n-1,by omega⟩
   grind[Go.Sw.iter]
 exact⟨m,(by grind)⟩
structure At (l:List α) (i:Nat) (x:α):Prop where
 get:l[i]?=some x
 lt:decide ((i:Int)<(l.length:Int))=true
 ix:idx l (i:Int)=some x
 nx:IntKind.i64.wrap ((i:Int)+1)=((i+1:Nat):Int)
theorem Jl{l:List α}{i:Nat}{x:α}(a:l.length<=4611686018427387904)(h:l[i]?=some x):At l i x:=by
 have d:=(XJ.1 h).1;exact⟨h,(by grind),Ym h,Yi (by omega)⟩
theorem At.mem{l:List α}{i:Nat}{x:α}(h:At l i x):x∈l:=VD h.get
theorem At.lt'{l:List α}{i:Nat}{x:α}(h:At l i x):i<l.length:=(XJ.1 h.get).1
theorem At.take{l:List α}{i:Nat}{x:α}(h:At l i x):l.take (i+1)=l.take i++[x]:=by
 rw[List.take_add_one,h.get];rfl
theorem Jk(l:List α):decide ((l.length:Int)<(l.length:Int))=false:=(by simp)
theorem Jd{m:S}(l:List α)(q:α->Bool)(a:Nat->S)(r b:B)(g:l.length<=4611686018427387904)(s:a 0=m)
  (z:∀i x,At l i x->q x=false->Ev (λn=>step n (a i)) (.cont (a (i+1))))
  (d:∀i x,At l i x->q x=true->Ev (λn=>step n (a i)) (.done r))
  (w:Ev (λn=>step n (a l.length)) (.done b)):Ev (λn=>Go.Sw.iter (step n) n m) (bif l.any q then r else b):=by
 have f:∀k,k<=l.length->(∀i x,l[i]?=some x->i<k->q x=false)\/ ∃i x,l[i]?=some x/\i<k/\q x=true/\ ∀j y,l[j]?=some y->j<i->q y=false:=by
  intro k
  induction k with
  |zero=>simp
  |succ k F=>
   grind
 rcases f l.length (XR _)with h|⟨i,x,u,E,t,H⟩
 .have:l.any q=false:=by
   rw[VI];intro e;obtain⟨x,d,e⟩:=Xt.1 e;obtain⟨i,p,rfl⟩:=List.getElem_of_mem d
   grind
  rw[this];exact Ev.iter a l.length s (λi p=>z i _ (Jl g (XI p)) (by grind)) w
 .have:l.any q=true:=(by grind);rw[this];refine Ev.iter a i s (λj G=>?_) (d i x (Jl g u) t)
  grind[Jl]
theorem Y0{β:Type}{h:S}(l:List α)(g:β->α->β)(d:β)(e:β->Nat->S)(f:β->B)(k:l.length<=4611686018427387904)(r:e d 0=h)
  (p:∀i x a,At l i x->a=(l.take i).foldl g d->Ev (λn=>step n (e a i)) (.cont (e (g a x) (i+1))))
  (q:Ev (λn=>step n (e (l.foldl g d) l.length)) (.done (f (l.foldl g d)))):Ev (λn=>Go.Sw.iter (step n) n h) (f (l.foldl g d)):=by
 refine Ev.iter (λi=>e ((l.take i).foldl g d) i) l.length (by grind) (λi m=>?_) (by grind);have j:=Jl (x:=l[i]) k (XI m);have:=p i _ _ j rfl;rw[j.take,List.foldl_append];exact this
theorem Ev.contains(l:List α)(q:α->Bool)(g:Nat->α->Option Bool)(d:l.length<=4611686018427387904)(hg:∀x∈l,Ev (λn=>g n x) (q x)):
  Ev (λn=>(((Go.Sw.iter (λs:Int=>bif decide (s<(l.length:Int))then(idx l s).bind λx=>(g n x).bind λr=>(bif r then some (Ctl.done (Ctl.done s))else some (Ctl.cont (IntKind.i64.wrap (s+1))))else some (Ctl.done (Ctl.cont ()))) n (0:Int):Option (Ctl Unit Int)).bind λb=>
   match b with
   |.cont _=>some (-1)
   |.done s=>some s):Option Int).bind λr=>some (decide (0<=r))) (l.any q):=by
 cases e:l.any q with
 |false=>
  refine Ev.bind (v:=(-1:Int)) (Ev.bind (v:=Ctl.cont ()) (Ev.iter (λi=>(i:Int)) l.length rfl (λi u=>?_) ?_) (Qa _)) (Qa _)
  .have a:=Jl (x:=l[i]) d (XI u);simp only[a.lt,Vk,a.ix,XH];have w:q l[i]=false:=by
    grind
   refine Ev.bind ((hg _ a.mem).eq w) ?_;simp only[Vl,a.nx];exact Qa _
  simp_all[Qa]
 |true=>
  obtain⟨x,p,h⟩:=Xt.1 e;have f:∀k,k<=l.length->(∀(i:Nat) (x:α),l[i]?=some x->i<k->q x=false)\/ ∃(i:Nat) (x:α),l[i]?=some x/\i<k/\q x=true/\ ∀(j:Nat) (y:α),l[j]?=some y->j<i->q y=false:=by
   intro k
   induction k with
   |zero=>simp
   |succ k F=>
    grind
  rcases f l.length (XR _)with G|⟨i,x,t,E,B,z⟩
  .obtain⟨j,m,rfl⟩:=List.getElem_of_mem p
   grind
  .refine Ev.bind (v:=(i:Int)) (Ev.bind (v:=Ctl.done (i:Int)) (Ev.iter (λi=>(i:Int)) i rfl (λj m=>?_) ?_) (Qa _)) ?_
   .have a:=Jl (x:=l[j]) d (XI (by omega));simp only[a.lt,Vk,a.ix,XH];refine Ev.bind ((hg _ a.mem).eq (z j _ a.get m)) ?_;simp only[Vl,a.nx];exact Qa _
   .have a:=Jl d t;simp only[a.lt,Vk,a.ix,XH];refine Ev.bind ((hg _ a.mem).eq B) ?_;exact Qa _
   simp_all[Qa]
end
section
variable {S B α:Type} {step:Nat->S->Option (Ctl S B)}
theorem QhM{f:S}(a:Nat->S)(k:Nat)(R:Nat->B)(g:a 0=f)(t:∀i,i<k->(Ev (λn=>step n (a i)) (.cont (a (i+1)))/\R i=R (i+1))\/Ev (λn=>step n (a i)) (.done (R i)))
  (q:Ev (λn=>step n (a k)) (.done (R k))):Ev (λn=>Go.Sw.iter (step n) n f) (R 0):=by
 have e:∀m,m<=k->(∀i,i<m->Ev (λn=>step n (a i)) (.cont (a (i+1)))/\R i=R (i+1))\/ ∃j,j<m/\(∀i,i<j->Ev (λn=>step n (a i)) (.cont (a (i+1)))/\R i=R (i+1))/\Ev (λn=>step n (a j)) (.done (R j)):=by
  intro m
  induction m with
  |zero=>simp
  |succ m p=>
   grind
 have same:∀m,(∀i,i<m->R i=R (i+1))->R 0=R m:=by
  intro m
  induction m with
  |zero=>intro _;rfl
  |succ m p=>grind
 rcases e k (XR _)with h|⟨j,s,l,r⟩
 .rw[same k λi d=>(h i d).2];exact Ev.iter a k g (by grind) q
 .rw[same j λi d=>(l i d).2];exact Ev.iter a j g (by grind) r
theorem At.drop{l:List α}{i:Nat}{x:α}(h:At l i x):l.drop i=x::l.drop (i+1):=by
 have:=h.lt';rw[Xo this,(XJ.1 h.get).2]
theorem Qbx{s0:S}(l:List α)(st:Nat->S)(R:Nat->B)(hl:l.length<=4611686018427387904)(h0:st 0=s0)
  (hc:∀i x,At l i x->(Ev (λn=>step n (st i)) (.cont (st (i+1)))/\R i=R (i+1))\/Ev (λn=>step n (st i)) (.done (R i)))
  (hd:Ev (λn=>step n (st l.length)) (.done (R l.length))):Ev (λn=>Go.Sw.iter (step n) n s0) (R 0):=
 QhM st l.length R h0 (λi hi=>hc i _ (Jl hl (XI hi))) hd
end
section
variable {α β:Type} [DecidableEq α]
theorem QaB(p:α×β)(l:List (α×β))(k:α):Jj (p::l) k=if p.1=k then some p.2 else Jj l k:=by
 grind[Jj]
theorem Qk5(p:α×β)(l:List (α×β))(k:α)(v:β):Yw (p::l) k v=if p.1=k then(p.1,v)::l.map (λq=>bif decide (q.1=k)then(q.1,v)else q)else p::Yw l k v:=by
 unfold Yw
 grind
theorem Qmn(l:List (α×β))(k a:α)(v:β)(h:a≠k):Jj (l.map λq=>bif decide (q.1=k)then(q.1,v)else q) a=Jj l a:=by
 induction l with
 |nil=>rfl
 |cons p l d=>
  grind[QaB]
theorem Qb7(l:List (α×β))(k a:α)(v:β):Jj (Yw l k v) a=if a=k then some v else Jj l a:=by
 induction l with
 |nil=>
  show Jj ([]++[(k,v)]) a=_;rw[Vd,QaB]
  grind
 |cons p l d=>
  rw[Qk5];by_cases e:p.1=k
  .rw[Vp e,QaB,QaB];by_cases h:a=k
   .grind
   .have:p.1≠a:=(by grind)
    simp_all[Qmn]
  .rw[Vn e,QaB,QaB,d]
   grind
theorem Qk6(k:α)(z:β):Q1 ([]:List (α×β)) k z=z:=rfl
theorem Qfb(l:List (α×β))(k a:α)(v z:β):Q1 (Yw l k v) a z=if a=k then v else Q1 l a z:=by
 grind[Q1,Qb7]
theorem QdA(l:List (α×β))(k:α)(v:β):(Yw l k v).map (·.1)=if k∈l.map (·.1)then l.map (·.1)else l.map (·.1)++[k]:=by
 unfold Yw;have e:(l.any λp=>decide (p.1=k))=decide (k∈l.map (·.1)):=by
  grind
 rw[e];by_cases h:k∈l.map (·.1)
 .rw[Vq h,Vp h,Vk,List.map_map];apply List.map_congr_left
  grind
 grind
def Yu{γ:Type}(key:γ->α)(v:β)(l:List γ):List (α×β):=l.foldl (λm x=>Yw m (key x) v) []
theorem Qg8{γ:Type}(a:γ->α)(v:β)(l:List γ)(x:γ):Yu a v (l++[x])=Yw (Yu a v l) (a x) v:=by
 unfold Yu;simp
theorem QdY{γ:Type}(a:γ->α)(v z:β)(l:List γ)(k:α):Q1 (Yu a v l) k z=if k∈l.map a then v else z:=by
 have d:∀(l:List γ) (m:List (α×β)),Q1 (l.foldl (λm x=>Yw m (a x) v) m) k z=if k∈l.map a then v else Q1 m k z:=by
  intro l
  induction l with
  |nil=>intro m;simp
  |cons x l e=>
   intro m;rw[XB,e,Qfb]
   grind
 exact d l []
theorem Qcq{γ:Type}(a:γ->α)(v:β)(l:List γ):(Yu a v l).length<=l.length/\((Yu a v l).length=l.length↔(l.map a).Nodup):=by
 have f:∀(l:List γ) (m:List (α×β)),(m.map (·.1)).Nodup->(l.foldl (λm x=>Yw m (a x) v) m).length<=m.length+l.length/\((l.foldl (λm x=>Yw m (a x) v) m).length=m.length+l.length↔(m.map (·.1)++l.map a).Nodup):=by
  intro l
  induction l with
  |nil=>simp
  |cons x l i=>
   intro m g;have e:=QdA m (a x) v;have d:(Yw m (a x) v).length=((Yw m (a x) v).map (·.1)).length:=by simp
   by_cases h:a x∈m.map (·.1)
   .grind
   .rw[Vn h]at e;have j:((Yw m (a x) v).map (·.1)).Nodup:=by
     grind
    grind
 grind[Yu]
end
theorem Jq{α:Type}(l:List α)(p:α->Bool)(g:Nat->α->Option Bool)(a:l.length<=4611686018427387904)(hg:∀x∈l,Ev (λn=>g n x) (p x)):
  Ev (λn=>((((Go.Sw.iter (λs:Int=>bif decide (s<(l.length:Int))then(idx l s).bind λx=>((g n x).bind λr1=>some (!r1)).bind λr=>(bif r then some (Ctl.done (Ctl.done s))else some (Ctl.cont (IntKind.i64.wrap (s+1))))else some (Ctl.done (Ctl.cont ()))) n (0:Int):Option (Ctl Unit Int)).bind λb=>
   match b with
   |.cont _=>some (-1)
   |.done s=>some s):Option Int).bind λr=>some (decide (0<=r)):Option Bool).bind λr=>some (!r)) (l.all p):=by
 refine Ev.bind (Ev.contains l (λx=> !p x) (λn x=>(g n x).bind λr1=>some (!r1)) a λx d=>Ev.bind (hg x d) (Qa _)) ((Qa _).eq ?_)
 grind
def Qlw{α κ:Type}[DecidableEq κ](ok:α->Bool)(key:α->κ):List κ->List α->Bool
 |_,[]=>true
 |seen,x::r=>ok x&& !seen.contains (key x)&&Qlw ok key (seen++[key x]) r
theorem QkD{α κ:Type}[DecidableEq κ](ok:α->Bool)(d:α->κ):∀(l:List α) (a:List κ),a.Nodup->Qlw ok d a l=(l.all ok&&decide ((a++l.map d).Nodup))
 |[],a,h=>by simp[Qlw,h]
 |x::r,a,h=>by
  simp only[Qlw,List.all_cons,Vf];by_cases hk:d x∈a
  .grind
  .have hn:(a++[d x]).Nodup:=by
    grind
   rw[QkD ok d r _ hn]
   grind
theorem Qnw{α κ B:Type}[DecidableEq κ]{step:Nat->Int->Option (Ctl Int B)}(l:List α)(ok:α->Bool)(a:α->κ)(d b:B)(g:l.length<=4611686018427387904)
  (m:∀i x,At l i x->ok x=true->((l.take i).map a).contains (a x)=false->Ev (λn=>step n (i:Int)) (.cont ((i+1:Nat):Int)))
  (j:∀i x,At l i x->ok x=false->Ev (λn=>step n (i:Int)) (.done d))
  (k:∀i x,At l i x->ok x=true->((l.take i).map a).contains (a x)=true->Ev (λn=>step n (i:Int)) (.done d))
  (h:Ev (λn=>step n (l.length:Int)) (.done b)):Ev (λn=>Go.Sw.iter (step n) n 0) (bif l.all ok&&decide ((l.map a).Nodup)then b else d):=by
 have e:=QkD ok a l [] (by simp);rw[Vd]at e;rw[<- e];refine Qbx l (λi=>(i:Int)) (λi=>bif Qlw ok a ((l.take i).map a) (l.drop i)then b else d) g rfl (λi x f=>?_) ?_
 .rw[f.drop];simp only[Qlw];rw[show(l.take i).map a++[a x]=(l.take (i+1)).map a by rw[f.take];simp]
  grind
 .rw[Xq];exact h
theorem Qi0{α κ B:Type}[DecidableEq κ]{step:Nat->Int->Option (Ctl Int B)}(l:List α)(i:Nat)(a:α->κ)(k:κ)(g b:B)(r:l.length<=4611686018427387904)(hi:i<=l.length)
  (u:∀j y,j<i->At l j y->decide (a y=k)=false->Ev (λn=>step n (j:Int)) (.cont ((j+1:Nat):Int)))
  (s:∀j y,j<i->At l j y->decide (a y=k)=true->Ev (λn=>step n (j:Int)) (.done g))
  (t:Ev (λn=>step n (i:Int)) (.done b)):Ev (λn=>Go.Sw.iter (step n) n 0) (bif ((l.take i).map a).contains k then g else b):=by
 have e:((l.take i).map a).contains k=(l.take i).any λy=>decide (a y=k):=by
  grind
 rw[e];have f:(l.take i).length=i:=by simp;omega
 have p:∀j y,At (l.take i) j y->j<i/\At l j y:=by
  intro j y d;have h:=d.lt';have m:=d.get
  grind[Jl]
 refine Jd (l.take i) (λy=>decide (a y=k)) (λi=>(i:Int)) _ _ (by omega) rfl (λj y d q=>?_) (λj y d q=>?_) ?_
 .grind
 .grind
 grind
theorem Qby{α κ β:Type}[DecidableEq κ]{step:Nat->List (κ×β)×Int->Option (Ctl (List (κ×β)×Int) (List (κ×β)))}(l:List α)(key:α->κ)(v:β)(hl:l.length<=4611686018427387904)
  (hc:∀i x m,At l i x->Ev (λn=>step n (m,(i:Int))) (.cont (Yw m (key x) v,((i+1:Nat):Int))))
  (hd:∀m,Ev (λn=>step n (m,(l.length:Int))) (.done m)):Ev (λn=>Go.Sw.iter (step n) n ([],0)) (Yu key v l):=
 Y0 l (λm x=>Yw m (key x) v) [] (λm i=>(m,(i:Int))) (λm=>m) hl rfl (by grind) (hd _)
theorem Ev.shift{α:Type}{f:Nat->Option α}{v:α}(h:Ev f v):Ev (λn=>f (n+1)) v:=by
 obtain⟨N,h⟩:=h;exact⟨N,(by grind)⟩
def EvI{S B:Type}(step:Nat->S->Option (Ctl S B))(s:S)(b:B):Prop:=∃N,∀n k,N<=n->N<=k->Go.Sw.iter (step n) k s=some b
section
variable {S B:Type} {step:Nat->S->Option (Ctl S B)} {s s':S} {b:B}
theorem EvI.done(h:Ev (λn=>step n s) (.done b)):EvI step s b:=by
 obtain⟨N,h⟩:=h;refine⟨N+1,λn k e d=>?_⟩;obtain⟨a,rfl⟩:∃a,k=a+1:=⟨k-1,by omega⟩
 grind[Go.Sw.iter]
theorem EvI.cont(h:Ev (λn=>step n s) (.cont s'))(q:EvI step s' b):EvI step s b:=by
 obtain⟨N,h⟩:=h;obtain⟨M,q⟩:=q;refine⟨max N M+1,λn k e d=>?_⟩;obtain⟨a,rfl⟩:∃a,k=a+1:=⟨k-1,by omega⟩
 grind[Go.Sw.iter]
theorem EvI.ev(h:EvI step s b):Ev (λn=>Go.Sw.iter (step n) n s) b:=by
 obtain⟨N,h⟩:=h;exact⟨N,λn a=>h n n a a⟩
theorem EvI.eq{b':B}(h:EvI step s b)(e:b=b'):EvI step s b':=e▸h
end
theorem QC{α:Type}{l r:List α}{i:Nat}{x:α}(a:l.length<=4611686018427387904)(h:l.drop i=x::r):At l i x/\l.drop (i+1)=r:=by
 have d:l[i]?=some x:=by
  have:=congrArg (λl=>l[0]?) h
  grind
 refine⟨Jl a d,?_⟩;have:=(Jl a d).drop
 grind
theorem Q5{α:Type}{l:List α}{i:Nat}(h:l.drop i=[])(hi:i<=l.length):decide ((i:Int)<(l.length:Int))=false:=by
 simp_all
theorem Z.{u}{α:Sort u}{a:α}:a=a:=rfl
section
variable {P:Program} {h0 N:Nat} {all:Array Oper} {env:Env} {H H':Qd} {Q:QP} {l:List Oper} {o:Oper} {d:Nat}
theorem aV(x:A)(H:Qd){x':A}{H':Qd}(e:x'=x)(a:H'=H)(k:WO P h0 N all l (up env d x) H Q):WO P h0 N all l (up env d x') H' Q:=by subst e;subst a;exact k
theorem vX(x:A)(a:OpV P o env H x)(k:WO P h0 N all l (up env d x) H Q)(hg:QB all o env true:=by exact rfl)(hd:o.dst=some d:=by exact rfl)(hN:Nat.blt d N=true:=by exact rfl):WO P h0 N all (o::l) env H Q:=
 YP hg hd hN a k
theorem Wp:WO P h0 N all [] env H (Y8 env H):=WO.nil Y8.mk
end
section
variable {P:Program} {o:Oper} {env:Env} {H:Qd}
theorem Qoy{ro:Nat->Prop}{σ:Sig}{w:World}(g:GP w){b:Nat}{zs:List Int}(h:Qjr[b]?=some zs):∀(i:Nat),CR ro σ w b ((zs.drop i).map (A.int .i64)) i:=by
 intro i;generalize hl:zs.drop i=l
 induction l generalizing i with
 |nil=>trivial
 |cons z l d=>
  have e:zs[i]?=some z:=by
   have:=congrArg (·[0]?) hl
   grind
  have a:zs.drop (i+1)=l:=by
   rw[<- List.drop_drop,hl];rfl
  exact⟨⟨_,g.tab b zs h i z e,by simp[Qx],rfl⟩,d (i+1) a⟩
theorem QgO{t n g:Nat}{zs:List Int}(k:∀w,(isAgg t).run P w=.ok true w)(j:∀w,(sizeOf t).run P w=.ok n w)(hg:Qjr[g]?=some zs)(e:zs.length=n)(m:o.op=.load t (.global g):=by exact rfl):
  OpV P o env H (.agg (zs.map (A.int .i64))):=by
 intro i ro σ N a w r;obtain⟨l,f,_,d⟩:=Yt (P:=P) (b:=g) (cs:=zs.map (A.int .i64)) (off:=0) 0 (by simpa using Qoy (ro:=ro) (σ:=σ) r.sim.roOk.gp hg 0);have d:=d w #[] rfl;rw[XY,e]at d;refine⟨.agg l.toArray,?_,l,rfl,f⟩;have h:a.eval (.global g)=.pointer (some ⟨g,0,none⟩):=rfl
 simp_all[execOp,Instr.loadAt,Instr.sureAddr,loadVar,loadCells]
end
open Go.Proofs
section
variable {P:Program}
def toV(agg:Bool)(l:List Value):Value:=bif agg then .agg l.toArray else l.headD .nilFunc
structure QhN (P:Program) (t:TypeId) (h k:Nat) (agg:Bool) (ok:List Value->Prop):Prop where
 len:∀l,ok l->l.length=k
 ia:∀w,(isAgg t).run P w=.ok agg w
 so:∀w,(sizeOf t).run P w=.ok k w
 eq:∀(w:World) (d:Nat) (l m:List Value),ok l->ok m->∃b:Bool,(Op.equalIn (d+h) t (toV agg l) (toV agg m)).run P w=.ok b w/\(b=true↔l=m)
structure QjY (P:Program) (fs:List Field) (h off k:Nat) (ok:List Value->Prop):Prop where
 len:∀l,ok l->l.length=k
 eq:∀(w:World) (d:Nat) (p q l m:List Value),p.length=off->q.length=off->ok l->ok m->∃b:Bool,(Op.eqFields (d+h) (p++l).toArray (q++m).toArray fs).run P w=.ok b w/\(b=true↔l=m)
theorem QhN.int{t:TypeId}{k:IntKind}(e:P.underlying t=some (.int k))(a:∀w,(isAgg t).run P w=.ok false w)(f:∀w,(sizeOf t).run P w=.ok 1 w)(h:Nat):QhN P t (h+1) 1 false (λl=>∃n:Int,l=[.int k n]):=by
 refine⟨?_,a,f,?_⟩
 .simp
 .rintro w d _ _ ⟨n,rfl⟩ ⟨m,rfl⟩;exact⟨_,run_equalIn_int w (d+h) t k k n m e,by simp⟩
theorem QhN.bool{t:TypeId}(e:P.underlying t=some .bool)(a:∀w,(isAgg t).run P w=.ok false w)(f:∀w,(sizeOf t).run P w=.ok 1 w)(h:Nat):QhN P t (h+1) 1 false (λl=>∃n:Bool,l=[.bool n]):=by
 refine⟨?_,a,f,?_⟩
 .simp
 .rintro w d _ _ ⟨n,rfl⟩ ⟨m,rfl⟩;exact⟨_,run_equalIn_bool' w (d+h) t n m e,by simp⟩
theorem QjY.nil(h off:Nat):QjY P [] h off 0 (λl=>l=[]):=by
 refine⟨?_,?_⟩
 .simp
 simp_all[Op.eqFields]
theorem Qh5{t:TypeId}{k:Nat}{agg:Bool}{w:World}(f:∀w,(isAgg t).run P w=.ok agg w)(h:∀w,(sizeOf t).run P w=.ok k w)(p a g:List Value)(d:a.length=k)(e:agg=false->k=1):
  (part t (p++(a++g)).toArray p.length).run P w=.ok (toV agg a) w:=by
 unfold part;cases agg with
 |true=>
  simp_all[toV]
 |false=>
  have:=e rfl;subst this
  match a,d with
  |[v],_=>simp[f,go_sem,toV]
theorem QjY.cons{f:Field}{fs:List Field}{h off n x:Nat}{agg:Bool}{k j:List Value->Prop}(V:Nat.beq f.offset off=true)(N:f.name≠"_")(g:QhN P f.type h n agg k)(B:agg=false->n=1)(z:QjY P fs h (off+n) x j):
  QjY P (f::fs) h off (n+x) (λl=>∃l1 l2,l=l1++l2/\k l1/\j l2):=by
 have s:f.offset=off:=(by simp_all);refine⟨?_,?_⟩
 .rintro _ ⟨l1,l2,rfl,a,b⟩;rw[XZ,g.len _ a,z.len _ b]
 .rintro w d p q _ _ E G ⟨l1,l2,rfl,m,M⟩ ⟨i,t,rfl,r,O⟩;have u:=Qh5 (P:=P) (w:=w) g.ia g.so p l1 l2 (g.len _ m) B;have y:=Qh5 (P:=P) (w:=w) g.ia g.so q i t (g.len _ r) B;rw[E]at u;rw[G]at y;obtain⟨H,L,R⟩:=g.eq w d l1 i m r;obtain⟨T,F,Q⟩:=z.eq w d (p++l1) (q++i) l2 t (by rw[XZ,E,g.len _ m]) (by rw[XZ,G,g.len _ r]) M O;rw[Ve,Ve]at F;have J:l1.length=i.length:=by rw[g.len _ m,g.len _ r]
  refine⟨H&&T,?_,?_⟩
  .generalize(p++(l1++l2)).toArray=X at*;generalize(q++(i++t)).toArray=Y at*;cases H<;>simp[Op.eqFields,N,s,Vi,Result.andThen,u,y,L,F]
  .rw[XU,R,Q];constructor
   .grind
   .intro e;exact List.append_inj e J
theorem QhN.struct{t:TypeId}{h k:Nat}{ok:List Value->Prop}(j:P.underlying t=some (.struct (P.fieldsOf t)))(p:P.stoodInHeld t=false)(f:∀w,(isAgg t).run P w=.ok true w)(i:∀w,(sizeOf t).run P w=.ok k w)(e:QjY P (P.fieldsOf t).toList h 0 k ok):QhN P t (h+1) k true ok:=by
 refine⟨e.len,f,i,λw d l m a b=>?_⟩;obtain⟨r,n,g⟩:=e.eq w d [] [] l m rfl rfl a b;refine⟨r,?_,g⟩;show(Op.equalIn (d+h+1) t (.agg l.toArray) (.agg m.toArray)).run P w=_
 grind[run_equalIn_agg]
theorem QQ{t:TypeId}{h k:Nat}{fs:Array Field}{ok:List Value->Prop}(d:P.underlying t=some (.struct fs))(f:P.stoodInHeld t=false)(a:∀w,(isAgg t).run P w=.ok true w)(g:∀w,(sizeOf t).run P w=.ok k w)(e:QjY P fs.toList h 0 k ok):QhN P t (h+1) k true ok:=by
 grind[Program.fieldsOf,QhN.struct]
structure EqD (P:Program) (t:TypeId) {α:Type} (cells:α->List A):Prop where
 scl:∀x,Qg0 (cells x)=true
 inj:∀x y,YW (cells x)=YW (cells y)->x=y
 guard:P.eqGuardType P.depth t=false
 eq:∀(w:World) x y,∃b:Bool,(Op.equalIn 10000 t (.agg (YW (cells x)).toArray) (.agg (YW (cells y)).toArray)).run P w=.ok b w/\(b=true↔YW (cells x)=YW (cells y))
theorem QhO{α:Type}{cells:α->List A}{t h k:Nat}{ok:List Value->Prop}(E:QhN P t h k true ok)(e:Nat.ble h 10000=true)(a:∀x,ok (YW (cells x)))(d:∀x,Qg0 (cells x)=true)(hi:∀x y,YW (cells x)=YW (cells y)->x=y)(hg:P.eqGuardType P.depth t=false):EqD P t cells:=by
 refine⟨d,hi,hg,λw x y=>?_⟩;have:=E.eq w (10000-h) (YW (cells x)) (YW (cells y)) (a x) (a y)
 rwa [show 10000-h+h=10000 by simp_all]at this
variable {o:Oper} {env:Env} {H:Qd}
theorem Qcj{α:Type}[DecidableEq α]{cells:α->List A}{t u:TypeId}{x y:Operand}{p q:α}(E:EqD P t cells)(k:opA env x=.agg (cells p))(l:opA env y=.agg (cells q))(z:o.op=.binOp .eql t x y u:=by exact rfl):OpV P o env H (.bool (p==q)):=by
 intro B F σ N a w r;have h:=Qk r x;have g:=Qk r y;rw[k]at h;rw[l]at g;have j:=VR.val (a:=.agg (cells p)) (E.scl p) h;have s:=VR.val (a:=.agg (cells q)) (E.scl q) g;obtain⟨b,m,n⟩:=E.eq w p q;have i:b=(p==q):=by
  rw[XV,n,Vu];exact⟨E.inj p q,λe=>by rw[e]⟩
 refine⟨.bool (p==q),?_,rfl⟩;rw[<- i];generalize a.eval=ρ at*;have f:ρ x=.agg (YW (cells p)).toArray:=j;have d:ρ y=.agg (YW (cells q)).toArray:=s;simp[execOp,z,f,d,go_sem,run_eqGuard_agg _ _ _ _ _ _ _ E.guard,run_eql_struct,m]
theorem Qci{α:Type}[DecidableEq α]{cells:α->List A}{t u:TypeId}{x y:Operand}{p q:α}(E:EqD P t cells)(k:opA env x=.agg (cells p))(l:opA env y=.agg (cells q))(z:o.op=.binOp .neq t x y u:=by exact rfl):OpV P o env H (.bool (p != q)):=by
 intro B F σ N a w r;have h:=Qk r x;have g:=Qk r y;rw[k]at h;rw[l]at g;have j:=VR.val (a:=.agg (cells p)) (E.scl p) h;have s:=VR.val (a:=.agg (cells q)) (E.scl q) g;obtain⟨b,m,n⟩:=E.eq w p q;have i:b=(p==q):=by
  rw[XV,n,Vu];exact⟨E.inj p q,λe=>by rw[e]⟩
 refine⟨.bool (p != q),?_,rfl⟩;rw[bne, <- i];generalize a.eval=ρ at*;have f:ρ x=.agg (YW (cells p)).toArray:=j;have d:ρ y=.agg (YW (cells q)).toArray:=s;simp[execOp,z,f,d,go_sem,run_eqGuard_agg _ _ _ _ _ _ _ E.guard,run_neq_struct,m]
end
end Go.Sw
namespace Go.Sw
structure QfP (g g':Nat->Prop) (W W':World):Prop where
 sub:∀b,g b->g' b
 new:∀b,g' b->g b\/W.heap.size<=b
 lt:∀b,g' b->b<W'.heap.size
 all:∀b,W.heap.size<=b->b<W'.heap.size->g' b
 keep:∀b,b<W.heap.size->¬g b->W'.heap[b]?=W.heap[b]?
 size:W.heap.size<=W'.heap.size
 shape:∀b x,W.shape? b=some x->W'.shape? b=some x
 os:W'.os=W.os
 tape:W'.tape=W.tape
 output:W'.output=W.output
 drawn:W.drawn<=W'.drawn
abbrev Jv(T:Type):=List T->(Nat->Prop)->(Nat->Prop)->World->Prop
structure QoL {T:Type} (J:Jv T):Prop where
 ev:∀rem q g W W' ro',J rem q g W->Qi g q W ro' W'->J rem q g W'
 up:∀rem q g g' W,J rem q g W->(∀b,g b->g' b)->(∀b,g' b->b<W.heap.size)->J rem q g' W
theorem Sim.round{fr g g' ro:Nat->Prop}{σ:Sig}{H:Qd}{W W':World}(s:Sim fr ro σ H W)(a:∀b,g b->fr b)(k:QfP g g' W W'):Sim (λb=>fr b\/g' b) ro σ H W'/\Qi (λb=>b<W.heap.size/\ ¬g b) ro W ro W':=by
 have e:∀b,ro b->W'.heap[b]?=W.heap[b]? :=λb q=>k.keep b (s.roLt b q) (λr=>s.roFr b q (a b r));have l:Ext ro σ W ro σ W':=by
  have ev:Qi (λ_=>False) ro W ro W':=⟨λ_ q=>q,e,λ_ q=>q.elim,k.size,k.shape,k.os,k.tape,k.output,k.drawn⟩;have:=ev.ext σ []
  grind
 refine⟨⟨s.len,s.roOk.to (λ_ q=>q) e (λb q=>Vb (s.roLt b q) k.size),λb q=>q.elim (λq=>Vb (s.frLt b q) k.size) (k.lt b),λb q r=>?_,λi b x h f w=>?_,s.inj,λi y x h f=>?_,
  s.hidTo (· = ·) Yc k.size (by simp) (λi b x c h f w F=>F.elim id λq=>(k.new c q).elim (a c) λm=>(by have:=(s.hid i b x c h f w).lt;omega)) λj d y n p G=>.inl ⟨j,y,rfl,n,p,id,λc q=>s.hidKeep n p (λz=>k.keep d (s.own j d y n p z).1 λr=>(s.own j d y n p z).2.2 (a d r)) e q⟩⟩,
  ⟨λ_ q=>q,e,λb q=>k.keep b q.1 q.2,k.size,k.shape,k.os,k.tape,k.output,k.drawn⟩⟩
 .rcases r with r|r
  .exact s.roFr b q r
  .rcases k.new b r with m|m
   .exact s.roFr b q (a b m)
   .have:=s.roLt b q;omega
 .obtain⟨t,E,B⟩:=s.own i b x h f w;refine⟨Vb t k.size,E,λr=>?_⟩;rcases r with r|r
  .exact B r
  .rcases k.new b r with m|m
   .grind
   .omega
 .refine(s.blk i y x h f).keep l ?_ ?_
  .rintro b rfl u;obtain⟨t,E,B⟩:=s.own i b x h f u;exact k.keep b t (λr=>B (a b r))
  .rintro b c rfl u;have q:=s.hid i b x c h f u;exact k.keep c q.lt (λr=>q.fr (a c r))
def Qpr{T:Type}(J Jx:Jv T)(g ri:Nat->Prop)(W1:World)(rem:List T):Ending->World->Prop:=λe W'=>
 ∃g' q',(∀b,q' b->ri b)/\QfP g g' W1 W'/\((e=.returned (.bool true)/\J rem q' g' W')\/(e=.returned (.bool false)/\Jx rem q' g' W'))
structure Ctx (T:Type) where
 l:Nat
 J:Jv T
 Jx:Jv T
 enc:T->List A
 nx:List T->T->List T->Prop
structure Ctx.ok {T:Type} (X:Ctx T) (P:Program):Prop where
 b:QoL X.J
 bx:QoL X.Jx
 round:∀l x rem q g ri W1 vs,X.nx l x rem->X.J l q g W1->(∀b,q b->ri b)->(∀b,ri b->b<W1.heap.size/\ ¬g b)->LR ri [] W1 (X.enc x) vs->YieldAt Fence.wide 0 P X.l vs.toArray W1 (Qpr X.J X.Jx g ri W1 rem)
def Qnj{T:Type}(P:Program)(f:FuncId)(caps:List A)(H:Qd)(enc:T->List A)(nx:List T->T->List T->Prop)(xs:List T):Prop:=
 ∀(X:Ctx T),X.enc=enc->X.nx=nx->X.ok P->∀fr ro σ w capv q,Sim fr ro σ H w->(∀b,q b->ro b)->LR ro σ w caps capv->X.J xs q fr w->
  Calls P f ((Value.func (.yield X.l) #[] #[]::capv)).toArray w λe W'=>(∃v,e=.returned v)/\ ∃g q',(∀b,fr b->g b)/\((X.J [] q' g W')\/(∃rem,X.Jx rem q' g W'))
inductive YSt (T:Type) where
 |on (rem:List T)
 |off (rem:List T)
def Ctx.J'{T:Type}(X:Ctx T):YSt T->(Nat->Prop)->(Nat->Prop)->World->Prop
 |.on rem=>X.J rem
 |.off rem=>X.Jx rem
def Ctx.at{T:Type}(X:Ctx T)(st:YSt T)(g ro:Nat->Prop)(W:World):Prop:=∃q,(∀b,q b->ro b)/\X.J' st q g W
theorem Qi.roMono{fr ro ro0 ro':Nat->Prop}{w w':World}(h:Qi fr ro w ro' w')(s:∀b,ro0 b->ro b):Qi fr ro0 w ro' w':=
 ⟨λb q=>h.sub b (s b q),λb q=>h.keepRo b (s b q),h.keepFr,h.size,h.shape,h.os,h.tape,h.output,h.drawn⟩
theorem Ctx.ok.ev{T:Type}{X:Ctx T}{P:Program}(h:X.ok P){d:YSt T}{g ro ro':Nat->Prop}{W W':World}(a:X.at d g ro W)(he:Qi g ro W ro' W'):X.at d g ro' W':=by
 obtain⟨q,e,a⟩:=a;refine⟨q,λb z=>he.sub b (e b z),?_⟩;cases d with
 |on rem=>exact h.b.ev rem q g W W' ro' a (he.roMono e)
 |off rem=>exact h.bx.ev rem q g W W' ro' a (he.roMono e)
theorem Ctx.ok.up{T:Type}{X:Ctx T}{P:Program}(h:X.ok P){d:YSt T}{g g' ro:Nat->Prop}{W:World}(a:X.at d g ro W)(hg:∀b,g b->g' b)(e:∀b,g' b->b<W.heap.size):X.at d g' ro W:=by
 obtain⟨q,f,a⟩:=a;refine⟨q,f,?_⟩;cases d with
 |on rem=>exact h.b.up rem q g g' W a hg e
 |off rem=>exact h.bx.up rem q g g' W a hg e
abbrev YR(T:Type):=AEx->Env->Qd->YSt T->Prop
structure In (g fr:Nat->Prop) (ds:List Deferred):Prop where
 sub:∀b,g b->fr b
 beside:∀D,({target:=.collected D,args:= #[]}:Deferred)∈ds->¬g D
def Qdj{T:Type}(X:Ctx T)(h0:Nat)(fr ro:Nat->Prop)(σ:Sig)(w:World)(N:Nat)(ds:List Deferred)(Q:YR T):Exit->Act->World->Prop:=
 λe a' w'=>∃x env' H' st ro' σ' fr' g',ExR e x/\Q x env' H' st/\Rel fr' ro' σ' H' env' N a' w'/\(X.at st g' ro' w'/\In g' fr' a'.defers)/\(∀b,ro b->ro' b)/\w.heap.size<=w'.heap.size/\σ'.take h0=σ.take h0/\Grow fr w ds fr' a'.defers
theorem Qdj.grow{T:Type}{X:Ctx T}{i:Nat}{fr f ro d:Nat->Prop}{σ σ1:Sig}{w w1:World}{N:Nat}{l g:List Deferred}{Q:YR T}{e:Exit}{a':Act}{w':World}
  (h:Qdj X i f d σ1 w1 N g Q e a' w')(E:∀b,ro b->d b)(m:w.heap.size<=w1.heap.size)(p:σ1.take i=σ.take i)(hg:Grow fr w l f g):Qdj X i fr ro σ w N l Q e a' w':=by
 obtain⟨x,a,H',s,j,σ',k,z,n,y,t,u,F,q,r,B⟩:=h;exact⟨x,a,H',s,j,σ',k,z,n,y,t,u,(by grind),XT m q,r.trans p,hg.trans m B⟩
def TCy{T:Type}(X:Ctx T)(P:Program)(h0 N:Nat)(c:Code)(env:Env)(H:Qd)(st:YSt T)(Q:YR T):Prop:=
 X.ok P->∀rd fr ro σ a w g,Rel fr ro σ H env N a w->X.at st g ro w/\In g fr a.defers->rd=none->c.wpIn (WF rd) 0 P (Qdj X h0 fr ro σ w N a.defers Q) a w
def WOy{T:Type}(X:Ctx T)(P:Program)(h0 N:Nat)(all:Array Oper)(l:List Oper)(env:Env)(H:Qd)(st:YSt T)(Q:YR T):Prop:=
 X.ok P->∀rd fr ro σ a w g,Rel fr ro σ H env N a w->X.at st g ro w/\In g fr a.defers->rd=none->wpL P rd all (Qdj X h0 fr ro σ w N a.defers Q) l a w
theorem In.later{fr a g:Nat->Prop}{w:World}{ds d:List Deferred}(h:In g fr ds)(f:∀b,fr b->b<w.heap.size)(hg:Grow fr w ds a d):In g a d:=by
 refine⟨λb q=>hg.sub b (h.sub b q),λD hD q=>?_⟩;rcases hg.ds _ hD with r|⟨D',e,r⟩
 .exact h.beside D r q
 .have:D=D':=by simpa using e
  subst this;have:=f D (h.sub D q);omega
section
variable {T:Type} {X:Ctx T} {P:Program} {h0 N:Nat} {c c':Code} {env:Env} {H:Qd} {st:YSt T} {Q:YR T}
theorem QlE{fr ro:Nat->Prop}{σ:Sig}{w:World}{i:List Deferred}{e:Exit}{a':Act}{w':World}(s:X.ok P)(h:QaI h0 fr ro σ w N i (λx env H=>Q x env H st) e a' w'){g:Nat->Prop}(n:∀b,fr b->b<w.heap.size)(d:X.at st g ro w/\In g fr i):
  Qdj X h0 fr ro σ w N i Q e a' w':=by
 obtain⟨x,a,H',f,σ',j,r,m,p,k,q,l⟩:=h;exact⟨x,a,H',st,f,σ',j,g,r,m,p,⟨s.ev d.1 (k.frMono d.2.sub),d.2.later n l⟩,k.sub,k.size,q,l⟩
theorem TCy.lift(h:TC P h0 N c env H (λx env H=>Q x env H st)):TCy X P h0 N c env H st Q:=
 λhX rd fr ro σ a w g r hj hrd=>Code.wpIn_mono (λe a' w' q=>QlE hX q r.sim.frLt hj) (h rd fr ro σ a w r (hrd▸QdK))
def SeqY(X:Ctx T)(P:Program)(h0 N:Nat)(c:Code)(Q:YR T):YR T
 |.normal,env,H,st=>TCy X P h0 N c env H st Q
 |.exit id,env,H,st=>Q (.exit id) env H st
 |.ret,env,H,st=>Q .ret env H st
theorem TCy.seq(h:TCy X P h0 N c env H st (SeqY X P h0 N c' Q)):TCy X P h0 N (.seq c c') env H st Q:=by
 intro B z F E σ a w g r hj hrd;refine wpIn_seq (Code.wpIn_mono ?_ (h B z F E σ a w g r hj hrd));rintro e J G ⟨x,d,H',j,f,σ',i,u,k,n,m,s,t,l,p,y⟩;cases e with
 |normal=>
  obtain rfl:x=.normal:=k;exact Code.wpIn_mono (λe a w q=>q.grow t l p y) (n B z i f σ' J G u m s hrd)
 |exit id=>
  obtain rfl:x=.exit id:=k;exact⟨_,d,H',j,f,σ',i,u,rfl,n,m,s,t,l,p,y⟩
 |ret=>
  obtain rfl:x=.ret:=k;exact⟨_,d,H',j,f,σ',i,u,rfl,n,m,s,t,l,p,y⟩
 |_=>exact k.elim
theorem TCy.region{id:Nat}{l:List Oper}(h:WOy X P h0 N l.toArray l env H st Q):TCy X P h0 N (.region id l.toArray false) env H st Q:=
 λhX rd fr ro σ a w g r hj hrd=>wpIn_region_lit (h hX rd fr ro σ a w g r hj hrd)
theorem TCy.cond{x:Operand}{t:Bool}(k:opA env x=.bool t)(m:t=true->TCy X P h0 N c env H st Q)(l:t=false->TCy X P h0 N c' env H st Q):TCy X P h0 N (.cond x c c') env H st Q:=by
 intro d h f i σ a w g r hj hrd;have j:=Qk r x;rw[k]at j;exact wpIn_cond_split j (λe=>m e d h f i σ a w g r hj hrd) (λe=>l e d h f i σ a w g r hj hrd)
theorem WOy.nil{all:Array Oper}(h:Q .normal env H st):WOy X P h0 N all [] env H st Q:=
 λhX rd fr ro σ a w g r hj hrd=>⟨_,env,H,st,ro,σ,fr,g,rfl,h,r,hj,λ_ q=>q,XR _,rfl,Grow.refl _ _ _⟩
end
theorem Qi9{P:Program}{rd:Option Nat}{o:Oper}{a:Act}{K K':Act->World->Prop}{Q Q':Exit->Act->World->Prop}(i:∀a w,K a w->K' a w)(p:∀ch a w,Q (.panic ch) a w->Q' (.panic ch) a w)(m:∀a w,Q .outgrown a w->Q' .outgrown a w)
  {r:Result Next}(h:o.uponIn (WF rd) 0 P a K Q r):o.uponIn (WF rd) 0 P a K' Q' r:=by
 cases r with
 |ok x w=>
  cases x with
  |value v=>exact i _ _ h
  |skip=>exact i _ _ h
  |defer d=>exact i _ _ h
  |enter f g=>
   refine⟨h.1,CallsIn.mono h.2 ?_⟩;intro e j q;cases e with
   |returned v=>grind
   |panicked c=>grind
   |outgrown=>obtain⟨a,w,q⟩:=q;exact⟨a,w,m _ _ q⟩
  |row r g=>exact⟨h.1,RowsIn.mono h.2 λv j q=>i _ _ q⟩
  |round l f k assign n=>
   refine⟨h.1,RoundIn.mono h.2 ?_⟩;intro e j q;cases e with
   |returned v=>grind
   |panicked c=>grind
   |outgrown=>obtain⟨a,w,q⟩:=q;exact⟨a,w,m _ _ q⟩
  |_=>exact h
 |halt x w=>
  cases x with
  |panic v=>exact p _ _ _ h
  |_=>exact h
section
variable {T:Type} {X:Ctx T} {P:Program} {h0 N:Nat} {env:Env} {H:Qd} {st:YSt T} {Q:YR T}
theorem WOy.step{all:Array Oper}{o:Oper}{rest:List Oper}(h:WO P h0 N all [o] env H (λx env' H'=>x=.normal/\WOy X P h0 N all rest env' H' st Q)):WOy X P h0 N all (o::rest) env H st Q:=by
 intro u p m l σ a w g r hj hrd;have M:∀j f,QbC h0 m l σ w N a.defers (λx env' H'=>x=.normal/\WOy X P h0 N all rest env' H' st Q) .normal j f->wpL P p all (Qdj X h0 m l σ w N a.defers Q) rest j f:=by
  rintro j f ⟨x,env',H',d,σ',i,J,⟨_,E⟩,z,s,G,y,F⟩;have n:X.at st g d f/\In g i j.defers:=⟨u.ev hj.1 (s.frMono hj.2.sub),by rw[y];exact hj.2.later r.sim.frLt F⟩;have:=E u p i d σ' j f g z n hrd;refine YB (λe t w2 q=>?_) _ _ _ this;exact q.grow s.sub s.size G (by grind)
 have k:=h p m l σ a w r (hrd▸QdK);unfold wpL wpListIn at k⊢;split
 .rename_i B;rw[Vp B]at k;refine⟨k.1,Qi9 (λt w2 q=>?_) (λL t w2 q=>?_) (λt w2 q=>?_) k.2⟩
  .unfold wpListIn at q
   grind
  .obtain⟨x,_,_,_,_,_,q,_⟩:=q;exact q.elim
  .obtain⟨x,_,_,_,_,_,q,_⟩:=q;exact q.elim
 simp_all[wpListIn]
theorem WOy.yield{all:Array Oper}{o:Oper}{rest:List Oper}{d:Nat}{x:T}{E rem:List T}(M:X.nx E x rem)(hg:QB all o env true)(B:o.dst=some d)(hN:Nat.blt d N=true)
  (L:∀fr ro σ a w,Rel fr ro σ H env N a w->∃vs:List Value,LR ro [] w (X.enc x) vs/\(execOp a.eval o).run P w=(Instr.yield X.l vs.toArray).run P w)
  (k:∀b:Bool,WOy X P h0 N all rest (up env d (.bool b)) H (bif b then .on rem else .off rem) Q):WOy X P h0 N all (o::rest) env H (.on E) Q:=by
 intro W G fr ro σ a w g r hj hrd;obtain⟨vs,hv,he⟩:=L fr ro σ a w r;obtain⟨q,hq,R⟩:=hj.1;obtain⟨fn,tmps,assign,V,h1,h2⟩:=W.round E x rem q g ro w vs M R hq (λb z=>⟨r.sim.roLt b z,λy=>r.sim.roFr b z (hj.2.sub b y)⟩) hv;have h3:=he.trans h1;unfold wpL wpListIn;rw[Vp (Je hg r)];refine⟨λ_ _=>trivial,?_⟩;rw[QcU h3 (λd e=>by cases e)];refine⟨λh=>by simp[WF,Fence.wide]at h,?_⟩;refine RoundIn.mono (F:=WF G) (n:=0) h2 ?_;rintro e i ⟨j,u,t,p,f⟩;obtain⟨s',ev⟩:=r.sim.round hj.2.sub p;have O:d<N:=by simp_all
 have m:Ext ro σ w ro σ i:=by have:=ev.ext σ [];grind
 have fin:∀b:Bool,X.at (bif b then .on rem else .off rem) j ro i->wpL P G all (Qdj X h0 fr ro σ w N a.defers Q) rest (a.put o.dst (.bool b)) i:=by
  intro b f;have hm:Qcy (λb=>fr b\/j b) a.defers i:=by
   refine⟨r.defers.1,λd B=>?_⟩;obtain⟨D,rfl,J,q2⟩:=r.defers.2 d B;exact⟨D,rfl,.inl J,(p.keep D (r.sim.frLt D J) (hj.2.beside D B)).trans q2⟩
  have Y:In j (λb=>fr b\/j b) a.defers:=by
   refine⟨λb q=>.inr q,λD hD q=>?_⟩;rcases p.new D q with u|u
   .exact hj.2.beside D hD u
   .obtain⟨D',e,J,_⟩:=r.defers.2 _ hD
    grind
  have r':Rel (λb=>fr b\/j b) ro σ H (up env d (.bool b)) N {a with tmps:=a.tmps.setIfInBounds d (.bool b)} i:=
   ⟨s',VR.up (fr:=fr) (λs=>(r.env s).mono m) (by rw[r.size];exact O) rfl,by simpa using r.size,hm⟩
  have:=k b W G _ ro σ _ i j r' ⟨f,Y⟩ hrd;simp only[B,Act.put];refine YB (λe a2 w2 q=>q.grow (λ_ q=>q) p.size rfl ⟨λ_ q=>.inl q,λb q=>?_,λ_ q=>.inl q⟩) _ _ _ this;rcases q with q|q
  .exact .inl q
  .rcases p.new b q with q|q
   .exact .inl (hj.2.sub b q)
   omega
 rcases f with⟨rfl,f⟩|⟨rfl,f⟩
 .exact fin true ⟨u,t,f⟩
 .exact fin false ⟨u,t,f⟩
end
def EndY{T:Type}:YR T:=λx env H st=>(x=.normal\/x=.ret)/\(st=.on []\/ ∃rem,st=.off rem)
theorem QhE{T:Type}{P:Program}{f:FuncId}{fn:Func}{c:Code}{N:Nat}{a:List A}{H:Qd}{enc:T->List A}{nx:List T->T->List T->Prop}{xs:List T}
  (hf:P.funcs[f]?=some fn)(hb:fn.body=some c)(hN:fn.ntmps=N)(hA:Nat.ble (a.length+1) N=true)(Y:fn.results= #[])
  (h:∀X:Ctx T,X.enc=enc->X.nx=nx->TCy X P H.length N c (Qd8 0 (.fn (.yield X.l) [] []::a)) H (.on xs) EndY):Qnj P f a H enc nx xs:=by
 intro X hE hNx hX fr ro0 σ w capv q0 hs hq0 hl hj;have p:LR ro0 σ w (.fn (.yield X.l) [] []::a) (Value.func (.yield X.l) #[] #[]::capv):=⟨_,_,rfl,⟨[],[],rfl,rfl,rfl⟩,hl⟩;have R:=p.length;have ab:a.length+1<=N:=by simp_all
 refine(callsIn_wide (n:=0)).1 (callsIn_of_wp_marks hf hb trivial (Code.wpIn_mono ?_ (h X hE hNx hX none fr ro0 σ _ w fr ⟨hs,?_,?_,List.nodup_nil,λd t=>by cases t⟩ ⟨⟨q0,hq0,hj⟩,λ_ q=>q,λD hD=>by cases hD⟩ rfl)))
 .rintro e L Q ⟨x,V,H1,st,y,σ1,aa,F,O,⟨h2,E⟩,j,⟨h4,k⟩,h5,h6,h7,h8⟩;have m:LeavesInM Fence.wide 0 P fn L.tmps (λe W'=>(∃v,e=.returned v)/\ ∃g q',(∀b,fr b->g b)/\((X.J [] q' g W')\/(∃rem,X.Jx rem q' g W'))) L.defers .returning Q:=by
   refine Qbl (ro:=y) (fr:=F) (σ:=σ1) (H:=H1) L.defers Q j.defers.1 (λd t=>?_) (j.sim.frMono k.sub) (λw2 s2 r=>?_)
   .obtain⟨D,rfl,G,W⟩:=j.defers.2 d t;exact⟨D,rfl,λq=>j.sim.roFr D q G,k.beside D t,λi x B M z=>(j.sim.own i D x B M z).2.2 G,λi d x B M z=>(j.sim.hid i d x D B M z).fr G,W⟩
   .have u:=hX.up (hX.ev h4 r) (g':=λb=>F b\/fr b) (λb q=>.inl q) (λb q=>Vb (j.sim.frLt b (q.elim (k.sub b) (h8.sub b))) r.size);obtain⟨q9,_,u⟩:=u;refine⟨.tuple #[],by simp[results,Y,go_sem],⟨_,rfl⟩,λb=>F b\/fr b,q9,λb q=>.inr q,?_⟩;rcases E with rfl|⟨rem,rfl⟩
    .exact .inl u
    .exact .inr ⟨rem,u⟩
  cases e with
  |normal=>exact m
  |ret=>exact m
  |exit id=>
   obtain rfl:x=.exit id:=O
   grind
  |_=>exact O.elim
 .intro s;have:=Qfd (i:=0) [] rfl p (Array.replicate (fn.ntmps-(Value.func (.yield X.l) #[] #[]::capv).toArray.size) undef) s
  grind
 grind
section
variable {T:Type} {X:Ctx T} {P:Program} {h0 N:Nat} {c c':Code} {env:Env} {H:Qd} {st:YSt T} {Q Q':YR T}
theorem TCy.mono(h:TCy X P h0 N c env H st Q)(q:∀x env H st,Q x env H st->Q' x env H st):TCy X P h0 N c env H st Q':=by
 intro l p n u σ a w g r hj hrd;refine Code.wpIn_mono ?_ (h l p n u σ a w g r hj hrd);rintro e z y ⟨x,d,H',f,i,σ',j,s,m,k,t⟩;exact⟨x,d,H',f,i,σ',j,s,m,q _ _ _ _ k,t⟩
theorem TCy.skip(h:Q .normal env H st):TCy X P h0 N .skip env H st Q:=TCy.lift (TC.skip h)
theorem TCy.ret(h:Q .ret env H st):TCy X P h0 N .ret env H st Q:=TCy.lift (TC.ret h)
theorem TCy.exit{id:Nat}(h:Q (.exit id) env H st):TCy X P h0 N (.exit id) env H st Q:=TCy.lift (TC.exit h)
def BloY(id:Nat)(Q:YR T):YR T
 |.normal,env,H,st=>Q .normal env H st
 |.exit id',env,H,st=>bif Nat.beq id' id then Q .normal env H st else Q (.exit id') env H st
 |.ret,env,H,st=>Q .ret env H st
theorem TCy.block{id:Nat}(h:TCy X P h0 N c env H st (BloY id Q)):TCy X P h0 N (.block id c) env H st Q:=by
 intro t y u z σ a w g r hj hrd;refine wpIn_block (Code.wpIn_mono ?_ (h t y u z σ a w g r hj hrd));rintro e E B ⟨x,d,H',i,j,σ',k,n,m,l,p⟩;cases e with
 |normal=>
  obtain rfl:x=.normal:=m;exact⟨_,d,H',i,j,σ',k,n,rfl,l,p⟩
 |exit f=>
  obtain rfl:x=.exit f:=m;show Exit.inBlock id _ _ _ _;unfold Exit.inBlock;simp only[BloY]at l;by_cases q:f=id
  .subst q;rw[VB,Vk]at l;simp only[if_true];exact⟨.normal,d,H',i,j,σ',k,n,rfl,l,p⟩
  .have s:Nat.beq f id=false:=by
    cases e:Nat.beq f id with
    |false=>rfl
    |true=>simp_all
   rw[s,Vl]at l;simp only[q,if_false];exact⟨.exit f,d,H',i,j,σ',k,n,rfl,l,p⟩
 |ret=>
  obtain rfl:x=.ret:=m;exact⟨_,d,H',i,j,σ',k,n,rfl,l,p⟩
 |_=>exact m.elim
end
section
variable {T:Type} {X:Ctx T} {P:Program} {h0 N:Nat} {c:Code} {env:Env} {H:Qd} {st:YSt T} {Q:YR T}
def QlP(I:Env->Qd->YSt T->Prop)(Q:YR T):YR T
 |.normal,env,H,st=>I env H st
 |.exit id,env,H,st=>Q (.exit id) env H st
 |.ret,env,H,st=>Q .ret env H st
theorem Qlz{I:Nat->Env->Qd->YSt T->Prop}(body:∀n env H st,I n env H st->TCy X P h0 N c env H st (QlP (λenv H st=>∃n',n'<n/\I n' env H st) Q)){n:Nat}(F:I n env H st):TCy X P h0 N (.loop c) env H st Q:=by
 intro hX R z y σ a w g r hj hrd b k cs hro hb hr;have E:∀m n env H st fr1 ro1 σ1 a1 w1 g1,n<m->I n env H st->Rel fr1 ro1 σ1 H env N a1 w1->(∀b,y b->ro1 b)->w.heap.size<=w1.heap.size->σ1.take h0=σ.take h0->Grow z w a.defers fr1 a1.defers->X.at st g1 ro1 w1/\In g1 fr1 a1.defers->
   ∃e i h,Qdj X h0 z y σ w N a.defers Q e i h/\ArrivesIn (Machine.fenced P (WF R)) P (lone (b.atR a1 (.code c::.inLoop c::k)) cs w1) b k cs e i h:=by
  intro m
  induction m with
  |zero=>omega
  |succ m ih=>
   intro n env H st fr1 ro1 σ1 a1 w1 g1 hn F r1 s1 z1 t1 gr1 j1;obtain⟨e,i,h,G,d⟩:=body n env H st F hX R fr1 ro1 σ1 a1 w1 g1 r1 j1 hrd b (.inLoop c::k) cs hro hb hr;obtain⟨x,f,H',j,p,σ',u,Y,B,s,V,q4,q5,L,W,q8⟩:=G;have O:=λb q=>q5 b (s1 b q);have t:=gr1.trans z1 q8;have M:∀x,Q x f H' j->ExR e x->Qdj X h0 z y σ w N a.defers Q e i h:=λx q q'=>⟨x,f,H',j,p,σ',u,Y,q',q,V,q4,O,XT z1 L,W.trans t1,t⟩;cases e with
   |normal=>
    obtain rfl:x=.normal:=B;obtain⟨n',aa,s⟩:=s;obtain⟨e2,a2,w2,J,l⟩:=ih n' f H' j u p σ' i h Y (by omega) s V O (XT z1 L) (W.trans t1) t q4;exact⟨e2,a2,w2,J,.of_steps (StepsIn.trans d (.one (fenced_calm hb hr rfl) stepR_inLoop)) l⟩
   |exit id=>
    obtain rfl:x=.exit id:=B;exact⟨_,i,h,M _ s rfl,.pass (x:=.inLoop c) rfl (λ_ _=>.inl (by simp)) d⟩
   |ret=>
    obtain rfl:x=.ret:=B;exact⟨_,i,h,M _ s rfl,.pass (x:=.inLoop c) rfl (λ_ _=>.inl (by simp)) d⟩
   |_=>exact B.elim
 obtain⟨e,i,h,G,d⟩:=E (n+1) n env H st z y σ a w g (Xm _) F r (λ_ q=>q) (XR _) rfl (Grow.refl _ _ _) hj;exact⟨e,i,h,G,.of_steps (.one (fenced_calm hb hr rfl) stepR_loop) d⟩
end
theorem Sim.part{fr ro:Nat->Prop}{σ:Sig}{H:Qd}{w:World}(h:Sim fr ro σ H w){π:List Nat}{Hc:Qd}(V:π.map (λp=>H[p]?)=(Hc.map (Q8 (rho π H.length))).map some)(hπ:π.Nodup):
  Sim (λb=>fr b\/(∃i x,σ[i]?=some (some b)/\H[i]?=some x/\x.live=true/\i∉π)\/ ∃i x d,σ[i]?=some (some d)/\H[i]?=some x/\Hid w x d b/\i∉π) ro (Yx σ π) Hc w/\ ∀j:Nat,σ[rho π H.length j]?=(Yx σ π)[j]? :=by
 have hp:∀p∈π,p<H.length:=λp q=>Jo V q;have hσl:=h.len;have m:∀(j p:Nat),π[j]?=some p->H[p]?=(Hc[j]?).map (Q8 (rho π H.length)):=by
  intro j p n;have:=congrArg (λl=>l[j]?) V
  grind
 have O:π.length=Hc.length:=by simpa using congrArg List.length V
 have hσc:∀j:Nat,σ[rho π H.length j]?=(Yx σ π)[j]? :=by
  intro j;have:=Qeq (τ:=[]) hσl hp j
  grind
 have hπj:∀(j b:Nat),(Yx σ π)[j]?=some (some b)->∃p,π[j]?=some p/\σ[p]?=some (some b):=by
  intro j b n;simp only[Yx,Xn]at n
  grind
 refine⟨?_,hσc⟩
 .refine⟨by simp[Yx,O],h.roOk,?_,?_,?_,?_,?_,?_⟩
  .rintro b (M|⟨i,x,a,g,f,P⟩|⟨i,x,d,a,g,f,P⟩)
   .exact h.frLt b M
   .exact(h.own i b x a g f).1
   .exact(h.hid i d x b a g f).lt
  .rintro b M (N|⟨i,x,a,g,f,P⟩|⟨i,x,d,a,g,f,P⟩)
   .exact h.roFr b M N
   .exact(h.own i b x a g f).2.1 M
   .exact(h.hid i d x b a g f).ro M
  .intro j b x a g f;obtain⟨p,e,B⟩:=hπj j b a;have z:H[p]?=some (Q8 (rho π H.length) x):=by grind
   obtain⟨o1,o2,o3⟩:=h.own p b _ B z (by rw[QM];exact f);refine⟨o1,o2,?_⟩;rintro(N|⟨i,y,y1,y2,F,Q⟩|⟨i,y,d,y1,y2,F,Q⟩)
   .exact o3 N
   .have:=h.inj i p b _ _ y1 B y2 z F (by rw[QM];exact f)
    grind
   .exact(h.hid i d y b y1 y2 F).ne p b _ B z (by rw[QM];exact f) rfl
  .intro i j b x y a g f P q5 q6;obtain⟨p,e,B⟩:=hπj i b a;obtain⟨r,u,aa⟩:=hπj j b g;have z:H[p]?=some (Q8 (rho π H.length) x):=by rw[m i p e,f];rfl
   have W:H[r]?=some (Q8 (rho π H.length) y):=by rw[m j r u,P];rfl
   have:=h.inj p r b _ _ B aa z W (by rw[QM];exact q5) (by rw[QM];exact q6);subst this;have G:i<π.length:=by
    rcases Vy i π.length with q|q
    .exact q
    .rw[XM q]at e;simp at e
   have n:j<π.length:=by
    rcases Vy j π.length with q|q
    .exact q
    .rw[XM q]at u;simp at u
   rw[XI G]at e;rw[XI n]at u;have t:=(XW e).trans (XW u).symm;rcases Nat.lt_trichotomy i j with q|q|q
   .exact(VA.1 hπ i j G n q t).elim
   .exact q
   .exact(VA.1 hπ j i n G q t.symm).elim
  .intro j s x a g;have n:j<π.length:=by
    rcases Vy j π.length with q|q
    .exact q
    .rw[XM (by simpa[Yx]using q)]at a;simp at a
   have e:π[j]?=some π[j]:=XI n;have z:H[π[j]]?=some (Q8 (rho π H.length) x):=by rw[m j _ e,g];rfl
   have B:σ[π[j]]?=some s:=by
    have:=hσc j;rw[a]at this;simpa[rho,e]using this
   exact(QhR hσc).1 (h.blk _ s _ B z)
  .intro j b x c a g f;obtain⟨p,e,B⟩:=hπj j b a;have z:H[p]?=some (Q8 (rho π H.length) x):=by rw[m j p e,g];rfl
   have k:=h.hid p b _ c B z ((Qah _ _ _ _ _).2 f);refine⟨k.lt,k.ro,?_,?_,?_⟩
   .rintro(N|⟨i,y,y1,y2,F,Q⟩|⟨i,y,d,y1,y2,F,Q⟩)
    .exact k.fr N
    .exact k.ne i c y y1 y2 F rfl
    .obtain⟨rfl,rfl⟩:=k.one i d y y1 y2 F;exact Q (VD e)
   .intro E L y Y T R;obtain⟨r,J,X⟩:=hπj E L Y;exact k.ne r L _ X (show H[r]?=some (Q8 (rho π H.length) y)by rw[m E r J,T];rfl) (by rw[QM];exact R)
   .intro E L y Y T R;obtain⟨r,J,X⟩:=hπj E L Y;obtain⟨z4,z5⟩:=k.one r L _ X (show H[r]?=some (Q8 (rho π H.length) y)by rw[m E r J,T];rfl) ((Qah _ _ _ _ _).2 R);subst z5;have G:E<π.length:=(XJ.1 J).1;have n:j<π.length:=(XJ.1 e).1;rw[XI G]at J;rw[XI n]at e;have t:=(XW J).trans (XW e).symm;refine⟨z4,?_⟩;rcases Nat.lt_trichotomy E j with q|q|q
    .exact(VA.1 hπ E j G n q t).elim
    .exact q
    .exact(VA.1 hπ j E n G q t.symm).elim
theorem Sim.frames{fr fr' ro:Nat->Prop}{σ:Sig}{H:Qd}{w:World}(s:Sim fr ro σ H w)(lt:∀b,fr' b->b<w.heap.size)(hro:∀b,ro b->¬fr' b)(own:∀(i b:Nat) (x:Blk),σ[i]?=some (some b)->H[i]?=some x->x.live=true->¬fr' b)
  (hd:∀(i b:Nat) (x:Blk) (c:Nat),σ[i]?=some (some b)->H[i]?=some x->Hid w x b c->¬fr' c):Sim fr' ro σ H w:=
 ⟨s.len,s.roOk,lt,hro,λi b x q1 q2 q3=>⟨(s.own i b x q1 q2 q3).1,(s.own i b x q1 q2 q3).2.1,own i b x q1 q2 q3⟩,s.inj,s.blk,
  s.hidTo (· = ·) Yc (XR _) (by simp) (by grind) (by grind)⟩
def Qkg(H:Qd)(p:Nat):Qd:=match H[p]? with
 |some x=>bif x.holds then H.set p .dead else H
 |none=>H
def Qd0:Qd->List Nat->Qd
 |H,[]=>H
 |H,p::π=>Qd0 (Qkg H p) π
theorem Qd1(H:Qd)(p:Nat):(Qkg H p=H/\ ∀x,H[p]?=some x->x.holds=false)\/Qkg H p=H.set p .dead:=by
 unfold Qkg
 grind
theorem Qfe:∀(π:List Nat) (H:Qd) (i:Nat) (x:Blk),(Qd0 H π)[i]?=some x->x=.dead\/(H[i]?=some x/\(x.holds=true->i∉π))
 |[],H,i,x,h=>.inr ⟨h,λ_=>by simp⟩
 |p::π,H,i,x,h=>by
  rcases Qfe π _ i x h with h|⟨h1,h2⟩
  .exact .inl h
  .rcases Qd1 H p with⟨e,hl⟩|e
   .grind
   grind
theorem QdJ{fr ro:Nat->Prop}{σ:Sig}{w:World}:∀(π:List Nat) {H:Qd} (s:Sim fr ro σ H w),Sim fr ro σ (Qd0 H π) w
 |[],_,s=>s
 |p::π,H,s=>by
  rw[Qd0];rcases Qd1 H p with h|h
  .rw[h.1];exact QdJ π s
  .rw[h];exact QdJ π (s.kill p)
theorem Sim.put{fr ro:Nat->Prop}{σ:Sig}{H:Qd}{w:World}(s:Sim fr ro σ H w){b:Nat}{obj:Obj}(l:fr b)(t:w.shape? b=none):
  Sim fr ro σ H (w.putObj b obj)/\Qi (λc=>c≠b) ro w ro (w.putObj b obj):=by
 have a:∀c,c≠b->(w.putObj b obj).heap[c]?=w.heap[c]? :=λc B=>World.putObj_heap_other B;have h:(w.putObj b obj).heap.size=w.heap.size:=by simp
 have u:∀c,ro c->c≠b:=λc q e=>s.roFr c q (e▸l);have ev:Qi (λc=>c≠b) ro w ro (w.putObj b obj):=by
  refine⟨λ_ q=>q,(by grind),λc q=>a c q,by omega,λc x q=>?_,rfl,rfl,rfl,XR _⟩
  grind[World.shape?]
 have g:Ext ro σ w ro σ (w.putObj b obj):=by have:=ev.ext σ [];grind
 refine⟨⟨s.len,s.roOk.to (λ_ q=>q) ev.keepRo (λc q=>by rw[h];exact s.roLt c q),λc q=>by rw[h];exact s.frLt c q,s.roFr,λi c x k f r=>?_,s.inj,λi y x k f=>?_,
  s.hidTo (· = ·) Yc (by omega) (by simp) (by simp) λj d y n p J=>.inl ⟨j,y,rfl,n,p,id,λc q=>s.hidKeep n p (λz=>a d (λe=>(s.own j d y n p z).2.2 (e▸l))) ev.keepRo q⟩⟩,ev⟩
 .obtain⟨E,G,F⟩:=s.own i c x k f r
  grind
 .refine(s.blk i y x k f).keep g ?_ ?_
  .rintro c rfl m;exact a c (λe=>(s.own i c x k f m).2.2 (e▸l))
  .rintro d c rfl m;exact a c (λe=>(s.hid i d x c k f m).fr (e▸l))
theorem Qbi{w:World}{l:Nat}{r:Loop}(h:w.heap[l]?=some (.loop r)):w.shape? l=none:=by
 unfold World.shape?;rw[h]
structure Fix where
 fr:Nat->Prop
 ro:Nat->Prop
 σ:Sig
 w:World
 h1:Nat
 env:Env
 tmps:Array Value
 ds1:List Deferred
 l:Nat
 rc:LoopState->Option Code->Loop
 fr1:Nat->Prop
structure Fix.Ok (D:Fix):Prop where
 sub:∀b,D.fr b->D.fr1 b
 l1:D.fr1 D.l
 lf:¬D.fr D.l
 len:D.σ.length=D.h1
structure RJ (D:Fix) (ro1:Nat->Prop) (σ1:Sig) (H:Qd) (st:LoopState) (pe:Option Code) (q g:Nat->Prop) (W:World):Prop where
 sim:Sim D.fr1 ro1 σ1 H W
 env:∀t,VR ro1 D.σ W (lk D.env t) (D.tmps.getD t undef)
 sig:σ1.take D.h1=D.σ
 ev:Qi D.fr D.ro D.w ro1 W
 marks:Qcy D.fr1 D.ds1 W
 rc:W.heap[D.l]?=some (.loop (D.rc st pe))
 roG:∀b,ro1 b->q b\/g b
 frG:∀b,D.fr1 b->g b
 own:∀(i b:Nat) (x:Blk),σ1[i]?=some (some b)->H[i]?=some x->x.live=true->g b
 hidG:∀(i b:Nat) (x:Blk) (c:Nat),σ1[i]?=some (some b)->H[i]?=some x->Hid W x b c->g c
 lt:∀b,g b->b<W.heap.size
theorem QdR{σ σ1:Sig}{a:Nat}(h:σ1.take a=σ){i b:Nat}(q:σ[i]?=some (some b)):σ1[i]?=some (some b):=by
 grind
section
variable {D:Fix} {ro1:Nat->Prop} {σ1:Sig} {H:Qd} {st:LoopState} {pe:Option Code} {qR g:Nat->Prop} {W:World}
theorem RJ.step(r:D.Ok)(j:RJ D ro1 σ1 H st pe qR g W){ro':Nat->Prop}{W':World}(e:Qi g qR W ro' W'):RJ D ro1 σ1 H st pe qR g W':=by
 have h:∀b,ro1 b->W'.heap[b]?=W.heap[b]? :=λb q=>(j.roG b q).elim (e.keepRo b) (e.keepFr b);have ev:Qi D.fr1 ro1 W ro1 W':=⟨λ_ q=>q,h,λb q=>e.keepFr b (j.frG b q),e.size,e.shape,e.os,e.tape,e.output,e.drawn⟩;have k:∀σ,Ext ro1 σ W ro1 σ W':=λ σ=>by have:=ev.ext σ [];grind
 refine⟨⟨j.sim.len,j.sim.roOk.to (λ_ q=>q) h (λb q=>Vb (j.sim.roLt b q) e.size),λb q=>Vb (j.sim.frLt b q) e.size,j.sim.roFr,λi b x f a m=>?_,j.sim.inj,λi z x f a=>?_,
  j.sim.hidTo (· = ·) Yc e.size (by simp) (by simp) λi d y n p w=>.inl ⟨i,y,rfl,n,p,id,λc q=>j.sim.hidKeep n p (λz=>e.keepFr d (j.own i d y n p z)) h q⟩⟩,
  λt=>(j.env t).mono (k _),j.sig,j.ev.trans (ev.frMono r.sub),j.marks.keep ev,(ev.keepFr _ r.l1).trans j.rc,j.roG,j.frG,j.own,λi b x c f a m=>j.hidG i b x c f a (j.sim.hidKeep f a (λz=>e.keepFr b (j.own i b x f a z)) h m),λb q=>Vb (j.lt b q) e.size⟩
 .obtain⟨s,u⟩:=j.sim.own i b x f a m;exact⟨Vb s e.size,u⟩
 .refine(j.sim.blk i z x f a).keep (k _) ?_ ?_
  .rintro b rfl l;exact e.keepFr b (j.own i b x f a l)
  .rintro b c rfl l;exact e.keepFr c (j.hidG i b x c f a l)
theorem RJ.up{g':Nat->Prop}(j:RJ D ro1 σ1 H st pe qR g W)(h:∀b,g b->g' b)(hl:∀b,g' b->b<W.heap.size):RJ D ro1 σ1 H st pe qR g' W:=
 {j with roG:=λb q=>(j.roG b q).imp id (h b),frG:=λb q=>h b (j.frG b q),own:=λi b x q1 q2 q3=>h b (j.own i b x q1 q2 q3),hidG:=λi b x c q1 q2 q3=>h c (j.hidG i b x c q1 q2 q3),lt:=hl}
def FrB(D:Fix)(ro1 g:Nat->Prop)(W:World):Nat->Prop:=λb=>(D.fr1 b\/(¬g b/\ ¬ro1 b))/\b<W.heap.size
theorem RJ.simB(j:RJ D ro1 σ1 H st pe qR g W):Sim (FrB D ro1 g W) ro1 σ1 H W:=by
 refine j.sim.frames (λb q=>q.2) (λb q r=>?_) (λi b x a d e r=>?_) (λi b x c a d e r=>r.1.elim (j.sim.hid i b x c a d e).fr λr=>r.1 (j.hidG i b x c a d e))
 .rcases r.1 with r|r
  .exact j.sim.roFr b q r
  grind
 .rcases r.1 with r|r
  .exact(j.sim.own i b x a d e).2.2 r
  .exact r.1 (j.own i b x a d e)
theorem RJ.fin(F:D.Ok)(j:RJ D ro1 σ1 H st pe qR g W){y ro':Nat->Prop}{σ':Sig}{H':Qd}{W':World}{st':LoopState}{pe':Option Code}
  (ev:Qi (λb=>FrB D ro1 g W b/\b≠D.l) ro1 W ro' W')(s:Sim y ro' σ' H' W')(u:∀b,FrB D ro1 g W b->y b)(hσ:σ'.take D.h1=σ1.take D.h1)(N:W'.heap[D.l]?=some (.loop (D.rc st' pe'))):
  RJ D ro' σ' H' st' pe' qR (λb=>g b\/(W.heap.size<=b/\b<W'.heap.size)) W'/\QfP g (λb=>g b\/(W.heap.size<=b/\b<W'.heap.size)) W W':=by
 have h:∀b,D.fr1 b->FrB D ro1 g W b:=λb q=>⟨.inl q,j.sim.frLt b q⟩;have P:W.shape? D.l=none:=Qbi j.rc;have G:Qi D.fr ro1 W ro' W':=ev.frMono λb q=>⟨h b (F.sub b q),λe=>F.lf (e▸q)⟩;have w:Ext ro1 D.σ W ro' D.σ W':=ev.ext0 D.σ;have z:∀b,b<W.heap.size->b<W'.heap.size:=λb q=>Vb q ev.size;have n:∀b,b<W.heap.size->¬FrB D ro1 g W b->g b\/ro1 b:=by
  intro b f Q;by_cases m:g b
  .exact .inl m
  .by_cases a:ro1 b
   .exact .inr a
   .exact absurd ⟨.inr ⟨m,a⟩,f⟩ Q
 refine⟨⟨s.frames (λb q=>z b (j.sim.frLt b q)) (λb q r=>s.roFr b q (u b (h b r))) (λi b x m a p r=>(s.own i b x m a p).2.2 (u b (h b r))) (λi b x c m a p r=>(s.hid i b x c m a p).fr (u c (h c r))),
  λt=>(j.env t).mono w,hσ.trans j.sig,j.ev.trans G,⟨j.marks.1,λd O=>?_⟩,N,λb q=>?_,λb q=>.inl (j.frG b q),λi b x m a p=>?_,λi b x c m a p=>?_,λb q=>q.elim (λq=>z b (j.lt b q)) (λq=>q.2)⟩,
  ⟨λb q=>.inl q,(by grind),λb q=>q.elim (λq=>z b (j.lt b q)) (λq=>q.2),(by omega),λb m a=>?_,ev.size,ev.shape,ev.os,ev.tape,ev.output,ev.drawn⟩⟩
 .obtain⟨B,L,J,E⟩:=j.marks.2 d O;refine⟨B,L,J,(ev.keepFr B ⟨h B J,λe=>?_⟩).trans E⟩;subst e;rw[j.rc]at E;cases E
 .rcases Vy b W.heap.size with f|f
  .rcases n b f (λr=>s.roFr b q (u b r))with r|r
   .grind
   .exact(j.roG b r).imp id .inl
  .exact .inr (.inr ⟨f,s.roLt b q⟩)
 .obtain⟨T,M,R⟩:=s.own i b x m a p;rcases Vy b W.heap.size with f|f
  .rcases n b f (λr=>R (u b r))with r|r
   .exact .inl r
   .exact absurd (ev.sub b r) M
  omega
 .have k:=s.hid i b x c m a p;rcases Vy c W.heap.size with f|f
  .rcases n c f (λr=>k.fr (u c r))with r|r
   .exact .inl r
   .exact absurd (ev.sub c r) k.ro
  .exact .inr ⟨f,k.lt⟩
 .by_cases r:ro1 b
  .exact ev.keepRo b r
  .exact ev.keepFr b ⟨(by grind),λe=>a (j.frG b (e▸F.l1))⟩
end
theorem Sim.roAdd{fr ro a:Nat->Prop}{σ:Sig}{H:Qd}{w:World}(s:Sim fr ro σ H w)(f:∀b,a b->b<w.heap.size)(e:∀b,a b->¬fr b)(j:∀(i b:Nat) (x:Blk),σ[i]?=some (some b)->H[i]?=some x->x.live=true->¬a b)
  (h:∀(i b:Nat) (x:Blk) (c:Nat),σ[i]?=some (some b)->H[i]?=some x->Hid w x b c->¬a c):Sim fr (λb=>ro b\/a b) σ H w:=by
 have ext:Ext ro σ w (λb=>ro b\/a b) σ w:=⟨λ_ q=>.inl q,λ_ _=>rfl,λ_ _ q=>q,λ_ _ q=>q⟩;refine⟨s.len,s.roOk.to (λ_ q=>.inl q) (λ_ _=>rfl) (λb q=>q.elim (s.roLt b) (f b)),s.frLt,λb q=>q.elim (s.roFr b) (e b),λi b x g d k=>?_,s.inj,λi y x g d=>(s.blk i y x g d).keep ext (λ_ _ _=>rfl) (λ_ _ _ _=>rfl),
  s.hidTo (· = ·) Yc (XR _) (by grind) (by simp) (by grind)⟩
 obtain⟨l,n,m⟩:=s.own i b x g d k
 grind
theorem RJ.roAdd{D:Fix}{ro1:Nat->Prop}{σ1:Sig}{H:Qd}{st:LoopState}{pe:Option Code}{qR ri g:Nat->Prop}{W:World}(j:RJ D ro1 σ1 H st pe qR g W)(hq:∀b,qR b->ri b)(hI:∀b,ri b->b<W.heap.size/\ ¬g b):RJ D (λb=>ro1 b\/ri b) σ1 H st pe ri g W:=
 {j with
  sim:=j.sim.roAdd (λb q=>(hI b q).1) (λb q z=>(hI b q).2 (j.frG b z)) (λi b x q1 q2 q3 z=>(hI b z).2 (j.own i b x q1 q2 q3)) (λi b x c q1 q2 q3 z=>(hI c z).2 (j.hidG i b x c q1 q2 q3))
  env:=λt=>(j.env t).mono ⟨λ_ q=>.inl q,λ_ _=>rfl,λ_ _ q=>q,λ_ _ q=>q⟩
  ev:=j.ev.trans (YN λ_ q=>.inl q)
  roG:=λb q=>q.elim (λq=>(j.roG b q).imp (hq b) id) .inl}
def Ql2:List Nat->List A->Env->Env
 |p::ps,a::zs,env=>Ql2 ps zs (up env p a)
 |_,_,env=>env
def Qjd:List Nat->List Value->Array Value->Array Value
 |p::ps,v::vs,t=>Qjd ps vs (t.setIfInBounds p v)
 |_,_,t=>t
theorem Qgj:∀(ps:List Nat) (vs:List Value) (t:Array Value),(Qjd ps vs t).size=t.size
 |[],_,_=>rfl
 |_::_,[],_=>rfl
 |p::ps,v::vs,t=>by simp[Qjd,Qgj ps]
theorem Qgk:∀(ps:List Nat) (vs:List Value) (t:Array Value),(ps.toArray.zip vs.toArray).foldl (λt (p,v)=>t.setIfInBounds p v) t=Qjd ps vs t
 |[],vs,t=>by rw[<- Array.foldl_toList,Array.toList_zip];rfl
 |p::ps,[],t=>by rw[<- Array.foldl_toList,Array.toList_zip];rfl
 |p::ps,v::vs,t=>by
  have:=Qgk ps vs (t.setIfInBounds p v);rw[<- Array.foldl_toList,Array.toList_zip]at this⊢;exact this
theorem Qj2{ro:Nat->Prop}{σ:Sig}{w:World}:∀(ps:List Nat) (zs:List A) (vs:List Value) (env:Env) (t:Array Value),LR ro σ w zs vs->(∀p∈ps,p<t.size)->(∀s,VR ro σ w (lk env s) (t.getD s undef))->
  ∀s,VR ro σ w (lk (Ql2 ps zs env) s) ((Qjd ps vs t).getD s undef)
 |[],_,_,_,_,_,_,h=>h
 |p::ps,[],vs,_,_,hv,_,h=>by
  obtain rfl:vs=[]:=hv;exact h
 |p::ps,a::zs,vs,env,t,hv,hp,h=>by
  obtain⟨v,vs',rfl,h0,hv'⟩:=hv;have h1:=VR.up (fr:=λ_=>False) (a:={tmps:=t,defers:=[]}) h (hp p (by simp)) h0;exact Qj2 ps zs vs' (up env p a) (t.setIfInBounds p v) hv' (λq hq=>by grind) h1
def Qnk(h1:Nat)(env:Env)(Q:QP)(K:Qd->Prop):QP
 |.normal,env',H'=>∃H2,Le h1 env' H' [] H2/\K H2
 |.exit id,env',H'=>∃H2,Le h1 env' H' [] H2/\Q (.exit id) env H2
 |.ret,env',H'=>∃H2,Le h1 env' H' [] H2/\Q .ret env H2
def Jump(Q:QP)(env:Env)(c:Code)(H:Qd):Prop:=(∃id,c=.exit id/\Q (.exit id) env H)\/(c=.ret/\Q .ret env H)
section
variable {D:Fix} {ro0:Nat->Prop} {σ1:Sig} {H:Qd} {qR ri g:Nat->Prop} {W:World} {P:Program} {N:Nat} {Q:QP} {K:Qd->Prop}
theorem RJ.round{fn:FuncId}{ps:List Nat}{assign body:Code}{df:Nat}{cs:List A}{vs:List Value}(hD:D.Ok)(ac:D.rc=λst pe=>{state:=st,pending:=pe,fn:=fn,tmps:=D.tmps,params:=ps.toArray,assign:=assign,body:=body,defers:=df})
  (hN:D.tmps.size=N)(al:∀p∈ps,p<N)(ak:cs.length=ps.length)(hq:∀b,qR b->ri b)(hI:∀b,ri b->b<W.heap.size/\ ¬g b)(M:LR ri [] W cs vs)(j0:RJ D ro0 σ1 H .ready none qR g W)
  (h:TC P D.h1 N assign (Ql2 ps cs D.env) H λe env1 H1=>e=.normal/\TC P D.h1 N body env1 H1 (Qnk D.h1 D.env Q K)):
  YieldAt Fence.wide 0 P D.l vs.toArray W λe W'=>∃g',QfP g g' W W'/\((e=.returned (.bool true)/\ ∃H2 ro2 σ2,K H2/\RJ D ro2 σ2 H2 .ready none ri g' W')\/
   (e=.returned (.bool false)/\ ∃H2 c ro2 σ2,Jump Q D.env c H2/\RJ D ro2 σ2 H2 .done (some c) ri g' W')):=by
 have am:vs.length=cs.length:=M.length;have j:=j0.roAdd hq hI;have t:LR (λb=>ro0 b\/ri b) σ1 W cs vs:=M.mono ⟨λ_ q=>.inr q,λ_ _=>rfl,λ_ _ q=>q,λi b q=>by simp at q⟩;clear j0;generalize(λb=>ro0 b\/ri b)=ro1 at j t;have ad:∀b,D.fr1 b->FrB D ro1 g W b:=λb q=>⟨.inl q,j.sim.frLt b q⟩;have y:=ad _ hD.l1;have V:=j.rc;have hy:=run_yield (P:=P) (r:=D.rc .ready none) (args:=vs.toArray) V (by grind);refine⟨fn,Qjd ps vs D.tmps,assign,body,?_,?_⟩
 .grind[Qgk]
 .refine roundIn_of_wpIn trivial ?_;show Code.wpIn (WF (some D.l)) 0 P _ _ _ _;have ab:∀s,VR ro1 σ1 W (lk D.env s) (D.tmps.getD s undef):=λs=>(j.env s).mono ⟨λ_ q=>q,λ_ _=>rfl,λ_ _ q=>q,λi b q=>QdR j.sig q⟩;have ae:QdL (some D.l) (FrB D ro1 g W) W:=λl e=>by grind
  have w1:=h (some D.l) (FrB D ro1 g W) ro1 σ1 {tmps:=Qjd ps vs D.tmps,defers:=[]} W ⟨j.simB,Qj2 ps cs vs D.env D.tmps t (by grind) ab,by simp[Qgj,hN],List.nodup_nil,λd hd=>by cases hd⟩ ae;refine Code.wpIn_mono ?_ w1;rintro e a1 w1 ⟨x1,env1,H1,ro2,σ2,k,h1,⟨rfl,h2⟩,L,h4,h5,h6⟩;cases e with
  |normal=>
   have Y:w1.heap[D.l]?=some (.loop (D.rc .ready none)):=(h4.keepFr _ y).trans V;refine⟨_,run_beginRound Y (by rw[ac]),?_⟩;obtain⟨s2,z⟩:=L.sim.put (obj:=.loop {D.rc .ready none with state:=.busy}) (h6.sub _ y) (Qbi Y);have X:D.l<w1.heap.size:=by grind
   have ai:(w1.putObj D.l (.loop {D.rc .ready none with state:=.busy})).heap[D.l]?=some (.loop {D.rc .ready none with state:=.busy}):=World.putObj_heap_same X;generalize hw2:w1.putObj D.l (.loop {D.rc .ready none with state:=.busy})=w2 at*;have ag:Qcy k a1.defers w2:=by
    refine⟨L.defers.1,λd hd=>?_⟩;obtain⟨B,e1,e2,e3⟩:=L.defers.2 d hd;refine⟨B,e1,e2,(z.keepFr B (λe=>?_)).trans e3⟩
    grind
   have r2:Rel k ro2 σ2 H1 env1 N a1 w2:=⟨s2,λs=>(L.env s).mono (z.ext0 σ2),L.size,ag⟩;have aa:k D.l:=h6.sub _ y;refine Code.wpIn_mono ?_ (h2 (some D.l) k ro2 σ2 a1 w2 r2 (λl e=>by grind));rintro e a3 w3 ⟨x3,J,H3,x,σ3,R,g1,g2,g3,g4,g5,g6⟩;have n:w3.heap[D.l]?=some (.loop {D.rc .ready none with state:=.busy}):=(g4.keepFr _ aa).trans ai;have u:∀(H2:Qd) (jump:Option Code),Le D.h1 J H3 [] H2->∃v m,(Instr.endRound D.l jump).run P w3=.ok v m/\v=.bool jump.isNone/\ ∃g',QfP g g' W m/\ ∃a σ4,RJ D a σ4 H2 (if jump.isNone then .ready else .done) jump ri g' m:=by
    intro H2 jump f;obtain⟨a,σ4,r4,s4,t4⟩:=f R x σ3 N a3 w3 g3;refine⟨_,_,run_endRound jump n,rfl,?_⟩;have af:R D.l:=g6.sub _ aa;obtain⟨s5,ah⟩:=r4.sim.put (obj:=.loop {{D.rc .ready none with state:=.busy}with state:=if jump.isNone then .ready else .done,pending:=jump}) af (Qbi n);have T:D.l<w3.heap.size:=by rw[X9]at n;exact n.1
    have aj:=World.putObj_heap_same (w:=w3) (r:=D.l) (o:=.loop {{D.rc .ready none with state:=.busy}with state:=if jump.isNone then .ready else .done,pending:=jump}) T;have e1:Qi (λb=>FrB D ro1 g W b/\b≠D.l) ro1 W ro2 w1:=h4.frMono λb q=>q.1;have e2:Qi (λb=>FrB D ro1 g W b/\b≠D.l) ro2 w1 ro2 w2:=z.frMono λb q=>q.2;have e3:Qi (λb=>FrB D ro1 g W b/\b≠D.l) ro2 w2 x w3:=g4.frMono λb q=>h6.sub b q.1;have e4:Qi (λb=>FrB D ro1 g W b/\b≠D.l) x w3 a w3:=YN s4;have e5:=(((e1.trans e2).trans e3).trans e4).trans (ah.frMono λb (q:FrB D ro1 g W b/\b≠D.l)=>q.2);obtain⟨q1,q2⟩:=j.fin hD e5 s5 (λb q=>g6.sub b (h6.sub b q)) (by rw[t4,g5,h5]) (st':=if jump.isNone then .ready else .done) (pe':=jump) (by rw[aj,ac]);exact⟨_,q2,a,σ4,q1⟩
   cases e with
   |normal=>
    obtain rfl:x3=.normal:=g1;obtain⟨H2,f,O⟩:=g2;obtain⟨v,m,F,rfl,g',E,a,σ4,G⟩:=u H2 none f;exact⟨_,m,F,g',E,.inl ⟨rfl,H2,a,σ4,O,G⟩⟩
   |exit id=>
    obtain rfl:x3=.exit id:=g1;obtain⟨H2,f,O⟩:=g2;obtain⟨v,m,F,rfl,g',E,a,σ4,G⟩:=u H2 (some (.exit id)) f;exact⟨_,m,F,g',E,.inr ⟨rfl,H2,_,a,σ4,.inl ⟨id,rfl,O⟩,G⟩⟩
   |ret=>
    obtain rfl:x3=.ret:=g1;obtain⟨H2,f,O⟩:=g2;obtain⟨v,m,F,rfl,g',E,a,σ4,G⟩:=u H2 (some .ret) f;exact⟨_,m,F,g',E,.inr ⟨rfl,H2,_,a,σ4,.inr ⟨rfl,O⟩,G⟩⟩
   |_=>exact g1.elim
  |exit id=>cases h1
  |ret=>cases h1
  |_=>exact h1.elim
end
theorem Sim.beside{fr ro:Nat->Prop}{σ:Sig}{H:Qd}{w w1:World}(s:Sim fr ro σ H w)(ev:Qi fr ro w ro w1)(a:∀b,b<w.heap.size->w1.heap[b]?=w.heap[b]?):Sim (λb=>fr b\/(w.heap.size<=b/\b<w1.heap.size)) ro σ H w1:=by
 have g:Ext ro σ w ro σ w1:=ev.ext0 σ;refine⟨s.len,s.roOk.to (λ_ q=>q) ev.keepRo (λb q=>Vb (s.roLt b q) ev.size),λb q=>q.elim (λq=>Vb (s.frLt b q) ev.size) (λq=>q.2),λb q r=>?_,λi b x f e k=>?_,s.inj,λi z x f e=>?_,
  s.hidTo (· = ·) Yc ev.size (by simp) (λi b x c f e k n=>n.elim id λq=>(by have:=(s.hid i b x c f e k).lt;omega)) λj d y l m B=>.inl ⟨j,y,rfl,l,m,id,λc q=>s.hidKeep l m (λz=>a d (s.own j d y l m z).1) ev.keepRo q⟩⟩
 .rcases r with r|r
  .exact s.roFr b q r
  .have:=s.roLt b q;omega
 .obtain⟨p,u,t⟩:=s.own i b x f e k
  grind
 .refine(s.blk i z x f e).keep g ?_ ?_
  .rintro b rfl h;exact a b (s.own i b x f e h).1
  .rintro b c rfl h;exact a c (s.hid i b x c f e h).lt
theorem Qce{w:World}{o:Obj}{b:Nat}(a:b<w.heap.size):(w.alloc o).heap[b]?=w.heap[b]? :=by
 show(w.heap.push o)[b]?=_
 grind
theorem QmU{P:Program}{fn:FuncId}{tmps:Array Value}{ps:Array Tmp}{assign body:Code}{rd:Option Nat}{fr ro:Nat->Prop}{w:World}(g:QdL rd fr w)(r:∀b,ro b->b<w.heap.size)(k:∀b,fr b->b<w.heap.size):
  ∃l mark w1 df,(Instr.enterLoop fn tmps ps assign body rd).run P w=.ok (l,mark) w1/\w.heap.size<=l/\l<w1.heap.size/\w1.heap[l]?=some (.loop {state:=.ready,pending:=none,fn:=fn,tmps:=tmps,params:=ps,assign:=assign,body:=body,defers:=df})/\
   (∀b,b<w.heap.size->w1.heap[b]?=w.heap[b]?)/\mark.Nodup/\(∀d∈mark,∃D,d={target:=.collected D,args:= #[]}/\w.heap.size<=D/\D<w1.heap.size/\w1.heap[D]?=some (.deferred (some [])))/\Qi fr ro w ro w1:=by
 have e:∀w1:World,(∀b,b<w.heap.size->w1.heap[b]?=w.heap[b]?)->w.heap.size<=w1.heap.size->w1.os=w.os->w1.tape=w.tape->w1.output=w.output->w1.drawn=w.drawn->Qi fr ro w ro w1:=by
  intro w1 u i t s j y;refine⟨λ_ q=>q,(by grind),(by grind),i,λb x q=>?_,t,s,j,by omega⟩
  grind[World.shape?]
 cases rd with
 |none=>
  have a:∀b,b<w.heap.size->((w.alloc (.deferred (some []))).alloc (.loop {state:=.ready,pending:=none,fn:=fn,tmps:=tmps,params:=ps,assign:=assign,body:=body,defers:=w.heap.size})).heap[b]?=w.heap[b]? :=λb f=>
   (Qce (by simp;omega)).trans (Qce f)
  refine⟨_,_,_,w.heap.size,run_enterLoop_outer fn tmps ps assign body,by omega,by simp,?_,a,by simp,?_,e _ a (by simp;omega) rfl rfl rfl rfl⟩
  .grind[World.alloc_heap_new,World.size_alloc]
  .intro d p;obtain rfl:=Vx.1 p;exact⟨_,rfl,XR _,by simp;omega,(Qce (by simp)).trans (World.alloc_heap_new w _)⟩
 |some n=>
  obtain⟨_,h,m⟩:=g n rfl;have a:∀b,b<w.heap.size->(w.alloc (.loop {state:=.ready,pending:=none,fn:=fn,tmps:=tmps,params:=ps,assign:=assign,body:=body,defers:=h.defers})).heap[b]?=w.heap[b]? :=λb f=>Qce f;exact⟨_,_,_,h.defers,run_enterLoop_inner m fn tmps ps assign body,XR _,by simp,World.alloc_heap_new w _,a,List.nodup_nil,(by simp),e _ a (by simp) rfl rfl rfl rfl⟩
theorem TC.rangeFunc{P:Program}{h0 N:Nat}{ae:Operand}{ps:List Nat}{assign body:Code}{env:Env}{H:Qd}{Q:QP}{f:FuncId}{af ac:List A}{Hc:Qd}{T S:Type}{enc:T->List A}{nx:List T->T->List T->Prop}{xs:List T}
  (π:List Nat)(Hp:S->Qd)(V:S->List T->Prop)(s0:S)(hh:h0<=H.length)(hg:opA env ae=.fn (.func f) [] af)(hargs:af=Qag (rho π H.length) ac)(hH:π.map (λp=>H[p]?)=(Hc.map (Q8 (rho π H.length))).map some)(hπ:π.Nodup)
  (bd:(ps.all λp=>Nat.blt p N)=true)(eg:∀args w,(callFunc f args).run P w=.ok (.enter f args) w)(ay:Qnj P f ac Hc enc nx xs)(az:∀x,(enc x).length=ps.length)
  (bf:Le H.length env (Qd0 H π) env (Hp s0))(hV:V s0 xs)
  (ai:∀s l x rem,V s l->nx l x rem->TC P H.length N assign (Ql2 ps (enc x) env) (Hp s) λe env1 H1=>e=.normal/\TC P H.length N body env1 H1 (Qnk H.length env Q λH2=>∃s',V s' rem/\H2=Hp s'))
  (ah:∀s,V s []->Q .normal env (Hp s)):TC P h0 N (.rangeFunc ae ps.toArray assign body) env H Q:=by
 intro rd fr ro σ a w r hrd;have hv:=Qk r ae;rw[hg]at hv;obtain⟨l1,E,hv,a9,a1⟩:=hv;obtain rfl:l1=[]:=a9;refine wpIn_rangeFunc ?_;intro fn bg;obtain⟨l,G,w1,df,he,hl,a7,av,aw,a6,aj,aa⟩:=QmU (P:=P) (fn:=fn) (tmps:=a.tmps) (ps:=ps.toArray) (assign:=assign) (body:=body) (ro:=ro) hrd r.sim.roLt r.sim.frLt;have s1:=r.sim.beside aa aw
 let D:Fix:=⟨fr,ro,σ,w,H.length,env,a.tmps,G++a.defers,l,(λst pe=>{state:=st,pending:=pe,fn:=fn,tmps:=a.tmps,params:=ps.toArray,assign:=assign,body:=body,defers:=df}),(λb=>fr b\/(w.heap.size<=b/\b<w1.heap.size))⟩
 have ag:¬fr l:=λq=>by have:=r.sim.frLt l q;omega
 have hD:D.Ok:=⟨λb q=>.inl q,.inr ⟨hl,a7⟩,ag,r.sim.len⟩;have L:Qcy D.fr1 (G++a.defers) w1:=by
  refine⟨List.nodup_append.2 ⟨a6,r.defers.1,λd R d' a5 e=>?_⟩,λd R=>?_⟩
  .subst e;obtain⟨B,e1,e2,_⟩:=aj d R;obtain⟨B',ao,a4,_⟩:=r.defers.2 d a5;rw[e1]at ao;have:B=B':=by simpa using ao
   subst this;have:=r.sim.frLt B a4;omega
  .rcases Vz.1 R with R|R
   .obtain⟨B,e1,e2,e3,e4⟩:=aj d R;exact⟨B,e1,.inr ⟨e2,e3⟩,e4⟩
   .obtain⟨B,e1,e2,e3⟩:=(r.defers.keep aa).2 d R;exact⟨B,e1,.inl e2,e3⟩
 obtain⟨sp,hσc⟩:=s1.part hH hπ;have ak:LR ro (Yx σ π) w1 ac E:=(Qbw hσc).1 (hargs▸a1.mono (aa.ext0 σ))
 let frX:Nat->Prop:=λb=>D.fr1 b\/(∃(j:Nat) (x:Blk),(Yx σ π)[j]?=some (some b)/\Hc[j]?=some x/\x.live=true)\/ ∃(j:Nat) (x:Blk) (d:Nat),(Yx σ π)[j]?=some (some d)/\Hc[j]?=some x/\Hid w1 x d b
 have sX:Sim frX ro σ (Qd0 H π) w1:=by
  refine(QdJ π s1).frames (λb q=>?_) (λb q r=>?_) (λi b x n m k r=>?_) (λi b x c n m k r=>?_)
  .rcases q with q|⟨j,x,n,m,k⟩|⟨j,x,d,n,m,k⟩
   .exact s1.frLt b q
   .exact(sp.own j b x n m k).1
   .exact(sp.hid j d x b n m k).lt
  .rcases r with r|⟨j,x,n,m,k⟩|⟨j,x,d,n,m,k⟩
   .exact s1.roFr b q r
   .exact(sp.own j b x n m k).2.1 q
   .exact(sp.hid j d x b n m k).ro q
  .rcases Qfe _ _ _ _ m with rfl|⟨m,hi⟩
   .cases k
   .rcases r with r|⟨j,y,p1,Y,p3⟩|⟨j,y,d,p1,Y,p3⟩
    .exact(s1.own i b x n m k).2.2 r
    .exact(sp.own j b y p1 Y p3).2.2 (.inr (.inl ⟨i,x,n,m,k,hi (QbB k)⟩))
    .exact(sp.hid j d y b p1 Y p3).fr (.inr (.inl ⟨i,x,n,m,k,hi (QbB k)⟩))
  .rcases Qfe _ _ _ _ m with rfl|⟨m,hi⟩
   .exact k.elim
   .rcases r with r|⟨j,y,p1,Y,p3⟩|⟨j,y,d,p1,Y,p3⟩
    .exact(s1.hid i b x c n m k).fr r
    .exact(sp.own j c y p1 Y p3).2.2 (.inr (.inr ⟨i,x,b,n,m,k,hi k.holds⟩))
    .exact(sp.hid j d y c p1 Y p3).fr (.inr (.inr ⟨i,x,b,n,m,k,hi k.holds⟩))
 have rX:Rel frX ro σ (Qd0 H π) env N {a with defers:=G++a.defers} w1:=
  ⟨sX,λs=>(r.env s).mono (aa.ext0 σ),r.size,L.1,λd R=>let⟨B,e1,e2,e3⟩:=L.2 d R;⟨B,e1,.inl e2,e3⟩⟩
 obtain⟨ad,σ',r',ab,bc⟩:=bf frX ro σ N _ w1 rX;have hσt:σ.take H.length=σ:=by rw[<- r.sim.len,X6]
 let g0:Nat->Prop:=λb=>D.fr1 b\/(ad b/\ ¬ro b)\/(∃(i:Nat) (x:Blk),σ'[i]?=some (some b)/\(Hp s0)[i]?=some x/\x.live=true)\/ ∃(i:Nat) (x:Blk) (d:Nat),σ'[i]?=some (some d)/\(Hp s0)[i]?=some x/\Hid w1 x d b
 have j0:RJ D ad σ' (Hp s0) .ready none ro g0 w1:=by
  refine⟨r'.sim.frMono λb q=>.inl q,λt=>(r.env t).mono ⟨ab,aa.keepRo,aa.shape,λ_ _ q=>q⟩,bc.trans hσt,aa.trans (YN ab),L,av,λb q=>?_,λb q=>.inl q,λi b x n m k=>.inr (.inr (.inl ⟨i,x,n,m,k⟩)),λi b x c n m k=>.inr (.inr (.inr ⟨i,x,b,n,m,k⟩)),λb q=>?_⟩
  .by_cases z:ro b
   .exact .inl z
   .exact .inr (.inr (.inl ⟨q,z⟩))
  .rcases q with q|q|⟨i,x,n,m,k⟩|⟨i,x,d,n,m,k⟩
   .exact s1.frLt b q
   .exact r'.sim.roLt b q.1
   .exact(r'.sim.own i b x n m k).1
   .exact(r'.sim.hid i d x b n m k).lt
 have sI:Sim g0 ro (Yx σ π) Hc w1:=by
  refine sp.frames (λb q=>j0.lt b q) (λb q z=>?_) (λj b x n m k z=>?_) (λj b x c n m k z=>?_)
  .rcases z with z|z|⟨i,x,n,m,k⟩|⟨i,x,d,n,m,k⟩
   .exact s1.roFr b q z
   .exact z.2 q
   .exact(r'.sim.own i b x n m k).2.1 (ab b q)
   .exact(r'.sim.hid i d x b n m k).ro (ab b q)
  .have hX:frX b:=.inr (.inl ⟨j,x,n,m,k⟩);rcases z with z|z|⟨i,y,p1,Y,p3⟩|⟨i,y,d,p1,Y,p3⟩
   .exact(sp.own j b x n m k).2.2 (.inl z)
   .exact r'.sim.roFr b z.1 hX
   .exact(r'.sim.own i b y p1 Y p3).2.2 hX
   .exact(r'.sim.hid i d y b p1 Y p3).fr hX
  .have hX:frX c:=.inr (.inr ⟨j,x,b,n,m,k⟩);rcases z with z|z|⟨i,y,p1,Y,p3⟩|⟨i,y,d,p1,Y,p3⟩
   .exact(sp.hid j b x c n m k).fr (.inl z)
   .exact r'.sim.roFr c z.1 hX
   .exact(r'.sim.own i c y p1 Y p3).2.2 hX
   .exact(r'.sim.hid i d y c p1 Y p3).fr hX
 let X:Ctx T:={l:=l,J:=λrem q g W=>∃s F σ1,V s rem/\RJ D F σ1 (Hp s) .ready none q g W,Jx:=λ_ q g W=>∃H2 c F σ1,Jump Q env c H2/\RJ D F σ1 H2 .done (some c) q g W,enc:=enc,nx:=nx}
 have au:∀p∈ps,p<N:=λp hp=>by simpa using Xs.1 bd p hp
 have hX:X.ok P:=by
  refine⟨⟨λrem q g W W' ad ⟨s,F,σ1,M,O⟩ he=>⟨s,F,σ1,M,O.step hD he⟩,λrem q g g' W ⟨s,F,σ1,M,O⟩ hg hl=>⟨s,F,σ1,M,O.up hg hl⟩⟩,
   ⟨λrem q g W W' ad ⟨H2,c,F,σ1,M,O⟩ he=>⟨H2,c,F,σ1,M,O.step hD he⟩,λrem q g g' W ⟨H2,c,F,σ1,M,O⟩ hg hl=>⟨H2,c,F,σ1,M,O.up hg hl⟩⟩,?_⟩
  rintro lr x rem q g ri W vs a8 ⟨s,F,σ1,M,O⟩ hq hI a3;obtain⟨be,tm,bb,ba,y1,y2⟩:=RJ.round (D:=D) (Q:=Q) (K:=λH2=>∃s',V s' rem/\H2=Hp s') hD rfl r.size au (az x) hq hI a3 O (ai s lr x rem M a8);refine⟨be,tm,bb,ba,y1,RoundIn.mono y2 ?_⟩;rintro e W' ⟨g',k1,k2⟩;refine⟨g',ri,λ_ z=>z,k1,?_⟩;rcases k2 with⟨rfl,H2,u,σ2,⟨s',a2,rfl⟩,k3⟩|⟨rfl,H2,c,u,σ2,k3,k4⟩
  .exact .inl ⟨rfl,s',u,σ2,a2,k3⟩
  .exact .inr ⟨rfl,H2,c,u,σ2,k3,k4⟩
 have ax:∀(ev:Operand->Value),ev ae=.func (.func f) #[] E.toArray->ev (.const (.func (.yield l) #[] #[]))=.func (.yield l) #[] #[]->(resolve ev (rangeCall ae l) 0).run P w1=.ok {target:=.fn (.func f) E.toArray,args:= #[.func (.yield l) #[] #[]]} w1:=by
  intro ev M O;simp[resolve,go_sem,M,O]
 refine⟨l,G,w1,{target:=.fn (.func f) E.toArray,args:= #[.func (.yield l) #[] #[]]},w1,f, #[.func (.yield l) #[] #[]]++E.toArray,w1,he,ax a.eval hv rfl,λ_ _=>trivial,by simp[invoke,go_sem,eg],λh=>by simp[WF,Fence.wide]at h,?_⟩;refine WF.calls.2 ?_;have am:=ay X rfl rfl hX g0 ro (Yx σ π) w1 E ro sI (λ_ z=>z) ak ⟨s0,ad,σ',hV,j0⟩;have al:(#[.func (.yield l) #[] #[]]++E.toArray:Array Value)=((Value.func (.yield X.l) #[] #[]::E)).toArray:=by simp[X]
 rw[al];refine Calls.mono am ?_;rintro e W' ⟨⟨v,rfl⟩,g2,qz,bh,a0⟩;have fin:∀(H2:Qd) (st:LoopState) (pe:Option Code) (u:Nat->Prop) (σ2:Sig),st≠ .busy->RJ D u σ2 H2 st pe qz g2 W'->∃w4,(Instr.endLoop l).run P W'=.ok pe w4/\Rel D.fr1 u σ2 H2 env N {a with defers:=G++a.defers} w4/\Qi fr ro w u w4:=by
  intro H2 st pe u σ2 hst j;refine⟨_,run_endLoop j.rc (by exact hst),?_⟩;obtain⟨s5,an⟩:=j.sim.put (obj:=.loop {(D.rc st pe)with state:=.exhausted}) hD.l1 (Qbi j.rc);have hr:=j.rc;refine⟨⟨s5,λt=>((j.env t).mono ⟨λ_ q=>q,λ_ _=>rfl,λ_ _ q=>q,λi b q=>QdR j.sig q⟩).mono (an.ext0 σ2),r.size,j.marks.1,λd R=>?_⟩,j.ev.trans (an.frMono λb q e=>ag (by have e':b=l:=e;rw[<- e'];exact q))⟩;obtain⟨B,e1,e2,e3⟩:=j.marks.2 d R;refine⟨B,e1,e2,(an.keepFr B (λe=>?_)).trans e3⟩;subst e;rw[hr]at e3;cases e3
 have ar:Grow fr w a.defers D.fr1 (G++a.defers):=by
  refine⟨λb q=>.inl q,λb q=>q.imp id (λq=>q.1),λd R=>?_⟩;rcases Vz.1 R with R|R
  .obtain⟨B,e1,e2,_⟩:=aj d R;exact .inr ⟨B,e1,e2⟩
  .exact .inl R
 have aq:∀{σ2:Sig},σ2.take H.length=σ->σ2.take h0=σ.take h0:=by
  intro σ2 h;have:=congrArg (List.take h0) h
  rwa [List.take_take,Xz hh]at this
 rcases a0 with⟨s,u,σ2,M,O⟩|⟨rem,H2,c,u,σ2,M,O⟩
 .obtain⟨w4,f1,f2,f3⟩:=fin _ _ _ u σ2 (by intro e;cases e) O;exact⟨none,w4,f1,.normal,env,_,u,σ2,_,rfl,ah s M,f2,f3,aq O.sig,ar⟩
 .obtain⟨w4,f1,f2,f3⟩:=fin _ _ _ u σ2 (by intro e;cases e) O;refine⟨some c,w4,f1,?_⟩;have hc:TC P h0 N c env H2 Q:=by
   rcases M with⟨id,rfl,M⟩|⟨rfl,M⟩
   .exact TC.exit M
   .exact TC.ret M
  exact Code.wpIn_mono (λe a w q=>q.grow f3 (aq O.sig) ar) (hc rd D.fr1 u σ2 _ w4 f2 (hrd.to f3 λb q=>.inl q))
section
variable {P:Program} {T:Type} {ts tq te k tm:Nat} {g:FuncId} {es:List (A×A)} {e:T->List A} {ea:T->A} {xs:List T}
end
theorem Qpq{T:Type}{X:Ctx T}{P:Program}{h0 N:Nat}{c:Code}{env env':Env}{H H':Qd}{l:YSt T}{Q:YR T}(d:Le h0 env H env' H')(h:TCy X P h0 N c env' H' l Q):TCy X P h0 N c env H l Q:=by
 intro m n k y σ a w g r hj hrd;obtain⟨j,σ',x,s,t⟩:=d k y σ N a w r;obtain⟨⟨u,p,i⟩,f⟩:=hj;exact Code.wpIn_mono (λe a w q=>q.grow s (XR _) t (Grow.refl _ _ _)) (h m n k j σ' a w g x ⟨⟨u,(by grind),i⟩,f⟩ hrd)
theorem QlW{P:Program}{o:Oper}{env:Env}{H:Qd}{y z:Operand}{l:Nat}{a:A}{f:Array TypeId}(n:o.op=.call {callee:=.value y,args:= #[z],argTypes:=f})(i:opA env y=.fn (.yield l) [] [])(j:opA env z=a)(k:YC a=true){N:Nat}:
  ∀fr ro σ act w,Rel fr ro σ H env N act w->∃vs:List Value,LR ro [] w [a] vs/\(execOp act.eval o).run P w=(Instr.yield l vs.toArray).run P w:=by
 intro fr ro σ act w r;have d:=Qk r y;rw[i]at d;obtain⟨g,p,d,h,m⟩:=d;obtain rfl:g=[]:=h;obtain rfl:p=[]:=m;have e:=Qk r z;rw[j]at e;refine⟨[act.eval z],⟨_,_,rfl,VR.data k e,rfl⟩,?_⟩;generalize act.eval=ev at*;simp[execOp,n,resolve,invoke,go_sem,d]
theorem QkU{P:Program}{o:Oper}{env:Env}{H:Qd}{y d e:Operand}{l:Nat}{g i:A}{u:Array TypeId}(z:o.op=.call {callee:=.value y,args:= #[d,e],argTypes:=u})(t:opA env y=.fn (.yield l) [] [])(k:opA env d=g)(f:opA env e=i)(j:YC g=true)(h:YC i=true){N:Nat}:
  ∀fr ro σ act w,Rel fr ro σ H env N act w->∃vs:List Value,LR ro [] w [g,i] vs/\(execOp act.eval o).run P w=(Instr.yield l vs.toArray).run P w:=by
 intro fr ro σ act w r;have a:=Qk r y;rw[t]at a;obtain⟨q,p,a,s,x⟩:=a;obtain rfl:q=[]:=s;obtain rfl:p=[]:=x;have m:=Qk r d;rw[k]at m;have n:=Qk r e;rw[f]at n;refine⟨[act.eval d,act.eval e],⟨_,_,rfl,VR.data j m,_,_,rfl,VR.data h n,rfl⟩,?_⟩;generalize act.eval=ev at*;simp[execOp,z,resolve,invoke,go_sem,a]
section
variable {P:Program} {K V:Type} {tm tb ty tk kt et:Nat} {ek:K->A} {ev:V->A} {m:List (K×V)} {T:Type}
end
section
variable {P:Program} {o:Oper} {env:Env} {H:Qd} {fr ro:Nat->Prop} {σ:Sig} {w:World}
theorem QlQ{d i t b1 b2:Nat}{es:List (List A)}{l:List Ent}(f:H[i]?=some (.rowr t 3 es))(he:l.map (eC b1 b2)=es):Le d env H env (H.set i (.ents t b1 b2 l)):=by
 subst he;intro g e σ N a w r;refine⟨e,σ,⟨r.sim.weaken (x':=.ents t b1 b2 l) f rfl ?_,r.env,r.size,r.defers⟩,λ_ q=>q,rfl⟩;intro y h;cases y with
 |none=>exact h.elim
 |some b=>exact h
theorem Qdc{b1 b2:Nat}:∀(l:List Ent),allK 3 (l.map (eC b1 b2))
 |[]=>trivial
 |e::l=>⟨rfl,Qdc l⟩
theorem Sim.phantomE(s:Sim fr ro σ H w)(t b1 b2:Nat):Sim fr ro (σ++[none]) (H++[.ents t b1 b2 []]) w:=by
 have ext:Ext ro σ w ro (σ++[none]) w:=⟨λ_ q=>q,λ_ _=>rfl,λ_ _ q=>q,λ_ _ h=>Qac h⟩;have B:=s.len;have a:∀(j:Nat) (v:Blk),(H++[Blk.ents t b1 b2 []])[j]?=some v->(j<H.length/\H[j]?=some v)\/(j=H.length/\v=.ents t b1 b2 []):=by
  intro j v h;rcases Nat.lt_trichotomy j H.length with q|q|q
  .rw[XK q]at h;exact .inl ⟨q,h⟩
  .subst q;simp at h;exact .inr ⟨rfl,h.symm⟩
  .rw[XM (by simp;omega)]at h;cases h
 have hσ:∀(j:Nat) (z:Option Nat),(σ++[none])[j]?=some z->(j<σ.length/\σ[j]?=some z)\/(j=σ.length/\z=none):=by
  intro j z h;rcases Nat.lt_trichotomy j σ.length with q|q|q
  .rw[XK q]at h;exact .inl ⟨q,h⟩
  .subst q;simp at h;exact .inr ⟨rfl,h.symm⟩
  .rw[XM (by simp;omega)]at h;cases h
 refine⟨by simp[B],s.roOk,s.frLt,s.roFr,λi b x k g n=>?_,λi j b x y k g n L F E=>?_,λi z x k g=>?_,
  s.hidTo (· = ·) Yc (XR _) (λ_ _ _ _ _ _ _ q=>q) (λ_ _ _ _ _ _ _ q=>q) λj d y G J M=>.inl ?_⟩
 rotate_left 3
 .rcases hσ j _ G with⟨l,f⟩|⟨_,r⟩
  .rcases a j y J with⟨_,e⟩|⟨e,_⟩
   .exact⟨j,y,rfl,f,e,id,λ_ q=>q⟩
   .omega
  .cases r
 .rcases hσ i _ k with⟨l,f⟩|⟨_,r⟩
  .rcases a i x g with⟨_,e⟩|⟨e,_⟩
   .exact s.own i b x f e n
   .omega
  .cases r
 .rcases hσ i _ k with⟨l,f⟩|⟨_,r⟩
  .rcases hσ j _ g with⟨u,m⟩|⟨_,r⟩
   .rcases a i x n with⟨_,e⟩|⟨e,_⟩
    .rcases a j y L with⟨_,p⟩|⟨p,_⟩
     .exact s.inj i j b x y f m e p F E
     .omega
    .omega
   .cases r
  .cases r
 .rcases hσ i _ k with⟨l,f⟩|⟨l,rfl⟩
  .rcases a i x g with⟨_,e⟩|⟨e,_⟩
   .exact(s.blk i z x f e).keep ext (λ_ _ _=>rfl) (λ_ _ _ _=>rfl)
   .omega
  .rcases a i x g with⟨e,_⟩|⟨_,rfl⟩
   .omega
   .rfl
theorem Le.phantomE{h0 i m t T b1 b2:Nat}{cs:List A}(G:Nat.ble h0 H.length=true)(k:H[i]?=some (.cells T cs))(e:cs[m]?=some .nils):
  Le h0 env H env (H.set i (.cells T (cs.set m (.osl H.length 0 0 3)))++[.ents t b1 b2 []]):=by
 intro J j σ N a w r;have f:h0<=H.length:=XP G;have p:i<H.length:=(XJ.1 k).1;have ext:Ext j σ w j (σ++[none]) w:=⟨λ_ q=>q,λ_ _=>rfl,λ_ _ q=>q,λ_ _ h=>Qac h⟩;have s:=r.sim.phantomE t b1 b2;have d:(H++[Blk.ents t b1 b2 []])[i]?=some (.cells T cs):=by rw[XK p];exact k
 have x:H.set i (.cells T (cs.set m (.osl H.length 0 0 3)))++[.ents t b1 b2 []]=(H++[Blk.ents t b1 b2 []]).set i (.cells T (cs.set m (.osl H.length 0 0 3))):=by
  rw[List.set_append_left _ _ p]
 rw[x];refine⟨j,σ++[none],⟨s.weaken d rfl ?_,λq=>(r.env q).mono ext,r.size,r.defers⟩,λ_ q=>q,QG (by rw[r.sim.len];exact f)⟩;intro y h;cases y with
 |none=>exact h
 |some b=>
  obtain⟨l,u,F,B⟩:=h;refine⟨l,u,?_,B⟩;clear u B d x k
  induction cs generalizing m l with
  |nil=>cases e
  |cons c cs E=>
   obtain⟨v,g,rfl,z,n⟩:=F;cases m with
   |zero=>
    simp at e;subst e;exact⟨v,g,rfl,.inl ⟨rfl,z⟩,n⟩
   |succ m=>exact⟨v,g,rfl,z,E (by simpa using e) g n⟩
theorem QW{h0 i m T:Nat}{cs:List A}(k:H[i]?=some (.cells T cs)):Le h0 env H env (H.set i (.cells T (cs.set m .any))):=by
 intro t s σ N a w r;refine⟨s,σ,⟨r.sim.weaken k rfl ?_,r.env,r.size,r.defers⟩,λ_ q=>q,rfl⟩;intro y h;cases y with
 |none=>exact h
 |some b=>
  obtain⟨l,f,g,j⟩:=h;refine⟨l,f,?_,j⟩;clear f j k
  induction cs generalizing m l with
  |nil=>exact g
  |cons c cs n=>
   obtain⟨v,d,rfl,p,e⟩:=g;cases m with
   |zero=>exact⟨v,d,rfl,trivial,e⟩
   |succ m=>exact⟨v,d,rfl,p,n d e⟩
theorem srcE{j m t b1 b2:Nat}{l:List Ent}{v:Value}(s:Sim fr ro σ H w)(x:H[j]?=some (.ents t b1 b2 l))(e:l.length=m)(h:VR ro σ w (.osl j 0 m 3) v):
  (∃a c,v=.slice a m c)/\ ∃vs:List Value,(∀w':World,w'.heap=w.heap->(Builtin.firstCells 3 m v).run P w'=.ok vs.toArray w')/\LR ro σ w (l.map (eC b1 b2)).flatten vs/\ ∀v∈vs,Qx v:=by
 rcases h with⟨rfl,rfl⟩|⟨b,p,d,J,M,g,rfl,z,⟨E,i⟩,F,G⟩
 .have:l=[]:=VF.1 e;subst this;exact⟨⟨none,0,rfl⟩,[],λ_ _=>YO,rfl,by simp⟩
 .refine⟨⟨_,d,rfl⟩,?_⟩;obtain⟨L,r,y⟩:=s.blk j _ _ g x;have q:=YF (pre:=[]) (by simpa using r) y;by_cases u:0<d
  .obtain rfl:=z u;obtain⟨f,N,B⟩:=q.flat;have:=Qa4 (P:=P) (k:=3) (n:=m) (c:=d) f (by rw[B];simp[e]);simpa using this
  .obtain rfl:m=0:=by omega
   have:l=[]:=VF.1 e;subst this;exact⟨[],λ_ _=>YO,rfl,by simp⟩
theorem Qnr{c:Call}{T T' t e' i j n m b1 b2:Nat}{x y:Operand}{l k:List Ent}(E:Ya P T t 3)(hd:∀w,(underlying T').run P w=.ok (.slice e') w)(F:Nat.ble (l.length+k.length) Yk=true)(ag:Nat.blt 0 n=true)
  (ho:o.op=.call c:=by exact rfl)(hc:c={callee:=.builtin .append,args:= #[x,y],argTypes:= #[T,T']}:=by exact rfl)(hx:opA env x=.osl i 0 n 3:=by exact rfl)(hH:H[i]?=some (.ents t b1 b2 l):=by exact rfl)(hn:l.length=n:=by exact rfl)
  (R:opA env y=.osl j 0 m 3:=by exact rfl)(hHj:H[j]?=some (.ents t b1 b2 k):=by exact rfl)(hm:k.length=m:=by exact rfl):
  OpH P o env H (.osl H.length 0 (l++k).length 3) (H.set i .dead++[.ents t b1 b2 (l++k)]):=by
 intro fr s σ N a w r;have Q:=XP F;have ah:0<n:=by simpa using ag
 have z:=Qk r x;rw[hx]at z;have h2:=Qk r y;rw[R]at h2;obtain⟨⟨ay,cy,O⟩,vs,q3,q4,q5⟩:=srcE (P:=P) r.sim hHj hm h2;rw[O]at q3;obtain⟨_,d,o1,o2,o3⟩:=srcE (P:=P) r.sim hH hn z;have ab:i<H.length:=(XJ.1 hH).1;have ai:(H.set i .dead).length=H.length:=X0;rw[XZ,hn,hm];rcases z with⟨q,_⟩|⟨b,p,cap,t',mm,h3,z,h4,⟨h5,W⟩,X,h7⟩
 .omega
 have J:=r.sim.blk i _ _ h3 hH;obtain⟨lb,g1,g2⟩:=J;have B:vs.length=m*3:=by rw[q4.length,Yr (Qdc k)];simp[hm]
 have V:d.length=n*3:=by rw[o2.length,Yr (Qdc l)];simp[hn]
 rw[z]at o1;by_cases h:n+m<=cap
 .obtain rfl:p=0*3:=h4 (by omega);have g:=QbK (t:=o.type) E hd (ad:=some ⟨b,0*3,none⟩) (n:=n) (m:=m) (cap:=cap) (c:=cy) (ax:=ay) h (q3 w rfl);have u:(n+m)*3<=lb.length:=by
   have:w.shape? b=some (t,lb.length):=by unfold World.shape?;rw[g1];simp
   rw[this]at X;cases X;exact XT (XA 3 h) (by simpa using h7)
  rw[Xy]at u;have Y:=Yd (P:=P) (vs:=vs) (n*3) 0 g1 (by rw[B];simpa using u) q5;have f:=r.sim.set (x':=.ents t b1 b2 (l++k)) (obj:=.cells (splice lb (n*3) vs).toArray t (0,0)) h3 hH rfl
   (λy R=>Jz g1 (Yb (by rw[B];exact u)) y R)
   (λex aa=>⟨_,aa,by
    have:=(g2.app (n:=n) (by simp[hn]) (Qdc k) q4 q5).mono ex;rw[VE (by simp[hn])]at this;rw[Xf];exact this⟩)
  have sm:=f.1.moved (i:=i) (Xa ab) h3;rw[List.set_set]at sm;refine⟨.slice (some ⟨b,0*3,none⟩) (n+m) cap,_,s,[some b],?_,.inr ⟨b,0*3,cap,t',mm,?_,rfl,h4,⟨h,W⟩,?_,h7⟩,sm,f.2⟩
  .refine YJ ho hc _ ?_;rw[z,O,g];simp only[Y3,Nat.zero_mul,Xu,Vi,Y,Result.andThen,Vj];simp
  .rw[<- r.sim.len];simp
  .exact f.2.shape _ _ X
 .obtain⟨e,nc,L,af,g⟩:=QeZ (t:=o.type) E hd rfl (by omega) (by omega) q3 o1
  let w0:World:={w with drawn:=w.drawn+1}
  have G:Sim fr s σ (H.set i .dead) w0:=(r.sim.kill i).heap rfl;have e0:Qi fr s w s w0:=Qi.heap rfl rfl rfl rfl (Nat.le_succ _);have M:LR s σ w0 ((l++k).map (eC b1 b2)).flatten (d++vs):=by
   rw[Xf,Xr];exact(o2.append q4).mono (Ext.heap (w:=w) (w':=w0) rfl)
  have ac:∀v∈d++vs,Qx v:=λv hv=>by rcases Vz.1 hv with q|q;exact o3 v q;exact q5 v q
  have s1:=G.alloc (x:=.ents t b1 b2 (l++k)) (obj:=.cells ((d++vs)++e).toArray t) ⟨(d++vs)++e,Q6 _ _,(YY (Qdc _) M ac).mono ((Qi.alloc (fr:=fr) _ G.roLt G.frLt).ext σ _)⟩;have ae:Qi fr s w0 s (w0.alloc (.cells ((d++vs)++e).toArray t)):=Qi.alloc _ G.roLt G.frLt;refine⟨_,_,s,[some w.heap.size],YJ ho hc a.eval (by rw[z,O];exact g),.inr ⟨w.heap.size,0,nc,t,(d++vs++e).length,?_,rfl,λ_=>by simp,L,?_,?_⟩,s1,e0.trans ae⟩
  .rw[<- r.sim.len];simp
  .have:=Q6 w0 (.cells ((d++vs)++e).toArray t);unfold World.shape?;rw[show w.heap.size=w0.heap.size from rfl,this];simp
  .simp only[XZ,af,V,B,Xu];omega
theorem QgQ{c:Call}{T T' t e' i j n m b1 b2:Nat}{x y:Operand}{d e r:List Ent}(h:app d e=some r)(E:Ya P T t 3)(f:∀w,(underlying T').run P w=.ok (.slice e') w)(a:Nat.blt 0 n=true)
  (k:o.op=.call c:=by exact rfl)(hc:c={callee:=.builtin .append,args:= #[x,y],argTypes:= #[T,T']}:=by exact rfl)(hx:opA env x=.osl i 0 n 3:=by exact rfl)(hH:H[i]?=some (.ents t b1 b2 d):=by exact rfl)(hn:d.length=n:=by exact rfl)
  (hy:opA env y=.osl j 0 m 3:=by exact rfl)(hHj:H[j]?=some (.ents t b1 b2 e):=by exact rfl)(hm:e.length=m:=by exact rfl):
  OpH P o env H (.osl H.length 0 r.length 3) (H.set i .dead++[.ents t b1 b2 r]):=by
 obtain⟨g,rfl⟩:=QhC h;exact Qnr E f (XQ g) a k hc hx hH hn hy hHj hm
theorem Pts.ents{i off t e f b1 b2:Nat}{l:List Ent}{x:Ent}{cs':List A}(he:l[e]?=some x)(m:H[i]?=some (.ents t b1 b2 l):=by exact rfl)(ho:off=e*3+f:=by exact rfl)(hcs:(eC b1 b2 x).drop f=cs':=by exact rfl):Pts H (.ptr i off) cs':=by
 intro n q σ w v s h;obtain⟨b,j,g⟩:=h;obtain⟨p,k,d⟩:=s.blk i _ _ j m;have a:(l.map (eC b1 b2))[e]?=some (eC b1 b2 x):=by rw[Xn,he];rfl
 have:=((YF (pre:=[]) (by simpa using k) d).get e a).2.drop f;refine⟨b,off,g,?_⟩;rw[<- hcs,ho];simpa using this
def Qf7(cs:List A)(s:Int)(e:Ent):Option Int:=bif e.fl then(bif e.off==0 then some s else none)else match cs[e.off]? with
 |some (.int .i64 v)=>some v
 |_=>none
def Qji{F:Type}(put:F->Nat->Int->Option F)(x:F)(s:Int)(e:Ent)(v:Int):Option (F×Int):=
 bif e.fl then(bif e.off==0 then some (x,v)else none)else(put x e.off v).map λy=>(y,s)
abbrev Qhw(b1 b2:Nat)(e:Ent):A:=.ptr (bif e.fl then b2 else b1) e.off
theorem QmV{l:List A}{i:Nat}{a:A}(h:l[i]?=some a):∃r,l.drop i=a::r:=by
 obtain⟨d,rfl⟩:=XJ.1 h;exact⟨_,Xo d⟩
theorem Qcg{t b1 b2 T1 T2:Nat}{x:Operand}{e:Ent}{cs:List A}{s v:Int}(h:Qf7 cs s e=some v)(j:∀w,(isAgg t).run P w=.ok false w)(g:o.op=.load t x:=by exact rfl)(hx:opA env x=Qhw b1 b2 e:=by exact rfl)
  (h1:H[b1]?=some (.cells T1 cs):=by exact rfl)(h2:H[b2]?=some (.cells T2 [.int .i64 s]):=by exact rfl):OpV P o env H (.int .i64 v):=by
 unfold Qf7 at h;unfold Qhw at hx;cases i:e.fl with
 |true=>
  rw[i]at h hx;simp only[Vk]at h hx;cases d:e.off==0 with
  |false=>rw[d]at h;cases h
  |true=>
   rw[d]at h;have m:e.off=0:=by simpa using d
   rw[m]at hx;have p:s=v:=by simpa using h
   subst p;exact OpV.load g j hx (Pts.cells (cs':=[.int .i64 s]) h2 rfl)
 |false=>
  rw[i]at h hx;simp only[Vl]at h hx;cases f:cs[e.off]? with
  |none=>rw[f]at h;cases h
  |some a=>
   rw[f]at h;obtain⟨r,l⟩:=QmV f;cases a with
   |int k n=>
    cases k<;>first|(cases h;exact OpV.load g j hx (Pts.cells h1 l))|cases h
   |_=>cases h
theorem Qjb{l:List A}{i:Nat}{a:A}(h:i<l.length):splice l i [a]=l.set i a:=by
 unfold splice;rw[List.set_eq_take_append_cons_drop,Vp h];simp
theorem QhU{i:Nat}{b:Blk}(h:H[i]?=some b):H.set i b=H:=by
 apply List.ext_getElem?;intro j;rw[Xb];by_cases e:i=j
 .subst e;rw[Vp rfl,Vp (XJ.1 h).1,h]
 .rw[Vn e]
theorem QjU{F:Type}{c:F->List A}{put:F->Nat->Int->Option F}{t b1 b2 T1 T2:Nat}{x y:Operand}{e:Ent}{f f':F}{s s' v:Int}(h:Qji put f s e v=some (f',s'))(a:∀x o v y,put x o v=some y->c y=(c x).set o (.int .i64 v)/\o<(c x).length)
  (n:∀w,(sizeOf t).run P w=.ok 1 w)(l:o.op=.store t x y:=by exact rfl)(hx:opA env x=Qhw b1 b2 e:=by exact rfl)(h1:H[b1]?=some (.cells T1 (c f)):=by exact rfl)(h2:H[b2]?=some (.cells T2 [.int .i64 s]):=by exact rfl)(hy:opA env y=.int .i64 v:=by exact rfl)
  (hb:Nat.beq b1 b2=false:=by exact rfl):OpU P o env H ((H.set b1 (.cells T1 (c f'))).set b2 (.cells T2 [.int .i64 s'])):=by
 have i:b1≠b2:=λq=>by subst q;rw[VB]at hb;cases hb
 unfold Qji at h;unfold Qhw at hx;cases m:e.fl with
 |true=>
  rw[m]at h hx;simp only[Vk]at h hx;cases j:e.off==0 with
  |false=>rw[j]at h;cases h
  |true=>
   rw[j]at h;have p:e.off=0:=by simpa using j
   rw[p]at hx;obtain⟨rfl,rfl⟩:f=f'/\v=s':=by simpa using h
   rw[QhU h1];exact OpU.store (cs:=[.int .i64 s]) (vs:=[.int .i64 v]) (cs':=[.int .i64 v]) (v:=.int .i64 v) l hx h2 n hy rfl rfl rfl rfl rfl rfl
 |false=>
  rw[m]at h hx;simp only[Vl]at h hx;cases d:put f e.off v with
  |none=>rw[d]at h;cases h
  |some g=>
   rw[d]at h;obtain⟨rfl,rfl⟩:g=f'/\s=s':=by simpa using h
   obtain⟨r,k⟩:=a _ _ _ _ d;have u:(H.set b1 (.cells T1 (c g)))[b2]?=some (.cells T2 [.int .i64 s]):=by rw[XN i];exact h2
   rw[QhU u];exact OpU.store (cs:=c f) (vs:=[.int .i64 v]) (cs':=c g) (v:=.int .i64 v) l hx h1 n hy rfl rfl rfl rfl (XQ k) (by rw[Qjb k,r])
end
section
variable {P:Program} {h0 N:Nat} {A B C:Code} {env:Env} {H:Qd} {Q:QP}
theorem Qng{S B1:Type}{b:Ctl S B1}(Eb:S->Env)(Hb:S->Qd)(h:TC P h0 N A env H (Seq P h0 N B (QgS h0 b Eb Hb (Seq P h0 N C Q))))(k:∀s env H,b=.cont s->Le h0 env H (Eb s) (Hb s)->Seq P h0 N C Q .normal env H):TC P h0 N (.seq A (.seq B C)) env H Q:=by
 refine TC.seq (h.mono λx env' H' q=>?_);cases x with
 |normal=>exact TC.seq (QkH Eb Hb q k)
 |exit id=>exact q
 |ret=>exact q
end
section
variable {P:Program} {o:Oper} {env:Env} {H:Qd}
theorem Qfn{f g:Nat->Option (Nat×Nat)}:∀(parts:List (Nat×Value)) (cs:Array Value),(∀p∈parts,f p.1=g p.1)->Instr.fill f cs parts=Instr.fill g cs parts
 |[],cs,_=>rfl
 |(i,v)::rest,cs,h=>by
  unfold Instr.fill;rw[h (i,v) (by simp)];have ih:=λcs=>Qfn rest cs (λp hp=>h p (by simp[hp]));cases g i with
  |none=>rfl
  |some p=>
   obtain⟨off,size⟩:=p;simp only;split
   .rfl
   .exact ih _
theorem JJ{t e n k:Nat}{z:Value}{zs cs:List A}{parts:List (Nat×Operand)}(m:∀w,(zeroValue t).run P w=.ok z w)(J:ZR (.agg zs) z)(y:∀w,(underlying t).run P w=.ok (.array n e) w)(s:∀w,(sizeOf e).run P w=.ok k w)
  (h:(parts.all λp=>Nat.blt p.1 n)=true)(g:o.op=.build t parts.toArray:=by exact rfl)(hf:Qd4 env ((List.range n).map λi=>(i*k,k)) zs parts=some cs:=by exact rfl):OpV P o env H (.agg cs):=by
 intro L G σ N a w r;obtain⟨l,rfl,E⟩:=J G σ w;obtain⟨f,j,B⟩:=Qfo r parts zs l cs E hf;refine⟨.agg f.toArray,?_,f,rfl,B⟩;have u:Instr.fill (λi=>some (i*k,k)) l.toArray (parts.map λp=>(p.1,a.eval p.2))=some f.toArray:=by
  rw[<- j];refine Qfn _ _ ?_;intro p x;obtain⟨q,F,rfl⟩:=Xe.1 x;have d:q.1<n:=by simpa using Xs.1 h q F
  simp[d]
 generalize hρ:a.eval=ρ at*;simp only[execOp,g,Instr.build,Vi,m,Result.andThen,y,s,XG,Vj,Value.cells,u]
def YS(k:IntKind)(m n:Int):Int:=k.wrap (BitVec.ofInt k.bits m&&& BitVec.ofInt k.bits n).toNat
def orI(k:IntKind)(m n:Int):Int:=k.wrap (BitVec.ofInt k.bits m|||BitVec.ofInt k.bits n).toNat
def Qf3(k:IntKind)(m n:Int):Int:=k.wrap (BitVec.ofInt k.bits m^^^BitVec.ofInt k.bits n).toNat
def QeU(k:IntKind)(m n:Int):Int:=k.wrap (m*2^(min n.toNat k.bits))
def Yl(k:IntKind)(m n:Int):Int:=m.fdiv (2^(min n.toNat k.bits))
theorem OpV.and{t u:TypeId}{x y:Operand}{k:IntKind}{m n:Int}(g:o.op=.binOp .and t x y u)(e:opA env x=.int k m)(h:opA env y=.int k n):OpV P o env H (.int k (YS k m n)):=by
 intro i j σ N a w r;have f:=Qy r e;have d:=Qy r h;refine⟨_,?_,rfl⟩;generalize a.eval=ρ at*;simp[execOp,g,f,d,Go.binOp,eqGuard,Op.intBits,go_sem,YS]
theorem OpV.or{t u:TypeId}{x y:Operand}{k:IntKind}{m n:Int}(g:o.op=.binOp .or t x y u)(e:opA env x=.int k m)(h:opA env y=.int k n):OpV P o env H (.int k (orI k m n)):=by
 intro i j σ N a w r;have f:=Qy r e;have d:=Qy r h;refine⟨_,?_,rfl⟩;generalize a.eval=ρ at*;simp[execOp,g,f,d,Go.binOp,eqGuard,Op.intBits,go_sem,orI]
theorem OpV.xor{t u:TypeId}{x y:Operand}{k:IntKind}{m n:Int}(g:o.op=.binOp .xor t x y u)(e:opA env x=.int k m)(h:opA env y=.int k n):OpV P o env H (.int k (Qf3 k m n)):=by
 intro i j σ N a w r;have f:=Qy r e;have d:=Qy r h;refine⟨_,?_,rfl⟩;generalize a.eval=ρ at*;simp[execOp,g,f,d,Go.binOp,eqGuard,Op.intBits,go_sem,Qf3]
theorem OpV.shl{t u:TypeId}{x y:Operand}{k j:IntKind}{m n:Int}(i:o.op=.binOp .shl t x y u)(f:opA env x=.int k m)(g:opA env y=.int j n)(h:0<=n):OpV P o env H (.int k (QeU k m n)):=by
 intro l p σ N a w r;have e:=Qy r f;have d:=Qy r g;refine⟨_,?_,rfl⟩;generalize a.eval=ρ at*;simp[execOp,i,e,d,Go.binOp,eqGuard,Op.shift,go_sem,QeU,Int.not_lt.2 h]
theorem OpV.shr{t u:TypeId}{x y:Operand}{k j:IntKind}{m n:Int}(i:o.op=.binOp .shr t x y u)(f:opA env x=.int k m)(g:opA env y=.int j n)(h:0<=n):OpV P o env H (.int k (Yl k m n)):=by
 intro l p σ N a w r;have e:=Qy r f;have d:=Qy r g;refine⟨_,?_,rfl⟩;generalize a.eval=ρ at*;simp[execOp,i,e,d,Go.binOp,eqGuard,Op.shift,go_sem,Yl,Int.not_lt.2 h]
theorem Qb0{h0 i m t k T:Nat}{cs:List A}(J:Nat.ble h0 H.length=true)(n:H[i]?=some (.cells T cs))(e:cs[m]?=some .nils):
  Le h0 env H env (H.set i (.cells T (cs.set m (.osl H.length 0 0 k)))++[.row t k []]):=by
 intro L j σ N a w r;have f:h0<=H.length:=XP J;have u:i<H.length:=(XJ.1 n).1;have ext:Ext j σ w j (σ++[none]) w:=⟨λ_ q=>q,λ_ _=>rfl,λ_ _ q=>q,λ_ _ h=>Qac h⟩;have s:=r.sim.phantom t k;have d:(H++[Blk.row t k []])[i]?=some (.cells T cs):=by rw[XK u];exact n
 have z:H.set i (.cells T (cs.set m (.osl H.length 0 0 k)))++[.row t k []]=(H++[Blk.row t k []]).set i (.cells T (cs.set m (.osl H.length 0 0 k))):=by
  rw[List.set_append_left _ _ u]
 rw[z];refine⟨j,σ++[none],⟨s.weaken d rfl ?_,λq=>(r.env q).mono ext,r.size,r.defers⟩,λ_ q=>q,QG (by rw[r.sim.len];exact f)⟩;intro y h;cases y with
 |none=>exact h
 |some b=>
  obtain⟨l,x,G,E⟩:=h;refine⟨l,x,?_,E⟩;clear x E d z n
  induction cs generalizing m l with
  |nil=>cases e
  |cons c cs F=>
   obtain⟨v,g,rfl,B,p⟩:=G;cases m with
   |zero=>
    simp at e;subst e;exact⟨v,g,rfl,.inl ⟨rfl,B⟩,p⟩
   |succ m=>exact⟨v,g,rfl,B,F (by simpa using e) g p⟩
theorem QdN{j i s g n k:Nat}{x:Blk}(B:lk env s=.osl i g n k)(l:H[i]?=some x)(F:Nat.ble j H.length=true):Le j env H (up env s (.osl H.length g n k)) (H.set i .dead++[x]):=by
 intro G f σ N a w r;have z:i<σ.length:=by rw[r.sim.len];exact(XJ.1 l).1
 have hσ:σ[i]?=some σ[i]:=XI z;have ext:Ext f σ w f (σ++[σ[i]]) w:=⟨λ_ q=>q,λ_ _=>rfl,λ_ _ q=>q,λ_ _ h=>Qac h⟩;refine⟨f,σ++[σ[i]],⟨r.sim.moved l hσ,?_,r.size,r.defers⟩,λ_ q=>q,QG (by rw[r.sim.len];exact XP F)⟩;intro d;simp only[lk];by_cases q:d=s
 .subst q;rw[VB];have:=r.env d;rw[B]at this;rcases this with h|⟨b,p,e,t,m,y,u⟩
  .exact .inl h
  .refine .inr ⟨b,p,e,t,m,?_,u⟩;rw[y]at hσ;rw[<- r.sim.len];simpa using hσ.symm
 .have:Nat.beq d s=false:=by
   rw[VI];intro E;exact q (XO E)
  rw[this];exact(r.env d).mono ext
def Q3(n:Int):UInt8:=n.toNat.toUInt8
def QjP(P:Program)(H:Qd)(x:A)(l:List Int):Prop:=
 ∀fr ro σ w v,Sim fr ro σ H w->VR ro σ w x v->(∃a c,v=.slice a 0 c/\l=[])\/ ∃b off c,v=.slice (some ⟨b,off,none⟩) l.length c/\(l=[]\/CR ro σ w b (l.map λn=>A.int .u8 n) off)
theorem Qhh:∀(l:List Int),(l.map (λn=>[A.int .u8 n])).flatten=l.map λn=>A.int .u8 n
 |[]=>rfl
 |n::l=>by simp[Qhh l]
theorem QjP.nils:QjP P H .nils []:=λfr ro σ w v s h=>.inl ⟨none,0,h,rfl⟩
theorem QjP.row{i t n:Nat}{l:List Int}(r:H[i]?=some (.row t 1 (l.map λn=>[A.int .u8 n])):=by exact rfl)(hn:l.length=n:=by exact rfl):QjP P H (.osl i 0 n 1) l:=by
 intro x F σ w v s h;rcases h with⟨rfl,rfl⟩|⟨b,p,a,y,m,j,rfl,f,⟨E,k⟩,B,u⟩
 .exact .inl ⟨none,0,rfl,VF.1 hn⟩
 .refine .inr ⟨b,p,a,by rw[hn],?_⟩;by_cases d:l=[]
  .exact .inl d
  .have:0<a:=by have:=List.length_pos_iff.2 d;omega
   obtain rfl:=f this;obtain⟨z,q,g⟩:=s.blk i _ _ j r;have e:=(YF (pre:=[]) (by simpa using q) g).flat.1;rw[Qhh]at e;exact .inr (by simpa using e.lift)
theorem QjP.rsl{l:List Int}:QjP P H (.rsl 1 (l.map λn=>[A.int .u8 n])) l:=by
 intro h j σ w v s ⟨a,c,h1,h2,d⟩;subst h1;rw[XY]at*;rcases d with d|⟨b,e,rfl,i,g⟩
 .have:l=[]:=List.map_eq_nil_iff.1 d;subst this;exact .inl ⟨a,c,by simp,rfl⟩
 .have f:=g.flat.1;rw[Qhh]at f;exact .inr ⟨b,e,c,rfl,.inr f.lift⟩
theorem Qcp{ro:Nat->Prop}{σ:Sig}{w:World}{b:Nat}:∀(l:List Int) (off:Nat) (a:ByteArray),CR ro σ w b (l.map λn=>A.int .u8 n) off->(Extern.Bytes.loadBytes ⟨b,off,none⟩ l.length a).run P w=.ok ⟨a.data++(l.map Q3).toArray⟩ w
 |[],off,a,_=>by simp[Extern.Bytes.loadBytes,go_sem]
 |n::l,off,a,⟨⟨v,h1,hp,h2⟩,h3⟩=>by
  have h2':v=.int .u8 n:=h2;subst h2';have ih:=Qcp l (off+1) (a.push n.toNat.toUInt8) h3;have hl:(Go.load ⟨b,off,none⟩).run P w=.ok (.int .u8 n) w:=by simp[Go.load,Sem.run,h1]
  simp only[XX,Extern.Bytes.loadBytes,Vi,hl,Result.andThen];have d:(⟨b,off,none⟩:Addr).add 1=⟨b,off+1,none⟩:=by simp[Y3]
  rw[d,ih];simp[Q3,ByteArray.push]
theorem QdU{fr ro:Nat->Prop}{σ:Sig}{w:World}{x:A}{l:List Int}{v:Value}(h:QjP P H x l)(s:Sim fr ro σ H w)(f:VR ro σ w x v):(Extern.Bytes.bytesOf v).run P w=.ok ⟨(l.map Q3).toArray⟩ w:=by
 rcases h fr ro σ w v s f with⟨a,c,rfl,rfl⟩|⟨b,d,c,rfl,e⟩
 .cases a with
  |none=>simp[Extern.Bytes.bytesOf,go_sem];rfl
  |some a=>simp[Extern.Bytes.bytesOf,Extern.Bytes.loadBytes,go_sem];rfl
 .rcases e with rfl|e
  .simp[Extern.Bytes.bytesOf,Extern.Bytes.loadBytes,go_sem];rfl
  .have:=Qcp (P:=P) l d .empty e;simp only[Extern.Bytes.bytesOf,this];congr 2;simp[ByteArray.empty,ByteArray.emptyWithCapacity];rfl
def cmpB(l m:List Int):Int:=Lib.compareBytes (l.map Q3) (m.map Q3)
theorem OpV.cmpB{c:Call}{f:FuncId}{fn:Func}{x y:Operand}{z:Array TypeId}{ax g:A}{l m:List Int}(s:P.funcs[f]?=some fn)(d:(fn.name=="runtime.NumGoroutine")=false)(k:fn.body.isNone=true)(t:Extern.findNext fn=none)(he:Extern.find fn=some Extern.BytealgCompare.compare)
  (p:QjP P H ax l)(j:QjP P H g m)(E:o.op=.call c:=by exact rfl)(hc:c={callee:=.value (.func f),args:= #[x,y],argTypes:=z}:=by exact rfl)(hx:opA env x=ax:=by exact rfl)(hy:opA env y=g:=by exact rfl):OpV P o env H (.int .i64 (cmpB l m)):=by
 intro F G σ N a w r;have h:=Qk r x;rw[hx]at h;have i:=Qk r y;rw[hy]at i;have q:=QdU p r.sim h;have B:=QdU j r.sim i;refine⟨.int .i64 (Sw.cmpB l m),?_,rfl⟩;subst hc;have e:a.eval (.func f)=.func (.func f) #[] #[]:=rfl;have u:(callFunc f #[a.eval x,a.eval y]).run P w=.ok (.value (.int .i64 (Sw.cmpB l m))) w:=by
  rw[run_callFunc_extern s d k t he];have n:Sem.run P (Extern.BytealgCompare.compare #[a.eval x,a.eval y]) w=.ok (.int .i64 (Sw.cmpB l m)) w:=by
   change Sem.run P (do pure (goInt (Extern.BytealgCompare.cmp (<- Extern.Bytes.bytesOf (a.eval x)) (<- Extern.Bytes.bytesOf (a.eval y))))) w=_;simp only[Vi,q,B,Result.andThen,Vj,Lib.cmp_eq];rfl
  rw[n];rfl
 generalize a.eval=ρ at*;simp only[execOp,E,resolve,e,Deferred.ofValue,invoke,Vi,Vj,Result.andThen];simpa using u
theorem YZ{t p n k b off j:Nat}{x y:Operand}{i:Int}{u:IntKind}(m:(i==(j:Int))=true)(J:Nat.blt j n=true)(M:∀w,(underlying t).run P w=.ok (.array n p) w)(B:∀w,(sizeOf p).run P w=.ok k w)(g:Nat.ble 2 n=true)
  (L:o.op=.indexAddr t x y:=by exact rfl)(hx:opA env x=.ptr b off:=by exact rfl)(hy:opA env y=.int u i:=by exact rfl):OpV P o env H (.ptr b (off+j*k)):=by
 intro Q O σ N a w r;have e:=Qk r x;rw[hx]at e;obtain⟨f,e,G⟩:=e;have s:=Qk r y;rw[hy]at s;have l:a.eval y=.int u i:=s;have z:i=(j:Int):=by simpa using m
 have h:j<n:=by simpa using J
 have F:2<=n:=XP g;subst z;refine⟨.pointer (some ⟨f,off+j*k,none⟩),?_,f,e,rfl⟩;have E:0<=(j:Int)/\(j:Int)<(n:Int):=by omega
 have d:(⟨f,off,none⟩:Addr).add ((j:Int).toNat*k)=⟨f,off+j*k,none⟩:=by
  unfold Addr.add;split
  .rename_i q;simp at q;simp[q]
  .simp
 generalize a.eval=ρ at*;simp[execOp,L,G,l,Instr.indexAt,asIntOf,M,B,Instr.sureAddr,E,d,go_sem,Result.andThen,h]
end
theorem Qmp{P:Program}{W:World}{name:String}{d:DataW Unit}:∀{a:List (String×DataW Unit)} {ps:List MemPlace},DataW.LaidVars P W a ps->(name,d)∈a->
  ∃(g:Nat) (t:TypeId) (cs:Array Value) (e:Nat) (p:List MemPlace),P.globalNamed name=some g/\(P.globals[g]?).map (·.type)=some t/\W.var? P name=some cs/\DataW.trod (λ_=>()) P W 0 (λ_=>true) false e t cs.toList=some (d,p):=by
 intro a
 induction a with
 |nil=>simp
 |cons x a j=>
  intro ps h f;obtain⟨g,t,cs,e,p,q,l,i,r,n,k,m⟩:=h
  grind
theorem Yo{P:Program}{W:World}{name:String}{a b:Int}{g t e:Nat}{m i:Field}{d:List (String×DataW Unit)}{ps:List MemPlace}(h:DataW.LaidVars P W d ps)(N:(name,DataW.agg [.lit (.int .i64 a),.lit (.int .i64 b)])∈d)
  (hg:P.globalNamed name=some g)(l:(P.globals[g]?).map (·.type)=some t)(Q:P.underlying t=some (.struct #[m,i]))(x:m.type=e)(w:i.type=e)(O:m.offset=0)(G:i.offset=1)(he:P.underlying e=some (.int .i64))(f:P.cellsOf e=1)(k:P.cellsOf t=2):
  W.cell? ⟨g,0,none⟩=some (.int .i64 a)/\W.cell? ⟨g,1,none⟩=some (.int .i64 b):=by
 obtain⟨g',Y,T,q,p,J,B,r,M⟩:=Qmp h N;obtain rfl:=XW (hg.symm.trans J);obtain rfl:=XW (l.symm.trans B);obtain⟨X,y1,n,V,E,s,u⟩:=Go.ChangeShapes.trod_struct2 Q M;rw[x,O,f]at s;rw[w,G,f]at u;obtain⟨y,H,R,_⟩:=DataW.trod_int he s;obtain⟨L,F,z,_⟩:=DataW.trod_int he u;subst R z;have j:a=y/\b=L:=by grind
 obtain⟨rfl,rfl⟩:=j;rw[World.var?_cell hg r,World.var?_cell hg r];rw[k]at E;constructor
 .have:=congrArg (·[0]?) H
  grind
 .have:=congrArg (·[0]?) F
  grind
theorem JE{w:World}{g:Nat}{a b:Int}(s:w.cell? ⟨g,0,none⟩=some (.int .i64 a)/\w.cell? ⟨g,1,none⟩=some (.int .i64 b)):∀(zs:List Int),some [a,b]=some zs->∀(i:Nat) (z:Int),zs[i]?=some z->w.cell? ⟨g,i,none⟩=some (.int .i64 z)
 |zs,h,0,z,hi=>by grind
 |zs,h,1,z,hi=>by grind
 |zs,h,i+2,z,hi=>by grind
def Qbm:Option Blk->Bool
 |some .dead=>true
 |_=>false
def Qao(hB hE:Nat)(H H':Qd):Bool:=(List.range (hE-hB)).all λp=> !Qbm H'[hB+p]? ||Qbm H[hB+p]?
def QkP(hB hE:Nat)(σ:Sig)(H:Qd):Prop:=∀p,hB<=p->p<hE->Qbm H[p]?=true->σ[p]?=some none
theorem Qlr{hB hE:Nat}{H H':Qd}(h:Qao hB hE H H'=true){p:Nat}(e:hB<=p)(d:p<hE)(a:Qbm H'[p]?=true):Qbm H[p]?=true:=by
 have:=Xs.1 h (p-hB) (List.mem_range.2 (by omega));rw[show hB+(p-hB)=p by omega,a]at this;simpa using this
theorem Sim.allocAt{fr ro:Nat->Prop}{σ:Sig}{H:Qd}{w:World}(s:Sim fr ro σ H w){p:Nat}(M:σ[p]?=some none){obj:Obj}{x:Blk}
  (O:BR ro (σ.set p (some w.heap.size)) (w.alloc obj) x (some w.heap.size))
  (F:∀c,Hid (w.alloc obj) x w.heap.size c->False:=by exact λ_ h=>h.elim):Sim fr ro (σ.set p (some w.heap.size)) (H.set p x) (w.alloc obj):=by
 have ev:Qi fr ro w ro (w.alloc obj):=Qi.alloc obj s.roLt s.frLt;have t:=s.len;have E:p<σ.length:=(XJ.1 M).1;have u:Ext ro σ w ro (σ.set p (some w.heap.size)) (w.alloc obj):=⟨ev.sub,ev.keepRo,ev.shape,λi b q=>by
  rw[XN (λz=>by subst z;rw[M]at q;cases q)];exact q⟩
 have e:∀(i:Nat) (y:Option Nat),(σ.set p (some w.heap.size))[i]?=some y->(i≠p/\σ[i]?=some y)\/(i=p/\y=some w.heap.size):=by
  intro i y h;by_cases q:i=p
  .subst q;rw[Xa E]at h;exact .inr ⟨rfl,(XW h).symm⟩
  .rw[XN (λz=>q z.symm)]at h;exact .inl ⟨q,h⟩
 have n:∀i:Nat,i≠p->(H.set p x)[i]?=H[i]? :=λi N=>XN (λz=>N z.symm);have G:(H.set p x)[p]?=some x:=Xa (by omega);refine⟨by simp[t],s.roOk.to (λ_ q=>q) ev.keepRo (λb h=>?_),λb h=>?_,s.roFr,?_,?_,?_,s.hidTo (· = ·) Yc (by rw[Ja];omega) (λ_ _ _ _ _ _ _ q=>q) (λ_ _ _ _ _ _ _ q=>q) λj d y l k Q=>?_⟩
 rotate_left 5
 .rcases e j _ l with⟨q,l⟩|⟨rfl,m⟩
  .rw[n j q]at k;exact .inl ⟨j,y,rfl,l,k,id,λc q=>s.hidKeep l k (λz=>YD w obj d (s.own j d y l k z).1) ev.keepRo q⟩
  .rw[G]at k;cases k;cases m;exact .inr ⟨XR _,F⟩
 .rw[Ja];have:=s.roLt b h;omega
 .rw[Ja];have:=s.frLt b h;omega
 .intro i b y f g r;rw[Ja];rcases e i _ f with⟨q,f⟩|⟨rfl,m⟩
  .rw[n i q]at g;obtain⟨a,b,c⟩:=s.own i b y f g r;exact⟨by omega,b,c⟩
  .cases m;exact⟨by omega,λq=>by have:=s.roLt _ q;omega,λq=>by have:=s.frLt _ q;omega⟩
 .intro i j b y z f g r B L J;rcases e i _ f with⟨q,l⟩|⟨P,m⟩<;>rcases e j _ g with⟨q',k⟩|⟨ej,e2⟩
  .rw[n i q]at r;rw[n j q']at B;exact s.inj i j b y z l k r B L J
  .cases e2;rw[n i q]at r;have:=(s.own i _ y l r L).1;omega
  .cases m;rw[n j q']at B;have:=(s.own j _ z k B J).1;omega
  .rw[P,ej]
 .intro i y z f g;rcases e i _ f with⟨q,f⟩|⟨rfl,m⟩
  .rw[n i q]at g;refine(s.blk i y z f g).keep u ?_ ?_
   .rintro b rfl t;exact YD w obj b (s.own i b z f g t).1
   .rintro b c rfl t;exact YD w obj c (s.hid i b z c f g t).lt
  .rw[G]at g;cases g;subst m;exact O
def OpZ(P:Program)(o:Oper)(t:Nat)(cs:List A):Prop:=
 ∀(ro:Nat->Prop) (σ:Sig) (w:World) (a:Act),∃l:List Value,(execOp a.eval o).run P w=.ok (.value (.pointer (some ⟨w.heap.size,0,none⟩))) (w.alloc (.cells l.toArray t))/\LR ro σ w cs l/\ ∀v∈l,Qx v
theorem OpZ.alloc{P:Program}{o:Oper}{t:Nat}{z:Value}{v:A}{cs:List A}(g:∀w,(zeroValue t).run P w=.ok z w)(j:ZR v z)(h:o.op=.alloc t:=by exact rfl)(hk:Yp v=true:=by exact rfl)(hcs:Yf v=cs:=by exact rfl)(hpl:cs.all Yz=true:=by exact rfl):
  OpZ P o t cs:=by
 intro i σ w a;obtain⟨l,f,d⟩:=(j i σ w).cells hk;subst hcs;refine⟨l,?_,d,d.plain hpl⟩;generalize a.eval=ρ at*;have e:(newVar t z).run P w=.ok ⟨w.heap.size,0,none⟩ (w.alloc (.cells l.toArray t)):=by
  unfold newVar;rw[f];rfl
 simp only[execOp,h,Instr.alloc,Vi,g,Result.andThen,e];rfl
def OpZR(P:Program)(o:Oper)(e:Env)(H:Qd)(p:Nat)(x:A)(B:Blk):Prop:=
 ∀fr ro σ N a w,Rel fr ro σ H e N a w->∃v obj,(execOp a.eval o).run P w=.ok (.value v) (w.alloc obj)/\(∀c,Hid (w.alloc obj) B w.heap.size c->False)/\
  ∀σ',σ'[p]?=some (some w.heap.size)->Ext ro σ w ro σ' (w.alloc obj)->VR ro σ' (w.alloc obj) x v/\BR ro σ' (w.alloc obj) B (some w.heap.size)
theorem Qb5{P:Program}{l:List Oper}{i:Nat}{o:Oper}{rd:Option Nat}{R:Exit->Act->World->Prop}{Q:Exit->Act->World->Prop}{K:Act->World->Prop}{a:Act}{w:World}
  (E:l[i]?=some o)(h:wpL P rd l.toArray R [o] a w)(j:∀e a' w',R e a' w'->e=.normal/\a'.defers=a.defers)(m:∀v w',R .normal (a.put o.dst v) w'->K (a.put o.dst v) w'):
  wpOpIn (WF rd) 0 P l.toArray Q i K a w:=by
 unfold wpOpIn;have s:l.toArray[i]?=some o:=by simpa using E
 rw[s];simp only;unfold wpL wpListIn at h;split at h
 .rename_i u;rw[Vp u];obtain⟨k,h⟩:=h;refine⟨k,?_⟩;have g:=QhS (by
   intro a' w' q;unfold wpListIn at q;exact(j _ _ _ q).2) h
  generalize(o.semAt (WF rd).round a.eval).run P w=res at*;cases res with
  |ok n w'=>
   cases n with
   |value v=>exact m _ _ g.1
   |skip=>exact m _ _ g.1
   |defer F=>
    exfalso;have:=(j _ _ _ g.1).2;have:=congrArg List.length this
    revert this
    cases o.dst<;>simp[Act.put]
   |enter f p=>
    refine⟨g.1,CallsIn.mono g.2 (λe t d=>?_)⟩;cases e with
    |returned v=>exact m _ _ d.1
    |panicked c=>have:=(j _ _ _ d).1;cases this
    |outgrown=>obtain⟨B,w1,d⟩:=d;have:=(j _ _ _ d).1;cases this
   |row r p=>
    exact⟨g.1,RowsIn.mono g.2 (λ_ _ d=>m _ _ d.1)⟩
   |round l f y assign z=>
    refine⟨g.1,RoundIn.mono g.2 (λe t d=>?_)⟩;cases e with
    |returned v=>exact m _ _ d.1
    |panicked c=>have:=(j _ _ _ d).1;cases this
    |outgrown=>obtain⟨B,w1,d⟩:=d;have:=(j _ _ _ d).1;cases this
   |_=>exact g.elim
  |halt x w'=>
   cases x with
   |panic v=>have:=(j _ _ _ g).1;cases this
   |_=>exact g.elim
 .rename_i u;rw[Vn u];obtain⟨k,h⟩:=h;refine⟨k,?_⟩;unfold wpListIn at h;exact m _ _ h
theorem Qlq{P:Program}{l:List Oper}{m:Nat}(r:∀i o,l[i]?=some o->∀j∈Qh o,j<i)(n:∀i o,m<i->l[i]?=some o->i-1∈Qh o){Q:Exit->Act->World->Prop}{rd:Option Nat}:
  ∀(d t:Nat) (L:Array Bool) (a:Act) (w:World),L.size=l.length->(∀i,i<l.length->(onL L i↔i<t))->unl L<=d->m<=t->t<=l.length->
   wpL P rd l.toArray Q (l.drop t) a w->wpAnyIn (WF rd) 0 P .any l.toArray Q d L a w:=by
 intro d
 induction d with
 |zero=>
  intro t L a w hsz hL hf hm ht h;have:t=l.length:=by
   rcases Vy t l.length with q|q
   .have:=Qj3 (L:=L) (i:=t) (by omega) (λz=>by have:=(hL t q).1 z;omega);omega
   .omega
  subst this;refine⟨List.eq_nil_iff_forall_not_mem.2 λi p=>?_,?_⟩
  .obtain⟨o,f,k,_⟩:=(QaC hsz).1 p;have e:=(XJ.1 f).1;exact k ((hL i e).2 e)
  .rw[Xq]at h;exact h
 |succ d H=>
  intro t L a w hsz hL hf hm ht h;have u:∀i o,l[i]?=some o->¬onL L i->(∀j∈Qh o,onL L j)->i=t:=by
   intro i o f k x;have e:=(XJ.1 f).1;have J:t<=i:=by
    rcases Vy i t with q|q
    .exact absurd ((hL i e).2 q) k
    .exact q
   rcases Vy t i with q|q
   .have:=(hL (i-1) (by omega)).1 (x _ (n i o (by omega) f));omega
   .omega
  rcases Vy t l.length with g|g
  .have G:l[t]?=some l[t]:=XI g;have s:¬onL L t:=λq=>by have:=(hL t g).1 q;omega
   have E:t∈Region.ready .any l.toArray L:=by
    refine(QaC hsz).2 ⟨_,G,s,λj B=>?_⟩;have:=r t _ G j B;exact(hL j (by omega)).2 this
   refine⟨λq=>(by rw[q]at E;cases E),λi p=>?_⟩;obtain⟨o,f,k,x⟩:=(QaC hsz).1 p;obtain rfl:=u i o f k x;rw[Xo g]at h;obtain rfl:l[i]=o:=by rw[XI g]at f;exact XW f
   unfold wpOpIn;rw[show l.toArray[i]?=some l[i]by rw[XE];exact f];simp only;unfold wpL wpListIn at h;have F:∀a w,wpL P rd l.toArray Q (l.drop (i+1)) a w->wpAnyIn (WF rd) 0 P .any l.toArray Q d (L.setIfInBounds i true) a w:=by
    intro a w q;have M:=QgY (L:=L) (i:=i) (by omega) s;refine H (i+1) _ a w (by simpa using hsz) (λj B=>?_) (by omega) (by omega) (by omega) q;rw[JG (by omega),hL j B];omega
   split at h
   .rename_i y;rw[Vp y];exact Oper.wpIn_mono F h
   .rename_i y;rw[Vn y];exact⟨h.1,F _ _ h.2⟩
  .have:t=l.length:=by omega
   subst this;rw[Xq]at h;refine⟨λ_=>h,λi p=>?_⟩;obtain⟨o,f,k,_⟩:=(QaC hsz).1 p;have e:=(XJ.1 f).1;exact absurd ((hL i e).2 e) k
def Qnx(af ds:List Nat)(xs:List A)(env0 e:Env):Prop:=
 ∀s,(∃j x,af.contains j=true/\ds[j]?=some s/\xs[j]?=some x/\lk e s=x)\/lk e s=.any\/(ds.contains s=false/\lk e s=lk env0 s)
inductive JC (P:Program) (N:Nat) (l:List Oper) (ds:List Nat) (xs:List A) (env0:Env) (hB hE:Nat) (i:Nat) (H H':Qd):Prop
 |mk (o:Oper) (e:Env) (d:Nat) (x:A) (ho:l[i]?=some o) (hd:o.dst=some d) (hx:xs[i]?=some x) (hdd:Qao hB hE H H'=true) (hs:Sb (Qh o) (QhB l i) ds xs env0 e)
   (h:WO P H.length N l.toArray [o] e H (Y8 (up e d x) H')):JC P N l ds xs env0 hB hE i H H'
 |unit (o:Oper) (e:Env) (ho:l[i]?=some o) (hd:o.dst=none) (hx:xs[i]?=some .any) (hdd:Qao hB hE H H'=true) (hs:Sb (Qh o) (QhB l i) ds xs env0 e)
   (h:WO P H.length N l.toArray [o] e H (Y8 e H')):JC P N l ds xs env0 hB hE i H H'
 |alloc (o:Oper) (d t p:Nat) (cs:List A) (ho:l[i]?=some o) (hd:o.dst=some d) (hg:o.guard=none) (hx:xs[i]?=some (.ptr p 0)) (hp:(Nat.ble hB p&&Nat.blt p hE)=true) (hdead:Qbm H[p]?=true)
   (hH:H.set p (.cells t cs)=H') (h:OpZ P o t cs) (hN:Nat.blt d N=true):JC P N l ds xs env0 hB hE i H H'
 |row (o:Oper) (e:Env) (d p:Nat) (x:A) (B:Blk) (ho:l[i]?=some o) (hd:o.dst=some d) (hg:o.guard=none) (hx:xs[i]?=some x) (hp:(Nat.ble hB p&&Nat.blt p hE)=true) (hdead:Qbm H[p]?=true) (hlive:Qbm (some B)=false)
   (hH:H.set p B=H') (hs:Sb (Qh o) (QhB l i) ds xs env0 e) (h:OpZR P o e H p x B) (hN:Nat.blt d N=true):JC P N l ds xs env0 hB hE i H H'
 |val (o:Oper) (e:Env) (d:Nat) (x:A) (ho:l[i]?=some o) (hd:o.dst=some d) (hg:o.guard=none) (hx:xs[i]?=some x) (hN:Nat.blt d N=true) (he:Qnx (Qh o) ds xs env0 e) (h:OpV P o e H x)
   (hH:H=H':=by rfl):JC P N l ds xs env0 hB hE i H H'
 |woE (o:Oper) (e:Env) (d:Nat) (x:A) (ho:l[i]?=some o) (hd:o.dst=some d) (hx:xs[i]?=some x) (he:Qnx (Qh o) ds xs env0 e) (hdd:Qao hB hE H H'=true) (h:WO P H.length N l.toArray [o] e H (Y8 (up e d x) H')):JC P N l ds xs env0 hB hE i H H'
theorem Sb.rel{af g f:List Nat}{xs:List A}{env0 e:Env}{ro:Nat->Prop}{σ:Sig}{w:World}{a:Act}(k:Sb af g f xs env0 e)
  (i:∀j∈af,∀s x,f[j]?=some s->xs[j]?=some x->VR ro σ w x (a.tmps.getD s undef))
  (h:∀s,f.contains s=false->VR ro σ w (lk env0 s) (a.tmps.getD s undef))(hP:∀j s,g.contains j=true->f[j]?=some s->VR ro σ w (lk env0 s) (a.tmps.getD s undef)):
  ∀s,VR ro σ w (lk e s) (a.tmps.getD s undef):=by
 intro s
 induction k with
 |nil=>exact trivial
 | @dep j s1 x1 r h1 h2 h3 _ ih=>
  unfold lk;cases d:Nat.beq s s1 with
  |false=>exact ih
  |true=>
   obtain rfl:=XO d;exact i j (by simpa using h1) _ _ h2 h3
 | @old s1 x1 r h1 h2 _ ih=>
  unfold lk;cases d:Nat.beq s s1 with
  |false=>exact ih
  |true=>
   obtain rfl:=XO d;subst h2;exact h _ h1
 | @pre j s1 x1 r h1 h2 h3 _ ih=>
  unfold lk;cases d:Nat.beq s s1 with
  |false=>exact ih
  |true=>
   obtain rfl:=XO d;subst h3;exact hP j _ h1 h2
structure After (fr ro:Nat->Prop) (σ:Sig) (w:World) (hB hE:Nat) (H':Qd) (xs:List A) (i:Nat) (o:Oper) (a':Act) (w':World) (ro':Nat->Prop) (σ':Sig):Prop where
 val:∀x,xs[i]?=some x->match o.dst with
  |some d=>VR ro' σ' w' x (a'.tmps.getD d undef)
  |none=>x=.any
 sim:Sim fr ro' σ' H' w'
 ev:Qi fr ro w ro' w'
 ext:Ext ro σ w ro' σ' w'
 holes:QkP hB hE σ' H'
 take:σ'.take hB=σ.take hB
theorem JC.use{P:Program}{N:Nat}{l:List Oper}{ds:List Nat}{xs:List A}{env0:Env}{hB hE i:Nat}{H H':Qd}(hb:JC P N l ds xs env0 hB hE i H H')
  {Q:Exit->Act->World->Prop}{K:Act->World->Prop}{fr ro:Nat->Prop}{σ:Sig}{a:Act}{w:World}{o:Oper}{rd:Option Nat}(O:l[i]?=some o)
  (f:Sim fr ro σ H w)(hN:a.tmps.size=N)(n:Qcy fr a.defers w)(ac:QdL rd fr w)(hh:QkP hB hE σ H)(hl:hE<=H.length)(ak:hB<=hE)
  (hD:∀j∈Qh o,∀s x,ds[j]?=some s->xs[j]?=some x->VR ro σ w x (a.tmps.getD s undef))
  (hO:∀s,ds.contains s=false->VR ro σ w (lk env0 s) (a.tmps.getD s undef))(hP:∀j s,(QhB l i).contains j=true->ds[j]?=some s->VR ro σ w (lk env0 s) (a.tmps.getD s undef))
  (hK:∀v w' ro' σ',After fr ro σ w hB hE H' xs i o (a.put o.dst v) w' ro' σ'->K (a.put o.dst v) w'):
  wpOpIn (WF rd) 0 P l.toArray Q i K a w:=by
 have aa:∀{e:Env} {H2:Qd} {E:Exit} {u:Act} {w':World},QbC H.length fr ro σ w N a.defers (Y8 e H2) E u w'->E=.normal/\u.defers=a.defers:=by
  rintro e H2 E u w' ⟨x,_,_,_,_,_,k,⟨rfl,_⟩,_,_,_,L,_⟩;refine⟨?_,L⟩;cases E<;>first|rfl|exact k.elim|cases k
 have aj:∀{σ':Sig} {w':World},Qi fr ro w ro w'->σ'.take H.length=σ.take H.length->True:=λ_ _=>trivial;have V:∀{e:Env} {u:Act} {w':World},QbC H.length fr ro σ w N a.defers (Y8 e H') .normal u w'->Qao hB hE H H'=true->
   ∃ro' σ',Sim fr ro' σ' H' w'/\Qi fr ro w ro' w'/\Ext ro σ w ro' σ' w'/\QkP hB hE σ' H'/\σ'.take hB=σ.take hB/\ ∀s,VR ro' σ' w' (lk e s) (u.tmps.getD s undef):=by
  rintro e u w' ⟨_,ai,H2,ro',σ',al,_,⟨_,rfl,rfl⟩,r',he,ht,_,ah⟩ J;have hσ:σ'=σ++σ'.drop H.length:=by
   conv=>lhs;rw[<- Xx H.length σ']
   rw[ht, <- f.len,X6]
  refine⟨ro',σ',r'.sim.frMono ah.sub,he,?_,?_,?_,r'.env⟩
  .rw[hσ];exact he.ext σ _
  .intro p k L h3;have:=hh p k L (Qlr J k L h3);rw[hσ,XK (by rw[f.len];omega)];exact this
  .rw[hσ];exact QG (by rw[f.len];omega)
 cases hb with
 |woE r e d x g M W he J h=>
  obtain rfl:r=o:=XW (g.symm.trans O);have hr:∀s,VR ro σ w (lk e s) (a.tmps.getD s undef):=λs=>by
   rcases he s with⟨j,x,k,L,h3,X⟩|X|⟨k,X⟩
   .rw[X];exact hD j (by simpa using k) s x L h3
   .rw[X];exact trivial
   .rw[X];exact hO s k
  refine Qb5 O (h rd fr ro σ a w ⟨f,hr,hN,n⟩ ac) (λ_ _ _ q=>aa q) (λv w' q=>?_);obtain⟨ro',σ',g1,g2,F,g4,g5,g6⟩:=V q J;refine hK v w' ro' σ' ⟨λy T=>?_,g1,g2,F,g4,g5⟩;obtain rfl:=XW (W.symm.trans T);have:=g6 d;unfold lk at this;rw[VB]at this;rw[M]at this⊢;exact this
 |mk r e d x g M W J hs h=>
  obtain rfl:r=o:=XW (g.symm.trans O);refine Qb5 O (h rd fr ro σ a w ⟨f,hs.rel hD hO hP,hN,n⟩ ac) (λ_ _ _ q=>aa q) (λv w' q=>?_);obtain⟨ro',σ',g1,g2,F,g4,g5,g6⟩:=V q J;refine hK v w' ro' σ' ⟨λy T=>?_,g1,g2,F,g4,g5⟩;obtain rfl:=XW (W.symm.trans T);have:=g6 d;unfold lk at this;rw[VB]at this;rw[M]at this⊢;exact this
 |unit r e g M W J hs h=>
  obtain rfl:r=o:=XW (g.symm.trans O);refine Qb5 O (h rd fr ro σ a w ⟨f,hs.rel hD hO hP,hN,n⟩ ac) (λ_ _ _ q=>aa q) (λv w' q=>?_);obtain⟨ro',σ',g1,g2,F,g4,g5,g6⟩:=V q J;refine hK v w' ro' σ' ⟨λy T=>?_,g1,g2,F,g4,g5⟩;obtain rfl:=XW (W.symm.trans T);rw[M]
 |val r e d x g M hg W ab he h hH=>
  obtain rfl:r=o:=XW (g.symm.trans O);subst hH;have hr:Rel fr ro σ H e N a w:=by
   refine⟨f,λs=>?_,hN,n⟩;rcases he s with⟨j,x,k,L,h3,X⟩|X|⟨k,X⟩
   .rw[X];exact hD j (by simpa using k) s x L h3
   .rw[X];exact trivial
   .rw[X];exact hO s k
  obtain⟨v0,k,L⟩:=h fr ro σ N a w hr;have hw:Region.wanted r (yielded l.toArray a.tmps)=true:=by unfold Region.wanted;rw[hg]
  refine Qb5 (R:=λE u w'=>E=.normal/\u.defers=a.defers/\u=a.put r.dst v0/\w'=w) O (Qab hw k ?_) (λ_ _ _ q=>⟨q.1,q.2.1⟩) (λv w' q=>?_)
  .unfold wpL wpListIn;refine⟨rfl,?_,rfl,rfl⟩;rw[M];rfl
  .obtain⟨_,_,q1,rfl⟩:=q;refine hK v _ ro σ ⟨λy T=>?_,f,Qi.refl _ _ _,⟨λ_ q=>q,λ_ _=>rfl,λ_ _ q=>q,λ_ _ q=>q⟩,hh,rfl⟩;obtain rfl:=XW (W.symm.trans T);rw[q1,M];have Y:d<a.tmps.size:=by rw[hN];simpa using ab
   show VR ro σ w' x _;simpa[Act.put,Array.getD_eq_getD_getElem?,Y]using L
 |row r e d p x B g M hg W hp G hlive hH hs h ab=>
  obtain rfl:r=o:=XW (g.symm.trans O);subst hH;simp only[XU]at hp;have ag:=XP hp.1;have af:p<hE:=by simpa using hp.2
  have hσp:=hh p ag af G;have hr:Rel fr ro σ H e N a w:=⟨f,hs.rel hD hO hP,hN,n⟩;obtain⟨v0,ae,k,L,h3⟩:=h fr ro σ N a w hr;have hw:Region.wanted r (yielded l.toArray a.tmps)=true:=by unfold Region.wanted;rw[hg]
  have ev:Qi fr ro w ro (w.alloc ae):=Qi.alloc _ f.roLt f.frLt;have ad:p<σ.length:=by rw[f.len];omega
  have m:Ext ro σ w ro (σ.set p (some w.heap.size)) (w.alloc ae):=⟨ev.sub,ev.keepRo,ev.shape,λj b q=>by
   rw[XN (λz=>by subst z;rw[hσp]at q;cases q)];exact q⟩
  obtain⟨g8,g9⟩:=h3 _ (Xa ad) m;refine Qb5 (R:=λE u w'=>E=.normal/\u.defers=a.defers/\u=a.put r.dst v0/\w'=w.alloc ae) O (Qab hw k ?_) (λ_ _ _ q=>⟨q.1,q.2.1⟩) (λv w' q=>?_)
  .unfold wpL wpListIn;refine⟨rfl,?_,rfl,rfl⟩;rw[M];rfl
  .obtain⟨_,_,q1,rfl⟩:=q;refine hK v _ ro (σ.set p (some w.heap.size)) ⟨λy T=>?_,f.allocAt hσp g9 L,ev,m,λp' g1 g2 F=>?_,?_⟩
   .obtain rfl:=XW (W.symm.trans T);rw[q1,M];have Y:d<a.tmps.size:=by rw[hN];simpa using ab
    show VR ro _ _ x _;simpa[Act.put,Array.getD_eq_getD_getElem?,Y]using g8
   .by_cases q:p'=p
    .subst q;rw[Xa (by omega),hlive]at F;cases F
    .rw[XN (λz=>q z.symm)]at F⊢;exact hh p' g1 g2 F
   .rw[List.take_set,List.set_eq_of_length_le];rw[Xw];omega
 |alloc r d t p cs g M hg W hp G hH h ab=>
  obtain rfl:r=o:=XW (g.symm.trans O);subst hH;simp only[XU]at hp;have ag:=XP hp.1;have af:p<hE:=by simpa using hp.2
  have hσp:=hh p ag af G;obtain⟨lv,k,L,h3⟩:=h ro σ w a;have hw:Region.wanted r (yielded l.toArray a.tmps)=true:=by unfold Region.wanted;rw[hg]
  have ev:Qi fr ro w ro (w.alloc (.cells lv.toArray t)):=Qi.alloc _ f.roLt f.frLt;have ad:p<σ.length:=by rw[f.len];omega
  have m:Ext ro σ w ro (σ.set p (some w.heap.size)) (w.alloc (.cells lv.toArray t)):=⟨ev.sub,ev.keepRo,ev.shape,λj b q=>by
   rw[XN (λz=>by subst z;rw[hσp]at q;cases q)];exact q⟩
  refine Qb5 (R:=λE u w'=>E=.normal/\u.defers=a.defers/\u=a.put r.dst (.pointer (some ⟨w.heap.size,0,none⟩))/\w'=w.alloc (.cells lv.toArray t)) O (Qab hw k ?_) (λ_ _ _ q=>⟨q.1,q.2.1⟩) (λv w' q=>?_)
  .unfold wpL wpListIn;refine⟨rfl,?_,rfl,rfl⟩;rw[M];rfl
  .obtain⟨_,_,q1,rfl⟩:=q;refine hK v _ ro (σ.set p (some w.heap.size)) ⟨λy T=>?_,f.allocAt hσp ⟨lv,Q6 _ _,L.mono m,h3⟩,ev,m,λp' g1 g2 F=>?_,?_⟩
   .obtain rfl:=XW (W.symm.trans T);rw[q1,M];have Y:d<a.tmps.size:=by rw[hN];simpa using ab
    refine⟨w.heap.size,Xa ad,?_⟩;simp[Act.put,Array.getD_eq_getD_getElem?,Y]
   .by_cases q:p'=p
    .subst q;rw[Xa (by omega)]at F;cases F
    .rw[XN (λz=>q z.symm)]at F⊢;exact hh p' g1 g2 F
   .rw[List.take_set,List.set_eq_of_length_le];rw[Xw];omega
def same(a b:List Nat):Bool:=a.all (b.contains ·)&&b.all (a.contains ·)
theorem QnO{a b:List Nat}(h:same a b=true)(i:Nat):i∈a↔i∈b:=by
 unfold same at h;simp only[XU,Xs,List.contains_iff_mem]at h;exact⟨h.1 i,h.2 i⟩
structure QnA (l:List Oper) (m:Nat) (ds:List Nat) (hs:List Bool) (rq ms:List (List Nat)) (pl:List (List (Nat×Nat))) (N:Nat):Prop where
 len:m<=l.length
 dst:∀i o,i<m->l[i]?=some o->(∃d,o.dst=some d/\ds[i]?=some d/\d<N)\/o.dst=none
 dsl:ds.length=m
 nodup:∀(i j d:Nat),ds[i]?=some d->ds[j]?=some d->i=j
 back:∀i o,l[i]?=some o->∀j∈Qh o,j<i
 mid:∀o,l[m]?=some o->∀j,j<m->Qcx l m j
 chain:∀i o,m<i->l[i]?=some o->i-1∈Qh o
 rqs:∀i o,i<m->l[i]?=some o->∀h∈rq.getD i [],h<m/\hs.getD h false=true/\(h∈Qh o\/ ∃j∈Qh o,j<m/\h∈rq.getD j [])
 ms0:ms.getD 0 []=[]
 full:∀st,st<ms.length->st+1=ms.length\/ ∃i,i<m/\hs.getD i false=true/\i∉ms.getD st []
 msh:∀st h,h∈ms.getD st []->h<m/\hs.getD h false=true
 pls:∀i st,i<m->st<ms.length->(∀h∈rq.getD i [],h∈ms.getD st [])->(hs.getD i false=true->i∉ms.getD st [])->(∀h∈ms.getD st [],¬Qcx l h i)->
  ∃st',(st,st')∈pl.getD i []/\st'<ms.length/\if hs.getD i false then∀j,j∈ms.getD st' []↔j=i\/j∈ms.getD st []else st'=st
theorem QoE{α:Type}{l:List α}{i:Nat}{d x:α}(h:l[i]?=some x):l.getD i d=x:=by rw[VH,h];rfl
theorem QiM{P:Program}{l:List Oper}{m:Nat}{Y:List Nat}{hs:List Bool}{rq ms:List (List Nat)}{pl:List (List (Nat×Nat))}{N h0 hB hE:Nat}{xs:List A}{env0:Env}{Hs:List Qd}{Hk:Qd}
  (ok:QnA l m Y hs rq ms pl N)(a6:xs.length=m)(bb:Hs.length=ms.length)(ar:h0<=hB)(av:hB<=hE)(ax:∀H∈Hs,hE<=H.length)
  (a4:∀i p,i<m->p∈pl.getD i []->JC P N l Y xs env0 hB hE i (Hs.getD p.1 []) (Hs.getD p.2 []))(aw:Hs.getD (ms.length-1) []=Hk)
  {fr ro0:Nat->Prop}{σ0:Sig}{w0:World}{rd:Option Nat}{ds0:List Deferred}{R:Exit->Act->World->Prop}
  (hk:∀ro σ a w,Rel fr ro σ Hk (Qaq Y xs env0) N a w->Qi fr ro0 w0 ro w->σ.take h0=σ0.take h0->a.defers=ds0->wpL P rd l.toArray R (l.drop m) a w)(aj:Qcy fr ds0 w0)(a2:QdL rd fr w0):
  ∀(f:Nat) (L:Array Bool) (a:Act) (w:World) (ro:Nat->Prop) (σ:Sig) (u:Nat),
   L.size=l.length->unl L<=f->(∀i,m<=i->¬onL L i)->u<ms.length->Sim fr ro σ (Hs.getD u []) w->a.tmps.size=N->a.defers=ds0->
   (∀(i d:Nat) (x:A),onL L i->Y[i]?=some d->xs[i]?=some x->VR ro σ w x (a.tmps.getD d undef))->(∀s,(∀j,Y[j]?=some s->¬onL L j)->VR ro σ w (lk env0 s) (a.tmps.getD s undef))->
   Qi fr ro0 w0 ro w->σ.take h0=σ0.take h0->QkP hB hE σ (Hs.getD u [])->
   (∀i,i<m->onL L i->∀h∈rq.getD i [],onL L h)->(∀i,i<m->hs.getD i false=true->(onL L i↔i∈ms.getD u []))->
   (∀i o,onL L i->l[i]?=some o->∀j∈Qh o,onL L j)->
   wpAnyIn (WF rd) 0 P .any l.toArray R f L a w:=by
 have a8:∀u,u<ms.length->hE<=(Hs.getD u []).length:=by
  intro u h;have e:Hs[u]?=some Hs[u]:=XI (by omega);rw[QoE e];exact ax _ (List.getElem_mem _)
 have fin:∀(f:Nat) (L:Array Bool) (a:Act) (w:World) (ro:Nat->Prop) (σ:Sig) (u:Nat),
   L.size=l.length->unl L<=f->(∀i,m<=i->¬onL L i)->u<ms.length->Sim fr ro σ (Hs.getD u []) w->a.tmps.size=N->a.defers=ds0->
   (∀(i d:Nat) (x:A),onL L i->Y[i]?=some d->xs[i]?=some x->VR ro σ w x (a.tmps.getD d undef))->(∀s,(∀j,Y[j]?=some s->¬onL L j)->VR ro σ w (lk env0 s) (a.tmps.getD s undef))->
   Qi fr ro0 w0 ro w->σ.take h0=σ0.take h0->
   (∀i,i<m->hs.getD i false=true->(onL L i↔i∈ms.getD u []))->(∀i,i<m->onL L i)->
   wpAnyIn (WF rd) 0 P .any l.toArray R f L a w:=by
  intro f L a w ro σ u hsz hu hsuf hst hsim hN hdef hD hE' hev htk hI2 r;have am:u=ms.length-1:=by
   rcases ok.full u hst with q|⟨i,Q,X,h3⟩
   .omega
   .exact absurd ((hI2 i Q X).1 (r i Q)) h3
  rw[am,aw]at hsim;refine Qlq ok.back ok.chain f m L a w hsz (λi hi=>⟨λq=>?_,λq=>r i q⟩) hu (XR _) ok.len ?_
  .rcases Vy i m with z|z
   .exact z
   .exact absurd q (hsuf i z)
  .have hr:Rel fr ro σ Hk (Qaq Y xs env0) N a w:=by
    refine⟨hsim,λs=>?_,hN,by rw[hdef];exact aj.keep hev⟩;rcases QnY (env0:=env0) (by rw[ok.dsl,a6]) s with⟨j,x,Q,X,h3⟩|⟨Q,X⟩
    .rw[h3];have g:j<m:=by have:=(XJ.1 Q).1;rw[ok.dsl]at this;exact this
     exact hD j s x (r j g) Q X
    .rw[X];exact hE' s (λj q=>absurd (VD q) (by simpa using Q))
   exact hk ro σ a w hr hev htk hdef
 intro f
 induction f with
 |zero=>
  intro L a w ro σ u hsz hu hsuf hst hsim hN hdef hD hE' hev htk hho hI1 hI2 hcl;refine fin 0 L a w ro σ u hsz hu hsuf hst hsim hN hdef hD hE' hev htk hI2 (λi hi=>?_);by_cases q:onL L i
  .exact q
  .have:=Qj3 (L:=L) (i:=i) (by have:=ok.len;omega) q;omega
 |succ f ih=>
  intro L a w ro σ u hsz hu hsuf hst hsim hN hdef hD hE' hev htk hho hI1 hI2 hcl;by_cases r:∀i,i<m->onL L i
  .exact fin (f+1) L a w ro σ u hsz hu hsuf hst hsim hN hdef hD hE' hev htk hI2 r
  .have aq:∃i,i<m/\ ¬onL L i:=by
    refine Classical.byContradiction λq=>r λi hi=>Classical.byContradiction λz=>q ⟨i,hi,z⟩
   obtain⟨n,hn,ag⟩:=aq;obtain⟨i0,Q,X,h3⟩:=least (p:=λi=>¬onL L i) (λi=>Classical.em _) n ag;have bc:=ok.len;have al:l[i0]?=some l[i0]:=XI (by omega);have hr:i0∈Region.ready .any l.toArray L:=(QaC hsz).2 ⟨_,al,X,λj g=>Classical.byContradiction λz=>h3 j (ok.back i0 _ al j g) z⟩;refine⟨λq=>(by rw[q]at hr;cases hr),λi hi=>?_⟩;obtain⟨o,V,aa,O⟩:=(QaC hsz).1 hi;have E:i<m:=by
    rcases Vy i m with q|q
    .exact q
    .exfalso;rcases Vy m i with z|z
     .exact hsuf (i-1) (by omega) (O _ (ok.chain i o z V))
     .have:i=m:=by omega
      subst this;have au:∀j,Qcx l i j->onL L j:=by
       intro j g
       induction g with
       |one t g=>rw[V]at t;cases t;exact O _ g
       |step _ t g ihr=>exact hcl _ _ ihr t _ g
      exact ag (au n (ok.mid o V n hn))
   have ah:∀h∈rq.getD i [],onL L h:=by
    intro h W;obtain⟨_,_,q|⟨j,q1,q2,q3⟩⟩:=ok.rqs i o E V h W
    .exact O h q
    .exact hI1 j q2 (O j q1) h q3
   obtain⟨a3,az,a7,M⟩:=ok.pls i u E hst (λh W=>by
    obtain⟨q1,q2,_⟩:=ok.rqs i o E V h W;exact(hI2 h q1 q2).1 (ah h W)) (λq z=>aa ((hI2 i E q).2 z)) (λh W hR=>by
    obtain⟨q1,q2⟩:=ok.msh u h W;have a5:onL L h:=(hI2 h q1 q2).2 W;have ai:∀j,Qcx l h j->onL L j:=by
     intro j g
     induction g with
     |one t g=>exact hcl _ _ a5 t _ g
     |step _ t g ihr=>exact hcl _ _ ihr t _ g
    exact aa (ai i hR))
   have hb:=a4 i _ E az;refine hb.use V hsim hN (by rw[hdef];exact aj.keep hev) (a2.to hev λ_ q=>q) hho (a8 u hst) av (λj g s x q1 q2=>hD j s x (O j g) q1 q2) (λs Q=>hE' s (λj q=>absurd (VD q) (by simpa using Q))) (λj s Q X=>hE' s (λj' q q'=>?_)) ?_
   .obtain rfl:=ok.nodup j' j s q X;have g:=Xd.1 (List.contains_iff_mem.1 Q);cases ad:l[j']? with
    |none=>rw[ad]at g;simp at g
    |some oj=>
     rw[ad]at g;exact aa (hcl j' oj q' ad i (by simpa using g.2))
   intro v w' a0 σ' af;have ab:=af.ext;have ac:∀s,(∀d,o.dst=some d->s≠d)->(a.put o.dst v).tmps.getD s undef=a.tmps.getD s undef:=by
    intro s ao;cases hd:o.dst with
    |none=>rfl
    |some d=>
     simp only[Act.put,Array.getD_eq_getD_getElem?,Va];rw[Vn (λq=>ao d hd q.symm)]
   have ae:(a.put o.dst v).tmps.size=N:=by
    cases hd:o.dst with
    |none=>simpa[Act.put]using hN
    |some d=>simpa[Act.put]using hN
   have a9:(a.put o.dst v).defers=ds0:=by
    cases hd:o.dst with
    |none=>simpa[Act.put]using hdef
    |some d=>simpa[Act.put]using hdef
   have ba:=QgY (L:=L) (i:=i) (by omega) aa;have B:i<L.size:=by omega
   have ay:∀s j,Y[j]?=some s->j≠i->∀d,o.dst=some d->s≠d:=by
    intro s j g F d hd q;subst q;rcases ok.dst i o E V with⟨d',k,T,ak⟩|k
    .rw[hd]at k;cases k;exact F (ok.nodup j i _ g T)
    .rw[hd]at k;cases k
   refine ih _ _ w' a0 σ' a3 (by simpa using hsz) (by omega) (λj g q=>?_) a7 af.sim ae a9 ?_ ?_ (hev.trans af.ev) ?_ af.holes ?_ ?_ ?_
   .rcases(JG B).1 q with z|z
    .omega
    .exact hsuf j g z
   .intro j s y g J hy;by_cases F:j=i
    .subst F;have hv:=af.val y hy;rcases ok.dst j o E V with⟨d',k,T,ak⟩|k
     .obtain rfl:s=d':=XW (J.symm.trans T);simp only[k]at hv⊢;exact hv
     .simp only[k]at hv;subst hv;exact trivial
    .rw[ac s (ay s j J F)];rcases(JG B).1 g with z|z
     .exact absurd z F
     .exact(hD j s y z J hy).mono ab
   .intro s J;have a1:∀d,o.dst=some d->s≠d:=by
     rintro d hd rfl;rcases ok.dst i o E V with⟨d',k,T,ak⟩|k
     .rw[hd]at k;cases k;exact J i T ((JG B).2 (.inl rfl))
     .rw[hd]at k;cases k
    rw[ac s a1];exact(hE' s (λj q z=>J j q ((JG B).2 (.inr z)))).mono ab
   .rw[<- htk];have:=congrArg (List.take h0) af.take;rw[List.take_take,List.take_take,Xz ar]at this;exact this
   .intro j g G h W;refine(JG B).2 (.inr ?_);rcases(JG B).1 G with z|z
    .subst z;exact ah h W
    .exact hI1 j g z h W
   .intro j g G;rw[JG B];cases q:hs.getD i false with
    |false=>
     have F:j≠i:=by rintro rfl;rw[q]at G;cases G
     rw[q]at M;simp only[Xi,if_false]at M;simp only[F,false_or];rw[M];exact hI2 j g G
    |true=>
     rw[q]at M;simp only[if_true]at M;rw[M j,hI2 j g G]
   .intro j o' g t j' an;rcases(JG B).1 g with z|z
    .subst z;rw[V]at t;cases t;exact(JG B).2 (.inr (O _ an))
    .exact(JG B).2 (.inr (hcl j o' z t j' an))
def Qd9.dstB(N:Nat):Nat->List Oper->List Nat->Bool
 |_,_,[]=>true
 |i,o::r,d::ds=>(match o.dst with|some d'=>Nat.beq d' d&&Nat.blt d N|none=>true)&&Qd9.dstB N (i+1) r ds
 |_,[],_::_=>false
def Qd9.rqB(m:Nat)(hs:List Bool)(rq:List (List Nat)):Nat->List Oper->Bool
 |_,[]=>true
 |i,o::r=>(rq.getD i []).all (λh=>Nat.blt h m&&hs.getD h false&&((Qh o).contains h||(Qh o).any λj=>Nat.blt j m&&(rq.getD j []).contains h))&&Qd9.rqB m hs rq (i+1) r
def Qjh(l:List Oper)(h:Nat):List Nat:=match l[h]? with
 |some o=>Qe6 l h (Qh o)
 |none=>[]
theorem Qk1{l:List Oper}{h j:Nat}(q:j∈Qjh l h):Qcx l h j:=by
 unfold Qjh at q;cases a:l[h]? with
 |none=>rw[a]at q;cases q
 |some o=>rw[a]at q;exact Qb4 h (Qh o) (λi d=>.one a d) j q
def Qd9.plB(l:List Oper)(m:Nat)(hs:List Bool)(rq ms:List (List Nat))(pl:List (List (Nat×Nat))):Bool:=
 (List.range m).all λi=>(List.range ms.length).all λst=>((ms.getD st []).any λh=>(Qjh l h).contains i)|| !(rq.getD i []).all ((ms.getD st []).contains ·)||(hs.getD i false&&(ms.getD st []).contains i)||
  (pl.getD i []).any λp=>Nat.beq p.1 st&&Nat.blt p.2 ms.length&&(bif hs.getD i false then same (ms.getD p.2 []) (i::ms.getD st [])else Nat.beq p.2 st)
def Qd9(l:List Oper)(m N:Nat)(ds:List Nat)(hs:List Bool)(rq ms:List (List Nat))(pl:List (List (Nat×Nat))):Bool:=
 Nat.ble m l.length&&(ds.length==m)&&Qd9.dstB N 0 l ds&&drawChk.nodupB ds&&drawChk.goB l m 0 l&&Qd9.rqB m hs rq 0 l&&(ms.getD 0 []).isEmpty&&Nat.blt 0 ms.length
 &&((List.range ms.length).all λst=>Nat.beq (st+1) ms.length||(List.range m).any λi=>hs.getD i false&& !(ms.getD st []).contains i)&&Qd9.plB l m hs rq ms pl&&(List.range ms.length).all λst=>(ms.getD st []).all λh=>Nat.blt h m&&hs.getD h false
theorem QgI{N:Nat}:∀(l:List Oper) (a:List Nat) (b:Nat),Qd9.dstB N b l a=true->∀(i d:Nat) (o:Oper),l[i]?=some o->a[i]?=some d->
  (o.dst=some d/\d<N)\/o.dst=none:=by
 intro l
 induction l with
 |nil=>intro a b h i d o f;simp at f
 |cons x r k=>
  intro a b h i d o f g;cases a with
  |nil=>simp at g
  |cons y a=>
   simp only[Qd9.dstB,XU]at h;cases i with
   |zero=>
    simp at f g;subst f;subst g;have h:=h.1;split at h
    .rename_i m j;simp only[XU]at h;have e:=XO h.1;subst e;exact .inl ⟨j,by simpa using h.2⟩
    .rename_i j;exact .inr j
   |succ i=>
    have:=k a (b+1) h.2 i d o (by simpa using f) (by simpa using g);exact this
theorem Qmc{m:Nat}{e:List Bool}{d:List (List Nat)}:∀(l:List Oper) (b:Nat),Qd9.rqB m e d b l=true->∀(i:Nat) (o:Oper),l[i]?=some o->
  ∀h∈d.getD (b+i) [],h<m/\e.getD h false=true/\(h∈Qh o\/ ∃j∈Qh o,j<m/\h∈d.getD j []):=by
 intro l
 induction l with
 |nil=>intro b h i o a;simp at a
 |cons x r g=>
  intro b h i o a;simp only[Qd9.rqB,XU]at h;cases i with
  |zero=>
   simp at a;subst a;intro k s;have:=Xs.1 h.1 k (by simpa using s);simp only[XU,Bool.or_eq_true,List.contains_iff_mem,Xt]at this;obtain⟨⟨u,f⟩,t⟩:=this;refine⟨by simpa using u,f,?_⟩;rcases t with q|⟨j,w,p,n⟩
   .exact .inl q
   .exact .inr ⟨j,w,by simpa using p,n⟩
  |succ i=>
   have:=g (b+1) h.2 i o (by simpa using a);rw[show b+1+i=b+(i+1)by omega]at this;exact this
theorem QmW{l:List Oper}{m N:Nat}{t:List Nat}{F:List Bool}{y u:List (List Nat)}{J:List (List (Nat×Nat))}(h:Qd9 l m N t F y u J=true):
  QnA l m t F y u J N/\0<u.length:=by
 unfold Qd9 at h;simp only[XU]at h;obtain⟨⟨⟨⟨⟨⟨⟨⟨⟨⟨R,O⟩,M⟩,X⟩,h5⟩,L⟩,V⟩,h8⟩,h9⟩,B⟩,E⟩:=h;have H:m<=l.length:=XP R;have G:t.length=m:=by simpa using O
 have g:=Qii l 0 h5;refine⟨⟨H,λi o s d=>?_,G,QdX X,λi o d=>by have:=(g i o d).1;simpa using this,λo d j Y=>Qb4 m (Qh o) (λi s=>.one d s) j ((g m o d).2.1 (by omega) j Y),
  λi o s d=>by have:=(g i o d).2.2 (by omega);simpa using this,λi o s d h k=>by have:=Qmc l 0 L i o d h (by simpa using k);exact this,
  by simpa using V,λn a=>?_,λn h k=>?_,λi n s a W P T=>?_⟩,by simpa using h8⟩
 .have x:t[i]?=some t[i]:=XI (by omega);rcases QgI l t 0 M i _ o d x with⟨r,w⟩|r
  .exact .inl ⟨_,r,x,w⟩
  .exact .inr r
 .have:=Xs.1 h9 n (List.mem_range.2 a);simp only[Bool.or_eq_true,Xt,XU,Bool.not_eq_true']at this;rcases this with q|⟨i,r,w,f⟩
  .exact .inl (XO q)
  .exact .inr ⟨i,List.mem_range.1 r,w,λz=>by rw[List.contains_iff_mem.2 z]at f;cases f⟩
 .have a:n<u.length:=by
   rcases Vy n u.length with q|q
   .exact q
   .rw[VH,XM q]at k;cases k
  have:=Xs.1 (Xs.1 E n (List.mem_range.2 a)) h k;simp only[XU]at this;exact⟨by simpa using this.1,this.2⟩
 .have:=Xs.1 (Xs.1 B i (List.mem_range.2 s)) n (List.mem_range.2 a);simp only[Bool.or_eq_true,Bool.not_eq_true']at this;rcases this with((q|q)|q)|q
  .exfalso;obtain⟨h,k,q⟩:=Xt.1 q;exact T h k (Qk1 (List.contains_iff_mem.1 q))
  .exfalso;have:((y.getD i []).all ((u.getD n []).contains ·))=true:=Xs.2 λh k=>List.contains_iff_mem.2 (W h k);rw[this]at q;cases q
  .simp only[XU]at q;exact absurd (List.contains_iff_mem.1 q.2) (P q.1)
  .obtain⟨p,Q,q⟩:=Xt.1 q;simp only[XU]at q;obtain⟨⟨r,w⟩,f⟩:=q;have e:=XO r;refine⟨p.2,by rw[<- e];exact Q,by simpa using w,?_⟩;cases z:F.getD i false with
   |true=>
    rw[z]at f;simp only[Vk]at f;simp only[if_true];intro j;rw[QnO f j,X3]
   |false=>
    rw[z]at f;simp only[Vl]at f;simp only[Xi,if_false];exact XO f
inductive QhK (P:Program) (N:Nat) (l:List Oper) (ds:List Nat) (xs:List A) (env0:Env) (hB hE:Nat):Nat->List (List (Qd×Qd))->Prop
 |nil {i:Nat}:QhK P N l ds xs env0 hB hE i []
 |cons {i:Nat} {s:List (Qd×Qd)} {r:List (List (Qd×Qd))} (h:∀p∈s,JC P N l ds xs env0 hB hE i p.1 p.2) (k:QhK P N l ds xs env0 hB hE (i+1) r):QhK P N l ds xs env0 hB hE i (s::r)
theorem QhK.get{P:Program}{N:Nat}{l:List Oper}{e:List Nat}{xs:List A}{env0:Env}{hB hE b:Nat}{d:List (List (Qd×Qd))}(h:QhK P N l e xs env0 hB hE b d):
  ∀(i:Nat) (s:List (Qd×Qd)),d[i]?=some s->∀p∈s,JC P N l e xs env0 hB hE (b+i) p.1 p.2:=by
 induction h with
 |nil=>intro i s h;simp at h
 | @cons b s0 r h _ ih=>
  intro i s a;cases i with
  |zero=>simp at a;subst a;exact h
  |succ i=>
   have:=ih i s (by simpa using a);rw[show b+1+i=b+(i+1)by omega]at this;exact this
theorem Qf{P:Program}{N:Nat}{l:List Oper}{d:List Nat}{xs:List A}{env0:Env}{hB hE i:Nat}:∀p∈([]:List (Qd×Qd)),JC P N l d xs env0 hB hE i p.1 p.2:=by
 intro p a;cases a
theorem Qb{P:Program}{N:Nat}{l:List Oper}{a:List Nat}{xs:List A}{env0:Env}{hB hE i:Nat}{H H':Qd}{r:List (Qd×Qd)}(h:JC P N l a xs env0 hB hE i H H')
  (k:∀p∈r,JC P N l a xs env0 hB hE i p.1 p.2):∀p∈(H,H')::r,JC P N l a xs env0 hB hE i p.1 p.2:=by
 intro p d;rcases X3.1 d with rfl|q
 .exact h
 .exact k p q
theorem Qg1{P:Program}{h0 N:Nat}{id:Nat}{l:List Oper}{env:Env}{H:Qd}{fr ro:Nat->Prop}{σ:Sig}{a:Act}{w:World}{rd:Option Nat}{R:Exit->Act->World->Prop}(m c:Nat)(ds:List Nat)(hs:List Bool)(rq ms:List (List Nat))(J:List (List (Nat×Nat)))(xs:List A)(Hs:List Qd)(Hk:Qd)
  (hm:P.follows .mixedOrders=true)(hc:Qd9 l m N ds hs rq ms J=true)(ab:Nat.beq xs.length m=true)(ae:Nat.beq Hs.length ms.length=true)(V:Nat.ble h0 H.length=true)
  (hh:Hs.all (λX=>Nat.ble (H.length+c) X.length)=true)(aa:Hs[0]?=some (H++List.replicate c .dead))(ac:Hs.getD (ms.length-1) []=Hk)
  (Y:QhK P N l ds xs env H.length (H.length+c) 0 (J.map λq=>q.map λp=>(Hs.getD p.1 [],Hs.getD p.2 [])))(W:Nat.beq J.length m=true)
  (r:Rel fr ro σ H env N a w)(T:QdL rd fr w)
  (hk:∀ro' σ' a' w',Rel fr ro' σ' Hk (Qaq ds xs env) N a' w'->Qi fr ro w ro' w'->σ'.take h0=σ.take h0->a'.defers=a.defers->wpL P rd l.toArray R (l.drop m) a' w'):(Code.region id l.toArray true).wpIn (WF rd) 0 P R a w:=by
 obtain⟨ok,E⟩:=QmW hc;have M:=XO ab;have O:=XO ae;have af:=XO W;have L:Qi fr ro w ro {w with drawn:=w.drawn+1}:=⟨λ_ q=>q,λ_ _=>rfl,λ_ _=>rfl,XR _,λ_ _ q=>q,rfl,rfl,rfl,Nat.le_succ _⟩;have u:Ext ro σ w ro (σ++List.replicate c none) {w with drawn:=w.drawn+1}:=L.ext σ _;have ad:=r.sim.len;have B:Hs.getD 0 []=H++List.replicate c .dead:=QoE aa;have n:∀(i:Nat) (s:Option Nat) (x:Blk),(σ++List.replicate c none)[i]?=some s->(H++List.replicate c Blk.dead)[i]?=some x->(σ[i]?=some s/\H[i]?=some x)\/(s=none/\x=.dead):=by
  intro i s x k h;rcases Vy i σ.length with q|q
  .rw[XK q]at k;rw[XK (by omega)]at h;exact .inl ⟨k,h⟩
  .rw[XL q]at k;rw[XL (by omega)]at h;have a1:=VD k;have a2:=VD h;exact .inr ⟨(List.mem_replicate.1 a1).2,(List.mem_replicate.1 a2).2⟩
 have G:Sim fr ro (σ++List.replicate c none) (H++List.replicate c .dead) {w with drawn:=w.drawn+1}:=by
  refine⟨by simp[ad],r.sim.roOk.to (λ_ q=>q) (λ_ _=>rfl) r.sim.roLt,r.sim.frLt,r.sim.roFr,?_,?_,?_,
   r.sim.hidTo (· = ·) Yc (XR _) (λ_ _ _ _ _ _ _ q=>q) (λ_ _ _ _ _ _ _ q=>q) λj d y g1 g2 g3=>.inl ?_⟩
  rotate_left 3
  .rcases n j _ _ g1 g2 with⟨g,t⟩|⟨g,_⟩
   .exact⟨j,y,rfl,g,t,(λz=>z),λc q=>q⟩
   .cases g
  .intro i b blk k h Q;rcases n i _ _ k h with⟨g,t⟩|⟨g,_⟩
   .exact r.sim.own i b blk g t Q
   .cases g
  .intro i j b x y k h Q h4 h5 h6;rcases n i _ _ k Q with⟨g,t⟩|⟨g,_⟩
   .rcases n j _ _ h h4 with⟨q3,q4⟩|⟨q3,_⟩
    .exact r.sim.inj i j b x y g q3 t q4 h5 h6
    .cases q3
   .cases g
  .intro i s x k h;rcases n i _ _ k h with⟨g,t⟩|⟨g,t⟩
   .exact BR.keep u (λb hb _=>rfl) (r.sim.blk i s x g t) (λ_ _ _ _=>rfl)
   .subst t;exact trivial
 have f:∀i,¬onL (Array.replicate l.length false) i:=by
  intro i q;unfold onL at q;rw[Array.getElem?_replicate]at q;split at q<;>simp at q
 have F:=XP V;refine wpIn_region_any hm ?_;rw[List.size_toArray];refine QiM ok M O F (Nat.le_add_right _ _) (λX hX=>XP (Xs.1 hh X hX)) ?_ ac (ro0:=ro) (σ0:=σ) (w0:=w) (ds0:=a.defers) hk r.defers T
  l.length _ a _ ro (σ++List.replicate c none) 0 (by simp) ?_ (λi _=>f i) E (by rw[B];exact G) r.size rfl (λi d x q=>absurd q (f i)) (λs _=>(r.env s).mono u) L (QG (by omega)) ?_
  (λi _ q=>absurd q (f i)) (λi _ _=>⟨λq=>absurd q (f i),λq=>by rw[ok.ms0]at q;cases q⟩) (λi o q=>absurd q (f i))
 .intro i p hi hp;have e:(J.map λq=>q.map λp=>(Hs.getD p.1 [],Hs.getD p.2 []))[i]?=some ((J.getD i []).map λp=>(Hs.getD p.1 [],Hs.getD p.2 [])):=by
   rw[Xn,XI (by omega),VH,XI (by omega)];rfl
  have:=Y.get i _ e _ (Xe.2 ⟨p,hp,rfl⟩);simpa using this
 .unfold unl;simp[List.countP_replicate]
 .intro p k h Q;rw[XL (by omega),List.getElem?_replicate,Vp (by omega)]
theorem Jb{P:Program}{h0 N:Nat}{id:Nat}{l:List Oper}{env:Env}{H:Qd}{Q:QP}(m c:Nat)(g:List Nat)(x:List Bool)(y h:List (List Nat))(f:List (List (Nat×Nat)))(xs:List A)(Hs:List Qd)(Hk:Qd)
  (E:P.follows .mixedOrders=true)(B:Qd9 l m N g x y h f=true)(i:Nat.beq xs.length m=true)(s:Nat.beq Hs.length h.length=true)(k:Nat.ble h0 H.length=true)
  (J:Hs.all (λX=>Nat.ble (H.length+c) X.length)=true)(u:Hs[0]?=some (H++List.replicate c .dead))(j:Hs.getD (h.length-1) []=Hk)
  (t:QhK P N l g xs env H.length (H.length+c) 0 (f.map λq=>q.map λp=>(Hs.getD p.1 [],Hs.getD p.2 [])))(n:Nat.beq f.length m=true)
  (G:WO P h0 N l.toArray (l.drop m) (Qaq g xs env) Hk Q):TC P h0 N (.region id l.toArray true) env H Q:=by
 intro z F L σ a w r hrd;refine Code.wpIn_mono (λe a w q=>QbC.postW q) (Qg1 m c g x y h f xs Hs Hk E B i s k J u j t n r hrd λro' σ' a' w' hr hev htk hdf=>?_);have d:=G z F ro' σ' a' w' hr (hrd.to hev λ_ q=>q);rw[hdf]at d;exact YB (λe a w q=>q.step hev htk) _ _ _ d
def draw0(l:List Oper)(m N:Nat)(ds:List Nat):Bool:=Nat.ble m l.length&&(ds.length==m)&&Qd9.dstB N 0 l ds&&drawChk.nodupB ds&&drawChk.goB l m 0 l
inductive Oq (P:Program) (N:Nat) (l:List Oper) (ds:List Nat) (xs:List A) (env0:Env) (H:Qd):Nat->Nat->Prop
 |n {i:Nat}:Oq P N l ds xs env0 H i 0
 |c {i c:Nat} (h:JC P N l ds xs env0 H.length H.length i H H) (k:Oq P N l ds xs env0 H (i+1) c):Oq P N l ds xs env0 H i (c+1)
theorem Oq.get{P:Program}{N:Nat}{l:List Oper}{a:List Nat}{xs:List A}{env0:Env}{H:Qd}{b c:Nat}(h:Oq P N l a xs env0 H b c):∀i,i<c->JC P N l a xs env0 H.length H.length (b+i) H H:=by
 induction h with
 |n=>intro i d;omega
 | @c b c h _ ih=>
  intro i d;cases i with
  |zero=>exact h
  |succ i=>
   have:=ih i (by omega);rw[show b+1+i=b+(i+1)by omega]at this;exact this
theorem QmX{l:List Oper}{m N:Nat}{f:List Nat}(h:draw0 l m N f=true):QnA l m f [] [] [[]] (List.replicate m [(0,0)]) N:=by
 unfold draw0 at h;simp only[XU]at h;obtain⟨⟨⟨⟨x,t⟩,B⟩,z⟩,y⟩:=h;have r:m<=l.length:=XP x;have p:f.length=m:=by simpa using t
 have g:=Qii l 0 y;refine⟨r,λi o e d=>?_,p,QdX z,λi o d=>by have:=(g i o d).1;simpa using this,λo d j w=>Qb4 m (Qh o) (λi e=>.one d e) j ((g m o d).2.1 (by omega) j w),
  λi o e d=>by have:=(g i o d).2.2 (by omega);simpa using this,λi o e d h s=>by simp at s,rfl,λn a=>.inl (by simp at a;simp[a]),λn h s=>by cases n<;>simp at s,λi n e a _ _ _=>?_⟩
 .have k:f[i]?=some f[i]:=XI (by omega);rcases QgI l f 0 B i _ o d k with⟨q,u⟩|q
  .exact .inl ⟨_,q,k,u⟩
  .exact .inr q
 .have:n=0:=by simp at a;exact a
  subst this;refine⟨0,?_,by simp,by simp⟩;rw[VH,List.getElem?_replicate,Vp e];exact Vx.2 rfl
theorem Qg2{P:Program}{h0 N:Nat}{id:Nat}{l:List Oper}{env:Env}{H:Qd}{fr ro:Nat->Prop}{σ:Sig}{a:Act}{w:World}{rd:Option Nat}{R:Exit->Act->World->Prop}(m:Nat)(t:List Nat)(xs:List A)
  (E:P.follows .mixedOrders=true)(G:Go.Sw.draw0 l m N t=true)(k:Nat.beq xs.length m=true)(y:Nat.ble h0 H.length=true)
  (n:Oq P N l t xs env H 0 m)(r:Rel fr ro σ H env N a w)(u:QdL rd fr w)
  (F:∀ro' σ' a' w',Rel fr ro' σ' H (Qaq t xs env) N a' w'->Qi fr ro w ro' w'->σ'.take h0=σ.take h0->a'.defers=a.defers->wpL P rd l.toArray R (l.drop m) a' w'):(Code.region id l.toArray true).wpIn (WF rd) 0 P R a w:=by
 have ok:=QmX G;have j:=XO k;have h:Qi fr ro w ro {w with drawn:=w.drawn+1}:=⟨λ_ q=>q,λ_ _=>rfl,λ_ _=>rfl,XR _,λ_ _ q=>q,rfl,rfl,rfl,Nat.le_succ _⟩;have f:Ext ro σ w ro σ {w with drawn:=w.drawn+1}:=h.ext0 σ;have g:Sim fr ro σ H {w with drawn:=w.drawn+1}:=r.sim.heap rfl;have e:∀i,¬onL (Array.replicate l.length false) i:=by
  intro i q;unfold onL at q;rw[Array.getElem?_replicate]at q;split at q<;>simp at q
 refine wpIn_region_any E ?_;rw[List.size_toArray];refine QiM (hB:=H.length) (hE:=H.length) (Hs:=[H]) (Hk:=H) ok j rfl (XP y) (XR _) (λX hX=>by rw[Vx.1 hX];exact XR _) ?_ rfl (ro0:=ro) (σ0:=σ) (w0:=w) (ds0:=a.defers) F r.defers u
  l.length _ a _ ro σ 0 (by simp) ?_ (λi _=>e i) (by simp) g r.size rfl (λi d x q=>absurd q (e i)) (λs _=>(r.env s).mono f) h rfl (λp L J=>by omega)
  (λi _ q=>absurd q (e i)) (λi _ _=>⟨λq=>absurd q (e i),λq=>by cases q⟩) (λi o q=>absurd q (e i))
 .intro i p z B;rw[VH,List.getElem?_replicate,Vp z]at B;obtain rfl:=Vx.1 B;have:=n.get i z;rw[Xu]at this;exact this
 .unfold unl;simp[List.countP_replicate]
theorem TC.draw0{P:Program}{h0 N:Nat}{id:Nat}{l:List Oper}{env:Env}{H:Qd}{Q:QP}(m:Nat)(f:List Nat)(xs:List A)
  (j:P.follows .mixedOrders=true)(s:Go.Sw.draw0 l m N f=true)(g:Nat.beq xs.length m=true)(i:Nat.ble h0 H.length=true)
  (h:Oq P N l f xs env H 0 m)(p:WO P h0 N l.toArray (l.drop m) (Qaq f xs env) H Q):TC P h0 N (.region id l.toArray true) env H Q:=by
 intro n k t σ a w r hrd;refine Code.wpIn_mono (λe a w q=>QbC.postW q) (Qg2 m f xs j s g i h r hrd λro' σ' a' w' hr hev htk hdf=>?_);have d:=p n k ro' σ' a' w' hr (hrd.to hev λ_ q=>q);rw[hdf]at d;exact YB (λe a w q=>q.step hev htk) _ _ _ d
section
variable {P:Program} {N:Nat} {l:List Oper} {ds af bf:List Nat} {xs:List A} {env0 e r:Env} {H H':Qd} {i hB hE:Nat} {o:Oper} {d s:Nat} {x a:A}
theorem sN:Sb af bf ds xs env0 []:=.nil
theorem sD(j:Nat)(k:Sb af bf ds xs env0 r)(d:af.contains j=true:=by exact rfl)(h2:ds[j]?=some s:=by exact rfl)(h3:xs[j]?=some a:=by exact rfl):Sb af bf ds xs env0 ((s,a)::r):=.dep j d h2 h3 k
theorem sP(j:Nat)(k:Sb af bf ds xs env0 r)(d:bf.contains j=true:=by exact rfl)(h2:ds[j]?=some s:=by exact rfl)(h3:lk env0 s=a:=by exact rfl):Sb af bf ds xs env0 ((s,a)::r):=.pre j d h2 h3 k
theorem sO(s:Nat)(k:Sb af bf ds xs env0 r)(d:ds.contains s=false:=by exact rfl)(h2:lk env0 s=a:=by exact rfl):Sb af bf ds xs env0 ((s,a)::r):=.old d h2 k
theorem Qea(H:Qd):Qao hB hE H H=true:=by
 unfold Qao;refine Xs.2 λp _=>?_;cases Qbm H[hB+p]? <;>rfl
theorem Om(f:l[i]?=some o)(g:Sb (Qh o) (QhB l i) ds xs env0 e)(h:WO P H.length N l.toArray [o] e H (Y8 (up e d x) H))(a:o.dst=some d:=by exact rfl)(hx:xs[i]?=some x:=by exact rfl):JC P N l ds xs env0 hB hE i H H:=
 .mk o e d x f a hx (Qea H) g h
theorem Om1(f:l[i]?=some o)(g:Sb (Qh o) (QhB l i) ds xs env0 e)(h:WO P H.length N l.toArray [o] e H (Y8 (up e d x) H'))(a:o.dst=some d:=by exact rfl)(hx:xs[i]?=some x:=by exact rfl)(hdd:Qao hB hE H H'=true:=by exact rfl):JC P N l ds xs env0 hB hE i H H':=
 .mk o e d x f a hx hdd g h
theorem Om2(d:l[i]?=some o)(f:Sb (Qh o) (QhB l i) ds xs env0 e)(h:WO P H.length N l.toArray [o] e H (Y8 e H'))(a:o.dst=none:=by exact rfl)(hx:xs[i]?=some .any:=by exact rfl)(hdd:Qao hB hE H H'=true:=by exact rfl):JC P N l ds xs env0 hB hE i H H':=
 .unit o e d a hx hdd f h
end
structure TyI where
 fld:List (Nat×Nat×Nat)
 agg:List (Nat×Bool×Nat)
 zer:List (Nat×List A×List (Nat×Nat))
structure TyOK (P:Program) (T:TyI):Prop where
 fld:∀e∈T.fld,∃n,QL P e.1 e.2.1 e.2.2 n
 agg:∀e∈T.agg,(∀w,(isAgg e.1).run P w=.ok e.2.1 w)/\ ∀w,(sizeOf e.1).run P w=.ok e.2.2 w
 zer:∀e∈T.zer,(∃z,(∀w,(zeroValue e.1).run P w=.ok z w)/\ZR (.agg e.2.1) z)/\QfR P e.1 e.2.2
def Qin:List (Nat×Nat×Nat)->Nat->Nat->Option Nat
 |[],_,_=>none
 |(a,b,c)::r,t,f=>bif Nat.beq a t&&Nat.beq b f then some c else Qin r t f
def Qcn{β:Type}:List (Nat×β)->Nat->Option β
 |[],_=>none
 |(a,b)::r,t=>bif Nat.beq a t then some b else Qcn r t
theorem Qim{l:List (Nat×Nat×Nat)}{t f c:Nat}(h:Qin l t f=some c):(t,f,c)∈l:=by
 induction l with
 |nil=>cases h
 |cons x r e=>
  obtain⟨a,b,d⟩:=x;unfold Qin at h;cases q:(Nat.beq a t&&Nat.beq b f)with
  |true=>
   simp_all
  |false=>grind
theorem Qat{β:Type}{l:List (Nat×β)}{t:Nat}{c:β}(h:Qcn l t=some c):(t,c)∈l:=by
 induction l with
 |nil=>cases h
 |cons x r d=>
  obtain⟨a,b⟩:=x;unfold Qcn at h;cases q:Nat.beq a t with
  |true=>
   simp_all
  |false=>grind
def Qhz(H:Qd):A->Option (List A)
 |.rp cs=>some cs
 |.ptr i off=>match H[i]? with
  |some (.cells _ cs)=>some (cs.drop off)
  |_=>none
 |_=>none
theorem QjK{H:Qd}{p:A}{cs:List A}(h:Qhz H p=some cs):Pts H p cs:=by
 unfold Qhz at h;split at h
 .cases h;exact Pts.rp
 .split at h
  .rename_i a;cases h;exact Pts.cells a rfl
  .cases h
 .cases h
def Ql6(T:TyI)(o:Oper)(env:Env)(H:Qd):Option A:=
 match o.op with
 |.move x=>some (opA env x)
 |.assign x=>some (opA env x)
 |.fieldAddr t x f=>match Qin T.fld t f with
  |none=>none
  |some off=>match opA env x with
   |.ptr i p=>some (.ptr i (p+off))
   |.rp cs=>some (.rp (cs.drop off))
   |_=>none
 |.load t x=>match Qcn T.agg t with
  |none=>none
  |some (b,n)=>match x with
   |.global g=>match Qjr[g]? with
    |some zs=>bif b&&Nat.beq zs.length n then some (.agg (zs.map (A.int .i64)))else none
    |none=>none
   |x=>match Qhz H (opA env x)with
    |none=>none
    |some cs=>bif b then(bif Nat.beq (cs.take n).length n then some (.agg (cs.take n))else none)else cs.head?
 |.build t parts=>match Qcn T.zer t with
  |none=>none
  |some (zs,pl)=>match Qd4 env pl zs parts.toList with
   |some cs=>some (.agg cs)
   |none=>none
 |.extract x i=>match opA env x with
  |.tup vs=>vs[i]?
  |_=>none
 |.makeFunc f first cap=>some (.fn f (first.toList.map (opA env)) (cap.toList.map (opA env)))
 |_=>none
theorem Ql5{P:Program}{T:TyI}(j:TyOK P T){o:Oper}{env:Env}{H:Qd}{x:A}(h:Ql6 T o env H=some x):OpV P o env H x:=by
 unfold Ql6 at h;split at h
 .simp_all[OpV.move]
 .simp_all[OpV.assign]
 .rename_i t y f a;split at h
  .cases h
  .rename_i w k;obtain⟨n,r⟩:=j.fld _ (Qim k);split at h
   .grind[QcO]
   .rename_i e p;cases h;exact QfU r a p rfl
   .cases h
 .rename_i t y a;split at h
  .cases h
  .rename_i b n u;obtain⟨d,i⟩:=j.agg _ (Qat u);split at h
   .rename_i g;split at h
    .rename_i l B;cases q:(b&&Nat.beq l.length n)with
     |false=>grind
     |true=>
      rw[q]at h;cases h;simp only[XU]at q;obtain⟨rfl,G⟩:=q;exact QgO d i B (by simp_all) a
    .cases h
   .split at h
    .cases h
    .rename_i e F;have m:=QjK F;cases b with
     |true=>
      simp only[Vk]at h;cases q:Nat.beq (e.take n).length n with
      |false=>grind
      |true=>
       rw[q]at h;cases h;exact QE a d i rfl m rfl (by simp_all)
     |false=>
      simp only[Vl]at h;cases e with
      |nil=>cases h
      |cons v e=>cases h;exact OpV.load a d rfl m
 .rename_i t parts a;split at h
  .cases h
  .rename_i l J s;obtain⟨⟨z,d,i⟩,E⟩:=j.zer _ (Qat s);split at h
   .rename_i e k;cases h;exact OpV.build d i E (by rw[a]) k
   .cases h
 .grind[OpV.extract]
 .rename_i f first cap a
  cases h;exact OpV.makeFunc (first:=first.toList) (cap:=cap.toList) (by rw[a]) rfl rfl
 .cases h
def QiK(af:List Nat):Nat->List Nat->List A->Env->Env
 |j,d::ds,x::xs,e=>(d,bif af.contains j then x else .any)::QiK af (j+1) ds xs e
 |_,_,_,e=>e
theorem Qoj{af:List Nat}{env0:Env}(s:Nat):∀(a:List Nat) (xs:List A) (b:Nat),a.length=xs.length->
  (∃(j:Nat) (x:A),a[j]?=some s/\xs[j]?=some x/\lk (QiK af b a xs env0) s=bif af.contains (b+j)then x else .any)\/(a.contains s=false/\lk (QiK af b a xs env0) s=lk env0 s):=by
 intro a
 induction a with
 |nil=>simp_all[QiK]
 |cons d a h=>
  intro xs b g;cases xs with
  |nil=>cases g
  |cons x xs=>
   cases q:Nat.beq s d with
   |true=>
    have e:=XO q;subst e;left;refine⟨0,x,rfl,rfl,?_⟩
    simp_all[QiK,lk]
   |false=>
    have k:s≠d:=λz=>by simp_all
    simp only[QiK,lk,q,Vl];rcases h xs (b+1) (by grind)with⟨j,y,i,f,l⟩|⟨i,f⟩
    .left;refine⟨j+1,y,by grind,by grind,?_⟩
     grind
    grind
def Qj5(T:TyI)(N:Nat)(l:List Oper)(ds:List Nat)(xs:List A)(env0:Env)(H:Qd)(i:Nat):Option A:=
 match l[i]? with
 |none=>none
 |some o=>match o.guard,o.dst with
  |none,some d=>bif Nat.blt d N&&Nat.beq ds.length xs.length then Ql6 T o (QiK (Qh o) 0 ds xs env0) H else none
  |_,_=>none
theorem Qoi{af a:List Nat}{xs:List A}{env0:Env}(d:a.length=xs.length):Qnx af a xs env0 (QiK af 0 a xs env0):=by
 intro s;rcases Qoj (af:=af) (env0:=env0) s a xs 0 d with⟨j,x,f,e,g⟩|h
 .grind
 grind
theorem vQ{P:Program}{T:TyI}(f:TyOK P T){N:Nat}{l:List Oper}{a:List Nat}{xs:List A}{env0:Env}{hB hE i:Nat}{H:Qd}{x:A}(g:xs[i]?=some x)(h:Qj5 T N l a xs env0 H i=some x):JC P N l a xs env0 hB hE i H H:=by
 unfold Qj5 at h;split at h
 .cases h
 .rename_i o j;split at h
  .rename_i d k e;cases q:(Nat.blt d N&&Nat.beq a.length xs.length)with
   |false=>grind
   |true=>
    rw[q]at h;simp only[XU]at q;exact .val o _ d x j e k g q.1 (Qoi (by simp_all)) (Ql5 f h)
  .cases h
abbrev I(n:Int):A:=.int .i64 n
theorem zc{a:A}{v:Value}{al:List A}{vl:List Value}(h:ZR a v)(k:ZL al vl):ZL (a::al) (v::vl):=ZL.cons h k
def zr1:A->Value->Bool
 |.int k n,.int k' n'=>decide (k=k')&&decide (n=n')
 |.bool b,.bool b'=>b==b'
 |.str s,.string s'=>s.isEmpty&&s'.data.toList.isEmpty
 |.rsl _ es,.slice none 0 0=>es.isEmpty
 |.nils,.slice none 0 0=>true
 |.nilp,.pointer none=>true
 |.nilf,.nilFunc=>true
 |.nilm,.map none=>true
 |.nilif,.nilIface=>true
 |_,_=>false
def zrL:List A->List Value->Bool
 |[],[]=>true
 |a::r,v::s=>zr1 a v&&zrL r s
 |_,_=>false
def zrB:A->Value->Bool
 |.agg r,.agg s=>zrL r s.toList
 |a,v=>zr1 a v
theorem QlV{a:A}{v:Value}(h:zr1 a v=true):ZR a v:=by
 unfold zr1 at h;split at h
 .simp_all[ZR.int]
 .simp_all[ZR.bool]
 .rename_i s g;simp only[XU,List.isEmpty_iff]at h;obtain⟨rfl,i⟩:=h;obtain⟨d⟩:=g
  simp_all[ZR.str]
 .rename_i k f;have h:f=[]:=List.isEmpty_iff.1 h;subst h;exact ZR.rsl (α:=A) (e:=λx=>[x])
 .exact ZR.nils
 .exact ZR.nilp
 .exact ZR.nilf
 .exact ZR.nilm
 .exact Qop
 .cases h
theorem QlU:∀{r:List A} {s:List Value},zrL r s=true->ZL r s
 |[],[],_=>ZL.nil
 |a::r,v::s,h=>by
  simp only[zrL,XU]at h;exact ZL.cons (QlV h.1) (QlU h.2)
 |[],_::_,h=>by cases h
 |_::_,[],h=>by cases h
theorem zrC{a:A}{v:Value}(h:zrB a v=true):ZR a v:=by
 unfold zrB at h;split at h
 .rename_i r s;have:=ZR.agg (QlU h);omega
 .exact QlV h
section
variable {P:Program} {o:Oper} {env:Env} {H:Qd}
theorem Qjf{ro:Nat->Prop}{σ:Sig}{w:World}{b:Nat}{l:List Int}{off:Nat}(h:CR ro σ w b (l.map λn=>A.int .u8 n) off):(loadCells ⟨b,off,none⟩ l.length).run P w=.ok (l.map λn=>Value.int .u8 n).toArray w:=by
 obtain⟨vs,k,_,a⟩:=Yt (P:=P) (cs:=l.map λn=>A.int .u8 n) 0 (by simpa using h);have e:∀(l:List Int) (vs:List Value),LR ro σ w (l.map λn=>A.int .u8 n) vs->vs=l.map λn=>Value.int .u8 n:=by
  intro l
  induction l with
  |nil=>intro vs h;exact h
  |cons n l i=>
   rintro vs ⟨v,g,rfl,f,j⟩;have d:v=.int .u8 n:=f
   grind
 have:=a w #[] rfl
 grind[loadCells]
theorem Qh4:∀(l:List Int) (acc:ByteArray),l.foldl (λr n=>r.push (UInt8.ofNat n.toNat)) acc=⟨acc.data++(l.map Q3).toArray⟩
 |[],acc=>by simp
 |n::l,acc=>by
  rw[XB,Qh4 l];simp[ByteArray.push,Q3]
theorem Qch{t u e:TypeId}{x:Operand}{ax:A}{l:List Int}(q:QjP P H ax l)(h:∀w,(underlying t).run P w=.ok (.slice e) w)(he:∀w,(underlying e).run P w=.ok (.int .u8) w)(g:∀w,(underlying u).run P w=.ok .string w)
  (B:o.op=.convert t u x:=by exact rfl)(hx:opA env x=ax:=by exact rfl):OpV P o env H (.str (l.map Q3)):=by
 intro s z σ N a w r;have k:=Qk r x;rw[hx]at k;refine⟨.string ⟨(l.map Q3).toArray⟩,?_,rfl⟩;have y:(convert t u (a.eval x)).run P w=.ok (.string ⟨(l.map Q3).toArray⟩) w:=by
  rcases q s z σ w _ r.sim k with⟨j,c,f,rfl⟩|⟨b,d,c,f,i⟩
  .rw[f];cases j with
   |none=>simp[convert,h,g,he,Conv.bytesToString,go_sem];rfl
   |some j=>simp[convert,h,g,he,Conv.bytesToString,loadCells,loadCellsFrom,go_sem];rfl
  .rw[f];have p:(loadCells ⟨b,d,none⟩ l.length).run P w=.ok (l.map λn=>Value.int .u8 n).toArray w:=by
    rcases i with rfl|i
    .rfl
    .exact Qjf i
   have m:(convert t u (.slice (some ⟨b,d,none⟩) l.length c)).run P w=(Conv.bytesToString (.slice (some ⟨b,d,none⟩) l.length c)).run P w:=by
    simp[convert,h,g,he,go_sem]
   rw[m,run_bytesToString w ⟨b,d,none⟩ l.length c l p,Qh4];simp
 simp_all[execOp]
theorem QlI{t u:TypeId}{x y:Operand}{p q:List UInt8}(ho:o.op=.binOp .gtr t x y u)(hx:opA env x=.str p)(hy:opA env y=.str q):OpV P o env H (.bool (!(Op.bytesLess p q||p==q))):=
 Qcf (f:=λa b=> !(Op.bytesLess a b||a==b)) ho hx hy (by simp)
end
structure TyX where
 ty:TyI
 al:List (Nat×A)
 sl:List Nat
structure QaU (P:Program) (T:TyX):Prop where
 ty:TyOK P T.ty
 al:∀e∈T.al,(∃z,(∀w,(zeroValue e.1).run P w=.ok z w)/\ZR e.2 z)/\Yp e.2=true/\(Yf e.2).all Yz=true
 sl:∀t∈T.sl,∃et,∀w,(underlying t).run P w=.ok (.slice et) w
def Y6(all:Array Oper)(o:Oper)(env:Env):Option Bool:=
 match o.guard with
 |none=>some true
 |some (j,c)=>match(all[j]?).bind (·.dst)with
  |none=>none
  |some d=>match lk env d with
   |.bool true=>some c
   |.bool false=>some (!c)
   |.tup []=>some false
   |_=>none
theorem QR{all:Array Oper}{o:Oper}{env:Env}{b:Bool}(h:Y6 all o env=some b):QB all o env b:=by
 unfold Y6 at h;unfold QB;split at h
 .grind
 .rename_i j c q;rw[q];split at h
  .cases h
  .rename_i d a;refine⟨d,a,?_⟩;split at h
   .simp_all
   .simp_all
   .grind
   .cases h
def QdC:List Nat->Nat->Bool
 |[],_=>false
 |a::r,t=>bif Nat.beq a t then true else QdC r t
theorem Qha{l:List Nat}{t:Nat}(h:QdC l t=true):t∈l:=by
 induction l with
 |nil=>cases h
 |cons a r d=>
  grind[QdC,Nat.eq_of_beq_eq_true]
inductive FL where
 |mk (l:List A)
def fl:List A->FL
 |[]=>.mk []
 |a::r=>match fl r with
  |.mk r'=>.mk (a::r')
theorem Qcs:∀l:List A,fl l=.mk l
 |[]=>rfl
 |a::r=>by unfold fl;rw[Qcs r]
inductive FB where
 |mk (l:List Blk)
def fb:List Blk->FB
 |[]=>.mk []
 |a::r=>match fb r with
  |.mk r'=>.mk (a::r')
theorem Qkp:∀l:List Blk,fb l=.mk l
 |[]=>rfl
 |a::r=>by unfold fb;rw[Qkp r]
inductive FN where
 |mk (n:Nat)
def fn:List Blk->Nat->FN
 |[],n=>.mk n
 |_::r,n=>fn r (n+1)
theorem QmH:∀(l:List Blk) (n:Nat),fn l n=.mk (l.length+n)
 |[],n=>by simp[fn]
 |a::r,n=>by unfold fn;rw[QmH r];simp;omega
def Qkn(env:Env)(pl:List (Nat×Nat)):List A->List (Nat×Operand)->Option (List A)
 |cs,[]=>some cs
 |cs,(i,x)::r=>match Y2 pl i with
  |none=>none
  |some (off,size)=>match opB env x with
   |.mk a=>match fl (Yf a)with
    |.mk vs=>bif Yp a&&Nat.beq vs.length size&&Nat.ble (off+size) cs.length then(match fl (splice cs off vs)with
     |.mk cs'=>Qkn env pl cs' r)else none
theorem Qiq{env:Env}{pl:List (Nat×Nat)}:∀(parts:List (Nat×Operand)) (cs:List A),Qkn env pl cs parts=Qd4 env pl cs parts
 |[],cs=>rfl
 |(i,x)::r,cs=>by
  unfold Qkn Qd4;rw[Qaz];cases pl[i]? with
  |none=>rfl
  |some q=>
   obtain⟨off,size⟩:=q;cases h:opB env x with
   |mk a=>
    rw[QS h];simp only[Qcs];cases(Yp a&&Nat.beq (Yf a).length size&&Nat.ble (off+size) cs.length)with
    |false=>rfl
    |true=>exact Qiq r _
def Qic(env:Env):List Operand->List A
 |[]=>[]
 |x::r=>match opB env x with
  |.mk a=>a::Qic env r
theorem Qc5{env:Env}:∀l:List Operand,Qic env l=l.map (opA env)
 |[]=>rfl
 |x::r=>by
  unfold Qic;cases h:opB env x with
  |mk a=>rw[Vf,QS h];show a::Qic env r=_;rw[Qc5 r]
def ptX(H:Qd):Bx->Option Lx
 |.mk (.rp cs)=>some (.mk cs)
 |.mk (.ptr i off)=>match Y2 H i with
  |some (.cells _ cs)=>some (QiL off cs)
  |_=>none
 |_=>none
theorem Qo1{H:Qd}{p:A}{cs:List A}(h:ptX H (.mk p)=some (.mk cs)):Pts H p cs:=by
 unfold ptX at h
 grind[Pts.rp,Qaz,Pts.cells,QfJ]
def Qds(T:TyX)(o:Oper)(env:Env)(H:Qd):Option A:=
 match o.op with
 |.move x=>match opB env x with|.mk a=>some a
 |.assign x=>match opB env x with|.mk a=>some a
 |.nilCheck x=>nlB (opB env x)
 |.extract x i=>exB (opB env x) i
 |.unOp u _ x=>unB u (opB env x)
 |.pick c x y=>piB (opB env c) (opB env x) (opB env y)
 |.binOp b _ x y _=>biB b (opB env x) (opB env y)
 |.fieldAddr t x f=>match Qin T.ty.fld t f with
  |none=>none
  |some off=>match opB env x with
   |.mk (.ptr i p)=>some (.ptr i (p+off))
   |.mk (.rp cs)=>match QiL off cs with
    |.mk r=>some (.rp r)
   |_=>none
 |.load t x=>match Qcn T.ty.agg t with
  |none=>none
  |some (b,n)=>match x with
   |.global g=>match Y2 Qjr g with
    |some zs=>bif b&&Nat.beq zs.length n then(match fl (zs.map (A.int .i64))with|.mk l=>some (.agg l))else none
    |none=>none
   |x=>match ptX H (opB env x)with
    |none=>none
    |some (.mk cs)=>match b with
     |true=>(match fl (cs.take n)with|.mk l=>bif Nat.beq l.length n then some (.agg l)else none)
     |false=>(match cs with|[]=>none|a::_=>some a)
 |.build t parts=>match Qcn T.ty.zer t with
  |none=>none
  |some (zs,pl)=>match Qkn env pl zs parts.toList with
   |some cs=>some (.agg cs)
   |none=>none
 |.makeFunc f first cap=>match fl (Qic env first.toList),fl (Qic env cap.toList)with
  |.mk l,.mk l'=>some (.fn f l l')
 |.call c=>match c with
  |{callee:=.builtin .len,args:=⟨[x]⟩,argTypes:=⟨[t]⟩}=>bif QdC T.sl t then(match opB env x with
   |.mk (.osl _ 0 n _)=>some (.int .i64 n)
   |_=>none)else none
  |_=>none
 |_=>none
theorem Qas{P:Program}{T:TyX}(l:QaU P T){o:Oper}{env:Env}{H:Qd}{x:A}(h:Qds T o env H=some x):OpV P o env H x:=by
 unfold Qds at h;split at h
 .simp_all[QbH,svB]
 .simp_all[QbH,svB]
 .simp_all[QbH,svB]
 .simp_all[QbH,svB]
 .simp_all[QbH,svB]
 .simp_all[QbH,svB]
 .simp_all[QbH,svB]
 .rename_i t y f a;split at h
  .cases h
  .rename_i u s;obtain⟨n,R⟩:=l.ty.fld _ (Qim s);split at h
   .grind[QcO,QS]
   .rename_i j O;cases q:QiL u j with
    |mk r=>rw[q]at h;grind[QfU,QS,QfJ]
   .cases h
 .rename_i t y a;split at h
  .cases h
  .rename_i b n N;obtain⟨m,d⟩:=l.ty.agg _ (Qat N);split at h
   .rename_i g;split at h
    .rename_i E w;rw[Qaz]at w;cases q:(b&&Nat.beq E.length n)with
     |false=>grind
     |true=>
      rw[q,Qcs]at h;cases h;simp only[XU]at q;obtain⟨rfl,B⟩:=q;exact QgO m d w (by simp_all) a
    .cases h
   .cases e:opB env y with
    |mk p=>
     rw[e]at h;split at h
     .cases h
     .rename_i j G;have J:=Qo1 G;cases b with
      |true=>
       simp only[Qcs]at h;cases q:Nat.beq (j.take n).length n with
       |false=>grind
       |true=>
        rw[q]at h;cases h;exact QE a m d (QS e) J rfl (by simp_all)
      |false=>
       grind[OpV.load,QS]
 .rename_i t parts a;split at h
  .cases h
  .rename_i E Q M;obtain⟨⟨z,m,d⟩,F⟩:=l.ty.zer _ (Qat M);split at h
   .rename_i j s;cases h;rw[Qiq]at s;exact OpV.build m d F (by rw[a]) s
   .cases h
 .rename_i f first cap a
  simp only[Qcs]at h;cases h;rw[Qc5,Qc5];exact OpV.makeFunc (first:=first.toList) (cap:=cap.toList) (by rw[a]) rfl rfl
 .rename_i c a;split at h
  .rename_i y t;cases q:QdC T.sl t with
   |false=>grind
   |true=>
    rw[q]at h;simp only[Vk]at h;obtain⟨V,L⟩:=l.sl t (Qha q);split at h
    .rename_i i n k B;cases h;exact QlJ L a rfl (QS B)
    .cases h
  .cases h
 .cases h
def stX(T:TyX)(h0 N:Nat)(all:Array Oper)(o:Oper)(env:Env)(H:Qd):Option (Env×Qd):=
 match Y6 all o env with
 |none=>none
 |some false=>match o.dst with
  |none=>none
  |some d=>bif Nat.blt d N then some (up env d (.tup []),H)else none
 |some true=>match o.dst with
  |none=>match o.op with
   |.store t x y=>match opB env x,Qcn T.ty.agg t with
    |.mk (.ptr i off),some (_,n)=>match Y2 H i with
     |some (.cells S cs)=>match opB env y with
      |.mk a=>match fl (Yf a)with
       |.mk vs=>bif Nat.ble h0 H.length&&(Yp a&&(Nat.beq vs.length n&&(vs.all Yz&&Nat.ble (off+n) cs.length)))then(match fl (splice cs off vs)with
        |.mk cs'=>match fb (H.set i (.cells S cs'))with
         |.mk H'=>some (env,H'))else none
     |_=>none
    |_,_=>none
   |_=>none
  |some d=>bif Nat.blt d N then(match o.op with
   |.alloc t=>match Qcn T.al t with
    |some v=>bif Nat.ble h0 H.length then(match fn H 0,fl (Yf v)with
     |.mk n,.mk cs=>match fb (H++[.cells t cs])with
      |.mk H'=>some (up env d (.ptr n 0),H'))else none
    |none=>none
   |.box t x=>match opB env x with
    |.mk a=>bif Nat.ble h0 H.length&&(Yp a&&(Yf a).all Yz)then(match fn H 0,fl (Yf a)with
     |.mk n,.mk cs=>match fb (H++[.cells t cs])with
      |.mk H'=>some (up env d (.ptr n 0),H'))else none
   |_=>match Qds T o env H with
    |some a=>some (up env d a,H)
    |none=>none)else none
def runX(T:TyX)(h0 N:Nat)(all:Array Oper):Nat->List Oper->Env->Qd->Option (List Oper×Env×Qd)
 |0,l,env,H=>some (l,env,H)
 |_+1,[],_,_=>none
 |n+1,o::l,env,H=>match stX T h0 N all o env H with
  |some (env',H')=>runX T h0 N all n l env' H'
  |none=>none
section
variable {P:Program} {T:TyX} {h0 N:Nat} {all:Array Oper} {l l':List Oper} {env env':Env} {H H':Qd} {Q:QP}
theorem Qja(m:QaU P T){o:Oper}(h:stX T h0 N all o env H=some (env',H'))(k:WO P h0 N all l env' H' Q):WO P h0 N all (o::l) env H Q:=by
 unfold stX at h;split at h
 .cases h
 .grind[QR,WO.skip]
 .rename_i L;have j:=QR L;split at h
  .rename_i f;split at h
   .rename_i t x y g;split at h
    .rename_i i r b n w O;split at h
     .rename_i S cs hH;rw[Qaz]at hH;cases e:opB env y with
      |mk a=>
       rw[e]at h;simp only[Qcs,Qkp]at h;generalize hc:(Nat.ble h0 H.length&&(Yp a&&(Nat.beq (Yf a).length n&&((Yf a).all Yz&&Nat.ble (r+n) cs.length))))=c at h;cases c with
       |false=>cases h
       |true=>
        cases h;simp only[XU]at hc;obtain⟨c1,p,s,u,G⟩:=hc;obtain⟨_,B⟩:=m.ty.agg _ (Qat O);exact Qm6 (by simp_all) j f (OpU.store g (QS w) hH B (QS e) p rfl (by simp_all) u G rfl) k
     .cases h
    .cases h
   .cases h
  .rename_i d f;cases q:Nat.blt d N with
   |false=>grind
   |true=>
    rw[q]at h;simp only[Vk]at h;split at h
    .rename_i t g;split at h
     .rename_i v V;cases c:Nat.ble h0 H.length with
      |false=>grind
      |true=>
       rw[c]at h;simp only[Qcs,Qkp,QmH,Vk,Xv]at h;cases h;obtain⟨⟨z,M,J⟩,E,R⟩:=m.al _ (Qat V);exact QhD (by simp_all) j f q (QcP M J g E rfl R) k
     .cases h
    .rename_i t x g;cases e:opB env x with
     |mk a=>
      rw[e]at h;simp only[Qcs,Qkp,QmH,Xv]at h;generalize hc:(Nat.ble h0 H.length&&(Yp a&&(Yf a).all Yz))=c at h;cases c with
      |false=>cases h
      |true=>
       cases h;simp only[XU]at hc;obtain⟨c1,p,s⟩:=hc;exact QhD (by simp_all) j f q (OpH.box g (QS e) p rfl s) k
    .split at h
     .rename_i a F;cases h;exact YP j f q (Qas m F) k
     .cases h
theorem AU(hT:QaU P T):∀(n:Nat) {l l':List Oper} {env env':Env} {H H':Qd},runX T h0 N all n l env H=some (l',env',H')->WO P h0 N all l' env' H' Q->WO P h0 N all l env H Q
 |0,l,l',env,env',H,H',h,k=>by cases h;exact k
 |n+1,[],l',env,env',H,H',h,k=>by cases h
 |n+1,o::l,l',env,env',H,H',h,k=>by
  unfold runX at h;split at h
  .rename_i e1 H1 hs;exact Qja hT hs (AU hT n h k)
  .cases h
end
theorem FA{P:Program}{T f off n:Nat}{fs:Array Field}{a:Field}(e:∀w,(underlying T).run P w=.ok (.struct fs) w)(d:fs[f]?=some a)(g:∀w,(sizeOf a.type).run P w=.ok n w)(h:a.offset=off:=by exact rfl)(h5:n≠0:=by decide):QL P T f off n:=⟨_,_,e,d,h,g,h5⟩
theorem QdS:∀(π:List Nat) (H:Qd) (xs:List Blk),π.map (λp=>H[p]?)=xs.map some->Yv H π xs=H
 |[],H,xs,h=>by
  simp_all[Yv]
 |p::π,H,[],h=>by simp at h
 |p::π,H,x::xs,h=>by
  simp only[Vf,List.cons.injEq]at h;have e:H.set p x=H:=by
   apply List.ext_getElem?
   grind
  unfold Yv;rw[e];exact QdS π H xs h.2
def QkV:A->Option Bx
 |.bool b=>some (.mk (.bool b))
 |.int k n=>some (.mk (.int k n))
 |.str s=>some (.mk (.str s))
 |.rsl k es=>some (.mk (.rsl k es))
 |_=>none
theorem QnN{v a:A}(h:QkV v=some (.mk a))(ρ:Nat->Nat):Y1 ρ v=a:=by
 cases v<;>first|(cases h;rfl)|cases h
theorem Pc{P:Program}{h0 N:Nat}{all:Array Oper}{o:Oper}{l:List Oper}{env:Env}{H:Qd}{Q:QP}{d:Nat}{f:FuncId}{args e:List A}{Hc:Qd}{v h:A}(π:List Nat)(i:o.dst=some d)(g:OpC P o env H f args)(j:C P f e Hc (λa H1=>a=v/\H1=Hc))(m:QkV v=some (.mk h))
  (k:WO P h0 N all l (up env d h) H Q)
  (hargs:args=Qag (rho π H.length) e:=by exact rfl)(hH:π.map (λp=>H[p]?)=(Hc.map (Q8 (rho π H.length))).map some:=by exact rfl)(hπ:π.Nodup:=by decide)
  (hg:QB all o env true:=by exact rfl)(hN:Nat.blt d N=true:=by exact rfl)(hh:Nat.ble h0 H.length=true:=by exact rfl):WO P h0 N all (o::l) env H Q:=by
 refine Qz π g j ?_ hargs hH hπ hg i hN hh
 simp_all[QnN,QdS]
theorem Qa2{i k:Nat}{es:List (List A)}:∀H:Qd,FzH i k es H H
 |[]=>.nil
 |_::r=>.keep (Qa2 r)
def foN:Nat->FN
 |0=>.mk 0
 |n+1=>match foN n with
  |.mk m=>.mk (m+1)
theorem Qfk:∀n,foN n=.mk n
 |0=>rfl
 |n+1=>by unfold foN;rw[Qfk n]
mutual
def foA:A->Bx
 |.agg cs=>match foL cs with
  |.mk l=>.mk (.agg l)
 |.tup cs=>match foL cs with
  |.mk l=>.mk (.tup l)
 |.fn f a c=>match foL a,foL c with
  |.mk l,.mk l'=>.mk (.fn f l l')
 |.iface t v=>match foA v with
  |.mk v'=>.mk (.iface t v')
 |.ptr i off=>match foN i with
  |.mk i'=>.mk (.ptr i' off)
 |.osl i o n k=>match foN i with
  |.mk i'=>.mk (.osl i' o n k)
 |.map i=>match foN i with
  |.mk i'=>.mk (.map i')
 |a=>.mk a
def foL:List A->FL
 |[]=>.mk []
 |a::r=>match foA a,foL r with
  |.mk a',.mk r'=>.mk (a'::r')
end
mutual
theorem Qhg:∀a:A,foA a=.mk a
 |.agg cs=>by unfold foA;rw[QcH cs]
 |.tup cs=>by unfold foA;rw[QcH cs]
 |.fn f a c=>by unfold foA;rw[QcH a,QcH c]
 |.iface t v=>by unfold foA;rw[Qhg v]
 |.ptr i off=>by unfold foA;rw[Qfk]
 |.osl i o n k=>by unfold foA;rw[Qfk]
 |.map i=>by unfold foA;rw[Qfk]
 |.any|.bool _|.int _ _|.str _|.nilp|.rp _|.nils|.rsl _ _|.nilf|.nilif|.nilm=>by rfl
theorem QcH:∀l:List A,foL l=.mk l
 |[]=>by rfl
 |a::r=>by unfold foL;rw[Qhg a,QcH r]
end
inductive FE2 where
 |mk (l:List (List A))
def foE:List (List A)->FE2
 |[]=>.mk []
 |a::r=>match foL a,foE r with
  |.mk a',.mk r'=>.mk (a'::r')
theorem QmG:∀l,foE l=.mk l
 |[]=>rfl
 |a::r=>by unfold foE;rw[QcH,QmG r]
def foH:List Blk->FB
 |[]=>.mk []
 |b::r=>match foH r with
  |.mk r'=>match b with
   |.cells t cs=>match foL cs with
    |.mk l=>.mk (.cells t l::r')
   |.rowr t k es=>match foE es with
    |.mk l=>.mk (.rowr t k l::r')
   |.dead=>.mk (.dead::r')
   |.row t k es=>.mk (.row t k es::r')
   |.map es=>.mk (.map es::r')
   |.iter c es=>.mk (.iter c es::r')
   |.fmap es=>.mk (.fmap es::r')
   |.mapO fz t k es=>.mk (.mapO fz t k es::r')
   |.mapP es=>.mk (.mapP es::r')
   |.frow t k es=>.mk (.frow t k es::r')
   |.wins t a n c=>match foN a with
    |.mk a'=>.mk (.wins t a' n c::r')
   |.ents t a b es=>match foN a,foN b with
    |.mk a',.mk b'=>.mk (.ents t a' b' es::r')
theorem Qjt:∀l,foH l=.mk l
 |[]=>rfl
 |b::r=>by
  unfold foH;rw[Qjt r];cases b<;>simp only[QcH,QmG,Qfk]
def foS(env:Env)(H:Qd):Option (Env×Qd):=
 match foH H with
 |.mk H'=>match env with
  |[]=>some ([],H')
  |(d,a)::e=>match foA a with
   |.mk a'=>some ((d,a')::e,H')
theorem Qpf(env:Env)(H:Qd):foS env H=some (env,H):=by
 unfold foS;rw[Qjt];cases env with
 |nil=>rfl
 |cons p e=>obtain⟨d,a⟩:=p;simp only[Qhg]
theorem FE{P:Program}{h0 N:Nat}{all:Array Oper}{l:List Oper}{env env':Env}{H H':Qd}{Q:QP}(h:foS env H=some (env',H'))(k:WO P h0 N all l env' H' Q):WO P h0 N all l env H Q:=by
 rw[Qpf]at h
 grind
def entB(b1 b2:Nat):List (List A)->Option (List Ent)
 |[]=>some []
 |[.ptr b off,.int .i64 lo,.int .i64 hi]::r=>match entB b1 b2 r with
  |none=>none
  |some l=>match Nat.beq b b2 with
   |true=>some (⟨true,off,lo,hi⟩::l)
   |false=>match Nat.beq b b1 with
    |true=>some (⟨false,off,lo,hi⟩::l)
    |false=>none
 |_=>none
theorem Qok{b1 b2:Nat}:∀{es:List (List A)} {l:List Ent},entB b1 b2 es=some l->l.map (eC b1 b2)=es:=by
 intro es
 induction es with
 |nil=>intro l h;cases h;rfl
 |cons e r d=>
  intro l h;unfold entB at h;split at h
  .grind
  .rename_i b f lo g i q;cases q;split at h
   .cases h
   .rename_i j a;have e:=d a;split at h
    .rename_i q;cases h;have:=XO q;subst this;rw[Vf,e];rfl
    .split at h
     .rename_i q;cases h;have:=XO q;subst this;rw[Vf,e];rfl
     .cases h
  .cases h
theorem TE{P:Program}{h0 N:Nat}{all:Array Oper}{l:List Oper}{env:Env}{H:Qd}{Q:QP}{t:Nat}{es:List (List A)}{L:List Ent}(i b1 b2:Nat)(hH:H[i]?=some (.rowr t 3 es))(h:entB b1 b2 es=some L)
  (k:WO P h0 N all l env (H.set i (.ents t b1 b2 L)) Q):WO P h0 N all l env H Q:=QD (QlQ hH (Qok h)) k
theorem R1{P:Program}{h0:Nat}{fn:Func}{env:Env}{H Hc:Qd}{v:A}(s:Nat)(hr:fn.results= #[.tmp s])(hle:Le h0 env H [(s,v)] Hc):Qbu P h0 fn (λa H=>a=v/\H=Hc) .ret env H:=
 ⟨[(s,v)],Hc,v,hle,Qcw.one hr (by simp_all[lk]),rfl,rfl⟩
theorem R2{P:Program}{h0:Nat}{fn:Func}{env:Env}{H Hc:Qd}{v v':A}(s t:Nat)(hr:fn.results= #[.tmp s,.tmp t])(hn:Nat.beq t s=false)(hle:Le h0 env H [(s,v),(t,v')] Hc):Qbu P h0 fn (λa H=>a=.tup [v,v']/\H=Hc) .ret env H:=
 ⟨[(s,v),(t,v')],Hc,_,hle,QlC hr (by simp_all[lk]) (by simp_all[lk]),rfl,rfl⟩
theorem FzA.o{i k n:Nat}{es:List (List A)}(a:n=es.length:=by first|exact(XY ..).symm|exact rfl):FzA i k es (.osl i 0 n k) (.rsl k es):=FzA.own a
end Go.Sw
