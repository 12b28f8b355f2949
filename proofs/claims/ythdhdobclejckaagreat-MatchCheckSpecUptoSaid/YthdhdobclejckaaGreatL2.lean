/- The rules by which the code is walked, with what they rest on (part 2). -/
import Derived.Test.YthdhdobclejckaaGreatL1
import Derived.Below
import GoSem.ClaimChange
import Derived.Shelf.Strings.Search3
import Derived.Lib.LazyBuf
import Derived.Shelf.Sort.Plain
import Derived.Shelf.Slices.In.SortNone
import Derived.Shelf.Slices.CompactI
import Derived.RangeFuncIn
import Derived.RangeFuncSeq
import Derived.RangeFuncNested
import Derived.Lib.Bytealg
import Derived.Laws.Externs
import Derived.LaidLaws
import Derived.Lib.LaidTab
import Derived.ChangeArms
import Derived.ChangeSame
import Derived.Laws.BytesString
set_option linter.unusedVariables false
set_option linter.unusedSectionVars false
set_option linter.unusedSimpArgs false
namespace Go.Sw
open Go.Sort Go.Proofs Go.Shelf
theorem Qdw{α:Type}{k:Nat}:∀(vs:List (List α)) (j:Nat),(∀v∈vs,v.length=k)->j<vs.length*k->vs.flatten[j]?=(vs[j/k]?).bind λv=>v[j%k]?
 |[],j,_,h=>by simp at h
 |v::vs,j,hk,h=>by
  have hv:=hk v (by simp);have k0:0<k:=by
   rcases Nat.eq_zero_or_pos k with q|q
   .subst q;simp at h
   .exact q
  rw[Vl];by_cases q:j<k
  .rw[XM (by omega),Nat.div_eq_of_lt q,Nat.mod_eq_of_lt q];simp
  .rw[XN (by omega),hv,Qdw vs (j-k) (λv hv=>hk v (by simp[hv])) (by simp[Xm]at h;omega)];have a:j/k=(j-k)/k+1:=by rw[Nat.div_eq_sub_div k0 (by omega)]
   have d:j%k=(j-k)%k:=Nat.mod_eq_sub_mod (by omega);rw[a,d,XF]
theorem Qan{α:Type}{k:Nat}:∀(vs:List (List α)),(∀v∈vs,v.length=k)->vs.flatten.length=vs.length*k
 |[],_=>by simp
 |v::vs,h=>by rw[Vl,X3,Qan vs (λv hv=>h v (by simp[hv])),h v (by simp),X0,Xm];omega
theorem Qa1{α:Type}(F:List α)(j:Nat):F.toArray[j]?=F[j]? :=by simp
theorem QgU{α:Type}[Inhabited α](F:List α)(j:Nat)(h:j<F.length):F[j]?=some (F.toArray[j]!):=by simp[h]
theorem QgZ{β:Type}[Inhabited β]{enc:β->List Value}{k:Nat}(f:∀x,(enc x).length=k)(d:Array β):flatK enc k d=((d.toList.map enc).flatten).toArray:=by
 have a:∀v∈d.toList.map enc,v.length=k:=by
  intro v l;obtain⟨x,_,rfl⟩:=Xe.1 l;exact f x
 apply Array.ext_getElem?;intro t;rw[Qa1 ((d.toList.map enc).flatten) t];by_cases h:t<d.size*k
 .rw[Qdw _ t a (by simpa using h)];have i:0<k:=by
   rcases Nat.eq_zero_or_pos k with q|q
   .subst q;simp at h
   .exact q
  have h1:=Nat.div_lt_of_lt_mul (by rw[Nat.mul_comm];exact h);have j:t%k<k:=Nat.mod_lt _ i;have g:t<(flatK enc k d).size:=by simpa using h
  have e:=get_flatK enc k d t h;rw[getElem!_pos (flatK enc k d) t g]at e;rw[Array.getElem?_eq_getElem g,e];simp[h1];rw[XK (by rw[f];exact j)];rfl
 .have e:(d.toList.map enc).flatten.length=d.size*k:=by rw[Qan _ a];simp
  rw[Array.getElem?_eq_none (by simpa using h),XO (by omega)]
section
variable {ro:Nat->Prop} {σ:Sig} {w:World} {T:Type} {enc:T->List A} {k:Nat}
theorem RL.parts:∀{l:List T} {lv:List Value},RL ro σ w k (l.map enc) lv->
  ∃(ps:List (T×List Value)) (rest:List Value),ps.map (·.1)=l/\lv=(ps.map (·.2)).flatten++rest/\ ∀p∈ps,p.2.length=k/\LR ro σ w (enc p.1) p.2/\ ∀v∈p.2,Qz v
 |[],lv,_=>⟨[],lv,rfl,rfl,by simp⟩
 |x::l,lv,h=>by
  obtain⟨l1,l2,rfl,h1,⟨h2,h3⟩,h4⟩:=h;obtain⟨ps,rest,e1,rfl,h5⟩:=RL.parts h4;refine⟨(x,l1)::ps,rest,by simp[e1],by simp,?_⟩;intro p hp;rcases X6.1 hp with rfl|hp
  .exact⟨by rw[h2.length];exact h1,h2,h3⟩
  .exact h5 p hp
theorem QdF(hk:∀x,(enc x).length=k):∀{ps:List (T×List Value)} {rest:List Value},(∀p∈ps,LR ro σ w (enc p.1) p.2/\ ∀v∈p.2,Qz v)->RL ro σ w k ((ps.map (·.1)).map enc) ((ps.map (·.2)).flatten++rest)
 |[],_,_=>trivial
 |p::ps,rest,h=>by
  refine⟨p.2,(ps.map (·.2)).flatten++rest,by simp,hk _,h p (by simp),QdF hk λq hq=>h q (by simp[hq])⟩
end
structure Elt (ro:Nat->Prop) (w:World) {T:Type} (enc:T->List A) (k:Nat) (l:List T) where
 x:T
 vs:List Value
 mem:x∈l
 len:vs.length=k
 rel:LR ro [] w (enc x) vs
 plain:∀v∈vs,Qz v
theorem Qjc{v:Value}(h:Qz v):v.oneCell'=true:=by cases v<;>first|rfl|exact h.elim
theorem QmS{P:Program}{ρ:Ren}(L:SlLaysF0.n6 P ρ){T:Type}[DecidableEq T]{enc:T->List A}{k t g:Nat}{cap:List A}{l l':List T}{cf:T->T->Option Int}(hs:QgA cf l=some l')
  (a6:∀x y c,cf x y=some c->C P g ([.agg (enc x),.agg (enc y)]++cap) [] (λa H=>a=.int .i64 c/\H=[]))
  (aE:∀w,(isAgg (ρ.t 24)).run P w=.ok true w)(zE:∀w,(Go.sizeOf (ρ.t 24)).run P w=.ok k w)(eg:∀args w,(callFunc g args).run P w=.ok (.enter g args) w)
  (hk:∀x,(enc x).length=k)(hd:Yw cap=true):
  C P (ρ.f 6) [.osl 0 0 l.length k,.fn (.func g) [] cap] [.row t k (l.map enc)] (λa H=>a=.tup []/\H=[.row t k (l'.map enc)]):=by
 intro fr J σ vals w s hv;obtain⟨vs,r1,rfl,bm,vf,r2,rfl,bd,hr⟩:=hv;cases(show r2=[]from hr);obtain⟨lf,lc,rfl,h1,a2⟩:=bd;cases(show lf=[]from h1);have ar:LR J [] w cap lc:=LR.data hd a2;obtain⟨bb,ai,M,ax,a0⟩:=Qgz hs;have E:∀(ad:Option Addr) (c:Nat),vs=.slice ad 0 c->l=[]->
   Calls P (ρ.f 6) [vs,.func (.func g) #[] lc.toArray].toArray w λe w'=>∃v r H' ac τ,e=.returned v/\(r=.tup []/\H'=[.row t k (l'.map enc)])/\Sim fr ac (σ++τ) H' w'/\VR ac (σ++τ) w' r v/\Qm fr J w ac w':=by
  rintro ad c rfl rfl;have ag:l'=[]:=by rw[<- a0];rfl
  subst ag;refine(AnyF.slices_SortFunc_none L ad c (.func (.func g) #[] lc.toArray) w).mono ?_;rintro e w' ⟨rfl,rfl⟩;exact⟨_,_,_,J,[],rfl,⟨rfl,rfl⟩,by simpa using s,⟨[],rfl,rfl⟩,Qm.refl _ _ _⟩
 rcases bm with⟨h0,rfl⟩|⟨b,p,cp,t',m,q1,rfl,q2,⟨q3,bs⟩,q4,q5⟩
 .exact E none 0 rfl (VI.1 h0)
 .by_cases ag:l=[]
  .subst ag;exact E _ cp rfl rfl
  .have bg:0<l.length:=List.length_pos_iff.2 ag;obtain rfl:=q2 (Vf bg q3);obtain⟨lv,e1,e2⟩:=s.blk 0 _ _ q1 rfl;obtain⟨hb,al,a7⟩:=s.own 0 b _ q1 rfl rfl;obtain⟨V,G,a8,rfl,ah⟩:=RL.parts e2
   let α:=Elt J w enc k l
   have a1:∀p∈V,p.1∈l:=λp hp=>by rw[<- a8];exact VF hp
   let ds:List α:=V.attach.map λp=>⟨p.1.1,p.1.2,a1 _ p.2,(ah _ p.2).1,(ah _ p.2).2.1,(ah _ p.2).2.2⟩
   have a4:∀{γ:Type} (f:T×List Value->γ),V.attach.map (λp=>f p.1)=V.map f:=λf=>by simp
   have O:ds.map (·.x)=l:=by
    show(V.attach.map _).map _=_;rw[List.map_map];exact(a4 (·.1)).trans a8
   have am:ds.map (·.vs)=V.map (·.2):=by
    show(V.attach.map _).map _=_;rw[List.map_map];exact a4 (·.2)
   have aq:ds.length=l.length:=by rw[<- O];simp
   have a3:ds≠[]:=by intro q;rw[q]at aq;simp at aq;omega
   let inh:Inhabited α:=⟨ds.head a3⟩
   let enc':α->List Value:=λa=>a.vs
   let cf':α->α->Int:=λx y=>(cf x.x y.x).getD 0
   have af:∀x y:α,ltOf cf' x y=ltO cf x.x y.x:=by
    intro x y;obtain⟨c,B⟩:=ai x.x x.mem y.x y.mem;simp only[ltOf,ltO,cf',B,Option.getD_some]
   have hO:SWO (ltOf cf'):=⟨λx=>by rw[af];exact M.irrefl _ x.mem,λx y z a b=>by rw[af]at*;exact M.trans _ x.mem _ y.mem _ z.mem a b,
    λx y z a b=>by rw[af]at*;exact M.ntrans _ x.mem _ y.mem _ z.mem a b⟩
   have aa:∀x:α,(enc' x).length=k:=λx=>x.len;have ao:flatK enc' k ds.toArray=((V.map (·.2)).flatten).toArray:=by
    rw[QgZ aa];show((ds.map λa=>a.vs).flatten).toArray=_;rw[am]
   have bo:∀v∈V.map (·.2),v.length=k:=by
    intro v hv;obtain⟨p,hp,rfl⟩:=Xe.1 hv;exact(ah p hp).1
   have X:(V.map (·.2)).flatten.length=ds.length*k:=by rw[Qan _ bo, <- am];simp
   have hH:HoldsK enc' k w b (0*k) ds.toArray:=by
    intro j hj;rw[ao]at hj⊢;simp only[List.size_toArray]at hj;constructor
    .unfold World.cell?;simp only[e1,Option.isSome_none,Xi,if_false,Nat.zero_mul,Xw];rw[Qa1,XM hj];exact QgU _ _ hj
    .unfold World.frozen?;simp only[e1];simp
   have aw:∀(d:Array α),d.size=ds.toArray.size->(putRowK enc' k w b (0*k) d).heap=w.heap.setIfInBounds b (.cells (((d.toList.map enc').flatten++G)).toArray t (0,0)):=by
    intro d u;have ae:(d.toList.map enc').flatten.length=(V.map (·.2)).flatten.length:=by
     rw[Qan _ (k:=k) (by intro v hv;obtain⟨x,_,rfl⟩:=Xe.1 hv;exact aa x),X];simp at u⊢;rw[u]
    unfold putRowK putRow mapBlock;show w.heap.modify b _=_;rw[Qdc e1];simp only[onCells];congr 2;rw[QgZ aa];unfold putCells;apply Array.ext_getElem?;intro i;simp only[Array.getElem?_mapIdx,Qa1,Nat.zero_mul,XU,true_and,Xw,Nat.sub_zero,List.size_toArray,id_eq];by_cases hi:i<(d.toList.map enc').flatten.length
    .rw[XM hi,XM (by rw[<- ae];exact hi),XK (by rw[<- ae];exact hi),QgU _ _ hi];exact congrArg some (Vs hi)
    .rw[XN (by omega),XN (by omega),ae];cases(G[i-(V.map (·.2)).flatten.length]?)with
     |none=>rfl
     |some v=>
      rw[<- ae];exact congrArg some (Vr hi)
   have R:∀(m:Nat) (os:Array Obj) (d:Array α),d.size=ds.toArray.size->
     (∀c,c<w.heap.size->c≠b->(sortWorldK enc' k w b (0*k) m d os).heap[c]?=w.heap[c]?)/\(sortWorldK enc' k w b (0*k) m d os).heap[b]?=some (.cells (((d.toList.map enc').flatten++G)).toArray t (0,0))/\
     w.heap.size<=(sortWorldK enc' k w b (0*k) m d os).heap.size:=by
    intro m os d u;have e:(sortWorldK enc' k w b (0*k) m d os).heap=w.heap.setIfInBounds b (.cells (((d.toList.map enc').flatten++G)).toArray t (0,0))++os:=by
     rw[<- aw d u];rfl
    rw[e];refine⟨λc B bn=>?_,?_,by simp⟩
    .rw[Array.getElem?_append_left (by simpa using B),Ve,Vr (λq=>bn q.symm)]
    .rw[Array.getElem?_append_left (by simpa using hb),Ve,Vs rfl,Vs hb]
   have Q:∀(m:Nat) (os:Array Obj) (d:Array α),d.size=ds.toArray.size->∀c y,w.shape? c=some y->(sortWorldK enc' k w b (0*k) m d os).shape? c=some y:=by
    intro m os d u c y hy;obtain⟨g1,g2,g3⟩:=R m os d u;by_cases B:c=b
    .subst B;unfold World.shape? at hy⊢;rw[e1]at hy;rw[g2];simp only[Option.some.injEq]at hy⊢;rw[<- hy];congr 1;simp only[List.size_toArray,X3];rw[Qan _ (k:=k) (by intro v hv;obtain⟨x,_,rfl⟩:=Xe.1 hv;exact aa x),X];simp at u⊢;rw[u]
    .unfold World.shape? at hy⊢;rw[g1 c (Qkn hy) B];exact hy
   have ak:∀(m:Nat) (os:Array Obj) (d:Array α),d.size=ds.toArray.size->∀τ,Ext J τ w J τ (sortWorldK enc' k w b (0*k) m d os):=by
    intro m os d u τ;obtain⟨g1,g2,g3⟩:=R m os d u;exact⟨λ_ q=>q,λc B=>g1 c (s.roLt c B) (λq=>al (q▸B)),Q m os d u,λ_ _ q=>q⟩
   have bi:CmpLays P g lc.toArray enc' k cf' b (0*k) ds.toArray.size w:=by
    intro m os dk ba x y;obtain⟨c,B⟩:=ai x.x x.mem y.x y.mem;have F:=ak m os dk ba [];have be:=a6 _ _ _ B;generalize hW:sortWorldK enc' k w b (0*k) m dk os=W at*;have bj:w.heap.size<=W.heap.size:=by rw[<- hW];exact(R m os dk ba).2.2
    have sW:Sim (λc=>c<W.heap.size/\ ¬J c) J [] [] W:=
     ⟨rfl,s.roOk.to (λ_ q=>q) F.keep (λc B=>Vf (s.roLt c B) bj),λc B=>B.1,λc B hf=>hf.2 B,λi b x h=>by simp at h,λi j b x y h=>by simp at h,λi y x h=>by simp at h,λi b x c h=>by simp at h⟩
    have av:LR J [] W ([.agg (enc x.x),.agg (enc y.x)]++cap) ([.agg x.vs.toArray,.agg y.vs.toArray]++lc):=
     LR.append (show LR J [] W [A.agg (enc x.x),A.agg (enc y.x)] [Value.agg x.vs.toArray,Value.agg y.vs.toArray]from⟨_,_,rfl,⟨x.vs,rfl,x.rel.mono F⟩,_,_,rfl,⟨y.vs,rfl,y.rel.mono F⟩,rfl⟩) (ar.mono F)
    have N:=be _ J [] _ W sW av;have br:(([Value.agg x.vs.toArray,Value.agg y.vs.toArray]++lc).toArray:Array Value)= #[Value.agg (enc' x).toArray,Value.agg (enc' y).toArray]++lc.toArray:=by simp[enc']
    rw[br]at N;refine N.mono ?_;rintro e w' ⟨v,r,H',ac,τ,rfl,⟨rfl,rfl⟩,s',bp,ev⟩;refine⟨?_,?_⟩
    .rw[show v=.int .i64 c from bp];simp only[cf',B,Option.getD_some]
    .refine Qmf (λc B=>?_) ev.size ev.os ev.tape ev.output ev.drawn;by_cases az:J c
     .exact ev.keepRo c az
     .exact ev.keepFr c ⟨B,az⟩
   have Y:ds.toArray.size=l.length:=by simpa using aq
   have aj:=AnyQ.slices_SortFunc L k aE zE enc' aa (λx v hv=>Qjc (x.plain v hv)) cf' hO g lc.toArray b (0*k) cp ds.toArray w eg bi hH hb (by rw[Y];unfold Ys at bb;omega);rw[Y]at aj;refine aj.mono ?_;rintro e w' ⟨rfl,d,n,os,ab,an,rfl⟩;have u:d.size=ds.toArray.size:=ab.1;obtain⟨g1,g2,g3⟩:=R n os d u;have au:d.toList.Perm ds:=by
    have h:=ab.2.2;have x1:d.extract 0 l.length=d:=by rw[<- Y, <- u];exact Array.extract_size
    have x2:ds.toArray.extract 0 l.length=ds.toArray:=by rw[<- Y];exact Array.extract_size
    rw[x1,x2]at h;simpa using h
   have a5:d.toList.map (·.x)=l':=by
    rw[<- a0];refine Qd7 (lt:=ltO cf) ?_ ?_ ?_ (QcI M)
    .exact((au.map (·.x)).trans (by rw[O])).trans (Qbl _ _).symm
    .intro x hx y hy;have bq:x∈l:=by rw[<- O];exact(au.map (·.x)).mem_iff.1 hx
     have bh:y∈l:=by rw[<- O];exact(au.map (·.x)).mem_iff.1 hy
     exact ax x bq y bh
    .rw[VD];intro i j hi hj bl;simp only[X2]at hi hj;simp only[List.getElem_map];rw[<- af];have:=an i j (XU _) bl (by rw[<- Y, <- u];simpa using hj);rw[getElem!_pos d j (by simpa using hj),getElem!_pos d i (by simpa using hi)]at this;simpa using this
   have bk:RL J [] (sortWorldK enc' k w b (0*k) n d os) k (l'.map enc) ((d.toList.map enc').flatten++G):=by
    have e3:d.toList.map enc'=(d.toList.map λa=>(a.x,a.vs)).map (·.2):=by simp[enc']
    have e4:l'=(d.toList.map λa=>(a.x,a.vs)).map (·.1):=by rw[<- a5];simp
    rw[e3,e4];refine QdF hk ?_;intro p hp;obtain⟨a,_,rfl⟩:=Xe.1 hp;exact⟨a.rel.mono (ak n os d u []),a.plain⟩
   have bc:Qm fr J w J (sortWorldK enc' k w b (0*k) n d os):=
    ⟨λ_ q=>q,λc B=>g1 c (s.roLt c B) (λq=>al (q▸B)),λc B=>g1 c (s.frLt c B) (λq=>a7 (q▸B)),g3,Q n os d u,rfl,rfl,rfl,Nat.le_add_right _ _⟩
   have ay:σ.length=1:=s.len;have a9:Sim fr J σ [.row t k (l'.map enc)] (sortWorldK enc' k w b (0*k) n d os):=by
    have i0:∀{i:Nat} {x:Blk},([.row t k (l'.map enc)]:Qd)[i]?=some x->i=0/\x=.row t k (l'.map enc):=by
     intro i x h;cases i with
     |zero=>simp at h;exact⟨rfl,h.symm⟩
     |succ i=>simp at h
    refine⟨ay,s.roOk.to (λ_ q=>q) bc.keepRo (λc B=>Vf (s.roLt c B) g3),λc B=>Vf (s.frLt c B) g3,s.roFr,λi c x h1 h2 h3=>?_,λi j c x y h1 h2 h3 h4 _ _=>?_,λi y x h1 h2=>?_,λi b x c h1 h2 h3=>by obtain⟨rfl,rfl⟩:=i0 h2;exact h3.elim⟩
    .obtain⟨rfl,rfl⟩:=i0 h2;obtain⟨p1,p2⟩:=s.own 0 c _ h1 rfl rfl;exact⟨Vf p1 g3,p2⟩
    .rw[(i0 h3).1,(i0 h4).1]
    .obtain⟨rfl,rfl⟩:=i0 h2;rw[q1]at h1;cases h1;exact⟨_,g2,bk⟩
   exact⟨_,_,_,J,[],rfl,⟨rfl,rfl⟩,by simpa using a9,⟨[],rfl,rfl⟩,bc⟩
end Go.Sw
namespace Go.Sw
section
variable {P:Program} {o:Oper} {env:Env} {H:Qd} {fr ro:Nat->Prop} {σ:Sig} {w:World}
theorem Sim.addRo(s:Sim fr ro σ H w){b:Nat}(g:b<w.heap.size)(f:¬fr b)(l:∀(i:Nat) (x:Blk),σ[i]?=some (some b)->H[i]?=some x->x.live=true->False)
  (j:∀(i d:Nat) (x:Blk),σ[i]?=some (some d)->H[i]?=some x->Hid w x d b->False):Sim fr (λc=>ro c\/c=b) σ H w:=by
 refine⟨s.len,s.roOk.to (λ_ q=>.inl q) (λ_ _=>rfl) ?_,s.frLt,?_,?_,s.inj,?_,s.hidTo (· = ·) Yb (XT _) (by grind) (by simp) (by grind)⟩
 .rintro c (q|rfl)
  .exact s.roLt c q
  .exact g
 .rintro c (q|rfl)
  .exact s.roFr c q
  .exact f
 .intro i c x e a h;obtain⟨n,m,k⟩:=s.own i c x e a h
  grind
 .intro i y x e a;exact(s.blk i y x e a).keep ⟨λ_ q=>.inl q,λ_ _=>rfl,λ_ _ q=>q,λ_ _ q=>q⟩ (λ_ _ _=>rfl) (λ_ _ _ _=>rfl)
theorem YW{T e k n:Nat}{xs:List Operand}{es:List (List A)}(E:Q6 P T e k)(X:o.op=.buildSlice T n (QaV 0 xs).toArray)(J:xs.length=n)(G:Nat.ble (n*k) 16777216=true)
  (Q:(xs.all λx=>Yn (opA env x))=true)(B:Yt env xs=es)(M:allK k es)(V:es.flatten.all Yr=true)(O:Yw es.flatten=true):
  OpH P o env H (.rsl k es) H:=by
 intro W h σ N a w r;subst B;obtain⟨l,h1,L⟩:=QbG r E J G Q M;have F:LR h [] w (Yt env xs).flatten l:=L.data O;have f:∀b,b<w.heap.size->(w.alloc (.cells l.toArray e)).heap[b]?=w.heap[b]? :=λb R=>Yk _ _ b R;have t:w.heap.size<=(w.alloc (.cells l.toArray e)).heap.size:=by simp
 have Y:=r.sim.grown f t;have s:Qm W h w h (w.alloc (.cells l.toArray e)):=Qm.alloc _ r.sim.roLt r.sim.frLt;have s2:=Y.addRo (by simp) (λq=>Nat.lt_irrefl _ (r.sim.frLt _ q)) (λi x m j u=>Nat.lt_irrefl _ (r.sim.own i _ x m j u).1)
  (λi d x m j u=>Nat.lt_irrefl _ (r.sim.hid i d x _ m j (r.sim.hidKeep m j (λz=>f d (r.sim.own i d x m j z).1) (λb q=>f b (r.sim.roLt b q)) u)).lt)
 have y:RL h [] (w.alloc (.cells l.toArray e)) k (Yt env xs) l:=by
  have:=Qae (rest:=[]) M (F.mono (s.ext0 [])) (L.plain V)
  grind
 have g:(Yt env xs).length=n:=by simp[Yt,J]
 refine⟨_,_,λc=>h c\/c=w.heap.size,[],Qbx X a.eval h1,(⟨some ⟨w.heap.size,0,none⟩,n,by rw[g],by omega,.inr ⟨w.heap.size,0,rfl,.inr rfl,?_⟩⟩),by grind,s.trans (Q4 λ_ q=>.inl q)⟩;have p:(w.alloc (.cells l.toArray e)).heap[w.heap.size]?=some (.cells ([]++l).toArray e (0,0)):=Yu _ _;have:=YQ p y;exact this.keep ⟨λ_ q=>.inl q,λ_ _=>rfl,λ_ _ q=>q,λ_ _ q=>q⟩ rfl
end
inductive Qif:List A->List A->Prop
 |nil:Qif [] []
 |eq {a:A} {l m:List A} (h:Qif l m):Qif (a::l) (a::m)
 |nl {k:Nat} {l m:List A} (h:Qif l m):Qif (.nils::l) (.rsl k []::m)
theorem LR.nils{ro:Nat->Prop}{σ:Sig}{w:World}{g i:List A}(h:Qif g i):∀{l:List Value},LR ro σ w g l->LR ro σ w i l:=by
 induction h with
 |nil=>simp
 |eq _ ih=>rintro l ⟨v,d,e,f,a⟩;exact⟨v,d,e,f,ih a⟩
 |nl _ ih=>rintro l ⟨v,d,e,f,a⟩;exact⟨v,d,e,⟨none,0,f,XT _,.inl rfl⟩,ih a⟩
theorem C.nils{P:Program}{f:FuncId}{l1 bs:List A}{H:Qd}{Q:A->Qd->Prop}(hl:Qif l1 bs)(h:C P f bs H Q):C P f l1 H Q:=
 λfr ro σ vals w s l=>h fr ro σ vals w s (LR.nils hl l)
def QC(k:IntKind)(n:Int):Prop:=k.min<=n/\n<=k.max
def QeS(w:World):Nat->Prop:=λb=>b<w.heap.size
structure Meas {H:Type} (μ:DataW H->Nat):Prop where
 str:∀bytes,bytes.length<=μ (.lit (.string bytes))
 sl:∀e s,e.length<=μ (.slice e s)
 sle:∀e s,∀d∈e,μ d<=μ (.slice e s)
 ag:∀ps,∀d∈ps,μ d<=μ (.agg ps)
def RB(P:Program)(n:Nat)(t:TypeId)(T:Type)(e:T->List A)(wf:T->Prop):Prop:=
 ∀(H:Type) (enc:TypeId×Value->H) (w:World) (base:Nat) (spare:Nat->Bool) (held:Bool) (m:Nat) (cs:List Value) d,m<n->DataW.trod enc P w base spare held m t cs=some d->
  ∀μ:DataW H->Nat,Meas μ->μ d.1<=1048576->∃x:T,wf x/\LR (QeS w) [] w (e x) cs/\ ∀v∈cs,Qz v
section
variable {P:Program} {n:Nat} {t:TypeId} {T:Type} {e:T->List A} {wf:T->Prop}
theorem RB.down(h:RB P (n+1) t T e wf):RB P n t T e wf:=λH enc w base spare held m cs d hm=>h H enc w base spare held m cs d (Nat.lt_succ_of_lt hm)
theorem QdY(h:∀n,RB P n t T e wf->RB P (n+1) t T e wf):∀n,RB P n t T e wf
 |0=>λH enc w base spare held m cs d hm=>(by omega)
 |n+1=>h n (QdY h n)
theorem Yi{T':Type}{f:T'->List A}{a:T'->Prop}(h:RB P n t T e wf)(g:T->T')(he:∀x,f (g x)=e x)(i:∀x,wf x->a (g x)):RB P n t T' f a:=by
 intro H enc w base spare held m cs d hm hd μ hμ hwt;obtain⟨x,l,j,k⟩:=h H enc w base spare held m cs d hm hd μ hμ hwt
 grind
theorem RB.int{k:IntKind}(a:P.underlying t=some (.int k)):RB P n t Int (Qe k) (QC k):=by
 intro H enc w base spare held m cs d hm hd μ hμ hwt;cases m with
 |zero=>simp[DataW.trod]at hd
 |succ m=>
  rcases cs with _|⟨v,_|⟨g,r⟩⟩
  .simp[DataW.trod,a]at hd
  .cases v<;>simp[DataW.trod,a]at hd;rename_i h f;obtain⟨⟨rfl,e⟩,_⟩:=hd;refine⟨f,?_,⟨_,_,rfl,rfl,rfl⟩,by simp[Qz]⟩;simpa[Lit.wf,QC]using e
  .simp[DataW.trod,a]at hd
theorem RB.bool(a:P.underlying t=some .bool):RB P n t Bool Y4 (λ_=>True):=by
 intro H enc w base spare held m cs d hm hd μ hμ hwt;cases m with
 |zero=>simp[DataW.trod]at hd
 |succ m=>
  rcases cs with _|⟨v,_|⟨e,r⟩⟩
  .simp[DataW.trod,a]at hd
  .cases v<;>simp[DataW.trod,a]at hd;rename_i b;exact⟨b,trivial,⟨_,_,rfl,rfl,rfl⟩,by simp[Qz]⟩
  .simp[DataW.trod,a]at hd
theorem RB.string(a:P.underlying t=some .string):RB P n t (List UInt8) Jl (λs=>s.length<=1048576):=by
 intro H enc w base spare held m cs d hm hd μ hμ hwt;cases m with
 |zero=>simp[DataW.trod]at hd
 |succ m=>
  rcases cs with _|⟨v,_|⟨e,r⟩⟩
  .simp[DataW.trod,a]at hd
  .cases v<;>simp[DataW.trod,a]at hd;rename_i s;obtain⟨_,rfl⟩:=hd;exact⟨s.data.toList,XV (hμ.str _) hwt,⟨_,_,rfl,rfl,rfl⟩,by simp[Qz]⟩
  .simp[DataW.trod,a]at hd
theorem Qcp{α:Type}{f:Nat->Option α}:∀{n:Nat} {l:List α},(List.range n).mapM f=some l->l.length=n/\ ∀i,i<n->∃y,f i=some y/\l[i]?=some y
 |0,l,h=>by grind
 |n+1,l,h=>by
  rw[Xu,List.mapM_append]at h;cases h1:(List.range n).mapM f with
  |none=>grind
  |some l1=>
   cases h2:f n with
   |none=>grind
   |some y=>
    simp[h1,h2]at h;subst h;obtain⟨e1,e2⟩:=Qcp h1
    grind
theorem QdI{w:World}{ro:Nat->Prop}{b:Nat}:∀{cs:List A} {l:List Value} {off:Nat},LR ro [] w cs l->(∀v∈l,Qz v)->(∀i,i<l.length->w.cell? ⟨b,off+i,none⟩=l[i]?)->CR ro [] w b cs off
 |[],_,_,_,_,_=>trivial
 |a::cs,l,off,h,hp,hc=>by
  obtain⟨v,l',rfl,h1,h2⟩:=h;refine⟨(by grind),QdI h2 (by grind) λi hi=>?_⟩;have:=hc (i+1) (by grind)
  grind
theorem RB.slice{E:TypeId}{k:Nat}{s:TypeId}(G:P.underlying s=some (.slice E))(hk:P.cellsOf E=k)(h0:Nat.blt 0 k=true)(hl:∀x,(e x).length=k)(h:RB P n E T e wf):
  RB P (n+1) s (List T) (QN k e) (λl=>l.length<=1048576/\ ∀x∈l,wf x):=by
 intro H enc w base spare held m cs d hm hd μ hμ hwt;have k0:0<k:=by simp_all
 cases m with
 |zero=>simp[DataW.trod]at hd
 |succ m=>
  rcases cs with _|⟨v,_|⟨v2,r⟩⟩
  .simp[DataW.trod,G]at hd
  .cases v<;>try (simp[DataW.trod,G]at hd;done)
   rename_i a len g;cases a with
   |none=>
    rcases len with _|len
    .rcases g with _|g
     .refine⟨[],⟨by simp,by simp⟩,⟨_,_,rfl,⟨none,0,rfl,XT _,.inl rfl⟩,rfl⟩,by simp[Qz]⟩
     .simp[DataW.trod,G]at hd
    .simp[DataW.trod,G]at hd
   |some a=>
    simp only[DataW.trod,G]at hd;split at hd
    .rename_i hc;obtain⟨c1,c2,c3⟩:=hc;cases V:(List.range len).mapM (λi=>(w.cells? base (a.add (i*P.cellsOf E)) (P.cellsOf E)).bind (DataW.trod enc P w base spare held m E))with
     |none=>grind
     |some f=>
      rw[V]at hd;simp only[XJ,Option.map_eq_some_iff]at hd;obtain⟨p,_,rfl⟩:=hd;have B:f.length<=1048576:=by
       have h1:=hμ.sl (f.map (·.1)) (p.map (·.1))
       grind
      have aa:∀y∈f,μ y.1<=1048576:=λy N=>XV (hμ.sle _ (p.map (·.1)) _ (VF N)) hwt;obtain⟨e1,e2⟩:=Qcp V;have Q:∀i,i<len->∃(x:T) (l:List Value),wf x/\LR (QeS w) [] w (e x) l/\(∀v∈l,Qz v)/\l.length=k/\ ∀j,j<k->w.cell? ((a.add (i*k)).add j)=l[j]? :=by
       intro i Y;obtain⟨y,y1,y2⟩:=e2 i Y;rw[hk]at y1;cases X:w.cells? base (a.add (i*k)) k with
       |none=>grind
       |some l=>
        rw[X]at y1;obtain⟨x,x1,x2,x3⟩:=h H enc w base spare held m l y (by omega) y1 μ hμ (aa y (VG y2))
        grind[World.cells?,Qcp]
      by_cases R:len=0
      .subst R;exact⟨[],⟨by simp,by simp⟩,⟨_,_,rfl,⟨some a,g,rfl,XU _,.inl rfl⟩,rfl⟩,by simp[Qz]⟩
      .have first:a.spot=none/\a.block<w.heap.size:=by
        obtain⟨x',l,p1,p2,p3,p4,p5⟩:=Q 0 (by omega);have t:=p5 0 k0;have W:l[0]?=some l[0]:=XK (by omega);have ea:(a.add (0*k)).add 0=a:=by simp[Addr.add]
        rw[W,ea]at t;unfold World.cell? at t;split at t
        .rename_i hh;constructor
         .cases q:a.spot with
          |none=>rfl
          |some z=>simp[q]at t
         .exact(Vc.1 hh).1
        .cases t
       obtain⟨M,hb⟩:=first
       have O:∀n,a.add n=⟨a.block,a.off+n,none⟩:=by
        intro n;cases a;simp only at M;subst M;unfold Addr.add;split
        .rename_i q;subst q;rfl
        .rfl
       have F:∀(b o n:Nat),(⟨b,o,none⟩:Addr).add n=⟨b,o+n,none⟩:=by
        intro b o n;unfold Addr.add;split
        .rename_i q;subst q;rfl
        .rfl
       have pick:∀q i,len-i=q->i<=len->∃u:List T,u.length=len-i/\(∀x∈u,wf x)/\RR (QeS w) [] w a.block k (u.map e) (a.off+i*k):=by
        intro q
        induction q with
        |zero=>intro i hq Y;exact⟨[],by simp[hq],by simp,trivial⟩
        |succ q ih=>
         intro i hq Y;obtain⟨u,J,w2,L⟩:=ih (i+1) (by omega) (by omega);obtain⟨x,l,p1,p2,p3,p4,p5⟩:=Q i (by omega);refine⟨x::u,by simp[J];omega,by intro y N;rcases X6.1 N with rfl|N;exact p1;exact w2 y N,hl x,?_,?_⟩
         .refine QdI p2 p3 λj hj=>?_;have t:=p5 j (by omega);rw[O,F]at t;exact t
         .rw[Xm, <- Nat.add_assoc]at L;exact L
       obtain⟨u,J,w2,L⟩:=pick len 0 (by omega) (XU _);rw[Nat.zero_mul,Xx]at L;rw[Nat.sub_zero]at J;refine⟨u,⟨by rw[J, <- e1];exact B,w2⟩,⟨_,_,rfl,⟨some a,g,by simp[J],by simp[J];exact c2,.inr ⟨a.block,a.off,?_,hb,L⟩⟩,rfl⟩,by simp[Qz]⟩;cases a
       grind
    .cases hd
  .simp[DataW.trod,G]at hd
def RF(P:Program)(n:Nat)(fs:List Field)(off L:Nat)(T:Type)(e:T->List A)(wf:T->Prop):Prop:=
 ∀(H:Type) (enc:TypeId×Value->H) (w:World) (base:Nat) (spare:Nat->Bool) (held:Bool) (m:Nat) (cs:List Value) ds,m<n->cs.length=L->
  fs.mapM (λf=>DataW.trod enc P w base spare held m f.type ((cs.drop f.offset).take (P.cellsOf f.type)))=some ds->
  ∀μ:DataW H->Nat,Meas μ->(∀y∈ds,μ y.1<=1048576)->∃x:T,wf x/\LR (QeS w) [] w (e x) (cs.drop off)/\ ∀v∈cs.drop off,Qz v
theorem RF.nil{L:Nat}:RF P n [] L L Unit (λ_=>[]) (λ_=>True):=by
 intro H enc w base spare held m cs ds hm hl hd μ hμ hwt;have:cs.drop L=[]:=(by grind);rw[this];exact⟨(),trivial,rfl,by simp⟩
theorem RF.cons{f:Field}{fs:List Field}{off L k:Nat}{T2:Type}{l:T2->List A}{g:T2->Prop}(B:f.offset=off)(z:P.cellsOf f.type=k)(h:RB P n f.type T e wf)(r:RF P n fs (off+k) L T2 l g):
  RF P n (f::fs) off L (T×T2) (λp=>e p.1++l p.2) (λp=>wf p.1/\g p.2):=by
 intro H enc w base spare held m cs ds hm hl hd μ hμ hwt;rw[List.mapM_cons]at hd;cases q:DataW.trod enc P w base spare held m f.type ((cs.drop f.offset).take (P.cellsOf f.type))with
 |none=>grind
 |some d=>
  cases u:fs.mapM (λf=>DataW.trod enc P w base spare held m f.type ((cs.drop f.offset).take (P.cellsOf f.type)))with
  |none=>grind
  |some a=>
   have i:ds=d::a:=by
    grind
   subst i;rw[B,z]at q;obtain⟨x,t,s,F⟩:=h H enc w base spare held m _ d hm q μ hμ (hwt d (by simp));obtain⟨y,y1,y2,E⟩:=r H enc w base spare held m cs a hm hl u μ hμ (by grind);have j:cs.drop off=(cs.drop off).take k++cs.drop (off+k):=by rw[<- List.drop_drop,Xz]
   refine⟨(x,y),⟨t,y1⟩,by rw[j];exact s.append y2,?_⟩
   grind
theorem RB.struct{fs:Array Field}{L:Nat}(g:P.underlying t=some (.struct fs))(i:P.cellsOf t=L)(h:RF P n fs.toList 0 L T e wf):RB P (n+1) t T e wf:=by
 intro H enc w base spare held m cs d hm hd μ hμ hwt;cases m with
 |zero=>simp[DataW.trod]at hd
 |succ m=>
  unfold DataW.trod at hd;simp only[g]at hd;split at hd
  .rename_i j;cases a:fs.toList.mapM (λf=>DataW.trod enc P w base spare held m f.type ((cs.drop f.offset).take (P.cellsOf f.type)))with
   |none=>grind
   |some k=>
    rw[a]at hd;simp only[Xj,Option.some.injEq]at hd;subst hd;have:=h H enc w base spare held m cs k (by omega) (by rw[j,i]) a μ hμ (λy l=>XV (hμ.ag _ _ (by grind)) hwt)
    grind
  .cases hd
end
theorem C.law{P:Program}{f:FuncId}{args:List A}{W:World}{vals:List Value}(h:C P f args [] (λa H=>a=.bool true/\H=[]))(m:LR (QeS W) [] W args vals)(d:GP W):
  Calls P f vals.toArray W λe W'=>e=.returned (.bool true)/\Go.RowKit.Below W.heap.size W W':=by
 have s:Sim (λ_=>False) (QeS W) [] [] W:=
  ⟨rfl,⟨λ_ h=>h,λb j=>d.size b j,d⟩,λ_ h=>h.elim,λ_ _ h=>h,(by simp),(by simp),(by simp),(by simp)⟩
 refine(h _ _ _ _ W s m).mono ?_;rintro e W' ⟨v,r,H',i,τ,rfl,⟨rfl,rfl⟩,_,l,ev⟩;exact⟨by rw[show v=.bool true from l],⟨ev.os,ev.tape,ev.output,ev.size,λk g=>ev.keepRo k g⟩⟩
theorem QgL{P:Program}{W:World}{a:Nat}{t:TypeId}{v:Value}{fs:Array Field}(d:P.underlying t=some (.struct fs))(h:Value.okWide P W .any a t v):∃cs,v=.agg cs:=by
 unfold Value.okWide at h
 grind
theorem Qeh{P:Program}{W:World}{t:TypeId}{g:Array Value}{T:Type}{e:T->List A}{wf:T->Prop}{H:Type}{enc:TypeId×Value->H}{f:Nat}{a:Nat->Bool}{held:Bool}{d:DataW H}{l:List MemPlace}
  (h:∀n,RB P n t T e wf)(k:DataW.Trod enc P W f a held t (.agg g) d l){μ:DataW H->Nat}(hμ:Meas μ)(i:μ d<=1048576):∃x:T,wf x/\VR (QeS W) [] W (.agg (e x)) (.agg g):=by
 obtain⟨m,p⟩:=k;obtain⟨x,q,j,_⟩:=h (m+1) H enc W f a held m _ _ (Xn _) p μ hμ i;exact⟨x,q,g.toList,by simp,j⟩
theorem QhE{P:Program}{W:World}(h:W.ShapedOpen P){g t u:Nat}{z:Value}(hg:Nat.blt g P.globals.size=true)(s:(((begin P (λ_ _=>0) default).world.heap[g]?).bind Obj.row?)=some (#[z],t))
  (r:P.buildable t=true)(l:P.cellTypes P.depth t=some [u])(k:P.underlying u=some (.int .i64)):∃m:Int,W.cell? ⟨g,0,none⟩=some (.int .i64 m):=by
 obtain⟨d,w,p,n⟩:=h.1 g _ _ (by simp_all) s;obtain⟨y,i,_,j⟩:=n r;rw[l]at i;cases i;have x:d.size=1:=p;have e:d[0]?=some d[0]:=(by simp);obtain⟨B,f,a⟩:=j 0 _ e;simp at f;subst f;unfold Cell.ok at a;rw[k]at a;cases q:d[0]<;>rw[q]at a<;>simp at a
 simp_all[World.cell?]
theorem QhO{S B:Type}{step:S->Option (Ctl S B)}(a:Nat->S)(b:B)(k:Nat)(p:∀i,i<k->step (a i)=some (.cont (a (i+1))))(f:step (a k)=some (.done b)):∀n,k<n->iter step n (a 0)=some b:=by
 have j:∀m i n,k-i=m->i<=k->m<n->iter step n (a i)=some b:=by
  intro m
  induction m with
  |zero=>
   intro i n e g h;have:i=k:=by omega
   subst this;obtain⟨d,rfl⟩:∃d,n=d+1:=⟨n-1,by omega⟩;simp[iter,f]
  |succ m l=>
   intro i n e g h;obtain⟨d,rfl⟩:∃d,n=d+1:=⟨n-1,by omega⟩
   grind[iter]
 grind
theorem QkA{S B:Type}{step:S->Option (Ctl S B)}(s0:S)(a:Nat->S)(b:B)(k:Nat)(f:a 0=s0)(g:∀i,i<k->step (a i)=some (.cont (a (i+1))))(e:step (a k)=some (.done b))(n:Nat)(d:k<n):iter step n s0=some b:=by
 rw[<- f];exact QhO a b k g e n d
theorem Qo{α:Type}{l:List α}{i:Nat}{x:α}(h:l[i]?=some x):idx l i=some x:=by
 grind[idx]
theorem QmG{α:Type}(l:List α)(x:α)(h:l.length<4294967296):app l [x]=some (l++[x]):=by
 unfold app;have:Nat.ble (l.length+[x].length) Ys=true:=by
  grind[Nat.ble_eq_true_of_le,Ys]
 grind
theorem QaN{α:Type}(l m:List α)(h:l.length+m.length<=4294967296):app l m=some (l++m):=by
 simp_all[app,Ys,XS]
theorem Qq{n:Int}(a: -9223372036854775808<=n)(d:n<=9223372036854775807):IntKind.i64.wrap n=n:=by
 grind[IntKind.wrap,IntKind.bits,IntKind.signed]
theorem QU{i:Nat}(h:i<9223372036854775807):IntKind.i64.wrap (i+1)=(i+1:Nat):=by
 rw[Qq (by omega) (by omega)];omega
theorem Qx{p:Prop}[Decidable p](h:p):decide p=true:=Vt h
theorem Qy{p:Prop}[Decidable p](h:¬p):decide p=false:=Vw h
open Go.Proofs Go.Shelf
def cat(a b:List UInt8):Option (List UInt8):=bif Nat.ble (a.length+b.length) 4294967296 then some (a++b)else none
theorem QnH{a b r:List UInt8}(h:cat a b=some r):a.length+b.length<=4294967296/\a++b=r:=by
 unfold cat at h;cases q:Nat.ble (a.length+b.length) 4294967296 with
 |true=>simp_all
 |false=>grind
def Qet(s t:List UInt8):Option Bool:=bif Nat.blt s.length 4294967281 then some (Lib.contains s t)else none
section
variable {P:Program} {o:Oper} {env:Env} {H:Qd}
theorem QeV{t u:TypeId}{x y:Operand}{p q r:List UInt8}(i:cat p q=some r)(m:o.op=.binOp .add t x y u:=by exact rfl)(hx:opA env x=.str p:=by exact rfl)(hy:opA env y=.str q:=by exact rfl):OpV P o env H (.str r):=by
 intro k l σ N a w rr;obtain⟨s,g⟩:=QnH i;have e:=Qs rr x;rw[hx]at e;have f:=Qs rr y;rw[hy]at f;have h:a.eval x=.string ⟨p.toArray⟩:=e;have j:a.eval y=.string ⟨q.toArray⟩:=f;have n:(⟨p.toArray⟩:ByteArray)++⟨q.toArray⟩=⟨r.toArray⟩:=by
  rw[<- g];rfl
 refine⟨.string ⟨r.toArray⟩,?_,rfl⟩;have d:¬((⟨p.toArray⟩:ByteArray).size+(⟨q.toArray⟩:ByteArray).size>IntKind.i64.max):=by
  have:IntKind.i64.max=9223372036854775807:=by decide
  grind[ByteArray.size]
 simp_all[eqGuard,execOp,binOp_string_add,Op.stringOp]
def Qer{α:Type}(n:Nat)(l:List α)(i:Int):Option α:=bif Nat.beq l.length n then idx l i else none
theorem Qbo{α:Type}{n:Nat}{l:List α}{i:Int}{x:α}(h:Qer n l i=some x):l.length=n/\idx l i=some x:=by
 grind[Qer,Nat.eq_of_beq_eq_true]
def arr{α:Type}(n:Nat)(l:List α):Option (List α):=bif Nat.beq l.length n then some l else none
theorem Qcs{α:Type}{n:Nat}{l l':List α}(h:arr n l=some l'):l.length=n/\l=l':=by
 grind[arr,Nat.eq_of_beq_eq_true]
theorem Qgh{α:Type}{n:Nat}{l l':List α}(h:arr n l=some l'):l'.length=n:=(Qcs h).2▸(Qcs h).1
section
variable {α:Type} {e:α->List A} {t et k n b:Nat} {x y:Operand} {l:List α}
theorem QaH{i:Int}{v:α}{g:IntKind}(h:Qer n l i=some v)(u:∀w,(underlying t).run P w=.ok (.array n et) w)(q:∀w,(sizeOf et).run P w=.ok k w)(s:Nat.ble 2 n=true)
  (F:o.op=.indexAddr t x y:=by exact rfl)(hx:opA env x=.ptr b 0:=by exact rfl)(hy:opA env y=.int g i:=by exact rfl):OpV P o env H (.ptr b (i.toNat*k)):=by
 intro O L σ N a w r;obtain⟨G,p⟩:=Qbo h;obtain⟨J,M⟩:=Qbn p;have B:i.toNat<l.length:=(by grind);have e:=Qs r x;rw[hx]at e;obtain⟨d,e,z⟩:=e;have m:=Qs r y;rw[hy]at m;have f:a.eval y=.int g i:=m;refine⟨.pointer (some ⟨d,i.toNat*k,none⟩),?_,d,e,rfl⟩;have E:0<=i/\i<n:=by omega
 have j:(⟨d,0,none⟩:Addr).add (i.toNat*k)=⟨d,i.toNat*k,none⟩:=by
  grind[Addr.add]
 generalize a.eval=ρ at*;simp[F,z,f,Instr.indexAt,u,q,E,go_sem]
theorem QiU{a:List A}(i:H[b]?=some (.row t k (l.map e)):=by exact rfl)(hcs:(l.map e).flatten=a:=by exact rfl):Pts H (.ptr b 0) a:=by
 intro n p σ w v s h;obtain⟨g,j,d⟩:=h;obtain⟨q,m,f⟩:=s.blk b _ _ j i;refine⟨g,0,d,?_⟩;have:=(RR.flat (YQ (pre:=[]) (by simpa using m) f)).1;subst hcs;exact this.lift
theorem QgY(a:∀x,(e x).length=k)(L:List α):(L.map e).flatten.length=L.length*k:=by
 induction L with
 |nil=>simp
 |cons c L ih=>grind
theorem Qhs{d:Nat}{l':List α}(h:arr n l=some l')(g:∀x,(e x).length=k)(a:n*k=d)(j:∀w,(isAgg t).run P w=.ok true w)(m:∀w,(sizeOf t).run P w=.ok d w){T:Nat}
  (i:o.op=.load t x:=by exact rfl)(hx:opA env x=.ptr b 0:=by exact rfl)(hH:H[b]?=some (.row T k (l.map e)):=by exact rfl):OpV P o env H (.agg (l'.map e).flatten):=by
 obtain⟨p,rfl⟩:=Qcs h;have f:=QgY g l;rw[p,a]at f;exact Qbg i j m hx (QiU hH rfl) (by grind) f
theorem QjP{r:Nat}{n2 T:Nat}(i:l.length=n)(f:∀x,(e x).length=k)(d:n*k=n2)(g:∀w,(isAgg t).run P w=.ok true w)(h:∀w,(sizeOf t).run P w=.ok n2 w)
  (a:lk env r=.ptr b 0:=by exact rfl)(hH:H[b]?=some (.row T k (l.map e)):=by exact rfl):QcV P env H (.cell r t) (.agg (l.map e).flatten):=by
 have j:=QgY f l;have:=QdE g h (QiU hH rfl) a (by grind)
 grind
theorem Qhq{c:List A}{k:Nat}(h:c.length=k):∀n,allK k (List.replicate n c)
 |0=>trivial
 |n+1=>⟨h,Qhq h n⟩
theorem Qc0{vs:Array Value}{z:α}(u:∀w,(zeroValue t).run P w=.ok (.agg vs) w)(q:(YJ (List.replicate n (e z)).flatten).toArray=vs)(j:QfT (List.replicate n (e z)).flatten=true)(h:(List.replicate n (e z)).flatten.all Yr=true)(i:Nat.beq (e z).length k=true)
  (s:o.op=.alloc t:=by exact rfl):OpH P o env H (.ptr H.length 0) (H++[.row t k ((List.replicate n z).map e)]):=by
 intro p g σ N a w r;have f:LR g [] w (List.replicate n (e z)).flatten (YJ (List.replicate n (e z)).flatten):=Qe4 j;have d:=r.sim.allocRow (t:=t) (rest:=[]) (Qhq (XQ i) n) f (f.plain h);rw[Vg]at d;have l:(List.replicate n z).map e=List.replicate n (e z):=List.map_replicate;refine⟨.pointer (some ⟨w.heap.size,0,none⟩),w.alloc (.cells (YJ (List.replicate n (e z)).flatten).toArray t),g,[some w.heap.size],?_,⟨w.heap.size,?_,rfl⟩,l▸d,Qm.alloc _ r.sim.roLt r.sim.frLt⟩
 .have m:(newVar t (.agg vs)).run P w=.ok ⟨w.heap.size,0,none⟩ (w.alloc (.cells vs t)):=rfl
  simp_all[execOp,Instr.alloc]
 .rw[<- r.sim.len];simp
theorem QcZ{T n2:Nat}{l':List α}{vs:List A}(h:l.length=n)(h':l'.length=n)(X:∀x,(e x).length=k)(q:n*k=n2)(hs:∀w,(sizeOf t).run P w=.ok n2 w)
  (hp:∀x,(e x).all Yr=true)(W:∀x,Yw (e x)=true)(J:(l'.map e).flatten=vs)
  (ho:o.op=.store t x y:=by exact rfl)(E:opA env x=.ptr b 0:=by exact rfl)(hH:H[b]?=some (.row T k (l.map e)):=by exact rfl)(B:opA env y=.agg vs:=by exact rfl):
  OpU P o env H (H.set b (.row T k (l'.map e))):=by
 intro fr Y σ N a w r;subst J;have i:=Qs r x;rw[E]at i;obtain⟨bb,i,h2⟩:=i;have Q:=Qs r y;rw[B]at Q;obtain⟨m,h4,j⟩:=Q;obtain⟨G,V,q2⟩:=r.sim.blk b _ _ i hH;have M:∀(L:List α),allK k (L.map e):=by
  intro L
  induction L with
  |nil=>trivial
  |cons c L p=>exact⟨X c,p⟩
 have F:(l'.map e).flatten.length=n2:=by grind[YU]
 have hm:m.length=n2:=by rw[j.length,F]
 have g:∀L:List α,(L.map e).flatten.all Yr=true:=by
  grind
 have s:∀f ds:List A,Yw f=true->Yw ds=true->Yw (f++ds)=true:=by
  intro f
  induction f with
  |nil=>simp
  |cons c f p=>
   simp_all[Yw]
 have z:∀L:List α,Yw (L.map e).flatten=true:=by
  intro L
  induction L with
  |nil=>rfl
  |cons c L p=>exact s _ _ (W c) p
 have hlen:=by
  have:=q2.length;rw[X2,h,q]at this;exact this
 have O:=YF (P:=P) (vs:=m) 0 0 V (by omega) (j.plain (g l'));have R:splice G 0 m=m++G.drop n2:=by unfold splice;simp[hm]
 have d:=r.sim.set (x':=.row T k (l'.map e)) (obj:=.cells (splice G 0 m).toArray T (0,0)) i hH rfl
  (λy B=>QaD V (Yz (by omega)) y B)
  (λex u=>by
   have E:=(j.data (z l')).mono ex.nil;exact⟨_,u,Qae (M l') E (j.plain (g l'))⟩)
 refine⟨_,Y,[],?_,by simpa using d.1,d.2⟩
 simp_all[Value.cells,storeVar,execOp,Instr.storeAt,Instr.sureAddr]
end
end
theorem C.contains{P:Program}{ρ:Ren}(L:Lays.n144 P ρ)(hg:ρ.g 1=Qjl){s t:List UInt8}{r:Bool}(h:Qet s t=some r):C P (ρ.f 144) [.str s,.str t] [] (λa H=>a=.bool r/\H=[]):=by
 unfold Qet at h;cases q:Nat.blt s.length 4294967281 with
 |false=>grind
 |true=>
  rw[q]at h;obtain rfl:=XZ h;intro x j σ vals w sim hv;obtain⟨y,p,rfl,l,n,d,rfl,i,k⟩:=hv;cases(show d=[]from k);obtain⟨m,z⟩:=sim.roOk.gp.max;have e1:=l;have e2:=i;subst e1 e2;have hs:=by simpa using q
  refine(Any.strings_Contains L ⟨s.toArray⟩ ⟨t.toArray⟩ m w (by simpa[ByteArray.size]using hs) (by grind)).mono ?_;rintro e u ⟨rfl,rfl⟩;exact⟨_,_,_,j,[],rfl,⟨rfl,rfl⟩,by grind,rfl,Qm.refl _ _ _⟩
section
variable {P:Program} {o:Oper} {env:Env} {H:Qd} {fr ro:Nat->Prop} {σ:Sig} {w:World}
theorem Sim.touch(s:Sim fr ro σ H w){b:Nat}{obj:Obj}(p:¬ro b)(n:¬fr b)(u:∀(i:Nat) (x:Blk),σ[i]?=some (some b)->H[i]?=some x->x.live=true->False)
  (l:∀(i d:Nat) (x:Blk),σ[i]?=some (some d)->H[i]?=some x->Hid w x d b->False)
  (m:∀y,w.shape? b=some y->{w with heap:=w.heap.setIfInBounds b obj}.shape? b=some y):
  Sim fr ro σ H {w with heap:=w.heap.setIfInBounds b obj}/\Qm fr ro w ro {w with heap:=w.heap.setIfInBounds b obj}:=by
 have a:{w with heap:=w.heap.setIfInBounds b obj}.heap.size=w.heap.size:=by simp
 have ev:Qm fr ro w ro {w with heap:=w.heap.setIfInBounds b obj}:=
  ⟨λ_ h=>h,(by grind),(by grind),by omega,by
   grind[World.shape?],rfl,rfl,rfl,XT _⟩
 refine⟨⟨s.len,s.roOk.to (λ_ q=>q) ev.keepRo (λc h=>by rw[a];exact s.roLt c h),λc h=>by rw[a];exact s.frLt c h,s.roFr,?_,s.inj,?_,s.hidTo (· = ·) Yb (by omega) (by simp) (by simp) λj d y g k t=>.inl ⟨j,y,rfl,g,k,id,λc q=>s.hidKeep g k (by grind) ev.keepRo q⟩⟩,ev⟩
 .intro i c x f e r;rw[a];exact s.own i c x f e r
 .intro i y x f e;refine(s.blk i y x f e).keep (ev.ext0 σ) ?_ ?_
  .grind
  grind
theorem Qj1{T E i n t:Nat}{x:Operand}{es:List (List A)}(ht:P.underlying T=some (.slice E))(hE:P.underlying E=some (.int .u8))(hn:es.length=n)(h0:Nat.blt 0 n=true)
  (ho:o.op=.convert T T x:=by exact rfl)(hx:opA env x=.osl i 0 n 1:=by exact rfl)(hH:H[i]?=some (.row t 1 es):=by exact rfl):
  OpH P o env H (.rsl 1 es) (H.set i .dead):=by
 intro fr M σ N a w r;subst hn;have s:=Qs r x;rw[hx]at s;rcases s with⟨hz,_⟩|⟨b,p,J,t',m,s,h2,Y,⟨h3,aa⟩,h4,h5⟩
 .simp_all
 .have W:0<es.length:=by simp_all
  obtain rfl:=Y (by omega);obtain⟨hb,G,g⟩:=r.sim.own i b _ s hH rfl;obtain⟨l,q1,q2⟩:=r.sim.blk i _ _ s hH;have V:=r.sim.kill i;have f:∀(j:Nat) (y:Blk),σ[j]?=some (some b)->(H.set i .dead)[j]?=some y->y.live=true->False:=by
   intro j y B e u;by_cases q:j=i
   .subst q;rw[Xb]at e;simp only[if_true]at e
    grind[Blk.live]
   .rw[XP (λz=>q z.symm)]at e;exact q (r.sim.inj j i b y _ B s e hH u rfl)
  have L:∀(j d:Nat) (y:Blk),σ[j]?=some (some d)->(H.set i .dead)[j]?=some y->Hid w y d b->False:=by
   intro j d y B e u;by_cases q:j=i
   .subst q;rw[Xb]at e;simp only[if_true]at e;split at e
    .cases e;exact u.elim
    .simp at e
   .rw[XP (λz=>q z.symm)]at e;exact(r.sim.hid j d y b B e u).ne i b _ s hH rfl rfl
  let fz:Nat×Nat:=(l.length,l.length+1)
  have R:∀y,w.shape? b=some y->({w with heap:=w.heap.setIfInBounds b (.cells l.toArray t fz)}:World).shape? b=some y:=by
   simp_all[World.shape?]
  obtain⟨s2,h⟩:=V.touch (obj:=.cells l.toArray t fz) G g f L R;have s3:=s2.addRo (b:=b) (by grind) g f (λj d y B e u=>L j d y B e (V.hidKeep B e (by grind) h.keepRo u));have k:({w with heap:=w.heap.setIfInBounds b (.cells l.toArray t fz)}:World).heap[b]?=some (.cells (([]:List Value)++l).toArray t fz):=by
   grind
  have F:Ext M [] w M [] {w with heap:=w.heap.setIfInBounds b (.cells l.toArray t fz)}:=h.ext0 [];refine⟨.slice (some ⟨b,0*1,none⟩) es.length J,_,λc=>M c\/c=b,[],?_,?_,by grind,h.trans (Q4 λ_ q=>.inl q)⟩
  .have hf:w.freeze ⟨b,l.length,none⟩ 1={w with heap:=w.heap.setIfInBounds b (.cells l.toArray t fz)}:=by
    unfold World.freeze;simp only[Nat.one_ne_zero,if_false];rw[Qdc q1];rfl
   have Q:(markStringish ⟨b,0*1,none⟩).run P w=.ok () {w with heap:=w.heap.setIfInBounds b (.cells l.toArray t fz)}:=by
    simp_all[markStringish,World.shape?]
   have X:∀w,(underlying T).run P w=.ok (.slice E) w:=run_underlying ht;have O:∀w,(underlying E).run P w=.ok (.int .u8) w:=run_underlying hE;generalize a.eval=ρ at*;simp only[execOp,ho,h2,convert,Vm,X,O,Result.andThen,beq_self_eq_true,Q,Vn]
  .refine⟨some ⟨b,0*1,none⟩,J,rfl,h3,.inr ⟨b,0*1,rfl,.inr rfl,?_⟩⟩;have:=YQ (pre:=[]) k (q2.mono F);exact(by omega:RR M [] _ b 1 es (0*1)).keep ⟨λ_ q=>.inl q,λ_ _=>rfl,λ_ _ q=>q,λ_ _ q=>q⟩ rfl
end
mutual
theorem Qc9(ρ:Nat->Nat):∀{a:A},Yq a=true->YK ρ a=a
 |.any,_=>rfl
 |.bool _,_=>rfl
 |.int _ _,_=>rfl
 |.str _,_=>rfl
 |.nilp,_=>rfl
 |.ptr _ _,h=>by simp[Yq]at h
 |.rp _,_=>rfl
 |.nils,_=>rfl
 |.rsl _ _,_=>rfl
 |.osl _ _ _ _,h=>by simp[Yq]at h
 |.agg cs,h=>by simp only[Yq]at h;simp only[YK,Qab ρ h]
 |.fn f a c,h=>by simp only[Yq,XW]at h;simp only[YK,Qab ρ h.1,Qab ρ h.2]
 |.nilf,_=>rfl
 |.iface t a,h=>by simp only[Yq]at h;simp only[YK,Qc9 ρ h]
 |.nilif,_=>rfl
 |.map _,h=>by simp[Yq]at h
 |.nilm,_=>rfl
 |.tup vs,h=>by simp only[Yq]at h;simp only[YK,Qab ρ h]
theorem Qab(ρ:Nat->Nat):∀{l:List A},Yw l=true->Qak ρ l=l
 |[],_=>rfl
 |a::l,h=>by simp only[Yw,XW]at h;simp only[Qak,Qc9 ρ h.1,Qab ρ h.2]
end
theorem Qfv{α:Type}{e:α->List A}(a:∀x,Yw (e x)=true):∀L:List α,Yw (L.map e).flatten=true
 |[]=>rfl
 |c::L=>by
  have hdt:∀cs ds,Yw cs=true->Yw ds=true->Yw (cs++ds)=true:=by
   intro cs
   induction cs with
   |nil=>simp
   |cons c cs d=>
    simp_all[Yw]
  exact hdt _ _ (a c) (Qfv a L)
theorem Ql3{α:Type}{e:α->List A}(hd:∀x,Yw (e x)=true)(ρ:Nat->Nat)(l:List α):YK ρ (.agg (l.map e).flatten)=.agg (l.map e).flatten:=
 Qc9 ρ (by exact Qfv hd l)
end Go.Sw
namespace Go.Sw
section
variable {P:Program} {o:Oper} {env:Env} {H:Qd}
theorem QdZ{c:Call}{f T:Nat}{x:Operand}{xs:List Operand}{j:Array TypeId}{d:String}{v:A}{args:List A}(e:∀(a:Array Value) (w:World),(callFunc f a).run P w=.ok (.enter f a) w)(n:o.op=.call c)
  (l:c={callee:=.invoke x d,args:=xs.toArray,argTypes:=j})(h:opA env x=.iface T v)(hargs:v::xs.map (opA env)=args)
  (p:∀(u:Value) (w:World),(method (P.types.size+Made.depth) T u d).run P w=.ok (f,u) w):OpC P o env H f args:=by
 intro k m σ N a w r;have g:=Qs r x;rw[h]at g;obtain⟨u,g,i⟩:=g;refine⟨u::xs.map a.eval,?_,hargs▸⟨u,xs.map a.eval,rfl,i,Qbf r xs⟩⟩
 simp_all[VH,callMethod,execOp,resolve,invoke]
theorem Qbs{T I:Nat}{x:Operand}{v:A}{d:TypeDesc}(j:∀w,(underlying T).run P w=.ok d w)(i:∀m,d≠ .interface m)(h:o.op=.typeAssert x I T true:=by exact rfl)(hx:opA env x=.iface T v:=by exact rfl):
  OpV P o env H (.tup [v,.bool true]):=by
 intro k g σ N a w r;have e:=Qs r x;rw[hx]at e;obtain⟨u,e,f⟩:=e;refine⟨.tuple #[u,.bool true],?_,[u,.bool true],rfl,_,_,rfl,f,_,_,rfl,rfl,rfl⟩
 simp_all[execOp,Instr.typeAssert]
theorem Qgl{T T' I:Nat}{x:Operand}{v z:A}{zv:Value}{d:TypeDesc}(j:∀w,(underlying T).run P w=.ok d w)(h:∀m,d≠ .interface m)(g:Nat.beq T' T=false)(s:∀w,(zeroValue T).run P w=.ok zv w)(e:ZR z zv)
  (p:o.op=.typeAssert x I T true:=by exact rfl)(hx:opA env x=.iface T' v:=by exact rfl):
  OpV P o env H (.tup [z,.bool false]):=by
 intro k l σ N a w r;have f:=Qs r x;rw[hx]at f;obtain⟨u,f,i⟩:=f;have n:T'≠T:=λq=>by simp_all
 refine⟨.tuple #[zv,.bool false],?_,[zv,.bool false],rfl,_,_,rfl,e _ _ _,_,_,rfl,rfl,rfl⟩
 simp_all[execOp,Instr.typeAssert]
end
def TL(P:Program)(h0 N:Nat)(c:Code)(env:Env)(H:Qd)(Q:QG):Prop:=
 ∀rd fr ro σ a w,Rel fr ro σ H env N a w->QdL rd fr w->∀(b:Frame) (k:List Item) (cs:List Frame),b.roundOf=(WF rd).round->(WF rd).fn b.fn->(WF rd).room (cs.length+1+0)->∃e a' w',Qat h0 fr ro σ w N a.defers Q e a' w'/\ArrivesIn (Machine.fenced P (WF rd)) P (lone (b.atR a (.code c::.inLoop c::k)) cs w) b k cs e a' w'
def Qia(P:Program)(h0 N:Nat)(c:Code)(Q:QG):QG
 |.normal,env,H=>TL P h0 N c env H Q
 |.exit id,env,H=>Q (.exit id) env H
 |.ret,env,H=>Q .ret env H
section
variable {P:Program} {h0 N:Nat} {c:Code} {env:Env} {H:Qd} {Q:QG}
theorem Qlx(h:TL P h0 N c env H Q):TC P h0 N (.loop c) env H Q:=by
 intro g i j σ a w r hrd b k cs hro hb hr;obtain⟨e,l,f,m,d⟩:=h g i j σ a w r hrd b k cs hro hb hr;exact⟨e,l,f,m,.of_steps (.one (fenced_calm hb hr rfl) stepR_loop) d⟩
theorem TL.round(h:TC P h0 N c env H (Qia P h0 N c Q)):TL P h0 N c env H Q:=by
 intro E B F σ a w r hrd b k cs hro hb hr;obtain⟨e,l,n,M,d⟩:=h E B F σ a w r hrd b (.inLoop c::k) cs hro hb hr;obtain⟨x,f,H',i,σ',j,m,t,z,s,y,p⟩:=M;have G:∀x,Q x f H'->ExR e x->Qat h0 B F σ w N a.defers Q e l n:=λx q L=>⟨x,f,H',i,σ',j,L,q,z,s,y,p⟩;cases e with
 |normal=>
  obtain rfl:x=.normal:=m;obtain⟨R,J,O,u,g⟩:=t E j i σ' l n z (hrd.to s p.sub) b k cs hro hb hr;exact⟨R,J,O,u.grow s y p,.of_steps (StepsIn.trans d (.one (fenced_calm hb hr rfl) stepR_inLoop)) g⟩
 |exit id=>
  obtain rfl:x=.exit id:=m;exact⟨_,l,n,G _ t rfl,.pass rfl (by simp) d⟩
 |ret=>
  obtain rfl:x=.ret:=m;exact⟨_,l,n,G _ t rfl,.pass rfl (by simp) d⟩
 |_=>exact m.elim
theorem unrN(h:TC P h0 N c env H (Qia P h0 N c Q)):Qia P h0 N c Q .normal env H:=TL.round h
theorem unrX{id:Nat}(h:Q (.exit id) env H):Qia P h0 N c Q (.exit id) env H:=h
theorem unrR(h:Q .ret env H):Qia P h0 N c Q .ret env H:=h
theorem QjM(h:TC P h0 N c env H (Qia P h0 N c Q)):TC P h0 N (.loop c) env H Q:=Qlx (TL.round h)
end
section
variable {P:Program} {o:Oper} {env:Env} {H:Qd}
theorem OpV.ixL{t a k b n j:Nat}{x y:Operand}{d:IntKind}{i:Int}(l:Nat.blt j n=true)(hi:i=j)(f:∀w,(underlying t).run P w=.ok (.slice a) w)(g:∀w,(sizeOf a).run P w=.ok k w)
  (e:o.op=.indexAddr t x y:=by exact rfl)(hx:opA env x=.osl b 0 n k:=by exact rfl)(hy:opA env y=.int d i:=by exact rfl):OpV P o env H (.ptr b (j*k)):=by
 have h:=QiV (H:=H) e f g hx hy (by omega) (by simp_all)
 grind
end
section
variable {P:Program} {o:Oper} {env:Env} {H:Qd}
end
def QkC{α R:Type}[DecidableEq R](l:List α)(x y:Option R):Option R:=bif l.isEmpty then(bif decide (x=y)then x else none)else y
theorem QkB{α R:Type}[DecidableEq R]{l:List α}{x y:Option R}{r:R}(h:QkC l x y=some r)(b:Bool)(a:l≠[]->b=false):(b=true->x=some r)/\(b=false->y=some r):=by
 unfold QkC at h
 grind
section
variable {P:Program} {o:Oper} {env:Env} {H:Qd} {h0 N:Nat} {Q:QG}
end
section
variable {P:Program} {o:Oper} {env:Env} {H:Qd} {α:Type} {e:α->List A} {T et k b t:Nat} {x y:Operand} {l l':List α} {i:Int}
end
open Go.Sort Go.Proofs Go.Shelf
theorem Qgk{ro:Nat->Prop}{σ:Sig}{w:World}:∀{l:List Int} {lv:List Value},RL ro σ w 1 (l.map λx=>[A.int .i64 x]) lv->∃rest,lv=l.map (Value.int .i64)++rest
 |[],lv,_=>⟨lv,rfl⟩
 |x::l,lv,h=>by
  obtain⟨l1,l2,rfl,h1,⟨h2,h3⟩,h4⟩:=h;obtain⟨rest,rfl⟩:=Qgk h4;obtain⟨v,r,rfl,hv,hr⟩:=h2;cases(show r=[]from hr);exact⟨rest,by rw[show v=.int .i64 x from hv];simp⟩
section
variable {P:Program} {o:Oper} {env:Env} {H:Qd} {α:Type} {e:α->List A} {T et k b t:Nat} {x y:Operand}
theorem Qb7{lo hi:Option Operand}{l r:List α}{a c:Int}(h:slc l a c=some r)(E1:∀w,(underlying T).run P w=.ok (.slice et) w)(E2:∀w,(sizeOf et).run P w=.ok k w)
  (f:lo=none/\a=0\/ ∃y,lo=some y/\opA env y=.int .i64 a)(d:hi=none/\c=l.length\/ ∃y,hi=some y/\opA env y=.int .i64 c)
  (e:o.op=.slice T x lo hi none:=by exact rfl)(hx:opA env x=.osl b 0 l.length k:=by exact rfl):OpV P o env H (.osl b (0+a.toNat) (c.toNat-a.toNat) k):=by
 obtain⟨g,j,i,_⟩:=Qc6 h;refine QlH E1 E2 e hx ?_ ?_ (by omega) (by omega)
 .grind
 grind
theorem QlD{l r:List α}{a c:Int}(h:slc l a c=some r)(d:H[b]?=some (.row t k (l.map e)):=by exact rfl):Src P H (.osl b (0+a.toNat) (c.toNat-a.toNat) k) k (r.map e):=by
 obtain⟨g,j,i,f⟩:=Qc6 h;refine Src.osl d ?_ (by grind);rw[<- f, <- List.map_drop, <- List.map_take,Xw,List.drop_take]
end
end Go.Sw
namespace Go.Sw
inductive Bx where
 |mk (a:A)
def lkB:Env->Nat->Bx
 |[],_=>.mk .any
 |(d,a)::r,s=>bif Nat.beq s d then .mk a else lkB r s
theorem QhM:∀{env:Env} {s:Nat} {a:A},lkB env s=.mk a->lk env s=a
 |[],s,a,h=>by cases h;rfl
 |(d,b)::r,s,a,h=>by
  unfold lkB at h;unfold lk;cases q:Nat.beq s d with
  |true=>grind
  |false=>rw[q]at h;exact QhM h
inductive FBy where
 |mk (l:List UInt8)
def fby:List UInt8->FBy
 |[]=>.mk []
 |a::r=>match fby r with
  |.mk r'=>.mk (a::r')
theorem QkP:∀l,fby l=.mk l
 |[]=>rfl
 |a::r=>by unfold fby;rw[QkP r]
def opB(env:Env):Operand->Bx
 |.tmp t=>lkB env t
 |.const (.bool b)=>.mk (.bool b)
 |.const (.int k n)=>.mk (.int k n)
 |.const (.string s)=>match fby s.data.toList with
  |.mk l=>.mk (.str l)
 |.const (.pointer none)=>.mk .nilp
 |.const (.slice none 0 0)=>.mk .nils
 |.const (.map none)=>.mk .nilm
 |.const .nilFunc=>.mk .nilf
 |.const .nilIface=>.mk .nilif
 |.func f=>.mk (.fn (.func f) [] [])
 |_=>.mk .any
theorem QS{env:Env}{x:Operand}{a:A}(h:opB env x=.mk a):opA env x=a:=by
 cases x with
 |tmp t=>exact QhM h
 |const v=>
  cases v with
  |slice b n k=>cases b with
   |none=>cases n with
    |zero=>cases k<;>(cases h;rfl)
    |succ n=>cases h;rfl
   |some b=>cases h;rfl
  |pointer p=>cases p<;>(cases h;rfl)
  |map p=>cases p<;>(cases h;rfl)
  |string s=>
   have d:(match fby s.data.toList with|.mk l=>Bx.mk (.str l))=.mk a:=h;rw[QkP]at d;cases d;rfl
  |_=>cases h;rfl
 |global g=>cases h;rfl
 |func f=>cases h;rfl
def YL{α:Type}:List α->Nat->Option α
 |[],_=>none
 |a::_,0=>some a
 |_::r,n+1=>YL r n
theorem QaB{α:Type}:∀(l:List α) (n:Nat),YL l n=l[n]?
 |[],n=>by simp[YL]
 |a::r,0=>rfl
 |a::r,n+1=>by simp[YL,QaB r n]
def arB:BinOp->IntKind->Int->Int->Option A
 |.add,k,m,n=>some (.int k (k.wrap (m+n)))
 |.sub,k,m,n=>some (.int k (k.wrap (m-n)))
 |.mul,k,m,n=>some (.int k (k.wrap (m*n)))
 |.eql,_,m,n=>some (.bool (m==n))
 |.neq,_,m,n=>some (.bool (m != n))
 |.lss,_,m,n=>some (.bool (decide (m<n)))
 |.leq,_,m,n=>some (.bool (decide (m<=n)))
 |.gtr,_,m,n=>some (.bool (decide (n<m)))
 |.geq,_,m,n=>some (.bool (decide (n<=m)))
 |_,_,_,_=>none
def srB:BinOp->List UInt8->List UInt8->Option A
 |.eql,p,q=>some (.bool (p==q))
 |.neq,p,q=>some (.bool (p != q))
 |.lss,p,q=>some (.bool (Op.bytesLess p q))
 |_,_,_=>none
def biB(b:BinOp):Bx->Bx->Option A
 |.mk (.int k m),.mk (.int k' n)=>if k=k' then arB b k m n else none
 |.mk (.str p),.mk (.str q)=>srB b p q
 |_,_=>none
def unB:UnOp->Bx->Option A
 |.not,.mk (.bool b)=>some (.bool !b)
 |.neg,.mk (.int k n)=>some (.int k (k.wrap (0-n)))
 |_,_=>none
def exB:Bx->Nat->Option A
 |.mk (.tup vs),i=>YL vs i
 |_,_=>none
def nlB:Bx->Option A
 |.mk (.ptr i j)=>some (.ptr i j)
 |.mk (.rp cs)=>some (.rp cs)
 |_=>none
def piB:Bx->Bx->Bx->Option A
 |.mk (.bool true),.mk a,_=>some a
 |.mk (.bool false),_,.mk a=>some a
 |_,_,_=>none
def svB(env:Env):Op->Option A
 |.move x=>match opB env x with|.mk a=>some a
 |.assign x=>match opB env x with|.mk a=>some a
 |.nilCheck x=>nlB (opB env x)
 |.extract x i=>exB (opB env x) i
 |.unOp u _ x=>unB u (opB env x)
 |.pick c x y=>piB (opB env c) (opB env x) (opB env y)
 |.binOp b _ x y _=>biB b (opB env x) (opB env y)
 |_=>none
def pr(d:Nat):Option A->Option (Nat×A)
 |some a=>some (d,a)
 |none=>none
def stB(o:Oper)(env:Env):Option (Nat×A):=
 match o.dst with
 |some d=>pr d (svB env o.op)
 |none=>none
section
variable {P:Program} {h0 N:Nat} {all:Array Oper} {o:Oper} {l:List Oper} {env:Env} {H H':Qd} {Q:QG} {d:Nat} {x:A}
theorem QbF{p:Op}(g:o.op=p)(h:svB env p=some x):OpV P o env H x:=by
 unfold svB at h;split at h
 .rename_i y;cases q:opB env y with|mk a=>simp_all[OpV.move,QS]
 .rename_i y;cases q:opB env y with|mk a=>simp_all[OpV.assign,QS]
 .rename_i y;unfold nlB at h;split at h
  .rename_i i j q;cases h;exact QeW g (QS q) rfl
  .rename_i s q;cases h;exact QeW g (QS q) rfl
  .cases h
 .rename_i y i;unfold exB at h
  grind[QaB,OpV.extract,QS]
 .rename_i u t y;unfold unB at h
  grind[OpV.not,QS,OpV.neg]
 .rename_i c y z;unfold piB at h;split at h
  .rename_i a _ f d;cases h;exact OpV.pick g (QS f) (by rw[Vs rfl];exact QS d)
  .rename_i a f d;cases h;exact OpV.pick g (QS f) (by exact QS d)
  .cases h
 .rename_i b t y z u;unfold biB at h;split at h
  .rename_i k m w n f d;split at h
   .rename_i e;subst e;have r:=QS f;have l:=QS d;unfold arB at h
    grind[OpV.add,OpV.sub,OpV.mul,OpV.eql,OpV.neq,OpV.lss,OpV.leq,OpV.gtr,OpV.geq]
   .cases h
  .rename_i p q f d;have r:=QS f;have l:=QS d;unfold srB at h
   grind[QjU,QjR,QjS]
  .cases h
 .cases h
theorem Qkk(h:stB o env=some (d,x)):o.dst=some d/\OpV P o env H x:=by
 unfold stB at h;split at h
 .rename_i f q;cases e:svB env o.op with
  |none=>rw[e]at h;cases h
  |some a=>rw[e]at h;cases h;exact⟨q,QbF rfl e⟩
 .cases h
theorem S(e:stB o env=some (d,x))(k:WO P h0 N all l (up env d x) H Q)(hg:QI all o env true:=by exact rfl)(hN:Nat.blt d N=true:=by exact rfl):WO P h0 N all (o::l) env H Q:=
 Y8 hg (Qkk (P:=P) (H:=H) e).1 hN (Qkk e).2 k
theorem K(hg:QI all o env false)(e:o.dst=some d)(k:WO P h0 N all l (up env d (.tup [])) H Q)(a:Nat.blt d N=true:=by exact rfl):WO P h0 N all (o::l) env H Q:=
 WO.skip hg e a k
inductive Lx where
 |mk (l:List A)
def Qhl:Nat->List A->Lx
 |0,l=>.mk l
 |n+1,_::r=>Qhl n r
 |_+1,[]=>.mk []
theorem QeN:∀{n:Nat} {l r:List A},Qhl n l=.mk r->l.drop n=r
 |0,l,r,h=>by cases h;rfl
 |n+1,a::l,r,h=>by rw[List.drop_succ_cons];exact QeN h
 |n+1,[],r,h=>by cases h;rfl
def ctB:Option Blk->Nat->Option A
 |some (.cells _ cs),off=>YL cs off
 |_,_=>none
def lvB(H:Qd):Bx->Option A
 |.mk (.ptr i off)=>ctB (YL H i) off
 |.mk (.rp (a::_))=>some a
 |_=>none
def pr3(d t:Nat):Option A->Option (Nat×Nat×A)
 |some a=>some (d,t,a)
 |none=>none
def ldB(o:Oper)(env:Env)(H:Qd):Option (Nat×Nat×A):=
 match o.dst,o.op with
 |some d,.load t x=>pr3 d t (lvB H (opB env x))
 |_,_=>none
theorem Qky{t:Nat}(l:∀w,(isAgg t).run P w=.ok false w)(h:ldB o env H=some (d,t,x)):o.dst=some d/\OpV P o env H x:=by
 unfold ldB at h;split at h
 .rename_i u q y p k;cases e:lvB H (opB env y)with
  |none=>rw[e]at h;cases h
  |some a=>
   rw[e]at h;cases h;refine⟨p,?_⟩;unfold lvB at e;split at e
   .rename_i i f j;unfold ctB at e;split at e
    .rename_i f s T0 T cs q4;rw[QaB]at e q4;obtain⟨g,m⟩:∃g,cs.drop f=x::g:=by
      have n:=(XL.1 e).1
      simp_all[Xp]
     exact OpV.load k l (QS j) (Pts.cells q4 m)
    .cases e
   .rename_i a r j;cases e;exact OpV.load k l (QS j) Pts.rp
   .cases e
 .cases h
theorem Ld{t:Nat}(a:∀w,(isAgg t).run P w=.ok false w)(e:ldB o env H=some (d,t,x))(k:WO P h0 N all l (up env d x) H Q)(hg:QI all o env true:=by exact rfl)(hN:Nat.blt d N=true:=by exact rfl):WO P h0 N all (o::l) env H Q:=
 Y8 hg (Qky a e).1 hN (Qky a e).2 k
def ixB(o:Oper)(env:Env):Option (Nat×Nat×Nat×List (List A)×IntKind×Int):=
 match o.dst,o.op with
 |some d,.indexAddr t x y=>match opB env x,opB env y with
  |.mk (.rsl k es),.mk (.int kk i)=>some (d,t,k,es,kk,i)
  |_,_=>none
 |_,_=>none
theorem Ix{α:Type}{e:α->List A}{t a k:Nat}{L:List α}{g:IntKind}{i:Int}{v:α}(h:idx L i=some v)(j:∀w,(underlying t).run P w=.ok (.slice a) w)(r:∀w,(sizeOf a).run P w=.ok k w)
  (q:ixB o env=some (d,t,k,L.map e,g,i))(k:WO P h0 N all l (up env d (.rp (e v))) H Q)(hg:QI all o env true:=by exact rfl)(hN:Nat.blt d N=true:=by exact rfl):WO P h0 N all (o::l) env H Q:=by
 unfold ixB at q;split at q
 .rename_i s m;split at q
  .rename_i n p;simp[Option.some.injEq,Prod.mk.injEq]at q;obtain⟨rfl,rfl,rfl,f,rfl,rfl⟩:=q;exact Y8 hg s hN (Js h j r m (by rw[QS n,f]) (QS p)) k
  .cases q
 .cases q
def lnB(o:Oper)(env:Env):Option (Nat×Nat×Bx):=
 match o.dst,o.op with
 |some d,.call c=>match c with
  |{callee:=.builtin .len,args:=⟨[x]⟩,argTypes:=⟨[t]⟩}=>some (d,t,opB env x)
  |_=>none
 |_,_=>none
theorem Qnq{t:Nat}{b:Bx}(q:lnB o env=some (d,t,b)):∃x,o.dst=some d/\o.op=.call {callee:=.builtin .len,args:= #[x],argTypes:= #[t]}/\opB env x=b:=by
 unfold lnB at q
 grind
theorem LnM{α:Type}{e:α->List A}{t a k:Nat}{L:List α}(g:∀w,(underlying t).run P w=.ok (.slice a) w)(q:lnB o env=some (d,t,.mk (.rsl k (L.map e))))
  (k:WO P h0 N all l (up env d (.int .i64 L.length)) H Q)(hg:QI all o env true:=by exact rfl)(hN:Nat.blt d N=true:=by exact rfl):WO P h0 N all (o::l) env H Q:=by
 obtain⟨x,i,h,f⟩:=Qnq q;exact Y8 hg i hN (QeY g h rfl (QS f)) k
end
section
variable {P:Program} {h0 N:Nat} {all:Array Oper} {env env':Env} {H H':Qd} {Q:QG} {c c':Code}
theorem Oi{α:Type}{x y:α}(h:some x=some y):x=y:=XZ h
theorem Bd{α β:Type}{x:Option α}{f:α->Option β}{r:β}{G:Prop}(h:x.bind f=some r)(k:∀a,x=some a->f a=some r->G):G:=by
 obtain⟨a,e,d⟩:=Yh h
 grind
theorem Cn{α:Type}{x:Operand}{t:Bool}{p q:Option α}{r:α}(hx:opB env x=.mk (.bool t))(h:(bif t then p else q)=some r)(ht:t=true->p=some r->TC P h0 N c env H Q)(hf:t=false->q=some r->TC P h0 N c' env H Q):TC P h0 N (.cond x c c') env H Q:=
 TC.cond (QS hx) (by grind) (by grind)
theorem QY{α:Type}{x:Operand}{t:Bool}{p q:Option α}{r:α}(hx:opB env x=.mk (.bool t))(h:(bif t then p else q)=some r)(hf:t=false->q=some r->TC P h0 N c' env H Q)(ht:t=true->p=some r->TC P h0 N c env H Q):TC P h0 N (.cond x c c') env H Q:=
 TC.cond (QS hx) (by grind) (by grind)
theorem Lr(π:List Nat)(a:π.take h0=List.range h0:=by exact rfl)(hH:π.map (λp=>H[p]?)=(H'.map (QZ (rho π H.length))).map some:=by exact rfl)(hπ:π.Nodup:=by decide)
  (hE:QbY (rho π H.length) env env':=by(repeat' (first|exact trivial|refine⟨rfl,?_⟩))):Le h0 env H env' H':=QnO π a hH hπ hE
end
def Ev{α:Type}(f:Nat->Option α)(v:α):Prop:=∃N,∀n,N<=n->f n=some v
section
variable {α β:Type} {f g:Nat->Option α} {v w:α}
theorem Qa(v:α):Ev (λ_=>some v) v:=⟨0,λ_ _=>rfl⟩
theorem Ev.const{o:Option α}(h:o=some v):Ev (λ_=>o) v:=⟨0,λ_ _=>h⟩
theorem Ev.bind{k:Nat->α->Option β}{b:β}(h:Ev f v)(a:Ev (λn=>k n v) b):Ev (λn=>(f n).bind (k n)) b:=by
 obtain⟨N,h⟩:=h;obtain⟨M,a⟩:=a;exact⟨max N M,λn d=>by grind⟩
theorem Qu{o:Option α}{k:Nat->α->Option β}{b:β}(h:o=some v)(hk:Ev (λn=>k n v) b):Ev (λn=>o.bind (k n)) b:=Ev.bind (Ev.const h) hk
theorem Qah{c:Bool}(a:c=true->Ev f v)(d:c=false->Ev g w):Ev (λn=>bif c then f n else g n) (bif c then v else w):=by
 cases c with
 |true=>exact a rfl
 |false=>exact d rfl
theorem QaP(h:Ev f v):Ev (λn=>bif true then f n else g n) v:=h
theorem Qt(h:Ev g v):Ev (λn=>bif false then f n else g n) v:=h
theorem Ev.and{c d:Bool}{h:Nat->Option Bool}(a:c=true->Ev h d):Ev (λn=>bif c then h n else some false) (c&&d):=by
 cases c with
 |true=>exact a rfl
 |false=>exact Qa _
theorem Qh{c d:Bool}{h:Nat->Option Bool}(a:c=false->Ev h d):Ev (λn=>bif c then some true else h n) (c||d):=by
 cases c with
 |true=>exact Qa _
 |false=>exact a rfl
theorem Ev.eq(h:Ev f v)(e:v=w):Ev f w:=e▸h
theorem QlM(h:Ev f v)(e:∀n,g n=f n):Ev g v:=by
 obtain⟨N,h⟩:=h;exact⟨N,λn a=>by grind⟩
theorem Yy(h:Ev (λn=>f (n+1)) v):Ev f v:=by
 obtain⟨N,h⟩:=h;refine⟨N+1,λn a=>?_⟩;obtain⟨m,rfl⟩:∃m,n=m+1:=⟨n-1,by omega⟩
 grind
theorem Ev.ex(h:Ev f v):∃n,f n=some v:=let⟨N,h⟩:=h;⟨N,h N (XT _)⟩
theorem QmQ(h:Ev f v)(k:Ev f w):v=w:=by
 obtain⟨N,h⟩:=h;obtain⟨M,k⟩:=k;have a:=h (max N M) (by omega)
 grind
theorem Ev.all{k:Nat}{F:Nat->Nat->Option α}{V:Nat->α}(h:∀i,i<k->Ev (F i) (V i)):∃N,∀n,N<=n->∀i,i<k->F i n=some (V i):=by
 induction k with
 |zero=>simp
 |succ k a=>
  obtain⟨N,e⟩:=a (by grind);obtain⟨M,f⟩:=h k (by omega);refine⟨max N M,λn g i d=>?_⟩
  grind
end
section
variable {S B α:Type} {step:Nat->S->Option (Ctl S B)}
theorem Ev.iter{s0:S}(a:Nat->S)(k:Nat){b:B}(f:a 0=s0)(g:∀i,i<k->Ev (λn=>step n (a i)) (.cont (a (i+1))))(e:Ev (λn=>step n (a k)) (.done b)):
  Ev (λn=>Go.Sw.iter (step n) n s0) b:=by
 obtain⟨N,j⟩:=Ev.all g;obtain⟨M,d⟩:=e;exact⟨max (max N M) (k+1),λn h=>QkA s0 a b k f (by grind) (d n (by omega)) n (by omega)⟩
theorem Qca{step:S->Option (Ctl S B)}{s:S}{b:B}(m:Nat)(h:Go.Sw.iter step m s=some b):Ev (λn=>Go.Sw.iter step n s) b:=by
 have mono:∀m s,Go.Sw.iter step m s=some b->∀n,m<=n->Go.Sw.iter step n s=some b:=by
  intro m
  induction m with
  |zero=>intro s h;cases h
  |succ m d=>
   intro s h n e;obtain⟨a,rfl⟩:∃a,n=a+1:=⟨n-1,by omega⟩
   grind[Go.Sw.iter]
 exact⟨m,(by grind)⟩
structure At (l:List α) (i:Nat) (x:α):Prop where
 get:l[i]?=some x
 lt:decide ((i:Int)<(l.length:Int))=true
 ix:idx l (i:Int)=some x
 nx:IntKind.i64.wrap ((i:Int)+1)=((i+1:Nat):Int)
theorem Y9{l:List α}{i:Nat}{x:α}(a:l.length<=4611686018427387904)(h:l[i]?=some x):At l i x:=by
 have d:=(XL.1 h).1;exact⟨h,(by grind),Qo h,QU (by omega)⟩
theorem At.mem{l:List α}{i:Nat}{x:α}(h:At l i x):x∈l:=VG h.get
theorem At.lt'{l:List α}{i:Nat}{x:α}(h:At l i x):i<l.length:=(XL.1 h.get).1
theorem At.take{l:List α}{i:Nat}{x:α}(h:At l i x):l.take (i+1)=l.take i++[x]:=by
 rw[List.take_add_one,h.get];rfl
theorem Qao(l:List α):decide ((l.length:Int)<(l.length:Int))=false:=(by simp)
theorem YX{s0:S}(l:List α)(q:α->Bool)(a:Nat->S)(p b:B)(m:l.length<=4611686018427387904)(r:a 0=s0)
  (t:∀i x,At l i x->q x=false->Ev (λn=>step n (a i)) (.cont (a (i+1))))
  (d:∀i x,At l i x->q x=true->Ev (λn=>step n (a i)) (.done p))
  (s:Ev (λn=>step n (a l.length)) (.done b)):Ev (λn=>Go.Sw.iter (step n) n s0) (bif l.any q then p else b):=by
 have f:∀k,k<=l.length->(∀i x,l[i]?=some x->i<k->q x=false)\/ ∃i x,l[i]?=some x/\i<k/\q x=true/\ ∀j y,l[j]?=some y->j<i->q y=false:=by
  intro k
  induction k with
  |zero=>simp
  |succ k E=>
   grind
 rcases f l.length (XT _)with h|⟨i,x,w,z,u,F⟩
 .have:l.any q=false:=by
   rw[VL];intro e;obtain⟨x,d,e⟩:=Xt.1 e;obtain⟨i,g,rfl⟩:=List.getElem_of_mem d
   grind
  rw[this];exact Ev.iter a l.length r (λi g=>t i _ (Y9 m (XK g)) (by grind)) s
 .have:l.any q=true:=(by grind);rw[this];refine Ev.iter a i r (λj G=>?_) (d i x (Y9 m w) u)
  grind[Y9]
theorem QaC{β:Type}{s0:S}(l:List α)(g:β->α->β)(d:β)(e:β->Nat->S)(f:β->B)(k:l.length<=4611686018427387904)(q:e d 0=s0)
  (m:∀i x a,At l i x->a=(l.take i).foldl g d->Ev (λn=>step n (e a i)) (.cont (e (g a x) (i+1))))
  (p:Ev (λn=>step n (e (l.foldl g d) l.length)) (.done (f (l.foldl g d)))):Ev (λn=>Go.Sw.iter (step n) n s0) (f (l.foldl g d)):=by
 refine Ev.iter (λi=>e ((l.take i).foldl g d) i) l.length (by grind) (λi j=>?_) (by grind);have h:=Y9 k (XK j);have:=m i _ _ h rfl;rw[h.take,List.foldl_append];exact this
theorem Ev.contains(l:List α)(q:α->Bool)(g:Nat->α->Option Bool)(d:l.length<=4611686018427387904)(hg:∀x∈l,Ev (λn=>g n x) (q x)):
  Ev (λn=>(((Go.Sw.iter (λs:Int=>bif decide (s<(l.length:Int))then(idx l s).bind λx=>(g n x).bind λr=>(bif r then some (Ctl.done (Ctl.done s))else some (Ctl.cont (IntKind.i64.wrap (s+1))))else some (Ctl.done (Ctl.cont ()))) n (0:Int):Option (Ctl Unit Int)).bind λb=>
   match b with
   |.cont _=>some (-1)
   |.done s=>some s):Option Int).bind λr=>some (decide (0<=r))) (l.any q):=by
 cases e:l.any q with
 |false=>
  refine Ev.bind (v:=(-1:Int)) (Ev.bind (v:=Ctl.cont ()) (Ev.iter (λi=>(i:Int)) l.length rfl (λi t=>?_) ?_) (Qa _)) (Qa _)
  .have a:=Y9 (x:=l[i]) d (XK t);simp only[a.lt,Vo,a.ix,XJ];have B:q l[i]=false:=by
    grind
   refine Ev.bind ((hg _ a.mem).eq B) ?_;simp only[Vp,a.nx];exact Qa _
  simp_all[Qa]
 |true=>
  obtain⟨x,p,h⟩:=Xt.1 e;have f:∀k,k<=l.length->(∀(i:Nat) (x:α),l[i]?=some x->i<k->q x=false)\/ ∃(i:Nat) (x:α),l[i]?=some x/\i<k/\q x=true/\ ∀(j:Nat) (y:α),l[j]?=some y->j<i->q y=false:=by
   intro k
   induction k with
   |zero=>simp
   |succ k F=>
    grind
  rcases f l.length (XT _)with G|⟨i,x,u,E,z,w⟩
  .obtain⟨j,m,rfl⟩:=List.getElem_of_mem p
   grind
  .refine Ev.bind (v:=(i:Int)) (Ev.bind (v:=Ctl.done (i:Int)) (Ev.iter (λi=>(i:Int)) i rfl (λj m=>?_) ?_) (Qa _)) ?_
   .have a:=Y9 (x:=l[j]) d (XK (by omega));simp only[a.lt,Vo,a.ix,XJ];refine Ev.bind ((hg _ a.mem).eq (w j _ a.get m)) ?_;simp only[Vp,a.nx];exact Qa _
   .have a:=Y9 d u;simp only[a.lt,Vo,a.ix,XJ];refine Ev.bind ((hg _ a.mem).eq z) ?_;exact Qa _
   simp_all[Qa]
end
section
variable {S B α:Type} {step:Nat->S->Option (Ctl S B)}
theorem Qc1{s0:S}(a:Nat->S)(k:Nat)(R:Nat->B)(f:a 0=s0)(r:∀i,i<k->(Ev (λn=>step n (a i)) (.cont (a (i+1)))/\R i=R (i+1))\/Ev (λn=>step n (a i)) (.done (R i)))
  (g:Ev (λn=>step n (a k)) (.done (R k))):Ev (λn=>Go.Sw.iter (step n) n s0) (R 0):=by
 have e:∀m,m<=k->(∀i,i<m->Ev (λn=>step n (a i)) (.cont (a (i+1)))/\R i=R (i+1))\/ ∃j,j<m/\(∀i,i<j->Ev (λn=>step n (a i)) (.cont (a (i+1)))/\R i=R (i+1))/\Ev (λn=>step n (a j)) (.done (R j)):=by
  intro m
  induction m with
  |zero=>simp
  |succ m p=>
   grind
 have same:∀m,(∀i,i<m->R i=R (i+1))->R 0=R m:=by
  intro m
  induction m with
  |zero=>intro _;rfl
  |succ m p=>grind
 rcases e k (XT _)with h|⟨j,s,l,q⟩
 .rw[same k λi d=>(h i d).2];exact Ev.iter a k f (by grind) g
 .rw[same j λi d=>(l i d).2];exact Ev.iter a j f (by grind) q
theorem At.drop{l:List α}{i:Nat}{x:α}(h:At l i x):l.drop i=x::l.drop (i+1):=by
 have:=h.lt';rw[Xp this,(XL.1 h.get).2]
theorem Qbu{s0:S}(l:List α)(st:Nat->S)(R:Nat->B)(hl:l.length<=4611686018427387904)(h0:st 0=s0)
  (hc:∀i x,At l i x->(Ev (λn=>step n (st i)) (.cont (st (i+1)))/\R i=R (i+1))\/Ev (λn=>step n (st i)) (.done (R i)))
  (hd:Ev (λn=>step n (st l.length)) (.done (R l.length))):Ev (λn=>Go.Sw.iter (step n) n s0) (R 0):=
 Qc1 st l.length R h0 (λi hi=>hc i _ (Y9 hl (XK hi))) hd
end
section
variable {α β:Type} [DecidableEq α]
theorem QaE(p:α×β)(l:List (α×β))(k:α):Y3 (p::l) k=if p.1=k then some p.2 else Y3 l k:=by
 grind[Y3]
theorem Qjg(p:α×β)(l:List (α×β))(k:α)(v:β):Q2 (p::l) k v=if p.1=k then(p.1,v)::l.map (λq=>bif decide (q.1=k)then(q.1,v)else q)else p::Q2 l k v:=by
 unfold Q2
 grind
theorem Qkw(l:List (α×β))(k a:α)(v:β)(h:a≠k):Y3 (l.map λq=>bif decide (q.1=k)then(q.1,v)else q) a=Y3 l a:=by
 induction l with
 |nil=>rfl
 |cons p l d=>
  grind[QaE]
theorem Qb3(l:List (α×β))(k a:α)(v:β):Y3 (Q2 l k v) a=if a=k then some v else Y3 l a:=by
 induction l with
 |nil=>
  show Y3 ([]++[(k,v)]) a=_;rw[Vh,QaE]
  grind
 |cons p l d=>
  rw[Qjg];by_cases e:p.1=k
  .rw[Vs e,QaE,QaE];by_cases h:a=k
   .grind
   .have:p.1≠a:=(by grind)
    simp_all[Qkw]
  .rw[Vr e,QaE,QaE,d]
   grind
theorem Qjh(k:α)(z:β):QA ([]:List (α×β)) k z=z:=rfl
theorem Qej(l:List (α×β))(k a:α)(v z:β):QA (Q2 l k v) a z=if a=k then v else QA l a z:=by
 grind[QA,Qb3]
theorem Qjf(l:List (α×β))(k:α)(v:β):(Q2 l k v).map (·.1)=if k∈l.map (·.1)then l.map (·.1)else l.map (·.1)++[k]:=by
 unfold Q2;have e:(l.any λp=>decide (p.1=k))=decide (k∈l.map (·.1)):=by
  grind
 rw[e];by_cases h:k∈l.map (·.1)
 .rw[Vt h,Vs h,Vo,List.map_map];apply List.map_congr_left
  grind
 grind
def Yg{γ:Type}(key:γ->α)(v:β)(l:List γ):List (α×β):=l.foldl (λm x=>Q2 m (key x) v) []
theorem QfY{γ:Type}(a:γ->α)(v:β)(l:List γ)(x:γ):Yg a v (l++[x])=Q2 (Yg a v l) (a x) v:=by
 unfold Yg;simp
theorem Qdu{γ:Type}(a:γ->α)(v z:β)(l:List γ)(k:α):QA (Yg a v l) k z=if k∈l.map a then v else z:=by
 have d:∀(l:List γ) (m:List (α×β)),QA (l.foldl (λm x=>Q2 m (a x) v) m) k z=if k∈l.map a then v else QA m k z:=by
  intro l
  induction l with
  |nil=>simp
  |cons x l e=>
   intro m;rw[XD,e,Qej]
   grind
 exact d l []
theorem Qcc{γ:Type}(a:γ->α)(v:β)(l:List γ):(Yg a v l).length<=l.length/\((Yg a v l).length=l.length↔(l.map a).Nodup):=by
 have e:∀(l:List γ) (m:List (α×β)),(m.map (·.1)).Nodup->(l.foldl (λm x=>Q2 m (a x) v) m).length<=m.length+l.length/\((l.foldl (λm x=>Q2 m (a x) v) m).length=m.length+l.length↔(m.map (·.1)++l.map a).Nodup):=by
  intro l
  induction l with
  |nil=>simp
  |cons x l g=>
   intro m j;have f:=Qjf m (a x) v;have d:(Q2 m (a x) v).length=((Q2 m (a x) v).map (·.1)).length:=by simp
   by_cases h:a x∈m.map (·.1)
   .grind
   .rw[Vr h]at f;have i:((Q2 m (a x) v).map (·.1)).Nodup:=by
     grind
    grind
 grind[Yg]
end
theorem Jg{α:Type}(l:List α)(p:α->Bool)(g:Nat->α->Option Bool)(a:l.length<=4611686018427387904)(hg:∀x∈l,Ev (λn=>g n x) (p x)):
  Ev (λn=>(((Go.Sw.iter (λs:Int=>bif decide (s<l.length)then(idx l s).bind λx=>((g n x).bind λr1=>some (!r1)).bind λr=>(bif r then some (Ctl.done (Ctl.done s))else some (Ctl.cont (IntKind.i64.wrap (s+1))))else some (Ctl.done (Ctl.cont ()))) n 0).bind λb=>
   match b with
   |.cont _=>some (-1)
   |.done s=>some s).bind λr=>some (decide (0<=r))).bind λr=>some (!r)) (l.all p):=by
 refine Ev.bind (Ev.contains l (λx=> !p x) (λn x=>(g n x).bind λr1=>some (!r1)) a λx d=>Ev.bind (hg x d) (Qa _)) ((Qa _).eq ?_)
 grind
def QjF{α κ:Type}[DecidableEq κ](ok:α->Bool)(key:α->κ):List κ->List α->Bool
 |_,[]=>true
 |seen,x::r=>ok x&& !seen.contains (key x)&&QjF ok key (seen++[key x]) r
theorem QiP{α κ:Type}[DecidableEq κ](ok:α->Bool)(d:α->κ):∀(l:List α) (a:List κ),a.Nodup->QjF ok d a l=(l.all ok&&decide ((a++l.map d).Nodup))
 |[],a,h=>by simp[QjF,h]
 |x::r,a,h=>by
  simp[QjF,Vj];by_cases hk:d x∈a
  .grind
  .have hn:(a++[d x]).Nodup:=by
    grind
   rw[QiP ok d r _ hn]
   grind
theorem QlN{α κ B:Type}[DecidableEq κ]{step:Nat->Int->Option (Ctl Int B)}(l:List α)(ok:α->Bool)(a:α->κ)(d b:B)(h:l.length<=4611686018427387904)
  (k:∀i x,At l i x->ok x=true->((l.take i).map a).contains (a x)=false->Ev (λn=>step n (i:Int)) (.cont ((i+1:Nat):Int)))
  (j:∀i x,At l i x->ok x=false->Ev (λn=>step n (i:Int)) (.done d))
  (m:∀i x,At l i x->ok x=true->((l.take i).map a).contains (a x)=true->Ev (λn=>step n (i:Int)) (.done d))
  (g:Ev (λn=>step n (l.length:Int)) (.done b)):Ev (λn=>Go.Sw.iter (step n) n 0) (bif l.all ok&&decide ((l.map a).Nodup)then b else d):=by
 have e:=QiP ok a l [] (by simp);rw[Vh]at e;rw[<- e];refine Qbu l (λi=>(i:Int)) (λi=>bif QjF ok a ((l.take i).map a) (l.drop i)then b else d) h rfl (λi x f=>?_) ?_
 .rw[f.drop];simp only[QjF];rw[show(l.take i).map a++[a x]=(l.take (i+1)).map a by rw[f.take];simp]
  grind
 .rw[Xr];exact g
theorem Qhx{α κ B:Type}[DecidableEq κ]{step:Nat->Int->Option (Ctl Int B)}(l:List α)(i:Nat)(a:α->κ)(k:κ)(g b:B)(t:l.length<=4611686018427387904)(hi:i<=l.length)
  (u:∀j y,j<i->At l j y->decide (a y=k)=false->Ev (λn=>step n (j:Int)) (.cont ((j+1:Nat):Int)))
  (r:∀j y,j<i->At l j y->decide (a y=k)=true->Ev (λn=>step n (j:Int)) (.done g))
  (s:Ev (λn=>step n (i:Int)) (.done b)):Ev (λn=>Go.Sw.iter (step n) n 0) (bif ((l.take i).map a).contains k then g else b):=by
 have e:((l.take i).map a).contains k=(l.take i).any λy=>decide (a y=k):=by
  grind
 rw[e];have f:(l.take i).length=i:=by simp;omega
 have h:∀j y,At (l.take i) j y->j<i/\At l j y:=by
  intro j y d;have m:=d.lt';have p:=d.get
  grind[Y9]
 refine YX (l.take i) (λy=>decide (a y=k)) (λi=>(i:Int)) _ _ (by omega) rfl (λj y d q=>?_) (λj y d q=>?_) ?_
 .grind
 .grind
 grind
theorem Qbv{α κ β:Type}[DecidableEq κ]{step:Nat->List (κ×β)×Int->Option (Ctl (List (κ×β)×Int) (List (κ×β)))}(l:List α)(key:α->κ)(v:β)(hl:l.length<=4611686018427387904)
  (hc:∀i x m,At l i x->Ev (λn=>step n (m,(i:Int))) (.cont (Q2 m (key x) v,((i+1:Nat):Int))))
  (hd:∀m,Ev (λn=>step n (m,(l.length:Int))) (.done m)):Ev (λn=>Go.Sw.iter (step n) n ([],0)) (Yg key v l):=
 QaC l (λm x=>Q2 m (key x) v) [] (λm i=>(m,(i:Int))) (λm=>m) hl rfl (by grind) (hd _)
theorem Ev.shift{α:Type}{f:Nat->Option α}{v:α}(h:Ev f v):Ev (λn=>f (n+1)) v:=by
 obtain⟨N,h⟩:=h;exact⟨N,(by grind)⟩
def EvI{S B:Type}(step:Nat->S->Option (Ctl S B))(s:S)(b:B):Prop:=∃N,∀n k,N<=n->N<=k->Go.Sw.iter (step n) k s=some b
section
variable {S B:Type} {step:Nat->S->Option (Ctl S B)} {s s':S} {b:B}
theorem EvI.done(h:Ev (λn=>step n s) (.done b)):EvI step s b:=by
 obtain⟨N,h⟩:=h;refine⟨N+1,λn k e d=>?_⟩;obtain⟨a,rfl⟩:∃a,k=a+1:=⟨k-1,by omega⟩
 grind[Go.Sw.iter]
theorem EvI.cont(h:Ev (λn=>step n s) (.cont s'))(q:EvI step s' b):EvI step s b:=by
 obtain⟨N,h⟩:=h;obtain⟨M,q⟩:=q;refine⟨max N M+1,λn k e d=>?_⟩;obtain⟨a,rfl⟩:∃a,k=a+1:=⟨k-1,by omega⟩
 grind[Go.Sw.iter]
theorem EvI.ev(h:EvI step s b):Ev (λn=>Go.Sw.iter (step n) n s) b:=by
 obtain⟨N,h⟩:=h;exact⟨N,λn a=>h n n a a⟩
theorem EvI.eq{b':B}(h:EvI step s b)(e:b=b'):EvI step s b':=e▸h
end
theorem Qv{α:Type}{l r:List α}{i:Nat}{x:α}(a:l.length<=4611686018427387904)(h:l.drop i=x::r):At l i x/\l.drop (i+1)=r:=by
 have d:l[i]?=some x:=by
  have:=congrArg (λl=>l[0]?) h
  grind
 refine⟨Y9 a d,?_⟩;have:=(Y9 a d).drop
 grind
theorem QJ{α:Type}{l:List α}{i:Nat}(h:l.drop i=[])(hi:i<=l.length):decide ((i:Int)<(l.length:Int))=false:=by
 simp_all
theorem Z.{u}{α:Sort u}{a:α}:a=a:=rfl
section
variable {P:Program} {h0 N:Nat} {all:Array Oper} {env:Env} {H H':Qd} {Q:QG} {l:List Oper} {o:Oper} {d:Nat}
theorem aV(x:A)(H:Qd){x':A}{H':Qd}(a:x'=x)(e:H'=H)(k:WO P h0 N all l (up env d x) H Q):WO P h0 N all l (up env d x') H' Q:=by subst a;subst e;exact k
theorem vX(x:A)(a:OpV P o env H x)(k:WO P h0 N all l (up env d x) H Q)(hg:QI all o env true:=by exact rfl)(hd:o.dst=some d:=by exact rfl)(hN:Nat.blt d N=true:=by exact rfl):WO P h0 N all (o::l) env H Q:=
 Y8 hg hd hN a k
theorem Wp:WO P h0 N all [] env H (YR env H):=WO.nil YR.mk
end
section
variable {P:Program} {o:Oper} {env:Env} {H:Qd}
theorem QmR{ro:Nat->Prop}{σ:Sig}{w:World}(g:GP w){b:Nat}{zs:List Int}(h:QhP[b]?=some zs):∀(i:Nat),CR ro σ w b ((zs.drop i).map (A.int .i64)) i:=by
 intro i;generalize hl:zs.drop i=l
 induction l generalizing i with
 |nil=>trivial
 |cons z l d=>
  have e:zs[i]?=some z:=by
   have:=congrArg (·[0]?) hl
   grind
  have a:zs.drop (i+1)=l:=by
   rw[<- List.drop_drop,hl];rfl
  exact⟨⟨_,g.tab b zs h i z e,by simp[Qz],rfl⟩,d (i+1) a⟩
theorem QfL{t n g:Nat}{zs:List Int}(k:∀w,(isAgg t).run P w=.ok true w)(m:∀w,(sizeOf t).run P w=.ok n w)(hg:QhP[g]?=some zs)(f:zs.length=n)(j:o.op=.load t (.global g):=by exact rfl):
  OpV P o env H (.agg (zs.map (A.int .i64))):=by
 intro h ro σ N a w r;obtain⟨l,d,_,i⟩:=Yv (P:=P) 0 (by simpa using QmR (ro:=ro) (σ:=σ) r.sim.roOk.gp hg 0);refine⟨.agg l.toArray,?_,l,rfl,d⟩;have e:a.eval (.global g)=.pointer (some ⟨g,0,none⟩):=rfl
 simp_all[execOp,Instr.loadAt,Instr.sureAddr,loadVar,loadCells]
end
open Go.Proofs
section
variable {P:Program}
def toV(agg:Bool)(l:List Value):Value:=bif agg then .agg l.toArray else l.headD .nilFunc
structure Qhy (P:Program) (t:TypeId) (h k:Nat) (agg:Bool) (ok:List Value->Prop):Prop where
 len:∀l,ok l->l.length=k
 ia:∀w,(isAgg t).run P w=.ok agg w
 so:∀w,(sizeOf t).run P w=.ok k w
 eq:∀(w:World) (d:Nat) (l m:List Value),ok l->ok m->∃b:Bool,(Op.equalIn (d+h) t (toV agg l) (toV agg m)).run P w=.ok b w/\(b=true↔l=m)
structure Qij (P:Program) (fs:List Field) (h off k:Nat) (ok:List Value->Prop):Prop where
 len:∀l,ok l->l.length=k
 eq:∀(w:World) (d:Nat) (p q l m:List Value),p.length=off->q.length=off->ok l->ok m->∃b:Bool,(Op.eqFields (d+h) (p++l).toArray (q++m).toArray fs).run P w=.ok b w/\(b=true↔l=m)
theorem Qhy.int{t:TypeId}{k:IntKind}(e:P.underlying t=some (.int k))(f:∀w,(isAgg t).run P w=.ok false w)(a:∀w,(sizeOf t).run P w=.ok 1 w)(h:Nat):Qhy P t (h+1) 1 false (λl=>∃n:Int,l=[.int k n]):=by
 refine⟨?_,f,a,?_⟩
 .simp
 .rintro w d _ _ ⟨n,rfl⟩ ⟨m,rfl⟩;exact⟨_,run_equalIn_int w (d+h) t k k n m e,by simp⟩
theorem Qhy.bool{t:TypeId}(e:P.underlying t=some .bool)(f:∀w,(isAgg t).run P w=.ok false w)(a:∀w,(sizeOf t).run P w=.ok 1 w)(h:Nat):Qhy P t (h+1) 1 false (λl=>∃n:Bool,l=[.bool n]):=by
 refine⟨?_,f,a,?_⟩
 .simp
 .rintro w d _ _ ⟨n,rfl⟩ ⟨m,rfl⟩;exact⟨_,run_equalIn_bool' w (d+h) t n m e,by simp⟩
theorem Qij.nil(h a:Nat):Qij P [] h a 0 (λl=>l=[]):=by
 refine⟨?_,?_⟩
 .simp
 simp_all[Op.eqFields]
theorem QgK{t:TypeId}{k:Nat}{agg:Bool}{w:World}(e:∀w,(isAgg t).run P w=.ok agg w)(h:∀w,(sizeOf t).run P w=.ok k w)(p a d:List Value)(f:a.length=k)(g:agg=false->k=1):
  (part t (p++(a++d)).toArray p.length).run P w=.ok (toV agg a) w:=by
 unfold part;cases agg with
 |true=>
  simp_all[toV]
 |false=>
  have:=g rfl;subst this
  match a,f with
  |[v],_=>simp[e,toV]
theorem Qij.cons{f:Field}{fs:List Field}{h i n J:Nat}{agg:Bool}{j k:List Value->Prop}(W:Nat.beq f.offset i=true)(O:f.name≠"_")(g:Qhy P f.type h n agg j)(z:agg=false->n=1)(G:Qij P fs h (i+n) J k):
  Qij P (f::fs) h i (n+J) (λl=>∃l1 l2,l=l1++l2/\j l1/\k l2):=by
 have t:f.offset=i:=(by simp_all);refine⟨?_,?_⟩
 .rintro _ ⟨l1,l2,rfl,a,b⟩;rw[X3,g.len _ a,G.len _ b]
 .rintro w d p q _ _ F B ⟨l1,l2,rfl,s,M⟩ ⟨r,E,rfl,m,V⟩;have x:=QgK (w:=w) g.ia g.so p l1 l2 (g.len _ s) z;have H:=QgK (w:=w) g.ia g.so q r E (g.len _ m) z;rw[F]at x;rw[B]at H;obtain⟨u,T,Q⟩:=g.eq w d l1 r s m;obtain⟨R,y,N⟩:=G.eq w d (p++l1) (q++r) l2 E (by rw[X3,F,g.len _ s]) (by rw[X3,B,g.len _ m]) M V;rw[Vi,Vi]at y;have L:l1.length=r.length:=by rw[g.len _ s,g.len _ m]
  refine⟨u&&R,?_,?_⟩
  .cases u<;>simp[Op.eqFields,O,t,x,H,T,y]
  .rw[XW,Q,N];constructor
   .grind
   .intro e;exact List.append_inj e L
theorem Qhy.struct{t:TypeId}{h k:Nat}{ok:List Value->Prop}(n:P.underlying t=some (.struct (P.fieldsOf t)))(p:P.stoodInHeld t=false)(g:∀w,(isAgg t).run P w=.ok true w)(f:∀w,(sizeOf t).run P w=.ok k w)(e:Qij P (P.fieldsOf t).toList h 0 k ok):Qhy P t (h+1) k true ok:=by
 refine⟨e.len,g,f,λw d l m a b=>?_⟩;obtain⟨r,j,i⟩:=e.eq w d [] [] l m rfl rfl a b;refine⟨r,?_,i⟩;show(Op.equalIn (d+h+1) t (.agg l.toArray) (.agg m.toArray)).run P w=_
 grind[run_equalIn_agg]
theorem Qc2{t:TypeId}{h k:Nat}{fs:Array Field}{ok:List Value->Prop}(d:P.underlying t=some (.struct fs))(f:P.stoodInHeld t=false)(e:∀w,(isAgg t).run P w=.ok true w)(a:∀w,(sizeOf t).run P w=.ok k w)(g:Qij P fs.toList h 0 k ok):Qhy P t (h+1) k true ok:=by
 grind[Program.fieldsOf,Qhy.struct]
structure EqD (P:Program) (t:TypeId) {α:Type} (cells:α->List A):Prop where
 scl:∀x,QfT (cells x)=true
 inj:∀x y,YJ (cells x)=YJ (cells y)->x=y
 guard:P.eqGuardType P.depth t=false
 eq:∀(w:World) x y,∃b:Bool,(Op.equalIn 10000 t (.agg (YJ (cells x)).toArray) (.agg (YJ (cells y)).toArray)).run P w=.ok b w/\(b=true↔YJ (cells x)=YJ (cells y))
theorem Qi0{α:Type}{cells:α->List A}{t h k:Nat}{ok:List Value->Prop}(E:Qhy P t h k true ok)(e:Nat.ble h 10000=true)(a:∀x,ok (YJ (cells x)))(d:∀x,QfT (cells x)=true)(hi:∀x y,YJ (cells x)=YJ (cells y)->x=y)(hg:P.eqGuardType P.depth t=false):EqD P t cells:=by
 refine⟨d,hi,hg,λw x y=>?_⟩;have:=E.eq w (10000-h) (YJ (cells x)) (YJ (cells y)) (a x) (a y)
 rwa [show 10000-h+h=10000 by simp_all]at this
variable {o:Oper} {env:Env} {H:Qd}
theorem QjY{α:Type}[DecidableEq α]{cells:α->List A}{t u:TypeId}{x y:Operand}{p q:α}(E:EqD P t cells)(i:opA env x=.agg (cells p))(m:opA env y=.agg (cells q))(z:o.op=.binOp .eql t x y u:=by exact rfl):OpV P o env H (.bool (p==q)):=by
 intro B F σ N a w r;have h:=Qs r x;have g:=Qs r y;rw[i]at h;rw[m]at g;have j:=VR.val (a:=.agg (cells p)) (E.scl p) h;have n:=VR.val (a:=.agg (cells q)) (E.scl q) g;obtain⟨b,l,k⟩:=E.eq w p q;have s:b=(p==q):=by
  rw[XY,k,Vx];exact⟨E.inj p q,λe=>by rw[e]⟩
 refine⟨.bool (p==q),?_,rfl⟩;rw[<- s];generalize a.eval=ρ at*;have d:ρ x=.agg (YJ (cells p)).toArray:=j;have f:ρ y=.agg (YJ (cells q)).toArray:=n;simp[z,d,f,go_sem,run_eqGuard_agg _ _ _ _ _ _ _ E.guard,l]
theorem QjX{α:Type}[DecidableEq α]{cells:α->List A}{t u:TypeId}{x y:Operand}{p q:α}(E:EqD P t cells)(i:opA env x=.agg (cells p))(m:opA env y=.agg (cells q))(z:o.op=.binOp .neq t x y u:=by exact rfl):OpV P o env H (.bool (p != q)):=by
 intro B F σ N a w r;have h:=Qs r x;have g:=Qs r y;rw[i]at h;rw[m]at g;have j:=VR.val (a:=.agg (cells p)) (E.scl p) h;have n:=VR.val (a:=.agg (cells q)) (E.scl q) g;obtain⟨b,l,k⟩:=E.eq w p q;have s:b=(p==q):=by
  rw[XY,k,Vx];exact⟨E.inj p q,λe=>by rw[e]⟩
 refine⟨.bool (p != q),?_,rfl⟩;rw[bne, <- s];generalize a.eval=ρ at*;have d:ρ x=.agg (YJ (cells p)).toArray:=j;have f:ρ y=.agg (YJ (cells q)).toArray:=n;simp[z,d,f,go_sem,run_eqGuard_agg _ _ _ _ _ _ _ E.guard,l]
end
end Go.Sw
namespace Go.Sw
structure QeT (g g':Nat->Prop) (W W':World):Prop where
 sub:∀b,g b->g' b
 new:∀b,g' b->g b\/W.heap.size<=b
 lt:∀b,g' b->b<W'.heap.size
 all:∀b,W.heap.size<=b->b<W'.heap.size->g' b
 keep:∀b,b<W.heap.size->¬g b->W'.heap[b]?=W.heap[b]?
 size:W.heap.size<=W'.heap.size
 shape:∀b x,W.shape? b=some x->W'.shape? b=some x
 os:W'.os=W.os
 tape:W'.tape=W.tape
 output:W'.output=W.output
 drawn:W.drawn<=W'.drawn
abbrev Jv(T:Type):=List T->(Nat->Prop)->(Nat->Prop)->World->Prop
structure Qm1 {T:Type} (J:Jv T):Prop where
 ev:∀rem q g W W' ro',J rem q g W->Qm g q W ro' W'->J rem q g W'
 up:∀rem q g g' W,J rem q g W->(∀b,g b->g' b)->(∀b,g' b->b<W.heap.size)->J rem q g' W
theorem Sim.round{fr g B ro:Nat->Prop}{σ:Sig}{H:Qd}{W W':World}(s:Sim fr ro σ H W)(a:∀b,g b->fr b)(k:QeT g B W W'):Sim (λb=>fr b\/B b) ro σ H W'/\Qm (λb=>b<W.heap.size/\ ¬g b) ro W ro W':=by
 have hro:=λb q=>k.keep b (s.roLt b q) (λr=>s.roFr b q (a b r));have h:Ext ro σ W ro σ W':=by
  have ev:Qm (λ_=>False) ro W ro W':=⟨λ_ q=>q,hro,λ_ q=>q.elim,k.size,k.shape,k.os,k.tape,k.output,k.drawn⟩;have:=ev.ext σ []
  grind
 refine⟨⟨s.len,s.roOk.to (λ_ q=>q) hro (λb q=>Vf (s.roLt b q) k.size),λb q=>q.elim (λq=>Vf (s.frLt b q) k.size) (k.lt b),λb q r=>?_,λi b x f e u=>?_,s.inj,λi y x f e=>?_,
  s.hidTo (· = ·) Yb k.size (by simp) (λi b x c f e u F=>F.elim id λq=>(k.new c q).elim (a c) λl=>(by have:=(s.hid i b x c f e u).lt;omega)) λj d y m n G=>.inl ⟨j,y,rfl,m,n,id,λc q=>s.hidKeep m n (λz=>k.keep d (s.own j d y m n z).1 λr=>(s.own j d y m n z).2.2 (a d r)) hro q⟩⟩,
  ⟨λ_ q=>q,hro,λb q=>k.keep b q.1 q.2,k.size,k.shape,k.os,k.tape,k.output,k.drawn⟩⟩
 .rcases r with r|r
  .exact s.roFr b q r
  .rcases k.new b r with l|l
   .exact s.roFr b q (a b l)
   .have:=s.roLt b q;omega
 .obtain⟨w,E,t⟩:=s.own i b x f e u;refine⟨Vf w k.size,E,λr=>?_⟩;rcases r with r|r
  .exact t r
  .rcases k.new b r with l|l
   .grind
   .omega
 .refine(s.blk i y x f e).keep h ?_ ?_
  .rintro b rfl p;obtain⟨w,E,t⟩:=s.own i b x f e p;exact k.keep b w (λr=>t (a b r))
  .rintro b c rfl p;have q:=s.hid i b x c f e p;exact k.keep c q.lt (λr=>q.fr (a c r))
def QnK{T:Type}(J Jx:Jv T)(g ri:Nat->Prop)(W1:World)(rem:List T):Ending->World->Prop:=λe W'=>
 ∃g' q',(∀b,q' b->ri b)/\QeT g g' W1 W'/\((e=.returned (.bool true)/\J rem q' g' W')\/(e=.returned (.bool false)/\Jx rem q' g' W'))
structure Ctx (T:Type) where
 l:Nat
 J:Jv T
 Jx:Jv T
 enc:T->List A
 nx:List T->T->List T->Prop
structure Ctx.ok {T:Type} (X:Ctx T) (P:Program):Prop where
 b:Qm1 X.J
 bx:Qm1 X.Jx
 round:∀l x rem q g ri W1 vs,X.nx l x rem->X.J l q g W1->(∀b,q b->ri b)->(∀b,ri b->b<W1.heap.size/\ ¬g b)->LR ri [] W1 (X.enc x) vs->YieldAt Fence.wide 0 P X.l vs.toArray W1 (QnK X.J X.Jx g ri W1 rem)
inductive YSt (T:Type) where
 |on (rem:List T)
 |off (rem:List T)
def Ctx.J'{T:Type}(X:Ctx T):YSt T->(Nat->Prop)->(Nat->Prop)->World->Prop
 |.on rem=>X.J rem
 |.off rem=>X.Jx rem
def Ctx.at{T:Type}(X:Ctx T)(st:YSt T)(g ro:Nat->Prop)(W:World):Prop:=∃q,(∀b,q b->ro b)/\X.J' st q g W
theorem Qm.roMono{fr ro ro0 ro':Nat->Prop}{w w':World}(h:Qm fr ro w ro' w')(s:∀b,ro0 b->ro b):Qm fr ro0 w ro' w':=
 ⟨λb q=>h.sub b (s b q),λb q=>h.keepRo b (s b q),h.keepFr,h.size,h.shape,h.os,h.tape,h.output,h.drawn⟩
theorem Ctx.ok.ev{T:Type}{X:Ctx T}{P:Program}(h:X.ok P){e:YSt T}{g ro a:Nat->Prop}{W W':World}(d:X.at e g ro W)(he:Qm g ro W a W'):X.at e g a W':=by
 obtain⟨q,f,d⟩:=d;refine⟨q,λb z=>he.sub b (f b z),?_⟩;cases e with
 |on rem=>exact h.b.ev rem q g W W' a d (he.roMono f)
 |off rem=>exact h.bx.ev rem q g W W' a d (he.roMono f)
theorem Ctx.ok.up{T:Type}{X:Ctx T}{P:Program}(h:X.ok P){e:YSt T}{g a ro:Nat->Prop}{W:World}(d:X.at e g ro W)(hg:∀b,g b->a b)(f:∀b,a b->b<W.heap.size):X.at e a ro W:=by
 obtain⟨q,i,d⟩:=d;refine⟨q,i,?_⟩;cases e with
 |on rem=>exact h.b.up rem q g a W d hg f
 |off rem=>exact h.bx.up rem q g a W d hg f
abbrev Jb(T:Type):=AEx->Env->Qd->YSt T->Prop
structure In (g fr:Nat->Prop) (ds:List Deferred):Prop where
 sub:∀b,g b->fr b
 beside:∀D,({target:=.collected D,args:= #[]}:Deferred)∈ds->¬g D
def QcW{T:Type}(X:Ctx T)(h0:Nat)(fr ro:Nat->Prop)(σ:Sig)(w:World)(N:Nat)(ds:List Deferred)(Q:Jb T):Exit->Act->World->Prop:=
 λe a' w'=>∃x env' H' st ro' σ' fr' g',ExR e x/\Q x env' H' st/\Rel fr' ro' σ' H' env' N a' w'/\(X.at st g' ro' w'/\In g' fr' a'.defers)/\(∀b,ro b->ro' b)/\w.heap.size<=w'.heap.size/\σ'.take h0=σ.take h0/\Grow fr w ds fr' a'.defers
theorem QcW.grow{T:Type}{X:Ctx T}{i:Nat}{fr f ro d:Nat->Prop}{σ σ1:Sig}{w l:World}{N:Nat}{m g:List Deferred}{Q:Jb T}{e:Exit}{a':Act}{w':World}
  (h:QcW X i f d σ1 l N g Q e a' w')(F:∀b,ro b->d b)(n:w.heap.size<=l.heap.size)(q:σ1.take i=σ.take i)(hg:Grow fr w m f g):QcW X i fr ro σ w N m Q e a' w':=by
 obtain⟨x,a,H',r,j,σ',k,s,E,t,z,y,G,u,B,p⟩:=h;exact⟨x,a,H',r,j,σ',k,s,E,t,z,y,(by grind),XV n u,B.trans q,hg.trans n p⟩
def TCy{T:Type}(X:Ctx T)(P:Program)(h0 N:Nat)(c:Code)(env:Env)(H:Qd)(st:YSt T)(Q:Jb T):Prop:=
 X.ok P->∀rd fr ro σ a w g,Rel fr ro σ H env N a w->X.at st g ro w/\In g fr a.defers->rd=none->c.wpIn (WF rd) 0 P (QcW X h0 fr ro σ w N a.defers Q) a w
def WOy{T:Type}(X:Ctx T)(P:Program)(h0 N:Nat)(all:Array Oper)(l:List Oper)(env:Env)(H:Qd)(st:YSt T)(Q:Jb T):Prop:=
 X.ok P->∀rd fr ro σ a w g,Rel fr ro σ H env N a w->X.at st g ro w/\In g fr a.defers->rd=none->wpL P rd all (QcW X h0 fr ro σ w N a.defers Q) l a w
theorem In.later{fr d g:Nat->Prop}{w:World}{ds a:List Deferred}(h:In g fr ds)(f:∀b,fr b->b<w.heap.size)(hg:Grow fr w ds d a):In g d a:=by
 refine⟨λb q=>hg.sub b (h.sub b q),λD hD q=>?_⟩;rcases hg.ds _ hD with r|⟨D',e,r⟩
 .exact h.beside D r q
 .have:=by simpa using e
  have:=f D (h.sub D q);omega
section
variable {T:Type} {X:Ctx T} {P:Program} {h0 N:Nat} {c c':Code} {env:Env} {H:Qd} {st:YSt T} {Q:Jb T}
theorem QjQ{fr ro:Nat->Prop}{σ:Sig}{w:World}{k:List Deferred}{e:Exit}{a':Act}{w':World}(p:X.ok P)(h:Qat h0 fr ro σ w N k (λx env H=>Q x env H st) e a' w'){g:Nat->Prop}(n:∀b,fr b->b<w.heap.size)(f:X.at st g ro w/\In g fr k):
  QcW X h0 fr ro σ w N k Q e a' w':=by
 obtain⟨x,a,H',i,σ',j,s,m,r,d,q,l⟩:=h;exact⟨x,a,H',st,i,σ',j,g,s,m,r,⟨p.ev f.1 (d.frMono f.2.sub),f.2.later n l⟩,d.sub,d.size,q,l⟩
theorem TCy.lift(h:TC P h0 N c env H (λx env H=>Q x env H st)):TCy X P h0 N c env H st Q:=
 λhX rd fr ro σ a w g r hj hrd=>Code.wpIn_mono (λe a' w' q=>QjQ hX q r.sim.frLt hj) (h rd fr ro σ a w r (hrd▸QaG))
def SeqY(X:Ctx T)(P:Program)(h0 N:Nat)(c:Code)(Q:Jb T):Jb T
 |.normal,env,H,st=>TCy X P h0 N c env H st Q
 |.exit id,env,H,st=>Q (.exit id) env H st
 |.ret,env,H,st=>Q .ret env H st
theorem TCy.seq(h:TCy X P h0 N c env H st (SeqY X P h0 N c' Q)):TCy X P h0 N (.seq c c') env H st Q:=by
 intro B z E G σ a w g r hj hrd;refine wpIn_seq (Code.wpIn_mono ?_ (h B z E G σ a w g r hj hrd));rintro e F J ⟨x,d,H',j,f,σ',i,m,k,y,t,p,s,n,u,l⟩;cases e with
 |normal=>
  obtain rfl:x=.normal:=k;exact Code.wpIn_mono (λe a w q=>q.grow s n u l) (y B z i f σ' F J m t p hrd)
 |exit id=>
  obtain rfl:x=.exit id:=k;exact⟨_,d,H',j,f,σ',i,m,rfl,y,t,p,s,n,u,l⟩
 |ret=>
  obtain rfl:x=.ret:=k;exact⟨_,d,H',j,f,σ',i,m,rfl,y,t,p,s,n,u,l⟩
 |_=>exact k.elim
theorem TCy.region{id:Nat}{l:List Oper}(h:WOy X P h0 N l.toArray l env H st Q):TCy X P h0 N (.region id l.toArray false) env H st Q:=
 λhX rd fr ro σ a w g r hj hrd=>wpIn_region_lit (h hX rd fr ro σ a w g r hj hrd)
theorem TCy.cond{x:Operand}{t:Bool}(k:opA env x=.bool t)(l:t=true->TCy X P h0 N c env H st Q)(m:t=false->TCy X P h0 N c' env H st Q):TCy X P h0 N (.cond x c c') env H st Q:=by
 intro h d f i σ a w g r hj hrd;have j:=Qs r x;rw[k]at j;exact wpIn_cond_split j (λe=>l e h d f i σ a w g r hj hrd) (λe=>m e h d f i σ a w g r hj hrd)
theorem WOy.nil{all:Array Oper}(h:Q .normal env H st):WOy X P h0 N all [] env H st Q:=
 λhX rd fr ro σ a w g r hj hrd=>⟨_,env,H,st,ro,σ,fr,g,rfl,h,r,hj,λ_ q=>q,XT _,rfl,Grow.refl _ _ _⟩
end
theorem QhD{P:Program}{rd:Option Nat}{o:Oper}{a:Act}{K K':Act->World->Prop}{Q Q':Exit->Act->World->Prop}(i:∀a w,K a w->K' a w)(p:∀ch a w,Q (.panic ch) a w->Q' (.panic ch) a w)(k:∀a w,Q .outgrown a w->Q' .outgrown a w)
  {r:Result Next}(h:o.uponIn (WF rd) 0 P a K Q r):o.uponIn (WF rd) 0 P a K' Q' r:=by
 cases r with
 |ok x w=>
  cases x with
  |value v=>exact i _ _ h
  |skip=>exact i _ _ h
  |defer d=>exact i _ _ h
  |enter f g=>
   refine⟨h.1,CallsIn.mono h.2 ?_⟩;intro e m q;cases e with
   |returned v=>grind
   |panicked c=>grind
   |outgrown=>obtain⟨a,w,q⟩:=q;exact⟨a,w,k _ _ q⟩
  |row r g=>exact⟨h.1,RowsIn.mono h.2 λv m q=>i _ _ q⟩
  |round l f n assign j=>
   refine⟨h.1,RoundIn.mono h.2 ?_⟩;intro e m q;cases e with
   |returned v=>grind
   |panicked c=>grind
   |outgrown=>obtain⟨a,w,q⟩:=q;exact⟨a,w,k _ _ q⟩
  |_=>exact h
 |halt x w=>
  cases x with
  |panic v=>exact p _ _ _ h
  |_=>exact h
section
variable {T:Type} {X:Ctx T} {P:Program} {h0 N:Nat} {env:Env} {H:Qd} {st:YSt T} {Q:Jb T}
theorem WOy.step{all:Array Oper}{o:Oper}{rest:List Oper}(h:WO P h0 N all [o] env H (λx env' H'=>x=.normal/\WOy X P h0 N all rest env' H' st Q)):WOy X P h0 N all (o::rest) env H st Q:=by
 intro y p m s σ a w g r hj hrd;have L:∀i j,Qby h0 m s σ w N a.defers (λx env' H'=>x=.normal/\WOy X P h0 N all rest env' H' st Q) .normal i j->wpL P p all (QcW X h0 m s σ w N a.defers Q) rest i j:=by
  rintro i j ⟨x,env',H',d,σ',f,O,⟨_,G⟩,E,n,B,z,F⟩;have u:X.at st g d j/\In g f i.defers:=⟨y.ev hj.1 (n.frMono hj.2.sub),by rw[z];exact hj.2.later r.sim.frLt F⟩;have:=G y p f d σ' i j g E u hrd;exact Yo (λe l t q=>(q.grow n.sub n.size B (by grind))) _ _ _ this
 have k:=h p m s σ a w r (hrd▸QaG);unfold wpL wpListIn at k⊢;split
 .rename_i J;rw[Vs J]at k;refine⟨k.1,QhD (λl t q=>?_) (λM l t q=>?_) (λl t q=>?_) k.2⟩
  .unfold wpListIn at q
   grind
  .obtain⟨x,_,_,_,_,_,q,_⟩:=q;exact q.elim
  .obtain⟨x,_,_,_,_,_,q,_⟩:=q;exact q.elim
 simp_all[wpListIn]
theorem WOy.yield{all:Array Oper}{o:Oper}{rest:List Oper}{d:Nat}{x:T}{F rem:List T}(G:X.nx F x rem)(hg:QI all o env true)(u:o.dst=some d)(hN:Nat.blt d N=true)
  (E:∀fr ro σ a w,Rel fr ro σ H env N a w->∃vs:List Value,LR ro [] w (X.enc x) vs/\(execOp a.eval o).run P w=(Instr.yield X.l vs.toArray).run P w)
  (k:∀b,WOy X P h0 N all rest (up env d (.bool b)) H (bif b then .on rem else .off rem) Q):WOy X P h0 N all (o::rest) env H (.on F) Q:=by
 intro M L fr ro σ a w g r hj hrd;obtain⟨vs,R,V⟩:=E fr ro σ a w r;obtain⟨q,hq,B⟩:=hj.1;obtain⟨fn,tmps,assign,O,h1,h2⟩:=M.round F x rem q g ro w vs G B hq (λb z=>⟨r.sim.roLt b z,λy=>r.sim.roFr b z (hj.2.sub b y)⟩) R;have W:=V.trans h1;unfold wpL wpListIn;rw[Vs (YM hg r)];refine⟨λ_ _=>trivial,?_⟩;rw[Qcy W (λd e=>by cases e)];refine⟨λh=>by simp[WF,Fence.wide]at h,(RoundIn.mono h2 ?_)⟩;rintro e j ⟨i,p,t,n,f⟩;obtain⟨s',ev⟩:=r.sim.round hj.2.sub n;have J:d<N:=by simp_all
 have m:Ext ro σ w ro σ j:=by have:=ev.ext σ [];grind
 have fin:∀b,X.at (bif b then .on rem else .off rem) i ro j->wpL P L all (QcW X h0 fr ro σ w N a.defers Q) rest (a.put o.dst (.bool b)) j:=by
  intro b f;have hm:Qbz (λb=>fr b\/i b) a.defers j:=r.defers.to λD u q1 q2=>⟨.inl q1,(n.keep D (r.sim.frLt D q1) (hj.2.beside D u)).trans q2⟩;have Y:In i (λb=>fr b\/i b) a.defers:=by
   refine⟨λb q=>.inr q,λD hD q=>?_⟩;rcases n.new D q with p|p
   .exact hj.2.beside D hD p
   .have:=r.sim.frLt D (r.defers.mark hD).1;omega
  have r':Rel (λb=>fr b\/i b) ro σ H (up env d (.bool b)) N {a with tmps:=a.tmps.setIfInBounds d (.bool b)} j:=
   ⟨s',VR.up (fr:=fr) (λs=>(r.env s).mono m) (by rw[r.size];exact J) rfl,by simpa using r.size,hm⟩
  have:=k b M L _ ro σ _ j i r' ⟨f,Y⟩ hrd;simp[u];refine Yo (λe a2 w2 q=>q.grow (λ_ q=>q) n.size rfl ⟨λ_ q=>.inl q,λb q=>?_,λ_ q=>q,λ_ q=>.inl q⟩) _ _ _ this;rcases q with q|q
  .exact .inl q
  .rcases n.new b q with q|q
   .exact .inl (hj.2.sub b q)
   omega
 rcases f with⟨rfl,f⟩|⟨rfl,f⟩
 .exact fin true ⟨p,t,f⟩
 .exact fin false ⟨p,t,f⟩
end
section
variable {T:Type} {X:Ctx T} {P:Program} {h0 N:Nat} {c c':Code} {env:Env} {H:Qd} {st:YSt T} {Q Q':Jb T}
theorem TCy.mono(h:TCy X P h0 N c env H st Q)(t:∀x env H st,Q x env H st->Q' x env H st):TCy X P h0 N c env H st Q':=by
 intro n k m p σ a w g r hj hrd;refine Code.wpIn_mono ?_ (h n k m p σ a w g r hj hrd);rintro e z y ⟨x,d,H',f,i,σ',j,q,u,l,s⟩;exact⟨x,d,H',f,i,σ',j,q,u,t _ _ _ _ l,s⟩
theorem TCy.skip(h:Q .normal env H st):TCy X P h0 N .skip env H st Q:=TCy.lift (TC.skip h)
theorem TCy.ret(h:Q .ret env H st):TCy X P h0 N .ret env H st Q:=TCy.lift (TC.ret h)
theorem TCy.exit{id:Nat}(h:Q (.exit id) env H st):TCy X P h0 N (.exit id) env H st Q:=TCy.lift (TC.exit h)
def BloY(id:Nat)(Q:Jb T):Jb T
 |.normal,env,H,st=>Q .normal env H st
 |.exit id',env,H,st=>bif Nat.beq id' id then Q .normal env H st else Q (.exit id') env H st
 |.ret,env,H,st=>Q .ret env H st
theorem TCy.block{id:Nat}(h:TCy X P h0 N c env H st (BloY id Q)):TCy X P h0 N (.block id c) env H st Q:=by
 intro u s t y σ a w g r hj hrd;refine wpIn_block (Code.wpIn_mono ?_ (h u s t y σ a w g r hj hrd));rintro e E B ⟨x,d,H',i,j,σ',k,m,p,l,n⟩;cases e with
 |normal=>
  obtain rfl:x=.normal:=p;exact⟨_,d,H',i,j,σ',k,m,rfl,l,n⟩
 |exit f=>
  obtain rfl:x=.exit f:=p;unfold Exit.inBlock;simp only[BloY]at l;by_cases q:f=id
  .subst q;rw[VE,Vo]at l;simp;exact⟨.normal,d,H',i,j,σ',k,m,rfl,l,n⟩
  .have z:Nat.beq f id=false:=by
    cases e:Nat.beq f id with
    |false=>rfl
    |true=>simp_all
   rw[z,Vp]at l;simp[q];exact⟨.exit f,d,H',i,j,σ',k,m,rfl,l,n⟩
 |ret=>
  obtain rfl:x=.ret:=p;exact⟨_,d,H',i,j,σ',k,m,rfl,l,n⟩
 |_=>exact p.elim
end
section
variable {T:Type} {X:Ctx T} {P:Program} {h0 N:Nat} {c:Code} {env:Env} {H:Qd} {st:YSt T} {Q:Jb T}
def Qj2(I:Env->Qd->YSt T->Prop)(Q:Jb T):Jb T
 |.normal,env,H,st=>I env H st
 |.exit id,env,H,st=>Q (.exit id) env H st
 |.ret,env,H,st=>Q .ret env H st
theorem QjL{I:Nat->Env->Qd->YSt T->Prop}(t:∀n env H st,I n env H st->TCy X P h0 N c env H st (Qj2 (λenv H st=>∃n',n'<n/\I n' env H st) Q)){n:Nat}(F:I n env H st):TCy X P h0 N (.loop c) env H st Q:=by
 intro hX Y z B σ a w g r hj hrd b k cs hro hb hr;have G:∀m n env H st fr1 ro1 σ1 a1 w1 g1,n<m->I n env H st->Rel fr1 ro1 σ1 H env N a1 w1->(∀b,B b->ro1 b)->w.heap.size<=w1.heap.size->σ1.take h0=σ.take h0->Grow z w a.defers fr1 a1.defers->X.at st g1 ro1 w1/\In g1 fr1 a1.defers->
   ∃e h i,QcW X h0 z B σ w N a.defers Q e h i/\ArrivesIn (Machine.fenced P (WF Y)) P (lone (b.atR a1 (.code c::.inLoop c::k)) cs w1) b k cs e h i:=by
  intro m
  induction m with
  |zero=>omega
  |succ m ih=>
   intro n env H st fr1 ro1 σ1 a1 w1 g1 hn F r1 s1 z1 t1 gr1 j1;obtain⟨e,h,i,J,d⟩:=t n env H st F hX Y fr1 ro1 σ1 a1 w1 g1 r1 j1 hrd b (.inLoop c::k) cs hro hb hr;obtain⟨x,f,H',j,p,σ',s,M,E,u,O,V,q5,R,W,q8⟩:=J;have s2:=λb q=>q5 b (s1 b q);have y:=gr1.trans z1 q8;have hp:∀x,Q x f H' j->ExR e x->QcW X h0 z B σ w N a.defers Q e h i:=λx q q'=>⟨x,f,H',j,p,σ',s,M,q',q,O,V,s2,XV z1 R,W.trans t1,y⟩;cases e with
   |normal=>
    obtain rfl:x=.normal:=E;obtain⟨n',aa,u⟩:=u;obtain⟨e2,a2,w2,L,l⟩:=ih n' f H' j s p σ' h i M (by omega) u O s2 (XV z1 R) (W.trans t1) y V;exact⟨e2,a2,w2,L,.of_steps (StepsIn.trans d (.one (fenced_calm hb hr rfl) stepR_inLoop)) l⟩
   |exit id=>
    obtain rfl:x=.exit id:=E;exact⟨_,h,i,hp _ u rfl,.pass rfl (λ_ _=>.inl (by simp)) d⟩
   |ret=>
    obtain rfl:x=.ret:=E;exact⟨_,h,i,hp _ u rfl,.pass rfl (λ_ _=>.inl (by simp)) d⟩
   |_=>exact E.elim
 obtain⟨e,h,i,J,d⟩:=G (n+1) n env H st z B σ a w g (Xn _) F r (λ_ q=>q) (XT _) rfl (Grow.refl _ _ _) hj;exact⟨e,h,i,J,.of_steps (.one (fenced_calm hb hr rfl) stepR_loop) d⟩
end
theorem Sim.part{fr ro:Nat->Prop}{σ:Sig}{H:Qd}{w:World}(s0:Sim fr ro σ H w){π:List Nat}{Hc:Qd}(W:π.map (λp=>H[p]?)=(Hc.map (QZ (rho π H.length))).map some)(hπ:π.Nodup):
  Sim (λb=>fr b\/(∃i x,σ[i]?=some (some b)/\H[i]?=some x/\x.live=true/\i∉π)\/ ∃i x d,σ[i]?=some (some d)/\H[i]?=some x/\Hid w x d b/\i∉π) ro (YB σ π) Hc w/\ ∀j:Nat,σ[rho π H.length j]?=(YB σ π)[j]? :=by
 have hp:∀p∈π,p<H.length:=λp q=>Jd W q;have hσl:=s0.len;have h:∀(j p:Nat),π[j]?=some p->H[p]?=(Hc[j]?).map (QZ (rho π H.length)):=by
  intro j p m;have:=congrArg (λl=>l[j]?) W
  grind
 have O:π.length=Hc.length:=by simpa using congrArg List.length W
 have hσc:∀j:Nat,σ[rho π H.length j]?=(YB σ π)[j]? :=by
  intro j;have:=QdP (τ:=[]) hσl hp j
  grind
 have hπj:∀(j b:Nat),(YB σ π)[j]?=some (some b)->∃p,π[j]?=some p/\σ[p]?=some (some b):=by
  intro j b m;simp only[YB,Xo]at m
  grind
 refine⟨?_,hσc⟩
 .refine⟨by simp[YB,O],s0.roOk,?_,?_,?_,?_,?_,?_⟩
  .rintro b (J|⟨i,x,a,g,e,M⟩|⟨i,x,d,a,g,e,M⟩)
   .exact s0.frLt b J
   .exact(s0.own i b x a g e).1
   .exact(s0.hid i d x b a g e).lt
  .rintro b J (L|⟨i,x,a,g,e,M⟩|⟨i,x,d,a,g,e,M⟩)
   .exact s0.roFr b J L
   .exact(s0.own i b x a g e).2.1 J
   .exact(s0.hid i d x b a g e).ro J
  .intro j b x a g e;obtain⟨p,f,B⟩:=hπj j b a;have z:H[p]?=some (QZ (rho π H.length) x):=by grind
   obtain⟨o1,o2,o3⟩:=s0.own p b _ B z (by rw[QK];exact e);refine⟨o1,o2,?_⟩;rintro(L|⟨i,y,y1,y2,E,P⟩|⟨i,y,d,y1,y2,E,P⟩)
   .exact o3 L
   .have:=s0.inj i p b _ _ y1 B y2 z E (by rw[QK];exact e)
    grind
   .exact(s0.hid i d y b y1 y2 E).ne p b _ B z (by rw[QK];exact e) rfl
  .intro i j b x y a g e M q5 q6;obtain⟨p,f,B⟩:=hπj i b a;obtain⟨r,t,X⟩:=hπj j b g;have z:H[p]?=some (QZ (rho π H.length) x):=by rw[h i p f,e];rfl
   have V:H[r]?=some (QZ (rho π H.length) y):=by rw[h j r t,M];rfl
   have:=s0.inj p r b _ _ B X z V (by rw[QK];exact q5) (by rw[QK];exact q6);subst this;have F:i<π.length:=by
    rcases VB i π.length with q|q
    .exact q
    .rw[XO q]at f;simp at f
   have m:j<π.length:=by
    rcases VB j π.length with q|q
    .exact q
    .rw[XO q]at t;simp at t
   rw[XK F]at f;rw[XK m]at t;have n:=(XZ f).trans (XZ t).symm;rcases Nat.lt_trichotomy i j with q|q|q
   .exact(VD.1 hπ i j F m q n).elim
   .exact q
   .exact(VD.1 hπ j i m F q n.symm).elim
  .intro j s x a g;have m:j<π.length:=by
    rcases VB j π.length with q|q
    .exact q
    .rw[XO (by simpa[YB]using q)]at a;simp at a
   have f:π[j]?=some π[j]:=XK m;have z:H[π[j]]?=some (QZ (rho π H.length) x):=by rw[h j _ f,g];rfl
   have B:σ[π[j]]?=some s:=by
    have:=hσc j;rw[a]at this;simpa[rho,f]using this
   exact(Qgu hσc).1 (s0.blk _ s _ B z)
  .intro j b x c a g e;obtain⟨p,f,B⟩:=hπj j b a;have z:H[p]?=some (QZ (rho π H.length) x):=by rw[h j p f,g];rfl
   have k:=s0.hid p b _ c B z ((Qal _ _ _ _ _).2 e);refine⟨k.lt,k.ro,?_,?_,?_⟩
   .rintro(L|⟨i,y,y1,y2,E,P⟩|⟨i,y,d,y1,y2,E,P⟩)
    .exact k.fr L
    .exact k.ne i c y y1 y2 E rfl
    .obtain⟨rfl,rfl⟩:=k.one i d y y1 y2 E;exact P (VG f)
   .intro u N y T Y Q;obtain⟨r,G,R⟩:=hπj u N T;exact k.ne r N _ R (show H[r]?=some (QZ (rho π H.length) y)by rw[h u r G,Y];rfl) (by rw[QK];exact Q)
   .intro u N y T Y Q;obtain⟨r,G,R⟩:=hπj u N T;obtain⟨z4,z5⟩:=k.one r N _ R (show H[r]?=some (QZ (rho π H.length) y)by rw[h u r G,Y];rfl) ((Qal _ _ _ _ _).2 Q);subst z5;have F:u<π.length:=(XL.1 G).1;have m:j<π.length:=(XL.1 f).1;rw[XK F]at G;rw[XK m]at f;have n:=(XZ G).trans (XZ f).symm;refine⟨z4,?_⟩;rcases Nat.lt_trichotomy u j with q|q|q
    .exact(VD.1 hπ u j F m q n).elim
    .exact q
    .exact(VD.1 hπ j u m F q n.symm).elim
theorem Sim.frames{fr fr' ro:Nat->Prop}{σ:Sig}{H:Qd}{w:World}(s:Sim fr ro σ H w)(lt:∀b,fr' b->b<w.heap.size)(hro:∀b,ro b->¬fr' b)(own:∀(i b:Nat) (x:Blk),σ[i]?=some (some b)->H[i]?=some x->x.live=true->¬fr' b)
  (hd:∀(i b:Nat) (x:Blk) (c:Nat),σ[i]?=some (some b)->H[i]?=some x->Hid w x b c->¬fr' c):Sim fr' ro σ H w:=
 ⟨s.len,s.roOk,lt,hro,λi b x q1 q2 q3=>⟨(s.own i b x q1 q2 q3).1,(s.own i b x q1 q2 q3).2.1,own i b x q1 q2 q3⟩,s.inj,s.blk,
  s.hidTo (· = ·) Yb (XT _) (by simp) (by grind) (by grind)⟩
theorem Sim.put{fr ro:Nat->Prop}{σ:Sig}{H:Qd}{w:World}(s:Sim fr ro σ H w){b:Nat}{obj:Obj}(l:fr b)(r:w.shape? b=none):
  Sim fr ro σ H (w.putObj b obj)/\Qm (λc=>c≠b) ro w ro (w.putObj b obj):=by
 have a:∀c,c≠b->(w.putObj b obj).heap[c]?=w.heap[c]? :=λc t=>World.putObj_heap_other t;have f:(w.putObj b obj).heap.size=w.heap.size:=by simp
 have B:∀c,ro c->c≠b:=λc q e=>s.roFr c q (e▸l);have ev:Qm (λc=>c≠b) ro w ro (w.putObj b obj):=by
  refine⟨λ_ q=>q,(by grind),λc q=>a c q,by omega,λc x q=>?_,rfl,rfl,rfl,XT _⟩
  grind[World.shape?]
 have g:Ext ro σ w ro σ (w.putObj b obj):=by have:=ev.ext σ [];grind
 refine⟨⟨s.len,s.roOk.to (λ_ q=>q) ev.keepRo (λc q=>by rw[f];exact s.roLt c q),λc q=>by rw[f];exact s.frLt c q,s.roFr,λi c x k h u=>?_,s.inj,λi y x k h=>?_,
  s.hidTo (· = ·) Yb (by omega) (by simp) (by simp) λj d y m n E=>.inl ⟨j,y,rfl,m,n,id,λc q=>s.hidKeep m n (λz=>a d (λe=>(s.own j d y m n z).2.2 (e▸l))) ev.keepRo q⟩⟩,ev⟩
 .obtain⟨J,G,F⟩:=s.own i c x k h u
  grind
 .refine(s.blk i y x k h).keep g ?_ ?_
  .rintro c rfl p;exact a c (λe=>(s.own i c x k h p).2.2 (e▸l))
  .rintro d c rfl p;exact a c (λe=>(s.hid i d x c k h p).fr (e▸l))
theorem Qd9{w:World}{l:Nat}{r:Loop}(h:w.heap[l]?=some (.loop r)):w.shape? l=none:=by
 unfold World.shape?;rw[h]
structure Fix where
 fr:Nat->Prop
 ro:Nat->Prop
 σ:Sig
 w:World
 h1:Nat
 env:Env
 tmps:Array Value
 ds1:List Deferred
 l:Nat
 rc:LoopState->Option Code->Loop
 fr1:Nat->Prop
structure Fix.Ok (D:Fix):Prop where
 sub:∀b,D.fr b->D.fr1 b
 l1:D.fr1 D.l
 lf:¬D.fr D.l
 len:D.σ.length=D.h1
structure RJ (D:Fix) (ro1:Nat->Prop) (σ1:Sig) (H:Qd) (st:LoopState) (pe:Option Code) (q g:Nat->Prop) (W:World):Prop where
 sim:Sim D.fr1 ro1 σ1 H W
 env:∀t,VR ro1 D.σ W (lk D.env t) (D.tmps.getD t undef)
 sig:σ1.take D.h1=D.σ
 ev:Qm D.fr D.ro D.w ro1 W
 marks:Qbz D.fr1 D.ds1 W
 rc:W.heap[D.l]?=some (.loop (D.rc st pe))
 roG:∀b,ro1 b->q b\/g b
 frG:∀b,D.fr1 b->g b
 own:∀(i b:Nat) (x:Blk),σ1[i]?=some (some b)->H[i]?=some x->x.live=true->g b
 hidG:∀(i b:Nat) (x:Blk) (c:Nat),σ1[i]?=some (some b)->H[i]?=some x->Hid W x b c->g c
 lt:∀b,g b->b<W.heap.size
theorem QgB{σ σ1:Sig}{a:Nat}(h:σ1.take a=σ){i b:Nat}(q:σ[i]?=some (some b)):σ1[i]?=some (some b):=by
 grind
section
variable {D:Fix} {ro1:Nat->Prop} {σ1:Sig} {H:Qd} {st:LoopState} {pe:Option Code} {qR g:Nat->Prop} {W:World}
theorem RJ.step(r:D.Ok)(j:RJ D ro1 σ1 H st pe qR g W){n:Nat->Prop}{W':World}(e:Qm g qR W n W'):RJ D ro1 σ1 H st pe qR g W':=by
 have hro:=λb q=>(j.roG b q).elim (e.keepRo b) (e.keepFr b);have ev:Qm D.fr1 ro1 W ro1 W':=⟨λ_ q=>q,hro,λb q=>e.keepFr b (j.frG b q),e.size,e.shape,e.os,e.tape,e.output,e.drawn⟩;have h:∀σ,Ext ro1 σ W ro1 σ W':=λ σ=>by have:=ev.ext σ [];grind
 refine⟨⟨j.sim.len,j.sim.roOk.to (λ_ q=>q) hro (λb q=>Vf (j.sim.roLt b q) e.size),λb q=>Vf (j.sim.frLt b q) e.size,j.sim.roFr,λi b x f a p=>?_,j.sim.inj,λi z x f a=>?_,
  j.sim.hidTo (· = ·) Yb e.size (by simp) (by simp) λi d y k l w=>.inl ⟨i,y,rfl,k,l,id,λc q=>j.sim.hidKeep k l (λz=>e.keepFr d (j.own i d y k l z)) hro q⟩⟩,
  λt=>(j.env t).mono (h _),j.sig,j.ev.trans (ev.frMono r.sub),j.marks.keep ev,(ev.keepFr _ r.l1).trans j.rc,j.roG,j.frG,j.own,λi b x c f a p=>j.hidG i b x c f a (j.sim.hidKeep f a (λz=>e.keepFr b (j.own i b x f a z)) hro p),λb q=>Vf (j.lt b q) e.size⟩
 .obtain⟨u,s⟩:=j.sim.own i b x f a p;exact⟨Vf u e.size,s⟩
 .refine(j.sim.blk i z x f a).keep (h _) ?_ ?_
  .rintro b rfl m;exact e.keepFr b (j.own i b x f a m)
  .rintro b c rfl m;exact e.keepFr c (j.hidG i b x c f a m)
theorem RJ.up{g':Nat->Prop}(j:RJ D ro1 σ1 H st pe qR g W)(h:∀b,g b->g' b)(hl:∀b,g' b->b<W.heap.size):RJ D ro1 σ1 H st pe qR g' W:=
 {j with roG:=λb q=>(j.roG b q).imp id (h b),frG:=λb q=>h b (j.frG b q),own:=λi b x q1 q2 q3=>h b (j.own i b x q1 q2 q3),hidG:=λi b x c q1 q2 q3=>h c (j.hidG i b x c q1 q2 q3),lt:=hl}
def FrB(D:Fix)(ro1 g:Nat->Prop)(W:World):Nat->Prop:=λb=>(D.fr1 b\/(¬g b/\ ¬ro1 b))/\b<W.heap.size
theorem RJ.simB(j:RJ D ro1 σ1 H st pe qR g W):Sim (FrB D ro1 g W) ro1 σ1 H W:=by
 refine j.sim.frames (λb q=>q.2) (λb q r=>?_) (λi b x e a d r=>?_) (λi b x c e a d r=>r.1.elim (j.sim.hid i b x c e a d).fr λr=>r.1 (j.hidG i b x c e a d))
 .rcases r.1 with r|r
  .exact j.sim.roFr b q r
  grind
 .rcases r.1 with r|r
  .exact(j.sim.own i b x e a d).2.2 r
  .exact r.1 (j.own i b x e a d)
theorem RJ.fin(z:D.Ok)(j:RJ D ro1 σ1 H st pe qR g W){w n:Nat->Prop}{σ':Sig}{H':Qd}{W':World}{st':LoopState}{pe':Option Code}
  (ev:Qm (λb=>FrB D ro1 g W b/\b≠D.l) ro1 W n W')(s:Sim w n σ' H' W')(u:∀b,FrB D ro1 g W b->w b)(hσ:σ'.take D.h1=σ1.take D.h1)(F:W'.heap[D.l]?=some (.loop (D.rc st' pe'))):
  RJ D n σ' H' st' pe' qR (λb=>g b\/(W.heap.size<=b/\b<W'.heap.size)) W'/\QeT g (λb=>g b\/(W.heap.size<=b/\b<W'.heap.size)) W W':=by
 have h:∀b,D.fr1 b->FrB D ro1 g W b:=λb q=>⟨.inl q,j.sim.frLt b q⟩;have evf:=ev.frMono λb q=>⟨h b (z.sub b q),λe=>z.lf (e▸q)⟩;have hext:=ev.ext0 D.σ;have y:∀b,b<W.heap.size->b<W'.heap.size:=λb q=>Vf q ev.size;have f:∀b,b<W.heap.size->¬FrB D ro1 g W b->g b\/ro1 b:=by
  intro b d G;by_cases m:g b
  .exact .inl m
  .by_cases a:ro1 b
   .exact .inr a
   .exact absurd ⟨.inr ⟨m,a⟩,d⟩ G
 refine⟨⟨s.frames (λb q=>y b (j.sim.frLt b q)) (λb q r=>s.roFr b q (u b (h b r))) (λi b x m a p r=>(s.own i b x m a p).2.2 (u b (h b r))) (λi b x c m a p r=>(s.hid i b x c m a p).fr (u c (h c r))),
  λt=>(j.env t).mono hext,hσ.trans j.sig,j.ev.trans evf,j.marks.to λB _ e2 e3=>⟨e2,(ev.keepFr B ⟨h B e2,λe=>?_⟩).trans e3⟩,F,λb q=>?_,λb q=>.inl (j.frG b q),λi b x m a p=>?_,λi b x c m a p=>?_,λb q=>q.elim (λq=>y b (j.lt b q)) (λq=>q.2)⟩,
  ⟨λb q=>.inl q,(by grind),λb q=>q.elim (λq=>y b (j.lt b q)) (λq=>q.2),(by omega),λb m a=>?_,ev.size,ev.shape,ev.os,ev.tape,ev.output,ev.drawn⟩⟩
 .subst e;rw[j.rc]at e3;cases e3
 .rcases VB b W.heap.size with d|d
  .rcases f b d (λr=>s.roFr b q (u b r))with r|r
   .grind
   .exact(j.roG b r).imp id .inl
  .exact .inr (.inr ⟨d,s.roLt b q⟩)
 .obtain⟨L,E,J⟩:=s.own i b x m a p;rcases VB b W.heap.size with d|d
  .rcases f b d (λr=>J (u b r))with r|r
   .exact .inl r
   .exact absurd (ev.sub b r) E
  omega
 .have k:=s.hid i b x c m a p;rcases VB c W.heap.size with d|d
  .rcases f c d (λr=>k.fr (u c r))with r|r
   .exact .inl r
   .exact absurd (ev.sub c r) k.ro
  .exact .inr ⟨d,k.lt⟩
 .by_cases r:ro1 b
  .exact ev.keepRo b r
  .exact ev.keepFr b ⟨(by grind),λe=>a (j.frG b (e▸z.l1))⟩
end
theorem Sim.roAdd{fr ro a:Nat->Prop}{σ:Sig}{H:Qd}{w:World}(s:Sim fr ro σ H w)(e:∀b,a b->b<w.heap.size)(f:∀b,a b->¬fr b)(h:∀(i b:Nat) (x:Blk),σ[i]?=some (some b)->H[i]?=some x->x.live=true->¬a b)
  (j:∀(i b:Nat) (x:Blk) (c:Nat),σ[i]?=some (some b)->H[i]?=some x->Hid w x b c->¬a c):Sim fr (λb=>ro b\/a b) σ H w:=by
 have ext:Ext ro σ w (λb=>ro b\/a b) σ w:=⟨λ_ q=>.inl q,λ_ _=>rfl,λ_ _ q=>q,λ_ _ q=>q⟩;refine⟨s.len,s.roOk.to (λ_ q=>.inl q) (λ_ _=>rfl) (λb q=>q.elim (s.roLt b) (e b)),s.frLt,λb q=>q.elim (s.roFr b) (f b),λi b x g d k=>?_,s.inj,λi y x g d=>(s.blk i y x g d).keep ext (λ_ _ _=>rfl) (λ_ _ _ _=>rfl),
  s.hidTo (· = ·) Yb (XT _) (by grind) (by simp) (by grind)⟩
 obtain⟨n,m,l⟩:=s.own i b x g d k
 grind
theorem RJ.roAdd{D:Fix}{ro1:Nat->Prop}{σ1:Sig}{H:Qd}{st:LoopState}{pe:Option Code}{qR ri g:Nat->Prop}{W:World}(j:RJ D ro1 σ1 H st pe qR g W)(hq:∀b,qR b->ri b)(hI:∀b,ri b->b<W.heap.size/\ ¬g b):RJ D (λb=>ro1 b\/ri b) σ1 H st pe ri g W:=
 {j with
  sim:=j.sim.roAdd (λb q=>(hI b q).1) (λb q z=>(hI b q).2 (j.frG b z)) (λi b x q1 q2 q3 z=>(hI b z).2 (j.own i b x q1 q2 q3)) (λi b x c q1 q2 q3 z=>(hI c z).2 (j.hidG i b x c q1 q2 q3))
  env:=λt=>(j.env t).mono ⟨λ_ q=>.inl q,λ_ _=>rfl,λ_ _ q=>q,λ_ _ q=>q⟩
  ev:=j.ev.trans (Q4 λ_ q=>.inl q)
  roG:=λb q=>q.elim (λq=>(j.roG b q).imp (hq b) id) .inl}
def upPs:List Nat->List A->Env->Env
 |p::ps,a::zs,env=>upPs ps zs (up env p a)
 |_,_,env=>env
def QhF:List Nat->List Value->Array Value->Array Value
 |p::ps,v::vs,t=>QhF ps vs (t.setIfInBounds p v)
 |_,_,t=>t
theorem Qfh:∀(ps:List Nat) (vs:List Value) (t:Array Value),(QhF ps vs t).size=t.size
 |[],_,_=>rfl
 |_::_,[],_=>rfl
 |p::ps,v::vs,t=>by simp[QhF,Qfh ps]
theorem Qfi:∀(ps:List Nat) (vs:List Value) (t:Array Value),(ps.toArray.zip vs.toArray).foldl (λt (p,v)=>t.setIfInBounds p v) t=QhF ps vs t
 |[],vs,t=>by rw[<- Array.foldl_toList,Array.toList_zip];rfl
 |p::ps,[],t=>by rw[<- Array.foldl_toList,Array.toList_zip];rfl
 |p::ps,v::vs,t=>by
  have:=Qfi ps vs (t.setIfInBounds p v);rw[<- Array.foldl_toList,Array.toList_zip]at this⊢;exact this
theorem Qip{ro:Nat->Prop}{σ:Sig}{w:World}:∀(ps:List Nat) (zs:List A) (vs:List Value) (env:Env) (t:Array Value),LR ro σ w zs vs->(∀p∈ps,p<t.size)->(∀s,VR ro σ w (lk env s) (t.getD s undef))->
  ∀s,VR ro σ w (lk (upPs ps zs env) s) ((QhF ps vs t).getD s undef)
 |[],_,_,_,_,_,_,h=>h
 |p::ps,[],vs,_,_,hv,_,h=>by
  obtain rfl:vs=[]:=hv;exact h
 |p::ps,a::zs,vs,env,t,hv,hp,h=>by
  obtain⟨v,vs',rfl,h0,hv'⟩:=hv;have h1:=VR.up (fr:=λ_=>False) (a:={tmps:=t,defers:=[]}) h (hp p (by simp)) h0;exact Qip ps zs vs' (up env p a) (t.setIfInBounds p v) hv' (λq hq=>by grind) h1
def QnL(h1:Nat)(env:Env)(Q:QG)(K:Qd->Prop):QG
 |.normal,env',H'=>∃H2,Le h1 env' H' [] H2/\K H2
 |.exit id,env',H'=>∃H2,Le h1 env' H' [] H2/\Q (.exit id) env H2
 |.ret,env',H'=>∃H2,Le h1 env' H' [] H2/\Q .ret env H2
def Jump(Q:QG)(env:Env)(c:Code)(H:Qd):Prop:=(∃id,c=.exit id/\Q (.exit id) env H)\/(c=.ret/\Q .ret env H)
section
variable {D:Fix} {ro0:Nat->Prop} {σ1:Sig} {H:Qd} {qR ri g:Nat->Prop} {W:World} {P:Program} {N:Nat} {Q:QG} {K:Qd->Prop}
theorem RJ.round{fn:FuncId}{z:List Nat}{assign body:Code}{df:Nat}{J:List A}{vs:List Value}(hD:D.Ok)(aa:D.rc=λst pe=>{state:=st,pending:=pe,fn:=fn,tmps:=D.tmps,params:=z.toArray,assign:=assign,body:=body,defers:=df})
  (hN:D.tmps.size=N)(an:∀p∈z,p<N)(al:J.length=z.length)(hq:∀b,qR b->ri b)(hI:∀b,ri b->b<W.heap.size/\ ¬g b)(ac:LR ri [] W J vs)(j0:RJ D ro0 σ1 H .ready none qR g W)
  (h:TC P D.h1 N assign (upPs z J D.env) H λe env1 H1=>e=.normal/\TC P D.h1 N body env1 H1 (QnL D.h1 D.env Q K)):
  YieldAt Fence.wide 0 P D.l vs.toArray W λe W'=>∃g',QeT g g' W W'/\((e=.returned (.bool true)/\ ∃H2 ro2 σ2,K H2/\RJ D ro2 σ2 H2 .ready none ri g' W')\/
   (e=.returned (.bool false)/\ ∃H2 c ro2 σ2,Jump Q D.env c H2/\RJ D ro2 σ2 H2 .done (some c) ri g' W')):=by
 have am:vs.length=J.length:=ac.length;have j:=j0.roAdd hq hI;have t:LR (λb=>ro0 b\/ri b) σ1 W J vs:=ac.mono ⟨λ_ q=>.inr q,λ_ _=>rfl,λ_ _ q=>q,λi b q=>by simp at q⟩;clear j0;generalize(λb=>ro0 b\/ri b)=ro1 at j t;have ak:∀b,D.fr1 b->FrB D ro1 g W b:=λb q=>⟨.inl q,j.sim.frLt b q⟩;have y:=ak _ hD.l1;have Y:=j.rc;have hy:=run_yield (P:=P) (r:=D.rc .ready none) (args:=vs.toArray) Y (by grind);refine⟨fn,QhF z vs D.tmps,assign,body,?_,?_⟩
 .grind[Qfi]
 .refine roundIn_of_wpIn trivial ?_;show Code.wpIn (WF (some D.l)) 0 P _ _ _ _;have R:∀s,VR ro1 σ1 W (lk D.env s) (D.tmps.getD s undef):=λs=>(j.env s).mono ⟨λ_ q=>q,λ_ _=>rfl,λ_ _ q=>q,λi b q=>QgB j.sig q⟩;have ah:QdL (some D.l) (FrB D ro1 g W) W:=λl e=>by grind
  have u:=h (some D.l) (FrB D ro1 g W) ro1 σ1 {tmps:=QhF z vs D.tmps,defers:=[]} W ⟨j.simB,Qip z J vs D.env D.tmps t (by grind) R,by simp[Qfh,hN],List.nodup_nil,λd hd=>by cases hd⟩ ah;refine Code.wpIn_mono ?_ u;rintro e a1 u ⟨x1,env1,H1,ro2,σ2,m,h1,⟨rfl,h2⟩,h3,h4,h5,h6⟩;cases e with
  |normal=>
   have L:u.heap[D.l]?=some (.loop (D.rc .ready none)):=(h4.keepFr _ y).trans Y;refine⟨_,run_beginRound L (by rw[aa]),?_⟩;obtain⟨s2,E⟩:=h3.sim.put (obj:=.loop {D.rc .ready none with state:=.busy}) (h6.sub _ y) (Qd9 L);have ad:D.l<u.heap.size:=by grind
   have ag:(u.putObj D.l (.loop {D.rc .ready none with state:=.busy})).heap[D.l]?=some (.loop {D.rc .ready none with state:=.busy}):=World.putObj_heap_same ad;generalize hw2:u.putObj D.l (.loop {D.rc .ready none with state:=.busy})=w2 at*;have ae:Qbz m a1.defers w2:=h3.defers.to λB _ e2 e3=>⟨e2,(E.keepFr B (λe=>by grind)).trans e3⟩;have r2:Rel m ro2 σ2 H1 env1 N a1 w2:=⟨s2,λs=>(h3.env s).mono (E.ext0 σ2),h3.size,ae⟩;have O:m D.l:=h6.sub _ y;refine Code.wpIn_mono ?_ (h2 (some D.l) m ro2 σ2 a1 w2 r2 (λl e=>by grind));rintro e a3 x ⟨x3,V,H3,G,σ3,ab,g1,g2,g3,g4,g5,g6⟩;have n:x.heap[D.l]?=some (.loop {D.rc .ready none with state:=.busy}):=(g4.keepFr _ O).trans ag;have F:∀(H2:Qd) (jump:Option Code),Le D.h1 V H3 [] H2->∃v k,(Instr.endRound D.l jump).run P x=.ok v k/\v=.bool jump.isNone/\ ∃g',QeT g g' W k/\ ∃a σ4,RJ D a σ4 H2 (if jump.isNone then .ready else .done) jump ri g' k:=by
    intro H2 jump f;obtain⟨a,σ4,r4,s4,t4⟩:=f ab G σ3 N a3 x g3;refine⟨_,_,run_endRound jump n,rfl,?_⟩;have ai:ab D.l:=g6.sub _ O;obtain⟨s5,aj⟩:=r4.sim.put ai (Qd9 n);have T:D.l<x.heap.size:=by rw[Vc]at n;exact n.1
    have af:=World.putObj_heap_same (w:=x) (r:=D.l) (o:=.loop {{D.rc .ready none with state:=.busy}with state:=if jump.isNone then .ready else .done,pending:=jump}) T;have e1:Qm (λb=>FrB D ro1 g W b/\b≠D.l) ro1 W ro2 u:=h4.frMono λb q=>q.1;have e2:Qm (λb=>FrB D ro1 g W b/\b≠D.l) ro2 u ro2 w2:=E.frMono λb q=>q.2;have e3:Qm (λb=>FrB D ro1 g W b/\b≠D.l) ro2 w2 G x:=g4.frMono λb q=>h6.sub b q.1;have e4:Qm (λb=>FrB D ro1 g W b/\b≠D.l) G x a x:=Q4 s4;have e5:=(((e1.trans e2).trans e3).trans e4).trans (aj.frMono λb (q:FrB D ro1 g W b/\b≠D.l)=>q.2);obtain⟨q1,q2⟩:=j.fin hD e5 s5 (λb q=>g6.sub b (h6.sub b q)) (by rw[t4,g5,h5]) (st':=if jump.isNone then .ready else .done) (pe':=jump) (by rw[af,aa]);exact⟨_,q2,a,σ4,q1⟩
   cases e with
   |normal=>
    obtain rfl:x3=.normal:=g1;obtain⟨H2,f,hK⟩:=g2;obtain⟨v,k,M,rfl,g',k2,a,σ4,X⟩:=F H2 none f;exact⟨_,k,M,g',k2,.inl ⟨rfl,H2,a,σ4,hK,X⟩⟩
   |exit id=>
    obtain rfl:x3=.exit id:=g1;obtain⟨H2,f,hK⟩:=g2;obtain⟨v,k,M,rfl,g',k2,a,σ4,X⟩:=F H2 (some (.exit id)) f;exact⟨_,k,M,g',k2,.inr ⟨rfl,H2,_,a,σ4,.inl ⟨id,rfl,hK⟩,X⟩⟩
   |ret=>
    obtain rfl:x3=.ret:=g1;obtain⟨H2,f,hK⟩:=g2;obtain⟨v,k,M,rfl,g',k2,a,σ4,X⟩:=F H2 (some .ret) f;exact⟨_,k,M,g',k2,.inr ⟨rfl,H2,_,a,σ4,.inr ⟨rfl,hK⟩,X⟩⟩
   |_=>exact g1.elim
  |exit id=>cases h1
  |ret=>cases h1
  |_=>exact h1.elim
end
theorem Sim.beside{fr ro:Nat->Prop}{σ:Sig}{H:Qd}{w g:World}(s:Sim fr ro σ H w)(ev:Qm fr ro w ro g)(a:∀b,b<w.heap.size->g.heap[b]?=w.heap[b]?):Sim (λb=>fr b\/(w.heap.size<=b/\b<g.heap.size)) ro σ H g:=by
 have hext:=ev.ext0 σ;refine⟨s.len,s.roOk.to (λ_ q=>q) ev.keepRo (λb q=>Vf (s.roLt b q) ev.size),λb q=>q.elim (λq=>Vf (s.frLt b q) ev.size) (λq=>q.2),λb q r=>?_,λi b x f e m=>?_,s.inj,λi z x f e=>?_,
  s.hidTo (· = ·) Yb ev.size (by simp) (λi b x c f e m n=>n.elim id λq=>(by have:=(s.hid i b x c f e m).lt;omega)) λj d y h k p=>.inl ⟨j,y,rfl,h,k,id,λc q=>s.hidKeep h k (λz=>a d (s.own j d y h k z).1) ev.keepRo q⟩⟩
 .rcases r with r|r
  .exact s.roFr b q r
  .have:=s.roLt b q;omega
 .obtain⟨B,u,t⟩:=s.own i b x f e m
  grind
 .refine(s.blk i z x f e).keep hext ?_ ?_
  .rintro b rfl l;exact a b (s.own i b x f e l).1
  .rintro b c rfl l;exact a c (s.hid i b x c f e l).lt
section
variable {P:Program} {T:Type} {ts tq te k tm:Nat} {g:FuncId} {es:List (A×A)} {e:T->List A} {ea:T->A} {xs:List T}
end
theorem TCy.le{T:Type}{X:Ctx T}{P:Program}{h0 N:Nat}{c:Code}{env d:Env}{H H':Qd}{m:YSt T}{Q:Jb T}(k:Le h0 env H d H')(h:TCy X P h0 N c d H' m Q):TCy X P h0 N c env H m Q:=by
 intro x p l y σ a w g r hj hrd;obtain⟨j,σ',u,s,t⟩:=k l y σ N a w r;obtain⟨⟨n,z,f⟩,i⟩:=hj;exact Code.wpIn_mono (λe a w q=>q.grow s (XT _) t (Grow.refl _ _ _)) (h x p l j σ' a w g u ⟨⟨n,(by grind),f⟩,i⟩ hrd)
theorem Qka{P:Program}{o:Oper}{env:Env}{H:Qd}{y z:Operand}{l:Nat}{a:A}{g:Array TypeId}(j:o.op=.call {callee:=.value y,args:= #[z],argTypes:=g})(i:opA env y=.fn (.yield l) [] [])(m:opA env z=a)(k:Yq a=true){N:Nat}:
  ∀fr ro σ act w,Rel fr ro σ H env N act w->∃vs:List Value,LR ro [] w [a] vs/\(execOp act.eval o).run P w=(Instr.yield l vs.toArray).run P w:=by
 intro fr ro σ act w r;have d:=Qs r y;rw[i]at d;obtain⟨h,n,d,f,p⟩:=d;obtain rfl:h=[]:=f;have e:=Qs r z;rw[m]at e;refine⟨[act.eval z],⟨_,_,rfl,VR.data k e,rfl⟩,?_⟩;generalize act.eval=ev at*;simp[execOp,j,invoke,go_sem,d]
theorem Qi3{P:Program}{o:Oper}{env:Env}{H:Qd}{y d a:Operand}{l:Nat}{k g:A}{q:Array TypeId}(u:o.op=.call {callee:=.value y,args:= #[d,a],argTypes:=q})(t:opA env y=.fn (.yield l) [] [])(j:opA env d=k)(h:opA env a=g)(i:Yq k=true)(f:Yq g=true){N:Nat}:
  ∀fr ro σ act w,Rel fr ro σ H env N act w->∃vs:List Value,LR ro [] w [k,g] vs/\(execOp act.eval o).run P w=(Instr.yield l vs.toArray).run P w:=by
 intro fr ro σ act w r;have e:=Qs r y;rw[t]at e;obtain⟨s,x,e,p,z⟩:=e;obtain rfl:s=[]:=p;have m:=Qs r d;rw[j]at m;have n:=Qs r a;rw[h]at n;refine⟨[act.eval d,act.eval a],⟨_,_,rfl,VR.data i m,_,_,rfl,VR.data f n,rfl⟩,?_⟩;generalize act.eval=ev at*;simp[u,invoke,go_sem,e]
section
variable {P:Program} {K V:Type} {tm tb ty tk kt et:Nat} {ek:K->A} {ev:V->A} {m:List (K×V)} {T:Type}
end
section
variable {P:Program} {o:Oper} {env:Env} {H:Qd} {fr ro:Nat->Prop} {σ:Sig} {w:World}
theorem Qd0{h0 i m T:Nat}{d:List A}(n:H[i]?=some (.cells T d)):Le h0 env H env (H.set i (.cells T (d.set m .any))):=by
 intro u s σ N a w r;refine⟨s,σ,⟨r.sim.weaken n rfl ?_,r.env,r.size,r.defers⟩,λ_ q=>q,rfl⟩;intro y h;cases y with
 |none=>exact h
 |some b=>
  obtain⟨l,f,g,j⟩:=h;refine⟨l,f,?_,j⟩;clear f j n
  induction d generalizing m l with
  |nil=>exact g
  |cons c d p=>
   obtain⟨v,e,rfl,t,k⟩:=g;cases m with
   |zero=>exact⟨v,e,rfl,trivial,k⟩
   |succ m=>exact⟨v,e,rfl,t,p e k⟩
theorem Pts.ents{i a t e f g j:Nat}{l:List Ent}{x:Ent}{d:List A}(he:l[e]?=some x)(p:H[i]?=some (.ents t g j l):=by exact rfl)(ho:a=e*3+f:=by exact rfl)(hcs:(eC g j x).drop f=d:=by exact rfl):Pts H (.ptr i a) d:=by
 intro u z σ w v s h;obtain⟨b,q,m⟩:=h;obtain⟨y,r,n⟩:=s.blk i _ _ q p;have k:(l.map (eC g j))[e]?=some (eC g j x):=by rw[Xo,he];rfl
 have:=((YQ (pre:=[]) (by simpa using r) n).get e k).2.drop f;refine⟨b,a,m,?_⟩;rw[<- hcs,ho];simpa using this
end
section
variable {P:Program} {h0 N:Nat} {A B C:Code} {env:Env} {H:Qd} {Q:QG}
end
section
variable {P:Program} {o:Oper} {env:Env} {H:Qd}
def Ym(k:IntKind)(m n:Int):Int:=k.wrap (BitVec.ofInt k.bits m&&& BitVec.ofInt k.bits n).toNat
def Yl(k:IntKind)(m n:Int):Int:=m.fdiv (2^(min n.toNat k.bits))
theorem OpV.and{t u:TypeId}{x y:Operand}{k:IntKind}{m n:Int}(f:o.op=.binOp .and t x y u)(d:opA env x=.int k m)(h:opA env y=.int k n):OpV P o env H (.int k (Ym k m n)):=by
 intro i j σ N a w r;have e:=QT r d;have g:=QT r h;refine⟨_,?_,rfl⟩;generalize a.eval=ρ at*;simp[f,e,g,Op.intBits,go_sem,Ym]
theorem OpV.shr{t u:TypeId}{x y:Operand}{k g:IntKind}{m n:Int}(i:o.op=.binOp .shr t x y u)(d:opA env x=.int k m)(f:opA env y=.int g n)(h:0<=n):OpV P o env H (.int k (Yl k m n)):=by
 intro l p σ N a w r;have j:=QT r d;have e:=QT r f;refine⟨_,?_,rfl⟩;generalize a.eval=ρ at*;simp[i,j,e,Op.shift,go_sem,Yl,Int.not_lt.2 h]
theorem YH{h0 i m t k T:Nat}{d:List A}(G:Nat.ble h0 H.length=true)(g:H[i]?=some (.cells T d))(f:d[m]?=some .nils):
  Le h0 env H env (H.set i (.cells T (d.set m (.osl H.length 0 0 k)))++[.row t k []]):=by
 intro J j σ N a w r;have hh':=XR G;have hi:=(XL.1 g).1;have ext:Ext j σ w j (σ++[none]) w:=⟨λ_ q=>q,λ_ _=>rfl,λ_ _ q=>q,λ_ _ h=>Qck h⟩;have s:=r.sim.phantom t k;have e:(H++[Blk.row t k []])[i]?=some (.cells T d):=by rw[XM hi];exact g
 have p:H.set i (.cells T (d.set m (.osl H.length 0 0 k)))++[.row t k []]=(H++[Blk.row t k []]).set i (.cells T (d.set m (.osl H.length 0 0 k))):=by
  rw[List.set_append_left _ _ hi]
 rw[p];refine⟨j,σ++[none],⟨s.weaken e rfl ?_,λq=>(r.env q).mono ext,r.size,r.defers⟩,λ_ q=>q,QR (by rw[r.sim.len];exact hh')⟩;intro y h;cases y with
 |none=>exact h
 |some b=>
  obtain⟨l,u,E,x⟩:=h;refine⟨l,u,?_,x⟩;clear u x e p g
  induction d generalizing m l with
  |nil=>cases f
  |cons c d F=>
   obtain⟨v,n,rfl,B,z⟩:=E;cases m with
   |zero=>
    simp at f;subst f;exact⟨v,n,rfl,.inl ⟨rfl,B⟩,z⟩
   |succ m=>exact⟨v,n,rfl,B,F (by simpa using f) n z⟩
def SrcB(P:Program)(H:Qd)(x:A)(l:List Int):Prop:=
 ∀fr ro σ w v,Sim fr ro σ H w->VR ro σ w x v->(∃a c,v=.slice a 0 c/\l=[])\/ ∃b off c,v=.slice (some ⟨b,off,none⟩) l.length c/\(l=[]\/CR ro σ w b (l.map λn=>A.int .u8 n) off)
theorem Qf6:∀(l:List Int),(l.map (λn=>[A.int .u8 n])).flatten=l.map λn=>A.int .u8 n
 |[]=>rfl
 |n::l=>by simp[Qf6 l]
theorem SrcB.nils:SrcB P H .nils []:=λfr ro σ w v s h=>.inl ⟨none,0,h,rfl⟩
theorem SrcB.row{i t n:Nat}{l:List Int}(q:H[i]?=some (.row t 1 (l.map λn=>[A.int .u8 n])):=by exact rfl)(hn:l.length=n:=by exact rfl):SrcB P H (.osl i 0 n 1) l:=by
 intro u B σ w v s h;rcases h with⟨rfl,rfl⟩|⟨b,p,a,y,m,f,rfl,j,⟨F,g⟩,z,E⟩
 .exact .inl ⟨none,0,rfl,VI.1 hn⟩
 .refine .inr ⟨b,p,a,by rw[hn],?_⟩;by_cases d:l=[]
  .exact .inl d
  .have:0<a:=by have:=List.length_pos_iff.2 d;omega
   obtain rfl:=j this;obtain⟨x,r,k⟩:=s.blk i _ _ f q;have e:=(YQ (pre:=[]) (by simpa using r) k).flat.1;rw[Qf6]at e;exact .inr (by simpa using e.lift)
theorem SrcB.rsl{l:List Int}:SrcB P H (.rsl 1 (l.map λn=>[A.int .u8 n])) l:=by
 intro h j σ w v s ⟨a,c,h1,h2,e⟩;subst h1;rw[X2]at*;rcases e with e|⟨b,d,rfl,i,g⟩
 .have:=List.map_eq_nil_iff.1 e;subst this;exact .inl ⟨a,c,by simp,rfl⟩
 .have f:=g.flat.1;rw[Qf6]at f;exact .inr ⟨b,d,c,rfl,.inr f.lift⟩
end
def Qbm:Option Blk->Bool
 |some .dead=>true
 |_=>false
def Qar(hB hE:Nat)(H H':Qd):Bool:=(List.range (hE-hB)).all λp=> !Qbm H'[hB+p]? ||Qbm H[hB+p]?
def QiZ(hB hE:Nat)(σ:Sig)(H:Qd):Prop:=∀p,hB<=p->p<hE->Qbm H[p]?=true->σ[p]?=some none
theorem QjA{hB hE:Nat}{H H':Qd}(h:Qar hB hE H H'=true){p:Nat}(e:hB<=p)(d:p<hE)(a:Qbm H'[p]?=true):Qbm H[p]?=true:=by
 have:=Xs.1 h (p-hB) (List.mem_range.2 (by omega));rw[show hB+(p-hB)=p by omega,a]at this;simpa using this
theorem Sim.allocAt{fr ro:Nat->Prop}{σ:Sig}{H:Qd}{w:World}(s:Sim fr ro σ H w){p:Nat}(L:σ[p]?=some none){obj:Obj}{x:Blk}
  (O:BR ro (σ.set p (some w.heap.size)) (w.alloc obj) x (some w.heap.size))
  (E:∀c,Hid (w.alloc obj) x w.heap.size c->False:=by exact λ_ h=>h.elim):Sim fr ro (σ.set p (some w.heap.size)) (H.set p x) (w.alloc obj):=by
 have ev:Qm fr ro w ro (w.alloc obj):=Qm.alloc obj s.roLt s.frLt;have u:=s.len;have F:p<σ.length:=(XL.1 L).1;have t:Ext ro σ w ro (σ.set p (some w.heap.size)) (w.alloc obj):=⟨ev.sub,ev.keepRo,ev.shape,λi b q=>by
  rw[XP (λz=>by subst z;rw[L]at q;cases q)];exact q⟩
 have e:∀(i:Nat) (y:Option Nat),(σ.set p (some w.heap.size))[i]?=some y->(i≠p/\σ[i]?=some y)\/(i=p/\y=some w.heap.size):=by
  intro i y h;by_cases q:i=p
  .subst q;rw[Xa F]at h;exact .inr ⟨rfl,(XZ h).symm⟩
  .rw[XP (λz=>q z.symm)]at h;exact .inl ⟨q,h⟩
 have n:∀i:Nat,i≠p->(H.set p x)[i]?=H[i]? :=λi N=>XP (λz=>N z.symm);have G:(H.set p x)[p]?=some x:=Xa (by omega);refine⟨by simp[u],s.roOk.to (λ_ q=>q) ev.keepRo (λb h=>?_),λb h=>?_,s.roFr,?_,?_,?_,s.hidTo (· = ·) Yb (by rw[YT];omega) (λ_ _ _ _ _ _ _ q=>q) (λ_ _ _ _ _ _ _ q=>q) λj d y l k Q=>?_⟩
 rotate_left 5
 .rcases e j _ l with⟨q,l⟩|⟨rfl,m⟩
  .rw[n j q]at k;exact .inl ⟨j,y,rfl,l,k,id,λc q=>s.hidKeep l k (λz=>Yk w obj d (s.own j d y l k z).1) ev.keepRo q⟩
  .rw[G]at k;cases k;cases m;exact .inr ⟨XT _,E⟩
 .rw[YT];have:=s.roLt b h;omega
 .rw[YT];have:=s.frLt b h;omega
 .intro i b y g f r;rw[YT];rcases e i _ g with⟨q,g⟩|⟨rfl,m⟩
  .rw[n i q]at f;obtain⟨a,b,c⟩:=s.own i b y g f r;exact⟨by omega,b,c⟩
  .cases m;exact⟨by omega,λq=>by have:=s.roLt _ q;omega,λq=>by have:=s.frLt _ q;omega⟩
 .intro i j b y z g f r B M J;rcases e i _ g with⟨q,l⟩|⟨P,m⟩<;>rcases e j _ f with⟨q',k⟩|⟨ej,e2⟩
  .rw[n i q]at r;rw[n j q']at B;exact s.inj i j b y z l k r B M J
  .cases e2;rw[n i q]at r;have:=(s.own i _ y l r M).1;omega
  .cases m;rw[n j q']at B;have:=(s.own j _ z k B J).1;omega
  .rw[P,ej]
 .intro i y z g f;rcases e i _ g with⟨q,g⟩|⟨rfl,m⟩
  .rw[n i q]at f;refine(s.blk i y z g f).keep t ?_ ?_
   .rintro b rfl u;exact Yk w obj b (s.own i b z g f u).1
   .rintro b c rfl u;exact Yk w obj c (s.hid i b z c g f u).lt
  .rw[G]at f;cases f;subst m;exact O
def OpZ(P:Program)(o:Oper)(t:Nat)(cs:List A):Prop:=
 ∀(ro:Nat->Prop) (σ:Sig) (w:World) (a:Act),∃l:List Value,(execOp a.eval o).run P w=.ok (.value (.pointer (some ⟨w.heap.size,0,none⟩))) (w.alloc (.cells l.toArray t))/\LR ro σ w cs l/\ ∀v∈l,Qz v
theorem OpZ.alloc{P:Program}{o:Oper}{t:Nat}{z:Value}{v:A}{d:List A}(k:∀w,(zeroValue t).run P w=.ok z w)(h:ZR v z)(g:o.op=.alloc t:=by exact rfl)(hk:Yn v=true:=by exact rfl)(hcs:Yd v=d:=by exact rfl)(hpl:d.all Yr=true:=by exact rfl):
  OpZ P o t d:=by
 intro j σ w a;obtain⟨l,i,f⟩:=(h j σ w).cells hk;subst hcs;refine⟨l,?_,f,f.plain hpl⟩;generalize a.eval=ρ at*;have e:(newVar t z).run P w=.ok ⟨w.heap.size,0,none⟩ (w.alloc (.cells l.toArray t)):=by
  unfold newVar;rw[i];rfl
 simp only[execOp,g,Instr.alloc,Vm,k,Result.andThen,e];rfl
def OpZR(P:Program)(o:Oper)(e:Env)(H:Qd)(p:Nat)(x:A)(B:Blk):Prop:=
 ∀fr ro σ N a w,Rel fr ro σ H e N a w->∃v obj,(execOp a.eval o).run P w=.ok (.value v) (w.alloc obj)/\(∀c,Hid (w.alloc obj) B w.heap.size c->False)/\
  ∀σ',σ'[p]?=some (some w.heap.size)->Ext ro σ w ro σ' (w.alloc obj)->VR ro σ' (w.alloc obj) x v/\BR ro σ' (w.alloc obj) B (some w.heap.size)
theorem Qb2{P:Program}{l:List Oper}{i:Nat}{o:Oper}{rd:Option Nat}{R:Exit->Act->World->Prop}{Q:Exit->Act->World->Prop}{K:Act->World->Prop}{a:Act}{w:World}
  (E:l[i]?=some o)(h:wpL P rd l.toArray R [o] a w)(k:∀e a' w',R e a' w'->e=.normal/\a'.defers=a.defers)(m:∀v w',R .normal (a.put o.dst v) w'->K (a.put o.dst v) w'):
  wpOpIn (WF rd) 0 P l.toArray Q i K a w:=by
 unfold wpOpIn;have t:l.toArray[i]?=some o:=by simpa using E
 rw[t];simp only;unfold wpL wpListIn at h;split at h
 .rename_i u;rw[Vs u];obtain⟨j,h⟩:=h;refine⟨j,?_⟩;have g:=Qgv (by
   intro a' w' q;unfold wpListIn at q;exact(k _ _ _ q).2) h
  generalize(o.semAt (WF rd).round a.eval).run P w=res at*;cases res with
  |ok n w'=>
   cases n with
   |value v=>exact m _ _ g.1
   |skip=>exact m _ _ g.1
   |defer G=>
    exfalso;have:=(k _ _ _ g.1).2;have:=congrArg List.length this
    revert this
    cases o.dst<;>simp[Act.put]
   |enter f p=>
    refine⟨g.1,CallsIn.mono g.2 (λe s d=>?_)⟩;cases e with
    |returned v=>exact m _ _ d.1
    |panicked c=>have:=(k _ _ _ d).1;cases this
    |outgrown=>obtain⟨F,B,d⟩:=d;have:=(k _ _ _ d).1;cases this
   |row r p=>
    exact⟨g.1,RowsIn.mono g.2 (λ_ _ d=>m _ _ d.1)⟩
   |round l f z assign y=>
    refine⟨g.1,RoundIn.mono g.2 (λe s d=>?_)⟩;cases e with
    |returned v=>exact m _ _ d.1
    |panicked c=>have:=(k _ _ _ d).1;cases this
    |outgrown=>obtain⟨F,B,d⟩:=d;have:=(k _ _ _ d).1;cases this
   |_=>exact g.elim
  |halt x w'=>
   cases x with
   |panic v=>have:=(k _ _ _ g).1;cases this
   |_=>exact g.elim
 .rename_i u;rw[Vr u];obtain⟨j,h⟩:=h;refine⟨j,?_⟩;unfold wpListIn at h;exact m _ _ h
theorem Qjz{P:Program}{l:List Oper}{m:Nat}(s:∀i o,l[i]?=some o->∀j∈Qn o,j<i)(n:∀i o,m<i->l[i]?=some o->i-1∈Qn o){Q:Exit->Act->World->Prop}{rd:Option Nat}:
  ∀(d t:Nat) (L:Array Bool) (a:Act) (w:World),L.size=l.length->(∀i,i<l.length->(onL L i↔i<t))->unl L<=d->m<=t->t<=l.length->
   wpL P rd l.toArray Q (l.drop t) a w->wpAnyIn (WF rd) 0 P .any l.toArray Q d L a w:=by
 intro d
 induction d with
 |zero=>
  intro t L a w hsz hL hf hm ht h;have:t=l.length:=by
   rcases VB t l.length with q|q
   .have:=Qiq (L:=L) (i:=t) (by omega) (λz=>by have:=(hL t q).1 z;omega);omega
   .omega
  subst this;refine⟨List.eq_nil_iff_forall_not_mem.2 λi p=>?_,?_⟩
  .obtain⟨o,g,k,_⟩:=(QaF hsz).1 p;have e:=(XL.1 g).1;exact k ((hL i e).2 e)
  .rw[Xr]at h;exact h
 |succ d H=>
  intro t L a w hsz hL hf hm ht h;have B:∀i o,l[i]?=some o->¬onL L i->(∀j∈Qn o,onL L j)->i=t:=by
   intro i o g k y;have e:=(XL.1 g).1;have J:t<=i:=by
    rcases VB i t with q|q
    .exact absurd ((hL i e).2 q) k
    .exact q
   rcases VB t i with q|q
   .have:=(hL (i-1) (by omega)).1 (y _ (n i o (by omega) g));omega
   .omega
  rcases VB t l.length with f|f
  .have G:l[t]?=some l[t]:=XK f;have r:¬onL L t:=λq=>by have:=(hL t f).1 q;omega
   have F:t∈Region.ready .any l.toArray L:=by
    refine(QaF hsz).2 ⟨_,G,r,λj u=>?_⟩;have:=s t _ G j u;exact(hL j (by omega)).2 this
   refine⟨λq=>(by rw[q]at F;cases F),λi p=>?_⟩;obtain⟨o,g,k,y⟩:=(QaF hsz).1 p;obtain rfl:=B i o g k y;rw[Xp f]at h;obtain rfl:l[i]=o:=by rw[XK f]at g;exact XZ g
   unfold wpOpIn;rw[show l.toArray[i]?=some l[i]by rw[XG];exact g];simp only;unfold wpL wpListIn at h;have E:∀a w,wpL P rd l.toArray Q (l.drop (i+1)) a w->wpAnyIn (WF rd) 0 P .any l.toArray Q d (L.setIfInBounds i true) a w:=by
    intro a w q;have M:=QfR (L:=L) (i:=i) (by omega) r;refine H (i+1) _ a w (by simpa using hsz) (λj u=>?_) (by omega) (by omega) (by omega) q;rw[Jq (by omega),hL j u];omega
   split at h
   .rename_i x;rw[Vs x];exact Oper.wpIn_mono E h
   .rename_i x;rw[Vr x];exact⟨h.1,E _ _ h.2⟩
  .have:t=l.length:=by omega
   subst this;rw[Xr]at h;refine⟨λ_=>h,λi p=>?_⟩;obtain⟨o,g,k,_⟩:=(QaF hsz).1 p;have e:=(XL.1 g).1;exact absurd ((hL i e).2 e) k
def QlO(af ds:List Nat)(xs:List A)(env0 e:Env):Prop:=
 ∀s,(∃j x,af.contains j=true/\ds[j]?=some s/\xs[j]?=some x/\lk e s=x)\/lk e s=.any\/(ds.contains s=false/\lk e s=lk env0 s)
inductive Jm (P:Program) (N:Nat) (l:List Oper) (ds:List Nat) (xs:List A) (env0:Env) (hB hE:Nat) (i:Nat) (H H':Qd):Prop
 |mk (o:Oper) (e:Env) (d:Nat) (x:A) (ho:l[i]?=some o) (hd:o.dst=some d) (hx:xs[i]?=some x) (hdd:Qar hB hE H H'=true) (hs:Sb (Qn o) (Qgg l i) ds xs env0 e)
   (h:WO P H.length N l.toArray [o] e H (YR (up e d x) H')):Jm P N l ds xs env0 hB hE i H H'
 |unit (o:Oper) (e:Env) (ho:l[i]?=some o) (hd:o.dst=none) (hx:xs[i]?=some .any) (hdd:Qar hB hE H H'=true) (hs:Sb (Qn o) (Qgg l i) ds xs env0 e)
   (h:WO P H.length N l.toArray [o] e H (YR e H')):Jm P N l ds xs env0 hB hE i H H'
 |alloc (o:Oper) (d t p:Nat) (cs:List A) (ho:l[i]?=some o) (hd:o.dst=some d) (hg:o.guard=none) (hx:xs[i]?=some (.ptr p 0)) (hp:(Nat.ble hB p&&Nat.blt p hE)=true) (hdead:Qbm H[p]?=true)
   (hH:H.set p (.cells t cs)=H') (h:OpZ P o t cs) (hN:Nat.blt d N=true):Jm P N l ds xs env0 hB hE i H H'
 |row (o:Oper) (e:Env) (d p:Nat) (x:A) (B:Blk) (ho:l[i]?=some o) (hd:o.dst=some d) (hg:o.guard=none) (hx:xs[i]?=some x) (hp:(Nat.ble hB p&&Nat.blt p hE)=true) (hdead:Qbm H[p]?=true) (hlive:Qbm (some B)=false)
   (hH:H.set p B=H') (hs:Sb (Qn o) (Qgg l i) ds xs env0 e) (h:OpZR P o e H p x B) (hN:Nat.blt d N=true):Jm P N l ds xs env0 hB hE i H H'
 |val (o:Oper) (e:Env) (d:Nat) (x:A) (ho:l[i]?=some o) (hd:o.dst=some d) (hg:o.guard=none) (hx:xs[i]?=some x) (hN:Nat.blt d N=true) (he:QlO (Qn o) ds xs env0 e) (h:OpV P o e H x)
   (hH:H=H':=by rfl):Jm P N l ds xs env0 hB hE i H H'
 |woE (o:Oper) (e:Env) (d:Nat) (x:A) (ho:l[i]?=some o) (hd:o.dst=some d) (hx:xs[i]?=some x) (he:QlO (Qn o) ds xs env0 e) (hdd:Qar hB hE H H'=true) (h:WO P H.length N l.toArray [o] e H (YR (up e d x) H')):Jm P N l ds xs env0 hB hE i H H'
theorem Sb.rel{af bf f:List Nat}{xs:List A}{env0 e:Env}{ro:Nat->Prop}{σ:Sig}{w:World}{a:Act}(h:Sb af bf f xs env0 e)
  (i:∀j∈af,∀s x,f[j]?=some s->xs[j]?=some x->VR ro σ w x (a.tmps.getD s undef))
  (g:∀s,f.contains s=false->VR ro σ w (lk env0 s) (a.tmps.getD s undef))(hP:∀j s,bf.contains j=true->f[j]?=some s->VR ro σ w (lk env0 s) (a.tmps.getD s undef)):
  ∀s,VR ro σ w (lk e s) (a.tmps.getD s undef):=by
 intro s
 induction h with
 |nil=>exact trivial
 | @dep j s1 x1 r h1 h2 h3 _ ih=>
  unfold lk;cases d:Nat.beq s s1 with
  |false=>exact ih
  |true=>
   obtain rfl:=XQ d;exact i j (by simpa using h1) _ _ h2 h3
 | @old s1 x1 r h1 h2 _ ih=>
  unfold lk;cases d:Nat.beq s s1 with
  |false=>exact ih
  |true=>
   obtain rfl:=XQ d;subst h2;exact g _ h1
 | @pre j s1 x1 r h1 h2 h3 _ ih=>
  unfold lk;cases d:Nat.beq s s1 with
  |false=>exact ih
  |true=>
   obtain rfl:=XQ d;subst h3;exact hP j _ h1 h2
structure After (fr ro:Nat->Prop) (σ:Sig) (w:World) (hB hE:Nat) (H':Qd) (xs:List A) (i:Nat) (o:Oper) (a':Act) (w':World) (ro':Nat->Prop) (σ':Sig):Prop where
 val:∀x,xs[i]?=some x->match o.dst with
  |some d=>VR ro' σ' w' x (a'.tmps.getD d undef)
  |none=>x=.any
 sim:Sim fr ro' σ' H' w'
 ev:Qm fr ro w ro' w'
 ext:Ext ro σ w ro' σ' w'
 holes:QiZ hB hE σ' H'
 take:σ'.take hB=σ.take hB
theorem Jm.use{P:Program}{N:Nat}{l:List Oper}{ds:List Nat}{xs:List A}{env0:Env}{hB hE i:Nat}{H H':Qd}(hb:Jm P N l ds xs env0 hB hE i H H')
  {Q:Exit->Act->World->Prop}{K:Act->World->Prop}{fr ro:Nat->Prop}{σ:Sig}{a:Act}{w:World}{o:Oper}{rd:Option Nat}(O:l[i]?=some o)
  (f:Sim fr ro σ H w)(hN:a.tmps.size=N)(n:Qbz fr a.defers w)(af:QdL rd fr w)(hh:QiZ hB hE σ H)(hl:hE<=H.length)(al:hB<=hE)
  (hD:∀j∈Qn o,∀s x,ds[j]?=some s->xs[j]?=some x->VR ro σ w x (a.tmps.getD s undef))
  (hO:∀s,ds.contains s=false->VR ro σ w (lk env0 s) (a.tmps.getD s undef))(hP:∀j s,(Qgg l i).contains j=true->ds[j]?=some s->VR ro σ w (lk env0 s) (a.tmps.getD s undef))
  (hK:∀v w' ro' σ',After fr ro σ w hB hE H' xs i o (a.put o.dst v) w' ro' σ'->K (a.put o.dst v) w'):
  wpOpIn (WF rd) 0 P l.toArray Q i K a w:=by
 have aa:∀{e:Env} {H2:Qd} {E:Exit} {u:Act} {w':World},Qby H.length fr ro σ w N a.defers (YR e H2) E u w'->E=.normal/\u.defers=a.defers:=by
  rintro e H2 E u w' ⟨x,_,_,_,_,_,k,⟨rfl,_⟩,_,_,_,M,_⟩;refine⟨?_,M⟩;cases E<;>first|rfl|exact k.elim|cases k
 have ai:∀{σ':Sig} {w':World},Qm fr ro w ro w'->σ'.take H.length=σ.take H.length->True:=λ_ _=>trivial;have T:∀{e:Env} {u:Act} {w':World},Qby H.length fr ro σ w N a.defers (YR e H') .normal u w'->Qar hB hE H H'=true->
   ∃ro' σ',Sim fr ro' σ' H' w'/\Qm fr ro w ro' w'/\Ext ro σ w ro' σ' w'/\QiZ hB hE σ' H'/\σ'.take hB=σ.take hB/\ ∀s,VR ro' σ' w' (lk e s) (u.tmps.getD s undef):=by
  rintro e u w' ⟨_,aj,H2,ro',σ',ak,_,⟨_,rfl,rfl⟩,r',he,ht,_,ah⟩ F;have hσ:σ'=σ++σ'.drop H.length:=by
   conv=>lhs;rw[<- Xz H.length σ']
   rw[ht, <- f.len,X9]
  refine⟨ro',σ',r'.sim.frMono ah.sub,he,?_,?_,?_,r'.env⟩
  .rw[hσ];exact he.ext σ _
  .intro p k M h3;have:=hh p k M (QjA F k M h3);rw[hσ,XM (by rw[f.len];omega)];exact this
  .rw[hσ];exact QR (by rw[f.len];omega)
 cases hb with
 |woE r e d x g L X he F h=>
  obtain rfl:r=o:=XZ (g.symm.trans O);have hr:∀s,VR ro σ w (lk e s) (a.tmps.getD s undef):=λs=>by
   rcases he s with⟨j,x,k,M,h3,W⟩|W|⟨k,W⟩
   .rw[W];exact hD j (by simpa using k) s x M h3
   .rw[W];exact trivial
   .rw[W];exact hO s k
  refine Qb2 O (h rd fr ro σ a w ⟨f,hr,hN,n⟩ af) (λ_ _ _ q=>aa q) (λv w' q=>?_);obtain⟨ro',σ',g1,g2,J,g4,g5,g6⟩:=T q F;refine hK v w' ro' σ' ⟨λy V=>?_,g1,g2,J,g4,g5⟩;obtain rfl:=XZ (X.symm.trans V);have:=g6 d;unfold lk at this;rw[VE]at this;rw[L]at this⊢;exact this
 |mk r e d x g L X F hs h=>
  obtain rfl:r=o:=XZ (g.symm.trans O);refine Qb2 O (h rd fr ro σ a w ⟨f,hs.rel hD hO hP,hN,n⟩ af) (λ_ _ _ q=>aa q) (λv w' q=>?_);obtain⟨ro',σ',g1,g2,J,g4,g5,g6⟩:=T q F;refine hK v w' ro' σ' ⟨λy V=>?_,g1,g2,J,g4,g5⟩;obtain rfl:=XZ (X.symm.trans V);have:=g6 d;unfold lk at this;rw[VE]at this;rw[L]at this⊢;exact this
 |unit r e g L X F hs h=>
  obtain rfl:r=o:=XZ (g.symm.trans O);refine Qb2 O (h rd fr ro σ a w ⟨f,hs.rel hD hO hP,hN,n⟩ af) (λ_ _ _ q=>aa q) (λv w' q=>?_);obtain⟨ro',σ',g1,g2,J,g4,g5,g6⟩:=T q F;refine hK v w' ro' σ' ⟨λy V=>?_,g1,g2,J,g4,g5⟩;obtain rfl:=XZ (X.symm.trans V);rw[L]
 |val r e d x g L hg X Y he h hH=>
  obtain rfl:r=o:=XZ (g.symm.trans O);subst hH;have hr:Rel fr ro σ H e N a w:=by
   refine⟨f,λs=>?_,hN,n⟩;rcases he s with⟨j,x,k,M,h3,W⟩|W|⟨k,W⟩
   .rw[W];exact hD j (by simpa using k) s x M h3
   .rw[W];exact trivial
   .rw[W];exact hO s k
  obtain⟨v0,k,M⟩:=h fr ro σ N a w hr;have hw:Region.wanted r (yielded l.toArray a.tmps)=true:=by unfold Region.wanted;rw[hg]
  refine Qb2 (R:=λE u w'=>E=.normal/\u.defers=a.defers/\u=a.put r.dst v0/\w'=w) O (Qaa hw k ?_) (λ_ _ _ q=>⟨q.1,q.2.1⟩) (λv w' q=>?_)
  .unfold wpL wpListIn;refine⟨rfl,?_,rfl,rfl⟩;rw[L];rfl
  .obtain⟨_,_,q1,rfl⟩:=q;refine hK v _ ro σ ⟨λy V=>?_,f,Qm.refl _ _ _,⟨λ_ q=>q,λ_ _=>rfl,λ_ _ q=>q,λ_ _ q=>q⟩,hh,rfl⟩;obtain rfl:=XZ (X.symm.trans V);rw[q1,L];have ab:d<a.tmps.size:=by rw[hN];simpa using Y
   show VR ro σ w' x _;simpa[Act.put,Array.getD_eq_getD_getElem?,ab]using M
 |row r e d p x B g L hg X hp G hlive hH hs h Y=>
  obtain rfl:r=o:=XZ (g.symm.trans O);subst hH;simp only[XW]at hp;have ac:=XR hp.1;have ad:p<hE:=by simpa using hp.2
  have hσp:=hh p ac ad G;have hr:Rel fr ro σ H e N a w:=⟨f,hs.rel hD hO hP,hN,n⟩;obtain⟨v0,ag,k,M,h3⟩:=h fr ro σ N a w hr;have hw:Region.wanted r (yielded l.toArray a.tmps)=true:=by unfold Region.wanted;rw[hg]
  have ev:Qm fr ro w ro (w.alloc ag):=Qm.alloc _ f.roLt f.frLt;have ae:p<σ.length:=by rw[f.len];omega
  have m:Ext ro σ w ro (σ.set p (some w.heap.size)) (w.alloc ag):=⟨ev.sub,ev.keepRo,ev.shape,λj b q=>by
   rw[XP (λz=>by subst z;rw[hσp]at q;cases q)];exact q⟩
  obtain⟨g8,g9⟩:=h3 _ (Xa ae) m;refine Qb2 (R:=λE u w'=>E=.normal/\u.defers=a.defers/\u=a.put r.dst v0/\w'=w.alloc ag) O (Qaa hw k ?_) (λ_ _ _ q=>⟨q.1,q.2.1⟩) (λv w' q=>?_)
  .unfold wpL wpListIn;refine⟨rfl,?_,rfl,rfl⟩;rw[L];rfl
  .obtain⟨_,_,q1,rfl⟩:=q;refine hK v _ ro (σ.set p (some w.heap.size)) ⟨λy V=>?_,f.allocAt hσp g9 M,ev,m,λp' g1 g2 J=>?_,?_⟩
   .obtain rfl:=XZ (X.symm.trans V);rw[q1,L];have ab:d<a.tmps.size:=by rw[hN];simpa using Y
    show VR ro _ _ x _;simpa[Act.put,Array.getD_eq_getD_getElem?,ab]using g8
   .by_cases q:p'=p
    .subst q;rw[Xa (by omega),hlive]at J;cases J
    .rw[XP (λz=>q z.symm)]at J⊢;exact hh p' g1 g2 J
   .rw[List.take_set,List.set_eq_of_length_le];rw[Xy];omega
 |alloc r d t p cs g L hg X hp G hH h Y=>
  obtain rfl:r=o:=XZ (g.symm.trans O);subst hH;simp only[XW]at hp;have ac:=XR hp.1;have ad:p<hE:=by simpa using hp.2
  have hσp:=hh p ac ad G;obtain⟨lv,k,M,h3⟩:=h ro σ w a;have hw:Region.wanted r (yielded l.toArray a.tmps)=true:=by unfold Region.wanted;rw[hg]
  have ev:Qm fr ro w ro (w.alloc (.cells lv.toArray t)):=Qm.alloc _ f.roLt f.frLt;have ae:p<σ.length:=by rw[f.len];omega
  have m:Ext ro σ w ro (σ.set p (some w.heap.size)) (w.alloc (.cells lv.toArray t)):=⟨ev.sub,ev.keepRo,ev.shape,λj b q=>by
   rw[XP (λz=>by subst z;rw[hσp]at q;cases q)];exact q⟩
  refine Qb2 (R:=λE u w'=>E=.normal/\u.defers=a.defers/\u=a.put r.dst (.pointer (some ⟨w.heap.size,0,none⟩))/\w'=w.alloc (.cells lv.toArray t)) O (Qaa hw k ?_) (λ_ _ _ q=>⟨q.1,q.2.1⟩) (λv w' q=>?_)
  .unfold wpL wpListIn;refine⟨rfl,?_,rfl,rfl⟩;rw[L];rfl
  .obtain⟨_,_,q1,rfl⟩:=q;refine hK v _ ro (σ.set p (some w.heap.size)) ⟨λy V=>?_,f.allocAt hσp ⟨lv,Yu _ _,M.mono m,h3⟩,ev,m,λp' g1 g2 J=>?_,?_⟩
   .obtain rfl:=XZ (X.symm.trans V);rw[q1,L];have ab:d<a.tmps.size:=by rw[hN];simpa using Y
    refine⟨w.heap.size,Xa ae,?_⟩;simp[Act.put,Array.getD_eq_getD_getElem?,ab]
   .by_cases q:p'=p
    .subst q;rw[Xa (by omega)]at J;cases J
    .rw[XP (λz=>q z.symm)]at J⊢;exact hh p' g1 g2 J
   .rw[List.take_set,List.set_eq_of_length_le];rw[Xy];omega
def same(a b:List Nat):Bool:=a.all (b.contains ·)&&b.all (a.contains ·)
theorem Ql0{a b:List Nat}(h:same a b=true)(i:Nat):i∈a↔i∈b:=by
 unfold same at h;simp only[XW,Xs,List.contains_iff_mem]at h;exact⟨h.1 i,h.2 i⟩
structure QlR (l:List Oper) (m:Nat) (ds:List Nat) (hs:List Bool) (rq ms:List (List Nat)) (pl:List (List (Nat×Nat))) (N:Nat):Prop where
 len:m<=l.length
 dst:∀i o,i<m->l[i]?=some o->(∃d,o.dst=some d/\ds[i]?=some d/\d<N)\/o.dst=none
 dsl:ds.length=m
 nodup:∀(i j d:Nat),ds[i]?=some d->ds[j]?=some d->i=j
 back:∀i o,l[i]?=some o->∀j∈Qn o,j<i
 mid:∀o,l[m]?=some o->∀j,j<m->Qci l m j
 chain:∀i o,m<i->l[i]?=some o->i-1∈Qn o
 rqs:∀i o,i<m->l[i]?=some o->∀h∈rq.getD i [],h<m/\hs.getD h false=true/\(h∈Qn o\/ ∃j∈Qn o,j<m/\h∈rq.getD j [])
 ms0:ms.getD 0 []=[]
 full:∀st,st<ms.length->st+1=ms.length\/ ∃i,i<m/\hs.getD i false=true/\i∉ms.getD st []
 msh:∀st h,h∈ms.getD st []->h<m/\hs.getD h false=true
 pls:∀i st,i<m->st<ms.length->(∀h∈rq.getD i [],h∈ms.getD st [])->(hs.getD i false=true->i∉ms.getD st [])->(∀h∈ms.getD st [],¬Qci l h i)->
  ∃st',(st,st')∈pl.getD i []/\st'<ms.length/\if hs.getD i false then∀j,j∈ms.getD st' []↔j=i\/j∈ms.getD st []else st'=st
theorem QmV{α:Type}{l:List α}{i:Nat}{d x:α}(h:l[i]?=some x):l.getD i d=x:=by rw[VK,h];rfl
theorem Qhn{P:Program}{l:List Oper}{m:Nat}{Y:List Nat}{hs:List Bool}{rq ms:List (List Nat)}{pl:List (List (Nat×Nat))}{N h0 hB hE:Nat}{xs:List A}{env0:Env}{Hs:List Qd}{Hk:Qd}
  (ok:QlR l m Y hs rq ms pl N)(a4:xs.length=m)(bc:Hs.length=ms.length)(ay:h0<=hB)(aw:hB<=hE)(ao:∀H∈Hs,hE<=H.length)
  (ax:∀i p,i<m->p∈pl.getD i []->Jm P N l Y xs env0 hB hE i (Hs.getD p.1 []) (Hs.getD p.2 []))(a6:Hs.getD (ms.length-1) []=Hk)
  {fr ro0:Nat->Prop}{σ0:Sig}{w0:World}{rd:Option Nat}{ds0:List Deferred}{R:Exit->Act->World->Prop}
  (hk:∀ro σ a w,Rel fr ro σ Hk (Qas Y xs env0) N a w->Qm fr ro0 w0 ro w->σ.take h0=σ0.take h0->a.defers=ds0->wpL P rd l.toArray R (l.drop m) a w)(al:Qbz fr ds0 w0)(a8:QdL rd fr w0):
  ∀(f:Nat) (L:Array Bool) (a:Act) (w:World) (ro:Nat->Prop) (σ:Sig) (u:Nat),
   L.size=l.length->unl L<=f->(∀i,m<=i->¬onL L i)->u<ms.length->Sim fr ro σ (Hs.getD u []) w->a.tmps.size=N->a.defers=ds0->
   (∀(i d:Nat) (x:A),onL L i->Y[i]?=some d->xs[i]?=some x->VR ro σ w x (a.tmps.getD d undef))->(∀s,(∀j,Y[j]?=some s->¬onL L j)->VR ro σ w (lk env0 s) (a.tmps.getD s undef))->
   Qm fr ro0 w0 ro w->σ.take h0=σ0.take h0->QiZ hB hE σ (Hs.getD u [])->
   (∀i,i<m->onL L i->∀h∈rq.getD i [],onL L h)->(∀i,i<m->hs.getD i false=true->(onL L i↔i∈ms.getD u []))->
   (∀i o,onL L i->l[i]?=some o->∀j∈Qn o,onL L j)->
   wpAnyIn (WF rd) 0 P .any l.toArray R f L a w:=by
 have a5:∀u,u<ms.length->hE<=(Hs.getD u []).length:=by
  intro u h;have e:Hs[u]?=some Hs[u]:=XK (by omega);rw[QmV e];exact ao _ (Vd _)
 have fin:∀(f:Nat) (L:Array Bool) (a:Act) (w:World) (ro:Nat->Prop) (σ:Sig) (u:Nat),
   L.size=l.length->unl L<=f->(∀i,m<=i->¬onL L i)->u<ms.length->Sim fr ro σ (Hs.getD u []) w->a.tmps.size=N->a.defers=ds0->
   (∀(i d:Nat) (x:A),onL L i->Y[i]?=some d->xs[i]?=some x->VR ro σ w x (a.tmps.getD d undef))->(∀s,(∀j,Y[j]?=some s->¬onL L j)->VR ro σ w (lk env0 s) (a.tmps.getD s undef))->
   Qm fr ro0 w0 ro w->σ.take h0=σ0.take h0->
   (∀i,i<m->hs.getD i false=true->(onL L i↔i∈ms.getD u []))->(∀i,i<m->onL L i)->
   wpAnyIn (WF rd) 0 P .any l.toArray R f L a w:=by
  intro f L a w ro σ u hsz hu hsuf hst hsim hN hdef hD hE' hev htk hI2 r;have ai:u=ms.length-1:=by
   rcases ok.full u hst with q|⟨i,Q,h2,h3⟩
   .omega
   .exact absurd ((hI2 i Q h2).1 (r i Q)) h3
  rw[ai,a6]at hsim;refine Qjz ok.back ok.chain f m L a w hsz (λi hi=>⟨λq=>?_,λq=>r i q⟩) hu (XT _) ok.len ?_
  .rcases VB i m with z|z
   .exact z
   .exact absurd q (hsuf i z)
  .have hr:Rel fr ro σ Hk (Qas Y xs env0) N a w:=by
    refine⟨hsim,λs=>?_,hN,by rw[hdef];exact al.keep hev⟩;rcases Ql9 (env0:=env0) (by rw[ok.dsl,a4]) s with⟨j,x,Q,h2,h3⟩|⟨Q,h2⟩
    .rw[h3];have g:j<m:=by have:=(XL.1 Q).1;rw[ok.dsl]at this;exact this
     exact hD j s x (r j g) Q h2
    .rw[h2];exact hE' s (λj q=>absurd (VG q) (by simpa using Q))
   exact hk ro σ a w hr hev htk hdef
 intro f
 induction f with
 |zero=>
  intro L a w ro σ u hsz hu hsuf hst hsim hN hdef hD hE' hev htk hho hI1 hI2 hcl;refine fin 0 L a w ro σ u hsz hu hsuf hst hsim hN hdef hD hE' hev htk hI2 (λi hi=>?_);by_cases q:onL L i
  .exact q
  .have:=Qiq (L:=L) (i:=i) (by have:=ok.len;omega) q;omega
 |succ f ih=>
  intro L a w ro σ u hsz hu hsuf hst hsim hN hdef hD hE' hev htk hho hI1 hI2 hcl;by_cases r:∀i,i<m->onL L i
  .exact fin (f+1) L a w ro σ u hsz hu hsuf hst hsim hN hdef hD hE' hev htk hI2 r
  .have a7:∃i,i<m/\ ¬onL L i:=by
    refine Classical.byContradiction λq=>r λi hi=>Classical.byContradiction λz=>q ⟨i,hi,z⟩
   obtain⟨n,hn,aj⟩:=a7;obtain⟨i0,Q,h2,h3⟩:=least (p:=λi=>¬onL L i) (λi=>Classical.em _) n aj;have bb:=ok.len;have ag:l[i0]?=some l[i0]:=XK (by omega);have hr:i0∈Region.ready .any l.toArray L:=(QaF hsz).2 ⟨_,ag,h2,λj g=>Classical.byContradiction λz=>h3 j (ok.back i0 _ ag j g) z⟩;refine⟨λq=>(by rw[q]at hr;cases hr),λi hi=>?_⟩;obtain⟨o,W,aa,M⟩:=(QaF hsz).1 hi;have E:i<m:=by
    rcases VB i m with q|q
    .exact q
    .exfalso;rcases VB m i with z|z
     .exact hsuf (i-1) (by omega) (M _ (ok.chain i o z W))
     .have:i=m:=by omega
      subst this;have a3:∀j,Qci l i j->onL L j:=by
       intro j g
       induction g with
       |one t g=>rw[W]at t;cases t;exact M _ g
       |step _ t g ihr=>exact hcl _ _ ihr t _ g
      exact aj (a3 n (ok.mid o W n hn))
   have ak:∀h∈rq.getD i [],onL L h:=by
    intro h V;obtain⟨_,_,q|⟨j,q1,q2,q3⟩⟩:=ok.rqs i o E W h V
    .exact M h q
    .exact hI1 j q2 (M j q1) h q3
   obtain⟨a0,aq,ar,G⟩:=ok.pls i u E hst (λh V=>by
    obtain⟨q1,q2,_⟩:=ok.rqs i o E W h V;exact(hI2 h q1 q2).1 (ak h V)) (λq z=>aa ((hI2 i E q).2 z)) (λh V hR=>by
    obtain⟨q1,q2⟩:=ok.msh u h V;have av:onL L h:=(hI2 h q1 q2).2 V;have am:∀j,Qci l h j->onL L j:=by
     intro j g
     induction g with
     |one t g=>exact hcl _ _ av t _ g
     |step _ t g ihr=>exact hcl _ _ ihr t _ g
    exact aa (am i hR))
   have hb:=ax i _ E aq;refine hb.use W hsim hN (by rw[hdef];exact al.keep hev) (a8.to hev λ_ q=>q) hho (a5 u hst) aw (λj g s x q1 q2=>hD j s x (M j g) q1 q2) (λs Q=>hE' s (λj q=>absurd (VG q) (by simpa using Q))) (λj s Q h2=>hE' s (λj' q q'=>?_)) ?_
   .obtain rfl:=ok.nodup j' j s q h2;have g:=Xd.1 (List.contains_iff_mem.1 Q);cases ae:l[j']? with
    |none=>rw[ae]at g;simp at g
    |some oj=>
     rw[ae]at g;exact aa (hcl j' oj q' ae i (by simpa using g.2))
   intro v w' a2 σ' af;have ac:=af.ext;have ab:∀s,(∀d,o.dst=some d->s≠d)->(a.put o.dst v).tmps.getD s undef=a.tmps.getD s undef:=by
    intro s au;cases X:o.dst with
    |none=>rfl
    |some d=>
     simp only[Act.put,Array.getD_eq_getD_getElem?,Ve];rw[Vr (λq=>au d X q.symm)]
   have ad:(a.put o.dst v).tmps.size=N:=by
    cases X:o.dst with
    |none=>simpa[Act.put]using hN
    |some d=>simpa[Act.put]using hN
   have a1:(a.put o.dst v).defers=ds0:=by
    cases X:o.dst with
    |none=>simpa[Act.put]using hdef
    |some d=>simpa[Act.put]using hdef
   have ba:=QfR (L:=L) (i:=i) (by omega) aa;have B:i<L.size:=by omega
   have az:∀s j,Y[j]?=some s->j≠i->∀d,o.dst=some d->s≠d:=by
    intro s j g F d X q;subst q;rcases ok.dst i o E W with⟨d',k,T,ah⟩|k
    .rw[X]at k;cases k;exact F (ok.nodup j i _ g T)
    .rw[X]at k;cases k
   refine ih _ _ w' a2 σ' a0 (by simpa using hsz) (by omega) (λj g q=>?_) ar af.sim ad a1 ?_ ?_ (hev.trans af.ev) ?_ af.holes ?_ ?_ ?_
   .rcases(Jq B).1 q with z|z
    .omega
    .exact hsuf j g z
   .intro j s y g O hy;by_cases F:j=i
    .subst F;have hv:=af.val y hy;rcases ok.dst j o E W with⟨d',k,T,ah⟩|k
     .obtain rfl:s=d':=XZ (O.symm.trans T);simp only[k]at hv⊢;exact hv
     .simp only[k]at hv;subst hv;exact trivial
    .rw[ab s (az s j O F)];rcases(Jq B).1 g with z|z
     .exact absurd z F
     .exact(hD j s y z O hy).mono ac
   .intro s O;have a9:∀d,o.dst=some d->s≠d:=by
     rintro d X rfl;rcases ok.dst i o E W with⟨d',k,T,ah⟩|k
     .rw[X]at k;cases k;exact O i T ((Jq B).2 (.inl rfl))
     .rw[X]at k;cases k
    rw[ab s a9];exact(hE' s (λj q z=>O j q ((Jq B).2 (.inr z)))).mono ac
   .rw[<- htk];have:=congrArg (List.take h0) af.take;rw[List.take_take,List.take_take,XB ay]at this;exact this
   .intro j g J h V;refine(Jq B).2 (.inr ?_);rcases(Jq B).1 J with z|z
    .subst z;exact ak h V
    .exact hI1 j g z h V
   .intro j g J;rw[Jq B];cases q:hs.getD i false with
    |false=>
     have F:j≠i:=by rintro rfl;rw[q]at J;cases J
     rw[q]at G;simp only[Xi,if_false]at G;simp only[F,false_or];rw[G];exact hI2 j g J
    |true=>
     rw[q]at G;simp only[if_true]at G;rw[G j,hI2 j g J]
   .intro j o' g t j' an;rcases(Jq B).1 g with z|z
    .subst z;rw[W]at t;cases t;exact(Jq B).2 (.inr (M _ an))
    .exact(Jq B).2 (.inr (hcl j o' z t j' an))
def QdB.dstB(N:Nat):Nat->List Oper->List Nat->Bool
 |_,_,[]=>true
 |i,o::r,d::ds=>(match o.dst with|some d'=>Nat.beq d' d&&Nat.blt d N|none=>true)&&QdB.dstB N (i+1) r ds
 |_,[],_::_=>false
def QdB.rqB(m:Nat)(hs:List Bool)(rq:List (List Nat)):Nat->List Oper->Bool
 |_,[]=>true
 |i,o::r=>(rq.getD i []).all (λh=>Nat.blt h m&&hs.getD h false&&((Qn o).contains h||(Qn o).any λj=>Nat.blt j m&&(rq.getD j []).contains h))&&QdB.rqB m hs rq (i+1) r
def QhI(l:List Oper)(h:Nat):List Nat:=match l[h]? with
 |some o=>Qei l h (Qn o)
 |none=>[]
theorem Qja{l:List Oper}{h j:Nat}(q:j∈QhI l h):Qci l h j:=by
 unfold QhI at q;cases a:l[h]? with
 |none=>rw[a]at q;cases q
 |some o=>rw[a]at q;exact Qb1 h (Qn o) (λi d=>.one a d) j q
def QdB.plB(l:List Oper)(m:Nat)(hs:List Bool)(rq ms:List (List Nat))(pl:List (List (Nat×Nat))):Bool:=
 (List.range m).all λi=>(List.range ms.length).all λst=>((ms.getD st []).any λh=>(QhI l h).contains i)|| !(rq.getD i []).all ((ms.getD st []).contains ·)||(hs.getD i false&&(ms.getD st []).contains i)||
  (pl.getD i []).any λp=>Nat.beq p.1 st&&Nat.blt p.2 ms.length&&(bif hs.getD i false then same (ms.getD p.2 []) (i::ms.getD st [])else Nat.beq p.2 st)
def QdB(l:List Oper)(m N:Nat)(ds:List Nat)(hs:List Bool)(rq ms:List (List Nat))(pl:List (List (Nat×Nat))):Bool:=
 Nat.ble m l.length&&(ds.length==m)&&QdB.dstB N 0 l ds&&drawChk.nodupB ds&&drawChk.goB l m 0 l&&QdB.rqB m hs rq 0 l&&(ms.getD 0 []).isEmpty&&Nat.blt 0 ms.length
 &&((List.range ms.length).all λst=>Nat.beq (st+1) ms.length||(List.range m).any λi=>hs.getD i false&& !(ms.getD st []).contains i)&&QdB.plB l m hs rq ms pl&&(List.range ms.length).all λst=>(ms.getD st []).all λh=>Nat.blt h m&&hs.getD h false
theorem QfE{N:Nat}:∀(l:List Oper) (a:List Nat) (b:Nat),QdB.dstB N b l a=true->∀(i d:Nat) (o:Oper),l[i]?=some o->a[i]?=some d->
  (o.dst=some d/\d<N)\/o.dst=none:=by
 intro l
 induction l with
 |nil=>intro a b h i d o f;simp at f
 |cons x r k=>
  intro a b h i d o f g;cases a with
  |nil=>simp at g
  |cons y a=>
   simp only[QdB.dstB,XW]at h;cases i with
   |zero=>
    simp at f g;subst f;subst g;have h:=h.1;split at h
    .rename_i m j;simp only[XW]at h;have e:=XQ h.1;subst e;exact .inl ⟨j,by simpa using h.2⟩
    .rename_i j;exact .inr j
   |succ i=>
    have:=k a (b+1) h.2 i d o (by simpa using f) (by simpa using g);exact this
theorem Qkp{m:Nat}{e:List Bool}{d:List (List Nat)}:∀(l:List Oper) (b:Nat),QdB.rqB m e d b l=true->∀(i:Nat) (o:Oper),l[i]?=some o->
  ∀h∈d.getD (b+i) [],h<m/\e.getD h false=true/\(h∈Qn o\/ ∃j∈Qn o,j<m/\h∈d.getD j []):=by
 intro l
 induction l with
 |nil=>intro b h i o a;simp at a
 |cons x r g=>
  intro b h i o a;simp only[QdB.rqB,XW]at h;cases i with
  |zero=>
   simp at a;subst a;intro k s;have:=Xs.1 h.1 k (by simpa using s);simp only[XW,Bool.or_eq_true,List.contains_iff_mem,Xt]at this;obtain⟨⟨w,p⟩,t⟩:=this;refine⟨by simpa using w,p,?_⟩;rcases t with q|⟨j,u,f,n⟩
   .exact .inl q
   .exact .inr ⟨j,u,by simpa using f,n⟩
  |succ i=>
   have:=g (b+1) h.2 i o (by simpa using a);rw[show b+1+i=b+(i+1)by omega]at this;exact this
theorem Qll{l:List Oper}{m N:Nat}{u:List Nat}{E:List Bool}{F s:List (List Nat)}{J:List (List (Nat×Nat))}(h:QdB l m N u E F s J=true):
  QlR l m u E F s J N/\0<s.length:=by
 unfold QdB at h;simp only[XW]at h;obtain⟨⟨⟨⟨⟨⟨⟨⟨⟨⟨h1,h2⟩,R⟩,P⟩,Q⟩,M⟩,T⟩,L⟩,X⟩,y⟩,H⟩:=h;have G:m<=l.length:=XR h1;have B:u.length=m:=by simpa using h2
 have g:=QgT l 0 Q;refine⟨⟨G,λi o t d=>?_,B,Qdt P,λi o d=>by have:=(g i o d).1;simpa using this,λo d j hj=>Qb1 m (Qn o) (λi t=>.one d t) j ((g m o d).2.1 (by omega) j hj),
  λi o t d=>by have:=(g i o d).2.2 (by omega);simpa using this,λi o t d h k=>by have:=Qkp l 0 M i o d h (by simpa using k);exact this,
  by simpa using T,λn a=>?_,λn h k=>?_,λi n t a O W V=>?_⟩,by simpa using L⟩
 .have w:u[i]?=some u[i]:=XK (by omega);rcases QfE l u 0 R i _ o d w with⟨r,x⟩|r
  .exact .inl ⟨_,r,w,x⟩
  .exact .inr r
 .have:=Xs.1 X n (List.mem_range.2 a);simp only[Bool.or_eq_true,Xt,XW,Bool.not_eq_true']at this;rcases this with q|⟨i,r,x,f⟩
  .exact .inl (XQ q)
  .exact .inr ⟨i,List.mem_range.1 r,x,λz=>by rw[List.contains_iff_mem.2 z]at f;cases f⟩
 .have a:n<s.length:=by
   rcases VB n s.length with q|q
   .exact q
   .rw[VK,XO q]at k;cases k
  have:=Xs.1 (Xs.1 H n (List.mem_range.2 a)) h k;simp only[XW]at this;exact⟨by simpa using this.1,this.2⟩
 .have:=Xs.1 (Xs.1 y i (List.mem_range.2 t)) n (List.mem_range.2 a);simp only[Bool.or_eq_true,Bool.not_eq_true']at this;rcases this with((q|q)|q)|q
  .exfalso;obtain⟨h,k,q⟩:=Xt.1 q;exact V h k (Qja (List.contains_iff_mem.1 q))
  .exfalso;have:((F.getD i []).all ((s.getD n []).contains ·))=true:=Xs.2 λh k=>List.contains_iff_mem.2 (O h k);rw[this]at q;cases q
  .simp only[XW]at q;exact absurd (List.contains_iff_mem.1 q.2) (W q.1)
  .obtain⟨p,Y,q⟩:=Xt.1 q;simp only[XW]at q;obtain⟨⟨r,x⟩,f⟩:=q;have e:=XQ r;refine⟨p.2,by rw[<- e];exact Y,by simpa using x,?_⟩;cases z:E.getD i false with
   |true=>
    rw[z]at f;simp only[Vo]at f;simp only[if_true];intro j;rw[Ql0 f j,X6]
   |false=>
    rw[z]at f;simp only[Vp]at f;simp only[Xi,if_false];exact XQ f
inductive Qgp (P:Program) (N:Nat) (l:List Oper) (ds:List Nat) (xs:List A) (env0:Env) (hB hE:Nat):Nat->List (List (Qd×Qd))->Prop
 |nil {i:Nat}:Qgp P N l ds xs env0 hB hE i []
 |cons {i:Nat} {s:List (Qd×Qd)} {r:List (List (Qd×Qd))} (h:∀p∈s,Jm P N l ds xs env0 hB hE i p.1 p.2) (k:Qgp P N l ds xs env0 hB hE (i+1) r):Qgp P N l ds xs env0 hB hE i (s::r)
theorem Qgp.get{P:Program}{N:Nat}{l:List Oper}{e:List Nat}{xs:List A}{env0:Env}{hB hE b:Nat}{d:List (List (Qd×Qd))}(h:Qgp P N l e xs env0 hB hE b d):
  ∀(i:Nat) (s:List (Qd×Qd)),d[i]?=some s->∀p∈s,Jm P N l e xs env0 hB hE (b+i) p.1 p.2:=by
 induction h with
 |nil=>intro i s h;simp at h
 | @cons b s0 r h _ ih=>
  intro i s a;cases i with
  |zero=>simp at a;subst a;exact h
  |succ i=>
   have:=ih i s (by simpa using a);rw[show b+1+i=b+(i+1)by omega]at this;exact this
theorem Qc{P:Program}{N:Nat}{l:List Oper}{a:List Nat}{xs:List A}{env0:Env}{hB hE i:Nat}:∀p∈([]:List (Qd×Qd)),Jm P N l a xs env0 hB hE i p.1 p.2:=by
 intro p d;cases d
theorem Qb{P:Program}{N:Nat}{l:List Oper}{a:List Nat}{xs:List A}{env0:Env}{hB hE i:Nat}{H H':Qd}{r:List (Qd×Qd)}(h:Jm P N l a xs env0 hB hE i H H')
  (k:∀p∈r,Jm P N l a xs env0 hB hE i p.1 p.2):∀p∈(H,H')::r,Jm P N l a xs env0 hB hE i p.1 p.2:=by
 intro p d;rcases X6.1 d with rfl|q
 .exact h
 .exact k p q
theorem QfV{P:Program}{h0 N:Nat}{id:Nat}{l:List Oper}{env:Env}{H:Qd}{fr ro:Nat->Prop}{σ:Sig}{a:Act}{w:World}{rd:Option Nat}{R:Exit->Act->World->Prop}(m c:Nat)(ds:List Nat)(hs:List Bool)(rq T:List (List Nat))(O:List (List (Nat×Nat)))(xs:List A)(Hs:List Qd)(Hk:Qd)
  (hm:P.follows .mixedOrders=true)(hc:QdB l m N ds hs rq T O=true)(aa:Nat.beq xs.length m=true)(W:Nat.beq Hs.length T.length=true)(ag:Nat.ble h0 H.length=true)
  (hh:Hs.all (λX=>Nat.ble (H.length+c) X.length)=true)(Y:Hs[0]?=some (H++List.replicate c .dead))(ab:Hs.getD (T.length-1) []=Hk)
  (af:Qgp P N l ds xs env H.length (H.length+c) 0 (O.map λq=>q.map λp=>(Hs.getD p.1 [],Hs.getD p.2 [])))(ac:Nat.beq O.length m=true)
  (r:Rel fr ro σ H env N a w)(ad:QdL rd fr w)
  (hk:∀ro' σ' a' w',Rel fr ro' σ' Hk (Qas ds xs env) N a' w'->Qm fr ro w ro' w'->σ'.take h0=σ.take h0->a'.defers=a.defers->wpL P rd l.toArray R (l.drop m) a' w'):(Code.region id l.toArray true).wpIn (WF rd) 0 P R a w:=by
 obtain⟨ok,J⟩:=Qll hc;have F:=XQ aa;have G:=XQ W;have ah:=XQ ac;have M:Qm fr ro w ro {w with drawn:=w.drawn+1}:=⟨λ_ q=>q,λ_ _=>rfl,λ_ _=>rfl,XT _,λ_ _ q=>q,rfl,rfl,rfl,Nat.le_succ _⟩;have u:Ext ro σ w ro (σ++List.replicate c none) {w with drawn:=w.drawn+1}:=M.ext σ _;have ae:=r.sim.len;have E:Hs.getD 0 []=H++List.replicate c .dead:=QmV Y;have h:∀(i:Nat) (s:Option Nat) (x:Blk),(σ++List.replicate c none)[i]?=some s->(H++List.replicate c Blk.dead)[i]?=some x->(σ[i]?=some s/\H[i]?=some x)\/(s=none/\x=.dead):=by
  intro i s x n k;rcases VB i σ.length with q|q
  .rw[XM q]at n;rw[XM (by omega)]at k;exact .inl ⟨n,k⟩
  .rw[XN q]at n;rw[XN (by omega)]at k;have a1:=VG n;have a2:=VG k;exact .inr ⟨(List.mem_replicate.1 a1).2,(List.mem_replicate.1 a2).2⟩
 have L:Sim fr ro (σ++List.replicate c none) (H++List.replicate c .dead) {w with drawn:=w.drawn+1}:=by
  refine⟨by simp[ae],r.sim.roOk.to (λ_ q=>q) (λ_ _=>rfl) r.sim.roLt,r.sim.frLt,r.sim.roFr,?_,?_,?_,
   r.sim.hidTo (· = ·) Yb (XT _) (λ_ _ _ _ _ _ _ q=>q) (λ_ _ _ _ _ _ _ q=>q) λj d y g1 g2 g3=>.inl ?_⟩
  rotate_left 3
  .rcases h j _ _ g1 g2 with⟨g,t⟩|⟨g,_⟩
   .exact⟨j,y,rfl,g,t,(λz=>z),λc q=>q⟩
   .cases g
  .intro i b blk n k Q;rcases h i _ _ n k with⟨g,t⟩|⟨g,_⟩
   .exact r.sim.own i b blk g t Q
   .cases g
  .intro i j b x y n k Q h4 h5 h6;rcases h i _ _ n Q with⟨g,t⟩|⟨g,_⟩
   .rcases h j _ _ k h4 with⟨V,q4⟩|⟨V,_⟩
    .exact r.sim.inj i j b x y g V t q4 h5 h6
    .cases V
   .cases g
  .intro i s x n k;rcases h i _ _ n k with⟨g,t⟩|⟨g,t⟩
   .exact BR.keep u (λb hb _=>rfl) (r.sim.blk i s x g t) (λ_ _ _ _=>rfl)
   .subst t;exact trivial
 have f:∀i,¬onL (Array.replicate l.length false) i:=by
  intro i q;unfold onL at q;rw[Array.getElem?_replicate]at q;split at q<;>simp at q
 have B:=XR ag;refine wpIn_region_any hm ?_;rw[List.size_toArray];refine Qhn ok F G B (Nat.le_add_right _ _) (λX hX=>XR (Xs.1 hh X hX)) ?_ ab (ro0:=ro) (σ0:=σ) (w0:=w) (ds0:=a.defers) hk r.defers ad
  l.length _ a _ ro (σ++List.replicate c none) 0 (by simp) ?_ (λi _=>f i) J (by rw[E];exact L) r.size rfl (λi d x q=>absurd q (f i)) (λs _=>(r.env s).mono u) M (QR (by omega)) ?_
  (λi _ q=>absurd q (f i)) (λi _ _=>⟨λq=>absurd q (f i),λq=>by rw[ok.ms0]at q;cases q⟩) (λi o q=>absurd q (f i))
 .intro i p hi hp;have e:(O.map λq=>q.map λp=>(Hs.getD p.1 [],Hs.getD p.2 []))[i]?=some ((O.getD i []).map λp=>(Hs.getD p.1 [],Hs.getD p.2 [])):=by
   rw[Xo,XK (by omega),VK,XK (by omega)];rfl
  have:=af.get i _ e _ (Xe.2 ⟨p,hp,rfl⟩);simpa using this
 .unfold unl;simp[List.countP_replicate]
 .intro p n k Q;rw[XN (by omega),List.getElem?_replicate,Vs (by omega)]
theorem QX{P:Program}{h0 N:Nat}{id:Nat}{l:List Oper}{env:Env}{H:Qd}{Q:QG}(m c:Nat)(g:List Nat)(y:List Bool)(x f:List (List Nat))(h:List (List (Nat×Nat)))(xs:List A)(Hs:List Qd)(Hk:Qd)
  (G:P.follows .mixedOrders=true)(B:QdB l m N g y x f h=true)(n:Nat.beq xs.length m=true)(j:Nat.beq Hs.length f.length=true)(u:Nat.ble h0 H.length=true)
  (F:Hs.all (λX=>Nat.ble (H.length+c) X.length)=true)(k:Hs[0]?=some (H++List.replicate c .dead))(s:Hs.getD (f.length-1) []=Hk)
  (t:Qgp P N l g xs env H.length (H.length+c) 0 (h.map λq=>q.map λp=>(Hs.getD p.1 [],Hs.getD p.2 [])))(i:Nat.beq h.length m=true)
  (E:WO P h0 N l.toArray (l.drop m) (Qas g xs env) Hk Q):TC P h0 N (.region id l.toArray true) env H Q:=by
 intro z J L σ a w r hrd;refine Code.wpIn_mono (λe a w q=>Qby.postW q) (QfV m c g y x f h xs Hs Hk G B n j u F k s t i r hrd λro' σ' a' w' hr hev htk hdf=>?_);have d:=E z J ro' σ' a' w' hr (hrd.to hev λ_ q=>q);rw[hdf]at d;exact Yo (λe a w q=>q.step hev htk) _ _ _ d
def draw0(l:List Oper)(m N:Nat)(ds:List Nat):Bool:=Nat.ble m l.length&&(ds.length==m)&&QdB.dstB N 0 l ds&&drawChk.nodupB ds&&drawChk.goB l m 0 l
inductive Oq (P:Program) (N:Nat) (l:List Oper) (ds:List Nat) (xs:List A) (env0:Env) (H:Qd):Nat->Nat->Prop
 |n {i:Nat}:Oq P N l ds xs env0 H i 0
 |c {i c:Nat} (h:Jm P N l ds xs env0 H.length H.length i H H) (k:Oq P N l ds xs env0 H (i+1) c):Oq P N l ds xs env0 H i (c+1)
theorem Oq.get{P:Program}{N:Nat}{l:List Oper}{a:List Nat}{xs:List A}{env0:Env}{H:Qd}{b c:Nat}(h:Oq P N l a xs env0 H b c):∀i,i<c->Jm P N l a xs env0 H.length H.length (b+i) H H:=by
 induction h with
 |n=>intro i d;omega
 | @c b c h _ ih=>
  intro i d;cases i with
  |zero=>exact h
  |succ i=>
   have:=ih i (by omega);rw[show b+1+i=b+(i+1)by omega]at this;exact this
theorem Qlm{l:List Oper}{m N:Nat}{f:List Nat}(h:draw0 l m N f=true):QlR l m f [] [] [[]] (List.replicate m [(0,0)]) N:=by
 unfold draw0 at h;simp only[XW]at h;obtain⟨⟨⟨⟨t,u⟩,B⟩,x⟩,z⟩:=h;have q:m<=l.length:=XR t;have p:f.length=m:=by simpa using u
 have g:=QgT l 0 z;refine⟨q,λi o e d=>?_,p,Qdt x,λi o d=>by have:=(g i o d).1;simpa using this,λo d j y=>Qb1 m (Qn o) (λi e=>.one d e) j ((g m o d).2.1 (by omega) j y),
  λi o e d=>by have:=(g i o d).2.2 (by omega);simpa using this,λi o e d h r=>by simp at r,rfl,λn a=>.inl (by simp at a;simp[a]),λn h r=>by cases n<;>simp at r,λi n e a _ _ _=>?_⟩
 .have k:f[i]?=some f[i]:=XK (by omega);rcases QfE l f 0 B i _ o d k with⟨s,w⟩|s
  .exact .inl ⟨_,s,k,w⟩
  .exact .inr s
 .have:n=0:=by simp at a;exact a
  subst this;refine⟨0,?_,by simp,by simp⟩;rw[VK,List.getElem?_replicate,Vs e];exact VA.2 rfl
theorem QfW{P:Program}{h0 N:Nat}{id:Nat}{l:List Oper}{env:Env}{H:Qd}{fr ro:Nat->Prop}{σ:Sig}{a:Act}{w:World}{rd:Option Nat}{R:Exit->Act->World->Prop}(m:Nat)(y:List Nat)(xs:List A)
  (G:P.follows .mixedOrders=true)(E:Go.Sw.draw0 l m N y=true)(k:Nat.beq xs.length m=true)(u:Nat.ble h0 H.length=true)
  (t:Oq P N l y xs env H 0 m)(r:Rel fr ro σ H env N a w)(n:QdL rd fr w)
  (F:∀ro' σ' a' w',Rel fr ro' σ' H (Qas y xs env) N a' w'->Qm fr ro w ro' w'->σ'.take h0=σ.take h0->a'.defers=a.defers->wpL P rd l.toArray R (l.drop m) a' w'):(Code.region id l.toArray true).wpIn (WF rd) 0 P R a w:=by
 have ok:=Qlm E;have j:=XQ k;have h:Qm fr ro w ro {w with drawn:=w.drawn+1}:=⟨λ_ q=>q,λ_ _=>rfl,λ_ _=>rfl,XT _,λ_ _ q=>q,rfl,rfl,rfl,Nat.le_succ _⟩;have f:Ext ro σ w ro σ {w with drawn:=w.drawn+1}:=h.ext0 σ;have g:Sim fr ro σ H {w with drawn:=w.drawn+1}:=r.sim.heap rfl;have e:∀i,¬onL (Array.replicate l.length false) i:=by
  intro i q;unfold onL at q;rw[Array.getElem?_replicate]at q;split at q<;>simp at q
 refine wpIn_region_any G ?_;rw[List.size_toArray];refine Qhn (hB:=H.length) (hE:=H.length) (Hs:=[H]) (Hk:=H) ok j rfl (XR u) (XT _) (λX hX=>by rw[VA.1 hX];exact XT _) ?_ rfl (ro0:=ro) (σ0:=σ) (w0:=w) (ds0:=a.defers) F r.defers n
  l.length _ a _ ro σ 0 (by simp) ?_ (λi _=>e i) (by simp) g r.size rfl (λi d x q=>absurd q (e i)) (λs _=>(r.env s).mono f) h rfl (λp L J=>by omega)
  (λi _ q=>absurd q (e i)) (λi _ _=>⟨λq=>absurd q (e i),λq=>by cases q⟩) (λi o q=>absurd q (e i))
 .intro i p z B;rw[VK,List.getElem?_replicate,Vs z]at B;obtain rfl:=VA.1 B;have:=t.get i z;rw[Xw]at this;exact this
 .unfold unl;simp[List.countP_replicate]
theorem TC.draw0{P:Program}{h0 N:Nat}{id:Nat}{l:List Oper}{env:Env}{H:Qd}{Q:QG}(m:Nat)(f:List Nat)(xs:List A)
  (s:P.follows .mixedOrders=true)(n:Go.Sw.draw0 l m N f=true)(g:Nat.beq xs.length m=true)(i:Nat.ble h0 H.length=true)
  (h:Oq P N l f xs env H 0 m)(p:WO P h0 N l.toArray (l.drop m) (Qas f xs env) H Q):TC P h0 N (.region id l.toArray true) env H Q:=by
 intro j k t σ a w r hrd;refine Code.wpIn_mono (λe a w q=>Qby.postW q) (QfW m f xs s n g i h r hrd λro' σ' a' w' hr hev htk hdf=>?_);have d:=p j k ro' σ' a' w' hr (hrd.to hev λ_ q=>q);rw[hdf]at d;exact Yo (λe a w q=>q.step hev htk) _ _ _ d
section
variable {P:Program} {N:Nat} {l:List Oper} {ds af bf:List Nat} {xs:List A} {env0 e r:Env} {H H':Qd} {i hB hE:Nat} {o:Oper} {d s:Nat} {x a:A}
theorem sN:Sb af bf ds xs env0 []:=.nil
theorem sD(j:Nat)(k:Sb af bf ds xs env0 r)(d:af.contains j=true:=by exact rfl)(h2:ds[j]?=some s:=by exact rfl)(h3:xs[j]?=some a:=by exact rfl):Sb af bf ds xs env0 ((s,a)::r):=.dep j d h2 h3 k
theorem sO(s:Nat)(k:Sb af bf ds xs env0 r)(d:ds.contains s=false:=by exact rfl)(h2:lk env0 s=a:=by exact rfl):Sb af bf ds xs env0 ((s,a)::r):=.old d h2 k
theorem QdC(H:Qd):Qar hB hE H H=true:=by
 unfold Qar;refine Xs.2 λp _=>?_;cases Qbm H[hB+p]? <;>rfl
theorem Om(f:l[i]?=some o)(a:Sb (Qn o) (Qgg l i) ds xs env0 e)(h:WO P H.length N l.toArray [o] e H (YR (up e d x) H))(g:o.dst=some d:=by exact rfl)(hx:xs[i]?=some x:=by exact rfl):Jm P N l ds xs env0 hB hE i H H:=
 .mk o e d x f g hx (QdC H) a h
theorem Om1(f:l[i]?=some o)(a:Sb (Qn o) (Qgg l i) ds xs env0 e)(h:WO P H.length N l.toArray [o] e H (YR (up e d x) H'))(g:o.dst=some d:=by exact rfl)(hx:xs[i]?=some x:=by exact rfl)(hdd:Qar hB hE H H'=true:=by exact rfl):Jm P N l ds xs env0 hB hE i H H':=
 .mk o e d x f g hx hdd a h
theorem Om2(d:l[i]?=some o)(a:Sb (Qn o) (Qgg l i) ds xs env0 e)(h:WO P H.length N l.toArray [o] e H (YR e H'))(f:o.dst=none:=by exact rfl)(hx:xs[i]?=some .any:=by exact rfl)(hdd:Qar hB hE H H'=true:=by exact rfl):Jm P N l ds xs env0 hB hE i H H':=
 .unit o e d f hx hdd a h
end
structure TyI where
 fld:List (Nat×Nat×Nat)
 agg:List (Nat×Bool×Nat)
 zer:List (Nat×List A×List (Nat×Nat))
structure TyOK (P:Program) (T:TyI):Prop where
 fld:∀e∈T.fld,∃n,Qai P e.1 e.2.1 e.2.2 n
 agg:∀e∈T.agg,(∀w,(isAgg e.1).run P w=.ok e.2.1 w)/\ ∀w,(sizeOf e.1).run P w=.ok e.2.2 w
 zer:∀e∈T.zer,(∃z,(∀w,(zeroValue e.1).run P w=.ok z w)/\ZR (.agg e.2.1) z)/\Qdk P e.1 e.2.2
def QgX:List (Nat×Nat×Nat)->Nat->Nat->Option Nat
 |[],_,_=>none
 |(a,b,c)::r,t,f=>bif Nat.beq a t&&Nat.beq b f then some c else QgX r t f
def QbC{β:Type}:List (Nat×β)->Nat->Option β
 |[],_=>none
 |(a,b)::r,t=>bif Nat.beq a t then some b else QbC r t
theorem QgW{l:List (Nat×Nat×Nat)}{t f c:Nat}(h:QgX l t f=some c):(t,f,c)∈l:=by
 induction l with
 |nil=>cases h
 |cons x r e=>
  obtain⟨a,b,d⟩:=x;unfold QgX at h;cases q:(Nat.beq a t&&Nat.beq b f)with
  |true=>
   simp_all
  |false=>grind
theorem Qav{β:Type}{l:List (Nat×β)}{t:Nat}{c:β}(h:QbC l t=some c):(t,c)∈l:=by
 induction l with
 |nil=>cases h
 |cons x r d=>
  obtain⟨a,b⟩:=x;unfold QbC at h;cases q:Nat.beq a t with
  |true=>
   simp_all
  |false=>grind
def Qgf(H:Qd):A->Option (List A)
 |.rp cs=>some cs
 |.ptr i off=>match H[i]? with
  |some (.cells _ cs)=>some (cs.drop off)
  |_=>none
 |_=>none
theorem Qh5{H:Qd}{p:A}{a:List A}(h:Qgf H p=some a):Pts H p a:=by
 unfold Qgf at h;split at h
 .cases h;exact Pts.rp
 .split at h
  .rename_i d;cases h;exact Pts.cells d rfl
  .cases h
 .cases h
def Qkj(T:TyI)(o:Oper)(env:Env)(H:Qd):Option A:=
 match o.op with
 |.move x=>some (opA env x)
 |.assign x=>some (opA env x)
 |.fieldAddr t x f=>match QgX T.fld t f with
  |none=>none
  |some off=>match opA env x with
   |.ptr i p=>some (.ptr i (p+off))
   |.rp cs=>some (.rp (cs.drop off))
   |_=>none
 |.load t x=>match QbC T.agg t with
  |none=>none
  |some (b,n)=>match x with
   |.global g=>match QhP[g]? with
    |some zs=>bif b&&Nat.beq zs.length n then some (.agg (zs.map (A.int .i64)))else none
    |none=>none
   |x=>match Qgf H (opA env x)with
    |none=>none
    |some cs=>bif b then(bif Nat.beq (cs.take n).length n then some (.agg (cs.take n))else none)else cs.head?
 |.build t parts=>match QbC T.zer t with
  |none=>none
  |some (zs,pl)=>match Qev env pl zs parts.toList with
   |some cs=>some (.agg cs)
   |none=>none
 |.extract x i=>match opA env x with
  |.tup vs=>vs[i]?
  |_=>none
 |.makeFunc f first cap=>some (.fn f (first.toList.map (opA env)) (cap.toList.map (opA env)))
 |_=>none
theorem Qki{P:Program}{T:TyI}(j:TyOK P T){o:Oper}{env:Env}{H:Qd}{x:A}(h:Qkj T o env H=some x):OpV P o env H x:=by
 unfold Qkj at h;split at h
 .simp_all[OpV.move]
 .simp_all[OpV.assign]
 .rename_i t y f a;split at h
  .cases h
  .rename_i E i;obtain⟨n,r⟩:=j.fld _ (QgW i);split at h
   .grind[Qe0]
   .rename_i d B;cases h;exact QeZ r a B rfl
   .cases h
 .rename_i t y a;split at h
  .cases h
  .rename_i b n m;obtain⟨e,g⟩:=j.agg _ (Qav m);split at h
   .split at h
    .rename_i k w;cases q:(b&&Nat.beq k.length n)with
     |false=>grind
     |true=>
      rw[q]at h;cases h;simp[XW]at q;obtain⟨rfl,G⟩:=q;exact QfL e g w (by simp_all) a
    .cases h
   .split at h
    .cases h
    .rename_i d p;have l:=Qh5 p;cases b with
     |true=>
      cases q:Nat.beq (d.take n).length n with
      |false=>grind
      |true=>
       rw[q]at h;cases h;exact Qbg a e g rfl l rfl (by simp_all)
     |false=>
      cases d with
      |nil=>cases h
      |cons v d=>cases h;exact OpV.load a e rfl l
 .rename_i t parts a;split at h
  .cases h
  .rename_i k J s;obtain⟨⟨z,e,g⟩,F⟩:=j.zer _ (Qav s);split at h
   .rename_i d i;cases h;exact OpV.build e g F (by rw[a]) i
   .cases h
 .grind[OpV.extract]
 .rename_i f first u a
  cases h;exact OpV.makeFunc (by rw[a]) rfl rfl
 .cases h
def Qhj(af:List Nat):Nat->List Nat->List A->Env->Env
 |j,d::ds,x::xs,e=>(d,bif af.contains j then x else .any)::Qhj af (j+1) ds xs e
 |_,_,_,e=>e
theorem QmC{af:List Nat}{env0:Env}(s:Nat):∀(a:List Nat) (xs:List A) (b:Nat),a.length=xs.length->
  (∃(j:Nat) (x:A),a[j]?=some s/\xs[j]?=some x/\lk (Qhj af b a xs env0) s=bif af.contains (b+j)then x else .any)\/(a.contains s=false/\lk (Qhj af b a xs env0) s=lk env0 s):=by
 intro a
 induction a with
 |nil=>simp_all[Qhj]
 |cons d a h=>
  intro xs b g;cases xs with
  |nil=>cases g
  |cons x xs=>
   cases q:Nat.beq s d with
   |true=>
    have e:=XQ q;subst e;left;refine⟨0,x,rfl,rfl,?_⟩
    simp_all[Qhj,lk]
   |false=>
    have f:s≠d:=λz=>by simp_all
    simp only[Qhj,lk,q];rcases h xs (b+1) (by grind)with⟨j,y,k,i,l⟩|⟨k,i⟩
    .left;refine⟨j+1,y,by grind,by grind,?_⟩
     grind
    grind
def Qis(T:TyI)(N:Nat)(l:List Oper)(ds:List Nat)(xs:List A)(env0:Env)(H:Qd)(i:Nat):Option A:=
 match l[i]? with
 |none=>none
 |some o=>match o.guard,o.dst with
  |none,some d=>bif Nat.blt d N&&Nat.beq ds.length xs.length then Qkj T o (Qhj (Qn o) 0 ds xs env0) H else none
  |_,_=>none
theorem QmB{af a:List Nat}{xs:List A}{env0:Env}(d:a.length=xs.length):QlO af a xs env0 (Qhj af 0 a xs env0):=by
 intro s;rcases QmC (af:=af) (env0:=env0) s a xs 0 d with⟨j,x,g,e,f⟩|h
 .grind
 grind
theorem vQ{P:Program}{T:TyI}(j:TyOK P T){N:Nat}{l:List Oper}{a:List Nat}{xs:List A}{env0:Env}{hB hE i:Nat}{H:Qd}{x:A}(e:xs[i]?=some x)(h:Qis T N l a xs env0 H i=some x):Jm P N l a xs env0 hB hE i H H:=by
 unfold Qis at h;split at h
 .cases h
 .rename_i o f;split at h
  .rename_i d k g;cases q:(Nat.blt d N&&Nat.beq a.length xs.length)with
   |false=>grind
   |true=>
    rw[q]at h;simp only[XW]at q;exact .val o _ d x f g k e q.1 (QmB (by simp_all)) (Qki j h)
  .cases h
abbrev I(n:Int):A:=.int .i64 n
theorem zc{a:A}{v:Value}{al:List A}{vl:List Value}(h:ZR a v)(k:ZL al vl):ZL (a::al) (v::vl):=ZL.cons h k
def zr1:A->Value->Bool
 |.int k n,.int k' n'=>decide (k=k')&&decide (n=n')
 |.bool b,.bool b'=>b==b'
 |.str s,.string s'=>s.isEmpty&&s'.data.toList.isEmpty
 |.rsl _ es,.slice none 0 0=>es.isEmpty
 |.nils,.slice none 0 0=>true
 |.nilp,.pointer none=>true
 |.nilf,.nilFunc=>true
 |.nilm,.map none=>true
 |.nilif,.nilIface=>true
 |_,_=>false
def zrL:List A->List Value->Bool
 |[],[]=>true
 |a::r,v::s=>zr1 a v&&zrL r s
 |_,_=>false
def zrB:A->Value->Bool
 |.agg r,.agg s=>zrL r s.toList
 |a,v=>zr1 a v
theorem Qj9{a:A}{v:Value}(h:zr1 a v=true):ZR a v:=by
 unfold zr1 at h;split at h
 .simp_all[ZR.int]
 .simp_all[ZR.bool]
 .rename_i s f;simp[XW]at h;obtain⟨d⟩:=f
  simp_all[ZR.str]
 .rename_i k g;have h:=List.isEmpty_iff.1 h;subst h;exact ZR.rsl (e:=λx=>[x])
 .exact ZR.nils
 .exact ZR.nilp
 .exact ZR.nilf
 .exact ZR.nilm
 .exact QmI
 .cases h
theorem Qj8:∀{r:List A} {s:List Value},zrL r s=true->ZL r s
 |[],[],_=>ZL.nil
 |a::r,v::s,h=>by
  simp[zrL,XW]at h;exact ZL.cons (Qj9 h.1) (Qj8 h.2)
 |[],_::_,h=>by cases h
 |_::_,[],h=>by cases h
theorem zrC{a:A}{v:Value}(h:zrB a v=true):ZR a v:=by
 unfold zrB at h;split at h
 .have:=ZR.agg (Qj8 h);omega
 .exact Qj9 h
section
variable {P:Program} {o:Oper} {env:Env} {H:Qd}
end
structure TyX where
 ty:TyI
 al:List (Nat×A)
 sl:List Nat
structure QbV (P:Program) (T:TyX):Prop where
 ty:TyOK P T.ty
 al:∀e∈T.al,(∃z,(∀w,(zeroValue e.1).run P w=.ok z w)/\ZR e.2 z)/\Yn e.2=true/\(Yd e.2).all Yr=true
 sl:∀t∈T.sl,∃et,∀w,(underlying t).run P w=.ok (.slice et) w
def YO(all:Array Oper)(o:Oper)(env:Env):Option Bool:=
 match o.guard with
 |none=>some true
 |some (j,c)=>match(all[j]?).bind (·.dst)with
  |none=>none
  |some d=>match lk env d with
   |.bool true=>some c
   |.bool false=>some (!c)
   |.tup []=>some false
   |_=>none
theorem QM{all:Array Oper}{o:Oper}{env:Env}{b:Bool}(h:YO all o env=some b):QI all o env b:=by
 unfold YO at h;unfold QI;split at h
 .grind
 .rename_i j c q;rw[q];split at h
  .cases h
  .rename_i d a;refine⟨d,a,?_⟩;split at h
   .simp_all
   .simp_all
   .grind
   .cases h
def Qdd:List Nat->Nat->Bool
 |[],_=>false
 |a::r,t=>bif Nat.beq a t then true else Qdd r t
theorem QfZ{l:List Nat}{t:Nat}(h:Qdd l t=true):t∈l:=by
 induction l with
 |nil=>cases h
 |cons a r d=>
  grind[Qdd,Nat.eq_of_beq_eq_true]
inductive FL where
 |mk (l:List A)
def fl:List A->FL
 |[]=>.mk []
 |a::r=>match fl r with
  |.mk r'=>.mk (a::r')
theorem Qce:∀l:List A,fl l=.mk l
 |[]=>rfl
 |a::r=>by unfold fl;rw[Qce r]
inductive FB where
 |mk (l:List Blk)
def fb:List Blk->FB
 |[]=>.mk []
 |a::r=>match fb r with
  |.mk r'=>.mk (a::r')
theorem QiE:∀l:List Blk,fb l=.mk l
 |[]=>rfl
 |a::r=>by unfold fb;rw[QiE r]
inductive FN where
 |mk (n:Nat)
def fn:List Blk->Nat->FN
 |[],n=>.mk n
 |_::r,n=>fn r (n+1)
theorem QkO:∀(l:List Blk) (n:Nat),fn l n=.mk (l.length+n)
 |[],n=>by simp[fn]
 |a::r,n=>by unfold fn;rw[QkO r];simp;omega
def QiC(env:Env)(pl:List (Nat×Nat)):List A->List (Nat×Operand)->Option (List A)
 |cs,[]=>some cs
 |cs,(i,x)::r=>match YL pl i with
  |none=>none
  |some (off,size)=>match opB env x with
   |.mk a=>match fl (Yd a)with
    |.mk vs=>bif Yn a&&Nat.beq vs.length size&&Nat.ble (off+size) cs.length then(match fl (splice cs off vs)with
     |.mk cs'=>QiC env pl cs' r)else none
theorem Qg0{env:Env}{pl:List (Nat×Nat)}:∀(parts:List (Nat×Operand)) (cs:List A),QiC env pl cs parts=Qev env pl cs parts
 |[],cs=>rfl
 |(i,x)::r,cs=>by
  unfold QiC Qev;rw[QaB];cases pl[i]? with
  |none=>rfl
  |some q=>
   obtain⟨off,size⟩:=q;cases h:opB env x with
   |mk a=>
    rw[QS h];simp only[Qce];cases(Yn a&&Nat.beq (Yd a).length size&&Nat.ble (off+size) cs.length)with
    |false=>rfl
    |true=>exact Qg0 r _
def QgM(env:Env):List Operand->List A
 |[]=>[]
 |x::r=>match opB env x with
  |.mk a=>a::QgM env r
theorem QcG{env:Env}:∀l:List Operand,QgM env l=l.map (opA env)
 |[]=>rfl
 |x::r=>by
  unfold QgM;cases h:opB env x with
  |mk a=>rw[Vj,QS h];show a::QgM env r=_;rw[QcG r]
def ptX(H:Qd):Bx->Option Lx
 |.mk (.rp cs)=>some (.mk cs)
 |.mk (.ptr i off)=>match YL H i with
  |some (.cells _ cs)=>some (Qhl off cs)
  |_=>none
 |_=>none
theorem Qni{H:Qd}{p:A}{a:List A}(h:ptX H (.mk p)=some (.mk a)):Pts H p a:=by
 unfold ptX at h
 grind[Pts.rp,QaB,Pts.cells,QeN]
def Qc5(T:TyX)(o:Oper)(env:Env)(H:Qd):Option A:=
 match o.op with
 |.move x=>match opB env x with|.mk a=>some a
 |.assign x=>match opB env x with|.mk a=>some a
 |.nilCheck x=>nlB (opB env x)
 |.extract x i=>exB (opB env x) i
 |.unOp u _ x=>unB u (opB env x)
 |.pick c x y=>piB (opB env c) (opB env x) (opB env y)
 |.binOp b _ x y _=>biB b (opB env x) (opB env y)
 |.fieldAddr t x f=>match QgX T.ty.fld t f with
  |none=>none
  |some off=>match opB env x with
   |.mk (.ptr i p)=>some (.ptr i (p+off))
   |.mk (.rp cs)=>match Qhl off cs with
    |.mk r=>some (.rp r)
   |_=>none
 |.load t x=>match QbC T.ty.agg t with
  |none=>none
  |some (b,n)=>match x with
   |.global g=>match YL QhP g with
    |some zs=>bif b&&Nat.beq zs.length n then(match fl (zs.map (A.int .i64))with|.mk l=>some (.agg l))else none
    |none=>none
   |x=>match ptX H (opB env x)with
    |none=>none
    |some (.mk cs)=>match b with
     |true=>(match fl (cs.take n)with|.mk l=>bif Nat.beq l.length n then some (.agg l)else none)
     |false=>(match cs with|[]=>none|a::_=>some a)
 |.build t parts=>match QbC T.ty.zer t with
  |none=>none
  |some (zs,pl)=>match QiC env pl zs parts.toList with
   |some cs=>some (.agg cs)
   |none=>none
 |.makeFunc f first cap=>match fl (QgM env first.toList),fl (QgM env cap.toList)with
  |.mk l,.mk l'=>some (.fn f l l')
 |.call c=>match c with
  |{callee:=.builtin .len,args:=⟨[x]⟩,argTypes:=⟨[t]⟩}=>bif Qdd T.sl t then(match opB env x with
   |.mk (.osl _ 0 n _)=>some (.int .i64 n)
   |_=>none)else none
  |_=>none
 |_=>none
theorem Qau{P:Program}{T:TyX}(l:QbV P T){o:Oper}{env:Env}{H:Qd}{x:A}(h:Qc5 T o env H=some x):OpV P o env H x:=by
 unfold Qc5 at h;split at h
 .simp_all[QbF,svB]
 .simp_all[QbF,svB]
 .simp_all[QbF,svB]
 .simp_all[QbF,svB]
 .simp_all[QbF,svB]
 .simp_all[QbF,svB]
 .simp_all[QbF,svB]
 .rename_i t y f a;split at h
  .cases h
  .rename_i u d;obtain⟨n,R⟩:=l.ty.fld _ (QgW d);split at h
   .grind[Qe0,QS]
   .rename_i j Q;cases q:Qhl u j with
    |mk r=>rw[q]at h;grind[QeZ,QS,QeN]
   .cases h
 .rename_i t y a;split at h
  .cases h
  .rename_i b n J;obtain⟨s,m⟩:=l.ty.agg _ (Qav J);split at h
   .rename_i g;split at h
    .rename_i w B;rw[QaB]at B;cases q:(b&&Nat.beq w.length n)with
     |false=>grind
     |true=>
      rw[q,Qce]at h;cases h;simp only[XW]at q;obtain⟨rfl,E⟩:=q;exact QfL s m B (by simp_all) a
    .cases h
   .cases e:opB env y with
    |mk p=>
     rw[e]at h;split at h
     .cases h
     .rename_i j L;have N:=Qni L;cases b with
      |true=>
       simp only[Qce]at h;cases q:Nat.beq (j.take n).length n with
       |false=>grind
       |true=>
        rw[q]at h;cases h;exact Qbg a s m (QS e) N rfl (by simp_all)
      |false=>
       grind[OpV.load,QS]
 .rename_i t parts a;split at h
  .cases h
  .rename_i w V M;obtain⟨⟨z,s,m⟩,G⟩:=l.ty.zer _ (Qav M);split at h
   .rename_i j d;cases h;rw[Qg0]at d;exact OpV.build s m G (by rw[a]) d
   .cases h
 .rename_i f first cap a
  simp only[Qce]at h;cases h;rw[QcG,QcG];exact OpV.makeFunc (first:=first.toList) (cap:=cap.toList) (by rw[a]) rfl rfl
 .rename_i c a;split at h
  .rename_i y t;cases q:Qdd T.sl t with
   |false=>grind
   |true=>
    rw[q]at h;simp only[Vo]at h;obtain⟨O,F⟩:=l.sl t (QfZ q);split at h
    .rename_i i n k E;cases h;exact QjW F a rfl (QS E)
    .cases h
  .cases h
 .cases h
def stX(T:TyX)(h0 N:Nat)(all:Array Oper)(o:Oper)(env:Env)(H:Qd):Option (Env×Qd):=
 match YO all o env with
 |none=>none
 |some false=>match o.dst with
  |none=>none
  |some d=>bif Nat.blt d N then some (up env d (.tup []),H)else none
 |some true=>match o.dst with
  |none=>match o.op with
   |.store t x y=>match opB env x,QbC T.ty.agg t with
    |.mk (.ptr i off),some (_,n)=>match YL H i with
     |some (.cells S cs)=>match opB env y with
      |.mk a=>match fl (Yd a)with
       |.mk vs=>bif Nat.ble h0 H.length&&(Yn a&&(Nat.beq vs.length n&&(vs.all Yr&&Nat.ble (off+n) cs.length)))then(match fl (splice cs off vs)with
        |.mk cs'=>match fb (H.set i (.cells S cs'))with
         |.mk H'=>some (env,H'))else none
     |_=>none
    |_,_=>none
   |_=>none
  |some d=>bif Nat.blt d N then(match o.op with
   |.alloc t=>match QbC T.al t with
    |some v=>bif Nat.ble h0 H.length then(match fn H 0,fl (Yd v)with
     |.mk n,.mk cs=>match fb (H++[.cells t cs])with
      |.mk H'=>some (up env d (.ptr n 0),H'))else none
    |none=>none
   |.box t x=>match opB env x with
    |.mk a=>bif Nat.ble h0 H.length&&(Yn a&&(Yd a).all Yr)then(match fn H 0,fl (Yd a)with
     |.mk n,.mk cs=>match fb (H++[.cells t cs])with
      |.mk H'=>some (up env d (.ptr n 0),H'))else none
   |_=>match Qc5 T o env H with
    |some a=>some (up env d a,H)
    |none=>none)else none
section
variable {P:Program} {T:TyX} {h0 N:Nat} {all:Array Oper} {l l':List Oper} {env env':Env} {H H':Qd} {Q:QG}
theorem Qm3(m:QbV P T){o:Oper}(h:stX T h0 N all o env H=some (env',H'))(k:WO P h0 N all l env' H' Q):WO P h0 N all (o::l) env H Q:=by
 unfold stX at h;split at h
 .cases h
 .grind[QM,WO.skip]
 .rename_i F;have j:=QM F;split at h
  .rename_i f;split at h
   .rename_i t x y g;split at h
    .rename_i i p b n u E;split at h
     .rename_i S cs hH;rw[QaB]at hH;cases e:opB env y with
      |mk a=>
       rw[e]at h;simp only[Qce,QiE]at h;generalize hc:(Nat.ble h0 H.length&&(Yn a&&(Nat.beq (Yd a).length n&&((Yd a).all Yr&&Nat.ble (p+n) cs.length))))=c at h;cases c with
       |false=>cases h
       |true=>
        cases h;simp only[XW]at hc;obtain⟨c1,r,s,J,M⟩:=hc;obtain⟨_,R⟩:=m.ty.agg _ (Qav E);exact Qlt (by simp_all) j f (OpU.store g (QS u) hH R (QS e) r rfl (by simp_all) J M rfl) k
     .cases h
    .cases h
   .cases h
  .rename_i d f;cases q:Nat.blt d N with
   |false=>grind
   |true=>
    rw[q]at h;simp only[Vo]at h;split at h
    .rename_i t g;split at h
     .rename_i v G;cases c:Nat.ble h0 H.length with
      |false=>grind
      |true=>
       rw[c]at h;simp only[Qce,QiE,QkO,Vo,Xx]at h;cases h;obtain⟨⟨z,L,V⟩,B,w⟩:=m.al _ (Qav G);exact Qh9 (by simp_all) j f q (Qag L V g B rfl w) k
     .cases h
    .rename_i t x g;cases e:opB env x with
     |mk a=>
      rw[e]at h;simp only[Qce,QiE,QkO,Xx]at h;generalize hc:(Nat.ble h0 H.length&&(Yn a&&(Yd a).all Yr))=c at h;cases c with
      |false=>cases h
      |true=>
       cases h;simp only[XW]at hc;obtain⟨c1,r,s⟩:=hc;exact Qh9 (by simp_all) j f q (OpH.box g (QS e) r rfl s) k
    .split at h
     .rename_i a O;cases h;exact Y8 j f q (Qau m O) k
     .cases h
end
theorem FA{P:Program}{T f off n:Nat}{fs:Array Field}{a:Field}(d:∀w,(underlying T).run P w=.ok (.struct fs) w)(e:fs[f]?=some a)(h:∀w,(sizeOf a.type).run P w=.ok n w)(g:a.offset=off:=by exact rfl)(h5:n≠0:=by decide):Qai P T f off n:=⟨_,_,d,e,g,h,h5⟩
theorem Qdq:∀(π:List Nat) (H:Qd) (xs:List Blk),π.map (λp=>H[p]?)=xs.map some->QW H π xs=H
 |[],H,xs,h=>by
  simp_all[QW]
 |p::π,H,[],h=>by simp at h
 |p::π,H,x::xs,h=>by
  simp only[Vj,List.cons.injEq]at h;have e:H.set p x=H:=by
   apply List.ext_getElem?
   grind
  unfold QW;rw[e];exact Qdq π H xs h.2
def Qi6:A->Option Bx
 |.bool b=>some (.mk (.bool b))
 |.int k n=>some (.mk (.int k n))
 |.str s=>some (.mk (.str s))
 |.rsl k es=>some (.mk (.rsl k es))
 |_=>none
theorem QlZ{v a:A}(h:Qi6 v=some (.mk a))(ρ:Nat->Nat):YK ρ v=a:=by
 cases v<;>first|(cases h;rfl)|cases h
theorem Pc{P:Program}{h0 N:Nat}{all:Array Oper}{o:Oper}{l:List Oper}{env:Env}{H:Qd}{Q:QG}{d:Nat}{f:FuncId}{args e:List A}{Hc:Qd}{v h:A}(π:List Nat)(i:o.dst=some d)(g:OpC P o env H f args)(j:C P f e Hc (λa H1=>a=v/\H1=Hc))(m:Qi6 v=some (.mk h))
  (k:WO P h0 N all l (up env d h) H Q)
  (hargs:args=Qak (rho π H.length) e:=by exact rfl)(hH:π.map (λp=>H[p]?)=(Hc.map (QZ (rho π H.length))).map some:=by exact rfl)(hπ:π.Nodup:=by decide)
  (hg:QI all o env true:=by exact rfl)(hN:Nat.blt d N=true:=by exact rfl)(hh:Nat.ble h0 H.length=true:=by exact rfl):WO P h0 N all (o::l) env H Q:=by
 refine Qw π g j ?_ hargs hH hπ hg i hN hh
 simp_all[QlZ,Qdq]
theorem Q8{i k:Nat}{es:List (List A)}:∀H:Qd,FzH i k es H H
 |[]=>.nil
 |_::r=>.keep (Q8 r)
def foN:Nat->FN
 |0=>.mk 0
 |1=>.mk 1
 |2=>.mk 2
 |3=>.mk 3
 |4=>.mk 4
 |5=>.mk 5
 |6=>.mk 6
 |7=>.mk 7
 |8=>.mk 8
 |9=>.mk 9
 |10=>.mk 10
 |11=>.mk 11
 |12=>.mk 12
 |13=>.mk 13
 |14=>.mk 14
 |15=>.mk 15
 |16=>.mk 16
 |17=>.mk 17
 |18=>.mk 18
 |19=>.mk 19
 |20=>.mk 20
 |21=>.mk 21
 |22=>.mk 22
 |23=>.mk 23
 |24=>.mk 24
 |25=>.mk 25
 |26=>.mk 26
 |27=>.mk 27
 |28=>.mk 28
 |29=>.mk 29
 |30=>.mk 30
 |31=>.mk 31
 |32=>.mk 32
 |33=>.mk 33
 |34=>.mk 34
 |35=>.mk 35
 |36=>.mk 36
 |37=>.mk 37
 |38=>.mk 38
 |39=>.mk 39
 |40=>.mk 40
 |41=>.mk 41
 |42=>.mk 42
 |43=>.mk 43
 |44=>.mk 44
 |45=>.mk 45
 |46=>.mk 46
 |47=>.mk 47
 |n=>.mk n
theorem Qf5(n:Nat):foN n=.mk n:=by unfold foN;split<;>rfl
mutual
def foA:A->Bx
 |.agg cs=>match foL cs with
  |.mk l=>.mk (.agg l)
 |.tup cs=>match foL cs with
  |.mk l=>.mk (.tup l)
 |.fn f a c=>match foL a,foL c with
  |.mk l,.mk l'=>.mk (.fn f l l')
 |.iface t v=>match foA v with
  |.mk v'=>.mk (.iface t v')
 |.ptr i off=>match foN i with
  |.mk i'=>.mk (.ptr i' off)
 |.osl i o n k=>match foN i with
  |.mk i'=>.mk (.osl i' o n k)
 |.map i=>match foN i with
  |.mk i'=>.mk (.map i')
 |a=>.mk a
def foL:List A->FL
 |[]=>.mk []
 |a::r=>match foA a,foL r with
  |.mk a',.mk r'=>.mk (a'::r')
end
mutual
theorem QhQ:∀a:A,foA a=.mk a
 |.agg cs=>by unfold foA;rw[Qcq cs]
 |.tup cs=>by unfold foA;rw[Qcq cs]
 |.fn f a c=>by unfold foA;rw[Qcq a,Qcq c]
 |.iface t v=>by unfold foA;rw[QhQ v]
 |.ptr i off=>by unfold foA;rw[Qf5]
 |.osl i o n k=>by unfold foA;rw[Qf5]
 |.map i=>by unfold foA;rw[Qf5]
 |.any|.bool _|.int _ _|.str _|.nilp|.rp _|.nils|.rsl _ _|.nilf|.nilif|.nilm=>by rfl
theorem Qcq:∀l:List A,foL l=.mk l
 |[]=>by rfl
 |a::r=>by unfold foL;rw[QhQ a,Qcq r]
end
inductive FE2 where
 |mk (l:List (List A))
def foE:List (List A)->FE2
 |[]=>.mk []
 |a::r=>match foL a,foE r with
  |.mk a',.mk r'=>.mk (a'::r')
theorem QkN:∀l,foE l=.mk l
 |[]=>rfl
 |a::r=>by unfold foE;rw[Qcq,QkN r]
def foH:List Blk->FB
 |[]=>.mk []
 |b::r=>match foH r with
  |.mk r'=>match b with
   |.cells t cs=>match foL cs with
    |.mk l=>.mk (.cells t l::r')
   |.rowr t k es=>match foE es with
    |.mk l=>.mk (.rowr t k l::r')
   |.dead=>.mk (.dead::r')
   |.row t k es=>.mk (.row t k es::r')
   |.map es=>.mk (.map es::r')
   |.iter c es=>.mk (.iter c es::r')
   |.fmap es=>.mk (.fmap es::r')
   |.mapO fz t k es=>.mk (.mapO fz t k es::r')
   |.mapP es=>.mk (.mapP es::r')
   |.frow t k es=>.mk (.frow t k es::r')
   |.wins t a n c=>match foN a with
    |.mk a'=>.mk (.wins t a' n c::r')
   |.ents t a b es=>match foN a,foN b with
    |.mk a',.mk b'=>.mk (.ents t a' b' es::r')
theorem QkM:∀l,foH l=.mk l
 |[]=>rfl
 |b::r=>by
  unfold foH;rw[QkM r];cases b<;>simp only[Qcq,QkN,Qf5]
def foS(env:Env)(H:Qd):Option (Env×Qd):=
 match foH H with
 |.mk H'=>match env with
  |[]=>some ([],H')
  |(d,a)::e=>match foA a with
   |.mk a'=>some ((d,a')::e,H')
theorem Qnu(env:Env)(H:Qd):foS env H=some (env,H):=by
 unfold foS;rw[QkM];cases env with
 |nil=>rfl
 |cons p e=>obtain⟨d,a⟩:=p;simp only[QhQ]
theorem FE{P:Program}{h0 N:Nat}{all:Array Oper}{l:List Oper}{env a:Env}{H H':Qd}{Q:QG}(h:foS env H=some (a,H'))(k:WO P h0 N all l a H' Q):WO P h0 N all l env H Q:=by
 rw[Qnu]at h
 grind
theorem R1{P:Program}{h0:Nat}{fn:Func}{env:Env}{H Hc:Qd}{v:A}(s:Nat)(hr:fn.results= #[.tmp s])(hle:Le h0 env H [(s,v)] Hc):Jf P h0 fn (λa H=>a=v/\H=Hc) .ret env H:=
 ⟨[(s,v)],Hc,v,hle,QbW.one hr (by simp_all[lk]),rfl,rfl⟩
theorem R2{P:Program}{h0:Nat}{fn:Func}{env:Env}{H Hc:Qd}{v v':A}(s t:Nat)(hr:fn.results= #[.tmp s,.tmp t])(hn:Nat.beq t s=false)(hle:Le h0 env H [(s,v),(t,v')] Hc):Jf P h0 fn (λa H=>a=.tup [v,v']/\H=Hc) .ret env H:=
 ⟨[(s,v),(t,v')],Hc,_,hle,QjO hr (by simp_all[lk]) (by simp_all[lk]),rfl,rfl⟩
theorem FzA.o{i k n:Nat}{es:List (List A)}(a:n=es.length:=by first|exact(X2 ..).symm|exact rfl):FzA i k es (.osl i 0 n k) (.rsl k es):=FzA.own a
theorem Le.env{e:Nat}{env d:Env}{H:Qd}(h:∀s,lk d s=.any\/lk d s=lk env s):Le e env H d H:=by
 intro g f σ N a w r;refine⟨f,σ,⟨r.sim,λs=>?_,r.size,r.defers⟩,λ_ q=>q,rfl⟩;rcases h s with h|h
 .rw[h];trivial
 .rw[h];exact r.env s
def QmZ(env:Env):Env->Prop
 |[]=>True
 |(s,a)::r=>lk env s=a/\QmZ env r
theorem QmZ.ok{env:Env}:∀{f:Env},QmZ env f->∀s,lk f s=.any\/lk f s=lk env s
 |[],_,s=>.inl rfl
 |(d,a)::e,⟨h1,h2⟩,s=>by
  by_cases q:s=d
  .simp_all[lk]
  .have:Nat.beq s d=false:=by
    simp_all[VL]
   simp only[lk,this,Vp];exact QmZ.ok h2 s
def ixO(d:Nat)(op:Op)(t:Nat)(pos:String)(af:Array Edge):Oper:={dst:=some d,op:=op,type:=t,pos:=pos,after:=af,guard:=none}
inductive Kf where
 |seq (c:Code)
 |blo (id:Nat)
 |unr (c:Code)
inductive Cf where
 |code (c:Code)
 |ops (all:Array Oper) (l:List Oper)
 |out (x:AEx)
def kq(P:Program)(h0 N:Nat):List Kf->QG->QG
 |[],Q=>Q
 |.seq c::k,Q=>Seq P h0 N c (kq P h0 N k Q)
 |.blo id::k,Q=>Blo id (kq P h0 N k Q)
 |.unr c::k,Q=>Qia P h0 N c (kq P h0 N k Q)
@[reducible] def Hd(P:Program)(h0 N:Nat):Cf->List Kf->Env->Qd->QG->Prop
 |.code c,k,env,H,Q=>TC P h0 N c env H (kq P h0 N k Q)
 |.ops all l,k,env,H,Q=>WO P h0 N all l env H (kq P h0 N k Q)
 |.out x,k,env,H,Q=>kq P h0 N k Q x env H
def Qkh(T:TyX)(h0 N:Nat):Cf->List Kf->Env->Qd->Option (Cf×List Kf×Env×Qd)
 |.code (.seq a b),k,env,H=>some (.code a,.seq b::k,env,H)
 |.code (.block id c),k,env,H=>some (.code c,.blo id::k,env,H)
 |.code (.loop c),k,env,H=>some (.code c,.unr c::k,env,H)
 |.code .skip,k,env,H=>some (.out .normal,k,env,H)
 |.code .ret,k,env,H=>some (.out .ret,k,env,H)
 |.code (.exit id),k,env,H=>some (.out (.exit id),k,env,H)
 |.code (.region id ⟨l⟩ false),k,env,H=>some (.ops ⟨l⟩ l,k,env,H)
 |.code (.cond x a b),k,env,H=>match opB env x with
  |.mk (.bool true)=>some (.code a,k,env,H)
  |.mk (.bool false)=>some (.code b,k,env,H)
  |_=>none
 |.ops all [],k,env,H=>some (.out .normal,k,env,H)
 |.ops all (o::l),k,env,H=>match stX T h0 N all o env H with
  |some (env',H')=>some (.ops all l,k,env',H')
  |none=>none
 |.out .normal,.seq c::k,env,H=>some (.code c,k,env,H)
 |.out (.exit i),.seq _::k,env,H=>some (.out (.exit i),k,env,H)
 |.out .ret,.seq _::k,env,H=>some (.out .ret,k,env,H)
 |.out .normal,.blo _::k,env,H=>some (.out .normal,k,env,H)
 |.out (.exit i),.blo id::k,env,H=>match Nat.beq i id with
  |true=>some (.out .normal,k,env,H)
  |false=>some (.out (.exit i),k,env,H)
 |.out .ret,.blo _::k,env,H=>some (.out .ret,k,env,H)
 |.out .normal,.unr c::k,env,H=>some (.code c,.unr c::k,env,H)
 |.out (.exit i),.unr _::k,env,H=>some (.out (.exit i),k,env,H)
 |.out .ret,.unr _::k,env,H=>some (.out .ret,k,env,H)
 |_,_,_,_=>none
def QcA(T:TyX)(h0 N:Nat):Nat->Cf->List Kf->Env->Qd->Option (Cf×List Kf×Env×Qd)
 |0,c,k,env,H=>some (c,k,env,H)
 |n+1,c,k,env,H=>match Qkh T h0 N c k env H with
  |some (c',k',env',H')=>QcA T h0 N n c' k' env' H'
  |none=>none
section
variable {P:Program} {T:TyX} {h0 N:Nat} {Q:QG}
theorem Qkg(f:QbV P T){c e:Cf}{k d:List Kf}{env a:Env}{H H':Qd}(h:Qkh T h0 N c k env H=some (e,d,a,H'))(g:Hd P h0 N e d a H' Q):Hd P h0 N c k env H Q:=by
 unfold Qkh at h;split at h
 .cases h;exact TC.seq g
 .cases h;exact TC.block g
 .cases h;exact QjM g
 .cases h;exact TC.skip g
 .cases h;exact TC.ret g
 .cases h;exact TC.exit g
 .cases h;exact TC.region g
 .split at h
  .rename_i q;cases h;exact QlB (QS q) rfl g
  .rename_i q;cases h;exact QlC (QS q) rfl g
  .cases h
 .cases h;exact WO.nil g
 .grind[Qm3]
 .cases h;exact seqN g
 .cases h;exact seqX g
 .cases h;exact seqR g
 .cases h;exact bloN g
 .split at h
  .rename_i q;cases h;have:=XQ q;subst this;exact bloE g
  .rename_i q;cases h;exact bloX q g
 .cases h;exact bloR g
 .cases h;exact unrN g
 .cases h;exact unrX g
 .cases h;exact unrR g
 .cases h
theorem Qcz(hT:QbV P T):∀(n:Nat) {c c':Cf} {k k':List Kf} {env env':Env} {H H':Qd},QcA T h0 N n c k env H=some (c',k',env',H')->Hd P h0 N c' k' env' H' Q->Hd P h0 N c k env H Q
 |0,c,c',k,k',env,env',H,H',h,g=>by cases h;exact g
 |n+1,c,c',k,k',env,env',H,H',h,g=>by
  unfold QcA at h;split at h
  .rename_i e;exact Qkg hT e (Qcz hT n h g)
  .cases h
theorem Qin{env:Env}{s:Nat}{a:A}(h:lk env s=a):∀t,lk (up env s a) t=lk env t:=by
 intro t;simp[lk];cases q:Nat.beq t s with
 |true=>simp_all
 |false=>rfl
theorem Is{α:Type}{all:Array Oper}{l:List Oper}{env:Env}{H:Qd}{b:Bool}{x y:Option α}{r:α}(s:Nat)(h:(bif b then x else y)=some r)(d:lkB env s=.mk (.bool b))
  (t:b=true->x=some r->WO P h0 N all l (up env s (.bool true)) H Q)(e:b=false->y=some r->WO P h0 N all l (up env s (.bool false)) H Q):WO P h0 N all l env H Q:=by
 have a:=QhM d;cases b with
 |true=>exact WO.le (Le.env λt=>.inr (Qin a t)) (t rfl h)
 |false=>exact WO.le (Le.env λt=>.inr (Qin a t)) (e rfl h)
end
def dstN(o:Oper)(i:Nat):Nat:=match o.dst with|some d=>d|none=>1000000+i
def Qbc:Nat->Nat->List Oper->List Nat
 |0,_,_=>[]
 |_+1,_,[]=>[]
 |m+1,i,o::l=>dstN o i::Qbc m (i+1) l
def Yf(af:List Nat):Nat->List Nat->List A->Env->Env
 |j,d::ds,x::xs,e=>(d,bif Qdd af j then x else .any)::Yf af (j+1) ds xs e
 |j,d::ds,[],e=>(d,.any)::Yf af (j+1) ds [] e
 |_,[],_,e=>e
theorem Qe9{l:List Nat}{t:Nat}:Qdd l t=l.contains t:=by
 induction l with
 |nil=>rfl
 |cons a r d=>
  grind[Qdd,Nat.eq_of_beq_eq_true,Nat.beq_refl]
theorem QiM{af:List Nat}{env0:Env}{s:Nat}:∀(a:List Nat) (xs f:List A) (b:Nat),
  (∃(j:Nat) (x:A),af.contains (b+j)=true/\a[j]?=some s/\(xs++f)[j]?=some x/\lk (Yf af b a xs env0) s=x)\/lk (Yf af b a xs env0) s=.any\/(a.contains s=false/\lk (Yf af b a xs env0) s=lk env0 s):=by
 intro a
 induction a with
 |nil=>intro xs f b;right;right;exact⟨rfl,by rfl⟩
 |cons d a l=>
  intro xs f b;have next:∀(e:List A),(∃(j:Nat) (x:A),af.contains (b+1+j)=true/\a[j]?=some s/\(e++f)[j]?=some x/\lk (Yf af (b+1) a e env0) s=x)->∀n,(∃(j:Nat) (x:A),af.contains (b+j)=true/\(d::a)[j]?=some s/\(n::e++f)[j]?=some x/\lk (Yf af (b+1) a e env0) s=x):=by
   rintro e ⟨j,x,k,i,p,m⟩ n;exact⟨j+1,x,by grind,by grind,by grind,m⟩
  cases xs with
  |nil=>
   cases q:Nat.beq s d with
   |true=>simp_all[Yf,lk]
   |false=>
    have g:s≠d:=λz=>by simp_all
    simp only[Yf,lk,q,Vp];rcases l [] [] (b+1)with⟨j,x,k,i,p,m⟩|h|⟨k,i⟩
    .simp at p
    .grind
    grind
  |cons x xs=>
   cases q:Nat.beq s d with
   |true=>
    have:=XQ q;subst this;simp only[Yf,lk,q,Vo];cases c:Qdd af b with
    |true=>left;exact⟨0,x,by rw[<- Qe9];exact c,rfl,rfl,rfl⟩
    |false=>simp
   |false=>
    have g:s≠d:=λz=>by simp_all
    simp only[Yf,lk,q,Vp];rcases l xs f (b+1)with h|h|⟨k,i⟩
    .exact .inl (next xs h x)
    .grind
    grind
section
variable {P:Program} {T:TyX} {h0 N m:Nat} {l:List Oper} {ds:List Nat} {env:Env} {H:Qd} {Q:QG} {K:List Oper->Env->Qd->Prop}
def DS(P:Program)(N m:Nat)(l:List Oper)(ds:List Nat)(env:Env)(H:Qd)(K:List Oper->Env->Qd->Prop)(r:List Oper)(xs:List A):Prop:=
 r=l.drop xs.length->∃ys,xs.length+ys.length=m/\(∀j,xs.length<=j->j<m->Jm P N l ds (xs++ys) env H.length H.length j H H)/\K (l.drop m) (Qas ds (xs++ys) env) H
theorem oqOf{xs:List A}:∀(c i:Nat),(∀j,i<=j->j<i+c->Jm P N l ds xs env H.length H.length j H H)->Oq P N l ds xs env H i c
 |0,i,_=>.n
 |c+1,i,h=>.c (by grind) (oqOf c (i+1) (by grind))
theorem QlS{id:Nat}{k:List Kf}(m:Nat)(f:P.follows .mixedOrders=true)(d:Go.Sw.draw0 l m N (Qbc m 0 l)=true)(a:Nat.ble h0 H.length=true)
  (h:DS P N m l (Qbc m 0 l) env H (λr e H=>WO P h0 N l.toArray r e H Q) l []):TC P h0 N (.region id l.toArray true) env H Q:=by
 obtain⟨i,n,j,g⟩:=h rfl;exact TC.draw0 m _ i f d (by simp_all) a (oqOf m 0 (by grind)) g
theorem DS.done{xs:List A}{r:List Oper}(a:Nat.beq xs.length m=true)(h:K r (Qas ds xs env) H):DS P N m l ds env H K r xs:=by
 intro f;have e:=XQ a;refine⟨[],by simpa using e,λj g d=>by omega,?_⟩
 grind
theorem DS.add{xs:List A}{o:Oper}{r:List Oper}{x:A}(e:Nat.blt xs.length m=true)(g:∀ys,l[xs.length]?=some o->Jm P N l ds (xs++x::ys) env H.length H.length xs.length H H)(k:DS P N m l ds env H K r (xs++[x])):DS P N m l ds env H K (o::r) xs:=by
 intro d;have a:xs.length<l.length:=by
  grind[List.drop_eq_nil_of_le]
 rw[Xp a]at d;cases d;obtain⟨ys,i,f,h⟩:=k (by simp)
 grind
theorem QgV{xs a:List A}{x:A}:(xs++x::a)[xs.length]?=some x:=by simp
theorem DS.wo{xs:List A}{o:Oper}{r:List Oper}{x:A}{d:Nat}(h:WO P H.length N l.toArray [o] (Yf (Qn o) 0 ds xs env) H (YR (up (Yf (Qn o) 0 ds xs env) d x) H))(k:DS P N m l ds env H K r (xs++[x]))
  (a:o.dst=some d:=by exact rfl)(hx:Nat.blt xs.length m=true:=by exact rfl):DS P N m l ds env H K (o::r) xs:=
 .add hx (λe f=>.woE o _ d x f a QgV (he:=by
  intro s;rcases QiM (af:=Qn o) (env0:=env) (s:=s) ds xs (x::e) 0 with⟨j,y,p,g,i,n⟩|q|q
  .grind
  .grind
  grind) (hdd:=QdC H) (h:=h)) k
theorem DS.v{xs:List A}{o:Oper}{r:List Oper}{x:A}{d:Nat}(h:OpV P o (Yf (Qn o) 0 ds xs env) H x)(k:DS P N m l ds env H K r (xs++[x]))(hg:QI l.toArray o (Yf (Qn o) 0 ds xs env) true:=by exact rfl)
  (hd:o.dst=some d:=by exact rfl)(hN:Nat.blt d N=true:=by exact rfl)(hx:Nat.blt xs.length m=true:=by exact rfl):DS P N m l ds env H K (o::r) xs:=
 .wo (Y8 hg hd hN h (WO.nil YR.mk)) k hd hx
def QcQ:List A->A->FL
 |[],x=>.mk [x]
 |a::r,x=>match QcQ r x with
  |.mk r'=>.mk (a::r')
theorem Je:∀(l:List A) (x:A),QcQ l x=.mk (l++[x])
 |[],x=>rfl
 |a::r,x=>by unfold QcQ;rw[Je r];rfl
def QgE(T:TyX)(N m:Nat)(l:List Oper)(ds:List Nat)(env:Env)(H:Qd):Nat->Nat->List Oper->List A->Option (List Oper×List A)
 |0,_,r,xs=>some (r,xs)
 |_+1,_,[],_=>none
 |n+1,i,o::r,xs=>match Nat.blt i m with
  |false=>none
  |true=>match o.dst with
   |none=>none
   |some d=>match Nat.blt d N with
    |false=>none
    |true=>match YO ⟨l⟩ o (Yf (Qn o) 0 ds xs env)with
     |none=>none
     |some false=>match QcQ xs (.tup [])with
      |.mk xs'=>QgE T N m l ds env H n (i+1) r xs'
     |some true=>match Qc5 T o (Yf (Qn o) 0 ds xs env) H with
      |none=>none
      |some x=>match QcQ xs x with
       |.mk xs'=>QgE T N m l ds env H n (i+1) r xs'
theorem Qed(hT:QbV P T):∀(n i:Nat) {r r':List Oper} {xs xs':List A},i=xs.length->QgE T N m l ds env H n i r xs=some (r',xs')->DS P N m l ds env H K r' xs'->DS P N m l ds env H K r xs
 |0,i,r,r',xs,xs',_,h,k=>by cases h;exact k
 |n+1,i,[],r',xs,xs',_,h,k=>by cases h
 |n+1,i,o::r,r',xs,xs',hi,h,k=>by
  subst hi;unfold QgE at h;split at h
  .cases h
  .rename_i q1;split at h
   .cases h
   .rename_i d hd;split at h
    .cases h
    .rename_i q2;split at h
     .cases h
     .rename_i hw;simp[Je]at h;exact .wo (WO.skip (QM hw) hd q2 (WO.nil YR.mk)) (Qed hT n _ (by simp) h k) hd q1
     .rename_i hw;split at h
      .cases h
      .rename_i x hv;simp[Je]at h;exact .v (Qau hT hv) (Qed hT n _ (by simp) h k) (QM hw) hd q2 q1
def QhG:List A->Nat->A->FL
 |[],_,_=>.mk []
 |_::r,0,x=>.mk (x::r)
 |a::r,n+1,x=>match QhG r n x with
  |.mk r'=>.mk (a::r')
theorem Qa2:∀{l:List A} {n:Nat} {x:A},YL l n=some x->QhG l n x=.mk l
 |[],n,x,h=>by cases h
 |a::r,0,x,h=>by cases h;rfl
 |a::r,n+1,x,h=>by unfold QhG;rw[Qa2 (l:=r) h]
theorem DS.is{α:Type}{b:Bool}{x y:Option α}{v:α}{xs d a:List A}{r:List Oper}(j:Nat)(h:(bif b then x else y)=some v)(g:YL xs j=some (.bool b))(f:QhG xs j (.bool true)=.mk d)(i:QhG xs j (.bool false)=.mk a)
  (t:b=true->x=some v->DS P N m l ds env H K r d)(e:b=false->y=some v->DS P N m l ds env H K r a):DS P N m l ds env H K r xs:=by
 cases b with
 |true=>simp_all[Qa2]
 |false=>simp_all[Qa2]
end
@[reducible] def RQ{β:Type}(w:β->A)(Hc:β->Qd)(r:β):A->Qd->Prop:=λa H=>a=w r/\H=Hc r
@[reducible] def Csm{β:Type}(P:Program)(f:FuncId)(args:List A)(H:Qd)(w:β->A)(r:β):Prop:=C P f args H (RQ w (λ_=>H) r)
structure TyZ where
 sl:List (Nat×Nat×Nat)
 fn:List Nat
structure Qch (P:Program) (Z:TyZ):Prop where
 sl:∀e∈Z.sl,(∀w,(underlying e.1).run P w=.ok (.slice e.2.1) w)/\ ∀w,(sizeOf e.2.1).run P w=.ok e.2.2 w
 fn:∀f∈Z.fn,∀(a:Array Value) (w:World),(callFunc f a).run P w=.ok (.enter f a) w
section
variable {P:Program} {Z:TyZ} {h0 N:Nat} {all:Array Oper} {o:Oper} {l:List Oper} {env:Env} {H:Qd} {Q:QG} {d:Nat}
theorem Izz(m:Qch P Z){α:Type}{e:α->List A}{t a k:Nat}{L:List α}{f:IntKind}{i:Int}{v:α}(h:idx L i=some v)(q:ixB o env=some (d,t,k,L.map e,f,i))(g:WO P h0 N all l (up env d (.rp (e v))) H Q)
  (p:QbC Z.sl t=some (a,k))(hg:YO all o env=some true)(j:Nat.blt d N=true):WO P h0 N all (o::l) env H Q:=by
 obtain⟨r,n⟩:=m.sl _ (Qav p);exact Ix h r n q g (QM hg) j
theorem Ize(n:Qch P Z){α:Type}{e:α->List A}{t f k:Nat}{L:List α}{j:IntKind}{i:Int}{v:α}{a:List A}(h:idx L i=some v)(he:e v=a)(q:ixB o env=some (d,t,k,L.map e,j,i))(g:WO P h0 N all l (up env d (.rp a)) H Q)
  (p:QbC Z.sl t=some (f,k))(hg:YO all o env=some true)(m:Nat.blt d N=true):WO P h0 N all (o::l) env H Q:=by
 subst he;exact Izz n h q g p hg m
theorem Lmz(i:Qch P Z){α:Type}{e:α->List A}{t f k a:Nat}{L:List α}(q:lnB o env=some (d,t,.mk (.rsl k (L.map e))))(g:WO P h0 N all l (up env d (.int .i64 L.length)) H Q)
  (j:QbC Z.sl t=some (f,a))(hg:YO all o env=some true)(h:Nat.blt d N=true):WO P h0 N all (o::l) env H Q:=by
 obtain⟨m,n⟩:=i.sl _ (Qav j);exact LnM m q g (QM hg) h
def Qfb(Z:TyZ)(o:Oper)(env:Env):Option (Nat×Nat×List A):=
 match o.dst with
 |none=>none
 |some d=>match o.op with
  |.call {callee:=.value (.func f),args:=⟨xs⟩,argTypes:=_}=>bif Qdd Z.fn f then(match fl (QgM env xs)with|.mk ax=>some (d,f,ax))else none
  |.call {callee:=.value (.tmp x),args:=⟨xs⟩,argTypes:=_}=>match opB env (.tmp x)with
   |.mk (.fn (.func f) vf vc)=>bif Qdd Z.fn f then(match fl (vf++(QgM env xs++vc))with|.mk ax=>some (d,f,ax))else none
   |_=>none
  |_=>none
theorem QdX(j:Qch P Z){f:Nat}{args:List A}(h:Qfb Z o env=some (d,f,args)):o.dst=some d/\OpC P o env H f args:=by
 unfold Qfb at h;split at h
 .cases h
 .rename_i p g;split at h
  .rename_i e i l a;cases q:Qdd Z.fn e with
   |false=>grind
   |true=>
    rw[q]at h;simp only[Qce]at h;cases h;exact⟨g,OpC.fn (j.fn _ (QfZ q)) a rfl (QcG i).symm⟩
  .rename_i x i l a;split at h
   .rename_i e m n k;cases q:Qdd Z.fn e with
    |false=>grind
    |true=>
     rw[q]at h;simp only[Qce]at h;cases h;exact⟨g,Qgn (j.fn _ (QfZ q)) a rfl (QS k) (by rw[QcG])⟩
   .cases h
  .cases h
theorem Czz(i:Qch P Z){β γ:Type}{F:Option β}{F':β->Option γ}{r:γ}{f:Nat}{args a:List A}{Hc:Qd}{w:β->A}(π:List Nat)(h:F.bind F'=some r)(t:∀v,F=some v->C P f a Hc (RQ w (λ_=>Hc) v))
  (e:Qfb Z o env=some (d,f,args))(g:∀v,F=some v->F' v=some r->WO P h0 N all l (up env d (w v)) H Q)(n:∀v,Qi6 (w v)=some (.mk (w v)))
  (hargs:args=Qak (rho π H.length) a)(s:π.map (λp=>H[p]?)=(Hc.map (QZ (rho π H.length))).map some)(hπ:π.Nodup)(hg:YO all o env=some true)(j:Nat.blt d N=true)(q:Nat.ble h0 H.length=true):WO P h0 N all (o::l) env H Q:=by
 obtain⟨v,x,k⟩:=Yh h;obtain⟨u,m⟩:=QdX (H:=H) i e
 grind[Pc,QM]
theorem DzZ(x:Qch P Z){K:List Oper->Env->Qd->Prop}{m:Nat}{i:List Oper}{e:List Nat}{xs:List A}{β γ:Type}{F:Option β}{F':β->Option γ}{r:γ}{f:Nat}{args a:List A}{Hc:Qd}{w:β->A}(π:List Nat)(h:F.bind F'=some r)(B:∀v,F=some v->C P f a Hc (RQ w (λ_=>Hc) v))
  (j:Qfb Z o (Yf (Qn o) 0 e xs env)=some (d,f,args))(g:∀v,F=some v->F' v=some r->DS P N m i e env H K l (xs++[w v]))(y:∀v,Qi6 (w v)=some (.mk (w v)))
  (hargs:args=Qak (rho π H.length) a)(z:π.map (λp=>H[p]?)=(Hc.map (QZ (rho π H.length))).map some)(hπ:π.Nodup)(hg:YO i.toArray o (Yf (Qn o) 0 e xs env)=some true)(s:Nat.blt d N=true)(q:Nat.blt xs.length m=true):DS P N m i e env H K (o::l) xs:=by
 obtain⟨v,n,t⟩:=Yh h;obtain⟨k,u⟩:=QdX x j;exact .wo (Pc π k u (B v n) (y v) (WO.nil YR.mk) hargs z hπ (QM hg) s (by simp)) (g v n t) k q
theorem ln:Qbi H [] []:=trivial
theorem ls{ax d:List A}{a:A}(k:Qbi H ax d)(h:Yq a=true:=by exact rfl):Qbi H (a::ax) (a::d):=⟨.inl ⟨rfl,h⟩,k⟩
theorem lo{ax a:List A}{i n k t:Nat}{es:List (List A)}(d:Qbi H ax a)(e:H[i]?=some (.row t k es):=by exact rfl)(hn:es.length=n:=by exact X2 ..):Qbi H (.osl i 0 n k::ax) (.rsl k es::a):=
 ⟨.inr (by grind),d⟩
theorem Cbz(m:Qch P Z){β γ:Type}{F:Option β}{F':β->Option γ}{r:γ}{f:Nat}{args a:List A}{w:β->A}(h:F.bind F'=some r)(n:∀v,F=some v->C P f a [] (RQ w (λ_=>[]) v))
  (e:Qfb Z o env=some (d,f,args))(k:Qbi H args a)(g:∀v,F=some v->F' v=some r->WO P h0 N all l (up env d (w v)) H Q)(t:∀v,Ya (w v)=true)
  (hg:YO all o env=some true)(i:Nat.blt d N=true):WO P h0 N all (o::l) env H Q:=by
 obtain⟨v,q,s⟩:=Yh h;obtain⟨p,j⟩:=QdX m e;refine QcR j k (n v q) ?_ ?_ (QM hg) p i
 .grind
 grind
end
def ixL:List Nat:=[0,1,2,3,4,5,6,7,8,9,10,11,12,13,14,15,16,17,18,19,20,21,22,23,24,25,26,27,28,29,30,31,32,33,34,35,36,37,38,39,40,41,42,43,44,45,46,47,48,49,50,51,52,53,54,55,56,57,58,59,60,61,62,63]
def QhJ:List Nat->List Nat->Nat->FN
 |a::r,b::s,j=>bif Nat.beq a j then .mk b else QhJ r s j
 |_,_,j=>.mk j
mutual
def cpA(sel:List Nat):A->Bx
 |.ptr i off=>match QhJ sel ixL i with
  |.mk j=>.mk (.ptr j off)
 |.osl i o n k=>match QhJ sel ixL i with
  |.mk j=>.mk (.osl j o n k)
 |.map i=>match QhJ sel ixL i with
  |.mk j=>.mk (.map j)
 |.fn f a c=>match cpL sel a,cpL sel c with
  |.mk a',.mk c'=>.mk (.fn f a' c')
 |a=>.mk a
def cpL(sel:List Nat):List A->FL
 |[]=>.mk []
 |a::r=>match cpA sel a,cpL sel r with
  |.mk a',.mk r'=>.mk (a'::r')
end
inductive FV where
 |mk (e:Env)
def Qkz(sel:List Nat)(env:Env):List Nat->Env->FV
 |[],nE=>.mk nE
 |s::r,nE=>match lkB env s with
  |.mk a=>match cpA sel a,Qkz sel env r nE with
   |.mk a',.mk e=>.mk ((s,a')::e)
def selH(H:Qd):List Nat->List Nat->List (Nat×Blk)->FB
 |a::r,p::ps,[]=>match YL H a,selH H r ps []with
  |some b,.mk l=>.mk (b::l)
  |none,.mk l=>.mk l
 |a::r,p::ps,(q,b)::n=>bif Nat.beq p q then(match selH H r ps n with|.mk l=>.mk (b::l))else(match YL H a,selH H r ps ((q,b)::n)with
  |some b,.mk l=>.mk (b::l)
  |none,.mk l=>.mk l)
 |_,_,_=>.mk []
def QjB(sel keep:List Nat)(nE:Env)(nH:List (Nat×Blk))(env:Env)(H:Qd):Option (Env×Qd):=
 match Qkz sel env keep nE,selH H sel ixL nH with
 |.mk e,.mk h=>some (e,h)
section
variable {P:Program} {h0 N:Nat} {c:Code} {env:Env} {H:Qd} {Q:QG}
def Qik{β:Type}(h0:Nat)(b:β)(E':β->Env)(H':β->Qd)(Q:QG):QG
 |.normal,env,H=>Le h0 env H (E' b) (H' b)
 |.exit id,env,H=>Q (.exit id) env H
 |.ret,env,H=>Q .ret env H
theorem QbQ{h0:Nat}{env:Env}{H:Qd}{Q:QG}{β:Type}{b:β}{E':β->Env}{H':β->Qd}(h:Le h0 env H (E' b) (H' b)):Qik h0 b E' H' Q .normal env H:=h
theorem Ct{β:Type}{E':β->Env}{H':β->Qd}(b:β)(sel keep:List Nat)(nE:β->Env)(nH:β->List (Nat×Blk))(_:∀b,QjB sel keep (nE b) (nH b) env H=some (E' b,H' b))(h:TC P h0 N c env H (Qik h0 b E' H' Q))(k:∀env H,Le h0 env H (E' b) (H' b)->Q .normal env H):TC P h0 N c env H Q:=
 h.mono λx env' H' q=>by
  cases x with
  |normal=>exact k _ _ q
  |exit id=>exact q
  |ret=>exact q
theorem CtE{S B:Type}{b:Ctl S B}{E':S->Env}{H':S->Qd}(sel keep:List Nat)(nE:S->Env)(nH:S->List (Nat×Blk))(_:∀s,QjB sel keep (nE s) (nH s) env H=some (E' s,H' s))(h:TC P h0 N c env H (QfN h0 b E' H' Q))(k:∀s env H,b=.cont s->Le h0 env H (E' s) (H' s)->Q .normal env H):TC P h0 N c env H Q:=QmL E' H' h k
theorem Lp{S B:Type}{step:S->Option (Ctl S B)}{E':S->Env}{H':S->Qd}{m:Nat}{s0:S}{b0:B}(sel keep:List Nat)(nE:S->Env)(nH:S->List (Nat×Blk))(h:iter step m s0=some b0)(_:∀s,QjB sel keep (nE s) (nH s) env H=some (E' s,H' s))(hI:Le h0 env H (E' s0) (H' s0))
  (body:∀s d,step s=some d->(∀b,d=.done b->b=b0)->TC P h0 N c (E' s) (H' s) (Qbh (λs env H=>Le h0 env H (E' s) (H' s)) d Q)):TC P h0 N (.loop c) env H Q:=TC.loop E' H' h hI body
end
theorem Oj{S B:Type}{d:Ctl S B}{x b0:B}(hb:∀b,d=.done b->b=b0)(h:some (Ctl.done x)=some d):x=b0:=hb x (Oi h).symm
theorem Rt{P:Program}{a:Nat}{fn:Func}{env:Env}{H:Qd}{β:Type}{e r:β}{w:β->A}{Hc:β->Qd}(h:some e=some r)(s:Nat)(π:List Nat)(d:fn.results= #[.tmp s]:=by exact rfl)(hpre:π.take a=List.range a:=by exact rfl)
  (hH:π.map (λp=>H[p]?)=((Hc e).map (QZ (rho π H.length))).map some:=by exact rfl)(hπ:π.Nodup:=by decide)(hE:QbY (rho π H.length) env [(s,w e)]:=by exact⟨rfl,trivial⟩):Jf P a fn (RQ w Hc r) .ret env H:=by
 cases h;exact R1 s d (Lr π hpre hH hπ hE)
theorem Cl{d:Nat}{env:Env}{H:Qd}{Q:QG}{β:Type}{e b:β}{E':β->Env}{H':β->Qd}(h:some e=some b)(π:List Nat)(a:π.take d=List.range d:=by exact rfl)
  (hH:π.map (λp=>H[p]?)=((H' e).map (QZ (rho π H.length))).map some:=by exact rfl)(hπ:π.Nodup:=by decide)(hE:QbY (rho π H.length) env (E' e):=by(repeat' (first|exact trivial|refine⟨rfl,?_⟩))):Qik d b E' H' Q .normal env H:=by
 cases h;exact Lr π a hH hπ hE
def plC(cat:List Nat):List (List (Nat×Nat)):=cat.map λc=>match c with|0=>[(0,0)]|1=>[(0,1)]|2=>[(1,1)]|_=>[(0,0),(1,1)]
def rqC(b:Nat)(cat:List Nat):List (List Nat):=cat.map λc=>match c with|2=>[b]|_=>[]
def hsC(cat:List Nat):List Bool:=cat.map λc=>match c with|1=>true|_=>false
section
variable {P:Program} {T:TyX} {h0 N m b:Nat} {cat:List Nat} {l:List Oper} {ds:List Nat} {env:Env} {H H1:Qd} {Q:QG} {K:List Oper->Env->Qd->Prop}
theorem Qgo{P:Program}{N:Nat}{l:List Oper}{ds:List Nat}{xs:List A}{env0:Env}{hB hE:Nat}:∀(ss:List (List (Qd×Qd))) (b:Nat),(∀i s,ss[i]?=some s->∀p∈s,Jm P N l ds xs env0 hB hE (b+i) p.1 p.2)->Qgp P N l ds xs env0 hB hE b ss
 |[],b,h=>.nil
 |s::ss,b,h=>.cons (h 0 s rfl) (Qgo ss (b+1) λi s' hs=>by rw[show b+1+i=b+(i+1)by omega];simp_all)
def Dob(P:Program)(N:Nat)(cat:List Nat)(l:List Oper)(ds:List Nat)(env:Env)(H H1:Qd)(zs:List A)(j:Nat):Prop:=
 ∀p∈(plC cat).getD j [],Jm P N l ds zs env H.length H.length j ([H,H1].getD p.1 []) ([H,H1].getD p.2 [])
def DB(P:Program)(N m:Nat)(cat:List Nat)(l:List Oper)(ds:List Nat)(env:Env)(H H1:Qd)(K:List Oper->Env->Qd->Prop)(r:List Oper)(xs:List A):Prop:=
 r=l.drop xs.length->∃ys,xs.length+ys.length=m/\(∀j,xs.length<=j->j<m->Dob P N cat l ds env H H1 (xs++ys) j)/\K (l.drop m) (Qas ds (xs++ys) env) H1
def DA(P:Program)(N m:Nat)(cat:List Nat)(l:List Oper)(ds:List Nat)(env:Env)(H:Qd)(K:List Oper->Env->Qd->Prop)(r:List Oper)(xs:List A):Prop:=
 r=l.drop xs.length->∃ys H1,xs.length+ys.length=m/\H.length<=H1.length/\(∀j,xs.length<=j->j<m->Dob P N cat l ds env H H1 (xs++ys) j)/\K (l.drop m) (Qas ds (xs++ys) env) H1
theorem QnQ{d:List A}(f:cat.length=m)(r:∀j,0<=j->j<m->Dob P N cat l ds env H H1 d j):Qgp P N l ds d env H.length (H.length+0) 0 ((plC cat).map λq=>q.map λp=>([H,H1].getD p.1 [],[H,H1].getD p.2 [])):=by
 refine Qgo _ 0 λi s a p n=>?_;rw[Xo]at a;cases e:(plC cat)[i]? with
 |none=>grind
 |some q=>
  rw[e]at a;cases a;obtain⟨g,h,rfl⟩:=Xe.1 n;have k:i<m:=by
   grind[plC]
  have:=r i (XU _) k g (by grind)
  grind
theorem DA.len(a:H.length<=H1.length):[H,H1].all (λX=>Nat.ble (H.length+0) X.length)=true:=by
 simp_all
theorem QlU{id:Nat}(m b:Nat)(cat:List Nat)(p:P.follows .mixedOrders=true)(i:QdB l m N (Qbc m 0 l) (hsC cat) (rqC b cat) [[],[b]] (plC cat)=true)(d:Nat.beq cat.length m=true)(f:Nat.ble h0 H.length=true)
  (h:DA P N m cat l (Qbc m 0 l) env H (λr e H=>WO P h0 N l.toArray r e H Q) l []):TC P h0 N (.region id l.toArray true) env H Q:=by
 obtain⟨j,H1,q,g,n,k⟩:=h rfl;have a:=XQ d;exact QX m 0 _ _ _ _ _ j [H,H1] H1 p i (by grind) rfl f (DA.len g) (by simp) rfl (QnQ a n) (by simp[plC,a]) k
theorem Qbd{xs:List A}{o:Oper}{r:List Oper}(d:o::r=l.drop xs.length):l[xs.length]?=some o/\r=l.drop (xs.length+1):=by
 have a:xs.length<l.length:=by
  grind[List.drop_eq_nil_of_le]
 rw[Xp a]at d
 grind
theorem Qgr{zs:List A}{j c:Nat}(a:YL cat j=some c)(h:∀p∈match c with|0=>[(0,0)]|1=>[(0,1)]|2=>[(1,1)]|_=>[(0,0),(1,1)],Jm P N l ds zs env H.length H.length j ([H,H1].getD p.1 []) ([H,H1].getD p.2 [])):Dob P N cat l ds env H H1 zs j:=by
 intro p d
 grind[QaB,plC]
theorem Qay{hB hE:Nat}{xs a:List A}{o:Oper}{x:A}{d:Nat}{X X':Qd}(e:l[xs.length]?=some o)(hdd:Qar hB hE X X'=true)(h:WO P X.length N l.toArray [o] (Yf (Qn o) 0 ds xs env) X (YR (up (Yf (Qn o) 0 ds xs env) d x) X'))(f:o.dst=some d):
  Jm P N l ds (xs++x::a) env hB hE xs.length X X':=
 .woE o _ d x e f QgV (he:=by
  intro s;rcases QiM (af:=Qn o) (env0:=env) (s:=s) ds xs (x::a) 0 with⟨j,y,m,k,g,i⟩|q|q
  .grind
  .grind
  grind) (hdd:=hdd) (h:=h)
theorem Y5{n:Nat}{X X':Qd}:Qar n n X X'=true:=by unfold Qar;simp
theorem DA.wo{xs:List A}{o:Oper}{r:List Oper}{x:A}{d:Nat}(h:WO P H.length N l.toArray [o] (Yf (Qn o) 0 ds xs env) H (YR (up (Yf (Qn o) 0 ds xs env) d x) H))(k:DA P N m cat l ds env H K r (xs++[x]))
  (t:YL cat xs.length=some 0:=by exact rfl)(hd:o.dst=some d:=by exact rfl)(hx:Nat.blt xs.length m=true:=by exact rfl):DA P N m cat l ds env H K (o::r) xs:=by
 intro n;obtain⟨u,i⟩:=Qbd n;obtain⟨s,H1,e,g,w,a⟩:=k (by grind);simp[Vi,Vh]at e w a;refine⟨x::s,H1,by grind,g,λj z y=>?_,a⟩;rcases VB xs.length j with q|q
 .grind
 .obtain rfl:j=xs.length:=by omega
  refine Qgr t λp f=>?_;obtain rfl:=VA.1 f;exact Qay u Y5 h hd
theorem DA.op{xs:List A}{o:Oper}{r:List Oper}{x:A}{d:Nat}(h:WO P H.length N l.toArray [o] (Yf (Qn o) 0 ds xs env) H (YR (up (Yf (Qn o) 0 ds xs env) d x) H1))(k:DB P N m cat l ds env H H1 K r (xs++[x]))(u:Nat.ble H.length H1.length=true:=by exact rfl)
  (hc:YL cat xs.length=some 1:=by exact rfl)(hd:o.dst=some d:=by exact rfl)(hx:Nat.blt xs.length m=true:=by exact rfl):DA P N m cat l ds env H K (o::r) xs:=by
 intro i;obtain⟨s,g⟩:=Qbd i;obtain⟨n,e,t,a⟩:=k (by grind);simp[Vi,Vh]at e t a;refine⟨x::n,H1,by grind,(by simp_all),λj y w=>?_,a⟩;rcases VB xs.length j with q|q
 .grind
 .obtain rfl:j=xs.length:=by omega
  refine Qgr hc λp f=>?_;obtain rfl:=VA.1 f;exact Qay s Y5 h hd
theorem DB.done{xs:List A}{r:List Oper}(a:Nat.beq xs.length m=true)(h:K r (Qas ds xs env) H1):DB P N m cat l ds env H H1 K r xs:=by
 intro f;have e:=XQ a;refine⟨[],by simpa using e,λj g d=>by omega,?_⟩
 grind
theorem DB.add{xs:List A}{o:Oper}{r:List Oper}{x:A}(g:∀ys,l[xs.length]?=some o->Dob P N cat l ds env H H1 (xs++x::ys) xs.length)(k:DB P N m cat l ds env H H1 K r (xs++[x])):DB P N m cat l ds env H H1 K (o::r) xs:=by
 intro d;obtain⟨f,a⟩:=Qbd d;obtain⟨ys,i,h,e⟩:=k (by grind)
 grind
theorem DB.wo1{xs:List A}{o:Oper}{r:List Oper}{x:A}{d:Nat}(h:WO P H1.length N l.toArray [o] (Yf (Qn o) 0 ds xs env) H1 (YR (up (Yf (Qn o) 0 ds xs env) d x) H1))(k:DB P N m cat l ds env H H1 K r (xs++[x]))
  (a:YL cat xs.length=some 2:=by exact rfl)(hd:o.dst=some d:=by exact rfl):DB P N m cat l ds env H H1 K (o::r) xs:=
 .add (λg e=>Qgr a λp f=>by
  obtain rfl:=VA.1 f;exact Qay e Y5 h hd) k
theorem DB.wo2{xs:List A}{o:Oper}{r:List Oper}{x:A}{d:Nat}(h:WO P H.length N l.toArray [o] (Yf (Qn o) 0 ds xs env) H (YR (up (Yf (Qn o) 0 ds xs env) d x) H))(g:WO P H1.length N l.toArray [o] (Yf (Qn o) 0 ds xs env) H1 (YR (up (Yf (Qn o) 0 ds xs env) d x) H1))(k:DB P N m cat l ds env H H1 K r (xs++[x]))
  (f:YL cat xs.length=some 3:=by exact rfl)(hd:o.dst=some d:=by exact rfl):DB P N m cat l ds env H H1 K (o::r) xs:=
 .add (λi e=>Qgr f λp a=>by
  rcases X6.1 a with rfl|a
  .exact Qay e Y5 h hd
  .obtain rfl:=VA.1 a;exact Qay e Y5 g hd) k
def QgF(T:TyX)(N m:Nat)(cat:List Nat)(l:List Oper)(ds:List Nat)(env:Env)(H:Qd):Nat->Nat->List Oper->List A->Option (List Oper×List A)
 |0,_,r,xs=>some (r,xs)
 |_+1,_,[],_=>none
 |n+1,i,o::r,xs=>match Nat.blt i m,YL cat i with
  |true,some 0=>match o.dst with
   |none=>none
   |some d=>match Nat.blt d N with
    |false=>none
    |true=>match YO ⟨l⟩ o (Yf (Qn o) 0 ds xs env)with
     |none=>none
     |some false=>match QcQ xs (.tup [])with
      |.mk xs'=>QgF T N m cat l ds env H n (i+1) r xs'
     |some true=>match Qc5 T o (Yf (Qn o) 0 ds xs env) H with
      |none=>none
      |some x=>match QcQ xs x with
       |.mk xs'=>QgF T N m cat l ds env H n (i+1) r xs'
  |_,_=>none
theorem Qeg(hT:QbV P T):∀(n i:Nat) {r r':List Oper} {xs xs':List A},i=xs.length->QgF T N m cat l ds env H n i r xs=some (r',xs')->DA P N m cat l ds env H K r' xs'->DA P N m cat l ds env H K r xs
 |0,i,r,r',xs,xs',_,h,k=>by cases h;exact k
 |n+1,i,[],r',xs,xs',_,h,k=>by cases h
 |n+1,i,o::r,r',xs,xs',hi,h,k=>by
  subst hi;unfold QgF at h;split at h
  .rename_i q1 q0;split at h
   .cases h
   .rename_i d hd;split at h
    .cases h
    .rename_i q2;split at h
     .cases h
     .rename_i hw;simp[Je]at h;exact .wo (WO.skip (QM hw) hd q2 (WO.nil YR.mk)) (Qeg hT n _ (by simp) h k) q0 hd q1
     .rename_i hw;split at h
      .cases h
      .rename_i x hv;simp[Je]at h;exact .wo (Y8 (QM hw) hd q2 (Qau hT hv) (WO.nil YR.mk)) (Qeg hT n _ (by simp) h k) q0 hd q1
  .cases h
theorem Ql6{H:Qd}{p:Bx}{r:Lx}(h:ptX [] p=some r):ptX H p=some r:=by
 unfold ptX at h⊢
 grind[YL]
theorem Qd2{o:Oper}{e:Env}{H:Qd}{x:A}(h:Qc5 T o e []=some x):Qc5 T o e H=some x:=by
 unfold Qc5 at h⊢;split at h<;>first|exact h|skip
 split at h
 .cases h
 grind[Ql6]
def Qef(T:TyX)(N:Nat)(cat:List Nat)(l:List Oper)(ds:List Nat)(env:Env)(H1:Qd):Nat->Nat->List Oper->List A->Option (List Oper×List A)
 |0,_,r,xs=>some (r,xs)
 |_+1,_,[],_=>none
 |n+1,i,o::r,xs=>match o.dst with
  |none=>none
  |some d=>match Nat.blt d N with
   |false=>none
   |true=>match YO ⟨l⟩ o (Yf (Qn o) 0 ds xs env)with
    |none=>none
    |some false=>match YL cat i with
     |some 2=>(match QcQ xs (.tup [])with
      |.mk xs'=>Qef T N cat l ds env H1 n (i+1) r xs')
     |some 3=>(match QcQ xs (.tup [])with
      |.mk xs'=>Qef T N cat l ds env H1 n (i+1) r xs')
     |_=>none
    |some true=>match YL cat i with
     |some 2=>(match Qc5 T o (Yf (Qn o) 0 ds xs env) H1 with
      |none=>none
      |some x=>match QcQ xs x with
       |.mk xs'=>Qef T N cat l ds env H1 n (i+1) r xs')
     |some 3=>(match Qc5 T o (Yf (Qn o) 0 ds xs env) []with
      |none=>none
      |some x=>match QcQ xs x with
       |.mk xs'=>Qef T N cat l ds env H1 n (i+1) r xs')
     |_=>none
theorem QbI(hT:QbV P T):∀(n i:Nat) {r r':List Oper} {xs xs':List A},i=xs.length->Qef T N cat l ds env H1 n i r xs=some (r',xs')->DB P N m cat l ds env H H1 K r' xs'->DB P N m cat l ds env H H1 K r xs
 |0,i,r,r',xs,xs',_,h,k=>by cases h;exact k
 |n+1,i,[],r',xs,xs',_,h,k=>by cases h
 |n+1,i,o::r,r',xs,xs',hi,h,k=>by
  subst hi;unfold Qef at h;split at h
  .cases h
  .rename_i d hd;split at h
   .cases h
   .rename_i q2;split at h
    .cases h
    .rename_i hw;split at h
     .rename_i q0;simp[Je]at h;exact .wo1 (WO.skip (QM hw) hd q2 (WO.nil YR.mk)) (QbI hT n _ (by simp) h k) q0 hd
     .rename_i q0;simp[Je]at h;exact .wo2 (WO.skip (QM hw) hd q2 (WO.nil YR.mk)) (WO.skip (QM hw) hd q2 (WO.nil YR.mk)) (QbI hT n _ (by simp) h k) q0 hd
     .cases h
    .rename_i hw;split at h
     .rename_i q0;split at h
      .cases h
      .rename_i x hv;simp[Je]at h;exact .wo1 (Y8 (QM hw) hd q2 (Qau hT hv) (WO.nil YR.mk)) (QbI hT n _ (by simp) h k) q0 hd
     .rename_i q0;split at h
      .cases h
      .rename_i x hv;simp[Je]at h;exact .wo2 (Y8 (QM hw) hd q2 (Qau hT (Qd2 hv)) (WO.nil YR.mk)) (Y8 (QM hw) hd q2 (Qau hT (Qd2 hv)) (WO.nil YR.mk)) (QbI hT n _ (by simp) h k) q0 hd
     .cases h
end
def chkF(L:List (Nat×List (Nat×Nat)))(fs:List (Nat×Nat×Nat)):Bool:=
 fs.all λe=>match QbC L e.1 with
  |some pl=>(match YL pl e.2.1 with
   |some q=>Nat.beq q.1 e.2.2&& !(Nat.beq q.2 0)
   |none=>false)
  |none=>false
theorem PL.get{P:Program}{fs:List Field}{d:List (Nat×Nat)}(h:PL P fs d):∀{f a n:Nat},YL d f=some (a,n)->∃fd,fs[f]?=some fd/\fd.offset=a/\ ∀w,(sizeOf fd.type).run P w=.ok n w:=by
 induction h with
 |nil=>intro f a n h;cases h
 |cons h k g=>
  intro f a n e;cases f with
  |zero=>cases e;grind
  |succ f=>grind[YL]
theorem Qnv{P:Program}{L:List (Nat×List (Nat×Nat))}{fs:List (Nat×Nat×Nat)}(l:∀e∈L,Qdk P e.1 e.2)(h:chkF L fs=true):∀e∈fs,∃n,Qai P e.1 e.2.1 e.2.2 n:=by
 intro e g;have:=Xs.1 h e g;split at this
 .rename_i u a;split at this
  .rename_i q r;obtain⟨m,n⟩:=q;simp only[XW,Bool.not_eq_true']at this;have f:=XQ this.1;obtain⟨d,s,j⟩:=l _ (Qav a);obtain⟨p,t,i,k⟩:=PL.get j r;refine⟨n,⟨⟨_,p,s,by grind,i.trans f,k,?_⟩⟩⟩
   grind[Nat.beq_refl]
  .cases this
 .cases this
section
variable {P:Program} {Z:TyZ} {h0 N:Nat} {all:Array Oper} {o:Oper} {l:List Oper} {env:Env} {H:Qd} {Q:QG} {d:Nat}
theorem Cdz(k:Qch P Z){β γ:Type}{F:Option β}{F':β->Option γ}{r:γ}{f:Nat}{args a:List A}{Hc:Qd}{w:β->A}{Hr:β->Qd}(π:List Nat)(h:F.bind F'=some r)(q:∀v,F=some v->C P f a Hc (RQ w Hr v))
  (e:Qfb Z o env=some (d,f,args))(g:∀v,F=some v->F' v=some r->WO P h0 N all l (up env d (YK (rho π H.length) (w v))) (QW H π ((Hr v).map (QZ (rho π H.length)))) Q)
  (hargs:args=Qak (rho π H.length) a)(n:π.map (λp=>H[p]?)=(Hc.map (QZ (rho π H.length))).map some)(hπ:π.Nodup)(hg:YO all o env=some true)(i:Nat.blt d N=true)(m:Nat.ble h0 H.length=true):WO P h0 N all (o::l) env H Q:=by
 obtain⟨v,t,u⟩:=Yh h;obtain⟨s,j⟩:=QdX (H:=H) k e;refine Qw π j (q v t) ?_ hargs n hπ (QM hg) s i m
 grind
end
inductive FLL where
 |mk (l:List (List A))
def cpLL(sel:List Nat):List (List A)->FLL
 |[]=>.mk []
 |a::r=>match cpL sel a,cpLL sel r with
  |.mk a',.mk r'=>.mk (a'::r')
inductive FBk where
 |mk (b:Blk)
def cpBk(sel:List Nat):Blk->FBk
 |.cells t cs=>match cpL sel cs with
  |.mk l=>.mk (.cells t l)
 |.rowr t k es=>match cpLL sel es with
  |.mk l=>.mk (.rowr t k l)
 |.wins t a n c=>match QhJ sel ixL a with
  |.mk a'=>.mk (.wins t a' n c)
 |.ents t a b es=>match QhJ sel ixL a,QhJ sel ixL b with
  |.mk a',.mk b'=>.mk (.ents t a' b' es)
 |b=>.mk b
def selD(H:Qd)(sel:List Nat):List Nat->FB
 |[]=>.mk []
 |a::r=>match YL H a with
  |some b=>(match cpBk sel b,selD H sel r with
   |.mk b',.mk l=>.mk (b'::l))
  |none=>.mk []
def retC(sel sl:List Nat)(env:Env)(H:Qd):Option (Env×Qd):=
 match Qkz sel env sl [],selD H sel sel with
 |.mk e,.mk h=>some (e,h)
theorem Rx{P:Program}{e:Nat}{fn:Func}{env E':Env}{H H':Qd}{Qr:A->Qd->Prop}{f:A}(π sl:List Nat)(_:retC π sl env H=some (E',H'))(a:QbW P fn E' H' f)(g:Qr f H')(d:π.take e=List.range e:=by exact rfl)
  (hH:π.map (λp=>H[p]?)=(H'.map (QZ (rho π H.length))).map some:=by exact rfl)(hπ:π.Nodup:=by decide)(hE:QbY (rho π H.length) env E':=by(repeat' (first|exact trivial|refine⟨rfl,?_⟩))):Jf P e fn Qr .ret env H:=
 ⟨E',H',f,Lr π d hH hπ hE,a,g⟩
def nxL{T:Type}:List T->T->List T->Prop:=λl x rem=>l=x::rem
def Qiy{S T B:Type}(step:S->Option (List T×Ctl S B)):Nat->S->Option (List T×B)
 |0,_=>none
 |n+1,s=>(step s).bind λp=>match p.2 with
  |.cont s'=>(Qiy step n s').bind λq=>some (p.1++q.1,q.2)
  |.done b=>some (p.1,b)
section
variable {T:Type} {X:Ctx T} {P:Program} {h0 N:Nat} {c:Code} {env:Env} {H:Qd} {st:YSt T} {Q:Jb T}
def QlJ{S B:Type}(h0:Nat)(E:S->Env)(Hp:S->Qd)(d:Ctl S B)(rest:List T)(Q:Jb T):Jb T
 |.normal,env,H,st=>∃s,d=.cont s/\Le h0 env H (E s) (Hp s)/\st=.on rest
 |.exit id,env,H,st=>Q (.exit id) env H st
 |.ret,env,H,st=>Q .ret env H st
theorem QjK{S B:Type}{step:S->Option (List T×Ctl S B)}{E:S->Env}{Hp:S->Qd}{m:Nat}{s0:S}{l rem:List T}{b:B}(h:Qiy step m s0=some (l,b))(u:Le h0 env H (E s0) (Hp s0))
  (a:∀s zs d rest,step s=some (zs,d)->(∀b',d=.done b'->b'=b/\rest=rem)->TCy X P h0 N c (E s) (Hp s) (.on (zs++rest)) (QlJ h0 E Hp d rest Q)):TCy X P h0 N (.loop c) env H (.on (l++rem)) Q:=by
 refine QjL (I:=λn env H r=>∃s f,Qiy step n s=some (f,b)/\r=.on (f++rem)/\Le h0 env H (E s) (Hp s)) ?_ ⟨s0,l,h,rfl,u⟩;rintro n env H r ⟨s,f,g,rfl,p⟩;cases n with
 |zero=>cases g
 |succ n=>
  obtain⟨⟨zs,d⟩,t,g⟩:=Yh g;refine TCy.le p ?_;cases d with
  |cont y=>
   obtain⟨⟨z,G⟩,F,g⟩:=Yh g;cases g;rw[Vi];refine(a s zs (.cont y) (z++rem) t (λb' e=>by cases e)).mono ?_;rintro x i H' k q;cases x with
   |normal=>
    obtain⟨w,e,j,rfl⟩:=q;cases e;exact⟨n,Xn n,_,_,F,rfl,j⟩
   |exit id=>exact q
   |ret=>exact q
  |done b'=>
   cases g;refine(a s _ (.done b) rem t (λb' e=>by cases e;exact⟨rfl,rfl⟩)).mono ?_;rintro x i H' k q;cases x with
   |normal=>obtain⟨w,e,_⟩:=q;cases e
   |exit id=>exact q
   |ret=>exact q
def kqY(X:Ctx T)(P:Program)(h0 N:Nat):List Kf->Jb T->Jb T
 |[],Q=>Q
 |.seq c::k,Q=>SeqY X P h0 N c (kqY X P h0 N k Q)
 |.blo id::k,Q=>BloY id (kqY X P h0 N k Q)
 |.unr c::k,Q=>λ_ _ _ _=>False
theorem TCy.lf{k:List Kf}(h:TC P h0 N c env H (λx env H=>kqY X P h0 N k Q x env H st)):TCy X P h0 N c env H st (kqY X P h0 N k Q):=TCy.lift h
theorem WOy.y1{all:Array Oper}{o:Oper}{r:List Oper}{d:Nat}{x:T}{l:List T}{e:T->A}{y z:Operand}{f:Array TypeId}(hE:X.enc=λx=>[e x])(a:X.nx=nxL)(h:o.op=.call {callee:=.value y,args:= #[z],argTypes:=f})(g:opA env y=.fn (.yield X.l) [] [])(j:opA env z=e x)(i:Yq (e x)=true)
  (k:WOy X P h0 N all r (up env d (.bool true)) H (.on l) Q)(m:WOy X P h0 N all r (up env d (.bool false)) H (.off l) Q)(hg:QI all o env true:=by exact rfl)(hd:o.dst=some d:=by exact rfl)(hNd:Nat.blt d N=true:=by exact rfl):WOy X P h0 N all (o::r) env H (.on (x::l)) Q:=by
 refine WOy.yield (by rw[a];rfl) hg hd hNd ?_ ?_
 .rw[hE];exact Qka h g j i
 grind
theorem WOy.y2{all:Array Oper}{o:Oper}{r:List Oper}{d:Nat}{x:T}{l:List T}{e i:T->A}{y j k:Operand}{n:Array TypeId}(hE:X.enc=λx=>[e x,i x])(m:X.nx=nxL)(q:o.op=.call {callee:=.value y,args:= #[j,k],argTypes:=n})(p:opA env y=.fn (.yield X.l) [] [])(h:opA env j=e x)(f:opA env k=i x)(g:Yq (e x)=true)(a:Yq (i x)=true)
  (s:WOy X P h0 N all r (up env d (.bool true)) H (.on l) Q)(t:WOy X P h0 N all r (up env d (.bool false)) H (.off l) Q)(hg:QI all o env true:=by exact rfl)(hd:o.dst=some d:=by exact rfl)(hNd:Nat.blt d N=true:=by exact rfl):WOy X P h0 N all (o::r) env H (.on (x::l)) Q:=by
 refine WOy.yield (by rw[m];rfl) hg hd hNd ?_ ?_
 .rw[hE];exact Qi3 q p h f g a
 grind
end
section
variable {T:Type} {X:Ctx T} {P:Program} {h0 N:Nat} {c c':Code} {env:Env} {H:Qd} {st:YSt T} {Q:Jb T}
theorem TCy.lp{S B:Type}{step:S->Option (List T×Ctl S B)}{E':S->Env}{H':S->Qd}{m:Nat}{s0:S}{ys rem:List T}{b:B}(sel keep:List Nat)(nE:S->Env)(nH:S->List (Nat×Blk))(h:Qiy step m s0=some (ys,b))(_:∀s,QjB sel keep (nE s) (nH s) env H=some (E' s,H' s))(hI:Le h0 env H (E' s0) (H' s0))
  (body:∀s zs d rest,step s=some (zs,d)->(∀b',d=.done b'->b'=b/\rest=rem)->TCy X P h0 N c (E' s) (H' s) (.on (zs++rest)) (QlJ h0 E' H' d rest Q)):TCy X P h0 N (.loop c) env H (.on (ys++rem)) Q:=QjK h hI body
end
open Go.MapKept
section
variable {fr ro:Nat->Prop} {σ:Sig} {H:Qd} {w:World}
end
end Go.Sw
namespace Go.Sw
open Go.MapKept
def QbB{α β:Type}(ek:α->A)(ev:β->List A)(l:List (α×Option (List β))):List (A×Option (List (List A))):=l.map λp=>(ek p.1,p.2.map (List.map ev))
def Qiv{α β:Type}[DecidableEq α](l:List (α×Option (List β)))(x:α):List (α×Option (List β)):=l.map λp=>bif decide (p.1=x)then(p.1,none)else p
section
variable {P:Program} {kt:TypeId} {α β:Type} [DecidableEq α] {ek:α->A} {ev:β->List A} {ro:Nat->Prop} {w:World} {t k:Nat} (K:Ju P kt ek)
include K
theorem QiX{x:α}:∀{l:List (α×Option (List β))} {es:List MapEntry},MO ro w t k (QbB ek ev l) es->MO ro w t k (QbB ek ev (Qiv l x)) es
 |[],es,h=>h
 |p::l,es,h=>by
  obtain⟨e,l',rfl,h1,h2,h3⟩:=h;by_cases q:p.1=x
  .refine⟨e,l',rfl,by grind,λrows hr=>?_,QiX h3⟩
   grind
  .refine⟨e,l',rfl,by grind,(by grind),QiX h3⟩
omit K
theorem Qdm{x:α}{c:Nat}:∀{l:List (α×Option (List β))} {es:List MapEntry},QdM (QbB ek ev (Qiv l x)) es c->QdM (QbB ek ev l) es c
 |[],es,h=>by cases es<;>exact h.elim
 |p::l,[],h=>h.elim
 |p::l,e::es,h=>by
  rcases h with⟨h1,h2⟩|h
  .by_cases q:p.1=x
   .grind
   .exact .inl ⟨by grind,h2⟩
  .exact .inr (Qdm h)
theorem Qj4{x:α}:∀{l:List (α×Option (List β))} {es:List MapEntry},Qih (QbB ek ev l) es->Qih (QbB ek ev (Qiv l x)) es
 |[],es,h=>by cases es<;>trivial
 |p::l,[],h=>trivial
 |p::l,e::es,h=>by
  obtain⟨h1,h2⟩:=h;refine⟨λc q1 q2 q3=>?_,Qj4 h2⟩;by_cases q:p.1=x
  .grind
  .exact h1 c (by grind) q2 (Qdm q3)
include K
theorem MO.find:∀{l:List (α×Option (List β))} {es:List MapEntry},MO ro w t k (QbB ek ev l) es->∀(x:α),(es.map (·.key)).Nodup->
  ((∀e:MapEntry,e∈es->e.key≠QO (ek x))->Y3 l x=none)/\
  (∀(j:Nat) (e:MapEntry),es[j]?=some e->e.key=QO (ek x)->∃q,Y3 l x=some q/\(∀rows,q=some rows->SO ro w t k (rows.map ev) e.val)/\
   ∀c p n cap,q.isSome=true->e.val=.slice (some ⟨c,p,none⟩) n cap->QdM (QbB ek ev l) es c/\(Qih (QbB ek ev l) es->¬QdM (QbB ek ev (Qiv l x)) es c))
 |[],es,h,x,_=>by
  cases(show es=[]from h);exact⟨λ_=>rfl,(by simp)⟩
 |p::l,es,h,x,hn=>by
  obtain⟨e0,l',rfl,h1,h2,h3⟩:=h;have hk:=VR.val (K.scl _) h1;simp only[Vj,List.nodup_cons]at hn;obtain⟨a1,a2⟩:=MO.find (l:=l) h3 x hn.2;by_cases hp:p.1=x
  .subst hp;constructor
   .grind
   .intro j e he hx;cases j with
    |zero=>
     simp only[XE,Option.some.injEq]at he;subst he;refine⟨p.2,by simp[Y3],(by grind),λc p' n cap hs hv=>⟨.inl (by grind),λhd hq=>?_⟩⟩;rcases hq with⟨q1,_⟩|hq
     .simp at q1
     .exact hd.1 c (by grind) ⟨p',n,cap,hv⟩ (Qdm (l:=l) hq)
    |succ j=>
     grind
  .have e1:Y3 (p::l) x=Y3 l x:=by simp[Y3,hp]
   rw[e1];constructor
   .grind
   .intro j e he hx;cases j with
    |zero=>
     simp only[XE,Option.some.injEq]at he;subst he;exact absurd (K.inj _ _ (hk.symm.trans hx)) hp
    |succ j=>
     obtain⟨q,d,g,i⟩:=a2 j e (by grind) hx;refine⟨q,d,g,λc p' n cap hs hv=>?_⟩;obtain⟨a,f⟩:=i c p' n cap hs hv;refine⟨.inr a,λhd hq=>?_⟩;rcases hq with⟨q1,m⟩|hq
     .exact hd.1 c (by grind) m a
     .exact f hd.2 hq
end
section
variable {P:Program} {o:Oper} {env:Env} {H:Qd}
variable {T kt et:Nat} {α β:Type} [DecidableEq α] {ek:α->A} {ev:β->List A} {x y:Operand} {i t k:Nat} {l:List (α×Option (List β))} {key:α} {rows:List β}
end
end Go.Sw
namespace Go.Sw
open Go.MapKept
theorem MO.append{ro:Nat->Prop}{w:World}{t k:Nat}:∀{l m:List (A×Option (List (List A)))} {es fs:List MapEntry},MO ro w t k l es->MO ro w t k m fs->MO ro w t k (l++m) (es++fs)
 |[],m,es,fs,h,q=>by cases(show es=[]from h);exact q
 |p::l,m,es,fs,h,q=>by
  obtain⟨e,l',rfl,h1,h2,h3⟩:=h;exact⟨e,l'++fs,rfl,h1,h2,MO.append h3 q⟩
theorem MO.length{ro:Nat->Prop}{w:World}{t k:Nat}:∀{l:List (A×Option (List (List A)))} {es:List MapEntry},MO ro w t k l es->es.length=l.length
 |[],es,h=>by cases(show es=[]from h);rfl
 |p::l,es,h=>by
  obtain⟨e,l',rfl,h1,h2,h3⟩:=h;simp[MO.length h3]
def SlB(v:Value)(c:Nat):Prop:=∃p n cap,v=.slice (some ⟨c,p,none⟩) n cap
section
variable {P:Program} {kt:TypeId} {α β:Type} [DecidableEq α] {ek:α->A} {ev:β->List A} {ro:Nat->Prop} {w:World} {t k:Nat} (K:Ju P kt ek)
def Qda{α β:Type}[DecidableEq α](l:List (α×Option (List β)))(x:α)(rows:List β):List (α×Option (List β)):=l.map λp=>bif decide (p.1=x)then(p.1,some rows)else p
include K
theorem Qfq{x:α}{rows:List β}:∀{l:List (α×Option (List β))} {es:List MapEntry},MO ro w t k (QbB ek ev l) es->(∀e∈es,e.key≠QO (ek x))->Qda l x rows=l
 |[],es,h,q=>rfl
 |p::l,es,h,q=>by
  obtain⟨e,l',rfl,h1,h2,h3⟩:=h;have hk:=VR.val (K.scl _) h1;have hp:p.1≠x:=(by grind);have:=Qfq h3 (λe he=>q e (by simp[he])) (rows:=rows)
  simp_all[Qda]
theorem MO.put{x:α}{rows:List β}{v:Value}(n:SO ro w t k (rows.map ev) v):∀{l:List (α×Option (List β))} {es:List MapEntry} {j:Nat} {e:MapEntry},MO ro w t k (QbB ek ev l) es->
  (es.map (·.key)).Nodup->es[j]?=some e->e.key=QO (ek x)->
  MO ro w t k (QbB ek ev (Qda l x rows)) (es.modify j λe=>{e with key:=QO (ek x),val:=v})/\
  (∀c,QdM (QbB ek ev (Qda l x rows)) (es.modify j λe=>{e with key:=QO (ek x),val:=v}) c->QdM (QbB ek ev l) es c\/SlB v c)/\
  (Qih (QbB ek ev l) es->(∀c,QdM (QbB ek ev l) es c->¬SlB v c)->Qih (QbB ek ev (Qda l x rows)) (es.modify j λe=>{e with key:=QO (ek x),val:=v}))
 |[],es,j,e,h,hn,he,hk=>by cases(show es=[]from h);simp at he
 |p::l,es,j,e,h,hn,he,hk=>by
  obtain⟨e0,l',rfl,h1,h2,h3⟩:=h;have hk0:=VR.val (K.scl _) h1;simp only[Vj,List.nodup_cons]at hn;cases j with
  |zero=>
   simp[XE,Option.some.injEq]at he;subst he;have hp:=K.inj _ _ (hk0.symm.trans hk);have e0':Qda l x rows=l:=Qfq K h3 λe he z=>hn.1 (by rw[hk, <- z];exact VF he);have e1:Qda (p::l) x rows=(p.1,some rows)::l:=by
    have:Qda (p::l) x rows=(p.1,some rows)::Qda l x rows:=by simp[Qda,hp]
    rw[this,e0']
   rw[e1];refine⟨⟨_,l',rfl,?_,?_,h3⟩,?_,?_⟩
   .rw[<- hp];exact QcS (K.scl _)
   .intro d s;cases s;exact n
   .rintro c (⟨_,q⟩|q)
    .exact .inr q
    .exact .inl (.inr q)
   .rintro⟨i,f⟩ a;exact⟨λc _ q z=>a c (.inr z) q,f⟩
  |succ j=>
   have hp:p.1≠x:=by
    intro q;refine hn.1 (Xe.2 ⟨e,VG he,?_⟩);rw[hk,hk0,q]
   obtain⟨u,g,y⟩:=MO.put n h3 hn.2 he hk;have e1:Qda (p::l) x rows=p::Qda l x rows:=by simp[Qda,hp]
   rw[e1];refine⟨⟨_,_,rfl,h1,h2,u⟩,?_,?_⟩
   .rintro c (q|q)
    .exact .inl (.inl q)
    .exact(g c q).imp .inr id
   .rintro⟨i,f⟩ a;refine⟨λc r m z=>?_,y f λc B=>a c (.inr B)⟩;rcases g c z with z|z
    .exact i c r m z
    .exact a c (.inl ⟨r,m⟩) z
end
section
variable {P:Program} {o:Oper} {env:Env} {H:Qd}
variable {T kt et:Nat} {α β:Type} [DecidableEq α] {ek:α->A} {ev:β->List A} {x y zz:Operand} {i j t k n:Nat} {l m:List (α×Option (List β))} {key:α} {rows:List β}
end
end Go.Sw
namespace Go.Sw
open Go.MapKept
section
variable {fr ro:Nat->Prop} {σ:Sig} {H:Qd} {w:World}
theorem MO.er{t k:Nat}:∀{es:List (A×Option (List (List A)))} {l:List MapEntry},MO ro w t k es l->ER ro [] w (es.map λe=>(e.1,.any)) l
 |[],_,h=>h
 |x::r,_,⟨e,l',h1,h2,h3,h4⟩=>⟨e,l',h1,h2,trivial,MO.er h4⟩
end
section
variable {P:Program} {o:Oper} {env:Env} {H:Qd} {T kt et i t k:Nat} {x:Operand} {es:List (A×Option (List (List A)))}
end
section
variable {P:Program} {o:Oper} {env:Env} {H:Qd}
variable {T kt et:Nat} {α β:Type} [DecidableEq α] {ek:α->A} {ev:β->List A} {x y zz:Operand} {i j t k n:Nat} {l m:List (α×Option (List β))} {key:α} {rows:List β}
end
end Go.Sw
namespace Go.Sw
open Go.MapKept
section
variable {P:Program} {o:Oper} {env:Env} {H:Qd}
variable {T kt et:Nat} {α β:Type} [DecidableEq α] {ek:α->A} {ev:β->List A} {x y zz:Operand} {i j t k n:Nat} {l m:List (α×Option (List β))} {key:α} {rows:List β}
end
end Go.Sw
