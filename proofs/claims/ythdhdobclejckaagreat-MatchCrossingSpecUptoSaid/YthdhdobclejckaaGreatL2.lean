/- The rules by which the code is walked, with what they rest on (part 2). -/
import Derived.Test.YthdhdobclejckaaGreatL1
import Derived.Below
import GoSem.ClaimChange
import Derived.Shelf.Strings.Search3
import Derived.Lib.LazyBuf
import Derived.Shelf.Sort.Plain
import Derived.Shelf.Slices.In.SortNone
import Derived.Shelf.Slices.CompactI
import Derived.RangeFuncIn
import Derived.RangeFuncSeq
import Derived.RangeFuncNested
import Derived.Lib.Bytealg
import Derived.Laws.Externs
import Derived.LaidLaws
import Derived.Lib.LaidTab
import Derived.ChangeArms
import Derived.ChangeSame
import Derived.Laws.BytesString
set_option linter.unusedVariables false
set_option linter.unusedSectionVars false
set_option linter.unusedSimpArgs false
namespace Go.Sw
open Go.Sort Go.Proofs Go.Shelf
theorem Qdz{α:Type}{k:Nat}:∀(vs:List (List α)) (j:Nat),(∀v∈vs,v.length=k)->j<vs.length*k->vs.flatten[j]?=(vs[j/k]?).bind λv=>v[j%k]?
 |[],j,_,h=>by simp at h
 |v::vs,j,hk,h=>by
  have hv:=hk v (by simp);have k0:0<k:=by
   rcases Nat.eq_zero_or_pos k with q|q
   .subst q;simp at h
   .exact q
  rw[Vl];by_cases q:j<k
  .rw[XM (by omega),Nat.div_eq_of_lt q,Nat.mod_eq_of_lt q];simp
  .rw[XN (by omega),hv,Qdz vs (j-k) (λv hv=>hk v (by simp[hv])) (by simp[Xm]at h;omega)];have d:j/k=(j-k)/k+1:=by rw[Nat.div_eq_sub_div k0 (by omega)]
   have a:j%k=(j-k)%k:=Nat.mod_eq_sub_mod (by omega);rw[d,a,XF]
theorem Qan{α:Type}{k:Nat}:∀(vs:List (List α)),(∀v∈vs,v.length=k)->vs.flatten.length=vs.length*k
 |[],_=>by simp
 |v::vs,h=>by rw[Vl,X3,Qan vs (λv hv=>h v (by simp[hv])),h v (by simp),X0,Xm];omega
theorem Qa0{α:Type}(F:List α)(j:Nat):F.toArray[j]?=F[j]? :=by simp
theorem QgW{α:Type}[Inhabited α](F:List α)(j:Nat)(h:j<F.length):F[j]?=some (F.toArray[j]!):=by simp[h]
theorem Qg1{β:Type}[Inhabited β]{enc:β->List Value}{k:Nat}(f:∀x,(enc x).length=k)(d:Array β):flatK enc k d=((d.toList.map enc).flatten).toArray:=by
 have a:∀v∈d.toList.map enc,v.length=k:=by
  intro v i;obtain⟨x,_,rfl⟩:=Xe.1 i;exact f x
 apply Array.ext_getElem?;intro t;rw[Qa0 ((d.toList.map enc).flatten) t];by_cases h:t<d.size*k
 .rw[Qdz _ t a (by simpa using h)];have j:0<k:=by
   rcases Nat.eq_zero_or_pos k with q|q
   .subst q;simp at h
   .exact q
  have h1:=Nat.div_lt_of_lt_mul (by rw[Nat.mul_comm];exact h);have l:t%k<k:=Nat.mod_lt _ j;have g:t<(flatK enc k d).size:=by simpa using h
  have e:=get_flatK enc k d t h;rw[getElem!_pos (flatK enc k d) t g]at e;rw[Array.getElem?_eq_getElem g,e];simp[h1];rw[XK (by rw[f];exact l)];rfl
 .have e:(d.toList.map enc).flatten.length=d.size*k:=by rw[Qan _ a];simp
  rw[Array.getElem?_eq_none (by simpa using h),XO (by omega)]
section
variable {ro:Nat->Prop} {σ:Sig} {w:World} {T:Type} {enc:T->List A} {k:Nat}
theorem RL.parts:∀{l:List T} {lv:List Value},RL ro σ w k (l.map enc) lv->
  ∃(ps:List (T×List Value)) (rest:List Value),ps.map (·.1)=l/\lv=(ps.map (·.2)).flatten++rest/\ ∀p∈ps,p.2.length=k/\LR ro σ w (enc p.1) p.2/\ ∀v∈p.2,QA v
 |[],lv,_=>⟨[],lv,rfl,rfl,by simp⟩
 |x::l,lv,h=>by
  obtain⟨l1,l2,rfl,h1,⟨h2,h3⟩,h4⟩:=h;obtain⟨ps,rest,e1,rfl,h5⟩:=RL.parts h4;refine⟨(x,l1)::ps,rest,by simp[e1],by simp,?_⟩;intro p hp;rcases X6.1 hp with rfl|hp
  .exact⟨by rw[h2.length];exact h1,h2,h3⟩
  .exact h5 p hp
theorem QdJ(hk:∀x,(enc x).length=k):∀{ps:List (T×List Value)} {rest:List Value},(∀p∈ps,LR ro σ w (enc p.1) p.2/\ ∀v∈p.2,QA v)->RL ro σ w k ((ps.map (·.1)).map enc) ((ps.map (·.2)).flatten++rest)
 |[],_,_=>trivial
 |p::ps,rest,h=>by
  refine⟨p.2,(ps.map (·.2)).flatten++rest,by simp,hk _,h p (by simp),QdJ hk λq hq=>h q (by simp[hq])⟩
end
structure Elt (ro:Nat->Prop) (w:World) {T:Type} (enc:T->List A) (k:Nat) (l:List T) where
 x:T
 vs:List Value
 mem:x∈l
 len:vs.length=k
 rel:LR ro [] w (enc x) vs
 plain:∀v∈vs,QA v
theorem Qjh{v:Value}(h:QA v):v.oneCell'=true:=by cases v<;>first|rfl|exact h.elim
theorem QmW{P:Program}{ρ:Ren}(L:SlLaysF0.n6 P ρ){T:Type}[DecidableEq T]{enc:T->List A}{k t g:Nat}{cap:List A}{l l':List T}{cf:T->T->Option Int}(hs:QgC cf l=some l')
  (a8:∀x y c,cf x y=some c->C P g ([.agg (enc x),.agg (enc y)]++cap) [] (λa H=>a=.int .i64 c/\H=[]))
  (aE:∀w,(isAgg (ρ.t 24)).run P w=.ok true w)(zE:∀w,(Go.sizeOf (ρ.t 24)).run P w=.ok k w)(eg:∀args w,(callFunc g args).run P w=.ok (.enter g args) w)
  (hk:∀x,(enc x).length=k)(hd:Yw cap=true):
  C P (ρ.f 6) [.osl 0 0 l.length k,.fn (.func g) [] cap] [.row t k (l.map enc)] (λa H=>a=.tup []/\H=[.row t k (l'.map enc)]):=by
 intro fr G σ vals w s hv;obtain⟨vs,r1,rfl,be,vf,r2,rfl,bn,hr⟩:=hv;cases(show r2=[]from hr);obtain⟨lf,lc,rfl,h1,a1⟩:=bn;cases(show lf=[]from h1);have ar:LR G [] w cap lc:=LR.data hd a1;obtain⟨a2,am,O,au,bb⟩:=QgB hs;have E:∀(ad:Option Addr) (c:Nat),vs=.slice ad 0 c->l=[]->
   Calls P (ρ.f 6) [vs,.func (.func g) #[] lc.toArray].toArray w λe w'=>∃v r H' af τ,e=.returned v/\(r=.tup []/\H'=[.row t k (l'.map enc)])/\Sim fr af (σ++τ) H' w'/\VR af (σ++τ) w' r v/\Qm fr G w af w':=by
  rintro ad c rfl rfl;have ac:l'=[]:=by rw[<- bb];rfl
  subst ac;refine(AnyF.slices_SortFunc_none L ad c (.func (.func g) #[] lc.toArray) w).mono ?_;rintro e w' ⟨rfl,rfl⟩;exact⟨_,_,_,G,[],rfl,⟨rfl,rfl⟩,by simpa using s,⟨[],rfl,rfl⟩,Qm.refl _ _ _⟩
 rcases be with⟨h0,rfl⟩|⟨b,p,cp,t',m,q1,rfl,q2,⟨q3,bs⟩,q4,q5⟩
 .exact E none 0 rfl (VI.1 h0)
 .by_cases ac:l=[]
  .subst ac;exact E _ cp rfl rfl
  .have bh:0<l.length:=List.length_pos_iff.2 ac;obtain rfl:=q2 (Vf bh q3);obtain⟨lv,e1,e2⟩:=s.blk 0 _ _ q1 rfl;obtain⟨hb,ai,bc⟩:=s.own 0 b _ q1 rfl rfl;obtain⟨V,J,ba,rfl,ah⟩:=RL.parts e2
   let α:=Elt G w enc k l
   have a5:∀p∈V,p.1∈l:=λp hp=>by rw[<- ba];exact VF hp
   let ds:List α:=V.attach.map λp=>⟨p.1.1,p.1.2,a5 _ p.2,(ah _ p.2).1,(ah _ p.2).2.1,(ah _ p.2).2.2⟩
   have a9:∀{γ:Type} (f:T×List Value->γ),V.attach.map (λp=>f p.1)=V.map f:=λf=>by simp
   have N:ds.map (·.x)=l:=by
    show(V.attach.map _).map _=_;rw[List.map_map];exact(a9 (·.1)).trans ba
   have al:ds.map (·.vs)=V.map (·.2):=by
    show(V.attach.map _).map _=_;rw[List.map_map];exact a9 (·.2)
   have ao:ds.length=l.length:=by rw[<- N];simp
   have a4:ds≠[]:=by intro q;rw[q]at ao;simp at ao;omega
   let inh:Inhabited α:=⟨ds.head a4⟩
   let enc':α->List Value:=λa=>a.vs
   let cf':α->α->Int:=λx y=>(cf x.x y.x).getD 0
   have ag:∀x y:α,ltOf cf' x y=ltO cf x.x y.x:=by
    intro x y;obtain⟨c,B⟩:=am x.x x.mem y.x y.mem;simp only[ltOf,ltO,cf',B,Option.getD_some]
   have hO:SWO (ltOf cf'):=⟨λx=>by rw[ag];exact O.irrefl _ x.mem,λx y z a b=>by rw[ag]at*;exact O.trans _ x.mem _ y.mem _ z.mem a b,
    λx y z a b=>by rw[ag]at*;exact O.ntrans _ x.mem _ y.mem _ z.mem a b⟩
   have ab:∀x:α,(enc' x).length=k:=λx=>x.len;have aw:flatK enc' k ds.toArray=((V.map (·.2)).flatten).toArray:=by
    rw[Qg1 ab];show((ds.map λa=>a.vs).flatten).toArray=_;rw[al]
   have bq:∀v∈V.map (·.2),v.length=k:=by
    intro v hv;obtain⟨p,hp,rfl⟩:=Xe.1 hv;exact(ah p hp).1
   have aa:(V.map (·.2)).flatten.length=ds.length*k:=by rw[Qan _ bq, <- al];simp
   have hH:HoldsK enc' k w b (0*k) ds.toArray:=by
    intro j hj;rw[aw]at hj⊢;simp only[List.size_toArray]at hj;constructor
    .unfold World.cell?;simp only[e1,Option.isSome_none,Xi,if_false,Nat.zero_mul,Xw];rw[Qa0,XM hj];exact QgW _ _ hj
    .unfold World.frozen?;simp only[e1];simp
   have ay:∀(d:Array α),d.size=ds.toArray.size->(putRowK enc' k w b (0*k) d).heap=w.heap.setIfInBounds b (.cells (((d.toList.map enc').flatten++J)).toArray t (0,0)):=by
    intro d u;have ae:(d.toList.map enc').flatten.length=(V.map (·.2)).flatten.length:=by
     rw[Qan _ (k:=k) (by intro v hv;obtain⟨x,_,rfl⟩:=Xe.1 hv;exact ab x),aa];simp at u⊢;rw[u]
    unfold putRowK putRow mapBlock;show w.heap.modify b _=_;rw[Qde e1];simp only[onCells];congr 2;rw[Qg1 ab];unfold putCells;apply Array.ext_getElem?;intro i;simp only[Array.getElem?_mapIdx,Qa0,Nat.zero_mul,XU,true_and,Xw,Nat.sub_zero,List.size_toArray,id_eq];by_cases hi:i<(d.toList.map enc').flatten.length
    .rw[XM hi,XM (by rw[<- ae];exact hi),XK (by rw[<- ae];exact hi),QgW _ _ hi];exact congrArg some (Vs hi)
    .rw[XN (by omega),XN (by omega),ae];cases(J[i-(V.map (·.2)).flatten.length]?)with
     |none=>rfl
     |some v=>
      rw[<- ae];exact congrArg some (Vr hi)
   have R:∀(m:Nat) (os:Array Obj) (d:Array α),d.size=ds.toArray.size->
     (∀c,c<w.heap.size->c≠b->(sortWorldK enc' k w b (0*k) m d os).heap[c]?=w.heap[c]?)/\(sortWorldK enc' k w b (0*k) m d os).heap[b]?=some (.cells (((d.toList.map enc').flatten++J)).toArray t (0,0))/\
     w.heap.size<=(sortWorldK enc' k w b (0*k) m d os).heap.size:=by
    intro m os d u;have e:(sortWorldK enc' k w b (0*k) m d os).heap=w.heap.setIfInBounds b (.cells (((d.toList.map enc').flatten++J)).toArray t (0,0))++os:=by
     rw[<- ay d u];rfl
    rw[e];refine⟨λc B bl=>?_,?_,by simp⟩
    .rw[Array.getElem?_append_left (by simpa using B),Ve,Vr (λq=>bl q.symm)]
    .rw[Array.getElem?_append_left (by simpa using hb),Ve,Vs rfl,Vs hb]
   have Q:∀(m:Nat) (os:Array Obj) (d:Array α),d.size=ds.toArray.size->∀c y,w.shape? c=some y->(sortWorldK enc' k w b (0*k) m d os).shape? c=some y:=by
    intro m os d u c y hy;obtain⟨g1,g2,g3⟩:=R m os d u;by_cases B:c=b
    .subst B;unfold World.shape? at hy⊢;rw[e1]at hy;rw[g2];simp only[Option.some.injEq]at hy⊢;rw[<- hy];congr 1;simp only[List.size_toArray,X3];rw[Qan _ (k:=k) (by intro v hv;obtain⟨x,_,rfl⟩:=Xe.1 hv;exact ab x),aa];simp at u⊢;rw[u]
    .unfold World.shape? at hy⊢;rw[g1 c (Qkt hy) B];exact hy
   have ak:∀(m:Nat) (os:Array Obj) (d:Array α),d.size=ds.toArray.size->∀τ,Ext G τ w G τ (sortWorldK enc' k w b (0*k) m d os):=by
    intro m os d u τ;obtain⟨g1,g2,g3⟩:=R m os d u;exact⟨λ_ q=>q,λc B=>g1 c (s.roLt c B) (λq=>ai (q▸B)),Q m os d u,λ_ _ q=>q⟩
   have bj:CmpLays P g lc.toArray enc' k cf' b (0*k) ds.toArray.size w:=by
    intro m os dk a6 x y;obtain⟨c,B⟩:=am x.x x.mem y.x y.mem;have F:=ak m os dk a6 [];have bo:=a8 _ _ _ B;generalize hW:sortWorldK enc' k w b (0*k) m dk os=W at*;have bk:w.heap.size<=W.heap.size:=by rw[<- hW];exact(R m os dk a6).2.2
    have sW:Sim (λc=>c<W.heap.size/\ ¬G c) G [] [] W:=
     ⟨rfl,s.roOk.to (λ_ q=>q) F.keep (λc B=>Vf (s.roLt c B) bk),λc B=>B.1,λc B hf=>hf.2 B,λi b x h=>by simp at h,λi j b x y h=>by simp at h,λi y x h=>by simp at h,λi b x c h=>by simp at h⟩
    have ax:LR G [] W ([.agg (enc x.x),.agg (enc y.x)]++cap) ([.agg x.vs.toArray,.agg y.vs.toArray]++lc):=
     LR.append (show LR G [] W [A.agg (enc x.x),A.agg (enc y.x)] [Value.agg x.vs.toArray,Value.agg y.vs.toArray]from⟨_,_,rfl,⟨x.vs,rfl,x.rel.mono F⟩,_,_,rfl,⟨y.vs,rfl,y.rel.mono F⟩,rfl⟩) (ar.mono F)
    have M:=bo _ G [] _ W sW ax;have bi:(([Value.agg x.vs.toArray,Value.agg y.vs.toArray]++lc).toArray:Array Value)= #[Value.agg (enc' x).toArray,Value.agg (enc' y).toArray]++lc.toArray:=by simp[enc']
    rw[bi]at M;refine M.mono ?_;rintro e w' ⟨v,r,H',af,τ,rfl,⟨rfl,rfl⟩,s',bm,ev⟩;refine⟨?_,?_⟩
    .rw[show v=.int .i64 c from bm];simp only[cf',B,Option.getD_some]
    .refine Qml (λc B=>?_) ev.size ev.os ev.tape ev.output ev.drawn;by_cases a7:G c
     .exact ev.keepRo c a7
     .exact ev.keepFr c ⟨B,a7⟩
   have X:ds.toArray.size=l.length:=by simpa using ao
   have aj:=AnyQ.slices_SortFunc L k aE zE enc' ab (λx v hv=>Qjh (x.plain v hv)) cf' hO g lc.toArray b (0*k) cp ds.toArray w eg bj hH hb (by rw[X];unfold Ys at a2;omega);rw[X]at aj;refine aj.mono ?_;rintro e w' ⟨rfl,d,n,os,Y,aq,rfl⟩;have u:d.size=ds.toArray.size:=Y.1;obtain⟨g1,g2,g3⟩:=R n os d u;have an:d.toList.Perm ds:=by
    have h:=Y.2.2;have x1:d.extract 0 l.length=d:=by rw[<- X, <- u];exact Array.extract_size
    have x2:ds.toArray.extract 0 l.length=ds.toArray:=by rw[<- X];exact Array.extract_size
    rw[x1,x2]at h;simpa using h
   have a0:d.toList.map (·.x)=l':=by
    rw[<- bb];refine Qeb (lt:=ltO cf) ?_ ?_ ?_ (QcK O)
    .exact((an.map (·.x)).trans (by rw[N])).trans (Qbk _ _).symm
    .intro x hx y hy;have br:x∈l:=by rw[<- N];exact(an.map (·.x)).mem_iff.1 hx
     have bg:y∈l:=by rw[<- N];exact(an.map (·.x)).mem_iff.1 hy
     exact au x br y bg
    .rw[VD];intro i j hi hj bp;simp only[X2]at hi hj;simp only[List.getElem_map];rw[<- ag];have:=aq i j (XU _) bp (by rw[<- X, <- u];simpa using hj);rw[getElem!_pos d j (by simpa using hj),getElem!_pos d i (by simpa using hi)]at this;simpa using this
   have bd:RL G [] (sortWorldK enc' k w b (0*k) n d os) k (l'.map enc) ((d.toList.map enc').flatten++J):=by
    have e3:d.toList.map enc'=(d.toList.map λa=>(a.x,a.vs)).map (·.2):=by simp[enc']
    have e4:l'=(d.toList.map λa=>(a.x,a.vs)).map (·.1):=by rw[<- a0];simp
    rw[e3,e4];refine QdJ hk ?_;intro p hp;obtain⟨a,_,rfl⟩:=Xe.1 hp;exact⟨a.rel.mono (ak n os d u []),a.plain⟩
   have az:Qm fr G w G (sortWorldK enc' k w b (0*k) n d os):=
    ⟨λ_ q=>q,λc B=>g1 c (s.roLt c B) (λq=>ai (q▸B)),λc B=>g1 c (s.frLt c B) (λq=>bc (q▸B)),g3,Q n os d u,rfl,rfl,rfl,Nat.le_add_right _ _⟩
   have av:σ.length=1:=s.len;have a3:Sim fr G σ [.row t k (l'.map enc)] (sortWorldK enc' k w b (0*k) n d os):=by
    have i0:∀{i:Nat} {x:Blk},([.row t k (l'.map enc)]:Qd)[i]?=some x->i=0/\x=.row t k (l'.map enc):=by
     intro i x h;cases i with
     |zero=>simp at h;exact⟨rfl,h.symm⟩
     |succ i=>simp at h
    refine⟨av,s.roOk.to (λ_ q=>q) az.keepRo (λc B=>Vf (s.roLt c B) g3),λc B=>Vf (s.frLt c B) g3,s.roFr,λi c x h1 h2 h3=>?_,λi j c x y h1 h2 h3 h4 _ _=>?_,λi y x h1 h2=>?_,λi b x c h1 h2 h3=>by obtain⟨rfl,rfl⟩:=i0 h2;exact h3.elim⟩
    .obtain⟨rfl,rfl⟩:=i0 h2;obtain⟨p1,p2⟩:=s.own 0 c _ h1 rfl rfl;exact⟨Vf p1 g3,p2⟩
    .rw[(i0 h3).1,(i0 h4).1]
    .obtain⟨rfl,rfl⟩:=i0 h2;rw[q1]at h1;cases h1;exact⟨_,g2,bd⟩
   exact⟨_,_,_,G,[],rfl,⟨rfl,rfl⟩,by simpa using a3,⟨[],rfl,rfl⟩,az⟩
end Go.Sw
namespace Go.Sw
section
variable {P:Program} {o:Oper} {env:Env} {H:Qd} {fr ro:Nat->Prop} {σ:Sig} {w:World}
theorem Sim.addRo(s:Sim fr ro σ H w){b:Nat}(f:b<w.heap.size)(g:¬fr b)(n:∀(i:Nat) (x:Blk),σ[i]?=some (some b)->H[i]?=some x->x.live=true->False)
  (j:∀(i d:Nat) (x:Blk),σ[i]?=some (some d)->H[i]?=some x->Hid w x d b->False):Sim fr (λc=>ro c\/c=b) σ H w:=by
 refine⟨s.len,s.roOk.to (λ_ q=>.inl q) (λ_ _=>rfl) ?_,s.frLt,?_,?_,s.inj,?_,s.hidTo (· = ·) Yb (XT _) (by grind) (by simp) (by grind)⟩
 .rintro c (q|rfl)
  .exact s.roLt c q
  .exact f
 .rintro c (q|rfl)
  .exact s.roFr c q
  .exact g
 .intro i c x a e h;obtain⟨m,k,l⟩:=s.own i c x a e h
  grind
 .intro i y x a e;exact(s.blk i y x a e).keep ⟨λ_ q=>.inl q,λ_ _=>rfl,λ_ _ q=>q,λ_ _ q=>q⟩ (λ_ _ _=>rfl) (λ_ _ _ _=>rfl)
theorem YY{T e k n:Nat}{xs:List Operand}{es:List (List A)}(E:Q7 P T e k)(X:o.op=.buildSlice T n (QaU 0 xs).toArray)(J:xs.length=n)(y:Nat.ble (n*k) 16777216=true)
  (W:(xs.all λx=>Yn (opA env x))=true)(G:Yt env xs=es)(L:allK k es)(R:es.flatten.all Yr=true)(Y:Yw es.flatten=true):
  OpH P o env H (.rsl k es) H:=by
 intro fr t σ N a w r;subst G;obtain⟨l,Q,M⟩:=QbG r E J y W L;have F:LR t [] w (Yt env xs).flatten l:=M.data Y;have f:∀b,b<w.heap.size->(w.alloc (.cells l.toArray e)).heap[b]?=w.heap[b]? :=λb V=>Yk _ _ b V;have p:w.heap.size<=(w.alloc (.cells l.toArray e)).heap.size:=by simp
 have O:=r.sim.grown f p;have h:Qm fr t w t (w.alloc (.cells l.toArray e)):=Qm.alloc _ r.sim.roLt r.sim.frLt;have s2:=O.addRo (by simp) (λq=>Nat.lt_irrefl _ (r.sim.frLt _ q)) (λi x m j u=>Nat.lt_irrefl _ (r.sim.own i _ x m j u).1)
  (λi d x m j u=>Nat.lt_irrefl _ (r.sim.hid i d x _ m j (r.sim.hidKeep m j (λz=>f d (r.sim.own i d x m j z).1) (λb q=>f b (r.sim.roLt b q)) u)).lt)
 have B:RL t [] (w.alloc (.cells l.toArray e)) k (Yt env xs) l:=by
  have:=Qae (rest:=[]) L (F.mono (h.ext0 [])) (M.plain R)
  grind
 have s:(Yt env xs).length=n:=by simp[Yt,J]
 refine⟨_,_,λc=>t c\/c=w.heap.size,[],Qbx X a.eval Q,(⟨some ⟨w.heap.size,0,none⟩,n,by rw[s],by omega,.inr ⟨w.heap.size,0,rfl,.inr rfl,?_⟩⟩),by grind,h.trans (Q5 λ_ q=>.inl q)⟩;have g:(w.alloc (.cells l.toArray e)).heap[w.heap.size]?=some (.cells ([]++l).toArray e (0,0)):=Yu _ _;have:=YS g B;exact this.keep ⟨λ_ q=>.inl q,λ_ _=>rfl,λ_ _ q=>q,λ_ _ q=>q⟩ rfl
end
inductive Qii:List A->List A->Prop
 |nil:Qii [] []
 |eq {a:A} {l m:List A} (h:Qii l m):Qii (a::l) (a::m)
 |nl {k:Nat} {l m:List A} (h:Qii l m):Qii (.nils::l) (.rsl k []::m)
theorem LR.nils{ro:Nat->Prop}{σ:Sig}{w:World}{i g:List A}(h:Qii i g):∀{l:List Value},LR ro σ w i l->LR ro σ w g l:=by
 induction h with
 |nil=>simp
 |eq _ ih=>rintro l ⟨v,a,e,f,d⟩;exact⟨v,a,e,f,ih d⟩
 |nl _ ih=>rintro l ⟨v,a,e,f,d⟩;exact⟨v,a,e,⟨none,0,f,XT _,.inl rfl⟩,ih d⟩
theorem C.nils{P:Program}{f:FuncId}{l1 bs:List A}{H:Qd}{Q:A->Qd->Prop}(hl:Qii l1 bs)(h:C P f bs H Q):C P f l1 H Q:=
 λfr ro σ vals w s l=>h fr ro σ vals w s (LR.nils hl l)
def Qz(k:IntKind)(n:Int):Prop:=k.min<=n/\n<=k.max
def QeV(w:World):Nat->Prop:=λb=>b<w.heap.size
structure Meas {H:Type} (μ:DataW H->Nat):Prop where
 str:∀bytes,bytes.length<=μ (.lit (.string bytes))
 sl:∀e s,e.length<=μ (.slice e s)
 sle:∀e s,∀d∈e,μ d<=μ (.slice e s)
 ag:∀ps,∀d∈ps,μ d<=μ (.agg ps)
def RB(P:Program)(n:Nat)(t:TypeId)(T:Type)(e:T->List A)(wf:T->Prop):Prop:=
 ∀(H:Type) (enc:TypeId×Value->H) (w:World) (base:Nat) (spare:Nat->Bool) (held:Bool) (m:Nat) (cs:List Value) d,m<n->DataW.trod enc P w base spare held m t cs=some d->
  ∀μ:DataW H->Nat,Meas μ->μ d.1<=1048576->∃x:T,wf x/\LR (QeV w) [] w (e x) cs/\ ∀v∈cs,QA v
section
variable {P:Program} {n:Nat} {t:TypeId} {T:Type} {e:T->List A} {wf:T->Prop}
theorem RB.down(h:RB P (n+1) t T e wf):RB P n t T e wf:=λH enc w base spare held m cs d hm=>h H enc w base spare held m cs d (Nat.lt_succ_of_lt hm)
theorem Qd2(h:∀n,RB P n t T e wf->RB P (n+1) t T e wf):∀n,RB P n t T e wf
 |0=>λH enc w base spare held m cs d hm=>(by omega)
 |n+1=>h n (Qd2 h n)
theorem Yi{T':Type}{f:T'->List A}{a:T'->Prop}(h:RB P n t T e wf)(g:T->T')(he:∀x,f (g x)=e x)(i:∀x,wf x->a (g x)):RB P n t T' f a:=by
 intro H enc w base spare held m cs d hm hd μ hμ hwt;obtain⟨x,l,j,k⟩:=h H enc w base spare held m cs d hm hd μ hμ hwt
 grind
theorem RB.int{k:IntKind}(a:P.underlying t=some (.int k)):RB P n t Int (Qe k) (Qz k):=by
 intro H enc w base spare held m cs d hm hd μ hμ hwt;cases m with
 |zero=>simp[DataW.trod]at hd
 |succ m=>
  rcases cs with _|⟨v,_|⟨g,r⟩⟩
  .simp[DataW.trod,a]at hd
  .cases v<;>simp[DataW.trod,a]at hd;rename_i h e;obtain⟨⟨rfl,f⟩,_⟩:=hd;refine⟨e,?_,⟨_,_,rfl,rfl,rfl⟩,by simp[QA]⟩;simpa[Lit.wf,Qz]using f
  .simp[DataW.trod,a]at hd
theorem RB.bool(a:P.underlying t=some .bool):RB P n t Bool Y4 (λ_=>True):=by
 intro H enc w base spare held m cs d hm hd μ hμ hwt;cases m with
 |zero=>simp[DataW.trod]at hd
 |succ m=>
  rcases cs with _|⟨v,_|⟨e,r⟩⟩
  .simp[DataW.trod,a]at hd
  .cases v<;>simp[DataW.trod,a]at hd;rename_i b;exact⟨b,trivial,⟨_,_,rfl,rfl,rfl⟩,by simp[QA]⟩
  .simp[DataW.trod,a]at hd
theorem RB.string(a:P.underlying t=some .string):RB P n t (List UInt8) Jl (λs=>s.length<=1048576):=by
 intro H enc w base spare held m cs d hm hd μ hμ hwt;cases m with
 |zero=>simp[DataW.trod]at hd
 |succ m=>
  rcases cs with _|⟨v,_|⟨e,r⟩⟩
  .simp[DataW.trod,a]at hd
  .cases v<;>simp[DataW.trod,a]at hd;rename_i s;obtain⟨_,rfl⟩:=hd;exact⟨s.data.toList,XV (hμ.str _) hwt,⟨_,_,rfl,rfl,rfl⟩,by simp[QA]⟩
  .simp[DataW.trod,a]at hd
theorem Qcp{α:Type}{f:Nat->Option α}:∀{n:Nat} {l:List α},(List.range n).mapM f=some l->l.length=n/\ ∀i,i<n->∃y,f i=some y/\l[i]?=some y
 |0,l,h=>by grind
 |n+1,l,h=>by
  rw[Xu,List.mapM_append]at h;cases h1:(List.range n).mapM f with
  |none=>grind
  |some l1=>
   cases h2:f n with
   |none=>grind
   |some y=>
    simp[h1,h2]at h;subst h;obtain⟨e1,e2⟩:=Qcp h1
    grind
theorem QdM{w:World}{ro:Nat->Prop}{b:Nat}:∀{cs:List A} {l:List Value} {off:Nat},LR ro [] w cs l->(∀v∈l,QA v)->(∀i,i<l.length->w.cell? ⟨b,off+i,none⟩=l[i]?)->CR ro [] w b cs off
 |[],_,_,_,_,_=>trivial
 |a::cs,l,off,h,hp,hc=>by
  obtain⟨v,l',rfl,h1,h2⟩:=h;refine⟨(by grind),QdM h2 (by grind) λi hi=>?_⟩;have:=hc (i+1) (by grind)
  grind
theorem RB.slice{E:TypeId}{k:Nat}{s:TypeId}(G:P.underlying s=some (.slice E))(hk:P.cellsOf E=k)(h0:Nat.blt 0 k=true)(hl:∀x,(e x).length=k)(h:RB P n E T e wf):
  RB P (n+1) s (List T) (QN k e) (λl=>l.length<=1048576/\ ∀x∈l,wf x):=by
 intro H enc w base spare held m cs d hm hd μ hμ hwt;have k0:0<k:=by simp_all
 cases m with
 |zero=>simp[DataW.trod]at hd
 |succ m=>
  rcases cs with _|⟨v,_|⟨v2,r⟩⟩
  .simp[DataW.trod,G]at hd
  .cases v<;>try (simp[DataW.trod,G]at hd;done)
   rename_i a len g;cases a with
   |none=>
    rcases len with _|len
    .rcases g with _|g
     .refine⟨[],⟨by simp,by simp⟩,⟨_,_,rfl,⟨none,0,rfl,XT _,.inl rfl⟩,rfl⟩,by simp[QA]⟩
     .simp[DataW.trod,G]at hd
    .simp[DataW.trod,G]at hd
   |some a=>
    simp only[DataW.trod,G]at hd;split at hd
    .rename_i hc;obtain⟨c1,c2,c3⟩:=hc;cases Q:(List.range len).mapM (λi=>(w.cells? base (a.add (i*P.cellsOf E)) (P.cellsOf E)).bind (DataW.trod enc P w base spare held m E))with
     |none=>grind
     |some f=>
      rw[Q]at hd;simp only[XJ,Option.map_eq_some_iff]at hd;obtain⟨p,_,rfl⟩:=hd;have F:f.length<=1048576:=by
       have h1:=hμ.sl (f.map (·.1)) (p.map (·.1))
       grind
      have aa:∀y∈f,μ y.1<=1048576:=λy N=>XV (hμ.sle _ (p.map (·.1)) _ (VF N)) hwt;obtain⟨e1,e2⟩:=Qcp Q;have R:∀i,i<len->∃(x:T) (l:List Value),wf x/\LR (QeV w) [] w (e x) l/\(∀v∈l,QA v)/\l.length=k/\ ∀j,j<k->w.cell? ((a.add (i*k)).add j)=l[j]? :=by
       intro i hi;obtain⟨y,y1,y2⟩:=e2 i hi;rw[hk]at y1;cases W:w.cells? base (a.add (i*k)) k with
       |none=>grind
       |some l=>
        rw[W]at y1;obtain⟨x,x1,x2,x3⟩:=h H enc w base spare held m l y (by omega) y1 μ hμ (aa y (VG y2))
        grind[World.cells?,Qcp]
      by_cases O:len=0
      .subst O;exact⟨[],⟨by simp,by simp⟩,⟨_,_,rfl,⟨some a,g,rfl,XU _,.inl rfl⟩,rfl⟩,by simp[QA]⟩
      .have first:a.spot=none/\a.block<w.heap.size:=by
        obtain⟨x',l,p1,p2,p3,p4,X⟩:=R 0 (by omega);have t:=X 0 k0;have Y:l[0]?=some l[0]:=XK (by omega);have ea:(a.add (0*k)).add 0=a:=by simp[Addr.add]
        rw[Y,ea]at t;unfold World.cell? at t;split at t
        .rename_i hh;constructor
         .cases q:a.spot with
          |none=>rfl
          |some z=>simp[q]at t
         .exact(Vc.1 hh).1
        .cases t
       obtain⟨L,hb⟩:=first
       have V:∀n,a.add n=⟨a.block,a.off+n,none⟩:=by
        intro n;cases a;simp only at L;subst L;unfold Addr.add;split
        .rename_i q;subst q;rfl
        .rfl
       have B:∀(b o n:Nat),(⟨b,o,none⟩:Addr).add n=⟨b,o+n,none⟩:=by
        intro b o n;unfold Addr.add;split
        .rename_i q;subst q;rfl
        .rfl
       have pick:∀q i,len-i=q->i<=len->∃u:List T,u.length=len-i/\(∀x∈u,wf x)/\RR (QeV w) [] w a.block k (u.map e) (a.off+i*k):=by
        intro q
        induction q with
        |zero=>intro i hq hi;exact⟨[],by simp[hq],by simp,trivial⟩
        |succ q ih=>
         intro i hq hi;obtain⟨u,J,w2,M⟩:=ih (i+1) (by omega) (by omega);obtain⟨x,l,p1,p2,p3,p4,X⟩:=R i (by omega);refine⟨x::u,by simp[J];omega,by intro y N;rcases X6.1 N with rfl|N;exact p1;exact w2 y N,hl x,?_,?_⟩
         .refine QdM p2 p3 λj hj=>?_;have t:=X j (by omega);rw[V,B]at t;exact t
         .rw[Xm, <- Nat.add_assoc]at M;exact M
       obtain⟨u,J,w2,M⟩:=pick len 0 (by omega) (XU _);rw[Nat.zero_mul,Xx]at M;rw[Nat.sub_zero]at J;refine⟨u,⟨by rw[J, <- e1];exact F,w2⟩,⟨_,_,rfl,⟨some a,g,by simp[J],by simp[J];exact c2,.inr ⟨a.block,a.off,?_,hb,M⟩⟩,rfl⟩,by simp[QA]⟩;cases a
       grind
    .cases hd
  .simp[DataW.trod,G]at hd
def RF(P:Program)(n:Nat)(fs:List Field)(off L:Nat)(T:Type)(e:T->List A)(wf:T->Prop):Prop:=
 ∀(H:Type) (enc:TypeId×Value->H) (w:World) (base:Nat) (spare:Nat->Bool) (held:Bool) (m:Nat) (cs:List Value) ds,m<n->cs.length=L->
  fs.mapM (λf=>DataW.trod enc P w base spare held m f.type ((cs.drop f.offset).take (P.cellsOf f.type)))=some ds->
  ∀μ:DataW H->Nat,Meas μ->(∀y∈ds,μ y.1<=1048576)->∃x:T,wf x/\LR (QeV w) [] w (e x) (cs.drop off)/\ ∀v∈cs.drop off,QA v
theorem RF.nil{L:Nat}:RF P n [] L L Unit (λ_=>[]) (λ_=>True):=by
 intro H enc w base spare held m cs ds hm hl hd μ hμ hwt;have:cs.drop L=[]:=(by grind);rw[this];exact⟨(),trivial,rfl,by simp⟩
theorem RF.cons{f:Field}{fs:List Field}{off L k:Nat}{T2:Type}{q:T2->List A}{g:T2->Prop}(z:f.offset=off)(t:P.cellsOf f.type=k)(h:RB P n f.type T e wf)(r:RF P n fs (off+k) L T2 q g):
  RF P n (f::fs) off L (T×T2) (λp=>e p.1++q p.2) (λp=>wf p.1/\g p.2):=by
 intro H enc w base spare held m cs ds hm hl hd μ hμ hwt;rw[List.mapM_cons]at hd;cases l:DataW.trod enc P w base spare held m f.type ((cs.drop f.offset).take (P.cellsOf f.type))with
 |none=>grind
 |some d=>
  cases B:fs.mapM (λf=>DataW.trod enc P w base spare held m f.type ((cs.drop f.offset).take (P.cellsOf f.type)))with
  |none=>grind
  |some a=>
   have j:ds=d::a:=by
    grind
   subst j;rw[z,t]at l;obtain⟨x,u,s,F⟩:=h H enc w base spare held m _ d hm l μ hμ (hwt d (by simp));obtain⟨y,y1,y2,E⟩:=r H enc w base spare held m cs a hm hl B μ hμ (by grind);have i:cs.drop off=(cs.drop off).take k++cs.drop (off+k):=by rw[<- List.drop_drop,Xz]
   refine⟨(x,y),⟨u,y1⟩,by rw[i];exact s.append y2,?_⟩
   grind
theorem RB.struct{fs:Array Field}{L:Nat}(i:P.underlying t=some (.struct fs))(j:P.cellsOf t=L)(h:RF P n fs.toList 0 L T e wf):RB P (n+1) t T e wf:=by
 intro H enc w base spare held m cs d hm hd μ hμ hwt;cases m with
 |zero=>simp[DataW.trod]at hd
 |succ m=>
  unfold DataW.trod at hd;simp only[i]at hd;split at hd
  .rename_i k;cases a:fs.toList.mapM (λf=>DataW.trod enc P w base spare held m f.type ((cs.drop f.offset).take (P.cellsOf f.type)))with
   |none=>grind
   |some g=>
    rw[a]at hd;simp only[Xj,Option.some.injEq]at hd;subst hd;have:=h H enc w base spare held m cs g (by omega) (by rw[k,j]) a μ hμ (λy l=>XV (hμ.ag _ _ (by grind)) hwt)
    grind
  .cases hd
end
theorem C.law{P:Program}{f:FuncId}{args:List A}{W:World}{vals:List Value}(h:C P f args [] (λa H=>a=.bool true/\H=[]))(m:LR (QeV W) [] W args vals)(d:GP W):
  Calls P f vals.toArray W λe W'=>e=.returned (.bool true)/\Go.RowKit.Below W.heap.size W W':=by
 have s:Sim (λ_=>False) (QeV W) [] [] W:=
  ⟨rfl,⟨λ_ h=>h,λb j=>d.size b j,d⟩,λ_ h=>h.elim,λ_ _ h=>h,(by simp),(by simp),(by simp),(by simp)⟩
 refine(h _ _ _ _ W s m).mono ?_;rintro e W' ⟨v,r,H',l,τ,rfl,⟨rfl,rfl⟩,_,g,ev⟩;exact⟨by rw[show v=.bool true from g],⟨ev.os,ev.tape,ev.output,ev.size,λk i=>ev.keepRo k i⟩⟩
theorem QgN{P:Program}{W:World}{a:Nat}{t:TypeId}{v:Value}{fs:Array Field}(d:P.underlying t=some (.struct fs))(h:Value.okWide P W .any a t v):∃cs,v=.agg cs:=by
 unfold Value.okWide at h
 grind
theorem Qel{P:Program}{W:World}{t:TypeId}{i:Array Value}{T:Type}{e:T->List A}{wf:T->Prop}{H:Type}{enc:TypeId×Value->H}{f:Nat}{a:Nat->Bool}{held:Bool}{d:DataW H}{k:List MemPlace}
  (h:∀n,RB P n t T e wf)(p:DataW.Trod enc P W f a held t (.agg i) d k){μ:DataW H->Nat}(hμ:Meas μ)(g:μ d<=1048576):∃x:T,wf x/\VR (QeV W) [] W (.agg (e x)) (.agg i):=by
 obtain⟨m,j⟩:=p;obtain⟨x,l,q,_⟩:=h (m+1) H enc W f a held m _ _ (Xn _) j μ hμ g;exact⟨x,l,i.toList,by simp,q⟩
theorem QhG{P:Program}{W:World}(h:W.ShapedOpen P){g t u:Nat}{z:Value}(hg:Nat.blt g P.globals.size=true)(n:(((begin P (λ_ _=>0) default).world.heap[g]?).bind Obj.row?)=some (#[z],t))
  (r:P.buildable t=true)(s:P.cellTypes P.depth t=some [u])(k:P.underlying u=some (.int .i64)):∃m:Int,W.cell? ⟨g,0,none⟩=some (.int .i64 m):=by
 obtain⟨a,w,p,l⟩:=h.1 g _ _ (by simp_all) n;obtain⟨x,f,_,j⟩:=l r;rw[s]at f;cases f;have B:a.size=1:=p;have e:a[0]?=some a[0]:=(by simp);obtain⟨y,i,d⟩:=j 0 _ e;simp at i;subst i;unfold Cell.ok at d;rw[k]at d;cases q:a[0]<;>rw[q]at d<;>simp at d
 simp_all[World.cell?]
theorem QhQ{S B:Type}{step:S->Option (Ctl S B)}(a:Nat->S)(b:B)(k:Nat)(l:∀i,i<k->step (a i)=some (.cont (a (i+1))))(e:step (a k)=some (.done b)):∀n,k<n->iter step n (a 0)=some b:=by
 have g:∀m i n,k-i=m->i<=k->m<n->iter step n (a i)=some b:=by
  intro m
  induction m with
  |zero=>
   intro i n f h j;have:i=k:=by omega
   subst this;obtain⟨d,rfl⟩:∃d,n=d+1:=⟨n-1,by omega⟩;simp[iter,e]
  |succ m p=>
   intro i n f h j;obtain⟨d,rfl⟩:∃d,n=d+1:=⟨n-1,by omega⟩
   grind[iter]
 grind
theorem QkG{S B:Type}{step:S->Option (Ctl S B)}(s0:S)(a:Nat->S)(b:B)(k:Nat)(d:a 0=s0)(g:∀i,i<k->step (a i)=some (.cont (a (i+1))))(e:step (a k)=some (.done b))(n:Nat)(f:k<n):iter step n s0=some b:=by
 rw[<- d];exact QhQ a b k g e n f
theorem Qo{α:Type}{l:List α}{i:Nat}{x:α}(h:l[i]?=some x):idx l i=some x:=by
 grind[idx]
theorem QmK{α:Type}(l:List α)(x:α)(h:l.length<4294967296):app l [x]=some (l++[x]):=by
 unfold app;have:Nat.ble (l.length+[x].length) Ys=true:=by
  grind[Nat.ble_eq_true_of_le,Ys]
 grind
theorem QaN{α:Type}(l m:List α)(h:l.length+m.length<=4294967296):app l m=some (l++m):=by
 simp_all[app,Ys,XS]
theorem Qq{n:Int}(a: -9223372036854775808<=n)(d:n<=9223372036854775807):IntKind.i64.wrap n=n:=by
 grind[IntKind.wrap,IntKind.bits,IntKind.signed]
theorem QO{i:Nat}(h:i<9223372036854775807):IntKind.i64.wrap (i+1)=(i+1:Nat):=by
 rw[Qq (by omega) (by omega)];omega
theorem Qw{p:Prop}[Decidable p](h:p):decide p=true:=Vt h
theorem Qx{p:Prop}[Decidable p](h:¬p):decide p=false:=Vw h
open Go.Proofs Go.Shelf
def cat(a b:List UInt8):Option (List UInt8):=bif Nat.ble (a.length+b.length) 4294967296 then some (a++b)else none
theorem QnJ{a b r:List UInt8}(h:cat a b=some r):a.length+b.length<=4294967296/\a++b=r:=by
 unfold cat at h;cases q:Nat.ble (a.length+b.length) 4294967296 with
 |true=>simp_all
 |false=>grind
def Qew(s t:List UInt8):Option Bool:=bif Nat.blt s.length 4294967281 then some (Lib.contains s t)else none
section
variable {P:Program} {o:Oper} {env:Env} {H:Qd}
theorem QeY{t u:TypeId}{x y:Operand}{p q r:List UInt8}(h:cat p q=some r)(s:o.op=.binOp .add t x y u:=by exact rfl)(hx:opA env x=.str p:=by exact rfl)(hy:opA env y=.str q:=by exact rfl):OpV P o env H (.str r):=by
 intro l m σ N a w rr;obtain⟨k,j⟩:=QnJ h;have d:=Qu rr x;rw[hx]at d;have f:=Qu rr y;rw[hy]at f;have g:a.eval x=.string ⟨p.toArray⟩:=d;have i:a.eval y=.string ⟨q.toArray⟩:=f;have n:(⟨p.toArray⟩:ByteArray)++⟨q.toArray⟩=⟨r.toArray⟩:=by
  rw[<- j];rfl
 refine⟨.string ⟨r.toArray⟩,?_,rfl⟩;have e:¬((⟨p.toArray⟩:ByteArray).size+(⟨q.toArray⟩:ByteArray).size>IntKind.i64.max):=by
  have:IntKind.i64.max=9223372036854775807:=by decide
  grind[ByteArray.size]
 simp_all[eqGuard,execOp,binOp_string_add,Op.stringOp]
def Qev{α:Type}(n:Nat)(l:List α)(i:Int):Option α:=bif Nat.beq l.length n then idx l i else none
theorem Qbn{α:Type}{n:Nat}{l:List α}{i:Int}{x:α}(h:Qev n l i=some x):l.length=n/\idx l i=some x:=by
 grind[Qev,Nat.eq_of_beq_eq_true]
def arr{α:Type}(n:Nat)(l:List α):Option (List α):=bif Nat.beq l.length n then some l else none
theorem Qct{α:Type}{n:Nat}{l l':List α}(h:arr n l=some l'):l.length=n/\l=l':=by
 grind[arr,Nat.eq_of_beq_eq_true]
theorem Qgj{α:Type}{n:Nat}{l l':List α}(h:arr n l=some l'):l'.length=n:=(Qct h).2▸(Qct h).1
section
variable {α:Type} {e:α->List A} {t et k n b:Nat} {x y:Operand} {l:List α}
theorem QaH{i:Int}{v:α}{j:IntKind}(h:Qev n l i=some v)(B:∀w,(underlying t).run P w=.ok (.array n et) w)(p:∀w,(sizeOf et).run P w=.ok k w)(z:Nat.ble 2 n=true)
  (F:o.op=.indexAddr t x y:=by exact rfl)(hx:opA env x=.ptr b 0:=by exact rfl)(hy:opA env y=.int j i:=by exact rfl):OpV P o env H (.ptr b (i.toNat*k)):=by
 intro M G σ N a w r;obtain⟨L,s⟩:=Qbn h;obtain⟨O,J⟩:=Qbm s;have E:i.toNat<l.length:=(by grind);have e:=Qu r x;rw[hx]at e;obtain⟨d,e,q⟩:=e;have m:=Qu r y;rw[hy]at m;have f:a.eval y=.int j i:=m;refine⟨.pointer (some ⟨d,i.toNat*k,none⟩),?_,d,e,rfl⟩;have u:0<=i/\i<n:=by omega
 have g:(⟨d,0,none⟩:Addr).add (i.toNat*k)=⟨d,i.toNat*k,none⟩:=by
  grind[Addr.add]
 generalize a.eval=ρ at*;simp[F,q,f,Instr.indexAt,B,p,u,go_sem]
theorem QiZ{a:List A}(j:H[b]?=some (.row t k (l.map e)):=by exact rfl)(hcs:(l.map e).flatten=a:=by exact rfl):Pts H (.ptr b 0) a:=by
 intro p q σ w v s h;obtain⟨f,g,m⟩:=h;obtain⟨n,i,d⟩:=s.blk b _ _ g j;refine⟨f,0,m,?_⟩;have:=(RR.flat (YS (pre:=[]) (by simpa using i) d)).1;subst hcs;exact this.lift
theorem Qg0(a:∀x,(e x).length=k)(L:List α):(L.map e).flatten.length=L.length*k:=by
 induction L with
 |nil=>simp
 |cons c L ih=>grind
theorem Qhu{d:Nat}{l':List α}(h:arr n l=some l')(j:∀x,(e x).length=k)(a:n*k=d)(i:∀w,(isAgg t).run P w=.ok true w)(m:∀w,(sizeOf t).run P w=.ok d w){T:Nat}
  (p:o.op=.load t x:=by exact rfl)(hx:opA env x=.ptr b 0:=by exact rfl)(hH:H[b]?=some (.row T k (l.map e)):=by exact rfl):OpV P o env H (.agg (l'.map e).flatten):=by
 obtain⟨g,rfl⟩:=Qct h;have f:=Qg0 j l;rw[g,a]at f;exact Qbf p i m hx (QiZ hH rfl) (by grind) f
theorem QjW{r:Nat}{n2 T:Nat}(j:l.length=n)(d:∀x,(e x).length=k)(g:n*k=n2)(h:∀w,(isAgg t).run P w=.ok true w)(f:∀w,(sizeOf t).run P w=.ok n2 w)
  (a:lk env r=.ptr b 0:=by exact rfl)(hH:H[b]?=some (.row T k (l.map e)):=by exact rfl):QcX P env H (.cell r t) (.agg (l.map e).flatten):=by
 have i:=Qg0 d l;have:=QdI h f (QiZ hH rfl) a (by grind)
 grind
theorem Qhs{c:List A}{k:Nat}(h:c.length=k):∀n,allK k (List.replicate n c)
 |0=>trivial
 |n+1=>⟨h,Qhs h n⟩
theorem Qc2{vs:Array Value}{z:α}(p:∀w,(zeroValue t).run P w=.ok (.agg vs) w)(q:(YL (List.replicate n (e z)).flatten).toArray=vs)(l:QfU (List.replicate n (e z)).flatten=true)(i:(List.replicate n (e z)).flatten.all Yr=true)(j:Nat.beq (e z).length k=true)
  (u:o.op=.alloc t:=by exact rfl):OpH P o env H (.ptr H.length 0) (H++[.row t k ((List.replicate n z).map e)]):=by
 intro s g σ N a w r;have f:LR g [] w (List.replicate n (e z)).flatten (YL (List.replicate n (e z)).flatten):=Qe7 l;have d:=r.sim.allocRow (t:=t) (rest:=[]) (Qhs (XQ j) n) f (f.plain i);rw[Vg]at d;have h:(List.replicate n z).map e=List.replicate n (e z):=List.map_replicate;refine⟨.pointer (some ⟨w.heap.size,0,none⟩),w.alloc (.cells (YL (List.replicate n (e z)).flatten).toArray t),g,[some w.heap.size],?_,⟨w.heap.size,?_,rfl⟩,h▸d,Qm.alloc _ r.sim.roLt r.sim.frLt⟩
 .have m:(newVar t (.agg vs)).run P w=.ok ⟨w.heap.size,0,none⟩ (w.alloc (.cells vs t)):=rfl
  simp_all[execOp,Instr.alloc]
 .rw[<- r.sim.len];simp
theorem Qc1{T n2:Nat}{l':List α}{vs:List A}(h:l.length=n)(h':l'.length=n)(Y:∀x,(e x).length=k)(F:n*k=n2)(hs:∀w,(sizeOf t).run P w=.ok n2 w)
  (hp:∀x,(e x).all Yr=true)(hd:∀x,Yw (e x)=true)(q:(l'.map e).flatten=vs)
  (ho:o.op=.store t x y:=by exact rfl)(E:opA env x=.ptr b 0:=by exact rfl)(hH:H[b]?=some (.row T k (l.map e)):=by exact rfl)(z:opA env y=.agg vs:=by exact rfl):
  OpU P o env H (H.set b (.row T k (l'.map e))):=by
 intro fr ro σ N a w r;subst q;have g:=Qu r x;rw[E]at g;obtain⟨bb,g,h2⟩:=g;have V:=Qu r y;rw[z]at V;obtain⟨m,h4,p⟩:=V;obtain⟨J,O,W⟩:=r.sim.blk b _ _ g hH;have G:∀(L:List α),allK k (L.map e):=by
  intro L
  induction L with
  |nil=>trivial
  |cons c L j=>exact⟨Y c,j⟩
 have B:(l'.map e).flatten.length=n2:=by grind[YW]
 have X:m.length=n2:=by rw[p.length,B]
 have i:∀L:List α,(L.map e).flatten.all Yr=true:=by
  grind
 have M:∀f ds:List A,Yw f=true->Yw ds=true->Yw (f++ds)=true:=by
  intro f
  induction f with
  |nil=>simp
  |cons c f j=>
   simp_all[Yw]
 have u:∀L:List α,Yw (L.map e).flatten=true:=by
  intro L
  induction L with
  |nil=>rfl
  |cons c L j=>exact M _ _ (hd c) j
 have hlen:=by
  have:=W.length;rw[X2,h,F]at this;exact this
 have Q:=YI (P:=P) (vs:=m) 0 0 O (by omega) (p.plain (i l'));have R:splice J 0 m=m++J.drop n2:=by unfold splice;simp[X]
 have d:=r.sim.set (x':=.row T k (l'.map e)) (obj:=.cells (splice J 0 m).toArray T (0,0)) g hH rfl
  (λy z=>QaE O (YB (by omega)) y z)
  (λex s=>by
   have E:=(p.data (u l')).mono ex.nil;exact⟨_,s,Qae (G l') E (p.plain (i l'))⟩)
 refine⟨_,ro,[],?_,by simpa using d.1,d.2⟩
 simp_all[Value.cells,storeVar,execOp,Instr.storeAt,Instr.sureAddr]
end
end
theorem C.contains{P:Program}{ρ:Ren}(L:Lays.n144 P ρ)(hg:ρ.g 1=Qjq){s t:List UInt8}{r:Bool}(h:Qew s t=some r):C P (ρ.f 144) [.str s,.str t] [] (λa H=>a=.bool r/\H=[]):=by
 unfold Qew at h;cases q:Nat.blt s.length 4294967281 with
 |false=>grind
 |true=>
  rw[q]at h;obtain rfl:=XZ h;intro z j σ vals w sim hv;obtain⟨p,x,rfl,i,y,d,rfl,k,l⟩:=hv;cases(show d=[]from l);obtain⟨m,n⟩:=sim.roOk.gp.max;have e1:=i;have e2:=k;subst e1 e2;have hs:=by simpa using q
  refine(Any.strings_Contains L ⟨s.toArray⟩ ⟨t.toArray⟩ m w (by simpa[ByteArray.size]using hs) (by grind)).mono ?_;rintro e u ⟨rfl,rfl⟩;exact⟨_,_,_,j,[],rfl,⟨rfl,rfl⟩,by grind,rfl,Qm.refl _ _ _⟩
section
variable {P:Program} {o:Oper} {env:Env} {H:Qd} {fr ro:Nat->Prop} {σ:Sig} {w:World}
theorem Sim.touch(s:Sim fr ro σ H w){b:Nat}{obj:Obj}(n:¬ro b)(m:¬fr b)(u:∀(i:Nat) (x:Blk),σ[i]?=some (some b)->H[i]?=some x->x.live=true->False)
  (k:∀(i d:Nat) (x:Blk),σ[i]?=some (some d)->H[i]?=some x->Hid w x d b->False)
  (p:∀y,w.shape? b=some y->{w with heap:=w.heap.setIfInBounds b obj}.shape? b=some y):
  Sim fr ro σ H {w with heap:=w.heap.setIfInBounds b obj}/\Qm fr ro w ro {w with heap:=w.heap.setIfInBounds b obj}:=by
 have a:{w with heap:=w.heap.setIfInBounds b obj}.heap.size=w.heap.size:=by simp
 have ev:Qm fr ro w ro {w with heap:=w.heap.setIfInBounds b obj}:=
  ⟨λ_ h=>h,(by grind),(by grind),by omega,by
   grind[World.shape?],rfl,rfl,rfl,XT _⟩
 refine⟨⟨s.len,s.roOk.to (λ_ q=>q) ev.keepRo (λc h=>by rw[a];exact s.roLt c h),λc h=>by rw[a];exact s.frLt c h,s.roFr,?_,s.inj,?_,s.hidTo (· = ·) Yb (by omega) (by simp) (by simp) λj d y l g t=>.inl ⟨j,y,rfl,l,g,id,λc q=>s.hidKeep l g (by grind) ev.keepRo q⟩⟩,ev⟩
 .intro i c x e f r;rw[a];exact s.own i c x e f r
 .intro i y x e f;refine(s.blk i y x e f).keep (ev.ext0 σ) ?_ ?_
  .grind
  grind
theorem Qj7{T E i n t:Nat}{x:Operand}{es:List (List A)}(ht:P.underlying T=some (.slice E))(hE:P.underlying E=some (.int .u8))(X:es.length=n)(h0:Nat.blt 0 n=true)
  (ho:o.op=.convert T T x:=by exact rfl)(hx:opA env x=.osl i 0 n 1:=by exact rfl)(hH:H[i]?=some (.row t 1 es):=by exact rfl):
  OpH P o env H (.rsl 1 es) (H.set i .dead):=by
 intro fr M σ N a w r;subst X;have s:=Qu r x;rw[hx]at s;rcases s with⟨hz,_⟩|⟨b,p,L,t',m,s,h2,h6,⟨h3,aa⟩,h4,h5⟩
 .simp_all
 .have W:0<es.length:=by simp_all
  obtain rfl:=h6 (by omega);obtain⟨hb,J,g⟩:=r.sim.own i b _ s hH rfl;obtain⟨l,Y,q2⟩:=r.sim.blk i _ _ s hH;have V:=r.sim.kill i;have f:∀(j:Nat) (y:Blk),σ[j]?=some (some b)->(H.set i .dead)[j]?=some y->y.live=true->False:=by
   intro j y B e u;by_cases q:j=i
   .subst q;rw[Xb]at e;simp only[if_true]at e
    grind[Blk.live]
   .rw[XP (λz=>q z.symm)]at e;exact q (r.sim.inj j i b y _ B s e hH u rfl)
  have G:∀(j d:Nat) (y:Blk),σ[j]?=some (some d)->(H.set i .dead)[j]?=some y->Hid w y d b->False:=by
   intro j d y B e u;by_cases q:j=i
   .subst q;rw[Xb]at e;simp only[if_true]at e;split at e
    .cases e;exact u.elim
    .simp at e
   .rw[XP (λz=>q z.symm)]at e;exact(r.sim.hid j d y b B e u).ne i b _ s hH rfl rfl
  let fz:Nat×Nat:=(l.length,l.length+1)
  have Q:∀y,w.shape? b=some y->({w with heap:=w.heap.setIfInBounds b (.cells l.toArray t fz)}:World).shape? b=some y:=by
   simp_all[World.shape?]
  obtain⟨s2,h⟩:=V.touch (obj:=.cells l.toArray t fz) J g f G Q;have s3:=s2.addRo (b:=b) (by grind) g f (λj d y B e u=>G j d y B e (V.hidKeep B e (by grind) h.keepRo u));have k:({w with heap:=w.heap.setIfInBounds b (.cells l.toArray t fz)}:World).heap[b]?=some (.cells (([]:List Value)++l).toArray t fz):=by
   grind
  have F:Ext M [] w M [] {w with heap:=w.heap.setIfInBounds b (.cells l.toArray t fz)}:=h.ext0 [];refine⟨.slice (some ⟨b,0*1,none⟩) es.length L,_,λc=>M c\/c=b,[],?_,?_,by grind,h.trans (Q5 λ_ q=>.inl q)⟩
  .have hf:w.freeze ⟨b,l.length,none⟩ 1={w with heap:=w.heap.setIfInBounds b (.cells l.toArray t fz)}:=by
    unfold World.freeze;simp only[Nat.one_ne_zero,if_false];rw[Qde Y];rfl
   have R:(markStringish ⟨b,0*1,none⟩).run P w=.ok () {w with heap:=w.heap.setIfInBounds b (.cells l.toArray t fz)}:=by
    simp_all[markStringish,World.shape?]
   have hu:∀w,(underlying T).run P w=.ok (.slice E) w:=run_underlying ht;have O:∀w,(underlying E).run P w=.ok (.int .u8) w:=run_underlying hE;generalize a.eval=ρ at*;simp only[execOp,ho,h2,convert,Vm,hu,O,Result.andThen,beq_self_eq_true,R,Vn]
  .refine⟨some ⟨b,0*1,none⟩,L,rfl,h3,.inr ⟨b,0*1,rfl,.inr rfl,?_⟩⟩;have:=YS (pre:=[]) k (q2.mono F);exact(by omega:RR M [] _ b 1 es (0*1)).keep ⟨λ_ q=>.inl q,λ_ _=>rfl,λ_ _ q=>q,λ_ _ q=>q⟩ rfl
end
mutual
theorem Qdb(ρ:Nat->Nat):∀{a:A},Yq a=true->YM ρ a=a
 |.any,_=>rfl
 |.bool _,_=>rfl
 |.int _ _,_=>rfl
 |.str _,_=>rfl
 |.nilp,_=>rfl
 |.ptr _ _,h=>by simp[Yq]at h
 |.rp _,_=>rfl
 |.nils,_=>rfl
 |.rsl _ _,_=>rfl
 |.osl _ _ _ _,h=>by simp[Yq]at h
 |.agg cs,h=>by simp only[Yq]at h;simp only[YM,Qab ρ h]
 |.fn f a c,h=>by simp only[Yq,XW]at h;simp only[YM,Qab ρ h.1,Qab ρ h.2]
 |.nilf,_=>rfl
 |.iface t a,h=>by simp only[Yq]at h;simp only[YM,Qdb ρ h]
 |.nilif,_=>rfl
 |.map _,h=>by simp[Yq]at h
 |.nilm,_=>rfl
 |.tup vs,h=>by simp only[Yq]at h;simp only[YM,Qab ρ h]
theorem Qab(ρ:Nat->Nat):∀{l:List A},Yw l=true->Qak ρ l=l
 |[],_=>rfl
 |a::l,h=>by simp only[Yw,XW]at h;simp only[Qak,Qdb ρ h.1,Qab ρ h.2]
end
theorem Qfy{α:Type}{e:α->List A}(a:∀x,Yw (e x)=true):∀L:List α,Yw (L.map e).flatten=true
 |[]=>rfl
 |c::L=>by
  have hdt:∀cs ds,Yw cs=true->Yw ds=true->Yw (cs++ds)=true:=by
   intro cs
   induction cs with
   |nil=>simp
   |cons c cs d=>
    simp_all[Yw]
  exact hdt _ _ (a c) (Qfy a L)
theorem Ql9{α:Type}{e:α->List A}(hd:∀x,Yw (e x)=true)(ρ:Nat->Nat)(l:List α):YM ρ (.agg (l.map e).flatten)=.agg (l.map e).flatten:=
 Qdb ρ (by exact Qfy hd l)
end Go.Sw
namespace Go.Sw
section
variable {P:Program} {o:Oper} {env:Env} {H:Qd}
theorem Qd3{c:Call}{f T:Nat}{x:Operand}{xs:List Operand}{h:Array TypeId}{d:String}{v:A}{args:List A}(g:∀(a:Array Value) (w:World),(callFunc f a).run P w=.ok (.enter f a) w)(n:o.op=.call c)
  (p:c={callee:=.invoke x d,args:=xs.toArray,argTypes:=h})(j:opA env x=.iface T v)(hargs:v::xs.map (opA env)=args)
  (k:∀(u:Value) (w:World),(method (P.types.size+Made.depth) T u d).run P w=.ok (f,u) w):OpC P o env H f args:=by
 intro l m σ N a w r;have e:=Qu r x;rw[j]at e;obtain⟨u,e,i⟩:=e;refine⟨u::xs.map a.eval,?_,hargs▸⟨u,xs.map a.eval,rfl,i,Qbe r xs⟩⟩
 simp_all[VH,callMethod,execOp,resolve,invoke]
theorem Qbs{T I:Nat}{x:Operand}{v:A}{d:TypeDesc}(h:∀w,(underlying T).run P w=.ok d w)(j:∀m,d≠ .interface m)(k:o.op=.typeAssert x I T true:=by exact rfl)(hx:opA env x=.iface T v:=by exact rfl):
  OpV P o env H (.tup [v,.bool true]):=by
 intro g i σ N a w r;have e:=Qu r x;rw[hx]at e;obtain⟨u,e,f⟩:=e;refine⟨.tuple #[u,.bool true],?_,[u,.bool true],rfl,_,_,rfl,f,_,_,rfl,rfl,rfl⟩
 simp_all[execOp,Instr.typeAssert]
theorem Qgn{T T' I:Nat}{x:Operand}{v z:A}{zv:Value}{d:TypeDesc}(l:∀w,(underlying T).run P w=.ok d w)(h:∀m,d≠ .interface m)(g:Nat.beq T' T=false)(j:∀w,(zeroValue T).run P w=.ok zv w)(f:ZR z zv)
  (p:o.op=.typeAssert x I T true:=by exact rfl)(hx:opA env x=.iface T' v:=by exact rfl):
  OpV P o env H (.tup [z,.bool false]):=by
 intro k n σ N a w r;have e:=Qu r x;rw[hx]at e;obtain⟨u,e,s⟩:=e;have i:T'≠T:=λq=>by simp_all
 refine⟨.tuple #[zv,.bool false],?_,[zv,.bool false],rfl,_,_,rfl,f _ _ _,_,_,rfl,rfl,rfl⟩
 simp_all[execOp,Instr.typeAssert]
end
def TL(P:Program)(h0 N:Nat)(c:Code)(env:Env)(H:Qd)(Q:QG):Prop:=
 ∀rd fr ro σ a w,Rel fr ro σ H env N a w->QdP rd fr w->∀(b:Frame) (k:List Item) (cs:List Frame),b.roundOf=(WF rd).round->(WF rd).fn b.fn->(WF rd).room (cs.length+1+0)->∃e a' w',Qau h0 fr ro σ w N a.defers Q e a' w'/\ArrivesIn (Machine.fenced P (WF rd)) P (lone (b.atR a (.code c::.inLoop c::k)) cs w) b k cs e a' w'
def Qid(P:Program)(h0 N:Nat)(c:Code)(Q:QG):QG
 |.normal,env,H=>TL P h0 N c env H Q
 |.exit id,env,H=>Q (.exit id) env H
 |.ret,env,H=>Q .ret env H
section
variable {P:Program} {h0 N:Nat} {c:Code} {env:Env} {H:Qd} {Q:QG}
theorem QlD(h:TL P h0 N c env H Q):TC P h0 N (.loop c) env H Q:=by
 intro l i m σ a w r hrd b k cs hro hb hr;obtain⟨e,g,f,j,d⟩:=h l i m σ a w r hrd b k cs hro hb hr;exact⟨e,g,f,j,.of_steps (.one (fenced_calm hb hr rfl) stepR_loop) d⟩
theorem TL.round(h:TC P h0 N c env H (Qid P h0 N c Q)):TL P h0 N c env H Q:=by
 intro F B G σ a w r hrd b k cs hro hb hr;obtain⟨e,n,m,L,d⟩:=h F B G σ a w r hrd b (.inLoop c::k) cs hro hb hr;obtain⟨x,f,H',i,σ',j,l,p,E,s,y,t⟩:=L;have z:∀x,Q x f H'->ExR e x->Qau h0 B G σ w N a.defers Q e n m:=λx q R=>⟨x,f,H',i,σ',j,R,q,E,s,y,t⟩;cases e with
 |normal=>
  obtain rfl:x=.normal:=l;obtain⟨J,M,O,u,g⟩:=p F j i σ' n m E (hrd.to s t.sub) b k cs hro hb hr;exact⟨J,M,O,u.grow s y t,.of_steps (StepsIn.trans d (.one (fenced_calm hb hr rfl) stepR_inLoop)) g⟩
 |exit id=>
  obtain rfl:x=.exit id:=l;exact⟨_,n,m,z _ p rfl,.pass rfl (by simp) d⟩
 |ret=>
  obtain rfl:x=.ret:=l;exact⟨_,n,m,z _ p rfl,.pass rfl (by simp) d⟩
 |_=>exact l.elim
theorem unrN(h:TC P h0 N c env H (Qid P h0 N c Q)):Qid P h0 N c Q .normal env H:=TL.round h
theorem unrX{id:Nat}(h:Q (.exit id) env H):Qid P h0 N c Q (.exit id) env H:=h
theorem unrR(h:Q .ret env H):Qid P h0 N c Q .ret env H:=h
theorem QjT(h:TC P h0 N c env H (Qid P h0 N c Q)):TC P h0 N (.loop c) env H Q:=QlD (TL.round h)
end
section
variable {P:Program} {o:Oper} {env:Env} {H:Qd}
theorem OpV.ixL{t a k b n j:Nat}{x y:Operand}{d:IntKind}{i:Int}(h:Nat.blt j n=true)(hi:i=j)(e:∀w,(underlying t).run P w=.ok (.slice a) w)(f:∀w,(sizeOf a).run P w=.ok k w)
  (g:o.op=.indexAddr t x y:=by exact rfl)(hx:opA env x=.osl b 0 n k:=by exact rfl)(hy:opA env y=.int d i:=by exact rfl):OpV P o env H (.ptr b (j*k)):=by
 have l:=Qi0 (H:=H) g e f hx hy (by omega) (by simp_all)
 grind
end
section
variable {P:Program} {o:Oper} {env:Env} {H:Qd}
end
def QkI{α R:Type}[DecidableEq R](l:List α)(x y:Option R):Option R:=bif l.isEmpty then(bif decide (x=y)then x else none)else y
theorem QkH{α R:Type}[DecidableEq R]{l:List α}{x y:Option R}{r:R}(h:QkI l x y=some r)(b:Bool)(a:l≠[]->b=false):(b=true->x=some r)/\(b=false->y=some r):=by
 unfold QkI at h
 grind
section
variable {P:Program} {o:Oper} {env:Env} {H:Qd} {h0 N:Nat} {Q:QG}
end
section
variable {P:Program} {o:Oper} {env:Env} {H:Qd} {α:Type} {e:α->List A} {T et k b t:Nat} {x y:Operand} {l l':List α} {i:Int}
end
open Go.Sort Go.Proofs Go.Shelf
theorem Qgm{ro:Nat->Prop}{σ:Sig}{w:World}:∀{l:List Int} {lv:List Value},RL ro σ w 1 (l.map λx=>[A.int .i64 x]) lv->∃rest,lv=l.map (Value.int .i64)++rest
 |[],lv,_=>⟨lv,rfl⟩
 |x::l,lv,h=>by
  obtain⟨l1,l2,rfl,h1,⟨h2,h3⟩,h4⟩:=h;obtain⟨rest,rfl⟩:=Qgm h4;obtain⟨v,r,rfl,hv,hr⟩:=h2;cases(show r=[]from hr);exact⟨rest,by rw[show v=.int .i64 x from hv];simp⟩
section
variable {P:Program} {o:Oper} {env:Env} {H:Qd} {α:Type} {e:α->List A} {T et k b t:Nat} {x y:Operand}
theorem Qb7{lo hi:Option Operand}{l r:List α}{a c:Int}(h:slc l a c=some r)(E1:∀w,(underlying T).run P w=.ok (.slice et) w)(E2:∀w,(sizeOf et).run P w=.ok k w)
  (d:lo=none/\a=0\/ ∃y,lo=some y/\opA env y=.int .i64 a)(e:hi=none/\c=l.length\/ ∃y,hi=some y/\opA env y=.int .i64 c)
  (f:o.op=.slice T x lo hi none:=by exact rfl)(hx:opA env x=.osl b 0 l.length k:=by exact rfl):OpV P o env H (.osl b (0+a.toNat) (c.toNat-a.toNat) k):=by
 obtain⟨g,j,i,_⟩:=Qc8 h;refine QlN E1 E2 f hx ?_ ?_ (by omega) (by omega)
 .grind
 grind
theorem QlJ{l r:List α}{a c:Int}(h:slc l a c=some r)(d:H[b]?=some (.row t k (l.map e)):=by exact rfl):Src P H (.osl b (0+a.toNat) (c.toNat-a.toNat) k) k (r.map e):=by
 obtain⟨g,j,i,f⟩:=Qc8 h;refine Src.osl d ?_ (by grind);rw[<- f, <- List.map_drop, <- List.map_take,Xw,List.drop_take]
end
end Go.Sw
namespace Go.Sw
inductive Bx where
 |mk (a:A)
def lkB:Env->Nat->Bx
 |[],_=>.mk .any
 |(d,a)::r,s=>bif Nat.beq s d then .mk a else lkB r s
theorem QhO:∀{env:Env} {s:Nat} {a:A},lkB env s=.mk a->lk env s=a
 |[],s,a,h=>by cases h;rfl
 |(d,b)::r,s,a,h=>by
  unfold lkB at h;unfold lk;cases q:Nat.beq s d with
  |true=>grind
  |false=>rw[q]at h;exact QhO h
inductive FBy where
 |mk (l:List UInt8)
def fby:List UInt8->FBy
 |[]=>.mk []
 |a::r=>match fby r with
  |.mk r'=>.mk (a::r')
theorem QkV:∀l,fby l=.mk l
 |[]=>rfl
 |a::r=>by unfold fby;rw[QkV r]
def opB(env:Env):Operand->Bx
 |.tmp t=>lkB env t
 |.const (.bool b)=>.mk (.bool b)
 |.const (.int k n)=>.mk (.int k n)
 |.const (.string s)=>match fby s.data.toList with
  |.mk l=>.mk (.str l)
 |.const (.pointer none)=>.mk .nilp
 |.const (.slice none 0 0)=>.mk .nils
 |.const (.map none)=>.mk .nilm
 |.const .nilFunc=>.mk .nilf
 |.const .nilIface=>.mk .nilif
 |.func f=>.mk (.fn (.func f) [] [])
 |_=>.mk .any
theorem QT{env:Env}{x:Operand}{a:A}(h:opB env x=.mk a):opA env x=a:=by
 cases x with
 |tmp t=>exact QhO h
 |const v=>
  cases v with
  |slice b n k=>cases b with
   |none=>cases n with
    |zero=>cases k<;>(cases h;rfl)
    |succ n=>cases h;rfl
   |some b=>cases h;rfl
  |pointer p=>cases p<;>(cases h;rfl)
  |map p=>cases p<;>(cases h;rfl)
  |string s=>
   have d:(match fby s.data.toList with|.mk l=>Bx.mk (.str l))=.mk a:=h;rw[QkV]at d;cases d;rfl
  |_=>cases h;rfl
 |global g=>cases h;rfl
 |func f=>cases h;rfl
def YN{α:Type}:List α->Nat->Option α
 |[],_=>none
 |a::_,0=>some a
 |_::r,n+1=>YN r n
theorem QaC{α:Type}:∀(l:List α) (n:Nat),YN l n=l[n]?
 |[],n=>by simp[YN]
 |a::r,0=>rfl
 |a::r,n+1=>by simp[YN,QaC r n]
def arB:BinOp->IntKind->Int->Int->Option A
 |.add,k,m,n=>some (.int k (k.wrap (m+n)))
 |.sub,k,m,n=>some (.int k (k.wrap (m-n)))
 |.mul,k,m,n=>some (.int k (k.wrap (m*n)))
 |.eql,_,m,n=>some (.bool (m==n))
 |.neq,_,m,n=>some (.bool (m != n))
 |.lss,_,m,n=>some (.bool (decide (m<n)))
 |.leq,_,m,n=>some (.bool (decide (m<=n)))
 |.gtr,_,m,n=>some (.bool (decide (n<m)))
 |.geq,_,m,n=>some (.bool (decide (n<=m)))
 |_,_,_,_=>none
def srB:BinOp->List UInt8->List UInt8->Option A
 |.eql,p,q=>some (.bool (p==q))
 |.neq,p,q=>some (.bool (p != q))
 |.lss,p,q=>some (.bool (Op.bytesLess p q))
 |_,_,_=>none
def biB(b:BinOp):Bx->Bx->Option A
 |.mk (.int k m),.mk (.int k' n)=>if k=k' then arB b k m n else none
 |.mk (.str p),.mk (.str q)=>srB b p q
 |_,_=>none
def unB:UnOp->Bx->Option A
 |.not,.mk (.bool b)=>some (.bool !b)
 |.neg,.mk (.int k n)=>some (.int k (k.wrap (0-n)))
 |_,_=>none
def exB:Bx->Nat->Option A
 |.mk (.tup vs),i=>YN vs i
 |_,_=>none
def nlB:Bx->Option A
 |.mk (.ptr i j)=>some (.ptr i j)
 |.mk (.rp cs)=>some (.rp cs)
 |_=>none
def piB:Bx->Bx->Bx->Option A
 |.mk (.bool true),.mk a,_=>some a
 |.mk (.bool false),_,.mk a=>some a
 |_,_,_=>none
def svB(env:Env):Op->Option A
 |.move x=>match opB env x with|.mk a=>some a
 |.assign x=>match opB env x with|.mk a=>some a
 |.nilCheck x=>nlB (opB env x)
 |.extract x i=>exB (opB env x) i
 |.unOp u _ x=>unB u (opB env x)
 |.pick c x y=>piB (opB env c) (opB env x) (opB env y)
 |.binOp b _ x y _=>biB b (opB env x) (opB env y)
 |_=>none
def pr(d:Nat):Option A->Option (Nat×A)
 |some a=>some (d,a)
 |none=>none
def stB(o:Oper)(env:Env):Option (Nat×A):=
 match o.dst with
 |some d=>pr d (svB env o.op)
 |none=>none
section
variable {P:Program} {h0 N:Nat} {all:Array Oper} {o:Oper} {l:List Oper} {env:Env} {H H':Qd} {Q:QG} {d:Nat} {x:A}
theorem QbF{p:Op}(g:o.op=p)(h:svB env p=some x):OpV P o env H x:=by
 unfold svB at h;split at h
 .rename_i y;cases q:opB env y with|mk a=>simp_all[OpV.move,QT]
 .rename_i y;cases q:opB env y with|mk a=>simp_all[OpV.assign,QT]
 .rename_i y;unfold nlB at h;split at h
  .rename_i i j q;cases h;exact QeZ g (QT q) rfl
  .rename_i s q;cases h;exact QeZ g (QT q) rfl
  .cases h
 .rename_i y i;unfold exB at h
  grind[QaC,OpV.extract,QT]
 .rename_i u t y;unfold unB at h
  grind[OpV.not,QT,OpV.neg]
 .rename_i c y z;unfold piB at h;split at h
  .rename_i a _ f d;cases h;exact OpV.pick g (QT f) (by rw[Vs rfl];exact QT d)
  .rename_i a f d;cases h;exact OpV.pick g (QT f) (by exact QT d)
  .cases h
 .rename_i b t y z u;unfold biB at h;split at h
  .rename_i k m w n f d;split at h
   .rename_i e;subst e;have l:=QT f;have r:=QT d;unfold arB at h
    grind[OpV.add,OpV.sub,OpV.mul,OpV.eql,OpV.neq,OpV.lss,OpV.leq,OpV.gtr,OpV.geq]
   .cases h
  .rename_i p q f d;have l:=QT f;have r:=QT d;unfold srB at h
   grind[Qj1,QjY,QjZ]
  .cases h
 .cases h
theorem Qkq(h:stB o env=some (d,x)):o.dst=some d/\OpV P o env H x:=by
 unfold stB at h;split at h
 .rename_i f q;cases e:svB env o.op with
  |none=>rw[e]at h;cases h
  |some a=>rw[e]at h;cases h;exact⟨q,QbF rfl e⟩
 .cases h
theorem S(e:stB o env=some (d,x))(k:WO P h0 N all l (up env d x) H Q)(hg:QI all o env true:=by exact rfl)(hN:Nat.blt d N=true:=by exact rfl):WO P h0 N all (o::l) env H Q:=
 Y8 hg (Qkq (P:=P) (H:=H) e).1 hN (Qkq e).2 k
theorem K(hg:QI all o env false)(a:o.dst=some d)(k:WO P h0 N all l (up env d (.tup [])) H Q)(e:Nat.blt d N=true:=by exact rfl):WO P h0 N all (o::l) env H Q:=
 WO.skip hg a e k
inductive Lx where
 |mk (l:List A)
def Qhn:Nat->List A->Lx
 |0,l=>.mk l
 |n+1,_::r=>Qhn n r
 |_+1,[]=>.mk []
theorem QeQ:∀{n:Nat} {l r:List A},Qhn n l=.mk r->l.drop n=r
 |0,l,r,h=>by cases h;rfl
 |n+1,a::l,r,h=>by rw[List.drop_succ_cons];exact QeQ h
 |n+1,[],r,h=>by cases h;rfl
def ctB:Option Blk->Nat->Option A
 |some (.cells _ cs),off=>YN cs off
 |_,_=>none
def lvB(H:Qd):Bx->Option A
 |.mk (.ptr i off)=>ctB (YN H i) off
 |.mk (.rp (a::_))=>some a
 |_=>none
def pr3(d t:Nat):Option A->Option (Nat×Nat×A)
 |some a=>some (d,t,a)
 |none=>none
def ldB(o:Oper)(env:Env)(H:Qd):Option (Nat×Nat×A):=
 match o.dst,o.op with
 |some d,.load t x=>pr3 d t (lvB H (opB env x))
 |_,_=>none
theorem QkE{t:Nat}(l:∀w,(isAgg t).run P w=.ok false w)(h:ldB o env H=some (d,t,x)):o.dst=some d/\OpV P o env H x:=by
 unfold ldB at h;split at h
 .rename_i u s y m k;cases e:lvB H (opB env y)with
  |none=>rw[e]at h;cases h
  |some a=>
   rw[e]at h;cases h;refine⟨m,?_⟩;unfold lvB at e;split at e
   .rename_i i g j;unfold ctB at e;split at e
    .rename_i g q T0 T cs q4;rw[QaC]at e q4;obtain⟨f,p⟩:∃f,cs.drop g=x::f:=by
      have n:=(XL.1 e).1
      simp_all[Xp]
     exact OpV.load k l (QT j) (Pts.cells q4 p)
    .cases e
   .rename_i a r j;cases e;exact OpV.load k l (QT j) Pts.rp
   .cases e
 .cases h
theorem Ld{t:Nat}(a:∀w,(isAgg t).run P w=.ok false w)(e:ldB o env H=some (d,t,x))(k:WO P h0 N all l (up env d x) H Q)(hg:QI all o env true:=by exact rfl)(hN:Nat.blt d N=true:=by exact rfl):WO P h0 N all (o::l) env H Q:=
 Y8 hg (QkE a e).1 hN (QkE a e).2 k
def ixB(o:Oper)(env:Env):Option (Nat×Nat×Nat×List (List A)×IntKind×Int):=
 match o.dst,o.op with
 |some d,.indexAddr t x y=>match opB env x,opB env y with
  |.mk (.rsl k es),.mk (.int kk i)=>some (d,t,k,es,kk,i)
  |_,_=>none
 |_,_=>none
theorem Ix{α:Type}{e:α->List A}{t a k:Nat}{L:List α}{n:IntKind}{i:Int}{v:α}(h:idx L i=some v)(r:∀w,(underlying t).run P w=.ok (.slice a) w)(s:∀w,(sizeOf a).run P w=.ok k w)
  (q:ixB o env=some (d,t,k,L.map e,n,i))(k:WO P h0 N all l (up env d (.rp (e v))) H Q)(hg:QI all o env true:=by exact rfl)(hN:Nat.blt d N=true:=by exact rfl):WO P h0 N all (o::l) env H Q:=by
 unfold ixB at q;split at q
 .rename_i p j;split at q
  .rename_i m g;simp[Option.some.injEq,Prod.mk.injEq]at q;obtain⟨rfl,rfl,rfl,f,rfl,rfl⟩:=q;exact Y8 hg p hN (Js h r s j (by rw[QT m,f]) (QT g)) k
  .cases q
 .cases q
def lnB(o:Oper)(env:Env):Option (Nat×Nat×Bx):=
 match o.dst,o.op with
 |some d,.call c=>match c with
  |{callee:=.builtin .len,args:=⟨[x]⟩,argTypes:=⟨[t]⟩}=>some (d,t,opB env x)
  |_=>none
 |_,_=>none
theorem Qnu{t:Nat}{b:Bx}(q:lnB o env=some (d,t,b)):∃x,o.dst=some d/\o.op=.call {callee:=.builtin .len,args:= #[x],argTypes:= #[t]}/\opB env x=b:=by
 unfold lnB at q
 grind
theorem LnM{α:Type}{e:α->List A}{t a k:Nat}{L:List α}(h:∀w,(underlying t).run P w=.ok (.slice a) w)(q:lnB o env=some (d,t,.mk (.rsl k (L.map e))))
  (k:WO P h0 N all l (up env d (.int .i64 L.length)) H Q)(hg:QI all o env true:=by exact rfl)(hN:Nat.blt d N=true:=by exact rfl):WO P h0 N all (o::l) env H Q:=by
 obtain⟨x,f,g,i⟩:=Qnu q;exact Y8 hg f hN (Qe1 h g rfl (QT i)) k
end
section
variable {P:Program} {h0 N:Nat} {all:Array Oper} {env env':Env} {H H':Qd} {Q:QG} {c c':Code}
theorem Oi{α:Type}{x y:α}(h:some x=some y):x=y:=XZ h
theorem Bd{α β:Type}{x:Option α}{f:α->Option β}{r:β}{G:Prop}(h:x.bind f=some r)(k:∀a,x=some a->f a=some r->G):G:=by
 obtain⟨a,e,d⟩:=Yh h
 grind
theorem Cn{α:Type}{x:Operand}{t:Bool}{p q:Option α}{r:α}(hx:opB env x=.mk (.bool t))(h:(bif t then p else q)=some r)(ht:t=true->p=some r->TC P h0 N c env H Q)(hf:t=false->q=some r->TC P h0 N c' env H Q):TC P h0 N (.cond x c c') env H Q:=
 TC.cond (QT hx) (by grind) (by grind)
theorem QV{α:Type}{x:Operand}{t:Bool}{p q:Option α}{r:α}(hx:opB env x=.mk (.bool t))(h:(bif t then p else q)=some r)(hf:t=false->q=some r->TC P h0 N c' env H Q)(ht:t=true->p=some r->TC P h0 N c env H Q):TC P h0 N (.cond x c c') env H Q:=
 TC.cond (QT hx) (by grind) (by grind)
theorem Lr(π:List Nat)(a:π.take h0=List.range h0:=by exact rfl)(hH:π.map (λp=>H[p]?)=(H'.map (QZ (rho π H.length))).map some:=by exact rfl)(hπ:π.Nodup:=by decide)
  (hE:QbY (rho π H.length) env env':=by(repeat' (first|exact trivial|refine⟨rfl,?_⟩))):Le h0 env H env' H':=QnQ π a hH hπ hE
end
def Ev{α:Type}(f:Nat->Option α)(v:α):Prop:=∃N,∀n,N<=n->f n=some v
section
variable {α β:Type} {f g:Nat->Option α} {v w:α}
theorem Qa(v:α):Ev (λ_=>some v) v:=⟨0,λ_ _=>rfl⟩
theorem Ev.const{o:Option α}(h:o=some v):Ev (λ_=>o) v:=⟨0,λ_ _=>h⟩
theorem Ev.bind{k:Nat->α->Option β}{b:β}(h:Ev f v)(a:Ev (λn=>k n v) b):Ev (λn=>(f n).bind (k n)) b:=by
 obtain⟨N,h⟩:=h;obtain⟨M,a⟩:=a;exact⟨max N M,λn d=>by grind⟩
theorem Qt{o:Option α}{k:Nat->α->Option β}{b:β}(h:o=some v)(hk:Ev (λn=>k n v) b):Ev (λn=>o.bind (k n)) b:=Ev.bind (Ev.const h) hk
theorem Qah{c:Bool}(a:c=true->Ev f v)(d:c=false->Ev g w):Ev (λn=>bif c then f n else g n) (bif c then v else w):=by
 cases c with
 |true=>exact a rfl
 |false=>exact d rfl
theorem Qaq(h:Ev f v):Ev (λn=>bif true then f n else g n) v:=h
theorem Qs(h:Ev g v):Ev (λn=>bif false then f n else g n) v:=h
theorem Ev.and{c d:Bool}{h:Nat->Option Bool}(a:c=true->Ev h d):Ev (λn=>bif c then h n else some false) (c&&d):=by
 cases c with
 |true=>exact a rfl
 |false=>exact Qa _
theorem Qh{c d:Bool}{h:Nat->Option Bool}(a:c=false->Ev h d):Ev (λn=>bif c then some true else h n) (c||d):=by
 cases c with
 |true=>exact Qa _
 |false=>exact a rfl
theorem Ev.eq(h:Ev f v)(e:v=w):Ev f w:=e▸h
theorem QlS(h:Ev f v)(e:∀n,g n=f n):Ev g v:=by
 obtain⟨N,h⟩:=h;exact⟨N,λn a=>by grind⟩
theorem Yy(h:Ev (λn=>f (n+1)) v):Ev f v:=by
 obtain⟨N,h⟩:=h;refine⟨N+1,λn a=>?_⟩;obtain⟨m,rfl⟩:∃m,n=m+1:=⟨n-1,by omega⟩
 grind
theorem Ev.ex(h:Ev f v):∃n,f n=some v:=let⟨N,h⟩:=h;⟨N,h N (XT _)⟩
theorem QmU(h:Ev f v)(k:Ev f w):v=w:=by
 obtain⟨N,h⟩:=h;obtain⟨M,k⟩:=k;have a:=h (max N M) (by omega)
 grind
theorem Ev.all{k:Nat}{F:Nat->Nat->Option α}{V:Nat->α}(h:∀i,i<k->Ev (F i) (V i)):∃N,∀n,N<=n->∀i,i<k->F i n=some (V i):=by
 induction k with
 |zero=>simp
 |succ k a=>
  obtain⟨N,f⟩:=a (by grind);obtain⟨M,g⟩:=h k (by omega);refine⟨max N M,λn e i d=>?_⟩
  grind
end
section
variable {S B α:Type} {step:Nat->S->Option (Ctl S B)}
theorem Ev.iter{s0:S}(a:Nat->S)(k:Nat){b:B}(d:a 0=s0)(f:∀i,i<k->Ev (λn=>step n (a i)) (.cont (a (i+1))))(e:Ev (λn=>step n (a k)) (.done b)):
  Ev (λn=>Go.Sw.iter (step n) n s0) b:=by
 obtain⟨N,h⟩:=Ev.all f;obtain⟨M,g⟩:=e;exact⟨max (max N M) (k+1),λn j=>QkG s0 a b k d (by grind) (g n (by omega)) n (by omega)⟩
theorem Qca{step:S->Option (Ctl S B)}{s:S}{b:B}(m:Nat)(h:Go.Sw.iter step m s=some b):Ev (λn=>Go.Sw.iter step n s) b:=by
 have mono:∀m s,Go.Sw.iter step m s=some b->∀n,m<=n->Go.Sw.iter step n s=some b:=by
  intro m
  induction m with
  |zero=>intro s h;cases h
  |succ m e=>
   intro s h n d;obtain⟨a,rfl⟩:∃a,n=a+1:=⟨n-1,by omega⟩
   grind[Go.Sw.iter]
 exact⟨m,(by grind)⟩
structure At (l:List α) (i:Nat) (x:α):Prop where
 get:l[i]?=some x
 lt:decide ((i:Int)<(l.length:Int))=true
 ix:idx l (i:Int)=some x
 nx:IntKind.i64.wrap ((i:Int)+1)=((i+1:Nat):Int)
theorem Y9{l:List α}{i:Nat}{x:α}(d:l.length<=4611686018427387904)(h:l[i]?=some x):At l i x:=by
 have a:=(XL.1 h).1;exact⟨h,(by grind),Qo h,QO (by omega)⟩
theorem At.mem{l:List α}{i:Nat}{x:α}(h:At l i x):x∈l:=VG h.get
theorem At.lt'{l:List α}{i:Nat}{x:α}(h:At l i x):i<l.length:=(XL.1 h.get).1
theorem At.take{l:List α}{i:Nat}{x:α}(h:At l i x):l.take (i+1)=l.take i++[x]:=by
 rw[List.take_add_one,h.get];rfl
theorem Qao(l:List α):decide ((l.length:Int)<(l.length:Int))=false:=(by simp)
theorem YZ{s0:S}(l:List α)(q:α->Bool)(a:Nat->S)(m b:B)(p:l.length<=4611686018427387904)(r:a 0=s0)
  (s:∀i x,At l i x->q x=false->Ev (λn=>step n (a i)) (.cont (a (i+1))))
  (f:∀i x,At l i x->q x=true->Ev (λn=>step n (a i)) (.done m))
  (t:Ev (λn=>step n (a l.length)) (.done b)):Ev (λn=>Go.Sw.iter (step n) n s0) (bif l.any q then m else b):=by
 have d:∀k,k<=l.length->(∀i x,l[i]?=some x->i<k->q x=false)\/ ∃i x,l[i]?=some x/\i<k/\q x=true/\ ∀j y,l[j]?=some y->j<i->q y=false:=by
  intro k
  induction k with
  |zero=>simp
  |succ k z=>
   grind
 rcases d l.length (XT _)with h|⟨i,x,u,G,w,E⟩
 .have:l.any q=false:=by
   rw[VL];intro e;obtain⟨x,f,e⟩:=Xt.1 e;obtain⟨i,g,rfl⟩:=List.getElem_of_mem f
   grind
  rw[this];exact Ev.iter a l.length r (λi g=>s i _ (Y9 p (XK g)) (by grind)) t
 .have:l.any q=true:=(by grind);rw[this];refine Ev.iter a i r (λj F=>?_) (f i x (Y9 p u) w)
  grind[Y9]
theorem QaD{β:Type}{s0:S}(l:List α)(g:β->α->β)(d:β)(e:β->Nat->S)(f:β->B)(k:l.length<=4611686018427387904)(q:e d 0=s0)
  (m:∀i x a,At l i x->a=(l.take i).foldl g d->Ev (λn=>step n (e a i)) (.cont (e (g a x) (i+1))))
  (p:Ev (λn=>step n (e (l.foldl g d) l.length)) (.done (f (l.foldl g d)))):Ev (λn=>Go.Sw.iter (step n) n s0) (f (l.foldl g d)):=by
 refine Ev.iter (λi=>e ((l.take i).foldl g d) i) l.length (by grind) (λi j=>?_) (by grind);have h:=Y9 k (XK j);have:=m i _ _ h rfl;rw[h.take,List.foldl_append];exact this
theorem Ev.contains(l:List α)(q:α->Bool)(g:Nat->α->Option Bool)(d:l.length<=4611686018427387904)(hg:∀x∈l,Ev (λn=>g n x) (q x)):
  Ev (λn=>(((Go.Sw.iter (λs:Int=>bif decide (s<(l.length:Int))then(idx l s).bind λx=>(g n x).bind λr=>(bif r then some (Ctl.done (Ctl.done s))else some (Ctl.cont (IntKind.i64.wrap (s+1))))else some (Ctl.done (Ctl.cont ()))) n (0:Int):Option (Ctl Unit Int)).bind λb=>
   match b with
   |.cont _=>some (-1)
   |.done s=>some s):Option Int).bind λr=>some (decide (0<=r))) (l.any q):=by
 cases e:l.any q with
 |false=>
  refine Ev.bind (v:=(-1:Int)) (Ev.bind (v:=Ctl.cont ()) (Ev.iter (λi=>(i:Int)) l.length rfl (λi p=>?_) ?_) (Qa _)) (Qa _)
  .have a:=Y9 (x:=l[i]) d (XK p);simp only[a.lt,Vo,a.ix,XJ];have w:q l[i]=false:=by
    grind
   refine Ev.bind ((hg _ a.mem).eq w) ?_;simp only[Vp,a.nx];exact Qa _
  simp_all[Qa]
 |true=>
  obtain⟨x,B,h⟩:=Xt.1 e;have f:∀k,k<=l.length->(∀(i:Nat) (x:α),l[i]?=some x->i<k->q x=false)\/ ∃(i:Nat) (x:α),l[i]?=some x/\i<k/\q x=true/\ ∀(j:Nat) (y:α),l[j]?=some y->j<i->q y=false:=by
   intro k
   induction k with
   |zero=>simp
   |succ k E=>
    grind
  rcases f l.length (XT _)with F|⟨i,x,t,G,z,u⟩
  .obtain⟨j,m,rfl⟩:=List.getElem_of_mem B
   grind
  .refine Ev.bind (v:=(i:Int)) (Ev.bind (v:=Ctl.done (i:Int)) (Ev.iter (λi=>(i:Int)) i rfl (λj m=>?_) ?_) (Qa _)) ?_
   .have a:=Y9 (x:=l[j]) d (XK (by omega));simp only[a.lt,Vo,a.ix,XJ];refine Ev.bind ((hg _ a.mem).eq (u j _ a.get m)) ?_;simp only[Vp,a.nx];exact Qa _
   .have a:=Y9 d t;simp only[a.lt,Vo,a.ix,XJ];refine Ev.bind ((hg _ a.mem).eq z) ?_;exact Qa _
   simp_all[Qa]
end
section
variable {S B α:Type} {step:Nat->S->Option (Ctl S B)}
theorem Qc3{s0:S}(a:Nat->S)(k:Nat)(R:Nat->B)(f:a 0=s0)(r:∀i,i<k->(Ev (λn=>step n (a i)) (.cont (a (i+1)))/\R i=R (i+1))\/Ev (λn=>step n (a i)) (.done (R i)))
  (g:Ev (λn=>step n (a k)) (.done (R k))):Ev (λn=>Go.Sw.iter (step n) n s0) (R 0):=by
 have e:∀m,m<=k->(∀i,i<m->Ev (λn=>step n (a i)) (.cont (a (i+1)))/\R i=R (i+1))\/ ∃j,j<m/\(∀i,i<j->Ev (λn=>step n (a i)) (.cont (a (i+1)))/\R i=R (i+1))/\Ev (λn=>step n (a j)) (.done (R j)):=by
  intro m
  induction m with
  |zero=>simp
  |succ m l=>
   grind
 have same:∀m,(∀i,i<m->R i=R (i+1))->R 0=R m:=by
  intro m
  induction m with
  |zero=>intro _;rfl
  |succ m l=>grind
 rcases e k (XT _)with h|⟨j,s,p,q⟩
 .rw[same k λi d=>(h i d).2];exact Ev.iter a k f (by grind) g
 .rw[same j λi d=>(p i d).2];exact Ev.iter a j f (by grind) q
theorem At.drop{l:List α}{i:Nat}{x:α}(h:At l i x):l.drop i=x::l.drop (i+1):=by
 have:=h.lt';rw[Xp this,(XL.1 h.get).2]
theorem Qbu{s0:S}(l:List α)(st:Nat->S)(R:Nat->B)(hl:l.length<=4611686018427387904)(h0:st 0=s0)
  (hc:∀i x,At l i x->(Ev (λn=>step n (st i)) (.cont (st (i+1)))/\R i=R (i+1))\/Ev (λn=>step n (st i)) (.done (R i)))
  (hd:Ev (λn=>step n (st l.length)) (.done (R l.length))):Ev (λn=>Go.Sw.iter (step n) n s0) (R 0):=
 Qc3 st l.length R h0 (λi hi=>hc i _ (Y9 hl (XK hi))) hd
end
section
variable {α β:Type} [DecidableEq α]
theorem QaF(p:α×β)(l:List (α×β))(k:α):Y3 (p::l) k=if p.1=k then some p.2 else Y3 l k:=by
 grind[Y3]
theorem Qjl(p:α×β)(l:List (α×β))(k:α)(v:β):Q3 (p::l) k v=if p.1=k then(p.1,v)::l.map (λq=>bif decide (q.1=k)then(q.1,v)else q)else p::Q3 l k v:=by
 unfold Q3
 grind
theorem QkC(l:List (α×β))(k a:α)(v:β)(h:a≠k):Y3 (l.map λq=>bif decide (q.1=k)then(q.1,v)else q) a=Y3 l a:=by
 induction l with
 |nil=>rfl
 |cons p l d=>
  grind[QaF]
theorem Qb3(l:List (α×β))(k a:α)(v:β):Y3 (Q3 l k v) a=if a=k then some v else Y3 l a:=by
 induction l with
 |nil=>
  show Y3 ([]++[(k,v)]) a=_;rw[Vh,QaF]
  grind
 |cons p l d=>
  rw[Qjl];by_cases e:p.1=k
  .rw[Vs e,QaF,QaF];by_cases h:a=k
   .grind
   .have:p.1≠a:=(by grind)
    simp_all[QkC]
  .rw[Vr e,QaF,QaF,d]
   grind
theorem Qjm(k:α)(z:β):QB ([]:List (α×β)) k z=z:=rfl
theorem Qen(l:List (α×β))(k a:α)(v z:β):QB (Q3 l k v) a z=if a=k then v else QB l a z:=by
 grind[QB,Qb3]
theorem Qjk(l:List (α×β))(k:α)(v:β):(Q3 l k v).map (·.1)=if k∈l.map (·.1)then l.map (·.1)else l.map (·.1)++[k]:=by
 unfold Q3;have e:(l.any λp=>decide (p.1=k))=decide (k∈l.map (·.1)):=by
  grind
 rw[e];by_cases h:k∈l.map (·.1)
 .rw[Vt h,Vs h,Vo,List.map_map];apply List.map_congr_left
  grind
 grind
def Yg{γ:Type}(key:γ->α)(v:β)(l:List γ):List (α×β):=l.foldl (λm x=>Q3 m (key x) v) []
theorem QfZ{γ:Type}(a:γ->α)(v:β)(l:List γ)(x:γ):Yg a v (l++[x])=Q3 (Yg a v l) (a x) v:=by
 unfold Yg;simp
theorem Qdx{γ:Type}(a:γ->α)(v z:β)(l:List γ)(k:α):QB (Yg a v l) k z=if k∈l.map a then v else z:=by
 have d:∀(l:List γ) (m:List (α×β)),QB (l.foldl (λm x=>Q3 m (a x) v) m) k z=if k∈l.map a then v else QB m k z:=by
  intro l
  induction l with
  |nil=>simp
  |cons x l e=>
   intro m;rw[XD,e,Qen]
   grind
 exact d l []
theorem Qcc{γ:Type}(a:γ->α)(v:β)(l:List γ):(Yg a v l).length<=l.length/\((Yg a v l).length=l.length↔(l.map a).Nodup):=by
 have f:∀(l:List γ) (m:List (α×β)),(m.map (·.1)).Nodup->(l.foldl (λm x=>Q3 m (a x) v) m).length<=m.length+l.length/\((l.foldl (λm x=>Q3 m (a x) v) m).length=m.length+l.length↔(m.map (·.1)++l.map a).Nodup):=by
  intro l
  induction l with
  |nil=>simp
  |cons x l j=>
   intro m g;have e:=Qjk m (a x) v;have d:(Q3 m (a x) v).length=((Q3 m (a x) v).map (·.1)).length:=by simp
   by_cases h:a x∈m.map (·.1)
   .grind
   .rw[Vr h]at e;have i:((Q3 m (a x) v).map (·.1)).Nodup:=by
     grind
    grind
 grind[Yg]
end
theorem Jg{α:Type}(l:List α)(p:α->Bool)(g:Nat->α->Option Bool)(a:l.length<=4611686018427387904)(hg:∀x∈l,Ev (λn=>g n x) (p x)):
  Ev (λn=>(((Go.Sw.iter (λs:Int=>bif decide (s<l.length)then(idx l s).bind λx=>((g n x).bind λr1=>some (!r1)).bind λr=>(bif r then some (Ctl.done (Ctl.done s))else some (Ctl.cont (IntKind.i64.wrap (s+1))))else some (Ctl.done (Ctl.cont ()))) n 0).bind λb=>
   match b with
   |.cont _=>some (-1)
   |.done s=>some s).bind λr=>some (decide (0<=r))).bind λr=>some (!r)) (l.all p):=by
 refine Ev.bind (Ev.contains l (λx=> !p x) (λn x=>(g n x).bind λr1=>some (!r1)) a λx d=>Ev.bind (hg x d) (Qa _)) ((Qa _).eq ?_)
 grind
def QjM{α κ:Type}[DecidableEq κ](ok:α->Bool)(key:α->κ):List κ->List α->Bool
 |_,[]=>true
 |seen,x::r=>ok x&& !seen.contains (key x)&&QjM ok key (seen++[key x]) r
theorem QiU{α κ:Type}[DecidableEq κ](ok:α->Bool)(d:α->κ):∀(l:List α) (a:List κ),a.Nodup->QjM ok d a l=(l.all ok&&decide ((a++l.map d).Nodup))
 |[],a,h=>by simp[QjM,h]
 |x::r,a,h=>by
  simp[QjM,Vj];by_cases hk:d x∈a
  .grind
  .have hn:(a++[d x]).Nodup:=by
    grind
   rw[QiU ok d r _ hn]
   grind
theorem QlT{α κ B:Type}[DecidableEq κ]{step:Nat->Int->Option (Ctl Int B)}(l:List α)(ok:α->Bool)(a:α->κ)(d b:B)(h:l.length<=4611686018427387904)
  (k:∀i x,At l i x->ok x=true->((l.take i).map a).contains (a x)=false->Ev (λn=>step n (i:Int)) (.cont ((i+1:Nat):Int)))
  (m:∀i x,At l i x->ok x=false->Ev (λn=>step n (i:Int)) (.done d))
  (j:∀i x,At l i x->ok x=true->((l.take i).map a).contains (a x)=true->Ev (λn=>step n (i:Int)) (.done d))
  (g:Ev (λn=>step n (l.length:Int)) (.done b)):Ev (λn=>Go.Sw.iter (step n) n 0) (bif l.all ok&&decide ((l.map a).Nodup)then b else d):=by
 have e:=QiU ok a l [] (by simp);rw[Vh]at e;rw[<- e];refine Qbu l (λi=>(i:Int)) (λi=>bif QjM ok a ((l.take i).map a) (l.drop i)then b else d) h rfl (λi x f=>?_) ?_
 .rw[f.drop];simp only[QjM];rw[show(l.take i).map a++[a x]=(l.take (i+1)).map a by rw[f.take];simp]
  grind
 .rw[Xr];exact g
theorem Qhz{α κ B:Type}[DecidableEq κ]{step:Nat->Int->Option (Ctl Int B)}(l:List α)(i:Nat)(a:α->κ)(k:κ)(f b:B)(s:l.length<=4611686018427387904)(hi:i<=l.length)
  (t:∀j y,j<i->At l j y->decide (a y=k)=false->Ev (λn=>step n (j:Int)) (.cont ((j+1:Nat):Int)))
  (u:∀j y,j<i->At l j y->decide (a y=k)=true->Ev (λn=>step n (j:Int)) (.done f))
  (r:Ev (λn=>step n (i:Int)) (.done b)):Ev (λn=>Go.Sw.iter (step n) n 0) (bif ((l.take i).map a).contains k then f else b):=by
 have e:((l.take i).map a).contains k=(l.take i).any λy=>decide (a y=k):=by
  grind
 rw[e];have g:(l.take i).length=i:=by simp;omega
 have p:∀j y,At (l.take i) j y->j<i/\At l j y:=by
  intro j y d;have m:=d.lt';have h:=d.get
  grind[Y9]
 refine YZ (l.take i) (λy=>decide (a y=k)) (λi=>(i:Int)) _ _ (by omega) rfl (λj y d q=>?_) (λj y d q=>?_) ?_
 .grind
 .grind
 grind
theorem Qbv{α κ β:Type}[DecidableEq κ]{step:Nat->List (κ×β)×Int->Option (Ctl (List (κ×β)×Int) (List (κ×β)))}(l:List α)(key:α->κ)(v:β)(hl:l.length<=4611686018427387904)
  (hc:∀i x m,At l i x->Ev (λn=>step n (m,(i:Int))) (.cont (Q3 m (key x) v,((i+1:Nat):Int))))
  (hd:∀m,Ev (λn=>step n (m,(l.length:Int))) (.done m)):Ev (λn=>Go.Sw.iter (step n) n ([],0)) (Yg key v l):=
 QaD l (λm x=>Q3 m (key x) v) [] (λm i=>(m,(i:Int))) (λm=>m) hl rfl (by grind) (hd _)
theorem Ev.shift{α:Type}{f:Nat->Option α}{v:α}(h:Ev f v):Ev (λn=>f (n+1)) v:=by
 obtain⟨N,h⟩:=h;exact⟨N,(by grind)⟩
def EvI{S B:Type}(step:Nat->S->Option (Ctl S B))(s:S)(b:B):Prop:=∃N,∀n k,N<=n->N<=k->Go.Sw.iter (step n) k s=some b
section
variable {S B:Type} {step:Nat->S->Option (Ctl S B)} {s s':S} {b:B}
theorem EvI.done(h:Ev (λn=>step n s) (.done b)):EvI step s b:=by
 obtain⟨N,h⟩:=h;refine⟨N+1,λn k d e=>?_⟩;obtain⟨a,rfl⟩:∃a,k=a+1:=⟨k-1,by omega⟩
 grind[Go.Sw.iter]
theorem EvI.cont(h:Ev (λn=>step n s) (.cont s'))(q:EvI step s' b):EvI step s b:=by
 obtain⟨N,h⟩:=h;obtain⟨M,q⟩:=q;refine⟨max N M+1,λn k d e=>?_⟩;obtain⟨a,rfl⟩:∃a,k=a+1:=⟨k-1,by omega⟩
 grind[Go.Sw.iter]
theorem EvI.ev(h:EvI step s b):Ev (λn=>Go.Sw.iter (step n) n s) b:=by
 obtain⟨N,h⟩:=h;exact⟨N,λn a=>h n n a a⟩
theorem EvI.eq{b':B}(h:EvI step s b)(e:b=b'):EvI step s b':=e▸h
end
theorem Qv{α:Type}{l r:List α}{i:Nat}{x:α}(a:l.length<=4611686018427387904)(h:l.drop i=x::r):At l i x/\l.drop (i+1)=r:=by
 have d:l[i]?=some x:=by
  have:=congrArg (λl=>l[0]?) h
  grind
 refine⟨Y9 a d,?_⟩;have:=(Y9 a d).drop
 grind
theorem QJ{α:Type}{l:List α}{i:Nat}(h:l.drop i=[])(hi:i<=l.length):decide ((i:Int)<(l.length:Int))=false:=by
 simp_all
theorem Z.{u}{α:Sort u}{a:α}:a=a:=rfl
section
variable {P:Program} {h0 N:Nat} {all:Array Oper} {env:Env} {H H':Qd} {Q:QG} {l:List Oper} {o:Oper} {d:Nat}
theorem aV(x:A)(H:Qd){x':A}{H':Qd}(e:x'=x)(a:H'=H)(k:WO P h0 N all l (up env d x) H Q):WO P h0 N all l (up env d x') H' Q:=by subst e;subst a;exact k
theorem vX(x:A)(a:OpV P o env H x)(k:WO P h0 N all l (up env d x) H Q)(hg:QI all o env true:=by exact rfl)(hd:o.dst=some d:=by exact rfl)(hN:Nat.blt d N=true:=by exact rfl):WO P h0 N all (o::l) env H Q:=
 Y8 hg hd hN a k
theorem Wp:WO P h0 N all [] env H (YT env H):=WO.nil YT.mk
end
section
variable {P:Program} {o:Oper} {env:Env} {H:Qd}
theorem QmV{ro:Nat->Prop}{σ:Sig}{w:World}(g:GP w){b:Nat}{zs:List Int}(h:QhR[b]?=some zs):∀(i:Nat),CR ro σ w b ((zs.drop i).map (A.int .i64)) i:=by
 intro i;generalize hl:zs.drop i=l
 induction l generalizing i with
 |nil=>trivial
 |cons z l d=>
  have e:zs[i]?=some z:=by
   have:=congrArg (·[0]?) hl
   grind
  have a:zs.drop (i+1)=l:=by
   rw[<- List.drop_drop,hl];rfl
  exact⟨⟨_,g.tab b zs h i z e,by simp[QA],rfl⟩,d (i+1) a⟩
theorem QfM{t n g:Nat}{zs:List Int}(h:∀w,(isAgg t).run P w=.ok true w)(j:∀w,(sizeOf t).run P w=.ok n w)(hg:QhR[g]?=some zs)(f:zs.length=n)(m:o.op=.load t (.global g):=by exact rfl):
  OpV P o env H (.agg (zs.map (A.int .i64))):=by
 intro i ro σ N a w r;obtain⟨l,d,_,e⟩:=Yv (P:=P) 0 (by simpa using QmV (ro:=ro) (σ:=σ) r.sim.roOk.gp hg 0);refine⟨.agg l.toArray,?_,l,rfl,d⟩;have k:a.eval (.global g)=.pointer (some ⟨g,0,none⟩):=rfl
 simp_all[execOp,Instr.loadAt,Instr.sureAddr,loadVar,loadCells]
end
open Go.Proofs
section
variable {P:Program}
def toV(agg:Bool)(l:List Value):Value:=bif agg then .agg l.toArray else l.headD .nilFunc
structure QhA (P:Program) (t:TypeId) (h k:Nat) (agg:Bool) (ok:List Value->Prop):Prop where
 len:∀l,ok l->l.length=k
 ia:∀w,(isAgg t).run P w=.ok agg w
 so:∀w,(sizeOf t).run P w=.ok k w
 eq:∀(w:World) (d:Nat) (l m:List Value),ok l->ok m->∃b:Bool,(Op.equalIn (d+h) t (toV agg l) (toV agg m)).run P w=.ok b w/\(b=true↔l=m)
structure Qim (P:Program) (fs:List Field) (h off k:Nat) (ok:List Value->Prop):Prop where
 len:∀l,ok l->l.length=k
 eq:∀(w:World) (d:Nat) (p q l m:List Value),p.length=off->q.length=off->ok l->ok m->∃b:Bool,(Op.eqFields (d+h) (p++l).toArray (q++m).toArray fs).run P w=.ok b w/\(b=true↔l=m)
theorem QhA.int{t:TypeId}{k:IntKind}(f:P.underlying t=some (.int k))(a:∀w,(isAgg t).run P w=.ok false w)(e:∀w,(sizeOf t).run P w=.ok 1 w)(h:Nat):QhA P t (h+1) 1 false (λl=>∃n:Int,l=[.int k n]):=by
 refine⟨?_,a,e,?_⟩
 .simp
 .rintro w d _ _ ⟨n,rfl⟩ ⟨m,rfl⟩;exact⟨_,run_equalIn_int w (d+h) t k k n m f,by simp⟩
theorem QhA.bool{t:TypeId}(f:P.underlying t=some .bool)(a:∀w,(isAgg t).run P w=.ok false w)(e:∀w,(sizeOf t).run P w=.ok 1 w)(h:Nat):QhA P t (h+1) 1 false (λl=>∃n:Bool,l=[.bool n]):=by
 refine⟨?_,a,e,?_⟩
 .simp
 .rintro w d _ _ ⟨n,rfl⟩ ⟨m,rfl⟩;exact⟨_,run_equalIn_bool' w (d+h) t n m f,by simp⟩
theorem Qim.nil(h a:Nat):Qim P [] h a 0 (λl=>l=[]):=by
 refine⟨?_,?_⟩
 .simp
 simp_all[Op.eqFields]
theorem QgM{t:TypeId}{k:Nat}{agg:Bool}{w:World}(d:∀w,(isAgg t).run P w=.ok agg w)(h:∀w,(sizeOf t).run P w=.ok k w)(p a e:List Value)(g:a.length=k)(f:agg=false->k=1):
  (part t (p++(a++e)).toArray p.length).run P w=.ok (toV agg a) w:=by
 unfold part;cases agg with
 |true=>
  simp_all[toV]
 |false=>
  have:=f rfl;subst this
  match a,g with
  |[v],_=>simp[d,toV]
theorem Qim.cons{f:Field}{fs:List Field}{h i s F:Nat}{agg:Bool}{j k:List Value->Prop}(W:Nat.beq f.offset i=true)(L:f.name≠"_")(g:QhA P f.type h s agg j)(E:agg=false->s=1)(G:Qim P fs h (i+s) F k):
  Qim P (f::fs) h i (s+F) (λl=>∃l1 l2,l=l1++l2/\j l1/\k l2):=by
 have t:f.offset=i:=(by simp_all);refine⟨?_,?_⟩
 .rintro _ ⟨l1,l2,rfl,a,b⟩;rw[X3,g.len _ a,G.len _ b]
 .rintro w d p q _ _ B z ⟨l1,l2,rfl,r,M⟩ ⟨n,J,rfl,m,N⟩;have x:=QgM (w:=w) g.ia g.so p l1 l2 (g.len _ r) E;have y:=QgM (w:=w) g.ia g.so q n J (g.len _ m) E;rw[B]at x;rw[z]at y;obtain⟨u,V,T⟩:=g.eq w d l1 n r m;obtain⟨O,H,R⟩:=G.eq w d (p++l1) (q++n) l2 J (by rw[X3,B,g.len _ r]) (by rw[X3,z,g.len _ m]) M N;rw[Vi,Vi]at H;have Q:l1.length=n.length:=by rw[g.len _ r,g.len _ m]
  refine⟨u&&O,?_,?_⟩
  .cases u<;>simp[Op.eqFields,L,t,x,y,V,H]
  .rw[XW,T,R];constructor
   .grind
   .intro e;exact List.append_inj e Q
theorem QhA.struct{t:TypeId}{h k:Nat}{ok:List Value->Prop}(n:P.underlying t=some (.struct (P.fieldsOf t)))(p:P.stoodInHeld t=false)(f:∀w,(isAgg t).run P w=.ok true w)(i:∀w,(sizeOf t).run P w=.ok k w)(e:Qim P (P.fieldsOf t).toList h 0 k ok):QhA P t (h+1) k true ok:=by
 refine⟨e.len,f,i,λw d l m a b=>?_⟩;obtain⟨r,j,g⟩:=e.eq w d [] [] l m rfl rfl a b;refine⟨r,?_,g⟩;show(Op.equalIn (d+h+1) t (.agg l.toArray) (.agg m.toArray)).run P w=_
 grind[run_equalIn_agg]
theorem Qc4{t:TypeId}{h k:Nat}{fs:Array Field}{ok:List Value->Prop}(e:P.underlying t=some (.struct fs))(g:P.stoodInHeld t=false)(a:∀w,(isAgg t).run P w=.ok true w)(f:∀w,(sizeOf t).run P w=.ok k w)(d:Qim P fs.toList h 0 k ok):QhA P t (h+1) k true ok:=by
 grind[Program.fieldsOf,QhA.struct]
structure EqD (P:Program) (t:TypeId) {α:Type} (cells:α->List A):Prop where
 scl:∀x,QfU (cells x)=true
 inj:∀x y,YL (cells x)=YL (cells y)->x=y
 guard:P.eqGuardType P.depth t=false
 eq:∀(w:World) x y,∃b:Bool,(Op.equalIn 10000 t (.agg (YL (cells x)).toArray) (.agg (YL (cells y)).toArray)).run P w=.ok b w/\(b=true↔YL (cells x)=YL (cells y))
theorem Qi5{α:Type}{cells:α->List A}{t h k:Nat}{ok:List Value->Prop}(E:QhA P t h k true ok)(e:Nat.ble h 10000=true)(a:∀x,ok (YL (cells x)))(d:∀x,QfU (cells x)=true)(hi:∀x y,YL (cells x)=YL (cells y)->x=y)(hg:P.eqGuardType P.depth t=false):EqD P t cells:=by
 refine⟨d,hi,hg,λw x y=>?_⟩;have:=E.eq w (10000-h) (YL (cells x)) (YL (cells y)) (a x) (a y)
 rwa [show 10000-h+h=10000 by simp_all]at this
variable {o:Oper} {env:Env} {H:Qd}
theorem QfN{α:Type}[DecidableEq α]{cells:α->List A}{t u:TypeId}{x y:Operand}{p q:α}(E:EqD P t cells)(z:opA env x=.agg (cells p))(j:opA env y=.agg (cells q))(s:o.op=.binOp .eql t x y u:=by exact rfl):OpV P o env H (.bool (p==q)):=by
 intro B F σ N a w r;have g:=Qu r x;have h:=Qu r y;rw[z]at g;rw[j]at h;have i:=VR.val (a:=.agg (cells p)) (E.scl p) g;have m:=VR.val (a:=.agg (cells q)) (E.scl q) h;obtain⟨b,k,l⟩:=E.eq w p q;have n:b=(p==q):=by
  rw[XY,l,Vx];exact⟨E.inj p q,λe=>by rw[e]⟩
 refine⟨.bool (p==q),?_,rfl⟩;rw[<- n];generalize a.eval=ρ at*;have d:ρ x=.agg (YL (cells p)).toArray:=i;have f:ρ y=.agg (YL (cells q)).toArray:=m;simp[s,d,f,go_sem,run_eqGuard_agg _ _ _ _ _ _ _ E.guard,k]
theorem Qj4{α:Type}[DecidableEq α]{cells:α->List A}{t u:TypeId}{x y:Operand}{p q:α}(E:EqD P t cells)(z:opA env x=.agg (cells p))(j:opA env y=.agg (cells q))(s:o.op=.binOp .neq t x y u:=by exact rfl):OpV P o env H (.bool (p != q)):=by
 intro B F σ N a w r;have g:=Qu r x;have h:=Qu r y;rw[z]at g;rw[j]at h;have i:=VR.val (a:=.agg (cells p)) (E.scl p) g;have m:=VR.val (a:=.agg (cells q)) (E.scl q) h;obtain⟨b,k,l⟩:=E.eq w p q;have n:b=(p==q):=by
  rw[XY,l,Vx];exact⟨E.inj p q,λe=>by rw[e]⟩
 refine⟨.bool (p != q),?_,rfl⟩;rw[bne, <- n];generalize a.eval=ρ at*;have d:ρ x=.agg (YL (cells p)).toArray:=i;have f:ρ y=.agg (YL (cells q)).toArray:=m;simp[s,d,f,go_sem,run_eqGuard_agg _ _ _ _ _ _ _ E.guard,k]
end
end Go.Sw
namespace Go.Sw
structure QeW (g g':Nat->Prop) (W W':World):Prop where
 sub:∀b,g b->g' b
 new:∀b,g' b->g b\/W.heap.size<=b
 lt:∀b,g' b->b<W'.heap.size
 all:∀b,W.heap.size<=b->b<W'.heap.size->g' b
 keep:∀b,b<W.heap.size->¬g b->W'.heap[b]?=W.heap[b]?
 size:W.heap.size<=W'.heap.size
 shape:∀b x,W.shape? b=some x->W'.shape? b=some x
 os:W'.os=W.os
 tape:W'.tape=W.tape
 output:W'.output=W.output
 drawn:W.drawn<=W'.drawn
abbrev Jv(T:Type):=List T->(Nat->Prop)->(Nat->Prop)->World->Prop
structure Qm5 {T:Type} (J:Jv T):Prop where
 ev:∀rem q g W W' ro',J rem q g W->Qm g q W ro' W'->J rem q g W'
 up:∀rem q g g' W,J rem q g W->(∀b,g b->g' b)->(∀b,g' b->b<W.heap.size)->J rem q g' W
theorem Sim.round{fr g B ro:Nat->Prop}{σ:Sig}{H:Qd}{W W':World}(s:Sim fr ro σ H W)(a:∀b,g b->fr b)(k:QeW g B W W'):Sim (λb=>fr b\/B b) ro σ H W'/\Qm (λb=>b<W.heap.size/\ ¬g b) ro W ro W':=by
 have hro:=λb q=>k.keep b (s.roLt b q) (λr=>s.roFr b q (a b r));have h:Ext ro σ W ro σ W':=by
  have ev:Qm (λ_=>False) ro W ro W':=⟨λ_ q=>q,hro,λ_ q=>q.elim,k.size,k.shape,k.os,k.tape,k.output,k.drawn⟩;have:=ev.ext σ []
  grind
 refine⟨⟨s.len,s.roOk.to (λ_ q=>q) hro (λb q=>Vf (s.roLt b q) k.size),λb q=>q.elim (λq=>Vf (s.frLt b q) k.size) (k.lt b),λb q r=>?_,λi b x f e p=>?_,s.inj,λi y x f e=>?_,
  s.hidTo (· = ·) Yb k.size (by simp) (λi b x c f e p F=>F.elim id λq=>(k.new c q).elim (a c) λl=>(by have:=(s.hid i b x c f e p).lt;omega)) λj d y n m G=>.inl ⟨j,y,rfl,n,m,id,λc q=>s.hidKeep n m (λz=>k.keep d (s.own j d y n m z).1 λr=>(s.own j d y n m z).2.2 (a d r)) hro q⟩⟩,
  ⟨λ_ q=>q,hro,λb q=>k.keep b q.1 q.2,k.size,k.shape,k.os,k.tape,k.output,k.drawn⟩⟩
 .rcases r with r|r
  .exact s.roFr b q r
  .rcases k.new b r with l|l
   .exact s.roFr b q (a b l)
   .have:=s.roLt b q;omega
 .obtain⟨w,E,u⟩:=s.own i b x f e p;refine⟨Vf w k.size,E,λr=>?_⟩;rcases r with r|r
  .exact u r
  .rcases k.new b r with l|l
   .grind
   .omega
 .refine(s.blk i y x f e).keep h ?_ ?_
  .rintro b rfl t;obtain⟨w,E,u⟩:=s.own i b x f e t;exact k.keep b w (λr=>u (a b r))
  .rintro b c rfl t;have q:=s.hid i b x c f e t;exact k.keep c q.lt (λr=>q.fr (a c r))
def QnM{T:Type}(J Jx:Jv T)(g ri:Nat->Prop)(W1:World)(rem:List T):Ending->World->Prop:=λe W'=>
 ∃g' q',(∀b,q' b->ri b)/\QeW g g' W1 W'/\((e=.returned (.bool true)/\J rem q' g' W')\/(e=.returned (.bool false)/\Jx rem q' g' W'))
structure Ctx (T:Type) where
 l:Nat
 J:Jv T
 Jx:Jv T
 enc:T->List A
 nx:List T->T->List T->Prop
structure Ctx.ok {T:Type} (X:Ctx T) (P:Program):Prop where
 b:Qm5 X.J
 bx:Qm5 X.Jx
 round:∀l x rem q g ri W1 vs,X.nx l x rem->X.J l q g W1->(∀b,q b->ri b)->(∀b,ri b->b<W1.heap.size/\ ¬g b)->LR ri [] W1 (X.enc x) vs->YieldAt Fence.wide 0 P X.l vs.toArray W1 (QnM X.J X.Jx g ri W1 rem)
inductive YSt (T:Type) where
 |on (rem:List T)
 |off (rem:List T)
def Ctx.J'{T:Type}(X:Ctx T):YSt T->(Nat->Prop)->(Nat->Prop)->World->Prop
 |.on rem=>X.J rem
 |.off rem=>X.Jx rem
def Ctx.at{T:Type}(X:Ctx T)(st:YSt T)(g ro:Nat->Prop)(W:World):Prop:=∃q,(∀b,q b->ro b)/\X.J' st q g W
theorem Qm.roMono{fr ro ro0 ro':Nat->Prop}{w w':World}(h:Qm fr ro w ro' w')(s:∀b,ro0 b->ro b):Qm fr ro0 w ro' w':=
 ⟨λb q=>h.sub b (s b q),λb q=>h.keepRo b (s b q),h.keepFr,h.size,h.shape,h.os,h.tape,h.output,h.drawn⟩
theorem Ctx.ok.ev{T:Type}{X:Ctx T}{P:Program}(h:X.ok P){e:YSt T}{g ro a:Nat->Prop}{W W':World}(d:X.at e g ro W)(he:Qm g ro W a W'):X.at e g a W':=by
 obtain⟨q,f,d⟩:=d;refine⟨q,λb z=>he.sub b (f b z),?_⟩;cases e with
 |on rem=>exact h.b.ev rem q g W W' a d (he.roMono f)
 |off rem=>exact h.bx.ev rem q g W W' a d (he.roMono f)
theorem Ctx.ok.up{T:Type}{X:Ctx T}{P:Program}(h:X.ok P){e:YSt T}{g a ro:Nat->Prop}{W:World}(d:X.at e g ro W)(hg:∀b,g b->a b)(f:∀b,a b->b<W.heap.size):X.at e a ro W:=by
 obtain⟨q,i,d⟩:=d;refine⟨q,i,?_⟩;cases e with
 |on rem=>exact h.b.up rem q g a W d hg f
 |off rem=>exact h.bx.up rem q g a W d hg f
abbrev Jb(T:Type):=AEx->Env->Qd->YSt T->Prop
structure In (g fr:Nat->Prop) (ds:List Deferred):Prop where
 sub:∀b,g b->fr b
 beside:∀D,({target:=.collected D,args:= #[]}:Deferred)∈ds->¬g D
def QcY{T:Type}(X:Ctx T)(h0:Nat)(fr ro:Nat->Prop)(σ:Sig)(w:World)(N:Nat)(ds:List Deferred)(Q:Jb T):Exit->Act->World->Prop:=
 λe a' w'=>∃x env' H' st ro' σ' fr' g',ExR e x/\Q x env' H' st/\Rel fr' ro' σ' H' env' N a' w'/\(X.at st g' ro' w'/\In g' fr' a'.defers)/\(∀b,ro b->ro' b)/\w.heap.size<=w'.heap.size/\σ'.take h0=σ.take h0/\Grow fr w ds fr' a'.defers
theorem QcY.grow{T:Type}{X:Ctx T}{i:Nat}{fr a ro f:Nat->Prop}{σ σ1:Sig}{w l:World}{N:Nat}{n g:List Deferred}{Q:Jb T}{e:Exit}{a':Act}{w':World}
  (h:QcY X i a f σ1 l N g Q e a' w')(F:∀b,ro b->f b)(m:w.heap.size<=l.heap.size)(u:σ1.take i=σ.take i)(hg:Grow fr w n a g):QcY X i fr ro σ w N n Q e a' w':=by
 obtain⟨x,d,H',p,j,σ',k,t,q,y,B,r,G,E,s,z⟩:=h;exact⟨x,d,H',p,j,σ',k,t,q,y,B,r,(by grind),XV m E,s.trans u,hg.trans m z⟩
def TCy{T:Type}(X:Ctx T)(P:Program)(h0 N:Nat)(c:Code)(env:Env)(H:Qd)(st:YSt T)(Q:Jb T):Prop:=
 X.ok P->∀rd fr ro σ a w g,Rel fr ro σ H env N a w->X.at st g ro w/\In g fr a.defers->rd=none->c.wpIn (WF rd) 0 P (QcY X h0 fr ro σ w N a.defers Q) a w
def WOy{T:Type}(X:Ctx T)(P:Program)(h0 N:Nat)(all:Array Oper)(l:List Oper)(env:Env)(H:Qd)(st:YSt T)(Q:Jb T):Prop:=
 X.ok P->∀rd fr ro σ a w g,Rel fr ro σ H env N a w->X.at st g ro w/\In g fr a.defers->rd=none->wpL P rd all (QcY X h0 fr ro σ w N a.defers Q) l a w
theorem In.later{fr d g:Nat->Prop}{w:World}{ds a:List Deferred}(h:In g fr ds)(f:∀b,fr b->b<w.heap.size)(hg:Grow fr w ds d a):In g d a:=by
 refine⟨λb q=>hg.sub b (h.sub b q),λD hD q=>?_⟩;rcases hg.ds _ hD with r|⟨D',e,r⟩
 .exact h.beside D r q
 .have:=by simpa using e
  have:=f D (h.sub D q);omega
section
variable {T:Type} {X:Ctx T} {P:Program} {h0 N:Nat} {c c':Code} {env:Env} {H:Qd} {st:YSt T} {Q:Jb T}
theorem QjX{fr ro:Nat->Prop}{σ:Sig}{w:World}{k:List Deferred}{e:Exit}{a':Act}{w':World}(m:X.ok P)(h:Qau h0 fr ro σ w N k (λx env H=>Q x env H st) e a' w'){g:Nat->Prop}(n:∀b,fr b->b<w.heap.size)(j:X.at st g ro w/\In g fr k):
  QcY X h0 fr ro σ w N k Q e a' w':=by
 obtain⟨x,a,H',d,σ',f,p,q,r,i,s,l⟩:=h;exact⟨x,a,H',st,d,σ',f,g,p,q,r,⟨m.ev j.1 (i.frMono j.2.sub),j.2.later n l⟩,i.sub,i.size,s,l⟩
theorem TCy.lift(h:TC P h0 N c env H (λx env H=>Q x env H st)):TCy X P h0 N c env H st Q:=
 λhX rd fr ro σ a w g r hj hrd=>Code.wpIn_mono (λe a' w' q=>QjX hX q r.sim.frLt hj) (h rd fr ro σ a w r (hrd▸QdP.none))
def SeqY(X:Ctx T)(P:Program)(h0 N:Nat)(c:Code)(Q:Jb T):Jb T
 |.normal,env,H,st=>TCy X P h0 N c env H st Q
 |.exit id,env,H,st=>Q (.exit id) env H st
 |.ret,env,H,st=>Q .ret env H st
theorem TCy.seq(h:TCy X P h0 N c env H st (SeqY X P h0 N c' Q)):TCy X P h0 N (.seq c c') env H st Q:=by
 intro B z G J σ a w g r hj hrd;refine wpIn_seq (Code.wpIn_mono ?_ (h B z G J σ a w g r hj hrd));rintro e F E ⟨x,d,H',j,f,σ',i,m,k,n,u,l,y,s,t,p⟩;cases e with
 |normal=>
  obtain rfl:x=.normal:=k;exact Code.wpIn_mono (λe a w q=>q.grow y s t p) (n B z i f σ' F E m u l hrd)
 |exit id=>
  obtain rfl:x=.exit id:=k;exact⟨_,d,H',j,f,σ',i,m,rfl,n,u,l,y,s,t,p⟩
 |ret=>
  obtain rfl:x=.ret:=k;exact⟨_,d,H',j,f,σ',i,m,rfl,n,u,l,y,s,t,p⟩
 |_=>exact k.elim
theorem TCy.region{id:Nat}{l:List Oper}(h:WOy X P h0 N l.toArray l env H st Q):TCy X P h0 N (.region id l.toArray false) env H st Q:=
 λhX rd fr ro σ a w g r hj hrd=>wpIn_region_lit (h hX rd fr ro σ a w g r hj hrd)
theorem TCy.cond{x:Operand}{t:Bool}(m:opA env x=.bool t)(l:t=true->TCy X P h0 N c env H st Q)(k:t=false->TCy X P h0 N c' env H st Q):TCy X P h0 N (.cond x c c') env H st Q:=by
 intro d i h j σ a w g r hj hrd;have f:=Qu r x;rw[m]at f;exact wpIn_cond_split f (λe=>l e d i h j σ a w g r hj hrd) (λe=>k e d i h j σ a w g r hj hrd)
theorem WOy.nil{all:Array Oper}(h:Q .normal env H st):WOy X P h0 N all [] env H st Q:=
 λhX rd fr ro σ a w g r hj hrd=>⟨_,env,H,st,ro,σ,fr,g,rfl,h,r,hj,λ_ q=>q,XT _,rfl,Grow.refl _ _ _⟩
end
theorem QhF{P:Program}{rd:Option Nat}{o:Oper}{a:Act}{K K':Act->World->Prop}{Q Q':Exit->Act->World->Prop}(i:∀a w,K a w->K' a w)(p:∀ch a w,Q (.panic ch) a w->Q' (.panic ch) a w)(m:∀a w,Q .outgrown a w->Q' .outgrown a w)
  {r:Result Next}(h:o.uponIn (WF rd) 0 P a K Q r):o.uponIn (WF rd) 0 P a K' Q' r:=by
 cases r with
 |ok x w=>
  cases x with
  |value v=>exact i _ _ h
  |skip=>exact i _ _ h
  |defer d=>exact i _ _ h
  |enter f g=>
   refine⟨h.1,CallsIn.mono h.2 ?_⟩;intro e k q;cases e with
   |returned v=>grind
   |panicked c=>grind
   |outgrown=>obtain⟨a,w,q⟩:=q;exact⟨a,w,m _ _ q⟩
  |row r g=>exact⟨h.1,RowsIn.mono h.2 λv k q=>i _ _ q⟩
  |round l f j assign n=>
   refine⟨h.1,RoundIn.mono h.2 ?_⟩;intro e k q;cases e with
   |returned v=>grind
   |panicked c=>grind
   |outgrown=>obtain⟨a,w,q⟩:=q;exact⟨a,w,m _ _ q⟩
  |_=>exact h
 |halt x w=>
  cases x with
  |panic v=>exact p _ _ _ h
  |_=>exact h
section
variable {T:Type} {X:Ctx T} {P:Program} {h0 N:Nat} {env:Env} {H:Qd} {st:YSt T} {Q:Jb T}
theorem WOy.step{all:Array Oper}{o:Oper}{rest:List Oper}(h:WO P h0 N all [o] env H (λx env' H'=>x=.normal/\WOy X P h0 N all rest env' H' st Q)):WOy X P h0 N all (o::rest) env H st Q:=by
 intro y s n u σ a w g r hj hrd;have L:∀f d,Qby h0 n u σ w N a.defers (λx env' H'=>x=.normal/\WOy X P h0 N all rest env' H' st Q) .normal f d->wpL P s all (QcY X h0 n u σ w N a.defers Q) rest f d:=by
  rintro f d ⟨x,env',H',i,σ',j,O,⟨_,z⟩,G,l,J,B,F⟩;have p:X.at st g i d/\In g j f.defers:=⟨y.ev hj.1 (l.frMono hj.2.sub),by rw[B];exact hj.2.later r.sim.frLt F⟩;have:=z y s j i σ' f d g G p hrd;exact Yo (λe m t q=>(q.grow l.sub l.size J (by grind))) _ _ _ this
 have k:=h s n u σ a w r (hrd▸QdP.none);unfold wpL wpListIn at k⊢;split
 .rename_i E;rw[Vs E]at k;refine⟨k.1,QhF (λm t q=>?_) (λM m t q=>?_) (λm t q=>?_) k.2⟩
  .unfold wpListIn at q
   grind
  .obtain⟨x,_,_,_,_,_,q,_⟩:=q;exact q.elim
  .obtain⟨x,_,_,_,_,_,q,_⟩:=q;exact q.elim
 simp_all[wpListIn]
theorem WOy.yield{all:Array Oper}{o:Oper}{rest:List Oper}{d:Nat}{x:T}{G rem:List T}(F:X.nx G x rem)(hg:QI all o env true)(E:o.dst=some d)(hN:Nat.blt d N=true)
  (u:∀fr ro σ a w,Rel fr ro σ H env N a w->∃vs:List Value,LR ro [] w (X.enc x) vs/\(execOp a.eval o).run P w=(Instr.yield X.l vs.toArray).run P w)
  (k:∀b,WOy X P h0 N all rest (up env d (.bool b)) H (bif b then .on rem else .off rem) Q):WOy X P h0 N all (o::rest) env H (.on G) Q:=by
 intro M L fr ro σ a w g r hj hrd;obtain⟨vs,hv,R⟩:=u fr ro σ a w r;obtain⟨q,V,B⟩:=hj.1;obtain⟨fn,tmps,assign,O,h1,W⟩:=M.round G x rem q g ro w vs F B V (λb z=>⟨r.sim.roLt b z,λy=>r.sim.roFr b z (hj.2.sub b y)⟩) hv;have h3:=R.trans h1;unfold wpL wpListIn;rw[Vs (YO hg r)];refine⟨λ_ _=>trivial,?_⟩;rw[QcA h3 (λd e=>by cases e)];refine⟨λh=>by simp[WF,Fence.wide]at h,(RoundIn.mono W ?_)⟩;rintro e j ⟨i,t,n,p,f⟩;obtain⟨s',ev⟩:=r.sim.round hj.2.sub p;have J:d<N:=by simp_all
 have m:Ext ro σ w ro σ j:=by have:=ev.ext σ [];grind
 have fin:∀b,X.at (bif b then .on rem else .off rem) i ro j->wpL P L all (QcY X h0 fr ro σ w N a.defers Q) rest (a.put o.dst (.bool b)) j:=by
  intro b f;have Y:Qbz (λb=>fr b\/i b) a.defers j:=r.defers.to λD E q1 q2=>⟨.inl q1,(p.keep D (r.sim.frLt D q1) (hj.2.beside D E)).trans q2⟩;have hi:In i (λb=>fr b\/i b) a.defers:=by
   refine⟨λb q=>.inr q,λD hD q=>?_⟩;rcases p.new D q with t|t
   .exact hj.2.beside D hD t
   .have:=r.sim.frLt D (r.defers.mark hD).1;omega
  have r':Rel (λb=>fr b\/i b) ro σ H (up env d (.bool b)) N {a with tmps:=a.tmps.setIfInBounds d (.bool b)} j:=
   ⟨s',VR.up (fr:=fr) (λs=>(r.env s).mono m) (by rw[r.size];exact J) rfl,by simpa using r.size,Y⟩
  have:=k b M L _ ro σ _ j i r' ⟨f,hi⟩ hrd;simp[E];refine Yo (λe a2 w2 q=>q.grow (λ_ q=>q) p.size rfl ⟨λ_ q=>.inl q,λb q=>?_,λ_ q=>q,λ_ q=>.inl q⟩) _ _ _ this;rcases q with q|q
  .exact .inl q
  .rcases p.new b q with q|q
   .exact .inl (hj.2.sub b q)
   omega
 rcases f with⟨rfl,f⟩|⟨rfl,f⟩
 .exact fin true ⟨t,n,f⟩
 .exact fin false ⟨t,n,f⟩
end
section
variable {T:Type} {X:Ctx T} {P:Program} {h0 N:Nat} {c c':Code} {env:Env} {H:Qd} {st:YSt T} {Q Q':Jb T}
theorem TCy.mono(h:TCy X P h0 N c env H st Q)(n:∀x env H st,Q x env H st->Q' x env H st):TCy X P h0 N c env H st Q':=by
 intro k p m q σ a w g r hj hrd;refine Code.wpIn_mono ?_ (h k p m q σ a w g r hj hrd);rintro e z y ⟨x,d,H',j,f,σ',i,s,l,t,u⟩;exact⟨x,d,H',j,f,σ',i,s,l,n _ _ _ _ t,u⟩
theorem TCy.skip(h:Q .normal env H st):TCy X P h0 N .skip env H st Q:=TCy.lift (TC.skip h)
theorem TCy.ret(h:Q .ret env H st):TCy X P h0 N .ret env H st Q:=TCy.lift (TC.ret h)
theorem TCy.exit{id:Nat}(h:Q (.exit id) env H st):TCy X P h0 N (.exit id) env H st Q:=TCy.lift (TC.exit h)
def BloY(id:Nat)(Q:Jb T):Jb T
 |.normal,env,H,st=>Q .normal env H st
 |.exit id',env,H,st=>bif Nat.beq id' id then Q .normal env H st else Q (.exit id') env H st
 |.ret,env,H,st=>Q .ret env H st
theorem TCy.block{id:Nat}(h:TCy X P h0 N c env H st (BloY id Q)):TCy X P h0 N (.block id c) env H st Q:=by
 intro s u t z σ a w g r hj hrd;refine wpIn_block (Code.wpIn_mono ?_ (h s u t z σ a w g r hj hrd));rintro e E B ⟨x,d,H',k,i,σ',j,p,n,l,m⟩;cases e with
 |normal=>
  obtain rfl:x=.normal:=n;exact⟨_,d,H',k,i,σ',j,p,rfl,l,m⟩
 |exit f=>
  obtain rfl:x=.exit f:=n;unfold Exit.inBlock;simp only[BloY]at l;by_cases q:f=id
  .subst q;rw[VE,Vo]at l;simp;exact⟨.normal,d,H',k,i,σ',j,p,rfl,l,m⟩
  .have y:Nat.beq f id=false:=by
    cases e:Nat.beq f id with
    |false=>rfl
    |true=>simp_all
   rw[y,Vp]at l;simp[q];exact⟨.exit f,d,H',k,i,σ',j,p,rfl,l,m⟩
 |ret=>
  obtain rfl:x=.ret:=n;exact⟨_,d,H',k,i,σ',j,p,rfl,l,m⟩
 |_=>exact n.elim
end
section
variable {T:Type} {X:Ctx T} {P:Program} {h0 N:Nat} {c:Code} {env:Env} {H:Qd} {st:YSt T} {Q:Jb T}
def Qj8(I:Env->Qd->YSt T->Prop)(Q:Jb T):Jb T
 |.normal,env,H,st=>I env H st
 |.exit id,env,H,st=>Q (.exit id) env H st
 |.ret,env,H,st=>Q .ret env H st
theorem QjS{I:Nat->Env->Qd->YSt T->Prop}(y:∀n env H st,I n env H st->TCy X P h0 N c env H st (Qj8 (λenv H st=>∃n',n'<n/\I n' env H st) Q)){n:Nat}(J:I n env H st):TCy X P h0 N (.loop c) env H st Q:=by
 intro hX rd B E σ a w g r hj hrd b k cs hro hb hr;have G:∀m n env H st fr1 ro1 σ1 a1 w1 g1,n<m->I n env H st->Rel fr1 ro1 σ1 H env N a1 w1->(∀b,E b->ro1 b)->w.heap.size<=w1.heap.size->σ1.take h0=σ.take h0->Grow B w a.defers fr1 a1.defers->X.at st g1 ro1 w1/\In g1 fr1 a1.defers->
   ∃e i h,QcY X h0 B E σ w N a.defers Q e i h/\ArrivesIn (Machine.fenced P (WF rd)) P (lone (b.atR a1 (.code c::.inLoop c::k)) cs w1) b k cs e i h:=by
  intro m
  induction m with
  |zero=>omega
  |succ m ih=>
   intro n env H st fr1 ro1 σ1 a1 w1 g1 hn J r1 s1 z1 t1 gr1 j1;obtain⟨e,i,h,F,d⟩:=y n env H st J hX rd fr1 ro1 σ1 a1 w1 g1 r1 j1 hrd b (.inLoop c::k) cs hro hb hr;obtain⟨x,f,H',l,t,σ',u,M,z,p,W,V,q5,Y,R,q8⟩:=F;have s2:=λb q=>q5 b (s1 b q);have s:=gr1.trans z1 q8;have O:∀x,Q x f H' l->ExR e x->QcY X h0 B E σ w N a.defers Q e i h:=λx q q'=>⟨x,f,H',l,t,σ',u,M,q',q,W,V,s2,XV z1 Y,R.trans t1,s⟩;cases e with
   |normal=>
    obtain rfl:x=.normal:=z;obtain⟨n',aa,p⟩:=p;obtain⟨e2,a2,w2,L,j⟩:=ih n' f H' l u t σ' i h M (by omega) p W s2 (XV z1 Y) (R.trans t1) s V;exact⟨e2,a2,w2,L,.of_steps (StepsIn.trans d (.one (fenced_calm hb hr rfl) stepR_inLoop)) j⟩
   |exit id=>
    obtain rfl:x=.exit id:=z;exact⟨_,i,h,O _ p rfl,.pass rfl (λ_ _=>.inl (by simp)) d⟩
   |ret=>
    obtain rfl:x=.ret:=z;exact⟨_,i,h,O _ p rfl,.pass rfl (λ_ _=>.inl (by simp)) d⟩
   |_=>exact z.elim
 obtain⟨e,i,h,F,d⟩:=G (n+1) n env H st B E σ a w g (Xn _) J r (λ_ q=>q) (XT _) rfl (Grow.refl _ _ _) hj;exact⟨e,i,h,F,.of_steps (.one (fenced_calm hb hr rfl) stepR_loop) d⟩
end
theorem Sim.part{fr ro:Nat->Prop}{σ:Sig}{H:Qd}{w:World}(s0:Sim fr ro σ H w){π:List Nat}{Hc:Qd}(X:π.map (λp=>H[p]?)=(Hc.map (QZ (rho π H.length))).map some)(hπ:π.Nodup):
  Sim (λb=>fr b\/(∃i x,σ[i]?=some (some b)/\H[i]?=some x/\x.live=true/\i∉π)\/ ∃i x d,σ[i]?=some (some d)/\H[i]?=some x/\Hid w x d b/\i∉π) ro (YE σ π) Hc w/\ ∀j:Nat,σ[rho π H.length j]?=(YE σ π)[j]? :=by
 have hp:∀p∈π,p<H.length:=λp q=>Jd X q;have hσl:=s0.len;have h:∀(j p:Nat),π[j]?=some p->H[p]?=(Hc[j]?).map (QZ (rho π H.length)):=by
  intro j p m;have:=congrArg (λl=>l[j]?) X
  grind
 have L:π.length=Hc.length:=by simpa using congrArg List.length X
 have hσc:∀j:Nat,σ[rho π H.length j]?=(YE σ π)[j]? :=by
  intro j;have:=QdT (τ:=[]) hσl hp j
  grind
 have hπj:∀(j b:Nat),(YE σ π)[j]?=some (some b)->∃p,π[j]?=some p/\σ[p]?=some (some b):=by
  intro j b m;simp only[YE,Xo]at m
  grind
 refine⟨?_,hσc⟩
 .refine⟨by simp[YE,L],s0.roOk,?_,?_,?_,?_,?_,?_⟩
  .rintro b (O|⟨i,x,a,g,f,M⟩|⟨i,x,d,a,g,f,M⟩)
   .exact s0.frLt b O
   .exact(s0.own i b x a g f).1
   .exact(s0.hid i d x b a g f).lt
  .rintro b O (J|⟨i,x,a,g,f,M⟩|⟨i,x,d,a,g,f,M⟩)
   .exact s0.roFr b O J
   .exact(s0.own i b x a g f).2.1 O
   .exact(s0.hid i d x b a g f).ro O
  .intro j b x a g f;obtain⟨p,e,z⟩:=hπj j b a;have B:H[p]?=some (QZ (rho π H.length) x):=by grind
   obtain⟨o1,o2,o3⟩:=s0.own p b _ z B (by rw[QK];exact f);refine⟨o1,o2,?_⟩;rintro(J|⟨i,y,y1,y2,E,P⟩|⟨i,y,d,y1,y2,E,P⟩)
   .exact o3 J
   .have:=s0.inj i p b _ _ y1 z y2 B E (by rw[QK];exact f)
    grind
   .exact(s0.hid i d y b y1 y2 E).ne p b _ z B (by rw[QK];exact f) rfl
  .intro i j b x y a g f M q5 q6;obtain⟨p,e,z⟩:=hπj i b a;obtain⟨t,n,V⟩:=hπj j b g;have B:H[p]?=some (QZ (rho π H.length) x):=by rw[h i p e,f];rfl
   have T:H[t]?=some (QZ (rho π H.length) y):=by rw[h j t n,M];rfl
   have:=s0.inj p t b _ _ z V B T (by rw[QK];exact q5) (by rw[QK];exact q6);subst this;have F:i<π.length:=by
    rcases VB i π.length with q|q
    .exact q
    .rw[XO q]at e;simp at e
   have m:j<π.length:=by
    rcases VB j π.length with q|q
    .exact q
    .rw[XO q]at n;simp at n
   rw[XK F]at e;rw[XK m]at n;have r:=(XZ e).trans (XZ n).symm;rcases Nat.lt_trichotomy i j with q|q|q
   .exact(VD.1 hπ i j F m q r).elim
   .exact q
   .exact(VD.1 hπ j i m F q r.symm).elim
  .intro j s x a g;have m:j<π.length:=by
    rcases VB j π.length with q|q
    .exact q
    .rw[XO (by simpa[YE]using q)]at a;simp at a
   have e:π[j]?=some π[j]:=XK m;have B:H[π[j]]?=some (QZ (rho π H.length) x):=by rw[h j _ e,g];rfl
   have z:σ[π[j]]?=some s:=by
    have:=hσc j;rw[a]at this;simpa[rho,e]using this
   exact(Qgw hσc).1 (s0.blk _ s _ z B)
  .intro j b x c a g f;obtain⟨p,e,z⟩:=hπj j b a;have B:H[p]?=some (QZ (rho π H.length) x):=by rw[h j p e,g];rfl
   have k:=s0.hid p b _ c z B ((Qal _ _ _ _ _).2 f);refine⟨k.lt,k.ro,?_,?_,?_⟩
   .rintro(J|⟨i,y,y1,y2,E,P⟩|⟨i,y,d,y1,y2,E,P⟩)
    .exact k.fr J
    .exact k.ne i c y y1 y2 E rfl
    .obtain⟨rfl,rfl⟩:=k.one i d y y1 y2 E;exact P (VG e)
   .intro u N y W Y Q;obtain⟨t,G,R⟩:=hπj u N W;exact k.ne t N _ R (show H[t]?=some (QZ (rho π H.length) y)by rw[h u t G,Y];rfl) (by rw[QK];exact Q)
   .intro u N y W Y Q;obtain⟨t,G,R⟩:=hπj u N W;obtain⟨z4,z5⟩:=k.one t N _ R (show H[t]?=some (QZ (rho π H.length) y)by rw[h u t G,Y];rfl) ((Qal _ _ _ _ _).2 Q);subst z5;have F:u<π.length:=(XL.1 G).1;have m:j<π.length:=(XL.1 e).1;rw[XK F]at G;rw[XK m]at e;have r:=(XZ G).trans (XZ e).symm;refine⟨z4,?_⟩;rcases Nat.lt_trichotomy u j with q|q|q
    .exact(VD.1 hπ u j F m q r).elim
    .exact q
    .exact(VD.1 hπ j u m F q r.symm).elim
theorem Sim.frames{fr fr' ro:Nat->Prop}{σ:Sig}{H:Qd}{w:World}(s:Sim fr ro σ H w)(lt:∀b,fr' b->b<w.heap.size)(hro:∀b,ro b->¬fr' b)(own:∀(i b:Nat) (x:Blk),σ[i]?=some (some b)->H[i]?=some x->x.live=true->¬fr' b)
  (hd:∀(i b:Nat) (x:Blk) (c:Nat),σ[i]?=some (some b)->H[i]?=some x->Hid w x b c->¬fr' c):Sim fr' ro σ H w:=
 ⟨s.len,s.roOk,lt,hro,λi b x q1 q2 q3=>⟨(s.own i b x q1 q2 q3).1,(s.own i b x q1 q2 q3).2.1,own i b x q1 q2 q3⟩,s.inj,s.blk,
  s.hidTo (· = ·) Yb (XT _) (by simp) (by grind) (by grind)⟩
theorem Sim.put{fr ro:Nat->Prop}{σ:Sig}{H:Qd}{w:World}(s:Sim fr ro σ H w){b:Nat}{obj:Obj}(l:fr b)(u:w.shape? b=none):
  Sim fr ro σ H (w.putObj b obj)/\Qm (λc=>c≠b) ro w ro (w.putObj b obj):=by
 have a:∀c,c≠b->(w.putObj b obj).heap[c]?=w.heap[c]? :=λc B=>World.putObj_heap_other B;have h:(w.putObj b obj).heap.size=w.heap.size:=by simp
 have t:∀c,ro c->c≠b:=λc q e=>s.roFr c q (e▸l);have ev:Qm (λc=>c≠b) ro w ro (w.putObj b obj):=by
  refine⟨λ_ q=>q,(by grind),λc q=>a c q,by omega,λc x q=>?_,rfl,rfl,rfl,XT _⟩
  grind[World.shape?]
 have g:Ext ro σ w ro σ (w.putObj b obj):=by have:=ev.ext σ [];grind
 refine⟨⟨s.len,s.roOk.to (λ_ q=>q) ev.keepRo (λc q=>by rw[h];exact s.roLt c q),λc q=>by rw[h];exact s.frLt c q,s.roFr,λi c x k f r=>?_,s.inj,λi y x k f=>?_,
  s.hidTo (· = ·) Yb (by omega) (by simp) (by simp) λj d y p n J=>.inl ⟨j,y,rfl,p,n,id,λc q=>s.hidKeep p n (λz=>a d (λe=>(s.own j d y p n z).2.2 (e▸l))) ev.keepRo q⟩⟩,ev⟩
 .obtain⟨G,E,F⟩:=s.own i c x k f r
  grind
 .refine(s.blk i y x k f).keep g ?_ ?_
  .rintro c rfl m;exact a c (λe=>(s.own i c x k f m).2.2 (e▸l))
  .rintro d c rfl m;exact a c (λe=>(s.hid i d x c k f m).fr (e▸l))
theorem Qed{w:World}{l:Nat}{r:Loop}(h:w.heap[l]?=some (.loop r)):w.shape? l=none:=by
 unfold World.shape?;rw[h]
structure Fix where
 fr:Nat->Prop
 ro:Nat->Prop
 σ:Sig
 w:World
 h1:Nat
 env:Env
 tmps:Array Value
 ds1:List Deferred
 l:Nat
 rc:LoopState->Option Code->Loop
 fr1:Nat->Prop
structure Fix.Ok (D:Fix):Prop where
 sub:∀b,D.fr b->D.fr1 b
 l1:D.fr1 D.l
 lf:¬D.fr D.l
 len:D.σ.length=D.h1
structure RJ (D:Fix) (ro1:Nat->Prop) (σ1:Sig) (H:Qd) (st:LoopState) (pe:Option Code) (q g:Nat->Prop) (W:World):Prop where
 sim:Sim D.fr1 ro1 σ1 H W
 env:∀t,VR ro1 D.σ W (lk D.env t) (D.tmps.getD t undef)
 sig:σ1.take D.h1=D.σ
 ev:Qm D.fr D.ro D.w ro1 W
 marks:Qbz D.fr1 D.ds1 W
 rc:W.heap[D.l]?=some (.loop (D.rc st pe))
 roG:∀b,ro1 b->q b\/g b
 frG:∀b,D.fr1 b->g b
 own:∀(i b:Nat) (x:Blk),σ1[i]?=some (some b)->H[i]?=some x->x.live=true->g b
 hidG:∀(i b:Nat) (x:Blk) (c:Nat),σ1[i]?=some (some b)->H[i]?=some x->Hid W x b c->g c
 lt:∀b,g b->b<W.heap.size
theorem QgD{σ σ1:Sig}{a:Nat}(h:σ1.take a=σ){i b:Nat}(q:σ[i]?=some (some b)):σ1[i]?=some (some b):=by
 grind
section
variable {D:Fix} {ro1:Nat->Prop} {σ1:Sig} {H:Qd} {st:LoopState} {pe:Option Code} {qR g:Nat->Prop} {W:World}
theorem RJ.step(r:D.Ok)(j:RJ D ro1 σ1 H st pe qR g W){l:Nat->Prop}{W':World}(e:Qm g qR W l W'):RJ D ro1 σ1 H st pe qR g W':=by
 have hro:=λb q=>(j.roG b q).elim (e.keepRo b) (e.keepFr b);have ev:Qm D.fr1 ro1 W ro1 W':=⟨λ_ q=>q,hro,λb q=>e.keepFr b (j.frG b q),e.size,e.shape,e.os,e.tape,e.output,e.drawn⟩;have h:∀σ,Ext ro1 σ W ro1 σ W':=λ σ=>by have:=ev.ext σ [];grind
 refine⟨⟨j.sim.len,j.sim.roOk.to (λ_ q=>q) hro (λb q=>Vf (j.sim.roLt b q) e.size),λb q=>Vf (j.sim.frLt b q) e.size,j.sim.roFr,λi b x f a k=>?_,j.sim.inj,λi z x f a=>?_,
  j.sim.hidTo (· = ·) Yb e.size (by simp) (by simp) λi d y p n w=>.inl ⟨i,y,rfl,p,n,id,λc q=>j.sim.hidKeep p n (λz=>e.keepFr d (j.own i d y p n z)) hro q⟩⟩,
  λt=>(j.env t).mono (h _),j.sig,j.ev.trans (ev.frMono r.sub),j.marks.keep ev,(ev.keepFr _ r.l1).trans j.rc,j.roG,j.frG,j.own,λi b x c f a k=>j.hidG i b x c f a (j.sim.hidKeep f a (λz=>e.keepFr b (j.own i b x f a z)) hro k),λb q=>Vf (j.lt b q) e.size⟩
 .obtain⟨u,s⟩:=j.sim.own i b x f a k;exact⟨Vf u e.size,s⟩
 .refine(j.sim.blk i z x f a).keep (h _) ?_ ?_
  .rintro b rfl m;exact e.keepFr b (j.own i b x f a m)
  .rintro b c rfl m;exact e.keepFr c (j.hidG i b x c f a m)
theorem RJ.up{g':Nat->Prop}(j:RJ D ro1 σ1 H st pe qR g W)(h:∀b,g b->g' b)(hl:∀b,g' b->b<W.heap.size):RJ D ro1 σ1 H st pe qR g' W:=
 {j with roG:=λb q=>(j.roG b q).imp id (h b),frG:=λb q=>h b (j.frG b q),own:=λi b x q1 q2 q3=>h b (j.own i b x q1 q2 q3),hidG:=λi b x c q1 q2 q3=>h c (j.hidG i b x c q1 q2 q3),lt:=hl}
def FrB(D:Fix)(ro1 g:Nat->Prop)(W:World):Nat->Prop:=λb=>(D.fr1 b\/(¬g b/\ ¬ro1 b))/\b<W.heap.size
theorem RJ.simB(j:RJ D ro1 σ1 H st pe qR g W):Sim (FrB D ro1 g W) ro1 σ1 H W:=by
 refine j.sim.frames (λb q=>q.2) (λb q r=>?_) (λi b x a d e r=>?_) (λi b x c a d e r=>r.1.elim (j.sim.hid i b x c a d e).fr λr=>r.1 (j.hidG i b x c a d e))
 .rcases r.1 with r|r
  .exact j.sim.roFr b q r
  grind
 .rcases r.1 with r|r
  .exact(j.sim.own i b x a d e).2.2 r
  .exact r.1 (j.own i b x a d e)
theorem RJ.fin(z:D.Ok)(j:RJ D ro1 σ1 H st pe qR g W){w p:Nat->Prop}{σ':Sig}{H':Qd}{W':World}{st':LoopState}{pe':Option Code}
  (ev:Qm (λb=>FrB D ro1 g W b/\b≠D.l) ro1 W p W')(s:Sim w p σ' H' W')(u:∀b,FrB D ro1 g W b->w b)(hσ:σ'.take D.h1=σ1.take D.h1)(E:W'.heap[D.l]?=some (.loop (D.rc st' pe'))):
  RJ D p σ' H' st' pe' qR (λb=>g b\/(W.heap.size<=b/\b<W'.heap.size)) W'/\QeW g (λb=>g b\/(W.heap.size<=b/\b<W'.heap.size)) W W':=by
 have m:∀b,D.fr1 b->FrB D ro1 g W b:=λb q=>⟨.inl q,j.sim.frLt b q⟩;have evf:=ev.frMono λb q=>⟨m b (z.sub b q),λe=>z.lf (e▸q)⟩;have hext:=ev.ext0 D.σ;have y:∀b,b<W.heap.size->b<W'.heap.size:=λb q=>Vf q ev.size;have h:∀b,b<W.heap.size->¬FrB D ro1 g W b->g b\/ro1 b:=by
  intro b d F;by_cases f:g b
  .exact .inl f
  .by_cases a:ro1 b
   .exact .inr a
   .exact absurd ⟨.inr ⟨f,a⟩,d⟩ F
 refine⟨⟨s.frames (λb q=>y b (j.sim.frLt b q)) (λb q r=>s.roFr b q (u b (m b r))) (λi b x f a n r=>(s.own i b x f a n).2.2 (u b (m b r))) (λi b x c f a n r=>(s.hid i b x c f a n).fr (u c (m c r))),
  λt=>(j.env t).mono hext,hσ.trans j.sig,j.ev.trans evf,j.marks.to λB _ e2 e3=>⟨e2,(ev.keepFr B ⟨m B e2,λe=>?_⟩).trans e3⟩,E,λb q=>?_,λb q=>.inl (j.frG b q),λi b x f a n=>?_,λi b x c f a n=>?_,λb q=>q.elim (λq=>y b (j.lt b q)) (λq=>q.2)⟩,
  ⟨λb q=>.inl q,(by grind),λb q=>q.elim (λq=>y b (j.lt b q)) (λq=>q.2),(by omega),λb f a=>?_,ev.size,ev.shape,ev.os,ev.tape,ev.output,ev.drawn⟩⟩
 .subst e;rw[j.rc]at e3;cases e3
 .rcases VB b W.heap.size with d|d
  .rcases h b d (λr=>s.roFr b q (u b r))with r|r
   .grind
   .exact(j.roG b r).imp id .inl
  .exact .inr (.inr ⟨d,s.roLt b q⟩)
 .obtain⟨L,J,G⟩:=s.own i b x f a n;rcases VB b W.heap.size with d|d
  .rcases h b d (λr=>G (u b r))with r|r
   .exact .inl r
   .exact absurd (ev.sub b r) J
  omega
 .have k:=s.hid i b x c f a n;rcases VB c W.heap.size with d|d
  .rcases h c d (λr=>k.fr (u c r))with r|r
   .exact .inl r
   .exact absurd (ev.sub c r) k.ro
  .exact .inr ⟨d,k.lt⟩
 .by_cases r:ro1 b
  .exact ev.keepRo b r
  .exact ev.keepFr b ⟨(by grind),λe=>a (j.frG b (e▸z.l1))⟩
end
theorem Sim.roAdd{fr ro a:Nat->Prop}{σ:Sig}{H:Qd}{w:World}(s:Sim fr ro σ H w)(g:∀b,a b->b<w.heap.size)(d:∀b,a b->¬fr b)(h:∀(i b:Nat) (x:Blk),σ[i]?=some (some b)->H[i]?=some x->x.live=true->¬a b)
  (j:∀(i b:Nat) (x:Blk) (c:Nat),σ[i]?=some (some b)->H[i]?=some x->Hid w x b c->¬a c):Sim fr (λb=>ro b\/a b) σ H w:=by
 have ext:Ext ro σ w (λb=>ro b\/a b) σ w:=⟨λ_ q=>.inl q,λ_ _=>rfl,λ_ _ q=>q,λ_ _ q=>q⟩;refine⟨s.len,s.roOk.to (λ_ q=>.inl q) (λ_ _=>rfl) (λb q=>q.elim (s.roLt b) (g b)),s.frLt,λb q=>q.elim (s.roFr b) (d b),λi b x f e k=>?_,s.inj,λi y x f e=>(s.blk i y x f e).keep ext (λ_ _ _=>rfl) (λ_ _ _ _=>rfl),
  s.hidTo (· = ·) Yb (XT _) (by grind) (by simp) (by grind)⟩
 obtain⟨n,l,m⟩:=s.own i b x f e k
 grind
theorem RJ.roAdd{D:Fix}{ro1:Nat->Prop}{σ1:Sig}{H:Qd}{st:LoopState}{pe:Option Code}{qR ri g:Nat->Prop}{W:World}(j:RJ D ro1 σ1 H st pe qR g W)(hq:∀b,qR b->ri b)(hI:∀b,ri b->b<W.heap.size/\ ¬g b):RJ D (λb=>ro1 b\/ri b) σ1 H st pe ri g W:=
 {j with
  sim:=j.sim.roAdd (λb q=>(hI b q).1) (λb q z=>(hI b q).2 (j.frG b z)) (λi b x q1 q2 q3 z=>(hI b z).2 (j.own i b x q1 q2 q3)) (λi b x c q1 q2 q3 z=>(hI c z).2 (j.hidG i b x c q1 q2 q3))
  env:=λt=>(j.env t).mono ⟨λ_ q=>.inl q,λ_ _=>rfl,λ_ _ q=>q,λ_ _ q=>q⟩
  ev:=j.ev.trans (Q5 λ_ q=>.inl q)
  roG:=λb q=>q.elim (λq=>(j.roG b q).imp (hq b) id) .inl}
def upPs:List Nat->List A->Env->Env
 |p::ps,a::zs,env=>upPs ps zs (up env p a)
 |_,_,env=>env
def QhH:List Nat->List Value->Array Value->Array Value
 |p::ps,v::vs,t=>QhH ps vs (t.setIfInBounds p v)
 |_,_,t=>t
theorem Qfk:∀(ps:List Nat) (vs:List Value) (t:Array Value),(QhH ps vs t).size=t.size
 |[],_,_=>rfl
 |_::_,[],_=>rfl
 |p::ps,v::vs,t=>by simp[QhH,Qfk ps]
theorem Qfl:∀(ps:List Nat) (vs:List Value) (t:Array Value),(ps.toArray.zip vs.toArray).foldl (λt (p,v)=>t.setIfInBounds p v) t=QhH ps vs t
 |[],vs,t=>by rw[<- Array.foldl_toList,Array.toList_zip];rfl
 |p::ps,[],t=>by rw[<- Array.foldl_toList,Array.toList_zip];rfl
 |p::ps,v::vs,t=>by
  have:=Qfl ps vs (t.setIfInBounds p v);rw[<- Array.foldl_toList,Array.toList_zip]at this⊢;exact this
theorem Qis{ro:Nat->Prop}{σ:Sig}{w:World}:∀(ps:List Nat) (zs:List A) (vs:List Value) (env:Env) (t:Array Value),LR ro σ w zs vs->(∀p∈ps,p<t.size)->(∀s,VR ro σ w (lk env s) (t.getD s undef))->
  ∀s,VR ro σ w (lk (upPs ps zs env) s) ((QhH ps vs t).getD s undef)
 |[],_,_,_,_,_,_,h=>h
 |p::ps,[],vs,_,_,hv,_,h=>by
  obtain rfl:vs=[]:=hv;exact h
 |p::ps,a::zs,vs,env,t,hv,hp,h=>by
  obtain⟨v,vs',rfl,h0,hv'⟩:=hv;have h1:=VR.up (fr:=λ_=>False) (a:={tmps:=t,defers:=[]}) h (hp p (by simp)) h0;exact Qis ps zs vs' (up env p a) (t.setIfInBounds p v) hv' (λq hq=>by grind) h1
def QnN(h1:Nat)(env:Env)(Q:QG)(K:Qd->Prop):QG
 |.normal,env',H'=>∃H2,Le h1 env' H' [] H2/\K H2
 |.exit id,env',H'=>∃H2,Le h1 env' H' [] H2/\Q (.exit id) env H2
 |.ret,env',H'=>∃H2,Le h1 env' H' [] H2/\Q .ret env H2
def Jump(Q:QG)(env:Env)(c:Code)(H:Qd):Prop:=(∃id,c=.exit id/\Q (.exit id) env H)\/(c=.ret/\Q .ret env H)
section
variable {D:Fix} {ro0:Nat->Prop} {σ1:Sig} {H:Qd} {qR ri g:Nat->Prop} {W:World} {P:Program} {N:Nat} {Q:QG} {K:Qd->Prop}
theorem RJ.round{fn:FuncId}{F:List Nat}{assign body:Code}{df:Nat}{J:List A}{vs:List Value}(hD:D.Ok)(ad:D.rc=λst pe=>{state:=st,pending:=pe,fn:=fn,tmps:=D.tmps,params:=F.toArray,assign:=assign,body:=body,defers:=df})
  (hN:D.tmps.size=N)(an:∀p∈F,p<N)(al:J.length=F.length)(hq:∀b,qR b->ri b)(hI:∀b,ri b->b<W.heap.size/\ ¬g b)(L:LR ri [] W J vs)(j0:RJ D ro0 σ1 H .ready none qR g W)
  (h:TC P D.h1 N assign (upPs F J D.env) H λe env1 H1=>e=.normal/\TC P D.h1 N body env1 H1 (QnN D.h1 D.env Q K)):
  YieldAt Fence.wide 0 P D.l vs.toArray W λe W'=>∃g',QeW g g' W W'/\((e=.returned (.bool true)/\ ∃H2 ro2 σ2,K H2/\RJ D ro2 σ2 H2 .ready none ri g' W')\/
   (e=.returned (.bool false)/\ ∃H2 c ro2 σ2,Jump Q D.env c H2/\RJ D ro2 σ2 H2 .done (some c) ri g' W')):=by
 have am:vs.length=J.length:=L.length;have j:=j0.roAdd hq hI;have t:LR (λb=>ro0 b\/ri b) σ1 W J vs:=L.mono ⟨λ_ q=>.inr q,λ_ _=>rfl,λ_ _ q=>q,λi b q=>by simp at q⟩;clear j0;generalize(λb=>ro0 b\/ri b)=ro1 at j t;have ag:∀b,D.fr1 b->FrB D ro1 g W b:=λb q=>⟨.inl q,j.sim.frLt b q⟩;have G:=ag _ hD.l1;have aa:=j.rc;have hy:=run_yield (P:=P) (r:=D.rc .ready none) (args:=vs.toArray) aa (by grind);refine⟨fn,QhH F vs D.tmps,assign,body,?_,?_⟩
 .grind[Qfl]
 .refine roundIn_of_wpIn trivial ?_;show Code.wpIn (WF (some D.l)) 0 P _ _ _ _;have Y:∀s,VR ro1 σ1 W (lk D.env s) (D.tmps.getD s undef):=λs=>(j.env s).mono ⟨λ_ q=>q,λ_ _=>rfl,λ_ _ q=>q,λi b q=>QgD j.sig q⟩;have af:QdP (some D.l) (FrB D ro1 g W) W:=λl e=>by grind
  have x:=h (some D.l) (FrB D ro1 g W) ro1 σ1 {tmps:=QhH F vs D.tmps,defers:=[]} W ⟨j.simB,Qis F J vs D.env D.tmps t (by grind) Y,by simp[Qfk,hN],List.nodup_nil,λd hd=>by cases hd⟩ af;refine Code.wpIn_mono ?_ x;rintro e a1 x ⟨x1,env1,H1,ro2,σ2,k,h1,⟨rfl,h2⟩,h3,h4,h5,h6⟩;cases e with
  |normal=>
   have O:x.heap[D.l]?=some (.loop (D.rc .ready none)):=(h4.keepFr _ G).trans aa;refine⟨_,run_beginRound O (by rw[ad]),?_⟩;obtain⟨s2,y⟩:=h3.sim.put (obj:=.loop {D.rc .ready none with state:=.busy}) (h6.sub _ G) (Qed O);have R:D.l<x.heap.size:=by grind
   have aj:(x.putObj D.l (.loop {D.rc .ready none with state:=.busy})).heap[D.l]?=some (.loop {D.rc .ready none with state:=.busy}):=World.putObj_heap_same R;generalize hw2:x.putObj D.l (.loop {D.rc .ready none with state:=.busy})=w2 at*;have ai:Qbz k a1.defers w2:=h3.defers.to λB _ e2 e3=>⟨e2,(y.keepFr B (λe=>by grind)).trans e3⟩;have r2:Rel k ro2 σ2 H1 env1 N a1 w2:=⟨s2,λs=>(h3.env s).mono (y.ext0 σ2),h3.size,ai⟩;have ac:k D.l:=h6.sub _ G;refine Code.wpIn_mono ?_ (h2 (some D.l) k ro2 σ2 a1 w2 r2 (λl e=>by grind));rintro e a3 u ⟨x3,M,H3,E,σ3,ab,g1,g2,g3,g4,g5,g6⟩;have n:u.heap[D.l]?=some (.loop {D.rc .ready none with state:=.busy}):=(g4.keepFr _ ac).trans aj;have z:∀(H2:Qd) (jump:Option Code),Le D.h1 M H3 [] H2->∃v m,(Instr.endRound D.l jump).run P u=.ok v m/\v=.bool jump.isNone/\ ∃g',QeW g g' W m/\ ∃a σ4,RJ D a σ4 H2 (if jump.isNone then .ready else .done) jump ri g' m:=by
    intro H2 jump f;obtain⟨a,σ4,r4,s4,t4⟩:=f ab E σ3 N a3 u g3;refine⟨_,_,run_endRound jump n,rfl,?_⟩;have ak:ab D.l:=g6.sub _ ac;obtain⟨s5,ah⟩:=r4.sim.put ak (Qed n);have T:D.l<u.heap.size:=by rw[Vc]at n;exact n.1
    have ae:=World.putObj_heap_same (w:=u) (r:=D.l) (o:=.loop {{D.rc .ready none with state:=.busy}with state:=if jump.isNone then .ready else .done,pending:=jump}) T;have e1:Qm (λb=>FrB D ro1 g W b/\b≠D.l) ro1 W ro2 x:=h4.frMono λb q=>q.1;have e2:Qm (λb=>FrB D ro1 g W b/\b≠D.l) ro2 x ro2 w2:=y.frMono λb q=>q.2;have e3:Qm (λb=>FrB D ro1 g W b/\b≠D.l) ro2 w2 E u:=g4.frMono λb q=>h6.sub b q.1;have e4:Qm (λb=>FrB D ro1 g W b/\b≠D.l) E u a u:=Q5 s4;have e5:=(((e1.trans e2).trans e3).trans e4).trans (ah.frMono λb (q:FrB D ro1 g W b/\b≠D.l)=>q.2);obtain⟨q1,q2⟩:=j.fin hD e5 s5 (λb q=>g6.sub b (h6.sub b q)) (by rw[t4,g5,h5]) (st':=if jump.isNone then .ready else .done) (pe':=jump) (by rw[ae,ad]);exact⟨_,q2,a,σ4,q1⟩
   cases e with
   |normal=>
    obtain rfl:x3=.normal:=g1;obtain⟨H2,f,hK⟩:=g2;obtain⟨v,m,V,rfl,g',k2,a,σ4,X⟩:=z H2 none f;exact⟨_,m,V,g',k2,.inl ⟨rfl,H2,a,σ4,hK,X⟩⟩
   |exit id=>
    obtain rfl:x3=.exit id:=g1;obtain⟨H2,f,hK⟩:=g2;obtain⟨v,m,V,rfl,g',k2,a,σ4,X⟩:=z H2 (some (.exit id)) f;exact⟨_,m,V,g',k2,.inr ⟨rfl,H2,_,a,σ4,.inl ⟨id,rfl,hK⟩,X⟩⟩
   |ret=>
    obtain rfl:x3=.ret:=g1;obtain⟨H2,f,hK⟩:=g2;obtain⟨v,m,V,rfl,g',k2,a,σ4,X⟩:=z H2 (some .ret) f;exact⟨_,m,V,g',k2,.inr ⟨rfl,H2,_,a,σ4,.inr ⟨rfl,hK⟩,X⟩⟩
   |_=>exact g1.elim
  |exit id=>cases h1
  |ret=>cases h1
  |_=>exact h1.elim
end
theorem Sim.beside{fr ro:Nat->Prop}{σ:Sig}{H:Qd}{w g:World}(s:Sim fr ro σ H w)(ev:Qm fr ro w ro g)(a:∀b,b<w.heap.size->g.heap[b]?=w.heap[b]?):Sim (λb=>fr b\/(w.heap.size<=b/\b<g.heap.size)) ro σ H g:=by
 have hext:=ev.ext0 σ;refine⟨s.len,s.roOk.to (λ_ q=>q) ev.keepRo (λb q=>Vf (s.roLt b q) ev.size),λb q=>q.elim (λq=>Vf (s.frLt b q) ev.size) (λq=>q.2),λb q r=>?_,λi b x f e h=>?_,s.inj,λi z x f e=>?_,
  s.hidTo (· = ·) Yb ev.size (by simp) (λi b x c f e h n=>n.elim id λq=>(by have:=(s.hid i b x c f e h).lt;omega)) λj d y m l B=>.inl ⟨j,y,rfl,m,l,id,λc q=>s.hidKeep m l (λz=>a d (s.own j d y m l z).1) ev.keepRo q⟩⟩
 .rcases r with r|r
  .exact s.roFr b q r
  .have:=s.roLt b q;omega
 .obtain⟨u,p,t⟩:=s.own i b x f e h
  grind
 .refine(s.blk i z x f e).keep hext ?_ ?_
  .rintro b rfl k;exact a b (s.own i b x f e k).1
  .rintro b c rfl k;exact a c (s.hid i b x c f e k).lt
section
variable {P:Program} {T:Type} {ts tq te k tm:Nat} {g:FuncId} {es:List (A×A)} {e:T->List A} {ea:T->A} {xs:List T}
end
theorem TCy.le{T:Type}{X:Ctx T}{P:Program}{h0 N:Nat}{c:Code}{env d:Env}{H H':Qd}{l:YSt T}{Q:Jb T}(i:Le h0 env H d H')(h:TCy X P h0 N c d H' l Q):TCy X P h0 N c env H l Q:=by
 intro n u m x σ a w g r hj hrd;obtain⟨f,σ',z,s,t⟩:=i m x σ N a w r;obtain⟨⟨p,y,k⟩,j⟩:=hj;exact Code.wpIn_mono (λe a w q=>q.grow s (XT _) t (Grow.refl _ _ _)) (h n u m f σ' a w g z ⟨⟨p,(by grind),k⟩,j⟩ hrd)
theorem Qkg{P:Program}{o:Oper}{env:Env}{H:Qd}{y z:Operand}{l:Nat}{a:A}{h:Array TypeId}(m:o.op=.call {callee:=.value y,args:= #[z],argTypes:=h})(g:opA env y=.fn (.yield l) [] [])(i:opA env z=a)(k:Yq a=true){N:Nat}:
  ∀fr ro σ act w,Rel fr ro σ H env N act w->∃vs:List Value,LR ro [] w [a] vs/\(execOp act.eval o).run P w=(Instr.yield l vs.toArray).run P w:=by
 intro fr ro σ act w r;have d:=Qu r y;rw[g]at d;obtain⟨j,n,d,f,p⟩:=d;obtain rfl:j=[]:=f;have e:=Qu r z;rw[i]at e;refine⟨[act.eval z],⟨_,_,rfl,VR.data k e,rfl⟩,?_⟩;generalize act.eval=ev at*;simp[execOp,m,invoke,go_sem,d]
theorem Qi8{P:Program}{o:Oper}{env:Env}{H:Qd}{y a e:Operand}{l:Nat}{i k:A}{s:Array TypeId}(u:o.op=.call {callee:=.value y,args:= #[a,e],argTypes:=s})(q:opA env y=.fn (.yield l) [] [])(g:opA env a=i)(h:opA env e=k)(f:Yq i=true)(j:Yq k=true){N:Nat}:
  ∀fr ro σ act w,Rel fr ro σ H env N act w->∃vs:List Value,LR ro [] w [i,k] vs/\(execOp act.eval o).run P w=(Instr.yield l vs.toArray).run P w:=by
 intro fr ro σ act w r;have d:=Qu r y;rw[q]at d;obtain⟨t,x,d,p,z⟩:=d;obtain rfl:t=[]:=p;have m:=Qu r a;rw[g]at m;have n:=Qu r e;rw[h]at n;refine⟨[act.eval a,act.eval e],⟨_,_,rfl,VR.data f m,_,_,rfl,VR.data j n,rfl⟩,?_⟩;generalize act.eval=ev at*;simp[u,invoke,go_sem,d]
section
variable {P:Program} {K V:Type} {tm tb ty tk kt et:Nat} {ek:K->A} {ev:V->A} {m:List (K×V)} {T:Type}
end
section
variable {P:Program} {o:Oper} {env:Env} {H:Qd} {fr ro:Nat->Prop} {σ:Sig} {w:World}
theorem Qd4{h0 i m T:Nat}{d:List A}(g:H[i]?=some (.cells T d)):Le h0 env H env (H.set i (.cells T (d.set m .any))):=by
 intro u t σ N a w r;refine⟨t,σ,⟨r.sim.weaken g rfl ?_,r.env,r.size,r.defers⟩,λ_ q=>q,rfl⟩;intro y h;cases y with
 |none=>exact h
 |some b=>
  obtain⟨l,n,k,j⟩:=h;refine⟨l,n,?_,j⟩;clear n j g
  induction d generalizing m l with
  |nil=>exact k
  |cons c d p=>
   obtain⟨v,e,rfl,s,f⟩:=k;cases m with
   |zero=>exact⟨v,e,rfl,trivial,f⟩
   |succ m=>exact⟨v,e,rfl,s,p e f⟩
theorem Pts.ents{i a t e f g j:Nat}{l:List Ent}{x:Ent}{d:List A}(he:l[e]?=some x)(q:H[i]?=some (.ents t g j l):=by exact rfl)(ho:a=e*3+f:=by exact rfl)(hcs:(eC g j x).drop f=d:=by exact rfl):Pts H (.ptr i a) d:=by
 intro u y σ w v s h;obtain⟨b,n,r⟩:=h;obtain⟨z,p,m⟩:=s.blk i _ _ n q;have k:(l.map (eC g j))[e]?=some (eC g j x):=by rw[Xo,he];rfl
 have:=((YS (pre:=[]) (by simpa using p) m).get e k).2.drop f;refine⟨b,a,r,?_⟩;rw[<- hcs,ho];simpa using this
end
section
variable {P:Program} {h0 N:Nat} {A B C:Code} {env:Env} {H:Qd} {Q:QG}
end
section
variable {P:Program} {o:Oper} {env:Env} {H:Qd}
def Ym(k:IntKind)(m n:Int):Int:=k.wrap (BitVec.ofInt k.bits m&&& BitVec.ofInt k.bits n).toNat
def Yl(k:IntKind)(m n:Int):Int:=m.fdiv (2^(min n.toNat k.bits))
theorem OpV.and{t u:TypeId}{x y:Operand}{k:IntKind}{m n:Int}(e:o.op=.binOp .and t x y u)(g:opA env x=.int k m)(d:opA env y=.int k n):OpV P o env H (.int k (Ym k m n)):=by
 intro i j σ N a w r;have h:=QU r g;have f:=QU r d;refine⟨_,?_,rfl⟩;generalize a.eval=ρ at*;simp[e,h,f,Op.intBits,go_sem,Ym]
theorem OpV.shr{t u:TypeId}{x y:Operand}{k g:IntKind}{m n:Int}(h:o.op=.binOp .shr t x y u)(j:opA env x=.int k m)(d:opA env y=.int g n)(e:0<=n):OpV P o env H (.int k (Yl k m n)):=by
 intro l p σ N a w r;have f:=QU r j;have i:=QU r d;refine⟨_,?_,rfl⟩;generalize a.eval=ρ at*;simp[h,f,i,Op.shift,go_sem,Yl,Int.not_lt.2 e]
theorem YK{h0 i m t k T:Nat}{d:List A}(E:Nat.ble h0 H.length=true)(g:H[i]?=some (.cells T d))(f:d[m]?=some .nils):
  Le h0 env H env (H.set i (.cells T (d.set m (.osl H.length 0 0 k)))++[.row t k []]):=by
 intro J j σ N a w r;have hh':=XR E;have hi:=(XL.1 g).1;have ext:Ext j σ w j (σ++[none]) w:=⟨λ_ q=>q,λ_ _=>rfl,λ_ _ q=>q,λ_ _ h=>Qck h⟩;have s:=r.sim.phantom t k;have e:(H++[Blk.row t k []])[i]?=some (.cells T d):=by rw[XM hi];exact g
 have x:H.set i (.cells T (d.set m (.osl H.length 0 0 k)))++[.row t k []]=(H++[Blk.row t k []]).set i (.cells T (d.set m (.osl H.length 0 0 k))):=by
  rw[List.set_append_left _ _ hi]
 rw[x];refine⟨j,σ++[none],⟨s.weaken e rfl ?_,λq=>(r.env q).mono ext,r.size,r.defers⟩,λ_ q=>q,QS (by rw[r.sim.len];exact hh')⟩;intro y h;cases y with
 |none=>exact h
 |some b=>
  obtain⟨l,B,G,z⟩:=h;refine⟨l,B,?_,z⟩;clear B z e x g
  induction d generalizing m l with
  |nil=>cases f
  |cons c d F=>
   obtain⟨v,n,rfl,u,p⟩:=G;cases m with
   |zero=>
    simp at f;subst f;exact⟨v,n,rfl,.inl ⟨rfl,u⟩,p⟩
   |succ m=>exact⟨v,n,rfl,u,F (by simpa using f) n p⟩
def SrcB(P:Program)(H:Qd)(x:A)(l:List Int):Prop:=
 ∀fr ro σ w v,Sim fr ro σ H w->VR ro σ w x v->(∃a c,v=.slice a 0 c/\l=[])\/ ∃b off c,v=.slice (some ⟨b,off,none⟩) l.length c/\(l=[]\/CR ro σ w b (l.map λn=>A.int .u8 n) off)
theorem Qf7:∀(l:List Int),(l.map (λn=>[A.int .u8 n])).flatten=l.map λn=>A.int .u8 n
 |[]=>rfl
 |n::l=>by simp[Qf7 l]
theorem SrcB.nils:SrcB P H .nils []:=λfr ro σ w v s h=>.inl ⟨none,0,h,rfl⟩
theorem SrcB.row{i t n:Nat}{l:List Int}(q:H[i]?=some (.row t 1 (l.map λn=>[A.int .u8 n])):=by exact rfl)(hn:l.length=n:=by exact rfl):SrcB P H (.osl i 0 n 1) l:=by
 intro y z σ w v s h;rcases h with⟨rfl,rfl⟩|⟨b,p,a,u,m,j,rfl,r,⟨E,g⟩,x,F⟩
 .exact .inl ⟨none,0,rfl,VI.1 hn⟩
 .refine .inr ⟨b,p,a,by rw[hn],?_⟩;by_cases e:l=[]
  .exact .inl e
  .have:0<a:=by have:=List.length_pos_iff.2 e;omega
   obtain rfl:=r this;obtain⟨B,k,f⟩:=s.blk i _ _ j q;have d:=(YS (pre:=[]) (by simpa using k) f).flat.1;rw[Qf7]at d;exact .inr (by simpa using d.lift)
theorem SrcB.rsl{l:List Int}:SrcB P H (.rsl 1 (l.map λn=>[A.int .u8 n])) l:=by
 intro i j σ w v s ⟨a,c,h1,h2,e⟩;subst h1;rw[X2]at*;rcases e with e|⟨b,d,rfl,h,g⟩
 .have:=List.map_eq_nil_iff.1 e;subst this;exact .inl ⟨a,c,by simp,rfl⟩
 .have f:=g.flat.1;rw[Qf7]at f;exact .inr ⟨b,d,c,rfl,.inr f.lift⟩
end
def Qbl:Option Blk->Bool
 |some .dead=>true
 |_=>false
def Qas(hB hE:Nat)(H H':Qd):Bool:=(List.range (hE-hB)).all λp=> !Qbl H'[hB+p]? ||Qbl H[hB+p]?
def Qi4(hB hE:Nat)(σ:Sig)(H:Qd):Prop:=∀p,hB<=p->p<hE->Qbl H[p]?=true->σ[p]?=some none
theorem QjH{hB hE:Nat}{H H':Qd}(h:Qas hB hE H H'=true){p:Nat}(e:hB<=p)(d:p<hE)(a:Qbl H'[p]?=true):Qbl H[p]?=true:=by
 have:=Xs.1 h (p-hB) (List.mem_range.2 (by omega));rw[show hB+(p-hB)=p by omega,a]at this;simpa using this
theorem Sim.allocAt{fr ro:Nat->Prop}{σ:Sig}{H:Qd}{w:World}(s:Sim fr ro σ H w){p:Nat}(G:σ[p]?=some none){obj:Obj}{x:Blk}
  (O:BR ro (σ.set p (some w.heap.size)) (w.alloc obj) x (some w.heap.size))
  (E:∀c,Hid (w.alloc obj) x w.heap.size c->False:=by exact λ_ h=>h.elim):Sim fr ro (σ.set p (some w.heap.size)) (H.set p x) (w.alloc obj):=by
 have ev:Qm fr ro w ro (w.alloc obj):=Qm.alloc obj s.roLt s.frLt;have u:=s.len;have F:p<σ.length:=(XL.1 G).1;have t:Ext ro σ w ro (σ.set p (some w.heap.size)) (w.alloc obj):=⟨ev.sub,ev.keepRo,ev.shape,λi b q=>by
  rw[XP (λz=>by subst z;rw[G]at q;cases q)];exact q⟩
 have e:∀(i:Nat) (y:Option Nat),(σ.set p (some w.heap.size))[i]?=some y->(i≠p/\σ[i]?=some y)\/(i=p/\y=some w.heap.size):=by
  intro i y h;by_cases q:i=p
  .subst q;rw[Xa F]at h;exact .inr ⟨rfl,(XZ h).symm⟩
  .rw[XP (λz=>q z.symm)]at h;exact .inl ⟨q,h⟩
 have n:∀i:Nat,i≠p->(H.set p x)[i]?=H[i]? :=λi P=>XP (λz=>P z.symm);have L:(H.set p x)[p]?=some x:=Xa (by omega);refine⟨by simp[u],s.roOk.to (λ_ q=>q) ev.keepRo (λb h=>?_),λb h=>?_,s.roFr,?_,?_,?_,s.hidTo (· = ·) Yb (by rw[YV];omega) (λ_ _ _ _ _ _ _ q=>q) (λ_ _ _ _ _ _ _ q=>q) λj d y l k Q=>?_⟩
 rotate_left 5
 .rcases e j _ l with⟨q,l⟩|⟨rfl,m⟩
  .rw[n j q]at k;exact .inl ⟨j,y,rfl,l,k,id,λc q=>s.hidKeep l k (λz=>Yk w obj d (s.own j d y l k z).1) ev.keepRo q⟩
  .rw[L]at k;cases k;cases m;exact .inr ⟨XT _,E⟩
 .rw[YV];have:=s.roLt b h;omega
 .rw[YV];have:=s.frLt b h;omega
 .intro i b y f g r;rw[YV];rcases e i _ f with⟨q,f⟩|⟨rfl,m⟩
  .rw[n i q]at g;obtain⟨a,b,c⟩:=s.own i b y f g r;exact⟨by omega,b,c⟩
  .cases m;exact⟨by omega,λq=>by have:=s.roLt _ q;omega,λq=>by have:=s.frLt _ q;omega⟩
 .intro i j b y z f g r B M J;rcases e i _ f with⟨q,l⟩|⟨N,m⟩<;>rcases e j _ g with⟨q',k⟩|⟨ej,e2⟩
  .rw[n i q]at r;rw[n j q']at B;exact s.inj i j b y z l k r B M J
  .cases e2;rw[n i q]at r;have:=(s.own i _ y l r M).1;omega
  .cases m;rw[n j q']at B;have:=(s.own j _ z k B J).1;omega
  .rw[N,ej]
 .intro i y z f g;rcases e i _ f with⟨q,f⟩|⟨rfl,m⟩
  .rw[n i q]at g;refine(s.blk i y z f g).keep t ?_ ?_
   .rintro b rfl u;exact Yk w obj b (s.own i b z f g u).1
   .rintro b c rfl u;exact Yk w obj c (s.hid i b z c f g u).lt
  .rw[L]at g;cases g;subst m;exact O
def OpZ(P:Program)(o:Oper)(t:Nat)(cs:List A):Prop:=
 ∀(ro:Nat->Prop) (σ:Sig) (w:World) (a:Act),∃l:List Value,(execOp a.eval o).run P w=.ok (.value (.pointer (some ⟨w.heap.size,0,none⟩))) (w.alloc (.cells l.toArray t))/\LR ro σ w cs l/\ ∀v∈l,QA v
theorem OpZ.alloc{P:Program}{o:Oper}{t:Nat}{z:Value}{v:A}{d:List A}(g:∀w,(zeroValue t).run P w=.ok z w)(h:ZR v z)(j:o.op=.alloc t:=by exact rfl)(hk:Yn v=true:=by exact rfl)(hcs:Yd v=d:=by exact rfl)(hpl:d.all Yr=true:=by exact rfl):
  OpZ P o t d:=by
 intro i σ w a;obtain⟨l,k,f⟩:=(h i σ w).cells hk;subst hcs;refine⟨l,?_,f,f.plain hpl⟩;generalize a.eval=ρ at*;have e:(newVar t z).run P w=.ok ⟨w.heap.size,0,none⟩ (w.alloc (.cells l.toArray t)):=by
  unfold newVar;rw[k];rfl
 simp only[execOp,j,Instr.alloc,Vm,g,Result.andThen,e];rfl
def OpZR(P:Program)(o:Oper)(e:Env)(H:Qd)(p:Nat)(x:A)(B:Blk):Prop:=
 ∀fr ro σ N a w,Rel fr ro σ H e N a w->∃v obj,(execOp a.eval o).run P w=.ok (.value v) (w.alloc obj)/\(∀c,Hid (w.alloc obj) B w.heap.size c->False)/\
  ∀σ',σ'[p]?=some (some w.heap.size)->Ext ro σ w ro σ' (w.alloc obj)->VR ro σ' (w.alloc obj) x v/\BR ro σ' (w.alloc obj) B (some w.heap.size)
theorem Qb2{P:Program}{l:List Oper}{i:Nat}{o:Oper}{rd:Option Nat}{R:Exit->Act->World->Prop}{Q:Exit->Act->World->Prop}{K:Act->World->Prop}{a:Act}{w:World}
  (F:l[i]?=some o)(h:wpL P rd l.toArray R [o] a w)(k:∀e a' w',R e a' w'->e=.normal/\a'.defers=a.defers)(m:∀v w',R .normal (a.put o.dst v) w'->K (a.put o.dst v) w'):
  wpOpIn (WF rd) 0 P l.toArray Q i K a w:=by
 unfold wpOpIn;have t:l.toArray[i]?=some o:=by simpa using F
 rw[t];simp only;unfold wpL wpListIn at h;split at h
 .rename_i s;rw[Vs s];obtain⟨j,h⟩:=h;refine⟨j,?_⟩;have g:=Qgx (by
   intro a' w' q;unfold wpListIn at q;exact(k _ _ _ q).2) h
  generalize(o.semAt (WF rd).round a.eval).run P w=res at*;cases res with
  |ok n w'=>
   cases n with
   |value v=>exact m _ _ g.1
   |skip=>exact m _ _ g.1
   |defer G=>
    exfalso;have:=(k _ _ _ g.1).2;have:=congrArg List.length this
    revert this
    cases o.dst<;>simp[Act.put]
   |enter f p=>
    refine⟨g.1,CallsIn.mono g.2 (λe u d=>?_)⟩;cases e with
    |returned v=>exact m _ _ d.1
    |panicked c=>have:=(k _ _ _ d).1;cases this
    |outgrown=>obtain⟨B,E,d⟩:=d;have:=(k _ _ _ d).1;cases this
   |row r p=>
    exact⟨g.1,RowsIn.mono g.2 (λ_ _ d=>m _ _ d.1)⟩
   |round l f z assign y=>
    refine⟨g.1,RoundIn.mono g.2 (λe u d=>?_)⟩;cases e with
    |returned v=>exact m _ _ d.1
    |panicked c=>have:=(k _ _ _ d).1;cases this
    |outgrown=>obtain⟨B,E,d⟩:=d;have:=(k _ _ _ d).1;cases this
   |_=>exact g.elim
  |halt x w'=>
   cases x with
   |panic v=>have:=(k _ _ _ g).1;cases this
   |_=>exact g.elim
 .rename_i s;rw[Vr s];obtain⟨j,h⟩:=h;refine⟨j,?_⟩;unfold wpListIn at h;exact m _ _ h
theorem QjG{P:Program}{l:List Oper}{m:Nat}(s:∀i o,l[i]?=some o->∀j∈Qn o,j<i)(n:∀i o,m<i->l[i]?=some o->i-1∈Qn o){Q:Exit->Act->World->Prop}{rd:Option Nat}:
  ∀(d t:Nat) (L:Array Bool) (a:Act) (w:World),L.size=l.length->(∀i,i<l.length->(onL L i↔i<t))->unl L<=d->m<=t->t<=l.length->
   wpL P rd l.toArray Q (l.drop t) a w->wpAnyIn (WF rd) 0 P .any l.toArray Q d L a w:=by
 intro d
 induction d with
 |zero=>
  intro t L a w hsz hL hf hm ht h;have:t=l.length:=by
   rcases VB t l.length with q|q
   .have:=Qit (L:=L) (i:=t) (by omega) (λz=>by have:=(hL t q).1 z;omega);omega
   .omega
  subst this;refine⟨List.eq_nil_iff_forall_not_mem.2 λi p=>?_,?_⟩
  .obtain⟨o,f,k,_⟩:=(QaG hsz).1 p;have e:=(XL.1 f).1;exact k ((hL i e).2 e)
  .rw[Xr]at h;exact h
 |succ d J=>
  intro t L a w hsz hL hf hm ht h;have x:∀i o,l[i]?=some o->¬onL L i->(∀j∈Qn o,onL L j)->i=t:=by
   intro i o f k B;have e:=(XL.1 f).1;have H:t<=i:=by
    rcases VB i t with q|q
    .exact absurd ((hL i e).2 q) k
    .exact q
   rcases VB t i with q|q
   .have:=(hL (i-1) (by omega)).1 (B _ (n i o (by omega) f));omega
   .omega
  rcases VB t l.length with g|g
  .have G:l[t]?=some l[t]:=XK g;have r:¬onL L t:=λq=>by have:=(hL t g).1 q;omega
   have E:t∈Region.ready .any l.toArray L:=by
    refine(QaG hsz).2 ⟨_,G,r,λj y=>?_⟩;have:=s t _ G j y;exact(hL j (by omega)).2 this
   refine⟨λq=>(by rw[q]at E;cases E),λi p=>?_⟩;obtain⟨o,f,k,B⟩:=(QaG hsz).1 p;obtain rfl:=x i o f k B;rw[Xp g]at h;obtain rfl:l[i]=o:=by rw[XK g]at f;exact XZ f
   unfold wpOpIn;rw[show l.toArray[i]?=some l[i]by rw[XG];exact f];simp only;unfold wpL wpListIn at h;have F:∀a w,wpL P rd l.toArray Q (l.drop (i+1)) a w->wpAnyIn (WF rd) 0 P .any l.toArray Q d (L.setIfInBounds i true) a w:=by
    intro a w q;have M:=QfT (L:=L) (i:=i) (by omega) r;refine J (i+1) _ a w (by simpa using hsz) (λj y=>?_) (by omega) (by omega) (by omega) q;rw[Jq (by omega),hL j y];omega
   split at h
   .rename_i u;rw[Vs u];exact Oper.wpIn_mono F h
   .rename_i u;rw[Vr u];exact⟨h.1,F _ _ h.2⟩
  .have:t=l.length:=by omega
   subst this;rw[Xr]at h;refine⟨λ_=>h,λi p=>?_⟩;obtain⟨o,f,k,_⟩:=(QaG hsz).1 p;have e:=(XL.1 f).1;exact absurd ((hL i e).2 e) k
def QlU(af ds:List Nat)(xs:List A)(env0 e:Env):Prop:=
 ∀s,(∃j x,af.contains j=true/\ds[j]?=some s/\xs[j]?=some x/\lk e s=x)\/lk e s=.any\/(ds.contains s=false/\lk e s=lk env0 s)
inductive Jm (P:Program) (N:Nat) (l:List Oper) (ds:List Nat) (xs:List A) (env0:Env) (hB hE:Nat) (i:Nat) (H H':Qd):Prop
 |mk (o:Oper) (e:Env) (d:Nat) (x:A) (ho:l[i]?=some o) (hd:o.dst=some d) (hx:xs[i]?=some x) (hdd:Qas hB hE H H'=true) (hs:Sb (Qn o) (Qgi l i) ds xs env0 e)
   (h:WO P H.length N l.toArray [o] e H (YT (up e d x) H')):Jm P N l ds xs env0 hB hE i H H'
 |unit (o:Oper) (e:Env) (ho:l[i]?=some o) (hd:o.dst=none) (hx:xs[i]?=some .any) (hdd:Qas hB hE H H'=true) (hs:Sb (Qn o) (Qgi l i) ds xs env0 e)
   (h:WO P H.length N l.toArray [o] e H (YT e H')):Jm P N l ds xs env0 hB hE i H H'
 |alloc (o:Oper) (d t p:Nat) (cs:List A) (ho:l[i]?=some o) (hd:o.dst=some d) (hg:o.guard=none) (hx:xs[i]?=some (.ptr p 0)) (hp:(Nat.ble hB p&&Nat.blt p hE)=true) (hdead:Qbl H[p]?=true)
   (hH:H.set p (.cells t cs)=H') (h:OpZ P o t cs) (hN:Nat.blt d N=true):Jm P N l ds xs env0 hB hE i H H'
 |row (o:Oper) (e:Env) (d p:Nat) (x:A) (B:Blk) (ho:l[i]?=some o) (hd:o.dst=some d) (hg:o.guard=none) (hx:xs[i]?=some x) (hp:(Nat.ble hB p&&Nat.blt p hE)=true) (hdead:Qbl H[p]?=true) (hlive:Qbl (some B)=false)
   (hH:H.set p B=H') (hs:Sb (Qn o) (Qgi l i) ds xs env0 e) (h:OpZR P o e H p x B) (hN:Nat.blt d N=true):Jm P N l ds xs env0 hB hE i H H'
 |val (o:Oper) (e:Env) (d:Nat) (x:A) (ho:l[i]?=some o) (hd:o.dst=some d) (hg:o.guard=none) (hx:xs[i]?=some x) (hN:Nat.blt d N=true) (he:QlU (Qn o) ds xs env0 e) (h:OpV P o e H x)
   (hH:H=H':=by rfl):Jm P N l ds xs env0 hB hE i H H'
 |woE (o:Oper) (e:Env) (d:Nat) (x:A) (ho:l[i]?=some o) (hd:o.dst=some d) (hx:xs[i]?=some x) (he:QlU (Qn o) ds xs env0 e) (hdd:Qas hB hE H H'=true) (h:WO P H.length N l.toArray [o] e H (YT (up e d x) H')):Jm P N l ds xs env0 hB hE i H H'
theorem Sb.rel{af bf f:List Nat}{xs:List A}{env0 e:Env}{ro:Nat->Prop}{σ:Sig}{w:World}{a:Act}(h:Sb af bf f xs env0 e)
  (i:∀j∈af,∀s x,f[j]?=some s->xs[j]?=some x->VR ro σ w x (a.tmps.getD s undef))
  (g:∀s,f.contains s=false->VR ro σ w (lk env0 s) (a.tmps.getD s undef))(hP:∀j s,bf.contains j=true->f[j]?=some s->VR ro σ w (lk env0 s) (a.tmps.getD s undef)):
  ∀s,VR ro σ w (lk e s) (a.tmps.getD s undef):=by
 intro s
 induction h with
 |nil=>exact trivial
 | @dep j s1 x1 r h1 h2 h3 _ ih=>
  unfold lk;cases d:Nat.beq s s1 with
  |false=>exact ih
  |true=>
   obtain rfl:=XQ d;exact i j (by simpa using h1) _ _ h2 h3
 | @old s1 x1 r h1 h2 _ ih=>
  unfold lk;cases d:Nat.beq s s1 with
  |false=>exact ih
  |true=>
   obtain rfl:=XQ d;subst h2;exact g _ h1
 | @pre j s1 x1 r h1 h2 h3 _ ih=>
  unfold lk;cases d:Nat.beq s s1 with
  |false=>exact ih
  |true=>
   obtain rfl:=XQ d;subst h3;exact hP j _ h1 h2
structure After (fr ro:Nat->Prop) (σ:Sig) (w:World) (hB hE:Nat) (H':Qd) (xs:List A) (i:Nat) (o:Oper) (a':Act) (w':World) (ro':Nat->Prop) (σ':Sig):Prop where
 val:∀x,xs[i]?=some x->match o.dst with
  |some d=>VR ro' σ' w' x (a'.tmps.getD d undef)
  |none=>x=.any
 sim:Sim fr ro' σ' H' w'
 ev:Qm fr ro w ro' w'
 ext:Ext ro σ w ro' σ' w'
 holes:Qi4 hB hE σ' H'
 take:σ'.take hB=σ.take hB
theorem Jm.use{P:Program}{N:Nat}{l:List Oper}{ds:List Nat}{xs:List A}{env0:Env}{hB hE i:Nat}{H H':Qd}(hb:Jm P N l ds xs env0 hB hE i H H')
  {Q:Exit->Act->World->Prop}{K:Act->World->Prop}{fr ro:Nat->Prop}{σ:Sig}{a:Act}{w:World}{o:Oper}{rd:Option Nat}(O:l[i]?=some o)
  (f:Sim fr ro σ H w)(hN:a.tmps.size=N)(r:Qbz fr a.defers w)(ae:QdP rd fr w)(hh:Qi4 hB hE σ H)(hl:hE<=H.length)(aj:hB<=hE)
  (hD:∀j∈Qn o,∀s x,ds[j]?=some s->xs[j]?=some x->VR ro σ w x (a.tmps.getD s undef))
  (hO:∀s,ds.contains s=false->VR ro σ w (lk env0 s) (a.tmps.getD s undef))(hP:∀j s,(Qgi l i).contains j=true->ds[j]?=some s->VR ro σ w (lk env0 s) (a.tmps.getD s undef))
  (hK:∀v w' ro' σ',After fr ro σ w hB hE H' xs i o (a.put o.dst v) w' ro' σ'->K (a.put o.dst v) w'):
  wpOpIn (WF rd) 0 P l.toArray Q i K a w:=by
 have X:∀{e:Env} {H2:Qd} {E:Exit} {u:Act} {w':World},Qby H.length fr ro σ w N a.defers (YT e H2) E u w'->E=.normal/\u.defers=a.defers:=by
  rintro e H2 E u w' ⟨x,_,_,_,_,_,k,⟨rfl,_⟩,_,_,_,L,_⟩;refine⟨?_,L⟩;cases E<;>first|rfl|exact k.elim|cases k
 have ai:∀{σ':Sig} {w':World},Qm fr ro w ro w'->σ'.take H.length=σ.take H.length->True:=λ_ _=>trivial;have T:∀{e:Env} {u:Act} {w':World},Qby H.length fr ro σ w N a.defers (YT e H') .normal u w'->Qas hB hE H H'=true->
   ∃ro' σ',Sim fr ro' σ' H' w'/\Qm fr ro w ro' w'/\Ext ro σ w ro' σ' w'/\Qi4 hB hE σ' H'/\σ'.take hB=σ.take hB/\ ∀s,VR ro' σ' w' (lk e s) (u.tmps.getD s undef):=by
  rintro e u w' ⟨_,ah,H2,ro',σ',ak,_,⟨_,rfl,rfl⟩,r',he,ht,_,ag⟩ F;have hσ:σ'=σ++σ'.drop H.length:=by
   conv=>lhs;rw[<- Xz H.length σ']
   rw[ht, <- f.len,X9]
  refine⟨ro',σ',r'.sim.frMono ag.sub,he,?_,?_,?_,r'.env⟩
  .rw[hσ];exact he.ext σ _
  .intro p k L h3;have:=hh p k L (QjH F k L h3);rw[hσ,XM (by rw[f.len];omega)];exact this
  .rw[hσ];exact QS (by rw[f.len];omega)
 cases hb with
 |woE n e d x g M hx he F h=>
  obtain rfl:n=o:=XZ (g.symm.trans O);have hr:∀s,VR ro σ w (lk e s) (a.tmps.getD s undef):=λs=>by
   rcases he s with⟨j,x,k,L,h3,W⟩|W|⟨k,W⟩
   .rw[W];exact hD j (by simpa using k) s x L h3
   .rw[W];exact trivial
   .rw[W];exact hO s k
  refine Qb2 O (h rd fr ro σ a w ⟨f,hr,hN,r⟩ ae) (λ_ _ _ q=>X q) (λv w' q=>?_);obtain⟨ro',σ',g1,g2,J,g4,g5,g6⟩:=T q F;refine hK v w' ro' σ' ⟨λy Y=>?_,g1,g2,J,g4,g5⟩;obtain rfl:=XZ (hx.symm.trans Y);have:=g6 d;unfold lk at this;rw[VE]at this;rw[M]at this⊢;exact this
 |mk n e d x g M hx F hs h=>
  obtain rfl:n=o:=XZ (g.symm.trans O);refine Qb2 O (h rd fr ro σ a w ⟨f,hs.rel hD hO hP,hN,r⟩ ae) (λ_ _ _ q=>X q) (λv w' q=>?_);obtain⟨ro',σ',g1,g2,J,g4,g5,g6⟩:=T q F;refine hK v w' ro' σ' ⟨λy Y=>?_,g1,g2,J,g4,g5⟩;obtain rfl:=XZ (hx.symm.trans Y);have:=g6 d;unfold lk at this;rw[VE]at this;rw[M]at this⊢;exact this
 |unit n e g M hx F hs h=>
  obtain rfl:n=o:=XZ (g.symm.trans O);refine Qb2 O (h rd fr ro σ a w ⟨f,hs.rel hD hO hP,hN,r⟩ ae) (λ_ _ _ q=>X q) (λv w' q=>?_);obtain⟨ro',σ',g1,g2,J,g4,g5,g6⟩:=T q F;refine hK v w' ro' σ' ⟨λy Y=>?_,g1,g2,J,g4,g5⟩;obtain rfl:=XZ (hx.symm.trans Y);rw[M]
 |val n e d x g M hg hx V he h hH=>
  obtain rfl:n=o:=XZ (g.symm.trans O);subst hH;have hr:Rel fr ro σ H e N a w:=by
   refine⟨f,λs=>?_,hN,r⟩;rcases he s with⟨j,x,k,L,h3,W⟩|W|⟨k,W⟩
   .rw[W];exact hD j (by simpa using k) s x L h3
   .rw[W];exact trivial
   .rw[W];exact hO s k
  obtain⟨v0,k,L⟩:=h fr ro σ N a w hr;have hw:Region.wanted n (yielded l.toArray a.tmps)=true:=by unfold Region.wanted;rw[hg]
  refine Qb2 (R:=λE u w'=>E=.normal/\u.defers=a.defers/\u=a.put n.dst v0/\w'=w) O (Qaa hw k ?_) (λ_ _ _ q=>⟨q.1,q.2.1⟩) (λv w' q=>?_)
  .unfold wpL wpListIn;refine⟨rfl,?_,rfl,rfl⟩;rw[M];rfl
  .obtain⟨_,_,q1,rfl⟩:=q;refine hK v _ ro σ ⟨λy Y=>?_,f,Qm.refl _ _ _,⟨λ_ q=>q,λ_ _=>rfl,λ_ _ q=>q,λ_ _ q=>q⟩,hh,rfl⟩;obtain rfl:=XZ (hx.symm.trans Y);rw[q1,M];have aa:d<a.tmps.size:=by rw[hN];simpa using V
   show VR ro σ w' x _;simpa[Act.put,Array.getD_eq_getD_getElem?,aa]using L
 |row n e d p x B g M hg hx hp G hlive hH hs h V=>
  obtain rfl:n=o:=XZ (g.symm.trans O);subst hH;simp only[XW]at hp;have ab:=XR hp.1;have af:p<hE:=by simpa using hp.2
  have hσp:=hh p ab af G;have hr:Rel fr ro σ H e N a w:=⟨f,hs.rel hD hO hP,hN,r⟩;obtain⟨v0,ac,k,L,h3⟩:=h fr ro σ N a w hr;have hw:Region.wanted n (yielded l.toArray a.tmps)=true:=by unfold Region.wanted;rw[hg]
  have ev:Qm fr ro w ro (w.alloc ac):=Qm.alloc _ f.roLt f.frLt;have ad:p<σ.length:=by rw[f.len];omega
  have m:Ext ro σ w ro (σ.set p (some w.heap.size)) (w.alloc ac):=⟨ev.sub,ev.keepRo,ev.shape,λj b q=>by
   rw[XP (λz=>by subst z;rw[hσp]at q;cases q)];exact q⟩
  obtain⟨g8,g9⟩:=h3 _ (Xa ad) m;refine Qb2 (R:=λE u w'=>E=.normal/\u.defers=a.defers/\u=a.put n.dst v0/\w'=w.alloc ac) O (Qaa hw k ?_) (λ_ _ _ q=>⟨q.1,q.2.1⟩) (λv w' q=>?_)
  .unfold wpL wpListIn;refine⟨rfl,?_,rfl,rfl⟩;rw[M];rfl
  .obtain⟨_,_,q1,rfl⟩:=q;refine hK v _ ro (σ.set p (some w.heap.size)) ⟨λy Y=>?_,f.allocAt hσp g9 L,ev,m,λp' g1 g2 J=>?_,?_⟩
   .obtain rfl:=XZ (hx.symm.trans Y);rw[q1,M];have aa:d<a.tmps.size:=by rw[hN];simpa using V
    show VR ro _ _ x _;simpa[Act.put,Array.getD_eq_getD_getElem?,aa]using g8
   .by_cases q:p'=p
    .subst q;rw[Xa (by omega),hlive]at J;cases J
    .rw[XP (λz=>q z.symm)]at J⊢;exact hh p' g1 g2 J
   .rw[List.take_set,List.set_eq_of_length_le];rw[Xy];omega
 |alloc n d t p cs g M hg hx hp G hH h V=>
  obtain rfl:n=o:=XZ (g.symm.trans O);subst hH;simp only[XW]at hp;have ab:=XR hp.1;have af:p<hE:=by simpa using hp.2
  have hσp:=hh p ab af G;obtain⟨lv,k,L,h3⟩:=h ro σ w a;have hw:Region.wanted n (yielded l.toArray a.tmps)=true:=by unfold Region.wanted;rw[hg]
  have ev:Qm fr ro w ro (w.alloc (.cells lv.toArray t)):=Qm.alloc _ f.roLt f.frLt;have ad:p<σ.length:=by rw[f.len];omega
  have m:Ext ro σ w ro (σ.set p (some w.heap.size)) (w.alloc (.cells lv.toArray t)):=⟨ev.sub,ev.keepRo,ev.shape,λj b q=>by
   rw[XP (λz=>by subst z;rw[hσp]at q;cases q)];exact q⟩
  refine Qb2 (R:=λE u w'=>E=.normal/\u.defers=a.defers/\u=a.put n.dst (.pointer (some ⟨w.heap.size,0,none⟩))/\w'=w.alloc (.cells lv.toArray t)) O (Qaa hw k ?_) (λ_ _ _ q=>⟨q.1,q.2.1⟩) (λv w' q=>?_)
  .unfold wpL wpListIn;refine⟨rfl,?_,rfl,rfl⟩;rw[M];rfl
  .obtain⟨_,_,q1,rfl⟩:=q;refine hK v _ ro (σ.set p (some w.heap.size)) ⟨λy Y=>?_,f.allocAt hσp ⟨lv,Yu _ _,L.mono m,h3⟩,ev,m,λp' g1 g2 J=>?_,?_⟩
   .obtain rfl:=XZ (hx.symm.trans Y);rw[q1,M];have aa:d<a.tmps.size:=by rw[hN];simpa using V
    refine⟨w.heap.size,Xa ad,?_⟩;simp[Act.put,Array.getD_eq_getD_getElem?,aa]
   .by_cases q:p'=p
    .subst q;rw[Xa (by omega)]at J;cases J
    .rw[XP (λz=>q z.symm)]at J⊢;exact hh p' g1 g2 J
   .rw[List.take_set,List.set_eq_of_length_le];rw[Xy];omega
def same(a b:List Nat):Bool:=a.all (b.contains ·)&&b.all (a.contains ·)
theorem Ql6{a b:List Nat}(h:same a b=true)(i:Nat):i∈a↔i∈b:=by
 unfold same at h;simp only[XW,Xs,List.contains_iff_mem]at h;exact⟨h.1 i,h.2 i⟩
structure QlX (l:List Oper) (m:Nat) (ds:List Nat) (hs:List Bool) (rq ms:List (List Nat)) (pl:List (List (Nat×Nat))) (N:Nat):Prop where
 len:m<=l.length
 dst:∀i o,i<m->l[i]?=some o->(∃d,o.dst=some d/\ds[i]?=some d/\d<N)\/o.dst=none
 dsl:ds.length=m
 nodup:∀(i j d:Nat),ds[i]?=some d->ds[j]?=some d->i=j
 back:∀i o,l[i]?=some o->∀j∈Qn o,j<i
 mid:∀o,l[m]?=some o->∀j,j<m->Qci l m j
 chain:∀i o,m<i->l[i]?=some o->i-1∈Qn o
 rqs:∀i o,i<m->l[i]?=some o->∀h∈rq.getD i [],h<m/\hs.getD h false=true/\(h∈Qn o\/ ∃j∈Qn o,j<m/\h∈rq.getD j [])
 ms0:ms.getD 0 []=[]
 full:∀st,st<ms.length->st+1=ms.length\/ ∃i,i<m/\hs.getD i false=true/\i∉ms.getD st []
 msh:∀st h,h∈ms.getD st []->h<m/\hs.getD h false=true
 pls:∀i st,i<m->st<ms.length->(∀h∈rq.getD i [],h∈ms.getD st [])->(hs.getD i false=true->i∉ms.getD st [])->(∀h∈ms.getD st [],¬Qci l h i)->
  ∃st',(st,st')∈pl.getD i []/\st'<ms.length/\if hs.getD i false then∀j,j∈ms.getD st' []↔j=i\/j∈ms.getD st []else st'=st
theorem QmZ{α:Type}{l:List α}{i:Nat}{d x:α}(h:l[i]?=some x):l.getD i d=x:=by rw[VK,h];rfl
theorem Qhp{P:Program}{l:List Oper}{m:Nat}{ds:List Nat}{hs:List Bool}{rq ms:List (List Nat)}{pl:List (List (Nat×Nat))}{N h0 hB hE:Nat}{xs:List A}{env0:Env}{Hs:List Qd}{Hk:Qd}
  (ok:QlX l m ds hs rq ms pl N)(ax:xs.length=m)(a9:Hs.length=ms.length)(ar:h0<=hB)(aq:hB<=hE)(a5:∀H∈Hs,hE<=H.length)
  (a3:∀i p,i<m->p∈pl.getD i []->Jm P N l ds xs env0 hB hE i (Hs.getD p.1 []) (Hs.getD p.2 []))(au:Hs.getD (ms.length-1) []=Hk)
  {fr ro0:Nat->Prop}{σ0:Sig}{w0:World}{rd:Option Nat}{ds0:List Deferred}{R:Exit->Act->World->Prop}
  (hk:∀ro σ a w,Rel fr ro σ Hk (Qat ds xs env0) N a w->Qm fr ro0 w0 ro w->σ.take h0=σ0.take h0->a.defers=ds0->wpL P rd l.toArray R (l.drop m) a w)(am:Qbz fr ds0 w0)(a7:QdP rd fr w0):
  ∀(g:Nat) (L:Array Bool) (a:Act) (w:World) (ro:Nat->Prop) (σ:Sig) (u:Nat),
   L.size=l.length->unl L<=g->(∀i,m<=i->¬onL L i)->u<ms.length->Sim fr ro σ (Hs.getD u []) w->a.tmps.size=N->a.defers=ds0->
   (∀(i d:Nat) (x:A),onL L i->ds[i]?=some d->xs[i]?=some x->VR ro σ w x (a.tmps.getD d undef))->(∀s,(∀j,ds[j]?=some s->¬onL L j)->VR ro σ w (lk env0 s) (a.tmps.getD s undef))->
   Qm fr ro0 w0 ro w->σ.take h0=σ0.take h0->Qi4 hB hE σ (Hs.getD u [])->
   (∀i,i<m->onL L i->∀h∈rq.getD i [],onL L h)->(∀i,i<m->hs.getD i false=true->(onL L i↔i∈ms.getD u []))->
   (∀i o,onL L i->l[i]?=some o->∀j∈Qn o,onL L j)->
   wpAnyIn (WF rd) 0 P .any l.toArray R g L a w:=by
 have ao:∀u,u<ms.length->hE<=(Hs.getD u []).length:=by
  intro u h;have e:Hs[u]?=some Hs[u]:=XK (by omega);rw[QmZ e];exact a5 _ (Vd _)
 have fin:∀(g:Nat) (L:Array Bool) (a:Act) (w:World) (ro:Nat->Prop) (σ:Sig) (u:Nat),
   L.size=l.length->unl L<=g->(∀i,m<=i->¬onL L i)->u<ms.length->Sim fr ro σ (Hs.getD u []) w->a.tmps.size=N->a.defers=ds0->
   (∀(i d:Nat) (x:A),onL L i->ds[i]?=some d->xs[i]?=some x->VR ro σ w x (a.tmps.getD d undef))->(∀s,(∀j,ds[j]?=some s->¬onL L j)->VR ro σ w (lk env0 s) (a.tmps.getD s undef))->
   Qm fr ro0 w0 ro w->σ.take h0=σ0.take h0->
   (∀i,i<m->hs.getD i false=true->(onL L i↔i∈ms.getD u []))->(∀i,i<m->onL L i)->
   wpAnyIn (WF rd) 0 P .any l.toArray R g L a w:=by
  intro g L a w ro σ u hsz hu hsuf hst hsim hN hdef hD hE' hev htk hI2 r;have al:u=ms.length-1:=by
   rcases ok.full u hst with q|⟨i,Q,X,h3⟩
   .omega
   .exact absurd ((hI2 i Q X).1 (r i Q)) h3
  rw[al,au]at hsim;refine QjG ok.back ok.chain g m L a w hsz (λi hi=>⟨λq=>?_,λq=>r i q⟩) hu (XT _) ok.len ?_
  .rcases VB i m with z|z
   .exact z
   .exact absurd q (hsuf i z)
  .have hr:Rel fr ro σ Hk (Qat ds xs env0) N a w:=by
    refine⟨hsim,λs=>?_,hN,by rw[hdef];exact am.keep hev⟩;rcases Qmf (env0:=env0) (by rw[ok.dsl,ax]) s with⟨j,x,Q,X,h3⟩|⟨Q,X⟩
    .rw[h3];have f:j<m:=by have:=(XL.1 Q).1;rw[ok.dsl]at this;exact this
     exact hD j s x (r j f) Q X
    .rw[X];exact hE' s (λj q=>absurd (VG q) (by simpa using Q))
   exact hk ro σ a w hr hev htk hdef
 intro g
 induction g with
 |zero=>
  intro L a w ro σ u hsz hu hsuf hst hsim hN hdef hD hE' hev htk hho hI1 hI2 hcl;refine fin 0 L a w ro σ u hsz hu hsuf hst hsim hN hdef hD hE' hev htk hI2 (λi hi=>?_);by_cases q:onL L i
  .exact q
  .have:=Qit (L:=L) (i:=i) (by have:=ok.len;omega) q;omega
 |succ g ih=>
  intro L a w ro σ u hsz hu hsuf hst hsim hN hdef hD hE' hev htk hho hI1 hI2 hcl;by_cases r:∀i,i<m->onL L i
  .exact fin (g+1) L a w ro σ u hsz hu hsuf hst hsim hN hdef hD hE' hev htk hI2 r
  .have a4:∃i,i<m/\ ¬onL L i:=by
    refine Classical.byContradiction λq=>r λi hi=>Classical.byContradiction λz=>q ⟨i,hi,z⟩
   obtain⟨n,hn,aj⟩:=a4;obtain⟨i0,Q,X,h3⟩:=least (p:=λi=>¬onL L i) (λi=>Classical.em _) n aj;have bb:=ok.len;have ag:l[i0]?=some l[i0]:=XK (by omega);have hr:i0∈Region.ready .any l.toArray L:=(QaG hsz).2 ⟨_,ag,X,λj f=>Classical.byContradiction λz=>h3 j (ok.back i0 _ ag j f) z⟩;refine⟨λq=>(by rw[q]at hr;cases hr),λi hi=>?_⟩;obtain⟨o,W,Y,M⟩:=(QaG hsz).1 hi;have E:i<m:=by
    rcases VB i m with q|q
    .exact q
    .exfalso;rcases VB m i with z|z
     .exact hsuf (i-1) (by omega) (M _ (ok.chain i o z W))
     .have:i=m:=by omega
      subst this;have an:∀j,Qci l i j->onL L j:=by
       intro j f
       induction f with
       |one t f=>rw[W]at t;cases t;exact M _ f
       |step _ t f ihr=>exact hcl _ _ ihr t _ f
      exact aj (an n (ok.mid o W n hn))
   have ah:∀h∈rq.getD i [],onL L h:=by
    intro h V;obtain⟨_,_,q|⟨j,q1,q2,q3⟩⟩:=ok.rqs i o E W h V
    .exact M h q
    .exact hI1 j q2 (M j q1) h q3
   obtain⟨a6,a2,a8,O⟩:=ok.pls i u E hst (λh V=>by
    obtain⟨q1,q2,_⟩:=ok.rqs i o E W h V;exact(hI2 h q1 q2).1 (ah h V)) (λq z=>Y ((hI2 i E q).2 z)) (λh V hR=>by
    obtain⟨q1,q2⟩:=ok.msh u h V;have a1:onL L h:=(hI2 h q1 q2).2 V;have ae:∀j,Qci l h j->onL L j:=by
     intro j f
     induction f with
     |one t f=>exact hcl _ _ a1 t _ f
     |step _ t f ihr=>exact hcl _ _ ihr t _ f
    exact Y (ae i hR))
   have hb:=a3 i _ E a2;refine hb.use W hsim hN (by rw[hdef];exact am.keep hev) (a7.to hev λ_ q=>q) hho (ao u hst) aq (λj f s x q1 q2=>hD j s x (M j f) q1 q2) (λs Q=>hE' s (λj q=>absurd (VG q) (by simpa using Q))) (λj s Q X=>hE' s (λj' q q'=>?_)) ?_
   .obtain rfl:=ok.nodup j' j s q X;have f:=Xd.1 (List.contains_iff_mem.1 Q);cases ac:l[j']? with
    |none=>rw[ac]at f;simp at f
    |some oj=>
     rw[ac]at f;exact Y (hcl j' oj q' ac i (by simpa using f.2))
   intro v w' a0 σ' af;have aa:=af.ext;have ab:∀s,(∀d,o.dst=some d->s≠d)->(a.put o.dst v).tmps.getD s undef=a.tmps.getD s undef:=by
    intro s aw;cases hd:o.dst with
    |none=>rfl
    |some d=>
     simp only[Act.put,Array.getD_eq_getD_getElem?,Ve];rw[Vr (λq=>aw d hd q.symm)]
   have ad:(a.put o.dst v).tmps.size=N:=by
    cases hd:o.dst with
    |none=>simpa[Act.put]using hN
    |some d=>simpa[Act.put]using hN
   have ay:(a.put o.dst v).defers=ds0:=by
    cases hd:o.dst with
    |none=>simpa[Act.put]using hdef
    |some d=>simpa[Act.put]using hdef
   have ba:=QfT (L:=L) (i:=i) (by omega) Y;have B:i<L.size:=by omega
   have az:∀s j,ds[j]?=some s->j≠i->∀d,o.dst=some d->s≠d:=by
    intro s j f F d hd q;subst q;rcases ok.dst i o E W with⟨d',k,T,ak⟩|k
    .rw[hd]at k;cases k;exact F (ok.nodup j i _ f T)
    .rw[hd]at k;cases k
   refine ih _ _ w' a0 σ' a6 (by simpa using hsz) (by omega) (λj f q=>?_) a8 af.sim ad ay ?_ ?_ (hev.trans af.ev) ?_ af.holes ?_ ?_ ?_
   .rcases(Jq B).1 q with z|z
    .omega
    .exact hsuf j f z
   .intro j s y f J hy;by_cases F:j=i
    .subst F;have hv:=af.val y hy;rcases ok.dst j o E W with⟨d',k,T,ak⟩|k
     .obtain rfl:s=d':=XZ (J.symm.trans T);simp only[k]at hv⊢;exact hv
     .simp only[k]at hv;subst hv;exact trivial
    .rw[ab s (az s j J F)];rcases(Jq B).1 f with z|z
     .exact absurd z F
     .exact(hD j s y z J hy).mono aa
   .intro s J;have av:∀d,o.dst=some d->s≠d:=by
     rintro d hd rfl;rcases ok.dst i o E W with⟨d',k,T,ak⟩|k
     .rw[hd]at k;cases k;exact J i T ((Jq B).2 (.inl rfl))
     .rw[hd]at k;cases k
    rw[ab s av];exact(hE' s (λj q z=>J j q ((Jq B).2 (.inr z)))).mono aa
   .rw[<- htk];have:=congrArg (List.take h0) af.take;rw[List.take_take,List.take_take,XB ar]at this;exact this
   .intro j f G h V;refine(Jq B).2 (.inr ?_);rcases(Jq B).1 G with z|z
    .subst z;exact ah h V
    .exact hI1 j f z h V
   .intro j f G;rw[Jq B];cases q:hs.getD i false with
    |false=>
     have F:j≠i:=by rintro rfl;rw[q]at G;cases G
     rw[q]at O;simp only[Xi,if_false]at O;simp only[F,false_or];rw[O];exact hI2 j f G
    |true=>
     rw[q]at O;simp only[if_true]at O;rw[O j,hI2 j f G]
   .intro j o' f t j' ai;rcases(Jq B).1 f with z|z
    .subst z;rw[W]at t;cases t;exact(Jq B).2 (.inr (M _ ai))
    .exact(Jq B).2 (.inr (hcl j o' z t j' ai))
def QdF.dstB(N:Nat):Nat->List Oper->List Nat->Bool
 |_,_,[]=>true
 |i,o::r,d::ds=>(match o.dst with|some d'=>Nat.beq d' d&&Nat.blt d N|none=>true)&&QdF.dstB N (i+1) r ds
 |_,[],_::_=>false
def QdF.rqB(m:Nat)(hs:List Bool)(rq:List (List Nat)):Nat->List Oper->Bool
 |_,[]=>true
 |i,o::r=>(rq.getD i []).all (λh=>Nat.blt h m&&hs.getD h false&&((Qn o).contains h||(Qn o).any λj=>Nat.blt j m&&(rq.getD j []).contains h))&&QdF.rqB m hs rq (i+1) r
def QhK(l:List Oper)(h:Nat):List Nat:=match l[h]? with
 |some o=>Qem l h (Qn o)
 |none=>[]
theorem Qjf{l:List Oper}{h j:Nat}(q:j∈QhK l h):Qci l h j:=by
 unfold QhK at q;cases a:l[h]? with
 |none=>rw[a]at q;cases q
 |some o=>rw[a]at q;exact Qb1 h (Qn o) (λi d=>.one a d) j q
def QdF.plB(l:List Oper)(m:Nat)(hs:List Bool)(rq ms:List (List Nat))(pl:List (List (Nat×Nat))):Bool:=
 (List.range m).all λi=>(List.range ms.length).all λst=>((ms.getD st []).any λh=>(QhK l h).contains i)|| !(rq.getD i []).all ((ms.getD st []).contains ·)||(hs.getD i false&&(ms.getD st []).contains i)||
  (pl.getD i []).any λp=>Nat.beq p.1 st&&Nat.blt p.2 ms.length&&(bif hs.getD i false then same (ms.getD p.2 []) (i::ms.getD st [])else Nat.beq p.2 st)
def QdF(l:List Oper)(m N:Nat)(ds:List Nat)(hs:List Bool)(rq ms:List (List Nat))(pl:List (List (Nat×Nat))):Bool:=
 Nat.ble m l.length&&(ds.length==m)&&QdF.dstB N 0 l ds&&drawChk.nodupB ds&&drawChk.goB l m 0 l&&QdF.rqB m hs rq 0 l&&(ms.getD 0 []).isEmpty&&Nat.blt 0 ms.length
 &&((List.range ms.length).all λst=>Nat.beq (st+1) ms.length||(List.range m).any λi=>hs.getD i false&& !(ms.getD st []).contains i)&&QdF.plB l m hs rq ms pl&&(List.range ms.length).all λst=>(ms.getD st []).all λh=>Nat.blt h m&&hs.getD h false
theorem QfG{N:Nat}:∀(l:List Oper) (a:List Nat) (b:Nat),QdF.dstB N b l a=true->∀(i d:Nat) (o:Oper),l[i]?=some o->a[i]?=some d->
  (o.dst=some d/\d<N)\/o.dst=none:=by
 intro l
 induction l with
 |nil=>intro a b h i d o f;simp at f
 |cons x r k=>
  intro a b h i d o f g;cases a with
  |nil=>simp at g
  |cons y a=>
   simp only[QdF.dstB,XW]at h;cases i with
   |zero=>
    simp at f g;subst f;subst g;have h:=h.1;split at h
    .rename_i m j;simp only[XW]at h;have e:=XQ h.1;subst e;exact .inl ⟨j,by simpa using h.2⟩
    .rename_i j;exact .inr j
   |succ i=>
    have:=k a (b+1) h.2 i d o (by simpa using f) (by simpa using g);exact this
theorem Qkv{m:Nat}{e:List Bool}{d:List (List Nat)}:∀(l:List Oper) (b:Nat),QdF.rqB m e d b l=true->∀(i:Nat) (o:Oper),l[i]?=some o->
  ∀h∈d.getD (b+i) [],h<m/\e.getD h false=true/\(h∈Qn o\/ ∃j∈Qn o,j<m/\h∈d.getD j []):=by
 intro l
 induction l with
 |nil=>intro b h i o a;simp at a
 |cons x r s=>
  intro b h i o a;simp only[QdF.rqB,XW]at h;cases i with
  |zero=>
   simp at a;subst a;intro k w;have:=Xs.1 h.1 k (by simpa using w);simp only[XW,Bool.or_eq_true,List.contains_iff_mem,Xt]at this;obtain⟨⟨t,g⟩,n⟩:=this;refine⟨by simpa using t,g,?_⟩;rcases n with q|⟨j,f,u,p⟩
   .exact .inl q
   .exact .inr ⟨j,f,by simpa using u,p⟩
  |succ i=>
   have:=s (b+1) h.2 i o (by simpa using a);rw[show b+1+i=b+(i+1)by omega]at this;exact this
theorem Qlr{l:List Oper}{m N:Nat}{t:List Nat}{y:List Bool}{F s:List (List Nat)}{J:List (List (Nat×Nat))}(h:QdF l m N t y F s J=true):
  QlX l m t y F s J N/\0<s.length:=by
 unfold QdF at h;simp only[XW]at h;obtain⟨⟨⟨⟨⟨⟨⟨⟨⟨⟨W,P⟩,h3⟩,M⟩,h5⟩,V⟩,X⟩,Q⟩,R⟩,G⟩,H⟩:=h;have B:m<=l.length:=XR W;have E:t.length=m:=by simpa using P
 have g:=QgV l 0 h5;refine⟨⟨B,λi o u d=>?_,E,Qdw M,λi o d=>by have:=(g i o d).1;simpa using this,λo d j hj=>Qb1 m (Qn o) (λi u=>.one d u) j ((g m o d).2.1 (by omega) j hj),
  λi o u d=>by have:=(g i o d).2.2 (by omega);simpa using this,λi o u d h k=>by have:=Qkv l 0 V i o d h (by simpa using k);exact this,
  by simpa using X,λn a=>?_,λn h k=>?_,λi n u a Y L T=>?_⟩,by simpa using Q⟩
 .have w:t[i]?=some t[i]:=XK (by omega);rcases QfG l t 0 h3 i _ o d w with⟨r,x⟩|r
  .exact .inl ⟨_,r,w,x⟩
  .exact .inr r
 .have:=Xs.1 R n (List.mem_range.2 a);simp only[Bool.or_eq_true,Xt,XW,Bool.not_eq_true']at this;rcases this with q|⟨i,r,x,f⟩
  .exact .inl (XQ q)
  .exact .inr ⟨i,List.mem_range.1 r,x,λz=>by rw[List.contains_iff_mem.2 z]at f;cases f⟩
 .have a:n<s.length:=by
   rcases VB n s.length with q|q
   .exact q
   .rw[VK,XO q]at k;cases k
  have:=Xs.1 (Xs.1 H n (List.mem_range.2 a)) h k;simp only[XW]at this;exact⟨by simpa using this.1,this.2⟩
 .have:=Xs.1 (Xs.1 G i (List.mem_range.2 u)) n (List.mem_range.2 a);simp only[Bool.or_eq_true,Bool.not_eq_true']at this;rcases this with((q|q)|q)|q
  .exfalso;obtain⟨h,k,q⟩:=Xt.1 q;exact T h k (Qjf (List.contains_iff_mem.1 q))
  .exfalso;have:((F.getD i []).all ((s.getD n []).contains ·))=true:=Xs.2 λh k=>List.contains_iff_mem.2 (Y h k);rw[this]at q;cases q
  .simp only[XW]at q;exact absurd (List.contains_iff_mem.1 q.2) (L q.1)
  .obtain⟨p,O,q⟩:=Xt.1 q;simp only[XW]at q;obtain⟨⟨r,x⟩,f⟩:=q;have e:=XQ r;refine⟨p.2,by rw[<- e];exact O,by simpa using x,?_⟩;cases z:y.getD i false with
   |true=>
    rw[z]at f;simp only[Vo]at f;simp only[if_true];intro j;rw[Ql6 f j,X6]
   |false=>
    rw[z]at f;simp only[Vp]at f;simp only[Xi,if_false];exact XQ f
inductive Qgr (P:Program) (N:Nat) (l:List Oper) (ds:List Nat) (xs:List A) (env0:Env) (hB hE:Nat):Nat->List (List (Qd×Qd))->Prop
 |nil {i:Nat}:Qgr P N l ds xs env0 hB hE i []
 |cons {i:Nat} {s:List (Qd×Qd)} {r:List (List (Qd×Qd))} (h:∀p∈s,Jm P N l ds xs env0 hB hE i p.1 p.2) (k:Qgr P N l ds xs env0 hB hE (i+1) r):Qgr P N l ds xs env0 hB hE i (s::r)
theorem Qgr.get{P:Program}{N:Nat}{l:List Oper}{d:List Nat}{xs:List A}{env0:Env}{hB hE b:Nat}{e:List (List (Qd×Qd))}(h:Qgr P N l d xs env0 hB hE b e):
  ∀(i:Nat) (s:List (Qd×Qd)),e[i]?=some s->∀p∈s,Jm P N l d xs env0 hB hE (b+i) p.1 p.2:=by
 induction h with
 |nil=>intro i s h;simp at h
 | @cons b s0 r h _ ih=>
  intro i s a;cases i with
  |zero=>simp at a;subst a;exact h
  |succ i=>
   have:=ih i s (by simpa using a);rw[show b+1+i=b+(i+1)by omega]at this;exact this
theorem Qc{P:Program}{N:Nat}{l:List Oper}{d:List Nat}{xs:List A}{env0:Env}{hB hE i:Nat}:∀p∈([]:List (Qd×Qd)),Jm P N l d xs env0 hB hE i p.1 p.2:=by
 intro p a;cases a
theorem Qb{P:Program}{N:Nat}{l:List Oper}{a:List Nat}{xs:List A}{env0:Env}{hB hE i:Nat}{H H':Qd}{r:List (Qd×Qd)}(h:Jm P N l a xs env0 hB hE i H H')
  (k:∀p∈r,Jm P N l a xs env0 hB hE i p.1 p.2):∀p∈(H,H')::r,Jm P N l a xs env0 hB hE i p.1 p.2:=by
 intro p d;rcases X6.1 d with rfl|q
 .exact h
 .exact k p q
theorem QfW{P:Program}{h0 N:Nat}{id:Nat}{l:List Oper}{env:Env}{H:Qd}{fr ro:Nat->Prop}{σ:Sig}{a:Act}{w:World}{rd:Option Nat}{R:Exit->Act->World->Prop}(m c:Nat)(ds:List Nat)(hs:List Bool)(rq Y:List (List Nat))(O:List (List (Nat×Nat)))(xs:List A)(Hs:List Qd)(Hk:Qd)
  (hm:P.follows .mixedOrders=true)(hc:QdF l m N ds hs rq Y O=true)(aa:Nat.beq xs.length m=true)(T:Nat.beq Hs.length Y.length=true)(W:Nat.ble h0 H.length=true)
  (hh:Hs.all (λX=>Nat.ble (H.length+c) X.length)=true)(ae:Hs[0]?=some (H++List.replicate c .dead))(af:Hs.getD (Y.length-1) []=Hk)
  (V:Qgr P N l ds xs env H.length (H.length+c) 0 (O.map λq=>q.map λp=>(Hs.getD p.1 [],Hs.getD p.2 [])))(ad:Nat.beq O.length m=true)
  (r:Rel fr ro σ H env N a w)(ac:QdP rd fr w)
  (hk:∀ro' σ' a' w',Rel fr ro' σ' Hk (Qat ds xs env) N a' w'->Qm fr ro w ro' w'->σ'.take h0=σ.take h0->a'.defers=a.defers->wpL P rd l.toArray R (l.drop m) a' w'):(Code.region id l.toArray true).wpIn (WF rd) 0 P R a w:=by
 obtain⟨ok,M⟩:=Qlr hc;have E:=XQ aa;have L:=XQ T;have ag:=XQ ad;have G:Qm fr ro w ro {w with drawn:=w.drawn+1}:=⟨λ_ q=>q,λ_ _=>rfl,λ_ _=>rfl,XT _,λ_ _ q=>q,rfl,rfl,rfl,Nat.le_succ _⟩;have u:Ext ro σ w ro (σ++List.replicate c none) {w with drawn:=w.drawn+1}:=G.ext σ _;have ab:=r.sim.len;have B:Hs.getD 0 []=H++List.replicate c .dead:=QmZ ae;have n:∀(i:Nat) (s:Option Nat) (x:Blk),(σ++List.replicate c none)[i]?=some s->(H++List.replicate c Blk.dead)[i]?=some x->(σ[i]?=some s/\H[i]?=some x)\/(s=none/\x=.dead):=by
  intro i s x k h;rcases VB i σ.length with q|q
  .rw[XM q]at k;rw[XM (by omega)]at h;exact .inl ⟨k,h⟩
  .rw[XN q]at k;rw[XN (by omega)]at h;have a1:=VG k;have a2:=VG h;exact .inr ⟨(List.mem_replicate.1 a1).2,(List.mem_replicate.1 a2).2⟩
 have J:Sim fr ro (σ++List.replicate c none) (H++List.replicate c .dead) {w with drawn:=w.drawn+1}:=by
  refine⟨by simp[ab],r.sim.roOk.to (λ_ q=>q) (λ_ _=>rfl) r.sim.roLt,r.sim.frLt,r.sim.roFr,?_,?_,?_,
   r.sim.hidTo (· = ·) Yb (XT _) (λ_ _ _ _ _ _ _ q=>q) (λ_ _ _ _ _ _ _ q=>q) λj d y g1 g2 g3=>.inl ?_⟩
  rotate_left 3
  .rcases n j _ _ g1 g2 with⟨g,t⟩|⟨g,_⟩
   .exact⟨j,y,rfl,g,t,(λz=>z),λc q=>q⟩
   .cases g
  .intro i b blk k h Q;rcases n i _ _ k h with⟨g,t⟩|⟨g,_⟩
   .exact r.sim.own i b blk g t Q
   .cases g
  .intro i j b x y k h Q h4 h5 h6;rcases n i _ _ k Q with⟨g,t⟩|⟨g,_⟩
   .rcases n j _ _ h h4 with⟨q3,q4⟩|⟨q3,_⟩
    .exact r.sim.inj i j b x y g q3 t q4 h5 h6
    .cases q3
   .cases g
  .intro i s x k h;rcases n i _ _ k h with⟨g,t⟩|⟨g,t⟩
   .exact BR.keep u (λb hb _=>rfl) (r.sim.blk i s x g t) (λ_ _ _ _=>rfl)
   .subst t;exact trivial
 have f:∀i,¬onL (Array.replicate l.length false) i:=by
  intro i q;unfold onL at q;rw[Array.getElem?_replicate]at q;split at q<;>simp at q
 have F:=XR W;refine wpIn_region_any hm ?_;rw[List.size_toArray];refine Qhp ok E L F (Nat.le_add_right _ _) (λX hX=>XR (Xs.1 hh X hX)) ?_ af (ro0:=ro) (σ0:=σ) (w0:=w) (ds0:=a.defers) hk r.defers ac
  l.length _ a _ ro (σ++List.replicate c none) 0 (by simp) ?_ (λi _=>f i) M (by rw[B];exact J) r.size rfl (λi d x q=>absurd q (f i)) (λs _=>(r.env s).mono u) G (QS (by omega)) ?_
  (λi _ q=>absurd q (f i)) (λi _ _=>⟨λq=>absurd q (f i),λq=>by rw[ok.ms0]at q;cases q⟩) (λi o q=>absurd q (f i))
 .intro i p hi hp;have e:(O.map λq=>q.map λp=>(Hs.getD p.1 [],Hs.getD p.2 []))[i]?=some ((O.getD i []).map λp=>(Hs.getD p.1 [],Hs.getD p.2 [])):=by
   rw[Xo,XK (by omega),VK,XK (by omega)];rfl
  have:=V.get i _ e _ (Xe.2 ⟨p,hp,rfl⟩);simpa using this
 .unfold unl;simp[List.countP_replicate]
 .intro p k h Q;rw[XN (by omega),List.getElem?_replicate,Vs (by omega)]
theorem QY{P:Program}{h0 N:Nat}{id:Nat}{l:List Oper}{env:Env}{H:Qd}{Q:QG}(m c:Nat)(h:List Nat)(x:List Bool)(y g:List (List Nat))(f:List (List (Nat×Nat)))(xs:List A)(Hs:List Qd)(Hk:Qd)
  (z:P.follows .mixedOrders=true)(J:QdF l m N h x y g f=true)(j:Nat.beq xs.length m=true)(i:Nat.beq Hs.length g.length=true)(s:Nat.ble h0 H.length=true)
  (B:Hs.all (λX=>Nat.ble (H.length+c) X.length)=true)(t:Hs[0]?=some (H++List.replicate c .dead))(u:Hs.getD (g.length-1) []=Hk)
  (k:Qgr P N l h xs env H.length (H.length+c) 0 (f.map λq=>q.map λp=>(Hs.getD p.1 [],Hs.getD p.2 [])))(n:Nat.beq f.length m=true)
  (F:WO P h0 N l.toArray (l.drop m) (Qat h xs env) Hk Q):TC P h0 N (.region id l.toArray true) env H Q:=by
 intro E G L σ a w r hrd;refine Code.wpIn_mono (λe a w q=>Qby.postW q) (QfW m c h x y g f xs Hs Hk z J j i s B t u k n r hrd λro' σ' a' w' hr hev htk hdf=>?_);have d:=F E G ro' σ' a' w' hr (hrd.to hev λ_ q=>q);rw[hdf]at d;exact Yo (λe a w q=>q.step hev htk) _ _ _ d
def draw0(l:List Oper)(m N:Nat)(ds:List Nat):Bool:=Nat.ble m l.length&&(ds.length==m)&&QdF.dstB N 0 l ds&&drawChk.nodupB ds&&drawChk.goB l m 0 l
inductive Oq (P:Program) (N:Nat) (l:List Oper) (ds:List Nat) (xs:List A) (env0:Env) (H:Qd):Nat->Nat->Prop
 |n {i:Nat}:Oq P N l ds xs env0 H i 0
 |c {i c:Nat} (h:Jm P N l ds xs env0 H.length H.length i H H) (k:Oq P N l ds xs env0 H (i+1) c):Oq P N l ds xs env0 H i (c+1)
theorem Oq.get{P:Program}{N:Nat}{l:List Oper}{a:List Nat}{xs:List A}{env0:Env}{H:Qd}{b c:Nat}(h:Oq P N l a xs env0 H b c):∀i,i<c->Jm P N l a xs env0 H.length H.length (b+i) H H:=by
 induction h with
 |n=>intro i d;omega
 | @c b c h _ ih=>
  intro i d;cases i with
  |zero=>exact h
  |succ i=>
   have:=ih i (by omega);rw[show b+1+i=b+(i+1)by omega]at this;exact this
theorem Qls{l:List Oper}{m N:Nat}{f:List Nat}(h:draw0 l m N f=true):QlX l m f [] [] [[]] (List.replicate m [(0,0)]) N:=by
 unfold draw0 at h;simp only[XW]at h;obtain⟨⟨⟨⟨w,z⟩,u⟩,x⟩,B⟩:=h;have p:m<=l.length:=XR w;have r:f.length=m:=by simpa using z
 have g:=QgV l 0 B;refine⟨p,λi o e d=>?_,r,Qdw x,λi o d=>by have:=(g i o d).1;simpa using this,λo d j y=>Qb1 m (Qn o) (λi e=>.one d e) j ((g m o d).2.1 (by omega) j y),
  λi o e d=>by have:=(g i o d).2.2 (by omega);simpa using this,λi o e d h q=>by simp at q,rfl,λn a=>.inl (by simp at a;simp[a]),λn h q=>by cases n<;>simp at q,λi n e a _ _ _=>?_⟩
 .have k:f[i]?=some f[i]:=XK (by omega);rcases QfG l f 0 u i _ o d k with⟨s,t⟩|s
  .exact .inl ⟨_,s,k,t⟩
  .exact .inr s
 .have:n=0:=by simp at a;exact a
  subst this;refine⟨0,?_,by simp,by simp⟩;rw[VK,List.getElem?_replicate,Vs e];exact VA.2 rfl
theorem QfX{P:Program}{h0 N:Nat}{id:Nat}{l:List Oper}{env:Env}{H:Qd}{fr ro:Nat->Prop}{σ:Sig}{a:Act}{w:World}{rd:Option Nat}{R:Exit->Act->World->Prop}(m:Nat)(u:List Nat)(xs:List A)
  (E:P.follows .mixedOrders=true)(G:Go.Sw.draw0 l m N u=true)(n:Nat.beq xs.length m=true)(k:Nat.ble h0 H.length=true)
  (t:Oq P N l u xs env H 0 m)(r:Rel fr ro σ H env N a w)(y:QdP rd fr w)
  (F:∀ro' σ' a' w',Rel fr ro' σ' H (Qat u xs env) N a' w'->Qm fr ro w ro' w'->σ'.take h0=σ.take h0->a'.defers=a.defers->wpL P rd l.toArray R (l.drop m) a' w'):(Code.region id l.toArray true).wpIn (WF rd) 0 P R a w:=by
 have ok:=Qls G;have g:=XQ n;have j:Qm fr ro w ro {w with drawn:=w.drawn+1}:=⟨λ_ q=>q,λ_ _=>rfl,λ_ _=>rfl,XT _,λ_ _ q=>q,rfl,rfl,rfl,Nat.le_succ _⟩;have f:Ext ro σ w ro σ {w with drawn:=w.drawn+1}:=j.ext0 σ;have h:Sim fr ro σ H {w with drawn:=w.drawn+1}:=r.sim.heap rfl;have e:∀i,¬onL (Array.replicate l.length false) i:=by
  intro i q;unfold onL at q;rw[Array.getElem?_replicate]at q;split at q<;>simp at q
 refine wpIn_region_any E ?_;rw[List.size_toArray];refine Qhp (hB:=H.length) (hE:=H.length) (Hs:=[H]) (Hk:=H) ok g rfl (XR k) (XT _) (λX hX=>by rw[VA.1 hX];exact XT _) ?_ rfl (ro0:=ro) (σ0:=σ) (w0:=w) (ds0:=a.defers) F r.defers y
  l.length _ a _ ro σ 0 (by simp) ?_ (λi _=>e i) (by simp) h r.size rfl (λi d x q=>absurd q (e i)) (λs _=>(r.env s).mono f) j rfl (λp J L=>by omega)
  (λi _ q=>absurd q (e i)) (λi _ _=>⟨λq=>absurd q (e i),λq=>by cases q⟩) (λi o q=>absurd q (e i))
 .intro i p z B;rw[VK,List.getElem?_replicate,Vs z]at B;obtain rfl:=VA.1 B;have:=t.get i z;rw[Xw]at this;exact this
 .unfold unl;simp[List.countP_replicate]
theorem TC.draw0{P:Program}{h0 N:Nat}{id:Nat}{l:List Oper}{env:Env}{H:Qd}{Q:QG}(m:Nat)(f:List Nat)(xs:List A)
  (j:P.follows .mixedOrders=true)(k:Go.Sw.draw0 l m N f=true)(h:Nat.beq xs.length m=true)(g:Nat.ble h0 H.length=true)
  (i:Oq P N l f xs env H 0 m)(s:WO P h0 N l.toArray (l.drop m) (Qat f xs env) H Q):TC P h0 N (.region id l.toArray true) env H Q:=by
 intro p n t σ a w r hrd;refine Code.wpIn_mono (λe a w q=>Qby.postW q) (QfX m f xs j k h g i r hrd λro' σ' a' w' hr hev htk hdf=>?_);have d:=s p n ro' σ' a' w' hr (hrd.to hev λ_ q=>q);rw[hdf]at d;exact Yo (λe a w q=>q.step hev htk) _ _ _ d
section
variable {P:Program} {N:Nat} {l:List Oper} {ds af bf:List Nat} {xs:List A} {env0 e r:Env} {H H':Qd} {i hB hE:Nat} {o:Oper} {d s:Nat} {x a:A}
theorem sN:Sb af bf ds xs env0 []:=.nil
theorem sD(j:Nat)(k:Sb af bf ds xs env0 r)(d:af.contains j=true:=by exact rfl)(h2:ds[j]?=some s:=by exact rfl)(h3:xs[j]?=some a:=by exact rfl):Sb af bf ds xs env0 ((s,a)::r):=.dep j d h2 h3 k
theorem sO(s:Nat)(k:Sb af bf ds xs env0 r)(d:ds.contains s=false:=by exact rfl)(h2:lk env0 s=a:=by exact rfl):Sb af bf ds xs env0 ((s,a)::r):=.old d h2 k
theorem QdG(H:Qd):Qas hB hE H H=true:=by
 unfold Qas;refine Xs.2 λp _=>?_;cases Qbl H[hB+p]? <;>rfl
theorem Om(f:l[i]?=some o)(g:Sb (Qn o) (Qgi l i) ds xs env0 e)(h:WO P H.length N l.toArray [o] e H (YT (up e d x) H))(a:o.dst=some d:=by exact rfl)(hx:xs[i]?=some x:=by exact rfl):Jm P N l ds xs env0 hB hE i H H:=
 .mk o e d x f a hx (QdG H) g h
theorem Om1(f:l[i]?=some o)(g:Sb (Qn o) (Qgi l i) ds xs env0 e)(h:WO P H.length N l.toArray [o] e H (YT (up e d x) H'))(a:o.dst=some d:=by exact rfl)(hx:xs[i]?=some x:=by exact rfl)(hdd:Qas hB hE H H'=true:=by exact rfl):Jm P N l ds xs env0 hB hE i H H':=
 .mk o e d x f a hx hdd g h
theorem Om2(d:l[i]?=some o)(f:Sb (Qn o) (Qgi l i) ds xs env0 e)(h:WO P H.length N l.toArray [o] e H (YT e H'))(a:o.dst=none:=by exact rfl)(hx:xs[i]?=some .any:=by exact rfl)(hdd:Qas hB hE H H'=true:=by exact rfl):Jm P N l ds xs env0 hB hE i H H':=
 .unit o e d a hx hdd f h
end
structure TyI where
 fld:List (Nat×Nat×Nat)
 agg:List (Nat×Bool×Nat)
 zer:List (Nat×List A×List (Nat×Nat))
structure TyOK (P:Program) (T:TyI):Prop where
 fld:∀e∈T.fld,∃n,Qai P e.1 e.2.1 e.2.2 n
 agg:∀e∈T.agg,(∀w,(isAgg e.1).run P w=.ok e.2.1 w)/\ ∀w,(sizeOf e.1).run P w=.ok e.2.2 w
 zer:∀e∈T.zer,(∃z,(∀w,(zeroValue e.1).run P w=.ok z w)/\ZR (.agg e.2.1) z)/\Qdn P e.1 e.2.2
def QgZ:List (Nat×Nat×Nat)->Nat->Nat->Option Nat
 |[],_,_=>none
 |(a,b,c)::r,t,f=>bif Nat.beq a t&&Nat.beq b f then some c else QgZ r t f
def QbC{β:Type}:List (Nat×β)->Nat->Option β
 |[],_=>none
 |(a,b)::r,t=>bif Nat.beq a t then some b else QbC r t
theorem QgY{l:List (Nat×Nat×Nat)}{t f c:Nat}(h:QgZ l t f=some c):(t,f,c)∈l:=by
 induction l with
 |nil=>cases h
 |cons x r e=>
  obtain⟨a,b,d⟩:=x;unfold QgZ at h;cases q:(Nat.beq a t&&Nat.beq b f)with
  |true=>
   simp_all
  |false=>grind
theorem Qaw{β:Type}{l:List (Nat×β)}{t:Nat}{c:β}(h:QbC l t=some c):(t,c)∈l:=by
 induction l with
 |nil=>cases h
 |cons x r d=>
  obtain⟨a,b⟩:=x;unfold QbC at h;cases q:Nat.beq a t with
  |true=>
   simp_all
  |false=>grind
def Qgg(H:Qd):A->Option (List A)
 |.rp cs=>some cs
 |.ptr i off=>match H[i]? with
  |some (.cells _ cs)=>some (cs.drop off)
  |_=>none
 |_=>none
theorem Qh7{H:Qd}{p:A}{a:List A}(h:Qgg H p=some a):Pts H p a:=by
 unfold Qgg at h;split at h
 .cases h;exact Pts.rp
 .split at h
  .rename_i d;cases h;exact Pts.cells d rfl
  .cases h
 .cases h
def Qkp(T:TyI)(o:Oper)(env:Env)(H:Qd):Option A:=
 match o.op with
 |.move x=>some (opA env x)
 |.assign x=>some (opA env x)
 |.fieldAddr t x f=>match QgZ T.fld t f with
  |none=>none
  |some off=>match opA env x with
   |.ptr i p=>some (.ptr i (p+off))
   |.rp cs=>some (.rp (cs.drop off))
   |_=>none
 |.load t x=>match QbC T.agg t with
  |none=>none
  |some (b,n)=>match x with
   |.global g=>match QhR[g]? with
    |some zs=>bif b&&Nat.beq zs.length n then some (.agg (zs.map (A.int .i64)))else none
    |none=>none
   |x=>match Qgg H (opA env x)with
    |none=>none
    |some cs=>bif b then(bif Nat.beq (cs.take n).length n then some (.agg (cs.take n))else none)else cs.head?
 |.build t parts=>match QbC T.zer t with
  |none=>none
  |some (zs,pl)=>match Qey env pl zs parts.toList with
   |some cs=>some (.agg cs)
   |none=>none
 |.extract x i=>match opA env x with
  |.tup vs=>vs[i]?
  |_=>none
 |.makeFunc f first cap=>some (.fn f (first.toList.map (opA env)) (cap.toList.map (opA env)))
 |_=>none
theorem Qko{P:Program}{T:TyI}(j:TyOK P T){o:Oper}{env:Env}{H:Qd}{x:A}(h:Qkp T o env H=some x):OpV P o env H x:=by
 unfold Qkp at h;split at h
 .simp_all[OpV.move]
 .simp_all[OpV.assign]
 .rename_i t y f a;split at h
  .cases h
  .rename_i u i;obtain⟨n,m⟩:=j.fld _ (QgY i);split at h
   .grind[Qe3]
   .rename_i e s;cases h;exact Qe2 m a s rfl
   .cases h
 .rename_i t y a;split at h
  .cases h
  .rename_i b n B;obtain⟨d,g⟩:=j.agg _ (Qaw B);split at h
   .split at h
    .rename_i l p;cases q:(b&&Nat.beq l.length n)with
     |false=>grind
     |true=>
      rw[q]at h;cases h;simp[XW]at q;obtain⟨rfl,J⟩:=q;exact QfM d g p (by simp_all) a
    .cases h
   .split at h
    .cases h
    .rename_i e F;have k:=Qh7 F;cases b with
     |true=>
      cases q:Nat.beq (e.take n).length n with
      |false=>grind
      |true=>
       rw[q]at h;cases h;exact Qbf a d g rfl k rfl (by simp_all)
     |false=>
      cases e with
      |nil=>cases h
      |cons v e=>cases h;exact OpV.load a d rfl k
 .rename_i t parts a;split at h
  .cases h
  .rename_i l G w;obtain⟨⟨z,d,g⟩,r⟩:=j.zer _ (Qaw w);split at h
   .rename_i e i;cases h;exact OpV.build d g r (by rw[a]) i
   .cases h
 .grind[OpV.extract]
 .rename_i f first E a
  cases h;exact OpV.makeFunc (by rw[a]) rfl rfl
 .cases h
def Qhl(af:List Nat):Nat->List Nat->List A->Env->Env
 |j,d::ds,x::xs,e=>(d,bif af.contains j then x else .any)::Qhl af (j+1) ds xs e
 |_,_,_,e=>e
theorem QmG{af:List Nat}{env0:Env}(s:Nat):∀(a:List Nat) (xs:List A) (b:Nat),a.length=xs.length->
  (∃(j:Nat) (x:A),a[j]?=some s/\xs[j]?=some x/\lk (Qhl af b a xs env0) s=bif af.contains (b+j)then x else .any)\/(a.contains s=false/\lk (Qhl af b a xs env0) s=lk env0 s):=by
 intro a
 induction a with
 |nil=>simp_all[Qhl]
 |cons d a g=>
  intro xs b h;cases xs with
  |nil=>cases h
  |cons x xs=>
   cases q:Nat.beq s d with
   |true=>
    have e:=XQ q;subst e;left;refine⟨0,x,rfl,rfl,?_⟩
    simp_all[Qhl,lk]
   |false=>
    have f:s≠d:=λz=>by simp_all
    simp only[Qhl,lk,q];rcases g xs (b+1) (by grind)with⟨j,y,i,k,l⟩|⟨i,k⟩
    .left;refine⟨j+1,y,by grind,by grind,?_⟩
     grind
    grind
def Qiv(T:TyI)(N:Nat)(l:List Oper)(ds:List Nat)(xs:List A)(env0:Env)(H:Qd)(i:Nat):Option A:=
 match l[i]? with
 |none=>none
 |some o=>match o.guard,o.dst with
  |none,some d=>bif Nat.blt d N&&Nat.beq ds.length xs.length then Qkp T o (Qhl (Qn o) 0 ds xs env0) H else none
  |_,_=>none
theorem QmF{af a:List Nat}{xs:List A}{env0:Env}(d:a.length=xs.length):QlU af a xs env0 (Qhl af 0 a xs env0):=by
 intro s;rcases QmG (af:=af) (env0:=env0) s a xs 0 d with⟨j,x,g,e,f⟩|h
 .grind
 grind
theorem vQ{P:Program}{T:TyI}(e:TyOK P T){N:Nat}{l:List Oper}{a:List Nat}{xs:List A}{env0:Env}{hB hE i:Nat}{H:Qd}{x:A}(k:xs[i]?=some x)(h:Qiv T N l a xs env0 H i=some x):Jm P N l a xs env0 hB hE i H H:=by
 unfold Qiv at h;split at h
 .cases h
 .rename_i o g;split at h
  .rename_i d j f;cases q:(Nat.blt d N&&Nat.beq a.length xs.length)with
   |false=>grind
   |true=>
    rw[q]at h;simp only[XW]at q;exact .val o _ d x g f j k q.1 (QmF (by simp_all)) (Qko e h)
  .cases h
abbrev I(n:Int):A:=.int .i64 n
theorem zc{a:A}{v:Value}{al:List A}{vl:List Value}(h:ZR a v)(k:ZL al vl):ZL (a::al) (v::vl):=ZL.cons h k
def zr1:A->Value->Bool
 |.int k n,.int k' n'=>decide (k=k')&&decide (n=n')
 |.bool b,.bool b'=>b==b'
 |.str s,.string s'=>s.isEmpty&&s'.data.toList.isEmpty
 |.rsl _ es,.slice none 0 0=>es.isEmpty
 |.nils,.slice none 0 0=>true
 |.nilp,.pointer none=>true
 |.nilf,.nilFunc=>true
 |.nilm,.map none=>true
 |.nilif,.nilIface=>true
 |_,_=>false
def zrL:List A->List Value->Bool
 |[],[]=>true
 |a::r,v::s=>zr1 a v&&zrL r s
 |_,_=>false
def zrB:A->Value->Bool
 |.agg r,.agg s=>zrL r s.toList
 |a,v=>zr1 a v
theorem Qkf{a:A}{v:Value}(h:zr1 a v=true):ZR a v:=by
 unfold zr1 at h;split at h
 .simp_all[ZR.int]
 .simp_all[ZR.bool]
 .rename_i s f;simp[XW]at h;obtain⟨d⟩:=f
  simp_all[ZR.str]
 .rename_i k g;have h:=List.isEmpty_iff.1 h;subst h;exact ZR.rsl (e:=λx=>[x])
 .exact ZR.nils
 .exact ZR.nilp
 .exact ZR.nilf
 .exact ZR.nilm
 .exact QmM
 .cases h
theorem Qke:∀{r:List A} {s:List Value},zrL r s=true->ZL r s
 |[],[],_=>ZL.nil
 |a::r,v::s,h=>by
  simp[zrL,XW]at h;exact ZL.cons (Qkf h.1) (Qke h.2)
 |[],_::_,h=>by cases h
 |_::_,[],h=>by cases h
theorem zrC{a:A}{v:Value}(h:zrB a v=true):ZR a v:=by
 unfold zrB at h;split at h
 .have:=ZR.agg (Qke h);omega
 .exact Qkf h
section
variable {P:Program} {o:Oper} {env:Env} {H:Qd}
end
structure TyX where
 ty:TyI
 al:List (Nat×A)
 sl:List Nat
structure QbV (P:Program) (T:TyX):Prop where
 ty:TyOK P T.ty
 al:∀e∈T.al,(∃z,(∀w,(zeroValue e.1).run P w=.ok z w)/\ZR e.2 z)/\Yn e.2=true/\(Yd e.2).all Yr=true
 sl:∀t∈T.sl,∃et,∀w,(underlying t).run P w=.ok (.slice et) w
def YQ(all:Array Oper)(o:Oper)(env:Env):Option Bool:=
 match o.guard with
 |none=>some true
 |some (j,c)=>match(all[j]?).bind (·.dst)with
  |none=>none
  |some d=>match lk env d with
   |.bool true=>some c
   |.bool false=>some (!c)
   |.tup []=>some false
   |_=>none
theorem QM{all:Array Oper}{o:Oper}{env:Env}{b:Bool}(h:YQ all o env=some b):QI all o env b:=by
 unfold YQ at h;unfold QI;split at h
 .grind
 .rename_i j c q;rw[q];split at h
  .cases h
  .rename_i d a;refine⟨d,a,?_⟩;split at h
   .simp_all
   .simp_all
   .grind
   .cases h
def Qdf:List Nat->Nat->Bool
 |[],_=>false
 |a::r,t=>bif Nat.beq a t then true else Qdf r t
theorem Qf0{l:List Nat}{t:Nat}(h:Qdf l t=true):t∈l:=by
 induction l with
 |nil=>cases h
 |cons a r d=>
  grind[Qdf,Nat.eq_of_beq_eq_true]
inductive FL where
 |mk (l:List A)
def fl:List A->FL
 |[]=>.mk []
 |a::r=>match fl r with
  |.mk r'=>.mk (a::r')
theorem Qce:∀l:List A,fl l=.mk l
 |[]=>rfl
 |a::r=>by unfold fl;rw[Qce r]
inductive FB where
 |mk (l:List Blk)
def fb:List Blk->FB
 |[]=>.mk []
 |a::r=>match fb r with
  |.mk r'=>.mk (a::r')
theorem QiH:∀l:List Blk,fb l=.mk l
 |[]=>rfl
 |a::r=>by unfold fb;rw[QiH r]
inductive FN where
 |mk (n:Nat)
def fn:List Blk->Nat->FN
 |[],n=>.mk n
 |_::r,n=>fn r (n+1)
theorem QkU:∀(l:List Blk) (n:Nat),fn l n=.mk (l.length+n)
 |[],n=>by simp[fn]
 |a::r,n=>by unfold fn;rw[QkU r];simp;omega
def QiF(env:Env)(pl:List (Nat×Nat)):List A->List (Nat×Operand)->Option (List A)
 |cs,[]=>some cs
 |cs,(i,x)::r=>match YN pl i with
  |none=>none
  |some (off,size)=>match opB env x with
   |.mk a=>match fl (Yd a)with
    |.mk vs=>bif Yn a&&Nat.beq vs.length size&&Nat.ble (off+size) cs.length then(match fl (splice cs off vs)with
     |.mk cs'=>QiF env pl cs' r)else none
theorem Qg2{env:Env}{pl:List (Nat×Nat)}:∀(parts:List (Nat×Operand)) (cs:List A),QiF env pl cs parts=Qey env pl cs parts
 |[],cs=>rfl
 |(i,x)::r,cs=>by
  unfold QiF Qey;rw[QaC];cases pl[i]? with
  |none=>rfl
  |some q=>
   obtain⟨off,size⟩:=q;cases h:opB env x with
   |mk a=>
    rw[QT h];simp only[Qce];cases(Yn a&&Nat.beq (Yd a).length size&&Nat.ble (off+size) cs.length)with
    |false=>rfl
    |true=>exact Qg2 r _
def QgO(env:Env):List Operand->List A
 |[]=>[]
 |x::r=>match opB env x with
  |.mk a=>a::QgO env r
theorem QcI{env:Env}:∀l:List Operand,QgO env l=l.map (opA env)
 |[]=>rfl
 |x::r=>by
  unfold QgO;cases h:opB env x with
  |mk a=>rw[Vj,QT h];show a::QgO env r=_;rw[QcI r]
def ptX(H:Qd):Bx->Option Lx
 |.mk (.rp cs)=>some (.mk cs)
 |.mk (.ptr i off)=>match YN H i with
  |some (.cells _ cs)=>some (Qhn off cs)
  |_=>none
 |_=>none
theorem Qnm{H:Qd}{p:A}{a:List A}(h:ptX H (.mk p)=some (.mk a)):Pts H p a:=by
 unfold ptX at h
 grind[Pts.rp,QaC,Pts.cells,QeQ]
def Qc7(T:TyX)(o:Oper)(env:Env)(H:Qd):Option A:=
 match o.op with
 |.move x=>match opB env x with|.mk a=>some a
 |.assign x=>match opB env x with|.mk a=>some a
 |.nilCheck x=>nlB (opB env x)
 |.extract x i=>exB (opB env x) i
 |.unOp u _ x=>unB u (opB env x)
 |.pick c x y=>piB (opB env c) (opB env x) (opB env y)
 |.binOp b _ x y _=>biB b (opB env x) (opB env y)
 |.fieldAddr t x f=>match QgZ T.ty.fld t f with
  |none=>none
  |some off=>match opB env x with
   |.mk (.ptr i p)=>some (.ptr i (p+off))
   |.mk (.rp cs)=>match Qhn off cs with
    |.mk r=>some (.rp r)
   |_=>none
 |.load t x=>match QbC T.ty.agg t with
  |none=>none
  |some (b,n)=>match x with
   |.global g=>match YN QhR g with
    |some zs=>bif b&&Nat.beq zs.length n then(match fl (zs.map (A.int .i64))with|.mk l=>some (.agg l))else none
    |none=>none
   |x=>match ptX H (opB env x)with
    |none=>none
    |some (.mk cs)=>match b with
     |true=>(match fl (cs.take n)with|.mk l=>bif Nat.beq l.length n then some (.agg l)else none)
     |false=>(match cs with|[]=>none|a::_=>some a)
 |.build t parts=>match QbC T.ty.zer t with
  |none=>none
  |some (zs,pl)=>match QiF env pl zs parts.toList with
   |some cs=>some (.agg cs)
   |none=>none
 |.makeFunc f first cap=>match fl (QgO env first.toList),fl (QgO env cap.toList)with
  |.mk l,.mk l'=>some (.fn f l l')
 |.call c=>match c with
  |{callee:=.builtin .len,args:=⟨[x]⟩,argTypes:=⟨[t]⟩}=>bif Qdf T.sl t then(match opB env x with
   |.mk (.osl _ 0 n _)=>some (.int .i64 n)
   |_=>none)else none
  |_=>none
 |_=>none
theorem Qav{P:Program}{T:TyX}(m:QbV P T){o:Oper}{env:Env}{H:Qd}{x:A}(h:Qc7 T o env H=some x):OpV P o env H x:=by
 unfold Qc7 at h;split at h
 .simp_all[QbF,svB]
 .simp_all[QbF,svB]
 .simp_all[QbF,svB]
 .simp_all[QbF,svB]
 .simp_all[QbF,svB]
 .simp_all[QbF,svB]
 .simp_all[QbF,svB]
 .rename_i t y f a;split at h
  .cases h
  .rename_i u j;obtain⟨n,O⟩:=m.ty.fld _ (QgY j);split at h
   .grind[Qe3,QT]
   .rename_i d Q;cases q:Qhn u d with
    |mk r=>rw[q]at h;grind[Qe2,QT,QeQ]
   .cases h
 .rename_i t y a;split at h
  .cases h
  .rename_i b n M;obtain⟨s,l⟩:=m.ty.agg _ (Qaw M);split at h
   .rename_i g;split at h
    .rename_i E B;rw[QaC]at B;cases q:(b&&Nat.beq E.length n)with
     |false=>grind
     |true=>
      rw[q,Qce]at h;cases h;simp only[XW]at q;obtain⟨rfl,w⟩:=q;exact QfM s l B (by simp_all) a
    .cases h
   .cases e:opB env y with
    |mk p=>
     rw[e]at h;split at h
     .cases h
     .rename_i d N;have G:=Qnm N;cases b with
      |true=>
       simp only[Qce]at h;cases q:Nat.beq (d.take n).length n with
       |false=>grind
       |true=>
        rw[q]at h;cases h;exact Qbf a s l (QT e) G rfl (by simp_all)
      |false=>
       grind[OpV.load,QT]
 .rename_i t parts a;split at h
  .cases h
  .rename_i E R L;obtain⟨⟨z,s,l⟩,J⟩:=m.ty.zer _ (Qaw L);split at h
   .rename_i d j;cases h;rw[Qg2]at j;exact OpV.build s l J (by rw[a]) j
   .cases h
 .rename_i f first cap a
  simp only[Qce]at h;cases h;rw[QcI,QcI];exact OpV.makeFunc (first:=first.toList) (cap:=cap.toList) (by rw[a]) rfl rfl
 .rename_i c a;split at h
  .rename_i y t;cases q:Qdf T.sl t with
   |false=>grind
   |true=>
    rw[q]at h;simp only[Vo]at h;obtain⟨V,F⟩:=m.sl t (Qf0 q);split at h
    .rename_i i n k w;cases h;exact Qj3 F a rfl (QT w)
    .cases h
  .cases h
 .cases h
def stX(T:TyX)(h0 N:Nat)(all:Array Oper)(o:Oper)(env:Env)(H:Qd):Option (Env×Qd):=
 match YQ all o env with
 |none=>none
 |some false=>match o.dst with
  |none=>none
  |some d=>bif Nat.blt d N then some (up env d (.tup []),H)else none
 |some true=>match o.dst with
  |none=>match o.op with
   |.store t x y=>match opB env x,QbC T.ty.agg t with
    |.mk (.ptr i off),some (_,n)=>match YN H i with
     |some (.cells S cs)=>match opB env y with
      |.mk a=>match fl (Yd a)with
       |.mk vs=>bif Nat.ble h0 H.length&&(Yn a&&(Nat.beq vs.length n&&(vs.all Yr&&Nat.ble (off+n) cs.length)))then(match fl (splice cs off vs)with
        |.mk cs'=>match fb (H.set i (.cells S cs'))with
         |.mk H'=>some (env,H'))else none
     |_=>none
    |_,_=>none
   |_=>none
  |some d=>bif Nat.blt d N then(match o.op with
   |.alloc t=>match QbC T.al t with
    |some v=>bif Nat.ble h0 H.length then(match fn H 0,fl (Yd v)with
     |.mk n,.mk cs=>match fb (H++[.cells t cs])with
      |.mk H'=>some (up env d (.ptr n 0),H'))else none
    |none=>none
   |.box t x=>match opB env x with
    |.mk a=>bif Nat.ble h0 H.length&&(Yn a&&(Yd a).all Yr)then(match fn H 0,fl (Yd a)with
     |.mk n,.mk cs=>match fb (H++[.cells t cs])with
      |.mk H'=>some (up env d (.ptr n 0),H'))else none
   |_=>match Qc7 T o env H with
    |some a=>some (up env d a,H)
    |none=>none)else none
section
variable {P:Program} {T:TyX} {h0 N:Nat} {all:Array Oper} {l l':List Oper} {env env':Env} {H H':Qd} {Q:QG}
theorem Qm7(r:QbV P T){o:Oper}(h:stX T h0 N all o env H=some (env',H'))(k:WO P h0 N all l env' H' Q):WO P h0 N all (o::l) env H Q:=by
 unfold stX at h;split at h
 .cases h
 .grind[QM,WO.skip]
 .rename_i B;have j:=QM B;split at h
  .rename_i g;split at h
   .rename_i t x y f;split at h
    .rename_i i m b n V O;split at h
     .rename_i S cs hH;rw[QaC]at hH;cases e:opB env y with
      |mk a=>
       rw[e]at h;simp only[Qce,QiH]at h;generalize hc:(Nat.ble h0 H.length&&(Yn a&&(Nat.beq (Yd a).length n&&((Yd a).all Yr&&Nat.ble (m+n) cs.length))))=c at h;cases c with
       |false=>cases h
       |true=>
        cases h;simp only[XW]at hc;obtain⟨c1,p,s,L,w⟩:=hc;obtain⟨_,F⟩:=r.ty.agg _ (Qaw O);exact Qlz (by simp_all) j g (OpU.store f (QT V) hH F (QT e) p rfl (by simp_all) L w rfl) k
     .cases h
    .cases h
   .cases h
  .rename_i d g;cases q:Nat.blt d N with
   |false=>grind
   |true=>
    rw[q]at h;simp only[Vo]at h;split at h
    .rename_i t f;split at h
     .rename_i v M;cases c:Nat.ble h0 H.length with
      |false=>grind
      |true=>
       rw[c]at h;simp only[Qce,QiH,QkU,Vo,Xx]at h;cases h;obtain⟨⟨z,G,R⟩,u,E⟩:=r.al _ (Qaw M);exact Qic (by simp_all) j g q (Qag G R f u rfl E) k
     .cases h
    .rename_i t x f;cases e:opB env x with
     |mk a=>
      rw[e]at h;simp only[Qce,QiH,QkU,Xx]at h;generalize hc:(Nat.ble h0 H.length&&(Yn a&&(Yd a).all Yr))=c at h;cases c with
      |false=>cases h
      |true=>
       cases h;simp only[XW]at hc;obtain⟨c1,p,s⟩:=hc;exact Qic (by simp_all) j g q (OpH.box f (QT e) p rfl s) k
    .split at h
     .rename_i a J;cases h;exact Y8 j g q (Qav r J) k
     .cases h
end
theorem FA{P:Program}{T f off n:Nat}{fs:Array Field}{a:Field}(h:∀w,(underlying T).run P w=.ok (.struct fs) w)(e:fs[f]?=some a)(d:∀w,(sizeOf a.type).run P w=.ok n w)(g:a.offset=off:=by exact rfl)(h5:n≠0:=by decide):Qai P T f off n:=⟨_,_,h,e,g,d,h5⟩
theorem Qdt:∀(π:List Nat) (H:Qd) (xs:List Blk),π.map (λp=>H[p]?)=xs.map some->QX H π xs=H
 |[],H,xs,h=>by
  simp_all[QX]
 |p::π,H,[],h=>by simp at h
 |p::π,H,x::xs,h=>by
  simp only[Vj,List.cons.injEq]at h;have e:H.set p x=H:=by
   apply List.ext_getElem?
   grind
  unfold QX;rw[e];exact Qdt π H xs h.2
def Qjb:A->Option Bx
 |.bool b=>some (.mk (.bool b))
 |.int k n=>some (.mk (.int k n))
 |.str s=>some (.mk (.str s))
 |.rsl k es=>some (.mk (.rsl k es))
 |_=>none
theorem Ql5{v a:A}(h:Qjb v=some (.mk a))(ρ:Nat->Nat):YM ρ v=a:=by
 cases v<;>first|(cases h;rfl)|cases h
theorem Pc{P:Program}{h0 N:Nat}{all:Array Oper}{o:Oper}{l:List Oper}{env:Env}{H:Qd}{Q:QG}{d:Nat}{f:FuncId}{args e:List A}{Hc:Qd}{v h:A}(π:List Nat)(j:o.dst=some d)(g:OpC P o env H f args)(i:C P f e Hc (λa H1=>a=v/\H1=Hc))(m:Qjb v=some (.mk h))
  (k:WO P h0 N all l (up env d h) H Q)
  (hargs:args=Qak (rho π H.length) e:=by exact rfl)(hH:π.map (λp=>H[p]?)=(Hc.map (QZ (rho π H.length))).map some:=by exact rfl)(hπ:π.Nodup:=by decide)
  (hg:QI all o env true:=by exact rfl)(hN:Nat.blt d N=true:=by exact rfl)(hh:Nat.ble h0 H.length=true:=by exact rfl):WO P h0 N all (o::l) env H Q:=by
 refine Qy π g i ?_ hargs hH hπ hg j hN hh
 simp_all[Ql5,Qdt]
theorem Q2{i k:Nat}{es:List (List A)}:∀H:Qd,FzH i k es H H
 |[]=>.nil
 |_::r=>.keep (Q2 r)
def foN:Nat->FN
 |0=>.mk 0
 |1=>.mk 1
 |2=>.mk 2
 |3=>.mk 3
 |4=>.mk 4
 |5=>.mk 5
 |6=>.mk 6
 |7=>.mk 7
 |8=>.mk 8
 |9=>.mk 9
 |10=>.mk 10
 |11=>.mk 11
 |12=>.mk 12
 |13=>.mk 13
 |14=>.mk 14
 |15=>.mk 15
 |16=>.mk 16
 |17=>.mk 17
 |18=>.mk 18
 |19=>.mk 19
 |20=>.mk 20
 |21=>.mk 21
 |22=>.mk 22
 |23=>.mk 23
 |24=>.mk 24
 |25=>.mk 25
 |26=>.mk 26
 |27=>.mk 27
 |28=>.mk 28
 |29=>.mk 29
 |30=>.mk 30
 |31=>.mk 31
 |32=>.mk 32
 |33=>.mk 33
 |34=>.mk 34
 |35=>.mk 35
 |36=>.mk 36
 |37=>.mk 37
 |38=>.mk 38
 |39=>.mk 39
 |40=>.mk 40
 |41=>.mk 41
 |42=>.mk 42
 |43=>.mk 43
 |44=>.mk 44
 |45=>.mk 45
 |46=>.mk 46
 |47=>.mk 47
 |n=>.mk n
theorem Qf6(n:Nat):foN n=.mk n:=by unfold foN;split<;>rfl
mutual
def foA:A->Bx
 |.agg cs=>match foL cs with
  |.mk l=>.mk (.agg l)
 |.tup cs=>match foL cs with
  |.mk l=>.mk (.tup l)
 |.fn f a c=>match foL a,foL c with
  |.mk l,.mk l'=>.mk (.fn f l l')
 |.iface t v=>match foA v with
  |.mk v'=>.mk (.iface t v')
 |.ptr i off=>match foN i with
  |.mk i'=>.mk (.ptr i' off)
 |.osl i o n k=>match foN i with
  |.mk i'=>.mk (.osl i' o n k)
 |.map i=>match foN i with
  |.mk i'=>.mk (.map i')
 |a=>.mk a
def foL:List A->FL
 |[]=>.mk []
 |a::r=>match foA a,foL r with
  |.mk a',.mk r'=>.mk (a'::r')
end
mutual
theorem QhS:∀a:A,foA a=.mk a
 |.agg cs=>by unfold foA;rw[Qcr cs]
 |.tup cs=>by unfold foA;rw[Qcr cs]
 |.fn f a c=>by unfold foA;rw[Qcr a,Qcr c]
 |.iface t v=>by unfold foA;rw[QhS v]
 |.ptr i off=>by unfold foA;rw[Qf6]
 |.osl i o n k=>by unfold foA;rw[Qf6]
 |.map i=>by unfold foA;rw[Qf6]
 |.any|.bool _|.int _ _|.str _|.nilp|.rp _|.nils|.rsl _ _|.nilf|.nilif|.nilm=>by rfl
theorem Qcr:∀l:List A,foL l=.mk l
 |[]=>by rfl
 |a::r=>by unfold foL;rw[QhS a,Qcr r]
end
inductive FE2 where
 |mk (l:List (List A))
def foE:List (List A)->FE2
 |[]=>.mk []
 |a::r=>match foL a,foE r with
  |.mk a',.mk r'=>.mk (a'::r')
theorem QkT:∀l,foE l=.mk l
 |[]=>rfl
 |a::r=>by unfold foE;rw[Qcr,QkT r]
def foH:List Blk->FB
 |[]=>.mk []
 |b::r=>match foH r with
  |.mk r'=>match b with
   |.cells t cs=>match foL cs with
    |.mk l=>.mk (.cells t l::r')
   |.rowr t k es=>match foE es with
    |.mk l=>.mk (.rowr t k l::r')
   |.dead=>.mk (.dead::r')
   |.row t k es=>.mk (.row t k es::r')
   |.map es=>.mk (.map es::r')
   |.iter c es=>.mk (.iter c es::r')
   |.fmap es=>.mk (.fmap es::r')
   |.mapO fz t k es=>.mk (.mapO fz t k es::r')
   |.mapP es=>.mk (.mapP es::r')
   |.frow t k es=>.mk (.frow t k es::r')
   |.wins t a n c=>match foN a with
    |.mk a'=>.mk (.wins t a' n c::r')
   |.ents t a b es=>match foN a,foN b with
    |.mk a',.mk b'=>.mk (.ents t a' b' es::r')
theorem QkS:∀l,foH l=.mk l
 |[]=>rfl
 |b::r=>by
  unfold foH;rw[QkS r];cases b<;>simp only[Qcr,QkT,Qf6]
def foS(env:Env)(H:Qd):Option (Env×Qd):=
 match foH H with
 |.mk H'=>match env with
  |[]=>some ([],H')
  |(d,a)::e=>match foA a with
   |.mk a'=>some ((d,a')::e,H')
theorem Qny(env:Env)(H:Qd):foS env H=some (env,H):=by
 unfold foS;rw[QkS];cases env with
 |nil=>rfl
 |cons p e=>obtain⟨d,a⟩:=p;simp only[QhS]
theorem FE{P:Program}{h0 N:Nat}{all:Array Oper}{l:List Oper}{env a:Env}{H H':Qd}{Q:QG}(h:foS env H=some (a,H'))(k:WO P h0 N all l a H' Q):WO P h0 N all l env H Q:=by
 rw[Qny]at h
 grind
theorem R1{P:Program}{h0:Nat}{fn:Func}{env:Env}{H Hc:Qd}{v:A}(s:Nat)(hr:fn.results= #[.tmp s])(hle:Le h0 env H [(s,v)] Hc):Jf P h0 fn (λa H=>a=v/\H=Hc) .ret env H:=
 ⟨[(s,v)],Hc,v,hle,QbW.one hr (by simp_all[lk]),rfl,rfl⟩
theorem R2{P:Program}{h0:Nat}{fn:Func}{env:Env}{H Hc:Qd}{v v':A}(s t:Nat)(hr:fn.results= #[.tmp s,.tmp t])(hn:Nat.beq t s=false)(hle:Le h0 env H [(s,v),(t,v')] Hc):Jf P h0 fn (λa H=>a=.tup [v,v']/\H=Hc) .ret env H:=
 ⟨[(s,v),(t,v')],Hc,_,hle,QjV hr (by simp_all[lk]) (by simp_all[lk]),rfl,rfl⟩
theorem FzA.o{i k n:Nat}{es:List (List A)}(a:n=es.length:=by first|exact(X2 ..).symm|exact rfl):FzA i k es (.osl i 0 n k) (.rsl k es):=FzA.own a
theorem Le.env{e:Nat}{env d:Env}{H:Qd}(h:∀s,lk d s=.any\/lk d s=lk env s):Le e env H d H:=by
 intro g f σ N a w r;refine⟨f,σ,⟨r.sim,λs=>?_,r.size,r.defers⟩,λ_ q=>q,rfl⟩;rcases h s with h|h
 .rw[h];trivial
 .rw[h];exact r.env s
def Qm3(env:Env):Env->Prop
 |[]=>True
 |(s,a)::r=>lk env s=a/\Qm3 env r
theorem Qm3.ok{env:Env}:∀{f:Env},Qm3 env f->∀s,lk f s=.any\/lk f s=lk env s
 |[],_,s=>.inl rfl
 |(d,a)::e,⟨h1,h2⟩,s=>by
  by_cases q:s=d
  .simp_all[lk]
  .have:Nat.beq s d=false:=by
    simp_all[VL]
   simp only[lk,this,Vp];exact Qm3.ok h2 s
def ixO(d:Nat)(op:Op)(t:Nat)(pos:String)(af:Array Edge):Oper:={dst:=some d,op:=op,type:=t,pos:=pos,after:=af,guard:=none}
inductive Kf where
 |seq (c:Code)
 |blo (id:Nat)
 |unr (c:Code)
inductive Cf where
 |code (c:Code)
 |ops (all:Array Oper) (l:List Oper)
 |out (x:AEx)
def kq(P:Program)(h0 N:Nat):List Kf->QG->QG
 |[],Q=>Q
 |.seq c::k,Q=>Seq P h0 N c (kq P h0 N k Q)
 |.blo id::k,Q=>Blo id (kq P h0 N k Q)
 |.unr c::k,Q=>Qid P h0 N c (kq P h0 N k Q)
@[reducible] def Hd(P:Program)(h0 N:Nat):Cf->List Kf->Env->Qd->QG->Prop
 |.code c,k,env,H,Q=>TC P h0 N c env H (kq P h0 N k Q)
 |.ops all l,k,env,H,Q=>WO P h0 N all l env H (kq P h0 N k Q)
 |.out x,k,env,H,Q=>kq P h0 N k Q x env H
def Qkn(T:TyX)(h0 N:Nat):Cf->List Kf->Env->Qd->Option (Cf×List Kf×Env×Qd)
 |.code (.seq a b),k,env,H=>some (.code a,.seq b::k,env,H)
 |.code (.block id c),k,env,H=>some (.code c,.blo id::k,env,H)
 |.code (.loop c),k,env,H=>some (.code c,.unr c::k,env,H)
 |.code .skip,k,env,H=>some (.out .normal,k,env,H)
 |.code .ret,k,env,H=>some (.out .ret,k,env,H)
 |.code (.exit id),k,env,H=>some (.out (.exit id),k,env,H)
 |.code (.region id ⟨l⟩ false),k,env,H=>some (.ops ⟨l⟩ l,k,env,H)
 |.code (.cond x a b),k,env,H=>match opB env x with
  |.mk (.bool true)=>some (.code a,k,env,H)
  |.mk (.bool false)=>some (.code b,k,env,H)
  |_=>none
 |.ops all [],k,env,H=>some (.out .normal,k,env,H)
 |.ops all (o::l),k,env,H=>match stX T h0 N all o env H with
  |some (env',H')=>some (.ops all l,k,env',H')
  |none=>none
 |.out .normal,.seq c::k,env,H=>some (.code c,k,env,H)
 |.out (.exit i),.seq _::k,env,H=>some (.out (.exit i),k,env,H)
 |.out .ret,.seq _::k,env,H=>some (.out .ret,k,env,H)
 |.out .normal,.blo _::k,env,H=>some (.out .normal,k,env,H)
 |.out (.exit i),.blo id::k,env,H=>match Nat.beq i id with
  |true=>some (.out .normal,k,env,H)
  |false=>some (.out (.exit i),k,env,H)
 |.out .ret,.blo _::k,env,H=>some (.out .ret,k,env,H)
 |.out .normal,.unr c::k,env,H=>some (.code c,.unr c::k,env,H)
 |.out (.exit i),.unr _::k,env,H=>some (.out (.exit i),k,env,H)
 |.out .ret,.unr _::k,env,H=>some (.out .ret,k,env,H)
 |_,_,_,_=>none
def QcC(T:TyX)(h0 N:Nat):Nat->Cf->List Kf->Env->Qd->Option (Cf×List Kf×Env×Qd)
 |0,c,k,env,H=>some (c,k,env,H)
 |n+1,c,k,env,H=>match Qkn T h0 N c k env H with
  |some (c',k',env',H')=>QcC T h0 N n c' k' env' H'
  |none=>none
section
variable {P:Program} {T:TyX} {h0 N:Nat} {Q:QG}
theorem Qkm(f:QbV P T){c e:Cf}{k d:List Kf}{env a:Env}{H H':Qd}(h:Qkn T h0 N c k env H=some (e,d,a,H'))(g:Hd P h0 N e d a H' Q):Hd P h0 N c k env H Q:=by
 unfold Qkn at h;split at h
 .cases h;exact TC.seq g
 .cases h;exact TC.block g
 .cases h;exact QjT g
 .cases h;exact TC.skip g
 .cases h;exact TC.ret g
 .cases h;exact TC.exit g
 .cases h;exact TC.region g
 .split at h
  .rename_i q;cases h;exact QlH (QT q) rfl g
  .rename_i q;cases h;exact QlI (QT q) rfl g
  .cases h
 .cases h;exact WO.nil g
 .grind[Qm7]
 .cases h;exact seqN g
 .cases h;exact seqX g
 .cases h;exact seqR g
 .cases h;exact bloN g
 .split at h
  .rename_i q;cases h;have:=XQ q;subst this;exact bloE g
  .rename_i q;cases h;exact bloX q g
 .cases h;exact bloR g
 .cases h;exact unrN g
 .cases h;exact unrX g
 .cases h;exact unrR g
 .cases h
theorem QcB(hT:QbV P T):∀(n:Nat) {c c':Cf} {k k':List Kf} {env env':Env} {H H':Qd},QcC T h0 N n c k env H=some (c',k',env',H')->Hd P h0 N c' k' env' H' Q->Hd P h0 N c k env H Q
 |0,c,c',k,k',env,env',H,H',h,g=>by cases h;exact g
 |n+1,c,c',k,k',env,env',H,H',h,g=>by
  unfold QcC at h;split at h
  .rename_i e;exact Qkm hT e (QcB hT n h g)
  .cases h
theorem Qiq{env:Env}{s:Nat}{a:A}(h:lk env s=a):∀t,lk (up env s a) t=lk env t:=by
 intro t;simp[lk];cases q:Nat.beq t s with
 |true=>simp_all
 |false=>rfl
theorem Is{α:Type}{all:Array Oper}{l:List Oper}{env:Env}{H:Qd}{b:Bool}{x y:Option α}{r:α}(s:Nat)(h:(bif b then x else y)=some r)(d:lkB env s=.mk (.bool b))
  (t:b=true->x=some r->WO P h0 N all l (up env s (.bool true)) H Q)(e:b=false->y=some r->WO P h0 N all l (up env s (.bool false)) H Q):WO P h0 N all l env H Q:=by
 have a:=QhO d;cases b with
 |true=>exact WO.le (Le.env λt=>.inr (Qiq a t)) (t rfl h)
 |false=>exact WO.le (Le.env λt=>.inr (Qiq a t)) (e rfl h)
end
def dstN(o:Oper)(i:Nat):Nat:=match o.dst with|some d=>d|none=>1000000+i
def Qbb:Nat->Nat->List Oper->List Nat
 |0,_,_=>[]
 |_+1,_,[]=>[]
 |m+1,i,o::l=>dstN o i::Qbb m (i+1) l
def Yf(af:List Nat):Nat->List Nat->List A->Env->Env
 |j,d::ds,x::xs,e=>(d,bif Qdf af j then x else .any)::Yf af (j+1) ds xs e
 |j,d::ds,[],e=>(d,.any)::Yf af (j+1) ds [] e
 |_,[],_,e=>e
theorem Qfc{l:List Nat}{t:Nat}:Qdf l t=l.contains t:=by
 induction l with
 |nil=>rfl
 |cons a r d=>
  grind[Qdf,Nat.eq_of_beq_eq_true,Nat.beq_refl]
theorem QiR{af:List Nat}{env0:Env}{s:Nat}:∀(a:List Nat) (xs f:List A) (b:Nat),
  (∃(j:Nat) (x:A),af.contains (b+j)=true/\a[j]?=some s/\(xs++f)[j]?=some x/\lk (Yf af b a xs env0) s=x)\/lk (Yf af b a xs env0) s=.any\/(a.contains s=false/\lk (Yf af b a xs env0) s=lk env0 s):=by
 intro a
 induction a with
 |nil=>intro xs f b;right;right;exact⟨rfl,by rfl⟩
 |cons d a m=>
  intro xs f b;have next:∀(e:List A),(∃(j:Nat) (x:A),af.contains (b+1+j)=true/\a[j]?=some s/\(e++f)[j]?=some x/\lk (Yf af (b+1) a e env0) s=x)->∀l,(∃(j:Nat) (x:A),af.contains (b+j)=true/\(d::a)[j]?=some s/\(l::e++f)[j]?=some x/\lk (Yf af (b+1) a e env0) s=x):=by
   rintro e ⟨j,x,i,k,p,n⟩ l;exact⟨j+1,x,by grind,by grind,by grind,n⟩
  cases xs with
  |nil=>
   cases q:Nat.beq s d with
   |true=>simp_all[Yf,lk]
   |false=>
    have g:s≠d:=λz=>by simp_all
    simp only[Yf,lk,q,Vp];rcases m [] [] (b+1)with⟨j,x,i,k,p,n⟩|h|⟨i,k⟩
    .simp at p
    .grind
    grind
  |cons x xs=>
   cases q:Nat.beq s d with
   |true=>
    have:=XQ q;subst this;simp only[Yf,lk,q,Vo];cases c:Qdf af b with
    |true=>left;exact⟨0,x,by rw[<- Qfc];exact c,rfl,rfl,rfl⟩
    |false=>simp
   |false=>
    have g:s≠d:=λz=>by simp_all
    simp only[Yf,lk,q,Vp];rcases m xs f (b+1)with h|h|⟨i,k⟩
    .exact .inl (next xs h x)
    .grind
    grind
section
variable {P:Program} {T:TyX} {h0 N m:Nat} {l:List Oper} {ds:List Nat} {env:Env} {H:Qd} {Q:QG} {K:List Oper->Env->Qd->Prop}
def DS(P:Program)(N m:Nat)(l:List Oper)(ds:List Nat)(env:Env)(H:Qd)(K:List Oper->Env->Qd->Prop)(r:List Oper)(xs:List A):Prop:=
 r=l.drop xs.length->∃ys,xs.length+ys.length=m/\(∀j,xs.length<=j->j<m->Jm P N l ds (xs++ys) env H.length H.length j H H)/\K (l.drop m) (Qat ds (xs++ys) env) H
theorem oqOf{xs:List A}:∀(c i:Nat),(∀j,i<=j->j<i+c->Jm P N l ds xs env H.length H.length j H H)->Oq P N l ds xs env H i c
 |0,i,_=>.n
 |c+1,i,h=>.c (by grind) (oqOf c (i+1) (by grind))
theorem QlY{id:Nat}{k:List Kf}(m:Nat)(f:P.follows .mixedOrders=true)(g:Go.Sw.draw0 l m N (Qbb m 0 l)=true)(a:Nat.ble h0 H.length=true)
  (h:DS P N m l (Qbb m 0 l) env H (λr e H=>WO P h0 N l.toArray r e H Q) l []):TC P h0 N (.region id l.toArray true) env H Q:=by
 obtain⟨d,n,j,i⟩:=h rfl;exact TC.draw0 m _ d f g (by simp_all) a (oqOf m 0 (by grind)) i
theorem DS.done{xs:List A}{r:List Oper}(a:Nat.beq xs.length m=true)(h:K r (Qat ds xs env) H):DS P N m l ds env H K r xs:=by
 intro d;have e:=XQ a;refine⟨[],by simpa using e,λj f g=>by omega,?_⟩
 grind
theorem DS.add{xs:List A}{o:Oper}{r:List Oper}{x:A}(i:Nat.blt xs.length m=true)(f:∀ys,l[xs.length]?=some o->Jm P N l ds (xs++x::ys) env H.length H.length xs.length H H)(k:DS P N m l ds env H K r (xs++[x])):DS P N m l ds env H K (o::r) xs:=by
 intro d;have a:xs.length<l.length:=by
  grind[List.drop_eq_nil_of_le]
 rw[Xp a]at d;cases d;obtain⟨ys,e,g,h⟩:=k (by simp)
 grind
theorem QgX{xs a:List A}{x:A}:(xs++x::a)[xs.length]?=some x:=by simp
theorem DS.wo{xs:List A}{o:Oper}{r:List Oper}{x:A}{d:Nat}(h:WO P H.length N l.toArray [o] (Yf (Qn o) 0 ds xs env) H (YT (up (Yf (Qn o) 0 ds xs env) d x) H))(k:DS P N m l ds env H K r (xs++[x]))
  (e:o.dst=some d:=by exact rfl)(hx:Nat.blt xs.length m=true:=by exact rfl):DS P N m l ds env H K (o::r) xs:=
 .add hx (λa f=>.woE o _ d x f e QgX (he:=by
  intro s;rcases QiR (af:=Qn o) (env0:=env) (s:=s) ds xs (x::a) 0 with⟨j,y,p,i,n,g⟩|q|q
  .grind
  .grind
  grind) (hdd:=QdG H) (h:=h)) k
theorem DS.v{xs:List A}{o:Oper}{r:List Oper}{x:A}{d:Nat}(h:OpV P o (Yf (Qn o) 0 ds xs env) H x)(k:DS P N m l ds env H K r (xs++[x]))(hg:QI l.toArray o (Yf (Qn o) 0 ds xs env) true:=by exact rfl)
  (hd:o.dst=some d:=by exact rfl)(hN:Nat.blt d N=true:=by exact rfl)(hx:Nat.blt xs.length m=true:=by exact rfl):DS P N m l ds env H K (o::r) xs:=
 .wo (Y8 hg hd hN h (WO.nil YT.mk)) k hd hx
def QcS:List A->A->FL
 |[],x=>.mk [x]
 |a::r,x=>match QcS r x with
  |.mk r'=>.mk (a::r')
theorem Je:∀(l:List A) (x:A),QcS l x=.mk (l++[x])
 |[],x=>rfl
 |a::r,x=>by unfold QcS;rw[Je r];rfl
def QgG(T:TyX)(N m:Nat)(l:List Oper)(ds:List Nat)(env:Env)(H:Qd):Nat->Nat->List Oper->List A->Option (List Oper×List A)
 |0,_,r,xs=>some (r,xs)
 |_+1,_,[],_=>none
 |n+1,i,o::r,xs=>match Nat.blt i m with
  |false=>none
  |true=>match o.dst with
   |none=>none
   |some d=>match Nat.blt d N with
    |false=>none
    |true=>match YQ ⟨l⟩ o (Yf (Qn o) 0 ds xs env)with
     |none=>none
     |some false=>match QcS xs (.tup [])with
      |.mk xs'=>QgG T N m l ds env H n (i+1) r xs'
     |some true=>match Qc7 T o (Yf (Qn o) 0 ds xs env) H with
      |none=>none
      |some x=>match QcS xs x with
       |.mk xs'=>QgG T N m l ds env H n (i+1) r xs'
theorem Qeh(hT:QbV P T):∀(n i:Nat) {r r':List Oper} {xs xs':List A},i=xs.length->QgG T N m l ds env H n i r xs=some (r',xs')->DS P N m l ds env H K r' xs'->DS P N m l ds env H K r xs
 |0,i,r,r',xs,xs',_,h,k=>by cases h;exact k
 |n+1,i,[],r',xs,xs',_,h,k=>by cases h
 |n+1,i,o::r,r',xs,xs',hi,h,k=>by
  subst hi;unfold QgG at h;split at h
  .cases h
  .rename_i q1;split at h
   .cases h
   .rename_i d hd;split at h
    .cases h
    .rename_i q2;split at h
     .cases h
     .rename_i hw;simp[Je]at h;exact .wo (WO.skip (QM hw) hd q2 (WO.nil YT.mk)) (Qeh hT n _ (by simp) h k) hd q1
     .rename_i hw;split at h
      .cases h
      .rename_i x hv;simp[Je]at h;exact .v (Qav hT hv) (Qeh hT n _ (by simp) h k) (QM hw) hd q2 q1
def QhI:List A->Nat->A->FL
 |[],_,_=>.mk []
 |_::r,0,x=>.mk (x::r)
 |a::r,n+1,x=>match QhI r n x with
  |.mk r'=>.mk (a::r')
theorem Qa1:∀{l:List A} {n:Nat} {x:A},YN l n=some x->QhI l n x=.mk l
 |[],n,x,h=>by cases h
 |a::r,0,x,h=>by cases h;rfl
 |a::r,n+1,x,h=>by unfold QhI;rw[Qa1 (l:=r) h]
theorem DS.is{α:Type}{b:Bool}{x y:Option α}{v:α}{xs d a:List A}{r:List Oper}(j:Nat)(h:(bif b then x else y)=some v)(i:YN xs j=some (.bool b))(f:QhI xs j (.bool true)=.mk d)(g:QhI xs j (.bool false)=.mk a)
  (t:b=true->x=some v->DS P N m l ds env H K r d)(e:b=false->y=some v->DS P N m l ds env H K r a):DS P N m l ds env H K r xs:=by
 cases b with
 |true=>simp_all[Qa1]
 |false=>simp_all[Qa1]
end
@[reducible] def RQ{β:Type}(w:β->A)(Hc:β->Qd)(r:β):A->Qd->Prop:=λa H=>a=w r/\H=Hc r
@[reducible] def Csm{β:Type}(P:Program)(f:FuncId)(args:List A)(H:Qd)(w:β->A)(r:β):Prop:=C P f args H (RQ w (λ_=>H) r)
structure TyZ where
 sl:List (Nat×Nat×Nat)
 fn:List Nat
structure Qch (P:Program) (Z:TyZ):Prop where
 sl:∀e∈Z.sl,(∀w,(underlying e.1).run P w=.ok (.slice e.2.1) w)/\ ∀w,(sizeOf e.2.1).run P w=.ok e.2.2 w
 fn:∀f∈Z.fn,∀(a:Array Value) (w:World),(callFunc f a).run P w=.ok (.enter f a) w
section
variable {P:Program} {Z:TyZ} {h0 N:Nat} {all:Array Oper} {o:Oper} {l:List Oper} {env:Env} {H:Qd} {Q:QG} {d:Nat}
theorem Izz(n:Qch P Z){α:Type}{e:α->List A}{t a k:Nat}{L:List α}{j:IntKind}{i:Int}{v:α}(h:idx L i=some v)(q:ixB o env=some (d,t,k,L.map e,j,i))(g:WO P h0 N all l (up env d (.rp (e v))) H Q)
  (m:QbC Z.sl t=some (a,k))(hg:YQ all o env=some true)(f:Nat.blt d N=true):WO P h0 N all (o::l) env H Q:=by
 obtain⟨r,p⟩:=n.sl _ (Qaw m);exact Ix h r p q g (QM hg) f
theorem Ize(p:Qch P Z){α:Type}{e:α->List A}{t f k:Nat}{L:List α}{m:IntKind}{i:Int}{v:α}{a:List A}(h:idx L i=some v)(he:e v=a)(q:ixB o env=some (d,t,k,L.map e,m,i))(g:WO P h0 N all l (up env d (.rp a)) H Q)
  (n:QbC Z.sl t=some (f,k))(hg:YQ all o env=some true)(j:Nat.blt d N=true):WO P h0 N all (o::l) env H Q:=by
 subst he;exact Izz p h q g n hg j
theorem Lmz(j:Qch P Z){α:Type}{e:α->List A}{t a k h:Nat}{L:List α}(q:lnB o env=some (d,t,.mk (.rsl k (L.map e))))(g:WO P h0 N all l (up env d (.int .i64 L.length)) H Q)
  (i:QbC Z.sl t=some (a,h))(hg:YQ all o env=some true)(f:Nat.blt d N=true):WO P h0 N all (o::l) env H Q:=by
 obtain⟨m,n⟩:=j.sl _ (Qaw i);exact LnM m q g (QM hg) f
def Qfe(Z:TyZ)(o:Oper)(env:Env):Option (Nat×Nat×List A):=
 match o.dst with
 |none=>none
 |some d=>match o.op with
  |.call {callee:=.value (.func f),args:=⟨xs⟩,argTypes:=_}=>bif Qdf Z.fn f then(match fl (QgO env xs)with|.mk ax=>some (d,f,ax))else none
  |.call {callee:=.value (.tmp x),args:=⟨xs⟩,argTypes:=_}=>match opB env (.tmp x)with
   |.mk (.fn (.func f) vf vc)=>bif Qdf Z.fn f then(match fl (vf++(QgO env xs++vc))with|.mk ax=>some (d,f,ax))else none
   |_=>none
  |_=>none
theorem Qd1(g:Qch P Z){f:Nat}{args:List A}(h:Qfe Z o env=some (d,f,args)):o.dst=some d/\OpC P o env H f args:=by
 unfold Qfe at h;split at h
 .cases h
 .rename_i n i;split at h
  .rename_i a j k e;cases q:Qdf Z.fn a with
   |false=>grind
   |true=>
    rw[q]at h;simp only[Qce]at h;cases h;exact⟨i,OpC.fn (g.fn _ (Qf0 q)) e rfl (QcI j).symm⟩
  .rename_i x j k e;split at h
   .rename_i a m p l;cases q:Qdf Z.fn a with
    |false=>grind
    |true=>
     rw[q]at h;simp only[Qce]at h;cases h;exact⟨i,Qgp (g.fn _ (Qf0 q)) e rfl (QT l) (by rw[QcI])⟩
   .cases h
  .cases h
theorem Czz(i:Qch P Z){β γ:Type}{F:Option β}{F':β->Option γ}{r:γ}{f:Nat}{args a:List A}{Hc:Qd}{w:β->A}(π:List Nat)(h:F.bind F'=some r)(u:∀v,F=some v->C P f a Hc (RQ w (λ_=>Hc) v))
  (e:Qfe Z o env=some (d,f,args))(g:∀v,F=some v->F' v=some r->WO P h0 N all l (up env d (w v)) H Q)(q:∀v,Qjb (w v)=some (.mk (w v)))
  (hargs:args=Qak (rho π H.length) a)(t:π.map (λp=>H[p]?)=(Hc.map (QZ (rho π H.length))).map some)(hπ:π.Nodup)(hg:YQ all o env=some true)(n:Nat.blt d N=true)(k:Nat.ble h0 H.length=true):WO P h0 N all (o::l) env H Q:=by
 obtain⟨v,m,x⟩:=Yh h;obtain⟨s,j⟩:=Qd1 (H:=H) i e
 grind[Pc,QM]
theorem DzZ(s:Qch P Z){K:List Oper->Env->Qd->Prop}{m:Nat}{i:List Oper}{e:List Nat}{xs:List A}{β γ:Type}{F:Option β}{F':β->Option γ}{r:γ}{f:Nat}{args a:List A}{Hc:Qd}{w:β->A}(π:List Nat)(h:F.bind F'=some r)(y:∀v,F=some v->C P f a Hc (RQ w (λ_=>Hc) v))
  (j:Qfe Z o (Yf (Qn o) 0 e xs env)=some (d,f,args))(g:∀v,F=some v->F' v=some r->DS P N m i e env H K l (xs++[w v]))(u:∀v,Qjb (w v)=some (.mk (w v)))
  (hargs:args=Qak (rho π H.length) a)(x:π.map (λp=>H[p]?)=(Hc.map (QZ (rho π H.length))).map some)(hπ:π.Nodup)(hg:YQ i.toArray o (Yf (Qn o) 0 e xs env)=some true)(t:Nat.blt d N=true)(B:Nat.blt xs.length m=true):DS P N m i e env H K (o::l) xs:=by
 obtain⟨v,k,z⟩:=Yh h;obtain⟨n,q⟩:=Qd1 s j;exact .wo (Pc π n q (y v k) (u v) (WO.nil YT.mk) hargs x hπ (QM hg) t (by simp)) (g v k z) n B
theorem ln:Qbh H [] []:=trivial
theorem ls{ax d:List A}{a:A}(k:Qbh H ax d)(h:Yq a=true:=by exact rfl):Qbh H (a::ax) (a::d):=⟨.inl ⟨rfl,h⟩,k⟩
theorem lo{ax a:List A}{i n k t:Nat}{es:List (List A)}(d:Qbh H ax a)(e:H[i]?=some (.row t k es):=by exact rfl)(hn:es.length=n:=by exact X2 ..):Qbh H (.osl i 0 n k::ax) (.rsl k es::a):=
 ⟨.inr (by grind),d⟩
theorem Cbz(j:Qch P Z){β γ:Type}{F:Option β}{F':β->Option γ}{r:γ}{f:Nat}{args a:List A}{w:β->A}(h:F.bind F'=some r)(q:∀v,F=some v->C P f a [] (RQ w (λ_=>[]) v))
  (e:Qfe Z o env=some (d,f,args))(k:Qbh H args a)(g:∀v,F=some v->F' v=some r->WO P h0 N all l (up env d (w v)) H Q)(s:∀v,Ya (w v)=true)
  (hg:YQ all o env=some true)(n:Nat.blt d N=true):WO P h0 N all (o::l) env H Q:=by
 obtain⟨v,m,t⟩:=Yh h;obtain⟨p,i⟩:=Qd1 j e;refine QcT i k (q v m) ?_ ?_ (QM hg) p n
 .grind
 grind
end
def ixL:List Nat:=[0,1,2,3,4,5,6,7,8,9,10,11,12,13,14,15,16,17,18,19,20,21,22,23,24,25,26,27,28,29,30,31,32,33,34,35,36,37,38,39,40,41,42,43,44,45,46,47,48,49,50,51,52,53,54,55,56,57,58,59,60,61,62,63]
def QhL:List Nat->List Nat->Nat->FN
 |a::r,b::s,j=>bif Nat.beq a j then .mk b else QhL r s j
 |_,_,j=>.mk j
mutual
def cpA(sel:List Nat):A->Bx
 |.ptr i off=>match QhL sel ixL i with
  |.mk j=>.mk (.ptr j off)
 |.osl i o n k=>match QhL sel ixL i with
  |.mk j=>.mk (.osl j o n k)
 |.map i=>match QhL sel ixL i with
  |.mk j=>.mk (.map j)
 |.fn f a c=>match cpL sel a,cpL sel c with
  |.mk a',.mk c'=>.mk (.fn f a' c')
 |a=>.mk a
def cpL(sel:List Nat):List A->FL
 |[]=>.mk []
 |a::r=>match cpA sel a,cpL sel r with
  |.mk a',.mk r'=>.mk (a'::r')
end
inductive FV where
 |mk (e:Env)
def QkF(sel:List Nat)(env:Env):List Nat->Env->FV
 |[],nE=>.mk nE
 |s::r,nE=>match lkB env s with
  |.mk a=>match cpA sel a,QkF sel env r nE with
   |.mk a',.mk e=>.mk ((s,a')::e)
def selH(H:Qd):List Nat->List Nat->List (Nat×Blk)->FB
 |a::r,p::ps,[]=>match YN H a,selH H r ps []with
  |some b,.mk l=>.mk (b::l)
  |none,.mk l=>.mk l
 |a::r,p::ps,(q,b)::n=>bif Nat.beq p q then(match selH H r ps n with|.mk l=>.mk (b::l))else(match YN H a,selH H r ps ((q,b)::n)with
  |some b,.mk l=>.mk (b::l)
  |none,.mk l=>.mk l)
 |_,_,_=>.mk []
def QjI(sel keep:List Nat)(nE:Env)(nH:List (Nat×Blk))(env:Env)(H:Qd):Option (Env×Qd):=
 match QkF sel env keep nE,selH H sel ixL nH with
 |.mk e,.mk h=>some (e,h)
section
variable {P:Program} {h0 N:Nat} {c:Code} {env:Env} {H:Qd} {Q:QG}
def Qin{β:Type}(h0:Nat)(b:β)(E':β->Env)(H':β->Qd)(Q:QG):QG
 |.normal,env,H=>Le h0 env H (E' b) (H' b)
 |.exit id,env,H=>Q (.exit id) env H
 |.ret,env,H=>Q .ret env H
theorem QbQ{h0:Nat}{env:Env}{H:Qd}{Q:QG}{β:Type}{b:β}{E':β->Env}{H':β->Qd}(h:Le h0 env H (E' b) (H' b)):Qin h0 b E' H' Q .normal env H:=h
theorem Ct{β:Type}{E':β->Env}{H':β->Qd}(b:β)(sel keep:List Nat)(nE:β->Env)(nH:β->List (Nat×Blk))(_:∀b,QjI sel keep (nE b) (nH b) env H=some (E' b,H' b))(h:TC P h0 N c env H (Qin h0 b E' H' Q))(k:∀env H,Le h0 env H (E' b) (H' b)->Q .normal env H):TC P h0 N c env H Q:=
 h.mono λx env' H' q=>by
  cases x with
  |normal=>exact k _ _ q
  |exit id=>exact q
  |ret=>exact q
theorem CtE{S B:Type}{b:Ctl S B}{E':S->Env}{H':S->Qd}(sel keep:List Nat)(nE:S->Env)(nH:S->List (Nat×Blk))(_:∀s,QjI sel keep (nE s) (nH s) env H=some (E' s,H' s))(h:TC P h0 N c env H (QfP h0 b E' H' Q))(k:∀s env H,b=.cont s->Le h0 env H (E' s) (H' s)->Q .normal env H):TC P h0 N c env H Q:=QmP E' H' h k
theorem Lp{S B:Type}{step:S->Option (Ctl S B)}{E':S->Env}{H':S->Qd}{m:Nat}{s0:S}{b0:B}(sel keep:List Nat)(nE:S->Env)(nH:S->List (Nat×Blk))(h:iter step m s0=some b0)(_:∀s,QjI sel keep (nE s) (nH s) env H=some (E' s,H' s))(hI:Le h0 env H (E' s0) (H' s0))
  (body:∀s d,step s=some d->(∀b,d=.done b->b=b0)->TC P h0 N c (E' s) (H' s) (Qbg (λs env H=>Le h0 env H (E' s) (H' s)) d Q)):TC P h0 N (.loop c) env H Q:=TC.loop E' H' h hI body
end
theorem Oj{S B:Type}{d:Ctl S B}{x b0:B}(hb:∀b,d=.done b->b=b0)(h:some (Ctl.done x)=some d):x=b0:=hb x (Oi h).symm
theorem Rt{P:Program}{a:Nat}{fn:Func}{env:Env}{H:Qd}{β:Type}{e r:β}{w:β->A}{Hc:β->Qd}(h:some e=some r)(s:Nat)(π:List Nat)(d:fn.results= #[.tmp s]:=by exact rfl)(hpre:π.take a=List.range a:=by exact rfl)
  (hH:π.map (λp=>H[p]?)=((Hc e).map (QZ (rho π H.length))).map some:=by exact rfl)(hπ:π.Nodup:=by decide)(hE:QbY (rho π H.length) env [(s,w e)]:=by exact⟨rfl,trivial⟩):Jf P a fn (RQ w Hc r) .ret env H:=by
 cases h;exact R1 s d (Lr π hpre hH hπ hE)
theorem Cl{d:Nat}{env:Env}{H:Qd}{Q:QG}{β:Type}{e b:β}{E':β->Env}{H':β->Qd}(h:some e=some b)(π:List Nat)(a:π.take d=List.range d:=by exact rfl)
  (hH:π.map (λp=>H[p]?)=((H' e).map (QZ (rho π H.length))).map some:=by exact rfl)(hπ:π.Nodup:=by decide)(hE:QbY (rho π H.length) env (E' e):=by(repeat' (first|exact trivial|refine⟨rfl,?_⟩))):Qin d b E' H' Q .normal env H:=by
 cases h;exact Lr π a hH hπ hE
def plC(cat:List Nat):List (List (Nat×Nat)):=cat.map λc=>match c with|0=>[(0,0)]|1=>[(0,1)]|2=>[(1,1)]|_=>[(0,0),(1,1)]
def rqC(b:Nat)(cat:List Nat):List (List Nat):=cat.map λc=>match c with|2=>[b]|_=>[]
def hsC(cat:List Nat):List Bool:=cat.map λc=>match c with|1=>true|_=>false
section
variable {P:Program} {T:TyX} {h0 N m b:Nat} {cat:List Nat} {l:List Oper} {ds:List Nat} {env:Env} {H H1:Qd} {Q:QG} {K:List Oper->Env->Qd->Prop}
theorem Qgq{P:Program}{N:Nat}{l:List Oper}{ds:List Nat}{xs:List A}{env0:Env}{hB hE:Nat}:∀(ss:List (List (Qd×Qd))) (b:Nat),(∀i s,ss[i]?=some s->∀p∈s,Jm P N l ds xs env0 hB hE (b+i) p.1 p.2)->Qgr P N l ds xs env0 hB hE b ss
 |[],b,h=>.nil
 |s::ss,b,h=>.cons (h 0 s rfl) (Qgq ss (b+1) λi s' hs=>by rw[show b+1+i=b+(i+1)by omega];simp_all)
def Dob(P:Program)(N:Nat)(cat:List Nat)(l:List Oper)(ds:List Nat)(env:Env)(H H1:Qd)(zs:List A)(j:Nat):Prop:=
 ∀p∈(plC cat).getD j [],Jm P N l ds zs env H.length H.length j ([H,H1].getD p.1 []) ([H,H1].getD p.2 [])
def DB(P:Program)(N m:Nat)(cat:List Nat)(l:List Oper)(ds:List Nat)(env:Env)(H H1:Qd)(K:List Oper->Env->Qd->Prop)(r:List Oper)(xs:List A):Prop:=
 r=l.drop xs.length->∃ys,xs.length+ys.length=m/\(∀j,xs.length<=j->j<m->Dob P N cat l ds env H H1 (xs++ys) j)/\K (l.drop m) (Qat ds (xs++ys) env) H1
def DA(P:Program)(N m:Nat)(cat:List Nat)(l:List Oper)(ds:List Nat)(env:Env)(H:Qd)(K:List Oper->Env->Qd->Prop)(r:List Oper)(xs:List A):Prop:=
 r=l.drop xs.length->∃ys H1,xs.length+ys.length=m/\H.length<=H1.length/\(∀j,xs.length<=j->j<m->Dob P N cat l ds env H H1 (xs++ys) j)/\K (l.drop m) (Qat ds (xs++ys) env) H1
theorem QnS{d:List A}(f:cat.length=m)(r:∀j,0<=j->j<m->Dob P N cat l ds env H H1 d j):Qgr P N l ds d env H.length (H.length+0) 0 ((plC cat).map λq=>q.map λp=>([H,H1].getD p.1 [],[H,H1].getD p.2 [])):=by
 refine Qgq _ 0 λi s a p n=>?_;rw[Xo]at a;cases e:(plC cat)[i]? with
 |none=>grind
 |some q=>
  rw[e]at a;cases a;obtain⟨k,h,rfl⟩:=Xe.1 n;have g:i<m:=by
   grind[plC]
  have:=r i (XU _) g k (by grind)
  grind
theorem DA.len(a:H.length<=H1.length):[H,H1].all (λX=>Nat.ble (H.length+0) X.length)=true:=by
 simp_all
theorem Ql0{id:Nat}(m b:Nat)(cat:List Nat)(i:P.follows .mixedOrders=true)(j:QdF l m N (Qbb m 0 l) (hsC cat) (rqC b cat) [[],[b]] (plC cat)=true)(f:Nat.beq cat.length m=true)(d:Nat.ble h0 H.length=true)
  (h:DA P N m cat l (Qbb m 0 l) env H (λr e H=>WO P h0 N l.toArray r e H Q) l []):TC P h0 N (.region id l.toArray true) env H Q:=by
 obtain⟨g,H1,q,n,p,k⟩:=h rfl;have a:=XQ f;exact QY m 0 _ _ _ _ _ g [H,H1] H1 i j (by grind) rfl d (DA.len n) (by simp) rfl (QnS a p) (by simp[plC,a]) k
theorem Qbc{xs:List A}{o:Oper}{r:List Oper}(d:o::r=l.drop xs.length):l[xs.length]?=some o/\r=l.drop (xs.length+1):=by
 have a:xs.length<l.length:=by
  grind[List.drop_eq_nil_of_le]
 rw[Xp a]at d
 grind
theorem Qgt{zs:List A}{j c:Nat}(a:YN cat j=some c)(h:∀p∈match c with|0=>[(0,0)]|1=>[(0,1)]|2=>[(1,1)]|_=>[(0,0),(1,1)],Jm P N l ds zs env H.length H.length j ([H,H1].getD p.1 []) ([H,H1].getD p.2 [])):Dob P N cat l ds env H H1 zs j:=by
 intro p d
 grind[QaC,plC]
theorem Qaz{hB hE:Nat}{xs a:List A}{o:Oper}{x:A}{d:Nat}{X X':Qd}(f:l[xs.length]?=some o)(hdd:Qas hB hE X X'=true)(h:WO P X.length N l.toArray [o] (Yf (Qn o) 0 ds xs env) X (YT (up (Yf (Qn o) 0 ds xs env) d x) X'))(e:o.dst=some d):
  Jm P N l ds (xs++x::a) env hB hE xs.length X X':=
 .woE o _ d x f e QgX (he:=by
  intro s;rcases QiR (af:=Qn o) (env0:=env) (s:=s) ds xs (x::a) 0 with⟨j,y,g,k,m,i⟩|q|q
  .grind
  .grind
  grind) (hdd:=hdd) (h:=h)
theorem Y5{n:Nat}{X X':Qd}:Qas n n X X'=true:=by unfold Qas;simp
theorem DA.wo{xs:List A}{o:Oper}{r:List Oper}{x:A}{d:Nat}(h:WO P H.length N l.toArray [o] (Yf (Qn o) 0 ds xs env) H (YT (up (Yf (Qn o) 0 ds xs env) d x) H))(k:DA P N m cat l ds env H K r (xs++[x]))
  (f:YN cat xs.length=some 0:=by exact rfl)(hd:o.dst=some d:=by exact rfl)(hx:Nat.blt xs.length m=true:=by exact rfl):DA P N m cat l ds env H K (o::r) xs:=by
 intro g;obtain⟨w,s⟩:=Qbc g;obtain⟨e,H1,i,t,u,a⟩:=k (by grind);simp[Vi,Vh]at i u a;refine⟨x::e,H1,by grind,t,λj z y=>?_,a⟩;rcases VB xs.length j with q|q
 .grind
 .obtain rfl:j=xs.length:=by omega
  refine Qgt f λp n=>?_;obtain rfl:=VA.1 n;exact Qaz w Y5 h hd
theorem DA.op{xs:List A}{o:Oper}{r:List Oper}{x:A}{d:Nat}(h:WO P H.length N l.toArray [o] (Yf (Qn o) 0 ds xs env) H (YT (up (Yf (Qn o) 0 ds xs env) d x) H1))(k:DB P N m cat l ds env H H1 K r (xs++[x]))(w:Nat.ble H.length H1.length=true:=by exact rfl)
  (hc:YN cat xs.length=some 1:=by exact rfl)(hd:o.dst=some d:=by exact rfl)(hx:Nat.blt xs.length m=true:=by exact rfl):DA P N m cat l ds env H K (o::r) xs:=by
 intro f;obtain⟨t,n⟩:=Qbc f;obtain⟨e,g,s,a⟩:=k (by grind);simp[Vi,Vh]at g s a;refine⟨x::e,H1,by grind,(by simp_all),λj y u=>?_,a⟩;rcases VB xs.length j with q|q
 .grind
 .obtain rfl:j=xs.length:=by omega
  refine Qgt hc λp i=>?_;obtain rfl:=VA.1 i;exact Qaz t Y5 h hd
theorem DB.done{xs:List A}{r:List Oper}(a:Nat.beq xs.length m=true)(h:K r (Qat ds xs env) H1):DB P N m cat l ds env H H1 K r xs:=by
 intro d;have e:=XQ a;refine⟨[],by simpa using e,λj f g=>by omega,?_⟩
 grind
theorem DB.add{xs:List A}{o:Oper}{r:List Oper}{x:A}(g:∀ys,l[xs.length]?=some o->Dob P N cat l ds env H H1 (xs++x::ys) xs.length)(k:DB P N m cat l ds env H H1 K r (xs++[x])):DB P N m cat l ds env H H1 K (o::r) xs:=by
 intro a;obtain⟨i,d⟩:=Qbc a;obtain⟨ys,e,h,f⟩:=k (by grind)
 grind
theorem DB.wo1{xs:List A}{o:Oper}{r:List Oper}{x:A}{d:Nat}(h:WO P H1.length N l.toArray [o] (Yf (Qn o) 0 ds xs env) H1 (YT (up (Yf (Qn o) 0 ds xs env) d x) H1))(k:DB P N m cat l ds env H H1 K r (xs++[x]))
  (e:YN cat xs.length=some 2:=by exact rfl)(hd:o.dst=some d:=by exact rfl):DB P N m cat l ds env H H1 K (o::r) xs:=
 .add (λg a=>Qgt e λp f=>by
  obtain rfl:=VA.1 f;exact Qaz a Y5 h hd) k
theorem DB.wo2{xs:List A}{o:Oper}{r:List Oper}{x:A}{d:Nat}(h:WO P H.length N l.toArray [o] (Yf (Qn o) 0 ds xs env) H (YT (up (Yf (Qn o) 0 ds xs env) d x) H))(g:WO P H1.length N l.toArray [o] (Yf (Qn o) 0 ds xs env) H1 (YT (up (Yf (Qn o) 0 ds xs env) d x) H1))(k:DB P N m cat l ds env H H1 K r (xs++[x]))
  (f:YN cat xs.length=some 3:=by exact rfl)(hd:o.dst=some d:=by exact rfl):DB P N m cat l ds env H H1 K (o::r) xs:=
 .add (λi e=>Qgt f λp a=>by
  rcases X6.1 a with rfl|a
  .exact Qaz e Y5 h hd
  .obtain rfl:=VA.1 a;exact Qaz e Y5 g hd) k
def QgH(T:TyX)(N m:Nat)(cat:List Nat)(l:List Oper)(ds:List Nat)(env:Env)(H:Qd):Nat->Nat->List Oper->List A->Option (List Oper×List A)
 |0,_,r,xs=>some (r,xs)
 |_+1,_,[],_=>none
 |n+1,i,o::r,xs=>match Nat.blt i m,YN cat i with
  |true,some 0=>match o.dst with
   |none=>none
   |some d=>match Nat.blt d N with
    |false=>none
    |true=>match YQ ⟨l⟩ o (Yf (Qn o) 0 ds xs env)with
     |none=>none
     |some false=>match QcS xs (.tup [])with
      |.mk xs'=>QgH T N m cat l ds env H n (i+1) r xs'
     |some true=>match Qc7 T o (Yf (Qn o) 0 ds xs env) H with
      |none=>none
      |some x=>match QcS xs x with
       |.mk xs'=>QgH T N m cat l ds env H n (i+1) r xs'
  |_,_=>none
theorem Qek(hT:QbV P T):∀(n i:Nat) {r r':List Oper} {xs xs':List A},i=xs.length->QgH T N m cat l ds env H n i r xs=some (r',xs')->DA P N m cat l ds env H K r' xs'->DA P N m cat l ds env H K r xs
 |0,i,r,r',xs,xs',_,h,k=>by cases h;exact k
 |n+1,i,[],r',xs,xs',_,h,k=>by cases h
 |n+1,i,o::r,r',xs,xs',hi,h,k=>by
  subst hi;unfold QgH at h;split at h
  .rename_i q1 q0;split at h
   .cases h
   .rename_i d hd;split at h
    .cases h
    .rename_i q2;split at h
     .cases h
     .rename_i hw;simp[Je]at h;exact .wo (WO.skip (QM hw) hd q2 (WO.nil YT.mk)) (Qek hT n _ (by simp) h k) q0 hd q1
     .rename_i hw;split at h
      .cases h
      .rename_i x hv;simp[Je]at h;exact .wo (Y8 (QM hw) hd q2 (Qav hT hv) (WO.nil YT.mk)) (Qek hT n _ (by simp) h k) q0 hd q1
  .cases h
theorem Qmc{H:Qd}{p:Bx}{r:Lx}(h:ptX [] p=some r):ptX H p=some r:=by
 unfold ptX at h⊢
 grind[YN]
theorem Qd6{o:Oper}{e:Env}{H:Qd}{x:A}(h:Qc7 T o e []=some x):Qc7 T o e H=some x:=by
 unfold Qc7 at h⊢;split at h<;>first|exact h|skip
 split at h
 .cases h
 grind[Qmc]
def Qej(T:TyX)(N:Nat)(cat:List Nat)(l:List Oper)(ds:List Nat)(env:Env)(H1:Qd):Nat->Nat->List Oper->List A->Option (List Oper×List A)
 |0,_,r,xs=>some (r,xs)
 |_+1,_,[],_=>none
 |n+1,i,o::r,xs=>match o.dst with
  |none=>none
  |some d=>match Nat.blt d N with
   |false=>none
   |true=>match YQ ⟨l⟩ o (Yf (Qn o) 0 ds xs env)with
    |none=>none
    |some false=>match YN cat i with
     |some 2=>(match QcS xs (.tup [])with
      |.mk xs'=>Qej T N cat l ds env H1 n (i+1) r xs')
     |some 3=>(match QcS xs (.tup [])with
      |.mk xs'=>Qej T N cat l ds env H1 n (i+1) r xs')
     |_=>none
    |some true=>match YN cat i with
     |some 2=>(match Qc7 T o (Yf (Qn o) 0 ds xs env) H1 with
      |none=>none
      |some x=>match QcS xs x with
       |.mk xs'=>Qej T N cat l ds env H1 n (i+1) r xs')
     |some 3=>(match Qc7 T o (Yf (Qn o) 0 ds xs env) []with
      |none=>none
      |some x=>match QcS xs x with
       |.mk xs'=>Qej T N cat l ds env H1 n (i+1) r xs')
     |_=>none
theorem QbI(hT:QbV P T):∀(n i:Nat) {r r':List Oper} {xs xs':List A},i=xs.length->Qej T N cat l ds env H1 n i r xs=some (r',xs')->DB P N m cat l ds env H H1 K r' xs'->DB P N m cat l ds env H H1 K r xs
 |0,i,r,r',xs,xs',_,h,k=>by cases h;exact k
 |n+1,i,[],r',xs,xs',_,h,k=>by cases h
 |n+1,i,o::r,r',xs,xs',hi,h,k=>by
  subst hi;unfold Qej at h;split at h
  .cases h
  .rename_i d hd;split at h
   .cases h
   .rename_i q2;split at h
    .cases h
    .rename_i hw;split at h
     .rename_i q0;simp[Je]at h;exact .wo1 (WO.skip (QM hw) hd q2 (WO.nil YT.mk)) (QbI hT n _ (by simp) h k) q0 hd
     .rename_i q0;simp[Je]at h;exact .wo2 (WO.skip (QM hw) hd q2 (WO.nil YT.mk)) (WO.skip (QM hw) hd q2 (WO.nil YT.mk)) (QbI hT n _ (by simp) h k) q0 hd
     .cases h
    .rename_i hw;split at h
     .rename_i q0;split at h
      .cases h
      .rename_i x hv;simp[Je]at h;exact .wo1 (Y8 (QM hw) hd q2 (Qav hT hv) (WO.nil YT.mk)) (QbI hT n _ (by simp) h k) q0 hd
     .rename_i q0;split at h
      .cases h
      .rename_i x hv;simp[Je]at h;exact .wo2 (Y8 (QM hw) hd q2 (Qav hT (Qd6 hv)) (WO.nil YT.mk)) (Y8 (QM hw) hd q2 (Qav hT (Qd6 hv)) (WO.nil YT.mk)) (QbI hT n _ (by simp) h k) q0 hd
     .cases h
end
def chkF(L:List (Nat×List (Nat×Nat)))(fs:List (Nat×Nat×Nat)):Bool:=
 fs.all λe=>match QbC L e.1 with
  |some pl=>(match YN pl e.2.1 with
   |some q=>Nat.beq q.1 e.2.2&& !(Nat.beq q.2 0)
   |none=>false)
  |none=>false
theorem PL.get{P:Program}{fs:List Field}{d:List (Nat×Nat)}(h:PL P fs d):∀{f a n:Nat},YN d f=some (a,n)->∃fd,fs[f]?=some fd/\fd.offset=a/\ ∀w,(sizeOf fd.type).run P w=.ok n w:=by
 induction h with
 |nil=>intro f a n h;cases h
 |cons h k g=>
  intro f a n e;cases f with
  |zero=>cases e;grind
  |succ f=>grind[YN]
theorem Qnz{P:Program}{L:List (Nat×List (Nat×Nat))}{fs:List (Nat×Nat×Nat)}(j:∀e∈L,Qdn P e.1 e.2)(h:chkF L fs=true):∀e∈fs,∃n,Qai P e.1 e.2.1 e.2.2 n:=by
 intro e g;have:=Xs.1 h e g;split at this
 .rename_i t a;split at this
  .rename_i q l;obtain⟨i,n⟩:=q;simp only[XW,Bool.not_eq_true']at this;have d:=XQ this.1;obtain⟨f,k,m⟩:=j _ (Qaw a);obtain⟨s,u,r,p⟩:=PL.get m l;refine⟨n,⟨⟨_,s,k,by grind,r.trans d,p,?_⟩⟩⟩
   grind[Nat.beq_refl]
  .cases this
 .cases this
section
variable {P:Program} {Z:TyZ} {h0 N:Nat} {all:Array Oper} {o:Oper} {l:List Oper} {env:Env} {H:Qd} {Q:QG} {d:Nat}
theorem Cdz(j:Qch P Z){β γ:Type}{F:Option β}{F':β->Option γ}{r:γ}{f:Nat}{args a:List A}{Hc:Qd}{w:β->A}{Hr:β->Qd}(π:List Nat)(h:F.bind F'=some r)(t:∀v,F=some v->C P f a Hc (RQ w Hr v))
  (e:Qfe Z o env=some (d,f,args))(g:∀v,F=some v->F' v=some r->WO P h0 N all l (up env d (YM (rho π H.length) (w v))) (QX H π ((Hr v).map (QZ (rho π H.length)))) Q)
  (hargs:args=Qak (rho π H.length) a)(s:π.map (λp=>H[p]?)=(Hc.map (QZ (rho π H.length))).map some)(hπ:π.Nodup)(hg:YQ all o env=some true)(n:Nat.blt d N=true)(k:Nat.ble h0 H.length=true):WO P h0 N all (o::l) env H Q:=by
 obtain⟨v,m,u⟩:=Yh h;obtain⟨q,i⟩:=Qd1 (H:=H) j e;refine Qy π i (t v m) ?_ hargs s hπ (QM hg) q n k
 grind
end
inductive FLL where
 |mk (l:List (List A))
def cpLL(sel:List Nat):List (List A)->FLL
 |[]=>.mk []
 |a::r=>match cpL sel a,cpLL sel r with
  |.mk a',.mk r'=>.mk (a'::r')
inductive FBk where
 |mk (b:Blk)
def cpBk(sel:List Nat):Blk->FBk
 |.cells t cs=>match cpL sel cs with
  |.mk l=>.mk (.cells t l)
 |.rowr t k es=>match cpLL sel es with
  |.mk l=>.mk (.rowr t k l)
 |.wins t a n c=>match QhL sel ixL a with
  |.mk a'=>.mk (.wins t a' n c)
 |.ents t a b es=>match QhL sel ixL a,QhL sel ixL b with
  |.mk a',.mk b'=>.mk (.ents t a' b' es)
 |b=>.mk b
def selD(H:Qd)(sel:List Nat):List Nat->FB
 |[]=>.mk []
 |a::r=>match YN H a with
  |some b=>(match cpBk sel b,selD H sel r with
   |.mk b',.mk l=>.mk (b'::l))
  |none=>.mk []
def retC(sel sl:List Nat)(env:Env)(H:Qd):Option (Env×Qd):=
 match QkF sel env sl [],selD H sel sel with
 |.mk e,.mk h=>some (e,h)
theorem Rx{P:Program}{e:Nat}{fn:Func}{env E':Env}{H H':Qd}{Qr:A->Qd->Prop}{f:A}(π sl:List Nat)(_:retC π sl env H=some (E',H'))(d:QbW P fn E' H' f)(g:Qr f H')(a:π.take e=List.range e:=by exact rfl)
  (hH:π.map (λp=>H[p]?)=(H'.map (QZ (rho π H.length))).map some:=by exact rfl)(hπ:π.Nodup:=by decide)(hE:QbY (rho π H.length) env E':=by(repeat' (first|exact trivial|refine⟨rfl,?_⟩))):Jf P e fn Qr .ret env H:=
 ⟨E',H',f,Lr π a hH hπ hE,d,g⟩
def nxL{T:Type}:List T->T->List T->Prop:=λl x rem=>l=x::rem
def QiB{S T B:Type}(step:S->Option (List T×Ctl S B)):Nat->S->Option (List T×B)
 |0,_=>none
 |n+1,s=>(step s).bind λp=>match p.2 with
  |.cont s'=>(QiB step n s').bind λq=>some (p.1++q.1,q.2)
  |.done b=>some (p.1,b)
section
variable {T:Type} {X:Ctx T} {P:Program} {h0 N:Nat} {c:Code} {env:Env} {H:Qd} {st:YSt T} {Q:Jb T}
def QlP{S B:Type}(h0:Nat)(E:S->Env)(Hp:S->Qd)(d:Ctl S B)(rest:List T)(Q:Jb T):Jb T
 |.normal,env,H,st=>∃s,d=.cont s/\Le h0 env H (E s) (Hp s)/\st=.on rest
 |.exit id,env,H,st=>Q (.exit id) env H st
 |.ret,env,H,st=>Q .ret env H st
theorem QjR{S B:Type}{step:S->Option (List T×Ctl S B)}{E:S->Env}{Hp:S->Qd}{m:Nat}{s0:S}{j rem:List T}{b:B}(h:QiB step m s0=some (j,b))(z:Le h0 env H (E s0) (Hp s0))
  (a:∀s zs d rest,step s=some (zs,d)->(∀b',d=.done b'->b'=b/\rest=rem)->TCy X P h0 N c (E s) (Hp s) (.on (zs++rest)) (QlP h0 E Hp d rest Q)):TCy X P h0 N (.loop c) env H (.on (j++rem)) Q:=by
 refine QjS (I:=λn env H r=>∃s g,QiB step n s=some (g,b)/\r=.on (g++rem)/\Le h0 env H (E s) (Hp s)) ?_ ⟨s0,j,h,rfl,z⟩;rintro n env H r ⟨s,g,f,rfl,l⟩;cases n with
 |zero=>cases f
 |succ n=>
  obtain⟨⟨zs,d⟩,t,f⟩:=Yh f;refine TCy.le l ?_;cases d with
  |cont F=>
   obtain⟨⟨y,G⟩,w,f⟩:=Yh f;cases f;rw[Vi];refine(a s zs (.cont F) (y++rem) t (λb' e=>by cases e)).mono ?_;rintro x i H' p q;cases x with
   |normal=>
    obtain⟨u,e,k,rfl⟩:=q;cases e;exact⟨n,Xn n,_,_,w,rfl,k⟩
   |exit id=>exact q
   |ret=>exact q
  |done b'=>
   cases f;refine(a s _ (.done b) rem t (λb' e=>by cases e;exact⟨rfl,rfl⟩)).mono ?_;rintro x i H' p q;cases x with
   |normal=>obtain⟨u,e,_⟩:=q;cases e
   |exit id=>exact q
   |ret=>exact q
def kqY(X:Ctx T)(P:Program)(h0 N:Nat):List Kf->Jb T->Jb T
 |[],Q=>Q
 |.seq c::k,Q=>SeqY X P h0 N c (kqY X P h0 N k Q)
 |.blo id::k,Q=>BloY id (kqY X P h0 N k Q)
 |.unr c::k,Q=>λ_ _ _ _=>False
theorem TCy.lf{k:List Kf}(h:TC P h0 N c env H (λx env H=>kqY X P h0 N k Q x env H st)):TCy X P h0 N c env H st (kqY X P h0 N k Q):=TCy.lift h
theorem WOy.y1{all:Array Oper}{o:Oper}{r:List Oper}{d:Nat}{x:T}{l:List T}{e:T->A}{y z:Operand}{f:Array TypeId}(hE:X.enc=λx=>[e x])(h:X.nx=nxL)(j:o.op=.call {callee:=.value y,args:= #[z],argTypes:=f})(a:opA env y=.fn (.yield X.l) [] [])(g:opA env z=e x)(i:Yq (e x)=true)
  (k:WOy X P h0 N all r (up env d (.bool true)) H (.on l) Q)(m:WOy X P h0 N all r (up env d (.bool false)) H (.off l) Q)(hg:QI all o env true:=by exact rfl)(hd:o.dst=some d:=by exact rfl)(hNd:Nat.blt d N=true:=by exact rfl):WOy X P h0 N all (o::r) env H (.on (x::l)) Q:=by
 refine WOy.yield (by rw[h];rfl) hg hd hNd ?_ ?_
 .rw[hE];exact Qkg j a g i
 grind
theorem WOy.y2{all:Array Oper}{o:Oper}{r:List Oper}{d:Nat}{x:T}{l:List T}{a i:T->A}{y j k:Operand}{n:Array TypeId}(hE:X.enc=λx=>[a x,i x])(p:X.nx=nxL)(q:o.op=.call {callee:=.value y,args:= #[j,k],argTypes:=n})(m:opA env y=.fn (.yield X.l) [] [])(g:opA env j=a x)(f:opA env k=i x)(e:Yq (a x)=true)(h:Yq (i x)=true)
  (s:WOy X P h0 N all r (up env d (.bool true)) H (.on l) Q)(t:WOy X P h0 N all r (up env d (.bool false)) H (.off l) Q)(hg:QI all o env true:=by exact rfl)(hd:o.dst=some d:=by exact rfl)(hNd:Nat.blt d N=true:=by exact rfl):WOy X P h0 N all (o::r) env H (.on (x::l)) Q:=by
 refine WOy.yield (by rw[p];rfl) hg hd hNd ?_ ?_
 .rw[hE];exact Qi8 q m g f e h
 grind
end
section
variable {T:Type} {X:Ctx T} {P:Program} {h0 N:Nat} {c c':Code} {env:Env} {H:Qd} {st:YSt T} {Q:Jb T}
theorem TCy.lp{S B:Type}{step:S->Option (List T×Ctl S B)}{E':S->Env}{H':S->Qd}{m:Nat}{s0:S}{ys rem:List T}{b:B}(sel keep:List Nat)(nE:S->Env)(nH:S->List (Nat×Blk))(h:QiB step m s0=some (ys,b))(_:∀s,QjI sel keep (nE s) (nH s) env H=some (E' s,H' s))(hI:Le h0 env H (E' s0) (H' s0))
  (body:∀s zs d rest,step s=some (zs,d)->(∀b',d=.done b'->b'=b/\rest=rem)->TCy X P h0 N c (E' s) (H' s) (.on (zs++rest)) (QlP h0 E' H' d rest Q)):TCy X P h0 N (.loop c) env H (.on (ys++rem)) Q:=QjR h hI body
end
open Go.MapKept
section
variable {fr ro:Nat->Prop} {σ:Sig} {H:Qd} {w:World}
end
end Go.Sw
namespace Go.Sw
open Go.MapKept
def QbB{α β:Type}(ek:α->A)(ev:β->List A)(l:List (α×Option (List β))):List (A×Option (List (List A))):=l.map λp=>(ek p.1,p.2.map (List.map ev))
def Qiy{α β:Type}[DecidableEq α](l:List (α×Option (List β)))(x:α):List (α×Option (List β)):=l.map λp=>bif decide (p.1=x)then(p.1,none)else p
section
variable {P:Program} {kt:TypeId} {α β:Type} [DecidableEq α] {ek:α->A} {ev:β->List A} {ro:Nat->Prop} {w:World} {t k:Nat} (K:Ju P kt ek)
include K
theorem Qi2{x:α}:∀{l:List (α×Option (List β))} {es:List MapEntry},MO ro w t k (QbB ek ev l) es->MO ro w t k (QbB ek ev (Qiy l x)) es
 |[],es,h=>h
 |p::l,es,h=>by
  obtain⟨e,l',rfl,h1,h2,h3⟩:=h;by_cases q:p.1=x
  .refine⟨e,l',rfl,by grind,λrows hr=>?_,Qi2 h3⟩
   grind
  .refine⟨e,l',rfl,by grind,(by grind),Qi2 h3⟩
omit K
theorem Qdp{x:α}{c:Nat}:∀{l:List (α×Option (List β))} {es:List MapEntry},QdQ (QbB ek ev (Qiy l x)) es c->QdQ (QbB ek ev l) es c
 |[],es,h=>by cases es<;>exact h.elim
 |p::l,[],h=>h.elim
 |p::l,e::es,h=>by
  rcases h with⟨h1,h2⟩|h
  .by_cases q:p.1=x
   .grind
   .exact .inl ⟨by grind,h2⟩
  .exact .inr (Qdp h)
theorem Qka{x:α}:∀{l:List (α×Option (List β))} {es:List MapEntry},Qik (QbB ek ev l) es->Qik (QbB ek ev (Qiy l x)) es
 |[],es,h=>by cases es<;>trivial
 |p::l,[],h=>trivial
 |p::l,e::es,h=>by
  obtain⟨h1,h2⟩:=h;refine⟨λc q1 q2 q3=>?_,Qka h2⟩;by_cases q:p.1=x
  .grind
  .exact h1 c (by grind) q2 (Qdp q3)
include K
theorem MO.find:∀{l:List (α×Option (List β))} {es:List MapEntry},MO ro w t k (QbB ek ev l) es->∀(x:α),(es.map (·.key)).Nodup->
  ((∀e:MapEntry,e∈es->e.key≠QP (ek x))->Y3 l x=none)/\
  (∀(j:Nat) (e:MapEntry),es[j]?=some e->e.key=QP (ek x)->∃q,Y3 l x=some q/\(∀rows,q=some rows->SO ro w t k (rows.map ev) e.val)/\
   ∀c p n cap,q.isSome=true->e.val=.slice (some ⟨c,p,none⟩) n cap->QdQ (QbB ek ev l) es c/\(Qik (QbB ek ev l) es->¬QdQ (QbB ek ev (Qiy l x)) es c))
 |[],es,h,x,_=>by
  cases(show es=[]from h);exact⟨λ_=>rfl,(by simp)⟩
 |p::l,es,h,x,hn=>by
  obtain⟨e0,l',rfl,h1,h2,h3⟩:=h;have hk:=VR.val (K.scl _) h1;simp only[Vj,List.nodup_cons]at hn;obtain⟨a1,a2⟩:=MO.find (l:=l) h3 x hn.2;by_cases hp:p.1=x
  .subst hp;constructor
   .grind
   .intro j e he hx;cases j with
    |zero=>
     simp only[XE,Option.some.injEq]at he;subst he;refine⟨p.2,by simp[Y3],(by grind),λc p' n cap hs hv=>⟨.inl (by grind),λhd hq=>?_⟩⟩;rcases hq with⟨q1,_⟩|hq
     .simp at q1
     .exact hd.1 c (by grind) ⟨p',n,cap,hv⟩ (Qdp (l:=l) hq)
    |succ j=>
     grind
  .have e1:Y3 (p::l) x=Y3 l x:=by simp[Y3,hp]
   rw[e1];constructor
   .grind
   .intro j e he hx;cases j with
    |zero=>
     simp only[XE,Option.some.injEq]at he;subst he;exact absurd (K.inj _ _ (hk.symm.trans hx)) hp
    |succ j=>
     obtain⟨q,m,i,g⟩:=a2 j e (by grind) hx;refine⟨q,m,i,λc p' n cap hs hv=>?_⟩;obtain⟨a,d⟩:=g c p' n cap hs hv;refine⟨.inr a,λhd hq=>?_⟩;rcases hq with⟨q1,f⟩|hq
     .exact hd.1 c (by grind) f a
     .exact d hd.2 hq
end
section
variable {P:Program} {o:Oper} {env:Env} {H:Qd}
variable {T kt et:Nat} {α β:Type} [DecidableEq α] {ek:α->A} {ev:β->List A} {x y:Operand} {i t k:Nat} {l:List (α×Option (List β))} {key:α} {rows:List β}
end
end Go.Sw
namespace Go.Sw
open Go.MapKept
theorem MO.append{ro:Nat->Prop}{w:World}{t k:Nat}:∀{l m:List (A×Option (List (List A)))} {es fs:List MapEntry},MO ro w t k l es->MO ro w t k m fs->MO ro w t k (l++m) (es++fs)
 |[],m,es,fs,h,q=>by cases(show es=[]from h);exact q
 |p::l,m,es,fs,h,q=>by
  obtain⟨e,l',rfl,h1,h2,h3⟩:=h;exact⟨e,l'++fs,rfl,h1,h2,MO.append h3 q⟩
theorem MO.length{ro:Nat->Prop}{w:World}{t k:Nat}:∀{l:List (A×Option (List (List A)))} {es:List MapEntry},MO ro w t k l es->es.length=l.length
 |[],es,h=>by cases(show es=[]from h);rfl
 |p::l,es,h=>by
  obtain⟨e,l',rfl,h1,h2,h3⟩:=h;simp[MO.length h3]
def SlB(v:Value)(c:Nat):Prop:=∃p n cap,v=.slice (some ⟨c,p,none⟩) n cap
section
variable {P:Program} {kt:TypeId} {α β:Type} [DecidableEq α] {ek:α->A} {ev:β->List A} {ro:Nat->Prop} {w:World} {t k:Nat} (K:Ju P kt ek)
def Qdc{α β:Type}[DecidableEq α](l:List (α×Option (List β)))(x:α)(rows:List β):List (α×Option (List β)):=l.map λp=>bif decide (p.1=x)then(p.1,some rows)else p
include K
theorem Qft{x:α}{rows:List β}:∀{l:List (α×Option (List β))} {es:List MapEntry},MO ro w t k (QbB ek ev l) es->(∀e∈es,e.key≠QP (ek x))->Qdc l x rows=l
 |[],es,h,q=>rfl
 |p::l,es,h,q=>by
  obtain⟨e,l',rfl,h1,h2,h3⟩:=h;have hk:=VR.val (K.scl _) h1;have hp:p.1≠x:=(by grind);have:=Qft h3 (λe he=>q e (by simp[he])) (rows:=rows)
  simp_all[Qdc]
theorem MO.put{x:α}{rows:List β}{v:Value}(i:SO ro w t k (rows.map ev) v):∀{l:List (α×Option (List β))} {es:List MapEntry} {j:Nat} {e:MapEntry},MO ro w t k (QbB ek ev l) es->
  (es.map (·.key)).Nodup->es[j]?=some e->e.key=QP (ek x)->
  MO ro w t k (QbB ek ev (Qdc l x rows)) (es.modify j λe=>{e with key:=QP (ek x),val:=v})/\
  (∀c,QdQ (QbB ek ev (Qdc l x rows)) (es.modify j λe=>{e with key:=QP (ek x),val:=v}) c->QdQ (QbB ek ev l) es c\/SlB v c)/\
  (Qik (QbB ek ev l) es->(∀c,QdQ (QbB ek ev l) es c->¬SlB v c)->Qik (QbB ek ev (Qdc l x rows)) (es.modify j λe=>{e with key:=QP (ek x),val:=v}))
 |[],es,j,e,h,hn,he,hk=>by cases(show es=[]from h);simp at he
 |p::l,es,j,e,h,hn,he,hk=>by
  obtain⟨e0,l',rfl,h1,h2,h3⟩:=h;have hk0:=VR.val (K.scl _) h1;simp only[Vj,List.nodup_cons]at hn;cases j with
  |zero=>
   simp[XE,Option.some.injEq]at he;subst he;have hp:=K.inj _ _ (hk0.symm.trans hk);have e0':Qdc l x rows=l:=Qft K h3 λe he z=>hn.1 (by rw[hk, <- z];exact VF he);have e1:Qdc (p::l) x rows=(p.1,some rows)::l:=by
    have:Qdc (p::l) x rows=(p.1,some rows)::Qdc l x rows:=by simp[Qdc,hp]
    rw[this,e0']
   rw[e1];refine⟨⟨_,l',rfl,?_,?_,h3⟩,?_,?_⟩
   .rw[<- hp];exact QcU (K.scl _)
   .intro d u;cases u;exact i
   .rintro c (⟨_,q⟩|q)
    .exact .inr q
    .exact .inl (.inr q)
   .rintro⟨n,f⟩ a;exact⟨λc _ q z=>a c (.inr z) q,f⟩
  |succ j=>
   have hp:p.1≠x:=by
    intro q;refine hn.1 (Xe.2 ⟨e,VG he,?_⟩);rw[hk,hk0,q]
   obtain⟨y,r,s⟩:=MO.put i h3 hn.2 he hk;have e1:Qdc (p::l) x rows=p::Qdc l x rows:=by simp[Qdc,hp]
   rw[e1];refine⟨⟨_,_,rfl,h1,h2,y⟩,?_,?_⟩
   .rintro c (q|q)
    .exact .inl (.inl q)
    .exact(r c q).imp .inr id
   .rintro⟨n,f⟩ a;refine⟨λc m g z=>?_,s f λc B=>a c (.inr B)⟩;rcases r c z with z|z
    .exact n c m g z
    .exact a c (.inl ⟨m,g⟩) z
end
section
variable {P:Program} {o:Oper} {env:Env} {H:Qd}
variable {T kt et:Nat} {α β:Type} [DecidableEq α] {ek:α->A} {ev:β->List A} {x y zz:Operand} {i j t k n:Nat} {l m:List (α×Option (List β))} {key:α} {rows:List β}
end
end Go.Sw
namespace Go.Sw
open Go.MapKept
section
variable {fr ro:Nat->Prop} {σ:Sig} {H:Qd} {w:World}
theorem MO.er{t k:Nat}:∀{es:List (A×Option (List (List A)))} {l:List MapEntry},MO ro w t k es l->ER ro [] w (es.map λe=>(e.1,.any)) l
 |[],_,h=>h
 |x::r,_,⟨e,l',h1,h2,h3,h4⟩=>⟨e,l',h1,h2,trivial,MO.er h4⟩
end
section
variable {P:Program} {o:Oper} {env:Env} {H:Qd} {T kt et i t k:Nat} {x:Operand} {es:List (A×Option (List (List A)))}
end
section
variable {P:Program} {o:Oper} {env:Env} {H:Qd}
variable {T kt et:Nat} {α β:Type} [DecidableEq α] {ek:α->A} {ev:β->List A} {x y zz:Operand} {i j t k n:Nat} {l m:List (α×Option (List β))} {key:α} {rows:List β}
end
end Go.Sw
namespace Go.Sw
open Go.MapKept
section
variable {P:Program} {o:Oper} {env:Env} {H:Qd}
variable {T kt et:Nat} {α β:Type} [DecidableEq α] {ek:α->A} {ev:β->List A} {x y zz:Operand} {i j t k n:Nat} {l m:List (α×Option (List β))} {key:α} {rows:List β}
end
end Go.Sw
