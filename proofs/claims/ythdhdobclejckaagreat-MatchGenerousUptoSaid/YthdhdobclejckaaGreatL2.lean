/- The rules by which the code is walked, with what they rest on (part 2). -/
import Derived.Test.YthdhdobclejckaaGreatL1
import Derived.Below
import GoSem.ClaimChange
import Derived.Shelf.Strings.Search3
import Derived.Lib.LazyBuf
import Derived.Shelf.Sort.Plain
import Derived.Shelf.Slices.In.SortNone
import Derived.Shelf.Slices.CompactI
import Derived.RangeFuncIn
import Derived.RangeFuncSeq
import Derived.RangeFuncNested
import Derived.Lib.Bytealg
import Derived.Laws.Externs
import Derived.LaidLaws
import Derived.Lib.LaidTab
import Derived.ChangeArms
import Derived.ChangeSame
import Derived.Laws.BytesString
set_option linter.unusedVariables false
set_option linter.unusedSectionVars false
set_option linter.unusedSimpArgs false
namespace Go.Sw
open Go.Sort Go.Proofs Go.Shelf
theorem Qdi{α:Type}{k:Nat}:∀(vs:List (List α)) (j:Nat),(∀v∈vs,v.length=k)->j<vs.length*k->vs.flatten[j]?=(vs[j/k]?).bind λv=>v[j%k]?
 |[],j,_,h=>by simp at h
 |v::vs,j,hk,h=>by
  have hv:=hk v (by simp);have k0:0<k:=by
   rcases Nat.eq_zero_or_pos k with q|q
   .subst q;simp at h
   .exact q
  rw[Vj];by_cases q:j<k
  .rw[XL (by omega),Nat.div_eq_of_lt q,Nat.mod_eq_of_lt q];simp
  .rw[XM (by omega),hv,Qdi vs (j-k) (λv hv=>hk v (by simp[hv])) (by simp[Xm]at h;omega)];have d:j/k=(j-k)/k+1:=by rw[Nat.div_eq_sub_div k0 (by omega)]
   have a:j%k=(j-k)%k:=Nat.mod_eq_sub_mod (by omega);rw[d,a,XE]
theorem Qaj{α:Type}{k:Nat}:∀(vs:List (List α)),(∀v∈vs,v.length=k)->vs.flatten.length=vs.length*k
 |[],_=>by simp
 |v::vs,h=>by rw[Vj,X2,Qaj vs (λv hv=>h v (by simp[hv])),h v (by simp),XZ,Xm];omega
theorem QaV{α:Type}(F:List α)(j:Nat):F.toArray[j]?=F[j]? :=by simp
theorem Qgy{α:Type}[Inhabited α](F:List α)(j:Nat)(h:j<F.length):F[j]?=some (F.toArray[j]!):=by simp[h]
theorem QgD{β:Type}[Inhabited β]{enc:β->List Value}{k:Nat}(a:∀x,(enc x).length=k)(d:Array β):flatK enc k d=((d.toList.map enc).flatten).toArray:=by
 have f:∀v∈d.toList.map enc,v.length=k:=by
  intro v j;obtain⟨x,_,rfl⟩:=Xe.1 j;exact a x
 apply Array.ext_getElem?;intro t;rw[QaV ((d.toList.map enc).flatten) t];by_cases h:t<d.size*k
 .rw[Qdi _ t f (by simpa using h)];have i:0<k:=by
   rcases Nat.eq_zero_or_pos k with q|q
   .subst q;simp at h
   .exact q
  have h1:=Nat.div_lt_of_lt_mul (by rw[Nat.mul_comm];exact h);have l:t%k<k:=Nat.mod_lt _ i;have g:t<(flatK enc k d).size:=by simpa using h
  have e:=get_flatK enc k d t h;rw[getElem!_pos (flatK enc k d) t g]at e;rw[Array.getElem?_eq_getElem g,e];simp[h1];rw[XJ (by rw[a];exact l)];rfl
 .have e:(d.toList.map enc).flatten.length=d.size*k:=by rw[Qaj _ f];simp
  rw[Array.getElem?_eq_none (by simpa using h),XN (by omega)]
section
variable {ro:Nat->Prop} {σ:Sig} {w:World} {T:Type} {enc:T->List A} {k:Nat}
theorem RL.parts:∀{l:List T} {lv:List Value},RL ro σ w k (l.map enc) lv->
  ∃(ps:List (T×List Value)) (rest:List Value),ps.map (·.1)=l/\lv=(ps.map (·.2)).flatten++rest/\ ∀p∈ps,p.2.length=k/\LR ro σ w (enc p.1) p.2/\ ∀v∈p.2,Qv v
 |[],lv,_=>⟨[],lv,rfl,rfl,by simp⟩
 |x::l,lv,h=>by
  obtain⟨l1,l2,rfl,h1,⟨h2,h3⟩,h4⟩:=h;obtain⟨ps,rest,e1,rfl,h5⟩:=RL.parts h4;refine⟨(x,l1)::ps,rest,by simp[e1],by simp,?_⟩;intro p hp;rcases X5.1 hp with rfl|hp
  .exact⟨by rw[h2.length];exact h1,h2,h3⟩
  .exact h5 p hp
theorem Qds(hk:∀x,(enc x).length=k):∀{ps:List (T×List Value)} {rest:List Value},(∀p∈ps,LR ro σ w (enc p.1) p.2/\ ∀v∈p.2,Qv v)->RL ro σ w k ((ps.map (·.1)).map enc) ((ps.map (·.2)).flatten++rest)
 |[],_,_=>trivial
 |p::ps,rest,h=>by
  refine⟨p.2,(ps.map (·.2)).flatten++rest,by simp,hk _,h p (by simp),Qds hk λq hq=>h q (by simp[hq])⟩
end
structure Elt (ro:Nat->Prop) (w:World) {T:Type} (enc:T->List A) (k:Nat) (l:List T) where
 x:T
 vs:List Value
 mem:x∈l
 len:vs.length=k
 rel:LR ro [] w (enc x) vs
 plain:∀v∈vs,Qv v
theorem QiG{v:Value}(h:Qv v):v.oneCell'=true:=by cases v<;>first|rfl|exact h.elim
theorem Ql4{P:Program}{ρ:Ren}(L:SlLaysF0.n6 P ρ){T:Type}[DecidableEq T]{enc:T->List A}{k t g:Nat}{cap:List A}{l l':List T}{cf:T->T->Option Int}(hs:Qgd cf l=some l')
  (a3:∀x y c,cf x y=some c->C P g ([.agg (enc x),.agg (enc y)]++cap) [] (λa H=>a=.int .i64 c/\H=[]))
  (aE:∀w,(isAgg (ρ.t 24)).run P w=.ok true w)(zE:∀w,(Go.sizeOf (ρ.t 24)).run P w=.ok k w)(eg:∀args w,(callFunc g args).run P w=.ok (.enter g args) w)
  (hk:∀x,(enc x).length=k)(hd:Yt cap=true):
  C P (ρ.f 6) [.osl 0 0 l.length k,.fn (.func g) [] cap] [.row t k (l.map enc)] (λa H=>a=.tup []/\H=[.row t k (l'.map enc)]):=by
 intro fr G σ vals w s hv;obtain⟨vs,r1,rfl,bl,vf,r2,rfl,bp,hr⟩:=hv;cases(show r2=[]from hr);obtain⟨lf,lc,rfl,h1,bb⟩:=bp;cases(show lf=[]from h1);have ao:LR G [] w cap lc:=LR.data hd bb;obtain⟨a7,am,Q,aw,a1⟩:=Qgc hs;have E:∀(ad:Option Addr) (c:Nat),vs=.slice ad 0 c->l=[]->
   Calls P (ρ.f 6) [vs,.func (.func g) #[] lc.toArray].toArray w λe w'=>∃v r H' ag τ,e=.returned v/\(r=.tup []/\H'=[.row t k (l'.map enc)])/\Sim fr ag (σ++τ) H' w'/\VR ag (σ++τ) w' r v/\Qg fr G w ag w':=by
  rintro ad c rfl rfl;have ae:l'=[]:=by rw[<- a1];rfl
  subst ae;refine(AnyF.slices_SortFunc_none L ad c (.func (.func g) #[] lc.toArray) w).mono ?_;rintro e w' ⟨rfl,rfl⟩;exact⟨_,_,_,G,[],rfl,⟨rfl,rfl⟩,by simpa using s,⟨[],rfl,rfl⟩,Qg.refl _ _ _⟩
 rcases bl with⟨h0,rfl⟩|⟨b,p,cp,t',m,q1,rfl,q2,⟨q3,bs⟩,q4,q5⟩
 .exact E none 0 rfl (VF.1 h0)
 .by_cases ae:l=[]
  .subst ae;exact E _ cp rfl rfl
  .have br:0<l.length:=List.length_pos_iff.2 ae;obtain rfl:=q2 (Vd br q3);obtain⟨lv,e1,e2⟩:=s.blk 0 _ _ q1 rfl;obtain⟨hb,aj,a5⟩:=s.own 0 b _ q1 rfl rfl;obtain⟨V,J,a0,rfl,ah⟩:=RL.parts e2
   let α:=Elt G w enc k l
   have a4:∀p∈V,p.1∈l:=λp hp=>by rw[<- a0];exact VC hp
   let ds:List α:=V.attach.map λp=>⟨p.1.1,p.1.2,a4 _ p.2,(ah _ p.2).1,(ah _ p.2).2.1,(ah _ p.2).2.2⟩
   have a8:∀{γ:Type} (f:T×List Value->γ),V.attach.map (λp=>f p.1)=V.map f:=λf=>by simp
   have N:ds.map (·.x)=l:=by
    show(V.attach.map _).map _=_;rw[List.map_map];exact(a8 (·.1)).trans a0
   have ai:ds.map (·.vs)=V.map (·.2):=by
    show(V.attach.map _).map _=_;rw[List.map_map];exact a8 (·.2)
   have au:ds.length=l.length:=by rw[<- N];simp
   have az:ds≠[]:=by intro q;rw[q]at au;simp at au;omega
   let inh:Inhabited α:=⟨ds.head az⟩
   let enc':α->List Value:=λa=>a.vs
   let cf':α->α->Int:=λx y=>(cf x.x y.x).getD 0
   have ac:∀x y:α,ltOf cf' x y=ltO cf x.x y.x:=by
    intro x y;obtain⟨c,B⟩:=am x.x x.mem y.x y.mem;simp only[ltOf,ltO,cf',B,Option.getD_some]
   have hO:SWO (ltOf cf'):=⟨λx=>by rw[ac];exact Q.irrefl _ x.mem,λx y z a b=>by rw[ac]at*;exact Q.trans _ x.mem _ y.mem _ z.mem a b,
    λx y z a b=>by rw[ac]at*;exact Q.ntrans _ x.mem _ y.mem _ z.mem a b⟩
   have ab:∀x:α,(enc' x).length=k:=λx=>x.len;have ay:flatK enc' k ds.toArray=((V.map (·.2)).flatten).toArray:=by
    rw[QgD ab];show((ds.map λa=>a.vs).flatten).toArray=_;rw[ai]
   have bm:∀v∈V.map (·.2),v.length=k:=by
    intro v hv;obtain⟨p,hp,rfl⟩:=Xe.1 hv;exact(ah p hp).1
   have X:(V.map (·.2)).flatten.length=ds.length*k:=by rw[Qaj _ bm, <- ai];simp
   have hH:HoldsK enc' k w b (0*k) ds.toArray:=by
    intro j hj;rw[ay]at hj⊢;simp only[List.size_toArray]at hj;constructor
    .unfold World.cell?;simp only[e1,Option.isSome_none,Xi,if_false,Nat.zero_mul,Xv];rw[QaV,XL hj];exact Qgy _ _ hj
    .unfold World.frozen?;simp only[e1];simp
   have aq:∀(d:Array α),d.size=ds.toArray.size->(putRowK enc' k w b (0*k) d).heap=w.heap.setIfInBounds b (.cells (((d.toList.map enc').flatten++J)).toArray t (0,0)):=by
    intro d u;have af:(d.toList.map enc').flatten.length=(V.map (·.2)).flatten.length:=by
     rw[Qaj _ (k:=k) (by intro v hv;obtain⟨x,_,rfl⟩:=Xe.1 hv;exact ab x),X];simp at u⊢;rw[u]
    unfold putRowK putRow mapBlock;show w.heap.modify b _=_;rw[QcZ e1];simp only[onCells];congr 2;rw[QgD ab];unfold putCells;apply Array.ext_getElem?;intro i;simp only[Array.getElem?_mapIdx,QaV,Nat.zero_mul,XT,true_and,Xv,Nat.sub_zero,List.size_toArray,id_eq];by_cases hi:i<(d.toList.map enc').flatten.length
    .rw[XL hi,XL (by rw[<- af];exact hi),XJ (by rw[<- af];exact hi),Qgy _ _ hi];exact congrArg some (Vq hi)
    .rw[XM (by omega),XM (by omega),af];cases(J[i-(V.map (·.2)).flatten.length]?)with
     |none=>rfl
     |some v=>
      rw[<- af];exact congrArg some (Vp hi)
   have R:∀(m:Nat) (os:Array Obj) (d:Array α),d.size=ds.toArray.size->
     (∀c,c<w.heap.size->c≠b->(sortWorldK enc' k w b (0*k) m d os).heap[c]?=w.heap[c]?)/\(sortWorldK enc' k w b (0*k) m d os).heap[b]?=some (.cells (((d.toList.map enc').flatten++J)).toArray t (0,0))/\
     w.heap.size<=(sortWorldK enc' k w b (0*k) m d os).heap.size:=by
    intro m os d u;have e:(sortWorldK enc' k w b (0*k) m d os).heap=w.heap.setIfInBounds b (.cells (((d.toList.map enc').flatten++J)).toArray t (0,0))++os:=by
     rw[<- aq d u];rfl
    rw[e];refine⟨λc B bi=>?_,?_,by simp⟩
    .rw[Array.getElem?_append_left (by simpa using B),Vc,Vp (λq=>bi q.symm)]
    .rw[Array.getElem?_append_left (by simpa using hb),Vc,Vq rfl,Vq hb]
   have O:∀(m:Nat) (os:Array Obj) (d:Array α),d.size=ds.toArray.size->∀c y,w.shape? c=some y->(sortWorldK enc' k w b (0*k) m d os).shape? c=some y:=by
    intro m os d u c y hy;obtain⟨g1,g2,g3⟩:=R m os d u;by_cases B:c=b
    .subst B;unfold World.shape? at hy⊢;rw[e1]at hy;rw[g2];simp only[Option.some.injEq]at hy⊢;rw[<- hy];congr 1;simp only[List.size_toArray,X2];rw[Qaj _ (k:=k) (by intro v hv;obtain⟨x,_,rfl⟩:=Xe.1 hv;exact ab x),X];simp at u⊢;rw[u]
    .unfold World.shape? at hy⊢;rw[g1 c (QjO hy) B];exact hy
   have al:∀(m:Nat) (os:Array Obj) (d:Array α),d.size=ds.toArray.size->∀τ,Ext G τ w G τ (sortWorldK enc' k w b (0*k) m d os):=by
    intro m os d u τ;obtain⟨g1,g2,g3⟩:=R m os d u;exact⟨λ_ q=>q,λc B=>g1 c (s.roLt c B) (λq=>aj (q▸B)),O m os d u,λ_ _ q=>q⟩
   have bj:CmpLays P g lc.toArray enc' k cf' b (0*k) ds.toArray.size w:=by
    intro m os dk a6 x y;obtain⟨c,B⟩:=am x.x x.mem y.x y.mem;have F:=al m os dk a6 [];have bd:=a3 _ _ _ B;generalize hW:sortWorldK enc' k w b (0*k) m dk os=W at*;have bh:w.heap.size<=W.heap.size:=by rw[<- hW];exact(R m os dk a6).2.2
    have sW:Sim (λc=>c<W.heap.size/\ ¬G c) G [] [] W:=
     ⟨rfl,s.roOk.to (λ_ q=>q) F.keep (λc B=>Vd (s.roLt c B) bh),λc B=>B.1,λc B hf=>hf.2 B,λi b x h=>by simp at h,λi j b x y h=>by simp at h,λi y x h=>by simp at h,λi b x c h=>by simp at h⟩
    have av:LR G [] W ([.agg (enc x.x),.agg (enc y.x)]++cap) ([.agg x.vs.toArray,.agg y.vs.toArray]++lc):=
     LR.append (show LR G [] W [A.agg (enc x.x),A.agg (enc y.x)] [Value.agg x.vs.toArray,Value.agg y.vs.toArray]from⟨_,_,rfl,⟨x.vs,rfl,x.rel.mono F⟩,_,_,rfl,⟨y.vs,rfl,y.rel.mono F⟩,rfl⟩) (ao.mono F)
    have M:=bd _ G [] _ W sW av;have bo:(([Value.agg x.vs.toArray,Value.agg y.vs.toArray]++lc).toArray:Array Value)= #[Value.agg (enc' x).toArray,Value.agg (enc' y).toArray]++lc.toArray:=by simp[enc']
    rw[bo]at M;refine M.mono ?_;rintro e w' ⟨v,r,H',ag,τ,rfl,⟨rfl,rfl⟩,s',bq,ev⟩;refine⟨?_,?_⟩
    .rw[show v=.int .i64 c from bq];simp only[cf',B,Option.getD_some]
    .refine Qlz (λc B=>?_) ev.size ev.os ev.tape ev.output ev.drawn;by_cases ba:G c
     .exact ev.keepRo c ba
     .exact ev.keepFr c ⟨B,ba⟩
   have Y:ds.toArray.size=l.length:=by simpa using au
   have ak:=AnyQ.slices_SortFunc L k aE zE enc' ab (λx v hv=>QiG (x.plain v hv)) cf' hO g lc.toArray b (0*k) cp ds.toArray w eg bj hH hb (by rw[Y];unfold Yo at a7;omega);rw[Y]at ak;refine ak.mono ?_;rintro e w' ⟨rfl,d,n,os,aa,ar,rfl⟩;have u:d.size=ds.toArray.size:=aa.1;obtain⟨g1,g2,g3⟩:=R n os d u;have ax:d.toList.Perm ds:=by
    have h:=aa.2.2;have x1:d.extract 0 l.length=d:=by rw[<- Y, <- u];exact Array.extract_size
    have x2:ds.toArray.extract 0 l.length=ds.toArray:=by rw[<- Y];exact Array.extract_size
    rw[x1,x2]at h;simpa using h
   have bc:d.toList.map (·.x)=l':=by
    rw[<- a1];refine QdQ (lt:=ltO cf) ?_ ?_ ?_ (Qcv Q)
    .exact((ax.map (·.x)).trans (by rw[N])).trans (Qbc _ _).symm
    .intro x hx y hy;have bn:x∈l:=by rw[<- N];exact(ax.map (·.x)).mem_iff.1 hx
     have bg:y∈l:=by rw[<- N];exact(ax.map (·.x)).mem_iff.1 hy
     exact aw x bn y bg
    .rw[VA];intro i j hi hj be;simp only[X0]at hi hj;simp only[List.getElem_map];rw[<- ac];have:=ar i j (XT _) be (by rw[<- Y, <- u];simpa using hj);rw[getElem!_pos d j (by simpa using hj),getElem!_pos d i (by simpa using hi)]at this;simpa using this
   have bk:RL G [] (sortWorldK enc' k w b (0*k) n d os) k (l'.map enc) ((d.toList.map enc').flatten++J):=by
    have e3:d.toList.map enc'=(d.toList.map λa=>(a.x,a.vs)).map (·.2):=by simp[enc']
    have e4:l'=(d.toList.map λa=>(a.x,a.vs)).map (·.1):=by rw[<- bc];simp
    rw[e3,e4];refine Qds hk ?_;intro p hp;obtain⟨a,_,rfl⟩:=Xe.1 hp;exact⟨a.rel.mono (al n os d u []),a.plain⟩
   have a2:Qg fr G w G (sortWorldK enc' k w b (0*k) n d os):=
    ⟨λ_ q=>q,λc B=>g1 c (s.roLt c B) (λq=>aj (q▸B)),λc B=>g1 c (s.frLt c B) (λq=>a5 (q▸B)),g3,O n os d u,rfl,rfl,rfl,Nat.le_add_right _ _⟩
   have an:σ.length=1:=s.len;have a9:Sim fr G σ [.row t k (l'.map enc)] (sortWorldK enc' k w b (0*k) n d os):=by
    have i0:∀{i:Nat} {x:Blk},([.row t k (l'.map enc)]:Qd)[i]?=some x->i=0/\x=.row t k (l'.map enc):=by
     intro i x h;cases i with
     |zero=>simp at h;exact⟨rfl,h.symm⟩
     |succ i=>simp at h
    refine⟨an,s.roOk.to (λ_ q=>q) a2.keepRo (λc B=>Vd (s.roLt c B) g3),λc B=>Vd (s.frLt c B) g3,s.roFr,λi c x h1 h2 h3=>?_,λi j c x y h1 h2 h3 h4 _ _=>?_,λi y x h1 h2=>?_,λi b x c h1 h2 h3=>by obtain⟨rfl,rfl⟩:=i0 h2;exact h3.elim⟩
    .obtain⟨rfl,rfl⟩:=i0 h2;obtain⟨p1,p2⟩:=s.own 0 c _ h1 rfl rfl;exact⟨Vd p1 g3,p2⟩
    .rw[(i0 h3).1,(i0 h4).1]
    .obtain⟨rfl,rfl⟩:=i0 h2;rw[q1]at h1;cases h1;exact⟨_,g2,bk⟩
   exact⟨_,_,_,G,[],rfl,⟨rfl,rfl⟩,by simpa using a9,⟨[],rfl,rfl⟩,a2⟩
end Go.Sw
namespace Go.Sw
section
variable {P:Program} {o:Oper} {env:Env} {H:Qd} {fr ro:Nat->Prop} {σ:Sig} {w:World}
theorem Sim.addRo(s:Sim fr ro σ H w){b:Nat}(g:b<w.heap.size)(f:¬fr b)(n:∀(i:Nat) (x:Blk),σ[i]?=some (some b)->H[i]?=some x->x.live=true->False)
  (m:∀(i d:Nat) (x:Blk),σ[i]?=some (some d)->H[i]?=some x->Hid w x d b->False):Sim fr (λc=>ro c\/c=b) σ H w:=by
 refine⟨s.len,s.roOk.to (λ_ q=>.inl q) (λ_ _=>rfl) ?_,s.frLt,?_,?_,s.inj,?_,s.hidTo (· = ·) Q4 (XS _) (by grind) (by simp) (by grind)⟩
 .rintro c (q|rfl)
  .exact s.roLt c q
  .exact g
 .rintro c (q|rfl)
  .exact s.roFr c q
  .exact f
 .intro i c x a e h;obtain⟨j,k,l⟩:=s.own i c x a e h
  grind
 .intro i y x a e;exact(s.blk i y x a e).keep ⟨λ_ q=>.inl q,λ_ _=>rfl,λ_ _ q=>q,λ_ _ q=>q⟩ (λ_ _ _=>rfl) (λ_ _ _ _=>rfl)
theorem YR{T e k n:Nat}{xs:List Operand}{es:List (List A)}(E:Q2 P T e k)(ho:o.op=.buildSlice T n (QaP 0 xs).toArray)(L:xs.length=n)(u:Nat.ble (n*k) 16777216=true)
  (O:(xs.all λx=>Yi (opA env x))=true)(G:Yp env xs=es)(M:allK k es)(Q:es.flatten.all Yn=true)(X:Yt es.flatten=true):
  OpH P o env H (.rsl k es) H:=by
 intro Y p σ N a w r;subst G;obtain⟨l,W,J⟩:=Qbw r E L u O M;have F:LR p [] w (Yp env xs).flatten l:=J.data X;have f:∀b,b<w.heap.size->(w.alloc (.cells l.toArray e)).heap[b]?=w.heap[b]? :=λb R=>Yf _ _ b R;have s:w.heap.size<=(w.alloc (.cells l.toArray e)).heap.size:=by simp
 have V:=r.sim.grown f s;have m:Qg Y p w p (w.alloc (.cells l.toArray e)):=Qg.alloc _ r.sim.roLt r.sim.frLt;have s2:=V.addRo (by simp) (λq=>Nat.lt_irrefl _ (r.sim.frLt _ q)) (λi x g h y=>Nat.lt_irrefl _ (r.sim.own i _ x g h y).1)
  (λi d x g h y=>Nat.lt_irrefl _ (r.sim.hid i d x _ g h (r.sim.hidKeep g h (λz=>f d (r.sim.own i d x g h z).1) (λb q=>f b (r.sim.roLt b q)) y)).lt)
 have B:RL p [] (w.alloc (.cells l.toArray e)) k (Yp env xs) l:=by
  have:=Qad (rest:=[]) M (F.mono (m.ext0 [])) (J.plain Q)
  grind
 have j:(Yp env xs).length=n:=by simp[Yp,L]
 refine⟨_,_,λc=>p c\/c=w.heap.size,[],Qbo ho a.eval W,(⟨some ⟨w.heap.size,0,none⟩,n,by rw[j],by omega,.inr ⟨w.heap.size,0,rfl,.inr rfl,?_⟩⟩),by grind,m.trans (QX λ_ q=>.inl q)⟩;have t:(w.alloc (.cells l.toArray e)).heap[w.heap.size]?=some (.cells ([]++l).toArray e (0,0)):=Yq _ _;have:=YJ t B;exact this.keep ⟨λ_ q=>.inl q,λ_ _=>rfl,λ_ _ q=>q,λ_ _ q=>q⟩ rfl
end
inductive QhP:List A->List A->Prop
 |nil:QhP [] []
 |eq {a:A} {l m:List A} (h:QhP l m):QhP (a::l) (a::m)
 |nl {k:Nat} {l m:List A} (h:QhP l m):QhP (.nils::l) (.rsl k []::m)
theorem LR.nils{ro:Nat->Prop}{σ:Sig}{w:World}{g i:List A}(h:QhP g i):∀{l:List Value},LR ro σ w g l->LR ro σ w i l:=by
 induction h with
 |nil=>simp
 |eq _ ih=>rintro l ⟨v,a,e,d,f⟩;exact⟨v,a,e,d,ih f⟩
 |nl _ ih=>rintro l ⟨v,a,e,d,f⟩;exact⟨v,a,e,⟨none,0,d,XS _,.inl rfl⟩,ih f⟩
theorem C.nils{P:Program}{f:FuncId}{l1 bs:List A}{H:Qd}{Q:A->Qd->Prop}(hl:QhP l1 bs)(h:C P f bs H Q):C P f l1 H Q:=
 λfr ro σ vals w s l=>h fr ro σ vals w s (LR.nils hl l)
def Qs(k:IntKind)(n:Int):Prop:=k.min<=n/\n<=k.max
def Qew(w:World):Nat->Prop:=λb=>b<w.heap.size
structure Meas {H:Type} (μ:DataW H->Nat):Prop where
 str:∀bytes,bytes.length<=μ (.lit (.string bytes))
 sl:∀e s,e.length<=μ (.slice e s)
 sle:∀e s,∀d∈e,μ d<=μ (.slice e s)
 ag:∀ps,∀d∈ps,μ d<=μ (.agg ps)
def RB(P:Program)(n:Nat)(t:TypeId)(T:Type)(e:T->List A)(wf:T->Prop):Prop:=
 ∀(H:Type) (enc:TypeId×Value->H) (w:World) (base:Nat) (spare:Nat->Bool) (held:Bool) (m:Nat) (cs:List Value) d,m<n->DataW.trod enc P w base spare held m t cs=some d->
  ∀μ:DataW H->Nat,Meas μ->μ d.1<=1048576->∃x:T,wf x/\LR (Qew w) [] w (e x) cs/\ ∀v∈cs,Qv v
section
variable {P:Program} {n:Nat} {t:TypeId} {T:Type} {e:T->List A} {wf:T->Prop}
theorem RB.down(h:RB P (n+1) t T e wf):RB P n t T e wf:=λH enc w base spare held m cs d hm=>h H enc w base spare held m cs d (Nat.lt_succ_of_lt hm)
theorem QdI(h:∀n,RB P n t T e wf->RB P (n+1) t T e wf):∀n,RB P n t T e wf
 |0=>λH enc w base spare held m cs d hm=>(by omega)
 |n+1=>h n (QdI h n)
theorem Yd{T':Type}{f:T'->List A}{a:T'->Prop}(h:RB P n t T e wf)(g:T->T')(he:∀x,f (g x)=e x)(k:∀x,wf x->a (g x)):RB P n t T' f a:=by
 intro H enc w base spare held m cs d hm hd μ hμ hwt;obtain⟨x,i,j,l⟩:=h H enc w base spare held m cs d hm hd μ hμ hwt
 grind
theorem RB.int{k:IntKind}(a:P.underlying t=some (.int k)):RB P n t Int (Qe k) (Qs k):=by
 intro H enc w base spare held m cs d hm hd μ hμ hwt;cases m with
 |zero=>simp[DataW.trod]at hd
 |succ m=>
  rcases cs with _|⟨v,_|⟨g,r⟩⟩
  .simp[DataW.trod,a]at hd
  .cases v<;>simp[DataW.trod,a]at hd;rename_i h e;obtain⟨⟨rfl,f⟩,_⟩:=hd;refine⟨e,?_,⟨_,_,rfl,rfl,rfl⟩,by simp[Qv]⟩;simpa[Lit.wf,Qs]using f
  .simp[DataW.trod,a]at hd
theorem RB.bool(a:P.underlying t=some .bool):RB P n t Bool YW (λ_=>True):=by
 intro H enc w base spare held m cs d hm hd μ hμ hwt;cases m with
 |zero=>simp[DataW.trod]at hd
 |succ m=>
  rcases cs with _|⟨v,_|⟨e,r⟩⟩
  .simp[DataW.trod,a]at hd
  .cases v<;>simp[DataW.trod,a]at hd;rename_i b;exact⟨b,trivial,⟨_,_,rfl,rfl,rfl⟩,by simp[Qv]⟩
  .simp[DataW.trod,a]at hd
theorem RB.string(a:P.underlying t=some .string):RB P n t (List UInt8) Ji (λs=>s.length<=1048576):=by
 intro H enc w base spare held m cs d hm hd μ hμ hwt;cases m with
 |zero=>simp[DataW.trod]at hd
 |succ m=>
  rcases cs with _|⟨v,_|⟨e,r⟩⟩
  .simp[DataW.trod,a]at hd
  .cases v<;>simp[DataW.trod,a]at hd;rename_i s;obtain⟨_,rfl⟩:=hd;exact⟨s.data.toList,XU (hμ.str _) hwt,⟨_,_,rfl,rfl,rfl⟩,by simp[Qv]⟩
  .simp[DataW.trod,a]at hd
theorem Qcb{α:Type}{f:Nat->Option α}:∀{n:Nat} {l:List α},(List.range n).mapM f=some l->l.length=n/\ ∀i,i<n->∃y,f i=some y/\l[i]?=some y
 |0,l,h=>by grind
 |n+1,l,h=>by
  rw[List.range_succ,List.mapM_append]at h;cases h1:(List.range n).mapM f with
  |none=>grind
  |some l1=>
   cases h2:f n with
   |none=>grind
   |some y=>
    simp[h1,h2]at h;subst h;obtain⟨e1,e2⟩:=Qcb h1
    grind
theorem Qdu{w:World}{ro:Nat->Prop}{b:Nat}:∀{cs:List A} {l:List Value} {off:Nat},LR ro [] w cs l->(∀v∈l,Qv v)->(∀i,i<l.length->w.cell? ⟨b,off+i,none⟩=l[i]?)->CR ro [] w b cs off
 |[],_,_,_,_,_=>trivial
 |a::cs,l,off,h,hp,hc=>by
  obtain⟨v,l',rfl,h1,h2⟩:=h;refine⟨(by grind),Qdu h2 (by grind) λi hi=>?_⟩;have:=hc (i+1) (by grind)
  grind
theorem RB.slice{E:TypeId}{k:Nat}{s:TypeId}(G:P.underlying s=some (.slice E))(hk:P.cellsOf E=k)(h0:Nat.blt 0 k=true)(hl:∀x,(e x).length=k)(h:RB P n E T e wf):
  RB P (n+1) s (List T) (Q5 k e) (λl=>l.length<=1048576/\ ∀x∈l,wf x):=by
 intro H enc w base spare held m cs d hm hd μ hμ hwt;have k0:0<k:=by simp_all
 cases m with
 |zero=>simp[DataW.trod]at hd
 |succ m=>
  rcases cs with _|⟨v,_|⟨v2,r⟩⟩
  .simp[DataW.trod,G]at hd
  .cases v<;>try (simp[DataW.trod,G]at hd;done)
   rename_i a len g;cases a with
   |none=>
    rcases len with _|len
    .rcases g with _|g
     .refine⟨[],⟨by simp,by simp⟩,⟨_,_,rfl,⟨none,0,rfl,XS _,.inl rfl⟩,rfl⟩,by simp[Qv]⟩
     .simp[DataW.trod,G]at hd
    .simp[DataW.trod,G]at hd
   |some a=>
    simp only[DataW.trod,G]at hd;split at hd
    .rename_i hc;obtain⟨c1,c2,c3⟩:=hc;cases V:(List.range len).mapM (λi=>(w.cells? base (a.add (i*P.cellsOf E)) (P.cellsOf E)).bind (DataW.trod enc P w base spare held m E))with
     |none=>grind
     |some f=>
      rw[V]at hd;simp only[XI,Option.map_eq_some_iff]at hd;obtain⟨t,_,rfl⟩:=hd;have B:f.length<=1048576:=by
       have h1:=hμ.sl (f.map (·.1)) (t.map (·.1))
       grind
      have Y:∀y∈f,μ y.1<=1048576:=λy M=>XU (hμ.sle _ (t.map (·.1)) _ (VC M)) hwt;obtain⟨e1,e2⟩:=Qcb V;have L:∀i,i<len->∃(x:T) (l:List Value),wf x/\LR (Qew w) [] w (e x) l/\(∀v∈l,Qv v)/\l.length=k/\ ∀j,j<k->w.cell? ((a.add (i*k)).add j)=l[j]? :=by
       intro i hi;obtain⟨y,y1,y2⟩:=e2 i hi;rw[hk]at y1;cases X:w.cells? base (a.add (i*k)) k with
       |none=>grind
       |some l=>
        rw[X]at y1;obtain⟨x,x1,x2,x3⟩:=h H enc w base spare held m l y (by omega) y1 μ hμ (Y y (VD y2))
        grind[World.cells?,Qcb]
      by_cases O:len=0
      .subst O;exact⟨[],⟨by simp,by simp⟩,⟨_,_,rfl,⟨some a,g,rfl,XT _,.inl rfl⟩,rfl⟩,by simp[Qv]⟩
      .have first:a.spot=none/\a.block<w.heap.size:=by
        obtain⟨x',l,p1,p2,p3,p4,p5⟩:=L 0 (by omega);have p:=p5 0 k0;have W:l[0]?=some l[0]:=XJ (by omega);have ea:(a.add (0*k)).add 0=a:=by simp[Addr.add]
        rw[W,ea]at p;unfold World.cell? at p;split at p
        .rename_i hh;constructor
         .cases q:a.spot with
          |none=>rfl
          |some z=>simp[q]at p
         .exact(Vb.1 hh).1
        .cases p
       obtain⟨N,hb⟩:=first
       have Q:∀n,a.add n=⟨a.block,a.off+n,none⟩:=by
        intro n;cases a;simp only at N;subst N;unfold Addr.add;split
        .rename_i q;subst q;rfl
        .rfl
       have u:∀(b o n:Nat),(⟨b,o,none⟩:Addr).add n=⟨b,o+n,none⟩:=by
        intro b o n;unfold Addr.add;split
        .rename_i q;subst q;rfl
        .rfl
       have pick:∀q i,len-i=q->i<=len->∃F:List T,F.length=len-i/\(∀x∈F,wf x)/\RR (Qew w) [] w a.block k (F.map e) (a.off+i*k):=by
        intro q
        induction q with
        |zero=>intro i hq hi;exact⟨[],by simp[hq],by simp,trivial⟩
        |succ q ih=>
         intro i hq hi;obtain⟨F,J,w2,R⟩:=ih (i+1) (by omega) (by omega);obtain⟨x,l,p1,p2,p3,p4,p5⟩:=L i (by omega);refine⟨x::F,by simp[J];omega,by intro y M;rcases X5.1 M with rfl|M;exact p1;exact w2 y M,hl x,?_,?_⟩
         .refine Qdu p2 p3 λj hj=>?_;have p:=p5 j (by omega);rw[Q,u]at p;exact p
         .rw[Xm, <- Nat.add_assoc]at R;exact R
       obtain⟨F,J,w2,R⟩:=pick len 0 (by omega) (XT _);rw[Nat.zero_mul,Xw]at R;rw[Nat.sub_zero]at J;refine⟨F,⟨by rw[J, <- e1];exact B,w2⟩,⟨_,_,rfl,⟨some a,g,by simp[J],by simp[J];exact c2,.inr ⟨a.block,a.off,?_,hb,R⟩⟩,rfl⟩,by simp[Qv]⟩;cases a
       grind
    .cases hd
  .simp[DataW.trod,G]at hd
def RF(P:Program)(n:Nat)(fs:List Field)(off L:Nat)(T:Type)(e:T->List A)(wf:T->Prop):Prop:=
 ∀(H:Type) (enc:TypeId×Value->H) (w:World) (base:Nat) (spare:Nat->Bool) (held:Bool) (m:Nat) (cs:List Value) ds,m<n->cs.length=L->
  fs.mapM (λf=>DataW.trod enc P w base spare held m f.type ((cs.drop f.offset).take (P.cellsOf f.type)))=some ds->
  ∀μ:DataW H->Nat,Meas μ->(∀y∈ds,μ y.1<=1048576)->∃x:T,wf x/\LR (Qew w) [] w (e x) (cs.drop off)/\ ∀v∈cs.drop off,Qv v
theorem RF.nil{L:Nat}:RF P n [] L L Unit (λ_=>[]) (λ_=>True):=by
 intro H enc w base spare held m cs ds hm hl hd μ hμ hwt;have:cs.drop L=[]:=(by grind);rw[this];exact⟨(),trivial,rfl,by simp⟩
theorem RF.cons{f:Field}{fs:List Field}{off L k:Nat}{T2:Type}{l:T2->List A}{g:T2->Prop}(B:f.offset=off)(s:P.cellsOf f.type=k)(h:RB P n f.type T e wf)(r:RF P n fs (off+k) L T2 l g):
  RF P n (f::fs) off L (T×T2) (λp=>e p.1++l p.2) (λp=>wf p.1/\g p.2):=by
 intro H enc w base spare held m cs ds hm hl hd μ hμ hwt;rw[List.mapM_cons]at hd;cases q:DataW.trod enc P w base spare held m f.type ((cs.drop f.offset).take (P.cellsOf f.type))with
 |none=>grind
 |some d=>
  cases t:fs.mapM (λf=>DataW.trod enc P w base spare held m f.type ((cs.drop f.offset).take (P.cellsOf f.type)))with
  |none=>grind
  |some a=>
   have i:ds=d::a:=by
    grind
   subst i;rw[B,s]at q;obtain⟨x,u,z,E⟩:=h H enc w base spare held m _ d hm q μ hμ (hwt d (by simp));obtain⟨y,y1,y2,F⟩:=r H enc w base spare held m cs a hm hl t μ hμ (by grind);have j:cs.drop off=(cs.drop off).take k++cs.drop (off+k):=by rw[<- List.drop_drop,Xy]
   refine⟨(x,y),⟨u,y1⟩,by rw[j];exact z.append y2,?_⟩
   grind
theorem RB.struct{fs:Array Field}{L:Nat}(k:P.underlying t=some (.struct fs))(i:P.cellsOf t=L)(h:RF P n fs.toList 0 L T e wf):RB P (n+1) t T e wf:=by
 intro H enc w base spare held m cs d hm hd μ hμ hwt;cases m with
 |zero=>simp[DataW.trod]at hd
 |succ m=>
  unfold DataW.trod at hd;simp only[k]at hd;split at hd
  .rename_i j;cases a:fs.toList.mapM (λf=>DataW.trod enc P w base spare held m f.type ((cs.drop f.offset).take (P.cellsOf f.type)))with
   |none=>grind
   |some g=>
    rw[a]at hd;simp only[Xj,Option.some.injEq]at hd;subst hd;have:=h H enc w base spare held m cs g (by omega) (by rw[j,i]) a μ hμ (λy l=>XU (hμ.ag _ _ (by grind)) hwt)
    grind
  .cases hd
end
theorem C.law{P:Program}{f:FuncId}{args:List A}{W:World}{vals:List Value}(h:C P f args [] (λa H=>a=.bool true/\H=[]))(m:LR (Qew W) [] W args vals)(d:GP W):
  Calls P f vals.toArray W λe W'=>e=.returned (.bool true)/\Go.RowKit.Below W.heap.size W W':=by
 have s:Sim (λ_=>False) (Qew W) [] [] W:=
  ⟨rfl,⟨λ_ h=>h,λb j=>d.size b j,d⟩,λ_ h=>h.elim,λ_ _ h=>h,(by simp),(by simp),(by simp),(by simp)⟩
 refine(h _ _ _ _ W s m).mono ?_;rintro e W' ⟨v,r,H',l,τ,rfl,⟨rfl,rfl⟩,_,i,ev⟩;exact⟨by rw[show v=.bool true from i],⟨ev.os,ev.tape,ev.output,ev.size,λk g=>ev.keepRo k g⟩⟩
theorem Qgp{P:Program}{W:World}{a:Nat}{t:TypeId}{v:Value}{fs:Array Field}(d:P.underlying t=some (.struct fs))(h:Value.okWide P W .any a t v):∃cs,v=.agg cs:=by
 unfold Value.okWide at h
 grind
theorem QdZ{P:Program}{W:World}{t:TypeId}{i:Array Value}{T:Type}{e:T->List A}{wf:T->Prop}{H:Type}{enc:TypeId×Value->H}{f:Nat}{a:Nat->Bool}{held:Bool}{d:DataW H}{q:List MemPlace}
  (h:∀n,RB P n t T e wf)(j:DataW.Trod enc P W f a held t (.agg i) d q){μ:DataW H->Nat}(hμ:Meas μ)(g:μ d<=1048576):∃x:T,wf x/\VR (Qew W) [] W (.agg (e x)) (.agg i):=by
 obtain⟨m,k⟩:=j;obtain⟨x,l,p,_⟩:=h (m+1) H enc W f a held m _ _ (Xn _) k μ hμ g;exact⟨x,l,i.toList,by simp,p⟩
theorem Qhe{P:Program}{W:World}(h:W.ShapedOpen P){g t u:Nat}{z:Value}(hg:Nat.blt g P.globals.size=true)(q:(((begin P (λ_ _=>0) default).world.heap[g]?).bind Obj.row?)=some (#[z],t))
  (s:P.buildable t=true)(r:P.cellTypes P.depth t=some [u])(k:P.underlying u=some (.int .i64)):∃m:Int,W.cell? ⟨g,0,none⟩=some (.int .i64 m):=by
 obtain⟨a,x,j,p⟩:=h.1 g _ _ (by simp_all) q;obtain⟨y,i,_,l⟩:=p s;rw[r]at i;cases i;have B:a.size=1:=j;have e:a[0]?=some a[0]:=(by simp);obtain⟨w,f,d⟩:=l 0 _ e;simp at f;subst f;unfold Cell.ok at d;rw[k]at d;cases n:a[0]<;>rw[n]at d<;>simp at d
 simp_all[World.cell?]
theorem Qho{S B:Type}{step:S->Option (Ctl S B)}(d:Nat->S)(b:B)(k:Nat)(p:∀i,i<k->step (d i)=some (.cont (d (i+1))))(h:step (d k)=some (.done b)):∀n,k<n->iter step n (d 0)=some b:=by
 have e:∀m i n,k-i=m->i<=k->m<n->iter step n (d i)=some b:=by
  intro m
  induction m with
  |zero=>
   intro i n f g j;have:i=k:=by omega
   subst this;obtain⟨a,rfl⟩:∃a,n=a+1:=⟨n-1,by omega⟩;simp[iter,h]
  |succ m l=>
   intro i n f g j;obtain⟨a,rfl⟩:∃a,n=a+1:=⟨n-1,by omega⟩
   grind[iter]
 grind
theorem Qj1{S B:Type}{step:S->Option (Ctl S B)}(s0:S)(a:Nat->S)(b:B)(k:Nat)(d:a 0=s0)(e:∀i,i<k->step (a i)=some (.cont (a (i+1))))(f:step (a k)=some (.done b))(n:Nat)(g:k<n):iter step n s0=some b:=by
 rw[<- d];exact Qho a b k e f n g
theorem Qx{α:Type}{l:List α}{i:Nat}{x:α}(h:l[i]?=some x):idx l i=some x:=by
 grind[idx]
theorem QlT{α:Type}(l:List α)(x:α)(h:l.length<4294967296):app l [x]=some (l++[x]):=by
 unfold app;have:Nat.ble (l.length+[x].length) Yo=true:=by
  grind[Nat.ble_eq_true_of_le,Yo]
 grind
theorem QaH{α:Type}(l m:List α)(h:l.length+m.length<=4294967296):app l m=some (l++m):=by
 simp_all[app,Yo,XR]
theorem Qt{n:Int}(a: -9223372036854775808<=n)(d:n<=9223372036854775807):IntKind.i64.wrap n=n:=by
 grind[IntKind.wrap,IntKind.bits,IntKind.signed]
theorem Yb{i:Nat}(h:i<9223372036854775807):IntKind.i64.wrap (i+1)=(i+1:Nat):=by
 rw[Qt (by omega) (by omega)];omega
theorem Qy{p:Prop}[Decidable p](h:p):decide p=true:=Vr h
theorem QH{p:Prop}[Decidable p](h:¬p):decide p=false:=decide_eq_false h
open Go.Proofs Go.Shelf
def cat(a b:List UInt8):Option (List UInt8):=bif Nat.ble (a.length+b.length) 4294967296 then some (a++b)else none
theorem QmT{a b r:List UInt8}(h:cat a b=some r):a.length+b.length<=4294967296/\a++b=r:=by
 unfold cat at h;cases q:Nat.ble (a.length+b.length) 4294967296 with
 |true=>simp_all
 |false=>grind
def Qd9(s t:List UInt8):Option Bool:=bif Nat.blt s.length 4294967281 then some (Lib.contains s t)else none
section
variable {P:Program} {o:Oper} {env:Env} {H:Qd}
theorem Qez{t u:TypeId}{x y:Operand}{p q r:List UInt8}(i:cat p q=some r)(s:o.op=.binOp .add t x y u:=by exact rfl)(hx:opA env x=.str p:=by exact rfl)(hy:opA env y=.str q:=by exact rfl):OpV P o env H (.str r):=by
 intro n k σ N a w rr;obtain⟨m,j⟩:=QmT i;have f:=Qn rr x;rw[hx]at f;have d:=Qn rr y;rw[hy]at d;have g:a.eval x=.string ⟨p.toArray⟩:=f;have h:a.eval y=.string ⟨q.toArray⟩:=d;have l:(⟨p.toArray⟩:ByteArray)++⟨q.toArray⟩=⟨r.toArray⟩:=by
  rw[<- j];rfl
 refine⟨.string ⟨r.toArray⟩,?_,rfl⟩;have e:¬((⟨p.toArray⟩:ByteArray).size+(⟨q.toArray⟩:ByteArray).size>IntKind.i64.max):=by
  have:IntKind.i64.max=9223372036854775807:=by decide
  grind[ByteArray.size]
 simp_all[eqGuard,execOp,binOp_string_add,Op.stringOp]
def Qd8{α:Type}(n:Nat)(l:List α)(i:Int):Option α:=bif Nat.beq l.length n then idx l i else none
theorem Qbf{α:Type}{n:Nat}{l:List α}{i:Int}{x:α}(h:Qd8 n l i=some x):l.length=n/\idx l i=some x:=by
 grind[Qd8,Nat.eq_of_beq_eq_true]
def arr{α:Type}(n:Nat)(l:List α):Option (List α):=bif Nat.beq l.length n then some l else none
theorem Qce{α:Type}{n:Nat}{l l':List α}(h:arr n l=some l'):l.length=n/\l=l':=by
 grind[arr,Nat.eq_of_beq_eq_true]
theorem QfT{α:Type}{n:Nat}{l l':List α}(h:arr n l=some l'):l'.length=n:=(Qce h).2▸(Qce h).1
section
variable {α:Type} {e:α->List A} {t et k n b:Nat} {x y:Operand} {l:List α}
theorem QaC{i:Int}{v:α}{m:IntKind}(h:Qd8 n l i=some v)(z:∀w,(underlying t).run P w=.ok (.array n et) w)(B:∀w,(sizeOf et).run P w=.ok k w)(u:Nat.ble 2 n=true)
  (E:o.op=.indexAddr t x y:=by exact rfl)(hx:opA env x=.ptr b 0:=by exact rfl)(hy:opA env y=.int m i:=by exact rfl):OpV P o env H (.ptr b (i.toNat*k)):=by
 intro O G σ N a w r;obtain⟨M,F⟩:=Qbf h;obtain⟨J,L⟩:=Qbe F;have p:i.toNat<l.length:=(by grind);have e:=Qn r x;rw[hx]at e;obtain⟨d,e,s⟩:=e;have j:=Qn r y;rw[hy]at j;have f:a.eval y=.int m i:=j;refine⟨.pointer (some ⟨d,i.toNat*k,none⟩),?_,d,e,rfl⟩;have q:0<=i/\i<n:=by omega
 have g:(⟨d,0,none⟩:Addr).add (i.toNat*k)=⟨d,i.toNat*k,none⟩:=by
  grind[Addr.add]
 generalize a.eval=ρ at*;simp[E,s,f,Instr.indexAt,z,B,q,go_sem]
theorem Qip{a:List A}(f:H[b]?=some (.row t k (l.map e)):=by exact rfl)(hcs:(l.map e).flatten=a:=by exact rfl):Pts H (.ptr b 0) a:=by
 intro p n σ w v s h;obtain⟨j,g,i⟩:=h;obtain⟨q,m,d⟩:=s.blk b _ _ g f;refine⟨j,0,i,?_⟩;have:=(RR.flat (YJ (pre:=[]) (by simpa using m) d)).1;subst hcs;exact this.lift
theorem QgC(a:∀x,(e x).length=k)(L:List α):(L.map e).flatten.length=L.length*k:=by
 induction L with
 |nil=>simp
 |cons c L ih=>grind
theorem Qg1{f:Nat}{l':List α}(h:arr n l=some l')(g:∀x,(e x).length=k)(a:n*k=f)(m:∀w,(isAgg t).run P w=.ok true w)(i:∀w,(sizeOf t).run P w=.ok f w){T:Nat}
  (p:o.op=.load t x:=by exact rfl)(hx:opA env x=.ptr b 0:=by exact rfl)(hH:H[b]?=some (.row T k (l.map e)):=by exact rfl):OpV P o env H (.agg (l'.map e).flatten):=by
 obtain⟨j,rfl⟩:=Qce h;have d:=QgC g l;rw[j,a]at d;exact Qc7 p m i hx (Qip hH rfl) (by grind) d
theorem Qjg{r:Nat}{n2 T:Nat}(i:l.length=n)(a:∀x,(e x).length=k)(d:n*k=n2)(g:∀w,(isAgg t).run P w=.ok true w)(f:∀w,(sizeOf t).run P w=.ok n2 w)
  (h:lk env r=.ptr b 0:=by exact rfl)(hH:H[b]?=some (.row T k (l.map e)):=by exact rfl):QcG P env H (.cell r t) (.agg (l.map e).flatten):=by
 have j:=QgC a l;have:=Qdr g f (Qip hH rfl) h (by grind)
 grind
theorem QgZ{c:List A}{k:Nat}(h:c.length=k):∀n,allK k (List.replicate n c)
 |0=>trivial
 |n+1=>⟨h,QgZ h n⟩
theorem QcM{vs:Array Value}{z:α}(s:∀w,(zeroValue t).run P w=.ok (.agg vs) w)(p:(YD (List.replicate n (e z)).flatten).toArray=vs)(l:Qfx (List.replicate n (e z)).flatten=true)(i:(List.replicate n (e z)).flatten.all Yn=true)(h:Nat.beq (e z).length k=true)
  (u:o.op=.alloc t:=by exact rfl):OpH P o env H (.ptr H.length 0) (H++[.row t k ((List.replicate n z).map e)]):=by
 intro q g σ N a w r;have f:LR g [] w (List.replicate n (e z)).flatten (YD (List.replicate n (e z)).flatten):=QeH l;have d:=r.sim.allocRow (t:=t) (rest:=[]) (QgZ (XP h) n) f (f.plain i);rw[Ve]at d;have j:(List.replicate n z).map e=List.replicate n (e z):=List.map_replicate;refine⟨.pointer (some ⟨w.heap.size,0,none⟩),w.alloc (.cells (YD (List.replicate n (e z)).flatten).toArray t),g,[some w.heap.size],?_,⟨w.heap.size,?_,rfl⟩,j▸d,Qg.alloc _ r.sim.roLt r.sim.frLt⟩
 .have m:(newVar t (.agg vs)).run P w=.ok ⟨w.heap.size,0,none⟩ (w.alloc (.cells vs t)):=rfl
  simp_all[execOp,Instr.alloc]
 .rw[<- r.sim.len];simp
theorem QcL{T n2:Nat}{l':List α}{vs:List A}(h:l.length=n)(h':l'.length=n)(hk:∀x,(e x).length=k)(s:n*k=n2)(hs:∀w,(sizeOf t).run P w=.ok n2 w)
  (hp:∀x,(e x).all Yn=true)(Y:∀x,Yt (e x)=true)(M:(l'.map e).flatten=vs)
  (ho:o.op=.store t x y:=by exact rfl)(B:opA env x=.ptr b 0:=by exact rfl)(hH:H[b]?=some (.row T k (l.map e)):=by exact rfl)(q:opA env y=.agg vs:=by exact rfl):
  OpU P o env H (H.set b (.row T k (l'.map e))):=by
 intro fr X σ N a w r;subst M;have g:=Qn r x;rw[B]at g;obtain⟨bb,g,h2⟩:=g;have O:=Qn r y;rw[q]at O;obtain⟨m,h4,j⟩:=O;obtain⟨u,V,W⟩:=r.sim.blk b _ _ g hH;have E:∀(L:List α),allK k (L.map e):=by
  intro L
  induction L with
  |nil=>trivial
  |cons c L p=>exact⟨hk c,p⟩
 have G:(l'.map e).flatten.length=n2:=by grind[YP]
 have hm:m.length=n2:=by rw[j.length,G]
 have i:∀L:List α,(L.map e).flatten.all Yn=true:=by
  grind
 have J:∀f ds:List A,Yt f=true->Yt ds=true->Yt (f++ds)=true:=by
  intro f
  induction f with
  |nil=>simp
  |cons c f p=>
   simp_all[Yt]
 have F:∀L:List α,Yt (L.map e).flatten=true:=by
  intro L
  induction L with
  |nil=>rfl
  |cons c L p=>exact J _ _ (Y c) p
 have hlen:=by
  have:=W.length;rw[X0,h,s]at this;exact this
 have R:=YB (P:=P) (vs:=m) 0 0 V (by omega) (j.plain (i l'));have Q:splice u 0 m=m++u.drop n2:=by unfold splice;simp[hm]
 have d:=r.sim.set (x':=.row T k (l'.map e)) (obj:=.cells (splice u 0 m).toArray T (0,0)) g hH rfl
  (λy q=>Qay V (Yx (by omega)) y q)
  (λex z=>by
   have B:=(j.data (F l')).mono ex.nil;exact⟨_,z,Qad (E l') B (j.plain (i l'))⟩)
 refine⟨_,X,[],?_,by simpa using d.1,d.2⟩
 simp_all[Value.cells,storeVar,execOp,Instr.storeAt,Instr.sureAddr]
end
end
theorem C.contains{P:Program}{ρ:Ren}(L:Lays.n144 P ρ)(hg:ρ.g 1=QiP){s t:List UInt8}{r:Bool}(h:Qd9 s t=some r):C P (ρ.f 144) [.str s,.str t] [] (λa H=>a=.bool r/\H=[]):=by
 unfold Qd9 at h;cases q:Nat.blt s.length 4294967281 with
 |false=>grind
 |true=>
  rw[q]at h;obtain rfl:=XY h;intro u i σ vals w sim hv;obtain⟨p,y,rfl,j,z,d,rfl,k,l⟩:=hv;cases(show d=[]from l);obtain⟨m,n⟩:=sim.roOk.gp.max;have e1:=j;have e2:=k;subst e1 e2;have hs:=by simpa using q
  refine(Any.strings_Contains L ⟨s.toArray⟩ ⟨t.toArray⟩ m w (by simpa[ByteArray.size]using hs) (by grind)).mono ?_;rintro e x ⟨rfl,rfl⟩;exact⟨_,_,_,i,[],rfl,⟨rfl,rfl⟩,by grind,rfl,Qg.refl _ _ _⟩
section
variable {P:Program} {o:Oper} {env:Env} {H:Qd} {fr ro:Nat->Prop} {σ:Sig} {w:World}
theorem Sim.touch(s:Sim fr ro σ H w){b:Nat}{obj:Obj}(n:¬ro b)(r:¬fr b)(u:∀(i:Nat) (x:Blk),σ[i]?=some (some b)->H[i]?=some x->x.live=true->False)
  (g:∀(i d:Nat) (x:Blk),σ[i]?=some (some d)->H[i]?=some x->Hid w x d b->False)
  (p:∀y,w.shape? b=some y->{w with heap:=w.heap.setIfInBounds b obj}.shape? b=some y):
  Sim fr ro σ H {w with heap:=w.heap.setIfInBounds b obj}/\Qg fr ro w ro {w with heap:=w.heap.setIfInBounds b obj}:=by
 have a:{w with heap:=w.heap.setIfInBounds b obj}.heap.size=w.heap.size:=by simp
 have ev:Qg fr ro w ro {w with heap:=w.heap.setIfInBounds b obj}:=
  ⟨λ_ h=>h,(by grind),(by grind),by omega,by
   grind[World.shape?],rfl,rfl,rfl,XS _⟩
 refine⟨⟨s.len,s.roOk.to (λ_ q=>q) ev.keepRo (λc h=>by rw[a];exact s.roLt c h),λc h=>by rw[a];exact s.frLt c h,s.roFr,?_,s.inj,?_,s.hidTo (· = ·) Q4 (by omega) (by simp) (by simp) λj d y k l t=>.inl ⟨j,y,rfl,k,l,id,λc q=>s.hidKeep k l (by grind) ev.keepRo q⟩⟩,ev⟩
 .intro i c x e f m;rw[a];exact s.own i c x e f m
 .intro i y x e f;refine(s.blk i y x e f).keep (ev.ext0 σ) ?_ ?_
  .grind
  grind
theorem Qjs{T E i n t:Nat}{x:Operand}{es:List (List A)}(ht:P.underlying T=some (.slice E))(hE:P.underlying E=some (.int .u8))(hn:es.length=n)(h0:Nat.blt 0 n=true)
  (ho:o.op=.convert T T x:=by exact rfl)(hx:opA env x=.osl i 0 n 1:=by exact rfl)(hH:H[i]?=some (.row t 1 es):=by exact rfl):
  OpH P o env H (.rsl 1 es) (H.set i .dead):=by
 intro fr M σ N a w r;subst hn;have k:=Qn r x;rw[hx]at k;rcases k with⟨hz,_⟩|⟨b,p,G,t',m,k,h2,h6,⟨h3,aa⟩,h4,h5⟩
 .simp_all
 .have V:0<es.length:=by simp_all
  obtain rfl:=h6 (by omega);obtain⟨hb,J,g⟩:=r.sim.own i b _ k hH rfl;obtain⟨l,q1,X⟩:=r.sim.blk i _ _ k hH;have W:=r.sim.kill i;have f:∀(j:Nat) (y:Blk),σ[j]?=some (some b)->(H.set i .dead)[j]?=some y->y.live=true->False:=by
   intro j y B e u;by_cases q:j=i
   .subst q;rw[Xb]at e;simp only[if_true]at e
    grind[Blk.live]
   .rw[XO (λz=>q z.symm)]at e;exact q (r.sim.inj j i b y _ B k e hH u rfl)
  have F:∀(j d:Nat) (y:Blk),σ[j]?=some (some d)->(H.set i .dead)[j]?=some y->Hid w y d b->False:=by
   intro j d y B e u;by_cases q:j=i
   .subst q;rw[Xb]at e;simp only[if_true]at e;split at e
    .cases e;exact u.elim
    .simp at e
   .rw[XO (λz=>q z.symm)]at e;exact(r.sim.hid j d y b B e u).ne i b _ k hH rfl rfl
  let fz:Nat×Nat:=(l.length,l.length+1)
  have Q:∀y,w.shape? b=some y->({w with heap:=w.heap.setIfInBounds b (.cells l.toArray t fz)}:World).shape? b=some y:=by
   simp_all[World.shape?]
  obtain⟨s2,h⟩:=W.touch (obj:=.cells l.toArray t fz) J g f F Q;have s3:=s2.addRo (b:=b) (by grind) g f (λj d y B e u=>F j d y B e (W.hidKeep B e (by grind) h.keepRo u));have s:({w with heap:=w.heap.setIfInBounds b (.cells l.toArray t fz)}:World).heap[b]?=some (.cells (([]:List Value)++l).toArray t fz):=by
   grind
  have L:Ext M [] w M [] {w with heap:=w.heap.setIfInBounds b (.cells l.toArray t fz)}:=h.ext0 [];refine⟨.slice (some ⟨b,0*1,none⟩) es.length G,_,λc=>M c\/c=b,[],?_,?_,by grind,h.trans (QX λ_ q=>.inl q)⟩
  .have hf:w.freeze ⟨b,l.length,none⟩ 1={w with heap:=w.heap.setIfInBounds b (.cells l.toArray t fz)}:=by
    unfold World.freeze;simp only[Nat.one_ne_zero,if_false];rw[QcZ q1];rfl
   have R:(markStringish ⟨b,0*1,none⟩).run P w=.ok () {w with heap:=w.heap.setIfInBounds b (.cells l.toArray t fz)}:=by
    simp_all[markStringish,World.shape?]
   have Y:∀w,(underlying T).run P w=.ok (.slice E) w:=run_underlying ht;have O:∀w,(underlying E).run P w=.ok (.int .u8) w:=run_underlying hE;generalize a.eval=ρ at*;simp only[execOp,ho,h2,convert,Vk,Y,O,Result.andThen,beq_self_eq_true,R,Vl]
  .refine⟨some ⟨b,0*1,none⟩,G,rfl,h3,.inr ⟨b,0*1,rfl,.inr rfl,?_⟩⟩;have:=YJ (pre:=[]) s (X.mono L);exact(by omega:RR M [] _ b 1 es (0*1)).keep ⟨λ_ q=>.inl q,λ_ _=>rfl,λ_ _ q=>q,λ_ _ q=>q⟩ rfl
end
mutual
theorem QcW(ρ:Nat->Nat):∀{a:A},Ym a=true->YE ρ a=a
 |.any,_=>rfl
 |.bool _,_=>rfl
 |.int _ _,_=>rfl
 |.str _,_=>rfl
 |.nilp,_=>rfl
 |.ptr _ _,h=>by simp[Ym]at h
 |.rp _,_=>rfl
 |.nils,_=>rfl
 |.rsl _ _,_=>rfl
 |.osl _ _ _ _,h=>by simp[Ym]at h
 |.agg cs,h=>by simp only[Ym]at h;simp only[YE,Qab ρ h]
 |.fn f a c,h=>by simp only[Ym,XV]at h;simp only[YE,Qab ρ h.1,Qab ρ h.2]
 |.nilf,_=>rfl
 |.iface t a,h=>by simp only[Ym]at h;simp only[YE,QcW ρ h]
 |.nilif,_=>rfl
 |.map _,h=>by simp[Ym]at h
 |.nilm,_=>rfl
 |.tup vs,h=>by simp only[Ym]at h;simp only[YE,Qab ρ h]
theorem Qab(ρ:Nat->Nat):∀{l:List A},Yt l=true->Qag ρ l=l
 |[],_=>rfl
 |a::l,h=>by simp only[Yt,XV]at h;simp only[Qag,QcW ρ h.1,Qab ρ h.2]
end
theorem Qe8{α:Type}{e:α->List A}(a:∀x,Yt (e x)=true):∀L:List α,Yt (L.map e).flatten=true
 |[]=>rfl
 |c::L=>by
  have hdt:∀cs ds,Yt cs=true->Yt ds=true->Yt (cs++ds)=true:=by
   intro cs
   induction cs with
   |nil=>simp
   |cons c cs d=>
    simp_all[Yt]
  exact hdt _ _ (a c) (Qe8 a L)
theorem Qlp{α:Type}{e:α->List A}(hd:∀x,Yt (e x)=true)(ρ:Nat->Nat)(l:List α):YE ρ (.agg (l.map e).flatten)=.agg (l.map e).flatten:=
 QcW ρ (by exact Qe8 hd l)
end Go.Sw
namespace Go.Sw
section
variable {P:Program} {o:Oper} {env:Env} {H:Qd}
theorem QdJ{c:Call}{f T:Nat}{x:Operand}{xs:List Operand}{i:Array TypeId}{d:String}{v:A}{args:List A}(g:∀(a:Array Value) (w:World),(callFunc f a).run P w=.ok (.enter f a) w)(p:o.op=.call c)
  (n:c={callee:=.invoke x d,args:=xs.toArray,argTypes:=i})(h:opA env x=.iface T v)(hargs:v::xs.map (opA env)=args)
  (k:∀(u:Value) (w:World),(method (P.types.size+Made.depth) T u d).run P w=.ok (f,u) w):OpC P o env H f args:=by
 intro m l σ N a w r;have e:=Qn r x;rw[h]at e;obtain⟨u,e,j⟩:=e;refine⟨u::xs.map a.eval,?_,hargs▸⟨u,xs.map a.eval,rfl,j,Qa7 r xs⟩⟩
 simp_all[VE,callMethod,execOp,resolve,invoke]
theorem Qbj{T I:Nat}{x:Operand}{v:A}{d:TypeDesc}(j:∀w,(underlying T).run P w=.ok d w)(h:∀m,d≠ .interface m)(k:o.op=.typeAssert x I T true:=by exact rfl)(hx:opA env x=.iface T v:=by exact rfl):
  OpV P o env H (.tup [v,.bool true]):=by
 intro i g σ N a w r;have e:=Qn r x;rw[hx]at e;obtain⟨u,e,f⟩:=e;refine⟨.tuple #[u,.bool true],?_,[u,.bool true],rfl,_,_,rfl,f,_,_,rfl,rfl,rfl⟩
 simp_all[execOp,Instr.typeAssert]
theorem QfW{T T' I:Nat}{x:Operand}{v z:A}{zv:Value}{d:TypeDesc}(i:∀w,(underlying T).run P w=.ok d w)(l:∀m,d≠ .interface m)(g:Nat.beq T' T=false)(h:∀w,(zeroValue T).run P w=.ok zv w)(e:ZR z zv)
  (s:o.op=.typeAssert x I T true:=by exact rfl)(hx:opA env x=.iface T' v:=by exact rfl):
  OpV P o env H (.tup [z,.bool false]):=by
 intro n j σ N a w r;have f:=Qn r x;rw[hx]at f;obtain⟨u,f,k⟩:=f;have p:T'≠T:=λq=>by simp_all
 refine⟨.tuple #[zv,.bool false],?_,[zv,.bool false],rfl,_,_,rfl,e _ _ _,_,_,rfl,rfl,rfl⟩
 simp_all[execOp,Instr.typeAssert]
end
def TL(P:Program)(h0 N:Nat)(c:Code)(env:Env)(H:Qd)(Q:QB):Prop:=
 ∀rd fr ro σ a w,Rel fr ro σ H env N a w->Qdx rd fr w->∀(b:Frame) (k:List Item) (cs:List Frame),b.roundOf=(WF rd).round->(WF rd).fn b.fn->(WF rd).room (cs.length+1+0)->∃e a' w',Qao h0 fr ro σ w N a.defers Q e a' w'/\ArrivesIn (Machine.fenced P (WF rd)) P (lone (b.atR a (.code c::.inLoop c::k)) cs w) b k cs e a' w'
def QhK(P:Program)(h0 N:Nat)(c:Code)(Q:QB):QB
 |.normal,env,H=>TL P h0 N c env H Q
 |.exit id,env,H=>Q (.exit id) env H
 |.ret,env,H=>Q .ret env H
section
variable {P:Program} {h0 N:Nat} {c:Code} {env:Env} {H:Qd} {Q:QB}
theorem QkQ(h:TL P h0 N c env H Q):TC P h0 N (.loop c) env H Q:=by
 intro g m l σ a w r hrd b k cs hro hb hr;obtain⟨e,j,i,f,d⟩:=h g m l σ a w r hrd b k cs hro hb hr;exact⟨e,j,i,f,.of_steps (.one (fenced_calm hb hr rfl) stepR_loop) d⟩
theorem TL.round(h:TC P h0 N c env H (QhK P h0 N c Q)):TL P h0 N c env H Q:=by
 intro F G y σ a w r hrd b k cs hro hb hr;obtain⟨e,n,m,O,d⟩:=h F G y σ a w r hrd b (.inLoop c::k) cs hro hb hr;obtain⟨x,f,H',j,σ',i,l,p,z,s,E,t⟩:=O;have B:∀x,Q x f H'->ExR e x->Qao h0 G y σ w N a.defers Q e n m:=λx q L=>⟨x,f,H',j,σ',i,L,q,z,s,E,t⟩;cases e with
 |normal=>
  obtain rfl:x=.normal:=l;obtain⟨M,J,R,u,g⟩:=p F i j σ' n m z (hrd.to s t.sub) b k cs hro hb hr;exact⟨M,J,R,u.grow s E t,.of_steps (StepsIn.trans d (.one (fenced_calm hb hr rfl) stepR_inLoop)) g⟩
 |exit id=>
  obtain rfl:x=.exit id:=l;exact⟨_,n,m,B _ p rfl,.pass rfl (by simp) d⟩
 |ret=>
  obtain rfl:x=.ret:=l;exact⟨_,n,m,B _ p rfl,.pass rfl (by simp) d⟩
 |_=>exact l.elim
theorem unrN(h:TC P h0 N c env H (QhK P h0 N c Q)):QhK P h0 N c Q .normal env H:=TL.round h
theorem unrX{id:Nat}(h:Q (.exit id) env H):QhK P h0 N c Q (.exit id) env H:=h
theorem unrR(h:Q .ret env H):QhK P h0 N c Q .ret env H:=h
theorem Qjd(h:TC P h0 N c env H (QhK P h0 N c Q)):TC P h0 N (.loop c) env H Q:=QkQ (TL.round h)
end
section
variable {P:Program} {o:Oper} {env:Env} {H:Qd}
theorem OpV.ixL{t a k b n j:Nat}{x y:Operand}{g:IntKind}{i:Int}(h:Nat.blt j n=true)(hi:i=j)(e:∀w,(underlying t).run P w=.ok (.slice a) w)(d:∀w,(sizeOf a).run P w=.ok k w)
  (f:o.op=.indexAddr t x y:=by exact rfl)(hx:opA env x=.osl b 0 n k:=by exact rfl)(hy:opA env y=.int g i:=by exact rfl):OpV P o env H (.ptr b (j*k)):=by
 have l:=Qiq (H:=H) f e d hx hy (by omega) (by simp_all)
 grind
end
section
variable {P:Program} {o:Oper} {env:Env} {H:Qd}
end
def Qj3{α R:Type}[DecidableEq R](l:List α)(x y:Option R):Option R:=bif l.isEmpty then(bif decide (x=y)then x else none)else y
theorem Qj2{α R:Type}[DecidableEq R]{l:List α}{x y:Option R}{r:R}(h:Qj3 l x y=some r)(b:Bool)(a:l≠[]->b=false):(b=true->x=some r)/\(b=false->y=some r):=by
 unfold Qj3 at h
 grind
section
variable {P:Program} {o:Oper} {env:Env} {H:Qd} {h0 N:Nat} {Q:QB}
end
section
variable {P:Program} {o:Oper} {env:Env} {H:Qd} {α:Type} {e:α->List A} {T et k b t:Nat} {x y:Operand} {l l':List α} {i:Int}
end
open Go.Sort Go.Proofs Go.Shelf
theorem QfV{ro:Nat->Prop}{σ:Sig}{w:World}:∀{l:List Int} {lv:List Value},RL ro σ w 1 (l.map λx=>[A.int .i64 x]) lv->∃rest,lv=l.map (Value.int .i64)++rest
 |[],lv,_=>⟨lv,rfl⟩
 |x::l,lv,h=>by
  obtain⟨l1,l2,rfl,h1,⟨h2,h3⟩,h4⟩:=h;obtain⟨rest,rfl⟩:=QfV h4;obtain⟨v,r,rfl,hv,hr⟩:=h2;cases(show r=[]from hr);exact⟨rest,by rw[show v=.int .i64 x from hv];simp⟩
section
variable {P:Program} {o:Oper} {env:Env} {H:Qd} {α:Type} {e:α->List A} {T et k b t:Nat} {x y:Operand}
theorem QbS{lo hi:Option Operand}{l r:List α}{a c:Int}(h:slc l a c=some r)(E1:∀w,(underlying T).run P w=.ok (.slice et) w)(E2:∀w,(sizeOf et).run P w=.ok k w)
  (d:lo=none/\a=0\/ ∃y,lo=some y/\opA env y=.int .i64 a)(f:hi=none/\c=l.length\/ ∃y,hi=some y/\opA env y=.int .i64 c)
  (e:o.op=.slice T x lo hi none:=by exact rfl)(hx:opA env x=.osl b 0 l.length k:=by exact rfl):OpV P o env H (.osl b (0+a.toNat) (c.toNat-a.toNat) k):=by
 obtain⟨g,i,j,_⟩:=QcT h;refine Qk0 E1 E2 e hx ?_ ?_ (by omega) (by omega)
 .grind
 grind
theorem QkW{l r:List α}{a c:Int}(h:slc l a c=some r)(f:H[b]?=some (.row t k (l.map e)):=by exact rfl):Src P H (.osl b (0+a.toNat) (c.toNat-a.toNat) k) k (r.map e):=by
 obtain⟨g,i,j,d⟩:=QcT h;refine Src.osl f ?_ (by grind);rw[<- d, <- List.map_drop, <- List.map_take,Xv,List.drop_take]
end
end Go.Sw
namespace Go.Sw
inductive Bx where
 |mk (a:A)
def lkB:Env->Nat->Bx
 |[],_=>.mk .any
 |(d,a)::r,s=>bif Nat.beq s d then .mk a else lkB r s
theorem Qhn:∀{env:Env} {s:Nat} {a:A},lkB env s=.mk a->lk env s=a
 |[],s,a,h=>by cases h;rfl
 |(d,b)::r,s,a,h=>by
  unfold lkB at h;unfold lk;cases q:Nat.beq s d with
  |true=>grind
  |false=>rw[q]at h;exact Qhn h
inductive FBy where
 |mk (l:List UInt8)
def fby:List UInt8->FBy
 |[]=>.mk []
 |a::r=>match fby r with
  |.mk r'=>.mk (a::r')
theorem Qkg:∀l,fby l=.mk l
 |[]=>rfl
 |a::r=>by unfold fby;rw[Qkg r]
def opB(env:Env):Operand->Bx
 |.tmp t=>lkB env t
 |.const (.bool b)=>.mk (.bool b)
 |.const (.int k n)=>.mk (.int k n)
 |.const (.string s)=>match fby s.data.toList with
  |.mk l=>.mk (.str l)
 |.const (.pointer none)=>.mk .nilp
 |.const (.slice none 0 0)=>.mk .nils
 |.const (.map none)=>.mk .nilm
 |.const .nilFunc=>.mk .nilf
 |.const .nilIface=>.mk .nilif
 |.func f=>.mk (.fn (.func f) [] [])
 |_=>.mk .any
theorem QN{env:Env}{x:Operand}{a:A}(h:opB env x=.mk a):opA env x=a:=by
 cases x with
 |tmp t=>exact Qhn h
 |const v=>
  cases v with
  |slice b n k=>cases b with
   |none=>cases n with
    |zero=>cases k<;>(cases h;rfl)
    |succ n=>cases h;rfl
   |some b=>cases h;rfl
  |pointer p=>cases p<;>(cases h;rfl)
  |map p=>cases p<;>(cases h;rfl)
  |string s=>
   have d:(match fby s.data.toList with|.mk l=>Bx.mk (.str l))=.mk a:=h;rw[Qkg]at d;cases d;rfl
  |_=>cases h;rfl
 |global g=>cases h;rfl
 |func f=>cases h;rfl
def YF{α:Type}:List α->Nat->Option α
 |[],_=>none
 |a::_,0=>some a
 |_::r,n+1=>YF r n
theorem Qaw{α:Type}:∀(l:List α) (n:Nat),YF l n=l[n]?
 |[],n=>by simp[YF]
 |a::r,0=>rfl
 |a::r,n+1=>by simp[YF,Qaw r n]
def arB:BinOp->IntKind->Int->Int->Option A
 |.add,k,m,n=>some (.int k (k.wrap (m+n)))
 |.sub,k,m,n=>some (.int k (k.wrap (m-n)))
 |.mul,k,m,n=>some (.int k (k.wrap (m*n)))
 |.eql,_,m,n=>some (.bool (m==n))
 |.neq,_,m,n=>some (.bool (m != n))
 |.lss,_,m,n=>some (.bool (decide (m<n)))
 |.leq,_,m,n=>some (.bool (decide (m<=n)))
 |.gtr,_,m,n=>some (.bool (decide (n<m)))
 |.geq,_,m,n=>some (.bool (decide (n<=m)))
 |_,_,_,_=>none
def srB:BinOp->List UInt8->List UInt8->Option A
 |.eql,p,q=>some (.bool (p==q))
 |.neq,p,q=>some (.bool (p != q))
 |.lss,p,q=>some (.bool (Op.bytesLess p q))
 |_,_,_=>none
def biB(b:BinOp):Bx->Bx->Option A
 |.mk (.int k m),.mk (.int k' n)=>if k=k' then arB b k m n else none
 |.mk (.str p),.mk (.str q)=>srB b p q
 |_,_=>none
def unB:UnOp->Bx->Option A
 |.not,.mk (.bool b)=>some (.bool !b)
 |.neg,.mk (.int k n)=>some (.int k (k.wrap (0-n)))
 |_,_=>none
def exB:Bx->Nat->Option A
 |.mk (.tup vs),i=>YF vs i
 |_,_=>none
def nlB:Bx->Option A
 |.mk (.ptr i j)=>some (.ptr i j)
 |.mk (.rp cs)=>some (.rp cs)
 |_=>none
def piB:Bx->Bx->Bx->Option A
 |.mk (.bool true),.mk a,_=>some a
 |.mk (.bool false),_,.mk a=>some a
 |_,_,_=>none
def svB(env:Env):Op->Option A
 |.move x=>match opB env x with|.mk a=>some a
 |.assign x=>match opB env x with|.mk a=>some a
 |.nilCheck x=>nlB (opB env x)
 |.extract x i=>exB (opB env x) i
 |.unOp u _ x=>unB u (opB env x)
 |.pick c x y=>piB (opB env c) (opB env x) (opB env y)
 |.binOp b _ x y _=>biB b (opB env x) (opB env y)
 |_=>none
def pr(d:Nat):Option A->Option (Nat×A)
 |some a=>some (d,a)
 |none=>none
def stB(o:Oper)(env:Env):Option (Nat×A):=
 match o.dst with
 |some d=>pr d (svB env o.op)
 |none=>none
section
variable {P:Program} {h0 N:Nat} {all:Array Oper} {o:Oper} {l:List Oper} {env:Env} {H H':Qd} {Q:QB} {d:Nat} {x:A}
theorem Qbv{p:Op}(g:o.op=p)(h:svB env p=some x):OpV P o env H x:=by
 unfold svB at h;split at h
 .rename_i y;cases q:opB env y with|mk a=>simp_all[OpV.move,QN]
 .rename_i y;cases q:opB env y with|mk a=>simp_all[OpV.assign,QN]
 .rename_i y;unfold nlB at h;split at h
  .rename_i i j q;cases h;exact QeA g (QN q) rfl
  .rename_i s q;cases h;exact QeA g (QN q) rfl
  .cases h
 .rename_i y i;unfold exB at h
  grind[Qaw,OpV.extract,QN]
 .rename_i u t y;unfold unB at h
  grind[OpV.not,QN,OpV.neg]
 .rename_i c y z;unfold piB at h;split at h
  .rename_i a _ f d;cases h;exact OpV.pick g (QN f) (by rw[Vq rfl];exact QN d)
  .rename_i a f d;cases h;exact OpV.pick g (QN f) (by exact QN d)
  .cases h
 .rename_i b t y z u;unfold biB at h;split at h
  .rename_i k m w n f d;split at h
   .rename_i e;subst e;have l:=QN f;have r:=QN d;unfold arB at h
    grind[OpV.add,OpV.sub,OpV.mul,OpV.eql,OpV.neq,OpV.lss,OpV.leq,OpV.gtr,OpV.geq]
   .cases h
  .rename_i p q f d;have l:=QN f;have r:=QN d;unfold srB at h
   grind[Qjl,Qji,Qjj]
  .cases h
 .cases h
theorem QjL(h:stB o env=some (d,x)):o.dst=some d/\OpV P o env H x:=by
 unfold stB at h;split at h
 .rename_i f q;cases e:svB env o.op with
  |none=>rw[e]at h;cases h
  |some a=>rw[e]at h;cases h;exact⟨q,Qbv rfl e⟩
 .cases h
theorem S(e:stB o env=some (d,x))(k:WO P h0 N all l (up env d x) H Q)(hg:QE all o env true:=by exact rfl)(hN:Nat.blt d N=true:=by exact rfl):WO P h0 N all (o::l) env H Q:=
 Y2 hg (QjL (P:=P) (H:=H) e).1 hN (QjL e).2 k
theorem K(hg:QE all o env false)(a:o.dst=some d)(k:WO P h0 N all l (up env d (.tup [])) H Q)(e:Nat.blt d N=true:=by exact rfl):WO P h0 N all (o::l) env H Q:=
 WO.skip hg a e k
inductive Lx where
 |mk (l:List A)
def QgT:Nat->List A->Lx
 |0,l=>.mk l
 |n+1,_::r=>QgT n r
 |_+1,[]=>.mk []
theorem Qes:∀{n:Nat} {l r:List A},QgT n l=.mk r->l.drop n=r
 |0,l,r,h=>by cases h;rfl
 |n+1,a::l,r,h=>by rw[List.drop_succ_cons];exact Qes h
 |n+1,[],r,h=>by cases h;rfl
def ctB:Option Blk->Nat->Option A
 |some (.cells _ cs),off=>YF cs off
 |_,_=>none
def lvB(H:Qd):Bx->Option A
 |.mk (.ptr i off)=>ctB (YF H i) off
 |.mk (.rp (a::_))=>some a
 |_=>none
def pr3(d t:Nat):Option A->Option (Nat×Nat×A)
 |some a=>some (d,t,a)
 |none=>none
def ldB(o:Oper)(env:Env)(H:Qd):Option (Nat×Nat×A):=
 match o.dst,o.op with
 |some d,.load t x=>pr3 d t (lvB H (opB env x))
 |_,_=>none
theorem QjY{t:Nat}(l:∀w,(isAgg t).run P w=.ok false w)(h:ldB o env H=some (d,t,x)):o.dst=some d/\OpV P o env H x:=by
 unfold ldB at h;split at h
 .rename_i q u y n k;cases e:lvB H (opB env y)with
  |none=>rw[e]at h;cases h
  |some a=>
   rw[e]at h;cases h;refine⟨n,?_⟩;unfold lvB at e;split at e
   .rename_i i f j;unfold ctB at e;split at e
    .rename_i f s T0 T cs q4;rw[Qaw]at e q4;obtain⟨g,p⟩:∃g,cs.drop f=x::g:=by
      have m:=(XK.1 e).1
      simp_all[Xp]
     exact OpV.load k l (QN j) (Pts.cells q4 p)
    .cases e
   .rename_i a r j;cases e;exact OpV.load k l (QN j) Pts.rp
   .cases e
 .cases h
theorem Ld{t:Nat}(a:∀w,(isAgg t).run P w=.ok false w)(e:ldB o env H=some (d,t,x))(k:WO P h0 N all l (up env d x) H Q)(hg:QE all o env true:=by exact rfl)(hN:Nat.blt d N=true:=by exact rfl):WO P h0 N all (o::l) env H Q:=
 Y2 hg (QjY a e).1 hN (QjY a e).2 k
def ixB(o:Oper)(env:Env):Option (Nat×Nat×Nat×List (List A)×IntKind×Int):=
 match o.dst,o.op with
 |some d,.indexAddr t x y=>match opB env x,opB env y with
  |.mk (.rsl k es),.mk (.int kk i)=>some (d,t,k,es,kk,i)
  |_,_=>none
 |_,_=>none
theorem Ix{α:Type}{e:α->List A}{t a k:Nat}{L:List α}{j:IntKind}{i:Int}{v:α}(h:idx L i=some v)(m:∀w,(underlying t).run P w=.ok (.slice a) w)(p:∀w,(sizeOf a).run P w=.ok k w)
  (q:ixB o env=some (d,t,k,L.map e,j,i))(k:WO P h0 N all l (up env d (.rp (e v))) H Q)(hg:QE all o env true:=by exact rfl)(hN:Nat.blt d N=true:=by exact rfl):WO P h0 N all (o::l) env H Q:=by
 unfold ixB at q;split at q
 .rename_i s f;split at q
  .rename_i g r;simp[Option.some.injEq,Prod.mk.injEq]at q;obtain⟨rfl,rfl,rfl,n,rfl,rfl⟩:=q;exact Y2 hg s hN (QcK h m p f (by rw[QN g,n]) (QN r)) k
  .cases q
 .cases q
def lnB(o:Oper)(env:Env):Option (Nat×Nat×Bx):=
 match o.dst,o.op with
 |some d,.call c=>match c with
  |{callee:=.builtin .len,args:=⟨[x]⟩,argTypes:=⟨[t]⟩}=>some (d,t,opB env x)
  |_=>none
 |_,_=>none
theorem QmD{t:Nat}{b:Bx}(q:lnB o env=some (d,t,b)):∃x,o.dst=some d/\o.op=.call {callee:=.builtin .len,args:= #[x],argTypes:= #[t]}/\opB env x=b:=by
 unfold lnB at q
 grind
theorem LnM{α:Type}{e:α->List A}{t g k:Nat}{L:List α}(h:∀w,(underlying t).run P w=.ok (.slice g) w)(q:lnB o env=some (d,t,.mk (.rsl k (L.map e))))
  (k:WO P h0 N all l (up env d (.int .i64 L.length)) H Q)(hg:QE all o env true:=by exact rfl)(hN:Nat.blt d N=true:=by exact rfl):WO P h0 N all (o::l) env H Q:=by
 obtain⟨x,i,a,f⟩:=QmD q;exact Y2 hg i hN (Qg2 h a rfl (QN f)) k
end
section
variable {P:Program} {h0 N:Nat} {all:Array Oper} {env env':Env} {H H':Qd} {Q:QB} {c c':Code}
theorem Oi{α:Type}{x y:α}(h:some x=some y):x=y:=XY h
theorem Bd{α β:Type}{x:Option α}{f:α->Option β}{r:β}{G:Prop}(h:x.bind f=some r)(k:∀a,x=some a->f a=some r->G):G:=by
 obtain⟨a,d,e⟩:=Y0 h
 grind
theorem Cn{α:Type}{x:Operand}{t:Bool}{p q:Option α}{r:α}(hx:opB env x=.mk (.bool t))(h:(bif t then p else q)=some r)(ht:t=true->p=some r->TC P h0 N c env H Q)(hf:t=false->q=some r->TC P h0 N c' env H Q):TC P h0 N (.cond x c c') env H Q:=
 TC.cond (QN hx) (by grind) (by grind)
theorem Q7{α:Type}{x:Operand}{t:Bool}{p q:Option α}{r:α}(hx:opB env x=.mk (.bool t))(h:(bif t then p else q)=some r)(hf:t=false->q=some r->TC P h0 N c' env H Q)(ht:t=true->p=some r->TC P h0 N c env H Q):TC P h0 N (.cond x c c') env H Q:=
 TC.cond (QN hx) (by grind) (by grind)
theorem Lr(π:List Nat)(a:π.take h0=List.range h0:=by exact rfl)(hH:π.map (λp=>H[p]?)=(H'.map (QU (rho π H.length))).map some:=by exact rfl)(hπ:π.Nodup:=by decide)
  (hE:QbN (rho π H.length) env env':=by(repeat' (first|exact trivial|refine⟨rfl,?_⟩))):Le h0 env H env' H':=Qm0 π a hH hπ hE
end
def Ev{α:Type}(f:Nat->Option α)(v:α):Prop:=∃N,∀n,N<=n->f n=some v
section
variable {α β:Type} {f g:Nat->Option α} {v w:α}
theorem Qa(v:α):Ev (λ_=>some v) v:=⟨0,λ_ _=>rfl⟩
theorem Ev.const{o:Option α}(h:o=some v):Ev (λ_=>o) v:=⟨0,λ_ _=>h⟩
theorem Ev.bind{k:Nat->α->Option β}{b:β}(h:Ev f v)(a:Ev (λn=>k n v) b):Ev (λn=>(f n).bind (k n)) b:=by
 obtain⟨N,h⟩:=h;obtain⟨M,a⟩:=a;exact⟨max N M,λn d=>by grind⟩
theorem QO{o:Option α}{k:Nat->α->Option β}{b:β}(h:o=some v)(hk:Ev (λn=>k n v) b):Ev (λn=>o.bind (k n)) b:=Ev.bind (Ev.const h) hk
theorem QaJ{c:Bool}(a:c=true->Ev f v)(d:c=false->Ev g w):Ev (λn=>bif c then f n else g n) (bif c then v else w):=by
 cases c with
 |true=>exact a rfl
 |false=>exact d rfl
theorem QeI(h:Ev f v):Ev (λn=>bif true then f n else g n) v:=h
theorem Qq(h:Ev g v):Ev (λn=>bif false then f n else g n) v:=h
theorem Ev.and{c d:Bool}{h:Nat->Option Bool}(a:c=true->Ev h d):Ev (λn=>bif c then h n else some false) (c&&d):=by
 cases c with
 |true=>exact a rfl
 |false=>exact Qa _
theorem Ql{c d:Bool}{h:Nat->Option Bool}(a:c=false->Ev h d):Ev (λn=>bif c then some true else h n) (c||d):=by
 cases c with
 |true=>exact Qa _
 |false=>exact a rfl
theorem Ev.eq(h:Ev f v)(e:v=w):Ev f w:=e▸h
theorem Qk5(h:Ev f v)(e:∀n,g n=f n):Ev g v:=by
 obtain⟨N,h⟩:=h;exact⟨N,λn a=>by grind⟩
theorem Yw(h:Ev (λn=>f (n+1)) v):Ev f v:=by
 obtain⟨N,h⟩:=h;refine⟨N+1,λn a=>?_⟩;obtain⟨m,rfl⟩:∃m,n=m+1:=⟨n-1,by omega⟩
 grind
theorem Ev.ex(h:Ev f v):∃n,f n=some v:=let⟨N,h⟩:=h;⟨N,h N (XS _)⟩
theorem Ev.all{k:Nat}{F:Nat->Nat->Option α}{V:Nat->α}(h:∀i,i<k->Ev (F i) (V i)):∃N,∀n,N<=n->∀i,i<k->F i n=some (V i):=by
 induction k with
 |zero=>simp
 |succ k a=>
  obtain⟨N,e⟩:=a (by grind);obtain⟨M,d⟩:=h k (by omega);refine⟨max N M,λn f i g=>?_⟩
  grind
end
section
variable {S B α:Type} {step:Nat->S->Option (Ctl S B)}
theorem Ev.iter{s0:S}(a:Nat->S)(k:Nat){b:B}(d:a 0=s0)(e:∀i,i<k->Ev (λn=>step n (a i)) (.cont (a (i+1))))(f:Ev (λn=>step n (a k)) (.done b)):
  Ev (λn=>Go.Sw.iter (step n) n s0) b:=by
 obtain⟨N,j⟩:=Ev.all e;obtain⟨M,g⟩:=f;exact⟨max (max N M) (k+1),λn h=>Qj1 s0 a b k d (by grind) (g n (by omega)) n (by omega)⟩
theorem QbV{step:S->Option (Ctl S B)}{s:S}{b:B}(m:Nat)(h:Go.Sw.iter step m s=some b):Ev (λn=>Go.Sw.iter step n s) b:=by
 have mono:∀m s,Go.Sw.iter step m s=some b->∀n,m<=n->Go.Sw.iter step n s=some b:=by
  intro m
  induction m with
  |zero=>intro s h;cases h
  |succ m e=>
   intro s h n d;obtain⟨a,rfl⟩:∃a,n=a+1:=⟨n-1,by omega⟩
   grind[Go.Sw.iter]
 exact⟨m,(by grind)⟩
structure At (l:List α) (i:Nat) (x:α):Prop where
 get:l[i]?=some x
 lt:decide ((i:Int)<(l.length:Int))=true
 ix:idx l (i:Int)=some x
 nx:IntKind.i64.wrap ((i:Int)+1)=((i+1:Nat):Int)
theorem Y4{l:List α}{i:Nat}{x:α}(d:l.length<=4611686018427387904)(h:l[i]?=some x):At l i x:=by
 have a:=(XK.1 h).1;exact⟨h,(by grind),Qx h,Yb (by omega)⟩
theorem At.mem{l:List α}{i:Nat}{x:α}(h:At l i x):x∈l:=VD h.get
theorem At.lt'{l:List α}{i:Nat}{x:α}(h:At l i x):i<l.length:=(XK.1 h.get).1
theorem At.take{l:List α}{i:Nat}{x:α}(h:At l i x):l.take (i+1)=l.take i++[x]:=by
 rw[List.take_add_one,h.get];rfl
theorem Qbi(l:List α):decide ((l.length:Int)<(l.length:Int))=false:=(by simp)
theorem YT{s0:S}(l:List α)(q:α->Bool)(a:Nat->S)(p b:B)(m:l.length<=4611686018427387904)(g:a 0=s0)
  (t:∀i x,At l i x->q x=false->Ev (λn=>step n (a i)) (.cont (a (i+1))))
  (f:∀i x,At l i x->q x=true->Ev (λn=>step n (a i)) (.done p))
  (w:Ev (λn=>step n (a l.length)) (.done b)):Ev (λn=>Go.Sw.iter (step n) n s0) (bif l.any q then p else b):=by
 have d:∀k,k<=l.length->(∀i x,l[i]?=some x->i<k->q x=false)\/ ∃i x,l[i]?=some x/\i<k/\q x=true/\ ∀j y,l[j]?=some y->j<i->q y=false:=by
  intro k
  induction k with
  |zero=>simp
  |succ k E=>
   grind
 rcases d l.length (XS _)with h|⟨i,x,s,F,u,G⟩
 .have:l.any q=false:=by
   rw[VI];intro e;obtain⟨x,f,e⟩:=Xt.1 e;obtain⟨i,r,rfl⟩:=List.getElem_of_mem f
   grind
  rw[this];exact Ev.iter a l.length g (λi r=>t i _ (Y4 m (XJ r)) (by grind)) w
 .have:l.any q=true:=(by grind);rw[this];refine Ev.iter a i g (λj z=>?_) (f i x (Y4 m s) u)
  grind[Y4]
theorem Qax{β:Type}{s0:S}(l:List α)(g:β->α->β)(d:β)(f:β->Nat->S)(e:β->B)(j:l.length<=4611686018427387904)(p:f d 0=s0)
  (k:∀i x a,At l i x->a=(l.take i).foldl g d->Ev (λn=>step n (f a i)) (.cont (f (g a x) (i+1))))
  (q:Ev (λn=>step n (f (l.foldl g d) l.length)) (.done (e (l.foldl g d)))):Ev (λn=>Go.Sw.iter (step n) n s0) (e (l.foldl g d)):=by
 refine Ev.iter (λi=>f ((l.take i).foldl g d) i) l.length (by grind) (λi m=>?_) (by grind);have h:=Y4 j (XJ m);have:=k i _ _ h rfl;rw[h.take,List.foldl_append];exact this
theorem Ev.contains(l:List α)(q:α->Bool)(g:Nat->α->Option Bool)(f:l.length<=4611686018427387904)(hg:∀x∈l,Ev (λn=>g n x) (q x)):
  Ev (λn=>(((Go.Sw.iter (λs:Int=>bif decide (s<(l.length:Int))then(idx l s).bind λx=>(g n x).bind λr=>(bif r then some (Ctl.done (Ctl.done s))else some (Ctl.cont (IntKind.i64.wrap (s+1))))else some (Ctl.done (Ctl.cont ()))) n (0:Int):Option (Ctl Unit Int)).bind λb=>
   match b with
   |.cont _=>some (-1)
   |.done s=>some s):Option Int).bind λr=>some (decide (0<=r))) (l.any q):=by
 cases e:l.any q with
 |false=>
  refine Ev.bind (v:=(-1:Int)) (Ev.bind (v:=Ctl.cont ()) (Ev.iter (λi=>(i:Int)) l.length rfl (λi B=>?_) ?_) (Qa _)) (Qa _)
  .have a:=Y4 (x:=l[i]) f (XJ B);simp only[a.lt,Vm,a.ix,XI];have p:q l[i]=false:=by
    grind
   refine Ev.bind ((hg _ a.mem).eq p) ?_;simp only[Vn,a.nx];exact Qa _
  simp_all[Qa]
 |true=>
  obtain⟨x,t,h⟩:=Xt.1 e;have d:∀k,k<=l.length->(∀(i:Nat) (x:α),l[i]?=some x->i<k->q x=false)\/ ∃(i:Nat) (x:α),l[i]?=some x/\i<k/\q x=true/\ ∀(j:Nat) (y:α),l[j]?=some y->j<i->q y=false:=by
   intro k
   induction k with
   |zero=>simp
   |succ k E=>
    grind
  rcases d l.length (XS _)with F|⟨i,x,u,G,w,z⟩
  .obtain⟨j,m,rfl⟩:=List.getElem_of_mem t
   grind
  .refine Ev.bind (v:=(i:Int)) (Ev.bind (v:=Ctl.done (i:Int)) (Ev.iter (λi=>(i:Int)) i rfl (λj m=>?_) ?_) (Qa _)) ?_
   .have a:=Y4 (x:=l[j]) f (XJ (by omega));simp only[a.lt,Vm,a.ix,XI];refine Ev.bind ((hg _ a.mem).eq (z j _ a.get m)) ?_;simp only[Vn,a.nx];exact Qa _
   .have a:=Y4 f u;simp only[a.lt,Vm,a.ix,XI];refine Ev.bind ((hg _ a.mem).eq w) ?_;exact Qa _
   simp_all[Qa]
end
section
variable {S B α:Type} {step:Nat->S->Option (Ctl S B)}
theorem QcN{s0:S}(a:Nat->S)(k:Nat)(R:Nat->B)(f:a 0=s0)(s:∀i,i<k->(Ev (λn=>step n (a i)) (.cont (a (i+1)))/\R i=R (i+1))\/Ev (λn=>step n (a i)) (.done (R i)))
  (p:Ev (λn=>step n (a k)) (.done (R k))):Ev (λn=>Go.Sw.iter (step n) n s0) (R 0):=by
 have d:∀m,m<=k->(∀i,i<m->Ev (λn=>step n (a i)) (.cont (a (i+1)))/\R i=R (i+1))\/ ∃j,j<m/\(∀i,i<j->Ev (λn=>step n (a i)) (.cont (a (i+1)))/\R i=R (i+1))/\Ev (λn=>step n (a j)) (.done (R j)):=by
  intro m
  induction m with
  |zero=>simp
  |succ m g=>
   grind
 have same:∀m,(∀i,i<m->R i=R (i+1))->R 0=R m:=by
  intro m
  induction m with
  |zero=>intro _;rfl
  |succ m g=>grind
 rcases d k (XS _)with h|⟨j,r,l,q⟩
 .rw[same k λi e=>(h i e).2];exact Ev.iter a k f (by grind) p
 .rw[same j λi e=>(l i e).2];exact Ev.iter a j f (by grind) q
theorem At.drop{l:List α}{i:Nat}{x:α}(h:At l i x):l.drop i=x::l.drop (i+1):=by
 have:=h.lt';rw[Xp this,(XK.1 h.get).2]
theorem Qbl{s0:S}(l:List α)(st:Nat->S)(R:Nat->B)(hl:l.length<=4611686018427387904)(h0:st 0=s0)
  (hc:∀i x,At l i x->(Ev (λn=>step n (st i)) (.cont (st (i+1)))/\R i=R (i+1))\/Ev (λn=>step n (st i)) (.done (R i)))
  (hd:Ev (λn=>step n (st l.length)) (.done (R l.length))):Ev (λn=>Go.Sw.iter (step n) n s0) (R 0):=
 QcN st l.length R h0 (λi hi=>hc i _ (Y4 hl (XJ hi))) hd
end
section
variable {α β:Type} [DecidableEq α]
theorem Qaz(p:α×β)(l:List (α×β))(k:α):Y5 (p::l) k=if p.1=k then some p.2 else Y5 l k:=by
 grind[Y5]
theorem QiK(p:α×β)(l:List (α×β))(k:α)(v:β):Q1 (p::l) k v=if p.1=k then(p.1,v)::l.map (λq=>bif decide (q.1=k)then(q.1,v)else q)else p::Q1 l k v:=by
 unfold Q1
 grind
theorem QjX(l:List (α×β))(k a:α)(v:β)(h:a≠k):Y5 (l.map λq=>bif decide (q.1=k)then(q.1,v)else q) a=Y5 l a:=by
 induction l with
 |nil=>rfl
 |cons p l d=>
  grind[Qaz]
theorem Qe3(l:List (α×β))(k a:α)(v:β):Y5 (Q1 l k v) a=if a=k then some v else Y5 l a:=by
 induction l with
 |nil=>
  show Y5 ([]++[(k,v)]) a=_;rw[Vf,Qaz]
  grind
 |cons p l d=>
  rw[QiK];by_cases e:p.1=k
  .rw[Vq e,Qaz,Qaz];by_cases h:a=k
   .grind
   .have:p.1≠a:=(by grind)
    simp_all[QjX]
  .rw[Vp e,Qaz,Qaz,d]
   grind
theorem QiL(k:α)(z:β):QF ([]:List (α×β)) k z=z:=rfl
theorem Qd1(l:List (α×β))(k a:α)(v z:β):QF (Q1 l k v) a z=if a=k then v else QF l a z:=by
 grind[QF,Qe3]
theorem QiJ(l:List (α×β))(k:α)(v:β):(Q1 l k v).map (·.1)=if k∈l.map (·.1)then l.map (·.1)else l.map (·.1)++[k]:=by
 unfold Q1;have e:(l.any λp=>decide (p.1=k))=decide (k∈l.map (·.1)):=by
  grind
 rw[e];by_cases h:k∈l.map (·.1)
 .rw[Vr h,Vq h,Vm,List.map_map];apply List.map_congr_left
  grind
 grind
def Yc{γ:Type}(key:γ->α)(v:β)(l:List γ):List (α×β):=l.foldl (λm x=>Q1 m (key x) v) []
theorem QfC{γ:Type}(a:γ->α)(v:β)(l:List γ)(x:γ):Yc a v (l++[x])=Q1 (Yc a v l) (a x) v:=by
 unfold Yc;simp
theorem Qdg{γ:Type}(a:γ->α)(v z:β)(l:List γ)(k:α):QF (Yc a v l) k z=if k∈l.map a then v else z:=by
 have d:∀(l:List γ) (m:List (α×β)),QF (l.foldl (λm x=>Q1 m (a x) v) m) k z=if k∈l.map a then v else QF m k z:=by
  intro l
  induction l with
  |nil=>simp
  |cons x l e=>
   intro m;rw[XC,e,Qd1]
   grind
 exact d l []
theorem QbX{γ:Type}(a:γ->α)(v:β)(l:List γ):(Yc a v l).length<=l.length/\((Yc a v l).length=l.length↔(l.map a).Nodup):=by
 have f:∀(l:List γ) (m:List (α×β)),(m.map (·.1)).Nodup->(l.foldl (λm x=>Q1 m (a x) v) m).length<=m.length+l.length/\((l.foldl (λm x=>Q1 m (a x) v) m).length=m.length+l.length↔(m.map (·.1)++l.map a).Nodup):=by
  intro l
  induction l with
  |nil=>simp
  |cons x l i=>
   intro m g;have e:=QiJ m (a x) v;have d:(Q1 m (a x) v).length=((Q1 m (a x) v).map (·.1)).length:=by simp
   by_cases h:a x∈m.map (·.1)
   .grind
   .rw[Vp h]at e;have j:((Q1 m (a x) v).map (·.1)).Nodup:=by
     grind
    grind
 grind[Yc]
end
theorem Jc{α:Type}(l:List α)(p:α->Bool)(g:Nat->α->Option Bool)(a:l.length<=4611686018427387904)(hg:∀x∈l,Ev (λn=>g n x) (p x)):
  Ev (λn=>(((Go.Sw.iter (λs:Int=>bif decide (s<l.length)then(idx l s).bind λx=>((g n x).bind λr1=>some (!r1)).bind λr=>(bif r then some (Ctl.done (Ctl.done s))else some (Ctl.cont (IntKind.i64.wrap (s+1))))else some (Ctl.done (Ctl.cont ()))) n 0).bind λb=>
   match b with
   |.cont _=>some (-1)
   |.done s=>some s).bind λr=>some (decide (0<=r))).bind λr=>some (!r)) (l.all p):=by
 refine Ev.bind (Ev.contains l (λx=> !p x) (λn x=>(g n x).bind λr1=>some (!r1)) a λx d=>Ev.bind (hg x d) (Qa _)) ((Qa _).eq ?_)
 grind
def Qi7{α κ:Type}[DecidableEq κ](ok:α->Bool)(key:α->κ):List κ->List α->Bool
 |_,[]=>true
 |seen,x::r=>ok x&& !seen.contains (key x)&&Qi7 ok key (seen++[key x]) r
theorem Qik{α κ:Type}[DecidableEq κ](ok:α->Bool)(d:α->κ):∀(l:List α) (a:List κ),a.Nodup->Qi7 ok d a l=(l.all ok&&decide ((a++l.map d).Nodup))
 |[],a,h=>by simp[Qi7,h]
 |x::r,a,h=>by
  simp[Qi7,Vh];by_cases hk:d x∈a
  .grind
  .have hn:(a++[d x]).Nodup:=by
    grind
   rw[Qik ok d r _ hn]
   grind
theorem Qk6{α κ B:Type}[DecidableEq κ]{step:Nat->Int->Option (Ctl Int B)}(l:List α)(ok:α->Bool)(a:α->κ)(d b:B)(g:l.length<=4611686018427387904)
  (k:∀i x,At l i x->ok x=true->((l.take i).map a).contains (a x)=false->Ev (λn=>step n (i:Int)) (.cont ((i+1:Nat):Int)))
  (j:∀i x,At l i x->ok x=false->Ev (λn=>step n (i:Int)) (.done d))
  (m:∀i x,At l i x->ok x=true->((l.take i).map a).contains (a x)=true->Ev (λn=>step n (i:Int)) (.done d))
  (h:Ev (λn=>step n (l.length:Int)) (.done b)):Ev (λn=>Go.Sw.iter (step n) n 0) (bif l.all ok&&decide ((l.map a).Nodup)then b else d):=by
 have e:=Qik ok a l [] (by simp);rw[Vf]at e;rw[<- e];refine Qbl l (λi=>(i:Int)) (λi=>bif Qi7 ok a ((l.take i).map a) (l.drop i)then b else d) g rfl (λi x f=>?_) ?_
 .rw[f.drop];simp only[Qi7];rw[show(l.take i).map a++[a x]=(l.take (i+1)).map a by rw[f.take];simp]
  grind
 .rw[Xr];exact h
theorem Qg7{α κ B:Type}[DecidableEq κ]{step:Nat->Int->Option (Ctl Int B)}(l:List α)(i:Nat)(a:α->κ)(k:κ)(g b:B)(s:l.length<=4611686018427387904)(hi:i<=l.length)
  (t:∀j y,j<i->At l j y->decide (a y=k)=false->Ev (λn=>step n (j:Int)) (.cont ((j+1:Nat):Int)))
  (r:∀j y,j<i->At l j y->decide (a y=k)=true->Ev (λn=>step n (j:Int)) (.done g))
  (u:Ev (λn=>step n (i:Int)) (.done b)):Ev (λn=>Go.Sw.iter (step n) n 0) (bif ((l.take i).map a).contains k then g else b):=by
 have e:((l.take i).map a).contains k=(l.take i).any λy=>decide (a y=k):=by
  grind
 rw[e];have f:(l.take i).length=i:=by simp;omega
 have h:∀j y,At (l.take i) j y->j<i/\At l j y:=by
  intro j y d;have m:=d.lt';have q:=d.get
  grind[Y4]
 refine YT (l.take i) (λy=>decide (a y=k)) (λi=>(i:Int)) _ _ (by omega) rfl (λj y d p=>?_) (λj y d p=>?_) ?_
 .grind
 .grind
 grind
theorem Qbm{α κ β:Type}[DecidableEq κ]{step:Nat->List (κ×β)×Int->Option (Ctl (List (κ×β)×Int) (List (κ×β)))}(l:List α)(key:α->κ)(v:β)(hl:l.length<=4611686018427387904)
  (hc:∀i x m,At l i x->Ev (λn=>step n (m,(i:Int))) (.cont (Q1 m (key x) v,((i+1:Nat):Int))))
  (hd:∀m,Ev (λn=>step n (m,(l.length:Int))) (.done m)):Ev (λn=>Go.Sw.iter (step n) n ([],0)) (Yc key v l):=
 Qax l (λm x=>Q1 m (key x) v) [] (λm i=>(m,(i:Int))) (λm=>m) hl rfl (by grind) (hd _)
theorem Ev.shift{α:Type}{f:Nat->Option α}{v:α}(h:Ev f v):Ev (λn=>f (n+1)) v:=by
 obtain⟨N,h⟩:=h;exact⟨N,(by grind)⟩
def EvI{S B:Type}(step:Nat->S->Option (Ctl S B))(s:S)(b:B):Prop:=∃N,∀n k,N<=n->N<=k->Go.Sw.iter (step n) k s=some b
section
variable {S B:Type} {step:Nat->S->Option (Ctl S B)} {s s':S} {b:B}
theorem EvI.done(h:Ev (λn=>step n s) (.done b)):EvI step s b:=by
 obtain⟨N,h⟩:=h;refine⟨N+1,λn k e d=>?_⟩;obtain⟨a,rfl⟩:∃a,k=a+1:=⟨k-1,by omega⟩
 grind[Go.Sw.iter]
theorem EvI.cont(h:Ev (λn=>step n s) (.cont s'))(q:EvI step s' b):EvI step s b:=by
 obtain⟨N,h⟩:=h;obtain⟨M,q⟩:=q;refine⟨max N M+1,λn k e d=>?_⟩;obtain⟨a,rfl⟩:∃a,k=a+1:=⟨k-1,by omega⟩
 grind[Go.Sw.iter]
theorem EvI.ev(h:EvI step s b):Ev (λn=>Go.Sw.iter (step n) n s) b:=by
 obtain⟨N,h⟩:=h;exact⟨N,λn a=>h n n a a⟩
theorem EvI.eq{b':B}(h:EvI step s b)(e:b=b'):EvI step s b':=e▸h
end
theorem Qu{α:Type}{l r:List α}{i:Nat}{x:α}(d:l.length<=4611686018427387904)(h:l.drop i=x::r):At l i x/\l.drop (i+1)=r:=by
 have a:l[i]?=some x:=by
  have:=congrArg (λl=>l[0]?) h
  grind
 refine⟨Y4 d a,?_⟩;have:=(Y4 d a).drop
 grind
theorem QS{α:Type}{l:List α}{i:Nat}(h:l.drop i=[])(hi:i<=l.length):decide ((i:Int)<(l.length:Int))=false:=by
 simp_all
theorem Z.{u}{α:Sort u}{a:α}:a=a:=rfl
section
variable {P:Program} {h0 N:Nat} {all:Array Oper} {env:Env} {H H':Qd} {Q:QB} {l:List Oper} {o:Oper} {d:Nat}
theorem aV(x:A)(H:Qd){x':A}{H':Qd}(e:x'=x)(a:H'=H)(k:WO P h0 N all l (up env d x) H Q):WO P h0 N all l (up env d x') H' Q:=by subst e;subst a;exact k
theorem vX(x:A)(a:OpV P o env H x)(k:WO P h0 N all l (up env d x) H Q)(hg:QE all o env true:=by exact rfl)(hd:o.dst=some d:=by exact rfl)(hN:Nat.blt d N=true:=by exact rfl):WO P h0 N all (o::l) env H Q:=
 Y2 hg hd hN a k
theorem Wp:WO P h0 N all [] env H (YK env H):=WO.nil YK.mk
end
section
variable {P:Program} {o:Oper} {env:Env} {H:Qd}
theorem Ql3{ro:Nat->Prop}{σ:Sig}{w:World}(g:GP w){b:Nat}{zs:List Int}(h:Qhq[b]?=some zs):∀(i:Nat),CR ro σ w b ((zs.drop i).map (A.int .i64)) i:=by
 intro i;generalize hl:zs.drop i=l
 induction l generalizing i with
 |nil=>trivial
 |cons z l d=>
  have e:zs[i]?=some z:=by
   have:=congrArg (·[0]?) hl
   grind
  have a:zs.drop (i+1)=l:=by
   rw[<- List.drop_drop,hl];rfl
  exact⟨⟨_,g.tab b zs h i z e,by simp[Qv],rfl⟩,d (i+1) a⟩
theorem Qfp{t n g:Nat}{zs:List Int}(j:∀w,(isAgg t).run P w=.ok true w)(h:∀w,(sizeOf t).run P w=.ok n w)(hg:Qhq[g]?=some zs)(f:zs.length=n)(m:o.op=.load t (.global g):=by exact rfl):
  OpV P o env H (.agg (zs.map (A.int .i64))):=by
 intro k ro σ N a w r;obtain⟨l,d,_,e⟩:=Ys (P:=P) 0 (by simpa using Ql3 (ro:=ro) (σ:=σ) r.sim.roOk.gp hg 0);refine⟨.agg l.toArray,?_,l,rfl,d⟩;have i:a.eval (.global g)=.pointer (some ⟨g,0,none⟩):=rfl
 simp_all[execOp,Instr.loadAt,Instr.sureAddr,loadVar,loadCells]
end
open Go.Proofs
section
variable {P:Program}
def toV(agg:Bool)(l:List Value):Value:=bif agg then .agg l.toArray else l.headD .nilFunc
structure Qg8 (P:Program) (t:TypeId) (h k:Nat) (agg:Bool) (ok:List Value->Prop):Prop where
 len:∀l,ok l->l.length=k
 ia:∀w,(isAgg t).run P w=.ok agg w
 so:∀w,(sizeOf t).run P w=.ok k w
 eq:∀(w:World) (d:Nat) (l m:List Value),ok l->ok m->∃b:Bool,(Op.equalIn (d+h) t (toV agg l) (toV agg m)).run P w=.ok b w/\(b=true↔l=m)
structure QhS (P:Program) (fs:List Field) (h off k:Nat) (ok:List Value->Prop):Prop where
 len:∀l,ok l->l.length=k
 eq:∀(w:World) (d:Nat) (p q l m:List Value),p.length=off->q.length=off->ok l->ok m->∃b:Bool,(Op.eqFields (d+h) (p++l).toArray (q++m).toArray fs).run P w=.ok b w/\(b=true↔l=m)
theorem Qg8.int{t:TypeId}{k:IntKind}(e:P.underlying t=some (.int k))(f:∀w,(isAgg t).run P w=.ok false w)(a:∀w,(sizeOf t).run P w=.ok 1 w)(h:Nat):Qg8 P t (h+1) 1 false (λl=>∃n:Int,l=[.int k n]):=by
 refine⟨?_,f,a,?_⟩
 .simp
 .rintro w d _ _ ⟨n,rfl⟩ ⟨m,rfl⟩;exact⟨_,run_equalIn_int w (d+h) t k k n m e,by simp⟩
theorem Qg8.bool{t:TypeId}(e:P.underlying t=some .bool)(f:∀w,(isAgg t).run P w=.ok false w)(a:∀w,(sizeOf t).run P w=.ok 1 w)(h:Nat):Qg8 P t (h+1) 1 false (λl=>∃n:Bool,l=[.bool n]):=by
 refine⟨?_,f,a,?_⟩
 .simp
 .rintro w d _ _ ⟨n,rfl⟩ ⟨m,rfl⟩;exact⟨_,run_equalIn_bool' w (d+h) t n m e,by simp⟩
theorem QhS.nil(h a:Nat):QhS P [] h a 0 (λl=>l=[]):=by
 refine⟨?_,?_⟩
 .simp
 simp_all[Op.eqFields]
theorem Qgo{t:TypeId}{k:Nat}{agg:Bool}{w:World}(e:∀w,(isAgg t).run P w=.ok agg w)(h:∀w,(sizeOf t).run P w=.ok k w)(p a f:List Value)(g:a.length=k)(d:agg=false->k=1):
  (part t (p++(a++f)).toArray p.length).run P w=.ok (toV agg a) w:=by
 unfold part;cases agg with
 |true=>
  simp_all[toV]
 |false=>
  have:=d rfl;subst this
  match a,g with
  |[v],_=>simp[e,toV]
theorem QhS.cons{f:Field}{fs:List Field}{h i m F:Nat}{agg:Bool}{j k:List Value->Prop}(W:Nat.beq f.offset i=true)(V:f.name≠"_")(g:Qg8 P f.type h m agg j)(u:agg=false->m=1)(E:QhS P fs h (i+m) F k):
  QhS P (f::fs) h i (m+F) (λl=>∃l1 l2,l=l1++l2/\j l1/\k l2):=by
 have t:f.offset=i:=(by simp_all);refine⟨?_,?_⟩
 .rintro _ ⟨l1,l2,rfl,a,b⟩;rw[X2,g.len _ a,E.len _ b]
 .rintro w d p q _ _ y G ⟨l1,l2,rfl,n,O⟩ ⟨r,H,rfl,s,Q⟩;have B:=Qgo (w:=w) g.ia g.so p l1 l2 (g.len _ n) u;have x:=Qgo (w:=w) g.ia g.so q r H (g.len _ s) u;rw[y]at B;rw[G]at x;obtain⟨z,T,L⟩:=g.eq w d l1 r n s;obtain⟨M,J,N⟩:=E.eq w d (p++l1) (q++r) l2 H (by rw[X2,y,g.len _ n]) (by rw[X2,G,g.len _ s]) O Q;rw[Vg,Vg]at J;have R:l1.length=r.length:=by rw[g.len _ n,g.len _ s]
  refine⟨z&&M,?_,?_⟩
  .cases z<;>simp[Op.eqFields,V,t,B,x,T,J]
  .rw[XV,L,N];constructor
   .grind
   .intro e;exact List.append_inj e R
theorem Qg8.struct{t:TypeId}{h k:Nat}{ok:List Value->Prop}(n:P.underlying t=some (.struct (P.fieldsOf t)))(j:P.stoodInHeld t=false)(g:∀w,(isAgg t).run P w=.ok true w)(i:∀w,(sizeOf t).run P w=.ok k w)(e:QhS P (P.fieldsOf t).toList h 0 k ok):Qg8 P t (h+1) k true ok:=by
 refine⟨e.len,g,i,λw d l m a b=>?_⟩;obtain⟨r,p,f⟩:=e.eq w d [] [] l m rfl rfl a b;refine⟨r,?_,f⟩;show(Op.equalIn (d+h+1) t (.agg l.toArray) (.agg m.toArray)).run P w=_
 grind[run_equalIn_agg]
theorem QcP{t:TypeId}{h k:Nat}{fs:Array Field}{ok:List Value->Prop}(d:P.underlying t=some (.struct fs))(a:P.stoodInHeld t=false)(e:∀w,(isAgg t).run P w=.ok true w)(f:∀w,(sizeOf t).run P w=.ok k w)(g:QhS P fs.toList h 0 k ok):Qg8 P t (h+1) k true ok:=by
 grind[Program.fieldsOf,Qg8.struct]
structure EqD (P:Program) (t:TypeId) {α:Type} (cells:α->List A):Prop where
 scl:∀x,Qfx (cells x)=true
 inj:∀x y,YD (cells x)=YD (cells y)->x=y
 guard:P.eqGuardType P.depth t=false
 eq:∀(w:World) x y,∃b:Bool,(Op.equalIn 10000 t (.agg (YD (cells x)).toArray) (.agg (YD (cells y)).toArray)).run P w=.ok b w/\(b=true↔YD (cells x)=YD (cells y))
theorem Qiv{α:Type}{cells:α->List A}{t h k:Nat}{ok:List Value->Prop}(E:Qg8 P t h k true ok)(e:Nat.ble h 10000=true)(a:∀x,ok (YD (cells x)))(d:∀x,Qfx (cells x)=true)(hi:∀x y,YD (cells x)=YD (cells y)->x=y)(hg:P.eqGuardType P.depth t=false):EqD P t cells:=by
 refine⟨d,hi,hg,λw x y=>?_⟩;have:=E.eq w (10000-h) (YD (cells x)) (YD (cells y)) (a x) (a y)
 rwa [show 10000-h+h=10000 by simp_all]at this
variable {o:Oper} {env:Env} {H:Qd}
theorem Qjp{α:Type}[DecidableEq α]{cells:α->List A}{t u:TypeId}{x y:Operand}{p q:α}(E:EqD P t cells)(k:opA env x=.agg (cells p))(s:opA env y=.agg (cells q))(z:o.op=.binOp .eql t x y u:=by exact rfl):OpV P o env H (.bool (p==q)):=by
 intro F B σ N a w r;have g:=Qn r x;have h:=Qn r y;rw[k]at g;rw[s]at h;have l:=VR.val (a:=.agg (cells p)) (E.scl p) g;have i:=VR.val (a:=.agg (cells q)) (E.scl q) h;obtain⟨b,m,j⟩:=E.eq w p q;have n:b=(p==q):=by
  rw[XX,j,Vu];exact⟨E.inj p q,λe=>by rw[e]⟩
 refine⟨.bool (p==q),?_,rfl⟩;rw[<- n];generalize a.eval=ρ at*;have d:ρ x=.agg (YD (cells p)).toArray:=l;have f:ρ y=.agg (YD (cells q)).toArray:=i;simp[z,d,f,go_sem,run_eqGuard_agg _ _ _ _ _ _ _ E.guard,m]
theorem Qjo{α:Type}[DecidableEq α]{cells:α->List A}{t u:TypeId}{x y:Operand}{p q:α}(E:EqD P t cells)(k:opA env x=.agg (cells p))(s:opA env y=.agg (cells q))(z:o.op=.binOp .neq t x y u:=by exact rfl):OpV P o env H (.bool (p != q)):=by
 intro F B σ N a w r;have g:=Qn r x;have h:=Qn r y;rw[k]at g;rw[s]at h;have l:=VR.val (a:=.agg (cells p)) (E.scl p) g;have i:=VR.val (a:=.agg (cells q)) (E.scl q) h;obtain⟨b,m,j⟩:=E.eq w p q;have n:b=(p==q):=by
  rw[XX,j,Vu];exact⟨E.inj p q,λe=>by rw[e]⟩
 refine⟨.bool (p != q),?_,rfl⟩;rw[bne, <- n];generalize a.eval=ρ at*;have d:ρ x=.agg (YD (cells p)).toArray:=l;have f:ρ y=.agg (YD (cells q)).toArray:=i;simp[z,d,f,go_sem,run_eqGuard_agg _ _ _ _ _ _ _ E.guard,m]
end
end Go.Sw
namespace Go.Sw
structure Qex (g g':Nat->Prop) (W W':World):Prop where
 sub:∀b,g b->g' b
 new:∀b,g' b->g b\/W.heap.size<=b
 lt:∀b,g' b->b<W'.heap.size
 all:∀b,W.heap.size<=b->b<W'.heap.size->g' b
 keep:∀b,b<W.heap.size->¬g b->W'.heap[b]?=W.heap[b]?
 size:W.heap.size<=W'.heap.size
 shape:∀b x,W.shape? b=some x->W'.shape? b=some x
 os:W'.os=W.os
 tape:W'.tape=W.tape
 output:W'.output=W.output
 drawn:W.drawn<=W'.drawn
abbrev Jv(T:Type):=List T->(Nat->Prop)->(Nat->Prop)->World->Prop
structure Qmd {T:Type} (J:Jv T):Prop where
 ev:∀rem q g W W' ro',J rem q g W->Qg g q W ro' W'->J rem q g W'
 up:∀rem q g g' W,J rem q g W->(∀b,g b->g' b)->(∀b,g' b->b<W.heap.size)->J rem q g' W
theorem Sim.round{fr g E ro:Nat->Prop}{σ:Sig}{H:Qd}{W W':World}(s:Sim fr ro σ H W)(a:∀b,g b->fr b)(k:Qex g E W W'):Sim (λb=>fr b\/E b) ro σ H W'/\Qg (λb=>b<W.heap.size/\ ¬g b) ro W ro W':=by
 have hro:=λb q=>k.keep b (s.roLt b q) (λr=>s.roFr b q (a b r));have l:Ext ro σ W ro σ W':=by
  have ev:Qg (λ_=>False) ro W ro W':=⟨λ_ q=>q,hro,λ_ q=>q.elim,k.size,k.shape,k.os,k.tape,k.output,k.drawn⟩;have:=ev.ext σ []
  grind
 refine⟨⟨s.len,s.roOk.to (λ_ q=>q) hro (λb q=>Vd (s.roLt b q) k.size),λb q=>q.elim (λq=>Vd (s.frLt b q) k.size) (k.lt b),λb q r=>?_,λi b x f e w=>?_,s.inj,λi y x f e=>?_,
  s.hidTo (· = ·) Q4 k.size (by simp) (λi b x c f e w F=>F.elim id λq=>(k.new c q).elim (a c) λh=>(by have:=(s.hid i b x c f e w).lt;omega)) λj d y m n G=>.inl ⟨j,y,rfl,m,n,id,λc q=>s.hidKeep m n (λz=>k.keep d (s.own j d y m n z).1 λr=>(s.own j d y m n z).2.2 (a d r)) hro q⟩⟩,
  ⟨λ_ q=>q,hro,λb q=>k.keep b q.1 q.2,k.size,k.shape,k.os,k.tape,k.output,k.drawn⟩⟩
 .rcases r with r|r
  .exact s.roFr b q r
  .rcases k.new b r with h|h
   .exact s.roFr b q (a b h)
   .have:=s.roLt b q;omega
 .obtain⟨p,B,t⟩:=s.own i b x f e w;refine⟨Vd p k.size,B,λr=>?_⟩;rcases r with r|r
  .exact t r
  .rcases k.new b r with h|h
   .grind
   .omega
 .refine(s.blk i y x f e).keep l ?_ ?_
  .rintro b rfl u;obtain⟨p,B,t⟩:=s.own i b x f e u;exact k.keep b p (λr=>t (a b r))
  .rintro b c rfl u;have q:=s.hid i b x c f e u;exact k.keep c q.lt (λr=>q.fr (a c r))
def QmW{T:Type}(J Jx:Jv T)(g ri:Nat->Prop)(W1:World)(rem:List T):Ending->World->Prop:=λe W'=>
 ∃g' q',(∀b,q' b->ri b)/\Qex g g' W1 W'/\((e=.returned (.bool true)/\J rem q' g' W')\/(e=.returned (.bool false)/\Jx rem q' g' W'))
structure Ctx (T:Type) where
 l:Nat
 J:Jv T
 Jx:Jv T
 enc:T->List A
 nx:List T->T->List T->Prop
structure Ctx.ok {T:Type} (X:Ctx T) (P:Program):Prop where
 b:Qmd X.J
 bx:Qmd X.Jx
 round:∀l x rem q g ri W1 vs,X.nx l x rem->X.J l q g W1->(∀b,q b->ri b)->(∀b,ri b->b<W1.heap.size/\ ¬g b)->LR ri [] W1 (X.enc x) vs->YieldAt Fence.wide 0 P X.l vs.toArray W1 (QmW X.J X.Jx g ri W1 rem)
inductive YSt (T:Type) where
 |on (rem:List T)
 |off (rem:List T)
def Ctx.J'{T:Type}(X:Ctx T):YSt T->(Nat->Prop)->(Nat->Prop)->World->Prop
 |.on rem=>X.J rem
 |.off rem=>X.Jx rem
def Ctx.at{T:Type}(X:Ctx T)(st:YSt T)(g ro:Nat->Prop)(W:World):Prop:=∃q,(∀b,q b->ro b)/\X.J' st q g W
theorem Qg.roMono{fr ro ro0 ro':Nat->Prop}{w w':World}(h:Qg fr ro w ro' w')(s:∀b,ro0 b->ro b):Qg fr ro0 w ro' w':=
 ⟨λb q=>h.sub b (s b q),λb q=>h.keepRo b (s b q),h.keepFr,h.size,h.shape,h.os,h.tape,h.output,h.drawn⟩
theorem Ctx.ok.ev{T:Type}{X:Ctx T}{P:Program}(h:X.ok P){e:YSt T}{g ro a:Nat->Prop}{W W':World}(d:X.at e g ro W)(he:Qg g ro W a W'):X.at e g a W':=by
 obtain⟨q,f,d⟩:=d;refine⟨q,λb z=>he.sub b (f b z),?_⟩;cases e with
 |on rem=>exact h.b.ev rem q g W W' a d (he.roMono f)
 |off rem=>exact h.bx.ev rem q g W W' a d (he.roMono f)
theorem Ctx.ok.up{T:Type}{X:Ctx T}{P:Program}(h:X.ok P){e:YSt T}{g a ro:Nat->Prop}{W:World}(d:X.at e g ro W)(hg:∀b,g b->a b)(f:∀b,a b->b<W.heap.size):X.at e a ro W:=by
 obtain⟨q,i,d⟩:=d;refine⟨q,i,?_⟩;cases e with
 |on rem=>exact h.b.up rem q g a W d hg f
 |off rem=>exact h.bx.up rem q g a W d hg f
abbrev Y7(T:Type):=AEx->Env->Qd->YSt T->Prop
structure In (g fr:Nat->Prop) (ds:List Deferred):Prop where
 sub:∀b,g b->fr b
 beside:∀D,({target:=.collected D,args:= #[]}:Deferred)∈ds->¬g D
def QcH{T:Type}(X:Ctx T)(h0:Nat)(fr ro:Nat->Prop)(σ:Sig)(w:World)(N:Nat)(ds:List Deferred)(Q:Y7 T):Exit->Act->World->Prop:=
 λe a' w'=>∃x env' H' st ro' σ' fr' g',ExR e x/\Q x env' H' st/\Rel fr' ro' σ' H' env' N a' w'/\(X.at st g' ro' w'/\In g' fr' a'.defers)/\(∀b,ro b->ro' b)/\w.heap.size<=w'.heap.size/\σ'.take h0=σ.take h0/\Grow fr w ds fr' a'.defers
theorem QcH.grow{T:Type}{X:Ctx T}{i:Nat}{fr a ro f:Nat->Prop}{σ σ1:Sig}{w n:World}{N:Nat}{l d:List Deferred}{Q:Y7 T}{e:Exit}{a':Act}{w':World}
  (h:QcH X i a f σ1 n N d Q e a' w')(F:∀b,ro b->f b)(m:w.heap.size<=n.heap.size)(y:σ1.take i=σ.take i)(hg:Grow fr w l a d):QcH X i fr ro σ w N l Q e a' w':=by
 obtain⟨x,g,H',q,k,σ',j,p,z,s,t,E,G,B,u,r⟩:=h;exact⟨x,g,H',q,k,σ',j,p,z,s,t,E,(by grind),XU m B,u.trans y,hg.trans m r⟩
def TCy{T:Type}(X:Ctx T)(P:Program)(h0 N:Nat)(c:Code)(env:Env)(H:Qd)(st:YSt T)(Q:Y7 T):Prop:=
 X.ok P->∀rd fr ro σ a w g,Rel fr ro σ H env N a w->X.at st g ro w/\In g fr a.defers->rd=none->c.wpIn (WF rd) 0 P (QcH X h0 fr ro σ w N a.defers Q) a w
def WOy{T:Type}(X:Ctx T)(P:Program)(h0 N:Nat)(all:Array Oper)(l:List Oper)(env:Env)(H:Qd)(st:YSt T)(Q:Y7 T):Prop:=
 X.ok P->∀rd fr ro σ a w g,Rel fr ro σ H env N a w->X.at st g ro w/\In g fr a.defers->rd=none->wpL P rd all (QcH X h0 fr ro σ w N a.defers Q) l a w
theorem In.later{fr d g:Nat->Prop}{w:World}{ds a:List Deferred}(h:In g fr ds)(f:∀b,fr b->b<w.heap.size)(hg:Grow fr w ds d a):In g d a:=by
 refine⟨λb q=>hg.sub b (h.sub b q),λD hD q=>?_⟩;rcases hg.ds _ hD with r|⟨D',e,r⟩
 .exact h.beside D r q
 .have:=by simpa using e
  have:=f D (h.sub D q);omega
section
variable {T:Type} {X:Ctx T} {P:Program} {h0 N:Nat} {c c':Code} {env:Env} {H:Qd} {st:YSt T} {Q:Y7 T}
theorem Qjh{fr ro:Nat->Prop}{σ:Sig}{w:World}{d:List Deferred}{e:Exit}{a':Act}{w':World}(m:X.ok P)(h:Qao h0 fr ro σ w N d (λx env H=>Q x env H st) e a' w'){g:Nat->Prop}(n:∀b,fr b->b<w.heap.size)(f:X.at st g ro w/\In g fr d):
  QcH X h0 fr ro σ w N d Q e a' w':=by
 obtain⟨x,a,H',i,σ',j,p,q,s,k,r,l⟩:=h;exact⟨x,a,H',st,i,σ',j,g,p,q,s,⟨m.ev f.1 (k.frMono f.2.sub),f.2.later n l⟩,k.sub,k.size,r,l⟩
theorem TCy.lift(h:TC P h0 N c env H (λx env H=>Q x env H st)):TCy X P h0 N c env H st Q:=
 λhX rd fr ro σ a w g r hj hrd=>Code.wpIn_mono (λe a' w' q=>Qjh hX q r.sim.frLt hj) (h rd fr ro σ a w r (hrd▸QaB))
def SeqY(X:Ctx T)(P:Program)(h0 N:Nat)(c:Code)(Q:Y7 T):Y7 T
 |.normal,env,H,st=>TCy X P h0 N c env H st Q
 |.exit id,env,H,st=>Q (.exit id) env H st
 |.ret,env,H,st=>Q .ret env H st
theorem TCy.seq(h:TCy X P h0 N c env H st (SeqY X P h0 N c' Q)):TCy X P h0 N (.seq c c') env H st Q:=by
 intro z B J E σ a w g r hj hrd;refine wpIn_seq (Code.wpIn_mono ?_ (h z B J E σ a w g r hj hrd));rintro e G F ⟨x,d,H',j,i,σ',f,l,k,y,n,t,m,s,p,u⟩;cases e with
 |normal=>
  obtain rfl:x=.normal:=k;exact Code.wpIn_mono (λe a w q=>q.grow m s p u) (y z B f i σ' G F l n t hrd)
 |exit id=>
  obtain rfl:x=.exit id:=k;exact⟨_,d,H',j,i,σ',f,l,rfl,y,n,t,m,s,p,u⟩
 |ret=>
  obtain rfl:x=.ret:=k;exact⟨_,d,H',j,i,σ',f,l,rfl,y,n,t,m,s,p,u⟩
 |_=>exact k.elim
theorem TCy.region{id:Nat}{l:List Oper}(h:WOy X P h0 N l.toArray l env H st Q):TCy X P h0 N (.region id l.toArray false) env H st Q:=
 λhX rd fr ro σ a w g r hj hrd=>wpIn_region_lit (h hX rd fr ro σ a w g r hj hrd)
theorem TCy.cond{x:Operand}{t:Bool}(m:opA env x=.bool t)(k:t=true->TCy X P h0 N c env H st Q)(l:t=false->TCy X P h0 N c' env H st Q):TCy X P h0 N (.cond x c c') env H st Q:=by
 intro d f j h σ a w g r hj hrd;have i:=Qn r x;rw[m]at i;exact wpIn_cond_split i (λe=>k e d f j h σ a w g r hj hrd) (λe=>l e d f j h σ a w g r hj hrd)
theorem WOy.nil{all:Array Oper}(h:Q .normal env H st):WOy X P h0 N all [] env H st Q:=
 λhX rd fr ro σ a w g r hj hrd=>⟨_,env,H,st,ro,σ,fr,g,rfl,h,r,hj,λ_ q=>q,XS _,rfl,Grow.refl _ _ _⟩
end
theorem Qhd{P:Program}{rd:Option Nat}{o:Oper}{a:Act}{K K':Act->World->Prop}{Q Q':Exit->Act->World->Prop}(i:∀a w,K a w->K' a w)(p:∀ch a w,Q (.panic ch) a w->Q' (.panic ch) a w)(m:∀a w,Q .outgrown a w->Q' .outgrown a w)
  {r:Result Next}(h:o.uponIn (WF rd) 0 P a K Q r):o.uponIn (WF rd) 0 P a K' Q' r:=by
 cases r with
 |ok x w=>
  cases x with
  |value v=>exact i _ _ h
  |skip=>exact i _ _ h
  |defer d=>exact i _ _ h
  |enter f g=>
   refine⟨h.1,CallsIn.mono h.2 ?_⟩;intro e n q;cases e with
   |returned v=>grind
   |panicked c=>grind
   |outgrown=>obtain⟨a,w,q⟩:=q;exact⟨a,w,m _ _ q⟩
  |row r g=>exact⟨h.1,RowsIn.mono h.2 λv n q=>i _ _ q⟩
  |round l f j assign k=>
   refine⟨h.1,RoundIn.mono h.2 ?_⟩;intro e n q;cases e with
   |returned v=>grind
   |panicked c=>grind
   |outgrown=>obtain⟨a,w,q⟩:=q;exact⟨a,w,m _ _ q⟩
  |_=>exact h
 |halt x w=>
  cases x with
  |panic v=>exact p _ _ _ h
  |_=>exact h
section
variable {T:Type} {X:Ctx T} {P:Program} {h0 N:Nat} {env:Env} {H:Qd} {st:YSt T} {Q:Y7 T}
theorem WOy.step{all:Array Oper}{o:Oper}{rest:List Oper}(h:WO P h0 N all [o] env H (λx env' H'=>x=.normal/\WOy X P h0 N all rest env' H' st Q)):WOy X P h0 N all (o::rest) env H st Q:=by
 intro y s u l σ a w g r hj hrd;have M:∀j i,Qbp h0 u l σ w N a.defers (λx env' H'=>x=.normal/\WOy X P h0 N all rest env' H' st Q) .normal j i->wpL P s all (QcH X h0 u l σ w N a.defers Q) rest j i:=by
  rintro j i ⟨x,env',H',f,σ',d,O,⟨_,G⟩,B,p,z,F,E⟩;have n:X.at st g f i/\In g d j.defers:=⟨y.ev hj.1 (p.frMono hj.2.sub),by rw[F];exact hj.2.later r.sim.frLt E⟩;have:=G y s d f σ' j i g B n hrd;exact Yj (λe m t q=>(q.grow p.sub p.size z (by grind))) _ _ _ this
 have k:=h s u l σ a w r (hrd▸QaB);unfold wpL wpListIn at k⊢;split
 .rename_i J;rw[Vq J]at k;refine⟨k.1,Qhd (λm t q=>?_) (λL m t q=>?_) (λm t q=>?_) k.2⟩
  .unfold wpListIn at q
   grind
  .obtain⟨x,_,_,_,_,_,q,_⟩:=q;exact q.elim
  .obtain⟨x,_,_,_,_,_,q,_⟩:=q;exact q.elim
 simp_all[wpListIn]
theorem WOy.yield{all:Array Oper}{o:Oper}{rest:List Oper}{d:Nat}{x:T}{G rem:List T}(E:X.nx G x rem)(hg:QE all o env true)(F:o.dst=some d)(hN:Nat.blt d N=true)
  (B:∀fr ro σ a w,Rel fr ro σ H env N a w->∃vs:List Value,LR ro [] w (X.enc x) vs/\(execOp a.eval o).run P w=(Instr.yield X.l vs.toArray).run P w)
  (k:∀b,WOy X P h0 N all rest (up env d (.bool b)) H (bif b then .on rem else .off rem) Q):WOy X P h0 N all (o::rest) env H (.on G) Q:=by
 intro L O fr ro σ a w g r hj hrd;obtain⟨vs,hv,Y⟩:=B fr ro σ a w r;obtain⟨q,hq,u⟩:=hj.1;obtain⟨fn,tmps,assign,M,h1,h2⟩:=L.round G x rem q g ro w vs E u hq (λb z=>⟨r.sim.roLt b z,λy=>r.sim.roFr b z (hj.2.sub b y)⟩) hv;have R:=Y.trans h1;unfold wpL wpListIn;rw[Vq (YG hg r)];refine⟨λ_ _=>trivial,?_⟩;rw[Qcl R (λd e=>by cases e)];refine⟨λh=>by simp[WF,Fence.wide]at h,(RoundIn.mono h2 ?_)⟩;rintro e j ⟨i,n,m,t,f⟩;obtain⟨s',ev⟩:=r.sim.round hj.2.sub t;have J:d<N:=by simp_all
 have p:Ext ro σ w ro σ j:=by have:=ev.ext σ [];grind
 have fin:∀b,X.at (bif b then .on rem else .off rem) i ro j->wpL P O all (QcH X h0 fr ro σ w N a.defers Q) rest (a.put o.dst (.bool b)) j:=by
  intro b f;have W:Qbq (λb=>fr b\/i b) a.defers j:=r.defers.to λD F q1 q2=>⟨.inl q1,(t.keep D (r.sim.frLt D q1) (hj.2.beside D F)).trans q2⟩;have V:In i (λb=>fr b\/i b) a.defers:=by
   refine⟨λb q=>.inr q,λD hD q=>?_⟩;rcases t.new D q with n|n
   .exact hj.2.beside D hD n
   .have:=r.sim.frLt D (r.defers.mark hD).1;omega
  have r':Rel (λb=>fr b\/i b) ro σ H (up env d (.bool b)) N {a with tmps:=a.tmps.setIfInBounds d (.bool b)} j:=
   ⟨s',VR.up (fr:=fr) (λs=>(r.env s).mono p) (by rw[r.size];exact J) rfl,by simpa using r.size,W⟩
  have:=k b L O _ ro σ _ j i r' ⟨f,V⟩ hrd;simp[F];refine Yj (λe a2 w2 q=>q.grow (λ_ q=>q) t.size rfl ⟨λ_ q=>.inl q,λb q=>?_,λ_ q=>q,λ_ q=>.inl q⟩) _ _ _ this;rcases q with q|q
  .exact .inl q
  .rcases t.new b q with q|q
   .exact .inl (hj.2.sub b q)
   omega
 rcases f with⟨rfl,f⟩|⟨rfl,f⟩
 .exact fin true ⟨n,m,f⟩
 .exact fin false ⟨n,m,f⟩
end
section
variable {T:Type} {X:Ctx T} {P:Program} {h0 N:Nat} {c c':Code} {env:Env} {H:Qd} {st:YSt T} {Q Q':Y7 T}
theorem TCy.mono(h:TCy X P h0 N c env H st Q)(q:∀x env H st,Q x env H st->Q' x env H st):TCy X P h0 N c env H st Q':=by
 intro k l m p σ a w g r hj hrd;refine Code.wpIn_mono ?_ (h k l m p σ a w g r hj hrd);rintro e z y ⟨x,d,H',i,f,σ',j,n,s,t,u⟩;exact⟨x,d,H',i,f,σ',j,n,s,q _ _ _ _ t,u⟩
theorem TCy.skip(h:Q .normal env H st):TCy X P h0 N .skip env H st Q:=TCy.lift (TC.skip h)
theorem TCy.ret(h:Q .ret env H st):TCy X P h0 N .ret env H st Q:=TCy.lift (TC.ret h)
theorem TCy.exit{id:Nat}(h:Q (.exit id) env H st):TCy X P h0 N (.exit id) env H st Q:=TCy.lift (TC.exit h)
def BloY(id:Nat)(Q:Y7 T):Y7 T
 |.normal,env,H,st=>Q .normal env H st
 |.exit id',env,H,st=>bif Nat.beq id' id then Q .normal env H st else Q (.exit id') env H st
 |.ret,env,H,st=>Q .ret env H st
theorem TCy.block{id:Nat}(h:TCy X P h0 N c env H st (BloY id Q)):TCy X P h0 N (.block id c) env H st Q:=by
 intro s t u y σ a w g r hj hrd;refine wpIn_block (Code.wpIn_mono ?_ (h s t u y σ a w g r hj hrd));rintro e E B ⟨x,d,H',j,i,σ',k,m,n,l,p⟩;cases e with
 |normal=>
  obtain rfl:x=.normal:=n;exact⟨_,d,H',j,i,σ',k,m,rfl,l,p⟩
 |exit f=>
  obtain rfl:x=.exit f:=n;unfold Exit.inBlock;simp only[BloY]at l;by_cases q:f=id
  .subst q;rw[VB,Vm]at l;simp;exact⟨.normal,d,H',j,i,σ',k,m,rfl,l,p⟩
  .have z:Nat.beq f id=false:=by
    cases e:Nat.beq f id with
    |false=>rfl
    |true=>simp_all
   rw[z,Vn]at l;simp[q];exact⟨.exit f,d,H',j,i,σ',k,m,rfl,l,p⟩
 |ret=>
  obtain rfl:x=.ret:=n;exact⟨_,d,H',j,i,σ',k,m,rfl,l,p⟩
 |_=>exact n.elim
end
section
variable {T:Type} {X:Ctx T} {P:Program} {h0 N:Nat} {c:Code} {env:Env} {H:Qd} {st:YSt T} {Q:Y7 T}
def Qjt(I:Env->Qd->YSt T->Prop)(Q:Y7 T):Y7 T
 |.normal,env,H,st=>I env H st
 |.exit id,env,H,st=>Q (.exit id) env H st
 |.ret,env,H,st=>Q .ret env H st
theorem Qjc{I:Nat->Env->Qd->YSt T->Prop}(t:∀n env H st,I n env H st->TCy X P h0 N c env H st (Qjt (λenv H st=>∃n',n'<n/\I n' env H st) Q)){n:Nat}(F:I n env H st):TCy X P h0 N (.loop c) env H st Q:=by
 intro hX rd E z σ a w g r hj hrd b k cs hro hb hr;have G:∀m n env H st fr1 ro1 σ1 a1 w1 g1,n<m->I n env H st->Rel fr1 ro1 σ1 H env N a1 w1->(∀b,z b->ro1 b)->w.heap.size<=w1.heap.size->σ1.take h0=σ.take h0->Grow E w a.defers fr1 a1.defers->X.at st g1 ro1 w1/\In g1 fr1 a1.defers->
   ∃e i h,QcH X h0 E z σ w N a.defers Q e i h/\ArrivesIn (Machine.fenced P (WF rd)) P (lone (b.atR a1 (.code c::.inLoop c::k)) cs w1) b k cs e i h:=by
  intro m
  induction m with
  |zero=>omega
  |succ m ih=>
   intro n env H st fr1 ro1 σ1 a1 w1 g1 hn F r1 s1 z1 t1 gr1 j1;obtain⟨e,i,h,J,d⟩:=t n env H st F hX rd fr1 ro1 σ1 a1 w1 g1 r1 j1 hrd b (.inLoop c::k) cs hro hb hr;obtain⟨x,f,H',j,y,σ',s,O,B,p,W,R,q5,q6,M,q8⟩:=J;have V:=λb q=>q5 b (s1 b q);have u:=gr1.trans z1 q8;have Y:∀x,Q x f H' j->ExR e x->QcH X h0 E z σ w N a.defers Q e i h:=λx q q'=>⟨x,f,H',j,y,σ',s,O,q',q,W,R,V,XU z1 q6,M.trans t1,u⟩;cases e with
   |normal=>
    obtain rfl:x=.normal:=B;obtain⟨n',aa,p⟩:=p;obtain⟨e2,a2,w2,L,l⟩:=ih n' f H' j s y σ' i h O (by omega) p W V (XU z1 q6) (M.trans t1) u R;exact⟨e2,a2,w2,L,.of_steps (StepsIn.trans d (.one (fenced_calm hb hr rfl) stepR_inLoop)) l⟩
   |exit id=>
    obtain rfl:x=.exit id:=B;exact⟨_,i,h,Y _ p rfl,.pass rfl (λ_ _=>.inl (by simp)) d⟩
   |ret=>
    obtain rfl:x=.ret:=B;exact⟨_,i,h,Y _ p rfl,.pass rfl (λ_ _=>.inl (by simp)) d⟩
   |_=>exact B.elim
 obtain⟨e,i,h,J,d⟩:=G (n+1) n env H st E z σ a w g (Xn _) F r (λ_ q=>q) (XS _) rfl (Grow.refl _ _ _) hj;exact⟨e,i,h,J,.of_steps (.one (fenced_calm hb hr rfl) stepR_loop) d⟩
end
theorem Sim.part{fr ro:Nat->Prop}{σ:Sig}{H:Qd}{w:World}(s0:Sim fr ro σ H w){π:List Nat}{Hc:Qd}(Y:π.map (λp=>H[p]?)=(Hc.map (QU (rho π H.length))).map some)(hπ:π.Nodup):
  Sim (λb=>fr b\/(∃i x,σ[i]?=some (some b)/\H[i]?=some x/\x.live=true/\i∉π)\/ ∃i x d,σ[i]?=some (some d)/\H[i]?=some x/\Hid w x d b/\i∉π) ro (Yz σ π) Hc w/\ ∀j:Nat,σ[rho π H.length j]?=(Yz σ π)[j]? :=by
 have hp:∀p∈π,p<H.length:=λp q=>Y9 Y q;have hσl:=s0.len;have h:∀(j p:Nat),π[j]?=some p->H[p]?=(Hc[j]?).map (QU (rho π H.length)):=by
  intro j p m;have:=congrArg (λl=>l[j]?) Y
  grind
 have N:π.length=Hc.length:=by simpa using congrArg List.length Y
 have hσc:∀j:Nat,σ[rho π H.length j]?=(Yz σ π)[j]? :=by
  intro j;have:=QdA (τ:=[]) hσl hp j
  grind
 have hπj:∀(j b:Nat),(Yz σ π)[j]?=some (some b)->∃p,π[j]?=some p/\σ[p]?=some (some b):=by
  intro j b m;simp only[Yz,Xo]at m
  grind
 refine⟨?_,hσc⟩
 .refine⟨by simp[Yz,N],s0.roOk,?_,?_,?_,?_,?_,?_⟩
  .rintro b (M|⟨i,x,a,g,f,L⟩|⟨i,x,d,a,g,f,L⟩)
   .exact s0.frLt b M
   .exact(s0.own i b x a g f).1
   .exact(s0.hid i d x b a g f).lt
  .rintro b M (J|⟨i,x,a,g,f,L⟩|⟨i,x,d,a,g,f,L⟩)
   .exact s0.roFr b M J
   .exact(s0.own i b x a g f).2.1 M
   .exact(s0.hid i d x b a g f).ro M
  .intro j b x a g f;obtain⟨p,e,u⟩:=hπj j b a;have B:H[p]?=some (QU (rho π H.length) x):=by grind
   obtain⟨o1,o2,o3⟩:=s0.own p b _ u B (by rw[QG];exact f);refine⟨o1,o2,?_⟩;rintro(J|⟨i,y,y1,y2,E,P⟩|⟨i,y,d,y1,y2,E,P⟩)
   .exact o3 J
   .have:=s0.inj i p b _ _ y1 u y2 B E (by rw[QG];exact f)
    grind
   .exact(s0.hid i d y b y1 y2 E).ne p b _ u B (by rw[QG];exact f) rfl
  .intro i j b x y a g f L q5 q6;obtain⟨p,e,u⟩:=hπj i b a;obtain⟨n,t,R⟩:=hπj j b g;have B:H[p]?=some (QU (rho π H.length) x):=by rw[h i p e,f];rfl
   have W:H[n]?=some (QU (rho π H.length) y):=by rw[h j n t,L];rfl
   have:=s0.inj p n b _ _ u R B W (by rw[QG];exact q5) (by rw[QG];exact q6);subst this;have F:i<π.length:=by
    rcases Vy i π.length with q|q
    .exact q
    .rw[XN q]at e;simp at e
   have m:j<π.length:=by
    rcases Vy j π.length with q|q
    .exact q
    .rw[XN q]at t;simp at t
   rw[XJ F]at e;rw[XJ m]at t;have r:=(XY e).trans (XY t).symm;rcases Nat.lt_trichotomy i j with q|q|q
   .exact(VA.1 hπ i j F m q r).elim
   .exact q
   .exact(VA.1 hπ j i m F q r.symm).elim
  .intro j s x a g;have m:j<π.length:=by
    rcases Vy j π.length with q|q
    .exact q
    .rw[XN (by simpa[Yz]using q)]at a;simp at a
   have e:π[j]?=some π[j]:=XJ m;have B:H[π[j]]?=some (QU (rho π H.length) x):=by rw[h j _ e,g];rfl
   have u:σ[π[j]]?=some s:=by
    have:=hσc j;rw[a]at this;simpa[rho,e]using this
   exact(Qf5 hσc).1 (s0.blk _ s _ u B)
  .intro j b x c a g f;obtain⟨p,e,u⟩:=hπj j b a;have B:H[p]?=some (QU (rho π H.length) x):=by rw[h j p e,g];rfl
   have k:=s0.hid p b _ c u B ((Qah _ _ _ _ _).2 f);refine⟨k.lt,k.ro,?_,?_,?_⟩
   .rintro(J|⟨i,y,y1,y2,E,P⟩|⟨i,y,d,y1,y2,E,P⟩)
    .exact k.fr J
    .exact k.ne i c y y1 y2 E rfl
    .obtain⟨rfl,rfl⟩:=k.one i d y y1 y2 E;exact P (VD e)
   .intro z O y Q X T;obtain⟨n,G,V⟩:=hπj z O Q;exact k.ne n O _ V (show H[n]?=some (QU (rho π H.length) y)by rw[h z n G,X];rfl) (by rw[QG];exact T)
   .intro z O y Q X T;obtain⟨n,G,V⟩:=hπj z O Q;obtain⟨z4,z5⟩:=k.one n O _ V (show H[n]?=some (QU (rho π H.length) y)by rw[h z n G,X];rfl) ((Qah _ _ _ _ _).2 T);subst z5;have F:z<π.length:=(XK.1 G).1;have m:j<π.length:=(XK.1 e).1;rw[XJ F]at G;rw[XJ m]at e;have r:=(XY G).trans (XY e).symm;refine⟨z4,?_⟩;rcases Nat.lt_trichotomy z j with q|q|q
    .exact(VA.1 hπ z j F m q r).elim
    .exact q
    .exact(VA.1 hπ j z m F q r.symm).elim
theorem Sim.frames{fr fr' ro:Nat->Prop}{σ:Sig}{H:Qd}{w:World}(s:Sim fr ro σ H w)(lt:∀b,fr' b->b<w.heap.size)(hro:∀b,ro b->¬fr' b)(own:∀(i b:Nat) (x:Blk),σ[i]?=some (some b)->H[i]?=some x->x.live=true->¬fr' b)
  (hd:∀(i b:Nat) (x:Blk) (c:Nat),σ[i]?=some (some b)->H[i]?=some x->Hid w x b c->¬fr' c):Sim fr' ro σ H w:=
 ⟨s.len,s.roOk,lt,hro,λi b x q1 q2 q3=>⟨(s.own i b x q1 q2 q3).1,(s.own i b x q1 q2 q3).2.1,own i b x q1 q2 q3⟩,s.inj,s.blk,
  s.hidTo (· = ·) Q4 (XS _) (by simp) (by grind) (by grind)⟩
theorem Sim.put{fr ro:Nat->Prop}{σ:Sig}{H:Qd}{w:World}(s:Sim fr ro σ H w){b:Nat}{obj:Obj}(l:fr b)(t:w.shape? b=none):
  Sim fr ro σ H (w.putObj b obj)/\Qg (λc=>c≠b) ro w ro (w.putObj b obj):=by
 have a:∀c,c≠b->(w.putObj b obj).heap[c]?=w.heap[c]? :=λc u=>World.putObj_heap_other u;have g:(w.putObj b obj).heap.size=w.heap.size:=by simp
 have r:∀c,ro c->c≠b:=λc q e=>s.roFr c q (e▸l);have ev:Qg (λc=>c≠b) ro w ro (w.putObj b obj):=by
  refine⟨λ_ q=>q,(by grind),λc q=>a c q,by omega,λc x q=>?_,rfl,rfl,rfl,XS _⟩
  grind[World.shape?]
 have k:Ext ro σ w ro σ (w.putObj b obj):=by have:=ev.ext σ [];grind
 refine⟨⟨s.len,s.roOk.to (λ_ q=>q) ev.keepRo (λc q=>by rw[g];exact s.roLt c q),λc q=>by rw[g];exact s.frLt c q,s.roFr,λi c x h f B=>?_,s.inj,λi y x h f=>?_,
  s.hidTo (· = ·) Q4 (by omega) (by simp) (by simp) λj d y n p J=>.inl ⟨j,y,rfl,n,p,id,λc q=>s.hidKeep n p (λz=>a d (λe=>(s.own j d y n p z).2.2 (e▸l))) ev.keepRo q⟩⟩,ev⟩
 .obtain⟨E,F,G⟩:=s.own i c x h f B
  grind
 .refine(s.blk i y x h f).keep k ?_ ?_
  .rintro c rfl m;exact a c (λe=>(s.own i c x h f m).2.2 (e▸l))
  .rintro d c rfl m;exact a c (λe=>(s.hid i d x c h f m).fr (e▸l))
theorem QdR{w:World}{l:Nat}{r:Loop}(h:w.heap[l]?=some (.loop r)):w.shape? l=none:=by
 unfold World.shape?;rw[h]
structure Fix where
 fr:Nat->Prop
 ro:Nat->Prop
 σ:Sig
 w:World
 h1:Nat
 env:Env
 tmps:Array Value
 ds1:List Deferred
 l:Nat
 rc:LoopState->Option Code->Loop
 fr1:Nat->Prop
structure Fix.Ok (D:Fix):Prop where
 sub:∀b,D.fr b->D.fr1 b
 l1:D.fr1 D.l
 lf:¬D.fr D.l
 len:D.σ.length=D.h1
structure RJ (D:Fix) (ro1:Nat->Prop) (σ1:Sig) (H:Qd) (st:LoopState) (pe:Option Code) (q g:Nat->Prop) (W:World):Prop where
 sim:Sim D.fr1 ro1 σ1 H W
 env:∀t,VR ro1 D.σ W (lk D.env t) (D.tmps.getD t undef)
 sig:σ1.take D.h1=D.σ
 ev:Qg D.fr D.ro D.w ro1 W
 marks:Qbq D.fr1 D.ds1 W
 rc:W.heap[D.l]?=some (.loop (D.rc st pe))
 roG:∀b,ro1 b->q b\/g b
 frG:∀b,D.fr1 b->g b
 own:∀(i b:Nat) (x:Blk),σ1[i]?=some (some b)->H[i]?=some x->x.live=true->g b
 hidG:∀(i b:Nat) (x:Blk) (c:Nat),σ1[i]?=some (some b)->H[i]?=some x->Hid W x b c->g c
 lt:∀b,g b->b<W.heap.size
theorem Qge{σ σ1:Sig}{a:Nat}(h:σ1.take a=σ){i b:Nat}(q:σ[i]?=some (some b)):σ1[i]?=some (some b):=by
 grind
section
variable {D:Fix} {ro1:Nat->Prop} {σ1:Sig} {H:Qd} {st:LoopState} {pe:Option Code} {qR g:Nat->Prop} {W:World}
theorem RJ.step(r:D.Ok)(j:RJ D ro1 σ1 H st pe qR g W){k:Nat->Prop}{W':World}(e:Qg g qR W k W'):RJ D ro1 σ1 H st pe qR g W':=by
 have hro:=λb q=>(j.roG b q).elim (e.keepRo b) (e.keepFr b);have ev:Qg D.fr1 ro1 W ro1 W':=⟨λ_ q=>q,hro,λb q=>e.keepFr b (j.frG b q),e.size,e.shape,e.os,e.tape,e.output,e.drawn⟩;have h:∀σ,Ext ro1 σ W ro1 σ W':=λ σ=>by have:=ev.ext σ [];grind
 refine⟨⟨j.sim.len,j.sim.roOk.to (λ_ q=>q) hro (λb q=>Vd (j.sim.roLt b q) e.size),λb q=>Vd (j.sim.frLt b q) e.size,j.sim.roFr,λi b x f a p=>?_,j.sim.inj,λi z x f a=>?_,
  j.sim.hidTo (· = ·) Q4 e.size (by simp) (by simp) λi d y m n w=>.inl ⟨i,y,rfl,m,n,id,λc q=>j.sim.hidKeep m n (λz=>e.keepFr d (j.own i d y m n z)) hro q⟩⟩,
  λt=>(j.env t).mono (h _),j.sig,j.ev.trans (ev.frMono r.sub),j.marks.keep ev,(ev.keepFr _ r.l1).trans j.rc,j.roG,j.frG,j.own,λi b x c f a p=>j.hidG i b x c f a (j.sim.hidKeep f a (λz=>e.keepFr b (j.own i b x f a z)) hro p),λb q=>Vd (j.lt b q) e.size⟩
 .obtain⟨s,u⟩:=j.sim.own i b x f a p;exact⟨Vd s e.size,u⟩
 .refine(j.sim.blk i z x f a).keep (h _) ?_ ?_
  .rintro b rfl l;exact e.keepFr b (j.own i b x f a l)
  .rintro b c rfl l;exact e.keepFr c (j.hidG i b x c f a l)
theorem RJ.up{g':Nat->Prop}(j:RJ D ro1 σ1 H st pe qR g W)(h:∀b,g b->g' b)(hl:∀b,g' b->b<W.heap.size):RJ D ro1 σ1 H st pe qR g' W:=
 {j with roG:=λb q=>(j.roG b q).imp id (h b),frG:=λb q=>h b (j.frG b q),own:=λi b x q1 q2 q3=>h b (j.own i b x q1 q2 q3),hidG:=λi b x c q1 q2 q3=>h c (j.hidG i b x c q1 q2 q3),lt:=hl}
def FrB(D:Fix)(ro1 g:Nat->Prop)(W:World):Nat->Prop:=λb=>(D.fr1 b\/(¬g b/\ ¬ro1 b))/\b<W.heap.size
theorem RJ.simB(j:RJ D ro1 σ1 H st pe qR g W):Sim (FrB D ro1 g W) ro1 σ1 H W:=by
 refine j.sim.frames (λb q=>q.2) (λb q r=>?_) (λi b x d a e r=>?_) (λi b x c d a e r=>r.1.elim (j.sim.hid i b x c d a e).fr λr=>r.1 (j.hidG i b x c d a e))
 .rcases r.1 with r|r
  .exact j.sim.roFr b q r
  grind
 .rcases r.1 with r|r
  .exact(j.sim.own i b x d a e).2.2 r
  .exact r.1 (j.own i b x d a e)
theorem RJ.fin(z:D.Ok)(j:RJ D ro1 σ1 H st pe qR g W){w n:Nat->Prop}{σ':Sig}{H':Qd}{W':World}{st':LoopState}{pe':Option Code}
  (ev:Qg (λb=>FrB D ro1 g W b/\b≠D.l) ro1 W n W')(s:Sim w n σ' H' W')(u:∀b,FrB D ro1 g W b->w b)(hσ:σ'.take D.h1=σ1.take D.h1)(E:W'.heap[D.l]?=some (.loop (D.rc st' pe'))):
  RJ D n σ' H' st' pe' qR (λb=>g b\/(W.heap.size<=b/\b<W'.heap.size)) W'/\Qex g (λb=>g b\/(W.heap.size<=b/\b<W'.heap.size)) W W':=by
 have h:∀b,D.fr1 b->FrB D ro1 g W b:=λb q=>⟨.inl q,j.sim.frLt b q⟩;have evf:=ev.frMono λb q=>⟨h b (z.sub b q),λe=>z.lf (e▸q)⟩;have hext:=ev.ext0 D.σ;have y:∀b,b<W.heap.size->b<W'.heap.size:=λb q=>Vd q ev.size;have f:∀b,b<W.heap.size->¬FrB D ro1 g W b->g b\/ro1 b:=by
  intro b d J;by_cases m:g b
  .exact .inl m
  .by_cases a:ro1 b
   .exact .inr a
   .exact absurd ⟨.inr ⟨m,a⟩,d⟩ J
 refine⟨⟨s.frames (λb q=>y b (j.sim.frLt b q)) (λb q r=>s.roFr b q (u b (h b r))) (λi b x m a p r=>(s.own i b x m a p).2.2 (u b (h b r))) (λi b x c m a p r=>(s.hid i b x c m a p).fr (u c (h c r))),
  λt=>(j.env t).mono hext,hσ.trans j.sig,j.ev.trans evf,j.marks.to λB _ e2 e3=>⟨e2,(ev.keepFr B ⟨h B e2,λe=>?_⟩).trans e3⟩,E,λb q=>?_,λb q=>.inl (j.frG b q),λi b x m a p=>?_,λi b x c m a p=>?_,λb q=>q.elim (λq=>y b (j.lt b q)) (λq=>q.2)⟩,
  ⟨λb q=>.inl q,(by grind),λb q=>q.elim (λq=>y b (j.lt b q)) (λq=>q.2),(by omega),λb m a=>?_,ev.size,ev.shape,ev.os,ev.tape,ev.output,ev.drawn⟩⟩
 .subst e;rw[j.rc]at e3;cases e3
 .rcases Vy b W.heap.size with d|d
  .rcases f b d (λr=>s.roFr b q (u b r))with r|r
   .grind
   .exact(j.roG b r).imp id .inl
  .exact .inr (.inr ⟨d,s.roLt b q⟩)
 .obtain⟨L,F,G⟩:=s.own i b x m a p;rcases Vy b W.heap.size with d|d
  .rcases f b d (λr=>G (u b r))with r|r
   .exact .inl r
   .exact absurd (ev.sub b r) F
  omega
 .have k:=s.hid i b x c m a p;rcases Vy c W.heap.size with d|d
  .rcases f c d (λr=>k.fr (u c r))with r|r
   .exact .inl r
   .exact absurd (ev.sub c r) k.ro
  .exact .inr ⟨d,k.lt⟩
 .by_cases r:ro1 b
  .exact ev.keepRo b r
  .exact ev.keepFr b ⟨(by grind),λe=>a (j.frG b (e▸z.l1))⟩
end
theorem Sim.roAdd{fr ro a:Nat->Prop}{σ:Sig}{H:Qd}{w:World}(s:Sim fr ro σ H w)(e:∀b,a b->b<w.heap.size)(g:∀b,a b->¬fr b)(h:∀(i b:Nat) (x:Blk),σ[i]?=some (some b)->H[i]?=some x->x.live=true->¬a b)
  (j:∀(i b:Nat) (x:Blk) (c:Nat),σ[i]?=some (some b)->H[i]?=some x->Hid w x b c->¬a c):Sim fr (λb=>ro b\/a b) σ H w:=by
 have ext:Ext ro σ w (λb=>ro b\/a b) σ w:=⟨λ_ q=>.inl q,λ_ _=>rfl,λ_ _ q=>q,λ_ _ q=>q⟩;refine⟨s.len,s.roOk.to (λ_ q=>.inl q) (λ_ _=>rfl) (λb q=>q.elim (s.roLt b) (e b)),s.frLt,λb q=>q.elim (s.roFr b) (g b),λi b x f d k=>?_,s.inj,λi y x f d=>(s.blk i y x f d).keep ext (λ_ _ _=>rfl) (λ_ _ _ _=>rfl),
  s.hidTo (· = ·) Q4 (XS _) (by grind) (by simp) (by grind)⟩
 obtain⟨l,m,n⟩:=s.own i b x f d k
 grind
theorem RJ.roAdd{D:Fix}{ro1:Nat->Prop}{σ1:Sig}{H:Qd}{st:LoopState}{pe:Option Code}{qR ri g:Nat->Prop}{W:World}(j:RJ D ro1 σ1 H st pe qR g W)(hq:∀b,qR b->ri b)(hI:∀b,ri b->b<W.heap.size/\ ¬g b):RJ D (λb=>ro1 b\/ri b) σ1 H st pe ri g W:=
 {j with
  sim:=j.sim.roAdd (λb q=>(hI b q).1) (λb q z=>(hI b q).2 (j.frG b z)) (λi b x q1 q2 q3 z=>(hI b z).2 (j.own i b x q1 q2 q3)) (λi b x c q1 q2 q3 z=>(hI c z).2 (j.hidG i b x c q1 q2 q3))
  env:=λt=>(j.env t).mono ⟨λ_ q=>.inl q,λ_ _=>rfl,λ_ _ q=>q,λ_ _ q=>q⟩
  ev:=j.ev.trans (QX λ_ q=>.inl q)
  roG:=λb q=>q.elim (λq=>(j.roG b q).imp (hq b) id) .inl}
def upPs:List Nat->List A->Env->Env
 |p::ps,a::zs,env=>upPs ps zs (up env p a)
 |_,_,env=>env
def Qhf:List Nat->List Value->Array Value->Array Value
 |p::ps,v::vs,t=>Qhf ps vs (t.setIfInBounds p v)
 |_,_,t=>t
theorem QeS:∀(ps:List Nat) (vs:List Value) (t:Array Value),(Qhf ps vs t).size=t.size
 |[],_,_=>rfl
 |_::_,[],_=>rfl
 |p::ps,v::vs,t=>by simp[Qhf,QeS ps]
theorem QeT:∀(ps:List Nat) (vs:List Value) (t:Array Value),(ps.toArray.zip vs.toArray).foldl (λt (p,v)=>t.setIfInBounds p v) t=Qhf ps vs t
 |[],vs,t=>by rw[<- Array.foldl_toList,Array.toList_zip];rfl
 |p::ps,[],t=>by rw[<- Array.foldl_toList,Array.toList_zip];rfl
 |p::ps,v::vs,t=>by
  have:=QeT ps vs (t.setIfInBounds p v);rw[<- Array.foldl_toList,Array.toList_zip]at this⊢;exact this
theorem QhY{ro:Nat->Prop}{σ:Sig}{w:World}:∀(ps:List Nat) (zs:List A) (vs:List Value) (env:Env) (t:Array Value),LR ro σ w zs vs->(∀p∈ps,p<t.size)->(∀s,VR ro σ w (lk env s) (t.getD s undef))->
  ∀s,VR ro σ w (lk (upPs ps zs env) s) ((Qhf ps vs t).getD s undef)
 |[],_,_,_,_,_,_,h=>h
 |p::ps,[],vs,_,_,hv,_,h=>by
  obtain rfl:vs=[]:=hv;exact h
 |p::ps,a::zs,vs,env,t,hv,hp,h=>by
  obtain⟨v,vs',rfl,h0,hv'⟩:=hv;have h1:=VR.up (fr:=λ_=>False) (a:={tmps:=t,defers:=[]}) h (hp p (by simp)) h0;exact QhY ps zs vs' (up env p a) (t.setIfInBounds p v) hv' (λq hq=>by grind) h1
def QmX(h1:Nat)(env:Env)(Q:QB)(K:Qd->Prop):QB
 |.normal,env',H'=>∃H2,Le h1 env' H' [] H2/\K H2
 |.exit id,env',H'=>∃H2,Le h1 env' H' [] H2/\Q (.exit id) env H2
 |.ret,env',H'=>∃H2,Le h1 env' H' [] H2/\Q .ret env H2
def Jump(Q:QB)(env:Env)(c:Code)(H:Qd):Prop:=(∃id,c=.exit id/\Q (.exit id) env H)\/(c=.ret/\Q .ret env H)
section
variable {D:Fix} {ro0:Nat->Prop} {σ1:Sig} {H:Qd} {qR ri g:Nat->Prop} {W:World} {P:Program} {N:Nat} {Q:QB} {K:Qd->Prop}
theorem RJ.round{fn:FuncId}{G:List Nat}{assign body:Code}{df:Nat}{J:List A}{vs:List Value}(hD:D.Ok)(ad:D.rc=λst pe=>{state:=st,pending:=pe,fn:=fn,tmps:=D.tmps,params:=G.toArray,assign:=assign,body:=body,defers:=df})
  (hN:D.tmps.size=N)(an:∀p∈G,p<N)(am:J.length=G.length)(hq:∀b,qR b->ri b)(hI:∀b,ri b->b<W.heap.size/\ ¬g b)(ae:LR ri [] W J vs)(j0:RJ D ro0 σ1 H .ready none qR g W)
  (h:TC P D.h1 N assign (upPs G J D.env) H λe env1 H1=>e=.normal/\TC P D.h1 N body env1 H1 (QmX D.h1 D.env Q K)):
  YieldAt Fence.wide 0 P D.l vs.toArray W λe W'=>∃g',Qex g g' W W'/\((e=.returned (.bool true)/\ ∃H2 ro2 σ2,K H2/\RJ D ro2 σ2 H2 .ready none ri g' W')\/
   (e=.returned (.bool false)/\ ∃H2 c ro2 σ2,Jump Q D.env c H2/\RJ D ro2 σ2 H2 .done (some c) ri g' W')):=by
 have ao:vs.length=J.length:=ae.length;have j:=j0.roAdd hq hI;have x:LR (λb=>ro0 b\/ri b) σ1 W J vs:=ae.mono ⟨λ_ q=>.inr q,λ_ _=>rfl,λ_ _ q=>q,λi b q=>by simp at q⟩;clear j0;generalize(λb=>ro0 b\/ri b)=ro1 at j x;have ai:∀b,D.fr1 b->FrB D ro1 g W b:=λb q=>⟨.inl q,j.sim.frLt b q⟩;have y:=ai _ hD.l1;have ac:=j.rc;have hy:=run_yield (P:=P) (r:=D.rc .ready none) (args:=vs.toArray) ac (by grind);refine⟨fn,Qhf G vs D.tmps,assign,body,?_,?_⟩
 .grind[QeT]
 .refine roundIn_of_wpIn trivial ?_;show Code.wpIn (WF (some D.l)) 0 P _ _ _ _;have aa:∀s,VR ro1 σ1 W (lk D.env s) (D.tmps.getD s undef):=λs=>(j.env s).mono ⟨λ_ q=>q,λ_ _=>rfl,λ_ _ q=>q,λi b q=>Qge j.sig q⟩;have ak:Qdx (some D.l) (FrB D ro1 g W) W:=λl e=>by grind
  have u:=h (some D.l) (FrB D ro1 g W) ro1 σ1 {tmps:=Qhf G vs D.tmps,defers:=[]} W ⟨j.simB,QhY G J vs D.env D.tmps x (by grind) aa,by simp[QeS,hN],List.nodup_nil,λd hd=>by cases hd⟩ ak;refine Code.wpIn_mono ?_ u;rintro e a1 u ⟨x1,env1,H1,ro2,σ2,n,h1,⟨rfl,h2⟩,h3,h4,h5,h6⟩;cases e with
  |normal=>
   have L:u.heap[D.l]?=some (.loop (D.rc .ready none)):=(h4.keepFr _ y).trans ac;refine⟨_,run_beginRound L (by rw[ad]),?_⟩;obtain⟨s2,z⟩:=h3.sim.put (obj:=.loop {D.rc .ready none with state:=.busy}) (h6.sub _ y) (QdR L);have M:D.l<u.heap.size:=by grind
   have ah:(u.putObj D.l (.loop {D.rc .ready none with state:=.busy})).heap[D.l]?=some (.loop {D.rc .ready none with state:=.busy}):=World.putObj_heap_same M;generalize hw2:u.putObj D.l (.loop {D.rc .ready none with state:=.busy})=w2 at*;have al:Qbq n a1.defers w2:=h3.defers.to λB _ e2 e3=>⟨e2,(z.keepFr B (λe=>by grind)).trans e3⟩;have r2:Rel n ro2 σ2 H1 env1 N a1 w2:=⟨s2,λs=>(h3.env s).mono (z.ext0 σ2),h3.size,al⟩;have T:n D.l:=h6.sub _ y;refine Code.wpIn_mono ?_ (h2 (some D.l) n ro2 σ2 a1 w2 r2 (λl e=>by grind));rintro e a3 t ⟨x3,ab,H3,E,σ3,R,g1,g2,g3,g4,g5,g6⟩;have k:t.heap[D.l]?=some (.loop {D.rc .ready none with state:=.busy}):=(g4.keepFr _ T).trans ah;have F:∀(H2:Qd) (jump:Option Code),Le D.h1 ab H3 [] H2->∃v m,(Instr.endRound D.l jump).run P t=.ok v m/\v=.bool jump.isNone/\ ∃g',Qex g g' W m/\ ∃a σ4,RJ D a σ4 H2 (if jump.isNone then .ready else .done) jump ri g' m:=by
    intro H2 jump f;obtain⟨a,σ4,r4,s4,t4⟩:=f R E σ3 N a3 t g3;refine⟨_,_,run_endRound jump k,rfl,?_⟩;have ag:R D.l:=g6.sub _ T;obtain⟨s5,af⟩:=r4.sim.put ag (QdR k);have V:D.l<t.heap.size:=by rw[Vb]at k;exact k.1
    have aj:=World.putObj_heap_same (w:=t) (r:=D.l) (o:=.loop {{D.rc .ready none with state:=.busy}with state:=if jump.isNone then .ready else .done,pending:=jump}) V;have e1:Qg (λb=>FrB D ro1 g W b/\b≠D.l) ro1 W ro2 u:=h4.frMono λb q=>q.1;have e2:Qg (λb=>FrB D ro1 g W b/\b≠D.l) ro2 u ro2 w2:=z.frMono λb q=>q.2;have e3:Qg (λb=>FrB D ro1 g W b/\b≠D.l) ro2 w2 E t:=g4.frMono λb q=>h6.sub b q.1;have e4:Qg (λb=>FrB D ro1 g W b/\b≠D.l) E t a t:=QX s4;have e5:=(((e1.trans e2).trans e3).trans e4).trans (af.frMono λb (q:FrB D ro1 g W b/\b≠D.l)=>q.2);obtain⟨q1,q2⟩:=j.fin hD e5 s5 (λb q=>g6.sub b (h6.sub b q)) (by rw[t4,g5,h5]) (st':=if jump.isNone then .ready else .done) (pe':=jump) (by rw[aj,ad]);exact⟨_,q2,a,σ4,q1⟩
   cases e with
   |normal=>
    obtain rfl:x3=.normal:=g1;obtain⟨H2,f,Y⟩:=g2;obtain⟨v,m,X,rfl,g',k2,a,σ4,O⟩:=F H2 none f;exact⟨_,m,X,g',k2,.inl ⟨rfl,H2,a,σ4,Y,O⟩⟩
   |exit id=>
    obtain rfl:x3=.exit id:=g1;obtain⟨H2,f,Y⟩:=g2;obtain⟨v,m,X,rfl,g',k2,a,σ4,O⟩:=F H2 (some (.exit id)) f;exact⟨_,m,X,g',k2,.inr ⟨rfl,H2,_,a,σ4,.inl ⟨id,rfl,Y⟩,O⟩⟩
   |ret=>
    obtain rfl:x3=.ret:=g1;obtain⟨H2,f,Y⟩:=g2;obtain⟨v,m,X,rfl,g',k2,a,σ4,O⟩:=F H2 (some .ret) f;exact⟨_,m,X,g',k2,.inr ⟨rfl,H2,_,a,σ4,.inr ⟨rfl,Y⟩,O⟩⟩
   |_=>exact g1.elim
  |exit id=>cases h1
  |ret=>cases h1
  |_=>exact h1.elim
end
theorem Sim.beside{fr ro:Nat->Prop}{σ:Sig}{H:Qd}{w g:World}(s:Sim fr ro σ H w)(ev:Qg fr ro w ro g)(a:∀b,b<w.heap.size->g.heap[b]?=w.heap[b]?):Sim (λb=>fr b\/(w.heap.size<=b/\b<g.heap.size)) ro σ H g:=by
 have hext:=ev.ext0 σ;refine⟨s.len,s.roOk.to (λ_ q=>q) ev.keepRo (λb q=>Vd (s.roLt b q) ev.size),λb q=>q.elim (λq=>Vd (s.frLt b q) ev.size) (λq=>q.2),λb q r=>?_,λi b x f e m=>?_,s.inj,λi z x f e=>?_,
  s.hidTo (· = ·) Q4 ev.size (by simp) (λi b x c f e m n=>n.elim id λq=>(by have:=(s.hid i b x c f e m).lt;omega)) λj d y k l u=>.inl ⟨j,y,rfl,k,l,id,λc q=>s.hidKeep k l (λz=>a d (s.own j d y k l z).1) ev.keepRo q⟩⟩
 .rcases r with r|r
  .exact s.roFr b q r
  .have:=s.roLt b q;omega
 .obtain⟨p,t,B⟩:=s.own i b x f e m
  grind
 .refine(s.blk i z x f e).keep hext ?_ ?_
  .rintro b rfl h;exact a b (s.own i b x f e h).1
  .rintro b c rfl h;exact a c (s.hid i b x c f e h).lt
section
variable {P:Program} {T:Type} {ts tq te k tm:Nat} {g:FuncId} {es:List (A×A)} {e:T->List A} {ea:T->A} {xs:List T}
end
theorem TCy.le{T:Type}{X:Ctx T}{P:Program}{h0 N:Nat}{c:Code}{env d:Env}{H H':Qd}{l:YSt T}{Q:Y7 T}(f:Le h0 env H d H')(h:TCy X P h0 N c d H' l Q):TCy X P h0 N c env H l Q:=by
 intro p u m z σ a w g r hj hrd;obtain⟨i,σ',x,s,t⟩:=f m z σ N a w r;obtain⟨⟨y,n,j⟩,k⟩:=hj;exact Code.wpIn_mono (λe a w q=>q.grow s (XS _) t (Grow.refl _ _ _)) (h p u m i σ' a w g x ⟨⟨y,(by grind),j⟩,k⟩ hrd)
theorem QjB{P:Program}{o:Oper}{env:Env}{H:Qd}{y z:Operand}{l:Nat}{a:A}{i:Array TypeId}(m:o.op=.call {callee:=.value y,args:= #[z],argTypes:=i})(k:opA env y=.fn (.yield l) [] [])(j:opA env z=a)(h:Ym a=true){N:Nat}:
  ∀fr ro σ act w,Rel fr ro σ H env N act w->∃vs:List Value,LR ro [] w [a] vs/\(execOp act.eval o).run P w=(Instr.yield l vs.toArray).run P w:=by
 intro fr ro σ act w r;have d:=Qn r y;rw[k]at d;obtain⟨g,p,d,f,n⟩:=d;obtain rfl:g=[]:=f;have e:=Qn r z;rw[j]at e;refine⟨[act.eval z],⟨_,_,rfl,VR.data h e,rfl⟩,?_⟩;generalize act.eval=ev at*;simp[execOp,m,invoke,go_sem,d]
theorem Qiy{P:Program}{o:Oper}{env:Env}{H:Qd}{y a e:Operand}{l:Nat}{j i:A}{t:Array TypeId}(u:o.op=.call {callee:=.value y,args:= #[a,e],argTypes:=t})(p:opA env y=.fn (.yield l) [] [])(f:opA env a=j)(g:opA env e=i)(k:Ym j=true)(h:Ym i=true){N:Nat}:
  ∀fr ro σ act w,Rel fr ro σ H env N act w->∃vs:List Value,LR ro [] w [j,i] vs/\(execOp act.eval o).run P w=(Instr.yield l vs.toArray).run P w:=by
 intro fr ro σ act w r;have d:=Qn r y;rw[p]at d;obtain⟨s,z,d,q,x⟩:=d;obtain rfl:s=[]:=q;have m:=Qn r a;rw[f]at m;have n:=Qn r e;rw[g]at n;refine⟨[act.eval a,act.eval e],⟨_,_,rfl,VR.data k m,_,_,rfl,VR.data h n,rfl⟩,?_⟩;generalize act.eval=ev at*;simp[u,invoke,go_sem,d]
section
variable {P:Program} {K V:Type} {tm tb ty tk kt et:Nat} {ek:K->A} {ev:V->A} {m:List (K×V)} {T:Type}
end
section
variable {P:Program} {o:Oper} {env:Env} {H:Qd} {fr ro:Nat->Prop} {σ:Sig} {w:World}
theorem QdK{h0 i m T:Nat}{d:List A}(n:H[i]?=some (.cells T d)):Le h0 env H env (H.set i (.cells T (d.set m .any))):=by
 intro u s σ N a w r;refine⟨s,σ,⟨r.sim.weaken n rfl ?_,r.env,r.size,r.defers⟩,λ_ q=>q,rfl⟩;intro y h;cases y with
 |none=>exact h
 |some b=>
  obtain⟨l,j,k,g⟩:=h;refine⟨l,j,?_,g⟩;clear j g n
  induction d generalizing m l with
  |nil=>exact k
  |cons c d p=>
   obtain⟨v,e,rfl,t,f⟩:=k;cases m with
   |zero=>exact⟨v,e,rfl,trivial,f⟩
   |succ m=>exact⟨v,e,rfl,t,p e f⟩
theorem Pts.ents{i a t e f g j:Nat}{l:List Ent}{x:Ent}{d:List A}(he:l[e]?=some x)(q:H[i]?=some (.ents t g j l):=by exact rfl)(ho:a=e*3+f:=by exact rfl)(hcs:(eC g j x).drop f=d:=by exact rfl):Pts H (.ptr i a) d:=by
 intro z u σ w v s h;obtain⟨b,n,p⟩:=h;obtain⟨y,r,m⟩:=s.blk i _ _ n q;have k:(l.map (eC g j))[e]?=some (eC g j x):=by rw[Xo,he];rfl
 have:=((YJ (pre:=[]) (by simpa using r) m).get e k).2.drop f;refine⟨b,a,p,?_⟩;rw[<- hcs,ho];simpa using this
end
section
variable {P:Program} {h0 N:Nat} {A B C:Code} {env:Env} {H:Qd} {Q:QB}
end
section
variable {P:Program} {o:Oper} {env:Env} {H:Qd}
def Yh(k:IntKind)(m n:Int):Int:=k.wrap (BitVec.ofInt k.bits m&&& BitVec.ofInt k.bits n).toNat
def Yg(k:IntKind)(m n:Int):Int:=m.fdiv (2^(min n.toNat k.bits))
theorem OpV.and{t u:TypeId}{x y:Operand}{k:IntKind}{m n:Int}(g:o.op=.binOp .and t x y u)(h:opA env x=.int k m)(f:opA env y=.int k n):OpV P o env H (.int k (Yh k m n)):=by
 intro j i σ N a w r;have d:=QP r h;have e:=QP r f;refine⟨_,?_,rfl⟩;generalize a.eval=ρ at*;simp[g,d,e,Op.intBits,go_sem,Yh]
theorem OpV.shr{t u:TypeId}{x y:Operand}{k j:IntKind}{m n:Int}(i:o.op=.binOp .shr t x y u)(d:opA env x=.int k m)(h:opA env y=.int j n)(g:0<=n):OpV P o env H (.int k (Yg k m n)):=by
 intro p l σ N a w r;have e:=QP r d;have f:=QP r h;refine⟨_,?_,rfl⟩;generalize a.eval=ρ at*;simp[i,e,f,Op.shift,go_sem,Yg,Int.not_lt.2 g]
theorem YS{h0 i m t k T:Nat}{d:List A}(E:Nat.ble h0 H.length=true)(n:H[i]?=some (.cells T d))(f:d[m]?=some .nils):
  Le h0 env H env (H.set i (.cells T (d.set m (.osl H.length 0 0 k)))++[.row t k []]):=by
 intro J j σ N a w r;have hh':=XQ E;have hi:=(XK.1 n).1;have ext:Ext j σ w j (σ++[none]) w:=⟨λ_ q=>q,λ_ _=>rfl,λ_ _ q=>q,λ_ _ h=>Qb6 h⟩;have s:=r.sim.phantom t k;have e:(H++[Blk.row t k []])[i]?=some (.cells T d):=by rw[XL hi];exact n
 have z:H.set i (.cells T (d.set m (.osl H.length 0 0 k)))++[.row t k []]=(H++[Blk.row t k []]).set i (.cells T (d.set m (.osl H.length 0 0 k))):=by
  rw[List.set_append_left _ _ hi]
 rw[z];refine⟨j,σ++[none],⟨s.weaken e rfl ?_,λq=>(r.env q).mono ext,r.size,r.defers⟩,λ_ q=>q,QM (by rw[r.sim.len];exact hh')⟩;intro y h;cases y with
 |none=>exact h
 |some b=>
  obtain⟨l,x,G,u⟩:=h;refine⟨l,x,?_,u⟩;clear x u e z n
  induction d generalizing m l with
  |nil=>cases f
  |cons c d F=>
   obtain⟨v,g,rfl,B,p⟩:=G;cases m with
   |zero=>
    simp at f;subst f;exact⟨v,g,rfl,.inl ⟨rfl,B⟩,p⟩
   |succ m=>exact⟨v,g,rfl,B,F (by simpa using f) g p⟩
def SrcB(P:Program)(H:Qd)(x:A)(l:List Int):Prop:=
 ∀fr ro σ w v,Sim fr ro σ H w->VR ro σ w x v->(∃a c,v=.slice a 0 c/\l=[])\/ ∃b off c,v=.slice (some ⟨b,off,none⟩) l.length c/\(l=[]\/CR ro σ w b (l.map λn=>A.int .u8 n) off)
theorem QfJ:∀(l:List Int),(l.map (λn=>[A.int .u8 n])).flatten=l.map λn=>A.int .u8 n
 |[]=>rfl
 |n::l=>by simp[QfJ l]
theorem SrcB.nils:SrcB P H .nils []:=λfr ro σ w v s h=>.inl ⟨none,0,h,rfl⟩
theorem SrcB.row{i t n:Nat}{l:List Int}(g:H[i]?=some (.row t 1 (l.map λn=>[A.int .u8 n])):=by exact rfl)(hn:l.length=n:=by exact rfl):SrcB P H (.osl i 0 n 1) l:=by
 intro u x σ w v s h;rcases h with⟨rfl,rfl⟩|⟨b,p,a,F,m,k,rfl,j,⟨E,q⟩,y,z⟩
 .exact .inl ⟨none,0,rfl,VF.1 hn⟩
 .refine .inr ⟨b,p,a,by rw[hn],?_⟩;by_cases d:l=[]
  .exact .inl d
  .have:0<a:=by have:=List.length_pos_iff.2 d;omega
   obtain rfl:=j this;obtain⟨B,r,f⟩:=s.blk i _ _ k g;have e:=(YJ (pre:=[]) (by simpa using r) f).flat.1;rw[QfJ]at e;exact .inr (by simpa using e.lift)
theorem SrcB.rsl{l:List Int}:SrcB P H (.rsl 1 (l.map λn=>[A.int .u8 n])) l:=by
 intro h i σ w v s ⟨a,c,h1,h2,e⟩;subst h1;rw[X0]at*;rcases e with e|⟨b,d,rfl,j,g⟩
 .have:=List.map_eq_nil_iff.1 e;subst this;exact .inl ⟨a,c,by simp,rfl⟩
 .have f:=g.flat.1;rw[QfJ]at f;exact .inr ⟨b,d,c,rfl,.inr f.lift⟩
end
def Qbd:Option Blk->Bool
 |some .dead=>true
 |_=>false
def Qam(hB hE:Nat)(H H':Qd):Bool:=(List.range (hE-hB)).all λp=> !Qbd H'[hB+p]? ||Qbd H[hB+p]?
def Qiu(hB hE:Nat)(σ:Sig)(H:Qd):Prop:=∀p,hB<=p->p<hE->Qbd H[p]?=true->σ[p]?=some none
theorem Qi1{hB hE:Nat}{H H':Qd}(h:Qam hB hE H H'=true){p:Nat}(d:hB<=p)(e:p<hE)(a:Qbd H'[p]?=true):Qbd H[p]?=true:=by
 have:=Xs.1 h (p-hB) (List.mem_range.2 (by omega));rw[show hB+(p-hB)=p by omega,a]at this;simpa using this
theorem Sim.allocAt{fr ro:Nat->Prop}{σ:Sig}{H:Qd}{w:World}(s:Sim fr ro σ H w){p:Nat}(G:σ[p]?=some none){obj:Obj}{x:Blk}
  (O:BR ro (σ.set p (some w.heap.size)) (w.alloc obj) x (some w.heap.size))
  (E:∀c,Hid (w.alloc obj) x w.heap.size c->False:=by exact λ_ h=>h.elim):Sim fr ro (σ.set p (some w.heap.size)) (H.set p x) (w.alloc obj):=by
 have ev:Qg fr ro w ro (w.alloc obj):=Qg.alloc obj s.roLt s.frLt;have t:=s.len;have F:p<σ.length:=(XK.1 G).1;have u:Ext ro σ w ro (σ.set p (some w.heap.size)) (w.alloc obj):=⟨ev.sub,ev.keepRo,ev.shape,λi b q=>by
  rw[XO (λz=>by subst z;rw[G]at q;cases q)];exact q⟩
 have e:∀(i:Nat) (y:Option Nat),(σ.set p (some w.heap.size))[i]?=some y->(i≠p/\σ[i]?=some y)\/(i=p/\y=some w.heap.size):=by
  intro i y h;by_cases q:i=p
  .subst q;rw[Xa F]at h;exact .inr ⟨rfl,(XY h).symm⟩
  .rw[XO (λz=>q z.symm)]at h;exact .inl ⟨q,h⟩
 have n:∀i:Nat,i≠p->(H.set p x)[i]?=H[i]? :=λi P=>XO (λz=>P z.symm);have J:(H.set p x)[p]?=some x:=Xa (by omega);refine⟨by simp[t],s.roOk.to (λ_ q=>q) ev.keepRo (λb h=>?_),λb h=>?_,s.roFr,?_,?_,?_,s.hidTo (· = ·) Q4 (by rw[YO];omega) (λ_ _ _ _ _ _ _ q=>q) (λ_ _ _ _ _ _ _ q=>q) λj d y l k Q=>?_⟩
 rotate_left 5
 .rcases e j _ l with⟨q,l⟩|⟨rfl,m⟩
  .rw[n j q]at k;exact .inl ⟨j,y,rfl,l,k,id,λc q=>s.hidKeep l k (λz=>Yf w obj d (s.own j d y l k z).1) ev.keepRo q⟩
  .rw[J]at k;cases k;cases m;exact .inr ⟨XS _,E⟩
 .rw[YO];have:=s.roLt b h;omega
 .rw[YO];have:=s.frLt b h;omega
 .intro i b y g f r;rw[YO];rcases e i _ g with⟨q,g⟩|⟨rfl,m⟩
  .rw[n i q]at f;obtain⟨a,b,c⟩:=s.own i b y g f r;exact⟨by omega,b,c⟩
  .cases m;exact⟨by omega,λq=>by have:=s.roLt _ q;omega,λq=>by have:=s.frLt _ q;omega⟩
 .intro i j b y z g f r B L M;rcases e i _ g with⟨q,l⟩|⟨N,m⟩<;>rcases e j _ f with⟨q',k⟩|⟨ej,e2⟩
  .rw[n i q]at r;rw[n j q']at B;exact s.inj i j b y z l k r B L M
  .cases e2;rw[n i q]at r;have:=(s.own i _ y l r L).1;omega
  .cases m;rw[n j q']at B;have:=(s.own j _ z k B M).1;omega
  .rw[N,ej]
 .intro i y z g f;rcases e i _ g with⟨q,g⟩|⟨rfl,m⟩
  .rw[n i q]at f;refine(s.blk i y z g f).keep u ?_ ?_
   .rintro b rfl t;exact Yf w obj b (s.own i b z g f t).1
   .rintro b c rfl t;exact Yf w obj c (s.hid i b z c g f t).lt
  .rw[J]at f;cases f;subst m;exact O
def OpZ(P:Program)(o:Oper)(t:Nat)(cs:List A):Prop:=
 ∀(ro:Nat->Prop) (σ:Sig) (w:World) (a:Act),∃l:List Value,(execOp a.eval o).run P w=.ok (.value (.pointer (some ⟨w.heap.size,0,none⟩))) (w.alloc (.cells l.toArray t))/\LR ro σ w cs l/\ ∀v∈l,Qv v
theorem OpZ.alloc{P:Program}{o:Oper}{t:Nat}{z:Value}{v:A}{d:List A}(j:∀w,(zeroValue t).run P w=.ok z w)(h:ZR v z)(k:o.op=.alloc t:=by exact rfl)(hk:Yi v=true:=by exact rfl)(hcs:Q8 v=d:=by exact rfl)(hpl:d.all Yn=true:=by exact rfl):
  OpZ P o t d:=by
 intro g σ w a;obtain⟨l,i,f⟩:=(h g σ w).cells hk;subst hcs;refine⟨l,?_,f,f.plain hpl⟩;generalize a.eval=ρ at*;have e:(newVar t z).run P w=.ok ⟨w.heap.size,0,none⟩ (w.alloc (.cells l.toArray t)):=by
  unfold newVar;rw[i];rfl
 simp only[execOp,k,Instr.alloc,Vk,j,Result.andThen,e];rfl
def OpZR(P:Program)(o:Oper)(e:Env)(H:Qd)(p:Nat)(x:A)(B:Blk):Prop:=
 ∀fr ro σ N a w,Rel fr ro σ H e N a w->∃v obj,(execOp a.eval o).run P w=.ok (.value v) (w.alloc obj)/\(∀c,Hid (w.alloc obj) B w.heap.size c->False)/\
  ∀σ',σ'[p]?=some (some w.heap.size)->Ext ro σ w ro σ' (w.alloc obj)->VR ro σ' (w.alloc obj) x v/\BR ro σ' (w.alloc obj) B (some w.heap.size)
theorem QbR{P:Program}{l:List Oper}{i:Nat}{o:Oper}{rd:Option Nat}{R:Exit->Act->World->Prop}{Q:Exit->Act->World->Prop}{K:Act->World->Prop}{a:Act}{w:World}
  (F:l[i]?=some o)(h:wpL P rd l.toArray R [o] a w)(k:∀e a' w',R e a' w'->e=.normal/\a'.defers=a.defers)(m:∀v w',R .normal (a.put o.dst v) w'->K (a.put o.dst v) w'):
  wpOpIn (WF rd) 0 P l.toArray Q i K a w:=by
 unfold wpOpIn;have s:l.toArray[i]?=some o:=by simpa using F
 rw[s];simp only;unfold wpL wpListIn at h;split at h
 .rename_i u;rw[Vq u];obtain⟨j,h⟩:=h;refine⟨j,?_⟩;have g:=Qf6 (by
   intro a' w' q;unfold wpListIn at q;exact(k _ _ _ q).2) h
  generalize(o.semAt (WF rd).round a.eval).run P w=res at*;cases res with
  |ok n w'=>
   cases n with
   |value v=>exact m _ _ g.1
   |skip=>exact m _ _ g.1
   |defer G=>
    exfalso;have:=(k _ _ _ g.1).2;have:=congrArg List.length this
    revert this
    cases o.dst<;>simp[Act.put]
   |enter f p=>
    refine⟨g.1,CallsIn.mono g.2 (λe t d=>?_)⟩;cases e with
    |returned v=>exact m _ _ d.1
    |panicked c=>have:=(k _ _ _ d).1;cases this
    |outgrown=>obtain⟨B,E,d⟩:=d;have:=(k _ _ _ d).1;cases this
   |row r p=>
    exact⟨g.1,RowsIn.mono g.2 (λ_ _ d=>m _ _ d.1)⟩
   |round l f y assign z=>
    refine⟨g.1,RoundIn.mono g.2 (λe t d=>?_)⟩;cases e with
    |returned v=>exact m _ _ d.1
    |panicked c=>have:=(k _ _ _ d).1;cases this
    |outgrown=>obtain⟨B,E,d⟩:=d;have:=(k _ _ _ d).1;cases this
   |_=>exact g.elim
  |halt x w'=>
   cases x with
   |panic v=>have:=(k _ _ _ g).1;cases this
   |_=>exact g.elim
 .rename_i u;rw[Vp u];obtain⟨j,h⟩:=h;refine⟨j,?_⟩;unfold wpListIn at h;exact m _ _ h
theorem Qi0{P:Program}{l:List Oper}{m:Nat}(r:∀i o,l[i]?=some o->∀j∈Qh o,j<i)(n:∀i o,m<i->l[i]?=some o->i-1∈Qh o){Q:Exit->Act->World->Prop}{rd:Option Nat}:
  ∀(d t:Nat) (L:Array Bool) (a:Act) (w:World),L.size=l.length->(∀i,i<l.length->(onL L i↔i<t))->unl L<=d->m<=t->t<=l.length->
   wpL P rd l.toArray Q (l.drop t) a w->wpAnyIn (WF rd) 0 P .any l.toArray Q d L a w:=by
 intro d
 induction d with
 |zero=>
  intro t L a w hsz hL hf hm ht h;have:t=l.length:=by
   rcases Vy t l.length with q|q
   .have:=QhZ (L:=L) (i:=t) (by omega) (λz=>by have:=(hL t q).1 z;omega);omega
   .omega
  subst this;refine⟨List.eq_nil_iff_forall_not_mem.2 λi s=>?_,?_⟩
  .obtain⟨o,g,k,_⟩:=(QaA hsz).1 s;have e:=(XK.1 g).1;exact k ((hL i e).2 e)
  .rw[Xr]at h;exact h
 |succ d J=>
  intro t L a w hsz hL hf hm ht h;have B:∀i o,l[i]?=some o->¬onL L i->(∀j∈Qh o,onL L j)->i=t:=by
   intro i o g k x;have e:=(XK.1 g).1;have H:t<=i:=by
    rcases Vy i t with q|q
    .exact absurd ((hL i e).2 q) k
    .exact q
   rcases Vy t i with q|q
   .have:=(hL (i-1) (by omega)).1 (x _ (n i o (by omega) g));omega
   .omega
  rcases Vy t l.length with f|f
  .have G:l[t]?=some l[t]:=XJ f;have p:¬onL L t:=λq=>by have:=(hL t f).1 q;omega
   have E:t∈Region.ready .any l.toArray L:=by
    refine(QaA hsz).2 ⟨_,G,p,λj u=>?_⟩;have:=r t _ G j u;exact(hL j (by omega)).2 this
   refine⟨λq=>(by rw[q]at E;cases E),λi s=>?_⟩;obtain⟨o,g,k,x⟩:=(QaA hsz).1 s;obtain rfl:=B i o g k x;rw[Xp f]at h;obtain rfl:l[i]=o:=by rw[XJ f]at g;exact XY g
   unfold wpOpIn;rw[show l.toArray[i]?=some l[i]by rw[XF];exact g];simp only;unfold wpL wpListIn at h;have F:∀a w,wpL P rd l.toArray Q (l.drop (i+1)) a w->wpAnyIn (WF rd) 0 P .any l.toArray Q d (L.setIfInBounds i true) a w:=by
    intro a w q;have M:=Qfv (L:=L) (i:=i) (by omega) p;refine J (i+1) _ a w (by simpa using hsz) (λj u=>?_) (by omega) (by omega) (by omega) q;rw[Jm (by omega),hL j u];omega
   split at h
   .rename_i y;rw[Vq y];exact Oper.wpIn_mono F h
   .rename_i y;rw[Vp y];exact⟨h.1,F _ _ h.2⟩
  .have:t=l.length:=by omega
   subst this;rw[Xr]at h;refine⟨λ_=>h,λi s=>?_⟩;obtain⟨o,g,k,_⟩:=(QaA hsz).1 s;have e:=(XK.1 g).1;exact absurd ((hL i e).2 e) k
def Qk7(af ds:List Nat)(xs:List A)(env0 e:Env):Prop:=
 ∀s,(∃j x,af.contains j=true/\ds[j]?=some s/\xs[j]?=some x/\lk e s=x)\/lk e s=.any\/(ds.contains s=false/\lk e s=lk env0 s)
inductive Jj (P:Program) (N:Nat) (l:List Oper) (ds:List Nat) (xs:List A) (env0:Env) (hB hE:Nat) (i:Nat) (H H':Qd):Prop
 |mk (o:Oper) (e:Env) (d:Nat) (x:A) (ho:l[i]?=some o) (hd:o.dst=some d) (hx:xs[i]?=some x) (hdd:Qam hB hE H H'=true) (hs:Sb (Qh o) (QfS l i) ds xs env0 e)
   (h:WO P H.length N l.toArray [o] e H (YK (up e d x) H')):Jj P N l ds xs env0 hB hE i H H'
 |unit (o:Oper) (e:Env) (ho:l[i]?=some o) (hd:o.dst=none) (hx:xs[i]?=some .any) (hdd:Qam hB hE H H'=true) (hs:Sb (Qh o) (QfS l i) ds xs env0 e)
   (h:WO P H.length N l.toArray [o] e H (YK e H')):Jj P N l ds xs env0 hB hE i H H'
 |alloc (o:Oper) (d t p:Nat) (cs:List A) (ho:l[i]?=some o) (hd:o.dst=some d) (hg:o.guard=none) (hx:xs[i]?=some (.ptr p 0)) (hp:(Nat.ble hB p&&Nat.blt p hE)=true) (hdead:Qbd H[p]?=true)
   (hH:H.set p (.cells t cs)=H') (h:OpZ P o t cs) (hN:Nat.blt d N=true):Jj P N l ds xs env0 hB hE i H H'
 |row (o:Oper) (e:Env) (d p:Nat) (x:A) (B:Blk) (ho:l[i]?=some o) (hd:o.dst=some d) (hg:o.guard=none) (hx:xs[i]?=some x) (hp:(Nat.ble hB p&&Nat.blt p hE)=true) (hdead:Qbd H[p]?=true) (hlive:Qbd (some B)=false)
   (hH:H.set p B=H') (hs:Sb (Qh o) (QfS l i) ds xs env0 e) (h:OpZR P o e H p x B) (hN:Nat.blt d N=true):Jj P N l ds xs env0 hB hE i H H'
 |val (o:Oper) (e:Env) (d:Nat) (x:A) (ho:l[i]?=some o) (hd:o.dst=some d) (hg:o.guard=none) (hx:xs[i]?=some x) (hN:Nat.blt d N=true) (he:Qk7 (Qh o) ds xs env0 e) (h:OpV P o e H x)
   (hH:H=H':=by rfl):Jj P N l ds xs env0 hB hE i H H'
 |woE (o:Oper) (e:Env) (d:Nat) (x:A) (ho:l[i]?=some o) (hd:o.dst=some d) (hx:xs[i]?=some x) (he:Qk7 (Qh o) ds xs env0 e) (hdd:Qam hB hE H H'=true) (h:WO P H.length N l.toArray [o] e H (YK (up e d x) H')):Jj P N l ds xs env0 hB hE i H H'
theorem Sb.rel{af bf f:List Nat}{xs:List A}{env0 e:Env}{ro:Nat->Prop}{σ:Sig}{w:World}{a:Act}(g:Sb af bf f xs env0 e)
  (h:∀j∈af,∀s x,f[j]?=some s->xs[j]?=some x->VR ro σ w x (a.tmps.getD s undef))
  (i:∀s,f.contains s=false->VR ro σ w (lk env0 s) (a.tmps.getD s undef))(hP:∀j s,bf.contains j=true->f[j]?=some s->VR ro σ w (lk env0 s) (a.tmps.getD s undef)):
  ∀s,VR ro σ w (lk e s) (a.tmps.getD s undef):=by
 intro s
 induction g with
 |nil=>exact trivial
 | @dep j s1 x1 r h1 h2 h3 _ ih=>
  unfold lk;cases d:Nat.beq s s1 with
  |false=>exact ih
  |true=>
   obtain rfl:=XP d;exact h j (by simpa using h1) _ _ h2 h3
 | @old s1 x1 r h1 h2 _ ih=>
  unfold lk;cases d:Nat.beq s s1 with
  |false=>exact ih
  |true=>
   obtain rfl:=XP d;subst h2;exact i _ h1
 | @pre j s1 x1 r h1 h2 h3 _ ih=>
  unfold lk;cases d:Nat.beq s s1 with
  |false=>exact ih
  |true=>
   obtain rfl:=XP d;subst h3;exact hP j _ h1 h2
structure After (fr ro:Nat->Prop) (σ:Sig) (w:World) (hB hE:Nat) (H':Qd) (xs:List A) (i:Nat) (o:Oper) (a':Act) (w':World) (ro':Nat->Prop) (σ':Sig):Prop where
 val:∀x,xs[i]?=some x->match o.dst with
  |some d=>VR ro' σ' w' x (a'.tmps.getD d undef)
  |none=>x=.any
 sim:Sim fr ro' σ' H' w'
 ev:Qg fr ro w ro' w'
 ext:Ext ro σ w ro' σ' w'
 holes:Qiu hB hE σ' H'
 take:σ'.take hB=σ.take hB
theorem Jj.use{P:Program}{N:Nat}{l:List Oper}{ds:List Nat}{xs:List A}{env0:Env}{hB hE i:Nat}{H H':Qd}(hb:Jj P N l ds xs env0 hB hE i H H')
  {Q:Exit->Act->World->Prop}{K:Act->World->Prop}{fr ro:Nat->Prop}{σ:Sig}{a:Act}{w:World}{o:Oper}{rd:Option Nat}(O:l[i]?=some o)
  (f:Sim fr ro σ H w)(hN:a.tmps.size=N)(r:Qbq fr a.defers w)(ad:Qdx rd fr w)(hh:Qiu hB hE σ H)(hl:hE<=H.length)(ak:hB<=hE)
  (hD:∀j∈Qh o,∀s x,ds[j]?=some s->xs[j]?=some x->VR ro σ w x (a.tmps.getD s undef))
  (hO:∀s,ds.contains s=false->VR ro σ w (lk env0 s) (a.tmps.getD s undef))(hP:∀j s,(QfS l i).contains j=true->ds[j]?=some s->VR ro σ w (lk env0 s) (a.tmps.getD s undef))
  (hK:∀v w' ro' σ',After fr ro σ w hB hE H' xs i o (a.put o.dst v) w' ro' σ'->K (a.put o.dst v) w'):
  wpOpIn (WF rd) 0 P l.toArray Q i K a w:=by
 have X:∀{e:Env} {H2:Qd} {E:Exit} {u:Act} {w':World},Qbp H.length fr ro σ w N a.defers (YK e H2) E u w'->E=.normal/\u.defers=a.defers:=by
  rintro e H2 E u w' ⟨x,_,_,_,_,_,k,⟨rfl,_⟩,_,_,_,M,_⟩;refine⟨?_,M⟩;cases E<;>first|rfl|exact k.elim|cases k
 have ai:∀{σ':Sig} {w':World},Qg fr ro w ro w'->σ'.take H.length=σ.take H.length->True:=λ_ _=>trivial;have T:∀{e:Env} {u:Act} {w':World},Qbp H.length fr ro σ w N a.defers (YK e H') .normal u w'->Qam hB hE H H'=true->
   ∃ro' σ',Sim fr ro' σ' H' w'/\Qg fr ro w ro' w'/\Ext ro σ w ro' σ' w'/\Qiu hB hE σ' H'/\σ'.take hB=σ.take hB/\ ∀s,VR ro' σ' w' (lk e s) (u.tmps.getD s undef):=by
  rintro e u w' ⟨_,ah,H2,ro',σ',aj,_,⟨_,rfl,rfl⟩,r',he,ht,_,ag⟩ J;have hσ:σ'=σ++σ'.drop H.length:=by
   conv=>lhs;rw[<- Xy H.length σ']
   rw[ht, <- f.len,X8]
  refine⟨ro',σ',r'.sim.frMono ag.sub,he,?_,?_,?_,r'.env⟩
  .rw[hσ];exact he.ext σ _
  .intro p k M h3;have:=hh p k M (Qi1 J k M h3);rw[hσ,XL (by rw[f.len];omega)];exact this
  .rw[hσ];exact QM (by rw[f.len];omega)
 cases hb with
 |woE n e d x g L hx he J h=>
  obtain rfl:n=o:=XY (g.symm.trans O);have hr:∀s,VR ro σ w (lk e s) (a.tmps.getD s undef):=λs=>by
   rcases he s with⟨j,x,k,M,h3,Y⟩|Y|⟨k,Y⟩
   .rw[Y];exact hD j (by simpa using k) s x M h3
   .rw[Y];exact trivial
   .rw[Y];exact hO s k
  refine QbR O (h rd fr ro σ a w ⟨f,hr,hN,r⟩ ad) (λ_ _ _ q=>X q) (λv w' q=>?_);obtain⟨ro',σ',g1,g2,F,g4,g5,g6⟩:=T q J;refine hK v w' ro' σ' ⟨λy V=>?_,g1,g2,F,g4,g5⟩;obtain rfl:=XY (hx.symm.trans V);have:=g6 d;unfold lk at this;rw[VB]at this;rw[L]at this⊢;exact this
 |mk n e d x g L hx J hs h=>
  obtain rfl:n=o:=XY (g.symm.trans O);refine QbR O (h rd fr ro σ a w ⟨f,hs.rel hD hO hP,hN,r⟩ ad) (λ_ _ _ q=>X q) (λv w' q=>?_);obtain⟨ro',σ',g1,g2,F,g4,g5,g6⟩:=T q J;refine hK v w' ro' σ' ⟨λy V=>?_,g1,g2,F,g4,g5⟩;obtain rfl:=XY (hx.symm.trans V);have:=g6 d;unfold lk at this;rw[VB]at this;rw[L]at this⊢;exact this
 |unit n e g L hx J hs h=>
  obtain rfl:n=o:=XY (g.symm.trans O);refine QbR O (h rd fr ro σ a w ⟨f,hs.rel hD hO hP,hN,r⟩ ad) (λ_ _ _ q=>X q) (λv w' q=>?_);obtain⟨ro',σ',g1,g2,F,g4,g5,g6⟩:=T q J;refine hK v w' ro' σ' ⟨λy V=>?_,g1,g2,F,g4,g5⟩;obtain rfl:=XY (hx.symm.trans V);rw[L]
 |val n e d x g L hg hx W he h hH=>
  obtain rfl:n=o:=XY (g.symm.trans O);subst hH;have hr:Rel fr ro σ H e N a w:=by
   refine⟨f,λs=>?_,hN,r⟩;rcases he s with⟨j,x,k,M,h3,Y⟩|Y|⟨k,Y⟩
   .rw[Y];exact hD j (by simpa using k) s x M h3
   .rw[Y];exact trivial
   .rw[Y];exact hO s k
  obtain⟨v0,k,M⟩:=h fr ro σ N a w hr;have hw:Region.wanted n (yielded l.toArray a.tmps)=true:=by unfold Region.wanted;rw[hg]
  refine QbR (R:=λE u w'=>E=.normal/\u.defers=a.defers/\u=a.put n.dst v0/\w'=w) O (Qaa hw k ?_) (λ_ _ _ q=>⟨q.1,q.2.1⟩) (λv w' q=>?_)
  .unfold wpL wpListIn;refine⟨rfl,?_,rfl,rfl⟩;rw[L];rfl
  .obtain⟨_,_,q1,rfl⟩:=q;refine hK v _ ro σ ⟨λy V=>?_,f,Qg.refl _ _ _,⟨λ_ q=>q,λ_ _=>rfl,λ_ _ q=>q,λ_ _ q=>q⟩,hh,rfl⟩;obtain rfl:=XY (hx.symm.trans V);rw[q1,L];have aa:d<a.tmps.size:=by rw[hN];simpa using W
   show VR ro σ w' x _;simpa[Act.put,Array.getD_eq_getD_getElem?,aa]using M
 |row n e d p x B g L hg hx hp G hlive hH hs h W=>
  obtain rfl:n=o:=XY (g.symm.trans O);subst hH;simp only[XV]at hp;have ac:=XQ hp.1;have ab:p<hE:=by simpa using hp.2
  have hσp:=hh p ac ab G;have hr:Rel fr ro σ H e N a w:=⟨f,hs.rel hD hO hP,hN,r⟩;obtain⟨v0,ae,k,M,h3⟩:=h fr ro σ N a w hr;have hw:Region.wanted n (yielded l.toArray a.tmps)=true:=by unfold Region.wanted;rw[hg]
  have ev:Qg fr ro w ro (w.alloc ae):=Qg.alloc _ f.roLt f.frLt;have af:p<σ.length:=by rw[f.len];omega
  have m:Ext ro σ w ro (σ.set p (some w.heap.size)) (w.alloc ae):=⟨ev.sub,ev.keepRo,ev.shape,λj b q=>by
   rw[XO (λz=>by subst z;rw[hσp]at q;cases q)];exact q⟩
  obtain⟨g8,g9⟩:=h3 _ (Xa af) m;refine QbR (R:=λE u w'=>E=.normal/\u.defers=a.defers/\u=a.put n.dst v0/\w'=w.alloc ae) O (Qaa hw k ?_) (λ_ _ _ q=>⟨q.1,q.2.1⟩) (λv w' q=>?_)
  .unfold wpL wpListIn;refine⟨rfl,?_,rfl,rfl⟩;rw[L];rfl
  .obtain⟨_,_,q1,rfl⟩:=q;refine hK v _ ro (σ.set p (some w.heap.size)) ⟨λy V=>?_,f.allocAt hσp g9 M,ev,m,λp' g1 g2 F=>?_,?_⟩
   .obtain rfl:=XY (hx.symm.trans V);rw[q1,L];have aa:d<a.tmps.size:=by rw[hN];simpa using W
    show VR ro _ _ x _;simpa[Act.put,Array.getD_eq_getD_getElem?,aa]using g8
   .by_cases q:p'=p
    .subst q;rw[Xa (by omega),hlive]at F;cases F
    .rw[XO (λz=>q z.symm)]at F⊢;exact hh p' g1 g2 F
   .rw[List.take_set,List.set_eq_of_length_le];rw[Xx];omega
 |alloc n d t p cs g L hg hx hp G hH h W=>
  obtain rfl:n=o:=XY (g.symm.trans O);subst hH;simp only[XV]at hp;have ac:=XQ hp.1;have ab:p<hE:=by simpa using hp.2
  have hσp:=hh p ac ab G;obtain⟨lv,k,M,h3⟩:=h ro σ w a;have hw:Region.wanted n (yielded l.toArray a.tmps)=true:=by unfold Region.wanted;rw[hg]
  have ev:Qg fr ro w ro (w.alloc (.cells lv.toArray t)):=Qg.alloc _ f.roLt f.frLt;have af:p<σ.length:=by rw[f.len];omega
  have m:Ext ro σ w ro (σ.set p (some w.heap.size)) (w.alloc (.cells lv.toArray t)):=⟨ev.sub,ev.keepRo,ev.shape,λj b q=>by
   rw[XO (λz=>by subst z;rw[hσp]at q;cases q)];exact q⟩
  refine QbR (R:=λE u w'=>E=.normal/\u.defers=a.defers/\u=a.put n.dst (.pointer (some ⟨w.heap.size,0,none⟩))/\w'=w.alloc (.cells lv.toArray t)) O (Qaa hw k ?_) (λ_ _ _ q=>⟨q.1,q.2.1⟩) (λv w' q=>?_)
  .unfold wpL wpListIn;refine⟨rfl,?_,rfl,rfl⟩;rw[L];rfl
  .obtain⟨_,_,q1,rfl⟩:=q;refine hK v _ ro (σ.set p (some w.heap.size)) ⟨λy V=>?_,f.allocAt hσp ⟨lv,Yq _ _,M.mono m,h3⟩,ev,m,λp' g1 g2 F=>?_,?_⟩
   .obtain rfl:=XY (hx.symm.trans V);rw[q1,L];have aa:d<a.tmps.size:=by rw[hN];simpa using W
    refine⟨w.heap.size,Xa af,?_⟩;simp[Act.put,Array.getD_eq_getD_getElem?,aa]
   .by_cases q:p'=p
    .subst q;rw[Xa (by omega)]at F;cases F
    .rw[XO (λz=>q z.symm)]at F⊢;exact hh p' g1 g2 F
   .rw[List.take_set,List.set_eq_of_length_le];rw[Xx];omega
def same(a b:List Nat):Bool:=a.all (b.contains ·)&&b.all (a.contains ·)
theorem Qlm{a b:List Nat}(h:same a b=true)(i:Nat):i∈a↔i∈b:=by
 unfold same at h;simp only[XV,Xs,List.contains_iff_mem]at h;exact⟨h.1 i,h.2 i⟩
structure Qla (l:List Oper) (m:Nat) (ds:List Nat) (hs:List Bool) (rq ms:List (List Nat)) (pl:List (List (Nat×Nat))) (N:Nat):Prop where
 len:m<=l.length
 dst:∀i o,i<m->l[i]?=some o->(∃d,o.dst=some d/\ds[i]?=some d/\d<N)\/o.dst=none
 dsl:ds.length=m
 nodup:∀(i j d:Nat),ds[i]?=some d->ds[j]?=some d->i=j
 back:∀i o,l[i]?=some o->∀j∈Qh o,j<i
 mid:∀o,l[m]?=some o->∀j,j<m->Qb3 l m j
 chain:∀i o,m<i->l[i]?=some o->i-1∈Qh o
 rqs:∀i o,i<m->l[i]?=some o->∀h∈rq.getD i [],h<m/\hs.getD h false=true/\(h∈Qh o\/ ∃j∈Qh o,j<m/\h∈rq.getD j [])
 ms0:ms.getD 0 []=[]
 full:∀st,st<ms.length->st+1=ms.length\/ ∃i,i<m/\hs.getD i false=true/\i∉ms.getD st []
 msh:∀st h,h∈ms.getD st []->h<m/\hs.getD h false=true
 pls:∀i st,i<m->st<ms.length->(∀h∈rq.getD i [],h∈ms.getD st [])->(hs.getD i false=true->i∉ms.getD st [])->(∀h∈ms.getD st [],¬Qb3 l h i)->
  ∃st',(st,st')∈pl.getD i []/\st'<ms.length/\if hs.getD i false then∀j,j∈ms.getD st' []↔j=i\/j∈ms.getD st []else st'=st
theorem Ql7{α:Type}{l:List α}{i:Nat}{d x:α}(h:l[i]?=some x):l.getD i d=x:=by rw[VH,h];rfl
theorem QgW{P:Program}{l:List Oper}{m:Nat}{ds:List Nat}{hs:List Bool}{rq X:List (List Nat)}{pl:List (List (Nat×Nat))}{N h0 hB hE:Nat}{xs:List A}{env0:Env}{Hs:List Qd}{Hk:Qd}
  (ok:Qla l m ds hs rq X pl N)(ay:xs.length=m)(bb:Hs.length=X.length)(an:h0<=hB)(a4:hB<=hE)(a3:∀H∈Hs,hE<=H.length)
  (a5:∀i p,i<m->p∈pl.getD i []->Jj P N l ds xs env0 hB hE i (Hs.getD p.1 []) (Hs.getD p.2 []))(ao:Hs.getD (X.length-1) []=Hk)
  {fr ro0:Nat->Prop}{σ0:Sig}{w0:World}{rd:Option Nat}{ds0:List Deferred}{R:Exit->Act->World->Prop}
  (hk:∀ro σ a w,Rel fr ro σ Hk (Qan ds xs env0) N a w->Qg fr ro0 w0 ro w->σ.take h0=σ0.take h0->a.defers=ds0->wpL P rd l.toArray R (l.drop m) a w)(al:Qbq fr ds0 w0)(ax:Qdx rd fr w0):
  ∀(g:Nat) (L:Array Bool) (a:Act) (w:World) (ro:Nat->Prop) (σ:Sig) (u:Nat),
   L.size=l.length->unl L<=g->(∀i,m<=i->¬onL L i)->u<X.length->Sim fr ro σ (Hs.getD u []) w->a.tmps.size=N->a.defers=ds0->
   (∀(i d:Nat) (x:A),onL L i->ds[i]?=some d->xs[i]?=some x->VR ro σ w x (a.tmps.getD d undef))->(∀s,(∀j,ds[j]?=some s->¬onL L j)->VR ro σ w (lk env0 s) (a.tmps.getD s undef))->
   Qg fr ro0 w0 ro w->σ.take h0=σ0.take h0->Qiu hB hE σ (Hs.getD u [])->
   (∀i,i<m->onL L i->∀h∈rq.getD i [],onL L h)->(∀i,i<m->hs.getD i false=true->(onL L i↔i∈X.getD u []))->
   (∀i o,onL L i->l[i]?=some o->∀j∈Qh o,onL L j)->
   wpAnyIn (WF rd) 0 P .any l.toArray R g L a w:=by
 have a7:∀u,u<X.length->hE<=(Hs.getD u []).length:=by
  intro u h;have e:Hs[u]?=some Hs[u]:=XJ (by omega);rw[Ql7 e];exact a3 _ (List.getElem_mem _)
 have fin:∀(g:Nat) (L:Array Bool) (a:Act) (w:World) (ro:Nat->Prop) (σ:Sig) (u:Nat),
   L.size=l.length->unl L<=g->(∀i,m<=i->¬onL L i)->u<X.length->Sim fr ro σ (Hs.getD u []) w->a.tmps.size=N->a.defers=ds0->
   (∀(i d:Nat) (x:A),onL L i->ds[i]?=some d->xs[i]?=some x->VR ro σ w x (a.tmps.getD d undef))->(∀s,(∀j,ds[j]?=some s->¬onL L j)->VR ro σ w (lk env0 s) (a.tmps.getD s undef))->
   Qg fr ro0 w0 ro w->σ.take h0=σ0.take h0->
   (∀i,i<m->hs.getD i false=true->(onL L i↔i∈X.getD u []))->(∀i,i<m->onL L i)->
   wpAnyIn (WF rd) 0 P .any l.toArray R g L a w:=by
  intro g L a w ro σ u hsz hu hsuf hst hsim hN hdef hD hE' hev htk hI2 r;have ai:u=X.length-1:=by
   rcases ok.full u hst with q|⟨i,Q,h2,h3⟩
   .omega
   .exact absurd ((hI2 i Q h2).1 (r i Q)) h3
  rw[ai,ao]at hsim;refine Qi0 ok.back ok.chain g m L a w hsz (λi hi=>⟨λq=>?_,λq=>r i q⟩) hu (XS _) ok.len ?_
  .rcases Vy i m with z|z
   .exact z
   .exact absurd q (hsuf i z)
  .have hr:Rel fr ro σ Hk (Qan ds xs env0) N a w:=by
    refine⟨hsim,λs=>?_,hN,by rw[hdef];exact al.keep hev⟩;rcases Qlt (env0:=env0) (by rw[ok.dsl,ay]) s with⟨j,x,Q,h2,h3⟩|⟨Q,h2⟩
    .rw[h3];have f:j<m:=by have:=(XK.1 Q).1;rw[ok.dsl]at this;exact this
     exact hD j s x (r j f) Q h2
    .rw[h2];exact hE' s (λj q=>absurd (VD q) (by simpa using Q))
   exact hk ro σ a w hr hev htk hdef
 intro g
 induction g with
 |zero=>
  intro L a w ro σ u hsz hu hsuf hst hsim hN hdef hD hE' hev htk hho hI1 hI2 hcl;refine fin 0 L a w ro σ u hsz hu hsuf hst hsim hN hdef hD hE' hev htk hI2 (λi hi=>?_);by_cases q:onL L i
  .exact q
  .have:=QhZ (L:=L) (i:=i) (by have:=ok.len;omega) q;omega
 |succ g ih=>
  intro L a w ro σ u hsz hu hsuf hst hsim hN hdef hD hE' hev htk hho hI1 hI2 hcl;by_cases r:∀i,i<m->onL L i
  .exact fin (g+1) L a w ro σ u hsz hu hsuf hst hsim hN hdef hD hE' hev htk hI2 r
  .have av:∃i,i<m/\ ¬onL L i:=by
    refine Classical.byContradiction λq=>r λi hi=>Classical.byContradiction λz=>q ⟨i,hi,z⟩
   obtain⟨n,hn,ag⟩:=av;obtain⟨i0,Q,h2,h3⟩:=least (p:=λi=>¬onL L i) (λi=>Classical.em _) n ag;have ba:=ok.len;have aj:l[i0]?=some l[i0]:=XJ (by omega);have hr:i0∈Region.ready .any l.toArray L:=(QaA hsz).2 ⟨_,aj,h2,λj f=>Classical.byContradiction λz=>h3 j (ok.back i0 _ aj j f) z⟩;refine⟨λq=>(by rw[q]at hr;cases hr),λi hi=>?_⟩;obtain⟨o,W,Y,J⟩:=(QaA hsz).1 hi;have E:i<m:=by
    rcases Vy i m with q|q
    .exact q
    .exfalso;rcases Vy m i with z|z
     .exact hsuf (i-1) (by omega) (J _ (ok.chain i o z W))
     .have:i=m:=by omega
      subst this;have a0:∀j,Qb3 l i j->onL L j:=by
       intro j f
       induction f with
       |one t f=>rw[W]at t;cases t;exact J _ f
       |step _ t f ihr=>exact hcl _ _ ihr t _ f
      exact ag (a0 n (ok.mid o W n hn))
   have ah:∀h∈rq.getD i [],onL L h:=by
    intro h V;obtain⟨_,_,q|⟨j,q1,q2,q3⟩⟩:=ok.rqs i o E W h V
    .exact J h q
    .exact hI1 j q2 (J j q1) h q3
   obtain⟨aq,a6,au,G⟩:=ok.pls i u E hst (λh V=>by
    obtain⟨q1,q2,_⟩:=ok.rqs i o E W h V;exact(hI2 h q1 q2).1 (ah h V)) (λq z=>Y ((hI2 i E q).2 z)) (λh V hR=>by
    obtain⟨q1,q2⟩:=ok.msh u h V;have aw:onL L h:=(hI2 h q1 q2).2 V;have ak:∀j,Qb3 l h j->onL L j:=by
     intro j f
     induction f with
     |one t f=>exact hcl _ _ aw t _ f
     |step _ t f ihr=>exact hcl _ _ ihr t _ f
    exact Y (ak i hR))
   have hb:=a5 i _ E a6;refine hb.use W hsim hN (by rw[hdef];exact al.keep hev) (ax.to hev λ_ q=>q) hho (a7 u hst) a4 (λj f s x q1 q2=>hD j s x (J j f) q1 q2) (λs Q=>hE' s (λj q=>absurd (VD q) (by simpa using Q))) (λj s Q h2=>hE' s (λj' q q'=>?_)) ?_
   .obtain rfl:=ok.nodup j' j s q h2;have f:=Xd.1 (List.contains_iff_mem.1 Q);cases ac:l[j']? with
    |none=>rw[ac]at f;simp at f
    |some oj=>
     rw[ac]at f;exact Y (hcl j' oj q' ac i (by simpa using f.2))
   intro v w' a8 σ' af;have aa:=af.ext;have ab:∀s,(∀d,o.dst=some d->s≠d)->(a.put o.dst v).tmps.getD s undef=a.tmps.getD s undef:=by
    intro s az;cases hd:o.dst with
    |none=>rfl
    |some d=>
     simp only[Act.put,Array.getD_eq_getD_getElem?,Vc];rw[Vp (λq=>az d hd q.symm)]
   have ad:(a.put o.dst v).tmps.size=N:=by
    cases hd:o.dst with
    |none=>simpa[Act.put]using hN
    |some d=>simpa[Act.put]using hN
   have a2:(a.put o.dst v).defers=ds0:=by
    cases hd:o.dst with
    |none=>simpa[Act.put]using hdef
    |some d=>simpa[Act.put]using hdef
   have a9:=Qfv (L:=L) (i:=i) (by omega) Y;have B:i<L.size:=by omega
   have ar:∀s j,ds[j]?=some s->j≠i->∀d,o.dst=some d->s≠d:=by
    intro s j f F d hd q;subst q;rcases ok.dst i o E W with⟨d',k,T,am⟩|k
    .rw[hd]at k;cases k;exact F (ok.nodup j i _ f T)
    .rw[hd]at k;cases k
   refine ih _ _ w' a8 σ' aq (by simpa using hsz) (by omega) (λj f q=>?_) au af.sim ad a2 ?_ ?_ (hev.trans af.ev) ?_ af.holes ?_ ?_ ?_
   .rcases(Jm B).1 q with z|z
    .omega
    .exact hsuf j f z
   .intro j s y f M hy;by_cases F:j=i
    .subst F;have hv:=af.val y hy;rcases ok.dst j o E W with⟨d',k,T,am⟩|k
     .obtain rfl:s=d':=XY (M.symm.trans T);simp only[k]at hv⊢;exact hv
     .simp only[k]at hv;subst hv;exact trivial
    .rw[ab s (ar s j M F)];rcases(Jm B).1 f with z|z
     .exact absurd z F
     .exact(hD j s y z M hy).mono aa
   .intro s M;have a1:∀d,o.dst=some d->s≠d:=by
     rintro d hd rfl;rcases ok.dst i o E W with⟨d',k,T,am⟩|k
     .rw[hd]at k;cases k;exact M i T ((Jm B).2 (.inl rfl))
     .rw[hd]at k;cases k
    rw[ab s a1];exact(hE' s (λj q z=>M j q ((Jm B).2 (.inr z)))).mono aa
   .rw[<- htk];have:=congrArg (List.take h0) af.take;rw[List.take_take,List.take_take,XA an]at this;exact this
   .intro j f O h V;refine(Jm B).2 (.inr ?_);rcases(Jm B).1 O with z|z
    .subst z;exact ah h V
    .exact hI1 j f z h V
   .intro j f O;rw[Jm B];cases q:hs.getD i false with
    |false=>
     have F:j≠i:=by rintro rfl;rw[q]at O;cases O
     rw[q]at G;simp only[Xi,if_false]at G;simp only[F,false_or];rw[G];exact hI2 j f O
    |true=>
     rw[q]at G;simp only[if_true]at G;rw[G j,hI2 j f O]
   .intro j o' f t j' ae;rcases(Jm B).1 f with z|z
    .subst z;rw[W]at t;cases t;exact(Jm B).2 (.inr (J _ ae))
    .exact(Jm B).2 (.inr (hcl j o' z t j' ae))
def Qdo.dstB(N:Nat):Nat->List Oper->List Nat->Bool
 |_,_,[]=>true
 |i,o::r,d::ds=>(match o.dst with|some d'=>Nat.beq d' d&&Nat.blt d N|none=>true)&&Qdo.dstB N (i+1) r ds
 |_,[],_::_=>false
def Qdo.rqB(m:Nat)(hs:List Bool)(rq:List (List Nat)):Nat->List Oper->Bool
 |_,[]=>true
 |i,o::r=>(rq.getD i []).all (λh=>Nat.blt h m&&hs.getD h false&&((Qh o).contains h||(Qh o).any λj=>Nat.blt j m&&(rq.getD j []).contains h))&&Qdo.rqB m hs rq (i+1) r
def Qhi(l:List Oper)(h:Nat):List Nat:=match l[h]? with
 |some o=>Qd0 l h (Qh o)
 |none=>[]
theorem QiF{l:List Oper}{h j:Nat}(q:j∈Qhi l h):Qb3 l h j:=by
 unfold Qhi at q;cases a:l[h]? with
 |none=>rw[a]at q;cases q
 |some o=>rw[a]at q;exact QbQ h (Qh o) (λi d=>.one a d) j q
def Qdo.plB(l:List Oper)(m:Nat)(hs:List Bool)(rq ms:List (List Nat))(pl:List (List (Nat×Nat))):Bool:=
 (List.range m).all λi=>(List.range ms.length).all λst=>((ms.getD st []).any λh=>(Qhi l h).contains i)|| !(rq.getD i []).all ((ms.getD st []).contains ·)||(hs.getD i false&&(ms.getD st []).contains i)||
  (pl.getD i []).any λp=>Nat.beq p.1 st&&Nat.blt p.2 ms.length&&(bif hs.getD i false then same (ms.getD p.2 []) (i::ms.getD st [])else Nat.beq p.2 st)
def Qdo(l:List Oper)(m N:Nat)(ds:List Nat)(hs:List Bool)(rq ms:List (List Nat))(pl:List (List (Nat×Nat))):Bool:=
 Nat.ble m l.length&&(ds.length==m)&&Qdo.dstB N 0 l ds&&drawChk.nodupB ds&&drawChk.goB l m 0 l&&Qdo.rqB m hs rq 0 l&&(ms.getD 0 []).isEmpty&&Nat.blt 0 ms.length
 &&((List.range ms.length).all λst=>Nat.beq (st+1) ms.length||(List.range m).any λi=>hs.getD i false&& !(ms.getD st []).contains i)&&Qdo.plB l m hs rq ms pl&&(List.range ms.length).all λst=>(ms.getD st []).all λh=>Nat.blt h m&&hs.getD h false
theorem Qfh{N:Nat}:∀(l:List Oper) (a:List Nat) (b:Nat),Qdo.dstB N b l a=true->∀(i d:Nat) (o:Oper),l[i]?=some o->a[i]?=some d->
  (o.dst=some d/\d<N)\/o.dst=none:=by
 intro l
 induction l with
 |nil=>intro a b h i d o f;simp at f
 |cons x r k=>
  intro a b h i d o f g;cases a with
  |nil=>simp at g
  |cons y a=>
   simp only[Qdo.dstB,XV]at h;cases i with
   |zero=>
    simp at f g;subst f;subst g;have h:=h.1;split at h
    .rename_i m j;simp only[XV]at h;have e:=XP h.1;subst e;exact .inl ⟨j,by simpa using h.2⟩
    .rename_i j;exact .inr j
   |succ i=>
    have:=k a (b+1) h.2 i d o (by simpa using f) (by simpa using g);exact this
theorem QjQ{m:Nat}{e:List Bool}{d:List (List Nat)}:∀(l:List Oper) (b:Nat),Qdo.rqB m e d b l=true->∀(i:Nat) (o:Oper),l[i]?=some o->
  ∀h∈d.getD (b+i) [],h<m/\e.getD h false=true/\(h∈Qh o\/ ∃j∈Qh o,j<m/\h∈d.getD j []):=by
 intro l
 induction l with
 |nil=>intro b h i o a;simp at a
 |cons x r n=>
  intro b h i o a;simp only[Qdo.rqB,XV]at h;cases i with
  |zero=>
   simp at a;subst a;intro k g;have:=Xs.1 h.1 k (by simpa using g);simp only[XV,Bool.or_eq_true,List.contains_iff_mem,Xt]at this;obtain⟨⟨t,f⟩,w⟩:=this;refine⟨by simpa using t,f,?_⟩;rcases w with q|⟨j,u,s,p⟩
   .exact .inl q
   .exact .inr ⟨j,u,by simpa using s,p⟩
  |succ i=>
   have:=n (b+1) h.2 i o (by simpa using a);rw[show b+1+i=b+(i+1)by omega]at this;exact this
theorem QkF{l:List Oper}{m N:Nat}{u:List Nat}{H:List Bool}{B t:List (List Nat)}{J:List (List (Nat×Nat))}(h:Qdo l m N u H B t J=true):
  Qla l m u H B t J N/\0<t.length:=by
 unfold Qdo at h;simp only[XV]at h;obtain⟨⟨⟨⟨⟨⟨⟨⟨⟨⟨h1,h2⟩,M⟩,R⟩,L⟩,Q⟩,O⟩,Y⟩,P⟩,y⟩,E⟩:=h;have G:m<=l.length:=XQ h1;have F:u.length=m:=by simpa using h2
 have g:=Qgx l 0 L;refine⟨⟨G,λi o s d=>?_,F,Qdf R,λi o d=>by have:=(g i o d).1;simpa using this,λo d j T=>QbQ m (Qh o) (λi s=>.one d s) j ((g m o d).2.1 (by omega) j T),
  λi o s d=>by have:=(g i o d).2.2 (by omega);simpa using this,λi o s d h k=>by have:=QjQ l 0 Q i o d h (by simpa using k);exact this,
  by simpa using O,λn a=>?_,λn h k=>?_,λi n s a X hn W=>?_⟩,by simpa using Y⟩
 .have x:u[i]?=some u[i]:=XJ (by omega);rcases Qfh l u 0 M i _ o d x with⟨r,w⟩|r
  .exact .inl ⟨_,r,x,w⟩
  .exact .inr r
 .have:=Xs.1 P n (List.mem_range.2 a);simp only[Bool.or_eq_true,Xt,XV,Bool.not_eq_true']at this;rcases this with q|⟨i,r,w,f⟩
  .exact .inl (XP q)
  .exact .inr ⟨i,List.mem_range.1 r,w,λz=>by rw[List.contains_iff_mem.2 z]at f;cases f⟩
 .have a:n<t.length:=by
   rcases Vy n t.length with q|q
   .exact q
   .rw[VH,XN q]at k;cases k
  have:=Xs.1 (Xs.1 E n (List.mem_range.2 a)) h k;simp only[XV]at this;exact⟨by simpa using this.1,this.2⟩
 .have:=Xs.1 (Xs.1 y i (List.mem_range.2 s)) n (List.mem_range.2 a);simp only[Bool.or_eq_true,Bool.not_eq_true']at this;rcases this with((q|q)|q)|q
  .exfalso;obtain⟨h,k,q⟩:=Xt.1 q;exact W h k (QiF (List.contains_iff_mem.1 q))
  .exfalso;have:((B.getD i []).all ((t.getD n []).contains ·))=true:=Xs.2 λh k=>List.contains_iff_mem.2 (X h k);rw[this]at q;cases q
  .simp only[XV]at q;exact absurd (List.contains_iff_mem.1 q.2) (hn q.1)
  .obtain⟨p,V,q⟩:=Xt.1 q;simp only[XV]at q;obtain⟨⟨r,w⟩,f⟩:=q;have e:=XP r;refine⟨p.2,by rw[<- e];exact V,by simpa using w,?_⟩;cases z:H.getD i false with
   |true=>
    rw[z]at f;simp only[Vm]at f;simp only[if_true];intro j;rw[Qlm f j,X5]
   |false=>
    rw[z]at f;simp only[Vn]at f;simp only[Xi,if_false];exact XP f
inductive Qf0 (P:Program) (N:Nat) (l:List Oper) (ds:List Nat) (xs:List A) (env0:Env) (hB hE:Nat):Nat->List (List (Qd×Qd))->Prop
 |nil {i:Nat}:Qf0 P N l ds xs env0 hB hE i []
 |cons {i:Nat} {s:List (Qd×Qd)} {r:List (List (Qd×Qd))} (h:∀p∈s,Jj P N l ds xs env0 hB hE i p.1 p.2) (k:Qf0 P N l ds xs env0 hB hE (i+1) r):Qf0 P N l ds xs env0 hB hE i (s::r)
theorem Qf0.get{P:Program}{N:Nat}{l:List Oper}{d:List Nat}{xs:List A}{env0:Env}{hB hE b:Nat}{e:List (List (Qd×Qd))}(h:Qf0 P N l d xs env0 hB hE b e):
  ∀(i:Nat) (s:List (Qd×Qd)),e[i]?=some s->∀p∈s,Jj P N l d xs env0 hB hE (b+i) p.1 p.2:=by
 induction h with
 |nil=>intro i s h;simp at h
 | @cons b s0 r h _ ih=>
  intro i s a;cases i with
  |zero=>simp at a;subst a;exact h
  |succ i=>
   have:=ih i s (by simpa using a);rw[show b+1+i=b+(i+1)by omega]at this;exact this
theorem Qc{P:Program}{N:Nat}{l:List Oper}{a:List Nat}{xs:List A}{env0:Env}{hB hE i:Nat}:∀p∈([]:List (Qd×Qd)),Jj P N l a xs env0 hB hE i p.1 p.2:=by
 intro p d;cases d
theorem Qb{P:Program}{N:Nat}{l:List Oper}{a:List Nat}{xs:List A}{env0:Env}{hB hE i:Nat}{H H':Qd}{r:List (Qd×Qd)}(h:Jj P N l a xs env0 hB hE i H H')
  (k:∀p∈r,Jj P N l a xs env0 hB hE i p.1 p.2):∀p∈(H,H')::r,Jj P N l a xs env0 hB hE i p.1 p.2:=by
 intro p d;rcases X5.1 d with rfl|q
 .exact h
 .exact k p q
theorem Qfz{P:Program}{h0 N:Nat}{id:Nat}{l:List Oper}{env:Env}{H:Qd}{fr ro:Nat->Prop}{σ:Sig}{a:Act}{w:World}{rd:Option Nat}{R:Exit->Act->World->Prop}(m c:Nat)(ds:List Nat)(hs:List Bool)(rq Y:List (List Nat))(O:List (List (Nat×Nat)))(xs:List A)(Hs:List Qd)(Hk:Qd)
  (hm:P.follows .mixedOrders=true)(hc:Qdo l m N ds hs rq Y O=true)(ae:Nat.beq xs.length m=true)(ac:Nat.beq Hs.length Y.length=true)(T:Nat.ble h0 H.length=true)
  (hh:Hs.all (λX=>Nat.ble (H.length+c) X.length)=true)(ab:Hs[0]?=some (H++List.replicate c .dead))(af:Hs.getD (Y.length-1) []=Hk)
  (aa:Qf0 P N l ds xs env H.length (H.length+c) 0 (O.map λq=>q.map λp=>(Hs.getD p.1 [],Hs.getD p.2 [])))(ag:Nat.beq O.length m=true)
  (r:Rel fr ro σ H env N a w)(ad:Qdx rd fr w)
  (hk:∀ro' σ' a' w',Rel fr ro' σ' Hk (Qan ds xs env) N a' w'->Qg fr ro w ro' w'->σ'.take h0=σ.take h0->a'.defers=a.defers->wpL P rd l.toArray R (l.drop m) a' w'):(Code.region id l.toArray true).wpIn (WF rd) 0 P R a w:=by
 obtain⟨ok,E⟩:=QkF hc;have J:=XP ae;have F:=XP ac;have ah:=XP ag;have G:Qg fr ro w ro {w with drawn:=w.drawn+1}:=⟨λ_ q=>q,λ_ _=>rfl,λ_ _=>rfl,XS _,λ_ _ q=>q,rfl,rfl,rfl,Nat.le_succ _⟩;have u:Ext ro σ w ro (σ++List.replicate c none) {w with drawn:=w.drawn+1}:=G.ext σ _;have W:=r.sim.len;have M:Hs.getD 0 []=H++List.replicate c .dead:=Ql7 ab;have k:∀(i:Nat) (s:Option Nat) (x:Blk),(σ++List.replicate c none)[i]?=some s->(H++List.replicate c Blk.dead)[i]?=some x->(σ[i]?=some s/\H[i]?=some x)\/(s=none/\x=.dead):=by
  intro i s x n h;rcases Vy i σ.length with q|q
  .rw[XL q]at n;rw[XL (by omega)]at h;exact .inl ⟨n,h⟩
  .rw[XM q]at n;rw[XM (by omega)]at h;have a1:=VD n;have a2:=VD h;exact .inr ⟨(List.mem_replicate.1 a1).2,(List.mem_replicate.1 a2).2⟩
 have B:Sim fr ro (σ++List.replicate c none) (H++List.replicate c .dead) {w with drawn:=w.drawn+1}:=by
  refine⟨by simp[W],r.sim.roOk.to (λ_ q=>q) (λ_ _=>rfl) r.sim.roLt,r.sim.frLt,r.sim.roFr,?_,?_,?_,
   r.sim.hidTo (· = ·) Q4 (XS _) (λ_ _ _ _ _ _ _ q=>q) (λ_ _ _ _ _ _ _ q=>q) λj d y g1 g2 g3=>.inl ?_⟩
  rotate_left 3
  .rcases k j _ _ g1 g2 with⟨g,t⟩|⟨g,_⟩
   .exact⟨j,y,rfl,g,t,(λz=>z),λc q=>q⟩
   .cases g
  .intro i b blk n h Q;rcases k i _ _ n h with⟨g,t⟩|⟨g,_⟩
   .exact r.sim.own i b blk g t Q
   .cases g
  .intro i j b x y n h Q h4 h5 h6;rcases k i _ _ n Q with⟨g,t⟩|⟨g,_⟩
   .rcases k j _ _ h h4 with⟨V,q4⟩|⟨V,_⟩
    .exact r.sim.inj i j b x y g V t q4 h5 h6
    .cases V
   .cases g
  .intro i s x n h;rcases k i _ _ n h with⟨g,t⟩|⟨g,t⟩
   .exact BR.keep u (λb hb _=>rfl) (r.sim.blk i s x g t) (λ_ _ _ _=>rfl)
   .subst t;exact trivial
 have f:∀i,¬onL (Array.replicate l.length false) i:=by
  intro i q;unfold onL at q;rw[Array.getElem?_replicate]at q;split at q<;>simp at q
 have L:=XQ T;refine wpIn_region_any hm ?_;rw[List.size_toArray];refine QgW ok J F L (Nat.le_add_right _ _) (λX hX=>XQ (Xs.1 hh X hX)) ?_ af (ro0:=ro) (σ0:=σ) (w0:=w) (ds0:=a.defers) hk r.defers ad
  l.length _ a _ ro (σ++List.replicate c none) 0 (by simp) ?_ (λi _=>f i) E (by rw[M];exact B) r.size rfl (λi d x q=>absurd q (f i)) (λs _=>(r.env s).mono u) G (QM (by omega)) ?_
  (λi _ q=>absurd q (f i)) (λi _ _=>⟨λq=>absurd q (f i),λq=>by rw[ok.ms0]at q;cases q⟩) (λi o q=>absurd q (f i))
 .intro i p hi hp;have e:(O.map λq=>q.map λp=>(Hs.getD p.1 [],Hs.getD p.2 []))[i]?=some ((O.getD i []).map λp=>(Hs.getD p.1 [],Hs.getD p.2 [])):=by
   rw[Xo,XJ (by omega),VH,XJ (by omega)];rfl
  have:=aa.get i _ e _ (Xe.2 ⟨p,hp,rfl⟩);simpa using this
 .unfold unl;simp[List.countP_replicate]
 .intro p n h Q;rw[XM (by omega),List.getElem?_replicate,Vq (by omega)]
theorem Yk{P:Program}{h0 N:Nat}{id:Nat}{l:List Oper}{env:Env}{H:Qd}{Q:QB}(m c:Nat)(g:List Nat)(y:List Bool)(x f:List (List Nat))(h:List (List (Nat×Nat)))(xs:List A)(Hs:List Qd)(Hk:Qd)
  (B:P.follows .mixedOrders=true)(G:Qdo l m N g y x f h=true)(s:Nat.beq xs.length m=true)(n:Nat.beq Hs.length f.length=true)(i:Nat.ble h0 H.length=true)
  (E:Hs.all (λX=>Nat.ble (H.length+c) X.length)=true)(j:Hs[0]?=some (H++List.replicate c .dead))(k:Hs.getD (f.length-1) []=Hk)
  (u:Qf0 P N l g xs env H.length (H.length+c) 0 (h.map λq=>q.map λp=>(Hs.getD p.1 [],Hs.getD p.2 [])))(t:Nat.beq h.length m=true)
  (z:WO P h0 N l.toArray (l.drop m) (Qan g xs env) Hk Q):TC P h0 N (.region id l.toArray true) env H Q:=by
 intro F J L σ a w r hrd;refine Code.wpIn_mono (λe a w q=>Qbp.postW q) (Qfz m c g y x f h xs Hs Hk B G s n i E j k u t r hrd λro' σ' a' w' hr hev htk hdf=>?_);have d:=z F J ro' σ' a' w' hr (hrd.to hev λ_ q=>q);rw[hdf]at d;exact Yj (λe a w q=>q.step hev htk) _ _ _ d
def draw0(l:List Oper)(m N:Nat)(ds:List Nat):Bool:=Nat.ble m l.length&&(ds.length==m)&&Qdo.dstB N 0 l ds&&drawChk.nodupB ds&&drawChk.goB l m 0 l
inductive Oq (P:Program) (N:Nat) (l:List Oper) (ds:List Nat) (xs:List A) (env0:Env) (H:Qd):Nat->Nat->Prop
 |n {i:Nat}:Oq P N l ds xs env0 H i 0
 |c {i c:Nat} (h:Jj P N l ds xs env0 H.length H.length i H H) (k:Oq P N l ds xs env0 H (i+1) c):Oq P N l ds xs env0 H i (c+1)
theorem Oq.get{P:Program}{N:Nat}{l:List Oper}{a:List Nat}{xs:List A}{env0:Env}{H:Qd}{b c:Nat}(h:Oq P N l a xs env0 H b c):∀i,i<c->Jj P N l a xs env0 H.length H.length (b+i) H H:=by
 induction h with
 |n=>intro i d;omega
 | @c b c h _ ih=>
  intro i d;cases i with
  |zero=>exact h
  |succ i=>
   have:=ih i (by omega);rw[show b+1+i=b+(i+1)by omega]at this;exact this
theorem QkG{l:List Oper}{m N:Nat}{e:List Nat}(h:draw0 l m N e=true):Qla l m e [] [] [[]] (List.replicate m [(0,0)]) N:=by
 unfold draw0 at h;simp only[XV]at h;obtain⟨⟨⟨⟨z,y⟩,B⟩,w⟩,x⟩:=h;have p:m<=l.length:=XQ z;have r:e.length=m:=by simpa using y
 have g:=Qgx l 0 x;refine⟨p,λi o f d=>?_,r,Qdf w,λi o d=>by have:=(g i o d).1;simpa using this,λo d j u=>QbQ m (Qh o) (λi f=>.one d f) j ((g m o d).2.1 (by omega) j u),
  λi o f d=>by have:=(g i o d).2.2 (by omega);simpa using this,λi o f d h q=>by simp at q,rfl,λn a=>.inl (by simp at a;simp[a]),λn h q=>by cases n<;>simp at q,λi n f a _ _ _=>?_⟩
 .have k:e[i]?=some e[i]:=XJ (by omega);rcases Qfh l e 0 B i _ o d k with⟨s,t⟩|s
  .exact .inl ⟨_,s,k,t⟩
  .exact .inr s
 .have:n=0:=by simp at a;exact a
  subst this;refine⟨0,?_,by simp,by simp⟩;rw[VH,List.getElem?_replicate,Vq f];exact Vx.2 rfl
theorem QfA{P:Program}{h0 N:Nat}{id:Nat}{l:List Oper}{env:Env}{H:Qd}{fr ro:Nat->Prop}{σ:Sig}{a:Act}{w:World}{rd:Option Nat}{R:Exit->Act->World->Prop}(m:Nat)(k:List Nat)(xs:List A)
  (F:P.follows .mixedOrders=true)(G:Go.Sw.draw0 l m N k=true)(u:Nat.beq xs.length m=true)(n:Nat.ble h0 H.length=true)
  (y:Oq P N l k xs env H 0 m)(r:Rel fr ro σ H env N a w)(t:Qdx rd fr w)
  (E:∀ro' σ' a' w',Rel fr ro' σ' H (Qan k xs env) N a' w'->Qg fr ro w ro' w'->σ'.take h0=σ.take h0->a'.defers=a.defers->wpL P rd l.toArray R (l.drop m) a' w'):(Code.region id l.toArray true).wpIn (WF rd) 0 P R a w:=by
 have ok:=QkG G;have f:=XP u;have g:Qg fr ro w ro {w with drawn:=w.drawn+1}:=⟨λ_ q=>q,λ_ _=>rfl,λ_ _=>rfl,XS _,λ_ _ q=>q,rfl,rfl,rfl,Nat.le_succ _⟩;have h:Ext ro σ w ro σ {w with drawn:=w.drawn+1}:=g.ext0 σ;have j:Sim fr ro σ H {w with drawn:=w.drawn+1}:=r.sim.heap rfl;have e:∀i,¬onL (Array.replicate l.length false) i:=by
  intro i q;unfold onL at q;rw[Array.getElem?_replicate]at q;split at q<;>simp at q
 refine wpIn_region_any F ?_;rw[List.size_toArray];refine QgW (hB:=H.length) (hE:=H.length) (Hs:=[H]) (Hk:=H) ok f rfl (XQ n) (XS _) (λX hX=>by rw[Vx.1 hX];exact XS _) ?_ rfl (ro0:=ro) (σ0:=σ) (w0:=w) (ds0:=a.defers) E r.defers t
  l.length _ a _ ro σ 0 (by simp) ?_ (λi _=>e i) (by simp) j r.size rfl (λi d x q=>absurd q (e i)) (λs _=>(r.env s).mono h) g rfl (λp J L=>by omega)
  (λi _ q=>absurd q (e i)) (λi _ _=>⟨λq=>absurd q (e i),λq=>by cases q⟩) (λi o q=>absurd q (e i))
 .intro i p B z;rw[VH,List.getElem?_replicate,Vq B]at z;obtain rfl:=Vx.1 z;have:=y.get i B;rw[Xv]at this;exact this
 .unfold unl;simp[List.countP_replicate]
theorem TC.draw0{P:Program}{h0 N:Nat}{id:Nat}{l:List Oper}{env:Env}{H:Qd}{Q:QB}(m:Nat)(f:List Nat)(xs:List A)
  (k:P.follows .mixedOrders=true)(p:Go.Sw.draw0 l m N f=true)(h:Nat.beq xs.length m=true)(g:Nat.ble h0 H.length=true)
  (i:Oq P N l f xs env H 0 m)(j:WO P h0 N l.toArray (l.drop m) (Qan f xs env) H Q):TC P h0 N (.region id l.toArray true) env H Q:=by
 intro n s t σ a w r hrd;refine Code.wpIn_mono (λe a w q=>Qbp.postW q) (QfA m f xs k p h g i r hrd λro' σ' a' w' hr hev htk hdf=>?_);have d:=j n s ro' σ' a' w' hr (hrd.to hev λ_ q=>q);rw[hdf]at d;exact Yj (λe a w q=>q.step hev htk) _ _ _ d
section
variable {P:Program} {N:Nat} {l:List Oper} {ds af bf:List Nat} {xs:List A} {env0 e r:Env} {H H':Qd} {i hB hE:Nat} {o:Oper} {d s:Nat} {x a:A}
theorem sN:Sb af bf ds xs env0 []:=.nil
theorem sD(j:Nat)(k:Sb af bf ds xs env0 r)(d:af.contains j=true:=by exact rfl)(h2:ds[j]?=some s:=by exact rfl)(h3:xs[j]?=some a:=by exact rfl):Sb af bf ds xs env0 ((s,a)::r):=.dep j d h2 h3 k
theorem sO(s:Nat)(k:Sb af bf ds xs env0 r)(d:ds.contains s=false:=by exact rfl)(h2:lk env0 s=a:=by exact rfl):Sb af bf ds xs env0 ((s,a)::r):=.old d h2 k
theorem Qdp(H:Qd):Qam hB hE H H=true:=by
 unfold Qam;refine Xs.2 λp _=>?_;cases Qbd H[hB+p]? <;>rfl
theorem Om(f:l[i]?=some o)(a:Sb (Qh o) (QfS l i) ds xs env0 e)(h:WO P H.length N l.toArray [o] e H (YK (up e d x) H))(g:o.dst=some d:=by exact rfl)(hx:xs[i]?=some x:=by exact rfl):Jj P N l ds xs env0 hB hE i H H:=
 .mk o e d x f g hx (Qdp H) a h
theorem Om1(f:l[i]?=some o)(a:Sb (Qh o) (QfS l i) ds xs env0 e)(h:WO P H.length N l.toArray [o] e H (YK (up e d x) H'))(g:o.dst=some d:=by exact rfl)(hx:xs[i]?=some x:=by exact rfl)(hdd:Qam hB hE H H'=true:=by exact rfl):Jj P N l ds xs env0 hB hE i H H':=
 .mk o e d x f g hx hdd a h
theorem Om2(d:l[i]?=some o)(a:Sb (Qh o) (QfS l i) ds xs env0 e)(h:WO P H.length N l.toArray [o] e H (YK e H'))(f:o.dst=none:=by exact rfl)(hx:xs[i]?=some .any:=by exact rfl)(hdd:Qam hB hE H H'=true:=by exact rfl):Jj P N l ds xs env0 hB hE i H H':=
 .unit o e d f hx hdd a h
end
structure TyI where
 fld:List (Nat×Nat×Nat)
 agg:List (Nat×Bool×Nat)
 zer:List (Nat×List A×List (Nat×Nat))
structure TyOK (P:Program) (T:TyI):Prop where
 fld:∀e∈T.fld,∃n,Qae P e.1 e.2.1 e.2.2 n
 agg:∀e∈T.agg,(∀w,(isAgg e.1).run P w=.ok e.2.1 w)/\ ∀w,(sizeOf e.1).run P w=.ok e.2.2 w
 zer:∀e∈T.zer,(∃z,(∀w,(zeroValue e.1).run P w=.ok z w)/\ZR (.agg e.2.1) z)/\Qey P e.1 e.2.2
def QgB:List (Nat×Nat×Nat)->Nat->Nat->Option Nat
 |[],_,_=>none
 |(a,b,c)::r,t,f=>bif Nat.beq a t&&Nat.beq b f then some c else QgB r t f
def Qbu{β:Type}:List (Nat×β)->Nat->Option β
 |[],_=>none
 |(a,b)::r,t=>bif Nat.beq a t then some b else Qbu r t
theorem QgA{l:List (Nat×Nat×Nat)}{t f c:Nat}(h:QgB l t f=some c):(t,f,c)∈l:=by
 induction l with
 |nil=>cases h
 |cons x r e=>
  obtain⟨a,b,d⟩:=x;unfold QgB at h;cases q:(Nat.beq a t&&Nat.beq b f)with
  |true=>
   simp_all
  |false=>grind
theorem Qaq{β:Type}{l:List (Nat×β)}{t:Nat}{c:β}(h:Qbu l t=some c):(t,c)∈l:=by
 induction l with
 |nil=>cases h
 |cons x r d=>
  obtain⟨a,b⟩:=x;unfold Qbu at h;cases q:Nat.beq a t with
  |true=>
   simp_all
  |false=>grind
def QfR(H:Qd):A->Option (List A)
 |.rp cs=>some cs
 |.ptr i off=>match H[i]? with
  |some (.cells _ cs)=>some (cs.drop off)
  |_=>none
 |_=>none
theorem QhE{H:Qd}{p:A}{a:List A}(h:QfR H p=some a):Pts H p a:=by
 unfold QfR at h;split at h
 .cases h;exact Pts.rp
 .split at h
  .rename_i d;cases h;exact Pts.cells d rfl
  .cases h
 .cases h
def QjK(T:TyI)(o:Oper)(env:Env)(H:Qd):Option A:=
 match o.op with
 |.move x=>some (opA env x)
 |.assign x=>some (opA env x)
 |.fieldAddr t x f=>match QgB T.fld t f with
  |none=>none
  |some off=>match opA env x with
   |.ptr i p=>some (.ptr i (p+off))
   |.rp cs=>some (.rp (cs.drop off))
   |_=>none
 |.load t x=>match Qbu T.agg t with
  |none=>none
  |some (b,n)=>match x with
   |.global g=>match Qhq[g]? with
    |some zs=>bif b&&Nat.beq zs.length n then some (.agg (zs.map (A.int .i64)))else none
    |none=>none
   |x=>match QfR H (opA env x)with
    |none=>none
    |some cs=>bif b then(bif Nat.beq (cs.take n).length n then some (.agg (cs.take n))else none)else cs.head?
 |.build t parts=>match Qbu T.zer t with
  |none=>none
  |some (zs,pl)=>match Qeb env pl zs parts.toList with
   |some cs=>some (.agg cs)
   |none=>none
 |.extract x i=>match opA env x with
  |.tup vs=>vs[i]?
  |_=>none
 |.makeFunc f first cap=>some (.fn f (first.toList.map (opA env)) (cap.toList.map (opA env)))
 |_=>none
theorem QjJ{P:Program}{T:TyI}(j:TyOK P T){o:Oper}{env:Env}{H:Qd}{x:A}(h:QjK T o env H=some x):OpV P o env H x:=by
 unfold QjK at h;split at h
 .simp_all[OpV.move]
 .simp_all[OpV.assign]
 .rename_i t y f a;split at h
  .cases h
  .rename_i w i;obtain⟨n,F⟩:=j.fld _ (QgA i);split at h
   .grind[QeD]
   .rename_i d r;cases h;exact QeC F a r rfl
   .cases h
 .rename_i t y a;split at h
  .cases h
  .rename_i b n u;obtain⟨e,g⟩:=j.agg _ (Qaq u);split at h
   .split at h
    .rename_i l B;cases q:(b&&Nat.beq l.length n)with
     |false=>grind
     |true=>
      rw[q]at h;cases h;simp[XV]at q;obtain⟨rfl,G⟩:=q;exact Qfp e g B (by simp_all) a
    .cases h
   .split at h
    .cases h
    .rename_i d E;have k:=QhE E;cases b with
     |true=>
      cases q:Nat.beq (d.take n).length n with
      |false=>grind
      |true=>
       rw[q]at h;cases h;exact Qc7 a e g rfl k rfl (by simp_all)
     |false=>
      cases d with
      |nil=>cases h
      |cons v d=>cases h;exact OpV.load a e rfl k
 .rename_i t parts a;split at h
  .cases h
  .rename_i l J s;obtain⟨⟨z,e,g⟩,p⟩:=j.zer _ (Qaq s);split at h
   .rename_i d i;cases h;exact OpV.build e g p (by rw[a]) i
   .cases h
 .grind[OpV.extract]
 .rename_i f first m a
  cases h;exact OpV.makeFunc (by rw[a]) rfl rfl
 .cases h
def QgS(af:List Nat):Nat->List Nat->List A->Env->Env
 |j,d::ds,x::xs,e=>(d,bif af.contains j then x else .any)::QgS af (j+1) ds xs e
 |_,_,_,e=>e
theorem QlR{af:List Nat}{env0:Env}(s:Nat):∀(a:List Nat) (xs:List A) (b:Nat),a.length=xs.length->
  (∃(j:Nat) (x:A),a[j]?=some s/\xs[j]?=some x/\lk (QgS af b a xs env0) s=bif af.contains (b+j)then x else .any)\/(a.contains s=false/\lk (QgS af b a xs env0) s=lk env0 s):=by
 intro a
 induction a with
 |nil=>simp_all[QgS]
 |cons d a g=>
  intro xs b h;cases xs with
  |nil=>cases h
  |cons x xs=>
   cases q:Nat.beq s d with
   |true=>
    have e:=XP q;subst e;left;refine⟨0,x,rfl,rfl,?_⟩
    simp_all[QgS,lk]
   |false=>
    have f:s≠d:=λz=>by simp_all
    simp only[QgS,lk,q];rcases g xs (b+1) (by grind)with⟨j,y,i,k,l⟩|⟨i,k⟩
    .left;refine⟨j+1,y,by grind,by grind,?_⟩
     grind
    grind
def Qh1(T:TyI)(N:Nat)(l:List Oper)(ds:List Nat)(xs:List A)(env0:Env)(H:Qd)(i:Nat):Option A:=
 match l[i]? with
 |none=>none
 |some o=>match o.guard,o.dst with
  |none,some d=>bif Nat.blt d N&&Nat.beq ds.length xs.length then QjK T o (QgS (Qh o) 0 ds xs env0) H else none
  |_,_=>none
theorem QlQ{af a:List Nat}{xs:List A}{env0:Env}(d:a.length=xs.length):Qk7 af a xs env0 (QgS af 0 a xs env0):=by
 intro s;rcases QlR (af:=af) (env0:=env0) s a xs 0 d with⟨j,x,e,f,g⟩|h
 .grind
 grind
theorem vQ{P:Program}{T:TyI}(g:TyOK P T){N:Nat}{l:List Oper}{a:List Nat}{xs:List A}{env0:Env}{hB hE i:Nat}{H:Qd}{x:A}(k:xs[i]?=some x)(h:Qh1 T N l a xs env0 H i=some x):Jj P N l a xs env0 hB hE i H H:=by
 unfold Qh1 at h;split at h
 .cases h
 .rename_i o j;split at h
  .rename_i d e f;cases q:(Nat.blt d N&&Nat.beq a.length xs.length)with
   |false=>grind
   |true=>
    rw[q]at h;simp only[XV]at q;exact .val o _ d x j f e k q.1 (QlQ (by simp_all)) (QjJ g h)
  .cases h
abbrev I(n:Int):A:=.int .i64 n
theorem zc{a:A}{v:Value}{al:List A}{vl:List Value}(h:ZR a v)(k:ZL al vl):ZL (a::al) (v::vl):=ZL.cons h k
def zr1:A->Value->Bool
 |.int k n,.int k' n'=>decide (k=k')&&decide (n=n')
 |.bool b,.bool b'=>b==b'
 |.str s,.string s'=>s.isEmpty&&s'.data.toList.isEmpty
 |.rsl _ es,.slice none 0 0=>es.isEmpty
 |.nils,.slice none 0 0=>true
 |.nilp,.pointer none=>true
 |.nilf,.nilFunc=>true
 |.nilm,.map none=>true
 |.nilif,.nilIface=>true
 |_,_=>false
def zrL:List A->List Value->Bool
 |[],[]=>true
 |a::r,v::s=>zr1 a v&&zrL r s
 |_,_=>false
def zrB:A->Value->Bool
 |.agg r,.agg s=>zrL r s.toList
 |a,v=>zr1 a v
theorem QjA{a:A}{v:Value}(h:zr1 a v=true):ZR a v:=by
 unfold zr1 at h;split at h
 .simp_all[ZR.int]
 .simp_all[ZR.bool]
 .rename_i s f;simp[XV]at h;obtain⟨d⟩:=f
  simp_all[ZR.str]
 .rename_i k g;have h:=List.isEmpty_iff.1 h;subst h;exact ZR.rsl (e:=λx=>[x])
 .exact ZR.nils
 .exact ZR.nilp
 .exact ZR.nilf
 .exact ZR.nilm
 .exact QlV
 .cases h
theorem Qjz:∀{r:List A} {s:List Value},zrL r s=true->ZL r s
 |[],[],_=>ZL.nil
 |a::r,v::s,h=>by
  simp[zrL,XV]at h;exact ZL.cons (QjA h.1) (Qjz h.2)
 |[],_::_,h=>by cases h
 |_::_,[],h=>by cases h
theorem zrC{a:A}{v:Value}(h:zrB a v=true):ZR a v:=by
 unfold zrB at h;split at h
 .have:=ZR.agg (Qjz h);omega
 .exact QjA h
section
variable {P:Program} {o:Oper} {env:Env} {H:Qd}
end
structure TyX where
 ty:TyI
 al:List (Nat×A)
 sl:List Nat
structure QbJ (P:Program) (T:TyX):Prop where
 ty:TyOK P T.ty
 al:∀e∈T.al,(∃z,(∀w,(zeroValue e.1).run P w=.ok z w)/\ZR e.2 z)/\Yi e.2=true/\(Q8 e.2).all Yn=true
 sl:∀t∈T.sl,∃et,∀w,(underlying t).run P w=.ok (.slice et) w
def YH(all:Array Oper)(o:Oper)(env:Env):Option Bool:=
 match o.guard with
 |none=>some true
 |some (j,c)=>match(all[j]?).bind (·.dst)with
  |none=>none
  |some d=>match lk env d with
   |.bool true=>some c
   |.bool false=>some (!c)
   |.tup []=>some false
   |_=>none
theorem QJ{all:Array Oper}{o:Oper}{env:Env}{b:Bool}(h:YH all o env=some b):QE all o env b:=by
 unfold YH at h;unfold QE;split at h
 .grind
 .rename_i j c q;rw[q];split at h
  .cases h
  .rename_i d a;refine⟨d,a,?_⟩;split at h
   .simp_all
   .simp_all
   .grind
   .cases h
def Qc0:List Nat->Nat->Bool
 |[],_=>false
 |a::r,t=>bif Nat.beq a t then true else Qc0 r t
theorem QfD{l:List Nat}{t:Nat}(h:Qc0 l t=true):t∈l:=by
 induction l with
 |nil=>cases h
 |cons a r d=>
  grind[Qc0,Nat.eq_of_beq_eq_true]
inductive FL where
 |mk (l:List A)
def fl:List A->FL
 |[]=>.mk []
 |a::r=>match fl r with
  |.mk r'=>.mk (a::r')
theorem QbZ:∀l:List A,fl l=.mk l
 |[]=>rfl
 |a::r=>by unfold fl;rw[QbZ r]
inductive FB where
 |mk (l:List Blk)
def fb:List Blk->FB
 |[]=>.mk []
 |a::r=>match fb r with
  |.mk r'=>.mk (a::r')
theorem Qic:∀l:List Blk,fb l=.mk l
 |[]=>rfl
 |a::r=>by unfold fb;rw[Qic r]
inductive FN where
 |mk (n:Nat)
def fn:List Blk->Nat->FN
 |[],n=>.mk n
 |_::r,n=>fn r (n+1)
theorem Qkf:∀(l:List Blk) (n:Nat),fn l n=.mk (l.length+n)
 |[],n=>by simp[fn]
 |a::r,n=>by unfold fn;rw[Qkf r];simp;omega
def Qia(env:Env)(pl:List (Nat×Nat)):List A->List (Nat×Operand)->Option (List A)
 |cs,[]=>some cs
 |cs,(i,x)::r=>match YF pl i with
  |none=>none
  |some (off,size)=>match opB env x with
   |.mk a=>match fl (Q8 a)with
    |.mk vs=>bif Yi a&&Nat.beq vs.length size&&Nat.ble (off+size) cs.length then(match fl (splice cs off vs)with
     |.mk cs'=>Qia env pl cs' r)else none
theorem QgE{env:Env}{pl:List (Nat×Nat)}:∀(parts:List (Nat×Operand)) (cs:List A),Qia env pl cs parts=Qeb env pl cs parts
 |[],cs=>rfl
 |(i,x)::r,cs=>by
  unfold Qia Qeb;rw[Qaw];cases pl[i]? with
  |none=>rfl
  |some q=>
   obtain⟨off,size⟩:=q;cases h:opB env x with
   |mk a=>
    rw[QN h];simp only[QbZ];cases(Yi a&&Nat.beq (Q8 a).length size&&Nat.ble (off+size) cs.length)with
    |false=>rfl
    |true=>exact QgE r _
def Qgr(env:Env):List Operand->List A
 |[]=>[]
 |x::r=>match opB env x with
  |.mk a=>a::Qgr env r
theorem Qct{env:Env}:∀l:List Operand,Qgr env l=l.map (opA env)
 |[]=>rfl
 |x::r=>by
  unfold Qgr;cases h:opB env x with
  |mk a=>rw[Vh,QN h];show a::Qgr env r=_;rw[Qct r]
def ptX(H:Qd):Bx->Option Lx
 |.mk (.rp cs)=>some (.mk cs)
 |.mk (.ptr i off)=>match YF H i with
  |some (.cells _ cs)=>some (QgT off cs)
  |_=>none
 |_=>none
theorem Qmu{H:Qd}{p:A}{a:List A}(h:ptX H (.mk p)=some (.mk a)):Pts H p a:=by
 unfold ptX at h
 grind[Pts.rp,Qaw,Pts.cells,Qes]
def QcS(T:TyX)(o:Oper)(env:Env)(H:Qd):Option A:=
 match o.op with
 |.move x=>match opB env x with|.mk a=>some a
 |.assign x=>match opB env x with|.mk a=>some a
 |.nilCheck x=>nlB (opB env x)
 |.extract x i=>exB (opB env x) i
 |.unOp u _ x=>unB u (opB env x)
 |.pick c x y=>piB (opB env c) (opB env x) (opB env y)
 |.binOp b _ x y _=>biB b (opB env x) (opB env y)
 |.fieldAddr t x f=>match QgB T.ty.fld t f with
  |none=>none
  |some off=>match opB env x with
   |.mk (.ptr i p)=>some (.ptr i (p+off))
   |.mk (.rp cs)=>match QgT off cs with
    |.mk r=>some (.rp r)
   |_=>none
 |.load t x=>match Qbu T.ty.agg t with
  |none=>none
  |some (b,n)=>match x with
   |.global g=>match YF Qhq g with
    |some zs=>bif b&&Nat.beq zs.length n then(match fl (zs.map (A.int .i64))with|.mk l=>some (.agg l))else none
    |none=>none
   |x=>match ptX H (opB env x)with
    |none=>none
    |some (.mk cs)=>match b with
     |true=>(match fl (cs.take n)with|.mk l=>bif Nat.beq l.length n then some (.agg l)else none)
     |false=>(match cs with|[]=>none|a::_=>some a)
 |.build t parts=>match Qbu T.ty.zer t with
  |none=>none
  |some (zs,pl)=>match Qia env pl zs parts.toList with
   |some cs=>some (.agg cs)
   |none=>none
 |.makeFunc f first cap=>match fl (Qgr env first.toList),fl (Qgr env cap.toList)with
  |.mk l,.mk l'=>some (.fn f l l')
 |.call c=>match c with
  |{callee:=.builtin .len,args:=⟨[x]⟩,argTypes:=⟨[t]⟩}=>bif Qc0 T.sl t then(match opB env x with
   |.mk (.osl _ 0 n _)=>some (.int .i64 n)
   |_=>none)else none
  |_=>none
 |_=>none
theorem Qap{P:Program}{T:TyX}(m:QbJ P T){o:Oper}{env:Env}{H:Qd}{x:A}(h:QcS T o env H=some x):OpV P o env H x:=by
 unfold QcS at h;split at h
 .simp_all[Qbv,svB]
 .simp_all[Qbv,svB]
 .simp_all[Qbv,svB]
 .simp_all[Qbv,svB]
 .simp_all[Qbv,svB]
 .simp_all[Qbv,svB]
 .simp_all[Qbv,svB]
 .rename_i t y f a;split at h
  .cases h
  .rename_i u d;obtain⟨n,V⟩:=m.ty.fld _ (QgA d);split at h
   .grind[QeD,QN]
   .rename_i l O;cases q:QgT u l with
    |mk r=>rw[q]at h;grind[QeC,QN,Qes]
   .cases h
 .rename_i t y a;split at h
  .cases h
  .rename_i b n G;obtain⟨s,j⟩:=m.ty.agg _ (Qaq G);split at h
   .rename_i g;split at h
    .rename_i E B;rw[Qaw]at B;cases q:(b&&Nat.beq E.length n)with
     |false=>grind
     |true=>
      rw[q,QbZ]at h;cases h;simp only[XV]at q;obtain⟨rfl,w⟩:=q;exact Qfp s j B (by simp_all) a
    .cases h
   .cases e:opB env y with
    |mk p=>
     rw[e]at h;split at h
     .cases h
     .rename_i l N;have L:=Qmu N;cases b with
      |true=>
       simp only[QbZ]at h;cases q:Nat.beq (l.take n).length n with
       |false=>grind
       |true=>
        rw[q]at h;cases h;exact Qc7 a s j (QN e) L rfl (by simp_all)
      |false=>
       grind[OpV.load,QN]
 .rename_i t parts a;split at h
  .cases h
  .rename_i E R J;obtain⟨⟨z,s,j⟩,F⟩:=m.ty.zer _ (Qaq J);split at h
   .rename_i l d;cases h;rw[QgE]at d;exact OpV.build s j F (by rw[a]) d
   .cases h
 .rename_i f first cap a
  simp only[QbZ]at h;cases h;rw[Qct,Qct];exact OpV.makeFunc (first:=first.toList) (cap:=cap.toList) (by rw[a]) rfl rfl
 .rename_i c a;split at h
  .rename_i y t;cases q:Qc0 T.sl t with
   |false=>grind
   |true=>
    rw[q]at h;simp only[Vm]at h;obtain⟨Q,M⟩:=m.sl t (QfD q);split at h
    .rename_i i n k w;cases h;exact Qjn M a rfl (QN w)
    .cases h
  .cases h
 .cases h
def stX(T:TyX)(h0 N:Nat)(all:Array Oper)(o:Oper)(env:Env)(H:Qd):Option (Env×Qd):=
 match YH all o env with
 |none=>none
 |some false=>match o.dst with
  |none=>none
  |some d=>bif Nat.blt d N then some (up env d (.tup []),H)else none
 |some true=>match o.dst with
  |none=>match o.op with
   |.store t x y=>match opB env x,Qbu T.ty.agg t with
    |.mk (.ptr i off),some (_,n)=>match YF H i with
     |some (.cells S cs)=>match opB env y with
      |.mk a=>match fl (Q8 a)with
       |.mk vs=>bif Nat.ble h0 H.length&&(Yi a&&(Nat.beq vs.length n&&(vs.all Yn&&Nat.ble (off+n) cs.length)))then(match fl (splice cs off vs)with
        |.mk cs'=>match fb (H.set i (.cells S cs'))with
         |.mk H'=>some (env,H'))else none
     |_=>none
    |_,_=>none
   |_=>none
  |some d=>bif Nat.blt d N then(match o.op with
   |.alloc t=>match Qbu T.al t with
    |some v=>bif Nat.ble h0 H.length then(match fn H 0,fl (Q8 v)with
     |.mk n,.mk cs=>match fb (H++[.cells t cs])with
      |.mk H'=>some (up env d (.ptr n 0),H'))else none
    |none=>none
   |.box t x=>match opB env x with
    |.mk a=>bif Nat.ble h0 H.length&&(Yi a&&(Q8 a).all Yn)then(match fn H 0,fl (Q8 a)with
     |.mk n,.mk cs=>match fb (H++[.cells t cs])with
      |.mk H'=>some (up env d (.ptr n 0),H'))else none
   |_=>match QcS T o env H with
    |some a=>some (up env d a,H)
    |none=>none)else none
section
variable {P:Program} {T:TyX} {h0 N:Nat} {all:Array Oper} {l l':List Oper} {env env':Env} {H H':Qd} {Q:QB}
theorem Qmf(r:QbJ P T){o:Oper}(h:stX T h0 N all o env H=some (env',H'))(k:WO P h0 N all l env' H' Q):WO P h0 N all (o::l) env H Q:=by
 unfold stX at h;split at h
 .cases h
 .grind[QJ,WO.skip]
 .rename_i F;have j:=QJ F;split at h
  .rename_i f;split at h
   .rename_i t x y g;split at h
    .rename_i i p b n B M;split at h
     .rename_i S cs hH;rw[Qaw]at hH;cases e:opB env y with
      |mk a=>
       rw[e]at h;simp only[QbZ,Qic]at h;generalize hc:(Nat.ble h0 H.length&&(Yi a&&(Nat.beq (Q8 a).length n&&((Q8 a).all Yn&&Nat.ble (p+n) cs.length))))=c at h;cases c with
       |false=>cases h
       |true=>
        cases h;simp only[XV]at hc;obtain⟨c1,m,s,J,G⟩:=hc;obtain⟨_,R⟩:=r.ty.agg _ (Qaq M);exact QkM (by simp_all) j f (OpU.store g (QN B) hH R (QN e) m rfl (by simp_all) J G rfl) k
     .cases h
    .cases h
   .cases h
  .rename_i d f;cases q:Nat.blt d N with
   |false=>grind
   |true=>
    rw[q]at h;simp only[Vm]at h;split at h
    .rename_i t g;split at h
     .rename_i v O;cases c:Nat.ble h0 H.length with
      |false=>grind
      |true=>
       rw[c]at h;simp only[QbZ,Qic,Qkf,Vm,Xw]at h;cases h;obtain⟨⟨z,u,V⟩,L,w⟩:=r.al _ (Qaq O);exact QhJ (by simp_all) j f q (QeF u V g L rfl w) k
     .cases h
    .rename_i t x g;cases e:opB env x with
     |mk a=>
      rw[e]at h;simp only[QbZ,Qic,Qkf,Xw]at h;generalize hc:(Nat.ble h0 H.length&&(Yi a&&(Q8 a).all Yn))=c at h;cases c with
      |false=>cases h
      |true=>
       cases h;simp only[XV]at hc;obtain⟨c1,m,s⟩:=hc;exact QhJ (by simp_all) j f q (OpH.box g (QN e) m rfl s) k
    .split at h
     .rename_i a E;cases h;exact Y2 j f q (Qap r E) k
     .cases h
end
theorem FA{P:Program}{T f off n:Nat}{fs:Array Field}{a:Field}(d:∀w,(underlying T).run P w=.ok (.struct fs) w)(e:fs[f]?=some a)(h:∀w,(sizeOf a.type).run P w=.ok n w)(g:a.offset=off:=by exact rfl)(h5:n≠0:=by decide):Qae P T f off n:=⟨_,_,d,e,g,h,h5⟩
theorem Qdc:∀(π:List Nat) (H:Qd) (xs:List Blk),π.map (λp=>H[p]?)=xs.map some->QR H π xs=H
 |[],H,xs,h=>by
  simp_all[QR]
 |p::π,H,[],h=>by simp at h
 |p::π,H,x::xs,h=>by
  simp only[Vh,List.cons.injEq]at h;have e:H.set p x=H:=by
   apply List.ext_getElem?
   grind
  unfold QR;rw[e];exact Qdc π H xs h.2
def QiA:A->Option Bx
 |.bool b=>some (.mk (.bool b))
 |.int k n=>some (.mk (.int k n))
 |.str s=>some (.mk (.str s))
 |.rsl k es=>some (.mk (.rsl k es))
 |_=>none
theorem Qll{v a:A}(h:QiA v=some (.mk a))(ρ:Nat->Nat):YE ρ v=a:=by
 cases v<;>first|(cases h;rfl)|cases h
theorem Pc{P:Program}{h0 N:Nat}{all:Array Oper}{o:Oper}{l:List Oper}{env:Env}{H:Qd}{Q:QB}{d:Nat}{f:FuncId}{args e:List A}{Hc:Qd}{v h:A}(π:List Nat)(i:o.dst=some d)(g:OpC P o env H f args)(j:C P f e Hc (λa H1=>a=v/\H1=Hc))(m:QiA v=some (.mk h))
  (k:WO P h0 N all l (up env d h) H Q)
  (hargs:args=Qag (rho π H.length) e:=by exact rfl)(hH:π.map (λp=>H[p]?)=(Hc.map (QU (rho π H.length))).map some:=by exact rfl)(hπ:π.Nodup:=by decide)
  (hg:QE all o env true:=by exact rfl)(hN:Nat.blt d N=true:=by exact rfl)(hh:Nat.ble h0 H.length=true:=by exact rfl):WO P h0 N all (o::l) env H Q:=by
 refine Qw π g j ?_ hargs hH hπ hg i hN hh
 simp_all[Qll,Qdc]
theorem Yl{i k:Nat}{es:List (List A)}:∀H:Qd,FzH i k es H H
 |[]=>.nil
 |_::r=>.keep (Yl r)
def foN:Nat->FN
 |0=>.mk 0
 |1=>.mk 1
 |2=>.mk 2
 |3=>.mk 3
 |4=>.mk 4
 |5=>.mk 5
 |6=>.mk 6
 |7=>.mk 7
 |8=>.mk 8
 |9=>.mk 9
 |10=>.mk 10
 |11=>.mk 11
 |12=>.mk 12
 |13=>.mk 13
 |14=>.mk 14
 |15=>.mk 15
 |16=>.mk 16
 |17=>.mk 17
 |18=>.mk 18
 |19=>.mk 19
 |20=>.mk 20
 |21=>.mk 21
 |22=>.mk 22
 |23=>.mk 23
 |24=>.mk 24
 |25=>.mk 25
 |26=>.mk 26
 |27=>.mk 27
 |28=>.mk 28
 |29=>.mk 29
 |30=>.mk 30
 |31=>.mk 31
 |32=>.mk 32
 |33=>.mk 33
 |34=>.mk 34
 |35=>.mk 35
 |36=>.mk 36
 |37=>.mk 37
 |38=>.mk 38
 |39=>.mk 39
 |40=>.mk 40
 |41=>.mk 41
 |42=>.mk 42
 |43=>.mk 43
 |44=>.mk 44
 |45=>.mk 45
 |46=>.mk 46
 |47=>.mk 47
 |n=>.mk n
theorem QfI(n:Nat):foN n=.mk n:=by unfold foN;split<;>rfl
mutual
def foA:A->Bx
 |.agg cs=>match foL cs with
  |.mk l=>.mk (.agg l)
 |.tup cs=>match foL cs with
  |.mk l=>.mk (.tup l)
 |.fn f a c=>match foL a,foL c with
  |.mk l,.mk l'=>.mk (.fn f l l')
 |.iface t v=>match foA v with
  |.mk v'=>.mk (.iface t v')
 |.ptr i off=>match foN i with
  |.mk i'=>.mk (.ptr i' off)
 |.osl i o n k=>match foN i with
  |.mk i'=>.mk (.osl i' o n k)
 |.map i=>match foN i with
  |.mk i'=>.mk (.map i')
 |a=>.mk a
def foL:List A->FL
 |[]=>.mk []
 |a::r=>match foA a,foL r with
  |.mk a',.mk r'=>.mk (a'::r')
end
mutual
theorem Qhr:∀a:A,foA a=.mk a
 |.agg cs=>by unfold foA;rw[Qcc cs]
 |.tup cs=>by unfold foA;rw[Qcc cs]
 |.fn f a c=>by unfold foA;rw[Qcc a,Qcc c]
 |.iface t v=>by unfold foA;rw[Qhr v]
 |.ptr i off=>by unfold foA;rw[QfI]
 |.osl i o n k=>by unfold foA;rw[QfI]
 |.map i=>by unfold foA;rw[QfI]
 |.any|.bool _|.int _ _|.str _|.nilp|.rp _|.nils|.rsl _ _|.nilf|.nilif|.nilm=>by rfl
theorem Qcc:∀l:List A,foL l=.mk l
 |[]=>by rfl
 |a::r=>by unfold foL;rw[Qhr a,Qcc r]
end
inductive FE2 where
 |mk (l:List (List A))
def foE:List (List A)->FE2
 |[]=>.mk []
 |a::r=>match foL a,foE r with
  |.mk a',.mk r'=>.mk (a'::r')
theorem Qke:∀l,foE l=.mk l
 |[]=>rfl
 |a::r=>by unfold foE;rw[Qcc,Qke r]
def foH:List Blk->FB
 |[]=>.mk []
 |b::r=>match foH r with
  |.mk r'=>match b with
   |.cells t cs=>match foL cs with
    |.mk l=>.mk (.cells t l::r')
   |.rowr t k es=>match foE es with
    |.mk l=>.mk (.rowr t k l::r')
   |.dead=>.mk (.dead::r')
   |.row t k es=>.mk (.row t k es::r')
   |.map es=>.mk (.map es::r')
   |.iter c es=>.mk (.iter c es::r')
   |.fmap es=>.mk (.fmap es::r')
   |.mapO fz t k es=>.mk (.mapO fz t k es::r')
   |.mapP es=>.mk (.mapP es::r')
   |.frow t k es=>.mk (.frow t k es::r')
   |.wins t a n c=>match foN a with
    |.mk a'=>.mk (.wins t a' n c::r')
   |.ents t a b es=>match foN a,foN b with
    |.mk a',.mk b'=>.mk (.ents t a' b' es::r')
theorem Qkd:∀l,foH l=.mk l
 |[]=>rfl
 |b::r=>by
  unfold foH;rw[Qkd r];cases b<;>simp only[Qcc,Qke,QfI]
def foS(env:Env)(H:Qd):Option (Env×Qd):=
 match foH H with
 |.mk H'=>match env with
  |[]=>some ([],H')
  |(d,a)::e=>match foA a with
   |.mk a'=>some ((d,a')::e,H')
theorem QmH(env:Env)(H:Qd):foS env H=some (env,H):=by
 unfold foS;rw[Qkd];cases env with
 |nil=>rfl
 |cons p e=>obtain⟨d,a⟩:=p;simp only[Qhr]
theorem FE{P:Program}{h0 N:Nat}{all:Array Oper}{l:List Oper}{env a:Env}{H H':Qd}{Q:QB}(h:foS env H=some (a,H'))(k:WO P h0 N all l a H' Q):WO P h0 N all l env H Q:=by
 rw[QmH]at h
 grind
theorem R1{P:Program}{h0:Nat}{fn:Func}{env:Env}{H Hc:Qd}{v:A}(s:Nat)(hr:fn.results= #[.tmp s])(hle:Le h0 env H [(s,v)] Hc):Jb P h0 fn (λa H=>a=v/\H=Hc) .ret env H:=
 ⟨[(s,v)],Hc,v,hle,QbK.one hr (by simp_all[lk]),rfl,rfl⟩
theorem R2{P:Program}{h0:Nat}{fn:Func}{env:Env}{H Hc:Qd}{v v':A}(s t:Nat)(hr:fn.results= #[.tmp s,.tmp t])(hn:Nat.beq t s=false)(hle:Le h0 env H [(s,v),(t,v')] Hc):Jb P h0 fn (λa H=>a=.tup [v,v']/\H=Hc) .ret env H:=
 ⟨[(s,v),(t,v')],Hc,_,hle,Qjf hr (by simp_all[lk]) (by simp_all[lk]),rfl,rfl⟩
theorem FzA.o{i k n:Nat}{es:List (List A)}(a:n=es.length:=by first|exact(X0 ..).symm|exact rfl):FzA i k es (.osl i 0 n k) (.rsl k es):=FzA.own a
theorem Le.env{e:Nat}{env d:Env}{H:Qd}(h:∀s,lk d s=.any\/lk d s=lk env s):Le e env H d H:=by
 intro g f σ N a w r;refine⟨f,σ,⟨r.sim,λs=>?_,r.size,r.defers⟩,λ_ q=>q,rfl⟩;rcases h s with h|h
 .rw[h];trivial
 .rw[h];exact r.env s
def Qmb(env:Env):Env->Prop
 |[]=>True
 |(s,a)::r=>lk env s=a/\Qmb env r
theorem Qmb.ok{env:Env}:∀{f:Env},Qmb env f->∀s,lk f s=.any\/lk f s=lk env s
 |[],_,s=>.inl rfl
 |(d,a)::e,⟨h1,h2⟩,s=>by
  by_cases q:s=d
  .simp_all[lk]
  .have:Nat.beq s d=false:=by
    simp_all[VI]
   simp only[lk,this,Vn];exact Qmb.ok h2 s
def ixO(d:Nat)(op:Op)(t:Nat)(pos:String)(af:Array Edge):Oper:={dst:=some d,op:=op,type:=t,pos:=pos,after:=af,guard:=none}
inductive Kf where
 |seq (c:Code)
 |blo (id:Nat)
 |unr (c:Code)
inductive Cf where
 |code (c:Code)
 |ops (all:Array Oper) (l:List Oper)
 |out (x:AEx)
def kq(P:Program)(h0 N:Nat):List Kf->QB->QB
 |[],Q=>Q
 |.seq c::k,Q=>Seq P h0 N c (kq P h0 N k Q)
 |.blo id::k,Q=>Blo id (kq P h0 N k Q)
 |.unr c::k,Q=>QhK P h0 N c (kq P h0 N k Q)
@[reducible] def Hd(P:Program)(h0 N:Nat):Cf->List Kf->Env->Qd->QB->Prop
 |.code c,k,env,H,Q=>TC P h0 N c env H (kq P h0 N k Q)
 |.ops all l,k,env,H,Q=>WO P h0 N all l env H (kq P h0 N k Q)
 |.out x,k,env,H,Q=>kq P h0 N k Q x env H
def QjI(T:TyX)(h0 N:Nat):Cf->List Kf->Env->Qd->Option (Cf×List Kf×Env×Qd)
 |.code (.seq a b),k,env,H=>some (.code a,.seq b::k,env,H)
 |.code (.block id c),k,env,H=>some (.code c,.blo id::k,env,H)
 |.code (.loop c),k,env,H=>some (.code c,.unr c::k,env,H)
 |.code .skip,k,env,H=>some (.out .normal,k,env,H)
 |.code .ret,k,env,H=>some (.out .ret,k,env,H)
 |.code (.exit id),k,env,H=>some (.out (.exit id),k,env,H)
 |.code (.region id ⟨l⟩ false),k,env,H=>some (.ops ⟨l⟩ l,k,env,H)
 |.code (.cond x a b),k,env,H=>match opB env x with
  |.mk (.bool true)=>some (.code a,k,env,H)
  |.mk (.bool false)=>some (.code b,k,env,H)
  |_=>none
 |.ops all [],k,env,H=>some (.out .normal,k,env,H)
 |.ops all (o::l),k,env,H=>match stX T h0 N all o env H with
  |some (env',H')=>some (.ops all l,k,env',H')
  |none=>none
 |.out .normal,.seq c::k,env,H=>some (.code c,k,env,H)
 |.out (.exit i),.seq _::k,env,H=>some (.out (.exit i),k,env,H)
 |.out .ret,.seq _::k,env,H=>some (.out .ret,k,env,H)
 |.out .normal,.blo _::k,env,H=>some (.out .normal,k,env,H)
 |.out (.exit i),.blo id::k,env,H=>match Nat.beq i id with
  |true=>some (.out .normal,k,env,H)
  |false=>some (.out (.exit i),k,env,H)
 |.out .ret,.blo _::k,env,H=>some (.out .ret,k,env,H)
 |.out .normal,.unr c::k,env,H=>some (.code c,.unr c::k,env,H)
 |.out (.exit i),.unr _::k,env,H=>some (.out (.exit i),k,env,H)
 |.out .ret,.unr _::k,env,H=>some (.out .ret,k,env,H)
 |_,_,_,_=>none
def Qcn(T:TyX)(h0 N:Nat):Nat->Cf->List Kf->Env->Qd->Option (Cf×List Kf×Env×Qd)
 |0,c,k,env,H=>some (c,k,env,H)
 |n+1,c,k,env,H=>match QjI T h0 N c k env H with
  |some (c',k',env',H')=>Qcn T h0 N n c' k' env' H'
  |none=>none
section
variable {P:Program} {T:TyX} {h0 N:Nat} {Q:QB}
theorem QjH(f:QbJ P T){c d:Cf}{k e:List Kf}{env a:Env}{H H':Qd}(h:QjI T h0 N c k env H=some (d,e,a,H'))(g:Hd P h0 N d e a H' Q):Hd P h0 N c k env H Q:=by
 unfold QjI at h;split at h
 .cases h;exact TC.seq g
 .cases h;exact TC.block g
 .cases h;exact Qjd g
 .cases h;exact TC.skip g
 .cases h;exact TC.ret g
 .cases h;exact TC.exit g
 .cases h;exact TC.region g
 .split at h
  .rename_i q;cases h;exact QkU (QN q) rfl g
  .rename_i q;cases h;exact QkV (QN q) rfl g
  .cases h
 .cases h;exact WO.nil g
 .grind[Qmf]
 .cases h;exact seqN g
 .cases h;exact seqX g
 .cases h;exact seqR g
 .cases h;exact bloN g
 .split at h
  .rename_i q;cases h;have:=XP q;subst this;exact bloE g
  .rename_i q;cases h;exact bloX q g
 .cases h;exact bloR g
 .cases h;exact unrN g
 .cases h;exact unrX g
 .cases h;exact unrR g
 .cases h
theorem Qcm(hT:QbJ P T):∀(n:Nat) {c c':Cf} {k k':List Kf} {env env':Env} {H H':Qd},Qcn T h0 N n c k env H=some (c',k',env',H')->Hd P h0 N c' k' env' H' Q->Hd P h0 N c k env H Q
 |0,c,c',k,k',env,env',H,H',h,g=>by cases h;exact g
 |n+1,c,c',k,k',env,env',H,H',h,g=>by
  unfold Qcn at h;split at h
  .rename_i e;exact QjH hT e (Qcm hT n h g)
  .cases h
theorem QhW{env:Env}{s:Nat}{a:A}(h:lk env s=a):∀t,lk (up env s a) t=lk env t:=by
 intro t;simp[lk];cases q:Nat.beq t s with
 |true=>simp_all
 |false=>rfl
theorem Is{α:Type}{all:Array Oper}{l:List Oper}{env:Env}{H:Qd}{b:Bool}{x y:Option α}{r:α}(s:Nat)(h:(bif b then x else y)=some r)(d:lkB env s=.mk (.bool b))
  (t:b=true->x=some r->WO P h0 N all l (up env s (.bool true)) H Q)(e:b=false->y=some r->WO P h0 N all l (up env s (.bool false)) H Q):WO P h0 N all l env H Q:=by
 have a:=Qhn d;cases b with
 |true=>exact WO.le (Le.env λt=>.inr (QhW a t)) (t rfl h)
 |false=>exact WO.le (Le.env λt=>.inr (QhW a t)) (e rfl h)
end
def dstN(o:Oper)(i:Nat):Nat:=match o.dst with|some d=>d|none=>1000000+i
def Qa5:Nat->Nat->List Oper->List Nat
 |0,_,_=>[]
 |_+1,_,[]=>[]
 |m+1,i,o::l=>dstN o i::Qa5 m (i+1) l
def Ya(af:List Nat):Nat->List Nat->List A->Env->Env
 |j,d::ds,x::xs,e=>(d,bif Qc0 af j then x else .any)::Ya af (j+1) ds xs e
 |j,d::ds,[],e=>(d,.any)::Ya af (j+1) ds [] e
 |_,[],_,e=>e
theorem QeN{l:List Nat}{t:Nat}:Qc0 l t=l.contains t:=by
 induction l with
 |nil=>rfl
 |cons a r d=>
  grind[Qc0,Nat.eq_of_beq_eq_true,Nat.beq_refl]
theorem Qig{af:List Nat}{env0:Env}{s:Nat}:∀(a:List Nat) (xs f:List A) (b:Nat),
  (∃(j:Nat) (x:A),af.contains (b+j)=true/\a[j]?=some s/\(xs++f)[j]?=some x/\lk (Ya af b a xs env0) s=x)\/lk (Ya af b a xs env0) s=.any\/(a.contains s=false/\lk (Ya af b a xs env0) s=lk env0 s):=by
 intro a
 induction a with
 |nil=>intro xs f b;right;right;exact⟨rfl,by rfl⟩
 |cons d a l=>
  intro xs f b;have next:∀(e:List A),(∃(j:Nat) (x:A),af.contains (b+1+j)=true/\a[j]?=some s/\(e++f)[j]?=some x/\lk (Ya af (b+1) a e env0) s=x)->∀m,(∃(j:Nat) (x:A),af.contains (b+j)=true/\(d::a)[j]?=some s/\(m::e++f)[j]?=some x/\lk (Ya af (b+1) a e env0) s=x):=by
   rintro e ⟨j,x,i,k,n,p⟩ m;exact⟨j+1,x,by grind,by grind,by grind,p⟩
  cases xs with
  |nil=>
   cases q:Nat.beq s d with
   |true=>simp_all[Ya,lk]
   |false=>
    have g:s≠d:=λz=>by simp_all
    simp only[Ya,lk,q,Vn];rcases l [] [] (b+1)with⟨j,x,i,k,n,p⟩|h|⟨i,k⟩
    .simp at n
    .grind
    grind
  |cons x xs=>
   cases q:Nat.beq s d with
   |true=>
    have:=XP q;subst this;simp only[Ya,lk,q,Vm];cases c:Qc0 af b with
    |true=>left;exact⟨0,x,by rw[<- QeN];exact c,rfl,rfl,rfl⟩
    |false=>simp
   |false=>
    have g:s≠d:=λz=>by simp_all
    simp only[Ya,lk,q,Vn];rcases l xs f (b+1)with h|h|⟨i,k⟩
    .exact .inl (next xs h x)
    .grind
    grind
section
variable {P:Program} {T:TyX} {h0 N m:Nat} {l:List Oper} {ds:List Nat} {env:Env} {H:Qd} {Q:QB} {K:List Oper->Env->Qd->Prop}
def DS(P:Program)(N m:Nat)(l:List Oper)(ds:List Nat)(env:Env)(H:Qd)(K:List Oper->Env->Qd->Prop)(r:List Oper)(xs:List A):Prop:=
 r=l.drop xs.length->∃ys,xs.length+ys.length=m/\(∀j,xs.length<=j->j<m->Jj P N l ds (xs++ys) env H.length H.length j H H)/\K (l.drop m) (Qan ds (xs++ys) env) H
theorem oqOf{xs:List A}:∀(c i:Nat),(∀j,i<=j->j<i+c->Jj P N l ds xs env H.length H.length j H H)->Oq P N l ds xs env H i c
 |0,i,_=>.n
 |c+1,i,h=>.c (by grind) (oqOf c (i+1) (by grind))
theorem Qlb{id:Nat}{k:List Kf}(m:Nat)(i:P.follows .mixedOrders=true)(f:Go.Sw.draw0 l m N (Qa5 m 0 l)=true)(a:Nat.ble h0 H.length=true)
  (h:DS P N m l (Qa5 m 0 l) env H (λr e H=>WO P h0 N l.toArray r e H Q) l []):TC P h0 N (.region id l.toArray true) env H Q:=by
 obtain⟨d,j,n,g⟩:=h rfl;exact TC.draw0 m _ d i f (by simp_all) a (oqOf m 0 (by grind)) g
theorem DS.done{xs:List A}{r:List Oper}(a:Nat.beq xs.length m=true)(h:K r (Qan ds xs env) H):DS P N m l ds env H K r xs:=by
 intro d;have e:=XP a;refine⟨[],by simpa using e,λj g f=>by omega,?_⟩
 grind
theorem DS.add{xs:List A}{o:Oper}{r:List Oper}{x:A}(e:Nat.blt xs.length m=true)(h:∀ys,l[xs.length]?=some o->Jj P N l ds (xs++x::ys) env H.length H.length xs.length H H)(k:DS P N m l ds env H K r (xs++[x])):DS P N m l ds env H K (o::r) xs:=by
 intro d;have a:xs.length<l.length:=by
  grind[List.drop_eq_nil_of_le]
 rw[Xp a]at d;cases d;obtain⟨ys,f,g,i⟩:=k (by simp)
 grind
theorem Qgz{xs a:List A}{x:A}:(xs++x::a)[xs.length]?=some x:=by simp
theorem DS.wo{xs:List A}{o:Oper}{r:List Oper}{x:A}{d:Nat}(h:WO P H.length N l.toArray [o] (Ya (Qh o) 0 ds xs env) H (YK (up (Ya (Qh o) 0 ds xs env) d x) H))(k:DS P N m l ds env H K r (xs++[x]))
  (e:o.dst=some d:=by exact rfl)(hx:Nat.blt xs.length m=true:=by exact rfl):DS P N m l ds env H K (o::r) xs:=
 .add hx (λa f=>.woE o _ d x f e Qgz (he:=by
  intro s;rcases Qig (af:=Qh o) (env0:=env) (s:=s) ds xs (x::a) 0 with⟨j,y,i,g,p,n⟩|q|q
  .grind
  .grind
  grind) (hdd:=Qdp H) (h:=h)) k
theorem DS.v{xs:List A}{o:Oper}{r:List Oper}{x:A}{d:Nat}(h:OpV P o (Ya (Qh o) 0 ds xs env) H x)(k:DS P N m l ds env H K r (xs++[x]))(hg:QE l.toArray o (Ya (Qh o) 0 ds xs env) true:=by exact rfl)
  (hd:o.dst=some d:=by exact rfl)(hN:Nat.blt d N=true:=by exact rfl)(hx:Nat.blt xs.length m=true:=by exact rfl):DS P N m l ds env H K (o::r) xs:=
 .wo (Y2 hg hd hN h (WO.nil YK.mk)) k hd hx
def QcB:List A->A->FL
 |[],x=>.mk [x]
 |a::r,x=>match QcB r x with
  |.mk r'=>.mk (a::r')
theorem Ja:∀(l:List A) (x:A),QcB l x=.mk (l++[x])
 |[],x=>rfl
 |a::r,x=>by unfold QcB;rw[Ja r];rfl
def Qgi(T:TyX)(N m:Nat)(l:List Oper)(ds:List Nat)(env:Env)(H:Qd):Nat->Nat->List Oper->List A->Option (List Oper×List A)
 |0,_,r,xs=>some (r,xs)
 |_+1,_,[],_=>none
 |n+1,i,o::r,xs=>match Nat.blt i m with
  |false=>none
  |true=>match o.dst with
   |none=>none
   |some d=>match Nat.blt d N with
    |false=>none
    |true=>match YH ⟨l⟩ o (Ya (Qh o) 0 ds xs env)with
     |none=>none
     |some false=>match QcB xs (.tup [])with
      |.mk xs'=>Qgi T N m l ds env H n (i+1) r xs'
     |some true=>match QcS T o (Ya (Qh o) 0 ds xs env) H with
      |none=>none
      |some x=>match QcB xs x with
       |.mk xs'=>Qgi T N m l ds env H n (i+1) r xs'
theorem QdV(hT:QbJ P T):∀(n i:Nat) {r r':List Oper} {xs xs':List A},i=xs.length->Qgi T N m l ds env H n i r xs=some (r',xs')->DS P N m l ds env H K r' xs'->DS P N m l ds env H K r xs
 |0,i,r,r',xs,xs',_,h,k=>by cases h;exact k
 |n+1,i,[],r',xs,xs',_,h,k=>by cases h
 |n+1,i,o::r,r',xs,xs',hi,h,k=>by
  subst hi;unfold Qgi at h;split at h
  .cases h
  .rename_i q1;split at h
   .cases h
   .rename_i d hd;split at h
    .cases h
    .rename_i q2;split at h
     .cases h
     .rename_i hw;simp[Ja]at h;exact .wo (WO.skip (QJ hw) hd q2 (WO.nil YK.mk)) (QdV hT n _ (by simp) h k) hd q1
     .rename_i hw;split at h
      .cases h
      .rename_i x hv;simp[Ja]at h;exact .v (Qap hT hv) (QdV hT n _ (by simp) h k) (QJ hw) hd q2 q1
def Qhg:List A->Nat->A->FL
 |[],_,_=>.mk []
 |_::r,0,x=>.mk (x::r)
 |a::r,n+1,x=>match Qhg r n x with
  |.mk r'=>.mk (a::r')
theorem QaW:∀{l:List A} {n:Nat} {x:A},YF l n=some x->Qhg l n x=.mk l
 |[],n,x,h=>by cases h
 |a::r,0,x,h=>by cases h;rfl
 |a::r,n+1,x,h=>by unfold Qhg;rw[QaW (l:=r) h]
theorem DS.is{α:Type}{b:Bool}{x y:Option α}{v:α}{xs a d:List A}{r:List Oper}(j:Nat)(h:(bif b then x else y)=some v)(f:YF xs j=some (.bool b))(g:Qhg xs j (.bool true)=.mk a)(i:Qhg xs j (.bool false)=.mk d)
  (t:b=true->x=some v->DS P N m l ds env H K r a)(e:b=false->y=some v->DS P N m l ds env H K r d):DS P N m l ds env H K r xs:=by
 cases b with
 |true=>simp_all[QaW]
 |false=>simp_all[QaW]
end
@[reducible] def RQ{β:Type}(w:β->A)(Hc:β->Qd)(r:β):A->Qd->Prop:=λa H=>a=w r/\H=Hc r
@[reducible] def Csm{β:Type}(P:Program)(f:FuncId)(args:List A)(H:Qd)(w:β->A)(r:β):Prop:=C P f args H (RQ w (λ_=>H) r)
structure TyZ where
 sl:List (Nat×Nat×Nat)
 fn:List Nat
structure Qb2 (P:Program) (Z:TyZ):Prop where
 sl:∀e∈Z.sl,(∀w,(underlying e.1).run P w=.ok (.slice e.2.1) w)/\ ∀w,(sizeOf e.2.1).run P w=.ok e.2.2 w
 fn:∀f∈Z.fn,∀(a:Array Value) (w:World),(callFunc f a).run P w=.ok (.enter f a) w
section
variable {P:Program} {Z:TyZ} {h0 N:Nat} {all:Array Oper} {o:Oper} {l:List Oper} {env:Env} {H:Qd} {Q:QB} {d:Nat}
theorem Izz(m:Qb2 P Z){α:Type}{e:α->List A}{t a k:Nat}{L:List α}{r:IntKind}{i:Int}{v:α}(h:idx L i=some v)(q:ixB o env=some (d,t,k,L.map e,r,i))(g:WO P h0 N all l (up env d (.rp (e v))) H Q)
  (n:Qbu Z.sl t=some (a,k))(hg:YH all o env=some true)(p:Nat.blt d N=true):WO P h0 N all (o::l) env H Q:=by
 obtain⟨f,j⟩:=m.sl _ (Qaq n);exact Ix h f j q g (QJ hg) p
theorem Ize(j:Qb2 P Z){α:Type}{e:α->List A}{t f k:Nat}{L:List α}{p:IntKind}{i:Int}{v:α}{a:List A}(h:idx L i=some v)(he:e v=a)(q:ixB o env=some (d,t,k,L.map e,p,i))(g:WO P h0 N all l (up env d (.rp a)) H Q)
  (m:Qbu Z.sl t=some (f,k))(hg:YH all o env=some true)(n:Nat.blt d N=true):WO P h0 N all (o::l) env H Q:=by
 subst he;exact Izz j h q g m hg n
theorem Lmz(i:Qb2 P Z){α:Type}{e:α->List A}{t a k h:Nat}{L:List α}(q:lnB o env=some (d,t,.mk (.rsl k (L.map e))))(g:WO P h0 N all l (up env d (.int .i64 L.length)) H Q)
  (j:Qbu Z.sl t=some (a,h))(hg:YH all o env=some true)(m:Nat.blt d N=true):WO P h0 N all (o::l) env H Q:=by
 obtain⟨f,n⟩:=i.sl _ (Qaq j);exact LnM f q g (QJ hg) m
def QeP(Z:TyZ)(o:Oper)(env:Env):Option (Nat×Nat×List A):=
 match o.dst with
 |none=>none
 |some d=>match o.op with
  |.call {callee:=.value (.func f),args:=⟨xs⟩,argTypes:=_}=>bif Qc0 Z.fn f then(match fl (Qgr env xs)with|.mk ax=>some (d,f,ax))else none
  |.call {callee:=.value (.tmp x),args:=⟨xs⟩,argTypes:=_}=>match opB env (.tmp x)with
   |.mk (.fn (.func f) vf vc)=>bif Qc0 Z.fn f then(match fl (vf++(Qgr env xs++vc))with|.mk ax=>some (d,f,ax))else none
   |_=>none
  |_=>none
theorem QdH(g:Qb2 P Z){f:Nat}{args:List A}(h:QeP Z o env=some (d,f,args)):o.dst=some d/\OpC P o env H f args:=by
 unfold QeP at h;split at h
 .cases h
 .rename_i p i;split at h
  .rename_i e j l a;cases q:Qc0 Z.fn e with
   |false=>grind
   |true=>
    rw[q]at h;simp only[QbZ]at h;cases h;exact⟨i,OpC.fn (g.fn _ (QfD q)) a rfl (Qct j).symm⟩
  .rename_i x j l a;split at h
   .rename_i e m n k;cases q:Qc0 Z.fn e with
    |false=>grind
    |true=>
     rw[q]at h;simp only[QbZ]at h;cases h;exact⟨i,QfY (g.fn _ (QfD q)) a rfl (QN k) (by rw[Qct])⟩
   .cases h
  .cases h
theorem Czz(i:Qb2 P Z){β γ:Type}{F:Option β}{F':β->Option γ}{r:γ}{f:Nat}{args a:List A}{Hc:Qd}{w:β->A}(π:List Nat)(h:F.bind F'=some r)(t:∀v,F=some v->C P f a Hc (RQ w (λ_=>Hc) v))
  (e:QeP Z o env=some (d,f,args))(g:∀v,F=some v->F' v=some r->WO P h0 N all l (up env d (w v)) H Q)(s:∀v,QiA (w v)=some (.mk (w v)))
  (hargs:args=Qag (rho π H.length) a)(u:π.map (λp=>H[p]?)=(Hc.map (QU (rho π H.length))).map some)(hπ:π.Nodup)(hg:YH all o env=some true)(m:Nat.blt d N=true)(k:Nat.ble h0 H.length=true):WO P h0 N all (o::l) env H Q:=by
 obtain⟨v,n,q⟩:=Y0 h;obtain⟨x,j⟩:=QdH (H:=H) i e
 grind[Pc,QJ]
theorem DzZ(s:Qb2 P Z){K:List Oper->Env->Qd->Prop}{m:Nat}{j:List Oper}{e:List Nat}{xs:List A}{β γ:Type}{F:Option β}{F':β->Option γ}{r:γ}{f:Nat}{args a:List A}{Hc:Qd}{w:β->A}(π:List Nat)(h:F.bind F'=some r)(z:∀v,F=some v->C P f a Hc (RQ w (λ_=>Hc) v))
  (i:QeP Z o (Ya (Qh o) 0 e xs env)=some (d,f,args))(g:∀v,F=some v->F' v=some r->DS P N m j e env H K l (xs++[w v]))(y:∀v,QiA (w v)=some (.mk (w v)))
  (hargs:args=Qag (rho π H.length) a)(B:π.map (λp=>H[p]?)=(Hc.map (QU (rho π H.length))).map some)(hπ:π.Nodup)(hg:YH j.toArray o (Ya (Qh o) 0 e xs env)=some true)(u:Nat.blt d N=true)(t:Nat.blt xs.length m=true):DS P N m j e env H K (o::l) xs:=by
 obtain⟨v,k,x⟩:=Y0 h;obtain⟨n,q⟩:=QdH s i;exact .wo (Pc π n q (z v k) (y v) (WO.nil YK.mk) hargs B hπ (QJ hg) u (by simp)) (g v k x) n t
theorem ln:Qa9 H [] []:=trivial
theorem ls{ax d:List A}{a:A}(k:Qa9 H ax d)(h:Ym a=true:=by exact rfl):Qa9 H (a::ax) (a::d):=⟨.inl ⟨rfl,h⟩,k⟩
theorem lo{ax a:List A}{i n k t:Nat}{es:List (List A)}(d:Qa9 H ax a)(e:H[i]?=some (.row t k es):=by exact rfl)(hn:es.length=n:=by exact X0 ..):Qa9 H (.osl i 0 n k::ax) (.rsl k es::a):=
 ⟨.inr (by grind),d⟩
theorem Cbz(k:Qb2 P Z){β γ:Type}{F:Option β}{F':β->Option γ}{r:γ}{f:Nat}{args a:List A}{w:β->A}(h:F.bind F'=some r)(p:∀v,F=some v->C P f a [] (RQ w (λ_=>[]) v))
  (e:QeP Z o env=some (d,f,args))(j:Qa9 H args a)(g:∀v,F=some v->F' v=some r->WO P h0 N all l (up env d (w v)) H Q)(t:∀v,Q3 (w v)=true)
  (hg:YH all o env=some true)(m:Nat.blt d N=true):WO P h0 N all (o::l) env H Q:=by
 obtain⟨v,n,s⟩:=Y0 h;obtain⟨q,i⟩:=QdH k e;refine QcC i j (p v n) ?_ ?_ (QJ hg) q m
 .grind
 grind
end
def ixL:List Nat:=[0,1,2,3,4,5,6,7,8,9,10,11,12,13,14,15,16,17,18,19,20,21,22,23,24,25,26,27,28,29,30,31,32,33,34,35,36,37,38,39,40,41,42,43,44,45,46,47,48,49,50,51,52,53,54,55,56,57,58,59,60,61,62,63]
def Qhj:List Nat->List Nat->Nat->FN
 |a::r,b::s,j=>bif Nat.beq a j then .mk b else Qhj r s j
 |_,_,j=>.mk j
mutual
def cpA(sel:List Nat):A->Bx
 |.ptr i off=>match Qhj sel ixL i with
  |.mk j=>.mk (.ptr j off)
 |.osl i o n k=>match Qhj sel ixL i with
  |.mk j=>.mk (.osl j o n k)
 |.map i=>match Qhj sel ixL i with
  |.mk j=>.mk (.map j)
 |.fn f a c=>match cpL sel a,cpL sel c with
  |.mk a',.mk c'=>.mk (.fn f a' c')
 |a=>.mk a
def cpL(sel:List Nat):List A->FL
 |[]=>.mk []
 |a::r=>match cpA sel a,cpL sel r with
  |.mk a',.mk r'=>.mk (a'::r')
end
inductive FV where
 |mk (e:Env)
def Qj0(sel:List Nat)(env:Env):List Nat->Env->FV
 |[],nE=>.mk nE
 |s::r,nE=>match lkB env s with
  |.mk a=>match cpA sel a,Qj0 sel env r nE with
   |.mk a',.mk e=>.mk ((s,a')::e)
def selH(H:Qd):List Nat->List Nat->List (Nat×Blk)->FB
 |a::r,p::ps,[]=>match YF H a,selH H r ps []with
  |some b,.mk l=>.mk (b::l)
  |none,.mk l=>.mk l
 |a::r,p::ps,(q,b)::n=>bif Nat.beq p q then(match selH H r ps n with|.mk l=>.mk (b::l))else(match YF H a,selH H r ps ((q,b)::n)with
  |some b,.mk l=>.mk (b::l)
  |none,.mk l=>.mk l)
 |_,_,_=>.mk []
def Qi2(sel keep:List Nat)(nE:Env)(nH:List (Nat×Blk))(env:Env)(H:Qd):Option (Env×Qd):=
 match Qj0 sel env keep nE,selH H sel ixL nH with
 |.mk e,.mk h=>some (e,h)
section
variable {P:Program} {h0 N:Nat} {c:Code} {env:Env} {H:Qd} {Q:QB}
def QhT{β:Type}(h0:Nat)(b:β)(E':β->Env)(H':β->Qd)(Q:QB):QB
 |.normal,env,H=>Le h0 env H (E' b) (H' b)
 |.exit id,env,H=>Q (.exit id) env H
 |.ret,env,H=>Q .ret env H
theorem QbE{h0:Nat}{env:Env}{H:Qd}{Q:QB}{β:Type}{b:β}{E':β->Env}{H':β->Qd}(h:Le h0 env H (E' b) (H' b)):QhT h0 b E' H' Q .normal env H:=h
theorem Ct{β:Type}{E':β->Env}{H':β->Qd}(b:β)(sel keep:List Nat)(nE:β->Env)(nH:β->List (Nat×Blk))(_:∀b,Qi2 sel keep (nE b) (nH b) env H=some (E' b,H' b))(h:TC P h0 N c env H (QhT h0 b E' H' Q))(k:∀env H,Le h0 env H (E' b) (H' b)->Q .normal env H):TC P h0 N c env H Q:=
 h.mono λx env' H' q=>by
  cases x with
  |normal=>exact k _ _ q
  |exit id=>exact q
  |ret=>exact q
theorem CtE{S B:Type}{b:Ctl S B}{E':S->Env}{H':S->Qd}(sel keep:List Nat)(nE:S->Env)(nH:S->List (Nat×Blk))(_:∀s,Qi2 sel keep (nE s) (nH s) env H=some (E' s,H' s))(h:TC P h0 N c env H (Qfr h0 b E' H' Q))(k:∀s env H,b=.cont s->Le h0 env H (E' s) (H' s)->Q .normal env H):TC P h0 N c env H Q:=QlY E' H' h k
theorem Lp{S B:Type}{step:S->Option (Ctl S B)}{E':S->Env}{H':S->Qd}{m:Nat}{s0:S}{b0:B}(sel keep:List Nat)(nE:S->Env)(nH:S->List (Nat×Blk))(h:iter step m s0=some b0)(_:∀s,Qi2 sel keep (nE s) (nH s) env H=some (E' s,H' s))(hI:Le h0 env H (E' s0) (H' s0))
  (body:∀s d,step s=some d->(∀b,d=.done b->b=b0)->TC P h0 N c (E' s) (H' s) (Qa8 (λs env H=>Le h0 env H (E' s) (H' s)) d Q)):TC P h0 N (.loop c) env H Q:=TC.loop E' H' h hI body
end
theorem Oj{S B:Type}{d:Ctl S B}{x b0:B}(hb:∀b,d=.done b->b=b0)(h:some (Ctl.done x)=some d):x=b0:=hb x (Oi h).symm
theorem Rt{P:Program}{a:Nat}{fn:Func}{env:Env}{H:Qd}{β:Type}{e r:β}{w:β->A}{Hc:β->Qd}(h:some e=some r)(s:Nat)(π:List Nat)(d:fn.results= #[.tmp s]:=by exact rfl)(hpre:π.take a=List.range a:=by exact rfl)
  (hH:π.map (λp=>H[p]?)=((Hc e).map (QU (rho π H.length))).map some:=by exact rfl)(hπ:π.Nodup:=by decide)(hE:QbN (rho π H.length) env [(s,w e)]:=by exact⟨rfl,trivial⟩):Jb P a fn (RQ w Hc r) .ret env H:=by
 cases h;exact R1 s d (Lr π hpre hH hπ hE)
theorem Cl{d:Nat}{env:Env}{H:Qd}{Q:QB}{β:Type}{e b:β}{E':β->Env}{H':β->Qd}(h:some e=some b)(π:List Nat)(a:π.take d=List.range d:=by exact rfl)
  (hH:π.map (λp=>H[p]?)=((H' e).map (QU (rho π H.length))).map some:=by exact rfl)(hπ:π.Nodup:=by decide)(hE:QbN (rho π H.length) env (E' e):=by(repeat' (first|exact trivial|refine⟨rfl,?_⟩))):QhT d b E' H' Q .normal env H:=by
 cases h;exact Lr π a hH hπ hE
def plC(cat:List Nat):List (List (Nat×Nat)):=cat.map λc=>match c with|0=>[(0,0)]|1=>[(0,1)]|2=>[(1,1)]|_=>[(0,0),(1,1)]
def rqC(b:Nat)(cat:List Nat):List (List Nat):=cat.map λc=>match c with|2=>[b]|_=>[]
def hsC(cat:List Nat):List Bool:=cat.map λc=>match c with|1=>true|_=>false
section
variable {P:Program} {T:TyX} {h0 N m b:Nat} {cat:List Nat} {l:List Oper} {ds:List Nat} {env:Env} {H H1:Qd} {Q:QB} {K:List Oper->Env->Qd->Prop}
theorem QfZ{P:Program}{N:Nat}{l:List Oper}{ds:List Nat}{xs:List A}{env0:Env}{hB hE:Nat}:∀(ss:List (List (Qd×Qd))) (b:Nat),(∀i s,ss[i]?=some s->∀p∈s,Jj P N l ds xs env0 hB hE (b+i) p.1 p.2)->Qf0 P N l ds xs env0 hB hE b ss
 |[],b,h=>.nil
 |s::ss,b,h=>.cons (h 0 s rfl) (QfZ ss (b+1) λi s' hs=>by rw[show b+1+i=b+(i+1)by omega];simp_all)
def Dob(P:Program)(N:Nat)(cat:List Nat)(l:List Oper)(ds:List Nat)(env:Env)(H H1:Qd)(zs:List A)(j:Nat):Prop:=
 ∀p∈(plC cat).getD j [],Jj P N l ds zs env H.length H.length j ([H,H1].getD p.1 []) ([H,H1].getD p.2 [])
def DB(P:Program)(N m:Nat)(cat:List Nat)(l:List Oper)(ds:List Nat)(env:Env)(H H1:Qd)(K:List Oper->Env->Qd->Prop)(r:List Oper)(xs:List A):Prop:=
 r=l.drop xs.length->∃ys,xs.length+ys.length=m/\(∀j,xs.length<=j->j<m->Dob P N cat l ds env H H1 (xs++ys) j)/\K (l.drop m) (Qan ds (xs++ys) env) H1
def DA(P:Program)(N m:Nat)(cat:List Nat)(l:List Oper)(ds:List Nat)(env:Env)(H:Qd)(K:List Oper->Env->Qd->Prop)(r:List Oper)(xs:List A):Prop:=
 r=l.drop xs.length->∃ys H1,xs.length+ys.length=m/\H.length<=H1.length/\(∀j,xs.length<=j->j<m->Dob P N cat l ds env H H1 (xs++ys) j)/\K (l.drop m) (Qan ds (xs++ys) env) H1
theorem Qm3{d:List A}(f:cat.length=m)(g:∀j,0<=j->j<m->Dob P N cat l ds env H H1 d j):Qf0 P N l ds d env H.length (H.length+0) 0 ((plC cat).map λq=>q.map λp=>([H,H1].getD p.1 [],[H,H1].getD p.2 [])):=by
 refine QfZ _ 0 λi s a p k=>?_;rw[Xo]at a;cases e:(plC cat)[i]? with
 |none=>grind
 |some q=>
  rw[e]at a;cases a;obtain⟨n,h,rfl⟩:=Xe.1 k;have r:i<m:=by
   grind[plC]
  have:=g i (XT _) r n (by grind)
  grind
theorem DA.len(a:H.length<=H1.length):[H,H1].all (λX=>Nat.ble (H.length+0) X.length)=true:=by
 simp_all
theorem Qld{id:Nat}(m b:Nat)(cat:List Nat)(j:P.follows .mixedOrders=true)(n:Qdo l m N (Qa5 m 0 l) (hsC cat) (rqC b cat) [[],[b]] (plC cat)=true)(f:Nat.beq cat.length m=true)(d:Nat.ble h0 H.length=true)
  (h:DA P N m cat l (Qa5 m 0 l) env H (λr e H=>WO P h0 N l.toArray r e H Q) l []):TC P h0 N (.region id l.toArray true) env H Q:=by
 obtain⟨i,H1,q,k,g,p⟩:=h rfl;have a:=XP f;exact Yk m 0 _ _ _ _ _ i [H,H1] H1 j n (by grind) rfl d (DA.len k) (by simp) rfl (Qm3 a g) (by simp[plC,a]) p
theorem Qa6{xs:List A}{o:Oper}{r:List Oper}(d:o::r=l.drop xs.length):l[xs.length]?=some o/\r=l.drop (xs.length+1):=by
 have a:xs.length<l.length:=by
  grind[List.drop_eq_nil_of_le]
 rw[Xp a]at d
 grind
theorem Qf2{zs:List A}{j c:Nat}(a:YF cat j=some c)(h:∀p∈match c with|0=>[(0,0)]|1=>[(0,1)]|2=>[(1,1)]|_=>[(0,0),(1,1)],Jj P N l ds zs env H.length H.length j ([H,H1].getD p.1 []) ([H,H1].getD p.2 [])):Dob P N cat l ds env H H1 zs j:=by
 intro p d
 grind[Qaw,plC]
theorem Qat{hB hE:Nat}{xs a:List A}{o:Oper}{x:A}{d:Nat}{X X':Qd}(f:l[xs.length]?=some o)(hdd:Qam hB hE X X'=true)(h:WO P X.length N l.toArray [o] (Ya (Qh o) 0 ds xs env) X (YK (up (Ya (Qh o) 0 ds xs env) d x) X'))(e:o.dst=some d):
  Jj P N l ds (xs++x::a) env hB hE xs.length X X':=
 .woE o _ d x f e Qgz (he:=by
  intro s;rcases Qig (af:=Qh o) (env0:=env) (s:=s) ds xs (x::a) 0 with⟨j,y,m,g,i,k⟩|q|q
  .grind
  .grind
  grind) (hdd:=hdd) (h:=h)
theorem YX{n:Nat}{X X':Qd}:Qam n n X X'=true:=by unfold Qam;simp
theorem DA.wo{xs:List A}{o:Oper}{r:List Oper}{x:A}{d:Nat}(h:WO P H.length N l.toArray [o] (Ya (Qh o) 0 ds xs env) H (YK (up (Ya (Qh o) 0 ds xs env) d x) H))(k:DA P N m cat l ds env H K r (xs++[x]))
  (t:YF cat xs.length=some 0:=by exact rfl)(hd:o.dst=some d:=by exact rfl)(hx:Nat.blt xs.length m=true:=by exact rfl):DA P N m cat l ds env H K (o::r) xs:=by
 intro g;obtain⟨w,i⟩:=Qa6 g;obtain⟨e,H1,n,s,u,a⟩:=k (by grind);simp[Vg,Vf]at n u a;refine⟨x::e,H1,by grind,s,λj z y=>?_,a⟩;rcases Vy xs.length j with q|q
 .grind
 .obtain rfl:j=xs.length:=by omega
  refine Qf2 t λp f=>?_;obtain rfl:=Vx.1 f;exact Qat w YX h hd
theorem DA.op{xs:List A}{o:Oper}{r:List Oper}{x:A}{d:Nat}(h:WO P H.length N l.toArray [o] (Ya (Qh o) 0 ds xs env) H (YK (up (Ya (Qh o) 0 ds xs env) d x) H1))(k:DB P N m cat l ds env H H1 K r (xs++[x]))(w:Nat.ble H.length H1.length=true:=by exact rfl)
  (hc:YF cat xs.length=some 1:=by exact rfl)(hd:o.dst=some d:=by exact rfl)(hx:Nat.blt xs.length m=true:=by exact rfl):DA P N m cat l ds env H K (o::r) xs:=by
 intro g;obtain⟨t,i⟩:=Qa6 g;obtain⟨e,n,s,a⟩:=k (by grind);simp[Vg,Vf]at n s a;refine⟨x::e,H1,by grind,(by simp_all),λj y u=>?_,a⟩;rcases Vy xs.length j with q|q
 .grind
 .obtain rfl:j=xs.length:=by omega
  refine Qf2 hc λp f=>?_;obtain rfl:=Vx.1 f;exact Qat t YX h hd
theorem DB.done{xs:List A}{r:List Oper}(a:Nat.beq xs.length m=true)(h:K r (Qan ds xs env) H1):DB P N m cat l ds env H H1 K r xs:=by
 intro d;have e:=XP a;refine⟨[],by simpa using e,λj g f=>by omega,?_⟩
 grind
theorem DB.add{xs:List A}{o:Oper}{r:List Oper}{x:A}(f:∀ys,l[xs.length]?=some o->Dob P N cat l ds env H H1 (xs++x::ys) xs.length)(k:DB P N m cat l ds env H H1 K r (xs++[x])):DB P N m cat l ds env H H1 K (o::r) xs:=by
 intro a;obtain⟨h,d⟩:=Qa6 a;obtain⟨ys,e,g,i⟩:=k (by grind)
 grind
theorem DB.wo1{xs:List A}{o:Oper}{r:List Oper}{x:A}{d:Nat}(h:WO P H1.length N l.toArray [o] (Ya (Qh o) 0 ds xs env) H1 (YK (up (Ya (Qh o) 0 ds xs env) d x) H1))(k:DB P N m cat l ds env H H1 K r (xs++[x]))
  (a:YF cat xs.length=some 2:=by exact rfl)(hd:o.dst=some d:=by exact rfl):DB P N m cat l ds env H H1 K (o::r) xs:=
 .add (λg e=>Qf2 a λp f=>by
  obtain rfl:=Vx.1 f;exact Qat e YX h hd) k
theorem DB.wo2{xs:List A}{o:Oper}{r:List Oper}{x:A}{d:Nat}(h:WO P H.length N l.toArray [o] (Ya (Qh o) 0 ds xs env) H (YK (up (Ya (Qh o) 0 ds xs env) d x) H))(f:WO P H1.length N l.toArray [o] (Ya (Qh o) 0 ds xs env) H1 (YK (up (Ya (Qh o) 0 ds xs env) d x) H1))(k:DB P N m cat l ds env H H1 K r (xs++[x]))
  (g:YF cat xs.length=some 3:=by exact rfl)(hd:o.dst=some d:=by exact rfl):DB P N m cat l ds env H H1 K (o::r) xs:=
 .add (λi e=>Qf2 g λp a=>by
  rcases X5.1 a with rfl|a
  .exact Qat e YX h hd
  .obtain rfl:=Vx.1 a;exact Qat e YX f hd) k
def Qgj(T:TyX)(N m:Nat)(cat:List Nat)(l:List Oper)(ds:List Nat)(env:Env)(H:Qd):Nat->Nat->List Oper->List A->Option (List Oper×List A)
 |0,_,r,xs=>some (r,xs)
 |_+1,_,[],_=>none
 |n+1,i,o::r,xs=>match Nat.blt i m,YF cat i with
  |true,some 0=>match o.dst with
   |none=>none
   |some d=>match Nat.blt d N with
    |false=>none
    |true=>match YH ⟨l⟩ o (Ya (Qh o) 0 ds xs env)with
     |none=>none
     |some false=>match QcB xs (.tup [])with
      |.mk xs'=>Qgj T N m cat l ds env H n (i+1) r xs'
     |some true=>match QcS T o (Ya (Qh o) 0 ds xs env) H with
      |none=>none
      |some x=>match QcB xs x with
       |.mk xs'=>Qgj T N m cat l ds env H n (i+1) r xs'
  |_,_=>none
theorem QdY(hT:QbJ P T):∀(n i:Nat) {r r':List Oper} {xs xs':List A},i=xs.length->Qgj T N m cat l ds env H n i r xs=some (r',xs')->DA P N m cat l ds env H K r' xs'->DA P N m cat l ds env H K r xs
 |0,i,r,r',xs,xs',_,h,k=>by cases h;exact k
 |n+1,i,[],r',xs,xs',_,h,k=>by cases h
 |n+1,i,o::r,r',xs,xs',hi,h,k=>by
  subst hi;unfold Qgj at h;split at h
  .rename_i q1 q0;split at h
   .cases h
   .rename_i d hd;split at h
    .cases h
    .rename_i q2;split at h
     .cases h
     .rename_i hw;simp[Ja]at h;exact .wo (WO.skip (QJ hw) hd q2 (WO.nil YK.mk)) (QdY hT n _ (by simp) h k) q0 hd q1
     .rename_i hw;split at h
      .cases h
      .rename_i x hv;simp[Ja]at h;exact .wo (Y2 (QJ hw) hd q2 (Qap hT hv) (WO.nil YK.mk)) (QdY hT n _ (by simp) h k) q0 hd q1
  .cases h
theorem Qlq{H:Qd}{p:Bx}{r:Lx}(h:ptX [] p=some r):ptX H p=some r:=by
 unfold ptX at h⊢
 grind[YF]
theorem QdN{o:Oper}{e:Env}{H:Qd}{x:A}(h:QcS T o e []=some x):QcS T o e H=some x:=by
 unfold QcS at h⊢;split at h<;>first|exact h|skip
 split at h
 .cases h
 grind[Qlq]
def QdX(T:TyX)(N:Nat)(cat:List Nat)(l:List Oper)(ds:List Nat)(env:Env)(H1:Qd):Nat->Nat->List Oper->List A->Option (List Oper×List A)
 |0,_,r,xs=>some (r,xs)
 |_+1,_,[],_=>none
 |n+1,i,o::r,xs=>match o.dst with
  |none=>none
  |some d=>match Nat.blt d N with
   |false=>none
   |true=>match YH ⟨l⟩ o (Ya (Qh o) 0 ds xs env)with
    |none=>none
    |some false=>match YF cat i with
     |some 2=>(match QcB xs (.tup [])with
      |.mk xs'=>QdX T N cat l ds env H1 n (i+1) r xs')
     |some 3=>(match QcB xs (.tup [])with
      |.mk xs'=>QdX T N cat l ds env H1 n (i+1) r xs')
     |_=>none
    |some true=>match YF cat i with
     |some 2=>(match QcS T o (Ya (Qh o) 0 ds xs env) H1 with
      |none=>none
      |some x=>match QcB xs x with
       |.mk xs'=>QdX T N cat l ds env H1 n (i+1) r xs')
     |some 3=>(match QcS T o (Ya (Qh o) 0 ds xs env) []with
      |none=>none
      |some x=>match QcB xs x with
       |.mk xs'=>QdX T N cat l ds env H1 n (i+1) r xs')
     |_=>none
theorem Qby(hT:QbJ P T):∀(n i:Nat) {r r':List Oper} {xs xs':List A},i=xs.length->QdX T N cat l ds env H1 n i r xs=some (r',xs')->DB P N m cat l ds env H H1 K r' xs'->DB P N m cat l ds env H H1 K r xs
 |0,i,r,r',xs,xs',_,h,k=>by cases h;exact k
 |n+1,i,[],r',xs,xs',_,h,k=>by cases h
 |n+1,i,o::r,r',xs,xs',hi,h,k=>by
  subst hi;unfold QdX at h;split at h
  .cases h
  .rename_i d hd;split at h
   .cases h
   .rename_i q2;split at h
    .cases h
    .rename_i hw;split at h
     .rename_i q0;simp[Ja]at h;exact .wo1 (WO.skip (QJ hw) hd q2 (WO.nil YK.mk)) (Qby hT n _ (by simp) h k) q0 hd
     .rename_i q0;simp[Ja]at h;exact .wo2 (WO.skip (QJ hw) hd q2 (WO.nil YK.mk)) (WO.skip (QJ hw) hd q2 (WO.nil YK.mk)) (Qby hT n _ (by simp) h k) q0 hd
     .cases h
    .rename_i hw;split at h
     .rename_i q0;split at h
      .cases h
      .rename_i x hv;simp[Ja]at h;exact .wo1 (Y2 (QJ hw) hd q2 (Qap hT hv) (WO.nil YK.mk)) (Qby hT n _ (by simp) h k) q0 hd
     .rename_i q0;split at h
      .cases h
      .rename_i x hv;simp[Ja]at h;exact .wo2 (Y2 (QJ hw) hd q2 (Qap hT (QdN hv)) (WO.nil YK.mk)) (Y2 (QJ hw) hd q2 (Qap hT (QdN hv)) (WO.nil YK.mk)) (Qby hT n _ (by simp) h k) q0 hd
     .cases h
end
def chkF(L:List (Nat×List (Nat×Nat)))(fs:List (Nat×Nat×Nat)):Bool:=
 fs.all λe=>match Qbu L e.1 with
  |some pl=>(match YF pl e.2.1 with
   |some q=>Nat.beq q.1 e.2.2&& !(Nat.beq q.2 0)
   |none=>false)
  |none=>false
theorem PL.get{P:Program}{fs:List Field}{d:List (Nat×Nat)}(h:PL P fs d):∀{f a n:Nat},YF d f=some (a,n)->∃fd,fs[f]?=some fd/\fd.offset=a/\ ∀w,(sizeOf fd.type).run P w=.ok n w:=by
 induction h with
 |nil=>intro f a n h;cases h
 |cons h k g=>
  intro f a n e;cases f with
  |zero=>cases e;grind
  |succ f=>grind[YF]
theorem QmI{P:Program}{L:List (Nat×List (Nat×Nat))}{fs:List (Nat×Nat×Nat)}(f:∀e∈L,Qey P e.1 e.2)(h:chkF L fs=true):∀e∈fs,∃n,Qae P e.1 e.2.1 e.2.2 n:=by
 intro e j;have:=Xs.1 h e j;split at this
 .rename_i u a;split at this
  .rename_i q k;obtain⟨i,n⟩:=q;simp only[XV,Bool.not_eq_true']at this;have l:=XP this.1;obtain⟨g,m,p⟩:=f _ (Qaq a);obtain⟨s,t,r,d⟩:=PL.get p k;refine⟨n,⟨⟨_,s,m,by grind,r.trans l,d,?_⟩⟩⟩
   grind[Nat.beq_refl]
  .cases this
 .cases this
section
variable {P:Program} {Z:TyZ} {h0 N:Nat} {all:Array Oper} {o:Oper} {l:List Oper} {env:Env} {H:Qd} {Q:QB} {d:Nat}
theorem Cdz(j:Qb2 P Z){β γ:Type}{F:Option β}{F':β->Option γ}{r:γ}{f:Nat}{args a:List A}{Hc:Qd}{w:β->A}{Hr:β->Qd}(π:List Nat)(h:F.bind F'=some r)(q:∀v,F=some v->C P f a Hc (RQ w Hr v))
  (e:QeP Z o env=some (d,f,args))(g:∀v,F=some v->F' v=some r->WO P h0 N all l (up env d (YE (rho π H.length) (w v))) (QR H π ((Hr v).map (QU (rho π H.length)))) Q)
  (hargs:args=Qag (rho π H.length) a)(s:π.map (λp=>H[p]?)=(Hc.map (QU (rho π H.length))).map some)(hπ:π.Nodup)(hg:YH all o env=some true)(m:Nat.blt d N=true)(k:Nat.ble h0 H.length=true):WO P h0 N all (o::l) env H Q:=by
 obtain⟨v,n,u⟩:=Y0 h;obtain⟨t,i⟩:=QdH (H:=H) j e;refine Qw π i (q v n) ?_ hargs s hπ (QJ hg) t m k
 grind
end
inductive FLL where
 |mk (l:List (List A))
def cpLL(sel:List Nat):List (List A)->FLL
 |[]=>.mk []
 |a::r=>match cpL sel a,cpLL sel r with
  |.mk a',.mk r'=>.mk (a'::r')
inductive FBk where
 |mk (b:Blk)
def cpBk(sel:List Nat):Blk->FBk
 |.cells t cs=>match cpL sel cs with
  |.mk l=>.mk (.cells t l)
 |.rowr t k es=>match cpLL sel es with
  |.mk l=>.mk (.rowr t k l)
 |.wins t a n c=>match Qhj sel ixL a with
  |.mk a'=>.mk (.wins t a' n c)
 |.ents t a b es=>match Qhj sel ixL a,Qhj sel ixL b with
  |.mk a',.mk b'=>.mk (.ents t a' b' es)
 |b=>.mk b
def selD(H:Qd)(sel:List Nat):List Nat->FB
 |[]=>.mk []
 |a::r=>match YF H a with
  |some b=>(match cpBk sel b,selD H sel r with
   |.mk b',.mk l=>.mk (b'::l))
  |none=>.mk []
def retC(sel sl:List Nat)(env:Env)(H:Qd):Option (Env×Qd):=
 match Qj0 sel env sl [],selD H sel sel with
 |.mk e,.mk h=>some (e,h)
theorem Rx{P:Program}{e:Nat}{fn:Func}{env E':Env}{H H':Qd}{Qr:A->Qd->Prop}{f:A}(π sl:List Nat)(_:retC π sl env H=some (E',H'))(d:QbK P fn E' H' f)(g:Qr f H')(a:π.take e=List.range e:=by exact rfl)
  (hH:π.map (λp=>H[p]?)=(H'.map (QU (rho π H.length))).map some:=by exact rfl)(hπ:π.Nodup:=by decide)(hE:QbN (rho π H.length) env E':=by(repeat' (first|exact trivial|refine⟨rfl,?_⟩))):Jb P e fn Qr .ret env H:=
 ⟨E',H',f,Lr π a hH hπ hE,d,g⟩
def nxL{T:Type}:List T->T->List T->Prop:=λl x rem=>l=x::rem
def Qh5{S T B:Type}(step:S->Option (List T×Ctl S B)):Nat->S->Option (List T×B)
 |0,_=>none
 |n+1,s=>(step s).bind λp=>match p.2 with
  |.cont s'=>(Qh5 step n s').bind λq=>some (p.1++q.1,q.2)
  |.done b=>some (p.1,b)
section
variable {T:Type} {X:Ctx T} {P:Program} {h0 N:Nat} {c:Code} {env:Env} {H:Qd} {st:YSt T} {Q:Y7 T}
def Qk2{S B:Type}(h0:Nat)(E:S->Env)(Hp:S->Qd)(d:Ctl S B)(rest:List T)(Q:Y7 T):Y7 T
 |.normal,env,H,st=>∃s,d=.cont s/\Le h0 env H (E s) (Hp s)/\st=.on rest
 |.exit id,env,H,st=>Q (.exit id) env H st
 |.ret,env,H,st=>Q .ret env H st
theorem Qjb{S B:Type}{step:S->Option (List T×Ctl S B)}{E:S->Env}{Hp:S->Qd}{m:Nat}{s0:S}{k rem:List T}{b:B}(h:Qh5 step m s0=some (k,b))(u:Le h0 env H (E s0) (Hp s0))
  (a:∀s zs d rest,step s=some (zs,d)->(∀b',d=.done b'->b'=b/\rest=rem)->TCy X P h0 N c (E s) (Hp s) (.on (zs++rest)) (Qk2 h0 E Hp d rest Q)):TCy X P h0 N (.loop c) env H (.on (k++rem)) Q:=by
 refine Qjc (I:=λn env H r=>∃s f,Qh5 step n s=some (f,b)/\r=.on (f++rem)/\Le h0 env H (E s) (Hp s)) ?_ ⟨s0,k,h,rfl,u⟩;rintro n env H r ⟨s,f,g,rfl,j⟩;cases n with
 |zero=>cases g
 |succ n=>
  obtain⟨⟨zs,d⟩,t,g⟩:=Y0 g;refine TCy.le j ?_;cases d with
  |cont z=>
   obtain⟨⟨y,G⟩,w,g⟩:=Y0 g;cases g;rw[Vg];refine(a s zs (.cont z) (y++rem) t (λb' e=>by cases e)).mono ?_;rintro x i H' p q;cases x with
   |normal=>
    obtain⟨F,e,l,rfl⟩:=q;cases e;exact⟨n,Xn n,_,_,w,rfl,l⟩
   |exit id=>exact q
   |ret=>exact q
  |done b'=>
   cases g;refine(a s _ (.done b) rem t (λb' e=>by cases e;exact⟨rfl,rfl⟩)).mono ?_;rintro x i H' p q;cases x with
   |normal=>obtain⟨F,e,_⟩:=q;cases e
   |exit id=>exact q
   |ret=>exact q
def kqY(X:Ctx T)(P:Program)(h0 N:Nat):List Kf->Y7 T->Y7 T
 |[],Q=>Q
 |.seq c::k,Q=>SeqY X P h0 N c (kqY X P h0 N k Q)
 |.blo id::k,Q=>BloY id (kqY X P h0 N k Q)
 |.unr c::k,Q=>λ_ _ _ _=>False
theorem TCy.lf{k:List Kf}(h:TC P h0 N c env H (λx env H=>kqY X P h0 N k Q x env H st)):TCy X P h0 N c env H st (kqY X P h0 N k Q):=TCy.lift h
theorem WOy.y1{all:Array Oper}{o:Oper}{r:List Oper}{d:Nat}{x:T}{l:List T}{e:T->A}{y z:Operand}{g:Array TypeId}(hE:X.enc=λx=>[e x])(a:X.nx=nxL)(j:o.op=.call {callee:=.value y,args:= #[z],argTypes:=g})(i:opA env y=.fn (.yield X.l) [] [])(h:opA env z=e x)(f:Ym (e x)=true)
  (m:WOy X P h0 N all r (up env d (.bool true)) H (.on l) Q)(k:WOy X P h0 N all r (up env d (.bool false)) H (.off l) Q)(hg:QE all o env true:=by exact rfl)(hd:o.dst=some d:=by exact rfl)(hNd:Nat.blt d N=true:=by exact rfl):WOy X P h0 N all (o::r) env H (.on (x::l)) Q:=by
 refine WOy.yield (by rw[a];rfl) hg hd hNd ?_ ?_
 .rw[hE];exact QjB j i h f
 grind
theorem WOy.y2{all:Array Oper}{o:Oper}{r:List Oper}{d:Nat}{x:T}{l:List T}{g e:T->A}{y j k:Operand}{n:Array TypeId}(hE:X.enc=λx=>[g x,e x])(m:X.nx=nxL)(q:o.op=.call {callee:=.value y,args:= #[j,k],argTypes:=n})(p:opA env y=.fn (.yield X.l) [] [])(a:opA env j=g x)(f:opA env k=e x)(i:Ym (g x)=true)(h:Ym (e x)=true)
  (t:WOy X P h0 N all r (up env d (.bool true)) H (.on l) Q)(s:WOy X P h0 N all r (up env d (.bool false)) H (.off l) Q)(hg:QE all o env true:=by exact rfl)(hd:o.dst=some d:=by exact rfl)(hNd:Nat.blt d N=true:=by exact rfl):WOy X P h0 N all (o::r) env H (.on (x::l)) Q:=by
 refine WOy.yield (by rw[m];rfl) hg hd hNd ?_ ?_
 .rw[hE];exact Qiy q p a f i h
 grind
end
section
variable {T:Type} {X:Ctx T} {P:Program} {h0 N:Nat} {c c':Code} {env:Env} {H:Qd} {st:YSt T} {Q:Y7 T}
theorem TCy.lp{S B:Type}{step:S->Option (List T×Ctl S B)}{E':S->Env}{H':S->Qd}{m:Nat}{s0:S}{ys rem:List T}{b:B}(sel keep:List Nat)(nE:S->Env)(nH:S->List (Nat×Blk))(h:Qh5 step m s0=some (ys,b))(_:∀s,Qi2 sel keep (nE s) (nH s) env H=some (E' s,H' s))(hI:Le h0 env H (E' s0) (H' s0))
  (body:∀s zs d rest,step s=some (zs,d)->(∀b',d=.done b'->b'=b/\rest=rem)->TCy X P h0 N c (E' s) (H' s) (.on (zs++rest)) (Qk2 h0 E' H' d rest Q)):TCy X P h0 N (.loop c) env H (.on (ys++rem)) Q:=Qjb h hI body
end
open Go.MapKept
section
variable {fr ro:Nat->Prop} {σ:Sig} {H:Qd} {w:World}
end
end Go.Sw
namespace Go.Sw
open Go.MapKept
def Qbt{α β:Type}(ek:α->A)(ev:β->List A)(l:List (α×Option (List β))):List (A×Option (List (List A))):=l.map λp=>(ek p.1,p.2.map (List.map ev))
def Qh3{α β:Type}[DecidableEq α](l:List (α×Option (List β)))(x:α):List (α×Option (List β)):=l.map λp=>bif decide (p.1=x)then(p.1,none)else p
section
variable {P:Program} {kt:TypeId} {α β:Type} [DecidableEq α] {ek:α->A} {ev:β->List A} {ro:Nat->Prop} {w:World} {t k:Nat} (K:Jp P kt ek)
include K
theorem Qis{x:α}:∀{l:List (α×Option (List β))} {es:List MapEntry},MO ro w t k (Qbt ek ev l) es->MO ro w t k (Qbt ek ev (Qh3 l x)) es
 |[],es,h=>h
 |p::l,es,h=>by
  obtain⟨e,l',rfl,h1,h2,h3⟩:=h;by_cases q:p.1=x
  .refine⟨e,l',rfl,by grind,λrows hr=>?_,Qis h3⟩
   grind
  .refine⟨e,l',rfl,by grind,(by grind),Qis h3⟩
omit K
theorem Qc8{x:α}{c:Nat}:∀{l:List (α×Option (List β))} {es:List MapEntry},Qdy (Qbt ek ev (Qh3 l x)) es c->Qdy (Qbt ek ev l) es c
 |[],es,h=>by cases es<;>exact h.elim
 |p::l,[],h=>h.elim
 |p::l,e::es,h=>by
  rcases h with⟨h1,h2⟩|h
  .by_cases q:p.1=x
   .grind
   .exact .inl ⟨by grind,h2⟩
  .exact .inr (Qc8 h)
theorem Qjv{x:α}:∀{l:List (α×Option (List β))} {es:List MapEntry},QhQ (Qbt ek ev l) es->QhQ (Qbt ek ev (Qh3 l x)) es
 |[],es,h=>by cases es<;>trivial
 |p::l,[],h=>trivial
 |p::l,e::es,h=>by
  obtain⟨h1,h2⟩:=h;refine⟨λc q1 q2 q3=>?_,Qjv h2⟩;by_cases q:p.1=x
  .grind
  .exact h1 c (by grind) q2 (Qc8 q3)
include K
theorem MO.find:∀{l:List (α×Option (List β))} {es:List MapEntry},MO ro w t k (Qbt ek ev l) es->∀(x:α),(es.map (·.key)).Nodup->
  ((∀e:MapEntry,e∈es->e.key≠QK (ek x))->Y5 l x=none)/\
  (∀(j:Nat) (e:MapEntry),es[j]?=some e->e.key=QK (ek x)->∃q,Y5 l x=some q/\(∀rows,q=some rows->SO ro w t k (rows.map ev) e.val)/\
   ∀c p n cap,q.isSome=true->e.val=.slice (some ⟨c,p,none⟩) n cap->Qdy (Qbt ek ev l) es c/\(QhQ (Qbt ek ev l) es->¬Qdy (Qbt ek ev (Qh3 l x)) es c))
 |[],es,h,x,_=>by
  cases(show es=[]from h);exact⟨λ_=>rfl,(by simp)⟩
 |p::l,es,h,x,hn=>by
  obtain⟨e0,l',rfl,h1,h2,h3⟩:=h;have hk:=VR.val (K.scl _) h1;simp only[Vh,List.nodup_cons]at hn;obtain⟨a1,a2⟩:=MO.find (l:=l) h3 x hn.2;by_cases hp:p.1=x
  .subst hp;constructor
   .grind
   .intro j e he hx;cases j with
    |zero=>
     simp only[XD,Option.some.injEq]at he;subst he;refine⟨p.2,by simp[Y5],(by grind),λc p' n cap hs hv=>⟨.inl (by grind),λhd hq=>?_⟩⟩;rcases hq with⟨q1,_⟩|hq
     .simp at q1
     .exact hd.1 c (by grind) ⟨p',n,cap,hv⟩ (Qc8 (l:=l) hq)
    |succ j=>
     grind
  .have e1:Y5 (p::l) x=Y5 l x:=by simp[Y5,hp]
   rw[e1];constructor
   .grind
   .intro j e he hx;cases j with
    |zero=>
     simp only[XD,Option.some.injEq]at he;subst he;exact absurd (K.inj _ _ (hk.symm.trans hx)) hp
    |succ j=>
     obtain⟨q,i,m,f⟩:=a2 j e (by grind) hx;refine⟨q,i,m,λc p' n cap hs hv=>?_⟩;obtain⟨a,g⟩:=f c p' n cap hs hv;refine⟨.inr a,λhd hq=>?_⟩;rcases hq with⟨q1,d⟩|hq
     .exact hd.1 c (by grind) d a
     .exact g hd.2 hq
end
section
variable {P:Program} {o:Oper} {env:Env} {H:Qd}
variable {T kt et:Nat} {α β:Type} [DecidableEq α] {ek:α->A} {ev:β->List A} {x y:Operand} {i t k:Nat} {l:List (α×Option (List β))} {key:α} {rows:List β}
end
end Go.Sw
namespace Go.Sw
open Go.MapKept
theorem MO.append{ro:Nat->Prop}{w:World}{t k:Nat}:∀{l m:List (A×Option (List (List A)))} {es fs:List MapEntry},MO ro w t k l es->MO ro w t k m fs->MO ro w t k (l++m) (es++fs)
 |[],m,es,fs,h,q=>by cases(show es=[]from h);exact q
 |p::l,m,es,fs,h,q=>by
  obtain⟨e,l',rfl,h1,h2,h3⟩:=h;exact⟨e,l'++fs,rfl,h1,h2,MO.append h3 q⟩
theorem MO.length{ro:Nat->Prop}{w:World}{t k:Nat}:∀{l:List (A×Option (List (List A)))} {es:List MapEntry},MO ro w t k l es->es.length=l.length
 |[],es,h=>by cases(show es=[]from h);rfl
 |p::l,es,h=>by
  obtain⟨e,l',rfl,h1,h2,h3⟩:=h;simp[MO.length h3]
def SlB(v:Value)(c:Nat):Prop:=∃p n cap,v=.slice (some ⟨c,p,none⟩) n cap
section
variable {P:Program} {kt:TypeId} {α β:Type} [DecidableEq α] {ek:α->A} {ev:β->List A} {ro:Nat->Prop} {w:World} {t k:Nat} (K:Jp P kt ek)
def QcX{α β:Type}[DecidableEq α](l:List (α×Option (List β)))(x:α)(rows:List β):List (α×Option (List β)):=l.map λp=>bif decide (p.1=x)then(p.1,some rows)else p
include K
theorem Qe1{x:α}{rows:List β}:∀{l:List (α×Option (List β))} {es:List MapEntry},MO ro w t k (Qbt ek ev l) es->(∀e∈es,e.key≠QK (ek x))->QcX l x rows=l
 |[],es,h,q=>rfl
 |p::l,es,h,q=>by
  obtain⟨e,l',rfl,h1,h2,h3⟩:=h;have hk:=VR.val (K.scl _) h1;have hp:p.1≠x:=(by grind);have:=Qe1 h3 (λe he=>q e (by simp[he])) (rows:=rows)
  simp_all[QcX]
theorem MO.put{x:α}{rows:List β}{v:Value}(m:SO ro w t k (rows.map ev) v):∀{l:List (α×Option (List β))} {es:List MapEntry} {j:Nat} {e:MapEntry},MO ro w t k (Qbt ek ev l) es->
  (es.map (·.key)).Nodup->es[j]?=some e->e.key=QK (ek x)->
  MO ro w t k (Qbt ek ev (QcX l x rows)) (es.modify j λe=>{e with key:=QK (ek x),val:=v})/\
  (∀c,Qdy (Qbt ek ev (QcX l x rows)) (es.modify j λe=>{e with key:=QK (ek x),val:=v}) c->Qdy (Qbt ek ev l) es c\/SlB v c)/\
  (QhQ (Qbt ek ev l) es->(∀c,Qdy (Qbt ek ev l) es c->¬SlB v c)->QhQ (Qbt ek ev (QcX l x rows)) (es.modify j λe=>{e with key:=QK (ek x),val:=v}))
 |[],es,j,e,h,hn,he,hk=>by cases(show es=[]from h);simp at he
 |p::l,es,j,e,h,hn,he,hk=>by
  obtain⟨e0,l',rfl,h1,h2,h3⟩:=h;have hk0:=VR.val (K.scl _) h1;simp only[Vh,List.nodup_cons]at hn;cases j with
  |zero=>
   simp[XD,Option.some.injEq]at he;subst he;have hp:=K.inj _ _ (hk0.symm.trans hk);have e0':QcX l x rows=l:=Qe1 K h3 λe he z=>hn.1 (by rw[hk, <- z];exact VC he);have e1:QcX (p::l) x rows=(p.1,some rows)::l:=by
    have:QcX (p::l) x rows=(p.1,some rows)::QcX l x rows:=by simp[QcX,hp]
    rw[this,e0']
   rw[e1];refine⟨⟨_,l',rfl,?_,?_,h3⟩,?_,?_⟩
   .rw[<- hp];exact QcD (K.scl _)
   .intro d u;cases u;exact m
   .rintro c (⟨_,q⟩|q)
    .exact .inr q
    .exact .inl (.inr q)
   .rintro⟨n,f⟩ a;exact⟨λc _ q z=>a c (.inr z) q,f⟩
  |succ j=>
   have hp:p.1≠x:=by
    intro q;refine hn.1 (Xe.2 ⟨e,VD he,?_⟩);rw[hk,hk0,q]
   obtain⟨y,i,s⟩:=MO.put m h3 hn.2 he hk;have e1:QcX (p::l) x rows=p::QcX l x rows:=by simp[QcX,hp]
   rw[e1];refine⟨⟨_,_,rfl,h1,h2,y⟩,?_,?_⟩
   .rintro c (q|q)
    .exact .inl (.inl q)
    .exact(i c q).imp .inr id
   .rintro⟨n,f⟩ a;refine⟨λc r g z=>?_,s f λc B=>a c (.inr B)⟩;rcases i c z with z|z
    .exact n c r g z
    .exact a c (.inl ⟨r,g⟩) z
end
section
variable {P:Program} {o:Oper} {env:Env} {H:Qd}
variable {T kt et:Nat} {α β:Type} [DecidableEq α] {ek:α->A} {ev:β->List A} {x y zz:Operand} {i j t k n:Nat} {l m:List (α×Option (List β))} {key:α} {rows:List β}
end
end Go.Sw
namespace Go.Sw
open Go.MapKept
section
variable {fr ro:Nat->Prop} {σ:Sig} {H:Qd} {w:World}
end
section
variable {P:Program} {o:Oper} {env:Env} {H:Qd} {T kt et i t k:Nat} {x:Operand} {es:List (A×Option (List (List A)))}
end
section
variable {P:Program} {o:Oper} {env:Env} {H:Qd}
variable {T kt et:Nat} {α β:Type} [DecidableEq α] {ek:α->A} {ev:β->List A} {x y zz:Operand} {i j t k n:Nat} {l m:List (α×Option (List β))} {key:α} {rows:List β}
end
end Go.Sw
namespace Go.Sw
open Go.MapKept
section
variable {P:Program} {o:Oper} {env:Env} {H:Qd}
variable {T kt et:Nat} {α β:Type} [DecidableEq α] {ek:α->A} {ev:β->List A} {x y zz:Operand} {i j t k n:Nat} {l m:List (α×Option (List β))} {key:α} {rows:List β}
end
end Go.Sw
