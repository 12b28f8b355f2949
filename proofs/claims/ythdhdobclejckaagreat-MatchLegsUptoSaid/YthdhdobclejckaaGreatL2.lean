/- The rules by which the code is walked, with what they rest on (part 2). -/
import Derived.Test.YthdhdobclejckaaGreatL1
import Derived.Below
import GoSem.ClaimChange
import Derived.Shelf.Strings.Search3
import Derived.Lib.LazyBuf
import Derived.Shelf.Sort.Plain
import Derived.Shelf.Slices.In.SortNone
import Derived.Shelf.Slices.CompactI
import Derived.RangeFuncIn
import Derived.RangeFuncSeq
import Derived.RangeFuncNested
import Derived.Lib.Bytealg
import Derived.Laws.Externs
import Derived.LaidLaws
import Derived.Lib.LaidTab
import Derived.ChangeArms
import Derived.ChangeSame
import Derived.Laws.BytesString
set_option linter.unusedVariables false
set_option linter.unusedSectionVars false
set_option linter.unusedSimpArgs false
namespace Go.Sw
open Go.Sort Go.Proofs Go.Shelf
theorem Qdp{α:Type}{k:Nat}:∀(vs:List (List α)) (j:Nat),(∀v∈vs,v.length=k)->j<vs.length*k->vs.flatten[j]?=(vs[j/k]?).bind λv=>v[j%k]?
 |[],j,_,h=>by simp at h
 |v::vs,j,hk,h=>by
  have hv:=hk v (by simp);have k0:0<k:=by
   rcases Nat.eq_zero_or_pos k with q|q
   .subst q;simp at h
   .exact q
  rw[Vj];by_cases q:j<k
  .rw[XL (by omega),Nat.div_eq_of_lt q,Nat.mod_eq_of_lt q];simp
  .rw[XM (by omega),hv,Qdp vs (j-k) (λv hv=>hk v (by simp[hv])) (by simp[Xm]at h;omega)];have a:j/k=(j-k)/k+1:=by rw[Nat.div_eq_sub_div k0 (by omega)]
   have d:j%k=(j-k)%k:=Nat.mod_eq_sub_mod (by omega);rw[a,d,XE]
theorem Qaj{α:Type}{k:Nat}:∀(vs:List (List α)),(∀v∈vs,v.length=k)->vs.flatten.length=vs.length*k
 |[],_=>by simp
 |v::vs,h=>by rw[Vj,X2,Qaj vs (λv hv=>h v (by simp[hv])),h v (by simp),XZ,Xm];omega
theorem QaT{α:Type}(F:List α)(j:Nat):F.toArray[j]?=F[j]? :=by simp
theorem QgL{α:Type}[Inhabited α](F:List α)(j:Nat)(h:j<F.length):F[j]?=some (F.toArray[j]!):=by simp[h]
theorem QgQ{β:Type}[Inhabited β]{enc:β->List Value}{k:Nat}(f:∀x,(enc x).length=k)(d:Array β):flatK enc k d=((d.toList.map enc).flatten).toArray:=by
 have a:∀v∈d.toList.map enc,v.length=k:=by
  intro v j;obtain⟨x,_,rfl⟩:=Xe.1 j;exact f x
 apply Array.ext_getElem?;intro t;rw[QaT ((d.toList.map enc).flatten) t];by_cases h:t<d.size*k
 .rw[Qdp _ t a (by simpa using h)];have l:0<k:=by
   rcases Nat.eq_zero_or_pos k with q|q
   .subst q;simp at h
   .exact q
  have h1:=Nat.div_lt_of_lt_mul (by rw[Nat.mul_comm];exact h);have i:t%k<k:=Nat.mod_lt _ l;have g:t<(flatK enc k d).size:=by simpa using h
  have e:=get_flatK enc k d t h;rw[getElem!_pos (flatK enc k d) t g]at e;rw[Array.getElem?_eq_getElem g,e];simp[h1];rw[XJ (by rw[f];exact i)];rfl
 .have e:(d.toList.map enc).flatten.length=d.size*k:=by rw[Qaj _ a];simp
  rw[Array.getElem?_eq_none (by simpa using h),XN (by omega)]
section
variable {ro:Nat->Prop} {σ:Sig} {w:World} {T:Type} {enc:T->List A} {k:Nat}
theorem RL.parts:∀{l:List T} {lv:List Value},RL ro σ w k (l.map enc) lv->
  ∃(ps:List (T×List Value)) (rest:List Value),ps.map (·.1)=l/\lv=(ps.map (·.2)).flatten++rest/\ ∀p∈ps,p.2.length=k/\LR ro σ w (enc p.1) p.2/\ ∀v∈p.2,Qz v
 |[],lv,_=>⟨[],lv,rfl,rfl,by simp⟩
 |x::l,lv,h=>by
  obtain⟨l1,l2,rfl,h1,⟨h2,h3⟩,h4⟩:=h;obtain⟨ps,rest,e1,rfl,h5⟩:=RL.parts h4;refine⟨(x,l1)::ps,rest,by simp[e1],by simp,?_⟩;intro p hp;rcases X5.1 hp with rfl|hp
  .exact⟨by rw[h2.length];exact h1,h2,h3⟩
  .exact h5 p hp
theorem Qdy(hk:∀x,(enc x).length=k):∀{ps:List (T×List Value)} {rest:List Value},(∀p∈ps,LR ro σ w (enc p.1) p.2/\ ∀v∈p.2,Qz v)->RL ro σ w k ((ps.map (·.1)).map enc) ((ps.map (·.2)).flatten++rest)
 |[],_,_=>trivial
 |p::ps,rest,h=>by
  refine⟨p.2,(ps.map (·.2)).flatten++rest,by simp,hk _,h p (by simp),Qdy hk λq hq=>h q (by simp[hq])⟩
end
structure Elt (ro:Nat->Prop) (w:World) {T:Type} (enc:T->List A) (k:Nat) (l:List T) where
 x:T
 vs:List Value
 mem:x∈l
 len:vs.length=k
 rel:LR ro [] w (enc x) vs
 plain:∀v∈vs,Qz v
theorem QiZ{v:Value}(h:Qz v):v.oneCell'=true:=by cases v<;>first|rfl|exact h.elim
theorem Qmk{P:Program}{ρ:Ren}(L:SlLaysF0.n6 P ρ){T:Type}[DecidableEq T]{enc:T->List A}{k t g:Nat}{cap:List A}{l l':List T}{cf:T->T->Option Int}(hs:Qgr cf l=some l')
  (bb:∀x y c,cf x y=some c->C P g ([.agg (enc x),.agg (enc y)]++cap) [] (λa H=>a=.int .i64 c/\H=[]))
  (aE:∀w,(isAgg (ρ.t 24)).run P w=.ok true w)(zE:∀w,(Go.sizeOf (ρ.t 24)).run P w=.ok k w)(eg:∀args w,(callFunc g args).run P w=.ok (.enter g args) w)
  (hk:∀x,(enc x).length=k)(hd:Yv cap=true):
  C P (ρ.f 6) [.osl 0 0 l.length k,.fn (.func g) [] cap] [.row t k (l.map enc)] (λa H=>a=.tup []/\H=[.row t k (l'.map enc)]):=by
 intro fr J σ vals w s hv;obtain⟨vs,r1,rfl,bj,vf,r2,rfl,bg,hr⟩:=hv;cases(show r2=[]from hr);obtain⟨lf,lc,rfl,h1,a5⟩:=bg;cases(show lf=[]from h1);have aq:LR J [] w cap lc:=LR.data hd a5;obtain⟨az,aj,M,ar,bc⟩:=Qgq hs;have E:∀(ad:Option Addr) (c:Nat),vs=.slice ad 0 c->l=[]->
   Calls P (ρ.f 6) [vs,.func (.func g) #[] lc.toArray].toArray w λe w'=>∃v r H' ae τ,e=.returned v/\(r=.tup []/\H'=[.row t k (l'.map enc)])/\Sim fr ae (σ++τ) H' w'/\VR ae (σ++τ) w' r v/\Qh fr J w ae w':=by
  rintro ad c rfl rfl;have ag:l'=[]:=by rw[<- bc];rfl
  subst ag;refine(AnyF.slices_SortFunc_none L ad c (.func (.func g) #[] lc.toArray) w).mono ?_;rintro e w' ⟨rfl,rfl⟩;exact⟨_,_,_,J,[],rfl,⟨rfl,rfl⟩,by simpa using s,⟨[],rfl,rfl⟩,Qh.refl _ _ _⟩
 rcases bj with⟨h0,rfl⟩|⟨b,p,cp,t',m,q1,rfl,q2,⟨q3,bs⟩,q4,q5⟩
 .exact E none 0 rfl (VF.1 h0)
 .by_cases ag:l=[]
  .subst ag;exact E _ cp rfl rfl
  .have bl:0<l.length:=List.length_pos_iff.2 ag;obtain rfl:=q2 (Vd bl q3);obtain⟨lv,e1,e2⟩:=s.blk 0 _ _ q1 rfl;obtain⟨hb,al,a9⟩:=s.own 0 b _ q1 rfl rfl;obtain⟨V,G,a7,rfl,ah⟩:=RL.parts e2
   let α:=Elt J w enc k l
   have ba:∀p∈V,p.1∈l:=λp hp=>by rw[<- a7];exact VC hp
   let ds:List α:=V.attach.map λp=>⟨p.1.1,p.1.2,ba _ p.2,(ah _ p.2).1,(ah _ p.2).2.1,(ah _ p.2).2.2⟩
   have a4:∀{γ:Type} (f:T×List Value->γ),V.attach.map (λp=>f p.1)=V.map f:=λf=>by simp
   have O:ds.map (·.x)=l:=by
    show(V.attach.map _).map _=_;rw[List.map_map];exact(a4 (·.1)).trans a7
   have am:ds.map (·.vs)=V.map (·.2):=by
    show(V.attach.map _).map _=_;rw[List.map_map];exact a4 (·.2)
   have au:ds.length=l.length:=by rw[<- O];simp
   have a8:ds≠[]:=by intro q;rw[q]at au;simp at au;omega
   let inh:Inhabited α:=⟨ds.head a8⟩
   let enc':α->List Value:=λa=>a.vs
   let cf':α->α->Int:=λx y=>(cf x.x y.x).getD 0
   have af:∀x y:α,ltOf cf' x y=ltO cf x.x y.x:=by
    intro x y;obtain⟨c,B⟩:=aj x.x x.mem y.x y.mem;simp only[ltOf,ltO,cf',B,Option.getD_some]
   have hO:SWO (ltOf cf'):=⟨λx=>by rw[af];exact M.irrefl _ x.mem,λx y z a b=>by rw[af]at*;exact M.trans _ x.mem _ y.mem _ z.mem a b,
    λx y z a b=>by rw[af]at*;exact M.ntrans _ x.mem _ y.mem _ z.mem a b⟩
   have X:∀x:α,(enc' x).length=k:=λx=>x.len;have av:flatK enc' k ds.toArray=((V.map (·.2)).flatten).toArray:=by
    rw[QgQ X];show((ds.map λa=>a.vs).flatten).toArray=_;rw[am]
   have br:∀v∈V.map (·.2),v.length=k:=by
    intro v hv;obtain⟨p,hp,rfl⟩:=Xe.1 hv;exact(ah p hp).1
   have aa:(V.map (·.2)).flatten.length=ds.length*k:=by rw[Qaj _ br, <- am];simp
   have hH:HoldsK enc' k w b (0*k) ds.toArray:=by
    intro j hj;rw[av]at hj⊢;simp only[List.size_toArray]at hj;constructor
    .unfold World.cell?;simp only[e1,Option.isSome_none,Xi,if_false,Nat.zero_mul,Xv];rw[QaT,XL hj];exact QgL _ _ hj
    .unfold World.frozen?;simp only[e1];simp
   have an:∀(d:Array α),d.size=ds.toArray.size->(putRowK enc' k w b (0*k) d).heap=w.heap.setIfInBounds b (.cells (((d.toList.map enc').flatten++G)).toArray t (0,0)):=by
    intro d u;have ac:(d.toList.map enc').flatten.length=(V.map (·.2)).flatten.length:=by
     rw[Qaj _ (k:=k) (by intro v hv;obtain⟨x,_,rfl⟩:=Xe.1 hv;exact X x),aa];simp at u⊢;rw[u]
    unfold putRowK putRow mapBlock;show w.heap.modify b _=_;rw[Qc2 e1];simp only[onCells];congr 2;rw[QgQ X];unfold putCells;apply Array.ext_getElem?;intro i;simp only[Array.getElem?_mapIdx,QaT,Nat.zero_mul,XT,true_and,Xv,Nat.sub_zero,List.size_toArray,id_eq];by_cases hi:i<(d.toList.map enc').flatten.length
    .rw[XL hi,XL (by rw[<- ac];exact hi),XJ (by rw[<- ac];exact hi),QgL _ _ hi];exact congrArg some (Vq hi)
    .rw[XM (by omega),XM (by omega),ac];cases(G[i-(V.map (·.2)).flatten.length]?)with
     |none=>rfl
     |some v=>
      rw[<- ac];exact congrArg some (Vp hi)
   have N:∀(m:Nat) (os:Array Obj) (d:Array α),d.size=ds.toArray.size->
     (∀c,c<w.heap.size->c≠b->(sortWorldK enc' k w b (0*k) m d os).heap[c]?=w.heap[c]?)/\(sortWorldK enc' k w b (0*k) m d os).heap[b]?=some (.cells (((d.toList.map enc').flatten++G)).toArray t (0,0))/\
     w.heap.size<=(sortWorldK enc' k w b (0*k) m d os).heap.size:=by
    intro m os d u;have e:(sortWorldK enc' k w b (0*k) m d os).heap=w.heap.setIfInBounds b (.cells (((d.toList.map enc').flatten++G)).toArray t (0,0))++os:=by
     rw[<- an d u];rfl
    rw[e];refine⟨λc B bd=>?_,?_,by simp⟩
    .rw[Array.getElem?_append_left (by simpa using B),Vc,Vp (λq=>bd q.symm)]
    .rw[Array.getElem?_append_left (by simpa using hb),Vc,Vq rfl,Vq hb]
   have R:∀(m:Nat) (os:Array Obj) (d:Array α),d.size=ds.toArray.size->∀c y,w.shape? c=some y->(sortWorldK enc' k w b (0*k) m d os).shape? c=some y:=by
    intro m os d u c y hy;obtain⟨g1,g2,g3⟩:=N m os d u;by_cases B:c=b
    .subst B;unfold World.shape? at hy⊢;rw[e1]at hy;rw[g2];simp only[Option.some.injEq]at hy⊢;rw[<- hy];congr 1;simp only[List.size_toArray,X2];rw[Qaj _ (k:=k) (by intro v hv;obtain⟨x,_,rfl⟩:=Xe.1 hv;exact X x),aa];simp at u⊢;rw[u]
    .unfold World.shape? at hy⊢;rw[g1 c (Qj8 hy) B];exact hy
   have ai:∀(m:Nat) (os:Array Obj) (d:Array α),d.size=ds.toArray.size->∀τ,Ext J τ w J τ (sortWorldK enc' k w b (0*k) m d os):=by
    intro m os d u τ;obtain⟨g1,g2,g3⟩:=N m os d u;exact⟨λ_ q=>q,λc B=>g1 c (s.roLt c B) (λq=>al (q▸B)),R m os d u,λ_ _ q=>q⟩
   have be:CmpLays P g lc.toArray enc' k cf' b (0*k) ds.toArray.size w:=by
    intro m os dk a6 x y;obtain⟨c,B⟩:=aj x.x x.mem y.x y.mem;have F:=ai m os dk a6 [];have bn:=bb _ _ _ B;generalize hW:sortWorldK enc' k w b (0*k) m dk os=W at*;have bm:w.heap.size<=W.heap.size:=by rw[<- hW];exact(N m os dk a6).2.2
    have sW:Sim (λc=>c<W.heap.size/\ ¬J c) J [] [] W:=
     ⟨rfl,s.roOk.to (λ_ q=>q) F.keep (λc B=>Vd (s.roLt c B) bm),λc B=>B.1,λc B hf=>hf.2 B,λi b x h=>by simp at h,λi j b x y h=>by simp at h,λi y x h=>by simp at h,λi b x c h=>by simp at h⟩
    have ay:LR J [] W ([.agg (enc x.x),.agg (enc y.x)]++cap) ([.agg x.vs.toArray,.agg y.vs.toArray]++lc):=
     LR.append (show LR J [] W [A.agg (enc x.x),A.agg (enc y.x)] [Value.agg x.vs.toArray,Value.agg y.vs.toArray]from⟨_,_,rfl,⟨x.vs,rfl,x.rel.mono F⟩,_,_,rfl,⟨y.vs,rfl,y.rel.mono F⟩,rfl⟩) (aq.mono F)
    have Q:=bn _ J [] _ W sW ay;have bo:(([Value.agg x.vs.toArray,Value.agg y.vs.toArray]++lc).toArray:Array Value)= #[Value.agg (enc' x).toArray,Value.agg (enc' y).toArray]++lc.toArray:=by simp[enc']
    rw[bo]at Q;refine Q.mono ?_;rintro e w' ⟨v,r,H',ae,τ,rfl,⟨rfl,rfl⟩,s',bi,ev⟩;refine⟨?_,?_⟩
    .rw[show v=.int .i64 c from bi];simp only[cf',B,Option.getD_some]
    .refine QlJ (λc B=>?_) ev.size ev.os ev.tape ev.output ev.drawn;by_cases a1:J c
     .exact ev.keepRo c a1
     .exact ev.keepFr c ⟨B,a1⟩
   have ab:ds.toArray.size=l.length:=by simpa using au
   have ak:=AnyQ.slices_SortFunc L k aE zE enc' X (λx v hv=>QiZ (x.plain v hv)) cf' hO g lc.toArray b (0*k) cp ds.toArray w eg be hH hb (by rw[ab];unfold Yk at az;omega);rw[ab]at ak;refine ak.mono ?_;rintro e w' ⟨rfl,d,n,os,Y,ao,rfl⟩;have u:d.size=ds.toArray.size:=Y.1;obtain⟨g1,g2,g3⟩:=N n os d u;have ax:d.toList.Perm ds:=by
    have h:=Y.2.2;have x1:d.extract 0 l.length=d:=by rw[<- ab, <- u];exact Array.extract_size
    have x2:ds.toArray.extract 0 l.length=ds.toArray:=by rw[<- ab];exact Array.extract_size
    rw[x1,x2]at h;simpa using h
   have a2:d.toList.map (·.x)=l':=by
    rw[<- bc];refine Qd1 (lt:=ltO cf) ?_ ?_ ?_ (Qcx M)
    .exact((ax.map (·.x)).trans (by rw[O])).trans (Qbc _ _).symm
    .intro x hx y hy;have bp:x∈l:=by rw[<- O];exact(ax.map (·.x)).mem_iff.1 hx
     have bq:y∈l:=by rw[<- O];exact(ax.map (·.x)).mem_iff.1 hy
     exact ar x bp y bq
    .rw[VA];intro i j hi hj bh;simp only[X0]at hi hj;simp only[List.getElem_map];rw[<- af];have:=ao i j (XT _) bh (by rw[<- ab, <- u];simpa using hj);rw[getElem!_pos d j (by simpa using hj),getElem!_pos d i (by simpa using hi)]at this;simpa using this
   have bk:RL J [] (sortWorldK enc' k w b (0*k) n d os) k (l'.map enc) ((d.toList.map enc').flatten++G):=by
    have e3:d.toList.map enc'=(d.toList.map λa=>(a.x,a.vs)).map (·.2):=by simp[enc']
    have e4:l'=(d.toList.map λa=>(a.x,a.vs)).map (·.1):=by rw[<- a2];simp
    rw[e3,e4];refine Qdy hk ?_;intro p hp;obtain⟨a,_,rfl⟩:=Xe.1 hp;exact⟨a.rel.mono (ai n os d u []),a.plain⟩
   have a0:Qh fr J w J (sortWorldK enc' k w b (0*k) n d os):=
    ⟨λ_ q=>q,λc B=>g1 c (s.roLt c B) (λq=>al (q▸B)),λc B=>g1 c (s.frLt c B) (λq=>a9 (q▸B)),g3,R n os d u,rfl,rfl,rfl,Nat.le_add_right _ _⟩
   have aw:σ.length=1:=s.len;have a3:Sim fr J σ [.row t k (l'.map enc)] (sortWorldK enc' k w b (0*k) n d os):=by
    have i0:∀{i:Nat} {x:Blk},([.row t k (l'.map enc)]:Qd)[i]?=some x->i=0/\x=.row t k (l'.map enc):=by
     intro i x h;cases i with
     |zero=>simp at h;exact⟨rfl,h.symm⟩
     |succ i=>simp at h
    refine⟨aw,s.roOk.to (λ_ q=>q) a0.keepRo (λc B=>Vd (s.roLt c B) g3),λc B=>Vd (s.frLt c B) g3,s.roFr,λi c x h1 h2 h3=>?_,λi j c x y h1 h2 h3 h4 _ _=>?_,λi y x h1 h2=>?_,λi b x c h1 h2 h3=>by obtain⟨rfl,rfl⟩:=i0 h2;exact h3.elim⟩
    .obtain⟨rfl,rfl⟩:=i0 h2;obtain⟨p1,p2⟩:=s.own 0 c _ h1 rfl rfl;exact⟨Vd p1 g3,p2⟩
    .rw[(i0 h3).1,(i0 h4).1]
    .obtain⟨rfl,rfl⟩:=i0 h2;rw[q1]at h1;cases h1;exact⟨_,g2,bk⟩
   exact⟨_,_,_,J,[],rfl,⟨rfl,rfl⟩,by simpa using a3,⟨[],rfl,rfl⟩,a0⟩
end Go.Sw
namespace Go.Sw
section
variable {P:Program} {o:Oper} {env:Env} {H:Qd} {fr ro:Nat->Prop} {σ:Sig} {w:World}
theorem Sim.addRo(s:Sim fr ro σ H w){b:Nat}(g:b<w.heap.size)(f:¬fr b)(n:∀(i:Nat) (x:Blk),σ[i]?=some (some b)->H[i]?=some x->x.live=true->False)
  (k:∀(i d:Nat) (x:Blk),σ[i]?=some (some d)->H[i]?=some x->Hid w x d b->False):Sim fr (λc=>ro c\/c=b) σ H w:=by
 refine⟨s.len,s.roOk.to (λ_ q=>.inl q) (λ_ _=>rfl) ?_,s.frLt,?_,?_,s.inj,?_,s.hidTo (· = ·) Q7 (XS _) (by grind) (by simp) (by grind)⟩
 .rintro c (q|rfl)
  .exact s.roLt c q
  .exact g
 .rintro c (q|rfl)
  .exact s.roFr c q
  .exact f
 .intro i c x e a h;obtain⟨m,l,j⟩:=s.own i c x e a h
  grind
 .intro i y x e a;exact(s.blk i y x e a).keep ⟨λ_ q=>.inl q,λ_ _=>rfl,λ_ _ q=>q,λ_ _ q=>q⟩ (λ_ _ _=>rfl) (λ_ _ _ _=>rfl)
theorem YU{T e k n:Nat}{xs:List Operand}{es:List (List A)}(E:Q4 P T e k)(R:o.op=.buildSlice T n (QaN 0 xs).toArray)(M:xs.length=n)(G:Nat.ble (n*k) 16777216=true)
  (X:(xs.all λx=>Yl (opA env x))=true)(y:Yr env xs=es)(L:allK k es)(Y:es.flatten.all Yq=true)(W:Yv es.flatten=true):
  OpH P o env H (.rsl k es) H:=by
 intro V t σ N a w r;subst y;obtain⟨l,h1,J⟩:=Qbx r E M G X L;have B:LR t [] w (Yr env xs).flatten l:=J.data W;have f:∀b,b<w.heap.size->(w.alloc (.cells l.toArray e)).heap[b]?=w.heap[b]? :=λb Q=>Yh _ _ b Q;have j:w.heap.size<=(w.alloc (.cells l.toArray e)).heap.size:=by simp
 have O:=r.sim.grown f j;have h:Qh V t w t (w.alloc (.cells l.toArray e)):=Qh.alloc _ r.sim.roLt r.sim.frLt;have s2:=O.addRo (by simp) (λq=>Nat.lt_irrefl _ (r.sim.frLt _ q)) (λi x s m u=>Nat.lt_irrefl _ (r.sim.own i _ x s m u).1)
  (λi d x s m u=>Nat.lt_irrefl _ (r.sim.hid i d x _ s m (r.sim.hidKeep s m (λz=>f d (r.sim.own i d x s m z).1) (λb q=>f b (r.sim.roLt b q)) u)).lt)
 have F:RL t [] (w.alloc (.cells l.toArray e)) k (Yr env xs) l:=by
  have:=Qad (rest:=[]) L (B.mono (h.ext0 [])) (J.plain Y)
  grind
 have p:(Yr env xs).length=n:=by simp[Yr,M]
 refine⟨_,_,λc=>t c\/c=w.heap.size,[],Qbp R a.eval h1,(⟨some ⟨w.heap.size,0,none⟩,n,by rw[p],by omega,.inr ⟨w.heap.size,0,rfl,.inr rfl,?_⟩⟩),by grind,h.trans (Q1 λ_ q=>.inl q)⟩;have g:(w.alloc (.cells l.toArray e)).heap[w.heap.size]?=some (.cells ([]++l).toArray e (0,0)):=Ys _ _;have:=YL g F;exact this.keep ⟨λ_ q=>.inl q,λ_ _=>rfl,λ_ _ q=>q,λ_ _ q=>q⟩ rfl
end
inductive Qh6:List A->List A->Prop
 |nil:Qh6 [] []
 |eq {a:A} {l m:List A} (h:Qh6 l m):Qh6 (a::l) (a::m)
 |nl {k:Nat} {l m:List A} (h:Qh6 l m):Qh6 (.nils::l) (.rsl k []::m)
theorem LR.nils{ro:Nat->Prop}{σ:Sig}{w:World}{i g:List A}(h:Qh6 i g):∀{l:List Value},LR ro σ w i l->LR ro σ w g l:=by
 induction h with
 |nil=>simp
 |eq _ ih=>rintro l ⟨v,f,e,d,a⟩;exact⟨v,f,e,d,ih a⟩
 |nl _ ih=>rintro l ⟨v,f,e,d,a⟩;exact⟨v,f,e,⟨none,0,d,XS _,.inl rfl⟩,ih a⟩
theorem C.nils{P:Program}{f:FuncId}{l1 bs:List A}{H:Qd}{Q:A->Qd->Prop}(hl:Qh6 l1 bs)(h:C P f bs H Q):C P f l1 H Q:=
 λfr ro σ vals w s l=>h fr ro σ vals w s (LR.nils hl l)
def Qx(k:IntKind)(n:Int):Prop:=k.min<=n/\n<=k.max
def QeM(w:World):Nat->Prop:=λb=>b<w.heap.size
structure Meas {H:Type} (μ:DataW H->Nat):Prop where
 str:∀bytes,bytes.length<=μ (.lit (.string bytes))
 sl:∀e s,e.length<=μ (.slice e s)
 sle:∀e s,∀d∈e,μ d<=μ (.slice e s)
 ag:∀ps,∀d∈ps,μ d<=μ (.agg ps)
def RB(P:Program)(n:Nat)(t:TypeId)(T:Type)(e:T->List A)(wf:T->Prop):Prop:=
 ∀(H:Type) (enc:TypeId×Value->H) (w:World) (base:Nat) (spare:Nat->Bool) (held:Bool) (m:Nat) (cs:List Value) d,m<n->DataW.trod enc P w base spare held m t cs=some d->
  ∀μ:DataW H->Nat,Meas μ->μ d.1<=1048576->∃x:T,wf x/\LR (QeM w) [] w (e x) cs/\ ∀v∈cs,Qz v
section
variable {P:Program} {n:Nat} {t:TypeId} {T:Type} {e:T->List A} {wf:T->Prop}
theorem RB.down(h:RB P (n+1) t T e wf):RB P n t T e wf:=λH enc w base spare held m cs d hm=>h H enc w base spare held m cs d (Nat.lt_succ_of_lt hm)
theorem QdS(h:∀n,RB P n t T e wf->RB P (n+1) t T e wf):∀n,RB P n t T e wf
 |0=>λH enc w base spare held m cs d hm=>(by omega)
 |n+1=>h n (QdS h n)
theorem Yf{T':Type}{f:T'->List A}{a:T'->Prop}(h:RB P n t T e wf)(g:T->T')(he:∀x,f (g x)=e x)(j:∀x,wf x->a (g x)):RB P n t T' f a:=by
 intro H enc w base spare held m cs d hm hd μ hμ hwt;obtain⟨x,k,i,l⟩:=h H enc w base spare held m cs d hm hd μ hμ hwt
 grind
theorem RB.int{k:IntKind}(a:P.underlying t=some (.int k)):RB P n t Int (Qe k) (Qx k):=by
 intro H enc w base spare held m cs d hm hd μ hμ hwt;cases m with
 |zero=>simp[DataW.trod]at hd
 |succ m=>
  rcases cs with _|⟨v,_|⟨h,r⟩⟩
  .simp[DataW.trod,a]at hd
  .cases v<;>simp[DataW.trod,a]at hd;rename_i g f;obtain⟨⟨rfl,e⟩,_⟩:=hd;refine⟨f,?_,⟨_,_,rfl,rfl,rfl⟩,by simp[Qz]⟩;simpa[Lit.wf,Qx]using e
  .simp[DataW.trod,a]at hd
theorem RB.bool(a:P.underlying t=some .bool):RB P n t Bool Y0 (λ_=>True):=by
 intro H enc w base spare held m cs d hm hd μ hμ hwt;cases m with
 |zero=>simp[DataW.trod]at hd
 |succ m=>
  rcases cs with _|⟨v,_|⟨e,r⟩⟩
  .simp[DataW.trod,a]at hd
  .cases v<;>simp[DataW.trod,a]at hd;rename_i b;exact⟨b,trivial,⟨_,_,rfl,rfl,rfl⟩,by simp[Qz]⟩
  .simp[DataW.trod,a]at hd
theorem RB.string(a:P.underlying t=some .string):RB P n t (List UInt8) Jl (λs=>s.length<=1048576):=by
 intro H enc w base spare held m cs d hm hd μ hμ hwt;cases m with
 |zero=>simp[DataW.trod]at hd
 |succ m=>
  rcases cs with _|⟨v,_|⟨e,r⟩⟩
  .simp[DataW.trod,a]at hd
  .cases v<;>simp[DataW.trod,a]at hd;rename_i s;obtain⟨_,rfl⟩:=hd;exact⟨s.data.toList,XU (hμ.str _) hwt,⟨_,_,rfl,rfl,rfl⟩,by simp[Qz]⟩
  .simp[DataW.trod,a]at hd
theorem Qcc{α:Type}{f:Nat->Option α}:∀{n:Nat} {l:List α},(List.range n).mapM f=some l->l.length=n/\ ∀i,i<n->∃y,f i=some y/\l[i]?=some y
 |0,l,h=>by grind
 |n+1,l,h=>by
  rw[List.range_succ,List.mapM_append]at h;cases h1:(List.range n).mapM f with
  |none=>grind
  |some l1=>
   cases h2:f n with
   |none=>grind
   |some y=>
    simp[h1,h2]at h;subst h;obtain⟨e1,e2⟩:=Qcc h1
    grind
theorem QdC{w:World}{ro:Nat->Prop}{b:Nat}:∀{cs:List A} {l:List Value} {off:Nat},LR ro [] w cs l->(∀v∈l,Qz v)->(∀i,i<l.length->w.cell? ⟨b,off+i,none⟩=l[i]?)->CR ro [] w b cs off
 |[],_,_,_,_,_=>trivial
 |a::cs,l,off,h,hp,hc=>by
  obtain⟨v,l',rfl,h1,h2⟩:=h;refine⟨(by grind),QdC h2 (by grind) λi hi=>?_⟩;have:=hc (i+1) (by grind)
  grind
theorem RB.slice{E:TypeId}{k:Nat}{s:TypeId}(J:P.underlying s=some (.slice E))(hk:P.cellsOf E=k)(h0:Nat.blt 0 k=true)(hl:∀x,(e x).length=k)(h:RB P n E T e wf):
  RB P (n+1) s (List T) (Ya k e) (λl=>l.length<=1048576/\ ∀x∈l,wf x):=by
 intro H enc w base spare held m cs d hm hd μ hμ hwt;have k0:0<k:=by simp_all
 cases m with
 |zero=>simp[DataW.trod]at hd
 |succ m=>
  rcases cs with _|⟨v,_|⟨v2,r⟩⟩
  .simp[DataW.trod,J]at hd
  .cases v<;>try (simp[DataW.trod,J]at hd;done)
   rename_i a len g;cases a with
   |none=>
    rcases len with _|len
    .rcases g with _|g
     .refine⟨[],⟨by simp,by simp⟩,⟨_,_,rfl,⟨none,0,rfl,XS _,.inl rfl⟩,rfl⟩,by simp[Qz]⟩
     .simp[DataW.trod,J]at hd
    .simp[DataW.trod,J]at hd
   |some a=>
    simp only[DataW.trod,J]at hd;split at hd
    .rename_i hc;obtain⟨c1,c2,c3⟩:=hc;cases V:(List.range len).mapM (λi=>(w.cells? base (a.add (i*P.cellsOf E)) (P.cellsOf E)).bind (DataW.trod enc P w base spare held m E))with
     |none=>grind
     |some f=>
      rw[V]at hd;simp only[XI,Option.map_eq_some_iff]at hd;obtain⟨t,_,rfl⟩:=hd;have F:f.length<=1048576:=by
       have h1:=hμ.sl (f.map (·.1)) (t.map (·.1))
       grind
      have aa:∀y∈f,μ y.1<=1048576:=λy Q=>XU (hμ.sle _ (t.map (·.1)) _ (VC Q)) hwt;obtain⟨e1,e2⟩:=Qcc V;have N:∀i,i<len->∃(x:T) (l:List Value),wf x/\LR (QeM w) [] w (e x) l/\(∀v∈l,Qz v)/\l.length=k/\ ∀j,j<k->w.cell? ((a.add (i*k)).add j)=l[j]? :=by
       intro i Y;obtain⟨y,y1,y2⟩:=e2 i Y;rw[hk]at y1;cases X:w.cells? base (a.add (i*k)) k with
       |none=>grind
       |some l=>
        rw[X]at y1;obtain⟨x,x1,x2,x3⟩:=h H enc w base spare held m l y (by omega) y1 μ hμ (aa y (VD y2))
        grind[World.cells?,Qcc]
      by_cases O:len=0
      .subst O;exact⟨[],⟨by simp,by simp⟩,⟨_,_,rfl,⟨some a,g,rfl,XT _,.inl rfl⟩,rfl⟩,by simp[Qz]⟩
      .have first:a.spot=none/\a.block<w.heap.size:=by
        obtain⟨x',l,p1,p2,p3,p4,W⟩:=N 0 (by omega);have p:=W 0 k0;have ab:l[0]?=some l[0]:=XJ (by omega);have ea:(a.add (0*k)).add 0=a:=by simp[Addr.add]
        rw[ab,ea]at p;unfold World.cell? at p;split at p
        .rename_i hh;constructor
         .cases q:a.spot with
          |none=>rfl
          |some z=>simp[q]at p
         .exact(Vb.1 hh).1
        .cases p
       obtain⟨R,hb⟩:=first
       have L:∀n,a.add n=⟨a.block,a.off+n,none⟩:=by
        intro n;cases a;simp only at R;subst R;unfold Addr.add;split
        .rename_i q;subst q;rfl
        .rfl
       have u:∀(b o n:Nat),(⟨b,o,none⟩:Addr).add n=⟨b,o+n,none⟩:=by
        intro b o n;unfold Addr.add;split
        .rename_i q;subst q;rfl
        .rfl
       have pick:∀q i,len-i=q->i<=len->∃B:List T,B.length=len-i/\(∀x∈B,wf x)/\RR (QeM w) [] w a.block k (B.map e) (a.off+i*k):=by
        intro q
        induction q with
        |zero=>intro i hq Y;exact⟨[],by simp[hq],by simp,trivial⟩
        |succ q ih=>
         intro i hq Y;obtain⟨B,G,w2,M⟩:=ih (i+1) (by omega) (by omega);obtain⟨x,l,p1,p2,p3,p4,W⟩:=N i (by omega);refine⟨x::B,by simp[G];omega,by intro y Q;rcases X5.1 Q with rfl|Q;exact p1;exact w2 y Q,hl x,?_,?_⟩
         .refine QdC p2 p3 λj hj=>?_;have p:=W j (by omega);rw[L,u]at p;exact p
         .rw[Xm, <- Nat.add_assoc]at M;exact M
       obtain⟨B,G,w2,M⟩:=pick len 0 (by omega) (XT _);rw[Nat.zero_mul,Xw]at M;rw[Nat.sub_zero]at G;refine⟨B,⟨by rw[G, <- e1];exact F,w2⟩,⟨_,_,rfl,⟨some a,g,by simp[G],by simp[G];exact c2,.inr ⟨a.block,a.off,?_,hb,M⟩⟩,rfl⟩,by simp[Qz]⟩;cases a
       grind
    .cases hd
  .simp[DataW.trod,J]at hd
def RF(P:Program)(n:Nat)(fs:List Field)(off L:Nat)(T:Type)(e:T->List A)(wf:T->Prop):Prop:=
 ∀(H:Type) (enc:TypeId×Value->H) (w:World) (base:Nat) (spare:Nat->Bool) (held:Bool) (m:Nat) (cs:List Value) ds,m<n->cs.length=L->
  fs.mapM (λf=>DataW.trod enc P w base spare held m f.type ((cs.drop f.offset).take (P.cellsOf f.type)))=some ds->
  ∀μ:DataW H->Nat,Meas μ->(∀y∈ds,μ y.1<=1048576)->∃x:T,wf x/\LR (QeM w) [] w (e x) (cs.drop off)/\ ∀v∈cs.drop off,Qz v
theorem RF.nil{L:Nat}:RF P n [] L L Unit (λ_=>[]) (λ_=>True):=by
 intro H enc w base spare held m cs ds hm hl hd μ hμ hwt;have:cs.drop L=[]:=(by grind);rw[this];exact⟨(),trivial,rfl,by simp⟩
theorem RF.cons{f:Field}{fs:List Field}{off L k:Nat}{T2:Type}{l:T2->List A}{g:T2->Prop}(B:f.offset=off)(z:P.cellsOf f.type=k)(h:RB P n f.type T e wf)(r:RF P n fs (off+k) L T2 l g):
  RF P n (f::fs) off L (T×T2) (λp=>e p.1++l p.2) (λp=>wf p.1/\g p.2):=by
 intro H enc w base spare held m cs ds hm hl hd μ hμ hwt;rw[List.mapM_cons]at hd;cases q:DataW.trod enc P w base spare held m f.type ((cs.drop f.offset).take (P.cellsOf f.type))with
 |none=>grind
 |some d=>
  cases s:fs.mapM (λf=>DataW.trod enc P w base spare held m f.type ((cs.drop f.offset).take (P.cellsOf f.type)))with
  |none=>grind
  |some a=>
   have j:ds=d::a:=by
    grind
   subst j;rw[B,z]at q;obtain⟨x,u,t,F⟩:=h H enc w base spare held m _ d hm q μ hμ (hwt d (by simp));obtain⟨y,y1,y2,E⟩:=r H enc w base spare held m cs a hm hl s μ hμ (by grind);have i:cs.drop off=(cs.drop off).take k++cs.drop (off+k):=by rw[<- List.drop_drop,Xy]
   refine⟨(x,y),⟨u,y1⟩,by rw[i];exact t.append y2,?_⟩
   grind
theorem RB.struct{fs:Array Field}{L:Nat}(i:P.underlying t=some (.struct fs))(g:P.cellsOf t=L)(h:RF P n fs.toList 0 L T e wf):RB P (n+1) t T e wf:=by
 intro H enc w base spare held m cs d hm hd μ hμ hwt;cases m with
 |zero=>simp[DataW.trod]at hd
 |succ m=>
  unfold DataW.trod at hd;simp only[i]at hd;split at hd
  .rename_i k;cases a:fs.toList.mapM (λf=>DataW.trod enc P w base spare held m f.type ((cs.drop f.offset).take (P.cellsOf f.type)))with
   |none=>grind
   |some j=>
    rw[a]at hd;simp only[Xj,Option.some.injEq]at hd;subst hd;have:=h H enc w base spare held m cs j (by omega) (by rw[k,g]) a μ hμ (λy l=>XU (hμ.ag _ _ (by grind)) hwt)
    grind
  .cases hd
end
theorem C.law{P:Program}{f:FuncId}{args:List A}{W:World}{vals:List Value}(h:C P f args [] (λa H=>a=.bool true/\H=[]))(i:LR (QeM W) [] W args vals)(d:GP W):
  Calls P f vals.toArray W λe W'=>e=.returned (.bool true)/\Go.RowKit.Below W.heap.size W W':=by
 have s:Sim (λ_=>False) (QeM W) [] [] W:=
  ⟨rfl,⟨λ_ h=>h,λb l=>d.size b l,d⟩,λ_ h=>h.elim,λ_ _ h=>h,(by simp),(by simp),(by simp),(by simp)⟩
 refine(h _ _ _ _ W s i).mono ?_;rintro e W' ⟨v,r,H',m,τ,rfl,⟨rfl,rfl⟩,_,g,ev⟩;exact⟨by rw[show v=.bool true from g],⟨ev.os,ev.tape,ev.output,ev.size,λk j=>ev.keepRo k j⟩⟩
theorem QgC{P:Program}{W:World}{a:Nat}{t:TypeId}{v:Value}{fs:Array Field}(d:P.underlying t=some (.struct fs))(h:Value.okWide P W .any a t v):∃cs,v=.agg cs:=by
 unfold Value.okWide at h
 grind
theorem Qeb{P:Program}{W:World}{t:TypeId}{i:Array Value}{T:Type}{e:T->List A}{wf:T->Prop}{H:Type}{enc:TypeId×Value->H}{f:Nat}{a:Nat->Bool}{held:Bool}{d:DataW H}{p:List MemPlace}
  (h:∀n,RB P n t T e wf)(l:DataW.Trod enc P W f a held t (.agg i) d p){μ:DataW H->Nat}(hμ:Meas μ)(g:μ d<=1048576):∃x:T,wf x/\VR (QeM W) [] W (.agg (e x)) (.agg i):=by
 obtain⟨m,k⟩:=l;obtain⟨x,q,j,_⟩:=h (m+1) H enc W f a held m _ _ (Xn _) k μ hμ g;exact⟨x,q,i.toList,by simp,j⟩
theorem Qhv{P:Program}{W:World}(h:W.ShapedOpen P){g t u:Nat}{z:Value}(hg:Nat.blt g P.globals.size=true)(l:(((begin P (λ_ _=>0) default).world.heap[g]?).bind Obj.row?)=some (#[z],t))
  (r:P.buildable t=true)(s:P.cellTypes P.depth t=some [u])(n:P.underlying u=some (.int .i64)):∃m:Int,W.cell? ⟨g,0,none⟩=some (.int .i64 m):=by
 obtain⟨d,w,p,j⟩:=h.1 g _ _ (by simp_all) l;obtain⟨x,i,_,q⟩:=j r;rw[s]at i;cases i;have y:d.size=1:=p;have e:d[0]?=some d[0]:=(by simp);obtain⟨B,f,a⟩:=q 0 _ e;simp at f;subst f;unfold Cell.ok at a;rw[n]at a;cases k:d[0]<;>rw[k]at a<;>simp at a
 simp_all[World.cell?]
theorem QhF{S B:Type}{step:S->Option (Ctl S B)}(a:Nat->S)(b:B)(k:Nat)(p:∀i,i<k->step (a i)=some (.cont (a (i+1))))(f:step (a k)=some (.done b)):∀n,k<n->iter step n (a 0)=some b:=by
 have g:∀m i n,k-i=m->i<=k->m<n->iter step n (a i)=some b:=by
  intro m
  induction m with
  |zero=>
   intro i n h e j;have:i=k:=by omega
   subst this;obtain⟨d,rfl⟩:∃d,n=d+1:=⟨n-1,by omega⟩;simp[iter,f]
  |succ m l=>
   intro i n h e j;obtain⟨d,rfl⟩:∃d,n=d+1:=⟨n-1,by omega⟩
   grind[iter]
 grind
theorem Qkj{S B:Type}{step:S->Option (Ctl S B)}(s0:S)(a:Nat->S)(b:B)(k:Nat)(e:a 0=s0)(g:∀i,i<k->step (a i)=some (.cont (a (i+1))))(f:step (a k)=some (.done b))(n:Nat)(d:k<n):iter step n s0=some b:=by
 rw[<- e];exact QhF a b k g f n d
theorem Qt{α:Type}{l:List α}{i:Nat}{x:α}(h:l[i]?=some x):idx l i=some x:=by
 grind[idx]
theorem Ql8{α:Type}(l:List α)(x:α)(h:l.length<4294967296):app l [x]=some (l++[x]):=by
 unfold app;have:Nat.ble (l.length+[x].length) Yk=true:=by
  grind[Nat.ble_eq_true_of_le,Yk]
 grind
theorem QaG{α:Type}(l m:List α)(h:l.length+m.length<=4294967296):app l m=some (l++m):=by
 simp_all[app,Yk,XR]
theorem Qj{n:Int}(a: -9223372036854775808<=n)(d:n<=9223372036854775807):IntKind.i64.wrap n=n:=by
 grind[IntKind.wrap,IntKind.bits,IntKind.signed]
theorem QV{i:Nat}(h:i<9223372036854775807):IntKind.i64.wrap (i+1)=(i+1:Nat):=by
 rw[Qj (by omega) (by omega)];omega
theorem Qv{p:Prop}[Decidable p](h:p):decide p=true:=Vr h
theorem Qu{p:Prop}[Decidable p](h:¬p):decide p=false:=decide_eq_false h
open Go.Proofs Go.Shelf
def cat(a b:List UInt8):Option (List UInt8):=bif Nat.ble (a.length+b.length) 4294967296 then some (a++b)else none
theorem Qm7{a b r:List UInt8}(h:cat a b=some r):a.length+b.length<=4294967296/\a++b=r:=by
 unfold cat at h;cases q:Nat.ble (a.length+b.length) 4294967296 with
 |true=>simp_all
 |false=>grind
def Qep(s t:List UInt8):Option Bool:=bif Nat.blt s.length 4294967281 then some (Lib.contains s t)else none
section
variable {P:Program} {o:Oper} {env:Env} {H:Qd}
theorem QeQ{t u:TypeId}{x y:Operand}{p q r:List UInt8}(i:cat p q=some r)(k:o.op=.binOp .add t x y u:=by exact rfl)(hx:opA env x=.str p:=by exact rfl)(hy:opA env y=.str q:=by exact rfl):OpV P o env H (.str r):=by
 intro s m σ N a w rr;obtain⟨n,g⟩:=Qm7 i;have d:=Qo rr x;rw[hx]at d;have f:=Qo rr y;rw[hy]at f;have h:a.eval x=.string ⟨p.toArray⟩:=d;have j:a.eval y=.string ⟨q.toArray⟩:=f;have l:(⟨p.toArray⟩:ByteArray)++⟨q.toArray⟩=⟨r.toArray⟩:=by
  rw[<- g];rfl
 refine⟨.string ⟨r.toArray⟩,?_,rfl⟩;have e:¬((⟨p.toArray⟩:ByteArray).size+(⟨q.toArray⟩:ByteArray).size>IntKind.i64.max):=by
  have:IntKind.i64.max=9223372036854775807:=by decide
  grind[ByteArray.size]
 simp_all[eqGuard,execOp,binOp_string_add,Op.stringOp]
def Qen{α:Type}(n:Nat)(l:List α)(i:Int):Option α:=bif Nat.beq l.length n then idx l i else none
theorem Qbf{α:Type}{n:Nat}{l:List α}{i:Int}{x:α}(h:Qen n l i=some x):l.length=n/\idx l i=some x:=by
 grind[Qen,Nat.eq_of_beq_eq_true]
def arr{α:Type}(n:Nat)(l:List α):Option (List α):=bif Nat.beq l.length n then some l else none
theorem Qcf{α:Type}{n:Nat}{l l':List α}(h:arr n l=some l'):l.length=n/\l=l':=by
 grind[arr,Nat.eq_of_beq_eq_true]
theorem Qf9{α:Type}{n:Nat}{l l':List α}(h:arr n l=some l'):l'.length=n:=(Qcf h).2▸(Qcf h).1
section
variable {α:Type} {e:α->List A} {t et k n b:Nat} {x y:Operand} {l:List α}
theorem QaB{i:Int}{v:α}{m:IntKind}(h:Qen n l i=some v)(q:∀w,(underlying t).run P w=.ok (.array n et) w)(u:∀w,(sizeOf et).run P w=.ok k w)(s:Nat.ble 2 n=true)
  (z:o.op=.indexAddr t x y:=by exact rfl)(hx:opA env x=.ptr b 0:=by exact rfl)(hy:opA env y=.int m i:=by exact rfl):OpV P o env H (.ptr b (i.toNat*k)):=by
 intro J O σ N a w r;obtain⟨L,E⟩:=Qbf h;obtain⟨M,G⟩:=Qbe E;have B:i.toNat<l.length:=(by grind);have e:=Qo r x;rw[hx]at e;obtain⟨d,e,p⟩:=e;have j:=Qo r y;rw[hy]at j;have f:a.eval y=.int m i:=j;refine⟨.pointer (some ⟨d,i.toNat*k,none⟩),?_,d,e,rfl⟩;have F:0<=i/\i<n:=by omega
 have g:(⟨d,0,none⟩:Addr).add (i.toNat*k)=⟨d,i.toNat*k,none⟩:=by
  grind[Addr.add]
 generalize a.eval=ρ at*;simp[z,p,f,Instr.indexAt,q,u,F,go_sem]
theorem QiJ{a:List A}(m:H[b]?=some (.row t k (l.map e)):=by exact rfl)(hcs:(l.map e).flatten=a:=by exact rfl):Pts H (.ptr b 0) a:=by
 intro q p σ w v s h;obtain⟨i,j,d⟩:=h;obtain⟨n,f,g⟩:=s.blk b _ _ j m;refine⟨i,0,d,?_⟩;have:=(RR.flat (YL (pre:=[]) (by simpa using f) g)).1;subst hcs;exact this.lift
theorem QgP(a:∀x,(e x).length=k)(L:List α):(L.map e).flatten.length=L.length*k:=by
 induction L with
 |nil=>simp
 |cons c L ih=>grind
theorem Qhi{f:Nat}{l':List α}(h:arr n l=some l')(m:∀x,(e x).length=k)(a:n*k=f)(i:∀w,(isAgg t).run P w=.ok true w)(j:∀w,(sizeOf t).run P w=.ok f w){T:Nat}
  (g:o.op=.load t x:=by exact rfl)(hx:opA env x=.ptr b 0:=by exact rfl)(hH:H[b]?=some (.row T k (l.map e)):=by exact rfl):OpV P o env H (.agg (l'.map e).flatten):=by
 obtain⟨p,rfl⟩:=Qcf h;have d:=QgP m l;rw[p,a]at d;exact Qdd g i j hx (QiJ hH rfl) (by grind) d
theorem QjA{r:Nat}{n2 T:Nat}(j:l.length=n)(g:∀x,(e x).length=k)(h:n*k=n2)(a:∀w,(isAgg t).run P w=.ok true w)(d:∀w,(sizeOf t).run P w=.ok n2 w)
  (f:lk env r=.ptr b 0:=by exact rfl)(hH:H[b]?=some (.row T k (l.map e)):=by exact rfl):QcJ P env H (.cell r t) (.agg (l.map e).flatten):=by
 have i:=QgP g l;have:=Qdx a d (QiJ hH rfl) f (by grind)
 grind
theorem Qhg{c:List A}{k:Nat}(h:c.length=k):∀n,allK k (List.replicate n c)
 |0=>trivial
 |n+1=>⟨h,Qhg h n⟩
theorem QcP{vs:Array Value}{z:α}(s:∀w,(zeroValue t).run P w=.ok (.agg vs) w)(p:(YE (List.replicate n (e z)).flatten).toArray=vs)(i:QfO (List.replicate n (e z)).flatten=true)(j:(List.replicate n (e z)).flatten.all Yq=true)(l:Nat.beq (e z).length k=true)
  (q:o.op=.alloc t:=by exact rfl):OpH P o env H (.ptr H.length 0) (H++[.row t k ((List.replicate n z).map e)]):=by
 intro u g σ N a w r;have f:LR g [] w (List.replicate n (e z)).flatten (YE (List.replicate n (e z)).flatten):=QeY i;have d:=r.sim.allocRow (t:=t) (rest:=[]) (Qhg (XP l) n) f (f.plain j);rw[Ve]at d;have h:(List.replicate n z).map e=List.replicate n (e z):=List.map_replicate;refine⟨.pointer (some ⟨w.heap.size,0,none⟩),w.alloc (.cells (YE (List.replicate n (e z)).flatten).toArray t),g,[some w.heap.size],?_,⟨w.heap.size,?_,rfl⟩,h▸d,Qh.alloc _ r.sim.roLt r.sim.frLt⟩
 .have m:(newVar t (.agg vs)).run P w=.ok ⟨w.heap.size,0,none⟩ (w.alloc (.cells vs t)):=rfl
  simp_all[execOp,Instr.alloc]
 .rw[<- r.sim.len];simp
theorem QcO{T n2:Nat}{l':List α}{vs:List A}(h:l.length=n)(h':l'.length=n)(hk:∀x,(e x).length=k)(E:n*k=n2)(hs:∀w,(sizeOf t).run P w=.ok n2 w)
  (hp:∀x,(e x).all Yq=true)(hd:∀x,Yv (e x)=true)(s:(l'.map e).flatten=vs)
  (ho:o.op=.store t x y:=by exact rfl)(F:opA env x=.ptr b 0:=by exact rfl)(hH:H[b]?=some (.row T k (l.map e)):=by exact rfl)(u:opA env y=.agg vs:=by exact rfl):
  OpU P o env H (H.set b (.row T k (l'.map e))):=by
 intro fr X σ N a w r;subst s;have i:=Qo r x;rw[F]at i;obtain⟨bb,i,h2⟩:=i;have O:=Qo r y;rw[u]at O;obtain⟨m,h4,p⟩:=O;obtain⟨z,R,Y⟩:=r.sim.blk b _ _ i hH;have M:∀(L:List α),allK k (L.map e):=by
  intro L
  induction L with
  |nil=>trivial
  |cons c L j=>exact⟨hk c,j⟩
 have J:(l'.map e).flatten.length=n2:=by grind[YS]
 have W:m.length=n2:=by rw[p.length,J]
 have g:∀L:List α,(L.map e).flatten.all Yq=true:=by
  grind
 have q:∀f ds:List A,Yv f=true->Yv ds=true->Yv (f++ds)=true:=by
  intro f
  induction f with
  |nil=>simp
  |cons c f j=>
   simp_all[Yv]
 have B:∀L:List α,Yv (L.map e).flatten=true:=by
  intro L
  induction L with
  |nil=>rfl
  |cons c L j=>exact q _ _ (hd c) j
 have hlen:=by
  have:=Y.length;rw[X0,h,E]at this;exact this
 have Q:=YD (P:=P) (vs:=m) 0 0 R (by omega) (p.plain (g l'));have V:splice z 0 m=m++z.drop n2:=by unfold splice;simp[W]
 have d:=r.sim.set (x':=.row T k (l'.map e)) (obj:=.cells (splice z 0 m).toArray T (0,0)) i hH rfl
  (λy u=>Qay R (Yy (by omega)) y u)
  (λex G=>by
   have F:=(p.data (B l')).mono ex.nil;exact⟨_,G,Qad (M l') F (p.plain (g l'))⟩)
 refine⟨_,X,[],?_,by simpa using d.1,d.2⟩
 simp_all[Value.cells,storeVar,execOp,Instr.storeAt,Instr.sureAddr]
end
end
theorem C.contains{P:Program}{ρ:Ren}(L:Lays.n144 P ρ)(hg:ρ.g 1=Qi9){s t:List UInt8}{r:Bool}(h:Qep s t=some r):C P (ρ.f 144) [.str s,.str t] [] (λa H=>a=.bool r/\H=[]):=by
 unfold Qep at h;cases q:Nat.blt s.length 4294967281 with
 |false=>grind
 |true=>
  rw[q]at h;obtain rfl:=XY h;intro u j σ vals w sim hv;obtain⟨p,y,rfl,k,z,i,rfl,d,l⟩:=hv;cases(show i=[]from l);obtain⟨m,x⟩:=sim.roOk.gp.max;have e1:=k;have e2:=d;subst e1 e2;have hs:=by simpa using q
  refine(Any.strings_Contains L ⟨s.toArray⟩ ⟨t.toArray⟩ m w (by simpa[ByteArray.size]using hs) (by grind)).mono ?_;rintro e n ⟨rfl,rfl⟩;exact⟨_,_,_,j,[],rfl,⟨rfl,rfl⟩,by grind,rfl,Qh.refl _ _ _⟩
section
variable {P:Program} {o:Oper} {env:Env} {H:Qd} {fr ro:Nat->Prop} {σ:Sig} {w:World}
theorem Sim.touch(s:Sim fr ro σ H w){b:Nat}{obj:Obj}(p:¬ro b)(n:¬fr b)(t:∀(i:Nat) (x:Blk),σ[i]?=some (some b)->H[i]?=some x->x.live=true->False)
  (k:∀(i d:Nat) (x:Blk),σ[i]?=some (some d)->H[i]?=some x->Hid w x d b->False)
  (m:∀y,w.shape? b=some y->{w with heap:=w.heap.setIfInBounds b obj}.shape? b=some y):
  Sim fr ro σ H {w with heap:=w.heap.setIfInBounds b obj}/\Qh fr ro w ro {w with heap:=w.heap.setIfInBounds b obj}:=by
 have a:{w with heap:=w.heap.setIfInBounds b obj}.heap.size=w.heap.size:=by simp
 have ev:Qh fr ro w ro {w with heap:=w.heap.setIfInBounds b obj}:=
  ⟨λ_ h=>h,(by grind),(by grind),by omega,by
   grind[World.shape?],rfl,rfl,rfl,XS _⟩
 refine⟨⟨s.len,s.roOk.to (λ_ q=>q) ev.keepRo (λc h=>by rw[a];exact s.roLt c h),λc h=>by rw[a];exact s.frLt c h,s.roFr,?_,s.inj,?_,s.hidTo (· = ·) Q7 (by omega) (by simp) (by simp) λj d y g l u=>.inl ⟨j,y,rfl,g,l,id,λc q=>s.hidKeep g l (by grind) ev.keepRo q⟩⟩,ev⟩
 .intro i c x f e r;rw[a];exact s.own i c x f e r
 .intro i y x f e;refine(s.blk i y x f e).keep (ev.ext0 σ) ?_ ?_
  .grind
  grind
theorem QjM{T E i n t:Nat}{x:Operand}{es:List (List A)}(ht:P.underlying T=some (.slice E))(hE:P.underlying E=some (.int .u8))(hn:es.length=n)(h0:Nat.blt 0 n=true)
  (ho:o.op=.convert T T x:=by exact rfl)(hx:opA env x=.osl i 0 n 1:=by exact rfl)(hH:H[i]?=some (.row t 1 es):=by exact rfl):
  OpH P o env H (.rsl 1 es) (H.set i .dead):=by
 intro fr M σ N a w r;subst hn;have s:=Qo r x;rw[hx]at s;rcases s with⟨hz,_⟩|⟨b,p,G,t',m,s,X,Y,⟨h3,aa⟩,h4,h5⟩
 .simp_all
 .have W:0<es.length:=by simp_all
  obtain rfl:=Y (by omega);obtain⟨hb,F,g⟩:=r.sim.own i b _ s hH rfl;obtain⟨l,q1,q2⟩:=r.sim.blk i _ _ s hH;have V:=r.sim.kill i;have f:∀(j:Nat) (y:Blk),σ[j]?=some (some b)->(H.set i .dead)[j]?=some y->y.live=true->False:=by
   intro j y u e B;by_cases q:j=i
   .subst q;rw[Xb]at e;simp only[if_true]at e
    grind[Blk.live]
   .rw[XO (λz=>q z.symm)]at e;exact q (r.sim.inj j i b y _ u s e hH B rfl)
  have L:∀(j d:Nat) (y:Blk),σ[j]?=some (some d)->(H.set i .dead)[j]?=some y->Hid w y d b->False:=by
   intro j d y u e B;by_cases q:j=i
   .subst q;rw[Xb]at e;simp only[if_true]at e;split at e
    .cases e;exact B.elim
    .simp at e
   .rw[XO (λz=>q z.symm)]at e;exact(r.sim.hid j d y b u e B).ne i b _ s hH rfl rfl
  let fz:Nat×Nat:=(l.length,l.length+1)
  have O:∀y,w.shape? b=some y->({w with heap:=w.heap.setIfInBounds b (.cells l.toArray t fz)}:World).shape? b=some y:=by
   simp_all[World.shape?]
  obtain⟨s2,k⟩:=V.touch (obj:=.cells l.toArray t fz) F g f L O;have s3:=s2.addRo (b:=b) (by grind) g f (λj d y u e B=>L j d y u e (V.hidKeep u e (by grind) k.keepRo B));have h:({w with heap:=w.heap.setIfInBounds b (.cells l.toArray t fz)}:World).heap[b]?=some (.cells (([]:List Value)++l).toArray t fz):=by
   grind
  have J:Ext M [] w M [] {w with heap:=w.heap.setIfInBounds b (.cells l.toArray t fz)}:=k.ext0 [];refine⟨.slice (some ⟨b,0*1,none⟩) es.length G,_,λc=>M c\/c=b,[],?_,?_,by grind,k.trans (Q1 λ_ q=>.inl q)⟩
  .have hf:w.freeze ⟨b,l.length,none⟩ 1={w with heap:=w.heap.setIfInBounds b (.cells l.toArray t fz)}:=by
    unfold World.freeze;simp only[Nat.one_ne_zero,if_false];rw[Qc2 q1];rfl
   have Q:(markStringish ⟨b,0*1,none⟩).run P w=.ok () {w with heap:=w.heap.setIfInBounds b (.cells l.toArray t fz)}:=by
    simp_all[markStringish,World.shape?]
   have hu:∀w,(underlying T).run P w=.ok (.slice E) w:=run_underlying ht;have R:∀w,(underlying E).run P w=.ok (.int .u8) w:=run_underlying hE;generalize a.eval=ρ at*;simp only[execOp,ho,X,convert,Vk,hu,R,Result.andThen,beq_self_eq_true,Q,Vl]
  .refine⟨some ⟨b,0*1,none⟩,G,rfl,h3,.inr ⟨b,0*1,rfl,.inr rfl,?_⟩⟩;have:=YL (pre:=[]) h (q2.mono J);exact(by omega:RR M [] _ b 1 es (0*1)).keep ⟨λ_ q=>.inl q,λ_ _=>rfl,λ_ _ q=>q,λ_ _ q=>q⟩ rfl
end
mutual
theorem QcZ(ρ:Nat->Nat):∀{a:A},Yo a=true->YF ρ a=a
 |.any,_=>rfl
 |.bool _,_=>rfl
 |.int _ _,_=>rfl
 |.str _,_=>rfl
 |.nilp,_=>rfl
 |.ptr _ _,h=>by simp[Yo]at h
 |.rp _,_=>rfl
 |.nils,_=>rfl
 |.rsl _ _,_=>rfl
 |.osl _ _ _ _,h=>by simp[Yo]at h
 |.agg cs,h=>by simp only[Yo]at h;simp only[YF,Qab ρ h]
 |.fn f a c,h=>by simp only[Yo,XV]at h;simp only[YF,Qab ρ h.1,Qab ρ h.2]
 |.nilf,_=>rfl
 |.iface t a,h=>by simp only[Yo]at h;simp only[YF,QcZ ρ h]
 |.nilif,_=>rfl
 |.map _,h=>by simp[Yo]at h
 |.nilm,_=>rfl
 |.tup vs,h=>by simp only[Yo]at h;simp only[YF,Qab ρ h]
theorem Qab(ρ:Nat->Nat):∀{l:List A},Yv l=true->Qag ρ l=l
 |[],_=>rfl
 |a::l,h=>by simp only[Yv,XV]at h;simp only[Qag,QcZ ρ h.1,Qab ρ h.2]
end
theorem Qfr{α:Type}{e:α->List A}(a:∀x,Yv (e x)=true):∀L:List α,Yv (L.map e).flatten=true
 |[]=>rfl
 |c::L=>by
  have hdt:∀cs ds,Yv cs=true->Yv ds=true->Yv (cs++ds)=true:=by
   intro cs
   induction cs with
   |nil=>simp
   |cons c cs d=>
    simp_all[Yv]
  exact hdt _ _ (a c) (Qfr a L)
theorem QlA{α:Type}{e:α->List A}(hd:∀x,Yv (e x)=true)(ρ:Nat->Nat)(l:List α):YF ρ (.agg (l.map e).flatten)=.agg (l.map e).flatten:=
 QcZ ρ (by exact Qfr hd l)
end Go.Sw
namespace Go.Sw
section
variable {P:Program} {o:Oper} {env:Env} {H:Qd}
theorem QdT{c:Call}{f T:Nat}{x:Operand}{xs:List Operand}{i:Array TypeId}{d:String}{v:A}{args:List A}(e:∀(a:Array Value) (w:World),(callFunc f a).run P w=.ok (.enter f a) w)(l:o.op=.call c)
  (n:c={callee:=.invoke x d,args:=xs.toArray,argTypes:=i})(j:opA env x=.iface T v)(hargs:v::xs.map (opA env)=args)
  (k:∀(u:Value) (w:World),(method (P.types.size+Made.depth) T u d).run P w=.ok (f,u) w):OpC P o env H f args:=by
 intro p m σ N a w r;have g:=Qo r x;rw[j]at g;obtain⟨u,g,h⟩:=g;refine⟨u::xs.map a.eval,?_,hargs▸⟨u,xs.map a.eval,rfl,h,Qa7 r xs⟩⟩
 simp_all[VE,callMethod,execOp,resolve,invoke]
theorem Qbj{T I:Nat}{x:Operand}{v:A}{d:TypeDesc}(i:∀w,(underlying T).run P w=.ok d w)(g:∀m,d≠ .interface m)(j:o.op=.typeAssert x I T true:=by exact rfl)(hx:opA env x=.iface T v:=by exact rfl):
  OpV P o env H (.tup [v,.bool true]):=by
 intro k h σ N a w r;have e:=Qo r x;rw[hx]at e;obtain⟨u,e,f⟩:=e;refine⟨.tuple #[u,.bool true],?_,[u,.bool true],rfl,_,_,rfl,f,_,_,rfl,rfl,rfl⟩
 simp_all[execOp,Instr.typeAssert]
theorem Qgc{T T' I:Nat}{x:Operand}{v z:A}{zv:Value}{d:TypeDesc}(j:∀w,(underlying T).run P w=.ok d w)(i:∀m,d≠ .interface m)(g:Nat.beq T' T=false)(p:∀w,(zeroValue T).run P w=.ok zv w)(f:ZR z zv)
  (k:o.op=.typeAssert x I T true:=by exact rfl)(hx:opA env x=.iface T' v:=by exact rfl):
  OpV P o env H (.tup [z,.bool false]):=by
 intro s n σ N a w r;have e:=Qo r x;rw[hx]at e;obtain⟨u,e,h⟩:=e;have l:T'≠T:=λq=>by simp_all
 refine⟨.tuple #[zv,.bool false],?_,[zv,.bool false],rfl,_,_,rfl,f _ _ _,_,_,rfl,rfl,rfl⟩
 simp_all[execOp,Instr.typeAssert]
end
def TL(P:Program)(h0 N:Nat)(c:Code)(env:Env)(H:Qd)(Q:QE):Prop:=
 ∀rd fr ro σ a w,Rel fr ro σ H env N a w->QdF rd fr w->∀(b:Frame) (k:List Item) (cs:List Frame),b.roundOf=(WF rd).round->(WF rd).fn b.fn->(WF rd).room (cs.length+1+0)->∃e a' w',Qap h0 fr ro σ w N a.defers Q e a' w'/\ArrivesIn (Machine.fenced P (WF rd)) P (lone (b.atR a (.code c::.inLoop c::k)) cs w) b k cs e a' w'
def Qh1(P:Program)(h0 N:Nat)(c:Code)(Q:QE):QE
 |.normal,env,H=>TL P h0 N c env H Q
 |.exit id,env,H=>Q (.exit id) env H
 |.ret,env,H=>Q .ret env H
section
variable {P:Program} {h0 N:Nat} {c:Code} {env:Env} {H:Qd} {Q:QE}
theorem Qk5(h:TL P h0 N c env H Q):TC P h0 N (.loop c) env H Q:=by
 intro j m l σ a w r hrd b k cs hro hb hr;obtain⟨e,f,g,i,d⟩:=h j m l σ a w r hrd b k cs hro hb hr;exact⟨e,f,g,i,.of_steps (.one (fenced_calm hb hr rfl) stepR_loop) d⟩
theorem TL.round(h:TC P h0 N c env H (Qh1 P h0 N c Q)):TL P h0 N c env H Q:=by
 intro y z E σ a w r hrd b k cs hro hb hr;obtain⟨e,m,l,J,d⟩:=h y z E σ a w r hrd b (.inLoop c::k) cs hro hb hr;obtain⟨x,f,H',i,σ',j,n,p,B,s,F,t⟩:=J;have G:∀x,Q x f H'->ExR e x->Qap h0 z E σ w N a.defers Q e m l:=λx q O=>⟨x,f,H',i,σ',j,O,q,B,s,F,t⟩;cases e with
 |normal=>
  obtain rfl:x=.normal:=n;obtain⟨R,M,L,u,g⟩:=p y j i σ' m l B (hrd.to s t.sub) b k cs hro hb hr;exact⟨R,M,L,u.grow s F t,.of_steps (StepsIn.trans d (.one (fenced_calm hb hr rfl) stepR_inLoop)) g⟩
 |exit id=>
  obtain rfl:x=.exit id:=n;exact⟨_,m,l,G _ p rfl,.pass rfl (by simp) d⟩
 |ret=>
  obtain rfl:x=.ret:=n;exact⟨_,m,l,G _ p rfl,.pass rfl (by simp) d⟩
 |_=>exact n.elim
theorem unrN(h:TC P h0 N c env H (Qh1 P h0 N c Q)):Qh1 P h0 N c Q .normal env H:=TL.round h
theorem unrX{id:Nat}(h:Q (.exit id) env H):Qh1 P h0 N c Q (.exit id) env H:=h
theorem unrR(h:Q .ret env H):Qh1 P h0 N c Q .ret env H:=h
theorem Qjx(h:TC P h0 N c env H (Qh1 P h0 N c Q)):TC P h0 N (.loop c) env H Q:=Qk5 (TL.round h)
end
section
variable {P:Program} {o:Oper} {env:Env} {H:Qd}
theorem OpV.ixL{t a k b n j:Nat}{x y:Operand}{e:IntKind}{i:Int}(l:Nat.blt j n=true)(hi:i=j)(f:∀w,(underlying t).run P w=.ok (.slice a) w)(d:∀w,(sizeOf a).run P w=.ok k w)
  (g:o.op=.indexAddr t x y:=by exact rfl)(hx:opA env x=.osl b 0 n k:=by exact rfl)(hy:opA env y=.int e i:=by exact rfl):OpV P o env H (.ptr b (j*k)):=by
 have h:=QiK (H:=H) g f d hx hy (by omega) (by simp_all)
 grind
end
section
variable {P:Program} {o:Oper} {env:Env} {H:Qd}
end
def Qkl{α R:Type}[DecidableEq R](l:List α)(x y:Option R):Option R:=bif l.isEmpty then(bif decide (x=y)then x else none)else y
theorem Qkk{α R:Type}[DecidableEq R]{l:List α}{x y:Option R}{r:R}(h:Qkl l x y=some r)(b:Bool)(a:l≠[]->b=false):(b=true->x=some r)/\(b=false->y=some r):=by
 unfold Qkl at h
 grind
section
variable {P:Program} {o:Oper} {env:Env} {H:Qd} {h0 N:Nat} {Q:QE}
end
section
variable {P:Program} {o:Oper} {env:Env} {H:Qd} {α:Type} {e:α->List A} {T et k b t:Nat} {x y:Operand} {l l':List α} {i:Int}
end
open Go.Sort Go.Proofs Go.Shelf
theorem Qgb{ro:Nat->Prop}{σ:Sig}{w:World}:∀{l:List Int} {lv:List Value},RL ro σ w 1 (l.map λx=>[A.int .i64 x]) lv->∃rest,lv=l.map (Value.int .i64)++rest
 |[],lv,_=>⟨lv,rfl⟩
 |x::l,lv,h=>by
  obtain⟨l1,l2,rfl,h1,⟨h2,h3⟩,h4⟩:=h;obtain⟨rest,rfl⟩:=Qgb h4;obtain⟨v,r,rfl,hv,hr⟩:=h2;cases(show r=[]from hr);exact⟨rest,by rw[show v=.int .i64 x from hv];simp⟩
section
variable {P:Program} {o:Oper} {env:Env} {H:Qd} {α:Type} {e:α->List A} {T et k b t:Nat} {x y:Operand}
theorem QbU{lo hi:Option Operand}{l r:List α}{a c:Int}(h:slc l a c=some r)(E1:∀w,(underlying T).run P w=.ok (.slice et) w)(E2:∀w,(sizeOf et).run P w=.ok k w)
  (e:lo=none/\a=0\/ ∃y,lo=some y/\opA env y=.int .i64 a)(d:hi=none/\c=l.length\/ ∃y,hi=some y/\opA env y=.int .i64 c)
  (f:o.op=.slice T x lo hi none:=by exact rfl)(hx:opA env x=.osl b 0 l.length k:=by exact rfl):OpV P o env H (.osl b (0+a.toNat) (c.toNat-a.toNat) k):=by
 obtain⟨i,j,g,_⟩:=QcW h;refine Qlf E1 E2 f hx ?_ ?_ (by omega) (by omega)
 .grind
 grind
theorem Qlb{l r:List α}{a c:Int}(h:slc l a c=some r)(d:H[b]?=some (.row t k (l.map e)):=by exact rfl):Src P H (.osl b (0+a.toNat) (c.toNat-a.toNat) k) k (r.map e):=by
 obtain⟨i,j,g,f⟩:=QcW h;refine Src.osl d ?_ (by grind);rw[<- f, <- List.map_drop, <- List.map_take,Xv,List.drop_take]
end
end Go.Sw
namespace Go.Sw
inductive Bx where
 |mk (a:A)
def lkB:Env->Nat->Bx
 |[],_=>.mk .any
 |(d,a)::r,s=>bif Nat.beq s d then .mk a else lkB r s
theorem QhD:∀{env:Env} {s:Nat} {a:A},lkB env s=.mk a->lk env s=a
 |[],s,a,h=>by cases h;rfl
 |(d,b)::r,s,a,h=>by
  unfold lkB at h;unfold lk;cases q:Nat.beq s d with
  |true=>grind
  |false=>rw[q]at h;exact QhD h
inductive FBy where
 |mk (l:List UInt8)
def fby:List UInt8->FBy
 |[]=>.mk []
 |a::r=>match fby r with
  |.mk r'=>.mk (a::r')
theorem Qkw:∀l,fby l=.mk l
 |[]=>rfl
 |a::r=>by unfold fby;rw[Qkw r]
def opB(env:Env):Operand->Bx
 |.tmp t=>lkB env t
 |.const (.bool b)=>.mk (.bool b)
 |.const (.int k n)=>.mk (.int k n)
 |.const (.string s)=>match fby s.data.toList with
  |.mk l=>.mk (.str l)
 |.const (.pointer none)=>.mk .nilp
 |.const (.slice none 0 0)=>.mk .nils
 |.const (.map none)=>.mk .nilm
 |.const .nilFunc=>.mk .nilf
 |.const .nilIface=>.mk .nilif
 |.func f=>.mk (.fn (.func f) [] [])
 |_=>.mk .any
theorem QN{env:Env}{x:Operand}{a:A}(h:opB env x=.mk a):opA env x=a:=by
 cases x with
 |tmp t=>exact QhD h
 |const v=>
  cases v with
  |slice b n k=>cases b with
   |none=>cases n with
    |zero=>cases k<;>(cases h;rfl)
    |succ n=>cases h;rfl
   |some b=>cases h;rfl
  |pointer p=>cases p<;>(cases h;rfl)
  |map p=>cases p<;>(cases h;rfl)
  |string s=>
   have d:(match fby s.data.toList with|.mk l=>Bx.mk (.str l))=.mk a:=h;rw[Qkw]at d;cases d;rfl
  |_=>cases h;rfl
 |global g=>cases h;rfl
 |func f=>cases h;rfl
def YG{α:Type}:List α->Nat->Option α
 |[],_=>none
 |a::_,0=>some a
 |_::r,n+1=>YG r n
theorem Qax{α:Type}:∀(l:List α) (n:Nat),YG l n=l[n]?
 |[],n=>by simp[YG]
 |a::r,0=>rfl
 |a::r,n+1=>by simp[YG,Qax r n]
def arB:BinOp->IntKind->Int->Int->Option A
 |.add,k,m,n=>some (.int k (k.wrap (m+n)))
 |.sub,k,m,n=>some (.int k (k.wrap (m-n)))
 |.mul,k,m,n=>some (.int k (k.wrap (m*n)))
 |.eql,_,m,n=>some (.bool (m==n))
 |.neq,_,m,n=>some (.bool (m != n))
 |.lss,_,m,n=>some (.bool (decide (m<n)))
 |.leq,_,m,n=>some (.bool (decide (m<=n)))
 |.gtr,_,m,n=>some (.bool (decide (n<m)))
 |.geq,_,m,n=>some (.bool (decide (n<=m)))
 |_,_,_,_=>none
def srB:BinOp->List UInt8->List UInt8->Option A
 |.eql,p,q=>some (.bool (p==q))
 |.neq,p,q=>some (.bool (p != q))
 |.lss,p,q=>some (.bool (Op.bytesLess p q))
 |_,_,_=>none
def biB(b:BinOp):Bx->Bx->Option A
 |.mk (.int k m),.mk (.int k' n)=>if k=k' then arB b k m n else none
 |.mk (.str p),.mk (.str q)=>srB b p q
 |_,_=>none
def unB:UnOp->Bx->Option A
 |.not,.mk (.bool b)=>some (.bool !b)
 |.neg,.mk (.int k n)=>some (.int k (k.wrap (0-n)))
 |_,_=>none
def exB:Bx->Nat->Option A
 |.mk (.tup vs),i=>YG vs i
 |_,_=>none
def nlB:Bx->Option A
 |.mk (.ptr i j)=>some (.ptr i j)
 |.mk (.rp cs)=>some (.rp cs)
 |_=>none
def piB:Bx->Bx->Bx->Option A
 |.mk (.bool true),.mk a,_=>some a
 |.mk (.bool false),_,.mk a=>some a
 |_,_,_=>none
def svB(env:Env):Op->Option A
 |.move x=>match opB env x with|.mk a=>some a
 |.assign x=>match opB env x with|.mk a=>some a
 |.nilCheck x=>nlB (opB env x)
 |.extract x i=>exB (opB env x) i
 |.unOp u _ x=>unB u (opB env x)
 |.pick c x y=>piB (opB env c) (opB env x) (opB env y)
 |.binOp b _ x y _=>biB b (opB env x) (opB env y)
 |_=>none
def pr(d:Nat):Option A->Option (Nat×A)
 |some a=>some (d,a)
 |none=>none
def stB(o:Oper)(env:Env):Option (Nat×A):=
 match o.dst with
 |some d=>pr d (svB env o.op)
 |none=>none
section
variable {P:Program} {h0 N:Nat} {all:Array Oper} {o:Oper} {l:List Oper} {env:Env} {H H':Qd} {Q:QE} {d:Nat} {x:A}
theorem Qbw{p:Op}(g:o.op=p)(h:svB env p=some x):OpV P o env H x:=by
 unfold svB at h;split at h
 .rename_i y;cases q:opB env y with|mk a=>simp_all[OpV.move,QN]
 .rename_i y;cases q:opB env y with|mk a=>simp_all[OpV.assign,QN]
 .rename_i y;unfold nlB at h;split at h
  .rename_i i j q;cases h;exact QeR g (QN q) rfl
  .rename_i w q;cases h;exact QeR g (QN q) rfl
  .cases h
 .rename_i y i;unfold exB at h
  grind[Qax,OpV.extract,QN]
 .rename_i u t y;unfold unB at h
  grind[OpV.not,QN,OpV.neg]
 .rename_i c y z;unfold piB at h;split at h
  .rename_i a _ d f;cases h;exact OpV.pick g (QN d) (by rw[Vq rfl];exact QN f)
  .rename_i a d f;cases h;exact OpV.pick g (QN d) (by exact QN f)
  .cases h
 .rename_i b t y z u;unfold biB at h;split at h
  .rename_i k m s n d f;split at h
   .rename_i e;subst e;have r:=QN d;have l:=QN f;unfold arB at h
    grind[OpV.add,OpV.sub,OpV.mul,OpV.eql,OpV.neq,OpV.lss,OpV.leq,OpV.gtr,OpV.geq]
   .cases h
  .rename_i p q d f;have r:=QN d;have l:=QN f;unfold srB at h
   grind[QjF,QjC,QjD]
  .cases h
 .cases h
theorem Qj5(h:stB o env=some (d,x)):o.dst=some d/\OpV P o env H x:=by
 unfold stB at h;split at h
 .rename_i f q;cases e:svB env o.op with
  |none=>rw[e]at h;cases h
  |some a=>rw[e]at h;cases h;exact⟨q,Qbw rfl e⟩
 .cases h
theorem S(e:stB o env=some (d,x))(k:WO P h0 N all l (up env d x) H Q)(hg:QG all o env true:=by exact rfl)(hN:Nat.blt d N=true:=by exact rfl):WO P h0 N all (o::l) env H Q:=
 Y5 hg (Qj5 (P:=P) (H:=H) e).1 hN (Qj5 e).2 k
theorem K(hg:QG all o env false)(e:o.dst=some d)(k:WO P h0 N all l (up env d (.tup [])) H Q)(a:Nat.blt d N=true:=by exact rfl):WO P h0 N all (o::l) env H Q:=
 WO.skip hg e a k
inductive Lx where
 |mk (l:List A)
def Qha:Nat->List A->Lx
 |0,l=>.mk l
 |n+1,_::r=>Qha n r
 |_+1,[]=>.mk []
theorem QeH:∀{n:Nat} {l r:List A},Qha n l=.mk r->l.drop n=r
 |0,l,r,h=>by cases h;rfl
 |n+1,a::l,r,h=>by rw[List.drop_succ_cons];exact QeH h
 |n+1,[],r,h=>by cases h;rfl
def ctB:Option Blk->Nat->Option A
 |some (.cells _ cs),off=>YG cs off
 |_,_=>none
def lvB(H:Qd):Bx->Option A
 |.mk (.ptr i off)=>ctB (YG H i) off
 |.mk (.rp (a::_))=>some a
 |_=>none
def pr3(d t:Nat):Option A->Option (Nat×Nat×A)
 |some a=>some (d,t,a)
 |none=>none
def ldB(o:Oper)(env:Env)(H:Qd):Option (Nat×Nat×A):=
 match o.dst,o.op with
 |some d,.load t x=>pr3 d t (lvB H (opB env x))
 |_,_=>none
theorem Qkh{t:Nat}(l:∀w,(isAgg t).run P w=.ok false w)(h:ldB o env H=some (d,t,x)):o.dst=some d/\OpV P o env H x:=by
 unfold ldB at h;split at h
 .rename_i q s y n k;cases e:lvB H (opB env y)with
  |none=>rw[e]at h;cases h
  |some a=>
   rw[e]at h;cases h;refine⟨n,?_⟩;unfold lvB at e;split at e
   .rename_i i g j;unfold ctB at e;split at e
    .rename_i g u T0 T cs q4;rw[Qax]at e q4;obtain⟨f,p⟩:∃f,cs.drop g=x::f:=by
      have m:=(XK.1 e).1
      simp_all[Xp]
     exact OpV.load k l (QN j) (Pts.cells q4 p)
    .cases e
   .rename_i a r j;cases e;exact OpV.load k l (QN j) Pts.rp
   .cases e
 .cases h
theorem Ld{t:Nat}(a:∀w,(isAgg t).run P w=.ok false w)(e:ldB o env H=some (d,t,x))(k:WO P h0 N all l (up env d x) H Q)(hg:QG all o env true:=by exact rfl)(hN:Nat.blt d N=true:=by exact rfl):WO P h0 N all (o::l) env H Q:=
 Y5 hg (Qkh a e).1 hN (Qkh a e).2 k
def ixB(o:Oper)(env:Env):Option (Nat×Nat×Nat×List (List A)×IntKind×Int):=
 match o.dst,o.op with
 |some d,.indexAddr t x y=>match opB env x,opB env y with
  |.mk (.rsl k es),.mk (.int kk i)=>some (d,t,k,es,kk,i)
  |_,_=>none
 |_,_=>none
theorem Ix{α:Type}{e:α->List A}{t a k:Nat}{L:List α}{m:IntKind}{i:Int}{v:α}(h:idx L i=some v)(p:∀w,(underlying t).run P w=.ok (.slice a) w)(s:∀w,(sizeOf a).run P w=.ok k w)
  (q:ixB o env=some (d,t,k,L.map e,m,i))(k:WO P h0 N all l (up env d (.rp (e v))) H Q)(hg:QG all o env true:=by exact rfl)(hN:Nat.blt d N=true:=by exact rfl):WO P h0 N all (o::l) env H Q:=by
 unfold ixB at q;split at q
 .rename_i n r;split at q
  .rename_i g j;simp[Option.some.injEq,Prod.mk.injEq]at q;obtain⟨rfl,rfl,rfl,f,rfl,rfl⟩:=q;exact Y5 hg n hN (QcN h p s r (by rw[QN g,f]) (QN j)) k
  .cases q
 .cases q
def lnB(o:Oper)(env:Env):Option (Nat×Nat×Bx):=
 match o.dst,o.op with
 |some d,.call c=>match c with
  |{callee:=.builtin .len,args:=⟨[x]⟩,argTypes:=⟨[t]⟩}=>some (d,t,opB env x)
  |_=>none
 |_,_=>none
theorem QmT{t:Nat}{b:Bx}(q:lnB o env=some (d,t,b)):∃x,o.dst=some d/\o.op=.call {callee:=.builtin .len,args:= #[x],argTypes:= #[t]}/\opB env x=b:=by
 unfold lnB at q
 grind
theorem LnM{α:Type}{e:α->List A}{t h k:Nat}{L:List α}(f:∀w,(underlying t).run P w=.ok (.slice h) w)(q:lnB o env=some (d,t,.mk (.rsl k (L.map e))))
  (k:WO P h0 N all l (up env d (.int .i64 L.length)) H Q)(hg:QG all o env true:=by exact rfl)(hN:Nat.blt d N=true:=by exact rfl):WO P h0 N all (o::l) env H Q:=by
 obtain⟨x,g,i,a⟩:=QmT q;exact Y5 hg g hN (Qhj f i rfl (QN a)) k
end
section
variable {P:Program} {h0 N:Nat} {all:Array Oper} {env env':Env} {H H':Qd} {Q:QE} {c c':Code}
theorem Oi{α:Type}{x y:α}(h:some x=some y):x=y:=XY h
theorem Bd{α β:Type}{x:Option α}{f:α->Option β}{r:β}{G:Prop}(h:x.bind f=some r)(k:∀a,x=some a->f a=some r->G):G:=by
 obtain⟨a,e,d⟩:=YH h
 grind
theorem Cn{α:Type}{x:Operand}{t:Bool}{p q:Option α}{r:α}(hx:opB env x=.mk (.bool t))(h:(bif t then p else q)=some r)(ht:t=true->p=some r->TC P h0 N c env H Q)(hf:t=false->q=some r->TC P h0 N c' env H Q):TC P h0 N (.cond x c c') env H Q:=
 TC.cond (QN hx) (by grind) (by grind)
theorem Q5{α:Type}{x:Operand}{t:Bool}{p q:Option α}{r:α}(hx:opB env x=.mk (.bool t))(h:(bif t then p else q)=some r)(hf:t=false->q=some r->TC P h0 N c' env H Q)(ht:t=true->p=some r->TC P h0 N c env H Q):TC P h0 N (.cond x c c') env H Q:=
 TC.cond (QN hx) (by grind) (by grind)
theorem Lr(π:List Nat)(a:π.take h0=List.range h0:=by exact rfl)(hH:π.map (λp=>H[p]?)=(H'.map (QU (rho π H.length))).map some:=by exact rfl)(hπ:π.Nodup:=by decide)
  (hE:QbN (rho π H.length) env env':=by(repeat' (first|exact trivial|refine⟨rfl,?_⟩))):Le h0 env H env' H':=Qnf π a hH hπ hE
end
def Ev{α:Type}(f:Nat->Option α)(v:α):Prop:=∃N,∀n,N<=n->f n=some v
section
variable {α β:Type} {f g:Nat->Option α} {v w:α}
theorem Qa(v:α):Ev (λ_=>some v) v:=⟨0,λ_ _=>rfl⟩
theorem Ev.const{o:Option α}(h:o=some v):Ev (λ_=>o) v:=⟨0,λ_ _=>h⟩
theorem Ev.bind{k:Nat->α->Option β}{b:β}(h:Ev f v)(a:Ev (λn=>k n v) b):Ev (λn=>(f n).bind (k n)) b:=by
 obtain⟨N,h⟩:=h;obtain⟨M,a⟩:=a;exact⟨max N M,λn d=>by grind⟩
theorem QO{o:Option α}{k:Nat->α->Option β}{b:β}(h:o=some v)(hk:Ev (λn=>k n v) b):Ev (λn=>o.bind (k n)) b:=Ev.bind (Ev.const h) hk
theorem QaI{c:Bool}(a:c=true->Ev f v)(d:c=false->Ev g w):Ev (λn=>bif c then f n else g n) (bif c then v else w):=by
 cases c with
 |true=>exact a rfl
 |false=>exact d rfl
theorem QeZ(h:Ev f v):Ev (λn=>bif true then f n else g n) v:=h
theorem Qs(h:Ev g v):Ev (λn=>bif false then f n else g n) v:=h
theorem Ev.and{c d:Bool}{h:Nat->Option Bool}(a:c=true->Ev h d):Ev (λn=>bif c then h n else some false) (c&&d):=by
 cases c with
 |true=>exact a rfl
 |false=>exact Qa _
theorem Ql{c d:Bool}{h:Nat->Option Bool}(a:c=false->Ev h d):Ev (λn=>bif c then some true else h n) (c||d):=by
 cases c with
 |true=>exact Qa _
 |false=>exact a rfl
theorem Ev.eq(h:Ev f v)(e:v=w):Ev f w:=e▸h
theorem Qlk(h:Ev f v)(e:∀n,g n=f n):Ev g v:=by
 obtain⟨N,h⟩:=h;exact⟨N,λn a=>by grind⟩
theorem Yx(h:Ev (λn=>f (n+1)) v):Ev f v:=by
 obtain⟨N,h⟩:=h;refine⟨N+1,λn a=>?_⟩;obtain⟨m,rfl⟩:∃m,n=m+1:=⟨n-1,by omega⟩
 grind
theorem Ev.ex(h:Ev f v):∃n,f n=some v:=let⟨N,h⟩:=h;⟨N,h N (XS _)⟩
theorem Qmi(h:Ev f v)(k:Ev f w):v=w:=by
 obtain⟨N,h⟩:=h;obtain⟨M,k⟩:=k;have a:=h (max N M) (by omega)
 grind
theorem Ev.all{k:Nat}{F:Nat->Nat->Option α}{V:Nat->α}(h:∀i,i<k->Ev (F i) (V i)):∃N,∀n,N<=n->∀i,i<k->F i n=some (V i):=by
 induction k with
 |zero=>simp
 |succ k a=>
  obtain⟨N,g⟩:=a (by grind);obtain⟨M,d⟩:=h k (by omega);refine⟨max N M,λn f i e=>?_⟩
  grind
end
section
variable {S B α:Type} {step:Nat->S->Option (Ctl S B)}
theorem Ev.iter{s0:S}(a:Nat->S)(k:Nat){b:B}(d:a 0=s0)(g:∀i,i<k->Ev (λn=>step n (a i)) (.cont (a (i+1))))(e:Ev (λn=>step n (a k)) (.done b)):
  Ev (λn=>Go.Sw.iter (step n) n s0) b:=by
 obtain⟨N,j⟩:=Ev.all g;obtain⟨M,f⟩:=e;exact⟨max (max N M) (k+1),λn h=>Qkj s0 a b k d (by grind) (f n (by omega)) n (by omega)⟩
theorem QbX{step:S->Option (Ctl S B)}{s:S}{b:B}(m:Nat)(h:Go.Sw.iter step m s=some b):Ev (λn=>Go.Sw.iter step n s) b:=by
 have mono:∀m s,Go.Sw.iter step m s=some b->∀n,m<=n->Go.Sw.iter step n s=some b:=by
  intro m
  induction m with
  |zero=>intro s h;cases h
  |succ m e=>
   intro s h n d;obtain⟨a,rfl⟩:∃a,n=a+1:=⟨n-1,by omega⟩
   grind[Go.Sw.iter]
 exact⟨m,(by grind)⟩
structure At (l:List α) (i:Nat) (x:α):Prop where
 get:l[i]?=some x
 lt:decide ((i:Int)<(l.length:Int))=true
 ix:idx l (i:Int)=some x
 nx:IntKind.i64.wrap ((i:Int)+1)=((i+1:Nat):Int)
theorem Y7{l:List α}{i:Nat}{x:α}(a:l.length<=4611686018427387904)(h:l[i]?=some x):At l i x:=by
 have d:=(XK.1 h).1;exact⟨h,(by grind),Qt h,QV (by omega)⟩
theorem At.mem{l:List α}{i:Nat}{x:α}(h:At l i x):x∈l:=VD h.get
theorem At.lt'{l:List α}{i:Nat}{x:α}(h:At l i x):i<l.length:=(XK.1 h.get).1
theorem At.take{l:List α}{i:Nat}{x:α}(h:At l i x):l.take (i+1)=l.take i++[x]:=by
 rw[List.take_add_one,h.get];rfl
theorem Qa4(l:List α):decide ((l.length:Int)<(l.length:Int))=false:=(by simp)
theorem YX{s0:S}(l:List α)(q:α->Bool)(a:Nat->S)(r b:B)(m:l.length<=4611686018427387904)(p:a 0=s0)
  (t:∀i x,At l i x->q x=false->Ev (λn=>step n (a i)) (.cont (a (i+1))))
  (f:∀i x,At l i x->q x=true->Ev (λn=>step n (a i)) (.done r))
  (s:Ev (λn=>step n (a l.length)) (.done b)):Ev (λn=>Go.Sw.iter (step n) n s0) (bif l.any q then r else b):=by
 have d:∀k,k<=l.length->(∀i x,l[i]?=some x->i<k->q x=false)\/ ∃i x,l[i]?=some x/\i<k/\q x=true/\ ∀j y,l[j]?=some y->j<i->q y=false:=by
  intro k
  induction k with
  |zero=>simp
  |succ k F=>
   grind
 rcases d l.length (XS _)with h|⟨i,x,u,z,w,E⟩
 .have:l.any q=false:=by
   rw[VI];intro e;obtain⟨x,f,e⟩:=Xt.1 e;obtain⟨i,g,rfl⟩:=List.getElem_of_mem f
   grind
  rw[this];exact Ev.iter a l.length p (λi g=>t i _ (Y7 m (XJ g)) (by grind)) s
 .have:l.any q=true:=(by grind);rw[this];refine Ev.iter a i p (λj G=>?_) (f i x (Y7 m u) w)
  grind[Y7]
theorem Js{β:Type}{s0:S}(l:List α)(g:β->α->β)(d:β)(f:β->Nat->S)(e:β->B)(k:l.length<=4611686018427387904)(q:f d 0=s0)
  (m:∀i x a,At l i x->a=(l.take i).foldl g d->Ev (λn=>step n (f a i)) (.cont (f (g a x) (i+1))))
  (p:Ev (λn=>step n (f (l.foldl g d) l.length)) (.done (e (l.foldl g d)))):Ev (λn=>Go.Sw.iter (step n) n s0) (e (l.foldl g d)):=by
 refine Ev.iter (λi=>f ((l.take i).foldl g d) i) l.length (by grind) (λi j=>?_) (by grind);have h:=Y7 k (XJ j);have:=m i _ _ h rfl;rw[h.take,List.foldl_append];exact this
theorem Ev.contains(l:List α)(q:α->Bool)(g:Nat->α->Option Bool)(f:l.length<=4611686018427387904)(hg:∀x∈l,Ev (λn=>g n x) (q x)):
  Ev (λn=>(((Go.Sw.iter (λs:Int=>bif decide (s<(l.length:Int))then(idx l s).bind λx=>(g n x).bind λr=>(bif r then some (Ctl.done (Ctl.done s))else some (Ctl.cont (IntKind.i64.wrap (s+1))))else some (Ctl.done (Ctl.cont ()))) n (0:Int):Option (Ctl Unit Int)).bind λb=>
   match b with
   |.cont _=>some (-1)
   |.done s=>some s):Option Int).bind λr=>some (decide (0<=r))) (l.any q):=by
 cases e:l.any q with
 |false=>
  refine Ev.bind (v:=(-1:Int)) (Ev.bind (v:=Ctl.cont ()) (Ev.iter (λi=>(i:Int)) l.length rfl (λi u=>?_) ?_) (Qa _)) (Qa _)
  .have a:=Y7 (x:=l[i]) f (XJ u);simp only[a.lt,Vm,a.ix,XI];have t:q l[i]=false:=by
    grind
   refine Ev.bind ((hg _ a.mem).eq t) ?_;simp only[Vn,a.nx];exact Qa _
  simp_all[Qa]
 |true=>
  obtain⟨x,z,h⟩:=Xt.1 e;have d:∀k,k<=l.length->(∀(i:Nat) (x:α),l[i]?=some x->i<k->q x=false)\/ ∃(i:Nat) (x:α),l[i]?=some x/\i<k/\q x=true/\ ∀(j:Nat) (y:α),l[j]?=some y->j<i->q y=false:=by
   intro k
   induction k with
   |zero=>simp
   |succ k G=>
    grind
  rcases d l.length (XS _)with F|⟨i,x,w,E,B,p⟩
  .obtain⟨j,m,rfl⟩:=List.getElem_of_mem z
   grind
  .refine Ev.bind (v:=(i:Int)) (Ev.bind (v:=Ctl.done (i:Int)) (Ev.iter (λi=>(i:Int)) i rfl (λj m=>?_) ?_) (Qa _)) ?_
   .have a:=Y7 (x:=l[j]) f (XJ (by omega));simp only[a.lt,Vm,a.ix,XI];refine Ev.bind ((hg _ a.mem).eq (p j _ a.get m)) ?_;simp only[Vn,a.nx];exact Qa _
   .have a:=Y7 f w;simp only[a.lt,Vm,a.ix,XI];refine Ev.bind ((hg _ a.mem).eq B) ?_;exact Qa _
   simp_all[Qa]
end
section
variable {S B α:Type} {step:Nat->S->Option (Ctl S B)}
theorem QcQ{s0:S}(a:Nat->S)(k:Nat)(R:Nat->B)(f:a 0=s0)(s:∀i,i<k->(Ev (λn=>step n (a i)) (.cont (a (i+1)))/\R i=R (i+1))\/Ev (λn=>step n (a i)) (.done (R i)))
  (l:Ev (λn=>step n (a k)) (.done (R k))):Ev (λn=>Go.Sw.iter (step n) n s0) (R 0):=by
 have e:∀m,m<=k->(∀i,i<m->Ev (λn=>step n (a i)) (.cont (a (i+1)))/\R i=R (i+1))\/ ∃j,j<m/\(∀i,i<j->Ev (λn=>step n (a i)) (.cont (a (i+1)))/\R i=R (i+1))/\Ev (λn=>step n (a j)) (.done (R j)):=by
  intro m
  induction m with
  |zero=>simp
  |succ m p=>
   grind
 have same:∀m,(∀i,i<m->R i=R (i+1))->R 0=R m:=by
  intro m
  induction m with
  |zero=>intro _;rfl
  |succ m p=>grind
 rcases e k (XS _)with h|⟨j,r,g,q⟩
 .rw[same k λi d=>(h i d).2];exact Ev.iter a k f (by grind) l
 .rw[same j λi d=>(g i d).2];exact Ev.iter a j f (by grind) q
theorem At.drop{l:List α}{i:Nat}{x:α}(h:At l i x):l.drop i=x::l.drop (i+1):=by
 have:=h.lt';rw[Xp this,(XK.1 h.get).2]
theorem Qbm{s0:S}(l:List α)(st:Nat->S)(R:Nat->B)(hl:l.length<=4611686018427387904)(h0:st 0=s0)
  (hc:∀i x,At l i x->(Ev (λn=>step n (st i)) (.cont (st (i+1)))/\R i=R (i+1))\/Ev (λn=>step n (st i)) (.done (R i)))
  (hd:Ev (λn=>step n (st l.length)) (.done (R l.length))):Ev (λn=>Go.Sw.iter (step n) n s0) (R 0):=
 QcQ st l.length R h0 (λi hi=>hc i _ (Y7 hl (XJ hi))) hd
end
section
variable {α β:Type} [DecidableEq α]
theorem Qaz(p:α×β)(l:List (α×β))(k:α):YP (p::l) k=if p.1=k then some p.2 else YP l k:=by
 grind[YP]
theorem Qi3(p:α×β)(l:List (α×β))(k:α)(v:β):QW (p::l) k v=if p.1=k then(p.1,v)::l.map (λq=>bif decide (q.1=k)then(q.1,v)else q)else p::QW l k v:=by
 unfold QW
 grind
theorem Qkf(l:List (α×β))(k a:α)(v:β)(h:a≠k):YP (l.map λq=>bif decide (q.1=k)then(q.1,v)else q) a=YP l a:=by
 induction l with
 |nil=>rfl
 |cons p l d=>
  grind[Qaz]
theorem QbR(l:List (α×β))(k a:α)(v:β):YP (QW l k v) a=if a=k then some v else YP l a:=by
 induction l with
 |nil=>
  show YP ([]++[(k,v)]) a=_;rw[Vf,Qaz]
  grind
 |cons p l d=>
  rw[Qi3];by_cases e:p.1=k
  .rw[Vq e,Qaz,Qaz];by_cases h:a=k
   .grind
   .have:p.1≠a:=(by grind)
    simp_all[Qkf]
  .rw[Vp e,Qaz,Qaz,d]
   grind
theorem Qi4(k:α)(z:β):QA ([]:List (α×β)) k z=z:=rfl
theorem Qee(l:List (α×β))(k a:α)(v z:β):QA (QW l k v) a z=if a=k then v else QA l a z:=by
 grind[QA,QbR]
theorem Qi2(l:List (α×β))(k:α)(v:β):(QW l k v).map (·.1)=if k∈l.map (·.1)then l.map (·.1)else l.map (·.1)++[k]:=by
 unfold QW;have e:(l.any λp=>decide (p.1=k))=decide (k∈l.map (·.1)):=by
  grind
 rw[e];by_cases h:k∈l.map (·.1)
 .rw[Vr h,Vq h,Vm,List.map_map];apply List.map_congr_left
  grind
 grind
def Ye{γ:Type}(key:γ->α)(v:β)(l:List γ):List (α×β):=l.foldl (λm x=>QW m (key x) v) []
theorem QfT{γ:Type}(a:γ->α)(v:β)(l:List γ)(x:γ):Ye a v (l++[x])=QW (Ye a v l) (a x) v:=by
 unfold Ye;simp
theorem Qdn{γ:Type}(a:γ->α)(v z:β)(l:List γ)(k:α):QA (Ye a v l) k z=if k∈l.map a then v else z:=by
 have d:∀(l:List γ) (m:List (α×β)),QA (l.foldl (λm x=>QW m (a x) v) m) k z=if k∈l.map a then v else QA m k z:=by
  intro l
  induction l with
  |nil=>simp
  |cons x l e=>
   intro m;rw[XC,e,Qee]
   grind
 exact d l []
theorem QbZ{γ:Type}(a:γ->α)(v:β)(l:List γ):(Ye a v l).length<=l.length/\((Ye a v l).length=l.length↔(l.map a).Nodup):=by
 have e:∀(l:List γ) (m:List (α×β)),(m.map (·.1)).Nodup->(l.foldl (λm x=>QW m (a x) v) m).length<=m.length+l.length/\((l.foldl (λm x=>QW m (a x) v) m).length=m.length+l.length↔(m.map (·.1)++l.map a).Nodup):=by
  intro l
  induction l with
  |nil=>simp
  |cons x l j=>
   intro m g;have f:=Qi2 m (a x) v;have d:(QW m (a x) v).length=((QW m (a x) v).map (·.1)).length:=by simp
   by_cases h:a x∈m.map (·.1)
   .grind
   .rw[Vp h]at f;have i:((QW m (a x) v).map (·.1)).Nodup:=by
     grind
    grind
 grind[Ye]
end
theorem Je{α:Type}(l:List α)(p:α->Bool)(g:Nat->α->Option Bool)(a:l.length<=4611686018427387904)(hg:∀x∈l,Ev (λn=>g n x) (p x)):
  Ev (λn=>(((Go.Sw.iter (λs:Int=>bif decide (s<l.length)then(idx l s).bind λx=>((g n x).bind λr1=>some (!r1)).bind λr=>(bif r then some (Ctl.done (Ctl.done s))else some (Ctl.cont (IntKind.i64.wrap (s+1))))else some (Ctl.done (Ctl.cont ()))) n 0).bind λb=>
   match b with
   |.cont _=>some (-1)
   |.done s=>some s).bind λr=>some (decide (0<=r))).bind λr=>some (!r)) (l.all p):=by
 refine Ev.bind (Ev.contains l (λx=> !p x) (λn x=>(g n x).bind λr1=>some (!r1)) a λx d=>Ev.bind (hg x d) (Qa _)) ((Qa _).eq ?_)
 grind
def Qjr{α κ:Type}[DecidableEq κ](ok:α->Bool)(key:α->κ):List κ->List α->Bool
 |_,[]=>true
 |seen,x::r=>ok x&& !seen.contains (key x)&&Qjr ok key (seen++[key x]) r
theorem QiE{α κ:Type}[DecidableEq κ](ok:α->Bool)(d:α->κ):∀(l:List α) (a:List κ),a.Nodup->Qjr ok d a l=(l.all ok&&decide ((a++l.map d).Nodup))
 |[],a,h=>by simp[Qjr,h]
 |x::r,a,h=>by
  simp[Qjr,Vh];by_cases hk:d x∈a
  .grind
  .have hn:(a++[d x]).Nodup:=by
    grind
   rw[QiE ok d r _ hn]
   grind
theorem Qll{α κ B:Type}[DecidableEq κ]{step:Nat->Int->Option (Ctl Int B)}(l:List α)(ok:α->Bool)(a:α->κ)(d b:B)(h:l.length<=4611686018427387904)
  (m:∀i x,At l i x->ok x=true->((l.take i).map a).contains (a x)=false->Ev (λn=>step n (i:Int)) (.cont ((i+1:Nat):Int)))
  (k:∀i x,At l i x->ok x=false->Ev (λn=>step n (i:Int)) (.done d))
  (j:∀i x,At l i x->ok x=true->((l.take i).map a).contains (a x)=true->Ev (λn=>step n (i:Int)) (.done d))
  (g:Ev (λn=>step n (l.length:Int)) (.done b)):Ev (λn=>Go.Sw.iter (step n) n 0) (bif l.all ok&&decide ((l.map a).Nodup)then b else d):=by
 have e:=QiE ok a l [] (by simp);rw[Vf]at e;rw[<- e];refine Qbm l (λi=>(i:Int)) (λi=>bif Qjr ok a ((l.take i).map a) (l.drop i)then b else d) h rfl (λi x f=>?_) ?_
 .rw[f.drop];simp only[Qjr];rw[show(l.take i).map a++[a x]=(l.take (i+1)).map a by rw[f.take];simp]
  grind
 .rw[Xr];exact g
theorem Qho{α κ B:Type}[DecidableEq κ]{step:Nat->Int->Option (Ctl Int B)}(l:List α)(i:Nat)(a:α->κ)(k:κ)(f b:B)(s:l.length<=4611686018427387904)(hi:i<=l.length)
  (t:∀j y,j<i->At l j y->decide (a y=k)=false->Ev (λn=>step n (j:Int)) (.cont ((j+1:Nat):Int)))
  (u:∀j y,j<i->At l j y->decide (a y=k)=true->Ev (λn=>step n (j:Int)) (.done f))
  (r:Ev (λn=>step n (i:Int)) (.done b)):Ev (λn=>Go.Sw.iter (step n) n 0) (bif ((l.take i).map a).contains k then f else b):=by
 have e:((l.take i).map a).contains k=(l.take i).any λy=>decide (a y=k):=by
  grind
 rw[e];have g:(l.take i).length=i:=by simp;omega
 have p:∀j y,At (l.take i) j y->j<i/\At l j y:=by
  intro j y d;have m:=d.lt';have q:=d.get
  grind[Y7]
 refine YX (l.take i) (λy=>decide (a y=k)) (λi=>(i:Int)) _ _ (by omega) rfl (λj y d h=>?_) (λj y d h=>?_) ?_
 .grind
 .grind
 grind
theorem Qbn{α κ β:Type}[DecidableEq κ]{step:Nat->List (κ×β)×Int->Option (Ctl (List (κ×β)×Int) (List (κ×β)))}(l:List α)(key:α->κ)(v:β)(hl:l.length<=4611686018427387904)
  (hc:∀i x m,At l i x->Ev (λn=>step n (m,(i:Int))) (.cont (QW m (key x) v,((i+1:Nat):Int))))
  (hd:∀m,Ev (λn=>step n (m,(l.length:Int))) (.done m)):Ev (λn=>Go.Sw.iter (step n) n ([],0)) (Ye key v l):=
 Js l (λm x=>QW m (key x) v) [] (λm i=>(m,(i:Int))) (λm=>m) hl rfl (by grind) (hd _)
theorem Ev.shift{α:Type}{f:Nat->Option α}{v:α}(h:Ev f v):Ev (λn=>f (n+1)) v:=by
 obtain⟨N,h⟩:=h;exact⟨N,(by grind)⟩
def EvI{S B:Type}(step:Nat->S->Option (Ctl S B))(s:S)(b:B):Prop:=∃N,∀n k,N<=n->N<=k->Go.Sw.iter (step n) k s=some b
section
variable {S B:Type} {step:Nat->S->Option (Ctl S B)} {s s':S} {b:B}
theorem EvI.done(h:Ev (λn=>step n s) (.done b)):EvI step s b:=by
 obtain⟨N,h⟩:=h;refine⟨N+1,λn k d e=>?_⟩;obtain⟨a,rfl⟩:∃a,k=a+1:=⟨k-1,by omega⟩
 grind[Go.Sw.iter]
theorem EvI.cont(h:Ev (λn=>step n s) (.cont s'))(q:EvI step s' b):EvI step s b:=by
 obtain⟨N,h⟩:=h;obtain⟨M,q⟩:=q;refine⟨max N M+1,λn k d e=>?_⟩;obtain⟨a,rfl⟩:∃a,k=a+1:=⟨k-1,by omega⟩
 grind[Go.Sw.iter]
theorem EvI.ev(h:EvI step s b):Ev (λn=>Go.Sw.iter (step n) n s) b:=by
 obtain⟨N,h⟩:=h;exact⟨N,λn a=>h n n a a⟩
theorem EvI.eq{b':B}(h:EvI step s b)(e:b=b'):EvI step s b':=e▸h
end
theorem Qy{α:Type}{l r:List α}{i:Nat}{x:α}(d:l.length<=4611686018427387904)(h:l.drop i=x::r):At l i x/\l.drop (i+1)=r:=by
 have a:l[i]?=some x:=by
  have:=congrArg (λl=>l[0]?) h
  grind
 refine⟨Y7 d a,?_⟩;have:=(Y7 d a).drop
 grind
theorem QS{α:Type}{l:List α}{i:Nat}(h:l.drop i=[])(hi:i<=l.length):decide ((i:Int)<(l.length:Int))=false:=by
 simp_all
theorem Z.{u}{α:Sort u}{a:α}:a=a:=rfl
section
variable {P:Program} {h0 N:Nat} {all:Array Oper} {env:Env} {H H':Qd} {Q:QE} {l:List Oper} {o:Oper} {d:Nat}
theorem aV(x:A)(H:Qd){x':A}{H':Qd}(a:x'=x)(e:H'=H)(k:WO P h0 N all l (up env d x) H Q):WO P h0 N all l (up env d x') H' Q:=by subst a;subst e;exact k
theorem vX(x:A)(a:OpV P o env H x)(k:WO P h0 N all l (up env d x) H Q)(hg:QG all o env true:=by exact rfl)(hd:o.dst=some d:=by exact rfl)(hN:Nat.blt d N=true:=by exact rfl):WO P h0 N all (o::l) env H Q:=
 Y5 hg hd hN a k
theorem Wp:WO P h0 N all [] env H (YM env H):=WO.nil YM.mk
end
section
variable {P:Program} {o:Oper} {env:Env} {H:Qd}
theorem Qmj{ro:Nat->Prop}{σ:Sig}{w:World}(g:GP w){b:Nat}{zs:List Int}(h:QhG[b]?=some zs):∀(i:Nat),CR ro σ w b ((zs.drop i).map (A.int .i64)) i:=by
 intro i;generalize hl:zs.drop i=l
 induction l generalizing i with
 |nil=>trivial
 |cons z l d=>
  have e:zs[i]?=some z:=by
   have:=congrArg (·[0]?) hl
   grind
  have a:zs.drop (i+1)=l:=by
   rw[<- List.drop_drop,hl];rfl
  exact⟨⟨_,g.tab b zs h i z e,by simp[Qz],rfl⟩,d (i+1) a⟩
theorem QfG{t n g:Nat}{zs:List Int}(i:∀w,(isAgg t).run P w=.ok true w)(j:∀w,(sizeOf t).run P w=.ok n w)(hg:QhG[g]?=some zs)(f:zs.length=n)(k:o.op=.load t (.global g):=by exact rfl):
  OpV P o env H (.agg (zs.map (A.int .i64))):=by
 intro m ro σ N a w r;obtain⟨l,d,_,h⟩:=Yu (P:=P) 0 (by simpa using Qmj (ro:=ro) (σ:=σ) r.sim.roOk.gp hg 0);refine⟨.agg l.toArray,?_,l,rfl,d⟩;have e:a.eval (.global g)=.pointer (some ⟨g,0,none⟩):=rfl
 simp_all[execOp,Instr.loadAt,Instr.sureAddr,loadVar,loadCells]
end
open Go.Proofs
section
variable {P:Program}
def toV(agg:Bool)(l:List Value):Value:=bif agg then .agg l.toArray else l.headD .nilFunc
structure Qhp (P:Program) (t:TypeId) (h k:Nat) (agg:Bool) (ok:List Value->Prop):Prop where
 len:∀l,ok l->l.length=k
 ia:∀w,(isAgg t).run P w=.ok agg w
 so:∀w,(sizeOf t).run P w=.ok k w
 eq:∀(w:World) (d:Nat) (l m:List Value),ok l->ok m->∃b:Bool,(Op.equalIn (d+h) t (toV agg l) (toV agg m)).run P w=.ok b w/\(b=true↔l=m)
structure Qh9 (P:Program) (fs:List Field) (h off k:Nat) (ok:List Value->Prop):Prop where
 len:∀l,ok l->l.length=k
 eq:∀(w:World) (d:Nat) (p q l m:List Value),p.length=off->q.length=off->ok l->ok m->∃b:Bool,(Op.eqFields (d+h) (p++l).toArray (q++m).toArray fs).run P w=.ok b w/\(b=true↔l=m)
theorem Qhp.int{t:TypeId}{k:IntKind}(e:P.underlying t=some (.int k))(a:∀w,(isAgg t).run P w=.ok false w)(f:∀w,(sizeOf t).run P w=.ok 1 w)(h:Nat):Qhp P t (h+1) 1 false (λl=>∃n:Int,l=[.int k n]):=by
 refine⟨?_,a,f,?_⟩
 .simp
 .rintro w d _ _ ⟨n,rfl⟩ ⟨m,rfl⟩;exact⟨_,run_equalIn_int w (d+h) t k k n m e,by simp⟩
theorem Qhp.bool{t:TypeId}(e:P.underlying t=some .bool)(a:∀w,(isAgg t).run P w=.ok false w)(f:∀w,(sizeOf t).run P w=.ok 1 w)(h:Nat):Qhp P t (h+1) 1 false (λl=>∃n:Bool,l=[.bool n]):=by
 refine⟨?_,a,f,?_⟩
 .simp
 .rintro w d _ _ ⟨n,rfl⟩ ⟨m,rfl⟩;exact⟨_,run_equalIn_bool' w (d+h) t n m e,by simp⟩
theorem Qh9.nil(h a:Nat):Qh9 P [] h a 0 (λl=>l=[]):=by
 refine⟨?_,?_⟩
 .simp
 simp_all[Op.eqFields]
theorem QgB{t:TypeId}{k:Nat}{agg:Bool}{w:World}(e:∀w,(isAgg t).run P w=.ok agg w)(h:∀w,(sizeOf t).run P w=.ok k w)(p a f:List Value)(g:a.length=k)(d:agg=false->k=1):
  (part t (p++(a++f)).toArray p.length).run P w=.ok (toV agg a) w:=by
 unfold part;cases agg with
 |true=>
  simp_all[toV]
 |false=>
  have:=d rfl;subst this
  match a,g with
  |[v],_=>simp[e,toV]
theorem Qh9.cons{f:Field}{fs:List Field}{h i n F:Nat}{agg:Bool}{j k:List Value->Prop}(W:Nat.beq f.offset i=true)(O:f.name≠"_")(g:Qhp P f.type h n agg j)(G:agg=false->n=1)(x:Qh9 P fs h (i+n) F k):
  Qh9 P (f::fs) h i (n+F) (λl=>∃l1 l2,l=l1++l2/\j l1/\k l2):=by
 have t:f.offset=i:=(by simp_all);refine⟨?_,?_⟩
 .rintro _ ⟨l1,l2,rfl,a,b⟩;rw[X2,g.len _ a,x.len _ b]
 .rintro w d p q _ _ J y ⟨l1,l2,rfl,s,R⟩ ⟨r,z,rfl,m,M⟩;have u:=QgB (w:=w) g.ia g.so p l1 l2 (g.len _ s) G;have H:=QgB (w:=w) g.ia g.so q r z (g.len _ m) G;rw[J]at u;rw[y]at H;obtain⟨E,L,N⟩:=g.eq w d l1 r s m;obtain⟨Q,B,V⟩:=x.eq w d (p++l1) (q++r) l2 z (by rw[X2,J,g.len _ s]) (by rw[X2,y,g.len _ m]) R M;rw[Vg,Vg]at B;have T:l1.length=r.length:=by rw[g.len _ s,g.len _ m]
  refine⟨E&&Q,?_,?_⟩
  .cases E<;>simp[Op.eqFields,O,t,u,H,L,B]
  .rw[XV,N,V];constructor
   .grind
   .intro e;exact List.append_inj e T
theorem Qhp.struct{t:TypeId}{h k:Nat}{ok:List Value->Prop}(p:P.underlying t=some (.struct (P.fieldsOf t)))(n:P.stoodInHeld t=false)(i:∀w,(isAgg t).run P w=.ok true w)(f:∀w,(sizeOf t).run P w=.ok k w)(e:Qh9 P (P.fieldsOf t).toList h 0 k ok):Qhp P t (h+1) k true ok:=by
 refine⟨e.len,i,f,λw d l m a b=>?_⟩;obtain⟨r,j,g⟩:=e.eq w d [] [] l m rfl rfl a b;refine⟨r,?_,g⟩;show(Op.equalIn (d+h+1) t (.agg l.toArray) (.agg m.toArray)).run P w=_
 grind[run_equalIn_agg]
theorem QcS{t:TypeId}{h k:Nat}{fs:Array Field}{ok:List Value->Prop}(g:P.underlying t=some (.struct fs))(a:P.stoodInHeld t=false)(e:∀w,(isAgg t).run P w=.ok true w)(d:∀w,(sizeOf t).run P w=.ok k w)(f:Qh9 P fs.toList h 0 k ok):Qhp P t (h+1) k true ok:=by
 grind[Program.fieldsOf,Qhp.struct]
structure EqD (P:Program) (t:TypeId) {α:Type} (cells:α->List A):Prop where
 scl:∀x,QfO (cells x)=true
 inj:∀x y,YE (cells x)=YE (cells y)->x=y
 guard:P.eqGuardType P.depth t=false
 eq:∀(w:World) x y,∃b:Bool,(Op.equalIn 10000 t (.agg (YE (cells x)).toArray) (.agg (YE (cells y)).toArray)).run P w=.ok b w/\(b=true↔YE (cells x)=YE (cells y))
theorem QiP{α:Type}{cells:α->List A}{t h k:Nat}{ok:List Value->Prop}(E:Qhp P t h k true ok)(e:Nat.ble h 10000=true)(a:∀x,ok (YE (cells x)))(d:∀x,QfO (cells x)=true)(hi:∀x y,YE (cells x)=YE (cells y)->x=y)(hg:P.eqGuardType P.depth t=false):EqD P t cells:=by
 refine⟨d,hi,hg,λw x y=>?_⟩;have:=E.eq w (10000-h) (YE (cells x)) (YE (cells y)) (a x) (a y)
 rwa [show 10000-h+h=10000 by simp_all]at this
variable {o:Oper} {env:Env} {H:Qd}
theorem QjJ{α:Type}[DecidableEq α]{cells:α->List A}{t u:TypeId}{x y:Operand}{p q:α}(E:EqD P t cells)(m:opA env x=.agg (cells p))(l:opA env y=.agg (cells q))(n:o.op=.binOp .eql t x y u:=by exact rfl):OpV P o env H (.bool (p==q)):=by
 intro F B σ N a w r;have h:=Qo r x;have g:=Qo r y;rw[m]at h;rw[l]at g;have j:=VR.val (a:=.agg (cells p)) (E.scl p) h;have s:=VR.val (a:=.agg (cells q)) (E.scl q) g;obtain⟨b,i,k⟩:=E.eq w p q;have z:b=(p==q):=by
  rw[XX,k,Vu];exact⟨E.inj p q,λe=>by rw[e]⟩
 refine⟨.bool (p==q),?_,rfl⟩;rw[<- z];generalize a.eval=ρ at*;have d:ρ x=.agg (YE (cells p)).toArray:=j;have f:ρ y=.agg (YE (cells q)).toArray:=s;simp[n,d,f,go_sem,run_eqGuard_agg _ _ _ _ _ _ _ E.guard,i]
theorem QjI{α:Type}[DecidableEq α]{cells:α->List A}{t u:TypeId}{x y:Operand}{p q:α}(E:EqD P t cells)(m:opA env x=.agg (cells p))(l:opA env y=.agg (cells q))(n:o.op=.binOp .neq t x y u:=by exact rfl):OpV P o env H (.bool (p != q)):=by
 intro F B σ N a w r;have h:=Qo r x;have g:=Qo r y;rw[m]at h;rw[l]at g;have j:=VR.val (a:=.agg (cells p)) (E.scl p) h;have s:=VR.val (a:=.agg (cells q)) (E.scl q) g;obtain⟨b,i,k⟩:=E.eq w p q;have z:b=(p==q):=by
  rw[XX,k,Vu];exact⟨E.inj p q,λe=>by rw[e]⟩
 refine⟨.bool (p != q),?_,rfl⟩;rw[bne, <- z];generalize a.eval=ρ at*;have d:ρ x=.agg (YE (cells p)).toArray:=j;have f:ρ y=.agg (YE (cells q)).toArray:=s;simp[n,d,f,go_sem,run_eqGuard_agg _ _ _ _ _ _ _ E.guard,i]
end
end Go.Sw
namespace Go.Sw
structure QeN (g g':Nat->Prop) (W W':World):Prop where
 sub:∀b,g b->g' b
 new:∀b,g' b->g b\/W.heap.size<=b
 lt:∀b,g' b->b<W'.heap.size
 all:∀b,W.heap.size<=b->b<W'.heap.size->g' b
 keep:∀b,b<W.heap.size->¬g b->W'.heap[b]?=W.heap[b]?
 size:W.heap.size<=W'.heap.size
 shape:∀b x,W.shape? b=some x->W'.shape? b=some x
 os:W'.os=W.os
 tape:W'.tape=W.tape
 output:W'.output=W.output
 drawn:W.drawn<=W'.drawn
abbrev Jv(T:Type):=List T->(Nat->Prop)->(Nat->Prop)->World->Prop
structure Qmt {T:Type} (J:Jv T):Prop where
 ev:∀rem q g W W' ro',J rem q g W->Qh g q W ro' W'->J rem q g W'
 up:∀rem q g g' W,J rem q g W->(∀b,g b->g' b)->(∀b,g' b->b<W.heap.size)->J rem q g' W
theorem Sim.round{fr g E ro:Nat->Prop}{σ:Sig}{H:Qd}{W W':World}(s:Sim fr ro σ H W)(a:∀b,g b->fr b)(k:QeN g E W W'):Sim (λb=>fr b\/E b) ro σ H W'/\Qh (λb=>b<W.heap.size/\ ¬g b) ro W ro W':=by
 have hro:=λb q=>k.keep b (s.roLt b q) (λr=>s.roFr b q (a b r));have l:Ext ro σ W ro σ W':=by
  have ev:Qh (λ_=>False) ro W ro W':=⟨λ_ q=>q,hro,λ_ q=>q.elim,k.size,k.shape,k.os,k.tape,k.output,k.drawn⟩;have:=ev.ext σ []
  grind
 refine⟨⟨s.len,s.roOk.to (λ_ q=>q) hro (λb q=>Vd (s.roLt b q) k.size),λb q=>q.elim (λq=>Vd (s.frLt b q) k.size) (k.lt b),λb q r=>?_,λi b x e f t=>?_,s.inj,λi y x e f=>?_,
  s.hidTo (· = ·) Q7 k.size (by simp) (λi b x c e f t F=>F.elim id λq=>(k.new c q).elim (a c) λh=>(by have:=(s.hid i b x c e f t).lt;omega)) λj d y m n G=>.inl ⟨j,y,rfl,m,n,id,λc q=>s.hidKeep m n (λz=>k.keep d (s.own j d y m n z).1 λr=>(s.own j d y m n z).2.2 (a d r)) hro q⟩⟩,
  ⟨λ_ q=>q,hro,λb q=>k.keep b q.1 q.2,k.size,k.shape,k.os,k.tape,k.output,k.drawn⟩⟩
 .rcases r with r|r
  .exact s.roFr b q r
  .rcases k.new b r with h|h
   .exact s.roFr b q (a b h)
   .have:=s.roLt b q;omega
 .obtain⟨w,B,p⟩:=s.own i b x e f t;refine⟨Vd w k.size,B,λr=>?_⟩;rcases r with r|r
  .exact p r
  .rcases k.new b r with h|h
   .grind
   .omega
 .refine(s.blk i y x e f).keep l ?_ ?_
  .rintro b rfl u;obtain⟨w,B,p⟩:=s.own i b x e f u;exact k.keep b w (λr=>p (a b r))
  .rintro b c rfl u;have q:=s.hid i b x c e f u;exact k.keep c q.lt (λr=>q.fr (a c r))
def Qnb{T:Type}(J Jx:Jv T)(g ri:Nat->Prop)(W1:World)(rem:List T):Ending->World->Prop:=λe W'=>
 ∃g' q',(∀b,q' b->ri b)/\QeN g g' W1 W'/\((e=.returned (.bool true)/\J rem q' g' W')\/(e=.returned (.bool false)/\Jx rem q' g' W'))
structure Ctx (T:Type) where
 l:Nat
 J:Jv T
 Jx:Jv T
 enc:T->List A
 nx:List T->T->List T->Prop
structure Ctx.ok {T:Type} (X:Ctx T) (P:Program):Prop where
 b:Qmt X.J
 bx:Qmt X.Jx
 round:∀l x rem q g ri W1 vs,X.nx l x rem->X.J l q g W1->(∀b,q b->ri b)->(∀b,ri b->b<W1.heap.size/\ ¬g b)->LR ri [] W1 (X.enc x) vs->YieldAt Fence.wide 0 P X.l vs.toArray W1 (Qnb X.J X.Jx g ri W1 rem)
inductive YSt (T:Type) where
 |on (rem:List T)
 |off (rem:List T)
def Ctx.J'{T:Type}(X:Ctx T):YSt T->(Nat->Prop)->(Nat->Prop)->World->Prop
 |.on rem=>X.J rem
 |.off rem=>X.Jx rem
def Ctx.at{T:Type}(X:Ctx T)(st:YSt T)(g ro:Nat->Prop)(W:World):Prop:=∃q,(∀b,q b->ro b)/\X.J' st q g W
theorem Qh.roMono{fr ro ro0 ro':Nat->Prop}{w w':World}(h:Qh fr ro w ro' w')(s:∀b,ro0 b->ro b):Qh fr ro0 w ro' w':=
 ⟨λb q=>h.sub b (s b q),λb q=>h.keepRo b (s b q),h.keepFr,h.size,h.shape,h.os,h.tape,h.output,h.drawn⟩
theorem Ctx.ok.ev{T:Type}{X:Ctx T}{P:Program}(h:X.ok P){e:YSt T}{g ro a:Nat->Prop}{W W':World}(d:X.at e g ro W)(he:Qh g ro W a W'):X.at e g a W':=by
 obtain⟨q,f,d⟩:=d;refine⟨q,λb z=>he.sub b (f b z),?_⟩;cases e with
 |on rem=>exact h.b.ev rem q g W W' a d (he.roMono f)
 |off rem=>exact h.bx.ev rem q g W W' a d (he.roMono f)
theorem Ctx.ok.up{T:Type}{X:Ctx T}{P:Program}(h:X.ok P){e:YSt T}{g a ro:Nat->Prop}{W:World}(d:X.at e g ro W)(hg:∀b,g b->a b)(f:∀b,a b->b<W.heap.size):X.at e a ro W:=by
 obtain⟨q,i,d⟩:=d;refine⟨q,i,?_⟩;cases e with
 |on rem=>exact h.b.up rem q g a W d hg f
 |off rem=>exact h.bx.up rem q g a W d hg f
abbrev Y9(T:Type):=AEx->Env->Qd->YSt T->Prop
structure In (g fr:Nat->Prop) (ds:List Deferred):Prop where
 sub:∀b,g b->fr b
 beside:∀D,({target:=.collected D,args:= #[]}:Deferred)∈ds->¬g D
def QcK{T:Type}(X:Ctx T)(h0:Nat)(fr ro:Nat->Prop)(σ:Sig)(w:World)(N:Nat)(ds:List Deferred)(Q:Y9 T):Exit->Act->World->Prop:=
 λe a' w'=>∃x env' H' st ro' σ' fr' g',ExR e x/\Q x env' H' st/\Rel fr' ro' σ' H' env' N a' w'/\(X.at st g' ro' w'/\In g' fr' a'.defers)/\(∀b,ro b->ro' b)/\w.heap.size<=w'.heap.size/\σ'.take h0=σ.take h0/\Grow fr w ds fr' a'.defers
theorem QcK.grow{T:Type}{X:Ctx T}{i:Nat}{fr a ro g:Nat->Prop}{σ σ1:Sig}{w l:World}{N:Nat}{m f:List Deferred}{Q:Y9 T}{e:Exit}{a':Act}{w':World}
  (h:QcK X i a g σ1 l N f Q e a' w')(F:∀b,ro b->g b)(n:w.heap.size<=l.heap.size)(t:σ1.take i=σ.take i)(hg:Grow fr w m a f):QcK X i fr ro σ w N m Q e a' w':=by
 obtain⟨x,d,H',z,j,σ',k,E,B,p,u,q,G,r,s,y⟩:=h;exact⟨x,d,H',z,j,σ',k,E,B,p,u,q,(by grind),XU n r,s.trans t,hg.trans n y⟩
def TCy{T:Type}(X:Ctx T)(P:Program)(h0 N:Nat)(c:Code)(env:Env)(H:Qd)(st:YSt T)(Q:Y9 T):Prop:=
 X.ok P->∀rd fr ro σ a w g,Rel fr ro σ H env N a w->X.at st g ro w/\In g fr a.defers->rd=none->c.wpIn (WF rd) 0 P (QcK X h0 fr ro σ w N a.defers Q) a w
def WOy{T:Type}(X:Ctx T)(P:Program)(h0 N:Nat)(all:Array Oper)(l:List Oper)(env:Env)(H:Qd)(st:YSt T)(Q:Y9 T):Prop:=
 X.ok P->∀rd fr ro σ a w g,Rel fr ro σ H env N a w->X.at st g ro w/\In g fr a.defers->rd=none->wpL P rd all (QcK X h0 fr ro σ w N a.defers Q) l a w
theorem In.later{fr a g:Nat->Prop}{w:World}{ds d:List Deferred}(h:In g fr ds)(f:∀b,fr b->b<w.heap.size)(hg:Grow fr w ds a d):In g a d:=by
 refine⟨λb q=>hg.sub b (h.sub b q),λD hD q=>?_⟩;rcases hg.ds _ hD with r|⟨D',e,r⟩
 .exact h.beside D r q
 .have:=by simpa using e
  have:=f D (h.sub D q);omega
section
variable {T:Type} {X:Ctx T} {P:Program} {h0 N:Nat} {c c':Code} {env:Env} {H:Qd} {st:YSt T} {Q:Y9 T}
theorem QjB{fr ro:Nat->Prop}{σ:Sig}{w:World}{j:List Deferred}{e:Exit}{a':Act}{w':World}(p:X.ok P)(h:Qap h0 fr ro σ w N j (λx env H=>Q x env H st) e a' w'){g:Nat->Prop}(q:∀b,fr b->b<w.heap.size)(k:X.at st g ro w/\In g fr j):
  QcK X h0 fr ro σ w N j Q e a' w':=by
 obtain⟨x,a,H',f,σ',i,r,m,s,d,n,l⟩:=h;exact⟨x,a,H',st,f,σ',i,g,r,m,s,⟨p.ev k.1 (d.frMono k.2.sub),k.2.later q l⟩,d.sub,d.size,n,l⟩
theorem TCy.lift(h:TC P h0 N c env H (λx env H=>Q x env H st)):TCy X P h0 N c env H st Q:=
 λhX rd fr ro σ a w g r hj hrd=>Code.wpIn_mono (λe a' w' q=>QjB hX q r.sim.frLt hj) (h rd fr ro σ a w r (hrd▸QdF.none))
def SeqY(X:Ctx T)(P:Program)(h0 N:Nat)(c:Code)(Q:Y9 T):Y9 T
 |.normal,env,H,st=>TCy X P h0 N c env H st Q
 |.exit id,env,H,st=>Q (.exit id) env H st
 |.ret,env,H,st=>Q .ret env H st
theorem TCy.seq(h:TCy X P h0 N c env H st (SeqY X P h0 N c' Q)):TCy X P h0 N (.seq c c') env H st Q:=by
 intro B z E G σ a w g r hj hrd;refine wpIn_seq (Code.wpIn_mono ?_ (h B z E G σ a w g r hj hrd));rintro e J F ⟨x,d,H',j,f,σ',i,t,k,l,s,m,u,n,p,y⟩;cases e with
 |normal=>
  obtain rfl:x=.normal:=k;exact Code.wpIn_mono (λe a w q=>q.grow u n p y) (l B z i f σ' J F t s m hrd)
 |exit id=>
  obtain rfl:x=.exit id:=k;exact⟨_,d,H',j,f,σ',i,t,rfl,l,s,m,u,n,p,y⟩
 |ret=>
  obtain rfl:x=.ret:=k;exact⟨_,d,H',j,f,σ',i,t,rfl,l,s,m,u,n,p,y⟩
 |_=>exact k.elim
theorem TCy.region{id:Nat}{l:List Oper}(h:WOy X P h0 N l.toArray l env H st Q):TCy X P h0 N (.region id l.toArray false) env H st Q:=
 λhX rd fr ro σ a w g r hj hrd=>wpIn_region_lit (h hX rd fr ro σ a w g r hj hrd)
theorem TCy.cond{x:Operand}{t:Bool}(m:opA env x=.bool t)(k:t=true->TCy X P h0 N c env H st Q)(l:t=false->TCy X P h0 N c' env H st Q):TCy X P h0 N (.cond x c c') env H st Q:=by
 intro d f j i σ a w g r hj hrd;have h:=Qo r x;rw[m]at h;exact wpIn_cond_split h (λe=>k e d f j i σ a w g r hj hrd) (λe=>l e d f j i σ a w g r hj hrd)
theorem WOy.nil{all:Array Oper}(h:Q .normal env H st):WOy X P h0 N all [] env H st Q:=
 λhX rd fr ro σ a w g r hj hrd=>⟨_,env,H,st,ro,σ,fr,g,rfl,h,r,hj,λ_ q=>q,XS _,rfl,Grow.refl _ _ _⟩
end
theorem Qhu{P:Program}{rd:Option Nat}{o:Oper}{a:Act}{K K':Act->World->Prop}{Q Q':Exit->Act->World->Prop}(i:∀a w,K a w->K' a w)(p:∀ch a w,Q (.panic ch) a w->Q' (.panic ch) a w)(n:∀a w,Q .outgrown a w->Q' .outgrown a w)
  {r:Result Next}(h:o.uponIn (WF rd) 0 P a K Q r):o.uponIn (WF rd) 0 P a K' Q' r:=by
 cases r with
 |ok x w=>
  cases x with
  |value v=>exact i _ _ h
  |skip=>exact i _ _ h
  |defer d=>exact i _ _ h
  |enter f g=>
   refine⟨h.1,CallsIn.mono h.2 ?_⟩;intro e j q;cases e with
   |returned v=>grind
   |panicked c=>grind
   |outgrown=>obtain⟨a,w,q⟩:=q;exact⟨a,w,n _ _ q⟩
  |row r g=>exact⟨h.1,RowsIn.mono h.2 λv j q=>i _ _ q⟩
  |round l f k assign m=>
   refine⟨h.1,RoundIn.mono h.2 ?_⟩;intro e j q;cases e with
   |returned v=>grind
   |panicked c=>grind
   |outgrown=>obtain⟨a,w,q⟩:=q;exact⟨a,w,n _ _ q⟩
  |_=>exact h
 |halt x w=>
  cases x with
  |panic v=>exact p _ _ _ h
  |_=>exact h
section
variable {T:Type} {X:Ctx T} {P:Program} {h0 N:Nat} {env:Env} {H:Qd} {st:YSt T} {Q:Y9 T}
theorem WOy.step{all:Array Oper}{o:Oper}{rest:List Oper}(h:WO P h0 N all [o] env H (λx env' H'=>x=.normal/\WOy X P h0 N all rest env' H' st Q)):WOy X P h0 N all (o::rest) env H st Q:=by
 intro y m n p σ a w g r hj hrd;have L:∀j d,Qbq h0 n p σ w N a.defers (λx env' H'=>x=.normal/\WOy X P h0 N all rest env' H' st Q) .normal j d->wpL P m all (QcK X h0 n p σ w N a.defers Q) rest j d:=by
  rintro j d ⟨x,env',H',f,σ',i,O,⟨_,z⟩,F,l,G,B,E⟩;have u:X.at st g f d/\In g i j.defers:=⟨y.ev hj.1 (l.frMono hj.2.sub),by rw[B];exact hj.2.later r.sim.frLt E⟩;have:=z y m i f σ' j d g F u hrd;exact Yn (λe t s q=>(q.grow l.sub l.size G (by grind))) _ _ _ this
 have k:=h m n p σ a w r (hrd▸QdF.none);unfold wpL wpListIn at k⊢;split
 .rename_i J;rw[Vq J]at k;refine⟨k.1,Qhu (λt s q=>?_) (λM t s q=>?_) (λt s q=>?_) k.2⟩
  .unfold wpListIn at q
   grind
  .obtain⟨x,_,_,_,_,_,q,_⟩:=q;exact q.elim
  .obtain⟨x,_,_,_,_,_,q,_⟩:=q;exact q.elim
 simp_all[wpListIn]
theorem WOy.yield{all:Array Oper}{o:Oper}{rest:List Oper}{d:Nat}{x:T}{E rem:List T}(G:X.nx E x rem)(hg:QG all o env true)(F:o.dst=some d)(hN:Nat.blt d N=true)
  (u:∀fr ro σ a w,Rel fr ro σ H env N a w->∃vs:List Value,LR ro [] w (X.enc x) vs/\(execOp a.eval o).run P w=(Instr.yield X.l vs.toArray).run P w)
  (k:∀b,WOy X P h0 N all rest (up env d (.bool b)) H (bif b then .on rem else .off rem) Q):WOy X P h0 N all (o::rest) env H (.on E) Q:=by
 intro O L fr ro σ a w g r hj hrd;obtain⟨vs,hv,he⟩:=u fr ro σ a w r;obtain⟨q,V,J⟩:=hj.1;obtain⟨fn,tmps,assign,M,h1,R⟩:=O.round E x rem q g ro w vs G J V (λb z=>⟨r.sim.roLt b z,λy=>r.sim.roFr b z (hj.2.sub b y)⟩) hv;have Y:=he.trans h1;unfold wpL wpListIn;rw[Vq (YI hg r)];refine⟨λ_ _=>trivial,?_⟩;rw[Qcm Y (λd e=>by cases e)];refine⟨λh=>by simp[WF,Fence.wide]at h,(RoundIn.mono R ?_)⟩;rintro e i ⟨j,n,m,t,f⟩;obtain⟨s',ev⟩:=r.sim.round hj.2.sub t;have B:d<N:=by simp_all
 have p:Ext ro σ w ro σ i:=by have:=ev.ext σ [];grind
 have fin:∀b,X.at (bif b then .on rem else .off rem) j ro i->wpL P L all (QcK X h0 fr ro σ w N a.defers Q) rest (a.put o.dst (.bool b)) i:=by
  intro b f;have W:Qbr (λb=>fr b\/j b) a.defers i:=r.defers.to λD F q1 q2=>⟨.inl q1,(t.keep D (r.sim.frLt D q1) (hj.2.beside D F)).trans q2⟩;have hi:In j (λb=>fr b\/j b) a.defers:=by
   refine⟨λb q=>.inr q,λD hD q=>?_⟩;rcases t.new D q with n|n
   .exact hj.2.beside D hD n
   .have:=r.sim.frLt D (r.defers.mark hD).1;omega
  have r':Rel (λb=>fr b\/j b) ro σ H (up env d (.bool b)) N {a with tmps:=a.tmps.setIfInBounds d (.bool b)} i:=
   ⟨s',VR.up (fr:=fr) (λs=>(r.env s).mono p) (by rw[r.size];exact B) rfl,by simpa using r.size,W⟩
  have:=k b O L _ ro σ _ i j r' ⟨f,hi⟩ hrd;simp[F];refine Yn (λe a2 w2 q=>q.grow (λ_ q=>q) t.size rfl ⟨λ_ q=>.inl q,λb q=>?_,λ_ q=>q,λ_ q=>.inl q⟩) _ _ _ this;rcases q with q|q
  .exact .inl q
  .rcases t.new b q with q|q
   .exact .inl (hj.2.sub b q)
   omega
 rcases f with⟨rfl,f⟩|⟨rfl,f⟩
 .exact fin true ⟨n,m,f⟩
 .exact fin false ⟨n,m,f⟩
end
section
variable {T:Type} {X:Ctx T} {P:Program} {h0 N:Nat} {c c':Code} {env:Env} {H:Qd} {st:YSt T} {Q Q':Y9 T}
theorem TCy.mono(h:TCy X P h0 N c env H st Q)(m:∀x env H st,Q x env H st->Q' x env H st):TCy X P h0 N c env H st Q':=by
 intro l n u q σ a w g r hj hrd;refine Code.wpIn_mono ?_ (h l n u q σ a w g r hj hrd);rintro e y z ⟨x,d,H',f,i,σ',j,t,p,k,s⟩;exact⟨x,d,H',f,i,σ',j,t,p,m _ _ _ _ k,s⟩
theorem TCy.skip(h:Q .normal env H st):TCy X P h0 N .skip env H st Q:=TCy.lift (TC.skip h)
theorem TCy.ret(h:Q .ret env H st):TCy X P h0 N .ret env H st Q:=TCy.lift (TC.ret h)
theorem TCy.exit{id:Nat}(h:Q (.exit id) env H st):TCy X P h0 N (.exit id) env H st Q:=TCy.lift (TC.exit h)
def BloY(id:Nat)(Q:Y9 T):Y9 T
 |.normal,env,H,st=>Q .normal env H st
 |.exit id',env,H,st=>bif Nat.beq id' id then Q .normal env H st else Q (.exit id') env H st
 |.ret,env,H,st=>Q .ret env H st
theorem TCy.block{id:Nat}(h:TCy X P h0 N c env H st (BloY id Q)):TCy X P h0 N (.block id c) env H st Q:=by
 intro t u s y σ a w g r hj hrd;refine wpIn_block (Code.wpIn_mono ?_ (h t u s y σ a w g r hj hrd));rintro e B E ⟨x,d,H',i,j,σ',k,n,m,l,p⟩;cases e with
 |normal=>
  obtain rfl:x=.normal:=m;exact⟨_,d,H',i,j,σ',k,n,rfl,l,p⟩
 |exit f=>
  obtain rfl:x=.exit f:=m;unfold Exit.inBlock;simp only[BloY]at l;by_cases q:f=id
  .subst q;rw[VB,Vm]at l;simp;exact⟨.normal,d,H',i,j,σ',k,n,rfl,l,p⟩
  .have z:Nat.beq f id=false:=by
    cases e:Nat.beq f id with
    |false=>rfl
    |true=>simp_all
   rw[z,Vn]at l;simp[q];exact⟨.exit f,d,H',i,j,σ',k,n,rfl,l,p⟩
 |ret=>
  obtain rfl:x=.ret:=m;exact⟨_,d,H',i,j,σ',k,n,rfl,l,p⟩
 |_=>exact m.elim
end
section
variable {T:Type} {X:Ctx T} {P:Program} {h0 N:Nat} {c:Code} {env:Env} {H:Qd} {st:YSt T} {Q:Y9 T}
def QjN(I:Env->Qd->YSt T->Prop)(Q:Y9 T):Y9 T
 |.normal,env,H,st=>I env H st
 |.exit id,env,H,st=>Q (.exit id) env H st
 |.ret,env,H,st=>Q .ret env H st
theorem Qjw{I:Nat->Env->Qd->YSt T->Prop}(t:∀n env H st,I n env H st->TCy X P h0 N c env H st (QjN (λenv H st=>∃n',n'<n/\I n' env H st) Q)){n:Nat}(G:I n env H st):TCy X P h0 N (.loop c) env H st Q:=by
 intro hX M z B σ a w g r hj hrd b k cs hro hb hr;have J:∀m n env H st fr1 ro1 σ1 a1 w1 g1,n<m->I n env H st->Rel fr1 ro1 σ1 H env N a1 w1->(∀b,B b->ro1 b)->w.heap.size<=w1.heap.size->σ1.take h0=σ.take h0->Grow z w a.defers fr1 a1.defers->X.at st g1 ro1 w1/\In g1 fr1 a1.defers->
   ∃e i h,QcK X h0 z B σ w N a.defers Q e i h/\ArrivesIn (Machine.fenced P (WF M)) P (lone (b.atR a1 (.code c::.inLoop c::k)) cs w1) b k cs e i h:=by
  intro m
  induction m with
  |zero=>omega
  |succ m ih=>
   intro n env H st fr1 ro1 σ1 a1 w1 g1 hn G r1 s1 z1 t1 gr1 j1;obtain⟨e,i,h,F,d⟩:=t n env H st G hX M fr1 ro1 σ1 a1 w1 g1 r1 j1 hrd b (.inLoop c::k) cs hro hb hr;obtain⟨x,f,H',j,s,σ',u,W,E,y,O,q4,q5,q6,Y,q8⟩:=F;have V:=λb q=>q5 b (s1 b q);have p:=gr1.trans z1 q8;have R:∀x,Q x f H' j->ExR e x->QcK X h0 z B σ w N a.defers Q e i h:=λx q q'=>⟨x,f,H',j,s,σ',u,W,q',q,O,q4,V,XU z1 q6,Y.trans t1,p⟩;cases e with
   |normal=>
    obtain rfl:x=.normal:=E;obtain⟨n',aa,y⟩:=y;obtain⟨e2,a2,w2,L,l⟩:=ih n' f H' j u s σ' i h W (by omega) y O V (XU z1 q6) (Y.trans t1) p q4;exact⟨e2,a2,w2,L,.of_steps (StepsIn.trans d (.one (fenced_calm hb hr rfl) stepR_inLoop)) l⟩
   |exit id=>
    obtain rfl:x=.exit id:=E;exact⟨_,i,h,R _ y rfl,.pass rfl (λ_ _=>.inl (by simp)) d⟩
   |ret=>
    obtain rfl:x=.ret:=E;exact⟨_,i,h,R _ y rfl,.pass rfl (λ_ _=>.inl (by simp)) d⟩
   |_=>exact E.elim
 obtain⟨e,i,h,F,d⟩:=J (n+1) n env H st z B σ a w g (Xn _) G r (λ_ q=>q) (XS _) rfl (Grow.refl _ _ _) hj;exact⟨e,i,h,F,.of_steps (.one (fenced_calm hb hr rfl) stepR_loop) d⟩
end
theorem Sim.part{fr ro:Nat->Prop}{σ:Sig}{H:Qd}{w:World}(s0:Sim fr ro σ H w){π:List Nat}{Hc:Qd}(V:π.map (λp=>H[p]?)=(Hc.map (QU (rho π H.length))).map some)(hπ:π.Nodup):
  Sim (λb=>fr b\/(∃i x,σ[i]?=some (some b)/\H[i]?=some x/\x.live=true/\i∉π)\/ ∃i x d,σ[i]?=some (some d)/\H[i]?=some x/\Hid w x d b/\i∉π) ro (YA σ π) Hc w/\ ∀j:Nat,σ[rho π H.length j]?=(YA σ π)[j]? :=by
 have hp:∀p∈π,p<H.length:=λp q=>Jb V q;have hσl:=s0.len;have h:∀(j p:Nat),π[j]?=some p->H[p]?=(Hc[j]?).map (QU (rho π H.length)):=by
  intro j p m;have:=congrArg (λl=>l[j]?) V
  grind
 have M:π.length=Hc.length:=by simpa using congrArg List.length V
 have hσc:∀j:Nat,σ[rho π H.length j]?=(YA σ π)[j]? :=by
  intro j;have:=QdJ (τ:=[]) hσl hp j
  grind
 have hπj:∀(j b:Nat),(YA σ π)[j]?=some (some b)->∃p,π[j]?=some p/\σ[p]?=some (some b):=by
  intro j b m;simp only[YA,Xo]at m
  grind
 refine⟨?_,hσc⟩
 .refine⟨by simp[YA,M],s0.roOk,?_,?_,?_,?_,?_,?_⟩
  .rintro b (L|⟨i,x,a,g,e,O⟩|⟨i,x,d,a,g,e,O⟩)
   .exact s0.frLt b L
   .exact(s0.own i b x a g e).1
   .exact(s0.hid i d x b a g e).lt
  .rintro b L (N|⟨i,x,a,g,e,O⟩|⟨i,x,d,a,g,e,O⟩)
   .exact s0.roFr b L N
   .exact(s0.own i b x a g e).2.1 L
   .exact(s0.hid i d x b a g e).ro L
  .intro j b x a g e;obtain⟨p,f,B⟩:=hπj j b a;have u:H[p]?=some (QU (rho π H.length) x):=by grind
   obtain⟨o1,o2,o3⟩:=s0.own p b _ B u (by rw[QH];exact e);refine⟨o1,o2,?_⟩;rintro(N|⟨i,y,y1,y2,F,P⟩|⟨i,y,d,y1,y2,F,P⟩)
   .exact o3 N
   .have:=s0.inj i p b _ _ y1 B y2 u F (by rw[QH];exact e)
    grind
   .exact(s0.hid i d y b y1 y2 F).ne p b _ B u (by rw[QH];exact e) rfl
  .intro i j b x y a g e O q5 q6;obtain⟨p,f,B⟩:=hπj i b a;obtain⟨t,n,X⟩:=hπj j b g;have u:H[p]?=some (QU (rho π H.length) x):=by rw[h i p f,e];rfl
   have W:H[t]?=some (QU (rho π H.length) y):=by rw[h j t n,O];rfl
   have:=s0.inj p t b _ _ B X u W (by rw[QH];exact q5) (by rw[QH];exact q6);subst this;have E:i<π.length:=by
    rcases Vy i π.length with q|q
    .exact q
    .rw[XN q]at f;simp at f
   have m:j<π.length:=by
    rcases Vy j π.length with q|q
    .exact q
    .rw[XN q]at n;simp at n
   rw[XJ E]at f;rw[XJ m]at n;have r:=(XY f).trans (XY n).symm;rcases Nat.lt_trichotomy i j with q|q|q
   .exact(VA.1 hπ i j E m q r).elim
   .exact q
   .exact(VA.1 hπ j i m E q r.symm).elim
  .intro j s x a g;have m:j<π.length:=by
    rcases Vy j π.length with q|q
    .exact q
    .rw[XN (by simpa[YA]using q)]at a;simp at a
   have f:π[j]?=some π[j]:=XJ m;have u:H[π[j]]?=some (QU (rho π H.length) x):=by rw[h j _ f,g];rfl
   have B:σ[π[j]]?=some s:=by
    have:=hσc j;rw[a]at this;simpa[rho,f]using this
   exact(Qgl hσc).1 (s0.blk _ s _ B u)
  .intro j b x c a g e;obtain⟨p,f,B⟩:=hπj j b a;have u:H[p]?=some (QU (rho π H.length) x):=by rw[h j p f,g];rfl
   have k:=s0.hid p b _ c B u ((Qah _ _ _ _ _).2 e);refine⟨k.lt,k.ro,?_,?_,?_⟩
   .rintro(N|⟨i,y,y1,y2,F,P⟩|⟨i,y,d,y1,y2,F,P⟩)
    .exact k.fr N
    .exact k.ne i c y y1 y2 F rfl
    .obtain⟨rfl,rfl⟩:=k.one i d y y1 y2 F;exact P (VD f)
   .intro z J y Y Q R;obtain⟨t,G,T⟩:=hπj z J Y;exact k.ne t J _ T (show H[t]?=some (QU (rho π H.length) y)by rw[h z t G,Q];rfl) (by rw[QH];exact R)
   .intro z J y Y Q R;obtain⟨t,G,T⟩:=hπj z J Y;obtain⟨z4,z5⟩:=k.one t J _ T (show H[t]?=some (QU (rho π H.length) y)by rw[h z t G,Q];rfl) ((Qah _ _ _ _ _).2 R);subst z5;have E:z<π.length:=(XK.1 G).1;have m:j<π.length:=(XK.1 f).1;rw[XJ E]at G;rw[XJ m]at f;have r:=(XY G).trans (XY f).symm;refine⟨z4,?_⟩;rcases Nat.lt_trichotomy z j with q|q|q
    .exact(VA.1 hπ z j E m q r).elim
    .exact q
    .exact(VA.1 hπ j z m E q r.symm).elim
theorem Sim.frames{fr fr' ro:Nat->Prop}{σ:Sig}{H:Qd}{w:World}(s:Sim fr ro σ H w)(lt:∀b,fr' b->b<w.heap.size)(hro:∀b,ro b->¬fr' b)(own:∀(i b:Nat) (x:Blk),σ[i]?=some (some b)->H[i]?=some x->x.live=true->¬fr' b)
  (hd:∀(i b:Nat) (x:Blk) (c:Nat),σ[i]?=some (some b)->H[i]?=some x->Hid w x b c->¬fr' c):Sim fr' ro σ H w:=
 ⟨s.len,s.roOk,lt,hro,λi b x q1 q2 q3=>⟨(s.own i b x q1 q2 q3).1,(s.own i b x q1 q2 q3).2.1,own i b x q1 q2 q3⟩,s.inj,s.blk,
  s.hidTo (· = ·) Q7 (XS _) (by simp) (by grind) (by grind)⟩
theorem Sim.put{fr ro:Nat->Prop}{σ:Sig}{H:Qd}{w:World}(s:Sim fr ro σ H w){b:Nat}{obj:Obj}(l:fr b)(u:w.shape? b=none):
  Sim fr ro σ H (w.putObj b obj)/\Qh (λc=>c≠b) ro w ro (w.putObj b obj):=by
 have a:∀c,c≠b->(w.putObj b obj).heap[c]?=w.heap[c]? :=λc B=>World.putObj_heap_other B;have k:(w.putObj b obj).heap.size=w.heap.size:=by simp
 have r:∀c,ro c->c≠b:=λc q e=>s.roFr c q (e▸l);have ev:Qh (λc=>c≠b) ro w ro (w.putObj b obj):=by
  refine⟨λ_ q=>q,(by grind),λc q=>a c q,by omega,λc x q=>?_,rfl,rfl,rfl,XS _⟩
  grind[World.shape?]
 have h:Ext ro σ w ro σ (w.putObj b obj):=by have:=ev.ext σ [];grind
 refine⟨⟨s.len,s.roOk.to (λ_ q=>q) ev.keepRo (λc q=>by rw[k];exact s.roLt c q),λc q=>by rw[k];exact s.frLt c q,s.roFr,λi c x f g t=>?_,s.inj,λi y x f g=>?_,
  s.hidTo (· = ·) Q7 (by omega) (by simp) (by simp) λj d y m n J=>.inl ⟨j,y,rfl,m,n,id,λc q=>s.hidKeep m n (λz=>a d (λe=>(s.own j d y m n z).2.2 (e▸l))) ev.keepRo q⟩⟩,ev⟩
 .obtain⟨G,F,E⟩:=s.own i c x f g t
  grind
 .refine(s.blk i y x f g).keep h ?_ ?_
  .rintro c rfl p;exact a c (λe=>(s.own i c x f g p).2.2 (e▸l))
  .rintro d c rfl p;exact a c (λe=>(s.hid i d x c f g p).fr (e▸l))
theorem Qd2{w:World}{l:Nat}{r:Loop}(h:w.heap[l]?=some (.loop r)):w.shape? l=none:=by
 unfold World.shape?;rw[h]
structure Fix where
 fr:Nat->Prop
 ro:Nat->Prop
 σ:Sig
 w:World
 h1:Nat
 env:Env
 tmps:Array Value
 ds1:List Deferred
 l:Nat
 rc:LoopState->Option Code->Loop
 fr1:Nat->Prop
structure Fix.Ok (D:Fix):Prop where
 sub:∀b,D.fr b->D.fr1 b
 l1:D.fr1 D.l
 lf:¬D.fr D.l
 len:D.σ.length=D.h1
structure RJ (D:Fix) (ro1:Nat->Prop) (σ1:Sig) (H:Qd) (st:LoopState) (pe:Option Code) (q g:Nat->Prop) (W:World):Prop where
 sim:Sim D.fr1 ro1 σ1 H W
 env:∀t,VR ro1 D.σ W (lk D.env t) (D.tmps.getD t undef)
 sig:σ1.take D.h1=D.σ
 ev:Qh D.fr D.ro D.w ro1 W
 marks:Qbr D.fr1 D.ds1 W
 rc:W.heap[D.l]?=some (.loop (D.rc st pe))
 roG:∀b,ro1 b->q b\/g b
 frG:∀b,D.fr1 b->g b
 own:∀(i b:Nat) (x:Blk),σ1[i]?=some (some b)->H[i]?=some x->x.live=true->g b
 hidG:∀(i b:Nat) (x:Blk) (c:Nat),σ1[i]?=some (some b)->H[i]?=some x->Hid W x b c->g c
 lt:∀b,g b->b<W.heap.size
theorem Qgs{σ σ1:Sig}{a:Nat}(h:σ1.take a=σ){i b:Nat}(q:σ[i]?=some (some b)):σ1[i]?=some (some b):=by
 grind
section
variable {D:Fix} {ro1:Nat->Prop} {σ1:Sig} {H:Qd} {st:LoopState} {pe:Option Code} {qR g:Nat->Prop} {W:World}
theorem RJ.step(r:D.Ok)(j:RJ D ro1 σ1 H st pe qR g W){p:Nat->Prop}{W':World}(e:Qh g qR W p W'):RJ D ro1 σ1 H st pe qR g W':=by
 have hro:=λb q=>(j.roG b q).elim (e.keepRo b) (e.keepFr b);have ev:Qh D.fr1 ro1 W ro1 W':=⟨λ_ q=>q,hro,λb q=>e.keepFr b (j.frG b q),e.size,e.shape,e.os,e.tape,e.output,e.drawn⟩;have h:∀σ,Ext ro1 σ W ro1 σ W':=λ σ=>by have:=ev.ext σ [];grind
 refine⟨⟨j.sim.len,j.sim.roOk.to (λ_ q=>q) hro (λb q=>Vd (j.sim.roLt b q) e.size),λb q=>Vd (j.sim.frLt b q) e.size,j.sim.roFr,λi b x a f l=>?_,j.sim.inj,λi z x a f=>?_,
  j.sim.hidTo (· = ·) Q7 e.size (by simp) (by simp) λi d y k m w=>.inl ⟨i,y,rfl,k,m,id,λc q=>j.sim.hidKeep k m (λz=>e.keepFr d (j.own i d y k m z)) hro q⟩⟩,
  λt=>(j.env t).mono (h _),j.sig,j.ev.trans (ev.frMono r.sub),j.marks.keep ev,(ev.keepFr _ r.l1).trans j.rc,j.roG,j.frG,j.own,λi b x c a f l=>j.hidG i b x c a f (j.sim.hidKeep a f (λz=>e.keepFr b (j.own i b x a f z)) hro l),λb q=>Vd (j.lt b q) e.size⟩
 .obtain⟨u,s⟩:=j.sim.own i b x a f l;exact⟨Vd u e.size,s⟩
 .refine(j.sim.blk i z x a f).keep (h _) ?_ ?_
  .rintro b rfl n;exact e.keepFr b (j.own i b x a f n)
  .rintro b c rfl n;exact e.keepFr c (j.hidG i b x c a f n)
theorem RJ.up{g':Nat->Prop}(j:RJ D ro1 σ1 H st pe qR g W)(h:∀b,g b->g' b)(hl:∀b,g' b->b<W.heap.size):RJ D ro1 σ1 H st pe qR g' W:=
 {j with roG:=λb q=>(j.roG b q).imp id (h b),frG:=λb q=>h b (j.frG b q),own:=λi b x q1 q2 q3=>h b (j.own i b x q1 q2 q3),hidG:=λi b x c q1 q2 q3=>h c (j.hidG i b x c q1 q2 q3),lt:=hl}
def FrB(D:Fix)(ro1 g:Nat->Prop)(W:World):Nat->Prop:=λb=>(D.fr1 b\/(¬g b/\ ¬ro1 b))/\b<W.heap.size
theorem RJ.simB(j:RJ D ro1 σ1 H st pe qR g W):Sim (FrB D ro1 g W) ro1 σ1 H W:=by
 refine j.sim.frames (λb q=>q.2) (λb q r=>?_) (λi b x a e d r=>?_) (λi b x c a e d r=>r.1.elim (j.sim.hid i b x c a e d).fr λr=>r.1 (j.hidG i b x c a e d))
 .rcases r.1 with r|r
  .exact j.sim.roFr b q r
  grind
 .rcases r.1 with r|r
  .exact(j.sim.own i b x a e d).2.2 r
  .exact r.1 (j.own i b x a e d)
theorem RJ.fin(y:D.Ok)(j:RJ D ro1 σ1 H st pe qR g W){w p:Nat->Prop}{σ':Sig}{H':Qd}{W':World}{st':LoopState}{pe':Option Code}
  (ev:Qh (λb=>FrB D ro1 g W b/\b≠D.l) ro1 W p W')(s:Sim w p σ' H' W')(u:∀b,FrB D ro1 g W b->w b)(hσ:σ'.take D.h1=σ1.take D.h1)(J:W'.heap[D.l]?=some (.loop (D.rc st' pe'))):
  RJ D p σ' H' st' pe' qR (λb=>g b\/(W.heap.size<=b/\b<W'.heap.size)) W'/\QeN g (λb=>g b\/(W.heap.size<=b/\b<W'.heap.size)) W W':=by
 have m:∀b,D.fr1 b->FrB D ro1 g W b:=λb q=>⟨.inl q,j.sim.frLt b q⟩;have evf:=ev.frMono λb q=>⟨m b (y.sub b q),λe=>y.lf (e▸q)⟩;have hext:=ev.ext0 D.σ;have z:∀b,b<W.heap.size->b<W'.heap.size:=λb q=>Vd q ev.size;have f:∀b,b<W.heap.size->¬FrB D ro1 g W b->g b\/ro1 b:=by
  intro b d F;by_cases h:g b
  .exact .inl h
  .by_cases a:ro1 b
   .exact .inr a
   .exact absurd ⟨.inr ⟨h,a⟩,d⟩ F
 refine⟨⟨s.frames (λb q=>z b (j.sim.frLt b q)) (λb q r=>s.roFr b q (u b (m b r))) (λi b x h a n r=>(s.own i b x h a n).2.2 (u b (m b r))) (λi b x c h a n r=>(s.hid i b x c h a n).fr (u c (m c r))),
  λt=>(j.env t).mono hext,hσ.trans j.sig,j.ev.trans evf,j.marks.to λB _ e2 e3=>⟨e2,(ev.keepFr B ⟨m B e2,λe=>?_⟩).trans e3⟩,J,λb q=>?_,λb q=>.inl (j.frG b q),λi b x h a n=>?_,λi b x c h a n=>?_,λb q=>q.elim (λq=>z b (j.lt b q)) (λq=>q.2)⟩,
  ⟨λb q=>.inl q,(by grind),λb q=>q.elim (λq=>z b (j.lt b q)) (λq=>q.2),(by omega),λb h a=>?_,ev.size,ev.shape,ev.os,ev.tape,ev.output,ev.drawn⟩⟩
 .subst e;rw[j.rc]at e3;cases e3
 .rcases Vy b W.heap.size with d|d
  .rcases f b d (λr=>s.roFr b q (u b r))with r|r
   .grind
   .exact(j.roG b r).imp id .inl
  .exact .inr (.inr ⟨d,s.roLt b q⟩)
 .obtain⟨L,E,G⟩:=s.own i b x h a n;rcases Vy b W.heap.size with d|d
  .rcases f b d (λr=>G (u b r))with r|r
   .exact .inl r
   .exact absurd (ev.sub b r) E
  omega
 .have k:=s.hid i b x c h a n;rcases Vy c W.heap.size with d|d
  .rcases f c d (λr=>k.fr (u c r))with r|r
   .exact .inl r
   .exact absurd (ev.sub c r) k.ro
  .exact .inr ⟨d,k.lt⟩
 .by_cases r:ro1 b
  .exact ev.keepRo b r
  .exact ev.keepFr b ⟨(by grind),λe=>a (j.frG b (e▸y.l1))⟩
end
theorem Sim.roAdd{fr ro a:Nat->Prop}{σ:Sig}{H:Qd}{w:World}(s:Sim fr ro σ H w)(d:∀b,a b->b<w.heap.size)(f:∀b,a b->¬fr b)(h:∀(i b:Nat) (x:Blk),σ[i]?=some (some b)->H[i]?=some x->x.live=true->¬a b)
  (j:∀(i b:Nat) (x:Blk) (c:Nat),σ[i]?=some (some b)->H[i]?=some x->Hid w x b c->¬a c):Sim fr (λb=>ro b\/a b) σ H w:=by
 have ext:Ext ro σ w (λb=>ro b\/a b) σ w:=⟨λ_ q=>.inl q,λ_ _=>rfl,λ_ _ q=>q,λ_ _ q=>q⟩;refine⟨s.len,s.roOk.to (λ_ q=>.inl q) (λ_ _=>rfl) (λb q=>q.elim (s.roLt b) (d b)),s.frLt,λb q=>q.elim (s.roFr b) (f b),λi b x e g k=>?_,s.inj,λi y x e g=>(s.blk i y x e g).keep ext (λ_ _ _=>rfl) (λ_ _ _ _=>rfl),
  s.hidTo (· = ·) Q7 (XS _) (by grind) (by simp) (by grind)⟩
 obtain⟨n,m,l⟩:=s.own i b x e g k
 grind
theorem RJ.roAdd{D:Fix}{ro1:Nat->Prop}{σ1:Sig}{H:Qd}{st:LoopState}{pe:Option Code}{qR ri g:Nat->Prop}{W:World}(j:RJ D ro1 σ1 H st pe qR g W)(hq:∀b,qR b->ri b)(hI:∀b,ri b->b<W.heap.size/\ ¬g b):RJ D (λb=>ro1 b\/ri b) σ1 H st pe ri g W:=
 {j with
  sim:=j.sim.roAdd (λb q=>(hI b q).1) (λb q z=>(hI b q).2 (j.frG b z)) (λi b x q1 q2 q3 z=>(hI b z).2 (j.own i b x q1 q2 q3)) (λi b x c q1 q2 q3 z=>(hI c z).2 (j.hidG i b x c q1 q2 q3))
  env:=λt=>(j.env t).mono ⟨λ_ q=>.inl q,λ_ _=>rfl,λ_ _ q=>q,λ_ _ q=>q⟩
  ev:=j.ev.trans (Q1 λ_ q=>.inl q)
  roG:=λb q=>q.elim (λq=>(j.roG b q).imp (hq b) id) .inl}
def upPs:List Nat->List A->Env->Env
 |p::ps,a::zs,env=>upPs ps zs (up env p a)
 |_,_,env=>env
def Qhw:List Nat->List Value->Array Value->Array Value
 |p::ps,v::vs,t=>Qhw ps vs (t.setIfInBounds p v)
 |_,_,t=>t
theorem Qfc:∀(ps:List Nat) (vs:List Value) (t:Array Value),(Qhw ps vs t).size=t.size
 |[],_,_=>rfl
 |_::_,[],_=>rfl
 |p::ps,v::vs,t=>by simp[Qhw,Qfc ps]
theorem Qfd:∀(ps:List Nat) (vs:List Value) (t:Array Value),(ps.toArray.zip vs.toArray).foldl (λt (p,v)=>t.setIfInBounds p v) t=Qhw ps vs t
 |[],vs,t=>by rw[<- Array.foldl_toList,Array.toList_zip];rfl
 |p::ps,[],t=>by rw[<- Array.foldl_toList,Array.toList_zip];rfl
 |p::ps,v::vs,t=>by
  have:=Qfd ps vs (t.setIfInBounds p v);rw[<- Array.foldl_toList,Array.toList_zip]at this⊢;exact this
theorem Qif{ro:Nat->Prop}{σ:Sig}{w:World}:∀(ps:List Nat) (zs:List A) (vs:List Value) (env:Env) (t:Array Value),LR ro σ w zs vs->(∀p∈ps,p<t.size)->(∀s,VR ro σ w (lk env s) (t.getD s undef))->
  ∀s,VR ro σ w (lk (upPs ps zs env) s) ((Qhw ps vs t).getD s undef)
 |[],_,_,_,_,_,_,h=>h
 |p::ps,[],vs,_,_,hv,_,h=>by
  obtain rfl:vs=[]:=hv;exact h
 |p::ps,a::zs,vs,env,t,hv,hp,h=>by
  obtain⟨v,vs',rfl,h0,hv'⟩:=hv;have h1:=VR.up (fr:=λ_=>False) (a:={tmps:=t,defers:=[]}) h (hp p (by simp)) h0;exact Qif ps zs vs' (up env p a) (t.setIfInBounds p v) hv' (λq hq=>by grind) h1
def Qnc(h1:Nat)(env:Env)(Q:QE)(K:Qd->Prop):QE
 |.normal,env',H'=>∃H2,Le h1 env' H' [] H2/\K H2
 |.exit id,env',H'=>∃H2,Le h1 env' H' [] H2/\Q (.exit id) env H2
 |.ret,env',H'=>∃H2,Le h1 env' H' [] H2/\Q .ret env H2
def Jump(Q:QE)(env:Env)(c:Code)(H:Qd):Prop:=(∃id,c=.exit id/\Q (.exit id) env H)\/(c=.ret/\Q .ret env H)
section
variable {D:Fix} {ro0:Nat->Prop} {σ1:Sig} {H:Qd} {qR ri g:Nat->Prop} {W:World} {P:Program} {N:Nat} {Q:QE} {K:Qd->Prop}
theorem RJ.round{fn:FuncId}{E:List Nat}{assign body:Code}{df:Nat}{J:List A}{vs:List Value}(hD:D.Ok)(ac:D.rc=λst pe=>{state:=st,pending:=pe,fn:=fn,tmps:=D.tmps,params:=E.toArray,assign:=assign,body:=body,defers:=df})
  (hN:D.tmps.size=N)(am:∀p∈E,p<N)(al:J.length=E.length)(hq:∀b,qR b->ri b)(hI:∀b,ri b->b<W.heap.size/\ ¬g b)(V:LR ri [] W J vs)(j0:RJ D ro0 σ1 H .ready none qR g W)
  (h:TC P D.h1 N assign (upPs E J D.env) H λe env1 H1=>e=.normal/\TC P D.h1 N body env1 H1 (Qnc D.h1 D.env Q K)):
  YieldAt Fence.wide 0 P D.l vs.toArray W λe W'=>∃g',QeN g g' W W'/\((e=.returned (.bool true)/\ ∃H2 ro2 σ2,K H2/\RJ D ro2 σ2 H2 .ready none ri g' W')\/
   (e=.returned (.bool false)/\ ∃H2 c ro2 σ2,Jump Q D.env c H2/\RJ D ro2 σ2 H2 .done (some c) ri g' W')):=by
 have an:vs.length=J.length:=V.length;have j:=j0.roAdd hq hI;have x:LR (λb=>ro0 b\/ri b) σ1 W J vs:=V.mono ⟨λ_ q=>.inr q,λ_ _=>rfl,λ_ _ q=>q,λi b q=>by simp at q⟩;clear j0;generalize(λb=>ro0 b\/ri b)=ro1 at j x;have af:∀b,D.fr1 b->FrB D ro1 g W b:=λb q=>⟨.inl q,j.sim.frLt b q⟩;have z:=af _ hD.l1;have aa:=j.rc;have hy:=run_yield (P:=P) (r:=D.rc .ready none) (args:=vs.toArray) aa (by grind);refine⟨fn,Qhw E vs D.tmps,assign,body,?_,?_⟩
 .grind[Qfd]
 .refine roundIn_of_wpIn trivial ?_;show Code.wpIn (WF (some D.l)) 0 P _ _ _ _;have T:∀s,VR ro1 σ1 W (lk D.env s) (D.tmps.getD s undef):=λs=>(j.env s).mono ⟨λ_ q=>q,λ_ _=>rfl,λ_ _ q=>q,λi b q=>Qgs j.sig q⟩;have ai:QdF (some D.l) (FrB D ro1 g W) W:=λl e=>by grind
  have u:=h (some D.l) (FrB D ro1 g W) ro1 σ1 {tmps:=Qhw E vs D.tmps,defers:=[]} W ⟨j.simB,Qif E J vs D.env D.tmps x (by grind) T,by simp[Qfc,hN],List.nodup_nil,λd hd=>by cases hd⟩ ai;refine Code.wpIn_mono ?_ u;rintro e a1 u ⟨x1,env1,H1,ro2,σ2,m,h1,⟨rfl,h2⟩,h3,h4,h5,h6⟩;cases e with
  |normal=>
   have ad:u.heap[D.l]?=some (.loop (D.rc .ready none)):=(h4.keepFr _ z).trans aa;refine⟨_,run_beginRound ad (by rw[ac]),?_⟩;obtain⟨s2,F⟩:=h3.sim.put (obj:=.loop {D.rc .ready none with state:=.busy}) (h6.sub _ z) (Qd2 ad);have ab:D.l<u.heap.size:=by grind
   have ah:(u.putObj D.l (.loop {D.rc .ready none with state:=.busy})).heap[D.l]?=some (.loop {D.rc .ready none with state:=.busy}):=World.putObj_heap_same ab;generalize hw2:u.putObj D.l (.loop {D.rc .ready none with state:=.busy})=w2 at*;have aj:Qbr m a1.defers w2:=h3.defers.to λB _ e2 e3=>⟨e2,(F.keepFr B (λe=>by grind)).trans e3⟩;have r2:Rel m ro2 σ2 H1 env1 N a1 w2:=⟨s2,λs=>(h3.env s).mono (F.ext0 σ2),h3.size,aj⟩;have O:m D.l:=h6.sub _ z;refine Code.wpIn_mono ?_ (h2 (some D.l) m ro2 σ2 a1 w2 r2 (λl e=>by grind));rintro e a3 t ⟨x3,L,H3,y,σ3,R,g1,g2,g3,g4,g5,g6⟩;have n:t.heap[D.l]?=some (.loop {D.rc .ready none with state:=.busy}):=(g4.keepFr _ O).trans ah;have G:∀(H2:Qd) (jump:Option Code),Le D.h1 L H3 [] H2->∃v k,(Instr.endRound D.l jump).run P t=.ok v k/\v=.bool jump.isNone/\ ∃g',QeN g g' W k/\ ∃a σ4,RJ D a σ4 H2 (if jump.isNone then .ready else .done) jump ri g' k:=by
    intro H2 jump f;obtain⟨a,σ4,r4,s4,t4⟩:=f R y σ3 N a3 t g3;refine⟨_,_,run_endRound jump n,rfl,?_⟩;have ae:R D.l:=g6.sub _ O;obtain⟨s5,ag⟩:=r4.sim.put ae (Qd2 n);have X:D.l<t.heap.size:=by rw[Vb]at n;exact n.1
    have ak:=World.putObj_heap_same (w:=t) (r:=D.l) (o:=.loop {{D.rc .ready none with state:=.busy}with state:=if jump.isNone then .ready else .done,pending:=jump}) X;have e1:Qh (λb=>FrB D ro1 g W b/\b≠D.l) ro1 W ro2 u:=h4.frMono λb q=>q.1;have e2:Qh (λb=>FrB D ro1 g W b/\b≠D.l) ro2 u ro2 w2:=F.frMono λb q=>q.2;have e3:Qh (λb=>FrB D ro1 g W b/\b≠D.l) ro2 w2 y t:=g4.frMono λb q=>h6.sub b q.1;have e4:Qh (λb=>FrB D ro1 g W b/\b≠D.l) y t a t:=Q1 s4;have e5:=(((e1.trans e2).trans e3).trans e4).trans (ag.frMono λb (q:FrB D ro1 g W b/\b≠D.l)=>q.2);obtain⟨q1,q2⟩:=j.fin hD e5 s5 (λb q=>g6.sub b (h6.sub b q)) (by rw[t4,g5,h5]) (st':=if jump.isNone then .ready else .done) (pe':=jump) (by rw[ak,ac]);exact⟨_,q2,a,σ4,q1⟩
   cases e with
   |normal=>
    obtain rfl:x3=.normal:=g1;obtain⟨H2,f,M⟩:=g2;obtain⟨v,k,Y,rfl,g',k2,a,σ4,k3⟩:=G H2 none f;exact⟨_,k,Y,g',k2,.inl ⟨rfl,H2,a,σ4,M,k3⟩⟩
   |exit id=>
    obtain rfl:x3=.exit id:=g1;obtain⟨H2,f,M⟩:=g2;obtain⟨v,k,Y,rfl,g',k2,a,σ4,k3⟩:=G H2 (some (.exit id)) f;exact⟨_,k,Y,g',k2,.inr ⟨rfl,H2,_,a,σ4,.inl ⟨id,rfl,M⟩,k3⟩⟩
   |ret=>
    obtain rfl:x3=.ret:=g1;obtain⟨H2,f,M⟩:=g2;obtain⟨v,k,Y,rfl,g',k2,a,σ4,k3⟩:=G H2 (some .ret) f;exact⟨_,k,Y,g',k2,.inr ⟨rfl,H2,_,a,σ4,.inr ⟨rfl,M⟩,k3⟩⟩
   |_=>exact g1.elim
  |exit id=>cases h1
  |ret=>cases h1
  |_=>exact h1.elim
end
theorem Sim.beside{fr ro:Nat->Prop}{σ:Sig}{H:Qd}{w g:World}(s:Sim fr ro σ H w)(ev:Qh fr ro w ro g)(a:∀b,b<w.heap.size->g.heap[b]?=w.heap[b]?):Sim (λb=>fr b\/(w.heap.size<=b/\b<g.heap.size)) ro σ H g:=by
 have hext:=ev.ext0 σ;refine⟨s.len,s.roOk.to (λ_ q=>q) ev.keepRo (λb q=>Vd (s.roLt b q) ev.size),λb q=>q.elim (λq=>Vd (s.frLt b q) ev.size) (λq=>q.2),λb q r=>?_,λi b x e f k=>?_,s.inj,λi z x e f=>?_,
  s.hidTo (· = ·) Q7 ev.size (by simp) (λi b x c e f k n=>n.elim id λq=>(by have:=(s.hid i b x c e f k).lt;omega)) λj d y h l B=>.inl ⟨j,y,rfl,h,l,id,λc q=>s.hidKeep h l (λz=>a d (s.own j d y h l z).1) ev.keepRo q⟩⟩
 .rcases r with r|r
  .exact s.roFr b q r
  .have:=s.roLt b q;omega
 .obtain⟨u,t,p⟩:=s.own i b x e f k
  grind
 .refine(s.blk i z x e f).keep hext ?_ ?_
  .rintro b rfl m;exact a b (s.own i b x e f m).1
  .rintro b c rfl m;exact a c (s.hid i b x c e f m).lt
section
variable {P:Program} {T:Type} {ts tq te k tm:Nat} {g:FuncId} {es:List (A×A)} {e:T->List A} {ea:T->A} {xs:List T}
end
theorem TCy.le{T:Type}{X:Ctx T}{P:Program}{h0 N:Nat}{c:Code}{env d:Env}{H H':Qd}{l:YSt T}{Q:Y9 T}(k:Le h0 env H d H')(h:TCy X P h0 N c d H' l Q):TCy X P h0 N c env H l Q:=by
 intro n u m x σ a w g r hj hrd;obtain⟨f,σ',p,s,t⟩:=k m x σ N a w r;obtain⟨⟨z,y,j⟩,i⟩:=hj;exact Code.wpIn_mono (λe a w q=>q.grow s (XS _) t (Grow.refl _ _ _)) (h n u m f σ' a w g p ⟨⟨z,(by grind),j⟩,i⟩ hrd)
theorem QjV{P:Program}{o:Oper}{env:Env}{H:Qd}{y z:Operand}{l:Nat}{a:A}{h:Array TypeId}(j:o.op=.call {callee:=.value y,args:= #[z],argTypes:=h})(g:opA env y=.fn (.yield l) [] [])(m:opA env z=a)(k:Yo a=true){N:Nat}:
  ∀fr ro σ act w,Rel fr ro σ H env N act w->∃vs:List Value,LR ro [] w [a] vs/\(execOp act.eval o).run P w=(Instr.yield l vs.toArray).run P w:=by
 intro fr ro σ act w r;have d:=Qo r y;rw[g]at d;obtain⟨i,n,d,f,p⟩:=d;obtain rfl:i=[]:=f;have e:=Qo r z;rw[m]at e;refine⟨[act.eval z],⟨_,_,rfl,VR.data k e,rfl⟩,?_⟩;generalize act.eval=ev at*;simp[execOp,j,invoke,go_sem,d]
theorem QiS{P:Program}{o:Oper}{env:Env}{H:Qd}{y e a:Operand}{l:Nat}{i h:A}{s:Array TypeId}(u:o.op=.call {callee:=.value y,args:= #[e,a],argTypes:=s})(q:opA env y=.fn (.yield l) [] [])(k:opA env e=i)(j:opA env a=h)(g:Yo i=true)(f:Yo h=true){N:Nat}:
  ∀fr ro σ act w,Rel fr ro σ H env N act w->∃vs:List Value,LR ro [] w [i,h] vs/\(execOp act.eval o).run P w=(Instr.yield l vs.toArray).run P w:=by
 intro fr ro σ act w r;have d:=Qo r y;rw[q]at d;obtain⟨t,x,d,p,z⟩:=d;obtain rfl:t=[]:=p;have m:=Qo r e;rw[k]at m;have n:=Qo r a;rw[j]at n;refine⟨[act.eval e,act.eval a],⟨_,_,rfl,VR.data g m,_,_,rfl,VR.data f n,rfl⟩,?_⟩;generalize act.eval=ev at*;simp[u,invoke,go_sem,d]
section
variable {P:Program} {K V:Type} {tm tb ty tk kt et:Nat} {ek:K->A} {ev:V->A} {m:List (K×V)} {T:Type}
end
section
variable {P:Program} {o:Oper} {env:Env} {H:Qd} {fr ro:Nat->Prop} {σ:Sig} {w:World}
theorem QdU{h0 i m T:Nat}{d:List A}(k:H[i]?=some (.cells T d)):Le h0 env H env (H.set i (.cells T (d.set m .any))):=by
 intro u s σ N a w r;refine⟨s,σ,⟨r.sim.weaken k rfl ?_,r.env,r.size,r.defers⟩,λ_ q=>q,rfl⟩;intro y h;cases y with
 |none=>exact h
 |some b=>
  obtain⟨l,f,g,n⟩:=h;refine⟨l,f,?_,n⟩;clear f n k
  induction d generalizing m l with
  |nil=>exact g
  |cons c d t=>
   obtain⟨v,e,rfl,p,j⟩:=g;cases m with
   |zero=>exact⟨v,e,rfl,trivial,j⟩
   |succ m=>exact⟨v,e,rfl,p,t e j⟩
theorem Pts.ents{i a t e f g j:Nat}{l:List Ent}{x:Ent}{d:List A}(he:l[e]?=some x)(r:H[i]?=some (.ents t g j l):=by exact rfl)(ho:a=e*3+f:=by exact rfl)(hcs:(eC g j x).drop f=d:=by exact rfl):Pts H (.ptr i a) d:=by
 intro z u σ w v s h;obtain⟨b,q,m⟩:=h;obtain⟨y,n,p⟩:=s.blk i _ _ q r;have k:(l.map (eC g j))[e]?=some (eC g j x):=by rw[Xo,he];rfl
 have:=((YL (pre:=[]) (by simpa using n) p).get e k).2.drop f;refine⟨b,a,m,?_⟩;rw[<- hcs,ho];simpa using this
end
section
variable {P:Program} {h0 N:Nat} {A B C:Code} {env:Env} {H:Qd} {Q:QE}
end
section
variable {P:Program} {o:Oper} {env:Env} {H:Qd}
def Yj(k:IntKind)(m n:Int):Int:=k.wrap (BitVec.ofInt k.bits m&&& BitVec.ofInt k.bits n).toNat
def Yi(k:IntKind)(m n:Int):Int:=m.fdiv (2^(min n.toNat k.bits))
theorem OpV.and{t u:TypeId}{x y:Operand}{k:IntKind}{m n:Int}(h:o.op=.binOp .and t x y u)(g:opA env x=.int k m)(e:opA env y=.int k n):OpV P o env H (.int k (Yj k m n)):=by
 intro j i σ N a w r;have f:=QP r g;have d:=QP r e;refine⟨_,?_,rfl⟩;generalize a.eval=ρ at*;simp[h,f,d,Op.intBits,go_sem,Yj]
theorem OpV.shr{t u:TypeId}{x y:Operand}{k f:IntKind}{m n:Int}(g:o.op=.binOp .shr t x y u)(j:opA env x=.int k m)(e:opA env y=.int f n)(h:0<=n):OpV P o env H (.int k (Yi k m n)):=by
 intro p l σ N a w r;have i:=QP r j;have d:=QP r e;refine⟨_,?_,rfl⟩;generalize a.eval=ρ at*;simp[g,i,d,Op.shift,go_sem,Yi,Int.not_lt.2 h]
theorem YV{h0 i m t k T:Nat}{d:List A}(F:Nat.ble h0 H.length=true)(j:H[i]?=some (.cells T d))(f:d[m]?=some .nils):
  Le h0 env H env (H.set i (.cells T (d.set m (.osl H.length 0 0 k)))++[.row t k []]):=by
 intro J n σ N a w r;have hh':=XQ F;have hi:=(XK.1 j).1;have ext:Ext n σ w n (σ++[none]) w:=⟨λ_ q=>q,λ_ _=>rfl,λ_ _ q=>q,λ_ _ h=>Qb7 h⟩;have s:=r.sim.phantom t k;have e:(H++[Blk.row t k []])[i]?=some (.cells T d):=by rw[XL hi];exact j
 have z:H.set i (.cells T (d.set m (.osl H.length 0 0 k)))++[.row t k []]=(H++[Blk.row t k []]).set i (.cells T (d.set m (.osl H.length 0 0 k))):=by
  rw[List.set_append_left _ _ hi]
 rw[z];refine⟨n,σ++[none],⟨s.weaken e rfl ?_,λq=>(r.env q).mono ext,r.size,r.defers⟩,λ_ q=>q,QM (by rw[r.sim.len];exact hh')⟩;intro y h;cases y with
 |none=>exact h
 |some b=>
  obtain⟨l,p,E,B⟩:=h;refine⟨l,p,?_,B⟩;clear p B e z j
  induction d generalizing m l with
  |nil=>cases f
  |cons c d G=>
   obtain⟨v,g,rfl,u,x⟩:=E;cases m with
   |zero=>
    simp at f;subst f;exact⟨v,g,rfl,.inl ⟨rfl,u⟩,x⟩
   |succ m=>exact⟨v,g,rfl,u,G (by simpa using f) g x⟩
def SrcB(P:Program)(H:Qd)(x:A)(l:List Int):Prop:=
 ∀fr ro σ w v,Sim fr ro σ H w->VR ro σ w x v->(∃a c,v=.slice a 0 c/\l=[])\/ ∃b off c,v=.slice (some ⟨b,off,none⟩) l.length c/\(l=[]\/CR ro σ w b (l.map λn=>A.int .u8 n) off)
theorem Qf0:∀(l:List Int),(l.map (λn=>[A.int .u8 n])).flatten=l.map λn=>A.int .u8 n
 |[]=>rfl
 |n::l=>by simp[Qf0 l]
theorem SrcB.nils:SrcB P H .nils []:=λfr ro σ w v s h=>.inl ⟨none,0,h,rfl⟩
theorem SrcB.row{i t n:Nat}{l:List Int}(r:H[i]?=some (.row t 1 (l.map λn=>[A.int .u8 n])):=by exact rfl)(hn:l.length=n:=by exact rfl):SrcB P H (.osl i 0 n 1) l:=by
 intro F y σ w v s h;rcases h with⟨rfl,rfl⟩|⟨b,p,a,z,m,j,rfl,f,⟨B,q⟩,u,x⟩
 .exact .inl ⟨none,0,rfl,VF.1 hn⟩
 .refine .inr ⟨b,p,a,by rw[hn],?_⟩;by_cases e:l=[]
  .exact .inl e
  .have:0<a:=by have:=List.length_pos_iff.2 e;omega
   obtain rfl:=f this;obtain⟨E,g,k⟩:=s.blk i _ _ j r;have d:=(YL (pre:=[]) (by simpa using g) k).flat.1;rw[Qf0]at d;exact .inr (by simpa using d.lift)
theorem SrcB.rsl{l:List Int}:SrcB P H (.rsl 1 (l.map λn=>[A.int .u8 n])) l:=by
 intro i j σ w v s ⟨a,c,h1,h2,e⟩;subst h1;rw[X0]at*;rcases e with e|⟨b,d,rfl,h,g⟩
 .have:=List.map_eq_nil_iff.1 e;subst this;exact .inl ⟨a,c,by simp,rfl⟩
 .have f:=g.flat.1;rw[Qf0]at f;exact .inr ⟨b,d,c,rfl,.inr f.lift⟩
end
def Qbd:Option Blk->Bool
 |some .dead=>true
 |_=>false
def Qan(hB hE:Nat)(H H':Qd):Bool:=(List.range (hE-hB)).all λp=> !Qbd H'[hB+p]? ||Qbd H[hB+p]?
def QiO(hB hE:Nat)(σ:Sig)(H:Qd):Prop:=∀p,hB<=p->p<hE->Qbd H[p]?=true->σ[p]?=some none
theorem Qjm{hB hE:Nat}{H H':Qd}(h:Qan hB hE H H'=true){p:Nat}(e:hB<=p)(d:p<hE)(a:Qbd H'[p]?=true):Qbd H[p]?=true:=by
 have:=Xs.1 h (p-hB) (List.mem_range.2 (by omega));rw[show hB+(p-hB)=p by omega,a]at this;simpa using this
theorem Sim.allocAt{fr ro:Nat->Prop}{σ:Sig}{H:Qd}{w:World}(s:Sim fr ro σ H w){p:Nat}(M:σ[p]?=some none){obj:Obj}{x:Blk}
  (O:BR ro (σ.set p (some w.heap.size)) (w.alloc obj) x (some w.heap.size))
  (E:∀c,Hid (w.alloc obj) x w.heap.size c->False:=by exact λ_ h=>h.elim):Sim fr ro (σ.set p (some w.heap.size)) (H.set p x) (w.alloc obj):=by
 have ev:Qh fr ro w ro (w.alloc obj):=Qh.alloc obj s.roLt s.frLt;have t:=s.len;have F:p<σ.length:=(XK.1 M).1;have u:Ext ro σ w ro (σ.set p (some w.heap.size)) (w.alloc obj):=⟨ev.sub,ev.keepRo,ev.shape,λi b q=>by
  rw[XO (λz=>by subst z;rw[M]at q;cases q)];exact q⟩
 have e:∀(i:Nat) (y:Option Nat),(σ.set p (some w.heap.size))[i]?=some y->(i≠p/\σ[i]?=some y)\/(i=p/\y=some w.heap.size):=by
  intro i y h;by_cases q:i=p
  .subst q;rw[Xa F]at h;exact .inr ⟨rfl,(XY h).symm⟩
  .rw[XO (λz=>q z.symm)]at h;exact .inl ⟨q,h⟩
 have n:∀i:Nat,i≠p->(H.set p x)[i]?=H[i]? :=λi P=>XO (λz=>P z.symm);have J:(H.set p x)[p]?=some x:=Xa (by omega);refine⟨by simp[t],s.roOk.to (λ_ q=>q) ev.keepRo (λb h=>?_),λb h=>?_,s.roFr,?_,?_,?_,s.hidTo (· = ·) Q7 (by rw[YR];omega) (λ_ _ _ _ _ _ _ q=>q) (λ_ _ _ _ _ _ _ q=>q) λj d y l k Q=>?_⟩
 rotate_left 5
 .rcases e j _ l with⟨q,l⟩|⟨rfl,m⟩
  .rw[n j q]at k;exact .inl ⟨j,y,rfl,l,k,id,λc q=>s.hidKeep l k (λz=>Yh w obj d (s.own j d y l k z).1) ev.keepRo q⟩
  .rw[J]at k;cases k;cases m;exact .inr ⟨XS _,E⟩
 .rw[YR];have:=s.roLt b h;omega
 .rw[YR];have:=s.frLt b h;omega
 .intro i b y g f r;rw[YR];rcases e i _ g with⟨q,g⟩|⟨rfl,m⟩
  .rw[n i q]at f;obtain⟨a,b,c⟩:=s.own i b y g f r;exact⟨by omega,b,c⟩
  .cases m;exact⟨by omega,λq=>by have:=s.roLt _ q;omega,λq=>by have:=s.frLt _ q;omega⟩
 .intro i j b y z g f r B L G;rcases e i _ g with⟨q,l⟩|⟨N,m⟩<;>rcases e j _ f with⟨q',k⟩|⟨ej,e2⟩
  .rw[n i q]at r;rw[n j q']at B;exact s.inj i j b y z l k r B L G
  .cases e2;rw[n i q]at r;have:=(s.own i _ y l r L).1;omega
  .cases m;rw[n j q']at B;have:=(s.own j _ z k B G).1;omega
  .rw[N,ej]
 .intro i y z g f;rcases e i _ g with⟨q,g⟩|⟨rfl,m⟩
  .rw[n i q]at f;refine(s.blk i y z g f).keep u ?_ ?_
   .rintro b rfl t;exact Yh w obj b (s.own i b z g f t).1
   .rintro b c rfl t;exact Yh w obj c (s.hid i b z c g f t).lt
  .rw[J]at f;cases f;subst m;exact O
def OpZ(P:Program)(o:Oper)(t:Nat)(cs:List A):Prop:=
 ∀(ro:Nat->Prop) (σ:Sig) (w:World) (a:Act),∃l:List Value,(execOp a.eval o).run P w=.ok (.value (.pointer (some ⟨w.heap.size,0,none⟩))) (w.alloc (.cells l.toArray t))/\LR ro σ w cs l/\ ∀v∈l,Qz v
theorem OpZ.alloc{P:Program}{o:Oper}{t:Nat}{z:Value}{v:A}{d:List A}(i:∀w,(zeroValue t).run P w=.ok z w)(k:ZR v z)(j:o.op=.alloc t:=by exact rfl)(hk:Yl v=true:=by exact rfl)(hcs:Yb v=d:=by exact rfl)(hpl:d.all Yq=true:=by exact rfl):
  OpZ P o t d:=by
 intro h σ w a;obtain⟨l,g,f⟩:=(k h σ w).cells hk;subst hcs;refine⟨l,?_,f,f.plain hpl⟩;generalize a.eval=ρ at*;have e:(newVar t z).run P w=.ok ⟨w.heap.size,0,none⟩ (w.alloc (.cells l.toArray t)):=by
  unfold newVar;rw[g];rfl
 simp only[execOp,j,Instr.alloc,Vk,i,Result.andThen,e];rfl
def OpZR(P:Program)(o:Oper)(e:Env)(H:Qd)(p:Nat)(x:A)(B:Blk):Prop:=
 ∀fr ro σ N a w,Rel fr ro σ H e N a w->∃v obj,(execOp a.eval o).run P w=.ok (.value v) (w.alloc obj)/\(∀c,Hid (w.alloc obj) B w.heap.size c->False)/\
  ∀σ',σ'[p]?=some (some w.heap.size)->Ext ro σ w ro σ' (w.alloc obj)->VR ro σ' (w.alloc obj) x v/\BR ro σ' (w.alloc obj) B (some w.heap.size)
theorem QbQ{P:Program}{l:List Oper}{i:Nat}{o:Oper}{rd:Option Nat}{R:Exit->Act->World->Prop}{Q:Exit->Act->World->Prop}{K:Act->World->Prop}{a:Act}{w:World}
  (F:l[i]?=some o)(h:wpL P rd l.toArray R [o] a w)(k:∀e a' w',R e a' w'->e=.normal/\a'.defers=a.defers)(m:∀v w',R .normal (a.put o.dst v) w'->K (a.put o.dst v) w'):
  wpOpIn (WF rd) 0 P l.toArray Q i K a w:=by
 unfold wpOpIn;have t:l.toArray[i]?=some o:=by simpa using F
 rw[t];simp only;unfold wpL wpListIn at h;split at h
 .rename_i s;rw[Vq s];obtain⟨j,h⟩:=h;refine⟨j,?_⟩;have g:=Qgm (by
   intro a' w' q;unfold wpListIn at q;exact(k _ _ _ q).2) h
  generalize(o.semAt (WF rd).round a.eval).run P w=res at*;cases res with
  |ok n w'=>
   cases n with
   |value v=>exact m _ _ g.1
   |skip=>exact m _ _ g.1
   |defer G=>
    exfalso;have:=(k _ _ _ g.1).2;have:=congrArg List.length this
    revert this
    cases o.dst<;>simp[Act.put]
   |enter f p=>
    refine⟨g.1,CallsIn.mono g.2 (λe u d=>?_)⟩;cases e with
    |returned v=>exact m _ _ d.1
    |panicked c=>have:=(k _ _ _ d).1;cases this
    |outgrown=>obtain⟨B,E,d⟩:=d;have:=(k _ _ _ d).1;cases this
   |row r p=>
    exact⟨g.1,RowsIn.mono g.2 (λ_ _ d=>m _ _ d.1)⟩
   |round l f y assign z=>
    refine⟨g.1,RoundIn.mono g.2 (λe u d=>?_)⟩;cases e with
    |returned v=>exact m _ _ d.1
    |panicked c=>have:=(k _ _ _ d).1;cases this
    |outgrown=>obtain⟨B,E,d⟩:=d;have:=(k _ _ _ d).1;cases this
   |_=>exact g.elim
  |halt x w'=>
   cases x with
   |panic v=>have:=(k _ _ _ g).1;cases this
   |_=>exact g.elim
 .rename_i s;rw[Vp s];obtain⟨j,h⟩:=h;refine⟨j,?_⟩;unfold wpListIn at h;exact m _ _ h
theorem Qjl{P:Program}{l:List Oper}{m:Nat}(r:∀i o,l[i]?=some o->∀j∈Qk o,j<i)(n:∀i o,m<i->l[i]?=some o->i-1∈Qk o){Q:Exit->Act->World->Prop}{rd:Option Nat}:
  ∀(d t:Nat) (L:Array Bool) (a:Act) (w:World),L.size=l.length->(∀i,i<l.length->(onL L i↔i<t))->unl L<=d->m<=t->t<=l.length->
   wpL P rd l.toArray Q (l.drop t) a w->wpAnyIn (WF rd) 0 P .any l.toArray Q d L a w:=by
 intro d
 induction d with
 |zero=>
  intro t L a w hsz hL hf hm ht h;have:t=l.length:=by
   rcases Vy t l.length with q|q
   .have:=Qig (L:=L) (i:=t) (by omega) (λz=>by have:=(hL t q).1 z;omega);omega
   .omega
  subst this;refine⟨List.eq_nil_iff_forall_not_mem.2 λi s=>?_,?_⟩
  .obtain⟨o,f,k,_⟩:=(QaA hsz).1 s;have e:=(XK.1 f).1;exact k ((hL i e).2 e)
  .rw[Xr]at h;exact h
 |succ d J=>
  intro t L a w hsz hL hf hm ht h;have B:∀i o,l[i]?=some o->¬onL L i->(∀j∈Qk o,onL L j)->i=t:=by
   intro i o f k x;have e:=(XK.1 f).1;have H:t<=i:=by
    rcases Vy i t with q|q
    .exact absurd ((hL i e).2 q) k
    .exact q
   rcases Vy t i with q|q
   .have:=(hL (i-1) (by omega)).1 (x _ (n i o (by omega) f));omega
   .omega
  rcases Vy t l.length with g|g
  .have F:l[t]?=some l[t]:=XJ g;have p:¬onL L t:=λq=>by have:=(hL t g).1 q;omega
   have G:t∈Region.ready .any l.toArray L:=by
    refine(QaA hsz).2 ⟨_,F,p,λj u=>?_⟩;have:=r t _ F j u;exact(hL j (by omega)).2 this
   refine⟨λq=>(by rw[q]at G;cases G),λi s=>?_⟩;obtain⟨o,f,k,x⟩:=(QaA hsz).1 s;obtain rfl:=B i o f k x;rw[Xp g]at h;obtain rfl:l[i]=o:=by rw[XJ g]at f;exact XY f
   unfold wpOpIn;rw[show l.toArray[i]?=some l[i]by rw[XF];exact f];simp only;unfold wpL wpListIn at h;have E:∀a w,wpL P rd l.toArray Q (l.drop (i+1)) a w->wpAnyIn (WF rd) 0 P .any l.toArray Q d (L.setIfInBounds i true) a w:=by
    intro a w q;have M:=QfM (L:=L) (i:=i) (by omega) p;refine J (i+1) _ a w (by simpa using hsz) (λj u=>?_) (by omega) (by omega) (by omega) q;rw[Jp (by omega),hL j u];omega
   split at h
   .rename_i y;rw[Vq y];exact Oper.wpIn_mono E h
   .rename_i y;rw[Vp y];exact⟨h.1,E _ _ h.2⟩
  .have:t=l.length:=by omega
   subst this;rw[Xr]at h;refine⟨λ_=>h,λi s=>?_⟩;obtain⟨o,f,k,_⟩:=(QaA hsz).1 s;have e:=(XK.1 f).1;exact absurd ((hL i e).2 e) k
def Qlm(af ds:List Nat)(xs:List A)(env0 e:Env):Prop:=
 ∀s,(∃j x,af.contains j=true/\ds[j]?=some s/\xs[j]?=some x/\lk e s=x)\/lk e s=.any\/(ds.contains s=false/\lk e s=lk env0 s)
inductive Jm (P:Program) (N:Nat) (l:List Oper) (ds:List Nat) (xs:List A) (env0:Env) (hB hE:Nat) (i:Nat) (H H':Qd):Prop
 |mk (o:Oper) (e:Env) (d:Nat) (x:A) (ho:l[i]?=some o) (hd:o.dst=some d) (hx:xs[i]?=some x) (hdd:Qan hB hE H H'=true) (hs:Sb (Qk o) (Qf8 l i) ds xs env0 e)
   (h:WO P H.length N l.toArray [o] e H (YM (up e d x) H')):Jm P N l ds xs env0 hB hE i H H'
 |unit (o:Oper) (e:Env) (ho:l[i]?=some o) (hd:o.dst=none) (hx:xs[i]?=some .any) (hdd:Qan hB hE H H'=true) (hs:Sb (Qk o) (Qf8 l i) ds xs env0 e)
   (h:WO P H.length N l.toArray [o] e H (YM e H')):Jm P N l ds xs env0 hB hE i H H'
 |alloc (o:Oper) (d t p:Nat) (cs:List A) (ho:l[i]?=some o) (hd:o.dst=some d) (hg:o.guard=none) (hx:xs[i]?=some (.ptr p 0)) (hp:(Nat.ble hB p&&Nat.blt p hE)=true) (hdead:Qbd H[p]?=true)
   (hH:H.set p (.cells t cs)=H') (h:OpZ P o t cs) (hN:Nat.blt d N=true):Jm P N l ds xs env0 hB hE i H H'
 |row (o:Oper) (e:Env) (d p:Nat) (x:A) (B:Blk) (ho:l[i]?=some o) (hd:o.dst=some d) (hg:o.guard=none) (hx:xs[i]?=some x) (hp:(Nat.ble hB p&&Nat.blt p hE)=true) (hdead:Qbd H[p]?=true) (hlive:Qbd (some B)=false)
   (hH:H.set p B=H') (hs:Sb (Qk o) (Qf8 l i) ds xs env0 e) (h:OpZR P o e H p x B) (hN:Nat.blt d N=true):Jm P N l ds xs env0 hB hE i H H'
 |val (o:Oper) (e:Env) (d:Nat) (x:A) (ho:l[i]?=some o) (hd:o.dst=some d) (hg:o.guard=none) (hx:xs[i]?=some x) (hN:Nat.blt d N=true) (he:Qlm (Qk o) ds xs env0 e) (h:OpV P o e H x)
   (hH:H=H':=by rfl):Jm P N l ds xs env0 hB hE i H H'
 |woE (o:Oper) (e:Env) (d:Nat) (x:A) (ho:l[i]?=some o) (hd:o.dst=some d) (hx:xs[i]?=some x) (he:Qlm (Qk o) ds xs env0 e) (hdd:Qan hB hE H H'=true) (h:WO P H.length N l.toArray [o] e H (YM (up e d x) H')):Jm P N l ds xs env0 hB hE i H H'
theorem Sb.rel{af bf f:List Nat}{xs:List A}{env0 e:Env}{ro:Nat->Prop}{σ:Sig}{w:World}{a:Act}(g:Sb af bf f xs env0 e)
  (i:∀j∈af,∀s x,f[j]?=some s->xs[j]?=some x->VR ro σ w x (a.tmps.getD s undef))
  (h:∀s,f.contains s=false->VR ro σ w (lk env0 s) (a.tmps.getD s undef))(hP:∀j s,bf.contains j=true->f[j]?=some s->VR ro σ w (lk env0 s) (a.tmps.getD s undef)):
  ∀s,VR ro σ w (lk e s) (a.tmps.getD s undef):=by
 intro s
 induction g with
 |nil=>exact trivial
 | @dep j s1 x1 r h1 h2 h3 _ ih=>
  unfold lk;cases d:Nat.beq s s1 with
  |false=>exact ih
  |true=>
   obtain rfl:=XP d;exact i j (by simpa using h1) _ _ h2 h3
 | @old s1 x1 r h1 h2 _ ih=>
  unfold lk;cases d:Nat.beq s s1 with
  |false=>exact ih
  |true=>
   obtain rfl:=XP d;subst h2;exact h _ h1
 | @pre j s1 x1 r h1 h2 h3 _ ih=>
  unfold lk;cases d:Nat.beq s s1 with
  |false=>exact ih
  |true=>
   obtain rfl:=XP d;subst h3;exact hP j _ h1 h2
structure After (fr ro:Nat->Prop) (σ:Sig) (w:World) (hB hE:Nat) (H':Qd) (xs:List A) (i:Nat) (o:Oper) (a':Act) (w':World) (ro':Nat->Prop) (σ':Sig):Prop where
 val:∀x,xs[i]?=some x->match o.dst with
  |some d=>VR ro' σ' w' x (a'.tmps.getD d undef)
  |none=>x=.any
 sim:Sim fr ro' σ' H' w'
 ev:Qh fr ro w ro' w'
 ext:Ext ro σ w ro' σ' w'
 holes:QiO hB hE σ' H'
 take:σ'.take hB=σ.take hB
theorem Jm.use{P:Program}{N:Nat}{l:List Oper}{ds:List Nat}{xs:List A}{env0:Env}{hB hE i:Nat}{H H':Qd}(hb:Jm P N l ds xs env0 hB hE i H H')
  {Q:Exit->Act->World->Prop}{K:Act->World->Prop}{fr ro:Nat->Prop}{σ:Sig}{a:Act}{w:World}{o:Oper}{rd:Option Nat}(O:l[i]?=some o)
  (f:Sim fr ro σ H w)(hN:a.tmps.size=N)(n:Qbr fr a.defers w)(af:QdF rd fr w)(hh:QiO hB hE σ H)(hl:hE<=H.length)(al:hB<=hE)
  (hD:∀j∈Qk o,∀s x,ds[j]?=some s->xs[j]?=some x->VR ro σ w x (a.tmps.getD s undef))
  (hO:∀s,ds.contains s=false->VR ro σ w (lk env0 s) (a.tmps.getD s undef))(hP:∀j s,(Qf8 l i).contains j=true->ds[j]?=some s->VR ro σ w (lk env0 s) (a.tmps.getD s undef))
  (hK:∀v w' ro' σ',After fr ro σ w hB hE H' xs i o (a.put o.dst v) w' ro' σ'->K (a.put o.dst v) w'):
  wpOpIn (WF rd) 0 P l.toArray Q i K a w:=by
 have aa:∀{e:Env} {H2:Qd} {E:Exit} {u:Act} {w':World},Qbq H.length fr ro σ w N a.defers (YM e H2) E u w'->E=.normal/\u.defers=a.defers:=by
  rintro e H2 E u w' ⟨x,_,_,_,_,_,k,⟨rfl,_⟩,_,_,_,L,_⟩;refine⟨?_,L⟩;cases E<;>first|rfl|exact k.elim|cases k
 have aj:∀{σ':Sig} {w':World},Qh fr ro w ro w'->σ'.take H.length=σ.take H.length->True:=λ_ _=>trivial;have Y:∀{e:Env} {u:Act} {w':World},Qbq H.length fr ro σ w N a.defers (YM e H') .normal u w'->Qan hB hE H H'=true->
   ∃ro' σ',Sim fr ro' σ' H' w'/\Qh fr ro w ro' w'/\Ext ro σ w ro' σ' w'/\QiO hB hE σ' H'/\σ'.take hB=σ.take hB/\ ∀s,VR ro' σ' w' (lk e s) (u.tmps.getD s undef):=by
  rintro e u w' ⟨_,ai,H2,ro',σ',ak,_,⟨_,rfl,rfl⟩,r',he,ht,_,ah⟩ F;have hσ:σ'=σ++σ'.drop H.length:=by
   conv=>lhs;rw[<- Xy H.length σ']
   rw[ht, <- f.len,X8]
  refine⟨ro',σ',r'.sim.frMono ah.sub,he,?_,?_,?_,r'.env⟩
  .rw[hσ];exact he.ext σ _
  .intro p k L h3;have:=hh p k L (Qjm F k L h3);rw[hσ,XL (by rw[f.len];omega)];exact this
  .rw[hσ];exact QM (by rw[f.len];omega)
 cases hb with
 |woE m e d x g M X he F h=>
  obtain rfl:m=o:=XY (g.symm.trans O);have hr:∀s,VR ro σ w (lk e s) (a.tmps.getD s undef):=λs=>by
   rcases he s with⟨j,x,k,L,h3,T⟩|T|⟨k,T⟩
   .rw[T];exact hD j (by simpa using k) s x L h3
   .rw[T];exact trivial
   .rw[T];exact hO s k
  refine QbQ O (h rd fr ro σ a w ⟨f,hr,hN,n⟩ af) (λ_ _ _ q=>aa q) (λv w' q=>?_);obtain⟨ro',σ',g1,g2,G,g4,g5,g6⟩:=Y q F;refine hK v w' ro' σ' ⟨λy W=>?_,g1,g2,G,g4,g5⟩;obtain rfl:=XY (X.symm.trans W);have:=g6 d;unfold lk at this;rw[VB]at this;rw[M]at this⊢;exact this
 |mk m e d x g M X F hs h=>
  obtain rfl:m=o:=XY (g.symm.trans O);refine QbQ O (h rd fr ro σ a w ⟨f,hs.rel hD hO hP,hN,n⟩ af) (λ_ _ _ q=>aa q) (λv w' q=>?_);obtain⟨ro',σ',g1,g2,G,g4,g5,g6⟩:=Y q F;refine hK v w' ro' σ' ⟨λy W=>?_,g1,g2,G,g4,g5⟩;obtain rfl:=XY (X.symm.trans W);have:=g6 d;unfold lk at this;rw[VB]at this;rw[M]at this⊢;exact this
 |unit m e g M X F hs h=>
  obtain rfl:m=o:=XY (g.symm.trans O);refine QbQ O (h rd fr ro σ a w ⟨f,hs.rel hD hO hP,hN,n⟩ af) (λ_ _ _ q=>aa q) (λv w' q=>?_);obtain⟨ro',σ',g1,g2,G,g4,g5,g6⟩:=Y q F;refine hK v w' ro' σ' ⟨λy W=>?_,g1,g2,G,g4,g5⟩;obtain rfl:=XY (X.symm.trans W);rw[M]
 |val m e d x g M hg X ab he h hH=>
  obtain rfl:m=o:=XY (g.symm.trans O);subst hH;have hr:Rel fr ro σ H e N a w:=by
   refine⟨f,λs=>?_,hN,n⟩;rcases he s with⟨j,x,k,L,h3,T⟩|T|⟨k,T⟩
   .rw[T];exact hD j (by simpa using k) s x L h3
   .rw[T];exact trivial
   .rw[T];exact hO s k
  obtain⟨v0,k,L⟩:=h fr ro σ N a w hr;have hw:Region.wanted m (yielded l.toArray a.tmps)=true:=by unfold Region.wanted;rw[hg]
  refine QbQ (R:=λE u w'=>E=.normal/\u.defers=a.defers/\u=a.put m.dst v0/\w'=w) O (Qaa hw k ?_) (λ_ _ _ q=>⟨q.1,q.2.1⟩) (λv w' q=>?_)
  .unfold wpL wpListIn;refine⟨rfl,?_,rfl,rfl⟩;rw[M];rfl
  .obtain⟨_,_,q1,rfl⟩:=q;refine hK v _ ro σ ⟨λy W=>?_,f,Qh.refl _ _ _,⟨λ_ q=>q,λ_ _=>rfl,λ_ _ q=>q,λ_ _ q=>q⟩,hh,rfl⟩;obtain rfl:=XY (X.symm.trans W);rw[q1,M];have V:d<a.tmps.size:=by rw[hN];simpa using ab
   show VR ro σ w' x _;simpa[Act.put,Array.getD_eq_getD_getElem?,V]using L
 |row m e d p x B g M hg X hp J hlive hH hs h ab=>
  obtain rfl:m=o:=XY (g.symm.trans O);subst hH;simp only[XV]at hp;have ac:=XQ hp.1;have ae:p<hE:=by simpa using hp.2
  have hσp:=hh p ac ae J;have hr:Rel fr ro σ H e N a w:=⟨f,hs.rel hD hO hP,hN,n⟩;obtain⟨v0,ad,k,L,h3⟩:=h fr ro σ N a w hr;have hw:Region.wanted m (yielded l.toArray a.tmps)=true:=by unfold Region.wanted;rw[hg]
  have ev:Qh fr ro w ro (w.alloc ad):=Qh.alloc _ f.roLt f.frLt;have ag:p<σ.length:=by rw[f.len];omega
  have r:Ext ro σ w ro (σ.set p (some w.heap.size)) (w.alloc ad):=⟨ev.sub,ev.keepRo,ev.shape,λj b q=>by
   rw[XO (λz=>by subst z;rw[hσp]at q;cases q)];exact q⟩
  obtain⟨g8,g9⟩:=h3 _ (Xa ag) r;refine QbQ (R:=λE u w'=>E=.normal/\u.defers=a.defers/\u=a.put m.dst v0/\w'=w.alloc ad) O (Qaa hw k ?_) (λ_ _ _ q=>⟨q.1,q.2.1⟩) (λv w' q=>?_)
  .unfold wpL wpListIn;refine⟨rfl,?_,rfl,rfl⟩;rw[M];rfl
  .obtain⟨_,_,q1,rfl⟩:=q;refine hK v _ ro (σ.set p (some w.heap.size)) ⟨λy W=>?_,f.allocAt hσp g9 L,ev,r,λp' g1 g2 G=>?_,?_⟩
   .obtain rfl:=XY (X.symm.trans W);rw[q1,M];have V:d<a.tmps.size:=by rw[hN];simpa using ab
    show VR ro _ _ x _;simpa[Act.put,Array.getD_eq_getD_getElem?,V]using g8
   .by_cases q:p'=p
    .subst q;rw[Xa (by omega),hlive]at G;cases G
    .rw[XO (λz=>q z.symm)]at G⊢;exact hh p' g1 g2 G
   .rw[List.take_set,List.set_eq_of_length_le];rw[Xx];omega
 |alloc m d t p cs g M hg X hp J hH h ab=>
  obtain rfl:m=o:=XY (g.symm.trans O);subst hH;simp only[XV]at hp;have ac:=XQ hp.1;have ae:p<hE:=by simpa using hp.2
  have hσp:=hh p ac ae J;obtain⟨lv,k,L,h3⟩:=h ro σ w a;have hw:Region.wanted m (yielded l.toArray a.tmps)=true:=by unfold Region.wanted;rw[hg]
  have ev:Qh fr ro w ro (w.alloc (.cells lv.toArray t)):=Qh.alloc _ f.roLt f.frLt;have ag:p<σ.length:=by rw[f.len];omega
  have r:Ext ro σ w ro (σ.set p (some w.heap.size)) (w.alloc (.cells lv.toArray t)):=⟨ev.sub,ev.keepRo,ev.shape,λj b q=>by
   rw[XO (λz=>by subst z;rw[hσp]at q;cases q)];exact q⟩
  refine QbQ (R:=λE u w'=>E=.normal/\u.defers=a.defers/\u=a.put m.dst (.pointer (some ⟨w.heap.size,0,none⟩))/\w'=w.alloc (.cells lv.toArray t)) O (Qaa hw k ?_) (λ_ _ _ q=>⟨q.1,q.2.1⟩) (λv w' q=>?_)
  .unfold wpL wpListIn;refine⟨rfl,?_,rfl,rfl⟩;rw[M];rfl
  .obtain⟨_,_,q1,rfl⟩:=q;refine hK v _ ro (σ.set p (some w.heap.size)) ⟨λy W=>?_,f.allocAt hσp ⟨lv,Ys _ _,L.mono r,h3⟩,ev,r,λp' g1 g2 G=>?_,?_⟩
   .obtain rfl:=XY (X.symm.trans W);rw[q1,M];have V:d<a.tmps.size:=by rw[hN];simpa using ab
    refine⟨w.heap.size,Xa ag,?_⟩;simp[Act.put,Array.getD_eq_getD_getElem?,V]
   .by_cases q:p'=p
    .subst q;rw[Xa (by omega)]at G;cases G
    .rw[XO (λz=>q z.symm)]at G⊢;exact hh p' g1 g2 G
   .rw[List.take_set,List.set_eq_of_length_le];rw[Xx];omega
def same(a b:List Nat):Bool:=a.all (b.contains ·)&&b.all (a.contains ·)
theorem Qlx{a b:List Nat}(h:same a b=true)(i:Nat):i∈a↔i∈b:=by
 unfold same at h;simp only[XV,Xs,List.contains_iff_mem]at h;exact⟨h.1 i,h.2 i⟩
structure Qlp (l:List Oper) (m:Nat) (ds:List Nat) (hs:List Bool) (rq ms:List (List Nat)) (pl:List (List (Nat×Nat))) (N:Nat):Prop where
 len:m<=l.length
 dst:∀i o,i<m->l[i]?=some o->(∃d,o.dst=some d/\ds[i]?=some d/\d<N)\/o.dst=none
 dsl:ds.length=m
 nodup:∀(i j d:Nat),ds[i]?=some d->ds[j]?=some d->i=j
 back:∀i o,l[i]?=some o->∀j∈Qk o,j<i
 mid:∀o,l[m]?=some o->∀j,j<m->Qb5 l m j
 chain:∀i o,m<i->l[i]?=some o->i-1∈Qk o
 rqs:∀i o,i<m->l[i]?=some o->∀h∈rq.getD i [],h<m/\hs.getD h false=true/\(h∈Qk o\/ ∃j∈Qk o,j<m/\h∈rq.getD j [])
 ms0:ms.getD 0 []=[]
 full:∀st,st<ms.length->st+1=ms.length\/ ∃i,i<m/\hs.getD i false=true/\i∉ms.getD st []
 msh:∀st h,h∈ms.getD st []->h<m/\hs.getD h false=true
 pls:∀i st,i<m->st<ms.length->(∀h∈rq.getD i [],h∈ms.getD st [])->(hs.getD i false=true->i∉ms.getD st [])->(∀h∈ms.getD st [],¬Qb5 l h i)->
  ∃st',(st,st')∈pl.getD i []/\st'<ms.length/\if hs.getD i false then∀j,j∈ms.getD st' []↔j=i\/j∈ms.getD st []else st'=st
theorem Qmn{α:Type}{l:List α}{i:Nat}{d x:α}(h:l[i]?=some x):l.getD i d=x:=by rw[VH,h];rfl
theorem Qhc{P:Program}{l:List Oper}{m:Nat}{ds:List Nat}{hs:List Bool}{rq ms:List (List Nat)}{pl:List (List (Nat×Nat))}{N h0 hB hE:Nat}{xs:List A}{env0:Env}{Hs:List Qd}{Hk:Qd}
  (ok:Qlp l m ds hs rq ms pl N)(a7:xs.length=m)(a9:Hs.length=ms.length)(a2:h0<=hB)(a6:hB<=hE)(a5:∀H∈Hs,hE<=H.length)
  (aw:∀i p,i<m->p∈pl.getD i []->Jm P N l ds xs env0 hB hE i (Hs.getD p.1 []) (Hs.getD p.2 []))(a0:Hs.getD (ms.length-1) []=Hk)
  {fr ro0:Nat->Prop}{σ0:Sig}{w0:World}{rd:Option Nat}{ds0:List Deferred}{R:Exit->Act->World->Prop}
  (hk:∀ro σ a w,Rel fr ro σ Hk (Qao ds xs env0) N a w->Qh fr ro0 w0 ro w->σ.take h0=σ0.take h0->a.defers=ds0->wpL P rd l.toArray R (l.drop m) a w)(al:Qbr fr ds0 w0)(a1:QdF rd fr w0):
  ∀(f:Nat) (L:Array Bool) (a:Act) (w:World) (ro:Nat->Prop) (σ:Sig) (u:Nat),
   L.size=l.length->unl L<=f->(∀i,m<=i->¬onL L i)->u<ms.length->Sim fr ro σ (Hs.getD u []) w->a.tmps.size=N->a.defers=ds0->
   (∀(i d:Nat) (x:A),onL L i->ds[i]?=some d->xs[i]?=some x->VR ro σ w x (a.tmps.getD d undef))->(∀s,(∀j,ds[j]?=some s->¬onL L j)->VR ro σ w (lk env0 s) (a.tmps.getD s undef))->
   Qh fr ro0 w0 ro w->σ.take h0=σ0.take h0->QiO hB hE σ (Hs.getD u [])->
   (∀i,i<m->onL L i->∀h∈rq.getD i [],onL L h)->(∀i,i<m->hs.getD i false=true->(onL L i↔i∈ms.getD u []))->
   (∀i o,onL L i->l[i]?=some o->∀j∈Qk o,onL L j)->
   wpAnyIn (WF rd) 0 P .any l.toArray R f L a w:=by
 have aq:∀u,u<ms.length->hE<=(Hs.getD u []).length:=by
  intro u h;have e:Hs[u]?=some Hs[u]:=XJ (by omega);rw[Qmn e];exact a5 _ (List.getElem_mem _)
 have fin:∀(f:Nat) (L:Array Bool) (a:Act) (w:World) (ro:Nat->Prop) (σ:Sig) (u:Nat),
   L.size=l.length->unl L<=f->(∀i,m<=i->¬onL L i)->u<ms.length->Sim fr ro σ (Hs.getD u []) w->a.tmps.size=N->a.defers=ds0->
   (∀(i d:Nat) (x:A),onL L i->ds[i]?=some d->xs[i]?=some x->VR ro σ w x (a.tmps.getD d undef))->(∀s,(∀j,ds[j]?=some s->¬onL L j)->VR ro σ w (lk env0 s) (a.tmps.getD s undef))->
   Qh fr ro0 w0 ro w->σ.take h0=σ0.take h0->
   (∀i,i<m->hs.getD i false=true->(onL L i↔i∈ms.getD u []))->(∀i,i<m->onL L i)->
   wpAnyIn (WF rd) 0 P .any l.toArray R f L a w:=by
  intro f L a w ro σ u hsz hu hsuf hst hsim hN hdef hD hE' hev htk hI2 r;have ai:u=ms.length-1:=by
   rcases ok.full u hst with q|⟨i,Q,X,h3⟩
   .omega
   .exact absurd ((hI2 i Q X).1 (r i Q)) h3
  rw[ai,a0]at hsim;refine Qjl ok.back ok.chain f m L a w hsz (λi hi=>⟨λq=>?_,λq=>r i q⟩) hu (XS _) ok.len ?_
  .rcases Vy i m with z|z
   .exact z
   .exact absurd q (hsuf i z)
  .have hr:Rel fr ro σ Hk (Qao ds xs env0) N a w:=by
    refine⟨hsim,λs=>?_,hN,by rw[hdef];exact al.keep hev⟩;rcases QlE (env0:=env0) (by rw[ok.dsl,a7]) s with⟨j,x,Q,X,h3⟩|⟨Q,X⟩
    .rw[h3];have g:j<m:=by have:=(XK.1 Q).1;rw[ok.dsl]at this;exact this
     exact hD j s x (r j g) Q X
    .rw[X];exact hE' s (λj q=>absurd (VD q) (by simpa using Q))
   exact hk ro σ a w hr hev htk hdef
 intro f
 induction f with
 |zero=>
  intro L a w ro σ u hsz hu hsuf hst hsim hN hdef hD hE' hev htk hho hI1 hI2 hcl;refine fin 0 L a w ro σ u hsz hu hsuf hst hsim hN hdef hD hE' hev htk hI2 (λi hi=>?_);by_cases q:onL L i
  .exact q
  .have:=Qig (L:=L) (i:=i) (by have:=ok.len;omega) q;omega
 |succ f ih=>
  intro L a w ro σ u hsz hu hsuf hst hsim hN hdef hD hE' hev htk hho hI1 hI2 hcl;by_cases r:∀i,i<m->onL L i
  .exact fin (f+1) L a w ro σ u hsz hu hsuf hst hsim hN hdef hD hE' hev htk hI2 r
  .have ax:∃i,i<m/\ ¬onL L i:=by
    refine Classical.byContradiction λq=>r λi hi=>Classical.byContradiction λz=>q ⟨i,hi,z⟩
   obtain⟨n,hn,am⟩:=ax;obtain⟨i0,Q,X,h3⟩:=least (p:=λi=>¬onL L i) (λi=>Classical.em _) n am;have ba:=ok.len;have ak:l[i0]?=some l[i0]:=XJ (by omega);have hr:i0∈Region.ready .any l.toArray L:=(QaA hsz).2 ⟨_,ak,X,λj g=>Classical.byContradiction λz=>h3 j (ok.back i0 _ ak j g) z⟩;refine⟨λq=>(by rw[q]at hr;cases hr),λi hi=>?_⟩;obtain⟨o,W,Y,G⟩:=(QaA hsz).1 hi;have E:i<m:=by
    rcases Vy i m with q|q
    .exact q
    .exfalso;rcases Vy m i with z|z
     .exact hsuf (i-1) (by omega) (G _ (ok.chain i o z W))
     .have:i=m:=by omega
      subst this;have ay:∀j,Qb5 l i j->onL L j:=by
       intro j g
       induction g with
       |one t g=>rw[W]at t;cases t;exact G _ g
       |step _ t g ihr=>exact hcl _ _ ihr t _ g
      exact am (ay n (ok.mid o W n hn))
   have ag:∀h∈rq.getD i [],onL L h:=by
    intro h V;obtain⟨_,_,q|⟨j,q1,q2,q3⟩⟩:=ok.rqs i o E W h V
    .exact G h q
    .exact hI1 j q2 (G j q1) h q3
   obtain⟨ao,a3,a8,O⟩:=ok.pls i u E hst (λh V=>by
    obtain⟨q1,q2,_⟩:=ok.rqs i o E W h V;exact(hI2 h q1 q2).1 (ag h V)) (λq z=>Y ((hI2 i E q).2 z)) (λh V hR=>by
    obtain⟨q1,q2⟩:=ok.msh u h V;have au:onL L h:=(hI2 h q1 q2).2 V;have ae:∀j,Qb5 l h j->onL L j:=by
     intro j g
     induction g with
     |one t g=>exact hcl _ _ au t _ g
     |step _ t g ihr=>exact hcl _ _ ihr t _ g
    exact Y (ae i hR))
   have hb:=aw i _ E a3;refine hb.use W hsim hN (by rw[hdef];exact al.keep hev) (a1.to hev λ_ q=>q) hho (aq u hst) a6 (λj g s x q1 q2=>hD j s x (G j g) q1 q2) (λs Q=>hE' s (λj q=>absurd (VD q) (by simpa using Q))) (λj s Q X=>hE' s (λj' q q'=>?_)) ?_
   .obtain rfl:=ok.nodup j' j s q X;have g:=Xd.1 (List.contains_iff_mem.1 Q);cases ad:l[j']? with
    |none=>rw[ad]at g;simp at g
    |some oj=>
     rw[ad]at g;exact Y (hcl j' oj q' ad i (by simpa using g.2))
   intro v w' av σ' af;have aa:=af.ext;have ab:∀s,(∀d,o.dst=some d->s≠d)->(a.put o.dst v).tmps.getD s undef=a.tmps.getD s undef:=by
    intro s an;cases hd:o.dst with
    |none=>rfl
    |some d=>
     simp only[Act.put,Array.getD_eq_getD_getElem?,Vc];rw[Vp (λq=>an d hd q.symm)]
   have ac:(a.put o.dst v).tmps.size=N:=by
    cases hd:o.dst with
    |none=>simpa[Act.put]using hN
    |some d=>simpa[Act.put]using hN
   have a4:(a.put o.dst v).defers=ds0:=by
    cases hd:o.dst with
    |none=>simpa[Act.put]using hdef
    |some d=>simpa[Act.put]using hdef
   have bb:=QfM (L:=L) (i:=i) (by omega) Y;have B:i<L.size:=by omega
   have ar:∀s j,ds[j]?=some s->j≠i->∀d,o.dst=some d->s≠d:=by
    intro s j g F d hd q;subst q;rcases ok.dst i o E W with⟨d',k,T,aj⟩|k
    .rw[hd]at k;cases k;exact F (ok.nodup j i _ g T)
    .rw[hd]at k;cases k
   refine ih _ _ w' av σ' ao (by simpa using hsz) (by omega) (λj g q=>?_) a8 af.sim ac a4 ?_ ?_ (hev.trans af.ev) ?_ af.holes ?_ ?_ ?_
   .rcases(Jp B).1 q with z|z
    .omega
    .exact hsuf j g z
   .intro j s y g J hy;by_cases F:j=i
    .subst F;have hv:=af.val y hy;rcases ok.dst j o E W with⟨d',k,T,aj⟩|k
     .obtain rfl:s=d':=XY (J.symm.trans T);simp only[k]at hv⊢;exact hv
     .simp only[k]at hv;subst hv;exact trivial
    .rw[ab s (ar s j J F)];rcases(Jp B).1 g with z|z
     .exact absurd z F
     .exact(hD j s y z J hy).mono aa
   .intro s J;have az:∀d,o.dst=some d->s≠d:=by
     rintro d hd rfl;rcases ok.dst i o E W with⟨d',k,T,aj⟩|k
     .rw[hd]at k;cases k;exact J i T ((Jp B).2 (.inl rfl))
     .rw[hd]at k;cases k
    rw[ab s az];exact(hE' s (λj q z=>J j q ((Jp B).2 (.inr z)))).mono aa
   .rw[<- htk];have:=congrArg (List.take h0) af.take;rw[List.take_take,List.take_take,XA a2]at this;exact this
   .intro j g M h V;refine(Jp B).2 (.inr ?_);rcases(Jp B).1 M with z|z
    .subst z;exact ag h V
    .exact hI1 j g z h V
   .intro j g M;rw[Jp B];cases q:hs.getD i false with
    |false=>
     have F:j≠i:=by rintro rfl;rw[q]at M;cases M
     rw[q]at O;simp only[Xi,if_false]at O;simp only[F,false_or];rw[O];exact hI2 j g M
    |true=>
     rw[q]at O;simp only[if_true]at O;rw[O j,hI2 j g M]
   .intro j o' g t j' ah;rcases(Jp B).1 g with z|z
    .subst z;rw[W]at t;cases t;exact(Jp B).2 (.inr (G _ ah))
    .exact(Jp B).2 (.inr (hcl j o' z t j' ah))
def Qdu.dstB(N:Nat):Nat->List Oper->List Nat->Bool
 |_,_,[]=>true
 |i,o::r,d::ds=>(match o.dst with|some d'=>Nat.beq d' d&&Nat.blt d N|none=>true)&&Qdu.dstB N (i+1) r ds
 |_,[],_::_=>false
def Qdu.rqB(m:Nat)(hs:List Bool)(rq:List (List Nat)):Nat->List Oper->Bool
 |_,[]=>true
 |i,o::r=>(rq.getD i []).all (λh=>Nat.blt h m&&hs.getD h false&&((Qk o).contains h||(Qk o).any λj=>Nat.blt j m&&(rq.getD j []).contains h))&&Qdu.rqB m hs rq (i+1) r
def Qhz(l:List Oper)(h:Nat):List Nat:=match l[h]? with
 |some o=>Qec l h (Qk o)
 |none=>[]
theorem QiY{l:List Oper}{h j:Nat}(q:j∈Qhz l h):Qb5 l h j:=by
 unfold Qhz at q;cases a:l[h]? with
 |none=>rw[a]at q;cases q
 |some o=>rw[a]at q;exact QbP h (Qk o) (λi d=>.one a d) j q
def Qdu.plB(l:List Oper)(m:Nat)(hs:List Bool)(rq ms:List (List Nat))(pl:List (List (Nat×Nat))):Bool:=
 (List.range m).all λi=>(List.range ms.length).all λst=>((ms.getD st []).any λh=>(Qhz l h).contains i)|| !(rq.getD i []).all ((ms.getD st []).contains ·)||(hs.getD i false&&(ms.getD st []).contains i)||
  (pl.getD i []).any λp=>Nat.beq p.1 st&&Nat.blt p.2 ms.length&&(bif hs.getD i false then same (ms.getD p.2 []) (i::ms.getD st [])else Nat.beq p.2 st)
def Qdu(l:List Oper)(m N:Nat)(ds:List Nat)(hs:List Bool)(rq ms:List (List Nat))(pl:List (List (Nat×Nat))):Bool:=
 Nat.ble m l.length&&(ds.length==m)&&Qdu.dstB N 0 l ds&&drawChk.nodupB ds&&drawChk.goB l m 0 l&&Qdu.rqB m hs rq 0 l&&(ms.getD 0 []).isEmpty&&Nat.blt 0 ms.length
 &&((List.range ms.length).all λst=>Nat.beq (st+1) ms.length||(List.range m).any λi=>hs.getD i false&& !(ms.getD st []).contains i)&&Qdu.plB l m hs rq ms pl&&(List.range ms.length).all λst=>(ms.getD st []).all λh=>Nat.blt h m&&hs.getD h false
theorem QfA{N:Nat}:∀(l:List Oper) (a:List Nat) (b:Nat),Qdu.dstB N b l a=true->∀(i d:Nat) (o:Oper),l[i]?=some o->a[i]?=some d->
  (o.dst=some d/\d<N)\/o.dst=none:=by
 intro l
 induction l with
 |nil=>intro a b h i d o f;simp at f
 |cons x r k=>
  intro a b h i d o f g;cases a with
  |nil=>simp at g
  |cons y a=>
   simp only[Qdu.dstB,XV]at h;cases i with
   |zero=>
    simp at f g;subst f;subst g;have h:=h.1;split at h
    .rename_i m j;simp only[XV]at h;have e:=XP h.1;subst e;exact .inl ⟨j,by simpa using h.2⟩
    .rename_i j;exact .inr j
   |succ i=>
    have:=k a (b+1) h.2 i d o (by simpa using f) (by simpa using g);exact this
theorem Qka{m:Nat}{e:List Bool}{d:List (List Nat)}:∀(l:List Oper) (b:Nat),Qdu.rqB m e d b l=true->∀(i:Nat) (o:Oper),l[i]?=some o->
  ∀h∈d.getD (b+i) [],h<m/\e.getD h false=true/\(h∈Qk o\/ ∃j∈Qk o,j<m/\h∈d.getD j []):=by
 intro l
 induction l with
 |nil=>intro b h i o a;simp at a
 |cons x r t=>
  intro b h i o a;simp only[Qdu.rqB,XV]at h;cases i with
  |zero=>
   simp at a;subst a;intro k w;have:=Xs.1 h.1 k (by simpa using w);simp only[XV,Bool.or_eq_true,List.contains_iff_mem,Xt]at this;obtain⟨⟨n,p⟩,f⟩:=this;refine⟨by simpa using n,p,?_⟩;rcases f with q|⟨j,g,u,s⟩
   .exact .inl q
   .exact .inr ⟨j,g,by simpa using u,s⟩
  |succ i=>
   have:=t (b+1) h.2 i o (by simpa using a);rw[show b+1+i=b+(i+1)by omega]at this;exact this
theorem QkT{l:List Oper}{m N:Nat}{t:List Nat}{B:List Bool}{G u:List (List Nat)}{J:List (List (Nat×Nat))}(h:Qdu l m N t B G u J=true):
  Qlp l m t B G u J N/\0<u.length:=by
 unfold Qdu at h;simp only[XV]at h;obtain⟨⟨⟨⟨⟨⟨⟨⟨⟨⟨W,L⟩,T⟩,M⟩,h5⟩,O⟩,P⟩,h8⟩,V⟩,y⟩,H⟩:=h;have E:m<=l.length:=XQ W;have F:t.length=m:=by simpa using L
 have g:=QgK l 0 h5;refine⟨⟨E,λi o s d=>?_,F,Qdm M,λi o d=>by have:=(g i o d).1;simpa using this,λo d j R=>QbP m (Qk o) (λi s=>.one d s) j ((g m o d).2.1 (by omega) j R),
  λi o s d=>by have:=(g i o d).2.2 (by omega);simpa using this,λi o s d h k=>by have:=Qka l 0 O i o d h (by simpa using k);exact this,
  by simpa using P,λn a=>?_,λn h k=>?_,λi n s a hr Q Y=>?_⟩,by simpa using h8⟩
 .have x:t[i]?=some t[i]:=XJ (by omega);rcases QfA l t 0 T i _ o d x with⟨r,w⟩|r
  .exact .inl ⟨_,r,x,w⟩
  .exact .inr r
 .have:=Xs.1 V n (List.mem_range.2 a);simp only[Bool.or_eq_true,Xt,XV,Bool.not_eq_true']at this;rcases this with q|⟨i,r,w,f⟩
  .exact .inl (XP q)
  .exact .inr ⟨i,List.mem_range.1 r,w,λz=>by rw[List.contains_iff_mem.2 z]at f;cases f⟩
 .have a:n<u.length:=by
   rcases Vy n u.length with q|q
   .exact q
   .rw[VH,XN q]at k;cases k
  have:=Xs.1 (Xs.1 H n (List.mem_range.2 a)) h k;simp only[XV]at this;exact⟨by simpa using this.1,this.2⟩
 .have:=Xs.1 (Xs.1 y i (List.mem_range.2 s)) n (List.mem_range.2 a);simp only[Bool.or_eq_true,Bool.not_eq_true']at this;rcases this with((q|q)|q)|q
  .exfalso;obtain⟨h,k,q⟩:=Xt.1 q;exact Y h k (QiY (List.contains_iff_mem.1 q))
  .exfalso;have:((G.getD i []).all ((u.getD n []).contains ·))=true:=Xs.2 λh k=>List.contains_iff_mem.2 (hr h k);rw[this]at q;cases q
  .simp only[XV]at q;exact absurd (List.contains_iff_mem.1 q.2) (Q q.1)
  .obtain⟨p,X,q⟩:=Xt.1 q;simp only[XV]at q;obtain⟨⟨r,w⟩,f⟩:=q;have e:=XP r;refine⟨p.2,by rw[<- e];exact X,by simpa using w,?_⟩;cases z:B.getD i false with
   |true=>
    rw[z]at f;simp only[Vm]at f;simp only[if_true];intro j;rw[Qlx f j,X5]
   |false=>
    rw[z]at f;simp only[Vn]at f;simp only[Xi,if_false];exact XP f
inductive Qgg (P:Program) (N:Nat) (l:List Oper) (ds:List Nat) (xs:List A) (env0:Env) (hB hE:Nat):Nat->List (List (Qd×Qd))->Prop
 |nil {i:Nat}:Qgg P N l ds xs env0 hB hE i []
 |cons {i:Nat} {s:List (Qd×Qd)} {r:List (List (Qd×Qd))} (h:∀p∈s,Jm P N l ds xs env0 hB hE i p.1 p.2) (k:Qgg P N l ds xs env0 hB hE (i+1) r):Qgg P N l ds xs env0 hB hE i (s::r)
theorem Qgg.get{P:Program}{N:Nat}{l:List Oper}{d:List Nat}{xs:List A}{env0:Env}{hB hE b:Nat}{e:List (List (Qd×Qd))}(h:Qgg P N l d xs env0 hB hE b e):
  ∀(i:Nat) (s:List (Qd×Qd)),e[i]?=some s->∀p∈s,Jm P N l d xs env0 hB hE (b+i) p.1 p.2:=by
 induction h with
 |nil=>intro i s h;simp at h
 | @cons b s0 r h _ ih=>
  intro i s a;cases i with
  |zero=>simp at a;subst a;exact h
  |succ i=>
   have:=ih i s (by simpa using a);rw[show b+1+i=b+(i+1)by omega]at this;exact this
theorem Qc{P:Program}{N:Nat}{l:List Oper}{d:List Nat}{xs:List A}{env0:Env}{hB hE i:Nat}:∀p∈([]:List (Qd×Qd)),Jm P N l d xs env0 hB hE i p.1 p.2:=by
 intro p a;cases a
theorem Qb{P:Program}{N:Nat}{l:List Oper}{a:List Nat}{xs:List A}{env0:Env}{hB hE i:Nat}{H H':Qd}{r:List (Qd×Qd)}(h:Jm P N l a xs env0 hB hE i H H')
  (k:∀p∈r,Jm P N l a xs env0 hB hE i p.1 p.2):∀p∈(H,H')::r,Jm P N l a xs env0 hB hE i p.1 p.2:=by
 intro p d;rcases X5.1 d with rfl|q
 .exact h
 .exact k p q
theorem QfQ{P:Program}{h0 N:Nat}{id:Nat}{l:List Oper}{env:Env}{H:Qd}{fr ro:Nat->Prop}{σ:Sig}{a:Act}{w:World}{rd:Option Nat}{R:Exit->Act->World->Prop}(m c:Nat)(ds:List Nat)(hs:List Bool)(rq ms:List (List Nat))(G:List (List (Nat×Nat)))(xs:List A)(Hs:List Qd)(Hk:Qd)
  (hm:P.follows .mixedOrders=true)(hc:Qdu l m N ds hs rq ms G=true)(ac:Nat.beq xs.length m=true)(V:Nat.beq Hs.length ms.length=true)(Y:Nat.ble h0 H.length=true)
  (hh:Hs.all (λX=>Nat.ble (H.length+c) X.length)=true)(ab:Hs[0]?=some (H++List.replicate c .dead))(W:Hs.getD (ms.length-1) []=Hk)
  (aa:Qgg P N l ds xs env H.length (H.length+c) 0 (G.map λq=>q.map λp=>(Hs.getD p.1 [],Hs.getD p.2 [])))(ae:Nat.beq G.length m=true)
  (r:Rel fr ro σ H env N a w)(ad:QdF rd fr w)
  (hk:∀ro' σ' a' w',Rel fr ro' σ' Hk (Qao ds xs env) N a' w'->Qh fr ro w ro' w'->σ'.take h0=σ.take h0->a'.defers=a.defers->wpL P rd l.toArray R (l.drop m) a' w'):(Code.region id l.toArray true).wpIn (WF rd) 0 P R a w:=by
 obtain⟨ok,O⟩:=QkT hc;have L:=XP ac;have J:=XP V;have af:=XP ae;have M:Qh fr ro w ro {w with drawn:=w.drawn+1}:=⟨λ_ q=>q,λ_ _=>rfl,λ_ _=>rfl,XS _,λ_ _ q=>q,rfl,rfl,rfl,Nat.le_succ _⟩;have u:Ext ro σ w ro (σ++List.replicate c none) {w with drawn:=w.drawn+1}:=M.ext σ _;have T:=r.sim.len;have B:Hs.getD 0 []=H++List.replicate c .dead:=Qmn ab;have k:∀(i:Nat) (s:Option Nat) (x:Blk),(σ++List.replicate c none)[i]?=some s->(H++List.replicate c Blk.dead)[i]?=some x->(σ[i]?=some s/\H[i]?=some x)\/(s=none/\x=.dead):=by
  intro i s x n h;rcases Vy i σ.length with q|q
  .rw[XL q]at n;rw[XL (by omega)]at h;exact .inl ⟨n,h⟩
  .rw[XM q]at n;rw[XM (by omega)]at h;have a1:=VD n;have a2:=VD h;exact .inr ⟨(List.mem_replicate.1 a1).2,(List.mem_replicate.1 a2).2⟩
 have E:Sim fr ro (σ++List.replicate c none) (H++List.replicate c .dead) {w with drawn:=w.drawn+1}:=by
  refine⟨by simp[T],r.sim.roOk.to (λ_ q=>q) (λ_ _=>rfl) r.sim.roLt,r.sim.frLt,r.sim.roFr,?_,?_,?_,
   r.sim.hidTo (· = ·) Q7 (XS _) (λ_ _ _ _ _ _ _ q=>q) (λ_ _ _ _ _ _ _ q=>q) λj d y g1 g2 g3=>.inl ?_⟩
  rotate_left 3
  .rcases k j _ _ g1 g2 with⟨g,t⟩|⟨g,_⟩
   .exact⟨j,y,rfl,g,t,(λz=>z),λc q=>q⟩
   .cases g
  .intro i b blk n h Q;rcases k i _ _ n h with⟨g,t⟩|⟨g,_⟩
   .exact r.sim.own i b blk g t Q
   .cases g
  .intro i j b x y n h Q h4 h5 h6;rcases k i _ _ n Q with⟨g,t⟩|⟨g,_⟩
   .rcases k j _ _ h h4 with⟨q3,q4⟩|⟨q3,_⟩
    .exact r.sim.inj i j b x y g q3 t q4 h5 h6
    .cases q3
   .cases g
  .intro i s x n h;rcases k i _ _ n h with⟨g,t⟩|⟨g,t⟩
   .exact BR.keep u (λb hb _=>rfl) (r.sim.blk i s x g t) (λ_ _ _ _=>rfl)
   .subst t;exact trivial
 have f:∀i,¬onL (Array.replicate l.length false) i:=by
  intro i q;unfold onL at q;rw[Array.getElem?_replicate]at q;split at q<;>simp at q
 have F:=XQ Y;refine wpIn_region_any hm ?_;rw[List.size_toArray];refine Qhc ok L J F (Nat.le_add_right _ _) (λX hX=>XQ (Xs.1 hh X hX)) ?_ W (ro0:=ro) (σ0:=σ) (w0:=w) (ds0:=a.defers) hk r.defers ad
  l.length _ a _ ro (σ++List.replicate c none) 0 (by simp) ?_ (λi _=>f i) O (by rw[B];exact E) r.size rfl (λi d x q=>absurd q (f i)) (λs _=>(r.env s).mono u) M (QM (by omega)) ?_
  (λi _ q=>absurd q (f i)) (λi _ _=>⟨λq=>absurd q (f i),λq=>by rw[ok.ms0]at q;cases q⟩) (λi o q=>absurd q (f i))
 .intro i p hi hp;have e:(G.map λq=>q.map λp=>(Hs.getD p.1 [],Hs.getD p.2 []))[i]?=some ((G.getD i []).map λp=>(Hs.getD p.1 [],Hs.getD p.2 [])):=by
   rw[Xo,XJ (by omega),VH,XJ (by omega)];rfl
  have:=aa.get i _ e _ (Xe.2 ⟨p,hp,rfl⟩);simpa using this
 .unfold unl;simp[List.countP_replicate]
 .intro p n h Q;rw[XM (by omega),List.getElem?_replicate,Vq (by omega)]
theorem Yc{P:Program}{h0 N:Nat}{id:Nat}{l:List Oper}{env:Env}{H:Qd}{Q:QE}(m c:Nat)(f:List Nat)(y:List Bool)(x g:List (List Nat))(h:List (List (Nat×Nat)))(xs:List A)(Hs:List Qd)(Hk:Qd)
  (z:P.follows .mixedOrders=true)(F:Qdu l m N f y x g h=true)(n:Nat.beq xs.length m=true)(i:Nat.beq Hs.length g.length=true)(k:Nat.ble h0 H.length=true)
  (E:Hs.all (λX=>Nat.ble (H.length+c) X.length)=true)(t:Hs[0]?=some (H++List.replicate c .dead))(j:Hs.getD (g.length-1) []=Hk)
  (s:Qgg P N l f xs env H.length (H.length+c) 0 (h.map λq=>q.map λp=>(Hs.getD p.1 [],Hs.getD p.2 [])))(u:Nat.beq h.length m=true)
  (J:WO P h0 N l.toArray (l.drop m) (Qao f xs env) Hk Q):TC P h0 N (.region id l.toArray true) env H Q:=by
 intro B G L σ a w r hrd;refine Code.wpIn_mono (λe a w q=>Qbq.postW q) (QfQ m c f y x g h xs Hs Hk z F n i k E t j s u r hrd λro' σ' a' w' hr hev htk hdf=>?_);have d:=J B G ro' σ' a' w' hr (hrd.to hev λ_ q=>q);rw[hdf]at d;exact Yn (λe a w q=>q.step hev htk) _ _ _ d
def draw0(l:List Oper)(m N:Nat)(ds:List Nat):Bool:=Nat.ble m l.length&&(ds.length==m)&&Qdu.dstB N 0 l ds&&drawChk.nodupB ds&&drawChk.goB l m 0 l
inductive Oq (P:Program) (N:Nat) (l:List Oper) (ds:List Nat) (xs:List A) (env0:Env) (H:Qd):Nat->Nat->Prop
 |n {i:Nat}:Oq P N l ds xs env0 H i 0
 |c {i c:Nat} (h:Jm P N l ds xs env0 H.length H.length i H H) (k:Oq P N l ds xs env0 H (i+1) c):Oq P N l ds xs env0 H i (c+1)
theorem Oq.get{P:Program}{N:Nat}{l:List Oper}{a:List Nat}{xs:List A}{env0:Env}{H:Qd}{b c:Nat}(h:Oq P N l a xs env0 H b c):∀i,i<c->Jm P N l a xs env0 H.length H.length (b+i) H H:=by
 induction h with
 |n=>intro i d;omega
 | @c b c h _ ih=>
  intro i d;cases i with
  |zero=>exact h
  |succ i=>
   have:=ih i (by omega);rw[show b+1+i=b+(i+1)by omega]at this;exact this
theorem QkU{l:List Oper}{m N:Nat}{f:List Nat}(h:draw0 l m N f=true):Qlp l m f [] [] [[]] (List.replicate m [(0,0)]) N:=by
 unfold draw0 at h;simp only[XV]at h;obtain⟨⟨⟨⟨y,t⟩,B⟩,u⟩,w⟩:=h;have q:m<=l.length:=XQ y;have r:f.length=m:=by simpa using t
 have g:=QgK l 0 w;refine⟨q,λi o e d=>?_,r,Qdm u,λi o d=>by have:=(g i o d).1;simpa using this,λo d j z=>QbP m (Qk o) (λi e=>.one d e) j ((g m o d).2.1 (by omega) j z),
  λi o e d=>by have:=(g i o d).2.2 (by omega);simpa using this,λi o e d h s=>by simp at s,rfl,λn a=>.inl (by simp at a;simp[a]),λn h s=>by cases n<;>simp at s,λi n e a _ _ _=>?_⟩
 .have k:f[i]?=some f[i]:=XJ (by omega);rcases QfA l f 0 B i _ o d k with⟨p,x⟩|p
  .exact .inl ⟨_,p,k,x⟩
  .exact .inr p
 .have:n=0:=by simp at a;exact a
  subst this;refine⟨0,?_,by simp,by simp⟩;rw[VH,List.getElem?_replicate,Vq e];exact Vx.2 rfl
theorem QfR{P:Program}{h0 N:Nat}{id:Nat}{l:List Oper}{env:Env}{H:Qd}{fr ro:Nat->Prop}{σ:Sig}{a:Act}{w:World}{rd:Option Nat}{R:Exit->Act->World->Prop}(m:Nat)(y:List Nat)(xs:List A)
  (E:P.follows .mixedOrders=true)(G:Go.Sw.draw0 l m N y=true)(k:Nat.beq xs.length m=true)(t:Nat.ble h0 H.length=true)
  (n:Oq P N l y xs env H 0 m)(r:Rel fr ro σ H env N a w)(u:QdF rd fr w)
  (F:∀ro' σ' a' w',Rel fr ro' σ' H (Qao y xs env) N a' w'->Qh fr ro w ro' w'->σ'.take h0=σ.take h0->a'.defers=a.defers->wpL P rd l.toArray R (l.drop m) a' w'):(Code.region id l.toArray true).wpIn (WF rd) 0 P R a w:=by
 have ok:=QkU G;have g:=XP k;have j:Qh fr ro w ro {w with drawn:=w.drawn+1}:=⟨λ_ q=>q,λ_ _=>rfl,λ_ _=>rfl,XS _,λ_ _ q=>q,rfl,rfl,rfl,Nat.le_succ _⟩;have h:Ext ro σ w ro σ {w with drawn:=w.drawn+1}:=j.ext0 σ;have f:Sim fr ro σ H {w with drawn:=w.drawn+1}:=r.sim.heap rfl;have e:∀i,¬onL (Array.replicate l.length false) i:=by
  intro i q;unfold onL at q;rw[Array.getElem?_replicate]at q;split at q<;>simp at q
 refine wpIn_region_any E ?_;rw[List.size_toArray];refine Qhc (hB:=H.length) (hE:=H.length) (Hs:=[H]) (Hk:=H) ok g rfl (XQ t) (XS _) (λX hX=>by rw[Vx.1 hX];exact XS _) ?_ rfl (ro0:=ro) (σ0:=σ) (w0:=w) (ds0:=a.defers) F r.defers u
  l.length _ a _ ro σ 0 (by simp) ?_ (λi _=>e i) (by simp) f r.size rfl (λi d x q=>absurd q (e i)) (λs _=>(r.env s).mono h) j rfl (λp L J=>by omega)
  (λi _ q=>absurd q (e i)) (λi _ _=>⟨λq=>absurd q (e i),λq=>by cases q⟩) (λi o q=>absurd q (e i))
 .intro i p z B;rw[VH,List.getElem?_replicate,Vq z]at B;obtain rfl:=Vx.1 B;have:=n.get i z;rw[Xv]at this;exact this
 .unfold unl;simp[List.countP_replicate]
theorem TC.draw0{P:Program}{h0 N:Nat}{id:Nat}{l:List Oper}{env:Env}{H:Qd}{Q:QE}(m:Nat)(f:List Nat)(xs:List A)
  (j:P.follows .mixedOrders=true)(p:Go.Sw.draw0 l m N f=true)(g:Nat.beq xs.length m=true)(i:Nat.ble h0 H.length=true)
  (h:Oq P N l f xs env H 0 m)(n:WO P h0 N l.toArray (l.drop m) (Qao f xs env) H Q):TC P h0 N (.region id l.toArray true) env H Q:=by
 intro k s t σ a w r hrd;refine Code.wpIn_mono (λe a w q=>Qbq.postW q) (QfR m f xs j p g i h r hrd λro' σ' a' w' hr hev htk hdf=>?_);have d:=n k s ro' σ' a' w' hr (hrd.to hev λ_ q=>q);rw[hdf]at d;exact Yn (λe a w q=>q.step hev htk) _ _ _ d
section
variable {P:Program} {N:Nat} {l:List Oper} {ds af bf:List Nat} {xs:List A} {env0 e r:Env} {H H':Qd} {i hB hE:Nat} {o:Oper} {d s:Nat} {x a:A}
theorem sN:Sb af bf ds xs env0 []:=.nil
theorem sD(j:Nat)(k:Sb af bf ds xs env0 r)(d:af.contains j=true:=by exact rfl)(h2:ds[j]?=some s:=by exact rfl)(h3:xs[j]?=some a:=by exact rfl):Sb af bf ds xs env0 ((s,a)::r):=.dep j d h2 h3 k
theorem sO(s:Nat)(k:Sb af bf ds xs env0 r)(d:ds.contains s=false:=by exact rfl)(h2:lk env0 s=a:=by exact rfl):Sb af bf ds xs env0 ((s,a)::r):=.old d h2 k
theorem Qdv(H:Qd):Qan hB hE H H=true:=by
 unfold Qan;refine Xs.2 λp _=>?_;cases Qbd H[hB+p]? <;>rfl
theorem Om(g:l[i]?=some o)(a:Sb (Qk o) (Qf8 l i) ds xs env0 e)(h:WO P H.length N l.toArray [o] e H (YM (up e d x) H))(f:o.dst=some d:=by exact rfl)(hx:xs[i]?=some x:=by exact rfl):Jm P N l ds xs env0 hB hE i H H:=
 .mk o e d x g f hx (Qdv H) a h
theorem Om1(g:l[i]?=some o)(a:Sb (Qk o) (Qf8 l i) ds xs env0 e)(h:WO P H.length N l.toArray [o] e H (YM (up e d x) H'))(f:o.dst=some d:=by exact rfl)(hx:xs[i]?=some x:=by exact rfl)(hdd:Qan hB hE H H'=true:=by exact rfl):Jm P N l ds xs env0 hB hE i H H':=
 .mk o e d x g f hx hdd a h
theorem Om2(f:l[i]?=some o)(a:Sb (Qk o) (Qf8 l i) ds xs env0 e)(h:WO P H.length N l.toArray [o] e H (YM e H'))(d:o.dst=none:=by exact rfl)(hx:xs[i]?=some .any:=by exact rfl)(hdd:Qan hB hE H H'=true:=by exact rfl):Jm P N l ds xs env0 hB hE i H H':=
 .unit o e f d hx hdd a h
end
structure TyI where
 fld:List (Nat×Nat×Nat)
 agg:List (Nat×Bool×Nat)
 zer:List (Nat×List A×List (Nat×Nat))
structure TyOK (P:Program) (T:TyI):Prop where
 fld:∀e∈T.fld,∃n,Qae P e.1 e.2.1 e.2.2 n
 agg:∀e∈T.agg,(∀w,(isAgg e.1).run P w=.ok e.2.1 w)/\ ∀w,(sizeOf e.1).run P w=.ok e.2.2 w
 zer:∀e∈T.zer,(∃z,(∀w,(zeroValue e.1).run P w=.ok z w)/\ZR (.agg e.2.1) z)/\QeO P e.1 e.2.2
def QgO:List (Nat×Nat×Nat)->Nat->Nat->Option Nat
 |[],_,_=>none
 |(a,b,c)::r,t,f=>bif Nat.beq a t&&Nat.beq b f then some c else QgO r t f
def Qbu{β:Type}:List (Nat×β)->Nat->Option β
 |[],_=>none
 |(a,b)::r,t=>bif Nat.beq a t then some b else Qbu r t
theorem QgN{l:List (Nat×Nat×Nat)}{t f c:Nat}(h:QgO l t f=some c):(t,f,c)∈l:=by
 induction l with
 |nil=>cases h
 |cons x r e=>
  obtain⟨a,b,d⟩:=x;unfold QgO at h;cases q:(Nat.beq a t&&Nat.beq b f)with
  |true=>
   simp_all
  |false=>grind
theorem Qar{β:Type}{l:List (Nat×β)}{t:Nat}{c:β}(h:Qbu l t=some c):(t,c)∈l:=by
 induction l with
 |nil=>cases h
 |cons x r d=>
  obtain⟨a,b⟩:=x;unfold Qbu at h;cases q:Nat.beq a t with
  |true=>
   simp_all
  |false=>grind
def Qf7(H:Qd):A->Option (List A)
 |.rp cs=>some cs
 |.ptr i off=>match H[i]? with
  |some (.cells _ cs)=>some (cs.drop off)
  |_=>none
 |_=>none
theorem QhW{H:Qd}{p:A}{a:List A}(h:Qf7 H p=some a):Pts H p a:=by
 unfold Qf7 at h;split at h
 .cases h;exact Pts.rp
 .split at h
  .rename_i d;cases h;exact Pts.cells d rfl
  .cases h
 .cases h
def Qj4(T:TyI)(o:Oper)(env:Env)(H:Qd):Option A:=
 match o.op with
 |.move x=>some (opA env x)
 |.assign x=>some (opA env x)
 |.fieldAddr t x f=>match QgO T.fld t f with
  |none=>none
  |some off=>match opA env x with
   |.ptr i p=>some (.ptr i (p+off))
   |.rp cs=>some (.rp (cs.drop off))
   |_=>none
 |.load t x=>match Qbu T.agg t with
  |none=>none
  |some (b,n)=>match x with
   |.global g=>match QhG[g]? with
    |some zs=>bif b&&Nat.beq zs.length n then some (.agg (zs.map (A.int .i64)))else none
    |none=>none
   |x=>match Qf7 H (opA env x)with
    |none=>none
    |some cs=>bif b then(bif Nat.beq (cs.take n).length n then some (.agg (cs.take n))else none)else cs.head?
 |.build t parts=>match Qbu T.zer t with
  |none=>none
  |some (zs,pl)=>match Qer env pl zs parts.toList with
   |some cs=>some (.agg cs)
   |none=>none
 |.extract x i=>match opA env x with
  |.tup vs=>vs[i]?
  |_=>none
 |.makeFunc f first cap=>some (.fn f (first.toList.map (opA env)) (cap.toList.map (opA env)))
 |_=>none
theorem Qj3{P:Program}{T:TyI}(j:TyOK P T){o:Oper}{env:Env}{H:Qd}{x:A}(h:Qj4 T o env H=some x):OpV P o env H x:=by
 unfold Qj4 at h;split at h
 .simp_all[OpV.move]
 .simp_all[OpV.assign]
 .rename_i t y f a;split at h
  .cases h
  .rename_i E i;obtain⟨n,r⟩:=j.fld _ (QgN i);split at h
   .grind[QeU]
   .rename_i d m;cases h;exact QeT r a m rfl
   .cases h
 .rename_i t y a;split at h
  .cases h
  .rename_i b n p;obtain⟨e,g⟩:=j.agg _ (Qar p);split at h
   .split at h
    .rename_i k s;cases q:(b&&Nat.beq k.length n)with
     |false=>grind
     |true=>
      rw[q]at h;cases h;simp[XV]at q;obtain⟨rfl,G⟩:=q;exact QfG e g s (by simp_all) a
    .cases h
   .split at h
    .cases h
    .rename_i d w;have l:=QhW w;cases b with
     |true=>
      cases q:Nat.beq (d.take n).length n with
      |false=>grind
      |true=>
       rw[q]at h;cases h;exact Qdd a e g rfl l rfl (by simp_all)
     |false=>
      cases d with
      |nil=>cases h
      |cons v d=>cases h;exact OpV.load a e rfl l
 .rename_i t parts a;split at h
  .cases h
  .rename_i k J F;obtain⟨⟨z,e,g⟩,B⟩:=j.zer _ (Qar F);split at h
   .rename_i d i;cases h;exact OpV.build e g B (by rw[a]) i
   .cases h
 .grind[OpV.extract]
 .rename_i f first u a
  cases h;exact OpV.makeFunc (by rw[a]) rfl rfl
 .cases h
def Qg9(af:List Nat):Nat->List Nat->List A->Env->Env
 |j,d::ds,x::xs,e=>(d,bif af.contains j then x else .any)::Qg9 af (j+1) ds xs e
 |_,_,_,e=>e
theorem Ql0{af:List Nat}{env0:Env}(s:Nat):∀(a:List Nat) (xs:List A) (b:Nat),a.length=xs.length->
  (∃(j:Nat) (x:A),a[j]?=some s/\xs[j]?=some x/\lk (Qg9 af b a xs env0) s=bif af.contains (b+j)then x else .any)\/(a.contains s=false/\lk (Qg9 af b a xs env0) s=lk env0 s):=by
 intro a
 induction a with
 |nil=>simp_all[Qg9]
 |cons d a i=>
  intro xs b h;cases xs with
  |nil=>cases h
  |cons x xs=>
   cases q:Nat.beq s d with
   |true=>
    have e:=XP q;subst e;left;refine⟨0,x,rfl,rfl,?_⟩
    simp_all[Qg9,lk]
   |false=>
    have g:s≠d:=λz=>by simp_all
    simp only[Qg9,lk,q];rcases i xs (b+1) (by grind)with⟨j,y,k,f,l⟩|⟨k,f⟩
    .left;refine⟨j+1,y,by grind,by grind,?_⟩
     grind
    grind
def Qii(T:TyI)(N:Nat)(l:List Oper)(ds:List Nat)(xs:List A)(env0:Env)(H:Qd)(i:Nat):Option A:=
 match l[i]? with
 |none=>none
 |some o=>match o.guard,o.dst with
  |none,some d=>bif Nat.blt d N&&Nat.beq ds.length xs.length then Qj4 T o (Qg9 (Qk o) 0 ds xs env0) H else none
  |_,_=>none
theorem QlZ{af a:List Nat}{xs:List A}{env0:Env}(d:a.length=xs.length):Qlm af a xs env0 (Qg9 af 0 a xs env0):=by
 intro s;rcases Ql0 (af:=af) (env0:=env0) s a xs 0 d with⟨j,x,f,e,g⟩|h
 .grind
 grind
theorem vQ{P:Program}{T:TyI}(j:TyOK P T){N:Nat}{l:List Oper}{a:List Nat}{xs:List A}{env0:Env}{hB hE i:Nat}{H:Qd}{x:A}(g:xs[i]?=some x)(h:Qii T N l a xs env0 H i=some x):Jm P N l a xs env0 hB hE i H H:=by
 unfold Qii at h;split at h
 .cases h
 .rename_i o k;split at h
  .rename_i d e f;cases q:(Nat.blt d N&&Nat.beq a.length xs.length)with
   |false=>grind
   |true=>
    rw[q]at h;simp only[XV]at q;exact .val o _ d x k f e g q.1 (QlZ (by simp_all)) (Qj3 j h)
  .cases h
abbrev I(n:Int):A:=.int .i64 n
theorem zc{a:A}{v:Value}{al:List A}{vl:List Value}(h:ZR a v)(k:ZL al vl):ZL (a::al) (v::vl):=ZL.cons h k
def zr1:A->Value->Bool
 |.int k n,.int k' n'=>decide (k=k')&&decide (n=n')
 |.bool b,.bool b'=>b==b'
 |.str s,.string s'=>s.isEmpty&&s'.data.toList.isEmpty
 |.rsl _ es,.slice none 0 0=>es.isEmpty
 |.nils,.slice none 0 0=>true
 |.nilp,.pointer none=>true
 |.nilf,.nilFunc=>true
 |.nilm,.map none=>true
 |.nilif,.nilIface=>true
 |_,_=>false
def zrL:List A->List Value->Bool
 |[],[]=>true
 |a::r,v::s=>zr1 a v&&zrL r s
 |_,_=>false
def zrB:A->Value->Bool
 |.agg r,.agg s=>zrL r s.toList
 |a,v=>zr1 a v
theorem QjU{a:A}{v:Value}(h:zr1 a v=true):ZR a v:=by
 unfold zr1 at h;split at h
 .simp_all[ZR.int]
 .simp_all[ZR.bool]
 .rename_i s f;simp[XV]at h;obtain⟨d⟩:=f
  simp_all[ZR.str]
 .rename_i k g;have h:=List.isEmpty_iff.1 h;subst h;exact ZR.rsl (e:=λx=>[x])
 .exact ZR.nils
 .exact ZR.nilp
 .exact ZR.nilf
 .exact ZR.nilm
 .exact Qma
 .cases h
theorem QjT:∀{r:List A} {s:List Value},zrL r s=true->ZL r s
 |[],[],_=>ZL.nil
 |a::r,v::s,h=>by
  simp[zrL,XV]at h;exact ZL.cons (QjU h.1) (QjT h.2)
 |[],_::_,h=>by cases h
 |_::_,[],h=>by cases h
theorem zrC{a:A}{v:Value}(h:zrB a v=true):ZR a v:=by
 unfold zrB at h;split at h
 .have:=ZR.agg (QjT h);omega
 .exact QjU h
section
variable {P:Program} {o:Oper} {env:Env} {H:Qd}
end
structure TyX where
 ty:TyI
 al:List (Nat×A)
 sl:List Nat
structure QbK (P:Program) (T:TyX):Prop where
 ty:TyOK P T.ty
 al:∀e∈T.al,(∃z,(∀w,(zeroValue e.1).run P w=.ok z w)/\ZR e.2 z)/\Yl e.2=true/\(Yb e.2).all Yq=true
 sl:∀t∈T.sl,∃et,∀w,(underlying t).run P w=.ok (.slice et) w
def YJ(all:Array Oper)(o:Oper)(env:Env):Option Bool:=
 match o.guard with
 |none=>some true
 |some (j,c)=>match(all[j]?).bind (·.dst)with
  |none=>none
  |some d=>match lk env d with
   |.bool true=>some c
   |.bool false=>some (!c)
   |.tup []=>some false
   |_=>none
theorem QJ{all:Array Oper}{o:Oper}{env:Env}{b:Bool}(h:YJ all o env=some b):QG all o env b:=by
 unfold YJ at h;unfold QG;split at h
 .grind
 .rename_i j c q;rw[q];split at h
  .cases h
  .rename_i d a;refine⟨d,a,?_⟩;split at h
   .simp_all
   .simp_all
   .grind
   .cases h
def Qc3:List Nat->Nat->Bool
 |[],_=>false
 |a::r,t=>bif Nat.beq a t then true else Qc3 r t
theorem QfU{l:List Nat}{t:Nat}(h:Qc3 l t=true):t∈l:=by
 induction l with
 |nil=>cases h
 |cons a r d=>
  grind[Qc3,Nat.eq_of_beq_eq_true]
inductive FL where
 |mk (l:List A)
def fl:List A->FL
 |[]=>.mk []
 |a::r=>match fl r with
  |.mk r'=>.mk (a::r')
theorem Qb1:∀l:List A,fl l=.mk l
 |[]=>rfl
 |a::r=>by unfold fl;rw[Qb1 r]
inductive FB where
 |mk (l:List Blk)
def fb:List Blk->FB
 |[]=>.mk []
 |a::r=>match fb r with
  |.mk r'=>.mk (a::r')
theorem Qiu:∀l:List Blk,fb l=.mk l
 |[]=>rfl
 |a::r=>by unfold fb;rw[Qiu r]
inductive FN where
 |mk (n:Nat)
def fn:List Blk->Nat->FN
 |[],n=>.mk n
 |_::r,n=>fn r (n+1)
theorem Qkv:∀(l:List Blk) (n:Nat),fn l n=.mk (l.length+n)
 |[],n=>by simp[fn]
 |a::r,n=>by unfold fn;rw[Qkv r];simp;omega
def Qis(env:Env)(pl:List (Nat×Nat)):List A->List (Nat×Operand)->Option (List A)
 |cs,[]=>some cs
 |cs,(i,x)::r=>match YG pl i with
  |none=>none
  |some (off,size)=>match opB env x with
   |.mk a=>match fl (Yb a)with
    |.mk vs=>bif Yl a&&Nat.beq vs.length size&&Nat.ble (off+size) cs.length then(match fl (splice cs off vs)with
     |.mk cs'=>Qis env pl cs' r)else none
theorem QgR{env:Env}{pl:List (Nat×Nat)}:∀(parts:List (Nat×Operand)) (cs:List A),Qis env pl cs parts=Qer env pl cs parts
 |[],cs=>rfl
 |(i,x)::r,cs=>by
  unfold Qis Qer;rw[Qax];cases pl[i]? with
  |none=>rfl
  |some q=>
   obtain⟨off,size⟩:=q;cases h:opB env x with
   |mk a=>
    rw[QN h];simp only[Qb1];cases(Yl a&&Nat.beq (Yb a).length size&&Nat.ble (off+size) cs.length)with
    |false=>rfl
    |true=>exact QgR r _
def QgD(env:Env):List Operand->List A
 |[]=>[]
 |x::r=>match opB env x with
  |.mk a=>a::QgD env r
theorem Qcu{env:Env}:∀l:List Operand,QgD env l=l.map (opA env)
 |[]=>rfl
 |x::r=>by
  unfold QgD;cases h:opB env x with
  |mk a=>rw[Vh,QN h];show a::QgD env r=_;rw[Qcu r]
def ptX(H:Qd):Bx->Option Lx
 |.mk (.rp cs)=>some (.mk cs)
 |.mk (.ptr i off)=>match YG H i with
  |some (.cells _ cs)=>some (Qha off cs)
  |_=>none
 |_=>none
theorem QmK{H:Qd}{p:A}{a:List A}(h:ptX H (.mk p)=some (.mk a)):Pts H p a:=by
 unfold ptX at h
 grind[Pts.rp,Qax,Pts.cells,QeH]
def QcV(T:TyX)(o:Oper)(env:Env)(H:Qd):Option A:=
 match o.op with
 |.move x=>match opB env x with|.mk a=>some a
 |.assign x=>match opB env x with|.mk a=>some a
 |.nilCheck x=>nlB (opB env x)
 |.extract x i=>exB (opB env x) i
 |.unOp u _ x=>unB u (opB env x)
 |.pick c x y=>piB (opB env c) (opB env x) (opB env y)
 |.binOp b _ x y _=>biB b (opB env x) (opB env y)
 |.fieldAddr t x f=>match QgO T.ty.fld t f with
  |none=>none
  |some off=>match opB env x with
   |.mk (.ptr i p)=>some (.ptr i (p+off))
   |.mk (.rp cs)=>match Qha off cs with
    |.mk r=>some (.rp r)
   |_=>none
 |.load t x=>match Qbu T.ty.agg t with
  |none=>none
  |some (b,n)=>match x with
   |.global g=>match YG QhG g with
    |some zs=>bif b&&Nat.beq zs.length n then(match fl (zs.map (A.int .i64))with|.mk l=>some (.agg l))else none
    |none=>none
   |x=>match ptX H (opB env x)with
    |none=>none
    |some (.mk cs)=>match b with
     |true=>(match fl (cs.take n)with|.mk l=>bif Nat.beq l.length n then some (.agg l)else none)
     |false=>(match cs with|[]=>none|a::_=>some a)
 |.build t parts=>match Qbu T.ty.zer t with
  |none=>none
  |some (zs,pl)=>match Qis env pl zs parts.toList with
   |some cs=>some (.agg cs)
   |none=>none
 |.makeFunc f first cap=>match fl (QgD env first.toList),fl (QgD env cap.toList)with
  |.mk l,.mk l'=>some (.fn f l l')
 |.call c=>match c with
  |{callee:=.builtin .len,args:=⟨[x]⟩,argTypes:=⟨[t]⟩}=>bif Qc3 T.sl t then(match opB env x with
   |.mk (.osl _ 0 n _)=>some (.int .i64 n)
   |_=>none)else none
  |_=>none
 |_=>none
theorem Qaq{P:Program}{T:TyX}(m:QbK P T){o:Oper}{env:Env}{H:Qd}{x:A}(h:QcV T o env H=some x):OpV P o env H x:=by
 unfold QcV at h;split at h
 .simp_all[Qbw,svB]
 .simp_all[Qbw,svB]
 .simp_all[Qbw,svB]
 .simp_all[Qbw,svB]
 .simp_all[Qbw,svB]
 .simp_all[Qbw,svB]
 .simp_all[Qbw,svB]
 .rename_i t y f a;split at h
  .cases h
  .rename_i u l;obtain⟨n,Q⟩:=m.ty.fld _ (QgN l);split at h
   .grind[QeU,QN]
   .rename_i j V;cases q:Qha u j with
    |mk r=>rw[q]at h;grind[QeT,QN,QeH]
   .cases h
 .rename_i t y a;split at h
  .cases h
  .rename_i b n L;obtain⟨s,d⟩:=m.ty.agg _ (Qar L);split at h
   .rename_i g;split at h
    .rename_i w E;rw[Qax]at E;cases q:(b&&Nat.beq w.length n)with
     |false=>grind
     |true=>
      rw[q,Qb1]at h;cases h;simp only[XV]at q;obtain⟨rfl,B⟩:=q;exact QfG s d E (by simp_all) a
    .cases h
   .cases e:opB env y with
    |mk p=>
     rw[e]at h;split at h
     .cases h
     .rename_i j N;have J:=QmK N;cases b with
      |true=>
       simp only[Qb1]at h;cases q:Nat.beq (j.take n).length n with
       |false=>grind
       |true=>
        rw[q]at h;cases h;exact Qdd a s d (QN e) J rfl (by simp_all)
      |false=>
       grind[OpV.load,QN]
 .rename_i t parts a;split at h
  .cases h
  .rename_i w R G;obtain⟨⟨z,s,d⟩,F⟩:=m.ty.zer _ (Qar G);split at h
   .rename_i j l;cases h;rw[QgR]at l;exact OpV.build s d F (by rw[a]) l
   .cases h
 .rename_i f first cap a
  simp only[Qb1]at h;cases h;rw[Qcu,Qcu];exact OpV.makeFunc (first:=first.toList) (cap:=cap.toList) (by rw[a]) rfl rfl
 .rename_i c a;split at h
  .rename_i y t;cases q:Qc3 T.sl t with
   |false=>grind
   |true=>
    rw[q]at h;simp only[Vm]at h;obtain⟨O,M⟩:=m.sl t (QfU q);split at h
    .rename_i i n k B;cases h;exact QjH M a rfl (QN B)
    .cases h
  .cases h
 .cases h
def stX(T:TyX)(h0 N:Nat)(all:Array Oper)(o:Oper)(env:Env)(H:Qd):Option (Env×Qd):=
 match YJ all o env with
 |none=>none
 |some false=>match o.dst with
  |none=>none
  |some d=>bif Nat.blt d N then some (up env d (.tup []),H)else none
 |some true=>match o.dst with
  |none=>match o.op with
   |.store t x y=>match opB env x,Qbu T.ty.agg t with
    |.mk (.ptr i off),some (_,n)=>match YG H i with
     |some (.cells S cs)=>match opB env y with
      |.mk a=>match fl (Yb a)with
       |.mk vs=>bif Nat.ble h0 H.length&&(Yl a&&(Nat.beq vs.length n&&(vs.all Yq&&Nat.ble (off+n) cs.length)))then(match fl (splice cs off vs)with
        |.mk cs'=>match fb (H.set i (.cells S cs'))with
         |.mk H'=>some (env,H'))else none
     |_=>none
    |_,_=>none
   |_=>none
  |some d=>bif Nat.blt d N then(match o.op with
   |.alloc t=>match Qbu T.al t with
    |some v=>bif Nat.ble h0 H.length then(match fn H 0,fl (Yb v)with
     |.mk n,.mk cs=>match fb (H++[.cells t cs])with
      |.mk H'=>some (up env d (.ptr n 0),H'))else none
    |none=>none
   |.box t x=>match opB env x with
    |.mk a=>bif Nat.ble h0 H.length&&(Yl a&&(Yb a).all Yq)then(match fn H 0,fl (Yb a)with
     |.mk n,.mk cs=>match fb (H++[.cells t cs])with
      |.mk H'=>some (up env d (.ptr n 0),H'))else none
   |_=>match QcV T o env H with
    |some a=>some (up env d a,H)
    |none=>none)else none
section
variable {P:Program} {T:TyX} {h0 N:Nat} {all:Array Oper} {l l':List Oper} {env env':Env} {H H':Qd} {Q:QE}
theorem Qmv(r:QbK P T){o:Oper}(h:stX T h0 N all o env H=some (env',H'))(k:WO P h0 N all l env' H' Q):WO P h0 N all (o::l) env H Q:=by
 unfold stX at h;split at h
 .cases h
 .grind[QJ,WO.skip]
 .rename_i J;have j:=QJ J;split at h
  .rename_i f;split at h
   .rename_i t x y g;split at h
    .rename_i i p b n E u;split at h
     .rename_i S cs hH;rw[Qax]at hH;cases e:opB env y with
      |mk a=>
       rw[e]at h;simp only[Qb1,Qiu]at h;generalize hc:(Nat.ble h0 H.length&&(Yl a&&(Nat.beq (Yb a).length n&&((Yb a).all Yq&&Nat.ble (p+n) cs.length))))=c at h;cases c with
       |false=>cases h
       |true=>
        cases h;simp only[XV]at hc;obtain⟨c1,m,s,G,O⟩:=hc;obtain⟨_,B⟩:=r.ty.agg _ (Qar u);exact Qk1 (by simp_all) j f (OpU.store g (QN E) hH B (QN e) m rfl (by simp_all) G O rfl) k
     .cases h
    .cases h
   .cases h
  .rename_i d f;cases q:Nat.blt d N with
   |false=>grind
   |true=>
    rw[q]at h;simp only[Vm]at h;split at h
    .rename_i t g;split at h
     .rename_i v w;cases c:Nat.ble h0 H.length with
      |false=>grind
      |true=>
       rw[c]at h;simp only[Qb1,Qiu,Qkv,Vm,Xw]at h;cases h;obtain⟨⟨z,V,L⟩,R,F⟩:=r.al _ (Qar w);exact Qh0 (by simp_all) j f q (Qbl V L g R rfl F) k
     .cases h
    .rename_i t x g;cases e:opB env x with
     |mk a=>
      rw[e]at h;simp only[Qb1,Qiu,Qkv,Xw]at h;generalize hc:(Nat.ble h0 H.length&&(Yl a&&(Yb a).all Yq))=c at h;cases c with
      |false=>cases h
      |true=>
       cases h;simp only[XV]at hc;obtain⟨c1,m,s⟩:=hc;exact Qh0 (by simp_all) j f q (OpH.box g (QN e) m rfl s) k
    .split at h
     .rename_i a M;cases h;exact Y5 j f q (Qaq r M) k
     .cases h
end
theorem FA{P:Program}{T f off n:Nat}{fs:Array Field}{a:Field}(g:∀w,(underlying T).run P w=.ok (.struct fs) w)(d:fs[f]?=some a)(e:∀w,(sizeOf a.type).run P w=.ok n w)(h:a.offset=off:=by exact rfl)(h5:n≠0:=by decide):Qae P T f off n:=⟨_,_,g,d,h,e,h5⟩
theorem Qdj:∀(π:List Nat) (H:Qd) (xs:List Blk),π.map (λp=>H[p]?)=xs.map some->QR H π xs=H
 |[],H,xs,h=>by
  simp_all[QR]
 |p::π,H,[],h=>by simp at h
 |p::π,H,x::xs,h=>by
  simp only[Vh,List.cons.injEq]at h;have e:H.set p x=H:=by
   apply List.ext_getElem?
   grind
  unfold QR;rw[e];exact Qdj π H xs h.2
def QiU:A->Option Bx
 |.bool b=>some (.mk (.bool b))
 |.int k n=>some (.mk (.int k n))
 |.str s=>some (.mk (.str s))
 |.rsl k es=>some (.mk (.rsl k es))
 |_=>none
theorem Qlw{v a:A}(h:QiU v=some (.mk a))(ρ:Nat->Nat):YF ρ v=a:=by
 cases v<;>first|(cases h;rfl)|cases h
theorem Pc{P:Program}{h0 N:Nat}{all:Array Oper}{o:Oper}{l:List Oper}{env:Env}{H:Qd}{Q:QE}{d:Nat}{f:FuncId}{args e:List A}{Hc:Qd}{v h:A}(π:List Nat)(i:o.dst=some d)(g:OpC P o env H f args)(j:C P f e Hc (λa H1=>a=v/\H1=Hc))(m:QiU v=some (.mk h))
  (k:WO P h0 N all l (up env d h) H Q)
  (hargs:args=Qag (rho π H.length) e:=by exact rfl)(hH:π.map (λp=>H[p]?)=(Hc.map (QU (rho π H.length))).map some:=by exact rfl)(hπ:π.Nodup:=by decide)
  (hg:QG all o env true:=by exact rfl)(hN:Nat.blt d N=true:=by exact rfl)(hh:Nat.ble h0 H.length=true:=by exact rfl):WO P h0 N all (o::l) env H Q:=by
 refine Qw π g j ?_ hargs hH hπ hg i hN hh
 simp_all[Qlw,Qdj]
theorem Ym{i k:Nat}{es:List (List A)}:∀H:Qd,FzH i k es H H
 |[]=>.nil
 |_::r=>.keep (Ym r)
def foN:Nat->FN
 |0=>.mk 0
 |1=>.mk 1
 |2=>.mk 2
 |3=>.mk 3
 |4=>.mk 4
 |5=>.mk 5
 |6=>.mk 6
 |7=>.mk 7
 |8=>.mk 8
 |9=>.mk 9
 |10=>.mk 10
 |11=>.mk 11
 |12=>.mk 12
 |13=>.mk 13
 |14=>.mk 14
 |15=>.mk 15
 |16=>.mk 16
 |17=>.mk 17
 |18=>.mk 18
 |19=>.mk 19
 |20=>.mk 20
 |21=>.mk 21
 |22=>.mk 22
 |23=>.mk 23
 |24=>.mk 24
 |25=>.mk 25
 |26=>.mk 26
 |27=>.mk 27
 |28=>.mk 28
 |29=>.mk 29
 |30=>.mk 30
 |31=>.mk 31
 |32=>.mk 32
 |33=>.mk 33
 |34=>.mk 34
 |35=>.mk 35
 |36=>.mk 36
 |37=>.mk 37
 |38=>.mk 38
 |39=>.mk 39
 |40=>.mk 40
 |41=>.mk 41
 |42=>.mk 42
 |43=>.mk 43
 |44=>.mk 44
 |45=>.mk 45
 |46=>.mk 46
 |47=>.mk 47
 |n=>.mk n
theorem QfZ(n:Nat):foN n=.mk n:=by unfold foN;split<;>rfl
mutual
def foA:A->Bx
 |.agg cs=>match foL cs with
  |.mk l=>.mk (.agg l)
 |.tup cs=>match foL cs with
  |.mk l=>.mk (.tup l)
 |.fn f a c=>match foL a,foL c with
  |.mk l,.mk l'=>.mk (.fn f l l')
 |.iface t v=>match foA v with
  |.mk v'=>.mk (.iface t v')
 |.ptr i off=>match foN i with
  |.mk i'=>.mk (.ptr i' off)
 |.osl i o n k=>match foN i with
  |.mk i'=>.mk (.osl i' o n k)
 |.map i=>match foN i with
  |.mk i'=>.mk (.map i')
 |a=>.mk a
def foL:List A->FL
 |[]=>.mk []
 |a::r=>match foA a,foL r with
  |.mk a',.mk r'=>.mk (a'::r')
end
mutual
theorem QhH:∀a:A,foA a=.mk a
 |.agg cs=>by unfold foA;rw[Qcd cs]
 |.tup cs=>by unfold foA;rw[Qcd cs]
 |.fn f a c=>by unfold foA;rw[Qcd a,Qcd c]
 |.iface t v=>by unfold foA;rw[QhH v]
 |.ptr i off=>by unfold foA;rw[QfZ]
 |.osl i o n k=>by unfold foA;rw[QfZ]
 |.map i=>by unfold foA;rw[QfZ]
 |.any|.bool _|.int _ _|.str _|.nilp|.rp _|.nils|.rsl _ _|.nilf|.nilif|.nilm=>by rfl
theorem Qcd:∀l:List A,foL l=.mk l
 |[]=>by rfl
 |a::r=>by unfold foL;rw[QhH a,Qcd r]
end
inductive FE2 where
 |mk (l:List (List A))
def foE:List (List A)->FE2
 |[]=>.mk []
 |a::r=>match foL a,foE r with
  |.mk a',.mk r'=>.mk (a'::r')
theorem Qku:∀l,foE l=.mk l
 |[]=>rfl
 |a::r=>by unfold foE;rw[Qcd,Qku r]
def foH:List Blk->FB
 |[]=>.mk []
 |b::r=>match foH r with
  |.mk r'=>match b with
   |.cells t cs=>match foL cs with
    |.mk l=>.mk (.cells t l::r')
   |.rowr t k es=>match foE es with
    |.mk l=>.mk (.rowr t k l::r')
   |.dead=>.mk (.dead::r')
   |.row t k es=>.mk (.row t k es::r')
   |.map es=>.mk (.map es::r')
   |.iter c es=>.mk (.iter c es::r')
   |.fmap es=>.mk (.fmap es::r')
   |.mapO fz t k es=>.mk (.mapO fz t k es::r')
   |.mapP es=>.mk (.mapP es::r')
   |.frow t k es=>.mk (.frow t k es::r')
   |.wins t a n c=>match foN a with
    |.mk a'=>.mk (.wins t a' n c::r')
   |.ents t a b es=>match foN a,foN b with
    |.mk a',.mk b'=>.mk (.ents t a' b' es::r')
theorem Qkt:∀l,foH l=.mk l
 |[]=>rfl
 |b::r=>by
  unfold foH;rw[Qkt r];cases b<;>simp only[Qcd,Qku,QfZ]
def foS(env:Env)(H:Qd):Option (Env×Qd):=
 match foH H with
 |.mk H'=>match env with
  |[]=>some ([],H')
  |(d,a)::e=>match foA a with
   |.mk a'=>some ((d,a')::e,H')
theorem QmX(env:Env)(H:Qd):foS env H=some (env,H):=by
 unfold foS;rw[Qkt];cases env with
 |nil=>rfl
 |cons p e=>obtain⟨d,a⟩:=p;simp only[QhH]
theorem FE{P:Program}{h0 N:Nat}{all:Array Oper}{l:List Oper}{env a:Env}{H H':Qd}{Q:QE}(h:foS env H=some (a,H'))(k:WO P h0 N all l a H' Q):WO P h0 N all l env H Q:=by
 rw[QmX]at h
 grind
theorem R1{P:Program}{h0:Nat}{fn:Func}{env:Env}{H Hc:Qd}{v:A}(s:Nat)(hr:fn.results= #[.tmp s])(hle:Le h0 env H [(s,v)] Hc):Jd P h0 fn (λa H=>a=v/\H=Hc) .ret env H:=
 ⟨[(s,v)],Hc,v,hle,QbL.one hr (by simp_all[lk]),rfl,rfl⟩
theorem R2{P:Program}{h0:Nat}{fn:Func}{env:Env}{H Hc:Qd}{v v':A}(s t:Nat)(hr:fn.results= #[.tmp s,.tmp t])(hn:Nat.beq t s=false)(hle:Le h0 env H [(s,v),(t,v')] Hc):Jd P h0 fn (λa H=>a=.tup [v,v']/\H=Hc) .ret env H:=
 ⟨[(s,v),(t,v')],Hc,_,hle,Qjz hr (by simp_all[lk]) (by simp_all[lk]),rfl,rfl⟩
theorem FzA.o{i k n:Nat}{es:List (List A)}(a:n=es.length:=by first|exact(X0 ..).symm|exact rfl):FzA i k es (.osl i 0 n k) (.rsl k es):=FzA.own a
theorem Le.env{e:Nat}{env d:Env}{H:Qd}(h:∀s,lk d s=.any\/lk d s=lk env s):Le e env H d H:=by
 intro g f σ N a w r;refine⟨f,σ,⟨r.sim,λs=>?_,r.size,r.defers⟩,λ_ q=>q,rfl⟩;rcases h s with h|h
 .rw[h];trivial
 .rw[h];exact r.env s
def Qmr(env:Env):Env->Prop
 |[]=>True
 |(s,a)::r=>lk env s=a/\Qmr env r
theorem Qmr.ok{env:Env}:∀{f:Env},Qmr env f->∀s,lk f s=.any\/lk f s=lk env s
 |[],_,s=>.inl rfl
 |(d,a)::e,⟨h1,h2⟩,s=>by
  by_cases q:s=d
  .simp_all[lk]
  .have:Nat.beq s d=false:=by
    simp_all[VI]
   simp only[lk,this,Vn];exact Qmr.ok h2 s
def ixO(d:Nat)(op:Op)(t:Nat)(pos:String)(af:Array Edge):Oper:={dst:=some d,op:=op,type:=t,pos:=pos,after:=af,guard:=none}
inductive Kf where
 |seq (c:Code)
 |blo (id:Nat)
 |unr (c:Code)
inductive Cf where
 |code (c:Code)
 |ops (all:Array Oper) (l:List Oper)
 |out (x:AEx)
def kq(P:Program)(h0 N:Nat):List Kf->QE->QE
 |[],Q=>Q
 |.seq c::k,Q=>Seq P h0 N c (kq P h0 N k Q)
 |.blo id::k,Q=>Blo id (kq P h0 N k Q)
 |.unr c::k,Q=>Qh1 P h0 N c (kq P h0 N k Q)
@[reducible] def Hd(P:Program)(h0 N:Nat):Cf->List Kf->Env->Qd->QE->Prop
 |.code c,k,env,H,Q=>TC P h0 N c env H (kq P h0 N k Q)
 |.ops all l,k,env,H,Q=>WO P h0 N all l env H (kq P h0 N k Q)
 |.out x,k,env,H,Q=>kq P h0 N k Q x env H
def Qj2(T:TyX)(h0 N:Nat):Cf->List Kf->Env->Qd->Option (Cf×List Kf×Env×Qd)
 |.code (.seq a b),k,env,H=>some (.code a,.seq b::k,env,H)
 |.code (.block id c),k,env,H=>some (.code c,.blo id::k,env,H)
 |.code (.loop c),k,env,H=>some (.code c,.unr c::k,env,H)
 |.code .skip,k,env,H=>some (.out .normal,k,env,H)
 |.code .ret,k,env,H=>some (.out .ret,k,env,H)
 |.code (.exit id),k,env,H=>some (.out (.exit id),k,env,H)
 |.code (.region id ⟨l⟩ false),k,env,H=>some (.ops ⟨l⟩ l,k,env,H)
 |.code (.cond x a b),k,env,H=>match opB env x with
  |.mk (.bool true)=>some (.code a,k,env,H)
  |.mk (.bool false)=>some (.code b,k,env,H)
  |_=>none
 |.ops all [],k,env,H=>some (.out .normal,k,env,H)
 |.ops all (o::l),k,env,H=>match stX T h0 N all o env H with
  |some (env',H')=>some (.ops all l,k,env',H')
  |none=>none
 |.out .normal,.seq c::k,env,H=>some (.code c,k,env,H)
 |.out (.exit i),.seq _::k,env,H=>some (.out (.exit i),k,env,H)
 |.out .ret,.seq _::k,env,H=>some (.out .ret,k,env,H)
 |.out .normal,.blo _::k,env,H=>some (.out .normal,k,env,H)
 |.out (.exit i),.blo id::k,env,H=>match Nat.beq i id with
  |true=>some (.out .normal,k,env,H)
  |false=>some (.out (.exit i),k,env,H)
 |.out .ret,.blo _::k,env,H=>some (.out .ret,k,env,H)
 |.out .normal,.unr c::k,env,H=>some (.code c,.unr c::k,env,H)
 |.out (.exit i),.unr _::k,env,H=>some (.out (.exit i),k,env,H)
 |.out .ret,.unr _::k,env,H=>some (.out .ret,k,env,H)
 |_,_,_,_=>none
def Qco(T:TyX)(h0 N:Nat):Nat->Cf->List Kf->Env->Qd->Option (Cf×List Kf×Env×Qd)
 |0,c,k,env,H=>some (c,k,env,H)
 |n+1,c,k,env,H=>match Qj2 T h0 N c k env H with
  |some (c',k',env',H')=>Qco T h0 N n c' k' env' H'
  |none=>none
section
variable {P:Program} {T:TyX} {h0 N:Nat} {Q:QE}
theorem Qj1(f:QbK P T){c d:Cf}{k e:List Kf}{env a:Env}{H H':Qd}(h:Qj2 T h0 N c k env H=some (d,e,a,H'))(g:Hd P h0 N d e a H' Q):Hd P h0 N c k env H Q:=by
 unfold Qj2 at h;split at h
 .cases h;exact TC.seq g
 .cases h;exact TC.block g
 .cases h;exact Qjx g
 .cases h;exact TC.skip g
 .cases h;exact TC.ret g
 .cases h;exact TC.exit g
 .cases h;exact TC.region g
 .split at h
  .rename_i q;cases h;exact Qk9 (QN q) rfl g
  .rename_i q;cases h;exact Qla (QN q) rfl g
  .cases h
 .cases h;exact WO.nil g
 .grind[Qmv]
 .cases h;exact seqN g
 .cases h;exact seqX g
 .cases h;exact seqR g
 .cases h;exact bloN g
 .split at h
  .rename_i q;cases h;have:=XP q;subst this;exact bloE g
  .rename_i q;cases h;exact bloX q g
 .cases h;exact bloR g
 .cases h;exact unrN g
 .cases h;exact unrX g
 .cases h;exact unrR g
 .cases h
theorem Qcn(hT:QbK P T):∀(n:Nat) {c c':Cf} {k k':List Kf} {env env':Env} {H H':Qd},Qco T h0 N n c k env H=some (c',k',env',H')->Hd P h0 N c' k' env' H' Q->Hd P h0 N c k env H Q
 |0,c,c',k,k',env,env',H,H',h,g=>by cases h;exact g
 |n+1,c,c',k,k',env,env',H,H',h,g=>by
  unfold Qco at h;split at h
  .rename_i e;exact Qj1 hT e (Qcn hT n h g)
  .cases h
theorem Qid{env:Env}{s:Nat}{a:A}(h:lk env s=a):∀t,lk (up env s a) t=lk env t:=by
 intro t;simp[lk];cases q:Nat.beq t s with
 |true=>simp_all
 |false=>rfl
theorem Is{α:Type}{all:Array Oper}{l:List Oper}{env:Env}{H:Qd}{b:Bool}{x y:Option α}{r:α}(s:Nat)(h:(bif b then x else y)=some r)(d:lkB env s=.mk (.bool b))
  (t:b=true->x=some r->WO P h0 N all l (up env s (.bool true)) H Q)(e:b=false->y=some r->WO P h0 N all l (up env s (.bool false)) H Q):WO P h0 N all l env H Q:=by
 have a:=QhD d;cases b with
 |true=>exact WO.le (Le.env λt=>.inr (Qid a t)) (t rfl h)
 |false=>exact WO.le (Le.env λt=>.inr (Qid a t)) (e rfl h)
end
def dstN(o:Oper)(i:Nat):Nat:=match o.dst with|some d=>d|none=>1000000+i
def Qa5:Nat->Nat->List Oper->List Nat
 |0,_,_=>[]
 |_+1,_,[]=>[]
 |m+1,i,o::l=>dstN o i::Qa5 m (i+1) l
def Yd(af:List Nat):Nat->List Nat->List A->Env->Env
 |j,d::ds,x::xs,e=>(d,bif Qc3 af j then x else .any)::Yd af (j+1) ds xs e
 |j,d::ds,[],e=>(d,.any)::Yd af (j+1) ds [] e
 |_,[],_,e=>e
theorem Qe4{l:List Nat}{t:Nat}:Qc3 l t=l.contains t:=by
 induction l with
 |nil=>rfl
 |cons a r d=>
  grind[Qc3,Nat.eq_of_beq_eq_true,Nat.beq_refl]
theorem QiA{af:List Nat}{env0:Env}{s:Nat}:∀(a:List Nat) (xs f:List A) (b:Nat),
  (∃(j:Nat) (x:A),af.contains (b+j)=true/\a[j]?=some s/\(xs++f)[j]?=some x/\lk (Yd af b a xs env0) s=x)\/lk (Yd af b a xs env0) s=.any\/(a.contains s=false/\lk (Yd af b a xs env0) s=lk env0 s):=by
 intro a
 induction a with
 |nil=>intro xs f b;right;right;exact⟨rfl,by rfl⟩
 |cons d a n=>
  intro xs f b;have next:∀(e:List A),(∃(j:Nat) (x:A),af.contains (b+1+j)=true/\a[j]?=some s/\(e++f)[j]?=some x/\lk (Yd af (b+1) a e env0) s=x)->∀m,(∃(j:Nat) (x:A),af.contains (b+j)=true/\(d::a)[j]?=some s/\(m::e++f)[j]?=some x/\lk (Yd af (b+1) a e env0) s=x):=by
   rintro e ⟨j,x,k,g,p,l⟩ m;exact⟨j+1,x,by grind,by grind,by grind,l⟩
  cases xs with
  |nil=>
   cases q:Nat.beq s d with
   |true=>simp_all[Yd,lk]
   |false=>
    have i:s≠d:=λz=>by simp_all
    simp only[Yd,lk,q,Vn];rcases n [] [] (b+1)with⟨j,x,k,g,p,l⟩|h|⟨k,g⟩
    .simp at p
    .grind
    grind
  |cons x xs=>
   cases q:Nat.beq s d with
   |true=>
    have:=XP q;subst this;simp only[Yd,lk,q,Vm];cases c:Qc3 af b with
    |true=>left;exact⟨0,x,by rw[<- Qe4];exact c,rfl,rfl,rfl⟩
    |false=>simp
   |false=>
    have i:s≠d:=λz=>by simp_all
    simp only[Yd,lk,q,Vn];rcases n xs f (b+1)with h|h|⟨k,g⟩
    .exact .inl (next xs h x)
    .grind
    grind
section
variable {P:Program} {T:TyX} {h0 N m:Nat} {l:List Oper} {ds:List Nat} {env:Env} {H:Qd} {Q:QE} {K:List Oper->Env->Qd->Prop}
def DS(P:Program)(N m:Nat)(l:List Oper)(ds:List Nat)(env:Env)(H:Qd)(K:List Oper->Env->Qd->Prop)(r:List Oper)(xs:List A):Prop:=
 r=l.drop xs.length->∃ys,xs.length+ys.length=m/\(∀j,xs.length<=j->j<m->Jm P N l ds (xs++ys) env H.length H.length j H H)/\K (l.drop m) (Qao ds (xs++ys) env) H
theorem oqOf{xs:List A}:∀(c i:Nat),(∀j,i<=j->j<i+c->Jm P N l ds xs env H.length H.length j H H)->Oq P N l ds xs env H i c
 |0,i,_=>.n
 |c+1,i,h=>.c (by grind) (oqOf c (i+1) (by grind))
theorem Qlq{id:Nat}{k:List Kf}(m:Nat)(d:P.follows .mixedOrders=true)(g:Go.Sw.draw0 l m N (Qa5 m 0 l)=true)(a:Nat.ble h0 H.length=true)
  (h:DS P N m l (Qa5 m 0 l) env H (λr e H=>WO P h0 N l.toArray r e H Q) l []):TC P h0 N (.region id l.toArray true) env H Q:=by
 obtain⟨f,n,j,i⟩:=h rfl;exact TC.draw0 m _ f d g (by simp_all) a (oqOf m 0 (by grind)) i
theorem DS.done{xs:List A}{r:List Oper}(a:Nat.beq xs.length m=true)(h:K r (Qao ds xs env) H):DS P N m l ds env H K r xs:=by
 intro g;have e:=XP a;refine⟨[],by simpa using e,λj d f=>by omega,?_⟩
 grind
theorem DS.add{xs:List A}{o:Oper}{r:List Oper}{x:A}(f:Nat.blt xs.length m=true)(h:∀ys,l[xs.length]?=some o->Jm P N l ds (xs++x::ys) env H.length H.length xs.length H H)(k:DS P N m l ds env H K r (xs++[x])):DS P N m l ds env H K (o::r) xs:=by
 intro d;have a:xs.length<l.length:=by
  grind[List.drop_eq_nil_of_le]
 rw[Xp a]at d;cases d;obtain⟨ys,g,e,i⟩:=k (by simp)
 grind
theorem QgM{xs a:List A}{x:A}:(xs++x::a)[xs.length]?=some x:=by simp
theorem DS.wo{xs:List A}{o:Oper}{r:List Oper}{x:A}{d:Nat}(h:WO P H.length N l.toArray [o] (Yd (Qk o) 0 ds xs env) H (YM (up (Yd (Qk o) 0 ds xs env) d x) H))(k:DS P N m l ds env H K r (xs++[x]))
  (a:o.dst=some d:=by exact rfl)(hx:Nat.blt xs.length m=true:=by exact rfl):DS P N m l ds env H K (o::r) xs:=
 .add hx (λe f=>.woE o _ d x f a QgM (he:=by
  intro s;rcases QiA (af:=Qk o) (env0:=env) (s:=s) ds xs (x::e) 0 with⟨j,y,n,p,g,i⟩|q|q
  .grind
  .grind
  grind) (hdd:=Qdv H) (h:=h)) k
theorem DS.v{xs:List A}{o:Oper}{r:List Oper}{x:A}{d:Nat}(h:OpV P o (Yd (Qk o) 0 ds xs env) H x)(k:DS P N m l ds env H K r (xs++[x]))(hg:QG l.toArray o (Yd (Qk o) 0 ds xs env) true:=by exact rfl)
  (hd:o.dst=some d:=by exact rfl)(hN:Nat.blt d N=true:=by exact rfl)(hx:Nat.blt xs.length m=true:=by exact rfl):DS P N m l ds env H K (o::r) xs:=
 .wo (Y5 hg hd hN h (WO.nil YM.mk)) k hd hx
def QcE:List A->A->FL
 |[],x=>.mk [x]
 |a::r,x=>match QcE r x with
  |.mk r'=>.mk (a::r')
theorem Jc:∀(l:List A) (x:A),QcE l x=.mk (l++[x])
 |[],x=>rfl
 |a::r,x=>by unfold QcE;rw[Jc r];rfl
def Qgv(T:TyX)(N m:Nat)(l:List Oper)(ds:List Nat)(env:Env)(H:Qd):Nat->Nat->List Oper->List A->Option (List Oper×List A)
 |0,_,r,xs=>some (r,xs)
 |_+1,_,[],_=>none
 |n+1,i,o::r,xs=>match Nat.blt i m with
  |false=>none
  |true=>match o.dst with
   |none=>none
   |some d=>match Nat.blt d N with
    |false=>none
    |true=>match YJ ⟨l⟩ o (Yd (Qk o) 0 ds xs env)with
     |none=>none
     |some false=>match QcE xs (.tup [])with
      |.mk xs'=>Qgv T N m l ds env H n (i+1) r xs'
     |some true=>match QcV T o (Yd (Qk o) 0 ds xs env) H with
      |none=>none
      |some x=>match QcE xs x with
       |.mk xs'=>Qgv T N m l ds env H n (i+1) r xs'
theorem Qd7(hT:QbK P T):∀(n i:Nat) {r r':List Oper} {xs xs':List A},i=xs.length->Qgv T N m l ds env H n i r xs=some (r',xs')->DS P N m l ds env H K r' xs'->DS P N m l ds env H K r xs
 |0,i,r,r',xs,xs',_,h,k=>by cases h;exact k
 |n+1,i,[],r',xs,xs',_,h,k=>by cases h
 |n+1,i,o::r,r',xs,xs',hi,h,k=>by
  subst hi;unfold Qgv at h;split at h
  .cases h
  .rename_i q1;split at h
   .cases h
   .rename_i d hd;split at h
    .cases h
    .rename_i q2;split at h
     .cases h
     .rename_i hw;simp[Jc]at h;exact .wo (WO.skip (QJ hw) hd q2 (WO.nil YM.mk)) (Qd7 hT n _ (by simp) h k) hd q1
     .rename_i hw;split at h
      .cases h
      .rename_i x hv;simp[Jc]at h;exact .v (Qaq hT hv) (Qd7 hT n _ (by simp) h k) (QJ hw) hd q2 q1
def Qhx:List A->Nat->A->FL
 |[],_,_=>.mk []
 |_::r,0,x=>.mk (x::r)
 |a::r,n+1,x=>match Qhx r n x with
  |.mk r'=>.mk (a::r')
theorem QaU:∀{l:List A} {n:Nat} {x:A},YG l n=some x->Qhx l n x=.mk l
 |[],n,x,h=>by cases h
 |a::r,0,x,h=>by cases h;rfl
 |a::r,n+1,x,h=>by unfold Qhx;rw[QaU (l:=r) h]
theorem DS.is{α:Type}{b:Bool}{x y:Option α}{v:α}{xs d a:List A}{r:List Oper}(j:Nat)(h:(bif b then x else y)=some v)(f:YG xs j=some (.bool b))(g:Qhx xs j (.bool true)=.mk d)(i:Qhx xs j (.bool false)=.mk a)
  (t:b=true->x=some v->DS P N m l ds env H K r d)(e:b=false->y=some v->DS P N m l ds env H K r a):DS P N m l ds env H K r xs:=by
 cases b with
 |true=>simp_all[QaU]
 |false=>simp_all[QaU]
end
@[reducible] def RQ{β:Type}(w:β->A)(Hc:β->Qd)(r:β):A->Qd->Prop:=λa H=>a=w r/\H=Hc r
@[reducible] def Csm{β:Type}(P:Program)(f:FuncId)(args:List A)(H:Qd)(w:β->A)(r:β):Prop:=C P f args H (RQ w (λ_=>H) r)
structure TyZ where
 sl:List (Nat×Nat×Nat)
 fn:List Nat
structure Qb4 (P:Program) (Z:TyZ):Prop where
 sl:∀e∈Z.sl,(∀w,(underlying e.1).run P w=.ok (.slice e.2.1) w)/\ ∀w,(sizeOf e.2.1).run P w=.ok e.2.2 w
 fn:∀f∈Z.fn,∀(a:Array Value) (w:World),(callFunc f a).run P w=.ok (.enter f a) w
section
variable {P:Program} {Z:TyZ} {h0 N:Nat} {all:Array Oper} {o:Oper} {l:List Oper} {env:Env} {H:Qd} {Q:QE} {d:Nat}
theorem Izz(r:Qb4 P Z){α:Type}{e:α->List A}{t n k:Nat}{L:List α}{f:IntKind}{i:Int}{v:α}(h:idx L i=some v)(q:ixB o env=some (d,t,k,L.map e,f,i))(g:WO P h0 N all l (up env d (.rp (e v))) H Q)
  (m:Qbu Z.sl t=some (n,k))(hg:YJ all o env=some true)(j:Nat.blt d N=true):WO P h0 N all (o::l) env H Q:=by
 obtain⟨p,a⟩:=r.sl _ (Qar m);exact Ix h p a q g (QJ hg) j
theorem Ize(p:Qb4 P Z){α:Type}{e:α->List A}{t n k:Nat}{L:List α}{f:IntKind}{i:Int}{v:α}{a:List A}(h:idx L i=some v)(he:e v=a)(q:ixB o env=some (d,t,k,L.map e,f,i))(g:WO P h0 N all l (up env d (.rp a)) H Q)
  (m:Qbu Z.sl t=some (n,k))(hg:YJ all o env=some true)(j:Nat.blt d N=true):WO P h0 N all (o::l) env H Q:=by
 subst he;exact Izz p h q g m hg j
theorem Lmz(m:Qb4 P Z){α:Type}{e:α->List A}{t i k a:Nat}{L:List α}(q:lnB o env=some (d,t,.mk (.rsl k (L.map e))))(g:WO P h0 N all l (up env d (.int .i64 L.length)) H Q)
  (h:Qbu Z.sl t=some (i,a))(hg:YJ all o env=some true)(f:Nat.blt d N=true):WO P h0 N all (o::l) env H Q:=by
 obtain⟨j,n⟩:=m.sl _ (Qar h);exact LnM j q g (QJ hg) f
def Qe6(Z:TyZ)(o:Oper)(env:Env):Option (Nat×Nat×List A):=
 match o.dst with
 |none=>none
 |some d=>match o.op with
  |.call {callee:=.value (.func f),args:=⟨xs⟩,argTypes:=_}=>bif Qc3 Z.fn f then(match fl (QgD env xs)with|.mk ax=>some (d,f,ax))else none
  |.call {callee:=.value (.tmp x),args:=⟨xs⟩,argTypes:=_}=>match opB env (.tmp x)with
   |.mk (.fn (.func f) vf vc)=>bif Qc3 Z.fn f then(match fl (vf++(QgD env xs++vc))with|.mk ax=>some (d,f,ax))else none
   |_=>none
  |_=>none
theorem QdR(j:Qb4 P Z){f:Nat}{args:List A}(h:Qe6 Z o env=some (d,f,args)):o.dst=some d/\OpC P o env H f args:=by
 unfold Qe6 at h;split at h
 .cases h
 .rename_i n g;split at h
  .rename_i a i k e;cases q:Qc3 Z.fn a with
   |false=>grind
   |true=>
    rw[q]at h;simp only[Qb1]at h;cases h;exact⟨g,OpC.fn (j.fn _ (QfU q)) e rfl (Qcu i).symm⟩
  .rename_i x i k e;split at h
   .rename_i a m p l;cases q:Qc3 Z.fn a with
    |false=>grind
    |true=>
     rw[q]at h;simp only[Qb1]at h;cases h;exact⟨g,Qge (j.fn _ (QfU q)) e rfl (QN l) (by rw[Qcu])⟩
   .cases h
  .cases h
theorem Czz(i:Qb4 P Z){β γ:Type}{F:Option β}{F':β->Option γ}{r:γ}{f:Nat}{args a:List A}{Hc:Qd}{w:β->A}(π:List Nat)(h:F.bind F'=some r)(k:∀v,F=some v->C P f a Hc (RQ w (λ_=>Hc) v))
  (e:Qe6 Z o env=some (d,f,args))(g:∀v,F=some v->F' v=some r->WO P h0 N all l (up env d (w v)) H Q)(n:∀v,QiU (w v)=some (.mk (w v)))
  (hargs:args=Qag (rho π H.length) a)(x:π.map (λp=>H[p]?)=(Hc.map (QU (rho π H.length))).map some)(hπ:π.Nodup)(hg:YJ all o env=some true)(t:Nat.blt d N=true)(s:Nat.ble h0 H.length=true):WO P h0 N all (o::l) env H Q:=by
 obtain⟨v,u,j⟩:=YH h;obtain⟨m,q⟩:=QdR (H:=H) i e
 grind[Pc,QJ]
theorem DzZ(B:Qb4 P Z){K:List Oper->Env->Qd->Prop}{m:Nat}{j:List Oper}{e:List Nat}{xs:List A}{β γ:Type}{F:Option β}{F':β->Option γ}{r:γ}{f:Nat}{args a:List A}{Hc:Qd}{w:β->A}(π:List Nat)(h:F.bind F'=some r)(s:∀v,F=some v->C P f a Hc (RQ w (λ_=>Hc) v))
  (i:Qe6 Z o (Yd (Qk o) 0 e xs env)=some (d,f,args))(g:∀v,F=some v->F' v=some r->DS P N m j e env H K l (xs++[w v]))(u:∀v,QiU (w v)=some (.mk (w v)))
  (hargs:args=Qag (rho π H.length) a)(z:π.map (λp=>H[p]?)=(Hc.map (QU (rho π H.length))).map some)(hπ:π.Nodup)(hg:YJ j.toArray o (Yd (Qk o) 0 e xs env)=some true)(y:Nat.blt d N=true)(t:Nat.blt xs.length m=true):DS P N m j e env H K (o::l) xs:=by
 obtain⟨v,n,q⟩:=YH h;obtain⟨k,x⟩:=QdR B i;exact .wo (Pc π k x (s v n) (u v) (WO.nil YM.mk) hargs z hπ (QJ hg) y (by simp)) (g v n q) k t
theorem ln:Qa9 H [] []:=trivial
theorem ls{ax d:List A}{a:A}(k:Qa9 H ax d)(h:Yo a=true:=by exact rfl):Qa9 H (a::ax) (a::d):=⟨.inl ⟨rfl,h⟩,k⟩
theorem lo{ax a:List A}{i n k t:Nat}{es:List (List A)}(d:Qa9 H ax a)(e:H[i]?=some (.row t k es):=by exact rfl)(hn:es.length=n:=by exact X0 ..):Qa9 H (.osl i 0 n k::ax) (.rsl k es::a):=
 ⟨.inr (by grind),d⟩
theorem Cbz(q:Qb4 P Z){β γ:Type}{F:Option β}{F':β->Option γ}{r:γ}{f:Nat}{args a:List A}{w:β->A}(h:F.bind F'=some r)(i:∀v,F=some v->C P f a [] (RQ w (λ_=>[]) v))
  (e:Qe6 Z o env=some (d,f,args))(m:Qa9 H args a)(g:∀v,F=some v->F' v=some r->WO P h0 N all l (up env d (w v)) H Q)(t:∀v,Q6 (w v)=true)
  (hg:YJ all o env=some true)(n:Nat.blt d N=true):WO P h0 N all (o::l) env H Q:=by
 obtain⟨v,p,s⟩:=YH h;obtain⟨j,k⟩:=QdR q e;refine QcF k m (i v p) ?_ ?_ (QJ hg) j n
 .grind
 grind
end
def ixL:List Nat:=[0,1,2,3,4,5,6,7,8,9,10,11,12,13,14,15,16,17,18,19,20,21,22,23,24,25,26,27,28,29,30,31,32,33,34,35,36,37,38,39,40,41,42,43,44,45,46,47,48,49,50,51,52,53,54,55,56,57,58,59,60,61,62,63]
def QhA:List Nat->List Nat->Nat->FN
 |a::r,b::s,j=>bif Nat.beq a j then .mk b else QhA r s j
 |_,_,j=>.mk j
mutual
def cpA(sel:List Nat):A->Bx
 |.ptr i off=>match QhA sel ixL i with
  |.mk j=>.mk (.ptr j off)
 |.osl i o n k=>match QhA sel ixL i with
  |.mk j=>.mk (.osl j o n k)
 |.map i=>match QhA sel ixL i with
  |.mk j=>.mk (.map j)
 |.fn f a c=>match cpL sel a,cpL sel c with
  |.mk a',.mk c'=>.mk (.fn f a' c')
 |a=>.mk a
def cpL(sel:List Nat):List A->FL
 |[]=>.mk []
 |a::r=>match cpA sel a,cpL sel r with
  |.mk a',.mk r'=>.mk (a'::r')
end
inductive FV where
 |mk (e:Env)
def Qki(sel:List Nat)(env:Env):List Nat->Env->FV
 |[],nE=>.mk nE
 |s::r,nE=>match lkB env s with
  |.mk a=>match cpA sel a,Qki sel env r nE with
   |.mk a',.mk e=>.mk ((s,a')::e)
def selH(H:Qd):List Nat->List Nat->List (Nat×Blk)->FB
 |a::r,p::ps,[]=>match YG H a,selH H r ps []with
  |some b,.mk l=>.mk (b::l)
  |none,.mk l=>.mk l
 |a::r,p::ps,(q,b)::n=>bif Nat.beq p q then(match selH H r ps n with|.mk l=>.mk (b::l))else(match YG H a,selH H r ps ((q,b)::n)with
  |some b,.mk l=>.mk (b::l)
  |none,.mk l=>.mk l)
 |_,_,_=>.mk []
def Qjn(sel keep:List Nat)(nE:Env)(nH:List (Nat×Blk))(env:Env)(H:Qd):Option (Env×Qd):=
 match Qki sel env keep nE,selH H sel ixL nH with
 |.mk e,.mk h=>some (e,h)
section
variable {P:Program} {h0 N:Nat} {c:Code} {env:Env} {H:Qd} {Q:QE}
def Qia{β:Type}(h0:Nat)(b:β)(E':β->Env)(H':β->Qd)(Q:QE):QE
 |.normal,env,H=>Le h0 env H (E' b) (H' b)
 |.exit id,env,H=>Q (.exit id) env H
 |.ret,env,H=>Q .ret env H
theorem QbG{h0:Nat}{env:Env}{H:Qd}{Q:QE}{β:Type}{b:β}{E':β->Env}{H':β->Qd}(h:Le h0 env H (E' b) (H' b)):Qia h0 b E' H' Q .normal env H:=h
theorem Ct{β:Type}{E':β->Env}{H':β->Qd}(b:β)(sel keep:List Nat)(nE:β->Env)(nH:β->List (Nat×Blk))(_:∀b,Qjn sel keep (nE b) (nH b) env H=some (E' b,H' b))(h:TC P h0 N c env H (Qia h0 b E' H' Q))(k:∀env H,Le h0 env H (E' b) (H' b)->Q .normal env H):TC P h0 N c env H Q:=
 h.mono λx env' H' q=>by
  cases x with
  |normal=>exact k _ _ q
  |exit id=>exact q
  |ret=>exact q
theorem CtE{S B:Type}{b:Ctl S B}{E':S->Env}{H':S->Qd}(sel keep:List Nat)(nE:S->Env)(nH:S->List (Nat×Blk))(_:∀s,Qjn sel keep (nE s) (nH s) env H=some (E' s,H' s))(h:TC P h0 N c env H (QfI h0 b E' H' Q))(k:∀s env H,b=.cont s->Le h0 env H (E' s) (H' s)->Q .normal env H):TC P h0 N c env H Q:=Qmd E' H' h k
theorem Lp{S B:Type}{step:S->Option (Ctl S B)}{E':S->Env}{H':S->Qd}{m:Nat}{s0:S}{b0:B}(sel keep:List Nat)(nE:S->Env)(nH:S->List (Nat×Blk))(h:iter step m s0=some b0)(_:∀s,Qjn sel keep (nE s) (nH s) env H=some (E' s,H' s))(hI:Le h0 env H (E' s0) (H' s0))
  (body:∀s d,step s=some d->(∀b,d=.done b->b=b0)->TC P h0 N c (E' s) (H' s) (Qa8 (λs env H=>Le h0 env H (E' s) (H' s)) d Q)):TC P h0 N (.loop c) env H Q:=TC.loop E' H' h hI body
end
theorem Oj{S B:Type}{d:Ctl S B}{x b0:B}(hb:∀b,d=.done b->b=b0)(h:some (Ctl.done x)=some d):x=b0:=hb x (Oi h).symm
theorem Rt{P:Program}{a:Nat}{fn:Func}{env:Env}{H:Qd}{β:Type}{e r:β}{w:β->A}{Hc:β->Qd}(h:some e=some r)(s:Nat)(π:List Nat)(d:fn.results= #[.tmp s]:=by exact rfl)(hpre:π.take a=List.range a:=by exact rfl)
  (hH:π.map (λp=>H[p]?)=((Hc e).map (QU (rho π H.length))).map some:=by exact rfl)(hπ:π.Nodup:=by decide)(hE:QbN (rho π H.length) env [(s,w e)]:=by exact⟨rfl,trivial⟩):Jd P a fn (RQ w Hc r) .ret env H:=by
 cases h;exact R1 s d (Lr π hpre hH hπ hE)
theorem Cl{d:Nat}{env:Env}{H:Qd}{Q:QE}{β:Type}{e b:β}{E':β->Env}{H':β->Qd}(h:some e=some b)(π:List Nat)(a:π.take d=List.range d:=by exact rfl)
  (hH:π.map (λp=>H[p]?)=((H' e).map (QU (rho π H.length))).map some:=by exact rfl)(hπ:π.Nodup:=by decide)(hE:QbN (rho π H.length) env (E' e):=by(repeat' (first|exact trivial|refine⟨rfl,?_⟩))):Qia d b E' H' Q .normal env H:=by
 cases h;exact Lr π a hH hπ hE
def plC(cat:List Nat):List (List (Nat×Nat)):=cat.map λc=>match c with|0=>[(0,0)]|1=>[(0,1)]|2=>[(1,1)]|_=>[(0,0),(1,1)]
def rqC(b:Nat)(cat:List Nat):List (List Nat):=cat.map λc=>match c with|2=>[b]|_=>[]
def hsC(cat:List Nat):List Bool:=cat.map λc=>match c with|1=>true|_=>false
section
variable {P:Program} {T:TyX} {h0 N m b:Nat} {cat:List Nat} {l:List Oper} {ds:List Nat} {env:Env} {H H1:Qd} {Q:QE} {K:List Oper->Env->Qd->Prop}
theorem Qgf{P:Program}{N:Nat}{l:List Oper}{ds:List Nat}{xs:List A}{env0:Env}{hB hE:Nat}:∀(ss:List (List (Qd×Qd))) (b:Nat),(∀i s,ss[i]?=some s->∀p∈s,Jm P N l ds xs env0 hB hE (b+i) p.1 p.2)->Qgg P N l ds xs env0 hB hE b ss
 |[],b,h=>.nil
 |s::ss,b,h=>.cons (h 0 s rfl) (Qgf ss (b+1) λi s' hs=>by rw[show b+1+i=b+(i+1)by omega];simp_all)
def Dob(P:Program)(N:Nat)(cat:List Nat)(l:List Oper)(ds:List Nat)(env:Env)(H H1:Qd)(zs:List A)(j:Nat):Prop:=
 ∀p∈(plC cat).getD j [],Jm P N l ds zs env H.length H.length j ([H,H1].getD p.1 []) ([H,H1].getD p.2 [])
def DB(P:Program)(N m:Nat)(cat:List Nat)(l:List Oper)(ds:List Nat)(env:Env)(H H1:Qd)(K:List Oper->Env->Qd->Prop)(r:List Oper)(xs:List A):Prop:=
 r=l.drop xs.length->∃ys,xs.length+ys.length=m/\(∀j,xs.length<=j->j<m->Dob P N cat l ds env H H1 (xs++ys) j)/\K (l.drop m) (Qao ds (xs++ys) env) H1
def DA(P:Program)(N m:Nat)(cat:List Nat)(l:List Oper)(ds:List Nat)(env:Env)(H:Qd)(K:List Oper->Env->Qd->Prop)(r:List Oper)(xs:List A):Prop:=
 r=l.drop xs.length->∃ys H1,xs.length+ys.length=m/\H.length<=H1.length/\(∀j,xs.length<=j->j<m->Dob P N cat l ds env H H1 (xs++ys) j)/\K (l.drop m) (Qao ds (xs++ys) env) H1
theorem Qni{d:List A}(f:cat.length=m)(r:∀j,0<=j->j<m->Dob P N cat l ds env H H1 d j):Qgg P N l ds d env H.length (H.length+0) 0 ((plC cat).map λq=>q.map λp=>([H,H1].getD p.1 [],[H,H1].getD p.2 [])):=by
 refine Qgf _ 0 λi s a p n=>?_;rw[Xo]at a;cases e:(plC cat)[i]? with
 |none=>grind
 |some q=>
  rw[e]at a;cases a;obtain⟨h,g,rfl⟩:=Xe.1 n;have k:i<m:=by
   grind[plC]
  have:=r i (XT _) k h (by grind)
  grind
theorem DA.len(a:H.length<=H1.length):[H,H1].all (λX=>Nat.ble (H.length+0) X.length)=true:=by
 simp_all
theorem Qls{id:Nat}(m b:Nat)(cat:List Nat)(j:P.follows .mixedOrders=true)(n:Qdu l m N (Qa5 m 0 l) (hsC cat) (rqC b cat) [[],[b]] (plC cat)=true)(d:Nat.beq cat.length m=true)(f:Nat.ble h0 H.length=true)
  (h:DA P N m cat l (Qa5 m 0 l) env H (λr e H=>WO P h0 N l.toArray r e H Q) l []):TC P h0 N (.region id l.toArray true) env H Q:=by
 obtain⟨k,H1,q,g,p,i⟩:=h rfl;have a:=XP d;exact Yc m 0 _ _ _ _ _ k [H,H1] H1 j n (by grind) rfl f (DA.len g) (by simp) rfl (Qni a p) (by simp[plC,a]) i
theorem Qa6{xs:List A}{o:Oper}{r:List Oper}(d:o::r=l.drop xs.length):l[xs.length]?=some o/\r=l.drop (xs.length+1):=by
 have a:xs.length<l.length:=by
  grind[List.drop_eq_nil_of_le]
 rw[Xp a]at d
 grind
theorem Qgi{zs:List A}{j c:Nat}(d:YG cat j=some c)(h:∀p∈match c with|0=>[(0,0)]|1=>[(0,1)]|2=>[(1,1)]|_=>[(0,0),(1,1)],Jm P N l ds zs env H.length H.length j ([H,H1].getD p.1 []) ([H,H1].getD p.2 [])):Dob P N cat l ds env H H1 zs j:=by
 intro p a
 grind[Qax,plC]
theorem Qau{hB hE:Nat}{xs a:List A}{o:Oper}{x:A}{d:Nat}{X X':Qd}(f:l[xs.length]?=some o)(hdd:Qan hB hE X X'=true)(h:WO P X.length N l.toArray [o] (Yd (Qk o) 0 ds xs env) X (YM (up (Yd (Qk o) 0 ds xs env) d x) X'))(e:o.dst=some d):
  Jm P N l ds (xs++x::a) env hB hE xs.length X X':=
 .woE o _ d x f e QgM (he:=by
  intro s;rcases QiA (af:=Qk o) (env0:=env) (s:=s) ds xs (x::a) 0 with⟨j,y,k,m,g,i⟩|q|q
  .grind
  .grind
  grind) (hdd:=hdd) (h:=h)
theorem Y1{n:Nat}{X X':Qd}:Qan n n X X'=true:=by unfold Qan;simp
theorem DA.wo{xs:List A}{o:Oper}{r:List Oper}{x:A}{d:Nat}(h:WO P H.length N l.toArray [o] (Yd (Qk o) 0 ds xs env) H (YM (up (Yd (Qk o) 0 ds xs env) d x) H))(k:DA P N m cat l ds env H K r (xs++[x]))
  (u:YG cat xs.length=some 0:=by exact rfl)(hd:o.dst=some d:=by exact rfl)(hx:Nat.blt xs.length m=true:=by exact rfl):DA P N m cat l ds env H K (o::r) xs:=by
 intro g;obtain⟨s,t⟩:=Qa6 g;obtain⟨f,H1,i,e,w,a⟩:=k (by grind);simp[Vg,Vf]at i w a;refine⟨x::f,H1,by grind,e,λj y z=>?_,a⟩;rcases Vy xs.length j with q|q
 .grind
 .obtain rfl:j=xs.length:=by omega
  refine Qgi u λp n=>?_;obtain rfl:=Vx.1 n;exact Qau s Y1 h hd
theorem DA.op{xs:List A}{o:Oper}{r:List Oper}{x:A}{d:Nat}(h:WO P H.length N l.toArray [o] (Yd (Qk o) 0 ds xs env) H (YM (up (Yd (Qk o) 0 ds xs env) d x) H1))(k:DB P N m cat l ds env H H1 K r (xs++[x]))(w:Nat.ble H.length H1.length=true:=by exact rfl)
  (hc:YG cat xs.length=some 1:=by exact rfl)(hd:o.dst=some d:=by exact rfl)(hx:Nat.blt xs.length m=true:=by exact rfl):DA P N m cat l ds env H K (o::r) xs:=by
 intro f;obtain⟨n,s⟩:=Qa6 f;obtain⟨e,g,t,a⟩:=k (by grind);simp[Vg,Vf]at g t a;refine⟨x::e,H1,by grind,(by simp_all),λj u y=>?_,a⟩;rcases Vy xs.length j with q|q
 .grind
 .obtain rfl:j=xs.length:=by omega
  refine Qgi hc λp i=>?_;obtain rfl:=Vx.1 i;exact Qau n Y1 h hd
theorem DB.done{xs:List A}{r:List Oper}(a:Nat.beq xs.length m=true)(h:K r (Qao ds xs env) H1):DB P N m cat l ds env H H1 K r xs:=by
 intro g;have e:=XP a;refine⟨[],by simpa using e,λj d f=>by omega,?_⟩
 grind
theorem DB.add{xs:List A}{o:Oper}{r:List Oper}{x:A}(g:∀ys,l[xs.length]?=some o->Dob P N cat l ds env H H1 (xs++x::ys) xs.length)(k:DB P N m cat l ds env H H1 K r (xs++[x])):DB P N m cat l ds env H H1 K (o::r) xs:=by
 intro a;obtain⟨f,d⟩:=Qa6 a;obtain⟨ys,h,i,e⟩:=k (by grind)
 grind
theorem DB.wo1{xs:List A}{o:Oper}{r:List Oper}{x:A}{d:Nat}(h:WO P H1.length N l.toArray [o] (Yd (Qk o) 0 ds xs env) H1 (YM (up (Yd (Qk o) 0 ds xs env) d x) H1))(k:DB P N m cat l ds env H H1 K r (xs++[x]))
  (f:YG cat xs.length=some 2:=by exact rfl)(hd:o.dst=some d:=by exact rfl):DB P N m cat l ds env H H1 K (o::r) xs:=
 .add (λg e=>Qgi f λp a=>by
  obtain rfl:=Vx.1 a;exact Qau e Y1 h hd) k
theorem DB.wo2{xs:List A}{o:Oper}{r:List Oper}{x:A}{d:Nat}(h:WO P H.length N l.toArray [o] (Yd (Qk o) 0 ds xs env) H (YM (up (Yd (Qk o) 0 ds xs env) d x) H))(f:WO P H1.length N l.toArray [o] (Yd (Qk o) 0 ds xs env) H1 (YM (up (Yd (Qk o) 0 ds xs env) d x) H1))(k:DB P N m cat l ds env H H1 K r (xs++[x]))
  (g:YG cat xs.length=some 3:=by exact rfl)(hd:o.dst=some d:=by exact rfl):DB P N m cat l ds env H H1 K (o::r) xs:=
 .add (λi e=>Qgi g λp a=>by
  rcases X5.1 a with rfl|a
  .exact Qau e Y1 h hd
  .obtain rfl:=Vx.1 a;exact Qau e Y1 f hd) k
def Qgw(T:TyX)(N m:Nat)(cat:List Nat)(l:List Oper)(ds:List Nat)(env:Env)(H:Qd):Nat->Nat->List Oper->List A->Option (List Oper×List A)
 |0,_,r,xs=>some (r,xs)
 |_+1,_,[],_=>none
 |n+1,i,o::r,xs=>match Nat.blt i m,YG cat i with
  |true,some 0=>match o.dst with
   |none=>none
   |some d=>match Nat.blt d N with
    |false=>none
    |true=>match YJ ⟨l⟩ o (Yd (Qk o) 0 ds xs env)with
     |none=>none
     |some false=>match QcE xs (.tup [])with
      |.mk xs'=>Qgw T N m cat l ds env H n (i+1) r xs'
     |some true=>match QcV T o (Yd (Qk o) 0 ds xs env) H with
      |none=>none
      |some x=>match QcE xs x with
       |.mk xs'=>Qgw T N m cat l ds env H n (i+1) r xs'
  |_,_=>none
theorem Qea(hT:QbK P T):∀(n i:Nat) {r r':List Oper} {xs xs':List A},i=xs.length->Qgw T N m cat l ds env H n i r xs=some (r',xs')->DA P N m cat l ds env H K r' xs'->DA P N m cat l ds env H K r xs
 |0,i,r,r',xs,xs',_,h,k=>by cases h;exact k
 |n+1,i,[],r',xs,xs',_,h,k=>by cases h
 |n+1,i,o::r,r',xs,xs',hi,h,k=>by
  subst hi;unfold Qgw at h;split at h
  .rename_i q1 q0;split at h
   .cases h
   .rename_i d hd;split at h
    .cases h
    .rename_i q2;split at h
     .cases h
     .rename_i hw;simp[Jc]at h;exact .wo (WO.skip (QJ hw) hd q2 (WO.nil YM.mk)) (Qea hT n _ (by simp) h k) q0 hd q1
     .rename_i hw;split at h
      .cases h
      .rename_i x hv;simp[Jc]at h;exact .wo (Y5 (QJ hw) hd q2 (Qaq hT hv) (WO.nil YM.mk)) (Qea hT n _ (by simp) h k) q0 hd q1
  .cases h
theorem QlB{H:Qd}{p:Bx}{r:Lx}(h:ptX [] p=some r):ptX H p=some r:=by
 unfold ptX at h⊢
 grind[YG]
theorem QdX{o:Oper}{e:Env}{H:Qd}{x:A}(h:QcV T o e []=some x):QcV T o e H=some x:=by
 unfold QcV at h⊢;split at h<;>first|exact h|skip
 split at h
 .cases h
 grind[QlB]
def Qd9(T:TyX)(N:Nat)(cat:List Nat)(l:List Oper)(ds:List Nat)(env:Env)(H1:Qd):Nat->Nat->List Oper->List A->Option (List Oper×List A)
 |0,_,r,xs=>some (r,xs)
 |_+1,_,[],_=>none
 |n+1,i,o::r,xs=>match o.dst with
  |none=>none
  |some d=>match Nat.blt d N with
   |false=>none
   |true=>match YJ ⟨l⟩ o (Yd (Qk o) 0 ds xs env)with
    |none=>none
    |some false=>match YG cat i with
     |some 2=>(match QcE xs (.tup [])with
      |.mk xs'=>Qd9 T N cat l ds env H1 n (i+1) r xs')
     |some 3=>(match QcE xs (.tup [])with
      |.mk xs'=>Qd9 T N cat l ds env H1 n (i+1) r xs')
     |_=>none
    |some true=>match YG cat i with
     |some 2=>(match QcV T o (Yd (Qk o) 0 ds xs env) H1 with
      |none=>none
      |some x=>match QcE xs x with
       |.mk xs'=>Qd9 T N cat l ds env H1 n (i+1) r xs')
     |some 3=>(match QcV T o (Yd (Qk o) 0 ds xs env) []with
      |none=>none
      |some x=>match QcE xs x with
       |.mk xs'=>Qd9 T N cat l ds env H1 n (i+1) r xs')
     |_=>none
theorem Qbz(hT:QbK P T):∀(n i:Nat) {r r':List Oper} {xs xs':List A},i=xs.length->Qd9 T N cat l ds env H1 n i r xs=some (r',xs')->DB P N m cat l ds env H H1 K r' xs'->DB P N m cat l ds env H H1 K r xs
 |0,i,r,r',xs,xs',_,h,k=>by cases h;exact k
 |n+1,i,[],r',xs,xs',_,h,k=>by cases h
 |n+1,i,o::r,r',xs,xs',hi,h,k=>by
  subst hi;unfold Qd9 at h;split at h
  .cases h
  .rename_i d hd;split at h
   .cases h
   .rename_i q2;split at h
    .cases h
    .rename_i hw;split at h
     .rename_i q0;simp[Jc]at h;exact .wo1 (WO.skip (QJ hw) hd q2 (WO.nil YM.mk)) (Qbz hT n _ (by simp) h k) q0 hd
     .rename_i q0;simp[Jc]at h;exact .wo2 (WO.skip (QJ hw) hd q2 (WO.nil YM.mk)) (WO.skip (QJ hw) hd q2 (WO.nil YM.mk)) (Qbz hT n _ (by simp) h k) q0 hd
     .cases h
    .rename_i hw;split at h
     .rename_i q0;split at h
      .cases h
      .rename_i x hv;simp[Jc]at h;exact .wo1 (Y5 (QJ hw) hd q2 (Qaq hT hv) (WO.nil YM.mk)) (Qbz hT n _ (by simp) h k) q0 hd
     .rename_i q0;split at h
      .cases h
      .rename_i x hv;simp[Jc]at h;exact .wo2 (Y5 (QJ hw) hd q2 (Qaq hT (QdX hv)) (WO.nil YM.mk)) (Y5 (QJ hw) hd q2 (Qaq hT (QdX hv)) (WO.nil YM.mk)) (Qbz hT n _ (by simp) h k) q0 hd
     .cases h
end
def chkF(L:List (Nat×List (Nat×Nat)))(fs:List (Nat×Nat×Nat)):Bool:=
 fs.all λe=>match Qbu L e.1 with
  |some pl=>(match YG pl e.2.1 with
   |some q=>Nat.beq q.1 e.2.2&& !(Nat.beq q.2 0)
   |none=>false)
  |none=>false
theorem PL.get{P:Program}{fs:List Field}{d:List (Nat×Nat)}(h:PL P fs d):∀{f a n:Nat},YG d f=some (a,n)->∃fd,fs[f]?=some fd/\fd.offset=a/\ ∀w,(sizeOf fd.type).run P w=.ok n w:=by
 induction h with
 |nil=>intro f a n h;cases h
 |cons h k g=>
  intro f a n e;cases f with
  |zero=>cases e;grind
  |succ f=>grind[YG]
theorem QmY{P:Program}{L:List (Nat×List (Nat×Nat))}{fs:List (Nat×Nat×Nat)}(p:∀e∈L,QeO P e.1 e.2)(h:chkF L fs=true):∀e∈fs,∃n,Qae P e.1 e.2.1 e.2.2 n:=by
 intro e j;have:=Xs.1 h e j;split at this
 .rename_i u a;split at this
  .rename_i q g;obtain⟨i,n⟩:=q;simp only[XV,Bool.not_eq_true']at this;have f:=XP this.1;obtain⟨m,r,d⟩:=p _ (Qar a);obtain⟨k,t,l,s⟩:=PL.get d g;refine⟨n,⟨⟨_,k,r,by grind,l.trans f,s,?_⟩⟩⟩
   grind[Nat.beq_refl]
  .cases this
 .cases this
section
variable {P:Program} {Z:TyZ} {h0 N:Nat} {all:Array Oper} {o:Oper} {l:List Oper} {env:Env} {H:Qd} {Q:QE} {d:Nat}
theorem Cdz(t:Qb4 P Z){β γ:Type}{F:Option β}{F':β->Option γ}{r:γ}{f:Nat}{args a:List A}{Hc:Qd}{w:β->A}{Hr:β->Qd}(π:List Nat)(h:F.bind F'=some r)(i:∀v,F=some v->C P f a Hc (RQ w Hr v))
  (e:Qe6 Z o env=some (d,f,args))(g:∀v,F=some v->F' v=some r->WO P h0 N all l (up env d (YF (rho π H.length) (w v))) (QR H π ((Hr v).map (QU (rho π H.length)))) Q)
  (hargs:args=Qag (rho π H.length) a)(s:π.map (λp=>H[p]?)=(Hc.map (QU (rho π H.length))).map some)(hπ:π.Nodup)(hg:YJ all o env=some true)(n:Nat.blt d N=true)(m:Nat.ble h0 H.length=true):WO P h0 N all (o::l) env H Q:=by
 obtain⟨v,q,u⟩:=YH h;obtain⟨j,k⟩:=QdR (H:=H) t e;refine Qw π k (i v q) ?_ hargs s hπ (QJ hg) j n m
 grind
end
inductive FLL where
 |mk (l:List (List A))
def cpLL(sel:List Nat):List (List A)->FLL
 |[]=>.mk []
 |a::r=>match cpL sel a,cpLL sel r with
  |.mk a',.mk r'=>.mk (a'::r')
inductive FBk where
 |mk (b:Blk)
def cpBk(sel:List Nat):Blk->FBk
 |.cells t cs=>match cpL sel cs with
  |.mk l=>.mk (.cells t l)
 |.rowr t k es=>match cpLL sel es with
  |.mk l=>.mk (.rowr t k l)
 |.wins t a n c=>match QhA sel ixL a with
  |.mk a'=>.mk (.wins t a' n c)
 |.ents t a b es=>match QhA sel ixL a,QhA sel ixL b with
  |.mk a',.mk b'=>.mk (.ents t a' b' es)
 |b=>.mk b
def selD(H:Qd)(sel:List Nat):List Nat->FB
 |[]=>.mk []
 |a::r=>match YG H a with
  |some b=>(match cpBk sel b,selD H sel r with
   |.mk b',.mk l=>.mk (b'::l))
  |none=>.mk []
def retC(sel sl:List Nat)(env:Env)(H:Qd):Option (Env×Qd):=
 match Qki sel env sl [],selD H sel sel with
 |.mk e,.mk h=>some (e,h)
theorem Rx{P:Program}{e:Nat}{fn:Func}{env E':Env}{H H':Qd}{Qr:A->Qd->Prop}{f:A}(π sl:List Nat)(_:retC π sl env H=some (E',H'))(d:QbL P fn E' H' f)(g:Qr f H')(a:π.take e=List.range e:=by exact rfl)
  (hH:π.map (λp=>H[p]?)=(H'.map (QU (rho π H.length))).map some:=by exact rfl)(hπ:π.Nodup:=by decide)(hE:QbN (rho π H.length) env E':=by(repeat' (first|exact trivial|refine⟨rfl,?_⟩))):Jd P e fn Qr .ret env H:=
 ⟨E',H',f,Lr π a hH hπ hE,d,g⟩
def nxL{T:Type}:List T->T->List T->Prop:=λl x rem=>l=x::rem
def Qio{S T B:Type}(step:S->Option (List T×Ctl S B)):Nat->S->Option (List T×B)
 |0,_=>none
 |n+1,s=>(step s).bind λp=>match p.2 with
  |.cont s'=>(Qio step n s').bind λq=>some (p.1++q.1,q.2)
  |.done b=>some (p.1,b)
section
variable {T:Type} {X:Ctx T} {P:Program} {h0 N:Nat} {c:Code} {env:Env} {H:Qd} {st:YSt T} {Q:Y9 T}
def Qlh{S B:Type}(h0:Nat)(E:S->Env)(Hp:S->Qd)(d:Ctl S B)(rest:List T)(Q:Y9 T):Y9 T
 |.normal,env,H,st=>∃s,d=.cont s/\Le h0 env H (E s) (Hp s)/\st=.on rest
 |.exit id,env,H,st=>Q (.exit id) env H st
 |.ret,env,H,st=>Q .ret env H st
theorem Qjv{S B:Type}{step:S->Option (List T×Ctl S B)}{E:S->Env}{Hp:S->Qd}{m:Nat}{s0:S}{j rem:List T}{b:B}(h:Qio step m s0=some (j,b))(y:Le h0 env H (E s0) (Hp s0))
  (a:∀s zs d rest,step s=some (zs,d)->(∀b',d=.done b'->b'=b/\rest=rem)->TCy X P h0 N c (E s) (Hp s) (.on (zs++rest)) (Qlh h0 E Hp d rest Q)):TCy X P h0 N (.loop c) env H (.on (j++rem)) Q:=by
 refine Qjw (I:=λn env H t=>∃s g,Qio step n s=some (g,b)/\t=.on (g++rem)/\Le h0 env H (E s) (Hp s)) ?_ ⟨s0,j,h,rfl,y⟩;rintro n env H t ⟨s,g,f,rfl,p⟩;cases n with
 |zero=>cases f
 |succ n=>
  obtain⟨⟨zs,d⟩,r,f⟩:=YH f;refine TCy.le p ?_;cases d with
  |cont z=>
   obtain⟨⟨w,G⟩,u,f⟩:=YH f;cases f;rw[Vg];refine(a s zs (.cont z) (w++rem) r (λb' e=>by cases e)).mono ?_;rintro x i H' k q;cases x with
   |normal=>
    obtain⟨F,e,l,rfl⟩:=q;cases e;exact⟨n,Xn n,_,_,u,rfl,l⟩
   |exit id=>exact q
   |ret=>exact q
  |done b'=>
   cases f;refine(a s _ (.done b) rem r (λb' e=>by cases e;exact⟨rfl,rfl⟩)).mono ?_;rintro x i H' k q;cases x with
   |normal=>obtain⟨F,e,_⟩:=q;cases e
   |exit id=>exact q
   |ret=>exact q
def kqY(X:Ctx T)(P:Program)(h0 N:Nat):List Kf->Y9 T->Y9 T
 |[],Q=>Q
 |.seq c::k,Q=>SeqY X P h0 N c (kqY X P h0 N k Q)
 |.blo id::k,Q=>BloY id (kqY X P h0 N k Q)
 |.unr c::k,Q=>λ_ _ _ _=>False
theorem TCy.lf{k:List Kf}(h:TC P h0 N c env H (λx env H=>kqY X P h0 N k Q x env H st)):TCy X P h0 N c env H st (kqY X P h0 N k Q):=TCy.lift h
theorem WOy.y1{all:Array Oper}{o:Oper}{r:List Oper}{d:Nat}{x:T}{l:List T}{e:T->A}{y z:Operand}{f:Array TypeId}(hE:X.enc=λx=>[e x])(i:X.nx=nxL)(j:o.op=.call {callee:=.value y,args:= #[z],argTypes:=f})(a:opA env y=.fn (.yield X.l) [] [])(h:opA env z=e x)(g:Yo (e x)=true)
  (m:WOy X P h0 N all r (up env d (.bool true)) H (.on l) Q)(k:WOy X P h0 N all r (up env d (.bool false)) H (.off l) Q)(hg:QG all o env true:=by exact rfl)(hd:o.dst=some d:=by exact rfl)(hNd:Nat.blt d N=true:=by exact rfl):WOy X P h0 N all (o::r) env H (.on (x::l)) Q:=by
 refine WOy.yield (by rw[i];rfl) hg hd hNd ?_ ?_
 .rw[hE];exact QjV j a h g
 grind
theorem WOy.y2{all:Array Oper}{o:Oper}{r:List Oper}{d:Nat}{x:T}{l:List T}{a g:T->A}{y k j:Operand}{m:Array TypeId}(hE:X.enc=λx=>[a x,g x])(p:X.nx=nxL)(q:o.op=.call {callee:=.value y,args:= #[k,j],argTypes:=m})(n:opA env y=.fn (.yield X.l) [] [])(i:opA env k=a x)(h:opA env j=g x)(f:Yo (a x)=true)(e:Yo (g x)=true)
  (t:WOy X P h0 N all r (up env d (.bool true)) H (.on l) Q)(s:WOy X P h0 N all r (up env d (.bool false)) H (.off l) Q)(hg:QG all o env true:=by exact rfl)(hd:o.dst=some d:=by exact rfl)(hNd:Nat.blt d N=true:=by exact rfl):WOy X P h0 N all (o::r) env H (.on (x::l)) Q:=by
 refine WOy.yield (by rw[p];rfl) hg hd hNd ?_ ?_
 .rw[hE];exact QiS q n i h f e
 grind
end
def yl{T R:Type}(x:T)(k:Option (List T×R)):Option (List T×R):=k.bind λp=>some (x::p.1,p.2)
section
variable {T:Type} {X:Ctx T} {P:Program} {h0 N:Nat} {c c':Code} {env:Env} {H:Qd} {st:YSt T} {Q:Y9 T}
theorem TCy.lp{S B:Type}{step:S->Option (List T×Ctl S B)}{E':S->Env}{H':S->Qd}{m:Nat}{s0:S}{ys rem:List T}{b:B}(sel keep:List Nat)(nE:S->Env)(nH:S->List (Nat×Blk))(h:Qio step m s0=some (ys,b))(_:∀s,Qjn sel keep (nE s) (nH s) env H=some (E' s,H' s))(hI:Le h0 env H (E' s0) (H' s0))
  (body:∀s zs d rest,step s=some (zs,d)->(∀b',d=.done b'->b'=b/\rest=rem)->TCy X P h0 N c (E' s) (H' s) (.on (zs++rest)) (Qlh h0 E' H' d rest Q)):TCy X P h0 N (.loop c) env H (.on (ys++rem)) Q:=Qjv h hI body
end
open Go.MapKept
section
variable {fr ro:Nat->Prop} {σ:Sig} {H:Qd} {w:World}
end
end Go.Sw
namespace Go.Sw
open Go.MapKept
def Qbt{α β:Type}(ek:α->A)(ev:β->List A)(l:List (α×Option (List β))):List (A×Option (List (List A))):=l.map λp=>(ek p.1,p.2.map (List.map ev))
def Qil{α β:Type}[DecidableEq α](l:List (α×Option (List β)))(x:α):List (α×Option (List β)):=l.map λp=>bif decide (p.1=x)then(p.1,none)else p
section
variable {P:Program} {kt:TypeId} {α β:Type} [DecidableEq α] {ek:α->A} {ev:β->List A} {ro:Nat->Prop} {w:World} {t k:Nat} (K:Jk P kt ek)
include K
theorem QiM{x:α}:∀{l:List (α×Option (List β))} {es:List MapEntry},MO ro w t k (Qbt ek ev l) es->MO ro w t k (Qbt ek ev (Qil l x)) es
 |[],es,h=>h
 |p::l,es,h=>by
  obtain⟨e,l',rfl,h1,h2,h3⟩:=h;by_cases q:p.1=x
  .refine⟨e,l',rfl,by grind,λrows hr=>?_,QiM h3⟩
   grind
  .refine⟨e,l',rfl,by grind,(by grind),QiM h3⟩
omit K
theorem Qde{x:α}{c:Nat}:∀{l:List (α×Option (List β))} {es:List MapEntry},QdG (Qbt ek ev (Qil l x)) es c->QdG (Qbt ek ev l) es c
 |[],es,h=>by cases es<;>exact h.elim
 |p::l,[],h=>h.elim
 |p::l,e::es,h=>by
  rcases h with⟨h1,h2⟩|h
  .by_cases q:p.1=x
   .grind
   .exact .inl ⟨by grind,h2⟩
  .exact .inr (Qde h)
theorem QjP{x:α}:∀{l:List (α×Option (List β))} {es:List MapEntry},Qh7 (Qbt ek ev l) es->Qh7 (Qbt ek ev (Qil l x)) es
 |[],es,h=>by cases es<;>trivial
 |p::l,[],h=>trivial
 |p::l,e::es,h=>by
  obtain⟨h1,h2⟩:=h;refine⟨λc q1 q2 q3=>?_,QjP h2⟩;by_cases q:p.1=x
  .grind
  .exact h1 c (by grind) q2 (Qde q3)
include K
theorem MO.find:∀{l:List (α×Option (List β))} {es:List MapEntry},MO ro w t k (Qbt ek ev l) es->∀(x:α),(es.map (·.key)).Nodup->
  ((∀e:MapEntry,e∈es->e.key≠QK (ek x))->YP l x=none)/\
  (∀(j:Nat) (e:MapEntry),es[j]?=some e->e.key=QK (ek x)->∃q,YP l x=some q/\(∀rows,q=some rows->SO ro w t k (rows.map ev) e.val)/\
   ∀c p n cap,q.isSome=true->e.val=.slice (some ⟨c,p,none⟩) n cap->QdG (Qbt ek ev l) es c/\(Qh7 (Qbt ek ev l) es->¬QdG (Qbt ek ev (Qil l x)) es c))
 |[],es,h,x,_=>by
  cases(show es=[]from h);exact⟨λ_=>rfl,(by simp)⟩
 |p::l,es,h,x,hn=>by
  obtain⟨e0,l',rfl,h1,h2,h3⟩:=h;have hk:=VR.val (K.scl _) h1;simp only[Vh,List.nodup_cons]at hn;obtain⟨a1,a2⟩:=MO.find (l:=l) h3 x hn.2;by_cases hp:p.1=x
  .subst hp;constructor
   .grind
   .intro j e he hx;cases j with
    |zero=>
     simp only[XD,Option.some.injEq]at he;subst he;refine⟨p.2,by simp[YP],(by grind),λc p' n cap hs hv=>⟨.inl (by grind),λhd hq=>?_⟩⟩;rcases hq with⟨q1,_⟩|hq
     .simp at q1
     .exact hd.1 c (by grind) ⟨p',n,cap,hv⟩ (Qde (l:=l) hq)
    |succ j=>
     grind
  .have e1:YP (p::l) x=YP l x:=by simp[YP,hp]
   rw[e1];constructor
   .grind
   .intro j e he hx;cases j with
    |zero=>
     simp only[XD,Option.some.injEq]at he;subst he;exact absurd (K.inj _ _ (hk.symm.trans hx)) hp
    |succ j=>
     obtain⟨q,d,f,m⟩:=a2 j e (by grind) hx;refine⟨q,d,f,λc p' n cap hs hv=>?_⟩;obtain⟨a,i⟩:=m c p' n cap hs hv;refine⟨.inr a,λhd hq=>?_⟩;rcases hq with⟨q1,g⟩|hq
     .exact hd.1 c (by grind) g a
     .exact i hd.2 hq
end
section
variable {P:Program} {o:Oper} {env:Env} {H:Qd}
variable {T kt et:Nat} {α β:Type} [DecidableEq α] {ek:α->A} {ev:β->List A} {x y:Operand} {i t k:Nat} {l:List (α×Option (List β))} {key:α} {rows:List β}
end
end Go.Sw
namespace Go.Sw
open Go.MapKept
theorem MO.append{ro:Nat->Prop}{w:World}{t k:Nat}:∀{l m:List (A×Option (List (List A)))} {es fs:List MapEntry},MO ro w t k l es->MO ro w t k m fs->MO ro w t k (l++m) (es++fs)
 |[],m,es,fs,h,q=>by cases(show es=[]from h);exact q
 |p::l,m,es,fs,h,q=>by
  obtain⟨e,l',rfl,h1,h2,h3⟩:=h;exact⟨e,l'++fs,rfl,h1,h2,MO.append h3 q⟩
theorem MO.length{ro:Nat->Prop}{w:World}{t k:Nat}:∀{l:List (A×Option (List (List A)))} {es:List MapEntry},MO ro w t k l es->es.length=l.length
 |[],es,h=>by cases(show es=[]from h);rfl
 |p::l,es,h=>by
  obtain⟨e,l',rfl,h1,h2,h3⟩:=h;simp[MO.length h3]
def SlB(v:Value)(c:Nat):Prop:=∃p n cap,v=.slice (some ⟨c,p,none⟩) n cap
section
variable {P:Program} {kt:TypeId} {α β:Type} [DecidableEq α] {ek:α->A} {ev:β->List A} {ro:Nat->Prop} {w:World} {t k:Nat} (K:Jk P kt ek)
def Qc0{α β:Type}[DecidableEq α](l:List (α×Option (List β)))(x:α)(rows:List β):List (α×Option (List β)):=l.map λp=>bif decide (p.1=x)then(p.1,some rows)else p
include K
theorem Qfl{x:α}{rows:List β}:∀{l:List (α×Option (List β))} {es:List MapEntry},MO ro w t k (Qbt ek ev l) es->(∀e∈es,e.key≠QK (ek x))->Qc0 l x rows=l
 |[],es,h,q=>rfl
 |p::l,es,h,q=>by
  obtain⟨e,l',rfl,h1,h2,h3⟩:=h;have hk:=VR.val (K.scl _) h1;have hp:p.1≠x:=(by grind);have:=Qfl h3 (λe he=>q e (by simp[he])) (rows:=rows)
  simp_all[Qc0]
theorem MO.put{x:α}{rows:List β}{v:Value}(i:SO ro w t k (rows.map ev) v):∀{l:List (α×Option (List β))} {es:List MapEntry} {j:Nat} {e:MapEntry},MO ro w t k (Qbt ek ev l) es->
  (es.map (·.key)).Nodup->es[j]?=some e->e.key=QK (ek x)->
  MO ro w t k (Qbt ek ev (Qc0 l x rows)) (es.modify j λe=>{e with key:=QK (ek x),val:=v})/\
  (∀c,QdG (Qbt ek ev (Qc0 l x rows)) (es.modify j λe=>{e with key:=QK (ek x),val:=v}) c->QdG (Qbt ek ev l) es c\/SlB v c)/\
  (Qh7 (Qbt ek ev l) es->(∀c,QdG (Qbt ek ev l) es c->¬SlB v c)->Qh7 (Qbt ek ev (Qc0 l x rows)) (es.modify j λe=>{e with key:=QK (ek x),val:=v}))
 |[],es,j,e,h,hn,he,hk=>by cases(show es=[]from h);simp at he
 |p::l,es,j,e,h,hn,he,hk=>by
  obtain⟨e0,l',rfl,h1,h2,h3⟩:=h;have hk0:=VR.val (K.scl _) h1;simp only[Vh,List.nodup_cons]at hn;cases j with
  |zero=>
   simp[XD,Option.some.injEq]at he;subst he;have hp:=K.inj _ _ (hk0.symm.trans hk);have e0':Qc0 l x rows=l:=Qfl K h3 λe he z=>hn.1 (by rw[hk, <- z];exact VC he);have e1:Qc0 (p::l) x rows=(p.1,some rows)::l:=by
    have:Qc0 (p::l) x rows=(p.1,some rows)::Qc0 l x rows:=by simp[Qc0,hp]
    rw[this,e0']
   rw[e1];refine⟨⟨_,l',rfl,?_,?_,h3⟩,?_,?_⟩
   .rw[<- hp];exact QcG (K.scl _)
   .intro d B;cases B;exact i
   .rintro c (⟨_,q⟩|q)
    .exact .inr q
    .exact .inl (.inr q)
   .rintro⟨r,f⟩ a;exact⟨λc _ q z=>a c (.inr z) q,f⟩
  |succ j=>
   have hp:p.1≠x:=by
    intro q;refine hn.1 (Xe.2 ⟨e,VD he,?_⟩);rw[hk,hk0,q]
   obtain⟨s,n,u⟩:=MO.put i h3 hn.2 he hk;have e1:Qc0 (p::l) x rows=p::Qc0 l x rows:=by simp[Qc0,hp]
   rw[e1];refine⟨⟨_,_,rfl,h1,h2,s⟩,?_,?_⟩
   .rintro c (q|q)
    .exact .inl (.inl q)
    .exact(n c q).imp .inr id
   .rintro⟨r,f⟩ a;refine⟨λc g m z=>?_,u f λc y=>a c (.inr y)⟩;rcases n c z with z|z
    .exact r c g m z
    .exact a c (.inl ⟨g,m⟩) z
end
section
variable {P:Program} {o:Oper} {env:Env} {H:Qd}
variable {T kt et:Nat} {α β:Type} [DecidableEq α] {ek:α->A} {ev:β->List A} {x y zz:Operand} {i j t k n:Nat} {l m:List (α×Option (List β))} {key:α} {rows:List β}
end
end Go.Sw
namespace Go.Sw
open Go.MapKept
section
variable {fr ro:Nat->Prop} {σ:Sig} {H:Qd} {w:World}
end
section
variable {P:Program} {o:Oper} {env:Env} {H:Qd} {T kt et i t k:Nat} {x:Operand} {es:List (A×Option (List (List A)))}
end
section
variable {P:Program} {o:Oper} {env:Env} {H:Qd}
variable {T kt et:Nat} {α β:Type} [DecidableEq α] {ek:α->A} {ev:β->List A} {x y zz:Operand} {i j t k n:Nat} {l m:List (α×Option (List β))} {key:α} {rows:List β}
end
end Go.Sw
namespace Go.Sw
open Go.MapKept
section
variable {P:Program} {o:Oper} {env:Env} {H:Qd}
variable {T kt et:Nat} {α β:Type} [DecidableEq α] {ek:α->A} {ev:β->List A} {x y zz:Operand} {i j t k n:Nat} {l m:List (α×Option (List β))} {key:α} {rows:List β}
end
end Go.Sw
