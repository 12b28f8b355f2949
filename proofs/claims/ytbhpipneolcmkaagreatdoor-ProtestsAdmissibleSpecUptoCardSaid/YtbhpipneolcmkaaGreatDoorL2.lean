/- The rules by which the code is walked, with what they rest on (part 2). -/
import Derived.Test.YtbhpipneolcmkaaGreatDoorL1
import Derived.Below
import GoSem.ClaimChange
import Derived.Shelf.Strings.Search3
import Derived.Lib.LazyBuf
import Derived.Shelf.Sort.Plain
import Derived.Shelf.Slices.In.SortNone
import Derived.Shelf.Slices.CompactI
import Derived.RangeFuncIn
import Derived.RangeFuncSeq
import Derived.RangeFuncNested
import Derived.Lib.Bytealg
import Derived.Laws.Externs
import Derived.LaidLaws
import Derived.Lib.LaidTab
import Derived.ChangeArms
import Derived.ChangeSame
set_option linter.unusedVariables false
set_option linter.unusedSectionVars false
set_option linter.unusedSimpArgs false
namespace Go.Sw
open Go.Sort Go.Proofs Go.Shelf
theorem QeZ{α:Type}{k:Nat}:∀(vs:List (List α)) (j:Nat),(∀v∈vs,v.length=k)->j<vs.length*k->vs.flatten[j]?=(vs[j/k]?).bind λv=>v[j%k]?
 |[],j,_,h=>by simp at h
 |v::vs,j,hk,h=>by
  have hv:=hk v (by simp);have k0:0<k:=by
   rcases Nat.eq_zero_or_pos k with q|q
   .subst q;simp at h
   .exact q
  rw[Vf];by_cases q:j<k
  .rw[XJ (by omega),Nat.div_eq_of_lt q,Nat.mod_eq_of_lt q];simp
  .rw[XK (by omega),hv,QeZ vs (j-k) (λv hv=>hk v (by simp[hv])) (by simp[Xm]at h;omega)];have d:j/k=(j-k)/k+1:=by rw[Nat.div_eq_sub_div k0 (by omega)]
   have a:j%k=(j-k)%k:=Nat.mod_eq_sub_mod (by omega);rw[d,a,XD]
theorem Qao{α:Type}{k:Nat}:∀(vs:List (List α)),(∀v∈vs,v.length=k)->vs.flatten.length=vs.length*k
 |[],_=>by simp
 |v::vs,h=>by rw[Vf,XY,Qao vs (λv hv=>h v (by simp[hv])),h v (by simp),XW,Xm];omega
theorem Qbm{α:Type}(F:List α)(j:Nat):F.toArray[j]?=F[j]? :=by simp
theorem Qge{α:Type}[Inhabited α](F:List α)(j:Nat)(h:j<F.length):F[j]?=some (F.toArray[j]!):=by simp[h]
theorem Qj0{β:Type}[Inhabited β]{enc:β->List Value}{k:Nat}(f:∀x,(enc x).length=k)(d:Array β):flatK enc k d=((d.toList.map enc).flatten).toArray:=by
 have a:∀v∈d.toList.map enc,v.length=k:=by
  intro v i;obtain⟨x,_,rfl⟩:=Xf.1 i;exact f x
 apply Array.ext_getElem?;intro t;rw[Qbm ((d.toList.map enc).flatten) t];by_cases h:t<d.size*k
 .rw[QeZ _ t a (by simpa using h)];have j:0<k:=by
   rcases Nat.eq_zero_or_pos k with q|q
   .subst q;simp at h
   .exact q
  have h1:=Nat.div_lt_of_lt_mul (by rw[Nat.mul_comm];exact h);have l:t%k<k:=Nat.mod_lt _ j;have g:t<(flatK enc k d).size:=by simpa using h
  have e:=get_flatK enc k d t h;rw[getElem!_pos (flatK enc k d) t g]at e;rw[Array.getElem?_eq_getElem g,e];simp[h1];rw[XH (by rw[f];exact l)];rfl
 .have e:(d.toList.map enc).flatten.length=d.size*k:=by rw[Qao _ a];simp
  rw[Array.getElem?_eq_none (by simpa using h),XL (by omega)]
section
variable {ro:Nat->Prop} {σ:Sig} {w:World} {T:Type} {enc:T->List A} {k:Nat}
theorem RL.parts:∀{l:List T} {lv:List Value},RL ro σ w k (l.map enc) lv->
  ∃(ps:List (T×List Value)) (rest:List Value),ps.map (·.1)=l/\lv=(ps.map (·.2)).flatten++rest/\ ∀p∈ps,p.2.length=k/\LR ro σ w (enc p.1) p.2/\ ∀v∈p.2,Qz v
 |[],lv,_=>⟨[],lv,rfl,rfl,by simp⟩
 |x::l,lv,h=>by
  obtain⟨l1,l2,rfl,h1,⟨h2,h3⟩,h4⟩:=h;obtain⟨ps,rest,e1,rfl,h5⟩:=RL.parts h4;refine⟨(x,l1)::ps,rest,by simp[e1],by simp,?_⟩;intro p hp;rcases X0.1 hp with rfl|hp
  .exact⟨by rw[h2.length];exact h1,h2,h3⟩
  .exact h5 p hp
theorem Qcq(hk:∀x,(enc x).length=k):∀{ps:List (T×List Value)} {rest:List Value},(∀p∈ps,LR ro σ w (enc p.1) p.2/\ ∀v∈p.2,Qz v)->RL ro σ w k ((ps.map (·.1)).map enc) ((ps.map (·.2)).flatten++rest)
 |[],_,_=>trivial
 |p::ps,rest,h=>by
  refine⟨p.2,(ps.map (·.2)).flatten++rest,by simp,hk _,h p (by simp),Qcq hk λq hq=>h q (by simp[hq])⟩
end
structure Elt (ro:Nat->Prop) (w:World) {T:Type} (enc:T->List A) (k:Nat) (l:List T) where
 x:T
 vs:List Value
 mem:x∈l
 len:vs.length=k
 rel:LR ro [] w (enc x) vs
 plain:∀v∈vs,Qz v
theorem Qhx{v:Value}(h:Qz v):v.oneCell'=true:=by cases v<;>first|rfl|exact h.elim
theorem QqK{P:Program}{ρ:Ren}(L:SlLaysF0.n6 P ρ){T:Type}[DecidableEq T]{enc:T->List A}{k t g:Nat}{cap:List A}{l l':List T}{cf:T->T->Option Int}(hs:Qb7 cf l=some l')
  (a4:∀x y c,cf x y=some c->C P g ([.agg (enc x),.agg (enc y)]++cap) [] (λa H=>a=.int .i64 c/\H=[]))
  (aE:∀w,(isAgg (ρ.t 24)).run P w=.ok true w)(zE:∀w,(Go.sizeOf (ρ.t 24)).run P w=.ok k w)(eg:∀args w,(callFunc g args).run P w=.ok (.enter g args) w)
  (hk:∀x,(enc x).length=k)(hd:Yu cap=true):
  C P (ρ.f 6) [.osl 0 0 l.length k,.fn (.func g) [] cap] [.row t k (l.map enc)] (λa H=>a=.tup []/\H=[.row t k (l'.map enc)]):=by
 intro fr G σ vals w s hv;obtain⟨vs,r1,rfl,be,vf,r2,rfl,bp,hr⟩:=hv;cases(show r2=[]from hr);obtain⟨lf,lc,rfl,h1,az⟩:=bp;cases(show lf=[]from h1);have aw:LR G [] w cap lc:=LR.data hd az;obtain⟨a6,aj,R,av,a0⟩:=Qdq hs;have E:∀(ad:Option Addr) (c:Nat),vs=.slice ad 0 c->l=[]->
   Calls P (ρ.f 6) [vs,.func (.func g) #[] lc.toArray].toArray w λe w'=>∃v r H' ae τ,e=.returned v/\(r=.tup []/\H'=[.row t k (l'.map enc)])/\Sim fr ae (σ++τ) H' w'/\VR ae (σ++τ) w' r v/\Qk fr G w ae w':=by
  rintro ad c rfl rfl;have ag:l'=[]:=by rw[<- a0];rfl
  subst ag;refine(AnyF.slices_SortFunc_none L ad c (.func (.func g) #[] lc.toArray) w).mono ?_;rintro e w' ⟨rfl,rfl⟩;exact⟨_,_,_,G,[],rfl,⟨rfl,rfl⟩,by simpa using s,⟨[],rfl,rfl⟩,Qk.refl _ _ _⟩
 rcases be with⟨h0,rfl⟩|⟨b,p,cp,t',m,q1,rfl,q2,⟨q3,br⟩,q4,q5⟩
 .exact E none 0 rfl (VD.1 h0)
 .by_cases ag:l=[]
  .subst ag;exact E _ cp rfl rfl
  .have bm:0<l.length:=List.length_pos_iff.2 ag;obtain rfl:=q2 (X9 bm q3);obtain⟨lv,e1,e2⟩:=s.blk 0 _ _ q1 rfl;obtain⟨hb,am,bc⟩:=s.own 0 b _ q1 rfl rfl;obtain⟨V,J,a3,rfl,af⟩:=RL.parts e2
   let α:=Elt G w enc k l
   have a2:∀p∈V,p.1∈l:=λp hp=>by rw[<- a3];exact VA hp
   let ds:List α:=V.attach.map λp=>⟨p.1.1,p.1.2,a2 _ p.2,(af _ p.2).1,(af _ p.2).2.1,(af _ p.2).2.2⟩
   have a5:∀{γ:Type} (f:T×List Value->γ),V.attach.map (λp=>f p.1)=V.map f:=λf=>by simp
   have N:ds.map (·.x)=l:=by
    show(V.attach.map _).map _=_;rw[List.map_map];exact(a5 (·.1)).trans a3
   have ai:ds.map (·.vs)=V.map (·.2):=by
    show(V.attach.map _).map _=_;rw[List.map_map];exact a5 (·.2)
   have ar:ds.length=l.length:=by rw[<- N];simp
   have a1:ds≠[]:=by intro q;rw[q]at ar;simp at ar;omega
   let inh:Inhabited α:=⟨ds.head a1⟩
   let enc':α->List Value:=λa=>a.vs
   let cf':α->α->Int:=λx y=>(cf x.x y.x).getD 0
   have ac:∀x y:α,ltOf cf' x y=ltO cf x.x y.x:=by
    intro x y;obtain⟨c,B⟩:=aj x.x x.mem y.x y.mem;simp only[ltOf,ltO,cf',B,Option.getD_some]
   have hO:SWO (ltOf cf'):=⟨λx=>by rw[ac];exact R.irrefl _ x.mem,λx y z a b=>by rw[ac]at*;exact R.trans _ x.mem _ y.mem _ z.mem a b,
    λx y z a b=>by rw[ac]at*;exact R.ntrans _ x.mem _ y.mem _ z.mem a b⟩
   have Y:∀x:α,(enc' x).length=k:=λx=>x.len;have ao:flatK enc' k ds.toArray=((V.map (·.2)).flatten).toArray:=by
    rw[Qj0 Y];show((ds.map λa=>a.vs).flatten).toArray=_;rw[ai]
   have bg:∀v∈V.map (·.2),v.length=k:=by
    intro v hv;obtain⟨p,hp,rfl⟩:=Xf.1 hv;exact(af p hp).1
   have ab:(V.map (·.2)).flatten.length=ds.length*k:=by rw[Qao _ bg, <- ai];simp
   have hH:HoldsK enc' k w b (0*k) ds.toArray:=by
    intro j hj;rw[ao]at hj⊢;simp only[List.size_toArray]at hj;constructor
    .unfold World.cell?;simp only[e1,Option.isSome_none,Xj,if_false,Nat.zero_mul,Xu];rw[Qbm,XJ hj];exact Qge _ _ hj
    .unfold World.frozen?;simp only[e1];simp
   have au:∀(d:Array α),d.size=ds.toArray.size->(putRowK enc' k w b (0*k) d).heap=w.heap.setIfInBounds b (.cells (((d.toList.map enc').flatten++J)).toArray t (0,0)):=by
    intro d u;have ah:(d.toList.map enc').flatten.length=(V.map (·.2)).flatten.length:=by
     rw[Qao _ (k:=k) (by intro v hv;obtain⟨x,_,rfl⟩:=Xf.1 hv;exact Y x),ab];simp at u⊢;rw[u]
    unfold putRowK putRow mapBlock;show w.heap.modify b _=_;rw[Qbs e1];simp only[onCells];congr 2;rw[Qj0 Y];unfold putCells;apply Array.ext_getElem?;intro i;simp only[Array.getElem?_mapIdx,Qbm,Nat.zero_mul,XR,true_and,Xu,Nat.sub_zero,List.size_toArray,id_eq];by_cases hi:i<(d.toList.map enc').flatten.length
    .rw[XJ hi,XJ (by rw[<- ah];exact hi),XH (by rw[<- ah];exact hi),Qge _ _ hi];exact congrArg some (Vm hi)
    .rw[XK (by omega),XK (by omega),ah];cases(J[i-(V.map (·.2)).flatten.length]?)with
     |none=>rfl
     |some v=>
      rw[<- ah];exact congrArg some (Vl hi)
   have O:∀(m:Nat) (os:Array Obj) (d:Array α),d.size=ds.toArray.size->
     (∀c,c<w.heap.size->c≠b->(sortWorldK enc' k w b (0*k) m d os).heap[c]?=w.heap[c]?)/\(sortWorldK enc' k w b (0*k) m d os).heap[b]?=some (.cells (((d.toList.map enc').flatten++J)).toArray t (0,0))/\
     w.heap.size<=(sortWorldK enc' k w b (0*k) m d os).heap.size:=by
    intro m os d u;have e:(sortWorldK enc' k w b (0*k) m d os).heap=w.heap.setIfInBounds b (.cells (((d.toList.map enc').flatten++J)).toArray t (0,0))++os:=by
     rw[<- au d u];rfl
    rw[e];refine⟨λc B bq=>?_,?_,by simp⟩
    .rw[Array.getElem?_append_left (by simpa using B),X8,Vl (λq=>bq q.symm)]
    .rw[Array.getElem?_append_left (by simpa using hb),X8,Vm rfl,Vm hb]
   have Q:∀(m:Nat) (os:Array Obj) (d:Array α),d.size=ds.toArray.size->∀c y,w.shape? c=some y->(sortWorldK enc' k w b (0*k) m d os).shape? c=some y:=by
    intro m os d u c y hy;obtain⟨g1,g2,g3⟩:=O m os d u;by_cases B:c=b
    .subst B;unfold World.shape? at hy⊢;rw[e1]at hy;rw[g2];simp only[Option.some.injEq]at hy⊢;rw[<- hy];congr 1;simp only[List.size_toArray,XY];rw[Qao _ (k:=k) (by intro v hv;obtain⟨x,_,rfl⟩:=Xf.1 hv;exact Y x),ab];simp at u⊢;rw[u]
    .unfold World.shape? at hy⊢;rw[g1 c (Qjo hy) B];exact hy
   have al:∀(m:Nat) (os:Array Obj) (d:Array α),d.size=ds.toArray.size->∀τ,Ext G τ w G τ (sortWorldK enc' k w b (0*k) m d os):=by
    intro m os d u τ;obtain⟨g1,g2,g3⟩:=O m os d u;exact⟨λ_ q=>q,λc B=>g1 c (s.roLt c B) (λq=>am (q▸B)),Q m os d u,λ_ _ q=>q⟩
   have bi:CmpLays P g lc.toArray enc' k cf' b (0*k) ds.toArray.size w:=by
    intro m os dk a8 x y;obtain⟨c,B⟩:=aj x.x x.mem y.x y.mem;have F:=al m os dk a8 [];have bd:=a4 _ _ _ B;generalize hW:sortWorldK enc' k w b (0*k) m dk os=W at*;have bh:w.heap.size<=W.heap.size:=by rw[<- hW];exact(O m os dk a8).2.2
    have sW:Sim (λc=>c<W.heap.size/\ ¬G c) G [] [] W:=
     ⟨rfl,s.roOk.to (λ_ q=>q) F.keep (λc B=>X9 (s.roLt c B) bh),λc B=>B.1,λc B hf=>hf.2 B,λi b x h=>by simp at h,λi j b x y h=>by simp at h,λi y x h=>by simp at h,λi b x c h=>by simp at h⟩
    have aq:LR G [] W ([.agg (enc x.x),.agg (enc y.x)]++cap) ([.agg x.vs.toArray,.agg y.vs.toArray]++lc):=
     LR.append (show LR G [] W [A.agg (enc x.x),A.agg (enc y.x)] [Value.agg x.vs.toArray,Value.agg y.vs.toArray]from⟨_,_,rfl,⟨x.vs,rfl,x.rel.mono F⟩,_,_,rfl,⟨y.vs,rfl,y.rel.mono F⟩,rfl⟩) (aw.mono F)
    have M:=bd _ G [] _ W sW aq;have bn:(([Value.agg x.vs.toArray,Value.agg y.vs.toArray]++lc).toArray:Array Value)= #[Value.agg (enc' x).toArray,Value.agg (enc' y).toArray]++lc.toArray:=by simp[enc']
    rw[bn]at M;refine M.mono ?_;rintro e w' ⟨v,r,H',ae,τ,rfl,⟨rfl,rfl⟩,s',bo,ev⟩;refine⟨?_,?_⟩
    .rw[show v=.int .i64 c from bo];simp only[cf',B,Option.getD_some]
    .refine Qmv (λc B=>?_) ev.size ev.os ev.tape ev.output ev.drawn;by_cases bb:G c
     .exact ev.keepRo c bb
     .exact ev.keepFr c ⟨B,bb⟩
   have aa:ds.toArray.size=l.length:=by simpa using ar
   have ak:=AnyQ.slices_SortFunc L k aE zE enc' Y (λx v hv=>Qhx (x.plain v hv)) cf' hO g lc.toArray b (0*k) cp ds.toArray w eg bi hH hb (by rw[aa];unfold QC at a6;omega);rw[aa]at ak;refine ak.mono ?_;rintro e w' ⟨rfl,d,n,os,X,ax,rfl⟩;have u:d.size=ds.toArray.size:=X.1;obtain⟨g1,g2,g3⟩:=O n os d u;have ay:d.toList.Perm ds:=by
    have h:=X.2.2;have x1:d.extract 0 l.length=d:=by rw[<- aa, <- u];exact Array.extract_size
    have x2:ds.toArray.extract 0 l.length=ds.toArray:=by rw[<- aa];exact Array.extract_size
    rw[x1,x2]at h;simpa using h
   have a7:d.toList.map (·.x)=l':=by
    rw[<- a0];refine JO (lt:=ltO cf) ?_ ?_ ?_ (Q2 R)
    .exact((ay.map (·.x)).trans (by rw[N])).trans (Qu _ _).symm
    .intro x hx y hy;have bf:x∈l:=by rw[<- N];exact(ay.map (·.x)).mem_iff.1 hx
     have bk:y∈l:=by rw[<- N];exact(ay.map (·.x)).mem_iff.1 hy
     exact av x bf y bk
    .rw[Vy];intro i j hi hj bl;simp only[XX]at hi hj;simp only[List.getElem_map];rw[<- ac];have:=ax i j (XR _) bl (by rw[<- aa, <- u];simpa using hj);rw[getElem!_pos d j (by simpa using hj),getElem!_pos d i (by simpa using hi)]at this;simpa using this
   have bj:RL G [] (sortWorldK enc' k w b (0*k) n d os) k (l'.map enc) ((d.toList.map enc').flatten++J):=by
    have e3:d.toList.map enc'=(d.toList.map λa=>(a.x,a.vs)).map (·.2):=by simp[enc']
    have e4:l'=(d.toList.map λa=>(a.x,a.vs)).map (·.1):=by rw[<- a7];simp
    rw[e3,e4];refine Qcq hk ?_;intro p hp;obtain⟨a,_,rfl⟩:=Xf.1 hp;exact⟨a.rel.mono (al n os d u []),a.plain⟩
   have ba:Qk fr G w G (sortWorldK enc' k w b (0*k) n d os):=
    ⟨λ_ q=>q,λc B=>g1 c (s.roLt c B) (λq=>am (q▸B)),λc B=>g1 c (s.frLt c B) (λq=>bc (q▸B)),g3,Q n os d u,rfl,rfl,rfl,Nat.le_add_right _ _⟩
   have an:σ.length=1:=s.len;have a9:Sim fr G σ [.row t k (l'.map enc)] (sortWorldK enc' k w b (0*k) n d os):=by
    have i0:∀{i:Nat} {x:Blk},([.row t k (l'.map enc)]:Qb)[i]?=some x->i=0/\x=.row t k (l'.map enc):=by
     intro i x h;cases i with
     |zero=>simp at h;exact⟨rfl,h.symm⟩
     |succ i=>simp at h
    refine⟨an,s.roOk.to (λ_ q=>q) ba.keepRo (λc B=>X9 (s.roLt c B) g3),λc B=>X9 (s.frLt c B) g3,s.roFr,λi c x h1 h2 h3=>?_,λi j c x y h1 h2 h3 h4 _ _=>?_,λi y x h1 h2=>?_,λi b x c h1 h2 h3=>by obtain⟨rfl,rfl⟩:=i0 h2;exact h3.elim⟩
    .obtain⟨rfl,rfl⟩:=i0 h2;obtain⟨p1,p2⟩:=s.own 0 c _ h1 rfl rfl;exact⟨X9 p1 g3,p2⟩
    .rw[(i0 h3).1,(i0 h4).1]
    .obtain⟨rfl,rfl⟩:=i0 h2;rw[q1]at h1;cases h1;exact⟨_,g2,bj⟩
   exact⟨_,_,_,G,[],rfl,⟨rfl,rfl⟩,by simpa using a9,⟨[],rfl,rfl⟩,ba⟩
end Go.Sw
namespace Go.Sw
section
variable {P:Program} {o:Oper} {env:Env} {H:Qb} {fr ro:Nat->Prop} {σ:Sig} {w:World}
theorem Sim.addRo(s:Sim fr ro σ H w){b:Nat}(f:b<w.heap.size)(h:¬fr b)(k:∀(i:Nat) (x:Blk),σ[i]?=some (some b)->H[i]?=some x->x.live=true->False)
  (n:∀(i d:Nat) (x:Blk),σ[i]?=some (some d)->H[i]?=some x->Hid w x d b->False):Sim fr (λc=>ro c\/c=b) σ H w:=by
 refine⟨s.len,s.roOk.to (λ_ q=>.inl q) (λ_ _=>rfl) ?_,s.frLt,?_,?_,s.inj,?_,s.hidTo (· = ·) Q9 (XQ _) (by grind) (by simp) (by grind)⟩
 .rintro c (q|rfl)
  .exact s.roLt c q
  .exact f
 .rintro c (q|rfl)
  .exact s.roFr c q
  .exact h
 .intro i c x a e g;obtain⟨j,l,m⟩:=s.own i c x a e g
  grind
 .intro i y x a e;exact(s.blk i y x a e).keep ⟨λ_ q=>.inl q,λ_ _=>rfl,λ_ _ q=>q,λ_ _ q=>q⟩ (λ_ _ _=>rfl) (λ_ _ _ _=>rfl)
theorem Q5{T e k n:Nat}{xs:List Operand}{es:List (List A)}(E:Q1 P T e k)(R:o.op=.buildSlice T n (Qai 0 xs).toArray)(M:xs.length=n)(u:Nat.ble (n*k) 16777216=true)
  (V:(xs.all λx=>Yr (opA env x))=true)(y:QY env xs=es)(J:allK k es)(Y:es.flatten.all Yz=true)(hd:Yu es.flatten=true):
  OpH P o env H (.rsl k es) H:=by
 intro Q s σ N a w r;subst y;obtain⟨l,O,L⟩:=J1 r E M u V J;have G:LR s [] w (QY env xs).flatten l:=L.data hd;have f:∀b,b<w.heap.size->(w.alloc (.cells l.toArray e)).heap[b]?=w.heap[b]? :=λb W=>Yl _ _ b W;have p:w.heap.size<=(w.alloc (.cells l.toArray e)).heap.size:=by simp
 have X:=r.sim.grown f p;have h:Qk Q s w s (w.alloc (.cells l.toArray e)):=Qk.alloc _ r.sim.roLt r.sim.frLt;have s2:=X.addRo (by simp) (λq=>Nat.lt_irrefl _ (r.sim.frLt _ q)) (λi x g m B=>Nat.lt_irrefl _ (r.sim.own i _ x g m B).1)
  (λi d x g m B=>Nat.lt_irrefl _ (r.sim.hid i d x _ g m (r.sim.hidKeep g m (λz=>f d (r.sim.own i d x g m z).1) (λb q=>f b (r.sim.roLt b q)) B)).lt)
 have F:RL s [] (w.alloc (.cells l.toArray e)) k (QY env xs) l:=by
  have:=Jt (rest:=[]) J (G.mono (h.ext0 [])) (L.plain Y)
  grind
 have t:(QY env xs).length=n:=by simp[QY,M]
 refine⟨_,_,λc=>s c\/c=w.heap.size,[],JK R a.eval O,(⟨some ⟨w.heap.size,0,none⟩,n,by rw[t],by omega,.inr ⟨w.heap.size,0,rfl,.inr rfl,?_⟩⟩),by grind,h.trans (YQ λ_ q=>.inl q)⟩;have j:(w.alloc (.cells l.toArray e)).heap[w.heap.size]?=some (.cells ([]++l).toArray e (0,0)):=Yn _ _;have:=Y5 j F;exact this.keep ⟨λ_ q=>.inl q,λ_ _=>rfl,λ_ _ q=>q,λ_ _ q=>q⟩ rfl
end
inductive Ql1:List A->List A->Prop
 |nil:Ql1 [] []
 |eq {a:A} {l m:List A} (h:Ql1 l m):Ql1 (a::l) (a::m)
 |nl {k:Nat} {l m:List A} (h:Ql1 l m):Ql1 (.nils::l) (.rsl k []::m)
theorem LR.nils{ro:Nat->Prop}{σ:Sig}{w:World}{g i:List A}(h:Ql1 g i):∀{l:List Value},LR ro σ w g l->LR ro σ w i l:=by
 induction h with
 |nil=>simp
 |eq _ ih=>rintro l ⟨v,f,e,a,d⟩;exact⟨v,f,e,a,ih d⟩
 |nl _ ih=>rintro l ⟨v,f,e,a,d⟩;exact⟨v,f,e,⟨none,0,a,XQ _,.inl rfl⟩,ih d⟩
theorem C.nils{P:Program}{f:FuncId}{l1 bs:List A}{H:Qb}{Q:A->Qb->Prop}(hl:Ql1 l1 bs)(h:C P f bs H Q):C P f l1 H Q:=
 λfr ro σ vals w s l=>h fr ro σ vals w s (LR.nils hl l)
def Qs(k:IntKind)(n:Int):Prop:=k.min<=n/\n<=k.max
def Qe8(w:World):Nat->Prop:=λb=>b<w.heap.size
structure QpG {H:Type} (μ:DataW H->Nat):Prop where
 str:∀bytes,bytes.length<=μ (.lit (.string bytes))
 sl:∀e s,e.length<=μ (.slice e s)
 sle:∀e s,∀d∈e,μ d<=μ (.slice e s)
 ag:∀ps,∀d∈ps,μ d<=μ (.agg ps)
def RB(P:Program)(n:Nat)(t:TypeId)(T:Type)(e:T->List A)(wf:T->Prop):Prop:=
 ∀(H:Type) (enc:TypeId×Value->H) (w:World) (base:Nat) (spare:Nat->Bool) (held:Bool) (m:Nat) (cs:List Value) d,m<n->DataW.trod enc P w base spare held m t cs=some d->
  ∀μ:DataW H->Nat,QpG μ->μ d.1<=1048576->∃x:T,wf x/\LR (Qe8 w) [] w (e x) cs/\ ∀v∈cs,Qz v
section
variable {P:Program} {n:Nat} {t:TypeId} {T:Type} {e:T->List A} {wf:T->Prop}
theorem RB.down(h:RB P (n+1) t T e wf):RB P n t T e wf:=λH enc w base spare held m cs d hm=>h H enc w base spare held m cs d (Nat.lt_succ_of_lt hm)
theorem Qfx(h:∀n,RB P n t T e wf->RB P (n+1) t T e wf):∀n,RB P n t T e wf
 |0=>λH enc w base spare held m cs d hm=>(by omega)
 |n+1=>h n (Qfx h n)
theorem Ya{T':Type}{f:T'->List A}{a:T'->Prop}(h:RB P n t T e wf)(g:T->T')(he:∀x,f (g x)=e x)(l:∀x,wf x->a (g x)):RB P n t T' f a:=by
 intro H enc w base spare held m cs d hm hd μ hμ hwt;obtain⟨x,i,j,k⟩:=h H enc w base spare held m cs d hm hd μ hμ hwt
 grind
theorem RB.int{k:IntKind}(a:P.underlying t=some (.int k)):RB P n t Int (Qe k) (Qs k):=by
 intro H enc w base spare held m cs d hm hd μ hμ hwt;cases m with
 |zero=>simp[DataW.trod]at hd
 |succ m=>
  rcases cs with _|⟨v,_|⟨g,r⟩⟩
  .simp[DataW.trod,a]at hd
  .cases v<;>simp[DataW.trod,a]at hd;rename_i h e;obtain⟨⟨rfl,f⟩,_⟩:=hd;refine⟨e,?_,⟨_,_,rfl,rfl,rfl⟩,by simp[Qz]⟩;simpa[Lit.wf,Qs]using f
  .simp[DataW.trod,a]at hd
theorem RB.bool(a:P.underlying t=some .bool):RB P n t Bool Qbk (λ_=>True):=by
 intro H enc w base spare held m cs d hm hd μ hμ hwt;cases m with
 |zero=>simp[DataW.trod]at hd
 |succ m=>
  rcases cs with _|⟨v,_|⟨e,r⟩⟩
  .simp[DataW.trod,a]at hd
  .cases v<;>simp[DataW.trod,a]at hd;rename_i b;exact⟨b,trivial,⟨_,_,rfl,rfl,rfl⟩,by simp[Qz]⟩
  .simp[DataW.trod,a]at hd
theorem RB.string(a:P.underlying t=some .string):RB P n t (List UInt8) JW (λs=>s.length<=1048576):=by
 intro H enc w base spare held m cs d hm hd μ hμ hwt;cases m with
 |zero=>simp[DataW.trod]at hd
 |succ m=>
  rcases cs with _|⟨v,_|⟨e,r⟩⟩
  .simp[DataW.trod,a]at hd
  .cases v<;>simp[DataW.trod,a]at hd;rename_i s;obtain⟨_,rfl⟩:=hd;exact⟨s.data.toList,XS (hμ.str _) hwt,⟨_,_,rfl,rfl,rfl⟩,by simp[Qz]⟩
  .simp[DataW.trod,a]at hd
theorem Qda{α:Type}{f:Nat->Option α}:∀{n:Nat} {l:List α},(List.range n).mapM f=some l->l.length=n/\ ∀i,i<n->∃y,f i=some y/\l[i]?=some y
 |0,l,h=>by grind
 |n+1,l,h=>by
  rw[List.range_succ,List.mapM_append]at h;cases h1:(List.range n).mapM f with
  |none=>grind
  |some l1=>
   cases h2:f n with
   |none=>grind
   |some y=>
    simp[h1,h2]at h;subst h;obtain⟨e1,e2⟩:=Qda h1
    grind
theorem Qfe{w:World}{ro:Nat->Prop}{b:Nat}:∀{cs:List A} {l:List Value} {off:Nat},LR ro [] w cs l->(∀v∈l,Qz v)->(∀i,i<l.length->w.cell? ⟨b,off+i,none⟩=l[i]?)->CR ro [] w b cs off
 |[],_,_,_,_,_=>trivial
 |a::cs,l,off,h,hp,hc=>by
  obtain⟨v,l',rfl,h1,h2⟩:=h;refine⟨(by grind),Qfe h2 (by grind) λi hi=>?_⟩;have:=hc (i+1) (by grind)
  grind
theorem RB.slice{E:TypeId}{k:Nat}{s:TypeId}(J:P.underlying s=some (.slice E))(hk:P.cellsOf E=k)(h0:Nat.blt 0 k=true)(hl:∀x,(e x).length=k)(h:RB P n E T e wf):
  RB P (n+1) s (List T) (QlI k e) (λl=>l.length<=1048576/\ ∀x∈l,wf x):=by
 intro H enc w base spare held m cs d hm hd μ hμ hwt;have k0:0<k:=by simp_all
 cases m with
 |zero=>simp[DataW.trod]at hd
 |succ m=>
  rcases cs with _|⟨v,_|⟨v2,r⟩⟩
  .simp[DataW.trod,J]at hd
  .cases v<;>try (simp[DataW.trod,J]at hd;done)
   rename_i a len g;cases a with
   |none=>
    rcases len with _|len
    .rcases g with _|g
     .refine⟨[],⟨by simp,by simp⟩,⟨_,_,rfl,⟨none,0,rfl,XQ _,.inl rfl⟩,rfl⟩,by simp[Qz]⟩
     .simp[DataW.trod,J]at hd
    .simp[DataW.trod,J]at hd
   |some a=>
    simp only[DataW.trod,J]at hd;split at hd
    .rename_i hc;obtain⟨c1,c2,c3⟩:=hc;cases L:(List.range len).mapM (λi=>(w.cells? base (a.add (i*P.cellsOf E)) (P.cellsOf E)).bind (DataW.trod enc P w base spare held m E))with
     |none=>grind
     |some f=>
      rw[L]at hd;simp only[XG,Option.map_eq_some_iff]at hd;obtain⟨t,_,rfl⟩:=hd;have F:f.length<=1048576:=by
       have h1:=hμ.sl (f.map (·.1)) (t.map (·.1))
       grind
      have aa:∀y∈f,μ y.1<=1048576:=λy N=>XS (hμ.sle _ (t.map (·.1)) _ (VA N)) hwt;obtain⟨e1,e2⟩:=Qda L;have M:∀i,i<len->∃(x:T) (l:List Value),wf x/\LR (Qe8 w) [] w (e x) l/\(∀v∈l,Qz v)/\l.length=k/\ ∀j,j<k->w.cell? ((a.add (i*k)).add j)=l[j]? :=by
       intro i X;obtain⟨y,y1,y2⟩:=e2 i X;rw[hk]at y1;cases Y:w.cells? base (a.add (i*k)) k with
       |none=>grind
       |some l=>
        rw[Y]at y1;obtain⟨x,x1,x2,x3⟩:=h H enc w base spare held m l y (by omega) y1 μ hμ (aa y (VB y2))
        grind[World.cells?,Qda]
      by_cases V:len=0
      .subst V;exact⟨[],⟨by simp,by simp⟩,⟨_,_,rfl,⟨some a,g,rfl,XR _,.inl rfl⟩,rfl⟩,by simp[Qz]⟩
      .have first:a.spot=none/\a.block<w.heap.size:=by
        obtain⟨x',l,p1,p2,p3,p4,W⟩:=M 0 (by omega);have p:=W 0 k0;have ab:l[0]?=some l[0]:=XH (by omega);have ea:(a.add (0*k)).add 0=a:=by simp[Addr.add]
        rw[ab,ea]at p;unfold World.cell? at p;split at p
        .rename_i hh;constructor
         .cases q:a.spot with
          |none=>rfl
          |some z=>simp[q]at p
         .exact(X7.1 hh).1
        .cases p
       obtain⟨O,hb⟩:=first
       have R:∀n,a.add n=⟨a.block,a.off+n,none⟩:=by
        intro n;cases a;simp only at O;subst O;unfold Addr.add;split
        .rename_i q;subst q;rfl
        .rfl
       have u:∀(b o n:Nat),(⟨b,o,none⟩:Addr).add n=⟨b,o+n,none⟩:=by
        intro b o n;unfold Addr.add;split
        .rename_i q;subst q;rfl
        .rfl
       have pick:∀q i,len-i=q->i<=len->∃B:List T,B.length=len-i/\(∀x∈B,wf x)/\RR (Qe8 w) [] w a.block k (B.map e) (a.off+i*k):=by
        intro q
        induction q with
        |zero=>intro i hq X;exact⟨[],by simp[hq],by simp,trivial⟩
        |succ q ih=>
         intro i hq X;obtain⟨B,G,w2,Q⟩:=ih (i+1) (by omega) (by omega);obtain⟨x,l,p1,p2,p3,p4,W⟩:=M i (by omega);refine⟨x::B,by simp[G];omega,by intro y N;rcases X0.1 N with rfl|N;exact p1;exact w2 y N,hl x,?_,?_⟩
         .refine Qfe p2 p3 λj hj=>?_;have p:=W j (by omega);rw[R,u]at p;exact p
         .rw[Xm, <- Nat.add_assoc]at Q;exact Q
       obtain⟨B,G,w2,Q⟩:=pick len 0 (by omega) (XR _);rw[Nat.zero_mul,Xv]at Q;rw[Nat.sub_zero]at G;refine⟨B,⟨by rw[G, <- e1];exact F,w2⟩,⟨_,_,rfl,⟨some a,g,by simp[G],by simp[G];exact c2,.inr ⟨a.block,a.off,?_,hb,Q⟩⟩,rfl⟩,by simp[Qz]⟩;cases a
       grind
    .cases hd
  .simp[DataW.trod,J]at hd
def RF(P:Program)(n:Nat)(fs:List Field)(off L:Nat)(T:Type)(e:T->List A)(wf:T->Prop):Prop:=
 ∀(H:Type) (enc:TypeId×Value->H) (w:World) (base:Nat) (spare:Nat->Bool) (held:Bool) (m:Nat) (cs:List Value) ds,m<n->cs.length=L->
  fs.mapM (λf=>DataW.trod enc P w base spare held m f.type ((cs.drop f.offset).take (P.cellsOf f.type)))=some ds->
  ∀μ:DataW H->Nat,QpG μ->(∀y∈ds,μ y.1<=1048576)->∃x:T,wf x/\LR (Qe8 w) [] w (e x) (cs.drop off)/\ ∀v∈cs.drop off,Qz v
theorem RF.nil{L:Nat}:RF P n [] L L Unit (λ_=>[]) (λ_=>True):=by
 intro H enc w base spare held m cs ds hm hl hd μ hμ hwt;have:cs.drop L=[]:=(by grind);rw[this];exact⟨(),trivial,rfl,by simp⟩
theorem RF.cons{f:Field}{fs:List Field}{off L k:Nat}{T2:Type}{q:T2->List A}{a:T2->Prop}(t:f.offset=off)(u:P.cellsOf f.type=k)(h:RB P n f.type T e wf)(r:RF P n fs (off+k) L T2 q a):
  RF P n (f::fs) off L (T×T2) (λp=>e p.1++q p.2) (λp=>wf p.1/\a p.2):=by
 intro H enc w base spare held m cs ds hm hl hd μ hμ hwt;rw[List.mapM_cons]at hd;cases l:DataW.trod enc P w base spare held m f.type ((cs.drop f.offset).take (P.cellsOf f.type))with
 |none=>grind
 |some d=>
  cases B:fs.mapM (λf=>DataW.trod enc P w base spare held m f.type ((cs.drop f.offset).take (P.cellsOf f.type)))with
  |none=>grind
  |some g=>
   have i:ds=d::g:=by
    grind
   subst i;rw[t,u]at l;obtain⟨x,z,s,E⟩:=h H enc w base spare held m _ d hm l μ hμ (hwt d (by simp));obtain⟨y,y1,y2,F⟩:=r H enc w base spare held m cs g hm hl B μ hμ (by grind);have j:cs.drop off=(cs.drop off).take k++cs.drop (off+k):=by rw[<- List.drop_drop,Xx]
   refine⟨(x,y),⟨z,y1⟩,by rw[j];exact s.append y2,?_⟩
   grind
theorem RB.struct{fs:Array Field}{L:Nat}(k:P.underlying t=some (.struct fs))(j:P.cellsOf t=L)(h:RF P n fs.toList 0 L T e wf):RB P (n+1) t T e wf:=by
 intro H enc w base spare held m cs d hm hd μ hμ hwt;cases m with
 |zero=>simp[DataW.trod]at hd
 |succ m=>
  unfold DataW.trod at hd;simp only[k]at hd;split at hd
  .rename_i i;cases a:fs.toList.mapM (λf=>DataW.trod enc P w base spare held m f.type ((cs.drop f.offset).take (P.cellsOf f.type)))with
   |none=>grind
   |some g=>
    rw[a]at hd;simp only[Xk,Option.some.injEq]at hd;subst hd;have:=h H enc w base spare held m cs g (by omega) (by rw[i,j]) a μ hμ (λy l=>XS (hμ.ag _ _ (by grind)) hwt)
    grind
  .cases hd
end
theorem C.law{P:Program}{f:FuncId}{args:List A}{W:World}{vals:List Value}(h:C P f args [] (λa H=>a=.bool true/\H=[]))(hl:LR (Qe8 W) [] W args vals)(d:GP W):
  Calls P f vals.toArray W λe W'=>e=.returned (.bool true)/\Go.RowKit.Below W.heap.size W W':=by
 have s:Sim (λ_=>False) (Qe8 W) [] [] W:=
  ⟨rfl,⟨λ_ h=>h,λb l=>d.size b l,d⟩,λ_ h=>h.elim,λ_ _ h=>h,(by simp),(by simp),(by simp),(by simp)⟩
 refine(h _ _ _ _ W s hl).mono ?_;rintro e W' ⟨v,r,H',j,τ,rfl,⟨rfl,rfl⟩,_,g,ev⟩;exact⟨by rw[show v=.bool true from g],⟨ev.os,ev.tape,ev.output,ev.size,λk i=>ev.keepRo k i⟩⟩
theorem QjF{P:Program}{W:World}{a:Nat}{t:TypeId}{v:Value}{fs:Array Field}(d:P.underlying t=some (.struct fs))(h:Value.okWide P W .any a t v):∃cs,v=.agg cs:=by
 unfold Value.okWide at h
 grind
theorem QfW{P:Program}{W:World}{t:TypeId}{cs:Array Value}{T:Type}{e:T->List A}{wf:T->Prop}{H:Type}{enc:TypeId×Value->H}{f:Nat}{a:Nat->Bool}{held:Bool}{d:DataW H}{ps:List MemPlace}
  (h:∀n,RB P n t T e wf)(l:DataW.Trod enc P W f a held t (.agg cs) d ps){μ:DataW H->Nat}(hμ:QpG μ)(g:μ d<=1048576):∃x:T,wf x/\VR (Qe8 W) [] W (.agg (e x)) (.agg cs):=by
 obtain⟨m,k⟩:=l;obtain⟨x,i,j,_⟩:=h (m+1) H enc W f a held m _ _ (Xn _) k μ hμ g;exact⟨x,i,cs.toList,by simp,j⟩
theorem Qm7{P:Program}{W:World}{t:TypeId}{a:Option Addr}{len cap:Nat}{T:Type}{e:T->List A}{k:Nat}{wf:List T->Prop}{H:Type}{enc:TypeId×Value->H}{g:Nat}{f:Nat->Bool}{held:Bool}{d:DataW H}{ps:List MemPlace}
  (h:∀n,RB P n t (List T) (QlI k e) wf)(p:DataW.Trod enc P W g f held t (.slice a len cap) d ps){μ:DataW H->Nat}(hμ:QpG μ)(i:μ d<=1048576):∃x:List T,wf x/\VR (Qe8 W) [] W (.rsl k (x.map e)) (.slice a len cap):=by
 obtain⟨m,l⟩:=p;obtain⟨x,j,⟨v,r,s,u,q⟩,_⟩:=h (m+1) H enc W g f held m _ _ (Xn _) l μ hμ i;refine⟨x,j,?_⟩;have:(Value.slice a len cap).cells.toList=[.slice a len cap]:=rfl
 grind
theorem Qk2{P:Program}{W:World}(h:W.ShapedOpen P){g t u:Nat}{z:Value}(hg:Nat.blt g P.globals.size=true)(j:(((begin P (λ_ _=>0) default).world.heap[g]?).bind Obj.row?)=some (#[z],t))
  (p:P.buildable t=true)(l:P.cellTypes P.depth t=some [u])(s:P.underlying u=some (.int .i64)):∃m:Int,W.cell? ⟨g,0,none⟩=some (.int .i64 m):=by
 obtain⟨a,B,q,r⟩:=h.1 g _ _ (by simp_all) j;obtain⟨w,f,_,k⟩:=r p;rw[l]at f;cases f;have y:a.size=1:=q;have e:a[0]?=some a[0]:=(by simp);obtain⟨x,i,d⟩:=k 0 _ e;simp at i;subst i;unfold Cell.ok at d;rw[s]at d;cases n:a[0]<;>rw[n]at d<;>simp at d
 simp_all[World.cell?]
theorem Qli{S B:Type}{step:S->Option (Ctl S B)}(st:Nat->S)(b:B)(k:Nat)(j:∀i,i<k->step (st i)=some (.cont (st (i+1))))(h:step (st k)=some (.done b)):∀n,k<n->iter step n (st 0)=some b:=by
 have e:∀m i n,k-i=m->i<=k->m<n->iter step n (st i)=some b:=by
  intro m
  induction m with
  |zero=>
   intro i n d f g;have:i=k:=by omega
   subst this;obtain⟨a,rfl⟩:∃a,n=a+1:=⟨n-1,by omega⟩;simp[iter,h]
  |succ m l=>
   intro i n d f g;obtain⟨a,rfl⟩:∃a,n=a+1:=⟨n-1,by omega⟩
   grind[iter]
 grind
theorem QoH{S B:Type}{step:S->Option (Ctl S B)}(a:S)(st:Nat->S)(b:B)(k:Nat)(h0:st 0=a)(f:∀i,i<k->step (st i)=some (.cont (st (i+1))))(d:step (st k)=some (.done b))(n:Nat)(e:k<n):iter step n a=some b:=by
 rw[<- h0];exact Qli st b k f d n e
theorem YX{α:Type}{l:List α}{i:Nat}{x:α}(h:l[i]?=some x):idx l i=some x:=by
 grind[idx]
theorem Y4{α:Type}(l:List α)(x:α)(h:l.length<4294967296):app l [x]=some (l++[x]):=by
 unfold app;have:Nat.ble (l.length+[x].length) QC=true:=by
  grind[Nat.ble_eq_true_of_le,QC]
 grind
theorem QdZ{α:Type}(l m:List α)(h:l.length+m.length<=4294967296):app l m=some (l++m):=by
 simp_all[app,QC,XP]
theorem QZ{n:Int}(h0: -9223372036854775808<=n)(a:n<=9223372036854775807):IntKind.i64.wrap n=n:=by
 grind[IntKind.wrap,IntKind.bits,IntKind.signed]
theorem Yh{i:Nat}(h:i<9223372036854775807):IntKind.i64.wrap (i+1)=(i+1:Nat):=by
 rw[QZ (by omega) (by omega)];omega
theorem YS{p:Prop}[Decidable p](h:p):decide p=true:=Vn h
theorem YU{p:Prop}[Decidable p](h:¬p):decide p=false:=Vr h
open Go.Proofs Go.Shelf
def cat(a b:List UInt8):Option (List UInt8):=bif Nat.ble (a.length+b.length) 4294967296 then some (a++b)else none
theorem QrB{a b r:List UInt8}(h:cat a b=some r):a.length+b.length<=4294967296/\a++b=r:=by
 unfold cat at h;cases q:Nat.ble (a.length+b.length) 4294967296 with
 |true=>simp_all
 |false=>grind
def Qgd(s t:List UInt8):Option Bool:=bif Nat.blt s.length 4294967281 then some (Lib.contains s t)else none
section
variable {P:Program} {o:Oper} {env:Env} {H:Qb}
theorem QgV{t u:TypeId}{x y:Operand}{p q r:List UInt8}(g:cat p q=some r)(l:o.op=.binOp .add t x y u:=by exact rfl)(hx:opA env x=.str p:=by exact rfl)(hy:opA env y=.str q:=by exact rfl):OpV P o env H (.str r):=by
 intro m s σ N a w rr;obtain⟨k,h⟩:=QrB g;have e:=Qi rr x;rw[hx]at e;have d:=Qi rr y;rw[hy]at d;have i:a.eval x=.string ⟨p.toArray⟩:=e;have j:a.eval y=.string ⟨q.toArray⟩:=d;have n:(⟨p.toArray⟩:ByteArray)++⟨q.toArray⟩=⟨r.toArray⟩:=by
  rw[<- h];rfl
 refine⟨.string ⟨r.toArray⟩,?_,rfl⟩;have f:¬((⟨p.toArray⟩:ByteArray).size+(⟨q.toArray⟩:ByteArray).size>IntKind.i64.max):=by
  have:IntKind.i64.max=9223372036854775807:=by decide
  grind[ByteArray.size]
 simp_all[eqGuard,execOp,binOp_string_add,Op.stringOp]
def Qfi{α:Type}(n:Nat)(l:List α)(i:Int):Option α:=bif Nat.beq l.length n then idx l i else none
theorem Qa7{α:Type}{n:Nat}{l:List α}{i:Int}{x:α}(h:Qfi n l i=some x):l.length=n/\idx l i=some x:=by
 grind[Qfi,Nat.eq_of_beq_eq_true]
def arr{α:Type}(n:Nat)(l:List α):Option (List α):=bif Nat.beq l.length n then some l else none
theorem JR{α:Type}{n:Nat}{l l':List α}(h:arr n l=some l'):l.length=n/\l=l':=by
 grind[arr,Nat.eq_of_beq_eq_true]
theorem QbS{α:Type}{n:Nat}{l l':List α}(h:arr n l=some l'):l'.length=n:=(JR h).2▸(JR h).1
section
variable {α:Type} {e:α->List A} {t et k n b:Nat} {x y:Operand} {l:List α}
theorem Qah{i:Int}{v:α}{j:IntKind}(h:Qfi n l i=some v)(u:∀w,(underlying t).run P w=.ok (.array n et) w)(q:∀w,(sizeOf et).run P w=.ok k w)(z:Nat.ble 2 n=true)
  (p:o.op=.indexAddr t x y:=by exact rfl)(hx:opA env x=.ptr b 0:=by exact rfl)(hy:opA env y=.int j i:=by exact rfl):OpV P o env H (.ptr b (i.toNat*k)):=by
 intro G O σ N a w r;obtain⟨M,B⟩:=Qa7 h;obtain⟨L,J⟩:=Qae B;have E:i.toNat<l.length:=(by grind);have d:=Qi r x;rw[hx]at d;obtain⟨e,d,s⟩:=d;have g:=Qi r y;rw[hy]at g;have f:a.eval y=.int j i:=g;refine⟨.pointer (some ⟨e,i.toNat*k,none⟩),?_,e,d,rfl⟩;have F:0<=i/\i<n:=by omega
 have m:(⟨e,0,none⟩:Addr).add (i.toNat*k)=⟨e,i.toNat*k,none⟩:=by
  grind[Addr.add]
 generalize a.eval=ρ at*;simp[p,s,f,Instr.indexAt,u,q,F,go_sem]
theorem QmQ{cs:List A}(hH:H[b]?=some (.row t k (l.map e)):=by exact rfl)(hcs:(l.map e).flatten=cs:=by exact rfl):Pts H (.ptr b 0) cs:=by
 intro j n σ w v s h;obtain⟨d,a,g⟩:=h;obtain⟨m,f,i⟩:=s.blk b _ _ a hH;refine⟨d,0,g,?_⟩;have:=(RR.flat (Y5 (pre:=[]) (by simpa using f) i)).1;subst hcs;exact this.lift
theorem QjZ(a:∀x,(e x).length=k)(L:List α):(L.map e).flatten.length=L.length*k:=by
 induction L with
 |nil=>simp
 |cons c L ih=>grind
theorem QkI{f:Nat}{l':List α}(h:arr n l=some l')(j:∀x,(e x).length=k)(a:n*k=f)(p:∀w,(isAgg t).run P w=.ok true w)(m:∀w,(sizeOf t).run P w=.ok f w){T:Nat}
  (i:o.op=.load t x:=by exact rfl)(hx:opA env x=.ptr b 0:=by exact rfl)(hH:H[b]?=some (.row T k (l.map e)):=by exact rfl):OpV P o env H (.agg (l'.map e).flatten):=by
 obtain⟨g,rfl⟩:=JR h;have d:=QjZ j l;rw[g,a]at d;exact Qn i p m hx (QmQ hH rfl) (by grind) d
theorem QnN{r:Nat}{n2 T:Nat}(hl:l.length=n)(g:∀x,(e x).length=k)(f:n*k=n2)(d:∀w,(isAgg t).run P w=.ok true w)(a:∀w,(sizeOf t).run P w=.ok n2 w)
  (h:lk env r=.ptr b 0:=by exact rfl)(hH:H[b]?=some (.row T k (l.map e)):=by exact rfl):Qd6 P env H (.cell r t) (.agg (l.map e).flatten):=by
 have i:=QjZ g l;have:=Qfb d a (QmQ hH rfl) h (by grind)
 grind
theorem Qky{c:List A}{k:Nat}(h:c.length=k):∀n,allK k (List.replicate n c)
 |0=>trivial
 |n+1=>⟨h,Qky h n⟩
theorem JE{vs:Array Value}{z:α}(s:∀w,(zeroValue t).run P w=.ok (.agg vs) w)(q:(Jf (List.replicate n (e z)).flatten).toArray=vs)(j:QfM (List.replicate n (e z)).flatten=true)(l:(List.replicate n (e z)).flatten.all Yz=true)(h:Nat.beq (e z).length k=true)
  (m:o.op=.alloc t:=by exact rfl):OpH P o env H (.ptr H.length 0) (H++[.row t k ((List.replicate n z).map e)]):=by
 intro p g σ N a w r;have f:LR g [] w (List.replicate n (e z)).flatten (Jf (List.replicate n (e z)).flatten):=Qg4 j;have d:=r.sim.allocRow (t:=t) (rest:=[]) (Qky (XN h) n) f (f.plain l);rw[Va]at d;have i:(List.replicate n z).map e=List.replicate n (e z):=List.map_replicate;refine⟨.pointer (some ⟨w.heap.size,0,none⟩),w.alloc (.cells (Jf (List.replicate n (e z)).flatten).toArray t),g,[some w.heap.size],?_,⟨w.heap.size,?_,rfl⟩,i▸d,Qk.alloc _ r.sim.roLt r.sim.frLt⟩
 .have u:(newVar t (.agg vs)).run P w=.ok ⟨w.heap.size,0,none⟩ (w.alloc (.cells vs t)):=rfl
  simp_all[execOp,Instr.alloc]
 .rw[<- r.sim.len];simp
theorem JD{T n2:Nat}{l':List α}{vs:List A}(h:l.length=n)(h':l'.length=n)(W:∀x,(e x).length=k)(B:n*k=n2)(hs:∀w,(sizeOf t).run P w=.ok n2 w)
  (hp:∀x,(e x).all Yz=true)(hd:∀x,Yu (e x)=true)(F:(l'.map e).flatten=vs)
  (ho:o.op=.store t x y:=by exact rfl)(E:opA env x=.ptr b 0:=by exact rfl)(hH:H[b]?=some (.row T k (l.map e)):=by exact rfl)(z:opA env y=.agg vs:=by exact rfl):
  OpU P o env H (H.set b (.row T k (l'.map e))):=by
 intro fr Y σ N a w r;subst F;have f:=Qi r x;rw[E]at f;obtain⟨bb,f,h2⟩:=f;have R:=Qi r y;rw[z]at R;obtain⟨m,h4,j⟩:=R;obtain⟨s,O,q2⟩:=r.sim.blk b _ _ f hH;have q:∀(L:List α),allK k (L.map e):=by
  intro L
  induction L with
  |nil=>trivial
  |cons c L p=>exact⟨W c,p⟩
 have M:(l'.map e).flatten.length=n2:=by grind[YP]
 have X:m.length=n2:=by rw[j.length,M]
 have i:∀L:List α,(L.map e).flatten.all Yz=true:=by
  grind
 have J:∀g ds:List A,Yu g=true->Yu ds=true->Yu (g++ds)=true:=by
  intro g
  induction g with
  |nil=>simp
  |cons c g p=>
   simp_all[Yu]
 have u:∀L:List α,Yu (L.map e).flatten=true:=by
  intro L
  induction L with
  |nil=>rfl
  |cons c L p=>exact J _ _ (hd c) p
 have hlen:=by
  have:=q2.length;rw[XX,h,B]at this;exact this
 have V:=Yy (P:=P) (vs:=m) 0 0 O (by omega) (j.plain (i l'));have Q:splice s 0 m=m++s.drop n2:=by unfold splice;simp[X]
 have d:=r.sim.set (x':=.row T k (l'.map e)) (obj:=.cells (splice s 0 m).toArray T (0,0)) f hH rfl
  (λy z=>QaJ O (YO (by omega)) y z)
  (λex G=>by
   have E:=(j.data (u l')).mono ex.nil;exact⟨_,G,Jt (q l') E (j.plain (i l'))⟩)
 refine⟨_,Y,[],?_,by simpa using d.1,d.2⟩
 simp_all[Value.cells,storeVar,execOp,Instr.storeAt,Instr.sureAddr]
end
end
theorem C.contains{P:Program}{ρ:Ren}(L:Lays.n144 P ρ)(hg:ρ.g 1=Qnj){s t:List UInt8}{r:Bool}(h:Qgd s t=some r):C P (ρ.f 144) [.str s,.str t] [] (λa H=>a=.bool r/\H=[]):=by
 unfold Qgd at h;cases q:Nat.blt s.length 4294967281 with
 |false=>grind
 |true=>
  rw[q]at h;obtain rfl:=XV h;intro u l σ vals w sim hv;obtain⟨z,x,rfl,d,p,i,rfl,j,k⟩:=hv;cases(show i=[]from k);obtain⟨m,y⟩:=sim.roOk.gp.max;have e1:=d;have e2:=j;subst e1 e2;have hs:=by simpa using q
  refine(Any.strings_Contains L ⟨s.toArray⟩ ⟨t.toArray⟩ m w (by simpa[ByteArray.size]using hs) (by grind)).mono ?_;rintro e n ⟨rfl,rfl⟩;exact⟨_,_,_,l,[],rfl,⟨rfl,rfl⟩,by grind,rfl,Qk.refl _ _ _⟩
section
variable {P:Program} {o:Oper} {env:Env} {H:Qb} {fr ro:Nat->Prop} {σ:Sig} {w:World}
theorem Sim.touch(s:Sim fr ro σ H w){b:Nat}{obj:Obj}(r:¬ro b)(p:¬fr b)(t:∀(i:Nat) (x:Blk),σ[i]?=some (some b)->H[i]?=some x->x.live=true->False)
  (l:∀(i d:Nat) (x:Blk),σ[i]?=some (some d)->H[i]?=some x->Hid w x d b->False)
  (m:∀y,w.shape? b=some y->{w with heap:=w.heap.setIfInBounds b obj}.shape? b=some y):
  Sim fr ro σ H {w with heap:=w.heap.setIfInBounds b obj}/\Qk fr ro w ro {w with heap:=w.heap.setIfInBounds b obj}:=by
 have a:{w with heap:=w.heap.setIfInBounds b obj}.heap.size=w.heap.size:=by simp
 have ev:Qk fr ro w ro {w with heap:=w.heap.setIfInBounds b obj}:=
  ⟨λ_ h=>h,(by grind),(by grind),by omega,by
   grind[World.shape?],rfl,rfl,rfl,XQ _⟩
 refine⟨⟨s.len,s.roOk.to (λ_ q=>q) ev.keepRo (λc h=>by rw[a];exact s.roLt c h),λc h=>by rw[a];exact s.frLt c h,s.roFr,?_,s.inj,?_,s.hidTo (· = ·) Q9 (by omega) (by simp) (by simp) λj d y k g u=>.inl ⟨j,y,rfl,k,g,id,λc q=>s.hidKeep k g (by grind) ev.keepRo q⟩⟩,ev⟩
 .intro i c x e f n;rw[a];exact s.own i c x e f n
 .intro i y x e f;refine(s.blk i y x e f).keep (ev.ext0 σ) ?_ ?_
  .grind
  grind
theorem QnX{T E i n t:Nat}{x:Operand}{es:List (List A)}(ht:P.underlying T=some (.slice E))(hE:P.underlying E=some (.int .u8))(hn:es.length=n)(h0:Nat.blt 0 n=true)
  (ho:o.op=.convert T T x:=by exact rfl)(hx:opA env x=.osl i 0 n 1:=by exact rfl)(hH:H[i]?=some (.row t 1 es):=by exact rfl):
  OpH P o env H (.rsl 1 es) (H.set i .dead):=by
 intro fr M σ N a w r;subst hn;have h:=Qi r x;rw[hx]at h;rcases h with⟨hz,_⟩|⟨b,p,J,t',m,h,Y,X,⟨h3,aa⟩,h4,h5⟩
 .simp_all
 .have W:0<es.length:=by simp_all
  obtain rfl:=X (by omega);obtain⟨hb,L,g⟩:=r.sim.own i b _ h hH rfl;obtain⟨l,q1,q2⟩:=r.sim.blk i _ _ h hH;have V:=r.sim.kill i;have f:∀(j:Nat) (y:Blk),σ[j]?=some (some b)->(H.set i .dead)[j]?=some y->y.live=true->False:=by
   intro j y u e B;by_cases q:j=i
   .subst q;rw[Xb]at e;simp only[if_true]at e
    grind[Blk.live]
   .rw[XM (λz=>q z.symm)]at e;exact q (r.sim.inj j i b y _ u h e hH B rfl)
  have F:∀(j d:Nat) (y:Blk),σ[j]?=some (some d)->(H.set i .dead)[j]?=some y->Hid w y d b->False:=by
   intro j d y u e B;by_cases q:j=i
   .subst q;rw[Xb]at e;simp only[if_true]at e;split at e
    .cases e;exact B.elim
    .simp at e
   .rw[XM (λz=>q z.symm)]at e;exact(r.sim.hid j d y b u e B).ne i b _ h hH rfl rfl
  let fz:Nat×Nat:=(l.length,l.length+1)
  have O:∀y,w.shape? b=some y->({w with heap:=w.heap.setIfInBounds b (.cells l.toArray t fz)}:World).shape? b=some y:=by
   simp_all[World.shape?]
  obtain⟨s2,k⟩:=V.touch (obj:=.cells l.toArray t fz) L g f F O;have s3:=s2.addRo (b:=b) (by grind) g f (λj d y u e B=>F j d y u e (V.hidKeep u e (by grind) k.keepRo B));have s:({w with heap:=w.heap.setIfInBounds b (.cells l.toArray t fz)}:World).heap[b]?=some (.cells (([]:List Value)++l).toArray t fz):=by
   grind
  have G:Ext M [] w M [] {w with heap:=w.heap.setIfInBounds b (.cells l.toArray t fz)}:=k.ext0 [];refine⟨.slice (some ⟨b,0*1,none⟩) es.length J,_,λc=>M c\/c=b,[],?_,?_,by grind,k.trans (YQ λ_ q=>.inl q)⟩
  .have hf:w.freeze ⟨b,l.length,none⟩ 1={w with heap:=w.heap.setIfInBounds b (.cells l.toArray t fz)}:=by
    unfold World.freeze;simp only[Nat.one_ne_zero,if_false];rw[Qbs q1];rfl
   have R:(markStringish ⟨b,0*1,none⟩).run P w=.ok () {w with heap:=w.heap.setIfInBounds b (.cells l.toArray t fz)}:=by
    simp_all[markStringish,World.shape?]
   have hu:∀w,(underlying T).run P w=.ok (.slice E) w:=run_underlying ht;have Q:∀w,(underlying E).run P w=.ok (.int .u8) w:=run_underlying hE;generalize a.eval=ρ at*;simp only[execOp,ho,Y,convert,Vg,hu,Q,Result.andThen,beq_self_eq_true,R,Vh]
  .refine⟨some ⟨b,0*1,none⟩,J,rfl,h3,.inr ⟨b,0*1,rfl,.inr rfl,?_⟩⟩;have:=Y5 (pre:=[]) s (q2.mono G);exact(by omega:RR M [] _ b 1 es (0*1)).keep ⟨λ_ q=>.inl q,λ_ _=>rfl,λ_ _ q=>q,λ_ _ q=>q⟩ rfl
end
mutual
theorem Qek(ρ:Nat->Nat):∀{a:A},YL a=true->Jg ρ a=a
 |.any,_=>rfl
 |.bool _,_=>rfl
 |.int _ _,_=>rfl
 |.str _,_=>rfl
 |.nilp,_=>rfl
 |.ptr _ _,h=>by simp[YL]at h
 |.rp _,_=>rfl
 |.nils,_=>rfl
 |.rsl _ _,_=>rfl
 |.osl _ _ _ _,h=>by simp[YL]at h
 |.agg cs,h=>by simp only[YL]at h;simp only[Jg,Qac ρ h]
 |.fn f a c,h=>by simp only[YL,XT]at h;simp only[Jg,Qac ρ h.1,Qac ρ h.2]
 |.nilf,_=>rfl
 |.iface t a,h=>by simp only[YL]at h;simp only[Jg,Qek ρ h]
 |.nilif,_=>rfl
 |.map _,h=>by simp[YL]at h
 |.nilm,_=>rfl
 |.tup vs,h=>by simp only[YL]at h;simp only[Jg,Qac ρ h]
theorem Qac(ρ:Nat->Nat):∀{l:List A},Yu l=true->Qak ρ l=l
 |[],_=>rfl
 |a::l,h=>by simp only[Yu,XT]at h;simp only[Qak,Qek ρ h.1,Qac ρ h.2]
end
theorem QhM{α:Type}{e:α->List A}(a:∀x,Yu (e x)=true):∀L:List α,Yu (L.map e).flatten=true
 |[]=>rfl
 |c::L=>by
  have hdt:∀cs ds,Yu cs=true->Yu ds=true->Yu (cs++ds)=true:=by
   intro cs
   induction cs with
   |nil=>simp
   |cons c cs d=>
    simp_all[Yu]
  exact hdt _ _ (a c) (QhM a L)
theorem Qp2{α:Type}{e:α->List A}(hd:∀x,Yu (e x)=true)(ρ:Nat->Nat)(l:List α):Jg ρ (.agg (l.map e).flatten)=.agg (l.map e).flatten:=
 Qek ρ (by exact QhM hd l)
end Go.Sw
namespace Go.Sw
section
variable {P:Program} {o:Oper} {env:Env} {H:Qb}
theorem Qfz{c:Call}{f T:Nat}{x:Operand}{xs:List Operand}{g:Array TypeId}{name:String}{v:A}{args:List A}(e:∀(a:Array Value) (w:World),(callFunc f a).run P w=.ok (.enter f a) w)(j:o.op=.call c)
  (k:c={callee:=.invoke x name,args:=xs.toArray,argTypes:=g})(h:opA env x=.iface T v)(hargs:v::xs.map (opA env)=args)
  (m:∀(u:Value) (w:World),(method (P.types.size+Made.depth) T u name).run P w=.ok (f,u) w):OpC P o env H f args:=by
 intro l n σ N a w r;have d:=Qi r x;rw[h]at d;obtain⟨u,d,i⟩:=d;refine⟨u::xs.map a.eval,?_,hargs▸⟨u,xs.map a.eval,rfl,i,Qbz r xs⟩⟩
 simp_all[VC,callMethod,execOp,resolve,invoke]
theorem QbW{T I:Nat}{x:Operand}{v:A}{d:TypeDesc}(k:∀w,(underlying T).run P w=.ok d w)(j:∀m,d≠ .interface m)(g:o.op=.typeAssert x I T true:=by exact rfl)(hx:opA env x=.iface T v:=by exact rfl):
  OpV P o env H (.tup [v,.bool true]):=by
 intro h i σ N a w r;have e:=Qi r x;rw[hx]at e;obtain⟨u,e,f⟩:=e;refine⟨.tuple #[u,.bool true],?_,[u,.bool true],rfl,_,_,rfl,f,_,_,rfl,rfl,rfl⟩
 simp_all[execOp,Instr.typeAssert]
theorem Qi0{T T' I:Nat}{x:Operand}{v z:A}{e:Value}{d:TypeDesc}(t:∀w,(underlying T).run P w=.ok d w)(s:∀m,d≠ .interface m)(h:Nat.beq T' T=false)(l:∀w,(zeroValue T).run P w=.ok e w)(g:ZR z e)
  (i:o.op=.typeAssert x I T true:=by exact rfl)(hx:opA env x=.iface T' v:=by exact rfl):
  OpV P o env H (.tup [z,.bool false]):=by
 intro j p σ N a w r;have f:=Qi r x;rw[hx]at f;obtain⟨u,f,n⟩:=f;have k:T'≠T:=λq=>by simp_all
 refine⟨.tuple #[e,.bool false],?_,[e,.bool false],rfl,_,_,rfl,g _ _ _,_,_,rfl,rfl,rfl⟩
 simp_all[execOp,Instr.typeAssert]
end
def TL(P:Program)(h0 N:Nat)(c:Code)(env:Env)(H:Qb)(Q:QV):Prop:=
 ∀rd fr ro σ a w,Rel fr ro σ H env N a w->QeH rd fr w->∀(b:Frame) (k:List Item) (cs:List Frame),b.roundOf=(WF rd).round->(WF rd).fn b.fn->(WF rd).room (cs.length+1+0)->∃e a' w',QaW h0 fr ro σ w N a.defers Q e a' w'/\ArrivesIn (Machine.fenced P (WF rd)) P (lone (b.atR a (.code c::.inLoop c::k)) cs w) b k cs e a' w'
def QlR(P:Program)(h0 N:Nat)(c:Code)(Q:QV):QV
 |.normal,env,H=>TL P h0 N c env H Q
 |.exit id,env,H=>Q (.exit id) env H
 |.ret,env,H=>Q .ret env H
section
variable {P:Program} {h0 N:Nat} {c:Code} {env:Env} {H:Qb} {Q:QV}
theorem Qpw(h:TL P h0 N c env H Q):TC P h0 N (.loop c) env H Q:=by
 intro l g j σ a w r hrd b k cs hro hb hr;obtain⟨e,m,f,i,d⟩:=h l g j σ a w r hrd b k cs hro hb hr;exact⟨e,m,f,i,.of_steps (.one (fenced_calm hb hr rfl) stepR_loop) d⟩
theorem TL.round(h:TC P h0 N c env H (QlR P h0 N c Q)):TL P h0 N c env H Q:=by
 intro B y F σ a w r hrd b k cs hro hb hr;obtain⟨e,n,l,O,d⟩:=h B y F σ a w r hrd b (.inLoop c::k) cs hro hb hr;obtain⟨x,f,H',i,σ',j,m,t,E,s,z,p⟩:=O;have G:∀x,Q x f H'->ExR e x->QaW h0 y F σ w N a.defers Q e n l:=λx q R=>⟨x,f,H',i,σ',j,R,q,E,s,z,p⟩;cases e with
 |normal=>
  obtain rfl:x=.normal:=m;obtain⟨J,L,M,u,g⟩:=t B j i σ' n l E (hrd.to s p.sub) b k cs hro hb hr;exact⟨J,L,M,u.grow s z p,.of_steps (StepsIn.trans d (.one (fenced_calm hb hr rfl) stepR_inLoop)) g⟩
 |exit id=>
  obtain rfl:x=.exit id:=m;exact⟨_,n,l,G _ t rfl,.pass rfl (by simp) d⟩
 |ret=>
  obtain rfl:x=.ret:=m;exact⟨_,n,l,G _ t rfl,.pass rfl (by simp) d⟩
 |_=>exact m.elim
theorem unrN(h:TC P h0 N c env H (QlR P h0 N c Q)):QlR P h0 N c Q .normal env H:=TL.round h
theorem unrX{id:Nat}(h:Q (.exit id) env H):QlR P h0 N c Q (.exit id) env H:=h
theorem unrR(h:Q .ret env H):QlR P h0 N c Q .ret env H:=h
theorem QnL(h:TC P h0 N c env H (QlR P h0 N c Q)):TC P h0 N (.loop c) env H Q:=Qpw (TL.round h)
end
section
variable {P:Program} {o:Oper} {env:Env} {H:Qb}
theorem Qfy{t a k b n j:Nat}{x y:Operand}{f:IntKind}{i:Int}(l:Nat.blt j n=true)(hi:i=j)(g:∀w,(underlying t).run P w=.ok (.slice a) w)(d:∀w,(sizeOf a).run P w=.ok k w)
  (e:o.op=.indexAddr t x y:=by exact rfl)(hx:opA env x=.osl b 0 n k:=by exact rfl)(hy:opA env y=.int f i:=by exact rfl):OpV P o env H (.ptr b (j*k)):=by
 have h:=Qi1 (H:=H) e g d hx hy (by omega) (by simp_all)
 grind
theorem QcI{b t k e f off:Nat}{es:List (List A)}{c cs':List A}(a:off=e*k+f)(hH:H[b]?=some (.rowr t k es):=by exact rfl)(he:es[e]?=some c:=by exact rfl)(hcs:c.drop f=cs':=by exact rfl):Pts H (.ptr b off) cs':=
 Pts.rowr hH a he hcs
end
theorem QgT{ro:Nat->Prop}{σ:Sig}{w:World}{k:Nat}:∀{es:List (List A)} {l l':List Value},RL ro σ w k es l->l.take (es.length*k)=l'.take (es.length*k)->RL ro σ w k es l'
 |[],_,_,_,_=>trivial
 |c::es,l,l',h,hp=>by
  obtain⟨l1,l2,rfl,h1,h2,h3⟩:=h;have hl1:l1.length=k:=by rw[h2.1.length];exact h1
  have a:l'.take k=l1:=by
   have:=congrArg (List.take k) hp
   grind[Nat.succ_mul]
  refine⟨l1,l'.drop k,by rw[<- a,Xx],h1,h2,QgT h3 ?_⟩;have:=congrArg (List.drop k) hp
  grind[Nat.succ_mul]
section
variable {P:Program} {o:Oper} {env:Env} {H:Qb}
theorem Qhg{c:Call}{T et k b s n t:Nat}{x:Operand}{es es':List (List A)}{z:Value}(ht:P.underlying T=some (.slice et))(hz:∀w,(zeroValue et).run P w=.ok z w)(O:z.cells.size=k)(Y:∀v∈z.cells,Qz v)
  (q:es.take s=es')(hb:s+n=es.length)(ho:o.op=.call c:=by exact rfl)(hc:c={callee:=.builtin .clear,args:= #[x],argTypes:= #[T]}:=by exact rfl)
  (hx:opA env x=.osl b s n k:=by exact rfl)(hH:H[b]?=some (.row t k es):=by exact rfl):OpH P o env H (.tup []) (H.set b (.row t k es')):=by
 intro j h σ N a w r;subst q hc;have hu:∀w,(underlying T).run P w=.ok (.slice et) w:=run_underlying ht;have e:=Qi r x;rw[hx]at e;have F:Sim j h σ (H.set b (.row t k (es.take s))) w:=by
  refine r.sim.weaken hH rfl ?_;intro y g;cases y with
  |none=>rw[show es=[]from g];simp[BR]
  |some B=>obtain⟨l,g1,g2⟩:=g;exact⟨l,g1,RL.take s g2⟩
 have G:∀v,a.eval x=v->(Builtin.clear_ #[T] o.type #[v]).run P w=.ok (.tuple #[]) w->
   ∃v w' ro' τ,(execOp a.eval o).run P w=.ok (.value v) w'/\VR ro' (σ++τ) w' (.tup []) v/\Sim j ro' (σ++τ) (H.set b (.row t k (es.take s))) w'/\Qk j h w ro' w':=by
  intro v u d;refine⟨.tuple #[],w,h,[],?_,⟨[],rfl,rfl⟩,by grind,Qk.refl _ _ _⟩
  simp_all[execOp,resolve,invoke,builtin]
 rcases e with⟨hn,e⟩|⟨B,p,L,t',m,e,h2,h3,⟨h4,aa⟩,h5,h6⟩
 .simp_all[Builtin.clear_]
 .by_cases hn:n=0
  .simp_all[Builtin.clear_]
  .obtain rfl:=h3 (by omega);obtain⟨l,Q,V⟩:=r.sim.blk b _ _ e hH;have X:=V.length
   let vs:=(Builtin.zeroCells z.cells n).toList
   have ab:vs.length=n*k:=by simp[vs,Builtin.zeroCells,O]
   have J:∀v∈vs,Qz v:=by
    intro v u;simp only[vs,Builtin.zeroCells,Array.toList_map,Xf,Array.toList_range,List.mem_range]at u;obtain⟨i,hi,rfl⟩:=u;have W:0<z.cells.size:=by
     grind
    grind[Nat.mod_lt]
   have ac:s*k+n*k=es.length*k:=by grind
   have d:=Yy (P:=P) (vs:=vs) (s*k) 0 Q (by omega) J;have f:=r.sim.set (x':=.row t k (es.take s)) (obj:=.cells (splice l (s*k) vs).toArray t (0,0)) e hH rfl
    (λy g=>QaJ Q (YO (by omega)) y g)
    (λex M=>⟨_,M,by
     refine(QgT (RL.take s V) ?_).mono ex.nil
     grind[splice]⟩)
   refine⟨.tuple #[],_,h,[],?_,⟨[],rfl,rfl⟩,by grind,f.2⟩;have E:(Builtin.clear_ #[T] o.type #[.slice (some ⟨B,s*k,none⟩) n L]).run P w=.ok (.tuple #[]) {w with heap:=w.heap.setIfInBounds B (.cells (splice l (s*k) vs).toArray t (0,0))}:=by
    obtain⟨R,rfl⟩:∃R,n=R+1:=⟨n-1,by omega⟩;simp only[Xv]at d;simp only[Builtin.clear_,XE,XC,Vg,hu,hz,Result.andThen,d,Vh,vs]
   generalize a.eval=ρ at*;simp only[execOp,ho,resolve,Vg,Vh,Result.andThen,invoke,builtin,XF,Vd,Ve,h2,E]
end
def isNil{α R:Type}[DecidableEq R](l:List α)(x y:Option R):Option R:=bif l.isEmpty then(bif decide (x=y)then x else none)else y
theorem QjQ{α R:Type}[DecidableEq R]{l:List α}{x y:Option R}{r:R}(h:isNil l x y=some r)(b:Bool)(a:l≠[]->b=false):(b=true->x=some r)/\(b=false->y=some r):=by
 unfold isNil at h
 grind
section
variable {P:Program} {o:Oper} {env:Env} {H:Qb} {h0 N:Nat} {Q:QV}
theorem QnY{α:Type}{e:α->List A}{T E k:Nat}{u:TypeId}{x:Operand}{l:List α}(s:P.underlying T=some (.slice E))(j:o.op=.binOp .eql T x (.const (.slice none 0 0)) u)(f:opA env x=.rsl k (l.map e)):
  OpE P o env H (λv H'=>∃b:Bool,v=.bool b/\(l≠[]->b=false)/\H'=H):=by
 intro m h σ N a w r;have d:=Qi r x;rw[f]at d;obtain⟨ad,g,d,p,q⟩:=d;refine⟨.bool ad.isNone,H,.bool ad.isNone,w,h,[],⟨ad.isNone,rfl,λi=>?_,rfl⟩,?_,rfl,by simpa using r.sim,Qk.refl _ _ _⟩
 .grind
 .have n:a.eval (.const (.slice none 0 0))=.slice none 0 0:=rfl
  grind[eqGuard,execOp,Sem.run_bind,Result.andThen,Go.run_eql_slice_nil,Sem.run_pure]
theorem Qkz{α:Type}{e:α->List A}{T E k d:Nat}{u:TypeId}{x:Operand}{l:List α}{all:Array Oper}{L:List Oper}(a:P.underlying T=some (.slice E))(g:opA env x=.rsl k (l.map e))
  (h:∀b,(l≠[]->b=false)->WO P h0 N all L (up env d (.bool b)) H Q)
  (f:o.op=.binOp .eql T x (.const (.slice none 0 0)) u:=by exact rfl)(hg:QA all o env true:=by exact rfl)(hd:o.dst=some d:=by exact rfl)(hN:Nat.blt d N=true:=by exact rfl)(hh:Nat.ble h0 H.length=true:=by exact rfl):WO P h0 N all (o::L) env H Q:=by
 refine QlP (by simp_all) hg hd hN (QnY a f g) ?_
 grind
end
theorem slc0{α:Type}{l x:List α}{i:Int}(h:slc l 0 i=some x):0<=i/\i.toNat<=l.length/\l.take i.toNat=x/\x.length=i.toNat:=by
 obtain⟨_,a,d,e⟩:=Qij h
 grind
section
variable {P:Program} {o:Oper} {env:Env} {H:Qb} {α:Type} {e:α->List A} {T et k b t:Nat} {x y:Operand} {l l':List α} {i:Int}
theorem QgY(h:slc l 0 i=some l')(E1:∀w,(underlying T).run P w=.ok (.slice et) w)(E2:∀w,(sizeOf et).run P w=.ok k w)(a:o.op=.slice T x (some y) none none:=by exact rfl)
  (hx:opA env x=.osl b 0 l.length k:=by exact rfl)(hy:opA env y=.int .i64 i:=by exact rfl):OpV P o env H (.osl b (0+i.toNat) (l.length-i.toNat) k):=by
 obtain⟨e,d,_,_⟩:=slc0 h;exact Qg0 E1 E2 a hx (by grind) (.inl ⟨rfl,rfl⟩) d (XQ _)
theorem QgZ(h:slc l 0 i=some l')(E1:∀w,(underlying T).run P w=.ok (.slice et) w)(E2:∀w,(sizeOf et).run P w=.ok k w)(d:o.op=.slice T x none (some y) none:=by exact rfl)
  (hx:opA env x=.osl b 0 l.length k:=by exact rfl)(hy:opA env y=.int .i64 i:=by exact rfl):OpV P o env H (.osl b 0 l'.length k):=by
 obtain⟨e,a,_,f⟩:=slc0 h;have:=Qg0 (H:=H) E1 E2 d hx (.inl ⟨rfl,rfl⟩) (by grind) (XR _) a
 grind
theorem Qg2{c:Call}{z:Value}(h:slc l 0 i=some l')(m:P.underlying T=some (.slice et))(g:∀w,(zeroValue et).run P w=.ok z w)(d:z.cells.size=k)(a:∀v∈z.cells,Qz v)(f:o.op=.call c:=by exact rfl)(hc:c={callee:=.builtin .clear,args:= #[x],argTypes:= #[T]}:=by exact rfl)
  (hx:opA env x=.osl b (0+i.toNat) (l.length-i.toNat) k:=by exact rfl)(hH:H[b]?=some (.row t k (l.map e)):=by exact rfl):OpH P o env H (.tup []) (H.set b (.row t k (l'.map e))):=by
 obtain⟨n,q,j,p⟩:=slc0 h;refine Qhg m g d a ?_ ?_ f hc hx hH
 .rw[Xu, <- j,List.map_take]
 grind
end
open Go.Sort Go.Proofs Go.Shelf
def ltI(x y:Int):Bool:=decide (x<y)
def sortI(l:List Int):Option (List Int):=bif Nat.ble l.length QC then some (Jh ltI l)else none
theorem Qjn{l l':List Int}(h:sortI l=some l'):l.length<=QC/\Jh ltI l=l':=by
 unfold sortI at h;cases e:Nat.ble l.length QC with
 |false=>grind
 |true=>simp_all
theorem Qab{l l':List Int}(h:sortI l=some l'):l.length=l'.length:=by
 rw[<- (Qjn h).2];exact(Qu _ _).length_eq.symm
theorem QdH(l:List Int):Qfa ltI l:=
 ⟨λx _=>by simp[ltI],λx _ y _ z _ a b=>by simp[ltI]at*;omega,λx _ y _ z _ a b=>by simp[ltI]at*;omega⟩
theorem Qfh(l:List Int):(l.mergeSort λx y=>decide (x<=y))=Jh ltI l:=by
 refine JO ?_ ?_ ?_ (Q2 (QdH l))
 .grind[List.mergeSort_perm,Qu]
 .simp[ltI]at*;omega
 grind[List.pairwise_mergeSort,ltI]
theorem QmP{ro:Nat->Prop}{σ:Sig}{w:World}:∀{l:List Int} {lv:List Value},RL ro σ w 1 (l.map λx=>[A.int .i64 x]) lv->∃rest,lv=l.map (Value.int .i64)++rest
 |[],lv,_=>⟨lv,rfl⟩
 |x::l,lv,h=>by
  obtain⟨l1,l2,rfl,h1,⟨h2,h3⟩,h4⟩:=h;obtain⟨rest,rfl⟩:=QmP h4;obtain⟨v,r,rfl,hv,hr⟩:=h2;cases(show r=[]from hr);exact⟨rest,by rw[show v=.int .i64 x from hv];simp⟩
theorem QgU{ro:Nat->Prop}{σ:Sig}{w:World}:∀(l:List Int) (rest:List Value),RL ro σ w 1 (l.map λx=>[A.int .i64 x]) (l.map (Value.int .i64)++rest)
 |[],_=>trivial
 |x::l,rest=>⟨[.int .i64 x],l.map (Value.int .i64)++rest,by simp,rfl,⟨⟨_,_,rfl,rfl,rfl⟩,by simp[Qz]⟩,QgU l rest⟩
theorem QmY{P:Program}{ρ:Ren}(L:Lays.n189 P ρ){t:Nat}{l l':List Int}(hs:sortI l=some l'):
  C P (ρ.f 189) [.osl 0 0 l.length 1] [.row t 1 (l.map λx=>[A.int .i64 x])] (λa H=>a=.tup []/\H=[.row t 1 (l'.map λx=>[A.int .i64 x])]):=by
 intro Y J σ vals w s hv;obtain⟨vs,r1,rfl,ag,hr⟩:=hv;cases(show r1=[]from hr);obtain⟨R,T⟩:=Qjn hs;have E:∀(ad:Option Addr) (c:Nat),vs=.slice ad 0 c->l=[]->
   Calls P (ρ.f 189) [vs].toArray w λe M=>∃v r H' ro' τ,e=.returned v/\(r=.tup []/\H'=[.row t 1 (l'.map λx=>[A.int .i64 x])])/\Sim Y ro' (σ++τ) H' M/\VR ro' (σ++τ) M r v/\Qk Y J w ro' M:=by
  rintro ad c rfl rfl;have B:l'=[]:=by rw[<- T];rfl
  subst B;refine(Any.slices_Sort_int_none L ad c w).mono ?_;rintro e M ⟨rfl,rfl⟩;exact⟨_,_,_,J,[],rfl,⟨rfl,rfl⟩,by simpa using s,⟨[],rfl,rfl⟩,Qk.refl _ _ _⟩
 rcases ag with⟨h0,rfl⟩|⟨b,p,cp,t',m,q1,rfl,q2,⟨q3,ai⟩,q4,q5⟩
 .grind
 .by_cases B:l=[]
  .grind
  .have ae:0<l.length:=List.length_pos_iff.2 B;obtain rfl:=q2 (X9 ae q3);obtain⟨lv,e1,e2⟩:=s.blk 0 _ _ q1 rfl;obtain⟨hb,V,X⟩:=s.own 0 b _ q1 rfl rfl;obtain⟨g,rfl⟩:=QmP e2;have hH:Holds (Value.int .i64) w b 0 l.toArray:=by
    intro j hj
    simp_all[World.cell?,XJ,World.frozen?]
   have d:=Any.slices_Sort_int L b 0 cp l w hH hb (by unfold QC at R;omega);rw[Qfh,T]at d;simp only[Nat.zero_mul]at d⊢;refine d.mono ?_;rintro e M ⟨rfl,n,os,rfl⟩;have aj:l.length=l'.length:=Qab hs;generalize hW:grow (putRow (Value.int .i64) (Sort.ahead w n) b 0 l'.toArray) os=W;have ah:W.heap=w.heap.setIfInBounds b (.cells ((l'.map (Value.int .i64)++g)).toArray t (0,0))++os:=by
    rw[<- hW];show(w.heap.modify b _)++os=_;rw[Qbs e1];simp only[onCells];congr 3;unfold putCells
    grind
   have g1:∀c,c<w.heap.size->c≠b->W.heap[c]?=w.heap[c]? :=by
    grind
   have g2:W.heap[b]?=some (.cells ((l'.map (Value.int .i64)++g)).toArray t (0,0)):=by
    grind
   have g3:w.heap.size<=W.heap.size:=by grind
   have k:∀c y,w.shape? c=some y->W.shape? c=some y:=by
    grind[World.shape?]
   have ab:W.os=w.os:=by rw[<- hW];rfl
   have ac:W.tape=w.tape:=by rw[<- hW];rfl
   have aa:W.output=w.output:=by rw[<- hW];rfl
   have af:w.drawn<=W.drawn:=by rw[<- hW];exact Nat.le_add_right _ _
   have O:Qk Y J w J W:=
    ⟨λ_ q=>q,λc u=>g1 c (s.roLt c u) (λq=>V (q▸u)),λc u=>g1 c (s.frLt c u) (λq=>X (q▸u)),g3,k,ab,ac,aa,af⟩
   have z:σ.length=1:=s.len;have N:Sim Y J σ [.row t 1 (l'.map λx=>[A.int .i64 x])] W:=by
    have Q:∀{i:Nat} {x:Blk},([.row t 1 (l'.map λx=>[A.int .i64 x])]:Qb)[i]?=some x->i=0/\x=.row t 1 (l'.map λx=>[A.int .i64 x]):=by
     intro i x h;cases i with
     |zero=>simp at h;exact⟨rfl,h.symm⟩
     |succ i=>simp at h
    refine⟨z,s.roOk.to (λ_ q=>q) O.keepRo (λc u=>X9 (s.roLt c u) g3),λc u=>X9 (s.frLt c u) g3,s.roFr,λi c x F G h3=>?_,λi j c x y F G h3 h4 _ _=>?_,λi y x F G=>?_,λi b x c F G h3=>by obtain⟨rfl,rfl⟩:=Q G;exact h3.elim⟩
    .obtain⟨rfl,rfl⟩:=Q G;obtain⟨p1,p2⟩:=s.own 0 c _ F rfl rfl;exact⟨X9 p1 g3,p2⟩
    .rw[(Q h3).1,(Q h4).1]
    .obtain⟨rfl,rfl⟩:=Q G;rw[q1]at F;cases F;exact⟨_,g2,QgU l' g⟩
   exact⟨_,_,_,J,[],rfl,⟨rfl,rfl⟩,by simpa using N,⟨[],rfl,rfl⟩,O⟩
section
variable {P:Program} {o:Oper} {env:Env} {H:Qb} {α:Type} {e:α->List A} {T et k b t:Nat} {x y:Operand}
theorem Q6{lo hi:Option Operand}{l r:List α}{a c:Int}(h:slc l a c=some r)(E1:∀w,(underlying T).run P w=.ok (.slice et) w)(E2:∀w,(sizeOf et).run P w=.ok k w)
  (e:lo=none/\a=0\/ ∃y,lo=some y/\opA env y=.int .i64 a)(f:hi=none/\c=l.length\/ ∃y,hi=some y/\opA env y=.int .i64 c)
  (d:o.op=.slice T x lo hi none:=by exact rfl)(hx:opA env x=.osl b 0 l.length k:=by exact rfl):OpV P o env H (.osl b (0+a.toNat) (c.toNat-a.toNat) k):=by
 obtain⟨i,g,j,_⟩:=Qij h;refine Qg0 E1 E2 d hx ?_ ?_ (by omega) (by omega)
 .grind
 grind
theorem QeE{l r:List α}{a c:Int}(h:slc l a c=some r)(hH:H[b]?=some (.row t k (l.map e)):=by exact rfl):Src P H (.osl b (0+a.toNat) (c.toNat-a.toNat) k) k (r.map e):=by
 obtain⟨g,f,i,d⟩:=Qij h;refine Src.osl hH ?_ (by grind);rw[<- d, <- List.map_drop, <- List.map_take,Xu,List.drop_take]
end
end Go.Sw
namespace Go.Sw
inductive Bx where
 |mk (a:A)
def lkB:Env->Nat->Bx
 |[],_=>.mk .any
 |(d,a)::r,s=>bif Nat.beq s d then .mk a else lkB r s
theorem Qlh:∀{env:Env} {s:Nat} {a:A},lkB env s=.mk a->lk env s=a
 |[],s,a,h=>by cases h;rfl
 |(d,b)::r,s,a,h=>by
  unfold lkB at h;unfold lk;cases q:Nat.beq s d with
  |true=>grind
  |false=>rw[q]at h;exact Qlh h
inductive FBy where
 |mk (l:List UInt8)
def fby:List UInt8->FBy
 |[]=>.mk []
 |a::r=>match fby r with
  |.mk r'=>.mk (a::r')
theorem QoX:∀l,fby l=.mk l
 |[]=>rfl
 |a::r=>by unfold fby;rw[QoX r]
def opB(env:Env):Operand->Bx
 |.tmp t=>lkB env t
 |.const (.bool b)=>.mk (.bool b)
 |.const (.int k n)=>.mk (.int k n)
 |.const (.string s)=>match fby s.data.toList with
  |.mk l=>.mk (.str l)
 |.const (.pointer none)=>.mk .nilp
 |.const (.slice none 0 0)=>.mk .nils
 |.const (.map none)=>.mk .nilm
 |.const .nilFunc=>.mk .nilf
 |.const .nilIface=>.mk .nilif
 |.func f=>.mk (.fn (.func f) [] [])
 |_=>.mk .any
theorem QS{env:Env}{x:Operand}{a:A}(h:opB env x=.mk a):opA env x=a:=by
 cases x with
 |tmp t=>exact Qlh h
 |const v=>
  cases v with
  |slice b n k=>cases b with
   |none=>cases n with
    |zero=>cases k<;>(cases h;rfl)
    |succ n=>cases h;rfl
   |some b=>cases h;rfl
  |pointer p=>cases p<;>(cases h;rfl)
  |map p=>cases p<;>(cases h;rfl)
  |string s=>
   have d:(match fby s.data.toList with|.mk l=>Bx.mk (.str l))=.mk a:=h;rw[QoX]at d;cases d;rfl
  |_=>cases h;rfl
 |global g=>cases h;rfl
 |func f=>cases h;rfl
def Jb{α:Type}:List α->Nat->Option α
 |[],_=>none
 |a::_,0=>some a
 |_::r,n+1=>Jb r n
theorem QaC{α:Type}:∀(l:List α) (n:Nat),Jb l n=l[n]?
 |[],n=>by simp[Jb]
 |a::r,0=>rfl
 |a::r,n+1=>by simp[Jb,QaC r n]
def arB:BinOp->IntKind->Int->Int->Option A
 |.add,k,m,n=>some (.int k (k.wrap (m+n)))
 |.sub,k,m,n=>some (.int k (k.wrap (m-n)))
 |.mul,k,m,n=>some (.int k (k.wrap (m*n)))
 |.eql,_,m,n=>some (.bool (m==n))
 |.neq,_,m,n=>some (.bool (m != n))
 |.lss,_,m,n=>some (.bool (decide (m<n)))
 |.leq,_,m,n=>some (.bool (decide (m<=n)))
 |.gtr,_,m,n=>some (.bool (decide (n<m)))
 |.geq,_,m,n=>some (.bool (decide (n<=m)))
 |_,_,_,_=>none
def srB:BinOp->List UInt8->List UInt8->Option A
 |.eql,p,q=>some (.bool (p==q))
 |.neq,p,q=>some (.bool (p != q))
 |.lss,p,q=>some (.bool (Op.bytesLess p q))
 |_,_,_=>none
def biB(b:BinOp):Bx->Bx->Option A
 |.mk (.int k m),.mk (.int k' n)=>if k=k' then arB b k m n else none
 |.mk (.str p),.mk (.str q)=>srB b p q
 |_,_=>none
def unB:UnOp->Bx->Option A
 |.not,.mk (.bool b)=>some (.bool !b)
 |.neg,.mk (.int k n)=>some (.int k (k.wrap (0-n)))
 |_,_=>none
def exB:Bx->Nat->Option A
 |.mk (.tup vs),i=>Jb vs i
 |_,_=>none
def nlB:Bx->Option A
 |.mk (.ptr i j)=>some (.ptr i j)
 |.mk (.rp cs)=>some (.rp cs)
 |_=>none
def piB:Bx->Bx->Bx->Option A
 |.mk (.bool true),.mk a,_=>some a
 |.mk (.bool false),_,.mk a=>some a
 |_,_,_=>none
def svB(env:Env):Op->Option A
 |.move x=>match opB env x with|.mk a=>some a
 |.assign x=>match opB env x with|.mk a=>some a
 |.nilCheck x=>nlB (opB env x)
 |.extract x i=>exB (opB env x) i
 |.unOp u _ x=>unB u (opB env x)
 |.pick c x y=>piB (opB env c) (opB env x) (opB env y)
 |.binOp b _ x y _=>biB b (opB env x) (opB env y)
 |_=>none
def pr(d:Nat):Option A->Option (Nat×A)
 |some a=>some (d,a)
 |none=>none
def stB(o:Oper)(env:Env):Option (Nat×A):=
 match o.dst with
 |some d=>pr d (svB env o.op)
 |none=>none
section
variable {P:Program} {h0 N:Nat} {all:Array Oper} {o:Oper} {l:List Oper} {env:Env} {H H':Qb} {Q:QV} {d:Nat} {x:A}
theorem Qb6{p:Op}(g:o.op=p)(h:svB env p=some x):OpV P o env H x:=by
 unfold svB at h;split at h
 .rename_i y;cases q:opB env y with|mk a=>simp_all[OpV.move,QS]
 .rename_i y;cases q:opB env y with|mk a=>simp_all[OpV.assign,QS]
 .rename_i y;unfold nlB at h;split at h
  .rename_i i j q;cases h;exact YV g (QS q) rfl
  .rename_i s q;cases h;exact YV g (QS q) rfl
  .cases h
 .rename_i y i;unfold exB at h
  grind[QaC,OpV.extract,QS]
 .rename_i u t y;unfold unB at h
  grind[OpV.not,QS,OpV.neg]
 .rename_i c y z;unfold piB at h;split at h
  .rename_i a _ d f;cases h;exact OpV.pick g (QS d) (by rw[Vm rfl];exact QS f)
  .rename_i a d f;cases h;exact OpV.pick g (QS d) (by exact QS f)
  .cases h
 .rename_i b t y z u;unfold biB at h;split at h
  .rename_i k m w n d f;split at h
   .rename_i e;subst e;have l:=QS d;have r:=QS f;unfold arB at h
    grind[OpV.add,OpV.sub,OpV.mul,OpV.eql,OpV.neq,OpV.lss,OpV.leq,OpV.gtr,OpV.geq]
   .cases h
  .rename_i p q d f;have l:=QS d;have r:=QS f;unfold srB at h
   grind[QeJ,QnP,QnQ]
  .cases h
 .cases h
theorem Qii(h:stB o env=some (d,x)):o.dst=some d/\OpV P o env H x:=by
 unfold stB at h;split at h
 .rename_i f q;cases e:svB env o.op with
  |none=>rw[e]at h;cases h
  |some a=>rw[e]at h;cases h;exact⟨q,Qb6 rfl e⟩
 .cases h
theorem S(e:stB o env=some (d,x))(k:WO P h0 N all l (up env d x) H Q)(hg:QA all o env true:=by exact rfl)(hN:Nat.blt d N=true:=by exact rfl):WO P h0 N all (o::l) env H Q:=
 QP hg (Qii (P:=P) (H:=H) e).1 hN (Qii e).2 k
theorem Sg(hg:QA all o env true)(e:stB o env=some (d,x))(k:WO P h0 N all l (up env d x) H Q)(a:Nat.blt d N=true:=by exact rfl):WO P h0 N all (o::l) env H Q:=
 QP hg (Qii (P:=P) (H:=H) e).1 a (Qii e).2 k
theorem K(hg:QA all o env false)(a:o.dst=some d)(k:WO P h0 N all l (up env d (.tup [])) H Q)(e:Nat.blt d N=true:=by exact rfl):WO P h0 N all (o::l) env H Q:=
 WO.skip hg a e k
theorem KF{j s:Nat}{c y:Bool}(f:y= !c)(a:o.dst=some d)(k:WO P h0 N all l (up env d (.tup [])) H Q)(e:Nat.blt d N=true:=by exact rfl)(hg:o.guard=some (j,c):=by exact rfl)(hs:(all[j]?).bind (·.dst)=some s:=by exact rfl)(hl:lk env s=.bool y:=by exact rfl):WO P h0 N all (o::l) env H Q:=
 WO.skip (gF f hg hs hl) a e k
def p2B(v:Bool):Bx->Bx->Bx->Option (Bool×A)
 |.mk (.bool b),.mk a,.mk a'=>match v with|true=>some (b,a)|false=>some (b,a')
 |_,_,_=>none
def pr2(d:Nat):Option (Bool×A)->Option (Nat×Bool×A)
 |some a=>some (d,a)
 |none=>none
def pkB(v:Bool)(o:Oper)(env:Env):Option (Nat×Bool×A):=
 match o.dst,o.op with
 |some d,.pick c x y=>pr2 d (p2B v (opB env c) (opB env x) (opB env y))
 |_,_=>none
theorem Qre{v b:Bool}{p q r:Bx}(h:p2B v p q r=some (b,x)):∃a a',p=.mk (.bool b)/\q=.mk a/\r=.mk a'/\(bif v then a else a')=x:=by
 obtain⟨p⟩:=p;obtain⟨q⟩:=q;obtain⟨r⟩:=r;cases p<;>first|(cases h)|skip
 cases v<;>cases h<;>exact(by simp)
theorem Qoo{v b:Bool}(h:pkB v o env=some (d,b,x))(i:b=v):o.dst=some d/\OpV P o env H x:=by
 unfold pkB at h;split at h
 .rename_i p c y z g k;cases e:p2B v (opB env c) (opB env y) (opB env z)with
  |none=>rw[e]at h;cases h
  |some s=>
   rw[e]at h;cases h;obtain⟨a,n,l,j,m,f⟩:=Qre e
   grind[OpV.pick,QS]
 .cases h
theorem Pk{v b:Bool}(a:b=v)(e:pkB v o env=some (d,b,x))(k:WO P h0 N all l (up env d x) H Q)(hg:QA all o env true:=by exact rfl)(hN:Nat.blt d N=true:=by exact rfl):WO P h0 N all (o::l) env H Q:=
 QP hg (Qoo (P:=P) (H:=H) e a).1 hN (Qoo e a).2 k
def fpB(o:Oper)(env:Env):Option (Nat×Nat×Nat×Nat×Nat):=
 match o.dst,o.op with
 |some d,.fieldAddr T x f=>match opB env x with
  |.mk (.ptr i p)=>some (d,T,f,i,p)
  |_=>none
 |_,_=>none
theorem Qiz{T f off n i p:Nat}(a:QI P T f off n)(h:fpB o env=some (d,T,f,i,p)):o.dst=some d/\OpV P o env H (.ptr i (p+off)):=by
 grind[fpB,YJ,QS]
theorem Fp{T f off n i p:Nat}(a:QI P T f off n)(e:fpB o env=some (d,T,f,i,p))(k:WO P h0 N all l (up env d (.ptr i (p+off))) H Q)(hg:QA all o env true:=by exact rfl)(hN:Nat.blt d N=true:=by exact rfl):WO P h0 N all (o::l) env H Q:=
 QP hg (Qiz (H:=H) a e).1 hN (Qiz a e).2 k
theorem Fpg{T f off n i p:Nat}(hg:QA all o env true)(a:QI P T f off n)(e:fpB o env=some (d,T,f,i,p))(k:WO P h0 N all l (up env d (.ptr i (p+off))) H Q)(g:Nat.blt d N=true:=by exact rfl):WO P h0 N all (o::l) env H Q:=
 QP hg (Qiz (H:=H) a e).1 g (Qiz a e).2 k
inductive Lx where
 |mk (l:List A)
def QgM:Nat->List A->Lx
 |0,l=>.mk l
 |n+1,_::r=>QgM n r
 |_+1,[]=>.mk []
theorem QdY:∀{n:Nat} {l r:List A},QgM n l=.mk r->l.drop n=r
 |0,l,r,h=>by cases h;rfl
 |n+1,a::l,r,h=>by rw[List.drop_succ_cons];exact QdY h
 |n+1,[],r,h=>by cases h;rfl
def frB(off:Nat)(o:Oper)(env:Env):Option (Nat×Nat×Nat×List A):=
 match o.dst,o.op with
 |some d,.fieldAddr T x f=>match opB env x with
  |.mk (.rp cs)=>match QgM off cs with
   |.mk r=>some (d,T,f,r)
  |_=>none
 |_,_=>none
theorem QoP{T f off n:Nat}{r:List A}(g:QI P T f off n)(h:frB off o env=some (d,T,f,r)):o.dst=some d/\OpV P o env H (.rp r):=by
 unfold frB at h;split at h
 .split at h
  .rename_i a i;cases e:QgM off a with|mk r'=>rw[e]at h;grind[QD,QS,QdY]
  .cases h
 .cases h
theorem Fr{T f off n:Nat}{r:List A}(a:QI P T f off n)(e:frB off o env=some (d,T,f,r))(k:WO P h0 N all l (up env d (.rp r)) H Q)(hg:QA all o env true:=by exact rfl)(hN:Nat.blt d N=true:=by exact rfl):WO P h0 N all (o::l) env H Q:=
 QP hg (QoP (H:=H) a e).1 hN (QoP a e).2 k
def ctB:Option Blk->Nat->Option A
 |some (.cells _ cs),off=>Jb cs off
 |_,_=>none
def lvB(H:Qb):Bx->Option A
 |.mk (.ptr i off)=>ctB (Jb H i) off
 |.mk (.rp (a::_))=>some a
 |_=>none
def pr3(d t:Nat):Option A->Option (Nat×Nat×A)
 |some a=>some (d,t,a)
 |none=>none
def ldB(o:Oper)(env:Env)(H:Qb):Option (Nat×Nat×A):=
 match o.dst,o.op with
 |some d,.load t x=>pr3 d t (lvB H (opB env x))
 |_,_=>none
theorem Qiv{t:Nat}(k:∀w,(isAgg t).run P w=.ok false w)(h:ldB o env H=some (d,t,x)):o.dst=some d/\OpV P o env H x:=by
 unfold ldB at h;split at h
 .rename_i u q y n l;cases e:lvB H (opB env y)with
  |none=>rw[e]at h;cases h
  |some a=>
   rw[e]at h;cases h;refine⟨n,?_⟩;unfold lvB at e;split at e
   .rename_i i f j;unfold ctB at e;split at e
    .rename_i f s T0 T cs q4;rw[QaC]at e q4;obtain⟨g,m⟩:∃g,cs.drop f=x::g:=by
      have p:=(XI.1 e).1
      simp_all[Xp]
     exact OpV.load l k (QS j) (Pts.cells q4 m)
    .cases e
   .rename_i a r j;cases e;exact OpV.load l k (QS j) Pts.rp
   .cases e
 .cases h
theorem Ld{t:Nat}(a:∀w,(isAgg t).run P w=.ok false w)(e:ldB o env H=some (d,t,x))(k:WO P h0 N all l (up env d x) H Q)(hg:QA all o env true:=by exact rfl)(hN:Nat.blt d N=true:=by exact rfl):WO P h0 N all (o::l) env H Q:=
 QP hg (Qiv a e).1 hN (Qiv a e).2 k
theorem Ldg{t:Nat}(hg:QA all o env true)(a:∀w,(isAgg t).run P w=.ok false w)(e:ldB o env H=some (d,t,x))(k:WO P h0 N all l (up env d x) H Q)(f:Nat.blt d N=true:=by exact rfl):WO P h0 N all (o::l) env H Q:=
 QP hg (Qiv a e).1 f (Qiv a e).2 k
def ixB(o:Oper)(env:Env):Option (Nat×Nat×Nat×List (List A)×IntKind×Int):=
 match o.dst,o.op with
 |some d,.indexAddr t x y=>match opB env x,opB env y with
  |.mk (.rsl k es),.mk (.int kk i)=>some (d,t,k,es,kk,i)
  |_,_=>none
 |_,_=>none
theorem Ix{α:Type}{e:α->List A}{t a k:Nat}{L:List α}{r:IntKind}{i:Int}{v:α}(h:idx L i=some v)(j:∀w,(underlying t).run P w=.ok (.slice a) w)(m:∀w,(sizeOf a).run P w=.ok k w)
  (q:ixB o env=some (d,t,k,L.map e,r,i))(k:WO P h0 N all l (up env d (.rp (e v))) H Q)(hg:QA all o env true:=by exact rfl)(hN:Nat.blt d N=true:=by exact rfl):WO P h0 N all (o::l) env H Q:=by
 unfold ixB at q;split at q
 .rename_i f n;split at q
  .rename_i g s;simp[Option.some.injEq,Prod.mk.injEq]at q;obtain⟨rfl,rfl,rfl,p,rfl,rfl⟩:=q;exact QP hg f hN (QcL h j m n (by rw[QS g,p]) (QS s)) k
  .cases q
 .cases q
def lnB(o:Oper)(env:Env):Option (Nat×Nat×Bx):=
 match o.dst,o.op with
 |some d,.call c=>match c with
  |{callee:=.builtin .len,args:=⟨[x]⟩,argTypes:=⟨[t]⟩}=>some (d,t,opB env x)
  |_=>none
 |_,_=>none
theorem Qrm{t:Nat}{b:Bx}(q:lnB o env=some (d,t,b)):∃x,o.dst=some d/\o.op=.call {callee:=.builtin .len,args:= #[x],argTypes:= #[t]}/\opB env x=b:=by
 unfold lnB at q
 grind
theorem LnM{α:Type}{e:α->List A}{t a k:Nat}{L:List α}(i:∀w,(underlying t).run P w=.ok (.slice a) w)(q:lnB o env=some (d,t,.mk (.rsl k (L.map e))))
  (k:WO P h0 N all l (up env d (.int .i64 L.length)) H Q)(hg:QA all o env true:=by exact rfl)(hN:Nat.blt d N=true:=by exact rfl):WO P h0 N all (o::l) env H Q:=by
 obtain⟨x,f,g,h⟩:=Qrm q;exact QP hg f hN (QpC i g rfl (QS h)) k
end
section
variable {P:Program} {h0 N:Nat} {all:Array Oper} {env env':Env} {H H':Qb} {Q:QV} {c c':Code}
theorem Oi{α:Type}{x y:α}(h:some x=some y):x=y:=XV h
theorem Bd{α β:Type}{x:Option α}{f:α->Option β}{r:β}{G:Prop}(h:x.bind f=some r)(k:∀a,x=some a->f a=some r->G):G:=by
 obtain⟨a,d,e⟩:=YB h
 grind
theorem If{α:Type}{c:Bool}{x y:Option α}{r:α}{G:Prop}(h:(bif c then x else y)=some r)(t:c=true->x=some r->G)(e:c=false->y=some r->G):G:=by
 grind
theorem Cn{α:Type}{x:Operand}{t:Bool}{p q:Option α}{r:α}(hx:opB env x=.mk (.bool t))(h:(bif t then p else q)=some r)(ht:t=true->p=some r->TC P h0 N c env H Q)(hf:t=false->q=some r->TC P h0 N c' env H Q):TC P h0 N (.cond x c c') env H Q:=
 TC.cond (QS hx) (by grind) (by grind)
theorem Yd{α:Type}{x:Operand}{t:Bool}{p q:Option α}{r:α}(hx:opB env x=.mk (.bool t))(h:(bif t then p else q)=some r)(hf:t=false->q=some r->TC P h0 N c' env H Q)(ht:t=true->p=some r->TC P h0 N c env H Q):TC P h0 N (.cond x c c') env H Q:=
 TC.cond (QS hx) (by grind) (by grind)
theorem Lr(π:List Nat)(a:π.take h0=List.range h0:=by exact rfl)(hH:π.map (λp=>H[p]?)=(H'.map (Yi (rho π H.length))).map some:=by exact rfl)(hπ:π.Nodup:=by decide)
  (hE:Qb1 (rho π H.length) env env':=by(repeat' (first|exact trivial|refine⟨rfl,?_⟩))):Le h0 env H env' H':=QpI π a hH hπ hE
end
def Ev{α:Type}(f:Nat->Option α)(v:α):Prop:=∃N,∀n,N<=n->f n=some v
section
variable {α β:Type} {f g:Nat->Option α} {v w:α}
theorem Qa(v:α):Ev (λ_=>some v) v:=⟨0,λ_ _=>rfl⟩
theorem Ev.const{o:Option α}(h:o=some v):Ev (λ_=>o) v:=⟨0,λ_ _=>h⟩
theorem Ev.bind{k:Nat->α->Option β}{b:β}(h:Ev f v)(a:Ev (λn=>k n v) b):Ev (λn=>(f n).bind (k n)) b:=by
 obtain⟨N,h⟩:=h;obtain⟨M,a⟩:=a;exact⟨max N M,λn d=>by grind⟩
theorem J5{o:Option α}{k:Nat->α->Option β}{b:β}(h:o=some v)(hk:Ev (λn=>k n v) b):Ev (λn=>o.bind (k n)) b:=Ev.bind (Ev.const h) hk
theorem QbZ{c:Bool}(d:c=true->Ev f v)(a:c=false->Ev g w):Ev (λn=>bif c then f n else g n) (bif c then v else w):=by
 cases c with
 |true=>exact d rfl
 |false=>exact a rfl
theorem QmV(h:Ev f v):Ev (λn=>bif true then f n else g n) v:=h
theorem Yf(h:Ev g v):Ev (λn=>bif false then f n else g n) v:=h
theorem Ql{c d:Bool}{h:Nat->Option Bool}(a:c=true->Ev h d):Ev (λn=>bif c then h n else some false) (c&&d):=by
 cases c with
 |true=>exact a rfl
 |false=>exact Qa _
theorem Ev.or{c d:Bool}{h:Nat->Option Bool}(a:c=false->Ev h d):Ev (λn=>bif c then some true else h n) (c||d):=by
 cases c with
 |true=>exact Qa _
 |false=>exact a rfl
theorem Ev.eq(h:Ev f v)(e:v=w):Ev f w:=e▸h
theorem Ym(h:Ev f v)(e:∀n,g n=f n):Ev g v:=by
 obtain⟨N,h⟩:=h;exact⟨N,λn a=>by grind⟩
theorem QJ(h:Ev (λn=>f (n+1)) v):Ev f v:=by
 obtain⟨N,h⟩:=h;refine⟨N+1,λn a=>?_⟩;obtain⟨m,rfl⟩:∃m,n=m+1:=⟨n-1,by omega⟩
 grind
theorem Ev.ex(h:Ev f v):∃n,f n=some v:=let⟨N,h⟩:=h;⟨N,h N (XQ _)⟩
theorem Ev.all{k:Nat}{F:Nat->Nat->Option α}{V:Nat->α}(h:∀i,i<k->Ev (F i) (V i)):∃N,∀n,N<=n->∀i,i<k->F i n=some (V i):=by
 induction k with
 |zero=>simp
 |succ k a=>
  obtain⟨N,f⟩:=a (by grind);obtain⟨M,g⟩:=h k (by omega);refine⟨max N M,λn e i d=>?_⟩
  grind
end
section
variable {S B α:Type} {step:Nat->S->Option (Ctl S B)}
theorem Ev.iter{a:S}(st:Nat->S)(k:Nat){b:B}(h0:st 0=a)(d:∀i,i<k->Ev (λn=>step n (st i)) (.cont (st (i+1))))(e:Ev (λn=>step n (st k)) (.done b)):
  Ev (λn=>Go.Sw.iter (step n) n a) b:=by
 obtain⟨N,g⟩:=Ev.all d;obtain⟨M,f⟩:=e;exact⟨max (max N M) (k+1),λn h=>QoH a st b k h0 (by grind) (f n (by omega)) n (by omega)⟩
theorem QcO{step:S->Option (Ctl S B)}{s:S}{b:B}(m:Nat)(h:Go.Sw.iter step m s=some b):Ev (λn=>Go.Sw.iter step n s) b:=by
 have mono:∀m s,Go.Sw.iter step m s=some b->∀n,m<=n->Go.Sw.iter step n s=some b:=by
  intro m
  induction m with
  |zero=>intro s h;cases h
  |succ m e=>
   intro s h n d;obtain⟨a,rfl⟩:∃a,n=a+1:=⟨n-1,by omega⟩
   grind[Go.Sw.iter]
 exact⟨m,(by grind)⟩
structure At (l:List α) (i:Nat) (x:α):Prop where
 get:l[i]?=some x
 lt:decide ((i:Int)<(l.length:Int))=true
 ix:idx l (i:Int)=some x
 nx:IntKind.i64.wrap ((i:Int)+1)=((i+1:Nat):Int)
theorem JH{l:List α}{i:Nat}{x:α}(hl:l.length<=4611686018427387904)(h:l[i]?=some x):At l i x:=by
 have a:=(XI.1 h).1;exact⟨h,(by grind),YX h,Yh (by omega)⟩
theorem At.mem{l:List α}{i:Nat}{x:α}(h:At l i x):x∈l:=VB h.get
theorem At.lt'{l:List α}{i:Nat}{x:α}(h:At l i x):i<l.length:=(XI.1 h.get).1
theorem At.take{l:List α}{i:Nat}{x:α}(h:At l i x):l.take (i+1)=l.take i++[x]:=by
 rw[List.take_add_one,h.get];rfl
theorem Qcm(l:List α):decide ((l.length:Int)<(l.length:Int))=false:=(by simp)
theorem Ju{g:S}(l:List α)(q:α->Bool)(st:Nat->S)(m b:B)(hl:l.length<=4611686018427387904)(h0:st 0=g)
  (r:∀i x,At l i x->q x=false->Ev (λn=>step n (st i)) (.cont (st (i+1))))
  (a:∀i x,At l i x->q x=true->Ev (λn=>step n (st i)) (.done m))
  (t:Ev (λn=>step n (st l.length)) (.done b)):Ev (λn=>Go.Sw.iter (step n) n g) (bif l.any q then m else b):=by
 have d:∀k,k<=l.length->(∀i x,l[i]?=some x->i<k->q x=false)\/ ∃i x,l[i]?=some x/\i<k/\q x=true/\ ∀j y,l[j]?=some y->j<i->q y=false:=by
  intro k
  induction k with
  |zero=>simp
  |succ k w=>
   grind
 rcases d l.length (XQ _)with h|⟨i,x,p,z,s,u⟩
 .have:l.any q=false:=by
   rw[VG];intro e;obtain⟨x,a,e⟩:=Xt.1 e;obtain⟨i,f,rfl⟩:=List.getElem_of_mem a
   grind
  rw[this];exact Ev.iter st l.length h0 (λi f=>r i _ (JH hl (XH f)) (by grind)) t
 .have:l.any q=true:=(by grind);rw[this];refine Ev.iter st i h0 (λj E=>?_) (a i x (JH hl p) s)
  grind[JH]
theorem QB{β:Type}{h:S}(l:List α)(g:β->α->β)(d:β)(st:β->Nat->S)(e:β->B)(hl:l.length<=4611686018427387904)(h0:st d 0=h)
  (j:∀i x a,At l i x->a=(l.take i).foldl g d->Ev (λn=>step n (st a i)) (.cont (st (g a x) (i+1))))
  (m:Ev (λn=>step n (st (l.foldl g d) l.length)) (.done (e (l.foldl g d)))):Ev (λn=>Go.Sw.iter (step n) n h) (e (l.foldl g d)):=by
 refine Ev.iter (λi=>st ((l.take i).foldl g d) i) l.length (by grind) (λi k=>?_) (by grind);have f:=JH hl (XH k);have:=j i _ _ f rfl;rw[f.take,List.foldl_append];exact this
theorem Ev.contains(l:List α)(q:α->Bool)(g:Nat->α->Option Bool)(hl:l.length<=4611686018427387904)(hg:∀x∈l,Ev (λn=>g n x) (q x)):
  Ev (λn=>(((Go.Sw.iter (λs:Int=>bif decide (s<(l.length:Int))then(idx l s).bind λx=>(g n x).bind λr=>(bif r then some (Ctl.done (Ctl.done s))else some (Ctl.cont (IntKind.i64.wrap (s+1))))else some (Ctl.done (Ctl.cont ()))) n (0:Int):Option (Ctl Unit Int)).bind λb=>
   match b with
   |.cont _=>some (-1)
   |.done s=>some s):Option Int).bind λr=>some (decide (0<=r))) (l.any q):=by
 cases e:l.any q with
 |false=>
  refine Ev.bind (v:=(-1:Int)) (Ev.bind (v:=Ctl.cont ()) (Ev.iter (λi=>(i:Int)) l.length rfl (λi u=>?_) ?_) (Qa _)) (Qa _)
  .have a:=JH (x:=l[i]) hl (XH u);simp only[a.lt,Vi,a.ix,XG];have z:q l[i]=false:=by
    grind
   refine Ev.bind ((hg _ a.mem).eq z) ?_;simp only[Vj,a.nx];exact Qa _
  simp_all[Qa]
 |true=>
  obtain⟨x,t,h⟩:=Xt.1 e;have d:∀k,k<=l.length->(∀(i:Nat) (x:α),l[i]?=some x->i<k->q x=false)\/ ∃(i:Nat) (x:α),l[i]?=some x/\i<k/\q x=true/\ ∀(j:Nat) (y:α),l[j]?=some y->j<i->q y=false:=by
   intro k
   induction k with
   |zero=>simp
   |succ k E=>
    grind
  rcases d l.length (XQ _)with B|⟨i,x,m,F,w,p⟩
  .obtain⟨j,f,rfl⟩:=List.getElem_of_mem t
   grind
  .refine Ev.bind (v:=(i:Int)) (Ev.bind (v:=Ctl.done (i:Int)) (Ev.iter (λi=>(i:Int)) i rfl (λj f=>?_) ?_) (Qa _)) ?_
   .have a:=JH (x:=l[j]) hl (XH (by omega));simp only[a.lt,Vi,a.ix,XG];refine Ev.bind ((hg _ a.mem).eq (p j _ a.get f)) ?_;simp only[Vj,a.nx];exact Qa _
   .have a:=JH hl m;simp only[a.lt,Vi,a.ix,XG];refine Ev.bind ((hg _ a.mem).eq w) ?_;exact Qa _
   simp_all[Qa]
end
section
variable {S B α:Type} {step:Nat->S->Option (Ctl S B)}
theorem Qi6{e:S}(st:Nat->S)(k:Nat)(R:Nat->B)(h0:st 0=e)(r:∀i,i<k->(Ev (λn=>step n (st i)) (.cont (st (i+1)))/\R i=R (i+1))\/Ev (λn=>step n (st i)) (.done (R i)))
  (p:Ev (λn=>step n (st k)) (.done (R k))):Ev (λn=>Go.Sw.iter (step n) n e) (R 0):=by
 have d:∀m,m<=k->(∀i,i<m->Ev (λn=>step n (st i)) (.cont (st (i+1)))/\R i=R (i+1))\/ ∃j,j<m/\(∀i,i<j->Ev (λn=>step n (st i)) (.cont (st (i+1)))/\R i=R (i+1))/\Ev (λn=>step n (st j)) (.done (R j)):=by
  intro m
  induction m with
  |zero=>simp
  |succ m f=>
   grind
 have same:∀m,(∀i,i<m->R i=R (i+1))->R 0=R m:=by
  intro m
  induction m with
  |zero=>intro _;rfl
  |succ m f=>grind
 rcases d k (XQ _)with h|⟨j,q,g,l⟩
 .rw[same k λi a=>(h i a).2];exact Ev.iter st k h0 (by grind) p
 .rw[same j λi a=>(g i a).2];exact Ev.iter st j h0 (by grind) l
theorem At.drop{l:List α}{i:Nat}{x:α}(h:At l i x):l.drop i=x::l.drop (i+1):=by
 have:=h.lt';rw[Xp this,(XI.1 h.get).2]
theorem QaF{s0:S}(l:List α)(st:Nat->S)(R:Nat->B)(hl:l.length<=4611686018427387904)(h0:st 0=s0)
  (hc:∀i x,At l i x->(Ev (λn=>step n (st i)) (.cont (st (i+1)))/\R i=R (i+1))\/Ev (λn=>step n (st i)) (.done (R i)))
  (hd:Ev (λn=>step n (st l.length)) (.done (R l.length))):Ev (λn=>Go.Sw.iter (step n) n s0) (R 0):=
 Qi6 st l.length R h0 (λi hi=>hc i _ (JH hl (XH hi))) hd
end
section
variable {α β:Type} [DecidableEq α]
theorem Qow(k:α):YN ([]:List (α×β)) k=none:=rfl
theorem Jz(p:α×β)(l:List (α×β))(k:α):YN (p::l) k=if p.1=k then some p.2 else YN l k:=by
 grind[YN]
theorem Qnc(p:α×β)(l:List (α×β))(k:α)(v:β):Yk (p::l) k v=if p.1=k then(p.1,v)::l.map (λq=>bif decide (q.1=k)then(q.1,v)else q)else p::Yk l k v:=by
 unfold Yk
 grind
theorem Qox(l:List (α×β))(k a:α)(v:β)(h:a≠k):YN (l.map λq=>bif decide (q.1=k)then(q.1,v)else q) a=YN l a:=by
 induction l with
 |nil=>rfl
 |cons p l d=>
  grind[Jz]
theorem Jy(l:List (α×β))(k a:α)(v:β):YN (Yk l k v) a=if a=k then some v else YN l a:=by
 induction l with
 |nil=>
  show YN ([]++[(k,v)]) a=_;rw[Vb,Jz]
  grind
 |cons p l d=>
  rw[Qnc];by_cases e:p.1=k
  .rw[Vm e,Jz,Jz];by_cases h:a=k
   .grind
   .have:p.1≠a:=(by grind)
    simp_all[Qox]
  .rw[Vl e,Jz,Jz,d]
   grind
theorem QhC(k:α)(z:β):Qy ([]:List (α×β)) k z=z:=rfl
theorem Qc8(l:List (α×β))(k a:α)(v z:β):Qy (Yk l k v) a z=if a=k then v else Qy l a z:=by
 grind[Qy,Jy]
theorem Qeq(l:List (α×β))(k:α)(v:β):(Yk l k v).map (·.1)=if k∈l.map (·.1)then l.map (·.1)else l.map (·.1)++[k]:=by
 unfold Yk;have e:(l.any λp=>decide (p.1=k))=decide (k∈l.map (·.1)):=by
  grind
 rw[e];by_cases h:k∈l.map (·.1)
 .rw[Vn h,Vm h,Vi,List.map_map];apply List.map_congr_left
  grind
 grind
def Ye{γ:Type}(key:γ->α)(v:β)(l:List γ):List (α×β):=l.foldl (λm x=>Yk m (key x) v) []
theorem QdE{γ:Type}(a:γ->α)(v:β)(l:List γ)(x:γ):Ye a v (l++[x])=Yk (Ye a v l) (a x) v:=by
 unfold Ye;simp
theorem Qan{γ:Type}(a:γ->α)(v z:β)(l:List γ)(k:α):Qy (Ye a v l) k z=if k∈l.map a then v else z:=by
 have d:∀(l:List γ) (m:List (α×β)),Qy (l.foldl (λm x=>Yk m (a x) v) m) k z=if k∈l.map a then v else Qy m k z:=by
  intro l
  induction l with
  |nil=>simp
  |cons x l e=>
   intro m;rw[XB,e,Qc8]
   grind
 exact d l []
theorem QcS{γ:Type}(a:γ->α)(v:β)(l:List γ):(Ye a v l).length<=l.length/\((Ye a v l).length=l.length↔(l.map a).Nodup):=by
 have e:∀(l:List γ) (m:List (α×β)),(m.map (·.1)).Nodup->(l.foldl (λm x=>Yk m (a x) v) m).length<=m.length+l.length/\((l.foldl (λm x=>Yk m (a x) v) m).length=m.length+l.length↔(m.map (·.1)++l.map a).Nodup):=by
  intro l
  induction l with
  |nil=>simp
  |cons x l j=>
   intro m g;have f:=Qeq m (a x) v;have d:(Yk m (a x) v).length=((Yk m (a x) v).map (·.1)).length:=by simp
   by_cases h:a x∈m.map (·.1)
   .grind
   .rw[Vl h]at f;have i:((Yk m (a x) v).map (·.1)).Nodup:=by
     grind
    grind
 grind[Ye]
end
theorem JL{α:Type}(l:List α)(p:α->Bool)(g:Nat->α->Option Bool)(hl:l.length<=4611686018427387904)(hg:∀x∈l,Ev (λn=>g n x) (p x)):
  Ev (λn=>(((Go.Sw.iter (λs:Int=>bif decide (s<l.length)then(idx l s).bind λx=>((g n x).bind λr1=>some (!r1)).bind λr=>(bif r then some (Ctl.done (Ctl.done s))else some (Ctl.cont (IntKind.i64.wrap (s+1))))else some (Ctl.done (Ctl.cont ()))) n 0).bind λb=>
   match b with
   |.cont _=>some (-1)
   |.done s=>some s).bind λr=>some (decide (0<=r))).bind λr=>some (!r)) (l.all p):=by
 refine Ev.bind (Ev.contains l (λx=> !p x) (λn x=>(g n x).bind λr1=>some (!r1)) hl λx a=>Ev.bind (hg x a) (Qa _)) ((Qa _).eq ?_)
 grind
def QiU{α κ:Type}[DecidableEq κ](ok:α->Bool)(key:α->κ):List κ->List α->Bool
 |_,[]=>true
 |seen,x::r=>ok x&& !seen.contains (key x)&&QiU ok key (seen++[key x]) r
theorem QiT{α κ:Type}[DecidableEq κ](ok:α->Bool)(d:α->κ):∀(l:List α) (a:List κ),a.Nodup->QiU ok d a l=(l.all ok&&decide ((a++l.map d).Nodup))
 |[],a,h=>by simp[QiU,h]
 |x::r,a,h=>by
  simp[QiU,Vd];by_cases hk:d x∈a
  .grind
  .have hn:(a++[d x]).Nodup:=by
    grind
   rw[QiT ok d r _ hn]
   grind
theorem Ql5{α κ B:Type}[DecidableEq κ]{step:Nat->Int->Option (Ctl Int B)}(l:List α)(ok:α->Bool)(a:α->κ)(d b:B)(hl:l.length<=4611686018427387904)
  (h:∀i x,At l i x->ok x=true->((l.take i).map a).contains (a x)=false->Ev (λn=>step n (i:Int)) (.cont ((i+1:Nat):Int)))
  (k:∀i x,At l i x->ok x=false->Ev (λn=>step n (i:Int)) (.done d))
  (j:∀i x,At l i x->ok x=true->((l.take i).map a).contains (a x)=true->Ev (λn=>step n (i:Int)) (.done d))
  (g:Ev (λn=>step n (l.length:Int)) (.done b)):Ev (λn=>Go.Sw.iter (step n) n 0) (bif l.all ok&&decide ((l.map a).Nodup)then b else d):=by
 have e:=QiT ok a l [] (by simp);rw[Vb]at e;rw[<- e];refine QaF l (λi=>(i:Int)) (λi=>bif QiU ok a ((l.take i).map a) (l.drop i)then b else d) hl rfl (λi x f=>?_) ?_
 .rw[f.drop];simp only[QiU];rw[show(l.take i).map a++[a x]=(l.take (i+1)).map a by rw[f.take];simp]
  grind
 .rw[Xr];exact g
theorem Qec{α κ B:Type}[DecidableEq κ]{step:Nat->Int->Option (Ctl Int B)}(l:List α)(i:Nat)(a:α->κ)(k:κ)(f b:B)(hl:l.length<=4611686018427387904)(hi:i<=l.length)
  (r:∀j y,j<i->At l j y->decide (a y=k)=false->Ev (λn=>step n (j:Int)) (.cont ((j+1:Nat):Int)))
  (s:∀j y,j<i->At l j y->decide (a y=k)=true->Ev (λn=>step n (j:Int)) (.done f))
  (t:Ev (λn=>step n (i:Int)) (.done b)):Ev (λn=>Go.Sw.iter (step n) n 0) (bif ((l.take i).map a).contains k then f else b):=by
 have e:((l.take i).map a).contains k=(l.take i).any λy=>decide (a y=k):=by
  grind
 rw[e];have g:(l.take i).length=i:=by simp;omega
 have m:∀j y,At (l.take i) j y->j<i/\At l j y:=by
  intro j y d;have q:=d.lt';have p:=d.get
  grind[JH]
 refine Ju (l.take i) (λy=>decide (a y=k)) (λi=>(i:Int)) _ _ (by omega) rfl (λj y d h=>?_) (λj y d h=>?_) ?_
 .grind
 .grind
 grind
theorem QaG{α κ β:Type}[DecidableEq κ]{step:Nat->List (κ×β)×Int->Option (Ctl (List (κ×β)×Int) (List (κ×β)))}(l:List α)(key:α->κ)(v:β)(hl:l.length<=4611686018427387904)
  (hc:∀i x m,At l i x->Ev (λn=>step n (m,(i:Int))) (.cont (Yk m (key x) v,((i+1:Nat):Int))))
  (hd:∀m,Ev (λn=>step n (m,(l.length:Int))) (.done m)):Ev (λn=>Go.Sw.iter (step n) n ([],0)) (Ye key v l):=
 QB l (λm x=>Yk m (key x) v) [] (λm i=>(m,(i:Int))) (λm=>m) hl rfl (by grind) (hd _)
theorem Ev.shift{α:Type}{f:Nat->Option α}{v:α}(h:Ev f v):Ev (λn=>f (n+1)) v:=by
 obtain⟨N,h⟩:=h;exact⟨N,(by grind)⟩
def EvI{S B:Type}(step:Nat->S->Option (Ctl S B))(s:S)(b:B):Prop:=∃N,∀n k,N<=n->N<=k->Go.Sw.iter (step n) k s=some b
section
variable {S B:Type} {step:Nat->S->Option (Ctl S B)} {s s':S} {b:B}
theorem EvI.done(h:Ev (λn=>step n s) (.done b)):EvI step s b:=by
 obtain⟨N,h⟩:=h;refine⟨N+1,λn k d e=>?_⟩;obtain⟨a,rfl⟩:∃a,k=a+1:=⟨k-1,by omega⟩
 grind[Go.Sw.iter]
theorem EvI.cont(h:Ev (λn=>step n s) (.cont s'))(q:EvI step s' b):EvI step s b:=by
 obtain⟨N,h⟩:=h;obtain⟨M,q⟩:=q;refine⟨max N M+1,λn k d e=>?_⟩;obtain⟨a,rfl⟩:∃a,k=a+1:=⟨k-1,by omega⟩
 grind[Go.Sw.iter]
theorem EvI.ev(h:EvI step s b):Ev (λn=>Go.Sw.iter (step n) n s) b:=by
 obtain⟨N,h⟩:=h;exact⟨N,λn a=>h n n a a⟩
theorem EvI.eq{b':B}(h:EvI step s b)(e:b=b'):EvI step s b':=e▸h
end
theorem Qt{α:Type}{l r:List α}{i:Nat}{x:α}(hl:l.length<=4611686018427387904)(h:l.drop i=x::r):At l i x/\l.drop (i+1)=r:=by
 have a:l[i]?=some x:=by
  have:=congrArg (λl=>l[0]?) h
  grind
 refine⟨JH hl a,?_⟩;have:=(JH hl a).drop
 grind
theorem QO{α:Type}{l:List α}{i:Nat}(h:l.drop i=[])(hi:i<=l.length):decide ((i:Int)<(l.length:Int))=false:=by
 simp_all
theorem Z.{u}{α:Sort u}{a:α}:a=a:=rfl
section
variable {P:Program} {h0 N:Nat} {all:Array Oper} {env:Env} {H H':Qb} {Q:QV} {l:List Oper} {o:Oper} {d:Nat}
theorem aV(x:A)(H:Qb){x':A}{H':Qb}(a:x'=x)(hH:H'=H)(k:WO P h0 N all l (up env d x) H Q):WO P h0 N all l (up env d x') H' Q:=by subst a;subst hH;exact k
theorem vX(x:A)(a:OpV P o env H x)(k:WO P h0 N all l (up env d x) H Q)(hg:QA all o env true:=by exact rfl)(hd:o.dst=some d:=by exact rfl)(hN:Nat.blt d N=true:=by exact rfl):WO P h0 N all (o::l) env H Q:=
 QP hg hd hN a k
theorem Wp:WO P h0 N all [] env H (Jm env H):=WO.nil Jm.mk
end
section
variable {P:Program} {o:Oper} {env:Env} {H:Qb}
theorem QqJ{ro:Nat->Prop}{σ:Sig}{w:World}(g:GP w){b:Nat}{zs:List Int}(h:Qlk[b]?=some zs):∀(i:Nat),CR ro σ w b ((zs.drop i).map (A.int .i64)) i:=by
 intro i;generalize hl:zs.drop i=l
 induction l generalizing i with
 |nil=>trivial
 |cons z l e=>
  have d:zs[i]?=some z:=by
   have:=congrArg (·[0]?) hl
   grind
  have a:zs.drop (i+1)=l:=by
   rw[<- List.drop_drop,hl];rfl
  exact⟨⟨_,g.tab b zs h i z d,by simp[Qz],rfl⟩,e (i+1) a⟩
theorem Qh5{t n g:Nat}{zs:List Int}(f:∀w,(isAgg t).run P w=.ok true w)(e:∀w,(sizeOf t).run P w=.ok n w)(hg:Qlk[g]?=some zs)(hl:zs.length=n)(i:o.op=.load t (.global g):=by exact rfl):
  OpV P o env H (.agg (zs.map (A.int .i64))):=by
 intro k ro σ N a w r;obtain⟨l,d,_,j⟩:=YE (P:=P) 0 (by simpa using QqJ (ro:=ro) (σ:=σ) r.sim.roOk.gp hg 0);refine⟨.agg l.toArray,?_,l,rfl,d⟩;have h:a.eval (.global g)=.pointer (some ⟨g,0,none⟩):=rfl
 simp_all[execOp,Instr.loadAt,Instr.sureAddr,loadVar,loadCells]
end
open Go.Proofs
section
variable {P:Program}
def toV(agg:Bool)(l:List Value):Value:=bif agg then .agg l.toArray else l.headD .nilFunc
structure Qi7 (P:Program) (t:TypeId) (h k:Nat) (agg:Bool) (ok:List Value->Prop):Prop where
 len:∀l,ok l->l.length=k
 ia:∀w,(isAgg t).run P w=.ok agg w
 so:∀w,(sizeOf t).run P w=.ok k w
 eq:∀(w:World) (d:Nat) (l m:List Value),ok l->ok m->∃b:Bool,(Op.equalIn (d+h) t (toV agg l) (toV agg m)).run P w=.ok b w/\(b=true↔l=m)
structure Ql6 (P:Program) (fs:List Field) (h off k:Nat) (ok:List Value->Prop):Prop where
 len:∀l,ok l->l.length=k
 eq:∀(w:World) (d:Nat) (p q l m:List Value),p.length=off->q.length=off->ok l->ok m->∃b:Bool,(Op.eqFields (d+h) (p++l).toArray (q++m).toArray fs).run P w=.ok b w/\(b=true↔l=m)
theorem Qi7.int{t:TypeId}{k:IntKind}(a:P.underlying t=some (.int k))(e:∀w,(isAgg t).run P w=.ok false w)(f:∀w,(sizeOf t).run P w=.ok 1 w)(h:Nat):Qi7 P t (h+1) 1 false (λl=>∃n:Int,l=[.int k n]):=by
 refine⟨?_,e,f,?_⟩
 .simp
 .rintro w d _ _ ⟨n,rfl⟩ ⟨m,rfl⟩;exact⟨_,run_equalIn_int w (d+h) t k k n m a,by simp⟩
theorem Qi7.bool{t:TypeId}(a:P.underlying t=some .bool)(e:∀w,(isAgg t).run P w=.ok false w)(f:∀w,(sizeOf t).run P w=.ok 1 w)(h:Nat):Qi7 P t (h+1) 1 false (λl=>∃n:Bool,l=[.bool n]):=by
 refine⟨?_,e,f,?_⟩
 .simp
 .rintro w d _ _ ⟨n,rfl⟩ ⟨m,rfl⟩;exact⟨_,run_equalIn_bool' w (d+h) t n m a,by simp⟩
theorem Ql6.nil(h off:Nat):Ql6 P [] h off 0 (λl=>l=[]):=by
 refine⟨?_,?_⟩
 .simp
 simp_all[Op.eqFields]
theorem QjC{t:TypeId}{k:Nat}{agg:Bool}{w:World}(f:∀w,(isAgg t).run P w=.ok agg w)(g:∀w,(sizeOf t).run P w=.ok k w)(p a e:List Value)(hl:a.length=k)(d:agg=false->k=1):
  (part t (p++(a++e)).toArray p.length).run P w=.ok (toV agg a) w:=by
 unfold part;cases agg with
 |true=>
  simp_all[toV]
 |false=>
  have:=d rfl;subst this
  match a,hl with
  |[v],_=>simp[f,toV]
theorem Ql6.cons{f:Field}{fs:List Field}{h off r t:Nat}{agg:Bool}{i j:List Value->Prop}(V:Nat.beq f.offset off=true)(Q:f.name≠"_")(g:Qi7 P f.type h r agg i)(u:agg=false->r=1)(z:Ql6 P fs h (off+r) t j):
  Ql6 P (f::fs) h off (r+t) (λl=>∃l1 l2,l=l1++l2/\i l1/\j l2):=by
 have s:f.offset=off:=(by simp_all);refine⟨?_,?_⟩
 .rintro _ ⟨l1,l2,rfl,a,b⟩;rw[XY,g.len _ a,z.len _ b]
 .rintro w d p q _ _ H B ⟨l1,l2,rfl,m,O⟩ ⟨k,G,rfl,n,T⟩;have E:=QjC (w:=w) g.ia g.so p l1 l2 (g.len _ m) u;have y:=QjC (w:=w) g.ia g.so q k G (g.len _ n) u;rw[H]at E;rw[B]at y;obtain⟨x,R,L⟩:=g.eq w d l1 k m n;obtain⟨M,F,J⟩:=z.eq w d (p++l1) (q++k) l2 G (by rw[XY,H,g.len _ m]) (by rw[XY,B,g.len _ n]) O T;rw[Vc,Vc]at F;have N:l1.length=k.length:=by rw[g.len _ m,g.len _ n]
  refine⟨x&&M,?_,?_⟩
  .cases x<;>simp[Op.eqFields,Q,s,E,y,R,F]
  .rw[XT,L,J];constructor
   .grind
   .intro e;exact List.append_inj e N
theorem Qi7.struct{t:TypeId}{h k:Nat}{ok:List Value->Prop}(p:P.underlying t=some (.struct (P.fieldsOf t)))(j:P.stoodInHeld t=false)(i:∀w,(isAgg t).run P w=.ok true w)(f:∀w,(sizeOf t).run P w=.ok k w)(e:Ql6 P (P.fieldsOf t).toList h 0 k ok):Qi7 P t (h+1) k true ok:=by
 refine⟨e.len,i,f,λw d l m a b=>?_⟩;obtain⟨r,n,g⟩:=e.eq w d [] [] l m rfl rfl a b;refine⟨r,?_,g⟩;show(Op.equalIn (d+h+1) t (.agg l.toArray) (.agg m.toArray)).run P w=_
 grind[run_equalIn_agg]
theorem Q3{t:TypeId}{h k:Nat}{fs:Array Field}{ok:List Value->Prop}(e:P.underlying t=some (.struct fs))(a:P.stoodInHeld t=false)(g:∀w,(isAgg t).run P w=.ok true w)(d:∀w,(sizeOf t).run P w=.ok k w)(f:Ql6 P fs.toList h 0 k ok):Qi7 P t (h+1) k true ok:=by
 grind[Program.fieldsOf,Qi7.struct]
structure EqD (P:Program) (t:TypeId) {α:Type} (cells:α->List A):Prop where
 scl:∀x,QfM (cells x)=true
 inj:∀x y,Jf (cells x)=Jf (cells y)->x=y
 guard:P.eqGuardType P.depth t=false
 eq:∀(w:World) x y,∃b:Bool,(Op.equalIn 10000 t (.agg (Jf (cells x)).toArray) (.agg (Jf (cells y)).toArray)).run P w=.ok b w/\(b=true↔Jf (cells x)=Jf (cells y))
theorem QmX{α:Type}{cells:α->List A}{t h k:Nat}{ok:List Value->Prop}(E:Qi7 P t h k true ok)(e:Nat.ble h 10000=true)(a:∀x,ok (Jf (cells x)))(d:∀x,QfM (cells x)=true)(hi:∀x y,Jf (cells x)=Jf (cells y)->x=y)(hg:P.eqGuardType P.depth t=false):EqD P t cells:=by
 refine⟨d,hi,hg,λw x y=>?_⟩;have:=E.eq w (10000-h) (Jf (cells x)) (Jf (cells y)) (a x) (a y)
 rwa [show 10000-h+h=10000 by simp_all]at this
variable {o:Oper} {env:Env} {H:Qb}
theorem Qh7{α:Type}[DecidableEq α]{cells:α->List A}{t u:TypeId}{x y:Operand}{p q:α}(E:EqD P t cells)(k:opA env x=.agg (cells p))(z:opA env y=.agg (cells q))(j:o.op=.binOp .eql t x y u:=by exact rfl):OpV P o env H (.bool (p==q)):=by
 intro B F σ N a w r;have g:=Qi r x;have h:=Qi r y;rw[k]at g;rw[z]at h;have s:=VR.val (a:=.agg (cells p)) (E.scl p) g;have m:=VR.val (a:=.agg (cells q)) (E.scl q) h;obtain⟨b,n,i⟩:=E.eq w p q;have l:b=(p==q):=by
  rw[XU,i,Vs];exact⟨E.inj p q,λe=>by rw[e]⟩
 refine⟨.bool (p==q),?_,rfl⟩;rw[<- l];generalize a.eval=ρ at*;have d:ρ x=.agg (Jf (cells p)).toArray:=s;have f:ρ y=.agg (Jf (cells q)).toArray:=m;simp[j,d,f,go_sem,run_eqGuard_agg _ _ _ _ _ _ _ E.guard,n]
theorem Qh6{α:Type}[DecidableEq α]{cells:α->List A}{t u:TypeId}{x y:Operand}{p q:α}(E:EqD P t cells)(k:opA env x=.agg (cells p))(z:opA env y=.agg (cells q))(j:o.op=.binOp .neq t x y u:=by exact rfl):OpV P o env H (.bool (p != q)):=by
 intro B F σ N a w r;have g:=Qi r x;have h:=Qi r y;rw[k]at g;rw[z]at h;have s:=VR.val (a:=.agg (cells p)) (E.scl p) g;have m:=VR.val (a:=.agg (cells q)) (E.scl q) h;obtain⟨b,n,i⟩:=E.eq w p q;have l:b=(p==q):=by
  rw[XU,i,Vs];exact⟨E.inj p q,λe=>by rw[e]⟩
 refine⟨.bool (p != q),?_,rfl⟩;rw[bne, <- l];generalize a.eval=ρ at*;have d:ρ x=.agg (Jf (cells p)).toArray:=s;have f:ρ y=.agg (Jf (cells q)).toArray:=m;simp[j,d,f,go_sem,run_eqGuard_agg _ _ _ _ _ _ _ E.guard,n]
end
end Go.Sw
namespace Go.Sw
structure QgS (g g':Nat->Prop) (W W':World):Prop where
 sub:∀b,g b->g' b
 new:∀b,g' b->g b\/W.heap.size<=b
 lt:∀b,g' b->b<W'.heap.size
 all:∀b,W.heap.size<=b->b<W'.heap.size->g' b
 keep:∀b,b<W.heap.size->¬g b->W'.heap[b]?=W.heap[b]?
 size:W.heap.size<=W'.heap.size
 shape:∀b x,W.shape? b=some x->W'.shape? b=some x
 os:W'.os=W.os
 tape:W'.tape=W.tape
 output:W'.output=W.output
 drawn:W.drawn<=W'.drawn
abbrev Jv(T:Type):=List T->(Nat->Prop)->(Nat->Prop)->World->Prop
structure QqZ {T:Type} (J:Jv T):Prop where
 ev:∀rem q g W W' ro',J rem q g W->Qk g q W ro' W'->J rem q g W'
 up:∀rem q g g' W,J rem q g W->(∀b,g b->g' b)->(∀b,g' b->b<W.heap.size)->J rem q g' W
theorem Sim.round{fr g g' ro:Nat->Prop}{σ:Sig}{H:Qb}{W W':World}(s:Sim fr ro σ H W)(a:∀b,g b->fr b)(k:QgS g g' W W'):Sim (λb=>fr b\/g' b) ro σ H W'/\Qk (λb=>b<W.heap.size/\ ¬g b) ro W ro W':=by
 have hro:=λb q=>k.keep b (s.roLt b q) (λr=>s.roFr b q (a b r));have h:Ext ro σ W ro σ W':=by
  have ev:Qk (λ_=>False) ro W ro W':=⟨λ_ q=>q,hro,λ_ q=>q.elim,k.size,k.shape,k.os,k.tape,k.output,k.drawn⟩;have:=ev.ext σ []
  grind
 refine⟨⟨s.len,s.roOk.to (λ_ q=>q) hro (λb q=>X9 (s.roLt b q) k.size),λb q=>q.elim (λq=>X9 (s.frLt b q) k.size) (k.lt b),λb q r=>?_,λi b x e f u=>?_,s.inj,λi y x e f=>?_,
  s.hidTo (· = ·) Q9 k.size (by simp) (λi b x c e f u E=>E.elim id λq=>(k.new c q).elim (a c) λl=>(by have:=(s.hid i b x c e f u).lt;omega)) λj d y n m F=>.inl ⟨j,y,rfl,n,m,id,λc q=>s.hidKeep n m (λz=>k.keep d (s.own j d y n m z).1 λr=>(s.own j d y n m z).2.2 (a d r)) hro q⟩⟩,
  ⟨λ_ q=>q,hro,λb q=>k.keep b q.1 q.2,k.size,k.shape,k.os,k.tape,k.output,k.drawn⟩⟩
 .rcases r with r|r
  .exact s.roFr b q r
  .rcases k.new b r with l|l
   .exact s.roFr b q (a b l)
   .have:=s.roLt b q;omega
 .obtain⟨p,B,w⟩:=s.own i b x e f u;refine⟨X9 p k.size,B,λr=>?_⟩;rcases r with r|r
  .exact w r
  .rcases k.new b r with l|l
   .grind
   .omega
 .refine(s.blk i y x e f).keep h ?_ ?_
  .rintro b rfl t;obtain⟨p,B,w⟩:=s.own i b x e f t;exact k.keep b p (λr=>w (a b r))
  .rintro b c rfl t;have q:=s.hid i b x c e f t;exact k.keep c q.lt (λr=>q.fr (a c r))
def QrK{T:Type}(J Jx:Jv T)(g ri:Nat->Prop)(W1:World)(rem:List T):Ending->World->Prop:=λe W'=>
 ∃g' q',(∀b,q' b->ri b)/\QgS g g' W1 W'/\((e=.returned (.bool true)/\J rem q' g' W')\/(e=.returned (.bool false)/\Jx rem q' g' W'))
structure Ctx (T:Type) where
 l:Nat
 J:Jv T
 Jx:Jv T
 enc:T->List A
 nx:List T->T->List T->Prop
structure Ctx.ok {T:Type} (X:Ctx T) (P:Program):Prop where
 b:QqZ X.J
 bx:QqZ X.Jx
 round:∀l x rem q g ri W1 vs,X.nx l x rem->X.J l q g W1->(∀b,q b->ri b)->(∀b,ri b->b<W1.heap.size/\ ¬g b)->LR ri [] W1 (X.enc x) vs->YieldAt Fence.wide 0 P X.l vs.toArray W1 (QrK X.J X.Jx g ri W1 rem)
def QkE{T:Type}(P:Program)(f:FuncId)(caps:List A)(H:Qb)(enc:T->List A)(nx:List T->T->List T->Prop)(xs:List T):Prop:=
 ∀(X:Ctx T),X.enc=enc->X.nx=nx->X.ok P->∀fr ro σ w capv q,Sim fr ro σ H w->(∀b,q b->ro b)->LR ro σ w caps capv->X.J xs q fr w->
  Calls P f ((Value.func (.yield X.l) #[] #[]::capv)).toArray w λe W'=>(∃v,e=.returned v)/\ ∃g q',(∀b,fr b->g b)/\((X.J [] q' g W')\/(∃rem,X.Jx rem q' g W'))
inductive YSt (T:Type) where
 |on (rem:List T)
 |off (rem:List T)
def Ctx.J'{T:Type}(X:Ctx T):YSt T->(Nat->Prop)->(Nat->Prop)->World->Prop
 |.on rem=>X.J rem
 |.off rem=>X.Jx rem
def Ctx.at{T:Type}(X:Ctx T)(st:YSt T)(g ro:Nat->Prop)(W:World):Prop:=∃q,(∀b,q b->ro b)/\X.J' st q g W
theorem Qk.roMono{fr ro ro0 ro':Nat->Prop}{w w':World}(h:Qk fr ro w ro' w')(s:∀b,ro0 b->ro b):Qk fr ro0 w ro' w':=
 ⟨λb q=>h.sub b (s b q),λb q=>h.keepRo b (s b q),h.keepFr,h.size,h.shape,h.os,h.tape,h.output,h.drawn⟩
theorem Ctx.ok.ev{T:Type}{X:Ctx T}{P:Program}(h:X.ok P){st:YSt T}{g ro ro':Nat->Prop}{W W':World}(a:X.at st g ro W)(he:Qk g ro W ro' W'):X.at st g ro' W':=by
 obtain⟨q,d,a⟩:=a;refine⟨q,λb z=>he.sub b (d b z),?_⟩;cases st with
 |on rem=>exact h.b.ev rem q g W W' ro' a (he.roMono d)
 |off rem=>exact h.bx.ev rem q g W W' ro' a (he.roMono d)
theorem Ctx.ok.up{T:Type}{X:Ctx T}{P:Program}(h:X.ok P){st:YSt T}{g g' ro:Nat->Prop}{W:World}(a:X.at st g ro W)(hg:∀b,g b->g' b)(hl:∀b,g' b->b<W.heap.size):X.at st g' ro W:=by
 obtain⟨q,d,a⟩:=a;refine⟨q,d,?_⟩;cases st with
 |on rem=>exact h.b.up rem q g g' W a hg hl
 |off rem=>exact h.bx.up rem q g g' W a hg hl
abbrev YY(T:Type):=AEx->Env->Qb->YSt T->Prop
structure In (g fr:Nat->Prop) (ds:List Deferred):Prop where
 sub:∀b,g b->fr b
 beside:∀D,({target:=.collected D,args:= #[]}:Deferred)∈ds->¬g D
def Qd7{T:Type}(X:Ctx T)(h0:Nat)(fr ro:Nat->Prop)(σ:Sig)(w:World)(N:Nat)(ds:List Deferred)(Q:YY T):Exit->Act->World->Prop:=
 λe a' w'=>∃x env' H' st ro' σ' fr' g',ExR e x/\Q x env' H' st/\Rel fr' ro' σ' H' env' N a' w'/\(X.at st g' ro' w'/\In g' fr' a'.defers)/\(∀b,ro b->ro' b)/\w.heap.size<=w'.heap.size/\σ'.take h0=σ.take h0/\Grow fr w ds fr' a'.defers
theorem Qd7.grow{T:Type}{X:Ctx T}{h0:Nat}{fr d ro f:Nat->Prop}{σ σ1:Sig}{w m:World}{N:Nat}{l g:List Deferred}{Q:YY T}{e:Exit}{a':Act}{w':World}
  (h:Qd7 X h0 d f σ1 m N g Q e a' w')(E:∀b,ro b->f b)(k:w.heap.size<=m.heap.size)(r:σ1.take h0=σ.take h0)(hg:Grow fr w l d g):Qd7 X h0 fr ro σ w N l Q e a' w':=by
 obtain⟨x,a,H',z,i,σ',j,u,n,s,t,p,F,q,y,B⟩:=h;exact⟨x,a,H',z,i,σ',j,u,n,s,t,p,(by grind),XS k q,y.trans r,hg.trans k B⟩
def TCy{T:Type}(X:Ctx T)(P:Program)(h0 N:Nat)(c:Code)(env:Env)(H:Qb)(st:YSt T)(Q:YY T):Prop:=
 X.ok P->∀rd fr ro σ a w g,Rel fr ro σ H env N a w->X.at st g ro w/\In g fr a.defers->rd=none->c.wpIn (WF rd) 0 P (Qd7 X h0 fr ro σ w N a.defers Q) a w
def WOy{T:Type}(X:Ctx T)(P:Program)(h0 N:Nat)(all:Array Oper)(l:List Oper)(env:Env)(H:Qb)(st:YSt T)(Q:YY T):Prop:=
 X.ok P->∀rd fr ro σ a w g,Rel fr ro σ H env N a w->X.at st g ro w/\In g fr a.defers->rd=none->wpL P rd all (Qd7 X h0 fr ro σ w N a.defers Q) l a w
theorem In.later{fr a g:Nat->Prop}{w:World}{ds ds':List Deferred}(h:In g fr ds)(hl:∀b,fr b->b<w.heap.size)(hg:Grow fr w ds a ds'):In g a ds':=by
 refine⟨λb q=>hg.sub b (h.sub b q),λD hD q=>?_⟩;rcases hg.ds _ hD with r|⟨D',e,r⟩
 .exact h.beside D r q
 .have:=by simpa using e
  have:=hl D (h.sub D q);omega
section
variable {T:Type} {X:Ctx T} {P:Program} {h0 N:Nat} {c c':Code} {env:Env} {H:Qb} {st:YSt T} {Q:YY T}
theorem QnO{fr ro:Nat->Prop}{σ:Sig}{w:World}{i:List Deferred}{e:Exit}{a':Act}{w':World}(r:X.ok P)(h:QaW h0 fr ro σ w N i (λx env H=>Q x env H st) e a' w'){g:Nat->Prop}(hl:∀b,fr b->b<w.heap.size)(j:X.at st g ro w/\In g fr i):
  Qd7 X h0 fr ro σ w N i Q e a' w':=by
 obtain⟨x,a,H',f,σ',k,m,n,p,d,q,l⟩:=h;exact⟨x,a,H',st,f,σ',k,g,m,n,p,⟨r.ev j.1 (d.frMono j.2.sub),j.2.later hl l⟩,d.sub,d.size,q,l⟩
theorem TCy.lift(h:TC P h0 N c env H (λx env H=>Q x env H st)):TCy X P h0 N c env H st Q:=
 λhX rd fr ro σ a w g r hj hrd=>Code.wpIn_mono (λe a' w' q=>QnO hX q r.sim.frLt hj) (h rd fr ro σ a w r (hrd▸QeH.none))
def SeqY(X:Ctx T)(P:Program)(h0 N:Nat)(c:Code)(Q:YY T):YY T
 |.normal,env,H,st=>TCy X P h0 N c env H st Q
 |.exit id,env,H,st=>Q (.exit id) env H st
 |.ret,env,H,st=>Q .ret env H st
theorem TCy.seq(h:TCy X P h0 N c env H st (SeqY X P h0 N c' Q)):TCy X P h0 N (.seq c c') env H st Q:=by
 intro B z E G σ a w g r hj hrd;refine wpIn_seq (Code.wpIn_mono ?_ (h B z E G σ a w g r hj hrd));rintro e J F ⟨x,d,H',j,f,σ',i,t,k,n,s,l,p,m,u,y⟩;cases e with
 |normal=>
  obtain rfl:x=.normal:=k;exact Code.wpIn_mono (λe a w q=>q.grow p m u y) (n B z i f σ' J F t s l hrd)
 |exit id=>
  obtain rfl:x=.exit id:=k;exact⟨_,d,H',j,f,σ',i,t,rfl,n,s,l,p,m,u,y⟩
 |ret=>
  obtain rfl:x=.ret:=k;exact⟨_,d,H',j,f,σ',i,t,rfl,n,s,l,p,m,u,y⟩
 |_=>exact k.elim
theorem TCy.region{id:Nat}{l:List Oper}(h:WOy X P h0 N l.toArray l env H st Q):TCy X P h0 N (.region id l.toArray false) env H st Q:=
 λhX rd fr ro σ a w g r hj hrd=>wpIn_region_lit (h hX rd fr ro σ a w g r hj hrd)
theorem TCy.cond{x:Operand}{t:Bool}(k:opA env x=.bool t)(m:t=true->TCy X P h0 N c env H st Q)(l:t=false->TCy X P h0 N c' env H st Q):TCy X P h0 N (.cond x c c') env H st Q:=by
 intro h j d i σ a w g r hj hrd;have f:=Qi r x;rw[k]at f;exact wpIn_cond_split f (λe=>m e h j d i σ a w g r hj hrd) (λe=>l e h j d i σ a w g r hj hrd)
theorem WOy.nil{all:Array Oper}(h:Q .normal env H st):WOy X P h0 N all [] env H st Q:=
 λhX rd fr ro σ a w g r hj hrd=>⟨_,env,H,st,ro,σ,fr,g,rfl,h,r,hj,λ_ q=>q,XQ _,rfl,Grow.refl _ _ _⟩
end
theorem QkY{P:Program}{rd:Option Nat}{o:Oper}{a:Act}{K K':Act->World->Prop}{Q Q':Exit->Act->World->Prop}(i:∀a w,K a w->K' a w)(p:∀ch a w,Q (.panic ch) a w->Q' (.panic ch) a w)(k:∀a w,Q .outgrown a w->Q' .outgrown a w)
  {r:Result Next}(h:o.uponIn (WF rd) 0 P a K Q r):o.uponIn (WF rd) 0 P a K' Q' r:=by
 cases r with
 |ok x w=>
  cases x with
  |value v=>exact i _ _ h
  |skip=>exact i _ _ h
  |defer d=>exact i _ _ h
  |enter f g=>
   refine⟨h.1,CallsIn.mono h.2 ?_⟩;intro e m q;cases e with
   |returned v=>grind
   |panicked c=>grind
   |outgrown=>obtain⟨a,w,q⟩:=q;exact⟨a,w,k _ _ q⟩
  |row r g=>exact⟨h.1,RowsIn.mono h.2 λv m q=>i _ _ q⟩
  |round l f n assign j=>
   refine⟨h.1,RoundIn.mono h.2 ?_⟩;intro e m q;cases e with
   |returned v=>grind
   |panicked c=>grind
   |outgrown=>obtain⟨a,w,q⟩:=q;exact⟨a,w,k _ _ q⟩
  |_=>exact h
 |halt x w=>
  cases x with
  |panic v=>exact p _ _ _ h
  |_=>exact h
section
variable {T:Type} {X:Ctx T} {P:Program} {h0 N:Nat} {env:Env} {H:Qb} {st:YSt T} {Q:YY T}
theorem WOy.step{all:Array Oper}{o:Oper}{rest:List Oper}(h:WO P h0 N all [o] env H (λx env' H'=>x=.normal/\WOy X P h0 N all rest env' H' st Q)):WOy X P h0 N all (o::rest) env H st Q:=by
 intro y n m t σ a w g r hj hrd;have M:∀i f,Qb0 h0 m t σ w N a.defers (λx env' H'=>x=.normal/\WOy X P h0 N all rest env' H' st Q) .normal i f->wpL P n all (Qd7 X h0 m t σ w N a.defers Q) rest i f:=by
  rintro i f ⟨x,env',H',d,σ',j,L,⟨_,E⟩,G,l,F,B,J⟩;have s:X.at st g d f/\In g j i.defers:=⟨y.ev hj.1 (l.frMono hj.2.sub),by rw[B];exact hj.2.later r.sim.frLt J⟩;have:=E y n j d σ' i f g G s hrd;exact Yw (λe p u q=>(q.grow l.sub l.size F (by grind))) _ _ _ this
 have k:=h n m t σ a w r (hrd▸QeH.none);unfold wpL wpListIn at k⊢;split
 .rename_i z;rw[Vm z]at k;refine⟨k.1,QkY (λp u q=>?_) (λO p u q=>?_) (λp u q=>?_) k.2⟩
  .unfold wpListIn at q
   grind
  .obtain⟨x,_,_,_,_,_,q,_⟩:=q;exact q.elim
  .obtain⟨x,_,_,_,_,_,q,_⟩:=q;exact q.elim
 simp_all[wpListIn]
theorem WOy.yield{all:Array Oper}{o:Oper}{rest:List Oper}{d:Nat}{x:T}{G rem:List T}(E:X.nx G x rem)(hg:QA all o env true)(u:o.dst=some d)(hN:Nat.blt d N=true)
  (J:∀fr ro σ a w,Rel fr ro σ H env N a w->∃vs:List Value,LR ro [] w (X.enc x) vs/\(execOp a.eval o).run P w=(Instr.yield X.l vs.toArray).run P w)
  (k:∀b,WOy X P h0 N all rest (up env d (.bool b)) H (bif b then .on rem else .off rem) Q):WOy X P h0 N all (o::rest) env H (.on G) Q:=by
 intro O M fr ro σ a w g r hj hrd;obtain⟨vs,Y,W⟩:=J fr ro σ a w r;obtain⟨q,hq,L⟩:=hj.1;obtain⟨fn,tmps,assign,R,V,h2⟩:=O.round G x rem q g ro w vs E L hq (λb z=>⟨r.sim.roLt b z,λy=>r.sim.roFr b z (hj.2.sub b y)⟩) Y;have h3:=W.trans V;unfold wpL wpListIn;rw[Vm (Y0 hg r)];refine⟨λ_ _=>trivial,?_⟩;rw[Qds h3 (λd e=>by cases e)];refine⟨λh=>by simp[WF,Fence.wide]at h,(RoundIn.mono h2 ?_)⟩;rintro e i ⟨j,t,n,m,f⟩;obtain⟨s',ev⟩:=r.sim.round hj.2.sub m;have B:d<N:=by simp_all
 have p:Ext ro σ w ro σ i:=by have:=ev.ext σ [];grind
 have fin:∀b,X.at (bif b then .on rem else .off rem) j ro i->wpL P M all (Qd7 X h0 fr ro σ w N a.defers Q) rest (a.put o.dst (.bool b)) i:=by
  intro b f;have hm:Qc1 (λb=>fr b\/j b) a.defers i:=by
   refine⟨r.defers.1,λd u=>?_⟩;obtain⟨D,rfl,F,q2⟩:=r.defers.2 d u;exact⟨D,rfl,.inl F,(m.keep D (r.sim.frLt D F) (hj.2.beside D u)).trans q2⟩
  have hi:In j (λb=>fr b\/j b) a.defers:=by
   refine⟨λb q=>.inr q,λD hD q=>?_⟩;rcases m.new D q with t|t
   .exact hj.2.beside D hD t
   .obtain⟨D',e,F,_⟩:=r.defers.2 _ hD
    grind
  have r':Rel (λb=>fr b\/j b) ro σ H (up env d (.bool b)) N {a with tmps:=a.tmps.setIfInBounds d (.bool b)} i:=
   ⟨s',VR.up (fr:=fr) (λs=>(r.env s).mono p) (by rw[r.size];exact B) rfl,by simpa using r.size,hm⟩
  have:=k b O M _ ro σ _ i j r' ⟨f,hi⟩ hrd;simp[u];refine Yw (λe a2 w2 q=>q.grow (λ_ q=>q) m.size rfl ⟨λ_ q=>.inl q,λb q=>?_,λ_ q=>.inl q⟩) _ _ _ this;rcases q with q|q
  .exact .inl q
  .rcases m.new b q with q|q
   .exact .inl (hj.2.sub b q)
   omega
 rcases f with⟨rfl,f⟩|⟨rfl,f⟩
 .exact fin true ⟨t,n,f⟩
 .exact fin false ⟨t,n,f⟩
end
def EndY{T:Type}:YY T:=λx env H st=>(x=.normal\/x=.ret)/\(st=.on []\/ ∃rem,st=.off rem)
theorem Qd4{T:Type}{P:Program}{f:FuncId}{fn:Func}{c:Code}{N:Nat}{a:List A}{H:Qb}{enc:T->List A}{nx:List T->T->List T->Prop}{xs:List T}
  (hf:P.funcs[f]?=some fn)(W:fn.body=some c)(hN:fn.ntmps=N)(hA:Nat.ble (a.length+1) N=true)(hR:fn.results= #[])
  (h:∀X,X.enc=enc->X.nx=nx->TCy X P H.length N c (Qe5 0 (.fn (.yield X.l) [] []::a)) H (.on xs) EndY):QkE P f a H enc nx xs:=by
 intro X hE hNx hX fr ro0 σ w capv q0 hs hq0 hl hj;have n:LR ro0 σ w (.fn (.yield X.l) [] []::a) (Value.func (.yield X.l) #[] #[]::capv):=⟨_,_,rfl,⟨[],[],rfl,rfl,rfl⟩,hl⟩;have Q:=n.length;have R:a.length+1<=N:=by simp_all
 refine(callsIn_wide).1 (callsIn_of_wp_marks hf W trivial (Code.wpIn_mono ?_ (h X hE hNx hX none fr ro0 σ _ w fr ⟨hs,?_,?_,List.nodup_nil,λd r=>by cases r⟩ ⟨⟨q0,hq0,hj⟩,λ_ q=>q,λD hD=>by cases hD⟩ rfl)))
 .rintro e B M ⟨x,L,H1,st,ab,σ1,aa,O,G,⟨h2,F⟩,k,⟨V,j⟩,h5,h6,h7,h8⟩;have m:LeavesInM Fence.wide 0 P fn B.tmps (λe W'=>(∃v,e=.returned v)/\ ∃g q',(∀b,fr b->g b)/\((X.J [] q' g W')\/(∃rem,X.Jx rem q' g W'))) B.defers .returning M:=by
   refine QbH B.defers M k.defers.1 (λd r=>?_) (k.sim.frMono j.sub) (λw2 s2 p=>?_)
   .obtain⟨D,rfl,z,Y⟩:=k.defers.2 d r;exact⟨D,rfl,λq=>k.sim.roFr D q z,j.beside D r,λi x u y E=>(k.sim.own i D x u y E).2.2 z,λi d x u y E=>(k.sim.hid i d x D u y E).fr z,Y⟩
   .have t:=hX.up (hX.ev V p) (g':=λb=>O b\/fr b) (λb q=>.inl q) (λb q=>X9 (k.sim.frLt b (q.elim (j.sub b) (h8.sub b))) p.size);obtain⟨q9,_,t⟩:=t;refine⟨.tuple #[],by simp[results,hR],⟨_,rfl⟩,λb=>O b\/fr b,q9,λb q=>.inr q,?_⟩;rcases F with rfl|⟨rem,rfl⟩
    .exact .inl t
    .exact .inr ⟨rem,t⟩
  cases e with
  |normal=>exact m
  |ret=>exact m
  |exit id=>
   obtain rfl:x=.exit id:=G
   grind
  |_=>exact G.elim
 .intro s;have:=Qf5 [] rfl n (Array.replicate (fn.ntmps-(Value.func (.yield X.l) #[] #[]::capv).toArray.size) undef) s
  grind
 grind
section
variable {T:Type} {X:Ctx T} {P:Program} {h0 N:Nat} {c c':Code} {env:Env} {H:Qb} {st:YSt T} {Q Q':YY T}
theorem TCy.mono(h:TCy X P h0 N c env H st Q)(q:∀x env H st,Q x env H st->Q' x env H st):TCy X P h0 N c env H st Q':=by
 intro s u l m σ a w g r hj hrd;refine Code.wpIn_mono ?_ (h s u l m σ a w g r hj hrd);rintro e z y ⟨x,d,H',f,i,σ',j,t,k,n,p⟩;exact⟨x,d,H',f,i,σ',j,t,k,q _ _ _ _ n,p⟩
theorem TCy.skip(h:Q .normal env H st):TCy X P h0 N .skip env H st Q:=TCy.lift (TC.skip h)
theorem TCy.ret(h:Q .ret env H st):TCy X P h0 N .ret env H st Q:=TCy.lift (TC.ret h)
theorem TCy.exit{id:Nat}(h:Q (.exit id) env H st):TCy X P h0 N (.exit id) env H st Q:=TCy.lift (TC.exit h)
def BloY(id:Nat)(Q:YY T):YY T
 |.normal,env,H,st=>Q .normal env H st
 |.exit id',env,H,st=>bif Nat.beq id' id then Q .normal env H st else Q (.exit id') env H st
 |.ret,env,H,st=>Q .ret env H st
theorem TCy.block{id:Nat}(h:TCy X P h0 N c env H st (BloY id Q)):TCy X P h0 N (.block id c) env H st Q:=by
 intro u z s y σ a w g r hj hrd;refine wpIn_block (Code.wpIn_mono ?_ (h u z s y σ a w g r hj hrd));rintro e E B ⟨x,d,H',i,j,σ',k,p,m,l,n⟩;cases e with
 |normal=>
  obtain rfl:x=.normal:=m;exact⟨_,d,H',i,j,σ',k,p,rfl,l,n⟩
 |exit f=>
  obtain rfl:x=.exit f:=m;unfold Exit.inBlock;simp only[BloY]at l;by_cases q:f=id
  .subst q;rw[Vz,Vi]at l;simp;exact⟨.normal,d,H',i,j,σ',k,p,rfl,l,n⟩
  .have t:Nat.beq f id=false:=by
    cases e:Nat.beq f id with
    |false=>rfl
    |true=>simp_all
   rw[t,Vj]at l;simp[q];exact⟨.exit f,d,H',i,j,σ',k,p,rfl,l,n⟩
 |ret=>
  obtain rfl:x=.ret:=m;exact⟨_,d,H',i,j,σ',k,p,rfl,l,n⟩
 |_=>exact m.elim
end
section
variable {T:Type} {X:Ctx T} {P:Program} {h0 N:Nat} {c:Code} {env:Env} {H:Qb} {st:YSt T} {Q:YY T}
def QnZ(I:Env->Qb->YSt T->Prop)(Q:YY T):YY T
 |.normal,env,H,st=>I env H st
 |.exit id,env,H,st=>Q (.exit id) env H st
 |.ret,env,H,st=>Q .ret env H st
theorem Qh4{I:Nat->Env->Qb->YSt T->Prop}(body:∀n env H st,I n env H st->TCy X P h0 N c env H st (QnZ (λenv H st=>∃n',n'<n/\I n' env H st) Q)){n:Nat}(E:I n env H st):TCy X P h0 N (.loop c) env H st Q:=by
 intro hX M y B σ a w g r hj hrd b k cs hro hb hr;have F:∀m n env H st fr1 ro1 σ1 a1 w1 g1,n<m->I n env H st->Rel fr1 ro1 σ1 H env N a1 w1->(∀b,B b->ro1 b)->w.heap.size<=w1.heap.size->σ1.take h0=σ.take h0->Grow y w a.defers fr1 a1.defers->X.at st g1 ro1 w1/\In g1 fr1 a1.defers->
   ∃e i h,Qd7 X h0 y B σ w N a.defers Q e i h/\ArrivesIn (Machine.fenced P (WF M)) P (lone (b.atR a1 (.code c::.inLoop c::k)) cs w1) b k cs e i h:=by
  intro m
  induction m with
  |zero=>omega
  |succ m ih=>
   intro n env H st fr1 ro1 σ1 a1 w1 g1 hn E r1 s1 z1 t1 gr1 j1;obtain⟨e,i,h,G,d⟩:=body n env H st E hX M fr1 ro1 σ1 a1 w1 g1 r1 j1 hrd b (.inLoop c::k) cs hro hb hr;obtain⟨x,f,H',j,p,σ',t,V,z,s,O,R,q5,L,W,q8⟩:=G;have Y:=λb q=>q5 b (s1 b q);have u:=gr1.trans z1 q8;have hp:∀x,Q x f H' j->ExR e x->Qd7 X h0 y B σ w N a.defers Q e i h:=λx q q'=>⟨x,f,H',j,p,σ',t,V,q',q,O,R,Y,XS z1 L,W.trans t1,u⟩;cases e with
   |normal=>
    obtain rfl:x=.normal:=z;obtain⟨n',aa,s⟩:=s;obtain⟨e2,a2,w2,J,l⟩:=ih n' f H' j t p σ' i h V (by omega) s O Y (XS z1 L) (W.trans t1) u R;exact⟨e2,a2,w2,J,.of_steps (StepsIn.trans d (.one (fenced_calm hb hr rfl) stepR_inLoop)) l⟩
   |exit id=>
    obtain rfl:x=.exit id:=z;exact⟨_,i,h,hp _ s rfl,.pass rfl (λ_ _=>.inl (by simp)) d⟩
   |ret=>
    obtain rfl:x=.ret:=z;exact⟨_,i,h,hp _ s rfl,.pass rfl (λ_ _=>.inl (by simp)) d⟩
   |_=>exact z.elim
 obtain⟨e,i,h,G,d⟩:=F (n+1) n env H st y B σ a w g (Xn _) E r (λ_ q=>q) (XQ _) rfl (Grow.refl _ _ _) hj;exact⟨e,i,h,G,.of_steps (.one (fenced_calm hb hr rfl) stepR_loop) d⟩
end
theorem Sim.part{fr ro:Nat->Prop}{σ:Sig}{H:Qb}{w:World}(h:Sim fr ro σ H w){π:List Nat}{Hc:Qb}(hH:π.map (λp=>H[p]?)=(Hc.map (Yi (rho π H.length))).map some)(hπ:π.Nodup):
  Sim (λb=>fr b\/(∃i x,σ[i]?=some (some b)/\H[i]?=some x/\x.live=true/\i∉π)\/ ∃i x d,σ[i]?=some (some d)/\H[i]?=some x/\Hid w x d b/\i∉π) ro (YK σ π) Hc w/\ ∀j:Nat,σ[rho π H.length j]?=(YK σ π)[j]? :=by
 have hp:∀p∈π,p<H.length:=λp q=>JJ hH q;have hσl:=h.len;have m:∀(j p:Nat),π[j]?=some p->H[p]?=(Hc[j]?).map (Yi (rho π H.length)):=by
  intro j p n;have:=congrArg (λl=>l[j]?) hH
  grind
 have O:π.length=Hc.length:=by simpa using congrArg List.length hH
 have hσc:∀j:Nat,σ[rho π H.length j]?=(YK σ π)[j]? :=by
  intro j;have:=Qfn (τ:=[]) hσl hp j
  grind
 have hπj:∀(j b:Nat),(YK σ π)[j]?=some (some b)->∃p,π[j]?=some p/\σ[p]?=some (some b):=by
  intro j b n;simp only[YK,Xo]at n
  grind
 refine⟨?_,hσc⟩
 .refine⟨by simp[YK,O],h.roOk,?_,?_,?_,?_,?_,?_⟩
  .rintro b (N|⟨i,x,a,g,e,M⟩|⟨i,x,d,a,g,e,M⟩)
   .exact h.frLt b N
   .exact(h.own i b x a g e).1
   .exact(h.hid i d x b a g e).lt
  .rintro b N (P|⟨i,x,a,g,e,M⟩|⟨i,x,d,a,g,e,M⟩)
   .exact h.roFr b N P
   .exact(h.own i b x a g e).2.1 N
   .exact(h.hid i d x b a g e).ro N
  .intro j b x a g e;obtain⟨p,f,z⟩:=hπj j b a;have E:H[p]?=some (Yi (rho π H.length) x):=by grind
   obtain⟨o1,o2,o3⟩:=h.own p b _ z E (by rw[QQ];exact e);refine⟨o1,o2,?_⟩;rintro(P|⟨i,y,y1,y2,G,Q⟩|⟨i,y,d,y1,y2,G,Q⟩)
   .exact o3 P
   .have:=h.inj i p b _ _ y1 z y2 E G (by rw[QQ];exact e)
    grind
   .exact(h.hid i d y b y1 y2 G).ne p b _ z E (by rw[QQ];exact e) rfl
  .intro i j b x y a g e M q5 q6;obtain⟨p,f,z⟩:=hπj i b a;obtain⟨u,t,W⟩:=hπj j b g;have E:H[p]?=some (Yi (rho π H.length) x):=by rw[m i p f,e];rfl
   have X:H[u]?=some (Yi (rho π H.length) y):=by rw[m j u t,M];rfl
   have:=h.inj p u b _ _ z W E X (by rw[QQ];exact q5) (by rw[QQ];exact q6);subst this;have F:i<π.length:=by
    rcases Vw i π.length with q|q
    .exact q
    .rw[XL q]at f;simp at f
   have n:j<π.length:=by
    rcases Vw j π.length with q|q
    .exact q
    .rw[XL q]at t;simp at t
   rw[XH F]at f;rw[XH n]at t;have r:=(XV f).trans (XV t).symm;rcases Nat.lt_trichotomy i j with q|q|q
   .exact(Vy.1 hπ i j F n q r).elim
   .exact q
   .exact(Vy.1 hπ j i n F q r.symm).elim
  .intro j s x a g;have n:j<π.length:=by
    rcases Vw j π.length with q|q
    .exact q
    .rw[XL (by simpa[YK]using q)]at a;simp at a
   have f:π[j]?=some π[j]:=XH n;have E:H[π[j]]?=some (Yi (rho π H.length) x):=by rw[m j _ f,g];rfl
   have z:σ[π[j]]?=some s:=by
    have:=hσc j;rw[a]at this;simpa[rho,f]using this
   exact(Qjb hσc).1 (h.blk _ s _ z E)
  .intro j b x c a g e;obtain⟨p,f,z⟩:=hπj j b a;have E:H[p]?=some (Yi (rho π H.length) x):=by rw[m j p f,g];rfl
   have k:=h.hid p b _ c z E ((Qal _ _ _ _ _).2 e);refine⟨k.lt,k.ro,?_,?_,?_⟩
   .rintro(P|⟨i,y,y1,y2,G,Q⟩|⟨i,y,d,y1,y2,G,Q⟩)
    .exact k.fr P
    .exact k.ne i c y y1 y2 G rfl
    .obtain⟨rfl,rfl⟩:=k.one i d y y1 y2 G;exact Q (VB f)
   .intro B L y Y T R;obtain⟨u,J,V⟩:=hπj B L Y;exact k.ne u L _ V (show H[u]?=some (Yi (rho π H.length) y)by rw[m B u J,T];rfl) (by rw[QQ];exact R)
   .intro B L y Y T R;obtain⟨u,J,V⟩:=hπj B L Y;obtain⟨z4,z5⟩:=k.one u L _ V (show H[u]?=some (Yi (rho π H.length) y)by rw[m B u J,T];rfl) ((Qal _ _ _ _ _).2 R);subst z5;have F:B<π.length:=(XI.1 J).1;have n:j<π.length:=(XI.1 f).1;rw[XH F]at J;rw[XH n]at f;have r:=(XV J).trans (XV f).symm;refine⟨z4,?_⟩;rcases Nat.lt_trichotomy B j with q|q|q
    .exact(Vy.1 hπ B j F n q r).elim
    .exact q
    .exact(Vy.1 hπ j B n F q r.symm).elim
theorem Sim.frames{fr fr' ro:Nat->Prop}{σ:Sig}{H:Qb}{w:World}(s:Sim fr ro σ H w)(lt:∀b,fr' b->b<w.heap.size)(hro:∀b,ro b->¬fr' b)(own:∀(i b:Nat) (x:Blk),σ[i]?=some (some b)->H[i]?=some x->x.live=true->¬fr' b)
  (hd:∀(i b:Nat) (x:Blk) (c:Nat),σ[i]?=some (some b)->H[i]?=some x->Hid w x b c->¬fr' c):Sim fr' ro σ H w:=
 ⟨s.len,s.roOk,lt,hro,λi b x q1 q2 q3=>⟨(s.own i b x q1 q2 q3).1,(s.own i b x q1 q2 q3).2.1,own i b x q1 q2 q3⟩,s.inj,s.blk,
  s.hidTo (· = ·) Q9 (XQ _) (by simp) (by grind) (by grind)⟩
def Qmq(H:Qb)(p:Nat):Qb:=match H[p]? with
 |some x=>bif x.holds then H.set p .dead else H
 |none=>H
def QeW:Qb->List Nat->Qb
 |H,[]=>H
 |H,p::π=>QeW (Qmq H p) π
theorem QeX(H:Qb)(p:Nat):(Qmq H p=H/\ ∀x,H[p]?=some x->x.holds=false)\/Qmq H p=H.set p .dead:=by
 unfold Qmq
 grind
theorem Qf7:∀(π:List Nat) (H:Qb) (i:Nat) (x:Blk),(QeW H π)[i]?=some x->x=.dead\/(H[i]?=some x/\(x.holds=true->i∉π))
 |[],H,i,x,h=>.inr ⟨h,λ_=>by simp⟩
 |p::π,H,i,x,h=>by
  rcases Qf7 π _ i x h with h|⟨h1,h2⟩
  .exact .inl h
  .rcases QeX H p with⟨e,hl⟩|e
   .grind
   grind
theorem QeG{fr ro:Nat->Prop}{σ:Sig}{w:World}:∀(π:List Nat) {H:Qb} (s:Sim fr ro σ H w),Sim fr ro σ (QeW H π) w
 |[],_,s=>s
 |p::π,H,s=>by
  rw[QeW];rcases QeX H p with h|h
  .rw[h.1];exact QeG π s
  .rw[h];exact QeG π (s.kill p)
theorem Sim.put{fr ro:Nat->Prop}{σ:Sig}{H:Qb}{w:World}(s:Sim fr ro σ H w){b:Nat}{obj:Obj}(l:fr b)(u:w.shape? b=none):
  Sim fr ro σ H (w.putObj b obj)/\Qk (λc=>c≠b) ro w ro (w.putObj b obj):=by
 have a:∀c,c≠b->(w.putObj b obj).heap[c]?=w.heap[c]? :=λc r=>World.putObj_heap_other r;have f:(w.putObj b obj).heap.size=w.heap.size:=by simp
 have B:∀c,ro c->c≠b:=λc q e=>s.roFr c q (e▸l);have ev:Qk (λc=>c≠b) ro w ro (w.putObj b obj):=by
  refine⟨λ_ q=>q,(by grind),λc q=>a c q,by omega,λc x q=>?_,rfl,rfl,rfl,XQ _⟩
  grind[World.shape?]
 have k:Ext ro σ w ro σ (w.putObj b obj):=by have:=ev.ext σ [];grind
 refine⟨⟨s.len,s.roOk.to (λ_ q=>q) ev.keepRo (λc q=>by rw[f];exact s.roLt c q),λc q=>by rw[f];exact s.frLt c q,s.roFr,λi c x g h t=>?_,s.inj,λi y x g h=>?_,
  s.hidTo (· = ·) Q9 (by omega) (by simp) (by simp) λj d y p n J=>.inl ⟨j,y,rfl,p,n,id,λc q=>s.hidKeep p n (λz=>a d (λe=>(s.own j d y p n z).2.2 (e▸l))) ev.keepRo q⟩⟩,ev⟩
 .obtain⟨E,F,G⟩:=s.own i c x g h t
  grind
 .refine(s.blk i y x g h).keep k ?_ ?_
  .rintro c rfl m;exact a c (λe=>(s.own i c x g h m).2.2 (e▸l))
  .rintro d c rfl m;exact a c (λe=>(s.hid i d x c g h m).fr (e▸l))
theorem Qc3{w:World}{l:Nat}{r:Loop}(h:w.heap[l]?=some (.loop r)):w.shape? l=none:=by
 unfold World.shape?;rw[h]
structure Fix where
 fr:Nat->Prop
 ro:Nat->Prop
 σ:Sig
 w:World
 h1:Nat
 env:Env
 tmps:Array Value
 ds1:List Deferred
 l:Nat
 rc:LoopState->Option Code->Loop
 fr1:Nat->Prop
structure Fix.Ok (D:Fix):Prop where
 sub:∀b,D.fr b->D.fr1 b
 l1:D.fr1 D.l
 lf:¬D.fr D.l
 len:D.σ.length=D.h1
structure RJ (D:Fix) (ro1:Nat->Prop) (σ1:Sig) (H:Qb) (st:LoopState) (pe:Option Code) (q g:Nat->Prop) (W:World):Prop where
 sim:Sim D.fr1 ro1 σ1 H W
 env:∀t,VR ro1 D.σ W (lk D.env t) (D.tmps.getD t undef)
 sig:σ1.take D.h1=D.σ
 ev:Qk D.fr D.ro D.w ro1 W
 marks:Qc1 D.fr1 D.ds1 W
 rc:W.heap[D.l]?=some (.loop (D.rc st pe))
 roG:∀b,ro1 b->q b\/g b
 frG:∀b,D.fr1 b->g b
 own:∀(i b:Nat) (x:Blk),σ1[i]?=some (some b)->H[i]?=some x->x.live=true->g b
 hidG:∀(i b:Nat) (x:Blk) (c:Nat),σ1[i]?=some (some b)->H[i]?=some x->Hid W x b c->g c
 lt:∀b,g b->b<W.heap.size
theorem QeN{σ σ1:Sig}{a:Nat}(h:σ1.take a=σ){i b:Nat}(q:σ[i]?=some (some b)):σ1[i]?=some (some b):=by
 grind
section
variable {D:Fix} {ro1:Nat->Prop} {σ1:Sig} {H:Qb} {st:LoopState} {pe:Option Code} {qR g:Nat->Prop} {W:World}
theorem RJ.step(p:D.Ok)(j:RJ D ro1 σ1 H st pe qR g W){ro':Nat->Prop}{W':World}(e:Qk g qR W ro' W'):RJ D ro1 σ1 H st pe qR g W':=by
 have hro:=λb q=>(j.roG b q).elim (e.keepRo b) (e.keepFr b);have ev:Qk D.fr1 ro1 W ro1 W':=⟨λ_ q=>q,hro,λb q=>e.keepFr b (j.frG b q),e.size,e.shape,e.os,e.tape,e.output,e.drawn⟩;have h:∀σ,Ext ro1 σ W ro1 σ W':=λ σ=>by have:=ev.ext σ [];grind
 refine⟨⟨j.sim.len,j.sim.roOk.to (λ_ q=>q) hro (λb q=>X9 (j.sim.roLt b q) e.size),λb q=>X9 (j.sim.frLt b q) e.size,j.sim.roFr,λi b x a f l=>?_,j.sim.inj,λi z x a f=>?_,
  j.sim.hidTo (· = ·) Q9 e.size (by simp) (by simp) λi d y n m u=>.inl ⟨i,y,rfl,n,m,id,λc q=>j.sim.hidKeep n m (λz=>e.keepFr d (j.own i d y n m z)) hro q⟩⟩,
  λt=>(j.env t).mono (h _),j.sig,j.ev.trans (ev.frMono p.sub),j.marks.keep ev,(ev.keepFr _ p.l1).trans j.rc,j.roG,j.frG,j.own,λi b x c a f l=>j.hidG i b x c a f (j.sim.hidKeep a f (λz=>e.keepFr b (j.own i b x a f z)) hro l),λb q=>X9 (j.lt b q) e.size⟩
 .obtain⟨r,s⟩:=j.sim.own i b x a f l;exact⟨X9 r e.size,s⟩
 .refine(j.sim.blk i z x a f).keep (h _) ?_ ?_
  .rintro b rfl k;exact e.keepFr b (j.own i b x a f k)
  .rintro b c rfl k;exact e.keepFr c (j.hidG i b x c a f k)
theorem RJ.up{g':Nat->Prop}(j:RJ D ro1 σ1 H st pe qR g W)(h:∀b,g b->g' b)(hl:∀b,g' b->b<W.heap.size):RJ D ro1 σ1 H st pe qR g' W:=
 {j with roG:=λb q=>(j.roG b q).imp id (h b),frG:=λb q=>h b (j.frG b q),own:=λi b x q1 q2 q3=>h b (j.own i b x q1 q2 q3),hidG:=λi b x c q1 q2 q3=>h c (j.hidG i b x c q1 q2 q3),lt:=hl}
def FrB(D:Fix)(ro1 g:Nat->Prop)(W:World):Nat->Prop:=λb=>(D.fr1 b\/(¬g b/\ ¬ro1 b))/\b<W.heap.size
theorem RJ.simB(j:RJ D ro1 σ1 H st pe qR g W):Sim (FrB D ro1 g W) ro1 σ1 H W:=by
 refine j.sim.frames (λb q=>q.2) (λb q r=>?_) (λi b x e a d r=>?_) (λi b x c e a d r=>r.1.elim (j.sim.hid i b x c e a d).fr λr=>r.1 (j.hidG i b x c e a d))
 .rcases r.1 with r|r
  .exact j.sim.roFr b q r
  grind
 .rcases r.1 with r|r
  .exact(j.sim.own i b x e a d).2.2 r
  .exact r.1 (j.own i b x e a d)
theorem RJ.fin(z:D.Ok)(j:RJ D ro1 σ1 H st pe qR g W){w ro':Nat->Prop}{σ':Sig}{H':Qb}{W':World}{st':LoopState}{pe':Option Code}
  (ev:Qk (λb=>FrB D ro1 g W b/\b≠D.l) ro1 W ro' W')(s:Sim w ro' σ' H' W')(u:∀b,FrB D ro1 g W b->w b)(hσ:σ'.take D.h1=σ1.take D.h1)(N:W'.heap[D.l]?=some (.loop (D.rc st' pe'))):
  RJ D ro' σ' H' st' pe' qR (λb=>g b\/(W.heap.size<=b/\b<W'.heap.size)) W'/\QgS g (λb=>g b\/(W.heap.size<=b/\b<W'.heap.size)) W W':=by
 have m:∀b,D.fr1 b->FrB D ro1 g W b:=λb q=>⟨.inl q,j.sim.frLt b q⟩;have evf:=ev.frMono λb q=>⟨m b (z.sub b q),λe=>z.lf (e▸q)⟩;have hext:=ev.ext0 D.σ;have y:∀b,b<W.heap.size->b<W'.heap.size:=λb q=>X9 q ev.size;have h:∀b,b<W.heap.size->¬FrB D ro1 g W b->g b\/ro1 b:=by
  intro b a L;by_cases n:g b
  .exact .inl n
  .by_cases f:ro1 b
   .exact .inr f
   .exact absurd ⟨.inr ⟨n,f⟩,a⟩ L
 refine⟨⟨s.frames (λb q=>y b (j.sim.frLt b q)) (λb q r=>s.roFr b q (u b (m b r))) (λi b x n f p r=>(s.own i b x n f p).2.2 (u b (m b r))) (λi b x c n f p r=>(s.hid i b x c n f p).fr (u c (m c r))),
  λt=>(j.env t).mono hext,hσ.trans j.sig,j.ev.trans evf,⟨j.marks.1,λd O=>?_⟩,N,λb q=>?_,λb q=>.inl (j.frG b q),λi b x n f p=>?_,λi b x c n f p=>?_,λb q=>q.elim (λq=>y b (j.lt b q)) (λq=>q.2)⟩,
  ⟨λb q=>.inl q,(by grind),λb q=>q.elim (λq=>y b (j.lt b q)) (λq=>q.2),(by omega),λb n f=>?_,ev.size,ev.shape,ev.os,ev.tape,ev.output,ev.drawn⟩⟩
 .obtain⟨B,G,F,E⟩:=j.marks.2 d O;refine⟨B,G,F,(ev.keepFr B ⟨m B F,λe=>?_⟩).trans E⟩;subst e;rw[j.rc]at E;cases E
 .rcases Vw b W.heap.size with a|a
  .rcases h b a (λr=>s.roFr b q (u b r))with r|r
   .grind
   .exact(j.roG b r).imp id .inl
  .exact .inr (.inr ⟨a,s.roLt b q⟩)
 .obtain⟨P,M,J⟩:=s.own i b x n f p;rcases Vw b W.heap.size with a|a
  .rcases h b a (λr=>J (u b r))with r|r
   .exact .inl r
   .exact absurd (ev.sub b r) M
  omega
 .have k:=s.hid i b x c n f p;rcases Vw c W.heap.size with a|a
  .rcases h c a (λr=>k.fr (u c r))with r|r
   .exact .inl r
   .exact absurd (ev.sub c r) k.ro
  .exact .inr ⟨a,k.lt⟩
 .by_cases r:ro1 b
  .exact ev.keepRo b r
  .exact ev.keepFr b ⟨(by grind),λe=>f (j.frG b (e▸z.l1))⟩
end
theorem Sim.roAdd{fr ro a:Nat->Prop}{σ:Sig}{H:Qb}{w:World}(s:Sim fr ro σ H w)(e:∀b,a b->b<w.heap.size)(f:∀b,a b->¬fr b)(h:∀(i b:Nat) (x:Blk),σ[i]?=some (some b)->H[i]?=some x->x.live=true->¬a b)
  (j:∀(i b:Nat) (x:Blk) (c:Nat),σ[i]?=some (some b)->H[i]?=some x->Hid w x b c->¬a c):Sim fr (λb=>ro b\/a b) σ H w:=by
 have ext:Ext ro σ w (λb=>ro b\/a b) σ w:=⟨λ_ q=>.inl q,λ_ _=>rfl,λ_ _ q=>q,λ_ _ q=>q⟩;refine⟨s.len,s.roOk.to (λ_ q=>.inl q) (λ_ _=>rfl) (λb q=>q.elim (s.roLt b) (e b)),s.frLt,λb q=>q.elim (s.roFr b) (f b),λi b x d g k=>?_,s.inj,λi y x d g=>(s.blk i y x d g).keep ext (λ_ _ _=>rfl) (λ_ _ _ _=>rfl),
  s.hidTo (· = ·) Q9 (XQ _) (by grind) (by simp) (by grind)⟩
 obtain⟨l,m,n⟩:=s.own i b x d g k
 grind
theorem RJ.roAdd{D:Fix}{ro1:Nat->Prop}{σ1:Sig}{H:Qb}{st:LoopState}{pe:Option Code}{qR ri g:Nat->Prop}{W:World}(j:RJ D ro1 σ1 H st pe qR g W)(hq:∀b,qR b->ri b)(hI:∀b,ri b->b<W.heap.size/\ ¬g b):RJ D (λb=>ro1 b\/ri b) σ1 H st pe ri g W:=
 {j with
  sim:=j.sim.roAdd (λb q=>(hI b q).1) (λb q z=>(hI b q).2 (j.frG b z)) (λi b x q1 q2 q3 z=>(hI b z).2 (j.own i b x q1 q2 q3)) (λi b x c q1 q2 q3 z=>(hI c z).2 (j.hidG i b x c q1 q2 q3))
  env:=λt=>(j.env t).mono ⟨λ_ q=>.inl q,λ_ _=>rfl,λ_ _ q=>q,λ_ _ q=>q⟩
  ev:=j.ev.trans (YQ λ_ q=>.inl q)
  roG:=λb q=>q.elim (λq=>(j.roG b q).imp (hq b) id) .inl}
def Qob:List Nat->List A->Env->Env
 |p::ps,a::zs,env=>Qob ps zs (up env p a)
 |_,_,env=>env
def Qk3:List Nat->List Value->Array Value->Array Value
 |p::ps,v::vs,t=>Qk3 ps vs (t.setIfInBounds p v)
 |_,_,t=>t
theorem Qhm:∀(ps:List Nat) (vs:List Value) (t:Array Value),(Qk3 ps vs t).size=t.size
 |[],_,_=>rfl
 |_::_,[],_=>rfl
 |p::ps,v::vs,t=>by simp[Qk3,Qhm ps]
theorem Qhn:∀(ps:List Nat) (vs:List Value) (t:Array Value),(ps.toArray.zip vs.toArray).foldl (λt (p,v)=>t.setIfInBounds p v) t=Qk3 ps vs t
 |[],vs,t=>by rw[<- Array.foldl_toList,Array.toList_zip];rfl
 |p::ps,[],t=>by rw[<- Array.foldl_toList,Array.toList_zip];rfl
 |p::ps,v::vs,t=>by
  have:=Qhn ps vs (t.setIfInBounds p v);rw[<- Array.foldl_toList,Array.toList_zip]at this⊢;exact this
theorem Qmd{ro:Nat->Prop}{σ:Sig}{w:World}:∀(ps:List Nat) (zs:List A) (vs:List Value) (env:Env) (t:Array Value),LR ro σ w zs vs->(∀p∈ps,p<t.size)->(∀s,VR ro σ w (lk env s) (t.getD s undef))->
  ∀s,VR ro σ w (lk (Qob ps zs env) s) ((Qk3 ps vs t).getD s undef)
 |[],_,_,_,_,_,_,h=>h
 |p::ps,[],vs,_,_,hv,_,h=>by
  obtain rfl:vs=[]:=hv;exact h
 |p::ps,a::zs,vs,env,t,hv,hp,h=>by
  obtain⟨v,vs',rfl,h0,hv'⟩:=hv;have h1:=VR.up (fr:=λ_=>False) (a:={tmps:=t,defers:=[]}) h (hp p (by simp)) h0;exact Qmd ps zs vs' (up env p a) (t.setIfInBounds p v) hv' (λq hq=>by grind) h1
def QlT(h1:Nat)(env:Env)(Q:QV)(K:Qb->Prop):QV
 |.normal,env',H'=>∃H2,Le h1 env' H' [] H2/\K H2
 |.exit id,env',H'=>∃H2,Le h1 env' H' [] H2/\Q (.exit id) env H2
 |.ret,env',H'=>∃H2,Le h1 env' H' [] H2/\Q .ret env H2
def Jump(Q:QV)(env:Env)(c:Code)(H:Qb):Prop:=(∃id,c=.exit id/\Q (.exit id) env H)\/(c=.ret/\Q .ret env H)
section
variable {D:Fix} {ro0:Nat->Prop} {σ1:Sig} {H:Qb} {qR ri g:Nat->Prop} {W:World} {P:Program} {N:Nat} {Q:QV} {K:Qb->Prop}
theorem RJ.round{fn:FuncId}{ps:List Nat}{assign body:Code}{df:Nat}{cs:List A}{vs:List Value}(hD:D.Ok)(J:D.rc=λst pe=>{state:=st,pending:=pe,fn:=fn,tmps:=D.tmps,params:=ps.toArray,assign:=assign,body:=body,defers:=df})
  (hN:D.tmps.size=N)(an:∀p∈ps,p<N)(al:cs.length=ps.length)(hq:∀b,qR b->ri b)(hI:∀b,ri b->b<W.heap.size/\ ¬g b)(ab:LR ri [] W cs vs)(j0:RJ D ro0 σ1 H .ready none qR g W)
  (h:TC P D.h1 N assign (Qob ps cs D.env) H λe env1 H1=>e=.normal/\TC P D.h1 N body env1 H1 (QlT D.h1 D.env Q K)):
  YieldAt Fence.wide 0 P D.l vs.toArray W λe W'=>∃g',QgS g g' W W'/\((e=.returned (.bool true)/\ ∃H2 ro2 σ2,K H2/\RJ D ro2 σ2 H2 .ready none ri g' W')\/
   (e=.returned (.bool false)/\ ∃H2 c ro2 σ2,Jump Q D.env c H2/\RJ D ro2 σ2 H2 .done (some c) ri g' W')):=by
 have am:vs.length=cs.length:=ab.length;have j:=j0.roAdd hq hI;have x:LR (λb=>ro0 b\/ri b) σ1 W cs vs:=ab.mono ⟨λ_ q=>.inr q,λ_ _=>rfl,λ_ _ q=>q,λi b q=>by simp at q⟩;clear j0;generalize(λb=>ro0 b\/ri b)=ro1 at j x;have ai:∀b,D.fr1 b->FrB D ro1 g W b:=λb q=>⟨.inl q,j.sim.frLt b q⟩;have y:=ai _ hD.l1;have ac:=j.rc;have hy:=run_yield (P:=P) (r:=D.rc .ready none) (args:=vs.toArray) ac (by grind);refine⟨fn,Qk3 ps vs D.tmps,assign,body,?_,?_⟩
 .grind[Qhn]
 .refine roundIn_of_wpIn trivial ?_;show Code.wpIn (WF (some D.l)) 0 P _ _ _ _;have O:∀s,VR ro1 σ1 W (lk D.env s) (D.tmps.getD s undef):=λs=>(j.env s).mono ⟨λ_ q=>q,λ_ _=>rfl,λ_ _ q=>q,λi b q=>QeN j.sig q⟩;have ah:QeH (some D.l) (FrB D ro1 g W) W:=λl e=>by grind
  have t:=h (some D.l) (FrB D ro1 g W) ro1 σ1 {tmps:=Qk3 ps vs D.tmps,defers:=[]} W ⟨j.simB,Qmd ps cs vs D.env D.tmps x (by grind) O,by simp[Qhm,hN],List.nodup_nil,λd hd=>by cases hd⟩ ah;refine Code.wpIn_mono ?_ t;rintro e a1 t ⟨x1,env1,H1,ro2,σ2,n,h1,⟨rfl,h2⟩,h3,h4,h5,h6⟩;cases e with
  |normal=>
   have G:t.heap[D.l]?=some (.loop (D.rc .ready none)):=(h4.keepFr _ y).trans ac;refine⟨_,run_beginRound G (by rw[J]),?_⟩;obtain⟨s2,F⟩:=h3.sim.put (obj:=.loop {D.rc .ready none with state:=.busy}) (h6.sub _ y) (Qc3 G);have L:D.l<t.heap.size:=by grind
   have aj:(t.putObj D.l (.loop {D.rc .ready none with state:=.busy})).heap[D.l]?=some (.loop {D.rc .ready none with state:=.busy}):=World.putObj_heap_same L;generalize hw2:t.putObj D.l (.loop {D.rc .ready none with state:=.busy})=w2 at*;have af:Qc1 n a1.defers w2:=by
    refine⟨h3.defers.1,λd hd=>?_⟩;obtain⟨B,e1,e2,e3⟩:=h3.defers.2 d hd;refine⟨B,e1,e2,(F.keepFr B (λe=>?_)).trans e3⟩
    grind
   have r2:Rel n ro2 σ2 H1 env1 N a1 w2:=⟨s2,λs=>(h3.env s).mono (F.ext0 σ2),h3.size,af⟩;have aa:n D.l:=h6.sub _ y;refine Code.wpIn_mono ?_ (h2 (some D.l) n ro2 σ2 a1 w2 r2 (λl e=>by grind));rintro e a3 u ⟨x3,M,H3,z,σ3,R,g1,g2,g3,g4,g5,g6⟩;have m:u.heap[D.l]?=some (.loop {D.rc .ready none with state:=.busy}):=(g4.keepFr _ aa).trans aj;have E:∀(H2:Qb) (jump:Option Code),Le D.h1 M H3 [] H2->∃v k,(Instr.endRound D.l jump).run P u=.ok v k/\v=.bool jump.isNone/\ ∃g',QgS g g' W k/\ ∃a σ4,RJ D a σ4 H2 (if jump.isNone then .ready else .done) jump ri g' k:=by
    intro H2 jump f;obtain⟨a,σ4,r4,s4,t4⟩:=f R z σ3 N a3 u g3;refine⟨_,_,run_endRound jump m,rfl,?_⟩;have ag:R D.l:=g6.sub _ aa;obtain⟨s5,ae⟩:=r4.sim.put ag (Qc3 m);have X:D.l<u.heap.size:=by rw[X7]at m;exact m.1
    have ak:=World.putObj_heap_same (w:=u) (r:=D.l) (o:=.loop {{D.rc .ready none with state:=.busy}with state:=if jump.isNone then .ready else .done,pending:=jump}) X;have e1:Qk (λb=>FrB D ro1 g W b/\b≠D.l) ro1 W ro2 t:=h4.frMono λb q=>q.1;have e2:Qk (λb=>FrB D ro1 g W b/\b≠D.l) ro2 t ro2 w2:=F.frMono λb q=>q.2;have e3:Qk (λb=>FrB D ro1 g W b/\b≠D.l) ro2 w2 z u:=g4.frMono λb q=>h6.sub b q.1;have e4:Qk (λb=>FrB D ro1 g W b/\b≠D.l) z u a u:=YQ s4;have e5:=(((e1.trans e2).trans e3).trans e4).trans (ae.frMono λb (q:FrB D ro1 g W b/\b≠D.l)=>q.2);obtain⟨q1,q2⟩:=j.fin hD e5 s5 (λb q=>g6.sub b (h6.sub b q)) (by rw[t4,g5,h5]) (st':=if jump.isNone then .ready else .done) (pe':=jump) (by rw[ak,J]);exact⟨_,q2,a,σ4,q1⟩
   cases e with
   |normal=>
    obtain rfl:x3=.normal:=g1;obtain⟨H2,f,hK⟩:=g2;obtain⟨v,k,V,rfl,g',Y,a,σ4,T⟩:=E H2 none f;exact⟨_,k,V,g',Y,.inl ⟨rfl,H2,a,σ4,hK,T⟩⟩
   |exit id=>
    obtain rfl:x3=.exit id:=g1;obtain⟨H2,f,hK⟩:=g2;obtain⟨v,k,V,rfl,g',Y,a,σ4,T⟩:=E H2 (some (.exit id)) f;exact⟨_,k,V,g',Y,.inr ⟨rfl,H2,_,a,σ4,.inl ⟨id,rfl,hK⟩,T⟩⟩
   |ret=>
    obtain rfl:x3=.ret:=g1;obtain⟨H2,f,hK⟩:=g2;obtain⟨v,k,V,rfl,g',Y,a,σ4,T⟩:=E H2 (some .ret) f;exact⟨_,k,V,g',Y,.inr ⟨rfl,H2,_,a,σ4,.inr ⟨rfl,hK⟩,T⟩⟩
   |_=>exact g1.elim
  |exit id=>cases h1
  |ret=>cases h1
  |_=>exact h1.elim
end
theorem Sim.beside{fr ro:Nat->Prop}{σ:Sig}{H:Qb}{w g:World}(s:Sim fr ro σ H w)(ev:Qk fr ro w ro g)(a:∀b,b<w.heap.size->g.heap[b]?=w.heap[b]?):Sim (λb=>fr b\/(w.heap.size<=b/\b<g.heap.size)) ro σ H g:=by
 have hext:=ev.ext0 σ;refine⟨s.len,s.roOk.to (λ_ q=>q) ev.keepRo (λb q=>X9 (s.roLt b q) ev.size),λb q=>q.elim (λq=>X9 (s.frLt b q) ev.size) (λq=>q.2),λb q r=>?_,λi b x e f k=>?_,s.inj,λi z x e f=>?_,
  s.hidTo (· = ·) Q9 ev.size (by simp) (λi b x c e f k n=>n.elim id λq=>(by have:=(s.hid i b x c e f k).lt;omega)) λj d y m l B=>.inl ⟨j,y,rfl,m,l,id,λc q=>s.hidKeep m l (λz=>a d (s.own j d y m l z).1) ev.keepRo q⟩⟩
 .rcases r with r|r
  .exact s.roFr b q r
  .have:=s.roLt b q;omega
 .obtain⟨p,t,u⟩:=s.own i b x e f k
  grind
 .refine(s.blk i z x e f).keep hext ?_ ?_
  .rintro b rfl h;exact a b (s.own i b x e f h).1
  .rintro b c rfl h;exact a c (s.hid i b x c e f h).lt
theorem QcH{w:World}{o:Obj}{b:Nat}(a:b<w.heap.size):(w.alloc o).heap[b]?=w.heap[b]? :=by
 show(w.heap.push o)[b]?=_
 grind
theorem Qpb{P:Program}{fn:FuncId}{tmps:Array Value}{ps:Array Tmp}{assign body:Code}{rd:Option Nat}{fr ro:Nat->Prop}{w:World}(f:QeH rd fr w)(t:∀b,ro b->b<w.heap.size)(r:∀b,fr b->b<w.heap.size):
  ∃l mark w1 df,(Instr.enterLoop fn tmps ps assign body rd).run P w=.ok (l,mark) w1/\w.heap.size<=l/\l<w1.heap.size/\w1.heap[l]?=some (.loop {state:=.ready,pending:=none,fn:=fn,tmps:=tmps,params:=ps,assign:=assign,body:=body,defers:=df})/\
   (∀b,b<w.heap.size->w1.heap[b]?=w.heap[b]?)/\mark.Nodup/\(∀d∈mark,∃D,d={target:=.collected D,args:= #[]}/\w.heap.size<=D/\D<w1.heap.size/\w1.heap[D]?=some (.deferred (some [])))/\Qk fr ro w ro w1:=by
 have e:∀w1,(∀b,b<w.heap.size->w1.heap[b]?=w.heap[b]?)->w.heap.size<=w1.heap.size->w1.os=w.os->w1.tape=w.tape->w1.output=w.output->w1.drawn=w.drawn->Qk fr ro w ro w1:=by
  intro w1 u m p j n y;refine⟨λ_ q=>q,(by grind),(by grind),m,λb x q=>?_,p,j,n,by omega⟩
  grind[World.shape?]
 cases rd with
 |none=>
  have a:∀b,b<w.heap.size->((w.alloc (.deferred (some []))).alloc (.loop {state:=.ready,pending:=none,fn:=fn,tmps:=tmps,params:=ps,assign:=assign,body:=body,defers:=w.heap.size})).heap[b]?=w.heap[b]? :=λb g=>
   (QcH (by simp;omega)).trans (QcH g)
  refine⟨_,_,_,w.heap.size,run_enterLoop_outer fn tmps ps assign body,by omega,by simp,?_,a,by simp,?_,e _ a (by simp;omega) rfl rfl rfl rfl⟩
  .grind[World.alloc_heap_new,World.size_alloc]
  .intro d s;obtain rfl:=Vv.1 s;exact⟨_,rfl,XQ _,by simp;omega,(QcH (by simp)).trans (World.alloc_heap_new w _)⟩
 |some k=>
  obtain⟨_,h,i⟩:=f k rfl;have a:∀b,b<w.heap.size->(w.alloc (.loop {state:=.ready,pending:=none,fn:=fn,tmps:=tmps,params:=ps,assign:=assign,body:=body,defers:=h.defers})).heap[b]?=w.heap[b]? :=λb g=>QcH g;exact⟨_,_,_,h.defers,run_enterLoop_inner i fn tmps ps assign body,XQ _,by simp,World.alloc_heap_new w _,a,List.nodup_nil,(by simp),e _ a (by simp) rfl rfl rfl rfl⟩
theorem TC.rangeFunc{P:Program}{h0 N:Nat}{ac:Operand}{ps:List Nat}{assign body:Code}{env:Env}{H:Qb}{Q:QV}{f:FuncId}{ah af:List A}{Hc:Qb}{T S:Type}{enc:T->List A}{nx:List T->T->List T->Prop}{xs:List T}
  (π:List Nat)(Hp:S->Qb)(V:S->List T->Prop)(s0:S)(hh:h0<=H.length)(hg:opA env ac=.fn (.func f) [] ah)(hargs:ah=Qak (rho π H.length) af)(hH:π.map (λp=>H[p]?)=(Hc.map (Yi (rho π H.length))).map some)(hπ:π.Nodup)
  (bf:(ps.all λp=>Nat.blt p N)=true)(eg:∀args w,(callFunc f args).run P w=.ok (.enter f args) w)(az:QkE P f af Hc enc nx xs)(ar:∀x,(enc x).length=ps.length)
  (bb:Le H.length env (QeW H π) env (Hp s0))(hV:V s0 xs)
  (ak:∀s l x rem,V s l->nx l x rem->TC P H.length N assign (Qob ps (enc x) env) (Hp s) λe env1 H1=>e=.normal/\TC P H.length N body env1 H1 (QlT H.length env Q λH2=>∃s',V s' rem/\H2=Hp s'))
  (al:∀s,V s []->Q .normal env (Hp s)):TC P h0 N (.rangeFunc ac ps.toArray assign body) env H Q:=by
 intro rd fr ro σ a w r hrd;have hv:=Qi r ac;rw[hg]at hv;obtain⟨l1,E,hv,bd,aq⟩:=hv;obtain rfl:l1=[]:=bd;refine wpIn_rangeFunc ?_;intro fn bi;obtain⟨l,G,Y,df,he,hl,a8,a2,au,a5,aj,aa⟩:=Qpb (P:=P) (fn:=fn) (tmps:=a.tmps) (ps:=ps.toArray) (assign:=assign) (body:=body) (ro:=ro) hrd r.sim.roLt r.sim.frLt;have s1:=r.sim.beside aa au
 let D:Fix:=⟨fr,ro,σ,w,H.length,env,a.tmps,G++a.defers,l,(λst pe=>{state:=st,pending:=pe,fn:=fn,tmps:=a.tmps,params:=ps.toArray,assign:=assign,body:=body,defers:=df}),(λb=>fr b\/(w.heap.size<=b/\b<Y.heap.size))⟩
 have ag:¬fr l:=λq=>by have:=r.sim.frLt l q;omega
 have hD:D.Ok:=⟨λb q=>.inl q,.inr ⟨hl,a8⟩,ag,r.sim.len⟩;have L:Qc1 D.fr1 (G++a.defers) Y:=by
  refine⟨List.nodup_append.2 ⟨a5,r.defers.1,λd O d' bc e=>?_⟩,λd O=>?_⟩
  .subst e;obtain⟨B,e1,e2,_⟩:=aj d O;obtain⟨B',ay,ba,_⟩:=r.defers.2 d bc;rw[e1]at ay;have:B=B':=by simpa using ay
   subst this;have:=r.sim.frLt B ba;omega
  .rcases Vx.1 O with O|O
   .obtain⟨B,e1,e2,e3,e4⟩:=aj d O;exact⟨B,e1,.inr ⟨e2,e3⟩,e4⟩
   .obtain⟨B,e1,e2,e3⟩:=(r.defers.keep aa).2 d O;exact⟨B,e1,.inl e2,e3⟩
 obtain⟨sp,hσc⟩:=s1.part hH hπ;have am:LR ro (YK σ π) Y af E:=(QbY hσc).1 (hargs▸aq.mono (aa.ext0 σ))
 let frX:Nat->Prop:=λb=>D.fr1 b\/(∃(j:Nat) (x:Blk),(YK σ π)[j]?=some (some b)/\Hc[j]?=some x/\x.live=true)\/ ∃(j:Nat) (x:Blk) (d:Nat),(YK σ π)[j]?=some (some d)/\Hc[j]?=some x/\Hid Y x d b
 have sX:Sim frX ro σ (QeW H π) Y:=by
  refine(QeG π s1).frames (λb q=>?_) (λb q r=>?_) (λi b x n m k r=>?_) (λi b x c n m k r=>?_)
  .rcases q with q|⟨j,x,n,m,k⟩|⟨j,x,d,n,m,k⟩
   .exact s1.frLt b q
   .exact(sp.own j b x n m k).1
   .exact(sp.hid j d x b n m k).lt
  .rcases r with r|⟨j,x,n,m,k⟩|⟨j,x,d,n,m,k⟩
   .exact s1.roFr b q r
   .exact(sp.own j b x n m k).2.1 q
   .exact(sp.hid j d x b n m k).ro q
  .rcases Qf7 _ _ _ _ m with rfl|⟨m,hi⟩
   .cases k
   .rcases r with r|⟨j,y,p1,p2,p3⟩|⟨j,y,d,p1,p2,p3⟩
    .exact(s1.own i b x n m k).2.2 r
    .exact(sp.own j b y p1 p2 p3).2.2 (.inr (.inl ⟨i,x,n,m,k,hi (QaH k)⟩))
    .exact(sp.hid j d y b p1 p2 p3).fr (.inr (.inl ⟨i,x,n,m,k,hi (QaH k)⟩))
  .rcases Qf7 _ _ _ _ m with rfl|⟨m,hi⟩
   .exact k.elim
   .rcases r with r|⟨j,y,p1,p2,p3⟩|⟨j,y,d,p1,p2,p3⟩
    .exact(s1.hid i b x c n m k).fr r
    .exact(sp.own j c y p1 p2 p3).2.2 (.inr (.inr ⟨i,x,b,n,m,k,hi k.holds⟩))
    .exact(sp.hid j d y c p1 p2 p3).fr (.inr (.inr ⟨i,x,b,n,m,k,hi k.holds⟩))
 have rX:Rel frX ro σ (QeW H π) env N {a with defers:=G++a.defers} Y:=
  ⟨sX,λs=>(r.env s).mono (aa.ext0 σ),r.size,L.1,λd O=>let⟨B,e1,e2,e3⟩:=L.2 d O;⟨B,e1,.inl e2,e3⟩⟩
 obtain⟨ae,σ',r',ab,bg⟩:=bb frX ro σ N _ Y rX;have hσt:σ.take H.length=σ:=by rw[<- r.sim.len,X4]
 let g0:Nat->Prop:=λb=>D.fr1 b\/(ae b/\ ¬ro b)\/(∃(i:Nat) (x:Blk),σ'[i]?=some (some b)/\(Hp s0)[i]?=some x/\x.live=true)\/ ∃(i:Nat) (x:Blk) (d:Nat),σ'[i]?=some (some d)/\(Hp s0)[i]?=some x/\Hid Y x d b
 have j0:RJ D ae σ' (Hp s0) .ready none ro g0 Y:=by
  refine⟨r'.sim.frMono λb q=>.inl q,λt=>(r.env t).mono ⟨ab,aa.keepRo,aa.shape,λ_ _ q=>q⟩,bg.trans hσt,aa.trans (YQ ab),L,a2,λb q=>?_,λb q=>.inl q,λi b x n m k=>.inr (.inr (.inl ⟨i,x,n,m,k⟩)),λi b x c n m k=>.inr (.inr (.inr ⟨i,x,b,n,m,k⟩)),λb q=>?_⟩
  .by_cases z:ro b
   .exact .inl z
   .exact .inr (.inr (.inl ⟨q,z⟩))
  .rcases q with q|q|⟨i,x,n,m,k⟩|⟨i,x,d,n,m,k⟩
   .exact s1.frLt b q
   .exact r'.sim.roLt b q.1
   .exact(r'.sim.own i b x n m k).1
   .exact(r'.sim.hid i d x b n m k).lt
 have sI:Sim g0 ro (YK σ π) Hc Y:=by
  refine sp.frames (λb q=>j0.lt b q) (λb q z=>?_) (λj b x n m k z=>?_) (λj b x c n m k z=>?_)
  .rcases z with z|z|⟨i,x,n,m,k⟩|⟨i,x,d,n,m,k⟩
   .exact s1.roFr b q z
   .exact z.2 q
   .exact(r'.sim.own i b x n m k).2.1 (ab b q)
   .exact(r'.sim.hid i d x b n m k).ro (ab b q)
  .have hX:frX b:=.inr (.inl ⟨j,x,n,m,k⟩);rcases z with z|z|⟨i,y,p1,p2,p3⟩|⟨i,y,d,p1,p2,p3⟩
   .exact(sp.own j b x n m k).2.2 (.inl z)
   .exact r'.sim.roFr b z.1 hX
   .exact(r'.sim.own i b y p1 p2 p3).2.2 hX
   .exact(r'.sim.hid i d y b p1 p2 p3).fr hX
  .have hX:frX c:=.inr (.inr ⟨j,x,b,n,m,k⟩);rcases z with z|z|⟨i,y,p1,p2,p3⟩|⟨i,y,d,p1,p2,p3⟩
   .exact(sp.hid j b x c n m k).fr (.inl z)
   .exact r'.sim.roFr c z.1 hX
   .exact(r'.sim.own i c y p1 p2 p3).2.2 hX
   .exact(r'.sim.hid i d y c p1 p2 p3).fr hX
 let X:Ctx T:={l:=l,J:=λrem q g W=>∃s F σ1,V s rem/\RJ D F σ1 (Hp s) .ready none q g W,Jx:=λ_ q g W=>∃H2 c F σ1,Jump Q env c H2/\RJ D F σ1 H2 .done (some c) q g W,enc:=enc,nx:=nx}
 have av:∀p∈ps,p<N:=λp hp=>by simpa using Xs.1 bf p hp
 have hX:X.ok P:=by
  refine⟨⟨λrem q g W W' ae ⟨s,F,σ1,M,R⟩ he=>⟨s,F,σ1,M,R.step hD he⟩,λrem q g g' W ⟨s,F,σ1,M,R⟩ hg hl=>⟨s,F,σ1,M,R.up hg hl⟩⟩,
   ⟨λrem q g W W' ae ⟨H2,c,F,σ1,M,R⟩ he=>⟨H2,c,F,σ1,M,R.step hD he⟩,λrem q g g' W ⟨H2,c,F,σ1,M,R⟩ hg hl=>⟨H2,c,F,σ1,M,R.up hg hl⟩⟩,?_⟩
  rintro lr x rem q g ri W vs a3 ⟨s,F,σ1,M,R⟩ hq hI a7;obtain⟨a6,tm,be,a9,y1,y2⟩:=RJ.round (D:=D) (Q:=Q) (K:=λH2=>∃s',V s' rem/\H2=Hp s') hD rfl r.size av (ar x) hq hI a7 R (ak s lr x rem M a3);refine⟨a6,tm,be,a9,y1,RoundIn.mono y2 ?_⟩;rintro e W' ⟨g',k1,k2⟩;refine⟨g',ri,λ_ z=>z,k1,?_⟩;rcases k2 with⟨rfl,H2,u,σ2,⟨s',a4,rfl⟩,k3⟩|⟨rfl,H2,c,u,σ2,k3,k4⟩
  .exact .inl ⟨rfl,s',u,σ2,a4,k3⟩
  .exact .inr ⟨rfl,H2,c,u,σ2,k3,k4⟩
 have a0:∀(ev:Operand->Value),ev ac=.func (.func f) #[] E.toArray->ev (.const (.func (.yield l) #[] #[]))=.func (.yield l) #[] #[]->(resolve ev (rangeCall ac l) 0).run P Y=.ok {target:=.fn (.func f) E.toArray,args:= #[.func (.yield l) #[] #[]]} Y:=by
  intro ev M R;simp[resolve,go_sem,M,R]
 refine⟨l,G,Y,{target:=.fn (.func f) E.toArray,args:= #[.func (.yield l) #[] #[]]},Y,f, #[.func (.yield l) #[] #[]]++E.toArray,Y,he,a0 a.eval hv rfl,λ_ _=>trivial,by simp[invoke,go_sem,eg],λh=>by simp[WF,Fence.wide]at h,?_⟩;refine WF.calls.2 ?_;have ao:=az X rfl rfl hX g0 ro (YK σ π) Y E ro sI (λ_ z=>z) am ⟨s0,ae,σ',hV,j0⟩;have an:(#[.func (.yield l) #[] #[]]++E.toArray:Array Value)=((Value.func (.yield X.l) #[] #[]::E)).toArray:=by simp[X]
 rw[an];refine Calls.mono ao ?_;rintro e W' ⟨⟨v,rfl⟩,g2,qz,bh,aw⟩;have fin:∀(H2:Qb) (st:LoopState) (pe:Option Code) (u:Nat->Prop) (σ2:Sig),st≠ .busy->RJ D u σ2 H2 st pe qz g2 W'->∃w4,(Instr.endLoop l).run P W'=.ok pe w4/\Rel D.fr1 u σ2 H2 env N {a with defers:=G++a.defers} w4/\Qk fr ro w u w4:=by
  intro H2 st pe u σ2 hst j;refine⟨_,run_endLoop j.rc (by exact hst),?_⟩;obtain⟨s5,ai⟩:=j.sim.put (obj:=.loop {(D.rc st pe)with state:=.exhausted}) hD.l1 (Qc3 j.rc);have hr:=j.rc;refine⟨⟨s5,λt=>((j.env t).mono ⟨λ_ q=>q,λ_ _=>rfl,λ_ _ q=>q,λi b q=>QeN j.sig q⟩).mono (ai.ext0 σ2),r.size,j.marks.1,λd O=>?_⟩,j.ev.trans (ai.frMono λb q e=>ag (by have e':b=l:=e;rw[<- e'];exact q))⟩;obtain⟨B,e1,e2,e3⟩:=j.marks.2 d O;refine⟨B,e1,e2,(ai.keepFr B (λe=>?_)).trans e3⟩;subst e;rw[hr]at e3;cases e3
 have a1:Grow fr w a.defers D.fr1 (G++a.defers):=by
  refine⟨λb q=>.inl q,λb q=>q.imp id (λq=>q.1),λd O=>?_⟩;rcases Vx.1 O with O|O
  .obtain⟨B,e1,e2,_⟩:=aj d O;exact .inr ⟨B,e1,e2⟩
  .exact .inl O
 have ax:∀{σ2:Sig},σ2.take H.length=σ->σ2.take h0=σ.take h0:=by
  intro σ2 h;have:=congrArg (List.take h0) h
  rwa [List.take_take,Xz hh]at this
 rcases aw with⟨s,u,σ2,M,R⟩|⟨rem,H2,c,u,σ2,M,R⟩
 .obtain⟨w4,f1,f2,f3⟩:=fin _ _ _ u σ2 (by intro e;cases e) R;exact⟨none,w4,f1,.normal,env,_,u,σ2,_,rfl,al s M,f2,f3,ax R.sig,a1⟩
 .obtain⟨w4,f1,f2,f3⟩:=fin _ _ _ u σ2 (by intro e;cases e) R;refine⟨some c,w4,f1,?_⟩;have hc:TC P h0 N c env H2 Q:=by
   rcases M with⟨id,rfl,M⟩|⟨rfl,M⟩
   .exact TC.exit M
   .exact TC.ret M
  exact Code.wpIn_mono (λe a w q=>q.grow f3 (ax R.sig) a1) (hc rd D.fr1 u σ2 _ w4 f2 (hrd.to f3 λb q=>.inl q))
theorem QkQ{h0 i k t T:Nat}{env:Env}{H:Qb}(hh:Nat.ble h0 H.length=true)(hH:H[i]?=some (.cells T [.nils])):Le h0 env H env (H.set i (.cells T [.osl H.length 0 0 k])++[.row t k []]):=by
 intro fr F σ N a w r;have B:h0<=H.length:=(by simp_all);have hi:i<H.length:=(by grind);have ext:Ext F σ w F (σ++[none]) w:=⟨λ_ q=>q,λ_ _=>rfl,λ_ _ q=>q,(by grind)⟩;have s:=r.sim.phantom t k;have g:(H++[Blk.row t k []])[i]?=some (.cells T [.nils]):=by grind
 have Q:H.set i (.cells T [.osl H.length 0 0 k])++[.row t k []]=(H++[Blk.row t k []]).set i (.cells T [.osl H.length 0 0 k]):=by
  grind
 have f:∀(j:Nat) (v:Blk),((H++[Blk.row t k []]).set i (.cells T [.osl H.length 0 0 k]))[j]?=some v->(j=i/\v=.cells T [.osl H.length 0 0 k])\/(j≠i/\(H++[Blk.row t k []])[j]?=some v):=by
  grind
 have e:∀(j:Nat) (v:Blk),((H++[Blk.row t k []]).set i (.cells T [.osl H.length 0 0 k]))[j]?=some v->v.live=true->∃u,(H++[Blk.row t k []])[j]?=some u/\u.live=true:=by
  intro j v h hv;rcases f j v h with⟨rfl,rfl⟩|⟨_,h⟩
  .exact⟨_,g,rfl⟩
  grind
 refine⟨F,σ++[none],⟨?_,λq=>(r.env q).mono ext,r.size,r.defers⟩,λ_ q=>q,QK (by rw[r.sim.len];exact B)⟩;rw[Q];refine⟨by rw[XZ];exact s.len,s.roOk,s.frLt,s.roFr,λj b v p z E=>?_,λj L b v u p z E W M O=>?_,λj y v p z=>?_,
  s.hidTo (· = ·) Q9 (XQ _) (by simp) (by simp) λj d y n m R=>.inl ?_⟩
 rotate_left 3
 .rcases f j y m with⟨rfl,rfl⟩|⟨_,h⟩
  .exact⟨j,_,rfl,n,g,λ_=>rfl,λ_ q=>q.elim⟩
  grind
 .obtain⟨u,n,m⟩:=e j v z E;exact s.own j b u p n m
 .obtain⟨x,n,m⟩:=e j v E M;obtain⟨V,G,J⟩:=e L u W O;exact s.inj j L b x V p z n G m J
 .rcases f j v z with⟨rfl,rfl⟩|⟨_,h⟩
  .have:=s.blk j y _ p g;cases y with
   |none=>exact this
   |some b=>
    obtain⟨l,n,⟨Y,X,rfl,m,R⟩,P⟩:=this;refine⟨_,n,⟨Y,X,rfl,.inl ⟨rfl,m⟩,?_⟩,P⟩;omega
  .exact s.blk j y v p h
theorem QmS{h0 i:Nat}{env:Env}{H:Qb}{es:List (A×A)}(hH:H[i]?=some (.map es)):Le h0 env H env (H.set i (.fmap es)):=by
 intro f e σ N a w r;have d:∃s,σ[i]?=some s:=by
  have:i<σ.length:=by rw[r.sim.len];grind
  simp_all
 obtain⟨s,d⟩:=d;cases s with
 |none=>exact(r.sim.blk i _ _ d hH).elim
 |some b=>
  refine⟨_,σ,⟨r.sim.shutMap d hH,λq=>(r.env q).mono ⟨λ_ q=>.inl q,λ_ _=>rfl,λ_ _ q=>q,λ_ _ q=>q⟩,r.size,r.defers⟩,λ_ q=>.inl q,rfl⟩
def anyN{T:Type}(l:List T)(x:T)(rem:List T):Prop:=l.Perm (x::rem)
def Qpp(ts te:Nat)(ld:Op):Code:=.block 1 (.region 3 #[{dst:=some 8,op:=.load ts (.tmp 2),type:=ts,pos:="iter.go:52",after:= #[],guard:=none},{dst:=some 9,op:=ld,type:=te,pos:="iter.go:52",after:= #[],guard:=none},
 {dst:=some 10,op:=.buildSlice ts 1 #[(0,.tmp 9)],type:=ts,pos:="iter.go:52",after:= #[{on:=1,ground:=.data}],guard:=none},
 {dst:=some 11,op:=.call {callee:=.builtin .append,args:= #[.tmp 8,.tmp 10],argTypes:= #[ts,ts]},type:=ts,pos:="iter.go:52",after:= #[{on:=0,ground:=.data},{on:=2,ground:=.data}],guard:=none},
 {dst:=none,op:=.store ts (.tmp 2) (.tmp 11),type:=0,pos:="iter.go:52",after:= #[{on:=3,ground:=.data},{on:=3,ground:=.chain},{on:=0,ground:=.phase},{on:=1,ground:=.phase},{on:=2,ground:=.phase},{on:=3,ground:=.phase}],guard:=none}] false)
def QrF(ts tq te:Nat)(asg:Code)(ld:Op):Code:=(Code.region 0 #[{dst:=some 2,op:=.box ts (.tmp 0),type:=0,pos:="iter.go:50",after:= #[],guard:=none},{dst:=some 4,op:=.assign (.const (.slice none 0 0)),type:=ts,pos:="iter.go:50",after:= #[],guard:=none}] false).seq
 (((Code.region 1 #[{dst:=some 6,op:=.move (.tmp 1),type:=tq,pos:="iter.go:51",after:= #[],guard:=none}] false).seq (.block 0 (.rangeFunc (.tmp 6) #[7] asg (Qpp ts te ld)))).seq
  ((Code.region 4 #[{dst:=some 12,op:=.load ts (.tmp 2),type:=ts,pos:="iter.go:54",after:= #[],guard:=none},{dst:=some 4,op:=.assign (.tmp 12),type:=ts,pos:="iter.go:54",after:= #[{on:=0,ground:=.data},{on:=0,ground:=.phase}],guard:=none}] false).seq .ret))
def QrG(te:Nat):Code:=.region 2 #[{dst:=some 5,op:=.assign (.tmp 7),type:=te,pos:="iter.go:51",after:= #[],guard:=none}] false
section
variable {P:Program} {T:Type} {ts tq te k tm:Nat} {g:FuncId} {es:List (A×A)} {e:T->List A} {ea:T->A} {xs:List T}
abbrev apH(ts te k tm:Nat)(es:List (A×A))(e:T->List A)(done:List T):Qb:=[.dead,.fmap es,.cells ts [.osl 3 0 done.length k],.row te k (done.map e)]
theorem QqA{N:Nat}(z:N=13){done:List T}{x:T}{env:Env}{H:Qb}{K:Qb->Prop}{h:Op}(E:Q1 P ts te k)(r:∀w,(isAgg ts).run P w=.ok false w)(q:∀w,(sizeOf ts).run P w=.ok 1 w)(p:app done [x]=some (done++[x]))
  (j:(e x).length=k)(B:Nat.ble (k+1) 16777216=true)(f:Yr (ea x)=true)(a:YA (ea x)=e x)(F:(e x).all Yz=true)(O:Yu (e x)=true)(L:Nat.ble 3 H.length=true)
  (g:lk env 2=.ptr 2 0)(u:H[2]?=some (.cells ts [.osl 3 0 done.length k]))(M:H[3]?=some (.row te k (done.map e)))
  (d:∀env',(∀s,s≠8->lk env' s=lk env s)->∀pos,OpV P {dst:=some 9,op:=h,type:=te,pos:=pos,after:= #[],guard:=none} env' H (ea x))
  (l:∀env',∃H2,Le 3 env' (((((H++[Blk.row te k [e x]]).set 3 .dead)++[Blk.row te k ((done++[x]).map e)]).set 2 (.cells ts [.osl (H.length+1) 0 (done++[x]).length k]))) [] H2/\K H2){env0:Env}{Q:QV}:
  TC P 3 N (Qpp ts te h) env H (QlT 3 env0 Q K):=by
 subst z;have J:3<H.length:=(by grind);refine TC.block (TC.region ?_);refine QP rfl rfl rfl (OpV.load (v:=.osl 3 0 done.length k) (cs:=[]) rfl r g (Pts.cells u rfl)) ?_;refine QP rfl rfl rfl (x:=ea x) ?_ ?_
 .refine d _ (λs G=>?_) _;simp only[up,lk];have:Nat.beq s 8=false:=by
   simp_all[VG]
  grind
 refine Js (by omega) rfl rfl rfl (OpH.lit (xs:=[.tmp 9]) (es:=[e x]) E rfl rfl (by grind) ?_ ?_ ⟨j,trivial⟩ (by grind) (by grind)) ?_
 .simp[opA,lk,up,f]
 .simp[QY,opA,lk,up,a]
 refine Js (x:=.osl (H.length+1) 0 (done++[x]).length k) (H':=((H++[Blk.row te k [e x]]).set 3 .dead)++[Blk.row te k ((done++[x]).map e)]) (by simp;omega) rfl rfl rfl ?_ ?_
 .have:=Qg (P:=P) (o:={dst:=some 11,op:=.call {callee:=.builtin .append,args:= #[.tmp 8,.tmp 10],argTypes:= #[ts,ts]},type:=ts,pos:="iter.go:52",after:= #[{on:=0,ground:=.data},{on:=2,ground:=.data}],guard:=none})
   (env:=up (up (up env 8 (.osl 3 0 done.length k)) 9 (ea x)) 10 (.osl H.length 0 1 k)) (H:=H++[Blk.row te k [e x]]) (x:=.tmp 8) (y:=.tmp 10) (e:=e) (m:=[x]) (i:=3) (n:=done.length) (ya:=.osl H.length 0 1 k) p E E.sl (QM (t:=te) (by simp) rfl) rfl rfl rfl rfl (by grind) rfl
  grind
 refine QbV (by simp;omega) rfl rfl (OpU.store (i:=2) (off:=0) (T:=ts) (n:=1) (cs:=[.osl 3 0 done.length k]) rfl ?_ ?_ q rfl rfl rfl rfl rfl rfl rfl) ?_
 .exact g
 .grind
 .refine WO.nil ?_;exact l _
theorem Qpo{xs done l rem:List T}{x:T}(hl:Nat.ble xs.length QC=true)(d:(done++l).Perm xs)(a:l.Perm (x::rem)):app done [x]=some (done++[x])/\((done++[x])++rem).Perm xs:=by
 have e:=d.length_eq;have f:=a.length_eq;have g:=XO hl;simp at e f;refine⟨?_,?_⟩
 .unfold app;have:Nat.ble (done.length+[x].length) QC=true:=XP (by simp;omega)
  grind
 .refine List.Perm.trans ?_ d;simp[Vc];exact(List.Perm.append_left done a).symm
theorem Qic{m:FuncId}{fn:Func}(H:P.funcs[m]?=some fn)(t:fn.body=some (QrF ts tq te (QrG te) (.move (.tmp 5))))(F:fn.ntmps=13)(z:fn.results= #[.tmp 4])(E:Q1 P ts te 1)(k:∀w,(isAgg ts).run P w=.ok false w)(u:∀w,(sizeOf ts).run P w=.ok 1 w)
  (s:∀args w,(callFunc g args).run P w=.ok (.enter g args) w)(d:QkE P g [.ptr 0 0] [.cells tm [.map 1],.fmap es] (λx=>[ea x]) anyN xs)(hl:Nat.ble xs.length QC=true)
  (J:∀x,Qb9 (ea x)=true)(h:∀x,Yr (ea x)=true)(f:∀x,YA (ea x)=[ea x])(j:∀x,Yz (ea x)=true)(G:∀x,YL (ea x)=true):
  C P m [.nils,.fn (.func g) [] [.ptr 0 0]] [.cells tm [.map 1],.fmap es] (λr H1=>∃p:List T,p.Perm xs/\r=.osl 2 0 p.length 1/\H1=[.dead,.fmap es,.row te 1 (p.map λx=>[ea x])]):=by
 refine QF H t F rfl (TC.seq (TC.region ?_));refine Js (by omega) rfl rfl rfl (OpH.box rfl rfl rfl rfl rfl) ?_;refine QP rfl rfl rfl (OpV.assign rfl rfl) (WO.nil ?_);refine TC.seq (TC.seq (TC.region (QP rfl rfl rfl (OpV.move rfl rfl) ?_)));refine WO.nil (TC.block ?_);refine TC.rangeFunc [0,1] (apH ts te 1 tm es (λx=>[ea x])) (λdone l=>(done++l).Perm xs) [] (by simp) rfl rfl rfl (by decide) rfl s d (λx=>rfl) ?_ (List.Perm.refl _) ?_ ?_
 .exact QkQ (i:=2) rfl rfl
 .intro done l x rem e B;obtain⟨n,y⟩:=Qpo hl e B;refine TC.region (QP rfl rfl rfl (OpV.assign rfl rfl) (WO.nil ⟨rfl,(QqA rfl E k u n rfl rfl (h x) (f x) (by simp[j x]) (by simp[Yu,G x]) rfl rfl rfl rfl ?_ ?_)⟩))
  .intro a q pos;exact OpV.move rfl (by show lk a 5=ea x;rw[q 5 (by decide)];rfl)
  .intro a;exact⟨_,Lr [0,1,2,5],_,y,rfl⟩
 .intro done e;rw[Va]at e;refine TC.seq (TC.region (QP rfl rfl rfl (OpV.load rfl k rfl (Pts.cells rfl rfl)) ?_));refine QP rfl rfl rfl (OpV.assign rfl rfl) (WO.nil ?_);exact TC.ret (⟨[(4,.osl 2 0 done.length 1)],[.dead,.fmap es,.row te 1 (done.map λx=>[ea x])],_,Lr [0,1,3],Qd5.one z rfl,done,e,rfl,rfl⟩)
end
theorem Qdk{T:Type}{X:Ctx T}{P:Program}{h0 N:Nat}{c:Code}{env env':Env}{H H':Qb}{st:YSt T}{Q:YY T}(d:Le h0 env H env' H')(h:TCy X P h0 N c env' H' st Q):TCy X P h0 N c env H st Q:=by
 intro n u k p σ a w g r hj hrd;obtain⟨f,σ',x,s,t⟩:=d k p σ N a w r;obtain⟨⟨m,l,i⟩,j⟩:=hj;exact Code.wpIn_mono (λe a w q=>q.grow s (XQ _) t (Grow.refl _ _ _)) (h n u k f σ' a w g x ⟨⟨m,(by grind),i⟩,j⟩ hrd)
mutual
theorem Qjr:∀{a:A},Qb9 a=true->YL a=true
 |.any,_=>rfl
 |.bool _,_=>rfl
 |.int _ _,_=>rfl
 |.str _,_=>rfl
 |.nilp,_=>rfl
 |.ptr _ _,h=>by simp[Qb9]at h
 |.rp _,_=>rfl
 |.nils,_=>rfl
 |.rsl _ _,_=>rfl
 |.osl _ _ _ _,h=>by simp[Qb9]at h
 |.agg cs,h=>by simp only[Qb9]at h;simp only[YL];exact Qhp h
 |.fn _ a c,h=>by simp[Qb9]at h
 |.nilf,_=>rfl
 |.iface _ v,h=>by simp[Qb9]at h
 |.nilif,_=>rfl
 |.map _,h=>by simp[Qb9]at h
 |.nilm,_=>rfl
 |.tup vs,h=>by simp[Qb9]at h
theorem Qhp:∀{l:List A},QfM l=true->Yu l=true
 |[],_=>rfl
 |a::r,h=>by
  simp only[QfM,XT]at h;simp only[Yu,XT];exact⟨Qjr h.1,Qhp h.2⟩
end
theorem Qjc{P:Program}{o:Oper}{env:Env}{H:Qb}{y z:Operand}{l:Nat}{a:A}{h:Array TypeId}(f:o.op=.call {callee:=.value y,args:= #[z],argTypes:=h})(k:opA env y=.fn (.yield l) [] [])(i:opA env z=a)(j:YL a=true){N:Nat}:
  ∀fr ro σ act w,Rel fr ro σ H env N act w->∃vs:List Value,LR ro [] w [a] vs/\(execOp act.eval o).run P w=(Instr.yield l vs.toArray).run P w:=by
 intro fr ro σ act w r;have d:=Qi r y;rw[k]at d;obtain⟨g,n,d,m,p⟩:=d;obtain rfl:g=[]:=m;have e:=Qi r z;rw[i]at e;refine⟨[act.eval z],⟨_,_,rfl,VR.data j e,rfl⟩,?_⟩;generalize act.eval=ev at*;simp[execOp,f,invoke,go_sem,d]
theorem Qm0{P:Program}{o:Oper}{env:Env}{H:Qb}{y d e:Operand}{l:Nat}{i k:A}{s:Array TypeId}(p:o.op=.call {callee:=.value y,args:= #[d,e],argTypes:=s})(t:opA env y=.fn (.yield l) [] [])(h:opA env d=i)(j:opA env e=k)(f:YL i=true)(g:YL k=true){N:Nat}:
  ∀fr ro σ act w,Rel fr ro σ H env N act w->∃vs:List Value,LR ro [] w [i,k] vs/\(execOp act.eval o).run P w=(Instr.yield l vs.toArray).run P w:=by
 intro fr ro σ act w r;have a:=Qi r y;rw[t]at a;obtain⟨q,x,a,u,z⟩:=a;obtain rfl:q=[]:=u;have m:=Qi r d;rw[h]at m;have n:=Qi r e;rw[j]at n;refine⟨[act.eval d,act.eval e],⟨_,_,rfl,VR.data f m,_,_,rfl,VR.data g n,rfl⟩,?_⟩;generalize act.eval=ev at*;simp[p,invoke,go_sem,a]
def QoA(tm tb ty tk:Nat)(asg:Array Oper)(ld:Op):Code:=
 (Code.region 0 #[{dst:=some 4,op:=.load tm (.tmp 1),type:=tm,pos:="iter.go:27",after:= #[],guard:=none},{dst:=some 5,op:=.range tm (.tmp 4),type:=0,pos:="iter.go:27",after:= #[{on:=0,ground:=.data}],guard:=none}] false).seq
 (.block 0 (Code.loop ((Code.region 1 #[{dst:=some 6,op:=.next (.tmp 5) false,type:=0,pos:="iter.go:27",after:= #[],guard:=none},{dst:=some 7,op:=.extract (.tmp 6) 0,type:=tb,pos:="iter.go:27",after:= #[{on:=0,ground:=.data}],guard:=none}] false).seq
  ((Code.cond (.tmp 7) .skip (.exit 0)).seq (.block 1 ((Code.region 2 asg false).seq
   ((Code.region 3 #[{dst:=some 10,op:=.move (.tmp 0),type:=ty,pos:="iter.go:28",after:= #[],guard:=none},{dst:=some 11,op:=ld,type:=tk,pos:="iter.go:28",after:= #[],guard:=none},
    {dst:=some 12,op:=.call {callee:=.value (.tmp 10),args:= #[.tmp 11],argTypes:= #[tk]},type:=tb,pos:="iter.go:28",after:= #[{on:=0,ground:=.data},{on:=1,ground:=.data}],guard:=none},
    {dst:=some 13,op:=.unOp .not tb (.tmp 12),type:=tb,pos:="iter.go:28",after:= #[{on:=2,ground:=.data}],guard:=none}] false).seq (.cond (.tmp 13) .ret .skip))))))))
def Qrn(tk:Nat):Array Oper:= #[{dst:=some 8,op:=.entry (.tmp 5),type:=0,pos:="iter.go:27",after:= #[],guard:=none},{dst:=some 9,op:=.extract (.tmp 8) 0,type:=tk,pos:="iter.go:27",after:= #[{on:=0,ground:=.data}],guard:=none},
 {dst:=some 3,op:=.assign (.tmp 9),type:=tk,pos:="iter.go:27",after:= #[{on:=1,ground:=.data},{on:=0,ground:=.phase},{on:=1,ground:=.phase}],guard:=none}]
section
variable {P:Program} {K V:Type} {tm tb ty tk kt et:Nat} {ek:K->A} {ev:V->A} {m:List (K×V)} {T:Type}
abbrev kyE(l:Nat):Env:=[(0,.fn (.yield l) [] []),(1,.ptr 0 0),(5,.ptr 2 0)]
abbrev kyH(tm:Nat)(ek:K->A)(ev:V->A)(m l:List (K×V)):Qb:=[.cells tm [.map 1],.fmap (Qx ek ev m),.iter none (Qx ek ev l)]
theorem Qng{g:FuncId}{fn:Func}{a:Array Oper}{p:Op}(L:P.funcs[g]?=some fn)(y:fn.body=some (QoA tm tb ty tk a p))(J:fn.ntmps=14)(F:fn.results= #[])(E:∀w,(isAgg tm).run P w=.ok false w)(t:P.underlying tm=some (.map kt et))(B:∀x,Qb9 (ek x)=true)
  (round:∀(X:Ctx K) (e:K×V) (l:List (K×V)) (env:Env) (H:Qb) (st:YSt K) (Q:YY K),lk env 0=.fn (.yield X.l) [] []->lk env 1=.ptr 0 0->lk env 5=.ptr 2 0->H=[.cells tm [.map 1],.fmap (Qx ek ev m),.iter (some (ek e.1,ev e.2)) (Qx ek ev l)]->
   (∀env' H',lk env' 0=.fn (.yield X.l) [] []->lk env' 1=.ptr 0 0->lk env' 5=.ptr 2 0->(∀env2 b,lk env2 0=.fn (.yield X.l) [] []->lk env2 1=.ptr 0 0->lk env2 5=.ptr 2 0->Le 2 (up (up env2 12 (.bool b)) 13 (.bool (!b))) H' (kyE X.l) (kyH tm ek ev m l))->
    (∀pos env2,(∀s,s≠10->lk env2 s=lk env' s)->OpV P {dst:=some 11,op:=p,type:=tk,pos:=pos,after:= #[],guard:=none} env2 H' (ek e.1))->Nat.ble 2 H'.length=true->Q .normal env' H' st)->
   TCy X P 2 14 (.region 2 a false) env H st Q):
  QkE P g [.ptr 0 0] [.cells tm [.map 1],.fmap (Qx ek ev m)] (λx=>[ek x]) anyN (m.map Prod.fst):=by
 refine Qd4 L y J rfl F ?_;intro X hE hNx;refine TCy.seq (TCy.lift (TC.region ?_));refine QP rfl rfl rfl (OpV.load rfl E rfl (Pts.cells rfl rfl)) (Js (XO rfl) rfl rfl rfl (Qg1 t) ?_);refine WO.nil (TCy.block ?_);refine Qh4 (I:=λn env H st=>∃l:List (K×V),l.length=n/\st=.on (l.map Prod.fst)/\Le 2 env H (kyE X.l) (kyH tm ek ev m l)) ?_ ⟨m,rfl,rfl,Lr [0,1,2]⟩;rintro n env H st ⟨l,G,rfl,i⟩;refine Qdk i (TCy.seq (TCy.lift (TC.region ?_)));refine QlP (XO rfl) rfl rfl rfl (OpE.next rfl rfl rfl) ?_;rintro v H' (⟨h,rfl,rfl⟩|⟨M,u,h,rfl,rfl⟩)
 .have hl:=List.map_eq_nil_iff.1 h;subst hl;refine QP rfl rfl rfl (OpV.extract rfl rfl rfl) (WO.nil ?_);exact TCy.seq (TCy.cond rfl (λe=>by cases e) (λ_=>(TCy.exit ⟨.inl rfl,.inl rfl⟩)))
 .obtain⟨r,k,j⟩:=Qhy h rfl;cases r with
  |nil=>cases j
  |cons e f=>
   obtain⟨rfl,rfl⟩:=j;have d:f.length<n:=by rw[<- G, <- k.length_eq];simp
   refine QP rfl rfl rfl (OpV.extract rfl rfl rfl) ?_;refine WO.nil (TCy.seq (TCy.cond rfl (λ_=>?_) (λe=>by cases e)));refine TCy.skip (TCy.block ?_);refine TCy.seq (round X e f _ _ _ _ rfl rfl rfl rfl ?_);intro env' H' g0 g1 g5 hfin hld hL;refine TCy.seq (TCy.region ?_);refine WOy.step (QP rfl rfl rfl (OpV.move rfl g0) (WO.nil ⟨rfl,(WOy.step (QP rfl rfl rfl (hld _ _ λs q=>?_) (WO.nil ⟨rfl,?_⟩)))⟩))
   .simp[up,lk];have:Nat.beq s 10=false:=by rw[VG];intro z;exact q (XN z)
    rw[this];rfl
   refine WOy.yield (x:=e.1) (rem:=f.map Prod.fst) ?_ rfl rfl rfl ?_ ?_
   .rw[hNx];exact k.symm.map Prod.fst
   .rw[hE];refine Qjc rfl ?_ ?_ (Qjr (B _))
    .rfl
    .rfl
   .intro b;refine WOy.step (QP rfl rfl rfl (OpV.not rfl rfl) (WO.nil ⟨rfl,?_⟩));refine WOy.nil (TCy.cond rfl (λq=>?_) (λq=>?_))
    .obtain rfl:b=false:=by simpa using q
     exact TCy.ret ⟨.inr rfl,.inr ⟨_,rfl⟩⟩
    .obtain rfl:b=true:=by simpa using q
     exact TCy.skip (⟨_,d,f,rfl,rfl,hfin _ true g0 g1 g5⟩)
theorem QgR{g:FuncId}{fn:Func}(s:P.funcs[g]?=some fn)(k:fn.body=some (QoA tm tb ty tk (Qrn tk) (.move (.tmp 3))))(f:fn.ntmps=14)(t:fn.results= #[])(p:∀w,(isAgg tm).run P w=.ok false w)(j:P.underlying tm=some (.map kt et))(n:∀x,Qb9 (ek x)=true):
  QkE P g [.ptr 0 0] [.cells tm [.map 1],.fmap (Qx ek ev m)] (λx=>[ek x]) anyN (m.map Prod.fst):=by
 refine Qng s k f t p j n ?_;intro X e l env H st Q g0 g1 g5 hH hk;subst hH;refine TCy.lift (TC.region (QP rfl rfl rfl (OpV.entry rfl g5 rfl) ?_));refine QP rfl rfl rfl (OpV.extract rfl rfl rfl) (QP rfl rfl rfl (OpV.assign rfl rfl) ?_);refine WO.nil (hk _ _ g0 g1 g5 ?_ ?_ rfl)
 .intro a b h q r;exact Le.trans (Qh9 (i:=2) rfl rfl) (Lr [0,1,2] (hE:=⟨h,q,r,trivial⟩))
 .intro pos a d;exact OpV.move rfl (by show lk a 3=_;rw[d 3 (by decide)];rfl)
end
def QrA(ts tq fA:Nat):Code:=(Code.region 0 #[{dst:=some 2,op:=.assign (.const (.slice none 0 0)),type:=ts,pos:="iter.go:59",after:= #[],guard:=none}] false).seq
 ((Code.region 1 #[{dst:=some 3,op:=.move (.tmp 0),type:=tq,pos:="iter.go:60",after:= #[],guard:=none},
  {dst:=some 4,op:=.call {callee:=.value (.func fA),args:= #[.const (.slice none 0 0),.tmp 3],argTypes:= #[ts,tq]},type:=ts,pos:="iter.go:60",after:= #[{on:=0,ground:=.data}],guard:=none},
  {dst:=some 2,op:=.assign (.tmp 4),type:=ts,pos:="iter.go:60",after:= #[{on:=1,ground:=.data},{on:=1,ground:=.chain},{on:=0,ground:=.phase},{on:=1,ground:=.phase}],guard:=none}] false).seq .ret)
theorem Qib{P:Program}{T:Type}{d j i k l:Nat}{g:FuncId}{es:List (A×A)}{e:T->List A}{xs:List T}{fC a:FuncId}{fn:Func}(t:P.funcs[fC]?=some fn)(q:fn.body=some (QrA d j a))(n:fn.ntmps=5)(u:fn.results= #[.tmp 2])
  (f:∀(env:Env) (H:Qb),lk env 3=.fn (.func g) [] [.ptr 0 0]->OpC P {dst:=some 4,op:=.call {callee:=.value (.func a),args:= #[.const (.slice none 0 0),.tmp 3],argTypes:= #[d,j]},type:=d,pos:="iter.go:60",after:= #[{on:=0,ground:=.data}],guard:=none} env H a [.nils,.fn (.func g) [] [.ptr 0 0]])
  (m:C P a [.nils,.fn (.func g) [] [.ptr 0 0]] [.cells l [.map 1],.fmap es] (λr H1=>∃p:List T,p.Perm xs/\r=.osl 2 0 p.length k/\H1=[.dead,.fmap es,.row i k (p.map e)])):
  C P fC [.fn (.func g) [] [.ptr 0 0]] [.cells l [.map 1],.fmap es] (λr H1=>∃p:List T,p.Perm xs/\r=.osl 2 0 p.length k/\H1=[.dead,.fmap es,.row i k (p.map e)]):=by
 refine QF t q n rfl ?_;refine TC.seq (TC.region (QP rfl rfl rfl (OpV.assign rfl rfl) ?_));refine WO.nil (TC.seq (TC.region ?_));refine QP rfl rfl rfl (OpV.move rfl rfl) (WO.call [0,1] (by omega) rfl rfl (λx h=>by grind) (f _ _ rfl) rfl rfl (by decide) m ?_);rintro r H1 ⟨p,s,rfl,rfl⟩;refine QP rfl rfl rfl (OpV.assign rfl rfl) ?_;refine WO.nil (TC.ret ?_);exact⟨[(2,.osl 2 0 p.length k)],[.dead,.fmap es,.row i k (p.map e)],_,Lr [0,1,2],Qd5.one u rfl,p,s,rfl,rfl⟩
def QnH{K R:Type}[DecidableEq R](l:List K)(k:List K->Option R):Option R:=bif Nat.ble l.length QC then anyP k l else none
theorem QmM{K R:Type}[DecidableEq R]{l:List K}{k:List K->Option R}{r:R}(h:QnH l k=some r):Nat.ble l.length QC=true/\ ∀p,p.Perm l->k p=some r:=by
 unfold QnH at h;cases q:Nat.ble l.length QC with
 |true=>rw[q]at h;exact⟨rfl,QmL h⟩
 |false=>grind
section
variable {P:Program} {o:Oper} {env:Env} {H:Qb} {fr ro:Nat->Prop} {σ:Sig} {w:World}
theorem Qn0{h0 i t b1 b2:Nat}{es:List (List A)}{l:List Ent}(hH:H[i]?=some (.rowr t 3 es))(he:l.map (eC b1 b2)=es):Le h0 env H env (H.set i (.ents t b1 b2 l)):=by
 subst he;intro e d σ N a w r;refine⟨d,σ,⟨r.sim.weaken hH rfl ?_,r.env,r.size,r.defers⟩,λ_ q=>q,rfl⟩;intro y h;cases y with
 |none=>exact h.elim
 |some b=>exact h
theorem QdX{b1 b2:Nat}:∀(l:List Ent),allK 3 (l.map (eC b1 b2))
 |[]=>trivial
 |e::l=>⟨rfl,QdX l⟩
theorem Sim.phantomE(s:Sim fr ro σ H w)(t b1 b2:Nat):Sim fr ro (σ++[none]) (H++[.ents t b1 b2 []]) w:=by
 have ext:Ext ro σ w ro (σ++[none]) w:=⟨λ_ q=>q,λ_ _=>rfl,λ_ _ q=>q,λ_ _ h=>QaN h⟩;have u:=s.len;have a:∀(j:Nat) (v:Blk),(H++[Blk.ents t b1 b2 []])[j]?=some v->(j<H.length/\H[j]?=some v)\/(j=H.length/\v=.ents t b1 b2 []):=by
  intro j v h;rcases Nat.lt_trichotomy j H.length with q|q|q
  .rw[XJ q]at h;exact .inl ⟨q,h⟩
  .subst q;simp at h;exact .inr ⟨rfl,h.symm⟩
  .rw[XL (by simp;omega)]at h;cases h
 have hσ:∀(j:Nat) (z:Option Nat),(σ++[none])[j]?=some z->(j<σ.length/\σ[j]?=some z)\/(j=σ.length/\z=none):=by
  intro j z h;rcases Nat.lt_trichotomy j σ.length with q|q|q
  .rw[XJ q]at h;exact .inl ⟨q,h⟩
  .subst q;simp at h;exact .inr ⟨rfl,h.symm⟩
  .rw[XL (by simp;omega)]at h;cases h
 refine⟨by simp[u],s.roOk,s.frLt,s.roFr,λi b x k g m=>?_,λi j b x y k g m L B E=>?_,λi z x k g=>?_,
  s.hidTo (· = ·) Q9 (XQ _) (λ_ _ _ _ _ _ _ q=>q) (λ_ _ _ _ _ _ _ q=>q) λj d y G F M=>.inl ?_⟩
 rotate_left 3
 .rcases hσ j _ G with⟨l,f⟩|⟨_,r⟩
  .rcases a j y F with⟨_,e⟩|⟨e,_⟩
   .exact⟨j,y,rfl,f,e,id,λ_ q=>q⟩
   .omega
  .cases r
 .rcases hσ i _ k with⟨l,f⟩|⟨_,r⟩
  .rcases a i x g with⟨_,e⟩|⟨e,_⟩
   .exact s.own i b x f e m
   .omega
  .cases r
 .rcases hσ i _ k with⟨l,f⟩|⟨_,r⟩
  .rcases hσ j _ g with⟨J,n⟩|⟨_,r⟩
   .rcases a i x m with⟨_,e⟩|⟨e,_⟩
    .rcases a j y L with⟨_,p⟩|⟨p,_⟩
     .exact s.inj i j b x y f n e p B E
     .omega
    .omega
   .cases r
  .cases r
 .rcases hσ i _ k with⟨l,f⟩|⟨l,rfl⟩
  .rcases a i x g with⟨_,e⟩|⟨e,_⟩
   .exact(s.blk i z x f e).keep ext (λ_ _ _=>rfl) (λ_ _ _ _=>rfl)
   .omega
  .rcases a i x g with⟨e,_⟩|⟨_,rfl⟩
   .omega
   .rfl
theorem Le.phantomE{h0 i m t T b1 b2:Nat}{cs:List A}(x:Nat.ble h0 H.length=true)(hH:H[i]?=some (.cells T cs))(e:cs[m]?=some .nils):
  Le h0 env H env (H.set i (.cells T (cs.set m (.osl H.length 0 0 3)))++[.ents t b1 b2 []]):=by
 intro E g σ N a w r;have hh':=XO x;have hi:=(XI.1 hH).1;have ext:Ext g σ w g (σ++[none]) w:=⟨λ_ q=>q,λ_ _=>rfl,λ_ _ q=>q,λ_ _ h=>QaN h⟩;have s:=r.sim.phantomE t b1 b2;have d:(H++[Blk.ents t b1 b2 []])[i]?=some (.cells T cs):=by rw[XJ hi];exact hH
 have k:H.set i (.cells T (cs.set m (.osl H.length 0 0 3)))++[.ents t b1 b2 []]=(H++[Blk.ents t b1 b2 []]).set i (.cells T (cs.set m (.osl H.length 0 0 3))):=by
  rw[List.set_append_left _ _ hi]
 rw[k];refine⟨g,σ++[none],⟨s.weaken d rfl ?_,λq=>(r.env q).mono ext,r.size,r.defers⟩,λ_ q=>q,QK (by rw[r.sim.len];exact hh')⟩;intro y h;cases y with
 |none=>exact h
 |some b=>
  obtain⟨l,n,z,u⟩:=h;refine⟨l,n,?_,u⟩;clear n u d k hH
  induction cs generalizing m l with
  |nil=>cases e
  |cons c cs B=>
   obtain⟨v,f,rfl,j,p⟩:=z;cases m with
   |zero=>
    simp at e;subst e;exact⟨v,f,rfl,.inl ⟨rfl,j⟩,p⟩
   |succ m=>exact⟨v,f,rfl,j,B (by simpa using e) f p⟩
theorem Q8{h0 i m T:Nat}{cs:List A}(hH:H[i]?=some (.cells T cs)):Le h0 env H env (H.set i (.cells T (cs.set m .any))):=by
 intro s p σ N a w r;refine⟨p,σ,⟨r.sim.weaken hH rfl ?_,r.env,r.size,r.defers⟩,λ_ q=>q,rfl⟩;intro y h;cases y with
 |none=>exact h
 |some b=>
  obtain⟨l,f,e,j⟩:=h;refine⟨l,f,?_,j⟩;clear f j hH
  induction cs generalizing m l with
  |nil=>exact e
  |cons c cs n=>
   obtain⟨v,d,rfl,k,g⟩:=e;cases m with
   |zero=>exact⟨v,d,rfl,trivial,g⟩
   |succ m=>exact⟨v,d,rfl,k,n d g⟩
theorem srcE{j m t b1 b2:Nat}{l:List Ent}{v:Value}(s:Sim fr ro σ H w)(hH:H[j]?=some (.ents t b1 b2 l))(e:l.length=m)(h:VR ro σ w (.osl j 0 m 3) v):
  (∃a c,v=.slice a m c)/\ ∃vs:List Value,(∀w',w'.heap=w.heap->(Builtin.firstCells 3 m v).run P w'=.ok vs.toArray w')/\LR ro σ w (l.map (eC b1 b2)).flatten vs/\ ∀v∈vs,Qz v:=by
 rcases h with⟨rfl,rfl⟩|⟨b,p,d,E,M,f,rfl,x,⟨L,r⟩,B,F⟩
 .have:=VD.1 e;subst this;exact⟨⟨none,0,rfl⟩,[],λ_ _=>Ja,rfl,by simp⟩
 .refine⟨⟨_,d,rfl⟩,?_⟩;obtain⟨G,i,z⟩:=s.blk j _ _ f hH;have u:=Y5 (pre:=[]) (by simpa using i) z;by_cases g:0<d
  .obtain rfl:=x g;obtain⟨y,J,q⟩:=u.flat;have:=Qcw (P:=P) (k:=3) (n:=m) (c:=d) y (by rw[q];simp[e]);simpa using this
  .obtain rfl:m=0:=by omega
   have:=VD.1 e;subst this;exact⟨[],λ_ _=>Ja,rfl,by simp⟩
theorem QpF{c:Call}{T T' t e' i j n m b1 b2:Nat}{x y:Operand}{l k:List Ent}(E:Q1 P T t 3)(hd:∀w,(underlying T').run P w=.ok (.slice e') w)(J:Nat.ble (l.length+k.length) QC=true)(Q:Nat.blt 0 n=true)
  (ho:o.op=.call c:=by exact rfl)(hc:c={callee:=.builtin .append,args:= #[x,y],argTypes:= #[T,T']}:=by exact rfl)(hx:opA env x=.osl i 0 n 3:=by exact rfl)(hH:H[i]?=some (.ents t b1 b2 l):=by exact rfl)(hn:l.length=n:=by exact rfl)
  (hy:opA env y=.osl j 0 m 3:=by exact rfl)(hHj:H[j]?=some (.ents t b1 b2 k):=by exact rfl)(hm:k.length=m:=by exact rfl):
  OpH P o env H (.osl H.length 0 (l++k).length 3) (H.set i .dead++[.ents t b1 b2 (l++k)]):=by
 intro fr s σ N a w r;have O:=XO J;have ai:0<n:=by simpa using Q
 have u:=Qi r x;rw[hx]at u;have h2:=Qi r y;rw[hy]at h2;obtain⟨⟨ay,cy,e1⟩,vs,R,q4,M⟩:=srcE (P:=P) r.sim hHj hm h2;rw[e1]at R;obtain⟨_,d,o1,o2,o3⟩:=srcE (P:=P) r.sim hH hn u;have X:i<H.length:=(XI.1 hH).1;rw[XY,hn,hm];rcases u with⟨q,_⟩|⟨b,p,cap,t',mm,h3,u,h4,⟨h5,V⟩,L,h7⟩
 .omega
 have F:=r.sim.blk i _ _ h3 hH;obtain⟨lb,W,g2⟩:=F;have B:vs.length=m*3:=by rw[q4.length,YP (QdX k)];simp[hm]
 have ac:d.length=n*3:=by rw[o2.length,YP (QdX l)];simp[hn]
 rw[u]at o1;by_cases f:n+m<=cap
 .obtain rfl:p=0*3:=h4 (by omega);have g:=Qdt (t:=o.type) E hd (ad:=some ⟨b,0*3,none⟩) (n:=n) (m:=m) (cap:=cap) (c:=cy) (ax:=ay) f (R w rfl);have z:(n+m)*3<=lb.length:=by
   have:w.shape? b=some (t,lb.length):=by unfold World.shape?;rw[W];simp
   rw[this]at L;cases L;exact XS (XA 3 f) (by simpa using h7)
  rw[Xy]at z;have aa:=Yy (P:=P) (vs:=vs) (n*3) 0 W (by rw[B];simpa using z) M;have h:=r.sim.set (x':=.ents t b1 b2 (l++k)) h3 hH rfl
   (λy hy=>QaJ W (YO (by rw[B];exact z)) y hy)
   (λex af=>⟨_,af,by
    have:=(g2.app (n:=n) (by simp[hn]) (QdX k) q4 M).mono ex;rw[VC (by simp[hn])]at this;rw[Xg];exact this⟩)
  have sm:=h.1.moved (i:=i) (Xa X) h3;rw[List.set_set]at sm;refine⟨.slice (some ⟨b,0*3,none⟩) (n+m) cap,_,s,[some b],?_,.inr ⟨b,0*3,cap,t',mm,?_,rfl,h4,⟨f,V⟩,?_,h7⟩,sm,h.2⟩
  .refine Jq ho hc _ ?_;rw[u,e1,g];simp only[Qas,Nat.zero_mul,Xu,Vg,aa,Result.andThen,Vh];simp
  .rw[<- r.sim.len];simp
  .exact h.2.shape _ _ L
 .obtain⟨e,nc,ag,ae,g⟩:=Qjt (t:=o.type) E hd rfl (by omega) (by omega) R o1
  let w0:World:={w with drawn:=w.drawn+1}
  have G:Sim fr s σ (H.set i .dead) w0:=(r.sim.kill i).heap rfl;have e0:Qk fr s w s w0:=Qk.heap rfl rfl rfl rfl (Nat.le_succ _);have ah:LR s σ w0 ((l++k).map (eC b1 b2)).flatten (d++vs):=by
   rw[Xg,List.flatten_append];exact(o2.append q4).mono (Ext.heap (w:=w) (w':=w0) rfl)
  have ab:∀v∈d++vs,Qz v:=λv hv=>by rcases Vx.1 hv with q|q;exact o3 v q;exact M v q
  have s1:=G.alloc (x:=.ents t b1 b2 (l++k)) (obj:=.cells ((d++vs)++e).toArray t) ⟨(d++vs)++e,Yn _ _,(Jt (QdX _) ah ab).mono ((Qk.alloc (fr:=fr) _ G.roLt G.frLt).ext σ _)⟩;have Y:Qk fr s w0 s (w0.alloc (.cells ((d++vs)++e).toArray t)):=Qk.alloc _ G.roLt G.frLt;refine⟨_,_,s,[some w.heap.size],Jq ho hc a.eval (by rw[u,e1];exact g),.inr ⟨w.heap.size,0,nc,t,(d++vs++e).length,?_,rfl,λ_=>by simp,ag,?_,?_⟩,s1,e0.trans Y⟩
  .rw[<- r.sim.len];simp
  .have:=Yn w0 (.cells ((d++vs)++e).toArray t);unfold World.shape?;rw[show w.heap.size=w0.heap.size from rfl,this];simp
  .simp only[XY,ae,ac,B,Xu];omega
theorem Qh8{c:Call}{T T' t e' i j n m b1 b2:Nat}{x y:Operand}{e a r:List Ent}(h:app e a=some r)(E:Q1 P T t 3)(k:∀w,(underlying T').run P w=.ok (.slice e') w)(d:Nat.blt 0 n=true)
  (g:o.op=.call c:=by exact rfl)(hc:c={callee:=.builtin .append,args:= #[x,y],argTypes:= #[T,T']}:=by exact rfl)(hx:opA env x=.osl i 0 n 3:=by exact rfl)(hH:H[i]?=some (.ents t b1 b2 e):=by exact rfl)(hn:e.length=n:=by exact rfl)
  (hy:opA env y=.osl j 0 m 3:=by exact rfl)(hHj:H[j]?=some (.ents t b1 b2 a):=by exact rfl)(hm:a.length=m:=by exact rfl):
  OpH P o env H (.osl H.length 0 r.length 3) (H.set i .dead++[.ents t b1 b2 r]):=by
 obtain⟨f,rfl⟩:=QiY h;exact QpF E k (XP f) d g hc hx hH hn hy hHj hm
theorem Pts.ents{i off t e f b1 b2:Nat}{l:List Ent}{x:Ent}{cs':List A}(he:l[e]?=some x)(hH:H[i]?=some (.ents t b1 b2 l):=by exact rfl)(ho:off=e*3+f:=by exact rfl)(hcs:(eC b1 b2 x).drop f=cs':=by exact rfl):Pts H (.ptr i off) cs':=by
 intro m p σ w v s h;obtain⟨b,d,j⟩:=h;obtain⟨n,g,k⟩:=s.blk i _ _ d hH;have a:(l.map (eC b1 b2))[e]?=some (eC b1 b2 x):=by rw[Xo,he];rfl
 have:=((Y5 (pre:=[]) (by simpa using g) k).get e a).2.drop f;refine⟨b,off,j,?_⟩;rw[<- hcs,ho];simpa using this
def Qg9(cs:List A)(s:Int)(e:Ent):Option Int:=bif e.fl then(bif e.off==0 then some s else none)else match cs[e.off]? with
 |some (.int .i64 v)=>some v
 |_=>none
def Qla{F:Type}(put:F->Nat->Int->Option F)(x:F)(s:Int)(e:Ent)(v:Int):Option (F×Int):=
 bif e.fl then(bif e.off==0 then some (x,v)else none)else(put x e.off v).map λy=>(y,s)
abbrev QiQ(b1 b2:Nat)(e:Ent):A:=.ptr (bif e.fl then b2 else b1) e.off
theorem Qpc{l:List A}{i:Nat}{a:A}(h:l[i]?=some a):∃r,l.drop i=a::r:=by
 obtain⟨d,rfl⟩:=XI.1 h;exact⟨_,Xp d⟩
theorem QcK{t b1 b2 T1 T2:Nat}{x:Operand}{e:Ent}{cs:List A}{s v:Int}(h:Qg9 cs s e=some v)(g:∀w,(isAgg t).run P w=.ok false w)(i:o.op=.load t x:=by exact rfl)(hx:opA env x=QiQ b1 b2 e:=by exact rfl)
  (h1:H[b1]?=some (.cells T1 cs):=by exact rfl)(h2:H[b2]?=some (.cells T2 [.int .i64 s]):=by exact rfl):OpV P o env H (.int .i64 v):=by
 unfold Qg9 at h;unfold QiQ at hx;cases j:e.fl with
 |true=>
  rw[j]at h hx;cases d:e.off==0 with
  |false=>rw[d]at h;cases h
  |true=>
   rw[d]at h;have e0:=by simpa using d
   rw[e0]at hx;have hv:=by simpa using h
   subst hv;exact OpV.load i g hx (Pts.cells h2 rfl)
 |false=>
  rw[j]at h hx;cases f:cs[e.off]? with
  |none=>rw[f]at h;cases h
  |some a=>
   rw[f]at h;obtain⟨r,l⟩:=Qpc f;cases a with
   |int k n=>
    cases k<;>first|(cases h;exact OpV.load i g hx (Pts.cells h1 l))|cases h
   |_=>cases h
theorem Qk0{l:List A}{i:Nat}{a:A}(h:i<l.length):splice l i [a]=l.set i a:=by
 unfold splice;rw[List.set_eq_take_append_cons_drop,Vm h];simp
theorem Qjp{i:Nat}{b:Blk}(h:H[i]?=some b):H.set i b=H:=by
 apply List.ext_getElem?;intro j;rw[Xb];by_cases e:i=j
 .subst e;rw[Vm rfl,Vm (XI.1 h).1,h]
 .rw[Vl e]
theorem QlZ{F:Type}{c:F->List A}{put:F->Nat->Int->Option F}{t b1 b2 T1 T2:Nat}{x y:Operand}{e:Ent}{f f':F}{s s' v:Int}(h:Qla put f s e v=some (f',s'))(a:∀x o v y,put x o v=some y->c y=(c x).set o (.int .i64 v)/\o<(c x).length)
  (l:∀w,(sizeOf t).run P w=.ok 1 w)(k:o.op=.store t x y:=by exact rfl)(hx:opA env x=QiQ b1 b2 e:=by exact rfl)(h1:H[b1]?=some (.cells T1 (c f)):=by exact rfl)(h2:H[b2]?=some (.cells T2 [.int .i64 s]):=by exact rfl)(hy:opA env y=.int .i64 v:=by exact rfl)
  (hb:Nat.beq b1 b2=false:=by exact rfl):OpU P o env H ((H.set b1 (.cells T1 (c f'))).set b2 (.cells T2 [.int .i64 s'])):=by
 have i:b1≠b2:=λq=>by subst q;rw[Vz]at hb;cases hb
 unfold Qla at h;unfold QiQ at hx;cases n:e.fl with
 |true=>
  rw[n]at h hx;cases d:e.off==0 with
  |false=>rw[d]at h;cases h
  |true=>
   rw[d]at h;have e0:=by simpa using d
   rw[e0]at hx;obtain⟨rfl,rfl⟩:f=f'/\v=s':=by simpa using h
   rw[Qjp h1];exact OpU.store k hx h2 l hy rfl rfl rfl rfl rfl rfl
 |false=>
  rw[n]at h hx;cases j:put f e.off v with
  |none=>rw[j]at h;cases h
  |some g=>
   rw[j]at h;obtain⟨rfl,rfl⟩:g=f'/\s=s':=by simpa using h
   obtain⟨p,m⟩:=a _ _ _ _ j;have r:(H.set b1 (.cells T1 (c g)))[b2]?=some (.cells T2 [.int .i64 s]):=by rw[XM i];exact h2
   rw[Qjp r];exact OpU.store (vs:=[.int .i64 v]) k hx h1 l hy rfl rfl rfl rfl (XP m) (by rw[Qk0 m,p])
end
section
variable {P:Program} {h0 N:Nat} {A B C:Code} {env:Env} {H:Qb} {Q:QV}
theorem Qpz{S B1:Type}{b:Ctl S B1}(Eb:S->Env)(Hb:S->Qb)(h:TC P h0 N A env H (Seq P h0 N B (Qfd h0 b Eb Hb (Seq P h0 N C Q))))(k:∀s env H,b=.cont s->Le h0 env H (Eb s) (Hb s)->Seq P h0 N C Q .normal env H):TC P h0 N (.seq A (.seq B C)) env H Q:=by
 refine TC.seq (h.mono λx env' H' q=>?_);cases x with
 |normal=>exact TC.seq (QmO Eb Hb q k)
 |exit id=>exact q
 |ret=>exact q
end
section
variable {P:Program} {o:Oper} {env:Env} {H:Qb}
theorem Qgl{f g:Nat->Option (Nat×Nat)}:∀(parts:List (Nat×Value)) (cs:Array Value),(∀p∈parts,f p.1=g p.1)->Instr.fill f cs parts=Instr.fill g cs parts
 |[],cs,_=>rfl
 |(i,v)::rest,cs,h=>by
  unfold Instr.fill;rw[h (i,v) (by simp)];have ih:=λcs=>Qgl rest cs (λp hp=>h p (by simp[hp]));cases g i with
  |none=>rfl
  |some p=>
   simp;split
   .rfl
   .exact ih _
theorem J4{t e n k:Nat}{z:Value}{zs cs:List A}{parts:List (Nat×Operand)}(m:∀w,(zeroValue t).run P w=.ok z w)(j:ZR (.agg zs) z)(G:∀w,(underlying t).run P w=.ok (.array n e) w)(s:∀w,(sizeOf e).run P w=.ok k w)
  (h:(parts.all λp=>Nat.blt p.1 n)=true)(g:o.op=.build t parts.toArray:=by exact rfl)(hf:Qe0 env ((List.range n).map λi=>(i*k,k)) zs parts=some cs:=by exact rfl):OpV P o env H (.agg cs):=by
 intro J B σ N a w r;obtain⟨l,rfl,f⟩:=j B σ w;obtain⟨d,y,u⟩:=Qgm r parts zs l cs f hf;refine⟨.agg d.toArray,?_,d,rfl,u⟩;have F:Instr.fill (λi=>some (i*k,k)) l.toArray (parts.map λp=>(p.1,a.eval p.2))=some d.toArray:=by
  rw[<- y];refine Qgl _ _ ?_;intro p E;obtain⟨q,x,rfl⟩:=Xf.1 E;have hlt:=by simpa using Xs.1 h q x
  simp[hlt]
 simp[execOp,g,Instr.build,Vg,m,Result.andThen,G,s,XF,Vh,Value.cells,F]
def orI(k:IntKind)(m n:Int):Int:=k.wrap (BitVec.ofInt k.bits m|||BitVec.ofInt k.bits n).toNat
def Qid(k:IntKind)(m n:Int):Int:=k.wrap (BitVec.ofInt k.bits m^^^BitVec.ofInt k.bits n).toNat
def QfK(k:IntKind)(m n:Int):Int:=k.wrap (m*2^(min n.toNat k.bits))
def Qc2(k:IntKind)(m n:Int):Int:=m.fdiv (2^(min n.toNat k.bits))
theorem OpV.or{t u:TypeId}{x y:Operand}{k:IntKind}{m n:Int}(g:o.op=.binOp .or t x y u)(h:opA env x=.int k m)(e:opA env y=.int k n):OpV P o env H (.int k (orI k m n)):=by
 intro i j σ N a w r;have d:=QT r h;have f:=QT r e;refine⟨_,?_,rfl⟩;generalize a.eval=ρ at*;simp[g,d,f,Op.intBits,go_sem,orI]
theorem OpV.xor{t u:TypeId}{x y:Operand}{k:IntKind}{m n:Int}(g:o.op=.binOp .xor t x y u)(h:opA env x=.int k m)(e:opA env y=.int k n):OpV P o env H (.int k (Qid k m n)):=by
 intro i j σ N a w r;have d:=QT r h;have f:=QT r e;refine⟨_,?_,rfl⟩;generalize a.eval=ρ at*;simp[g,d,f,Op.intBits,go_sem,Qid]
theorem OpV.shl{t u:TypeId}{x y:Operand}{k h:IntKind}{m n:Int}(e:o.op=.binOp .shl t x y u)(f:opA env x=.int k m)(i:opA env y=.int h n)(g:0<=n):OpV P o env H (.int k (QfK k m n)):=by
 intro l p σ N a w r;have d:=QT r f;have j:=QT r i;refine⟨_,?_,rfl⟩;generalize a.eval=ρ at*;simp[e,d,j,Op.shift,go_sem,QfK,Int.not_lt.2 g]
theorem OpV.shr{t u:TypeId}{x y:Operand}{k h:IntKind}{m n:Int}(e:o.op=.binOp .shr t x y u)(f:opA env x=.int k m)(i:opA env y=.int h n)(g:0<=n):OpV P o env H (.int k (Qc2 k m n)):=by
 intro l p σ N a w r;have d:=QT r f;have j:=QT r i;refine⟨_,?_,rfl⟩;generalize a.eval=ρ at*;simp[e,d,j,Op.shift,go_sem,Qc2,Int.not_lt.2 g]
theorem Qcr{h0 i m t k T:Nat}{cs:List A}(z:Nat.ble h0 H.length=true)(hH:H[i]?=some (.cells T cs))(e:cs[m]?=some .nils):
  Le h0 env H env (H.set i (.cells T (cs.set m (.osl H.length 0 0 k)))++[.row t k []]):=by
 intro F g σ N a w r;have hh':=XO z;have hi:=(XI.1 hH).1;have ext:Ext g σ w g (σ++[none]) w:=⟨λ_ q=>q,λ_ _=>rfl,λ_ _ q=>q,λ_ _ h=>QaN h⟩;have s:=r.sim.phantom t k;have d:(H++[Blk.row t k []])[i]?=some (.cells T cs):=by rw[XJ hi];exact hH
 have n:H.set i (.cells T (cs.set m (.osl H.length 0 0 k)))++[.row t k []]=(H++[Blk.row t k []]).set i (.cells T (cs.set m (.osl H.length 0 0 k))):=by
  rw[List.set_append_left _ _ hi]
 rw[n];refine⟨g,σ++[none],⟨s.weaken d rfl ?_,λq=>(r.env q).mono ext,r.size,r.defers⟩,λ_ q=>q,QK (by rw[r.sim.len];exact hh')⟩;intro y h;cases y with
 |none=>exact h
 |some b=>
  obtain⟨l,p,B,x⟩:=h;refine⟨l,p,?_,x⟩;clear p x d n hH
  induction cs generalizing m l with
  |nil=>cases e
  |cons c cs E=>
   obtain⟨v,f,rfl,j,u⟩:=B;cases m with
   |zero=>
    simp at e;subst e;exact⟨v,f,rfl,.inl ⟨rfl,j⟩,u⟩
   |succ m=>exact⟨v,f,rfl,j,E (by simpa using e) f u⟩
theorem Qn1{h0 i s g n k:Nat}{x:Blk}(y:lk env s=.osl i g n k)(hH:H[i]?=some x)(l:Nat.ble h0 H.length=true):Le h0 env H (up env s (.osl H.length g n k)) (H.set i .dead++[x]):=by
 intro E f σ N a w r;have u:i<σ.length:=by rw[r.sim.len];exact(XI.1 hH).1
 have hσ:=XH u;have ext:Ext f σ w f (σ++[σ[i]]) w:=⟨λ_ q=>q,λ_ _=>rfl,λ_ _ q=>q,λ_ _ h=>QaN h⟩;refine⟨f,σ++[σ[i]],⟨r.sim.moved hH hσ,?_,r.size,r.defers⟩,λ_ q=>q,QK (by rw[r.sim.len];exact XO l)⟩;intro d;simp only[lk];by_cases q:d=s
 .subst q;rw[Vz];have:=r.env d;rw[y]at this;rcases this with h|⟨b,p,e,t,m,j,z⟩
  .exact .inl h
  .refine .inr ⟨b,p,e,t,m,?_,z⟩;rw[j]at hσ;rw[<- r.sim.len];simpa using hσ.symm
 .have:Nat.beq d s=false:=by
   rw[VG];intro B;exact q (XN B)
  rw[this];exact(r.env d).mono ext
def Yc(n:Int):UInt8:=n.toNat.toUInt8
def QlS(P:Program)(H:Qb)(x:A)(l:List Int):Prop:=
 ∀fr ro σ w v,Sim fr ro σ H w->VR ro σ w x v->(∃a c,v=.slice a 0 c/\l=[])\/ ∃b off c,v=.slice (some ⟨b,off,none⟩) l.length c/\(l=[]\/CR ro σ w b (l.map λn=>A.int .u8 n) off)
theorem QiB:∀(l:List Int),(l.map (λn=>[A.int .u8 n])).flatten=l.map λn=>A.int .u8 n
 |[]=>rfl
 |n::l=>by simp[QiB l]
theorem QlS.nils:QlS P H .nils []:=λfr ro σ w v s h=>.inl ⟨none,0,h,rfl⟩
theorem QlS.row{i t n:Nat}{l:List Int}(hH:H[i]?=some (.row t 1 (l.map λn=>[A.int .u8 n])):=by exact rfl)(hn:l.length=n:=by exact rfl):QlS P H (.osl i 0 n 1) l:=by
 intro u E σ w v s h;rcases h with⟨rfl,rfl⟩|⟨b,p,a,x,m,f,rfl,k,⟨B,j⟩,r,y⟩
 .exact .inl ⟨none,0,rfl,VD.1 hn⟩
 .refine .inr ⟨b,p,a,by rw[hn],?_⟩;by_cases d:l=[]
  .exact .inl d
  .have:0<a:=by have:=List.length_pos_iff.2 d;omega
   obtain rfl:=k this;obtain⟨z,g,q⟩:=s.blk i _ _ f hH;have e:=(Y5 (pre:=[]) (by simpa using g) q).flat.1;rw[QiB]at e;exact .inr (by simpa using e.lift)
theorem QlS.rsl{l:List Int}:QlS P H (.rsl 1 (l.map λn=>[A.int .u8 n])) l:=by
 intro i j σ w v s ⟨a,c,h1,h2,d⟩;subst h1;rw[XX]at*;rcases d with d|⟨b,e,rfl,h,g⟩
 .have:=List.map_eq_nil_iff.1 d;subst this;exact .inl ⟨a,c,by simp,rfl⟩
 .have f:=g.flat.1;rw[QiB]at f;exact .inr ⟨b,e,c,rfl,.inr f.lift⟩
theorem QcR{ro:Nat->Prop}{σ:Sig}{w:World}{b:Nat}:∀(l:List Int) (off:Nat) (a:ByteArray),CR ro σ w b (l.map λn=>A.int .u8 n) off->(Extern.Bytes.loadBytes ⟨b,off,none⟩ l.length a).run P w=.ok ⟨a.data++(l.map Yc).toArray⟩ w
 |[],off,a,_=>by simp[Extern.Bytes.loadBytes]
 |n::l,off,a,⟨⟨v,h1,hp,h2⟩,h3⟩=>by
  have h2':=h2;subst h2';have ih:=QcR l (off+1) (a.push n.toNat.toUInt8) h3;have hl:(Go.load ⟨b,off,none⟩).run P w=.ok (.int .u8 n) w:=by simp[h1]
  simp[XW,Extern.Bytes.loadBytes,Vg,hl,Result.andThen];have d:(⟨b,off,none⟩:Addr).add 1=⟨b,off+1,none⟩:=by simp[Qas]
  rw[d,ih];simp[Yc]
theorem QeQ{fr ro:Nat->Prop}{σ:Sig}{w:World}{x:A}{l:List Int}{v:Value}(h:QlS P H x l)(s:Sim fr ro σ H w)(f:VR ro σ w x v):(Extern.Bytes.bytesOf v).run P w=.ok ⟨(l.map Yc).toArray⟩ w:=by
 rcases h fr ro σ w v s f with⟨a,c,rfl,rfl⟩|⟨b,e,c,rfl,d⟩
 .cases a with
  |none=>rfl
  |some a=>rfl
 .rcases d with rfl|d
  .rfl
  .have:=QcR (P:=P) l e .empty d;simp only[Extern.Bytes.bytesOf,this];simp[ByteArray.empty,ByteArray.emptyWithCapacity];rfl
def cmpB(l m:List Int):Int:=Lib.compareBytes (l.map Yc) (m.map Yc)
theorem OpV.cmpB{c:Call}{f:FuncId}{fn:Func}{x y:Operand}{j:Array TypeId}{ax h:A}{l m:List Int}(E:P.funcs[f]?=some fn)(d:(fn.name=="runtime.NumGoroutine")=false)(q:fn.body.isNone=true)(p:Extern.findNext fn=none)(he:Extern.find fn=some Extern.BytealgCompare.compare)
  (k:QlS P H ax l)(B:QlS P H h m)(n:o.op=.call c:=by exact rfl)(hc:c={callee:=.value (.func f),args:= #[x,y],argTypes:=j}:=by exact rfl)(hx:opA env x=ax:=by exact rfl)(hy:opA env y=h:=by exact rfl):OpV P o env H (.int .i64 (cmpB l m)):=by
 intro F G σ N a w r;have i:=Qi r x;rw[hx]at i;have g:=Qi r y;rw[hy]at g;have z:=QeQ k r.sim i;have s:=QeQ B r.sim g;refine⟨.int .i64 (Sw.cmpB l m),?_,rfl⟩;subst hc;have e:a.eval (.func f)=.func (.func f) #[] #[]:=rfl;have u:(callFunc f #[a.eval x,a.eval y]).run P w=.ok (.value (.int .i64 (Sw.cmpB l m))) w:=by
  rw[run_callFunc_extern E d q p he];have t:Sem.run P (Extern.BytealgCompare.compare #[a.eval x,a.eval y]) w=.ok (.int .i64 (Sw.cmpB l m)) w:=by
   change Sem.run P (do pure (goInt (Extern.BytealgCompare.cmp (<- Extern.Bytes.bytesOf (a.eval x)) (<- Extern.Bytes.bytesOf (a.eval y))))) w=_;simp[Vg,z,s,Result.andThen,Lib.cmp_eq];rfl
  rw[t];rfl
 simp[execOp,n,resolve,e,Deferred.ofValue,invoke,Vh];simpa using u
theorem Yg{t h n k b off j:Nat}{x y:Operand}{i:Int}{m:IntKind}(f:(i==j)=true)(E:Nat.blt j n=true)(F:∀w,(underlying t).run P w=.ok (.array n h) w)(z:∀w,(sizeOf h).run P w=.ok k w)(s:Nat.ble 2 n=true)
  (p:o.op=.indexAddr t x y:=by exact rfl)(hx:opA env x=.ptr b off:=by exact rfl)(hy:opA env y=.int m i:=by exact rfl):OpV P o env H (.ptr b (off+j*k)):=by
 intro G J σ N a w r;have d:=Qi r x;rw[hx]at d;obtain⟨e,d,B⟩:=d;have l:=Qi r y;rw[hy]at l;have u:a.eval y=.int m i:=l;have hi:=by simpa using f
 have hjn:=by simpa using E
 subst hi;refine⟨.pointer (some ⟨e,off+j*k,none⟩),?_,e,d,rfl⟩;have hr:=by omega
 have g:(⟨e,off,none⟩:Addr).add ((j:Int).toNat*k)=⟨e,off+j*k,none⟩:=by
  unfold Addr.add;split
  .rename_i q;simp at q;simp[q]
  .simp
 generalize a.eval=ρ at*;simp[p,B,Instr.indexAt,F,z,hr,go_sem,hjn]
end
theorem Qoz{P:Program}{W:World}{name:String}{d:DataW Unit}:∀{a:List (String×DataW Unit)} {ps:List MemPlace},DataW.LaidVars P W a ps->(name,d)∈a->
  ∃(g:Nat) (t:TypeId) (cs:Array Value) (e:Nat) (p:List MemPlace),P.globalNamed name=some g/\(P.globals[g]?).map (·.type)=some t/\W.var? P name=some cs/\DataW.trod (λ_=>()) P W 0 (λ_=>true) false e t cs.toList=some (d,p):=by
 intro a
 induction a with
 |nil=>simp
 |cons x a l=>
  intro ps h j;obtain⟨g,t,cs,e,p,q,f,m,n,i,r,k⟩:=h
  grind
theorem Yx{P:Program}{W:World}{name:String}{a b:Int}{g t e:Nat}{i k:Field}{d:List (String×DataW Unit)}{ps:List MemPlace}(h:DataW.LaidVars P W d ps)(B:(name,DataW.agg [.lit (.int .i64 a),.lit (.int .i64 b)])∈d)
  (hg:P.globalNamed name=some g)(j:(P.globals[g]?).map (·.type)=some t)(y:P.underlying t=some (.struct #[i,k]))(F:i.type=e)(L:k.type=e)(N:i.offset=0)(J:k.offset=1)(he:P.underlying e=some (.int .i64))(f:P.cellsOf e=1)(z:P.cellsOf t=2):
  W.cell? ⟨g,0,none⟩=some (.int .i64 a)/\W.cell? ⟨g,1,none⟩=some (.int .i64 b):=by
 obtain⟨Y,Q,O,r,p,s,w,q,u⟩:=Qoz h B;obtain rfl:=XV (hg.symm.trans s);obtain rfl:=XV (j.symm.trans w);obtain⟨V,y1,n,T,X,l,m⟩:=Go.ChangeShapes.trod_struct2 y u;rw[F,N,f]at l;rw[L,J,f]at m;obtain⟨G,x,R,_⟩:=DataW.trod_int he l;obtain⟨E,M,r4,_⟩:=DataW.trod_int he m;have H:a=G/\b=E:=by grind
 rw[World.var?_cell hg q,World.var?_cell hg q];constructor
 .have:=congrArg (·[0]?) x
  grind
 .have:=congrArg (·[0]?) M
  grind
theorem JZ{w:World}{g:Nat}{a b:Int}(s:w.cell? ⟨g,0,none⟩=some (.int .i64 a)/\w.cell? ⟨g,1,none⟩=some (.int .i64 b)):∀(zs:List Int),some [a,b]=some zs->∀(i:Nat) (z:Int),zs[i]?=some z->w.cell? ⟨g,i,none⟩=some (.int .i64 z)
 |zs,h,0,z,hi=>by grind
 |zs,h,1,z,hi=>by grind
 |zs,h,i+2,z,hi=>by grind
def QbI:Option Blk->Bool
 |some .dead=>true
 |_=>false
def QaU(hB hE:Nat)(H H':Qb):Bool:=(List.range (hE-hB)).all λp=> !QbI H'[hB+p]? ||QbI H[hB+p]?
def QmU(hB hE:Nat)(σ:Sig)(H:Qb):Prop:=∀p,hB<=p->p<hE->QbI H[p]?=true->σ[p]?=some none
theorem Qnz{a hE:Nat}{H H':Qb}(h:QaU a hE H H'=true){p:Nat}(e:a<=p)(f:p<hE)(d:QbI H'[p]?=true):QbI H[p]?=true:=by
 have:=Xs.1 h (p-a) (List.mem_range.2 (by omega));rw[show a+(p-a)=p by omega,d]at this;simpa using this
theorem Sim.allocAt{fr ro:Nat->Prop}{σ:Sig}{H:Qb}{w:World}(s:Sim fr ro σ H w){p:Nat}(J:σ[p]?=some none){obj:Obj}{x:Blk}
  (M:BR ro (σ.set p (some w.heap.size)) (w.alloc obj) x (some w.heap.size))
  (E:∀c,Hid (w.alloc obj) x w.heap.size c->False:=by exact λ_ h=>h.elim):Sim fr ro (σ.set p (some w.heap.size)) (H.set p x) (w.alloc obj):=by
 have ev:=Qk.alloc obj s.roLt s.frLt;have u:=s.len;have hpl:=(XI.1 J).1;have t:Ext ro σ w ro (σ.set p (some w.heap.size)) (w.alloc obj):=⟨ev.sub,ev.keepRo,ev.shape,λi b q=>by
  rw[XM (λz=>by subst z;rw[J]at q;cases q)];exact q⟩
 have e:∀(i:Nat) (y:Option Nat),(σ.set p (some w.heap.size))[i]?=some y->(i≠p/\σ[i]?=some y)\/(i=p/\y=some w.heap.size):=by
  intro i y h;by_cases q:i=p
  .subst q;rw[Xa hpl]at h;exact .inr ⟨rfl,(XV h).symm⟩
  .rw[XM (λz=>q z.symm)]at h;exact .inl ⟨q,h⟩
 have n:∀i,i≠p->(H.set p x)[i]?=H[i]? :=λi O=>XM (λz=>O z.symm);have F:(H.set p x)[p]?=some x:=Xa (by omega);refine⟨by simp[u],s.roOk.to (λ_ q=>q) ev.keepRo (λb h=>?_),λb h=>?_,s.roFr,?_,?_,?_,s.hidTo (· = ·) Q9 (by rw[Jr];omega) (λ_ _ _ _ _ _ _ q=>q) (λ_ _ _ _ _ _ _ q=>q) λj d y l k P=>?_⟩
 rotate_left 5
 .rcases e j _ l with⟨q,l⟩|⟨rfl,m⟩
  .rw[n j q]at k;exact .inl ⟨j,y,rfl,l,k,id,λc q=>s.hidKeep l k (λz=>Yl w obj d (s.own j d y l k z).1) ev.keepRo q⟩
  .rw[F]at k;cases k;cases m;exact .inr ⟨XQ _,E⟩
 .rw[Jr];have:=s.roLt b h;omega
 .rw[Jr];have:=s.frLt b h;omega
 .intro i b y f g r;rw[Jr];rcases e i _ f with⟨q,f⟩|⟨rfl,m⟩
  .rw[n i q]at g;obtain⟨a,b,c⟩:=s.own i b y f g r;exact⟨by omega,b,c⟩
  .cases m;exact⟨by omega,λq=>by have:=s.roLt _ q;omega,λq=>by have:=s.frLt _ q;omega⟩
 .intro i j b y z f g r B L G;rcases e i _ f with⟨q,l⟩|⟨N,m⟩<;>rcases e j _ g with⟨q',k⟩|⟨ej,e2⟩
  .rw[n i q]at r;rw[n j q']at B;exact s.inj i j b y z l k r B L G
  .cases e2;rw[n i q]at r;have:=(s.own i _ y l r L).1;omega
  .cases m;rw[n j q']at B;have:=(s.own j _ z k B G).1;omega
  .rw[N,ej]
 .intro i y z f g;rcases e i _ f with⟨q,f⟩|⟨rfl,m⟩
  .rw[n i q]at g;refine(s.blk i y z f g).keep t ?_ ?_
   .rintro b rfl u;exact Yl w obj b (s.own i b z f g u).1
   .rintro b c rfl u;exact Yl w obj c (s.hid i b z c f g u).lt
  .rw[F]at g;cases g;subst m;exact M
def OpZ(P:Program)(o:Oper)(t:Nat)(cs:List A):Prop:=
 ∀(ro:Nat->Prop) (σ:Sig) (w:World) (a:Act),∃l:List Value,(execOp a.eval o).run P w=.ok (.value (.pointer (some ⟨w.heap.size,0,none⟩))) (w.alloc (.cells l.toArray t))/\LR ro σ w cs l/\ ∀v∈l,Qz v
theorem OpZ.alloc{P:Program}{o:Oper}{t:Nat}{z:Value}{v:A}{cs:List A}(g:∀w,(zeroValue t).run P w=.ok z w)(f:ZR v z)(i:o.op=.alloc t:=by exact rfl)(hk:Yr v=true:=by exact rfl)(hcs:YA v=cs:=by exact rfl)(hpl:cs.all Yz=true:=by exact rfl):
  OpZ P o t cs:=by
 intro j σ w a;obtain⟨l,h,d⟩:=(f j σ w).cells hk;subst hcs;refine⟨l,?_,d,d.plain hpl⟩;have e:(newVar t z).run P w=.ok ⟨w.heap.size,0,none⟩ (w.alloc (.cells l.toArray t)):=by
  unfold newVar;rw[h];rfl
 simp only[execOp,i,Instr.alloc,Vg,g,Result.andThen,e];rfl
def OpZR(P:Program)(o:Oper)(e:Env)(H:Qb)(p:Nat)(x:A)(B:Blk):Prop:=
 ∀fr ro σ N a w,Rel fr ro σ H e N a w->∃v obj,(execOp a.eval o).run P w=.ok (.value v) (w.alloc obj)/\(∀c,Hid (w.alloc obj) B w.heap.size c->False)/\
  ∀σ',σ'[p]?=some (some w.heap.size)->Ext ro σ w ro σ' (w.alloc obj)->VR ro σ' (w.alloc obj) x v/\BR ro σ' (w.alloc obj) B (some w.heap.size)
theorem Qcz{P:Program}{l:List Oper}{i:Nat}{o:Oper}{rd:Option Nat}{R:Exit->Act->World->Prop}{Q:Exit->Act->World->Prop}{K:Act->World->Prop}{a:Act}{w:World}
  (B:l[i]?=some o)(h:wpL P rd l.toArray R [o] a w)(k:∀e a' w',R e a' w'->e=.normal/\a'.defers=a.defers)(m:∀v w',R .normal (a.put o.dst v) w'->K (a.put o.dst v) w'):
  wpOpIn (WF rd) 0 P l.toArray Q i K a w:=by
 unfold wpOpIn;have u:l.toArray[i]?=some o:=by simpa using B
 rw[u];simp;unfold wpL wpListIn at h;split at h
 .rename_i t;rw[Vm t];obtain⟨j,h⟩:=h;refine⟨j,?_⟩;have g:=Qjg (by
   intro a' w' q;exact(k _ _ _ q).2) h
  generalize(o.semAt (WF rd).round a.eval).run P w=res at*;cases res with
  |ok n w'=>
   cases n with
   |value v=>exact m _ _ g.1
   |skip=>exact m _ _ g.1
   |defer G=>
    have:=(k _ _ _ g.1).2
    revert this
    cases o.dst<;>simp[Act.put]
   |enter f p=>
    refine⟨g.1,CallsIn.mono g.2 (λe s d=>?_)⟩;cases e with
    |returned v=>exact m _ _ d.1
    |panicked c=>have:=(k _ _ _ d).1;cases this
    |outgrown=>obtain⟨E,F,d⟩:=d;have:=(k _ _ _ d).1;cases this
   |row r p=>
    exact⟨g.1,RowsIn.mono g.2 (λ_ _ d=>m _ _ d.1)⟩
   |round l f z assign y=>
    refine⟨g.1,RoundIn.mono g.2 (λe s d=>?_)⟩;cases e with
    |returned v=>exact m _ _ d.1
    |panicked c=>have:=(k _ _ _ d).1;cases this
    |outgrown=>obtain⟨E,F,d⟩:=d;have:=(k _ _ _ d).1;cases this
   |_=>exact g.elim
  |halt x w'=>
   cases x with
   |panic v=>have:=(k _ _ _ g).1;cases this
   |_=>exact g.elim
 .rename_i t;rw[Vl t];obtain⟨j,h⟩:=h;refine⟨j,?_⟩;exact m _ _ h
theorem Qny{P:Program}{l:List Oper}{m:Nat}(s:∀i o,l[i]?=some o->∀j∈Qj o,j<i)(k:∀i o,m<i->l[i]?=some o->i-1∈Qj o){Q:Exit->Act->World->Prop}{rd:Option Nat}:
  ∀(d t:Nat) (L:Array Bool) (a:Act) (w:World),L.size=l.length->(∀i,i<l.length->(onL L i↔i<t))->unl L<=d->m<=t->t<=l.length->
   wpL P rd l.toArray Q (l.drop t) a w->wpAnyIn (WF rd) 0 P .any l.toArray Q d L a w:=by
 intro d
 induction d with
 |zero=>
  intro t L a w hsz hL hf hm ht h;have:t=l.length:=by
   rcases Vw t l.length with q|q
   .have:=Qme (L:=L) (i:=t) (by omega) (λz=>by have:=(hL t q).1 z;omega);omega
   .omega
  subst this;refine⟨List.eq_nil_iff_forall_not_mem.2 λi p=>?_,?_⟩
  .obtain⟨o,f,n,_⟩:=(QaL hsz).1 p;have e:=(XI.1 f).1;exact n ((hL i e).2 e)
  .rw[Xr]at h;exact h
 |succ d G=>
  intro t L a w hsz hL hf hm ht h;have x:∀i o,l[i]?=some o->¬onL L i->(∀j∈Qj o,onL L j)->i=t:=by
   intro i o f n y;have e:=(XI.1 f).1;have F:t<=i:=by
    rcases Vw i t with q|q
    .exact absurd ((hL i e).2 q) n
    .exact q
   rcases Vw t i with q|q
   .have:=(hL (i-1) (by omega)).1 (y _ (k i o (by omega) f));omega
   .omega
  rcases Vw t l.length with g|g
  .have ho:=XH g;have r:¬onL L t:=λq=>by have:=(hL t g).1 q;omega
   have hr:=by
    refine(QaL hsz).2 ⟨_,ho,r,λj B=>?_⟩;have:=s t _ ho j B;exact(hL j (by omega)).2 this
   refine⟨λq=>(by rw[q]at hr;cases hr),λi p=>?_⟩;obtain⟨o,f,n,y⟩:=(QaL hsz).1 p;obtain rfl:=x i o f n y;rw[Xp g]at h;obtain rfl:l[i]=o:=by rw[XH g]at f;exact XV f
   unfold wpOpIn;rw[show l.toArray[i]?=some l[i]by rw[XE];exact f];simp only;unfold wpL wpListIn at h;have E:∀a w,wpL P rd l.toArray Q (l.drop (i+1)) a w->wpAnyIn (WF rd) 0 P .any l.toArray Q d (L.setIfInBounds i true) a w:=by
    intro a w q;have H:=Qih (L:=L) (i:=i) (by omega) r;refine G (i+1) _ a w (by simpa using hsz) (λj B=>?_) (by omega) (by omega) (by omega) q;rw[J2 (by omega),hL j B];omega
   split at h
   .rename_i u;rw[Vm u];exact Oper.wpIn_mono E h
   .rename_i u;rw[Vl u];exact⟨h.1,E _ _ h.2⟩
  .have:t=l.length:=by omega
   subst this;rw[Xr]at h;refine⟨λ_=>h,λi p=>?_⟩;obtain⟨o,f,n,_⟩:=(QaL hsz).1 p;have e:=(XI.1 f).1;exact absurd ((hL i e).2 e) n
def QpN(af ds:List Nat)(xs:List A)(env0 e:Env):Prop:=
 ∀s,(∃j x,af.contains j=true/\ds[j]?=some s/\xs[j]?=some x/\lk e s=x)\/lk e s=.any\/(ds.contains s=false/\lk e s=lk env0 s)
inductive JX (P:Program) (N:Nat) (l:List Oper) (ds:List Nat) (xs:List A) (env0:Env) (hB hE:Nat) (i:Nat) (H H':Qb):Prop
 |mk (o:Oper) (e:Env) (d:Nat) (x:A) (ho:l[i]?=some o) (hd:o.dst=some d) (hx:xs[i]?=some x) (hdd:QaU hB hE H H'=true) (hs:Sb (Qj o) (QiW l i) ds xs env0 e)
   (h:WO P H.length N l.toArray [o] e H (Jm (up e d x) H')):JX P N l ds xs env0 hB hE i H H'
 |unit (o:Oper) (e:Env) (ho:l[i]?=some o) (hd:o.dst=none) (hx:xs[i]?=some .any) (hdd:QaU hB hE H H'=true) (hs:Sb (Qj o) (QiW l i) ds xs env0 e)
   (h:WO P H.length N l.toArray [o] e H (Jm e H')):JX P N l ds xs env0 hB hE i H H'
 |alloc (o:Oper) (d t p:Nat) (cs:List A) (ho:l[i]?=some o) (hd:o.dst=some d) (hg:o.guard=none) (hx:xs[i]?=some (.ptr p 0)) (hp:(Nat.ble hB p&&Nat.blt p hE)=true) (hdead:QbI H[p]?=true)
   (hH:H.set p (.cells t cs)=H') (h:OpZ P o t cs) (hN:Nat.blt d N=true):JX P N l ds xs env0 hB hE i H H'
 |row (o:Oper) (e:Env) (d p:Nat) (x:A) (B:Blk) (ho:l[i]?=some o) (hd:o.dst=some d) (hg:o.guard=none) (hx:xs[i]?=some x) (hp:(Nat.ble hB p&&Nat.blt p hE)=true) (hdead:QbI H[p]?=true) (hlive:QbI (some B)=false)
   (hH:H.set p B=H') (hs:Sb (Qj o) (QiW l i) ds xs env0 e) (h:OpZR P o e H p x B) (hN:Nat.blt d N=true):JX P N l ds xs env0 hB hE i H H'
 |val (o:Oper) (e:Env) (d:Nat) (x:A) (ho:l[i]?=some o) (hd:o.dst=some d) (hg:o.guard=none) (hx:xs[i]?=some x) (hN:Nat.blt d N=true) (he:QpN (Qj o) ds xs env0 e) (h:OpV P o e H x)
   (hH:H=H':=by rfl):JX P N l ds xs env0 hB hE i H H'
 |woE (o:Oper) (e:Env) (d:Nat) (x:A) (ho:l[i]?=some o) (hd:o.dst=some d) (hx:xs[i]?=some x) (he:QpN (Qj o) ds xs env0 e) (hdd:QaU hB hE H H'=true) (h:WO P H.length N l.toArray [o] e H (Jm (up e d x) H')):JX P N l ds xs env0 hB hE i H H'
theorem Sb.rel{af g f:List Nat}{xs:List A}{env0 e:Env}{ro:Nat->Prop}{σ:Sig}{w:World}{a:Act}(i:Sb af g f xs env0 e)
  (h:∀j∈af,∀s x,f[j]?=some s->xs[j]?=some x->VR ro σ w x (a.tmps.getD s undef))
  (k:∀s,f.contains s=false->VR ro σ w (lk env0 s) (a.tmps.getD s undef))(hP:∀j s,g.contains j=true->f[j]?=some s->VR ro σ w (lk env0 s) (a.tmps.getD s undef)):
  ∀s,VR ro σ w (lk e s) (a.tmps.getD s undef):=by
 intro s
 induction i with
 |nil=>exact trivial
 | @dep j s1 x1 r h1 h2 h3 _ ih=>
  unfold lk;cases d:Nat.beq s s1 with
  |false=>exact ih
  |true=>
   obtain rfl:=XN d;exact h j (by simpa using h1) _ _ h2 h3
 | @old s1 x1 r h1 h2 _ ih=>
  unfold lk;cases d:Nat.beq s s1 with
  |false=>exact ih
  |true=>
   obtain rfl:=XN d;subst h2;exact k _ h1
 | @pre j s1 x1 r h1 h2 h3 _ ih=>
  unfold lk;cases d:Nat.beq s s1 with
  |false=>exact ih
  |true=>
   obtain rfl:=XN d;subst h3;exact hP j _ h1 h2
structure After (fr ro:Nat->Prop) (σ:Sig) (w:World) (hB hE:Nat) (H':Qb) (xs:List A) (i:Nat) (o:Oper) (a':Act) (w':World) (ro':Nat->Prop) (σ':Sig):Prop where
 val:∀x,xs[i]?=some x->match o.dst with
  |some d=>VR ro' σ' w' x (a'.tmps.getD d undef)
  |none=>x=.any
 sim:Sim fr ro' σ' H' w'
 ev:Qk fr ro w ro' w'
 ext:Ext ro σ w ro' σ' w'
 holes:QmU hB hE σ' H'
 take:σ'.take hB=σ.take hB
theorem JX.use{P:Program}{N:Nat}{l:List Oper}{ds:List Nat}{xs:List A}{env0:Env}{hB hE i:Nat}{H H':Qb}(hb:JX P N l ds xs env0 hB hE i H H')
  {Q:Exit->Act->World->Prop}{K:Act->World->Prop}{fr ro:Nat->Prop}{σ:Sig}{a:Act}{w:World}{o:Oper}{rd:Option Nat}(O:l[i]?=some o)
  (f:Sim fr ro σ H w)(hN:a.tmps.size=N)(r:Qc1 fr a.defers w)(ac:QeH rd fr w)(hh:QmU hB hE σ H)(hl:hE<=H.length)(aj:hB<=hE)
  (hD:∀j∈Qj o,∀s x,ds[j]?=some s->xs[j]?=some x->VR ro σ w x (a.tmps.getD s undef))
  (hO:∀s,ds.contains s=false->VR ro σ w (lk env0 s) (a.tmps.getD s undef))(hP:∀j s,(QiW l i).contains j=true->ds[j]?=some s->VR ro σ w (lk env0 s) (a.tmps.getD s undef))
  (hK:∀v w' ro' σ',After fr ro σ w hB hE H' xs i o (a.put o.dst v) w' ro' σ'->K (a.put o.dst v) w'):
  wpOpIn (WF rd) 0 P l.toArray Q i K a w:=by
 have aa:∀{e:Env} {H2:Qb} {E:Exit} {u:Act} {w':World},Qb0 H.length fr ro σ w N a.defers (Jm e H2) E u w'->E=.normal/\u.defers=a.defers:=by
  rintro e H2 E u w' ⟨x,_,_,_,_,_,k,⟨rfl,_⟩,_,_,_,L,_⟩;refine⟨?_,L⟩;cases E<;>first|rfl|exact k.elim|cases k
 have W:∀{e:Env} {u:Act} {w':World},Qb0 H.length fr ro σ w N a.defers (Jm e H') .normal u w'->QaU hB hE H H'=true->
   ∃ro' σ',Sim fr ro' σ' H' w'/\Qk fr ro w ro' w'/\Ext ro σ w ro' σ' w'/\QmU hB hE σ' H'/\σ'.take hB=σ.take hB/\ ∀s,VR ro' σ' w' (lk e s) (u.tmps.getD s undef):=by
  rintro e u w' ⟨_,ai,H2,ro',σ',ak,_,⟨_,rfl,rfl⟩,r',he,ht,_,ah⟩ F;have hσ:σ'=σ++σ'.drop H.length:=by
   conv=>lhs;rw[<- Xx H.length σ']
   rw[ht, <- f.len,X4]
  refine⟨ro',σ',r'.sim.frMono ah.sub,he,?_,?_,?_,r'.env⟩
  .rw[hσ];exact he.ext σ _
  .intro p k L h3;have:=hh p k L (Qnz F k L h3);rw[hσ,XJ (by rw[f.len];omega)];exact this
  .rw[hσ];exact QK (by rw[f.len];omega)
 cases hb with
 |woE m e d x g M hx he F h=>
  obtain rfl:m=o:=XV (g.symm.trans O);have hr:∀s,VR ro σ w (lk e s) (a.tmps.getD s undef):=λs=>by
   rcases he s with⟨j,x,k,L,h3,T⟩|T|⟨k,T⟩
   .rw[T];exact hD j (by simpa using k) s x L h3
   .rw[T];exact trivial
   .rw[T];exact hO s k
  refine Qcz O (h rd fr ro σ a w ⟨f,hr,hN,r⟩ ac) (λ_ _ _ q=>aa q) (λv w' q=>?_);obtain⟨ro',σ',g1,g2,G,g4,g5,g6⟩:=W q F;refine hK v w' ro' σ' ⟨λy Y=>?_,g1,g2,G,g4,g5⟩;obtain rfl:=XV (hx.symm.trans Y);have:=g6 d;unfold lk at this;rw[Vz]at this;rw[M]at this⊢;exact this
 |mk m e d x g M hx F hs h=>
  obtain rfl:m=o:=XV (g.symm.trans O);refine Qcz O (h rd fr ro σ a w ⟨f,hs.rel hD hO hP,hN,r⟩ ac) (λ_ _ _ q=>aa q) (λv w' q=>?_);obtain⟨ro',σ',g1,g2,G,g4,g5,g6⟩:=W q F;refine hK v w' ro' σ' ⟨λy Y=>?_,g1,g2,G,g4,g5⟩;obtain rfl:=XV (hx.symm.trans Y);have:=g6 d;unfold lk at this;rw[Vz]at this;rw[M]at this⊢;exact this
 |unit m e g M hx F hs h=>
  obtain rfl:m=o:=XV (g.symm.trans O);refine Qcz O (h rd fr ro σ a w ⟨f,hs.rel hD hO hP,hN,r⟩ ac) (λ_ _ _ q=>aa q) (λv w' q=>?_);obtain⟨ro',σ',g1,g2,G,g4,g5,g6⟩:=W q F;refine hK v w' ro' σ' ⟨λy Y=>?_,g1,g2,G,g4,g5⟩;obtain rfl:=XV (hx.symm.trans Y);rw[M]
 |val m e d x g M hg hx X he h hH=>
  obtain rfl:m=o:=XV (g.symm.trans O);subst hH;have hr:Rel fr ro σ H e N a w:=by
   refine⟨f,λs=>?_,hN,r⟩;rcases he s with⟨j,x,k,L,h3,T⟩|T|⟨k,T⟩
   .rw[T];exact hD j (by simpa using k) s x L h3
   .rw[T];exact trivial
   .rw[T];exact hO s k
  obtain⟨v0,k,L⟩:=h fr ro σ N a w hr;have hw:Region.wanted m (yielded l.toArray a.tmps)=true:=by unfold Region.wanted;rw[hg]
  refine Qcz (R:=λE u w'=>E=.normal/\u.defers=a.defers/\u=a.put m.dst v0/\w'=w) O (JS hw k ?_) (λ_ _ _ q=>⟨q.1,q.2.1⟩) (λv w' q=>?_)
  .unfold wpL wpListIn;refine⟨rfl,?_,rfl,rfl⟩;rw[M];rfl
  .obtain⟨_,_,q1,rfl⟩:=q;refine hK v _ ro σ ⟨λy Y=>?_,f,Qk.refl _ _ _,⟨λ_ q=>q,λ_ _=>rfl,λ_ _ q=>q,λ_ _ q=>q⟩,hh,rfl⟩;obtain rfl:=XV (hx.symm.trans Y);rw[q1,M];have V:d<a.tmps.size:=by rw[hN];simpa using X
   show VR ro σ w' x _;simpa[Act.put,Array.getD_eq_getD_getElem?,V]using L
 |row m e d p x B g M hg hx hp J hlive hH hs h X=>
  obtain rfl:m=o:=XV (g.symm.trans O);subst hH;simp only[XT]at hp;have ae:=XO hp.1;have af:p<hE:=by simpa using hp.2
  have hσp:=hh p ae af J;have hr:Rel fr ro σ H e N a w:=⟨f,hs.rel hD hO hP,hN,r⟩;obtain⟨v0,ab,k,L,h3⟩:=h fr ro σ N a w hr;have hw:Region.wanted m (yielded l.toArray a.tmps)=true:=by unfold Region.wanted;rw[hg]
  have ev:Qk fr ro w ro (w.alloc ab):=Qk.alloc _ f.roLt f.frLt;have ag:p<σ.length:=by rw[f.len];omega
  have n:Ext ro σ w ro (σ.set p (some w.heap.size)) (w.alloc ab):=⟨ev.sub,ev.keepRo,ev.shape,λj b q=>by
   rw[XM (λz=>by subst z;rw[hσp]at q;cases q)];exact q⟩
  obtain⟨g8,g9⟩:=h3 _ (Xa ag) n;refine Qcz (R:=λE u w'=>E=.normal/\u.defers=a.defers/\u=a.put m.dst v0/\w'=w.alloc ab) O (JS hw k ?_) (λ_ _ _ q=>⟨q.1,q.2.1⟩) (λv w' q=>?_)
  .unfold wpL wpListIn;refine⟨rfl,?_,rfl,rfl⟩;rw[M];rfl
  .obtain⟨_,_,q1,rfl⟩:=q;refine hK v _ ro (σ.set p (some w.heap.size)) ⟨λy Y=>?_,f.allocAt hσp g9 L,ev,n,λp' g1 g2 G=>?_,?_⟩
   .obtain rfl:=XV (hx.symm.trans Y);rw[q1,M];have V:d<a.tmps.size:=by rw[hN];simpa using X
    show VR ro _ _ x _;simpa[Act.put,Array.getD_eq_getD_getElem?,V]using g8
   .by_cases q:p'=p
    .subst q;rw[Xa (by omega),hlive]at G;cases G
    .rw[XM (λz=>q z.symm)]at G⊢;exact hh p' g1 g2 G
   .rw[List.take_set,List.set_eq_of_length_le];rw[Xw];omega
 |alloc m d t p cs g M hg hx hp J hH h X=>
  obtain rfl:m=o:=XV (g.symm.trans O);subst hH;simp only[XT]at hp;have ae:=XO hp.1;have af:p<hE:=by simpa using hp.2
  have hσp:=hh p ae af J;obtain⟨lv,k,L,h3⟩:=h ro σ w a;have hw:Region.wanted m (yielded l.toArray a.tmps)=true:=by unfold Region.wanted;rw[hg]
  have ev:Qk fr ro w ro (w.alloc (.cells lv.toArray t)):=Qk.alloc _ f.roLt f.frLt;have ag:p<σ.length:=by rw[f.len];omega
  have n:Ext ro σ w ro (σ.set p (some w.heap.size)) (w.alloc (.cells lv.toArray t)):=⟨ev.sub,ev.keepRo,ev.shape,λj b q=>by
   rw[XM (λz=>by subst z;rw[hσp]at q;cases q)];exact q⟩
  refine Qcz (R:=λE u w'=>E=.normal/\u.defers=a.defers/\u=a.put m.dst (.pointer (some ⟨w.heap.size,0,none⟩))/\w'=w.alloc (.cells lv.toArray t)) O (JS hw k ?_) (λ_ _ _ q=>⟨q.1,q.2.1⟩) (λv w' q=>?_)
  .unfold wpL wpListIn;refine⟨rfl,?_,rfl,rfl⟩;rw[M];rfl
  .obtain⟨_,_,q1,rfl⟩:=q;refine hK v _ ro (σ.set p (some w.heap.size)) ⟨λy Y=>?_,f.allocAt hσp ⟨lv,Yn _ _,L.mono n,h3⟩,ev,n,λp' g1 g2 G=>?_,?_⟩
   .obtain rfl:=XV (hx.symm.trans Y);rw[q1,M];have V:d<a.tmps.size:=by rw[hN];simpa using X
    refine⟨w.heap.size,Xa ag,?_⟩;simp[Act.put,Array.getD_eq_getD_getElem?,V]
   .by_cases q:p'=p
    .subst q;rw[Xa (by omega)]at G;cases G
    .rw[XM (λz=>q z.symm)]at G⊢;exact hh p' g1 g2 G
   .rw[List.take_set,List.set_eq_of_length_le];rw[Xw];omega
def same(a b:List Nat):Bool:=a.all (b.contains ·)&&b.all (a.contains ·)
theorem Qp0{a b:List Nat}(h:same a b=true)(i:Nat):i∈a↔i∈b:=by
 unfold same at h;simp[XT,Xs,List.contains_iff_mem]at h;exact⟨h.1 i,h.2 i⟩
structure QpQ (l:List Oper) (m:Nat) (ds:List Nat) (hs:List Bool) (rq ms:List (List Nat)) (pl:List (List (Nat×Nat))) (N:Nat):Prop where
 len:m<=l.length
 dst:∀i o,i<m->l[i]?=some o->(∃d,o.dst=some d/\ds[i]?=some d/\d<N)\/o.dst=none
 dsl:ds.length=m
 nodup:∀(i j d:Nat),ds[i]?=some d->ds[j]?=some d->i=j
 back:∀i o,l[i]?=some o->∀j∈Qj o,j<i
 mid:∀o,l[m]?=some o->∀j,j<m->Qc0 l m j
 chain:∀i o,m<i->l[i]?=some o->i-1∈Qj o
 rqs:∀i o,i<m->l[i]?=some o->∀h∈rq.getD i [],h<m/\hs.getD h false=true/\(h∈Qj o\/ ∃j∈Qj o,j<m/\h∈rq.getD j [])
 ms0:ms.getD 0 []=[]
 full:∀st,st<ms.length->st+1=ms.length\/ ∃i,i<m/\hs.getD i false=true/\i∉ms.getD st []
 msh:∀st h,h∈ms.getD st []->h<m/\hs.getD h false=true
 pls:∀i st,i<m->st<ms.length->(∀h∈rq.getD i [],h∈ms.getD st [])->(hs.getD i false=true->i∉ms.getD st [])->(∀h∈ms.getD st [],¬Qc0 l h i)->
  ∃st',(st,st')∈pl.getD i []/\st'<ms.length/\if hs.getD i false then∀j,j∈ms.getD st' []↔j=i\/j∈ms.getD st []else st'=st
theorem QqS{α:Type}{l:List α}{i:Nat}{d x:α}(h:l[i]?=some x):l.getD i d=x:=by rw[VF,h];rfl
theorem Qkr{P:Program}{l:List Oper}{m:Nat}{X:List Nat}{hs:List Bool}{rq ms:List (List Nat)}{pl:List (List (Nat×Nat))}{N h0 hB hE:Nat}{xs:List A}{env0:Env}{Hs:List Qb}{Hk:Qb}
  (ok:QpQ l m X hs rq ms pl N)(aq:xs.length=m)(bc:Hs.length=ms.length)(a8:h0<=hB)(az:hB<=hE)(au:∀H∈Hs,hE<=H.length)
  (a3:∀i p,i<m->p∈pl.getD i []->JX P N l X xs env0 hB hE i (Hs.getD p.1 []) (Hs.getD p.2 []))(a4:Hs.getD (ms.length-1) []=Hk)
  {fr ro0:Nat->Prop}{σ0:Sig}{w0:World}{rd:Option Nat}{ds0:List Deferred}{R:Exit->Act->World->Prop}
  (hk:∀ro σ a w,Rel fr ro σ Hk (Qaw X xs env0) N a w->Qk fr ro0 w0 ro w->σ.take h0=σ0.take h0->a.defers=ds0->wpL P rd l.toArray R (l.drop m) a w)(an:Qc1 fr ds0 w0)(ax:QeH rd fr w0):
  ∀(g:Nat) (L:Array Bool) (a:Act) (w:World) (ro:Nat->Prop) (σ:Sig) (st:Nat),
   L.size=l.length->unl L<=g->(∀i,m<=i->¬onL L i)->st<ms.length->Sim fr ro σ (Hs.getD st []) w->a.tmps.size=N->a.defers=ds0->
   (∀(i d:Nat) (x:A),onL L i->X[i]?=some d->xs[i]?=some x->VR ro σ w x (a.tmps.getD d undef))->(∀s,(∀j,X[j]?=some s->¬onL L j)->VR ro σ w (lk env0 s) (a.tmps.getD s undef))->
   Qk fr ro0 w0 ro w->σ.take h0=σ0.take h0->QmU hB hE σ (Hs.getD st [])->
   (∀i,i<m->onL L i->∀h∈rq.getD i [],onL L h)->(∀i,i<m->hs.getD i false=true->(onL L i↔i∈ms.getD st []))->
   (∀i o,onL L i->l[i]?=some o->∀j∈Qj o,onL L j)->
   wpAnyIn (WF rd) 0 P .any l.toArray R g L a w:=by
 have a5:∀st,st<ms.length->hE<=(Hs.getD st []).length:=by
  intro st h;have e:Hs[st]?=some Hs[st]:=XH (by omega);rw[QqS e];exact au _ (List.getElem_mem _)
 have fin:∀(g:Nat) (L:Array Bool) (a:Act) (w:World) (ro:Nat->Prop) (σ:Sig) (st:Nat),
   L.size=l.length->unl L<=g->(∀i,m<=i->¬onL L i)->st<ms.length->Sim fr ro σ (Hs.getD st []) w->a.tmps.size=N->a.defers=ds0->
   (∀(i d:Nat) (x:A),onL L i->X[i]?=some d->xs[i]?=some x->VR ro σ w x (a.tmps.getD d undef))->(∀s,(∀j,X[j]?=some s->¬onL L j)->VR ro σ w (lk env0 s) (a.tmps.getD s undef))->
   Qk fr ro0 w0 ro w->σ.take h0=σ0.take h0->
   (∀i,i<m->hs.getD i false=true->(onL L i↔i∈ms.getD st []))->(∀i,i<m->onL L i)->
   wpAnyIn (WF rd) 0 P .any l.toArray R g L a w:=by
  intro g L a w ro σ st hsz hu hsuf hst hsim hN hdef hD hE' hev htk hI2 r;have ak:st=ms.length-1:=by
   rcases ok.full st hst with q|⟨i,O,h2,h3⟩
   .omega
   .exact absurd ((hI2 i O h2).1 (r i O)) h3
  rw[ak,a4]at hsim;refine Qny ok.back ok.chain g m L a w hsz (λi hi=>⟨λq=>?_,λq=>r i q⟩) hu (XQ _) ok.len ?_
  .rcases Vw i m with z|z
   .exact z
   .exact absurd q (hsuf i z)
  .have hr:Rel fr ro σ Hk (Qaw X xs env0) N a w:=by
    refine⟨hsim,λs=>?_,hN,by rw[hdef];exact an.keep hev⟩;rcases Qqa (env0:=env0) (by rw[ok.dsl,aq]) s with⟨j,x,O,h2,h3⟩|⟨O,h2⟩
    .rw[h3];have f:j<m:=by have:=(XI.1 O).1;rw[ok.dsl]at this;exact this
     exact hD j s x (r j f) O h2
    .rw[h2];exact hE' s (λj q=>absurd (VB q) (by simpa using O))
   exact hk ro σ a w hr hev htk hdef
 intro g
 induction g with
 |zero=>
  intro L a w ro σ st hsz hu hsuf hst hsim hN hdef hD hE' hev htk hho hI1 hI2 hcl;refine fin 0 L a w ro σ st hsz hu hsuf hst hsim hN hdef hD hE' hev htk hI2 (λi hi=>?_);by_cases q:onL L i
  .exact q
  .have:=Qme (L:=L) (i:=i) (by have:=ok.len;omega) q;omega
 |succ g ih=>
  intro L a w ro σ st hsz hu hsuf hst hsim hN hdef hD hE' hev htk hho hI1 hI2 hcl;by_cases r:∀i,i<m->onL L i
  .exact fin (g+1) L a w ro σ st hsz hu hsuf hst hsim hN hdef hD hE' hev htk hI2 r
  .have a6:∃i,i<m/\ ¬onL L i:=by
    refine Classical.byContradiction λq=>r λi hi=>Classical.byContradiction λz=>q ⟨i,hi,z⟩
   obtain⟨n,hn,aj⟩:=a6;obtain⟨i0,O,h2,h3⟩:=least (p:=λi=>¬onL L i) (λi=>Classical.em _) n aj;have ba:=ok.len;have am:l[i0]?=some l[i0]:=XH (by omega);have hr:i0∈Region.ready .any l.toArray L:=(QaL hsz).2 ⟨_,am,h2,λj f=>Classical.byContradiction λz=>h3 j (ok.back i0 _ am j f) z⟩;refine⟨λq=>(by rw[q]at hr;cases hr),λi hi=>?_⟩;obtain⟨o,V,W,F⟩:=(QaL hsz).1 hi;have B:i<m:=by
    rcases Vw i m with q|q
    .exact q
    .exfalso;rcases Vw m i with z|z
     .exact hsuf (i-1) (by omega) (F _ (ok.chain i o z V))
     .have:i=m:=by omega
      subst this;have a9:∀j,Qc0 l i j->onL L j:=by
       intro j f
       induction f with
       |one t f=>rw[V]at t;cases t;exact F _ f
       |step _ t f ihr=>exact hcl _ _ ihr t _ f
      exact aj (a9 n (ok.mid o V n hn))
   have ai:∀h∈rq.getD i [],onL L h:=by
    intro h T;obtain⟨_,_,q|⟨j,q1,q2,q3⟩⟩:=ok.rqs i o B V h T
    .exact F h q
    .exact hI1 j q2 (F j q1) h q3
   obtain⟨a1,a0,a2,G⟩:=ok.pls i st B hst (λh T=>by
    obtain⟨q1,q2,_⟩:=ok.rqs i o B V h T;exact(hI2 h q1 q2).1 (ai h T)) (λq z=>W ((hI2 i B q).2 z)) (λh T hR=>by
    obtain⟨q1,q2⟩:=ok.msh st h T;have a7:onL L h:=(hI2 h q1 q2).2 T;have al:∀j,Qc0 l h j->onL L j:=by
     intro j f
     induction f with
     |one t f=>exact hcl _ _ a7 t _ f
     |step _ t f ihr=>exact hcl _ _ ihr t _ f
    exact W (al i hR))
   have hb:=a3 i _ B a0;refine hb.use V hsim hN (by rw[hdef];exact an.keep hev) (ax.to hev λ_ q=>q) hho (a5 st hst) az (λj f s x q1 q2=>hD j s x (F j f) q1 q2) (λs O=>hE' s (λj q=>absurd (VB q) (by simpa using O))) (λj s O h2=>hE' s (λj' q q'=>?_)) ?_
   .obtain rfl:=ok.nodup j' j s q h2;have f:=Xe.1 (List.contains_iff_mem.1 O);cases ae:l[j']? with
    |none=>rw[ae]at f;simp at f
    |some oj=>
     rw[ae]at f;exact W (hcl j' oj q' ae i (by simpa using f.2))
   intro v w' ay σ' af;have ab:=af.ext;have aa:∀s,(∀d,o.dst=some d->s≠d)->(a.put o.dst v).tmps.getD s undef=a.tmps.getD s undef:=by
    intro s ao;cases Y:o.dst with
    |none=>rfl
    |some d=>
     simp only[Act.put,Array.getD_eq_getD_getElem?,X8];rw[Vl (λq=>ao d Y q.symm)]
   have ac:(a.put o.dst v).tmps.size=N:=by
    cases Y:o.dst with
    |none=>simpa[Act.put]using hN
    |some d=>simpa[Act.put]using hN
   have aw:(a.put o.dst v).defers=ds0:=by
    cases Y:o.dst with
    |none=>simpa[Act.put]using hdef
    |some d=>simpa[Act.put]using hdef
   have bb:=Qih (L:=L) (i:=i) (by omega) W;have u:i<L.size:=by omega
   have av:∀s j,X[j]?=some s->j≠i->∀d,o.dst=some d->s≠d:=by
    intro s j f E d Y q;subst q;rcases ok.dst i o B V with⟨d',k,Q,ag⟩|k
    .rw[Y]at k;cases k;exact E (ok.nodup j i _ f Q)
    .rw[Y]at k;cases k
   refine ih _ _ w' ay σ' a1 (by simpa using hsz) (by omega) (λj f q=>?_) a2 af.sim ac aw ?_ ?_ (hev.trans af.ev) ?_ af.holes ?_ ?_ ?_
   .rcases(J2 u).1 q with z|z
    .omega
    .exact hsuf j f z
   .intro j s y f J hy;by_cases E:j=i
    .subst E;have hv:=af.val y hy;rcases ok.dst j o B V with⟨d',k,Q,ag⟩|k
     .obtain rfl:s=d':=XV (J.symm.trans Q);simp only[k]at hv⊢;exact hv
     .simp only[k]at hv;subst hv;exact trivial
    .rw[aa s (av s j J E)];rcases(J2 u).1 f with z|z
     .exact absurd z E
     .exact(hD j s y z J hy).mono ab
   .intro s J;have ar:∀d,o.dst=some d->s≠d:=by
     rintro d Y rfl;rcases ok.dst i o B V with⟨d',k,Q,ag⟩|k
     .rw[Y]at k;cases k;exact J i Q ((J2 u).2 (.inl rfl))
     .rw[Y]at k;cases k
    rw[aa s ar];exact(hE' s (λj q z=>J j q ((J2 u).2 (.inr z)))).mono ab
   .rw[<- htk];have:=congrArg (List.take h0) af.take;rw[List.take_take,List.take_take,Xz a8]at this;exact this
   .intro j f M h T;refine(J2 u).2 (.inr ?_);rcases(J2 u).1 M with z|z
    .subst z;exact ai h T
    .exact hI1 j f z h T
   .intro j f M;rw[J2 u];cases q:hs.getD i false with
    |false=>
     have E:j≠i:=by rintro rfl;rw[q]at M;cases M
     rw[q]at G;simp only[Xj,if_false]at G;simp only[E,false_or];rw[G];exact hI2 j f M
    |true=>
     rw[q]at G;simp only[if_true]at G;rw[G j,hI2 j f M]
   .intro j o' f t j' ah;rcases(J2 u).1 f with z|z
    .subst z;rw[V]at t;cases t;exact(J2 u).2 (.inr (F _ ah))
    .exact(J2 u).2 (.inr (hcl j o' z t j' ah))
def Qe6.dstB(N:Nat):Nat->List Oper->List Nat->Bool
 |_,_,[]=>true
 |i,o::r,d::ds=>(match o.dst with|some d'=>Nat.beq d' d&&Nat.blt d N|none=>true)&&Qe6.dstB N (i+1) r ds
 |_,[],_::_=>false
def Qe6.rqB(m:Nat)(hs:List Bool)(rq:List (List Nat)):Nat->List Oper->Bool
 |_,[]=>true
 |i,o::r=>(rq.getD i []).all (λh=>Nat.blt h m&&hs.getD h false&&((Qj o).contains h||(Qj o).any λj=>Nat.blt j m&&(rq.getD j []).contains h))&&Qe6.rqB m hs rq (i+1) r
def Qk9(l:List Oper)(h:Nat):List Nat:=match l[h]? with
 |some o=>QfX l h (Qj o)
 |none=>[]
theorem Qm8{l:List Oper}{h j:Nat}(q:j∈Qk9 l h):Qc0 l h j:=by
 unfold Qk9 at q;cases a:l[h]? with
 |none=>rw[a]at q;cases q
 |some o=>rw[a]at q;exact Qcy h (Qj o) (λi d=>.one a d) j q
def Qe6.plB(l:List Oper)(m:Nat)(hs:List Bool)(rq ms:List (List Nat))(pl:List (List (Nat×Nat))):Bool:=
 (List.range m).all λi=>(List.range ms.length).all λst=>((ms.getD st []).any λh=>(Qk9 l h).contains i)|| !(rq.getD i []).all ((ms.getD st []).contains ·)||(hs.getD i false&&(ms.getD st []).contains i)||
  (pl.getD i []).any λp=>Nat.beq p.1 st&&Nat.blt p.2 ms.length&&(bif hs.getD i false then same (ms.getD p.2 []) (i::ms.getD st [])else Nat.beq p.2 st)
def Qe6(l:List Oper)(m N:Nat)(ds:List Nat)(hs:List Bool)(rq ms:List (List Nat))(pl:List (List (Nat×Nat))):Bool:=
 Nat.ble m l.length&&(ds.length==m)&&Qe6.dstB N 0 l ds&&drawChk.nodupB ds&&drawChk.goB l m 0 l&&Qe6.rqB m hs rq 0 l&&(ms.getD 0 []).isEmpty&&Nat.blt 0 ms.length
 &&((List.range ms.length).all λst=>Nat.beq (st+1) ms.length||(List.range m).any λi=>hs.getD i false&& !(ms.getD st []).contains i)&&Qe6.plB l m hs rq ms pl&&(List.range ms.length).all λst=>(ms.getD st []).all λh=>Nat.blt h m&&hs.getD h false
theorem QhY{N:Nat}:∀(l:List Oper) (a:List Nat) (b:Nat),Qe6.dstB N b l a=true->∀(i d:Nat) (o:Oper),l[i]?=some o->a[i]?=some d->
  (o.dst=some d/\d<N)\/o.dst=none:=by
 intro l
 induction l with
 |nil=>intro a b h i d o f;simp at f
 |cons x r k=>
  intro a b h i d o f g;cases a with
  |nil=>simp at g
  |cons y a=>
   simp[Qe6.dstB,XT]at h;cases i with
   |zero=>
    simp at f g;subst f;subst g;have h:=h.1;split at h
    .rename_i m j;simp only[XT]at h;have e:=XN h.1;subst e;exact .inl ⟨j,by simpa using h.2⟩
    .rename_i j;exact .inr j
   |succ i=>
    have:=k a (b+1) h.2 i d o (by simpa using f) (by simpa using g);exact this
theorem Qok{m:Nat}{e:List Bool}{d:List (List Nat)}:∀(l:List Oper) (b:Nat),Qe6.rqB m e d b l=true->∀(i:Nat) (o:Oper),l[i]?=some o->
  ∀h∈d.getD (b+i) [],h<m/\e.getD h false=true/\(h∈Qj o\/ ∃j∈Qj o,j<m/\h∈d.getD j []):=by
 intro l
 induction l with
 |nil=>intro b h i o a;simp at a
 |cons x r t=>
  intro b h i o a;simp only[Qe6.rqB,XT]at h;cases i with
  |zero=>
   simp at a;subst a;intro k f;have:=Xs.1 h.1 k (by simpa using f);simp[XT,Bool.or_eq_true,List.contains_iff_mem,Xt]at this;obtain⟨⟨g,u⟩,n⟩:=this;refine⟨by simpa using g,u,?_⟩;rcases n with q|⟨j,w,p,s⟩
   .exact .inl q
   .exact .inr ⟨j,w,by simpa using p,s⟩
  |succ i=>
   have:=t (b+1) h.2 i o (by simpa using a);rw[show b+1+i=b+(i+1)by omega]at this;exact this
theorem Qpd{l:List Oper}{m N:Nat}{t:List Nat}{y:List Bool}{F u:List (List Nat)}{G:List (List (Nat×Nat))}(h:Qe6 l m N t y F u G=true):
  QpQ l m t y F u G N/\0<u.length:=by
 unfold Qe6 at h;simp only[XT]at h;obtain⟨⟨⟨⟨⟨⟨⟨⟨⟨⟨H,M⟩,V⟩,J⟩,R⟩,L⟩,X⟩,h8⟩,Y⟩,E⟩,B⟩:=h;have hlm:=XO H;have hds:=by simpa using M
 have g:=QjU l 0 R;refine⟨⟨hlm,λi o s d=>?_,hds,QeU J,λi o d=>by have:=(g i o d).1;simpa using this,λo d j W=>Qcy m (Qj o) (λi s=>.one d s) j ((g m o d).2.1 (by omega) j W),
  λi o s d=>by have:=(g i o d).2.2 (by omega);simpa using this,λi o s d h f=>by have:=Qok l 0 L i o d h (by simpa using f);exact this,
  by simpa using X,λr a=>?_,λr h f=>?_,λi r s a Q O T=>?_⟩,by simpa using h8⟩
 .have x:t[i]?=some t[i]:=XH (by omega);rcases QhY l t 0 V i _ o d x with⟨k,w⟩|k
  .exact .inl ⟨_,k,x,w⟩
  .exact .inr k
 .have:=Xs.1 Y r (List.mem_range.2 a);simp only[Bool.or_eq_true,Xt,XT]at this;rcases this with q|⟨i,k,w,n⟩
  .exact .inl (XN q)
  .exact .inr ⟨i,List.mem_range.1 k,w,λz=>by rw[List.contains_iff_mem.2 z]at n;cases n⟩
 .have a:r<u.length:=by
   rcases Vw r u.length with q|q
   .exact q
   .rw[VF,XL q]at f;cases f
  have:=Xs.1 (Xs.1 B r (List.mem_range.2 a)) h f;simp[XT]at this;exact⟨by simpa using this.1,this.2⟩
 .have:=Xs.1 (Xs.1 E i (List.mem_range.2 s)) r (List.mem_range.2 a);simp only[Bool.or_eq_true]at this;rcases this with((q|q)|q)|q
  .exfalso;obtain⟨h,f,q⟩:=Xt.1 q;exact T h f (Qm8 (List.contains_iff_mem.1 q))
  .have:=Xs.2 λh f=>List.contains_iff_mem.2 (Q h f);rw[this]at q;cases q
  .simp only[XT]at q;exact absurd (List.contains_iff_mem.1 q.2) (O q.1)
  .obtain⟨p,P,q⟩:=Xt.1 q;simp only[XT]at q;obtain⟨⟨k,w⟩,n⟩:=q;have e:=XN k;refine⟨p.2,by rw[<- e];exact P,by simpa using w,?_⟩;cases z:y.getD i false with
   |true=>
    rw[z]at n;intro j;rw[Qp0 n j,X0]
   |false=>
    rw[z]at n;exact XN n
inductive Qi4 (P:Program) (N:Nat) (l:List Oper) (ds:List Nat) (xs:List A) (env0:Env) (hB hE:Nat):Nat->List (List (Qb×Qb))->Prop
 |nil {i:Nat}:Qi4 P N l ds xs env0 hB hE i []
 |cons {i:Nat} {s:List (Qb×Qb)} {r:List (List (Qb×Qb))} (h:∀p∈s,JX P N l ds xs env0 hB hE i p.1 p.2) (k:Qi4 P N l ds xs env0 hB hE (i+1) r):Qi4 P N l ds xs env0 hB hE i (s::r)
theorem Qi4.get{P:Program}{N:Nat}{l:List Oper}{f:List Nat}{xs:List A}{env0:Env}{d hE b:Nat}{e:List (List (Qb×Qb))}(h:Qi4 P N l f xs env0 d hE b e):
  ∀(i:Nat) (s:List (Qb×Qb)),e[i]?=some s->∀p∈s,JX P N l f xs env0 d hE (b+i) p.1 p.2:=by
 induction h with
 |nil=>intro i s h;simp at h
 | @cons b s0 r h _ ih=>
  intro i s a;cases i with
  |zero=>simp at a;subst a;exact h
  |succ i=>
   have:=ih i s (by simpa using a);rw[show b+1+i=b+(i+1)by omega]at this;exact this
theorem Qm{P:Program}{N:Nat}{l:List Oper}{e:List Nat}{xs:List A}{env0:Env}{d hE i:Nat}:∀p∈([]:List (Qb×Qb)),JX P N l e xs env0 d hE i p.1 p.2:=by
 intro p a;cases a
theorem Qc{P:Program}{N:Nat}{l:List Oper}{d:List Nat}{xs:List A}{env0:Env}{a hE i:Nat}{H H':Qb}{r:List (Qb×Qb)}(h:JX P N l d xs env0 a hE i H H')
  (k:∀p∈r,JX P N l d xs env0 a hE i p.1 p.2):∀p∈(H,H')::r,JX P N l d xs env0 a hE i p.1 p.2:=by
 intro p e;rcases X0.1 e with rfl|q
 .exact h
 .exact k p q
theorem Qim{P:Program}{h0 N:Nat}{id:Nat}{l:List Oper}{env:Env}{H:Qb}{fr ro:Nat->Prop}{σ:Sig}{a:Act}{w:World}{rd:Option Nat}{R:Exit->Act->World->Prop}(m c:Nat)(ds:List Nat)(hs:List Bool)(rq ms:List (List Nat))(O:List (List (Nat×Nat)))(xs:List A)(Hs:List Qb)(Hk:Qb)
  (hm:P.follows .mixedOrders=true)(hc:Qe6 l m N ds hs rq ms O=true)(aa:Nat.beq xs.length m=true)(ae:Nat.beq Hs.length ms.length=true)(ag:Nat.ble h0 H.length=true)
  (hh:Hs.all (λX=>Nat.ble (H.length+c) X.length)=true)(af:Hs[0]?=some (H++List.replicate c .dead))(Y:Hs.getD (ms.length-1) []=Hk)
  (ab:Qi4 P N l ds xs env H.length (H.length+c) 0 (O.map λq=>q.map λp=>(Hs.getD p.1 [],Hs.getD p.2 [])))(ac:Nat.beq O.length m=true)
  (r:Rel fr ro σ H env N a w)(T:QeH rd fr w)
  (hk:∀ro' σ' a' w',Rel fr ro' σ' Hk (Qaw ds xs env) N a' w'->Qk fr ro w ro' w'->σ'.take h0=σ.take h0->a'.defers=a.defers->wpL P rd l.toArray R (l.drop m) a' w'):(Code.region id l.toArray true).wpIn (WF rd) 0 P R a w:=by
 obtain⟨ok,M⟩:=Qpd hc;have B:=XN aa;have J:=XN ae;have ah:=XN ac;have G:Qk fr ro w ro {w with drawn:=w.drawn+1}:=⟨λ_ q=>q,λ_ _=>rfl,λ_ _=>rfl,XQ _,λ_ _ q=>q,rfl,rfl,rfl,Nat.le_succ _⟩;have u:Ext ro σ w ro (σ++List.replicate c none) {w with drawn:=w.drawn+1}:=G.ext σ _;have V:=r.sim.len;have L:Hs.getD 0 []=H++List.replicate c .dead:=QqS af;have k:∀(i:Nat) (s:Option Nat) (x:Blk),(σ++List.replicate c none)[i]?=some s->(H++List.replicate c Blk.dead)[i]?=some x->(σ[i]?=some s/\H[i]?=some x)\/(s=none/\x=.dead):=by
  intro i s x h n;rcases Vw i σ.length with q|q
  .rw[XJ q]at h;rw[XJ (by omega)]at n;exact .inl ⟨h,n⟩
  .rw[XK q]at h;rw[XK (by omega)]at n;have a1:=VB h;have a2:=VB n;exact .inr ⟨(List.mem_replicate.1 a1).2,(List.mem_replicate.1 a2).2⟩
 have F:Sim fr ro (σ++List.replicate c none) (H++List.replicate c .dead) {w with drawn:=w.drawn+1}:=by
  refine⟨by simp[V],r.sim.roOk.to (λ_ q=>q) (λ_ _=>rfl) r.sim.roLt,r.sim.frLt,r.sim.roFr,?_,?_,?_,
   r.sim.hidTo (· = ·) Q9 (XQ _) (λ_ _ _ _ _ _ _ q=>q) (λ_ _ _ _ _ _ _ q=>q) λj d y g1 g2 g3=>.inl ?_⟩
  rotate_left 3
  .rcases k j _ _ g1 g2 with⟨g,t⟩|⟨g,_⟩
   .exact⟨j,y,rfl,g,t,(λz=>z),λc q=>q⟩
   .cases g
  .intro i b blk h n Q;rcases k i _ _ h n with⟨g,t⟩|⟨g,_⟩
   .exact r.sim.own i b blk g t Q
   .cases g
  .intro i j b x y h n Q h4 h5 h6;rcases k i _ _ h Q with⟨g,t⟩|⟨g,_⟩
   .rcases k j _ _ n h4 with⟨W,q4⟩|⟨W,_⟩
    .exact r.sim.inj i j b x y g W t q4 h5 h6
    .cases W
   .cases g
  .intro i s x h n;rcases k i _ _ h n with⟨g,t⟩|⟨g,t⟩
   .exact BR.keep u (λb hb _=>rfl) (r.sim.blk i s x g t) (λ_ _ _ _=>rfl)
   .subst t;exact trivial
 have f:∀i,¬onL (Array.replicate l.length false) i:=by
  intro i q;unfold onL at q;rw[Array.getElem?_replicate]at q;split at q<;>simp at q
 have E:=XO ag;refine wpIn_region_any hm ?_;rw[List.size_toArray];refine Qkr ok B J E (Nat.le_add_right _ _) (λX hX=>XO (Xs.1 hh X hX)) ?_ Y (ro0:=ro) (σ0:=σ) (w0:=w) (ds0:=a.defers) hk r.defers T
  l.length _ a _ ro (σ++List.replicate c none) 0 (by simp) ?_ (λi _=>f i) M (by rw[L];exact F) r.size rfl (λi d x q=>absurd q (f i)) (λs _=>(r.env s).mono u) G (QK (by omega)) ?_
  (λi _ q=>absurd q (f i)) (λi _ _=>⟨λq=>absurd q (f i),λq=>by rw[ok.ms0]at q;cases q⟩) (λi o q=>absurd q (f i))
 .intro i p hi hp;have e:(O.map λq=>q.map λp=>(Hs.getD p.1 [],Hs.getD p.2 []))[i]?=some ((O.getD i []).map λp=>(Hs.getD p.1 [],Hs.getD p.2 [])):=by
   rw[Xo,XH (by omega),VF,XH (by omega)];rfl
  have:=ab.get i _ e _ (Xf.2 ⟨p,hp,rfl⟩);simpa using this
 .unfold unl;simp[List.countP_replicate]
 .intro p h n Q;rw[XK (by omega),List.getElem?_replicate,Vm (by omega)]
theorem QaV{P:Program}{h0 N:Nat}{id:Nat}{l:List Oper}{env:Env}{H:Qb}{Q:QV}(m c:Nat)(g:List Nat)(x:List Bool)(y f:List (List Nat))(h:List (List (Nat×Nat)))(xs:List A)(Hs:List Qb)(Hk:Qb)
  (J:P.follows .mixedOrders=true)(G:Qe6 l m N g x y f h=true)(s:Nat.beq xs.length m=true)(i:Nat.beq Hs.length f.length=true)(n:Nat.ble h0 H.length=true)
  (F:Hs.all (λX=>Nat.ble (H.length+c) X.length)=true)(j:Hs[0]?=some (H++List.replicate c .dead))(k:Hs.getD (f.length-1) []=Hk)
  (t:Qi4 P N l g xs env H.length (H.length+c) 0 (h.map λq=>q.map λp=>(Hs.getD p.1 [],Hs.getD p.2 [])))(u:Nat.beq h.length m=true)
  (z:WO P h0 N l.toArray (l.drop m) (Qaw g xs env) Hk Q):TC P h0 N (.region id l.toArray true) env H Q:=by
 intro E B L σ a w r hrd;refine Code.wpIn_mono (λe a w q=>Qb0.postW q) (Qim m c g x y f h xs Hs Hk J G s i n F j k t u r hrd λro' σ' a' w' hr hev htk hdf=>?_);have d:=z E B ro' σ' a' w' hr (hrd.to hev λ_ q=>q);rw[hdf]at d;exact Yw (λe a w q=>q.step hev htk) _ _ _ d
def draw0(l:List Oper)(m N:Nat)(ds:List Nat):Bool:=Nat.ble m l.length&&(ds.length==m)&&Qe6.dstB N 0 l ds&&drawChk.nodupB ds&&drawChk.goB l m 0 l
inductive Oq (P:Program) (N:Nat) (l:List Oper) (ds:List Nat) (xs:List A) (env0:Env) (H:Qb):Nat->Nat->Prop
 |n {i:Nat}:Oq P N l ds xs env0 H i 0
 |c {i c:Nat} (h:JX P N l ds xs env0 H.length H.length i H H) (k:Oq P N l ds xs env0 H (i+1) c):Oq P N l ds xs env0 H i (c+1)
theorem Oq.get{P:Program}{N:Nat}{l:List Oper}{a:List Nat}{xs:List A}{env0:Env}{H:Qb}{b c:Nat}(h:Oq P N l a xs env0 H b c):∀i,i<c->JX P N l a xs env0 H.length H.length (b+i) H H:=by
 induction h with
 |n=>omega
 | @c b c h _ ih=>
  intro i d;cases i with
  |zero=>exact h
  |succ i=>
   have:=ih i (by omega);rw[show b+1+i=b+(i+1)by omega]at this;exact this
theorem Qpe{l:List Oper}{m N:Nat}{f:List Nat}(h:draw0 l m N f=true):QpQ l m f [] [] [[]] (List.replicate m [(0,0)]) N:=by
 unfold draw0 at h;simp only[XT]at h;obtain⟨⟨⟨⟨r,u⟩,x⟩,s⟩,w⟩:=h;have hlm:=XO r;have hds:=by simpa using u
 have g:=QjU l 0 w;refine⟨hlm,λi o e d=>?_,hds,QeU s,λi o d=>by have:=(g i o d).1;simpa using this,λo d j t=>Qcy m (Qj o) (λi e=>.one d e) j ((g m o d).2.1 (by omega) j t),
  λi o e d=>by have:=(g i o d).2.2 (by omega);simpa using this,λi o e d h n=>by simp at n,rfl,λq a=>.inl (by simp at a;simp[a]),λq h n=>by cases q<;>simp at n,λi q e a _ _ _=>?_⟩
 .have k:f[i]?=some f[i]:=XH (by omega);rcases QhY l f 0 x i _ o d k with⟨p,y⟩|p
  .exact .inl ⟨_,p,k,y⟩
  .exact .inr p
 .have:=by simp at a;exact a
  subst this;refine⟨0,?_,by simp,by simp⟩;rw[VF,List.getElem?_replicate,Vm e];exact Vv.2 rfl
theorem Qin{P:Program}{h0 N:Nat}{id:Nat}{l:List Oper}{env:Env}{H:Qb}{fr ro:Nat->Prop}{σ:Sig}{a:Act}{w:World}{rd:Option Nat}{R:Exit->Act->World->Prop}(m:Nat)(n:List Nat)(xs:List A)
  (F:P.follows .mixedOrders=true)(B:Go.Sw.draw0 l m N n=true)(t:Nat.beq xs.length m=true)(k:Nat.ble h0 H.length=true)
  (u:Oq P N l n xs env H 0 m)(r:Rel fr ro σ H env N a w)(j:QeH rd fr w)
  (E:∀ro' σ' a' w',Rel fr ro' σ' H (Qaw n xs env) N a' w'->Qk fr ro w ro' w'->σ'.take h0=σ.take h0->a'.defers=a.defers->wpL P rd l.toArray R (l.drop m) a' w'):(Code.region id l.toArray true).wpIn (WF rd) 0 P R a w:=by
 have ok:=Qpe B;have f:=XN t;have h:Qk fr ro w ro {w with drawn:=w.drawn+1}:=⟨λ_ q=>q,λ_ _=>rfl,λ_ _=>rfl,XQ _,λ_ _ q=>q,rfl,rfl,rfl,Nat.le_succ _⟩;have hext:=h.ext0 σ;have g:Sim fr ro σ H {w with drawn:=w.drawn+1}:=r.sim.heap rfl;have e:∀i,¬onL (Array.replicate l.length false) i:=by
  intro i q;unfold onL at q;rw[Array.getElem?_replicate]at q;split at q<;>simp at q
 refine wpIn_region_any F ?_;refine Qkr (Hs:=[H]) ok f rfl (XO k) (XQ _) (λX hX=>by rw[Vv.1 hX];exact XQ _) ?_ rfl E r.defers j
  l.length _ a _ ro σ 0 (by simp) ?_ (λi _=>e i) (by simp) g r.size rfl (λi d x q=>absurd q (e i)) (λs _=>(r.env s).mono hext) h rfl (λp G J=>by omega)
  (λi _ q=>absurd q (e i)) (λi _ _=>⟨λq=>absurd q (e i),λq=>by cases q⟩) (λi o q=>absurd q (e i))
 .intro i p y z;rw[VF,List.getElem?_replicate,Vm y]at z;obtain rfl:=Vv.1 z;have:=u.get i y;rw[Xu]at this;exact this
 .unfold unl;simp[List.countP_replicate]
theorem TC.draw0{P:Program}{h0 N:Nat}{id:Nat}{l:List Oper}{env:Env}{H:Qb}{Q:QV}(m:Nat)(f:List Nat)(xs:List A)
  (p:P.follows .mixedOrders=true)(j:Go.Sw.draw0 l m N f=true)(i:Nat.beq xs.length m=true)(h:Nat.ble h0 H.length=true)
  (g:Oq P N l f xs env H 0 m)(k:WO P h0 N l.toArray (l.drop m) (Qaw f xs env) H Q):TC P h0 N (.region id l.toArray true) env H Q:=by
 intro s n t σ a w r hrd;refine Code.wpIn_mono (λe a w q=>Qb0.postW q) (Qin m f xs p j i h g r hrd λro' σ' a' w' hr hev htk hdf=>?_);have d:=k s n ro' σ' a' w' hr (hrd.to hev λ_ q=>q);rw[hdf]at d;exact Yw (λe a w q=>q.step hev htk) _ _ _ d
section
variable {P:Program} {N:Nat} {l:List Oper} {ds af bf:List Nat} {xs:List A} {env0 e r:Env} {H H':Qb} {i hB hE:Nat} {o:Oper} {d s:Nat} {x a:A}
theorem sN:Sb af bf ds xs env0 []:=.nil
theorem sD(j:Nat)(k:Sb af bf ds xs env0 r)(d:af.contains j=true:=by exact rfl)(h2:ds[j]?=some s:=by exact rfl)(h3:xs[j]?=some a:=by exact rfl):Sb af bf ds xs env0 ((s,a)::r):=.dep j d h2 h3 k
theorem sP(j:Nat)(k:Sb af bf ds xs env0 r)(d:bf.contains j=true:=by exact rfl)(h2:ds[j]?=some s:=by exact rfl)(h3:lk env0 s=a:=by exact rfl):Sb af bf ds xs env0 ((s,a)::r):=.pre j d h2 h3 k
theorem sO(s:Nat)(k:Sb af bf ds xs env0 r)(d:ds.contains s=false:=by exact rfl)(h2:lk env0 s=a:=by exact rfl):Sb af bf ds xs env0 ((s,a)::r):=.old d h2 k
theorem Qe7(H:Qb):QaU hB hE H H=true:=by
 refine Xs.2 λp _=>?_;cases QbI H[hB+p]? <;>rfl
theorem Om(f:l[i]?=some o)(a:Sb (Qj o) (QiW l i) ds xs env0 e)(h:WO P H.length N l.toArray [o] e H (Jm (up e d x) H))(g:o.dst=some d:=by exact rfl)(hx:xs[i]?=some x:=by exact rfl):JX P N l ds xs env0 hB hE i H H:=
 .mk o e d x f g hx (Qe7 H) a h
theorem Om1(f:l[i]?=some o)(a:Sb (Qj o) (QiW l i) ds xs env0 e)(h:WO P H.length N l.toArray [o] e H (Jm (up e d x) H'))(g:o.dst=some d:=by exact rfl)(hx:xs[i]?=some x:=by exact rfl)(hdd:QaU hB hE H H'=true:=by exact rfl):JX P N l ds xs env0 hB hE i H H':=
 .mk o e d x f g hx hdd a h
theorem Om2(d:l[i]?=some o)(a:Sb (Qj o) (QiW l i) ds xs env0 e)(h:WO P H.length N l.toArray [o] e H (Jm e H'))(f:o.dst=none:=by exact rfl)(hx:xs[i]?=some .any:=by exact rfl)(hdd:QaU hB hE H H'=true:=by exact rfl):JX P N l ds xs env0 hB hE i H H':=
 .unit o e d f hx hdd a h
end
structure TyI where
 fld:List (Nat×Nat×Nat)
 agg:List (Nat×Bool×Nat)
 zer:List (Nat×List A×List (Nat×Nat))
structure TyOK (P:Program) (T:TyI):Prop where
 fld:∀e∈T.fld,∃n,QI P e.1 e.2.1 e.2.2 n
 agg:∀e∈T.agg,(∀w,(isAgg e.1).run P w=.ok e.2.1 w)/\ ∀w,(sizeOf e.1).run P w=.ok e.2.2 w
 zer:∀e∈T.zer,(∃z,(∀w,(zeroValue e.1).run P w=.ok z w)/\ZR (.agg e.2.1) z)/\QeI P e.1 e.2.2
def QjY:List (Nat×Nat×Nat)->Nat->Nat->Option Nat
 |[],_,_=>none
 |(a,b,c)::r,t,f=>bif Nat.beq a t&&Nat.beq b f then some c else QjY r t f
def Qb5{β:Type}:List (Nat×β)->Nat->Option β
 |[],_=>none
 |(a,b)::r,t=>bif Nat.beq a t then some b else Qb5 r t
theorem QjX{l:List (Nat×Nat×Nat)}{t f c:Nat}(h:QjY l t f=some c):(t,f,c)∈l:=by
 induction l with
 |nil=>cases h
 |cons x r e=>
  obtain⟨a,b,d⟩:=x;unfold QjY at h;cases q:(Nat.beq a t&&Nat.beq b f)with
  |true=>
   simp_all
  |false=>grind
theorem Qay{β:Type}{l:List (Nat×β)}{t:Nat}{c:β}(h:Qb5 l t=some c):(t,c)∈l:=by
 induction l with
 |nil=>cases h
 |cons x r d=>
  obtain⟨a,b⟩:=x;unfold Qb5 at h;cases q:Nat.beq a t with
  |true=>
   simp_all
  |false=>grind
def QiV(H:Qb):A->Option (List A)
 |.rp cs=>some cs
 |.ptr i off=>match H[i]? with
  |some (.cells _ cs)=>some (cs.drop off)
  |_=>none
 |_=>none
theorem QlN{H:Qb}{p:A}{cs:List A}(h:QiV H p=some cs):Pts H p cs:=by
 unfold QiV at h;split at h
 .cases h;exact Pts.rp
 .split at h
  .rename_i a;cases h;exact Pts.cells a rfl
  .cases h
 .cases h
def Qog(T:TyI)(o:Oper)(env:Env)(H:Qb):Option A:=
 match o.op with
 |.move x=>some (opA env x)
 |.assign x=>some (opA env x)
 |.fieldAddr t x f=>match QjY T.fld t f with
  |none=>none
  |some off=>match opA env x with
   |.ptr i p=>some (.ptr i (p+off))
   |.rp cs=>some (.rp (cs.drop off))
   |_=>none
 |.load t x=>match Qb5 T.agg t with
  |none=>none
  |some (b,n)=>match x with
   |.global g=>match Qlk[g]? with
    |some zs=>bif b&&Nat.beq zs.length n then some (.agg (zs.map (A.int .i64)))else none
    |none=>none
   |x=>match QiV H (opA env x)with
    |none=>none
    |some cs=>bif b then(bif Nat.beq (cs.take n).length n then some (.agg (cs.take n))else none)else cs.head?
 |.build t parts=>match Qb5 T.zer t with
  |none=>none
  |some (zs,pl)=>match Qe0 env pl zs parts.toList with
   |some cs=>some (.agg cs)
   |none=>none
 |.extract x i=>match opA env x with
  |.tup vs=>vs[i]?
  |_=>none
 |.makeFunc f first cap=>some (.fn f (first.toList.map (opA env)) (cap.toList.map (opA env)))
 |_=>none
theorem Qof{P:Program}{T:TyI}(i:TyOK P T){o:Oper}{env:Env}{H:Qb}{x:A}(h:Qog T o env H=some x):OpV P o env H x:=by
 unfold Qog at h;split at h
 .simp_all[OpV.move]
 .simp_all[OpV.assign]
 .rename_i t y f a;split at h
  .cases h
  .rename_i s j;obtain⟨n,B⟩:=i.fld _ (QjX j);split at h
   .grind[YJ]
   .rename_i e F;cases h;exact QD B a F rfl
   .cases h
 .rename_i t y a;split at h
  .cases h
  .rename_i b n u;obtain⟨d,g⟩:=i.agg _ (Qay u);split at h
   .split at h
    .rename_i k m;cases q:(b&&Nat.beq k.length n)with
     |false=>grind
     |true=>
      rw[q]at h;cases h;simp[XT]at q;obtain⟨rfl,G⟩:=q;exact Qh5 d g m (by simp_all) a
    .cases h
   .split at h
    .cases h
    .rename_i e w;have l:=QlN w;cases b with
     |true=>
      cases q:Nat.beq (e.take n).length n with
      |false=>grind
      |true=>
       rw[q]at h;cases h;exact Qn a d g rfl l rfl (by simp_all)
     |false=>
      cases e with
      |nil=>cases h
      |cons v e=>cases h;exact OpV.load a d rfl l
 .rename_i t parts a;split at h
  .cases h
  .rename_i k J p;obtain⟨⟨z,d,g⟩,r⟩:=i.zer _ (Qay p);split at h
   .rename_i e j;cases h;exact OpV.build d g r (by rw[a]) j
   .cases h
 .grind[OpV.extract]
 .rename_i f first E a
  cases h;exact OpV.makeFunc (by rw[a]) rfl rfl
 .cases h
def Qkq(af:List Nat):Nat->List Nat->List A->Env->Env
 |j,d::ds,x::xs,e=>(d,bif af.contains j then x else .any)::Qkq af (j+1) ds xs e
 |_,_,_,e=>e
theorem Qqx{af:List Nat}{env0:Env}(s:Nat):∀(a:List Nat) (xs:List A) (b:Nat),a.length=xs.length->
  (∃(j:Nat) (x:A),a[j]?=some s/\xs[j]?=some x/\lk (Qkq af b a xs env0) s=bif af.contains (b+j)then x else .any)\/(a.contains s=false/\lk (Qkq af b a xs env0) s=lk env0 s):=by
 intro a
 induction a with
 |nil=>simp_all[Qkq]
 |cons d a i=>
  intro xs b g;cases xs with
  |nil=>cases g
  |cons x xs=>
   cases q:Nat.beq s d with
   |true=>
    have e:=XN q;subst e;left;refine⟨0,x,rfl,rfl,?_⟩
    simp_all[Qkq,lk]
   |false=>
    have h:s≠d:=λz=>by simp_all
    simp only[Qkq,lk,q];rcases i xs (b+1) (by grind)with⟨j,y,f,k,l⟩|⟨f,k⟩
    .left;refine⟨j+1,y,by grind,by grind,?_⟩
     grind
    grind
def Qmf(T:TyI)(N:Nat)(l:List Oper)(ds:List Nat)(xs:List A)(env0:Env)(H:Qb)(i:Nat):Option A:=
 match l[i]? with
 |none=>none
 |some o=>match o.guard,o.dst with
  |none,some d=>bif Nat.blt d N&&Nat.beq ds.length xs.length then Qog T o (Qkq (Qj o) 0 ds xs env0) H else none
  |_,_=>none
theorem Qqw{af a:List Nat}{xs:List A}{env0:Env}(hl:a.length=xs.length):QpN af a xs env0 (Qkq af 0 a xs env0):=by
 intro s;rcases Qqx (af:=af) (env0:=env0) s a xs 0 hl with⟨j,x,d,e,f⟩|h
 .grind
 grind
theorem vQ{P:Program}{T:TyI}(m:TyOK P T){N:Nat}{l:List Oper}{a:List Nat}{xs:List A}{env0:Env}{e hE i:Nat}{H:Qb}{x:A}(j:xs[i]?=some x)(h:Qmf T N l a xs env0 H i=some x):JX P N l a xs env0 e hE i H H:=by
 unfold Qmf at h;split at h
 .cases h
 .rename_i o f;split at h
  .rename_i d g k;cases q:(Nat.blt d N&&Nat.beq a.length xs.length)with
   |false=>grind
   |true=>
    rw[q]at h;simp only[XT]at q;exact .val o _ d x f k g j q.1 (Qqw (by simp_all)) (Qof m h)
  .cases h
abbrev I(n:Int):A:=.int .i64 n
theorem zc{a:A}{v:Value}{al:List A}{vl:List Value}(h:ZR a v)(k:ZL al vl):ZL (a::al) (v::vl):=ZL.cons h k
def zr1:A->Value->Bool
 |.int k n,.int k' n'=>decide (k=k')&&decide (n=n')
 |.bool b,.bool b'=>b==b'
 |.str s,.string s'=>s.isEmpty&&s'.data.toList.isEmpty
 |.rsl _ es,.slice none 0 0=>es.isEmpty
 |.nils,.slice none 0 0=>true
 |.nilp,.pointer none=>true
 |.nilf,.nilFunc=>true
 |.nilm,.map none=>true
 |.nilif,.nilIface=>true
 |_,_=>false
def zrL:List A->List Value->Bool
 |[],[]=>true
 |a::r,v::s=>zr1 a v&&zrL r s
 |_,_=>false
def zrB:A->Value->Bool
 |.agg r,.agg s=>zrL r s.toList
 |a,v=>zr1 a v
theorem Qn4{a:A}{v:Value}(h:zr1 a v=true):ZR a v:=by
 unfold zr1 at h;split at h
 .simp_all[ZR.int]
 .simp_all[ZR.bool]
 .rename_i s f;simp[XT]at h;obtain⟨d⟩:=f
  simp_all[ZR.str]
 .rename_i k g;have h:=List.isEmpty_iff.1 h;subst h;exact ZR.rsl (e:=λx=>[x])
 .exact ZR.nils
 .exact ZR.nilp
 .exact ZR.nilf
 .exact ZR.nilm
 .exact QqC
 .cases h
theorem Qn3:∀{r:List A} {s:List Value},zrL r s=true->ZL r s
 |[],[],_=>ZL.nil
 |a::r,v::s,h=>by
  simp[zrL,XT]at h;exact ZL.cons (Qn4 h.1) (Qn3 h.2)
 |[],_::_,h=>by cases h
 |_::_,[],h=>by cases h
theorem zrC{a:A}{v:Value}(h:zrB a v=true):ZR a v:=by
 unfold zrB at h;split at h
 .have:=ZR.agg (Qn3 h);omega
 .exact Qn4 h
end Go.Sw
