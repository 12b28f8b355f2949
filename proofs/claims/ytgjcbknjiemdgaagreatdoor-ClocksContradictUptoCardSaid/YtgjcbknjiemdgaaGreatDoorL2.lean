/- The rules by which the code is walked, with what they rest on (part 2). -/
import Derived.Test.YtgjcbknjiemdgaaGreatDoorL1
import Derived.Below
import GoSem.ClaimChange
import Derived.Shelf.Strings.Search3
import Derived.Lib.LazyBuf
import Derived.Shelf.Sort.Plain
import Derived.Shelf.Slices.In.SortNone
import Derived.Shelf.Slices.CompactI
import Derived.RangeFuncIn
import Derived.RangeFuncSeq
import Derived.RangeFuncNested
import Derived.Lib.Bytealg
import Derived.Laws.Externs
import Derived.LaidLaws
import Derived.Lib.LaidTab
import Derived.ChangeArms
import Derived.ChangeSame
import Derived.Laws.BytesString
set_option linter.unusedVariables false
set_option linter.unusedSectionVars false
set_option linter.unusedSimpArgs false
namespace Go.Sw
open Go.Sort Go.Proofs Go.Shelf
theorem QdL{α:Type}{k:Nat}:∀(vs:List (List α)) (j:Nat),(∀v∈vs,v.length=k)->j<vs.length*k->vs.flatten[j]?=(vs[j/k]?).bind λv=>v[j%k]?
 |[],j,_,h=>by simp at h
 |v::vs,j,hk,h=>by
  have hv:=hk v (by simp);have k0:0<k:=by
   rcases Nat.eq_zero_or_pos k with q|q
   .subst q;simp at h
   .exact q
  rw[Vk];by_cases q:j<k
  .rw[XM (by omega),Nat.div_eq_of_lt q,Nat.mod_eq_of_lt q];simp
  .rw[XN (by omega),hv,QdL vs (j-k) (λv hv=>hk v (by simp[hv])) (by simp[Xl]at h;omega)];have b:j/k=(j-k)/k+1:=by rw[Nat.div_eq_sub_div k0 (by omega)]
   have a:j%k=(j-k)%k:=Nat.mod_eq_sub_mod (by omega);rw[b,a,XF]
theorem Qam{α:Type}{k:Nat}:∀(vs:List (List α)),(∀v∈vs,v.length=k)->vs.flatten.length=vs.length*k
 |[],_=>by simp
 |v::vs,h=>by rw[Vk,X2,Qam vs (λv hv=>h v (by simp[hv])),h v (by simp),XZ,Xl];omega
theorem Qc4{α:Type}(F:List α)(j:Nat):F.toArray[j]?=F[j]? :=by simp
theorem Qhv{α:Type}[Inhabited α](F:List α)(j:Nat)(h:j<F.length):F[j]?=some (F.toArray[j]!):=by simp[h]
theorem QhB{β:Type}[Inhabited β]{enc:β->List Value}{k:Nat}(f:∀x,(enc x).length=k)(d:Array β):flatK enc k d=((d.toList.map enc).flatten).toArray:=by
 have a:∀v∈d.toList.map enc,v.length=k:=by
  intro v i;obtain⟨x,_,rfl⟩:=Xe.1 i;exact f x
 apply Array.ext_getElem?;intro t;rw[Qc4 ((d.toList.map enc).flatten) t];by_cases h:t<d.size*k
 .rw[QdL _ t a (by simpa using h)];have j:0<k:=by
   rcases Nat.eq_zero_or_pos k with q|q
   .subst q;simp at h
   .exact q
  have l:t/k<d.size:=Nat.div_lt_of_lt_mul (by rw[Nat.mul_comm];exact h);have g:t%k<k:=Nat.mod_lt _ j;have b:t<(flatK enc k d).size:=by simpa using h
  have e:=get_flatK enc k d t h;rw[getElem!_pos (flatK enc k d) t b]at e;rw[Array.getElem?_eq_getElem b,e];simp[l];rw[XK (by rw[f];exact g)];rfl
 .have e:(d.toList.map enc).flatten.length=d.size*k:=by rw[Qam _ a];simp
  rw[Array.getElem?_eq_none (by simpa using h),XO (by rw[e];omega)]
section
variable {ro:Nat->Prop} {σ:Sig} {w:World} {T:Type} {enc:T->List A} {k:Nat}
theorem RL.parts:∀{l:List T} {lv:List Value},RL ro σ w k (l.map enc) lv->
  ∃(ps:List (T×List Value)) (rest:List Value),ps.map (·.1)=l/\lv=(ps.map (·.2)).flatten++rest/\ ∀p∈ps,p.2.length=k/\LR ro σ w (enc p.1) p.2/\ ∀v∈p.2,Qo v
 |[],lv,_=>⟨[],lv,rfl,rfl,by simp⟩
 |x::l,lv,h=>by
  obtain⟨l1,l2,rfl,h1,⟨h2,h3⟩,h4⟩:=h;obtain⟨ps,rest,e1,rfl,h5⟩:=RL.parts (l:=l) h4;refine⟨(x,l1)::ps,rest,by simp[e1],by simp,?_⟩;intro p hp;rcases X5.1 hp with rfl|hp
  .exact⟨by rw[h2.length];exact h1,h2,h3⟩
  .exact h5 p hp
theorem QdU(hk:∀x:T,(enc x).length=k):∀{ps:List (T×List Value)} {rest:List Value},(∀p∈ps,LR ro σ w (enc p.1) p.2/\ ∀v∈p.2,Qo v)->RL ro σ w k ((ps.map (·.1)).map enc) ((ps.map (·.2)).flatten++rest)
 |[],_,_=>trivial
 |p::ps,rest,h=>by
  refine⟨p.2,(ps.map (·.2)).flatten++rest,by simp,hk _,h p (by simp),QdU hk λq hq=>h q (by simp[hq])⟩
end
structure Elt (ro:Nat->Prop) (w:World) {T:Type} (enc:T->List A) (k:Nat) (l:List T) where
 x:T
 vs:List Value
 mem:x∈l
 len:vs.length=k
 rel:LR ro [] w (enc x) vs
 plain:∀v∈vs,Qo v
theorem Qj7{v:Value}(h:Qo v):v.oneCell'=true:=by cases v<;>first|rfl|exact h.elim
theorem QjX{P:Program}{ρ:Ren}(L:SlLaysF0.n6 P ρ){T:Type}[DecidableEq T]{enc:T->List A}{k t g:Nat}{cap:List A}{l l':List T}{cf:T->T->Option Int}(hs:QbD cf l=some l')
  (a7:∀x y c,cf x y=some c->C P g ([.agg (enc x),.agg (enc y)]++cap) [] (λa H=>a=.int .i64 c/\H=[]))
  (aE:∀w,(isAgg (ρ.t 24)).run P w=.ok true w)(zE:∀w,(Go.sizeOf (ρ.t 24)).run P w=.ok k w)(eg:∀args w,(callFunc g args).run P w=.ok (.enter g args) w)
  (hk:∀x,(enc x).length=k)(hd:Yz cap=true):
  C P (ρ.f 6) [.osl 0 0 l.length k,.fn (.func g) [] cap] [.row t k (l.map enc)] (λa H=>a=.tup []/\H=[.row t k (l'.map enc)]):=by
 intro fr G σ vals w s hv;obtain⟨vs,r1,rfl,bn,vf,r2,rfl,bo,hr⟩:=hv;cases(show r2=[]from hr);obtain⟨lf,lc,rfl,h1,a4⟩:=bo;cases(show lf=[]from h1);have au:LR G [] w cap lc:=LR.data hd a4;obtain⟨az,ai,O,ax,a2⟩:=Qeq hs;have E:∀(ad:Option Addr) (c:Nat),vs=.slice ad 0 c->l=[]->
   Calls P (ρ.f 6) [vs,.func (.func g) #[] lc.toArray].toArray w λe w'=>∃v r H' ac τ,e=.returned v/\(r=.tup []/\H'=[.row t k (l'.map enc)])/\Sim fr ac (σ++τ) H' w'/\VR ac (σ++τ) w' r v/\Qi fr G w ac w':=by
  rintro ad c rfl rfl;have ah:l'=[]:=by rw[<- a2];rfl
  subst ah;refine(AnyF.slices_SortFunc_none L ad c (.func (.func g) #[] lc.toArray) w).mono ?_;rintro e w' ⟨rfl,rfl⟩;exact⟨_,_,_,G,[],rfl,⟨rfl,rfl⟩,by simpa using s,⟨[],rfl,rfl⟩,Qi.refl _ _ _⟩
 rcases bn with⟨h0,rfl⟩|⟨b,p,cp,t',m,q1,rfl,q2,⟨q3,bt⟩,q4,q5⟩
 .exact E none 0 rfl (VI.1 h0)
 .by_cases ah:l=[]
  .subst ah;exact E _ cp rfl rfl
  .have bh:0<l.length:=List.length_pos_iff.2 ah;obtain rfl:=q2 (Ve bh q3);obtain⟨lv,e1,e2⟩:=s.blk 0 _ _ q1 rfl;obtain⟨hb,am,bc⟩:=s.own 0 b _ q1 rfl rfl;obtain⟨V,J,a0,rfl,af⟩:=RL.parts e2
   let α:=Elt G w enc k l
   have a9:∀p∈V,p.1∈l:=λp hp=>by rw[<- a0];exact VF hp
   let ds:List α:=V.attach.map λp=>⟨p.1.1,p.1.2,a9 _ p.2,(af _ p.2).1,(af _ p.2).2.1,(af _ p.2).2.2⟩
   have a3:∀{γ:Type} (f:T×List Value->γ),V.attach.map (λp=>f p.1)=V.map f:=λf=>by simp
   have R:ds.map (·.x)=l:=by
    show(V.attach.map _).map _=_;rw[List.map_map];exact(a3 (·.1)).trans a0
   have al:ds.map (·.vs)=V.map (·.2):=by
    show(V.attach.map _).map _=_;rw[List.map_map];exact a3 (·.2)
   have aw:ds.length=l.length:=by rw[<- R];simp
   have ba:ds≠[]:=by intro q;rw[q]at aw;simp at aw;omega
   let inh:Inhabited α:=⟨ds.head ba⟩
   let enc':α->List Value:=λa=>a.vs
   let cf':α->α->Int:=λx y=>(cf x.x y.x).getD 0
   have ag:∀x y:α,ltOf cf' x y=ltO cf x.x y.x:=by
    intro x y;obtain⟨c,B⟩:=ai x.x x.mem y.x y.mem;simp only[ltOf,ltO,cf',B,Option.getD_some]
   have hO:SWO (ltOf cf'):=⟨λx=>by rw[ag];exact O.irrefl _ x.mem,λx y z a b=>by rw[ag]at*;exact O.trans _ x.mem _ y.mem _ z.mem a b,
    λx y z a b=>by rw[ag]at*;exact O.ntrans _ x.mem _ y.mem _ z.mem a b⟩
   have ab:∀x:α,(enc' x).length=k:=λx=>x.len;have ar:flatK enc' k ds.toArray=((V.map (·.2)).flatten).toArray:=by
    rw[QhB ab];show((ds.map λa=>a.vs).flatten).toArray=_;rw[al]
   have bl:∀v∈V.map (·.2),v.length=k:=by
    intro v hv;obtain⟨p,hp,rfl⟩:=Xe.1 hv;exact(af p hp).1
   have aa:(V.map (·.2)).flatten.length=ds.length*k:=by rw[Qam _ bl, <- al];simp
   have hH:HoldsK enc' k w b (0*k) ds.toArray:=by
    intro j hj;rw[ar]at hj⊢;simp only[List.size_toArray]at hj;constructor
    .unfold World.cell?;simp only[e1,Option.isSome_none,Xi,if_false,Nat.zero_mul,Xv];rw[Qc4,XM hj];exact Qhv _ _ hj
    .unfold World.frozen?;simp only[e1];simp
   have aq:∀(d:Array α),d.size=ds.toArray.size->(putRowK enc' k w b (0*k) d).heap=w.heap.setIfInBounds b (.cells (((d.toList.map enc').flatten++J)).toArray t (0,0)):=by
    intro d u;have ae:(d.toList.map enc').flatten.length=(V.map (·.2)).flatten.length:=by
     rw[Qam _ (k:=k) (by intro v hv;obtain⟨x,_,rfl⟩:=Xe.1 hv;exact ab x),aa];simp at u⊢;rw[u]
    unfold putRowK putRow mapBlock;show w.heap.modify b _=_;rw[Qdg e1];simp only[onCells];congr 2;rw[QhB ab];unfold putCells;apply Array.ext_getElem?;intro i;simp only[Array.getElem?_mapIdx,Qc4,Nat.zero_mul,XU,true_and,Xv,Nat.sub_zero,List.size_toArray,id_eq];by_cases hi:i<(d.toList.map enc').flatten.length
    .rw[XM hi,XM (by rw[<- ae];exact hi),XK (by rw[<- ae];exact hi),Qhv _ _ hi];exact congrArg some (Vs hi)
    .rw[XN (by omega),XN (by omega),ae];cases(J[i-(V.map (·.2)).flatten.length]?)with
     |none=>rfl
     |some v=>
      rw[<- ae];exact congrArg some (Vr hi)
   have N:∀(m:Nat) (os:Array Obj) (d:Array α),d.size=ds.toArray.size->
     (∀c,c<w.heap.size->c≠b->(sortWorldK enc' k w b (0*k) m d os).heap[c]?=w.heap[c]?)/\(sortWorldK enc' k w b (0*k) m d os).heap[b]?=some (.cells (((d.toList.map enc').flatten++J)).toArray t (0,0))/\
     w.heap.size<=(sortWorldK enc' k w b (0*k) m d os).heap.size:=by
    intro m os d u;have e:(sortWorldK enc' k w b (0*k) m d os).heap=w.heap.setIfInBounds b (.cells (((d.toList.map enc').flatten++J)).toArray t (0,0))++os:=by
     rw[<- aq d u];rfl
    rw[e];refine⟨λc B bg=>?_,?_,by simp⟩
    .rw[Array.getElem?_append_left (by simpa using B),Vd,Vr (λq=>bg q.symm)]
    .rw[Array.getElem?_append_left (by simpa using hb),Vd,Vs rfl,Vs hb]
   have Q:∀(m:Nat) (os:Array Obj) (d:Array α),d.size=ds.toArray.size->∀c y,w.shape? c=some y->(sortWorldK enc' k w b (0*k) m d os).shape? c=some y:=by
    intro m os d u c y hy;obtain⟨g1,g2,g3⟩:=N m os d u;by_cases B:c=b
    .subst B;unfold World.shape? at hy⊢;rw[e1]at hy;rw[g2];simp only[Option.some.injEq]at hy⊢;rw[<- hy];congr 1;simp only[List.size_toArray,X2];rw[Qam _ (k:=k) (by intro v hv;obtain⟨x,_,rfl⟩:=Xe.1 hv;exact ab x),aa];simp at u⊢;rw[u]
    .unfold World.shape? at hy⊢;rw[g1 c (Qlc hy) B];exact hy
   have aj:∀(m:Nat) (os:Array Obj) (d:Array α),d.size=ds.toArray.size->∀τ,Ext G τ w G τ (sortWorldK enc' k w b (0*k) m d os):=by
    intro m os d u τ;obtain⟨g1,g2,g3⟩:=N m os d u;exact⟨λ_ q=>q,λc B=>g1 c (s.roLt c B) (λq=>am (q▸B)),Q m os d u,λ_ _ q=>q⟩
   have bs:CmpLays P g lc.toArray enc' k cf' b (0*k) ds.toArray.size w:=by
    intro m os dk a8 x y;obtain⟨c,B⟩:=ai x.x x.mem y.x y.mem;have F:=aj m os dk a8 [];have bq:=a7 _ _ _ B;generalize hW:sortWorldK enc' k w b (0*k) m dk os=W at*;have bd:w.heap.size<=W.heap.size:=by rw[<- hW];exact(N m os dk a8).2.2
    have sW:Sim (λc=>c<W.heap.size/\ ¬G c) G [] [] W:=
     ⟨rfl,s.roOk.to (λ_ q=>q) F.keep (λc B=>Ve (s.roLt c B) bd),λc B=>B.1,λc B hf=>hf.2 B,λi b x h=>by simp at h,λi j b x y h=>by simp at h,λi y x h=>by simp at h,λi b x c h=>by simp at h⟩
    have av:LR G [] W ([.agg (enc x.x),.agg (enc y.x)]++cap) ([.agg x.vs.toArray,.agg y.vs.toArray]++lc):=
     LR.append (show LR G [] W [A.agg (enc x.x),A.agg (enc y.x)] [Value.agg x.vs.toArray,Value.agg y.vs.toArray]from⟨_,_,rfl,⟨x.vs,rfl,x.rel.mono F⟩,_,_,rfl,⟨y.vs,rfl,y.rel.mono F⟩,rfl⟩) (au.mono F)
    have M:=bq _ G [] _ W sW av;have bj:(([Value.agg x.vs.toArray,Value.agg y.vs.toArray]++lc).toArray:Array Value)= #[Value.agg (enc' x).toArray,Value.agg (enc' y).toArray]++lc.toArray:=by simp[enc']
    rw[bj]at M;refine M.mono ?_;rintro e w' ⟨v,r,H',ac,τ,rfl,⟨rfl,rfl⟩,s',bk,ev⟩;refine⟨?_,?_⟩
    .rw[show v=.int .i64 c from bk];simp only[cf',B,Option.getD_some]
    .refine Qno (λc B=>?_) ev.size ev.os ev.tape ev.output ev.drawn;by_cases a1:G c
     .exact ev.keepRo c a1
     .exact ev.keepFr c ⟨B,a1⟩
   have Y:ds.toArray.size=l.length:=by simpa using aw
   have ak:=AnyQ.slices_SortFunc L k aE zE enc' ab (λx v hv=>Qj7 (x.plain v hv)) cf' hO g lc.toArray b (0*k) cp ds.toArray w eg bs hH hb (by rw[Y];unfold Q9 at az;omega);rw[Y]at ak;refine ak.mono ?_;rintro e w' ⟨rfl,d,n,os,X,an,rfl⟩;have u:d.size=ds.toArray.size:=X.1;obtain⟨g1,g2,g3⟩:=N n os d u;have ao:d.toList.Perm ds:=by
    have h:=X.2.2;have x1:d.extract 0 l.length=d:=by rw[<- Y, <- u];exact Array.extract_size
    have x2:ds.toArray.extract 0 l.length=ds.toArray:=by rw[<- Y];exact Array.extract_size
    rw[x1,x2]at h;simpa using h
   have bb:d.toList.map (·.x)=l':=by
    rw[<- a2];refine Qbg (lt:=ltO cf) ?_ ?_ ?_ (YH O)
    .exact((ao.map (·.x)).trans (by rw[R])).trans (QM _ _).symm
    .intro x hx y hy;have bm:x∈l:=by rw[<- R];exact(ao.map (·.x)).mem_iff.1 hx
     have bi:y∈l:=by rw[<- R];exact(ao.map (·.x)).mem_iff.1 hy
     exact ax x bm y bi
    .rw[VD];intro i j hi hj br;simp only[X0]at hi hj;simp only[List.getElem_map];rw[<- ag];have:=an i j (XU _) br (by rw[<- Y, <- u];simpa using hj);rw[getElem!_pos d j (by simpa using hj),getElem!_pos d i (by simpa using hi)]at this;simpa using this
   have be:RL G [] (sortWorldK enc' k w b (0*k) n d os) k (l'.map enc) ((d.toList.map enc').flatten++J):=by
    have e3:d.toList.map enc'=(d.toList.map λa=>(a.x,a.vs)).map (·.2):=by simp[enc']
    have e4:l'=(d.toList.map λa=>(a.x,a.vs)).map (·.1):=by rw[<- bb];simp
    rw[e3,e4];refine QdU hk ?_;intro p hp;obtain⟨a,_,rfl⟩:=Xe.1 hp;exact⟨a.rel.mono (aj n os d u []),a.plain⟩
   have a6:Qi fr G w G (sortWorldK enc' k w b (0*k) n d os):=
    ⟨λ_ q=>q,λc B=>g1 c (s.roLt c B) (λq=>am (q▸B)),λc B=>g1 c (s.frLt c B) (λq=>bc (q▸B)),g3,Q n os d u,rfl,rfl,rfl,Nat.le_add_right _ _⟩
   have ay:σ.length=1:=s.len;have a5:Sim fr G σ [.row t k (l'.map enc)] (sortWorldK enc' k w b (0*k) n d os):=by
    have i0:∀{i:Nat} {x:Blk},([.row t k (l'.map enc)]:Qd)[i]?=some x->i=0/\x=.row t k (l'.map enc):=by
     intro i x h;cases i with
     |zero=>simp at h;exact⟨rfl,h.symm⟩
     |succ i=>simp at h
    refine⟨ay,s.roOk.to (λ_ q=>q) a6.keepRo (λc B=>Ve (s.roLt c B) g3),λc B=>Ve (s.frLt c B) g3,s.roFr,λi c x h1 h2 h3=>?_,λi j c x y h1 h2 h3 h4 _ _=>?_,λi y x h1 h2=>?_,λi b x c h1 h2 h3=>by obtain⟨rfl,rfl⟩:=i0 h2;exact h3.elim⟩
    .obtain⟨rfl,rfl⟩:=i0 h2;obtain⟨p1,p2⟩:=s.own 0 c _ h1 rfl rfl;exact⟨Ve p1 g3,p2⟩
    .rw[(i0 h3).1,(i0 h4).1]
    .obtain⟨rfl,rfl⟩:=i0 h2;rw[q1]at h1;cases h1;exact⟨_,g2,be⟩
   exact⟨_,_,_,G,[],rfl,⟨rfl,rfl⟩,by simpa using a5,⟨[],rfl,rfl⟩,a6⟩
end Go.Sw
namespace Go.Sw
section
variable {P:Program} {o:Oper} {env:Env} {H:Qd} {fr ro:Nat->Prop} {σ:Sig} {w:World}
theorem Sim.addRo(s:Sim fr ro σ H w){b:Nat}(g:b<w.heap.size)(f:¬fr b)(m:∀(i:Nat) (x:Blk),σ[i]?=some (some b)->H[i]?=some x->x.live=true->False)
  (j:∀(i d:Nat) (x:Blk),σ[i]?=some (some d)->H[i]?=some x->Hid w x d b->False):Sim fr (λc=>ro c\/c=b) σ H w:=by
 refine⟨s.len,s.roOk.to (λ_ q=>.inl q) (λ_ _=>rfl) ?_,s.frLt,?_,?_,s.inj,?_,s.hidTo (· = ·) Q3 (XT _) (by grind) (by simp) (by grind)⟩
 .rintro c (q|rfl)
  .exact s.roLt c q
  .exact g
 .rintro c (q|rfl)
  .exact s.roFr c q
  .exact f
 .intro i c x e a h;obtain⟨n,k,l⟩:=s.own i c x e a h
  grind
 .intro i y x e a;exact(s.blk i y x e a).keep ⟨λ_ q=>.inl q,λ_ _=>rfl,λ_ _ q=>q,λ_ _ q=>q⟩ (λ_ _ _=>rfl) (λ_ _ _ _=>rfl)
theorem YW{T e k n:Nat}{xs:List Operand}{es:List (List A)}(E:Q7 P T e k)(ho:o.op=.buildSlice T n (Qay 0 xs).toArray)(L:xs.length=n)(G:Nat.ble (n*k) 16777216=true)
  (V:(xs.all λx=>Yi (opA env x))=true)(u:Q8 env xs=es)(M:allK k es)(W:es.flatten.all Yo=true)(Y:Yz es.flatten=true):
  OpH P o env H (.rsl k es) H:=by
 intro O g σ N a w r;subst u;obtain⟨l,R,J⟩:=QaH r E L G V M;have F:LR g [] w (Q8 env xs).flatten l:=J.data Y;have f:∀b,b<w.heap.size->(w.alloc (.cells l.toArray e)).heap[b]?=w.heap[b]? :=λb X=>Yr _ _ b X;have p:w.heap.size<=(w.alloc (.cells l.toArray e)).heap.size:=by simp
 have Q:=r.sim.grown f p;have j:Qi O g w g (w.alloc (.cells l.toArray e)):=Qi.alloc _ r.sim.roLt r.sim.frLt;have s2:=Q.addRo (b:=w.heap.size) (by simp) (λq=>Nat.lt_irrefl _ (r.sim.frLt _ q)) (λi x t h y=>Nat.lt_irrefl _ (r.sim.own i _ x t h y).1)
  (λi d x t h y=>Nat.lt_irrefl _ (r.sim.hid i d x _ t h (r.sim.hidKeep t h (λz=>f d (r.sim.own i d x t h z).1) (λb q=>f b (r.sim.roLt b q)) y)).lt)
 have B:RL g [] (w.alloc (.cells l.toArray e)) k (Q8 env xs) l:=by
  have:=YJ (rest:=[]) M (F.mono (j.ext0 [])) (J.plain W)
  grind
 have s:(Q8 env xs).length=n:=by simp[Q8,L]
 refine⟨_,_,λc=>g c\/c=w.heap.size,[],Qao ho a.eval R,?_,by grind,j.trans (YB λ_ q=>.inl q)⟩;refine⟨some ⟨w.heap.size,0,none⟩,n,by rw[s],by omega,.inr ⟨w.heap.size,0,rfl,.inr rfl,?_⟩⟩;have m:(w.alloc (.cells l.toArray e)).heap[w.heap.size]?=some (.cells (([]:List Value)++l).toArray e (0,0)):=Q0 _ _;have:=Yt (pre:=[]) m B;exact this.keep ⟨λ_ q=>.inl q,λ_ _=>rfl,λ_ _ q=>q,λ_ _ q=>q⟩ rfl
end
inductive Qi2:List A->List A->Prop
 |nil:Qi2 [] []
 |eq {a:A} {l m:List A} (h:Qi2 l m):Qi2 (a::l) (a::m)
 |nl {k:Nat} {l m:List A} (h:Qi2 l m):Qi2 (.nils::l) (.rsl k []::m)
theorem LR.nils{ro:Nat->Prop}{σ:Sig}{w:World}{f g:List A}(h:Qi2 f g):∀{l:List Value},LR ro σ w f l->LR ro σ w g l:=by
 induction h with
 |nil=>simp
 |eq _ ih=>rintro l ⟨v,d,e,b,a⟩;exact⟨v,d,e,b,ih a⟩
 |nl _ ih=>rintro l ⟨v,d,e,b,a⟩;exact⟨v,d,e,⟨none,0,b,XT _,.inl rfl⟩,ih a⟩
theorem C.nils{P:Program}{f:FuncId}{l1 bs:List A}{H:Qd}{Q:A->Qd->Prop}(hl:Qi2 l1 bs)(h:C P f bs H Q):C P f l1 H Q:=
 λfr ro σ vals w s l=>h fr ro σ vals w s (LR.nils hl l)
def Ql(k:IntKind)(n:Int):Prop:=k.min<=n/\n<=k.max
def QdR(w:World):Nat->Prop:=λb=>b<w.heap.size
structure QmO {H:Type} (μ:DataW H->Nat):Prop where
 str:∀bytes,bytes.length<=μ (.lit (.string bytes))
 sl:∀e s,e.length<=μ (.slice e s)
 sle:∀e s,∀d∈e,μ d<=μ (.slice e s)
 ag:∀ps,∀d∈ps,μ d<=μ (.agg ps)
def RB(P:Program)(n:Nat)(t:TypeId)(T:Type)(e:T->List A)(wf:T->Prop):Prop:=
 ∀(H:Type) (enc:TypeId×Value->H) (w:World) (base:Nat) (spare:Nat->Bool) (held:Bool) (m:Nat) (cs:List Value) d,m<n->DataW.trod enc P w base spare held m t cs=some d->
  ∀μ:DataW H->Nat,QmO μ->μ d.1<=1048576->∃x:T,wf x/\LR (QdR w) [] w (e x) cs/\ ∀v∈cs,Qo v
section
variable {P:Program} {n:Nat} {t:TypeId} {T:Type} {e:T->List A} {wf:T->Prop}
theorem RB.down(h:RB P (n+1) t T e wf):RB P n t T e wf:=λH enc w base spare held m cs d hm=>h H enc w base spare held m cs d (Nat.lt_succ_of_lt hm)
theorem Qeg(h:∀n,RB P n t T e wf->RB P (n+1) t T e wf):∀n,RB P n t T e wf
 |0=>λH enc w base spare held m cs d hm=>(by omega)
 |n+1=>h n (Qeg h n)
theorem QR{T':Type}{b:T'->List A}{a:T'->Prop}(h:RB P n t T e wf)(g:T->T')(he:∀x,b (g x)=e x)(k:∀x,wf x->a (g x)):RB P n t T' b a:=by
 intro H enc w base spare held m cs d hm hd μ hμ hwt;obtain⟨x,j,f,i⟩:=h H enc w base spare held m cs d hm hd μ hμ hwt
 grind
theorem RB.int{k:IntKind}(a:P.underlying t=some (.int k)):RB P n t Int (Qe k) (Ql k):=by
 intro H enc w base spare held m cs d hm hd μ hμ hwt;cases m with
 |zero=>simp[DataW.trod]at hd
 |succ m=>
  rcases cs with _|⟨v,_|⟨f,r⟩⟩
  .simp[DataW.trod,a]at hd
  .cases v<;>simp[DataW.trod,a]at hd;rename_i g b;obtain⟨⟨rfl,e⟩,_⟩:=hd;refine⟨b,?_,⟨_,_,rfl,rfl,rfl⟩,by simp[Qo]⟩;simpa[Lit.wf,Ql]using e
  .simp[DataW.trod,a]at hd
theorem RB.bool(a:P.underlying t=some .bool):RB P n t Bool Qa1 (λ_=>True):=by
 intro H enc w base spare held m cs d hm hd μ hμ hwt;cases m with
 |zero=>simp[DataW.trod]at hd
 |succ m=>
  rcases cs with _|⟨v,_|⟨e,r⟩⟩
  .simp[DataW.trod,a]at hd
  .cases v<;>simp[DataW.trod,a]at hd;rename_i b;exact⟨b,trivial,⟨_,_,rfl,rfl,rfl⟩,by simp[Qo]⟩
  .simp[DataW.trod,a]at hd
theorem RB.string(a:P.underlying t=some .string):RB P n t (List UInt8) encS (λs=>s.length<=1048576):=by
 intro H enc w base spare held m cs d hm hd μ hμ hwt;cases m with
 |zero=>simp[DataW.trod]at hd
 |succ m=>
  rcases cs with _|⟨v,_|⟨b,r⟩⟩
  .simp[DataW.trod,a]at hd
  .cases v<;>simp[DataW.trod,a]at hd;rename_i s;obtain⟨_,rfl⟩:=hd;exact⟨s.data.toList,XV (hμ.str _) hwt,⟨_,_,rfl,rfl,rfl⟩,by simp[Qo]⟩
  .simp[DataW.trod,a]at hd
theorem Qci{α:Type}{f:Nat->Option α}:∀{n:Nat} {l:List α},(List.range n).mapM f=some l->l.length=n/\ ∀i,i<n->∃y,f i=some y/\l[i]?=some y
 |0,l,h=>by grind
 |n+1,l,h=>by
  rw[Xu,List.mapM_append]at h;cases h1:(List.range n).mapM f with
  |none=>grind
  |some l1=>
   cases h2:f n with
   |none=>grind
   |some y=>
    simp[h1,h2]at h;subst h;obtain⟨e1,e2⟩:=Qci h1
    grind
theorem QdY{w:World}{ro:Nat->Prop}{b:Nat}:∀{cs:List A} {l:List Value} {off:Nat},LR ro [] w cs l->(∀v∈l,Qo v)->(∀i,i<l.length->w.cell? ⟨b,off+i,none⟩=l[i]?)->CR ro [] w b cs off
 |[],_,_,_,_,_=>trivial
 |a::cs,l,off,h,hp,hc=>by
  obtain⟨v,l',rfl,h1,h2⟩:=h;refine⟨(by grind),QdY h2 (by grind) λi hi=>?_⟩;have:=hc (i+1) (by grind)
  grind
theorem RB.slice{E:TypeId}{k:Nat}{s:TypeId}(G:P.underlying s=some (.slice E))(hk:P.cellsOf E=k)(h0:Nat.blt 0 k=true)(hl:∀x,(e x).length=k)(h:RB P n E T e wf):
  RB P (n+1) s (List T) (Qn k e) (λl=>l.length<=1048576/\ ∀x∈l,wf x):=by
 intro H enc w base spare held m cs d hm hd μ hμ hwt;have k0:0<k:=by simp_all
 cases m with
 |zero=>simp[DataW.trod]at hd
 |succ m=>
  rcases cs with _|⟨v,_|⟨v2,r⟩⟩
  .simp[DataW.trod,G]at hd
  .cases v<;>try (simp[DataW.trod,G]at hd;done)
   rename_i a len g;cases a with
   |none=>
    rcases len with _|len
    .rcases g with _|g
     .refine⟨[],⟨by simp,by simp⟩,⟨_,_,rfl,⟨none,0,rfl,XT _,.inl rfl⟩,rfl⟩,by simp[Qo]⟩
     .simp[DataW.trod,G]at hd
    .simp[DataW.trod,G]at hd
   |some a=>
    simp only[DataW.trod,G]at hd;split at hd
    .rename_i hc;obtain⟨c1,c2,c3⟩:=hc;cases N:(List.range len).mapM (λi=>(w.cells? base (a.add (i*P.cellsOf E)) (P.cellsOf E)).bind (DataW.trod enc P w base spare held m E))with
     |none=>grind
     |some f=>
      rw[N]at hd;simp only[XJ,Option.map_eq_some_iff]at hd;obtain⟨t,_,rfl⟩:=hd;have u:f.length<=1048576:=by
       have h1:=hμ.sl (f.map (·.1)) (t.map (·.1))
       grind
      have aa:∀y∈f,μ y.1<=1048576:=λy M=>XV (hμ.sle _ (t.map (·.1)) _ (VF M)) hwt;obtain⟨e1,e2⟩:=Qci N;have J:∀i,i<len->∃(x:T) (l:List Value),wf x/\LR (QdR w) [] w (e x) l/\(∀v∈l,Qo v)/\l.length=k/\ ∀j,j<k->w.cell? ((a.add (i*k)).add j)=l[j]? :=by
       intro i W;obtain⟨y,y1,y2⟩:=e2 i W;rw[hk]at y1;cases X:w.cells? base (a.add (i*k)) k with
       |none=>grind
       |some l=>
        rw[X]at y1;obtain⟨x,x1,x2,x3⟩:=h H enc w base spare held m l y (by omega) y1 μ hμ (aa y (VG y2))
        grind[World.cells?,Qci]
      by_cases L:len=0
      .subst L;exact⟨[],⟨by simp,by simp⟩,⟨_,_,rfl,⟨some a,g,rfl,XU _,.inl rfl⟩,rfl⟩,by simp[Qo]⟩
      .have first:a.spot=none/\a.block<w.heap.size:=by
        obtain⟨x',l,p1,p2,p3,p4,Y⟩:=J 0 (by omega);have p:=Y 0 k0;have V:l[0]?=some l[0]:=XK (by omega);have ea:(a.add (0*k)).add 0=a:=by simp[Addr.add]
        rw[V,ea]at p;unfold World.cell? at p;split at p
        .rename_i hh;constructor
         .cases q:a.spot with
          |none=>rfl
          |some z=>simp[q]at p
         .exact(Vb.1 hh).1
        .cases p
       obtain⟨O,hb⟩:=first
       have R:∀n,a.add n=⟨a.block,a.off+n,none⟩:=by
        intro n;cases a;simp only at O;subst O;unfold Addr.add;split
        .rename_i q;subst q;rfl
        .rfl
       have F:∀(b o n:Nat),(⟨b,o,none⟩:Addr).add n=⟨b,o+n,none⟩:=by
        intro b o n;unfold Addr.add;split
        .rename_i q;subst q;rfl
        .rfl
       have pick:∀q i,len-i=q->i<=len->∃B:List T,B.length=len-i/\(∀x∈B,wf x)/\RR (QdR w) [] w a.block k (B.map e) (a.off+i*k):=by
        intro q
        induction q with
        |zero=>intro i hq W;exact⟨[],by simp[hq],by simp,trivial⟩
        |succ q ih=>
         intro i hq W;obtain⟨B,w1,w2,Q⟩:=ih (i+1) (by omega) (by omega);obtain⟨x,l,p1,p2,p3,p4,Y⟩:=J i (by omega);refine⟨x::B,by simp[w1];omega,by intro y M;rcases X5.1 M with rfl|M;exact p1;exact w2 y M,hl x,?_,?_⟩
         .refine QdY p2 p3 λj hj=>?_;have p:=Y j (by omega);rw[R,F]at p;exact p
         .rw[Xl, <- Nat.add_assoc]at Q;exact Q
       obtain⟨B,w1,w2,Q⟩:=pick len 0 (by omega) (XU _);rw[Nat.zero_mul,Xw]at Q;rw[Nat.sub_zero]at w1;refine⟨B,⟨by rw[w1, <- e1];exact u,w2⟩,⟨_,_,rfl,⟨some a,g,by simp[w1],by simp[w1];exact c2,.inr ⟨a.block,a.off,?_,hb,Q⟩⟩,rfl⟩,by simp[Qo]⟩;cases a
       grind
    .cases hd
  .simp[DataW.trod,G]at hd
def RF(P:Program)(n:Nat)(fs:List Field)(off L:Nat)(T:Type)(e:T->List A)(wf:T->Prop):Prop:=
 ∀(H:Type) (enc:TypeId×Value->H) (w:World) (base:Nat) (spare:Nat->Bool) (held:Bool) (m:Nat) (cs:List Value) ds,m<n->cs.length=L->
  fs.mapM (λf=>DataW.trod enc P w base spare held m f.type ((cs.drop f.offset).take (P.cellsOf f.type)))=some ds->
  ∀μ:DataW H->Nat,QmO μ->(∀y∈ds,μ y.1<=1048576)->∃x:T,wf x/\LR (QdR w) [] w (e x) (cs.drop off)/\ ∀v∈cs.drop off,Qo v
theorem RF.nil{L:Nat}:RF P n [] L L Unit (λ_=>[]) (λ_=>True):=by
 intro H enc w base spare held m cs ds hm hl hd μ hμ hwt;have:cs.drop L=[]:=(by grind);rw[this];exact⟨(),trivial,rfl,by simp⟩
theorem RF.cons{f:Field}{fs:List Field}{off L k:Nat}{T2:Type}{j:T2->List A}{b:T2->Prop}(z:f.offset=off)(u:P.cellsOf f.type=k)(h:RB P n f.type T e wf)(r:RF P n fs (off+k) L T2 j b):
  RF P n (f::fs) off L (T×T2) (λp=>e p.1++j p.2) (λp=>wf p.1/\b p.2):=by
 intro H enc w base spare held m cs ds hm hl hd μ hμ hwt;rw[List.mapM_cons]at hd;cases l:DataW.trod enc P w base spare held m f.type ((cs.drop f.offset).take (P.cellsOf f.type))with
 |none=>grind
 |some d=>
  cases s:fs.mapM (λf=>DataW.trod enc P w base spare held m f.type ((cs.drop f.offset).take (P.cellsOf f.type)))with
  |none=>grind
  |some a=>
   have g:ds=d::a:=by
    grind
   subst g;rw[z,u]at l;obtain⟨x,q,t,B⟩:=h H enc w base spare held m _ d hm l μ hμ (hwt d (by simp));obtain⟨y,y1,y2,E⟩:=r H enc w base spare held m cs a hm hl s μ hμ (by grind);have i:cs.drop off=(cs.drop off).take k++cs.drop (off+k):=by rw[<- List.drop_drop,Xz]
   refine⟨(x,y),⟨q,y1⟩,by rw[i];exact t.append y2,?_⟩
   grind
theorem RB.struct{fs:Array Field}{L:Nat}(j:P.underlying t=some (.struct fs))(g:P.cellsOf t=L)(h:RF P n fs.toList 0 L T e wf):RB P (n+1) t T e wf:=by
 intro H enc w base spare held m cs d hm hd μ hμ hwt;cases m with
 |zero=>simp[DataW.trod]at hd
 |succ m=>
  unfold DataW.trod at hd;simp only[j]at hd;split at hd
  .rename_i i;cases a:fs.toList.mapM (λf=>DataW.trod enc P w base spare held m f.type ((cs.drop f.offset).take (P.cellsOf f.type)))with
   |none=>grind
   |some b=>
    rw[a]at hd;simp only[Xj,Option.some.injEq]at hd;subst hd;have:=h H enc w base spare held m cs b (by omega) (by rw[i,g]) a μ hμ (λy k=>XV (hμ.ag _ _ (by grind)) hwt)
    grind
  .cases hd
end
theorem C.law{P:Program}{f:FuncId}{args:List A}{W:World}{vals:List Value}(h:C P f args [] (λa H=>a=.bool true/\H=[]))(i:LR (QdR W) [] W args vals)(d:GP W):
  Calls P f vals.toArray W λe W'=>e=.returned (.bool true)/\Go.RowKit.Below W.heap.size W W':=by
 have s:Sim (λ_=>False) (QdR W) [] [] W:=
  ⟨rfl,⟨λ_ h=>h,λb g=>d.size b g,d⟩,λ_ h=>h.elim,λ_ _ h=>h,(by simp),(by simp),(by simp),(by simp)⟩
 refine(h _ _ _ _ W s i).mono ?_;rintro e W' ⟨v,r,H',j,τ,rfl,⟨rfl,rfl⟩,_,m,ev⟩;exact⟨by rw[show v=.bool true from m],⟨ev.os,ev.tape,ev.output,ev.size,λk l=>ev.keepRo k l⟩⟩
theorem Qlz{P:Program}{W:World}{a:Nat}{t:TypeId}{v:Value}{fs:Array Field}(b:P.underlying t=some (.struct fs))(h:Value.okWide P W .any a t v):∃cs,v=.agg cs:=by
 unfold Value.okWide at h
 grind
theorem Qir{P:Program}{W:World}{t:TypeId}{cs:Array Value}{T:Type}{e:T->List A}{wf:T->Prop}{H:Type}{enc:TypeId×Value->H}{b:Nat}{a:Nat->Bool}{held:Bool}{d:DataW H}{ps:List MemPlace}
  (h:∀n,RB P n t T e wf)(k:DataW.Trod enc P W b a held t (.agg cs) d ps){μ:DataW H->Nat}(hμ:QmO μ)(f:μ d<=1048576):∃x:T,wf x/\VR (QdR W) [] W (.agg (e x)) (.agg cs):=by
 obtain⟨m,i⟩:=k;obtain⟨x,j,g,_⟩:=h (m+1) H enc W b a held m _ _ (Xn _) i μ hμ f;exact⟨x,j,cs.toList,by simp,g⟩
theorem Qj5{P:Program}{W:World}{t:TypeId}{a:Option Addr}{len cap:Nat}{T:Type}{e:T->List A}{k:Nat}{wf:List T->Prop}{H:Type}{enc:TypeId×Value->H}{f:Nat}{b:Nat->Bool}{held:Bool}{d:DataW H}{ps:List MemPlace}
  (h:∀n,RB P n t (List T) (Qn k e) wf)(j:DataW.Trod enc P W f b held t (.slice a len cap) d ps){μ:DataW H->Nat}(hμ:QmO μ)(g:μ d<=1048576):∃x:List T,wf x/\VR (QdR W) [] W (.rsl k (x.map e)) (.slice a len cap):=by
 obtain⟨m,i⟩:=j;obtain⟨x,l,⟨v,q,p,s,r⟩,_⟩:=h (m+1) H enc W f b held m _ _ (Xn _) i μ hμ g;refine⟨x,l,?_⟩;have:(Value.slice a len cap).cells.toList=[.slice a len cap]:=rfl
 grind
theorem Qin{P:Program}{W:World}(h:W.ShapedOpen P){g t u:Nat}{z:Value}(hg:Nat.blt g P.globals.size=true)(q:(((begin P (λ_ _=>0) default).world.heap[g]?).bind Obj.row?)=some (#[z],t))
  (n:P.buildable t=true)(r:P.cellTypes P.depth t=some [u])(j:P.underlying u=some (.int .i64)):∃m:Int,W.cell? ⟨g,0,none⟩=some (.int .i64 m):=by
 obtain⟨b,w,i,k⟩:=h.1 g _ _ (by simp_all) q;obtain⟨s,f,_,p⟩:=k n;rw[r]at f;cases f;have y:b.size=1:=i;have d:b[0]?=some b[0]:=(by simp);obtain⟨x,e,a⟩:=p 0 _ d;simp at e;subst e;unfold Cell.ok at a;rw[j]at a;cases l:b[0]<;>rw[l]at a<;>simp at a
 simp_all[World.cell?]
theorem QiC{S B:Type}{step:S->Option (Ctl S B)}(d:Nat->S)(b:B)(k:Nat)(l:∀i,i<k->step (d i)=some (.cont (d (i+1))))(g:step (d k)=some (.done b)):∀n,k<n->iter step n (d 0)=some b:=by
 have f:∀m i n,k-i=m->i<=k->m<n->iter step n (d i)=some b:=by
  intro m
  induction m with
  |zero=>
   intro i n j e h;have:i=k:=by omega
   subst this;obtain⟨a,rfl⟩:∃a,n=a+1:=⟨n-1,by omega⟩;simp[iter,g]
  |succ m p=>
   intro i n j e h;obtain⟨a,rfl⟩:∃a,n=a+1:=⟨n-1,by omega⟩
   grind[iter]
 grind
theorem QlM{S B:Type}{step:S->Option (Ctl S B)}(s0:S)(a:Nat->S)(b:B)(k:Nat)(f:a 0=s0)(e:∀i,i<k->step (a i)=some (.cont (a (i+1))))(d:step (a k)=some (.done b))(n:Nat)(g:k<n):iter step n s0=some b:=by
 rw[<- f];exact QiC a b k e d n g
theorem QQ{α:Type}{l:List α}{i:Nat}{x:α}(h:l[i]?=some x):idx l (i:Int)=some x:=by
 grind[idx]
theorem Qbp{α:Type}(l:List α)(x:α)(h:l.length<4294967296):app l [x]=some (l++[x]):=by
 unfold app;have:Nat.ble (l.length+[x].length) Q9=true:=by
  grind[Nat.ble_eq_true_of_le,Q9]
 grind
theorem Qh2{α:Type}(l m:List α)(h:l.length+m.length<=4294967296):app l m=some (l++m):=by
 simp_all[app,Q9,XS]
theorem Qq{n:Int}(a: -9223372036854775808<=n)(b:n<=9223372036854775807):IntKind.i64.wrap n=n:=by
 grind[IntKind.wrap,IntKind.bits,IntKind.signed]
theorem QZ{i:Nat}(h:i<9223372036854775807):IntKind.i64.wrap ((i:Int)+1)=((i+1:Nat):Int):=by
 rw[Qq (by omega) (by omega)];omega
theorem QT{p:Prop}[Decidable p](h:p):decide p=true:=Vt h
theorem QP{p:Prop}[Decidable p](h:¬p):decide p=false:=Vw h
open Go.Proofs Go.Shelf
def cat(a b:List UInt8):Option (List UInt8):=bif Nat.ble (a.length+b.length) 4294967296 then some (a++b)else none
theorem QoY{a b r:List UInt8}(h:cat a b=some r):a.length+b.length<=4294967296/\a++b=r:=by
 unfold cat at h;cases q:Nat.ble (a.length+b.length) 4294967296 with
 |true=>simp_all
 |false=>grind
def QeQ(s t:List UInt8):Option Bool:=bif Nat.blt s.length 4294967281 then some (Lib.contains s t)else none
section
variable {P:Program} {o:Oper} {env:Env} {H:Qd}
theorem Qfi{t u:TypeId}{x y:Operand}{p q r:List UInt8}(g:cat p q=some r)(n:o.op=.binOp .add t x y u:=by exact rfl)(hx:opA env x=.str p:=by exact rfl)(hy:opA env y=.str q:=by exact rfl):OpV P o env H (.str r):=by
 intro k j σ N a w rr;obtain⟨l,f⟩:=QoY g;have e:=Qj rr x;rw[hx]at e;have b:=Qj rr y;rw[hy]at b;have i:a.eval x=.string ⟨p.toArray⟩:=e;have h:a.eval y=.string ⟨q.toArray⟩:=b;have m:(⟨p.toArray⟩:ByteArray)++⟨q.toArray⟩=⟨r.toArray⟩:=by
  rw[<- f];rfl
 refine⟨.string ⟨r.toArray⟩,?_,rfl⟩;have d:¬((((⟨p.toArray⟩:ByteArray).size+(⟨q.toArray⟩:ByteArray).size:Nat):Int)>IntKind.i64.max):=by
  have:IntKind.i64.max=9223372036854775807:=by decide
  grind[ByteArray.size]
 simp_all[eqGuard,execOp,binOp_string_add,Op.stringOp,Vr]
def Qd2{α:Type}(n:Nat)(l:List α)(i:Int):Option α:=bif Nat.beq l.length n then idx l i else none
theorem QaV{α:Type}{n:Nat}{l:List α}{i:Int}{x:α}(h:Qd2 n l i=some x):l.length=n/\idx l i=some x:=by
 grind[Qd2,Nat.eq_of_beq_eq_true]
def arr{α:Type}(n:Nat)(l:List α):Option (List α):=bif Nat.beq l.length n then some l else none
theorem Jb{α:Type}{n:Nat}{l l':List α}(h:arr n l=some l'):l.length=n/\l=l':=by
 grind[arr,Nat.eq_of_beq_eq_true]
theorem Qbo{α:Type}{n:Nat}{l l':List α}(h:arr n l=some l'):l'.length=n:=(Jb h).2▸(Jb h).1
section
variable {α:Type} {e:α->List A} {t et k n b:Nat} {x y:Operand} {l:List α}
theorem Qah{i:Int}{v:α}{m:IntKind}(h:Qd2 n l i=some v)(z:∀w,(underlying t).run P w=.ok (.array n et) w)(E:∀w,(sizeOf et).run P w=.ok k w)(u:Nat.ble 2 n=true)
  (F:o.op=.indexAddr t x y:=by exact rfl)(hx:opA env x=.ptr b 0:=by exact rfl)(hy:opA env y=.int m i:=by exact rfl):OpV P o env H (.ptr b (i.toNat*k)):=by
 intro M J σ N a w r;obtain⟨O,s⟩:=QaV h;obtain⟨G,L⟩:=Qa0 s;have B:i.toNat<l.length:=(by grind);have e:=Qj r x;rw[hx]at e;obtain⟨f,e,p⟩:=e;have j:=Qj r y;rw[hy]at j;have g:a.eval y=.int m i:=j;refine⟨.pointer (some ⟨f,i.toNat*k,none⟩),?_,f,e,rfl⟩;have q:0<=i/\i<(n:Int):=by omega
 have d:(⟨f,0,none⟩:Addr).add (i.toNat*k)=⟨f,i.toNat*k,none⟩:=by
  grind[Addr.add]
 generalize a.eval=ρ at*;simp[execOp,F,p,g,Instr.indexAt,asIntOf,z,E,Instr.sureAddr,q,d,go_sem,Result.andThen]
theorem QjN{cs:List A}(g:H[b]?=some (.row t k (l.map e)):=by exact rfl)(hcs:(l.map e).flatten=cs:=by exact rfl):Pts H (.ptr b 0) cs:=by
 intro n m σ w v s h;obtain⟨a,i,d⟩:=h;obtain⟨p,j,f⟩:=s.blk b _ _ i g;refine⟨a,0,d,?_⟩;have:=(RR.flat (Yt (pre:=[]) (by simpa using j) f)).1;subst hcs;exact this.lift
theorem QhA(a:∀x,(e x).length=k)(L:List α):(L.map e).flatten.length=L.length*k:=by
 induction L with
 |nil=>simp
 |cons c L ih=>grind
theorem Qh5{f:Nat}{l':List α}(h:arr n l=some l')(g:∀x,(e x).length=k)(a:n*k=f)(i:∀w,(isAgg t).run P w=.ok true w)(m:∀w,(sizeOf t).run P w=.ok f w){T:Nat}
  (p:o.op=.load t x:=by exact rfl)(hx:opA env x=.ptr b 0:=by exact rfl)(hH:H[b]?=some (.row T k (l.map e)):=by exact rfl):OpV P o env H (.agg (l'.map e).flatten):=by
 obtain⟨j,rfl⟩:=Jb h;have d:=QhA g l;rw[j,a]at d;exact Qu p i m hx (QjN hH rfl) (by grind) d
theorem QkE{r:Nat}{n2 T:Nat}(f:l.length=n)(j:∀x,(e x).length=k)(a:n*k=n2)(g:∀w,(isAgg t).run P w=.ok true w)(h:∀w,(sizeOf t).run P w=.ok n2 w)
  (d:lk env r=.ptr b 0:=by exact rfl)(hH:H[b]?=some (.row T k (l.map e)):=by exact rfl):QdT P env H (.cell r t) (.agg (l.map e).flatten):=by
 have i:=QhA j l;rw[f,a]at i;have:=QdS (b:=r) (p:=.ptr b 0) (n:=n2) g h (QjN hH rfl) d (by grind)
 grind
theorem Qh3{c:List A}{k:Nat}(h:c.length=k):∀n,allK k (List.replicate n c)
 |0=>trivial
 |n+1=>⟨h,Qh3 h n⟩
theorem Y1{vs:Array Value}{z:α}(l:∀w,(zeroValue t).run P w=.ok (.agg vs) w)(m:(YM (List.replicate n (e z)).flatten).toArray=vs)(h:Qgq (List.replicate n (e z)).flatten=true)(i:(List.replicate n (e z)).flatten.all Yo=true)(j:Nat.beq (e z).length k=true)
  (q:o.op=.alloc t:=by exact rfl):OpH P o env H (.ptr H.length 0) (H++[.row t k ((List.replicate n z).map e)]):=by
 intro p f σ N a w r;have d:LR f [] w (List.replicate n (e z)).flatten (YM (List.replicate n (e z)).flatten):=Qfr h;have b:=r.sim.allocRow (t:=t) (rest:=[]) (Qh3 (XQ j) n) d (d.plain i);rw[Vf]at b;have g:(List.replicate n z).map e=List.replicate n (e z):=List.map_replicate;refine⟨.pointer (some ⟨w.heap.size,0,none⟩),w.alloc (.cells (YM (List.replicate n (e z)).flatten).toArray t),f,[some w.heap.size],?_,⟨w.heap.size,?_,rfl⟩,g▸b,Qi.alloc _ r.sim.roLt r.sim.frLt⟩
 .generalize a.eval=ρ at*;have s:(newVar t (.agg vs)).run P w=.ok ⟨w.heap.size,0,none⟩ (w.alloc (.cells vs t)):=rfl
  simp_all[execOp,Instr.alloc]
 .rw[<- r.sim.len];simp
theorem Y0{T n2:Nat}{l':List α}{vs:List A}(h:l.length=n)(h':l'.length=n)(Y:∀x,(e x).length=k)(J:n*k=n2)(hs:∀w,(sizeOf t).run P w=.ok n2 w)
  (hp:∀x,(e x).all Yo=true)(hd:∀x,Yz (e x)=true)(M:(l'.map e).flatten=vs)
  (ho:o.op=.store t x y:=by exact rfl)(z:opA env x=.ptr b 0:=by exact rfl)(hH:H[b]?=some (.row T k (l.map e)):=by exact rfl)(G:opA env y=.agg vs:=by exact rfl):
  OpU P o env H (H.set b (.row T k (l'.map e))):=by
 intro fr X σ N a w r;subst M;have i:=Qj r x;rw[z]at i;obtain⟨bb,i,h2⟩:=i;have W:=Qj r y;rw[G]at W;obtain⟨m,h4,q⟩:=W;obtain⟨s,Q,q2⟩:=r.sim.blk b _ _ i hH;have F:∀(L:List α),allK k (L.map e):=by
  intro L
  induction L with
  |nil=>trivial
  |cons c L u=>exact⟨Y c,u⟩
 have B:(l'.map e).flatten.length=n2:=by grind[Yd]
 have hm:m.length=n2:=by rw[q.length,B]
 have g:∀L:List α,(L.map e).flatten.all Yo=true:=by
  grind
 have O:∀p ds:List A,Yz p=true->Yz ds=true->Yz (p++ds)=true:=by
  intro p
  induction p with
  |nil=>simp
  |cons c p u=>
   simp_all[Yz]
 have E:∀L:List α,Yz (L.map e).flatten=true:=by
  intro L
  induction L with
  |nil=>rfl
  |cons c L u=>simp only[Vi,Vk];exact O _ _ (hd c) u
 have R:n2<=s.length:=by
  have:=q2.length;rw[X0,h,J]at this;exact this
 have V:=Q4 (P:=P) (vs:=m) 0 0 Q (by omega) (q.plain (g l'));have f:splice s 0 m=m++s.drop n2:=by unfold splice;simp[hm]
 have d:=r.sim.set (x':=.row T k (l'.map e)) (obj:=.cells (splice s 0 m).toArray T (0,0)) i hH rfl
  (λy G=>Jc Q (Q1 (by omega)) y G)
  (λex j=>by
   have z:=(q.data (E l')).mono ex.nil;rw[f]at z j⊢;exact⟨_,j,YJ (F l') z (q.plain (g l'))⟩)
 refine⟨_,X,[],?_,by simpa using d.1,d.2⟩
 simp_all[Value.cells,storeVar,execOp,Instr.storeAt,Instr.sureAddr]
end
end
theorem C.contains{P:Program}{ρ:Ren}(L:Lays.n144 P ρ)(hg:ρ.g 1=Qkh){s t:List UInt8}{r:Bool}(h:QeQ s t=some r):C P (ρ.f 144) [.str s,.str t] [] (λa H=>a=.bool r/\H=[]):=by
 unfold QeQ at h;cases q:Nat.blt s.length 4294967281 with
 |false=>grind
 |true=>
  rw[q]at h;obtain rfl:=XY h;intro B i σ vals w sim hv;obtain⟨k,z,rfl,n,l,j,rfl,d,p⟩:=hv;cases(show j=[]from p);obtain⟨m,y⟩:=sim.roOk.gp.max;have x:k=.string ⟨s.toArray⟩:=n;have b:l=.string ⟨t.toArray⟩:=d;subst x b;have u:s.length<4294967281:=by simpa using q
  refine(Any.strings_Contains L ⟨s.toArray⟩ ⟨t.toArray⟩ m w (by simpa[ByteArray.size]using u) (by grind)).mono ?_;rintro e E ⟨rfl,rfl⟩;exact⟨_,_,_,i,[],rfl,⟨rfl,rfl⟩,by grind,rfl,Qi.refl _ _ _⟩
section
variable {P:Program} {o:Oper} {env:Env} {H:Qd} {fr ro:Nat->Prop} {σ:Sig} {w:World}
theorem Sim.touch(s:Sim fr ro σ H w){b:Nat}{obj:Obj}(t:¬ro b)(m:¬fr b)(z:∀(i:Nat) (x:Blk),σ[i]?=some (some b)->H[i]?=some x->x.live=true->False)
  (l:∀(i d:Nat) (x:Blk),σ[i]?=some (some d)->H[i]?=some x->Hid w x d b->False)
  (n:∀y,w.shape? b=some y->({w with heap:=w.heap.setIfInBounds b obj}:World).shape? b=some y):
  Sim fr ro σ H {w with heap:=w.heap.setIfInBounds b obj}/\Qi fr ro w ro {w with heap:=w.heap.setIfInBounds b obj}:=by
 have r:∀c,c≠b->({w with heap:=w.heap.setIfInBounds b obj}:World).heap[c]?=w.heap[c]? :=by
  grind
 have a:({w with heap:=w.heap.setIfInBounds b obj}:World).heap.size=w.heap.size:=by simp
 have ev:Qi fr ro w ro {w with heap:=w.heap.setIfInBounds b obj}:=
  ⟨λ_ h=>h,(by grind),(by grind),by omega,by
   grind[World.shape?],rfl,rfl,rfl,XT _⟩
 refine⟨⟨s.len,s.roOk.to (λ_ q=>q) ev.keepRo (λc h=>by rw[a];exact s.roLt c h),λc h=>by rw[a];exact s.frLt c h,s.roFr,?_,s.inj,?_,s.hidTo (· = ·) Q3 (by omega) (by simp) (by simp) λj d y k g u=>.inl ⟨j,y,rfl,k,g,id,λc q=>s.hidKeep k g (by grind) ev.keepRo q⟩⟩,ev⟩
 .intro i c x f e p;rw[a];exact s.own i c x f e p
 .intro i y x f e;refine(s.blk i y x f e).keep (ev.ext0 σ) ?_ ?_
  .grind
  grind
theorem QkN{T E i n t:Nat}{x:Operand}{es:List (List A)}(ht:P.underlying T=some (.slice E))(hE:P.underlying E=some (.int .u8))(hn:es.length=n)(h0:Nat.blt 0 n=true)
  (ho:o.op=.convert T T x:=by exact rfl)(hx:opA env x=.osl i 0 n 1:=by exact rfl)(hH:H[i]?=some (.row t 1 es):=by exact rfl):
  OpH P o env H (.rsl 1 es) (H.set i .dead):=by
 intro fr M σ N a w r;subst hn;have k:=Qj r x;rw[hx]at k;rcases k with⟨hz,_⟩|⟨b,p,J,t',m,k,h2,X,⟨h3,aa⟩,h4,h5⟩
 .simp_all
 .have V:0<es.length:=by simp_all
  obtain rfl:=X (by omega);obtain⟨hb,G,g⟩:=r.sim.own i b _ k hH rfl;obtain⟨l,Y,q2⟩:=r.sim.blk i _ _ k hH;have W:=r.sim.kill i;have f:∀(j:Nat) (y:Blk),σ[j]?=some (some b)->(H.set i .dead)[j]?=some y->y.live=true->False:=by
   intro j y u e B;by_cases q:j=i
   .subst q;rw[Xb]at e;simp only[if_true]at e
    grind[Blk.live]
   .rw[XP (λz=>q z.symm)]at e;exact q (r.sim.inj j i b y _ u k e hH B rfl)
  have F:∀(j d:Nat) (y:Blk),σ[j]?=some (some d)->(H.set i .dead)[j]?=some y->Hid w y d b->False:=by
   intro j d y u e B;by_cases q:j=i
   .subst q;rw[Xb]at e;simp only[if_true]at e;split at e
    .cases e;exact B.elim
    .simp at e
   .rw[XP (λz=>q z.symm)]at e;exact(r.sim.hid j d y b u e B).ne i b _ k hH rfl rfl
  let fz:Nat×Nat:=(l.length,l.length+1)
  have O:∀y,w.shape? b=some y->({w with heap:=w.heap.setIfInBounds b (.cells l.toArray t fz)}:World).shape? b=some y:=by
   simp_all[World.shape?]
  obtain⟨s2,s⟩:=W.touch (obj:=.cells l.toArray t fz) G g f F O;have s3:=s2.addRo (b:=b) (by grind) g f (λj d y u e B=>F j d y u e (W.hidKeep u e (by grind) s.keepRo B));have h:({w with heap:=w.heap.setIfInBounds b (.cells l.toArray t fz)}:World).heap[b]?=some (.cells (([]:List Value)++l).toArray t fz):=by
   grind
  have L:Ext M [] w M [] {w with heap:=w.heap.setIfInBounds b (.cells l.toArray t fz)}:=s.ext0 [];refine⟨.slice (some ⟨b,0*1,none⟩) es.length J,_,λc=>M c\/c=b,[],?_,?_,by grind,s.trans (YB λ_ q=>.inl q)⟩
  .have hf:w.freeze ⟨b,l.length,none⟩ 1={w with heap:=w.heap.setIfInBounds b (.cells l.toArray t fz)}:=by
    unfold World.freeze;simp only[Nat.one_ne_zero,if_false];rw[Qdg Y];rfl
   have R:(markStringish ⟨b,0*1,none⟩).run P w=.ok () {w with heap:=w.heap.setIfInBounds b (.cells l.toArray t fz)}:=by
    simp_all[markStringish,World.shape?]
   have hu:∀w,(underlying T).run P w=.ok (.slice E) w:=run_underlying ht;have Q:∀w,(underlying E).run P w=.ok (.int .u8) w:=run_underlying hE;generalize a.eval=ρ at*;simp only[execOp,ho,h2,convert,Vl,hu,Q,Result.andThen,beq_self_eq_true,R,Vm]
  .refine⟨some ⟨b,0*1,none⟩,J,rfl,h3,.inr ⟨b,0*1,rfl,.inr rfl,?_⟩⟩;have:=Yt (pre:=[]) h (q2.mono L);exact(by omega:RR M [] _ b 1 es (0*1)).keep ⟨λ_ q=>.inl q,λ_ _=>rfl,λ_ _ q=>q,λ_ _ q=>q⟩ rfl
end
mutual
theorem Qc9(ρ:Nat->Nat):∀{a:A},Yq a=true->Yu ρ a=a
 |.any,_=>rfl
 |.bool _,_=>rfl
 |.int _ _,_=>rfl
 |.str _,_=>rfl
 |.nilp,_=>rfl
 |.ptr _ _,h=>by simp[Yq]at h
 |.rp _,_=>rfl
 |.nils,_=>rfl
 |.rsl _ _,_=>rfl
 |.osl _ _ _ _,h=>by simp[Yq]at h
 |.agg cs,h=>by simp only[Yq]at h;simp only[Yu,Qaf ρ h]
 |.fn f a c,h=>by simp only[Yq,XW]at h;simp only[Yu,Qaf ρ h.1,Qaf ρ h.2]
 |.nilf,_=>rfl
 |.iface t a,h=>by simp only[Yq]at h;simp only[Yu,Qc9 ρ h]
 |.nilif,_=>rfl
 |.map _,h=>by simp[Yq]at h
 |.nilm,_=>rfl
 |.tup vs,h=>by simp only[Yq]at h;simp only[Yu,Qaf ρ h]
theorem Qaf(ρ:Nat->Nat):∀{l:List A},Yz l=true->Qaa ρ l=l
 |[],_=>rfl
 |a::l,h=>by simp only[Yz,XW]at h;simp only[Qaa,Qc9 ρ h.1,Qaf ρ h.2]
end
theorem QfS{α:Type}{e:α->List A}(a:∀x,Yz (e x)=true):∀L:List α,Yz (L.map e).flatten=true
 |[]=>rfl
 |c::L=>by
  have hdt:∀cs ds:List A,Yz cs=true->Yz ds=true->Yz (cs++ds)=true:=by
   intro cs
   induction cs with
   |nil=>simp
   |cons c cs b=>
    simp_all[Yz]
  simp only[Vi,Vk];exact hdt _ _ (a c) (QfS a L)
theorem Qnd{α:Type}{e:α->List A}(hd:∀x,Yz (e x)=true)(ρ:Nat->Nat)(l:List α):Yu ρ (.agg (l.map e).flatten)=.agg (l.map e).flatten:=
 Qc9 ρ (by simp only[Yq];exact QfS hd l)
end Go.Sw
namespace Go.Sw
section
variable {P:Program} {o:Oper} {env:Env} {H:Qd}
theorem Qeh{c:Call}{f T:Nat}{x:Operand}{xs:List Operand}{e:Array TypeId}{name:String}{v:A}{args:List A}(b:∀(a:Array Value) (w:World),(callFunc f a).run P w=.ok (.enter f a) w)(m:o.op=.call c)
  (l:c={callee:=.invoke x name,args:=xs.toArray,argTypes:=e})(h:opA env x=.iface T v)(hargs:v::xs.map (opA env)=args)
  (i:∀(u:Value) (w:World),(method (P.types.size+Made.depth) T u name).run P w=.ok (f,u) w):OpC P o env H f args:=by
 intro k j σ N a w r;have d:=Qj r x;rw[h]at d;obtain⟨u,d,g⟩:=d;refine⟨u::xs.map a.eval,?_,hargs▸⟨u,xs.map a.eval,rfl,g,Qbb r xs⟩⟩
 simp_all[VH,callMethod,execOp,resolve,invoke]
theorem Qbr{T I:Nat}{x:Operand}{v:A}{d:TypeDesc}(f:∀w,(underlying T).run P w=.ok d w)(h:∀m,d≠ .interface m)(j:o.op=.typeAssert x I T true:=by exact rfl)(hx:opA env x=.iface T v:=by exact rfl):
  OpV P o env H (.tup [v,.bool true]):=by
 intro g i σ N a w r;have b:=Qj r x;rw[hx]at b;obtain⟨u,b,e⟩:=b;refine⟨.tuple #[u,.bool true],?_,[u,.bool true],rfl,_,_,rfl,e,_,_,rfl,rfl,rfl⟩
 simp_all[execOp,Instr.typeAssert]
theorem QgZ{T T' I:Nat}{x:Operand}{v z:A}{zv:Value}{d:TypeDesc}(k:∀w,(underlying T).run P w=.ok d w)(n:∀m,d≠ .interface m)(f:Nat.beq T' T=false)(h:∀w,(zeroValue T).run P w=.ok zv w)(e:ZR z zv)
  (p:o.op=.typeAssert x I T true:=by exact rfl)(hx:opA env x=.iface T' v:=by exact rfl):
  OpV P o env H (.tup [z,.bool false]):=by
 intro l i σ N a w r;have b:=Qj r x;rw[hx]at b;obtain⟨u,b,g⟩:=b;have j:T'≠T:=λq=>by simp_all
 refine⟨.tuple #[zv,.bool false],?_,[zv,.bool false],rfl,_,_,rfl,e _ _ _,_,_,rfl,rfl,rfl⟩
 simp_all[execOp,Instr.typeAssert]
end
def TL(P:Program)(h0 N:Nat)(c:Code)(env:Env)(H:Qd)(Q:Qz):Prop:=
 ∀rd fr ro σ a w,Rel fr ro σ H env N a w->Qdu rd fr w->∀(b:Frame) (k:List Item) (cs:List Frame),b.roundOf=(WF rd).round->(WF rd).fn b.fn->(WF rd).room (cs.length+1+0)->∃e a' w',QaM h0 fr ro σ w N a.defers Q e a' w'/\ArrivesIn (Machine.fenced P (WF rd)) P (lone (b.atR a (.code c::.inLoop c::k)) cs w) b k cs e a' w'
def QiX(P:Program)(h0 N:Nat)(c:Code)(Q:Qz):Qz
 |.normal,env,H=>TL P h0 N c env H Q
 |.exit id,env,H=>Q (.exit id) env H
 |.ret,env,H=>Q .ret env H
section
variable {P:Program} {h0 N:Nat} {c:Code} {env:Env} {H:Qd} {Q:Qz}
theorem QmA(h:TL P h0 N c env H Q):TC P h0 N (.loop c) env H Q:=by
 intro f j i σ a w r hrd b k cs hro hb hr;obtain⟨e,g,l,m,d⟩:=h f j i σ a w r hrd b k cs hro hb hr;exact⟨e,g,l,m,.of_steps (.one (fenced_calm hb hr rfl) stepR_loop) d⟩
theorem TL.round(h:TC P h0 N c env H (QiX P h0 N c Q)):TL P h0 N c env H Q:=by
 intro E G z σ a w r hrd b k cs hro hb hr;obtain⟨e,n,m,M,d⟩:=h E G z σ a w r hrd b (.inLoop c::k) cs hro hb hr;obtain⟨x,f,H',i,σ',j,l,s,B,t,y,u⟩:=M;have F:∀x,Q x f H'->ExR e x->QaM h0 G z σ w N a.defers Q e n m:=λx q O=>⟨x,f,H',i,σ',j,O,q,B,t,y,u⟩;cases e with
 |normal=>
  obtain rfl:x=.normal:=l;obtain⟨J,L,w2,p,g⟩:=s E j i σ' n m B (hrd.to t u.sub) b k cs hro hb hr;exact⟨J,L,w2,p.grow t y u,.of_steps (StepsIn.trans d (.one (fenced_calm hb hr rfl) stepR_inLoop)) g⟩
 |exit id=>
  obtain rfl:x=.exit id:=l;exact⟨_,n,m,F _ s rfl,.pass (x:=.inLoop c) rfl (by simp) d⟩
 |ret=>
  obtain rfl:x=.ret:=l;exact⟨_,n,m,F _ s rfl,.pass (x:=.inLoop c) rfl (by simp) d⟩
 |_=>exact l.elim
theorem unrN(h:TC P h0 N c env H (QiX P h0 N c Q)):QiX P h0 N c Q .normal env H:=TL.round h
theorem unrX{id:Nat}(h:Q (.exit id) env H):QiX P h0 N c Q (.exit id) env H:=h
theorem unrR(h:Q .ret env H):QiX P h0 N c Q .ret env H:=h
theorem QkA(h:TC P h0 N c env H (QiX P h0 N c Q)):TC P h0 N (.loop c) env H Q:=QmA (TL.round h)
end
section
variable {P:Program} {o:Oper} {env:Env} {H:Qd}
theorem OpV.ixL{t a k b n j:Nat}{x y:Operand}{e:IntKind}{i:Int}(l:Nat.blt j n=true)(hi:i=(j:Int))(g:∀w,(underlying t).run P w=.ok (.slice a) w)(f:∀w,(sizeOf a).run P w=.ok k w)
  (d:o.op=.indexAddr t x y:=by exact rfl)(hx:opA env x=.osl b 0 n k:=by exact rfl)(hy:opA env y=.int e i:=by exact rfl):OpV P o env H (.ptr b (j*k)):=by
 subst hi;have h:=Qg0 (H:=H) d g f hx hy (by omega) (by simp_all)
 grind
end
theorem Qfh{ro:Nat->Prop}{σ:Sig}{w:World}{k:Nat}:∀{es:List (List A)} {l l':List Value},RL ro σ w k es l->l.take (es.length*k)=l'.take (es.length*k)->RL ro σ w k es l'
 |[],_,_,_,_=>trivial
 |c::es,l,l',h,hp=>by
  obtain⟨l1,l2,rfl,h1,h2,h3⟩:=h;have hl1:l1.length=k:=by rw[h2.1.length];exact h1
  have a:l'.take k=l1:=by
   have:=congrArg (List.take k) hp
   grind[Nat.succ_mul]
  refine⟨l1,l'.drop k,by rw[<- a,Xz],h1,h2,Qfh h3 ?_⟩;have:=congrArg (List.drop k) hp
  grind[Nat.succ_mul]
section
variable {P:Program} {o:Oper} {env:Env} {H:Qd}
theorem QfC{c:Call}{T et k b s n t:Nat}{x:Operand}{es g:List (List A)}{z:Value}(ht:P.underlying T=some (.slice et))(hz:∀w,(zeroValue et).run P w=.ok z w)(J:z.cells.size=k)(ac:∀v∈z.cells,Qo v)
  (u:es.take s=g)(hb:s+n=es.length)(ho:o.op=.call c:=by exact rfl)(hc:c={callee:=.builtin .clear,args:= #[x],argTypes:= #[T]}:=by exact rfl)
  (hx:opA env x=.osl b s n k:=by exact rfl)(hH:H[b]?=some (.row t k es):=by exact rfl):OpH P o env H (.tup []) (H.set b (.row t k g)):=by
 intro G h σ N a w r;subst u hc;have hu:∀w,(underlying T).run P w=.ok (.slice et) w:=run_underlying ht;have e:=Qj r x;rw[hx]at e;have Q:Sim G h σ (H.set b (.row t k (es.take s))) w:=by
  refine r.sim.weaken hH rfl ?_;intro y j;cases y with
  |none=>rw[show es=[]from j];simp[BR]
  |some E=>obtain⟨l,g1,g2⟩:=j;exact⟨l,g1,RL.take s g2⟩
 have L:∀v,a.eval x=v->(Builtin.clear_ #[T] o.type #[v]).run P w=.ok (.tuple #[]) w->
   ∃v w' ro' τ,(execOp a.eval o).run P w=.ok (.value v) w'/\VR ro' (σ++τ) w' (.tup []) v/\Sim G ro' (σ++τ) (H.set b (.row t k (es.take s))) w'/\Qi G h w ro' w':=by
  intro v B d;refine⟨.tuple #[],w,h,[],?_,⟨[],rfl,rfl⟩,by grind,Qi.refl _ _ _⟩
  simp_all[execOp,resolve,invoke,builtin]
 rcases e with⟨hn,e⟩|⟨E,p,F,t',m,e,h2,h3,⟨h4,aa⟩,h5,h6⟩
 .simp_all[Builtin.clear_]
 .by_cases hn:n=0
  .simp_all[Builtin.clear_]
  .obtain rfl:=h3 (by omega);obtain⟨l,W,X⟩:=r.sim.blk b _ _ e hH;have Y:=X.length
   let vs:=(Builtin.zeroCells z.cells n).toList
   have ad:vs.length=n*k:=by simp[vs,Builtin.zeroCells,J]
   have q:∀v∈vs,Qo v:=by
    intro v B;simp only[vs,Builtin.zeroCells,Array.toList_map,Xe,Array.toList_range,List.mem_range]at B;obtain⟨i,hi,rfl⟩:=B;have V:0<z.cells.size:=by
     grind
    grind[Nat.mod_lt]
   have ab:s*k+n*k=es.length*k:=by grind
   have d:=Q4 (P:=P) (vs:=vs) (s*k) 0 W (by omega) q;have f:=r.sim.set (x':=.row t k (es.take s)) (obj:=.cells (splice l (s*k) vs).toArray t (0,0)) e hH rfl
    (λy j=>Jc W (Q1 (by omega)) y j)
    (λex M=>⟨_,M,by
     refine(Qfh (RL.take s X) ?_).mono ex.nil
     grind[splice]⟩)
   refine⟨.tuple #[],_,h,[],?_,⟨[],rfl,rfl⟩,by grind,f.2⟩;have O:(Builtin.clear_ #[T] o.type #[.slice (some ⟨E,s*k,none⟩) n F]).run P w=.ok (.tuple #[]) {w with heap:=w.heap.setIfInBounds E (.cells (splice l (s*k) vs).toArray t (0,0))}:=by
    obtain⟨R,rfl⟩:∃R,n=R+1:=⟨n-1,by omega⟩;simp only[Xw]at d;simp only[Builtin.clear_,XG,XE,Vl,hu,hz,Result.andThen,d,Vm,vs]
   generalize a.eval=ρ at*;simp only[execOp,ho,resolve,Vl,Vm,Result.andThen,invoke,builtin,XI,Vi,Vj,h2,O]
end
def isNil{α R:Type}[DecidableEq R](l:List α)(x y:Option R):Option R:=bif l.isEmpty then(bif decide (x=y)then x else none)else y
theorem QlN{α R:Type}[DecidableEq R]{l:List α}{x y:Option R}{r:R}(h:isNil l x y=some r)(b:Bool)(a:l≠[]->b=false):(b=true->x=some r)/\(b=false->y=some r):=by
 unfold isNil at h
 grind
section
variable {P:Program} {o:Oper} {env:Env} {H:Qd} {h0 N:Nat} {Q:Qz}
theorem QkO{α:Type}{e:α->List A}{T E k:Nat}{u:TypeId}{x:Operand}{l:List α}(p:P.underlying T=some (.slice E))(t:o.op=.binOp .eql T x (.const (.slice none 0 0)) u)(i:opA env x=.rsl k (l.map e)):
  OpE P o env H (λv H'=>∃b:Bool,v=.bool b/\(l≠[]->b=false)/\H'=H):=by
 intro q h σ N a w r;have f:=Qj r x;rw[i]at f;obtain⟨d,g,f,j,s⟩:=f;refine⟨.bool d.isNone,H,.bool d.isNone,w,h,[],⟨d.isNone,rfl,λm=>?_,rfl⟩,?_,rfl,by simpa using r.sim,Qi.refl _ _ _⟩
 .grind
 .have n:a.eval (.const (.slice none 0 0))=.slice none 0 0:=rfl
  grind[eqGuard,execOp,Sem.run_bind,Result.andThen,Go.run_eql_slice_nil,Sem.run_pure]
theorem Qmw{α:Type}{e:α->List A}{T E k d:Nat}{u:TypeId}{x:Operand}{l:List α}{all:Array Oper}{L:List Oper}(g:P.underlying T=some (.slice E))(a:opA env x=.rsl k (l.map e))
  (h:∀b:Bool,(l≠[]->b=false)->WO P h0 N all L (up env d (.bool b)) H Q)
  (f:o.op=.binOp .eql T x (.const (.slice none 0 0)) u:=by exact rfl)(hg:Qs all o env true:=by exact rfl)(hd:o.dst=some d:=by exact rfl)(hN:Nat.blt d N=true:=by exact rfl)(hh:Nat.ble h0 H.length=true:=by exact rfl):WO P h0 N all (o::L) env H Q:=by
 refine Qmv (by simp_all) hg hd hN (QkO g f a) ?_
 grind
end
theorem slc0{α:Type}{l x:List α}{i:Int}(h:slc l 0 i=some x):0<=i/\i.toNat<=l.length/\l.take i.toNat=x/\x.length=i.toNat:=by
 obtain⟨_,d,a,b⟩:=Qc5 h
 grind
section
variable {P:Program} {o:Oper} {env:Env} {H:Qd} {α:Type} {e:α->List A} {T et k b t:Nat} {x y:Operand} {l l':List α} {i:Int}
theorem Qfl(h:slc l 0 i=some l')(E1:∀w,(underlying T).run P w=.ok (.slice et) w)(E2:∀w,(sizeOf et).run P w=.ok k w)(d:o.op=.slice T x (some y) none none:=by exact rfl)
  (hx:opA env x=.osl b 0 l.length k:=by exact rfl)(hy:opA env y=.int .i64 i:=by exact rfl):OpV P o env H (.osl b (0+i.toNat) (l.length-i.toNat) k):=by
 obtain⟨e,a,_,_⟩:=slc0 h;exact Qfn E1 E2 d hx (by grind) (.inl ⟨rfl,rfl⟩) a (XT _)
theorem Qfm(h:slc l 0 i=some l')(E1:∀w,(underlying T).run P w=.ok (.slice et) w)(E2:∀w,(sizeOf et).run P w=.ok k w)(d:o.op=.slice T x none (some y) none:=by exact rfl)
  (hx:opA env x=.osl b 0 l.length k:=by exact rfl)(hy:opA env y=.int .i64 i:=by exact rfl):OpV P o env H (.osl b 0 l'.length k):=by
 obtain⟨e,a,_,f⟩:=slc0 h;have:=Qfn (H:=H) E1 E2 d hx (.inl ⟨rfl,rfl⟩) (by grind) (XU _) a
 grind
theorem Qfo{c:Call}{z:Value}(h:slc l 0 i=some l')(g:P.underlying T=some (.slice et))(f:∀w,(zeroValue et).run P w=.ok z w)(a:z.cells.size=k)(d:∀v∈z.cells,Qo v)(m:o.op=.call c:=by exact rfl)(hc:c={callee:=.builtin .clear,args:= #[x],argTypes:= #[T]}:=by exact rfl)
  (hx:opA env x=.osl b (0+i.toNat) (l.length-i.toNat) k:=by exact rfl)(hH:H[b]?=some (.row t k (l.map e)):=by exact rfl):OpH P o env H (.tup []) (H.set b (.row t k (l'.map e))):=by
 obtain⟨q,n,j,p⟩:=slc0 h;refine QfC g f a d ?_ ?_ m hc hx hH
 .rw[Xv, <- j,List.map_take]
 grind
end
open Go.Sort Go.Proofs Go.Shelf
section
variable {P:Program} {o:Oper} {env:Env} {H:Qd} {α:Type} {e:α->List A} {T et k b t:Nat} {x y:Operand}
theorem Qdx{lo hi:Option Operand}{l r:List α}{a c:Int}(h:slc l a c=some r)(E1:∀w,(underlying T).run P w=.ok (.slice et) w)(E2:∀w,(sizeOf et).run P w=.ok k w)
  (e:lo=none/\a=0\/ ∃y,lo=some y/\opA env y=.int .i64 a)(d:hi=none/\c=l.length\/ ∃y,hi=some y/\opA env y=.int .i64 c)
  (f:o.op=.slice T x lo hi none:=by exact rfl)(hx:opA env x=.osl b 0 l.length k:=by exact rfl):OpV P o env H (.osl b (0+a.toNat) (c.toNat-a.toNat) k):=by
 obtain⟨j,i,g,_⟩:=Qc5 h;refine Qfn (l:=a.toNat) (h:=c.toNat) E1 E2 f hx ?_ ?_ (by omega) (by omega)
 .grind
 grind
end
end Go.Sw
namespace Go.Sw
inductive Bx where
 |mk (a:A)
def lkB:Env->Nat->Bx
 |[],_=>.mk .any
 |(d,a)::r,s=>bif Nat.beq s d then .mk a else lkB r s
theorem QiA:∀{env:Env} {s:Nat} {a:A},lkB env s=.mk a->lk env s=a
 |[],s,a,h=>by cases h;rfl
 |(d,b)::r,s,a,h=>by
  unfold lkB at h;unfold lk;cases q:Nat.beq s d with
  |true=>grind
  |false=>rw[q]at h;exact QiA h
inductive FBy where
 |mk (l:List UInt8)
def fby:List UInt8->FBy
 |[]=>.mk []
 |a::r=>match fby r with
  |.mk r'=>.mk (a::r')
theorem QlY:∀l:List UInt8,fby l=.mk l
 |[]=>rfl
 |a::r=>by unfold fby;rw[QlY r]
def opB(env:Env):Operand->Bx
 |.tmp t=>lkB env t
 |.const (.bool b)=>.mk (.bool b)
 |.const (.int k n)=>.mk (.int k n)
 |.const (.string s)=>match fby s.data.toList with
  |.mk l=>.mk (.str l)
 |.const (.pointer none)=>.mk .nilp
 |.const (.slice none 0 0)=>.mk .nils
 |.const (.map none)=>.mk .nilm
 |.const .nilFunc=>.mk .nilf
 |.const .nilIface=>.mk .nilif
 |.func f=>.mk (.fn (.func f) [] [])
 |_=>.mk .any
theorem QI{env:Env}{x:Operand}{a:A}(h:opB env x=.mk a):opA env x=a:=by
 cases x with
 |tmp t=>exact QiA h
 |const v=>
  cases v with
  |slice b n k=>cases b with
   |none=>cases n with
    |zero=>cases k<;>(cases h;rfl)
    |succ n=>cases h;rfl
   |some b=>cases h;rfl
  |pointer p=>cases p<;>(cases h;rfl)
  |map p=>cases p<;>(cases h;rfl)
  |string s=>
   have d:(match fby s.data.toList with|.mk l=>Bx.mk (.str l))=.mk a:=h;rw[QlY]at d;cases d;rfl
  |_=>cases h;rfl
 |global g=>cases h;rfl
 |func f=>cases h;rfl
def YN{α:Type}:List α->Nat->Option α
 |[],_=>none
 |a::_,0=>some a
 |_::r,n+1=>YN r n
theorem QaA{α:Type}:∀(l:List α) (n:Nat),YN l n=l[n]?
 |[],n=>by simp[YN]
 |a::r,0=>rfl
 |a::r,n+1=>by simp[YN,QaA r n]
def arB:BinOp->IntKind->Int->Int->Option A
 |.add,k,m,n=>some (.int k (k.wrap (m+n)))
 |.sub,k,m,n=>some (.int k (k.wrap (m-n)))
 |.mul,k,m,n=>some (.int k (k.wrap (m*n)))
 |.eql,_,m,n=>some (.bool (m==n))
 |.neq,_,m,n=>some (.bool (m != n))
 |.lss,_,m,n=>some (.bool (decide (m<n)))
 |.leq,_,m,n=>some (.bool (decide (m<=n)))
 |.gtr,_,m,n=>some (.bool (decide (n<m)))
 |.geq,_,m,n=>some (.bool (decide (n<=m)))
 |_,_,_,_=>none
def srB:BinOp->List UInt8->List UInt8->Option A
 |.eql,p,q=>some (.bool (p==q))
 |.neq,p,q=>some (.bool (p != q))
 |.lss,p,q=>some (.bool (Op.bytesLess p q))
 |_,_,_=>none
def biB(b:BinOp):Bx->Bx->Option A
 |.mk (.int k m),.mk (.int k' n)=>if k=k' then arB b k m n else none
 |.mk (.str p),.mk (.str q)=>srB b p q
 |_,_=>none
def unB:UnOp->Bx->Option A
 |.not,.mk (.bool b)=>some (.bool !b)
 |.neg,.mk (.int k n)=>some (.int k (k.wrap (0-n)))
 |_,_=>none
def exB:Bx->Nat->Option A
 |.mk (.tup vs),i=>YN vs i
 |_,_=>none
def nlB:Bx->Option A
 |.mk (.ptr i j)=>some (.ptr i j)
 |.mk (.rp cs)=>some (.rp cs)
 |_=>none
def piB:Bx->Bx->Bx->Option A
 |.mk (.bool true),.mk a,_=>some a
 |.mk (.bool false),_,.mk a=>some a
 |_,_,_=>none
def svB(env:Env):Op->Option A
 |.move x=>match opB env x with|.mk a=>some a
 |.assign x=>match opB env x with|.mk a=>some a
 |.nilCheck x=>nlB (opB env x)
 |.extract x i=>exB (opB env x) i
 |.unOp u _ x=>unB u (opB env x)
 |.pick c x y=>piB (opB env c) (opB env x) (opB env y)
 |.binOp b _ x y _=>biB b (opB env x) (opB env y)
 |_=>none
def pr(d:Nat):Option A->Option (Nat×A)
 |some a=>some (d,a)
 |none=>none
def stB(o:Oper)(env:Env):Option (Nat×A):=
 match o.dst with
 |some d=>pr d (svB env o.op)
 |none=>none
section
variable {P:Program} {h0 N:Nat} {all:Array Oper} {o:Oper} {l:List Oper} {env:Env} {H H':Qd} {Q:Qz} {d:Nat} {x:A}
theorem QbC{p:Op}(g:o.op=p)(h:svB env p=some x):OpV P o env H x:=by
 unfold svB at h;split at h
 .rename_i y;cases q:opB env y with|mk a=>simp_all[OpV.move,QI]
 .rename_i y;cases q:opB env y with|mk a=>simp_all[OpV.assign,QI]
 .rename_i y;unfold nlB at h;split at h
  .rename_i i j q;cases h;exact Qfj g (QI q) rfl
  .rename_i w q;cases h;exact Qfj g (QI q) rfl
  .cases h
 .rename_i y i;unfold exB at h
  grind[QaA,OpV.extract,QI]
 .rename_i u t y;unfold unB at h
  grind[OpV.not,QI,OpV.neg]
 .rename_i c y z;unfold piB at h;split at h
  .rename_i a _ f d;cases h;exact OpV.pick g (QI f) (by rw[Vs rfl];exact QI d)
  .rename_i a f d;cases h;exact OpV.pick g (QI f) (by rw[Vr (by decide)];exact QI d)
  .cases h
 .rename_i b t y z u;unfold biB at h;split at h
  .rename_i k m s n f d;split at h
   .rename_i e;subst e;have r:=QI f;have l:=QI d;unfold arB at h
    grind[OpV.add,OpV.sub,OpV.mul,OpV.eql,OpV.neq,OpV.lss,OpV.leq,OpV.gtr,OpV.geq]
   .cases h
  .rename_i p q f d;have r:=QI f;have l:=QI d;unfold srB at h
   grind[Qdw,QkG,QkH]
  .cases h
 .cases h
theorem Qgp(h:stB o env=some (d,x)):o.dst=some d/\OpV P o env H x:=by
 unfold stB at h;split at h
 .rename_i b q;cases e:svB env o.op with
  |none=>rw[e]at h;cases h
  |some a=>rw[e]at h;cases h;exact⟨q,QbC rfl e⟩
 .cases h
theorem S(e:stB o env=some (d,x))(k:WO P h0 N all l (up env d x) H Q)(hg:Qs all o env true:=by exact rfl)(hN:Nat.blt d N=true:=by exact rfl):WO P h0 N all (o::l) env H Q:=
 Yv hg (Qgp (P:=P) (H:=H) e).1 hN (Qgp e).2 k
theorem Sg(hg:Qs all o env true)(e:stB o env=some (d,x))(k:WO P h0 N all l (up env d x) H Q)(a:Nat.blt d N=true:=by exact rfl):WO P h0 N all (o::l) env H Q:=
 Yv hg (Qgp (P:=P) (H:=H) e).1 a (Qgp e).2 k
theorem K(hg:Qs all o env false)(a:o.dst=some d)(k:WO P h0 N all l (up env d (.tup [])) H Q)(b:Nat.blt d N=true:=by exact rfl):WO P h0 N all (o::l) env H Q:=
 WO.skip hg a b k
theorem KF{j s:Nat}{c y:Bool}(b:y= !c)(a:o.dst=some d)(k:WO P h0 N all l (up env d (.tup [])) H Q)(e:Nat.blt d N=true:=by exact rfl)(hg:o.guard=some (j,c):=by exact rfl)(hs:(all[j]?).bind (·.dst)=some s:=by exact rfl)(hl:lk env s=.bool y:=by exact rfl):WO P h0 N all (o::l) env H Q:=
 WO.skip (gF b hg hs hl) a e k
def p2B(v:Bool):Bx->Bx->Bx->Option (Bool×A)
 |.mk (.bool b),.mk a,.mk a'=>match v with|true=>some (b,a)|false=>some (b,a')
 |_,_,_=>none
def pr2(d:Nat):Option (Bool×A)->Option (Nat×Bool×A)
 |some a=>some (d,a)
 |none=>none
def pkB(v:Bool)(o:Oper)(env:Env):Option (Nat×Bool×A):=
 match o.dst,o.op with
 |some d,.pick c x y=>pr2 d (p2B v (opB env c) (opB env x) (opB env y))
 |_,_=>none
theorem QoE{v b:Bool}{p q r:Bx}(h:p2B v p q r=some (b,x)):∃a a',p=.mk (.bool b)/\q=.mk a/\r=.mk a'/\(bif v then a else a')=x:=by
 obtain⟨p⟩:=p;obtain⟨q⟩:=q;obtain⟨r⟩:=r;cases p<;>first|(cases h;done)|skip
 cases v<;>cases h<;>exact(by simp)
theorem Qlx{v b:Bool}(h:pkB v o env=some (d,b,x))(k:b=v):o.dst=some d/\OpV P o env H x:=by
 unfold pkB at h;split at h
 .rename_i m c y z l j;cases e:p2B v (opB env c) (opB env y) (opB env z)with
  |none=>rw[e]at h;cases h
  |some s=>
   rw[e]at h;cases h;obtain⟨a,g,p,f,i,n⟩:=QoE e
   grind[OpV.pick,QI]
 .cases h
theorem Pk{v b:Bool}(a:b=v)(e:pkB v o env=some (d,b,x))(k:WO P h0 N all l (up env d x) H Q)(hg:Qs all o env true:=by exact rfl)(hN:Nat.blt d N=true:=by exact rfl):WO P h0 N all (o::l) env H Q:=
 Yv hg (Qlx (P:=P) (H:=H) e a).1 hN (Qlx e a).2 k
def fpB(o:Oper)(env:Env):Option (Nat×Nat×Nat×Nat×Nat):=
 match o.dst,o.op with
 |some d,.fieldAddr T x f=>match opB env x with
  |.mk (.ptr i p)=>some (d,T,f,i,p)
  |_=>none
 |_,_=>none
theorem QgF{T f off n i p:Nat}(a:YL P T f off n)(h:fpB o env=some (d,T,f,i,p)):o.dst=some d/\OpV P o env H (.ptr i (p+off)):=by
 grind[fpB,Qcp,QI]
theorem Fp{T f off n i p:Nat}(a:YL P T f off n)(e:fpB o env=some (d,T,f,i,p))(k:WO P h0 N all l (up env d (.ptr i (p+off))) H Q)(hg:Qs all o env true:=by exact rfl)(hN:Nat.blt d N=true:=by exact rfl):WO P h0 N all (o::l) env H Q:=
 Yv hg (QgF (H:=H) a e).1 hN (QgF a e).2 k
theorem Fpg{T f off n i p:Nat}(hg:Qs all o env true)(a:YL P T f off n)(e:fpB o env=some (d,T,f,i,p))(k:WO P h0 N all l (up env d (.ptr i (p+off))) H Q)(b:Nat.blt d N=true:=by exact rfl):WO P h0 N all (o::l) env H Q:=
 Yv hg (QgF (H:=H) a e).1 b (QgF a e).2 k
inductive Lx where
 |mk (l:List A)
def QhT:Nat->List A->Lx
 |0,l=>.mk l
 |n+1,_::r=>QhT n r
 |_+1,[]=>.mk []
theorem Qe9:∀{n:Nat} {l r:List A},QhT n l=.mk r->l.drop n=r
 |0,l,r,h=>by cases h;rfl
 |n+1,a::l,r,h=>by rw[List.drop_succ_cons];exact Qe9 h
 |n+1,[],r,h=>by cases h;rfl
def ctB:Option Blk->Nat->Option A
 |some (.cells _ cs),off=>YN cs off
 |_,_=>none
def lvB(H:Qd):Bx->Option A
 |.mk (.ptr i off)=>ctB (YN H i) off
 |.mk (.rp (a::_))=>some a
 |_=>none
def pr3(d t:Nat):Option A->Option (Nat×Nat×A)
 |some a=>some (d,t,a)
 |none=>none
def ldB(o:Oper)(env:Env)(H:Qd):Option (Nat×Nat×A):=
 match o.dst,o.op with
 |some d,.load t x=>pr3 d t (lvB H (opB env x))
 |_,_=>none
theorem QgC{t:Nat}(k:∀w,(isAgg t).run P w=.ok false w)(h:ldB o env H=some (d,t,x)):o.dst=some d/\OpV P o env H x:=by
 unfold ldB at h;split at h
 .rename_i q s y m j;cases e:lvB H (opB env y)with
  |none=>rw[e]at h;cases h
  |some a=>
   rw[e]at h;cases h;refine⟨m,?_⟩;unfold lvB at e;split at e
   .rename_i i f g;unfold ctB at e;split at e
    .rename_i f p T0 T cs q4;rw[QaA]at e q4;obtain⟨b,l⟩:∃b,cs.drop f=x::b:=by
      have n:=(XL.1 e).1
      simp_all[Xp]
     exact OpV.load j k (QI g) (Pts.cells q4 l)
    .cases e
   .rename_i a r g;cases e;exact OpV.load j k (QI g) Pts.rp
   .cases e
 .cases h
theorem Ld{t:Nat}(a:∀w,(isAgg t).run P w=.ok false w)(e:ldB o env H=some (d,t,x))(k:WO P h0 N all l (up env d x) H Q)(hg:Qs all o env true:=by exact rfl)(hN:Nat.blt d N=true:=by exact rfl):WO P h0 N all (o::l) env H Q:=
 Yv hg (QgC a e).1 hN (QgC a e).2 k
theorem Ldg{t:Nat}(hg:Qs all o env true)(a:∀w,(isAgg t).run P w=.ok false w)(e:ldB o env H=some (d,t,x))(k:WO P h0 N all l (up env d x) H Q)(b:Nat.blt d N=true:=by exact rfl):WO P h0 N all (o::l) env H Q:=
 Yv hg (QgC a e).1 b (QgC a e).2 k
def ixB(o:Oper)(env:Env):Option (Nat×Nat×Nat×List (List A)×IntKind×Int):=
 match o.dst,o.op with
 |some d,.indexAddr t x y=>match opB env x,opB env y with
  |.mk (.rsl k es),.mk (.int kk i)=>some (d,t,k,es,kk,i)
  |_,_=>none
 |_,_=>none
theorem Ix{α:Type}{e:α->List A}{t a k:Nat}{L:List α}{b:IntKind}{i:Int}{v:α}(h:idx L i=some v)(j:∀w,(underlying t).run P w=.ok (.slice a) w)(p:∀w,(sizeOf a).run P w=.ok k w)
  (q:ixB o env=some (d,t,k,L.map e,b,i))(k:WO P h0 N all l (up env d (.rp (e v))) H Q)(hg:Qs all o env true:=by exact rfl)(hN:Nat.blt d N=true:=by exact rfl):WO P h0 N all (o::l) env H Q:=by
 unfold ixB at q;split at q
 .rename_i n f;split at q
  .rename_i r m;simp only[Option.some.injEq,Prod.mk.injEq]at q;obtain⟨rfl,rfl,rfl,g,rfl,rfl⟩:=q;exact Yv hg n hN (QjO h j p f (by rw[QI r,g]) (QI m)) k
  .cases q
 .cases q
def lnB(o:Oper)(env:Env):Option (Nat×Nat×Bx):=
 match o.dst,o.op with
 |some d,.call c=>match c with
  |{callee:=.builtin .len,args:=⟨[x]⟩,argTypes:=⟨[t]⟩}=>some (d,t,opB env x)
  |_=>none
 |_,_=>none
theorem QoN{t:Nat}{b:Bx}(q:lnB o env=some (d,t,b)):∃x,o.dst=some d/\o.op=.call {callee:=.builtin .len,args:= #[x],argTypes:= #[t]}/\opB env x=b:=by
 unfold lnB at q
 grind
theorem LnM{α:Type}{e:α->List A}{t b k:Nat}{L:List α}(g:∀w,(underlying t).run P w=.ok (.slice b) w)(q:lnB o env=some (d,t,.mk (.rsl k (L.map e))))
  (k:WO P h0 N all l (up env d (.int .i64 L.length)) H Q)(hg:Qs all o env true:=by exact rfl)(hN:Nat.blt d N=true:=by exact rfl):WO P h0 N all (o::l) env H Q:=by
 obtain⟨x,a,f,h⟩:=QoN q;exact Yv hg a hN (Qh7 g f rfl (QI h)) k
end
section
variable {P:Program} {h0 N:Nat} {all:Array Oper} {env env':Env} {H H':Qd} {Q:Qz} {c c':Code}
theorem Nx(h:TC P h0 N c env H Q):WO P h0 N all [] env H (Seq P h0 N c Q):=WO.nil (Qle h)
theorem Rg{id:Nat}{l:List Oper}(h:WO P h0 N l.toArray l env H (Seq P h0 N c Q)):TC P h0 N (.seq (.region id l.toArray false) c) env H Q:=TC.seq (TC.region h)
theorem SkN(h:TC P h0 N c env H Q):TC P h0 N .skip env H (Seq P h0 N c Q):=TC.skip (Qle h)
theorem ExX{id:Nat}(h:Q (.exit id) env H):TC P h0 N (.exit id) env H (Seq P h0 N c Q):=TC.exit (seqX h)
theorem Oi{α:Type}{x y:α}(h:some x=some y):x=y:=XY h
theorem Bd{α β:Type}{x:Option α}{f:α->Option β}{r:β}{G:Prop}(h:x.bind f=some r)(k:∀a,x=some a->f a=some r->G):G:=by
 obtain⟨a,d,b⟩:=Ja h
 grind
theorem If{α:Type}{c:Bool}{x y:Option α}{r:α}{G:Prop}(h:(bif c then x else y)=some r)(t:c=true->x=some r->G)(e:c=false->y=some r->G):G:=by
 grind
theorem Cn{α:Type}{x:Operand}{t:Bool}{p q:Option α}{r:α}(hx:opB env x=.mk (.bool t))(h:(bif t then p else q)=some r)(ht:t=true->p=some r->TC P h0 N c env H Q)(hf:t=false->q=some r->TC P h0 N c' env H Q):TC P h0 N (.cond x c c') env H Q:=
 TC.cond (QI hx) (by grind) (by grind)
theorem Je{α:Type}{x:Operand}{t:Bool}{p q:Option α}{r:α}(hx:opB env x=.mk (.bool t))(h:(bif t then p else q)=some r)(hf:t=false->q=some r->TC P h0 N c' env H Q)(ht:t=true->p=some r->TC P h0 N c env H Q):TC P h0 N (.cond x c c') env H Q:=
 TC.cond (QI hx) (by grind) (by grind)
theorem Lr(π:List Nat)(a:π.take h0=List.range h0:=by exact rfl)(hH:π.map (λp=>H[p]?)=(H'.map (QO (rho π H.length))).map some:=by exact rfl)(hπ:π.Nodup:=by decide)
  (hE:Qfs (rho π H.length) env env':=by(repeat' (first|exact trivial|refine⟨rfl,?_⟩))):Le h0 env H env' H':=Qo8 π a hH hπ hE
end
def Ev{α:Type}(f:Nat->Option α)(v:α):Prop:=∃N,∀n,N<=n->f n=some v
section
variable {α β:Type} {f g:Nat->Option α} {v w:α}
theorem Qa(v:α):Ev (λ_=>some v) v:=⟨0,λ_ _=>rfl⟩
theorem Ev.const{o:Option α}(h:o=some v):Ev (λ_=>o) v:=⟨0,λ_ _=>h⟩
theorem Ev.bind{k:Nat->α->Option β}{b:β}(h:Ev f v)(a:Ev (λn=>k n v) b):Ev (λn=>(f n).bind (k n)) b:=by
 obtain⟨N,h⟩:=h;obtain⟨M,a⟩:=a;exact⟨max N M,λn d=>by grind⟩
theorem QaQ{o:Option α}{k:Nat->α->Option β}{b:β}(h:o=some v)(hk:Ev (λn=>k n v) b):Ev (λn=>o.bind (k n)) b:=Ev.bind (Ev.const h) hk
theorem QbS{c:Bool}(b:c=true->Ev f v)(a:c=false->Ev g w):Ev (λn=>bif c then f n else g n) (bif c then v else w):=by
 cases c with
 |true=>exact b rfl
 |false=>exact a rfl
theorem QjU(h:Ev f v):Ev (λn=>bif true then f n else g n) v:=h
theorem Yg(h:Ev g v):Ev (λn=>bif false then f n else g n) v:=h
theorem Ev.and{c d:Bool}{h:Nat->Option Bool}(a:c=true->Ev h d):Ev (λn=>bif c then h n else some false) (c&&d):=by
 cases c with
 |true=>exact a rfl
 |false=>exact Qa _
theorem Ev.or{c d:Bool}{h:Nat->Option Bool}(a:c=false->Ev h d):Ev (λn=>bif c then some true else h n) (c||d):=by
 cases c with
 |true=>exact Qa _
 |false=>exact a rfl
theorem Ev.eq(h:Ev f v)(e:v=w):Ev f w:=e▸h
theorem QmS(h:Ev f v)(e:∀n,g n=f n):Ev g v:=by
 obtain⟨N,h⟩:=h;exact⟨N,λn a=>by grind⟩
theorem Y5(h:Ev (λn=>f (n+1)) v):Ev f v:=by
 obtain⟨N,h⟩:=h;refine⟨N+1,λn a=>?_⟩;obtain⟨m,rfl⟩:∃m,n=m+1:=⟨n-1,by omega⟩
 grind
theorem Ev.ex(h:Ev f v):∃n,f n=some v:=let⟨N,h⟩:=h;⟨N,h N (XT _)⟩
theorem Ev.all{k:Nat}{F:Nat->Nat->Option α}{V:Nat->α}(h:∀i,i<k->Ev (F i) (V i)):∃N,∀n,N<=n->∀i,i<k->F i n=some (V i):=by
 induction k with
 |zero=>simp
 |succ k a=>
  obtain⟨N,d⟩:=a (by grind);obtain⟨M,b⟩:=h k (by omega);refine⟨max N M,λn e i f=>?_⟩
  grind
end
section
variable {S B α:Type} {step:Nat->S->Option (Ctl S B)}
theorem Ev.iter{s0:S}(a:Nat->S)(k:Nat){b:B}(g:a 0=s0)(f:∀i,i<k->Ev (λn=>step n (a i)) (.cont (a (i+1))))(e:Ev (λn=>step n (a k)) (.done b)):
  Ev (λn=>Go.Sw.iter (step n) n s0) b:=by
 obtain⟨N,h⟩:=Ev.all f;obtain⟨M,d⟩:=e;exact⟨max (max N M) (k+1),λn j=>QlM s0 a b k g (by grind) (d n (by omega)) n (by omega)⟩
theorem Qb1{step:S->Option (Ctl S B)}{s:S}{b:B}(m:Nat)(h:Go.Sw.iter step m s=some b):Ev (λn=>Go.Sw.iter step n s) b:=by
 have mono:∀m s,Go.Sw.iter step m s=some b->∀n,m<=n->Go.Sw.iter step n s=some b:=by
  intro m
  induction m with
  |zero=>intro s h;cases h
  |succ m d=>
   intro s h n e;obtain⟨a,rfl⟩:∃a,n=a+1:=⟨n-1,by omega⟩
   grind[Go.Sw.iter]
 exact⟨m,(by grind)⟩
structure At (l:List α) (i:Nat) (x:α):Prop where
 get:l[i]?=some x
 lt:decide ((i:Int)<(l.length:Int))=true
 ix:idx l (i:Int)=some x
 nx:IntKind.i64.wrap ((i:Int)+1)=((i+1:Nat):Int)
theorem Jo{l:List α}{i:Nat}{x:α}(a:l.length<=4611686018427387904)(h:l[i]?=some x):At l i x:=by
 have b:=(XL.1 h).1;exact⟨h,(by grind),QQ h,QZ (by omega)⟩
theorem At.mem{l:List α}{i:Nat}{x:α}(h:At l i x):x∈l:=VG h.get
theorem At.lt'{l:List α}{i:Nat}{x:α}(h:At l i x):i<l.length:=(XL.1 h.get).1
theorem At.take{l:List α}{i:Nat}{x:α}(h:At l i x):l.take (i+1)=l.take i++[x]:=by
 rw[List.take_add_one,h.get];rfl
theorem QcH(l:List α):decide ((l.length:Int)<(l.length:Int))=false:=(by simp)
theorem QbR{s0:S}(l:List α)(q:α->Bool)(a:Nat->S)(r b:B)(g:l.length<=4611686018427387904)(m:a 0=s0)
  (w:∀i x,At l i x->q x=false->Ev (λn=>step n (a i)) (.cont (a (i+1))))
  (f:∀i x,At l i x->q x=true->Ev (λn=>step n (a i)) (.done r))
  (s:Ev (λn=>step n (a l.length)) (.done b)):Ev (λn=>Go.Sw.iter (step n) n s0) (bif l.any q then r else b):=by
 have d:∀k,k<=l.length->(∀i x,l[i]?=some x->i<k->q x=false)\/ ∃i x,l[i]?=some x/\i<k/\q x=true/\ ∀j y,l[j]?=some y->j<i->q y=false:=by
  intro k
  induction k with
  |zero=>simp
  |succ k F=>
   grind
 rcases d l.length (XT _)with h|⟨i,x,u,z,t,E⟩
 .have:l.any q=false:=by
   rw[VL];intro e;obtain⟨x,f,e⟩:=Xt.1 e;obtain⟨i,p,rfl⟩:=List.getElem_of_mem f
   grind
  rw[this];exact Ev.iter a l.length m (λi p=>w i _ (Jo g (XK p)) (by grind)) s
 .have:l.any q=true:=(by grind);rw[this];refine Ev.iter a i m (λj G=>?_) (f i x (Jo g u) t)
  grind[Jo]
theorem Jn{β:Type}{s0:S}(l:List α)(g:β->α->β)(b:β)(e:β->Nat->S)(d:β->B)(h:l.length<=4611686018427387904)(p:e b 0=s0)
  (k:∀i x a,At l i x->a=(l.take i).foldl g b->Ev (λn=>step n (e a i)) (.cont (e (g a x) (i+1))))
  (m:Ev (λn=>step n (e (l.foldl g b) l.length)) (.done (d (l.foldl g b)))):Ev (λn=>Go.Sw.iter (step n) n s0) (d (l.foldl g b)):=by
 refine Ev.iter (λi=>e ((l.take i).foldl g b) i) l.length (by grind) (λi j=>?_) (by grind);have f:=Jo (x:=l[i]) h (XK j);have:=k i _ _ f rfl;rw[f.take,List.foldl_append];exact this
theorem Ev.contains(l:List α)(q:α->Bool)(g:Nat->α->Option Bool)(d:l.length<=4611686018427387904)(hg:∀x∈l,Ev (λn=>g n x) (q x)):
  Ev (λn=>(((Go.Sw.iter (λs:Int=>bif decide (s<(l.length:Int))then(idx l s).bind λx=>(g n x).bind λr=>(bif r then some (Ctl.done (Ctl.done s))else some (Ctl.cont (IntKind.i64.wrap (s+1))))else some (Ctl.done (Ctl.cont ()))) n (0:Int):Option (Ctl Unit Int)).bind λb=>
   match b with
   |.cont _=>some (-1)
   |.done s=>some s):Option Int).bind λr=>some (decide (0<=r))) (l.any q):=by
 cases e:l.any q with
 |false=>
  refine Ev.bind (v:=(-1:Int)) (Ev.bind (v:=Ctl.cont ()) (Ev.iter (λi=>(i:Int)) l.length rfl (λi p=>?_) ?_) (Qa _)) (Qa _)
  .have a:=Jo (x:=l[i]) d (XK p);simp only[a.lt,Vn,a.ix,XJ];have B:q l[i]=false:=by
    grind
   refine Ev.bind ((hg _ a.mem).eq B) ?_;simp only[Vp,a.nx];exact Qa _
  simp_all[Qa]
 |true=>
  obtain⟨x,u,h⟩:=Xt.1 e;have f:∀k,k<=l.length->(∀(i:Nat) (x:α),l[i]?=some x->i<k->q x=false)\/ ∃(i:Nat) (x:α),l[i]?=some x/\i<k/\q x=true/\ ∀(j:Nat) (y:α),l[j]?=some y->j<i->q y=false:=by
   intro k
   induction k with
   |zero=>simp
   |succ k G=>
    grind
  rcases f l.length (XT _)with F|⟨i,x,z,E,w,t⟩
  .obtain⟨j,m,rfl⟩:=List.getElem_of_mem u
   grind
  .refine Ev.bind (v:=(i:Int)) (Ev.bind (v:=Ctl.done (i:Int)) (Ev.iter (λi=>(i:Int)) i rfl (λj m=>?_) ?_) (Qa _)) ?_
   .have a:=Jo (x:=l[j]) d (XK (by omega));simp only[a.lt,Vn,a.ix,XJ];refine Ev.bind ((hg _ a.mem).eq (t j _ a.get m)) ?_;simp only[Vp,a.nx];exact Qa _
   .have a:=Jo d z;simp only[a.lt,Vn,a.ix,XJ];refine Ev.bind ((hg _ a.mem).eq w) ?_;exact Qa _
   simp_all[Qa]
end
section
variable {S B α:Type} {step:Nat->S->Option (Ctl S B)}
theorem Qg7{s0:S}(a:Nat->S)(k:Nat)(R:Nat->B)(e:a 0=s0)(r:∀i,i<k->(Ev (λn=>step n (a i)) (.cont (a (i+1)))/\R i=R (i+1))\/Ev (λn=>step n (a i)) (.done (R i)))
  (g:Ev (λn=>step n (a k)) (.done (R k))):Ev (λn=>Go.Sw.iter (step n) n s0) (R 0):=by
 have d:∀m,m<=k->(∀i,i<m->Ev (λn=>step n (a i)) (.cont (a (i+1)))/\R i=R (i+1))\/ ∃j,j<m/\(∀i,i<j->Ev (λn=>step n (a i)) (.cont (a (i+1)))/\R i=R (i+1))/\Ev (λn=>step n (a j)) (.done (R j)):=by
  intro m
  induction m with
  |zero=>simp
  |succ m p=>
   grind
 have same:∀m,(∀i,i<m->R i=R (i+1))->R 0=R m:=by
  intro m
  induction m with
  |zero=>intro _;rfl
  |succ m p=>grind
 rcases d k (XT _)with h|⟨j,q,f,l⟩
 .rw[same k λi b=>(h i b).2];exact Ev.iter a k e (by grind) g
 .rw[same j λi b=>(f i b).2];exact Ev.iter a j e (by grind) l
theorem At.drop{l:List α}{i:Nat}{x:α}(h:At l i x):l.drop i=x::l.drop (i+1):=by
 have:=h.lt';rw[Xp this,(XL.1 h.get).2]
theorem Qg6{s0:S}(l:List α)(st:Nat->S)(R:Nat->B)(hl:l.length<=4611686018427387904)(h0:st 0=s0)
  (hc:∀i x,At l i x->(Ev (λn=>step n (st i)) (.cont (st (i+1)))/\R i=R (i+1))\/Ev (λn=>step n (st i)) (.done (R i)))
  (hd:Ev (λn=>step n (st l.length)) (.done (R l.length))):Ev (λn=>Go.Sw.iter (step n) n s0) (R 0):=
 Qg7 st l.length R h0 (λi hi=>hc i _ (Jo hl (XK hi))) hd
end
section
variable {α β:Type} [DecidableEq α]
theorem QaD(p:α×β)(l:List (α×β))(k:α):Qag (p::l) k=if p.1=k then some p.2 else Qag l k:=by
 grind[Qag]
theorem Qkb(p:α×β)(l:List (α×β))(k:α)(v:β):Yl (p::l) k v=if p.1=k then(p.1,v)::l.map (λq=>bif decide (q.1=k)then(q.1,v)else q)else p::Yl l k v:=by
 unfold Yl
 grind
theorem QlH(l:List (α×β))(k a:α)(v:β)(h:a≠k):Qag (l.map λq=>bif decide (q.1=k)then(q.1,v)else q) a=Qag l a:=by
 induction l with
 |nil=>rfl
 |cons p l b=>
  grind[QaD]
theorem Qdh(l:List (α×β))(k a:α)(v:β):Qag (Yl l k v) a=if a=k then some v else Qag l a:=by
 induction l with
 |nil=>
  show Qag ([]++[(k,v)]) a=_;rw[Vg,QaD]
  grind
 |cons p l b=>
  rw[Qkb];by_cases e:p.1=k
  .rw[Vs e,QaD,QaD];by_cases h:a=k
   .grind
   .have:p.1≠a:=(by grind)
    simp_all[QlH]
  .rw[Vr e,QaD,QaD,b]
   grind
theorem Qkc(k:α)(z:β):QN ([]:List (α×β)) k z=z:=rfl
theorem QeI(l:List (α×β))(k a:α)(v z:β):QN (Yl l k v) a z=if a=k then v else QN l a z:=by
 grind[QN,Qdh]
theorem QfP(l:List (α×β))(k:α)(v:β):(Yl l k v).map (·.1)=if k∈l.map (·.1)then l.map (·.1)else l.map (·.1)++[k]:=by
 unfold Yl;have e:(l.any λp=>decide (p.1=k))=decide (k∈l.map (·.1)):=by
  grind
 rw[e];by_cases h:k∈l.map (·.1)
 .rw[Vt h,Vs h,Vn,List.map_map];apply List.map_congr_left
  grind
 grind
def Yf{γ:Type}(key:γ->α)(v:β)(l:List γ):List (α×β):=l.foldl (λm x=>Yl m (key x) v) []
theorem Qgy{γ:Type}(a:γ->α)(v:β)(l:List γ)(x:γ):Yf a v (l++[x])=Yl (Yf a v l) (a x) v:=by
 unfold Yf;simp
theorem QdH{γ:Type}(a:γ->α)(v z:β)(l:List γ)(k:α):QN (Yf a v l) k z=if k∈l.map a then v else z:=by
 have b:∀(l:List γ) (m:List (α×β)),QN (l.foldl (λm x=>Yl m (a x) v) m) k z=if k∈l.map a then v else QN m k z:=by
  intro l
  induction l with
  |nil=>intro m;simp
  |cons x l d=>
   intro m;rw[XD,d,QeI]
   grind
 exact b l []
theorem Qb7{γ:Type}(a:γ->α)(v:β)(l:List γ):(Yf a v l).length<=l.length/\((Yf a v l).length=l.length↔(l.map a).Nodup):=by
 have d:∀(l:List γ) (m:List (α×β)),(m.map (·.1)).Nodup->(l.foldl (λm x=>Yl m (a x) v) m).length<=m.length+l.length/\((l.foldl (λm x=>Yl m (a x) v) m).length=m.length+l.length↔(m.map (·.1)++l.map a).Nodup):=by
  intro l
  induction l with
  |nil=>simp
  |cons x l i=>
   intro m f;have e:=QfP m (a x) v;have b:(Yl m (a x) v).length=((Yl m (a x) v).map (·.1)).length:=by simp
   by_cases h:a x∈m.map (·.1)
   .grind
   .rw[Vr h]at e;have g:((Yl m (a x) v).map (·.1)).Nodup:=by
     grind
    grind
 grind[Yf]
end
theorem Y6{α:Type}(l:List α)(p:α->Bool)(g:Nat->α->Option Bool)(d:l.length<=4611686018427387904)(hg:∀x∈l,Ev (λn=>g n x) (p x)):
  Ev (λn=>((((Go.Sw.iter (λs:Int=>bif decide (s<(l.length:Int))then(idx l s).bind λx=>((g n x).bind λr1=>some (!r1)).bind λr=>(bif r then some (Ctl.done (Ctl.done s))else some (Ctl.cont (IntKind.i64.wrap (s+1))))else some (Ctl.done (Ctl.cont ()))) n (0:Int):Option (Ctl Unit Int)).bind λb=>
   match b with
   |.cont _=>some (-1)
   |.done s=>some s):Option Int).bind λr=>some (decide (0<=r)):Option Bool).bind λr=>some (!r)) (l.all p):=by
 refine Ev.bind (Ev.contains l (λx=> !p x) (λn x=>(g n x).bind λr1=>some (!r1)) d λx a=>Ev.bind (hg x a) (Qa _)) ((Qa _).eq ?_)
 grind
theorem Ev.inner{α κ B:Type}[DecidableEq κ]{step:Nat->Int->Option (Ctl Int B)}(l:List α)(i:Nat)(a:α->κ)(k:κ)(g b:B)(r:l.length<=4611686018427387904)(hi:i<=l.length)
  (u:∀j y,j<i->At l j y->decide (a y=k)=false->Ev (λn=>step n (j:Int)) (.cont ((j+1:Nat):Int)))
  (t:∀j y,j<i->At l j y->decide (a y=k)=true->Ev (λn=>step n (j:Int)) (.done g))
  (s:Ev (λn=>step n (i:Int)) (.done b)):Ev (λn=>Go.Sw.iter (step n) n 0) (bif ((l.take i).map a).contains k then g else b):=by
 have e:((l.take i).map a).contains k=(l.take i).any λy=>decide (a y=k):=by
  grind
 rw[e];have f:(l.take i).length=i:=by simp;omega
 have p:∀j y,At (l.take i) j y->j<i/\At l j y:=by
  intro j y d;have m:=d.lt';have h:=d.get
  grind[Jo]
 refine QbR (l.take i) (λy=>decide (a y=k)) (λi=>(i:Int)) _ _ (by omega) rfl (λj y d q=>?_) (λj y d q=>?_) ?_
 .grind
 .grind
 grind
theorem Qbu{α κ β:Type}[DecidableEq κ]{step:Nat->List (κ×β)×Int->Option (Ctl (List (κ×β)×Int) (List (κ×β)))}(l:List α)(key:α->κ)(v:β)(hl:l.length<=4611686018427387904)
  (hc:∀i x m,At l i x->Ev (λn=>step n (m,(i:Int))) (.cont (Yl m (key x) v,((i+1:Nat):Int))))
  (hd:∀m,Ev (λn=>step n (m,(l.length:Int))) (.done m)):Ev (λn=>Go.Sw.iter (step n) n ([],0)) (Yf key v l):=
 Jn l (λm x=>Yl m (key x) v) [] (λm i=>(m,(i:Int))) (λm=>m) hl rfl (by grind) (hd _)
theorem Ev.shift{α:Type}{f:Nat->Option α}{v:α}(h:Ev f v):Ev (λn=>f (n+1)) v:=by
 obtain⟨N,h⟩:=h;exact⟨N,(by grind)⟩
def EvI{S B:Type}(step:Nat->S->Option (Ctl S B))(s:S)(b:B):Prop:=∃N,∀n k,N<=n->N<=k->Go.Sw.iter (step n) k s=some b
section
variable {S B:Type} {step:Nat->S->Option (Ctl S B)} {s s':S} {b:B}
theorem EvI.done(h:Ev (λn=>step n s) (.done b)):EvI step s b:=by
 obtain⟨N,h⟩:=h;refine⟨N+1,λn k d e=>?_⟩;obtain⟨a,rfl⟩:∃a,k=a+1:=⟨k-1,by omega⟩
 grind[Go.Sw.iter]
theorem EvI.cont(h:Ev (λn=>step n s) (.cont s'))(q:EvI step s' b):EvI step s b:=by
 obtain⟨N,h⟩:=h;obtain⟨M,q⟩:=q;refine⟨max N M+1,λn k d e=>?_⟩;obtain⟨a,rfl⟩:∃a,k=a+1:=⟨k-1,by omega⟩
 grind[Go.Sw.iter]
theorem EvI.ev(h:EvI step s b):Ev (λn=>Go.Sw.iter (step n) n s) b:=by
 obtain⟨N,h⟩:=h;exact⟨N,λn a=>h n n a a⟩
theorem EvI.eq{b':B}(h:EvI step s b)(e:b=b'):EvI step s b':=e▸h
end
theorem QJ{α:Type}{l r:List α}{i:Nat}{x:α}(a:l.length<=4611686018427387904)(h:l.drop i=x::r):At l i x/\l.drop (i+1)=r:=by
 have b:l[i]?=some x:=by
  have:=congrArg (λl=>l[0]?) h
  grind
 refine⟨Jo a b,?_⟩;have:=(Jo a b).drop
 grind
theorem Yp{α:Type}{l:List α}{i:Nat}(h:l.drop i=[])(hi:i<=l.length):decide ((i:Int)<(l.length:Int))=false:=by
 simp_all
theorem Z.{u}{α:Sort u}{a:α}:a=a:=rfl
section
variable {P:Program} {h0 N:Nat} {all:Array Oper} {env:Env} {H H':Qd} {Q:Qz} {l:List Oper} {o:Oper} {d:Nat}
theorem aV(x:A)(H:Qd){x':A}{H':Qd}(b:x'=x)(a:H'=H)(k:WO P h0 N all l (up env d x) H Q):WO P h0 N all l (up env d x') H' Q:=by subst b;subst a;exact k
theorem vX(x:A)(a:OpV P o env H x)(k:WO P h0 N all l (up env d x) H Q)(hg:Qs all o env true:=by exact rfl)(hd:o.dst=some d:=by exact rfl)(hN:Nat.blt d N=true:=by exact rfl):WO P h0 N all (o::l) env H Q:=
 Yv hg hd hN a k
theorem Wp:WO P h0 N all [] env H (YS env H):=WO.nil YS.mk
end
section
variable {P:Program} {o:Oper} {env:Env} {H:Qd}
theorem QnM{ro:Nat->Prop}{σ:Sig}{w:World}(g:GP w){b:Nat}{zs:List Int}(h:QiD[b]?=some zs):∀(i:Nat),CR ro σ w b ((zs.drop i).map (A.int .i64)) i:=by
 intro i;generalize hl:zs.drop i=l
 induction l generalizing i with
 |nil=>trivial
 |cons z l d=>
  have e:zs[i]?=some z:=by
   have:=congrArg (·[0]?) hl
   grind
  have a:zs.drop (i+1)=l:=by
   rw[<- List.drop_drop,hl];rfl
  exact⟨⟨_,g.tab b zs h i z e,by simp[Qo],rfl⟩,d (i+1) a⟩
theorem Qgc{t n g:Nat}{zs:List Int}(j:∀w,(isAgg t).run P w=.ok true w)(k:∀w,(sizeOf t).run P w=.ok n w)(hg:QiD[g]?=some zs)(e:zs.length=n)(m:o.op=.load t (.global g):=by exact rfl):
  OpV P o env H (.agg (zs.map (A.int .i64))):=by
 intro i ro σ N a w r;obtain⟨l,f,_,d⟩:=Yx (P:=P) (b:=g) (cs:=zs.map (A.int .i64)) (off:=0) 0 (by simpa using QnM (ro:=ro) (σ:=σ) r.sim.roOk.gp hg 0);have d:=d w #[] rfl;rw[X0,e]at d;refine⟨.agg l.toArray,?_,l,rfl,f⟩;have h:a.eval (.global g)=.pointer (some ⟨g,0,none⟩):=rfl
 simp_all[execOp,Instr.loadAt,Instr.sureAddr,loadVar,loadCells]
end
open Go.Proofs
section
variable {P:Program}
def toV(agg:Bool)(l:List Value):Value:=bif agg then .agg l.toArray else l.headD .nilFunc
structure QkW (P:Program) (t:TypeId) (h k:Nat) (agg:Bool) (ok:List Value->Prop):Prop where
 len:∀l,ok l->l.length=k
 ia:∀w,(isAgg t).run P w=.ok agg w
 so:∀w,(sizeOf t).run P w=.ok k w
 eq:∀(w:World) (d:Nat) (l m:List Value),ok l->ok m->∃b:Bool,(Op.equalIn (d+h) t (toV agg l) (toV agg m)).run P w=.ok b w/\(b=true↔l=m)
structure QmT (P:Program) (fs:List Field) (h off k:Nat) (ok:List Value->Prop):Prop where
 len:∀l,ok l->l.length=k
 eq:∀(w:World) (d:Nat) (p q l m:List Value),p.length=off->q.length=off->ok l->ok m->∃b:Bool,(Op.eqFields (d+h) (p++l).toArray (q++m).toArray fs).run P w=.ok b w/\(b=true↔l=m)
theorem QkW.int{t:TypeId}{k:IntKind}(e:P.underlying t=some (.int k))(b:∀w,(isAgg t).run P w=.ok false w)(a:∀w,(sizeOf t).run P w=.ok 1 w)(h:Nat):QkW P t (h+1) 1 false (λl=>∃n:Int,l=[.int k n]):=by
 refine⟨?_,b,a,?_⟩
 .simp
 .rintro w d _ _ ⟨n,rfl⟩ ⟨m,rfl⟩;exact⟨_,run_equalIn_int w (d+h) t k k n m e,by simp⟩
theorem QkW.bool{t:TypeId}(e:P.underlying t=some .bool)(b:∀w,(isAgg t).run P w=.ok false w)(a:∀w,(sizeOf t).run P w=.ok 1 w)(h:Nat):QkW P t (h+1) 1 false (λl=>∃n:Bool,l=[.bool n]):=by
 refine⟨?_,b,a,?_⟩
 .simp
 .rintro w d _ _ ⟨n,rfl⟩ ⟨m,rfl⟩;exact⟨_,run_equalIn_bool' w (d+h) t n m e,by simp⟩
theorem QmT.nil(h off:Nat):QmT P [] h off 0 (λl=>l=[]):=by
 refine⟨?_,?_⟩
 .simp
 simp_all[Op.eqFields]
theorem Qhj{t:TypeId}{k:Nat}{agg:Bool}{w:World}(d:∀w,(isAgg t).run P w=.ok agg w)(g:∀w,(sizeOf t).run P w=.ok k w)(p a f:List Value)(b:a.length=k)(e:agg=false->k=1):
  (part t (p++(a++f)).toArray p.length).run P w=.ok (toV agg a) w:=by
 unfold part;cases agg with
 |true=>
  simp_all[toV]
 |false=>
  have:=e rfl;subst this
  match a,b with
  |[v],_=>simp[d,go_sem,toV]
theorem QmT.cons{f:Field}{fs:List Field}{h off r E:Nat}{agg:Bool}{i k:List Value->Prop}(V:Nat.beq f.offset off=true)(Q:f.name≠"_")(g:QkW P f.type h r agg i)(B:agg=false->r=1)(x:QmT P fs h (off+r) E k):
  QmT P (f::fs) h off (r+E) (λl=>∃l1 l2,l=l1++l2/\i l1/\k l2):=by
 have s:f.offset=off:=(by simp_all);refine⟨?_,?_⟩
 .rintro _ ⟨l1,l2,rfl,a,b⟩;rw[X2,g.len _ a,x.len _ b]
 .rintro w d p q _ _ G y ⟨l1,l2,rfl,n,M⟩ ⟨j,t,rfl,m,L⟩;have H:=Qhj (P:=P) (w:=w) g.ia g.so p l1 l2 (g.len _ n) B;have u:=Qhj (P:=P) (w:=w) g.ia g.so q j t (g.len _ m) B;rw[G]at H;rw[y]at u;obtain⟨F,O,T⟩:=g.eq w d l1 j n m;obtain⟨J,z,R⟩:=x.eq w d (p++l1) (q++j) l2 t (by rw[X2,G,g.len _ n]) (by rw[X2,y,g.len _ m]) M L;rw[Vh,Vh]at z;have N:l1.length=j.length:=by rw[g.len _ n,g.len _ m]
  refine⟨F&&J,?_,?_⟩
  .generalize(p++(l1++l2)).toArray=X at*;generalize(q++(j++t)).toArray=Y at*;cases F<;>simp[Op.eqFields,Q,s,Vl,Result.andThen,H,u,O,z]
  .rw[XW,T,R];constructor
   .grind
   .intro e;exact List.append_inj e N
theorem QkW.struct{t:TypeId}{h k:Nat}{ok:List Value->Prop}(j:P.underlying t=some (.struct (P.fieldsOf t)))(n:P.stoodInHeld t=false)(i:∀w,(isAgg t).run P w=.ok true w)(g:∀w,(sizeOf t).run P w=.ok k w)(e:QmT P (P.fieldsOf t).toList h 0 k ok):QkW P t (h+1) k true ok:=by
 refine⟨e.len,i,g,λw d l m a b=>?_⟩;obtain⟨r,p,f⟩:=e.eq w d [] [] l m rfl rfl a b;refine⟨r,?_,f⟩;show(Op.equalIn (d+h+1) t (.agg l.toArray) (.agg m.toArray)).run P w=_
 grind[run_equalIn_agg]
theorem QK{t:TypeId}{h k:Nat}{fs:Array Field}{ok:List Value->Prop}(d:P.underlying t=some (.struct fs))(f:P.stoodInHeld t=false)(b:∀w,(isAgg t).run P w=.ok true w)(a:∀w,(sizeOf t).run P w=.ok k w)(e:QmT P fs.toList h 0 k ok):QkW P t (h+1) k true ok:=by
 grind[Program.fieldsOf,QkW.struct]
structure EqD (P:Program) (t:TypeId) {α:Type} (cells:α->List A):Prop where
 scl:∀x,Qgq (cells x)=true
 inj:∀x y,YM (cells x)=YM (cells y)->x=y
 guard:P.eqGuardType P.depth t=false
 eq:∀(w:World) x y,∃b:Bool,(Op.equalIn 10000 t (.agg (YM (cells x)).toArray) (.agg (YM (cells y)).toArray)).run P w=.ok b w/\(b=true↔YM (cells x)=YM (cells y))
theorem QjW{α:Type}{cells:α->List A}{t h k:Nat}{ok:List Value->Prop}(E:QkW P t h k true ok)(d:Nat.ble h 10000=true)(a:∀x,ok (YM (cells x)))(b:∀x,Qgq (cells x)=true)(hi:∀x y,YM (cells x)=YM (cells y)->x=y)(hg:P.eqGuardType P.depth t=false):EqD P t cells:=by
 refine⟨b,hi,hg,λw x y=>?_⟩;have:=E.eq w (10000-h) (YM (cells x)) (YM (cells y)) (a x) (a y)
 rwa [show 10000-h+h=10000 by simp_all]at this
variable {o:Oper} {env:Env} {H:Qd}
theorem Qge{α:Type}[DecidableEq α]{cells:α->List A}{t u:TypeId}{x y:Operand}{p q:α}(E:EqD P t cells)(m:opA env x=.agg (cells p))(k:opA env y=.agg (cells q))(n:o.op=.binOp .eql t x y u:=by exact rfl):OpV P o env H (.bool (p==q)):=by
 intro F B σ N a w r;have h:=Qj r x;have g:=Qj r y;rw[m]at h;rw[k]at g;have z:=VR.val (a:=.agg (cells p)) (E.scl p) h;have i:=VR.val (a:=.agg (cells q)) (E.scl q) g;obtain⟨b,j,s⟩:=E.eq w p q;have l:b=(p==q):=by
  rw[XX,s,Vx];exact⟨E.inj p q,λe=>by rw[e]⟩
 refine⟨.bool (p==q),?_,rfl⟩;rw[<- l];generalize a.eval=ρ at*;have f:ρ x=.agg (YM (cells p)).toArray:=z;have d:ρ y=.agg (YM (cells q)).toArray:=i;simp[execOp,n,f,d,go_sem,run_eqGuard_agg _ _ _ _ _ _ _ E.guard,run_eql_struct,j]
theorem Qgd{α:Type}[DecidableEq α]{cells:α->List A}{t u:TypeId}{x y:Operand}{p q:α}(E:EqD P t cells)(m:opA env x=.agg (cells p))(k:opA env y=.agg (cells q))(n:o.op=.binOp .neq t x y u:=by exact rfl):OpV P o env H (.bool (p != q)):=by
 intro F B σ N a w r;have h:=Qj r x;have g:=Qj r y;rw[m]at h;rw[k]at g;have z:=VR.val (a:=.agg (cells p)) (E.scl p) h;have i:=VR.val (a:=.agg (cells q)) (E.scl q) g;obtain⟨b,j,s⟩:=E.eq w p q;have l:b=(p==q):=by
  rw[XX,s,Vx];exact⟨E.inj p q,λe=>by rw[e]⟩
 refine⟨.bool (p != q),?_,rfl⟩;rw[bne, <- l];generalize a.eval=ρ at*;have f:ρ x=.agg (YM (cells p)).toArray:=z;have d:ρ y=.agg (YM (cells q)).toArray:=i;simp[execOp,n,f,d,go_sem,run_eqGuard_agg _ _ _ _ _ _ _ E.guard,run_neq_struct,j]
end
end Go.Sw
namespace Go.Sw
structure Qfg (g g':Nat->Prop) (W W':World):Prop where
 sub:∀b,g b->g' b
 new:∀b,g' b->g b\/W.heap.size<=b
 lt:∀b,g' b->b<W'.heap.size
 all:∀b,W.heap.size<=b->b<W'.heap.size->g' b
 keep:∀b,b<W.heap.size->¬g b->W'.heap[b]?=W.heap[b]?
 size:W.heap.size<=W'.heap.size
 shape:∀b x,W.shape? b=some x->W'.shape? b=some x
 os:W'.os=W.os
 tape:W'.tape=W.tape
 output:W'.output=W.output
 drawn:W.drawn<=W'.drawn
abbrev Jv(T:Type):=List T->(Nat->Prop)->(Nat->Prop)->World->Prop
structure Qn9 {T:Type} (J:Jv T):Prop where
 ev:∀rem q g W W' ro',J rem q g W->Qi g q W ro' W'->J rem q g W'
 up:∀rem q g g' W,J rem q g W->(∀b,g b->g' b)->(∀b,g' b->b<W.heap.size)->J rem q g' W
theorem Sim.round{fr g g' ro:Nat->Prop}{σ:Sig}{H:Qd}{W W':World}(s:Sim fr ro σ H W)(a:∀b,g b->fr b)(k:Qfg g g' W W'):Sim (λb=>fr b\/g' b) ro σ H W'/\Qi (λb=>b<W.heap.size/\ ¬g b) ro W ro W':=by
 have e:∀b,ro b->W'.heap[b]?=W.heap[b]? :=λb q=>k.keep b (s.roLt b q) (λr=>s.roFr b q (a b r));have l:Ext ro σ W ro σ W':=by
  have ev:Qi (λ_=>False) ro W ro W':=⟨λ_ q=>q,e,λ_ q=>q.elim,k.size,k.shape,k.os,k.tape,k.output,k.drawn⟩;have:=ev.ext σ []
  grind
 refine⟨⟨s.len,s.roOk.to (λ_ q=>q) e (λb q=>Ve (s.roLt b q) k.size),λb q=>q.elim (λq=>Ve (s.frLt b q) k.size) (k.lt b),λb q r=>?_,λi b x h f B=>?_,s.inj,λi y x h f=>?_,
  s.hidTo (· = ·) Q3 k.size (by simp) (λi b x c h f B F=>F.elim id λq=>(k.new c q).elim (a c) λm=>(by have:=(s.hid i b x c h f B).lt;omega)) λj d y p n G=>.inl ⟨j,y,rfl,p,n,id,λc q=>s.hidKeep p n (λz=>k.keep d (s.own j d y p n z).1 λr=>(s.own j d y p n z).2.2 (a d r)) e q⟩⟩,
  ⟨λ_ q=>q,e,λb q=>k.keep b q.1 q.2,k.size,k.shape,k.os,k.tape,k.output,k.drawn⟩⟩
 .rcases r with r|r
  .exact s.roFr b q r
  .rcases k.new b r with m|m
   .exact s.roFr b q (a b m)
   .have:=s.roLt b q;omega
 .obtain⟨u,E,w⟩:=s.own i b x h f B;refine⟨Ve u k.size,E,λr=>?_⟩;rcases r with r|r
  .exact w r
  .rcases k.new b r with m|m
   .grind
   .omega
 .refine(s.blk i y x h f).keep l ?_ ?_
  .rintro b rfl t;obtain⟨u,E,w⟩:=s.own i b x h f t;exact k.keep b u (λr=>w (a b r))
  .rintro b c rfl t;have q:=s.hid i b x c h f t;exact k.keep c q.lt (λr=>q.fr (a c r))
def Qo6{T:Type}(J Jx:Jv T)(g ri:Nat->Prop)(W1:World)(rem:List T):Ending->World->Prop:=λe W'=>
 ∃g' q',(∀b,q' b->ri b)/\Qfg g g' W1 W'/\((e=.returned (.bool true)/\J rem q' g' W')\/(e=.returned (.bool false)/\Jx rem q' g' W'))
structure Ctx (T:Type) where
 l:Nat
 J:Jv T
 Jx:Jv T
 enc:T->List A
 nx:List T->T->List T->Prop
structure Ctx.ok {T:Type} (X:Ctx T) (P:Program):Prop where
 b:Qn9 X.J
 bx:Qn9 X.Jx
 round:∀l x rem q g ri W1 vs,X.nx l x rem->X.J l q g W1->(∀b,q b->ri b)->(∀b,ri b->b<W1.heap.size/\ ¬g b)->LR ri [] W1 (X.enc x) vs->YieldAt Fence.wide 0 P X.l vs.toArray W1 (Qo6 X.J X.Jx g ri W1 rem)
def QmH{T:Type}(P:Program)(f:FuncId)(caps:List A)(H:Qd)(enc:T->List A)(nx:List T->T->List T->Prop)(xs:List T):Prop:=
 ∀(X:Ctx T),X.enc=enc->X.nx=nx->X.ok P->∀fr ro σ w capv q,Sim fr ro σ H w->(∀b,q b->ro b)->LR ro σ w caps capv->X.J xs q fr w->
  Calls P f ((Value.func (.yield X.l) #[] #[]::capv)).toArray w λe W'=>(∃v,e=.returned v)/\ ∃g q',(∀b,fr b->g b)/\((X.J [] q' g W')\/(∃rem,X.Jx rem q' g W'))
inductive YSt (T:Type) where
 |on (rem:List T)
 |off (rem:List T)
def Ctx.J'{T:Type}(X:Ctx T):YSt T->(Nat->Prop)->(Nat->Prop)->World->Prop
 |.on rem=>X.J rem
 |.off rem=>X.Jx rem
def Ctx.at{T:Type}(X:Ctx T)(st:YSt T)(g ro:Nat->Prop)(W:World):Prop:=∃q,(∀b,q b->ro b)/\X.J' st q g W
theorem Qi.roMono{fr ro ro0 ro':Nat->Prop}{w w':World}(h:Qi fr ro w ro' w')(s:∀b,ro0 b->ro b):Qi fr ro0 w ro' w':=
 ⟨λb q=>h.sub b (s b q),λb q=>h.keepRo b (s b q),h.keepFr,h.size,h.shape,h.os,h.tape,h.output,h.drawn⟩
theorem Ctx.ok.ev{T:Type}{X:Ctx T}{P:Program}(h:X.ok P){e:YSt T}{g ro ro':Nat->Prop}{W W':World}(a:X.at e g ro W)(he:Qi g ro W ro' W'):X.at e g ro' W':=by
 obtain⟨q,d,a⟩:=a;refine⟨q,λb z=>he.sub b (d b z),?_⟩;cases e with
 |on rem=>exact h.b.ev rem q g W W' ro' a (he.roMono d)
 |off rem=>exact h.bx.ev rem q g W W' ro' a (he.roMono d)
theorem Ctx.ok.up{T:Type}{X:Ctx T}{P:Program}(h:X.ok P){d:YSt T}{g g' ro:Nat->Prop}{W:World}(a:X.at d g ro W)(hg:∀b,g b->g' b)(e:∀b,g' b->b<W.heap.size):X.at d g' ro W:=by
 obtain⟨q,f,a⟩:=a;refine⟨q,f,?_⟩;cases d with
 |on rem=>exact h.b.up rem q g g' W a hg e
 |off rem=>exact h.bx.up rem q g g' W a hg e
abbrev YD(T:Type):=AEx->Env->Qd->YSt T->Prop
structure In (g fr:Nat->Prop) (ds:List Deferred):Prop where
 sub:∀b,g b->fr b
 beside:∀D,({target:=.collected D,args:= #[]}:Deferred)∈ds->¬g D
def QcU{T:Type}(X:Ctx T)(h0:Nat)(fr ro:Nat->Prop)(σ:Sig)(w:World)(N:Nat)(ds:List Deferred)(Q:YD T):Exit->Act->World->Prop:=
 λe a' w'=>∃x env' H' st ro' σ' fr' g',ExR e x/\Q x env' H' st/\Rel fr' ro' σ' H' env' N a' w'/\(X.at st g' ro' w'/\In g' fr' a'.defers)/\(∀b,ro b->ro' b)/\w.heap.size<=w'.heap.size/\σ'.take h0=σ.take h0/\Grow fr w ds fr' a'.defers
theorem QcU.grow{T:Type}{X:Ctx T}{i:Nat}{fr a ro d:Nat->Prop}{σ σ1:Sig}{w w1:World}{N:Nat}{l f:List Deferred}{Q:YD T}{e:Exit}{a':Act}{w':World}
  (h:QcU X i a d σ1 w1 N f Q e a' w')(F:∀b,ro b->d b)(m:w.heap.size<=w1.heap.size)(B:σ1.take i=σ.take i)(hg:Grow fr w l a f):QcU X i fr ro σ w N l Q e a' w':=by
 obtain⟨x,g,H',u,j,σ',k,p,t,n,s,z,E,q,y,r⟩:=h;exact⟨x,g,H',u,j,σ',k,p,t,n,s,z,(by grind),XV m q,y.trans B,hg.trans m r⟩
def TCy{T:Type}(X:Ctx T)(P:Program)(h0 N:Nat)(c:Code)(env:Env)(H:Qd)(st:YSt T)(Q:YD T):Prop:=
 X.ok P->∀rd fr ro σ a w g,Rel fr ro σ H env N a w->X.at st g ro w/\In g fr a.defers->rd=none->c.wpIn (WF rd) 0 P (QcU X h0 fr ro σ w N a.defers Q) a w
def WOy{T:Type}(X:Ctx T)(P:Program)(h0 N:Nat)(all:Array Oper)(l:List Oper)(env:Env)(H:Qd)(st:YSt T)(Q:YD T):Prop:=
 X.ok P->∀rd fr ro σ a w g,Rel fr ro σ H env N a w->X.at st g ro w/\In g fr a.defers->rd=none->wpL P rd all (QcU X h0 fr ro σ w N a.defers Q) l a w
theorem In.later{fr a g:Nat->Prop}{w:World}{ds d:List Deferred}(h:In g fr ds)(f:∀b,fr b->b<w.heap.size)(hg:Grow fr w ds a d):In g a d:=by
 refine⟨λb q=>hg.sub b (h.sub b q),λD hD q=>?_⟩;rcases hg.ds _ hD with r|⟨D',e,r⟩
 .exact h.beside D r q
 .have:D=D':=by simpa using e
  subst this;have:=f D (h.sub D q);omega
section
variable {T:Type} {X:Ctx T} {P:Program} {h0 N:Nat} {c c':Code} {env:Env} {H:Qd} {st:YSt T} {Q:YD T}
theorem QkF{fr ro:Nat->Prop}{σ:Sig}{w:World}{d:List Deferred}{e:Exit}{a':Act}{w':World}(q:X.ok P)(h:QaM h0 fr ro σ w N d (λx env H=>Q x env H st) e a' w'){g:Nat->Prop}(p:∀b,fr b->b<w.heap.size)(k:X.at st g ro w/\In g fr d):
  QcU X h0 fr ro σ w N d Q e a' w':=by
 obtain⟨x,a,H',i,σ',f,s,n,r,j,m,l⟩:=h;exact⟨x,a,H',st,i,σ',f,g,s,n,r,⟨q.ev k.1 (j.frMono k.2.sub),k.2.later p l⟩,j.sub,j.size,m,l⟩
theorem TCy.lift(h:TC P h0 N c env H (λx env H=>Q x env H st)):TCy X P h0 N c env H st Q:=
 λhX rd fr ro σ a w g r hj hrd=>Code.wpIn_mono (λe a' w' q=>QkF hX q r.sim.frLt hj) (h rd fr ro σ a w r (hrd▸Qdt))
def SeqY(X:Ctx T)(P:Program)(h0 N:Nat)(c:Code)(Q:YD T):YD T
 |.normal,env,H,st=>TCy X P h0 N c env H st Q
 |.exit id,env,H,st=>Q (.exit id) env H st
 |.ret,env,H,st=>Q .ret env H st
theorem TCy.seq(h:TCy X P h0 N c env H st (SeqY X P h0 N c' Q)):TCy X P h0 N (.seq c c') env H st Q:=by
 intro z y E B σ a w g r hj hrd;refine wpIn_seq (Code.wpIn_mono ?_ (h z y E B σ a w g r hj hrd));rintro e G F ⟨x,b,H',i,d,σ',f,t,j,s,u,p,k,m,n,l⟩;cases e with
 |normal=>
  obtain rfl:x=.normal:=j;exact Code.wpIn_mono (λe a w q=>q.grow k m n l) (s z y f d σ' G F t u p hrd)
 |exit id=>
  obtain rfl:x=.exit id:=j;exact⟨_,b,H',i,d,σ',f,t,rfl,s,u,p,k,m,n,l⟩
 |ret=>
  obtain rfl:x=.ret:=j;exact⟨_,b,H',i,d,σ',f,t,rfl,s,u,p,k,m,n,l⟩
 |_=>exact j.elim
theorem TCy.region{id:Nat}{l:List Oper}(h:WOy X P h0 N l.toArray l env H st Q):TCy X P h0 N (.region id l.toArray false) env H st Q:=
 λhX rd fr ro σ a w g r hj hrd=>wpIn_region_lit (h hX rd fr ro σ a w g r hj hrd)
theorem TCy.cond{x:Operand}{t:Bool}(l:opA env x=.bool t)(k:t=true->TCy X P h0 N c env H st Q)(j:t=false->TCy X P h0 N c' env H st Q):TCy X P h0 N (.cond x c c') env H st Q:=by
 intro f b i d σ a w g r hj hrd;have h:=Qj r x;rw[l]at h;exact wpIn_cond_split h (λe=>k e f b i d σ a w g r hj hrd) (λe=>j e f b i d σ a w g r hj hrd)
theorem WOy.nil{all:Array Oper}(h:Q .normal env H st):WOy X P h0 N all [] env H st Q:=
 λhX rd fr ro σ a w g r hj hrd=>⟨_,env,H,st,ro,σ,fr,g,rfl,h,r,hj,λ_ q=>q,XT _,rfl,Grow.refl _ _ _⟩
end
theorem Qij{P:Program}{rd:Option Nat}{o:Oper}{a:Act}{K K':Act->World->Prop}{Q Q':Exit->Act->World->Prop}(g:∀a w,K a w->K' a w)(n:∀ch a w,Q (.panic ch) a w->Q' (.panic ch) a w)(m:∀a w,Q .outgrown a w->Q' .outgrown a w)
  {r:Result Next}(h:o.uponIn (WF rd) 0 P a K Q r):o.uponIn (WF rd) 0 P a K' Q' r:=by
 cases r with
 |ok x w=>
  cases x with
  |value v=>exact g _ _ h
  |skip=>exact g _ _ h
  |defer d=>exact g _ _ h
  |enter f b=>
   refine⟨h.1,CallsIn.mono h.2 ?_⟩;intro e i q;cases e with
   |returned v=>grind
   |panicked c=>grind
   |outgrown=>obtain⟨a,w,q⟩:=q;exact⟨a,w,m _ _ q⟩
  |row r b=>exact⟨h.1,RowsIn.mono h.2 λv i q=>g _ _ q⟩
  |round l f k assign j=>
   refine⟨h.1,RoundIn.mono h.2 ?_⟩;intro e i q;cases e with
   |returned v=>grind
   |panicked c=>grind
   |outgrown=>obtain⟨a,w,q⟩:=q;exact⟨a,w,m _ _ q⟩
  |_=>exact h
 |halt x w=>
  cases x with
  |panic v=>exact n _ _ _ h
  |_=>exact h
section
variable {T:Type} {X:Ctx T} {P:Program} {h0 N:Nat} {env:Env} {H:Qd} {st:YSt T} {Q:YD T}
theorem WOy.step{all:Array Oper}{o:Oper}{rest:List Oper}(h:WO P h0 N all [o] env H (λx env' H'=>x=.normal/\WOy X P h0 N all rest env' H' st Q)):WOy X P h0 N all (o::rest) env H st Q:=by
 intro t m p k σ a w g r hj hrd;have J:∀i d,Qbw h0 p k σ w N a.defers (λx env' H'=>x=.normal/\WOy X P h0 N all rest env' H' st Q) .normal i d->wpL P m all (QcU X h0 p k σ w N a.defers Q) rest i d:=by
  rintro i d ⟨x,env',H',b,σ',f,G,⟨_,B⟩,E,n,u,y,z⟩;have s:X.at st g b d/\In g f i.defers:=⟨t.ev hj.1 (n.frMono hj.2.sub),by rw[y];exact hj.2.later r.sim.frLt z⟩;have:=B t m f b σ' i d g E s hrd;refine Ym (λe l w2 q=>?_) _ _ _ this;exact q.grow n.sub n.size u (by grind)
 have j:=h m p k σ a w r (hrd▸Qdt);unfold wpL wpListIn at j⊢;split
 .rename_i F;rw[Vs F]at j;refine⟨j.1,Qij (λl w2 q=>?_) (λL l w2 q=>?_) (λl w2 q=>?_) j.2⟩
  .unfold wpListIn at q
   grind
  .obtain⟨x,_,_,_,_,_,q,_⟩:=q;exact q.elim
  .obtain⟨x,_,_,_,_,_,q,_⟩:=q;exact q.elim
 simp_all[wpListIn]
theorem WOy.yield{all:Array Oper}{o:Oper}{rest:List Oper}{d:Nat}{x:T}{O rem:List T}(G:X.nx O x rem)(hg:Qs all o env true)(B:o.dst=some d)(hN:Nat.blt d N=true)
  (M:∀fr ro σ a w,Rel fr ro σ H env N a w->∃vs:List Value,LR ro [] w (X.enc x) vs/\(execOp a.eval o).run P w=(Instr.yield X.l vs.toArray).run P w)
  (k:∀b:Bool,WOy X P h0 N all rest (up env d (.bool b)) H (bif b then .on rem else .off rem) Q):WOy X P h0 N all (o::rest) env H (.on O) Q:=by
 intro W J fr ro σ a w g r hj hrd;obtain⟨vs,hv,he⟩:=M fr ro σ a w r;obtain⟨q,hq,L⟩:=hj.1;obtain⟨fn,tmps,assign,V,h1,h2⟩:=W.round O x rem q g ro w vs G L hq (λb z=>⟨r.sim.roLt b z,λy=>r.sim.roFr b z (hj.2.sub b y)⟩) hv;have h3:=he.trans h1;unfold wpL wpListIn;rw[Vs (YX hg r)];refine⟨λ_ _=>trivial,?_⟩;rw[Qcu h3 (λd e=>by cases e)];refine⟨λh=>by simp[WF,Fence.wide]at h,?_⟩;refine RoundIn.mono (F:=WF J) (n:=0) h2 ?_;rintro e j ⟨i,u,m,t,f⟩;obtain⟨s',ev⟩:=r.sim.round hj.2.sub t;have R:d<N:=by simp_all
 have p:Ext ro σ w ro σ j:=by have:=ev.ext σ [];grind
 have fin:∀b:Bool,X.at (bif b then .on rem else .off rem) i ro j->wpL P J all (QcU X h0 fr ro σ w N a.defers Q) rest (a.put o.dst (.bool b)) j:=by
  intro b f;have hm:Qcc (λb=>fr b\/i b) a.defers j:=by
   refine⟨r.defers.1,λd B=>?_⟩;obtain⟨D,rfl,E,q2⟩:=r.defers.2 d B;exact⟨D,rfl,.inl E,(t.keep D (r.sim.frLt D E) (hj.2.beside D B)).trans q2⟩
  have Y:In i (λb=>fr b\/i b) a.defers:=by
   refine⟨λb q=>.inr q,λD hD q=>?_⟩;rcases t.new D q with u|u
   .exact hj.2.beside D hD u
   .obtain⟨D',e,E,_⟩:=r.defers.2 _ hD
    grind
  have r':Rel (λb=>fr b\/i b) ro σ H (up env d (.bool b)) N {a with tmps:=a.tmps.setIfInBounds d (.bool b)} j:=
   ⟨s',VR.up (fr:=fr) (λs=>(r.env s).mono p) (by rw[r.size];exact R) rfl,by simpa using r.size,hm⟩
  have:=k b W J _ ro σ _ j i r' ⟨f,Y⟩ hrd;simp only[B,Act.put];refine Ym (λe a2 w2 q=>q.grow (λ_ q=>q) t.size rfl ⟨λ_ q=>.inl q,λb q=>?_,λ_ q=>.inl q⟩) _ _ _ this;rcases q with q|q
  .exact .inl q
  .rcases t.new b q with q|q
   .exact .inl (hj.2.sub b q)
   omega
 rcases f with⟨rfl,f⟩|⟨rfl,f⟩
 .exact fin true ⟨u,m,f⟩
 .exact fin false ⟨u,m,f⟩
end
def EndY{T:Type}:YD T:=λx env H st=>(x=.normal\/x=.ret)/\(st=.on []\/ ∃rem,st=.off rem)
theorem QgX{T:Type}{P:Program}{f:FuncId}{fn:Func}{c:Code}{N:Nat}{a:List A}{H:Qd}{enc:T->List A}{nx:List T->T->List T->Prop}{xs:List T}
  (hf:P.funcs[f]?=some fn)(hb:fn.body=some c)(hN:fn.ntmps=N)(hA:Nat.ble (a.length+1) N=true)(hR:fn.results= #[])
  (h:∀X:Ctx T,X.enc=enc->X.nx=nx->TCy X P H.length N c (Qf3 0 (.fn (.yield X.l) [] []::a)) H (.on xs) EndY):QmH P f a H enc nx xs:=by
 intro X hE hNx hX fr ro0 σ w capv q0 hs hq0 hl hj;have m:LR ro0 σ w (.fn (.yield X.l) [] []::a) (Value.func (.yield X.l) #[] #[]::capv):=⟨_,_,rfl,⟨[],[],rfl,rfl,rfl⟩,hl⟩;have O:=m.length;have aa:a.length+1<=N:=by simp_all
 refine(callsIn_wide (n:=0)).1 (callsIn_of_wp_marks hf hb trivial (Code.wpIn_mono ?_ (h X hE hNx hX none fr ro0 σ _ w fr ⟨hs,?_,?_,List.nodup_nil,λd u=>by cases u⟩ ⟨⟨q0,hq0,hj⟩,λ_ q=>q,λD hD=>by cases hD⟩ rfl)))
 .rintro e G Q ⟨x,V,H1,st,F,σ1,Y,y,R,⟨h2,B⟩,j,⟨h4,k⟩,h5,h6,h7,W⟩;have r:LeavesInM Fence.wide 0 P fn G.tmps (λe W'=>(∃v,e=.returned v)/\ ∃g q',(∀b,fr b->g b)/\((X.J [] q' g W')\/(∃rem,X.Jx rem q' g W'))) G.defers .returning Q:=by
   refine Qbi (ro:=F) (fr:=y) (σ:=σ1) (H:=H1) G.defers Q j.defers.1 (λd u=>?_) (j.sim.frMono k.sub) (λw2 s2 p=>?_)
   .obtain⟨D,rfl,z,q2⟩:=j.defers.2 d u;exact⟨D,rfl,λq=>j.sim.roFr D q z,k.beside D u,λi x M L E=>(j.sim.own i D x M L E).2.2 z,λi d x M L E=>(j.sim.hid i d x D M L E).fr z,q2⟩
   .have t:=hX.up (hX.ev h4 p) (g':=λb=>y b\/fr b) (λb q=>.inl q) (λb q=>Ve (j.sim.frLt b (q.elim (k.sub b) (W.sub b))) p.size);obtain⟨q9,_,t⟩:=t;refine⟨.tuple #[],by simp[results,hR,go_sem],⟨_,rfl⟩,λb=>y b\/fr b,q9,λb q=>.inr q,?_⟩;rcases B with rfl|⟨rem,rfl⟩
    .exact .inl t
    .exact .inr ⟨rem,t⟩
  cases e with
  |normal=>exact r
  |ret=>exact r
  |exit id=>
   obtain rfl:x=.exit id:=R
   grind
  |_=>exact R.elim
 .intro s;have:=QeK (i:=0) [] rfl m (Array.replicate (fn.ntmps-(Value.func (.yield X.l) #[] #[]::capv).toArray.size) undef) s
  grind
 grind
section
variable {T:Type} {X:Ctx T} {P:Program} {h0 N:Nat} {c c':Code} {env:Env} {H:Qd} {st:YSt T} {Q Q':YD T}
theorem TCy.mono(h:TCy X P h0 N c env H st Q)(t:∀x env H st,Q x env H st->Q' x env H st):TCy X P h0 N c env H st Q':=by
 intro n k p m σ a w g r hj hrd;refine Code.wpIn_mono ?_ (h n k p m σ a w g r hj hrd);rintro e u y ⟨x,b,H',d,i,σ',f,l,s,j,q⟩;exact⟨x,b,H',d,i,σ',f,l,s,t _ _ _ _ j,q⟩
theorem TCy.skip(h:Q .normal env H st):TCy X P h0 N .skip env H st Q:=TCy.lift (TC.skip h)
theorem TCy.ret(h:Q .ret env H st):TCy X P h0 N .ret env H st Q:=TCy.lift (TC.ret h)
theorem TCy.exit{id:Nat}(h:Q (.exit id) env H st):TCy X P h0 N (.exit id) env H st Q:=TCy.lift (TC.exit h)
def BloY(id:Nat)(Q:YD T):YD T
 |.normal,env,H,st=>Q .normal env H st
 |.exit id',env,H,st=>bif Nat.beq id' id then Q .normal env H st else Q (.exit id') env H st
 |.ret,env,H,st=>Q .ret env H st
theorem TCy.block{id:Nat}(h:TCy X P h0 N c env H st (BloY id Q)):TCy X P h0 N (.block id c) env H st Q:=by
 intro t p y s σ a w g r hj hrd;refine wpIn_block (Code.wpIn_mono ?_ (h t p y s σ a w g r hj hrd));rintro e z B ⟨x,b,H',f,j,σ',i,l,n,k,m⟩;cases e with
 |normal=>
  obtain rfl:x=.normal:=n;exact⟨_,b,H',f,j,σ',i,l,rfl,k,m⟩
 |exit d=>
  obtain rfl:x=.exit d:=n;show Exit.inBlock id _ _ _ _;unfold Exit.inBlock;simp only[BloY]at k;by_cases q:d=id
  .subst q;rw[VE,Vn]at k;simp only[if_true];exact⟨.normal,b,H',f,j,σ',i,l,rfl,k,m⟩
  .have u:Nat.beq d id=false:=by
    cases e:Nat.beq d id with
    |false=>rfl
    |true=>simp_all
   rw[u,Vp]at k;simp only[q,if_false];exact⟨.exit d,b,H',f,j,σ',i,l,rfl,k,m⟩
 |ret=>
  obtain rfl:x=.ret:=n;exact⟨_,b,H',f,j,σ',i,l,rfl,k,m⟩
 |_=>exact n.elim
end
section
variable {T:Type} {X:Ctx T} {P:Program} {h0 N:Nat} {c:Code} {env:Env} {H:Qd} {st:YSt T} {Q:YD T}
def QkP(I:Env->Qd->YSt T->Prop)(Q:YD T):YD T
 |.normal,env,H,st=>I env H st
 |.exit id,env,H,st=>Q (.exit id) env H st
 |.ret,env,H,st=>Q .ret env H st
theorem Qkz{I:Nat->Env->Qd->YSt T->Prop}(body:∀n env H st,I n env H st->TCy X P h0 N c env H st (QkP (λenv H st=>∃n',n'<n/\I n' env H st) Q)){n:Nat}(F:I n env H st):TCy X P h0 N (.loop c) env H st Q:=by
 intro hX O B y σ a w g r hj hrd b k cs hro hb hr;have J:∀m n env H st fr1 ro1 σ1 a1 w1 g1,n<m->I n env H st->Rel fr1 ro1 σ1 H env N a1 w1->(∀b,y b->ro1 b)->w.heap.size<=w1.heap.size->σ1.take h0=σ.take h0->Grow B w a.defers fr1 a1.defers->X.at st g1 ro1 w1/\In g1 fr1 a1.defers->
   ∃e i h,QcU X h0 B y σ w N a.defers Q e i h/\ArrivesIn (Machine.fenced P (WF O)) P (lone (b.atR a1 (.code c::.inLoop c::k)) cs w1) b k cs e i h:=by
  intro m
  induction m with
  |zero=>omega
  |succ m ih=>
   intro n env H st fr1 ro1 σ1 a1 w1 g1 hn F r1 s1 z1 t1 gr1 j1;obtain⟨e,i,h,G,d⟩:=body n env H st F hX O fr1 ro1 σ1 a1 w1 g1 r1 j1 hrd b (.inLoop c::k) cs hro hb hr;obtain⟨x,f,H',l,s,σ',u,V,z,t,M,Y,q5,q6,L,q8⟩:=G;have W:=λb q=>q5 b (s1 b q);have p:=gr1.trans z1 q8;have R:∀x,Q x f H' l->ExR e x->QcU X h0 B y σ w N a.defers Q e i h:=λx q q'=>⟨x,f,H',l,s,σ',u,V,q',q,M,Y,W,XV z1 q6,L.trans t1,p⟩;cases e with
   |normal=>
    obtain rfl:x=.normal:=z;obtain⟨n',aa,t⟩:=t;obtain⟨e2,a2,w2,E,j⟩:=ih n' f H' l u s σ' i h V (by omega) t M W (XV z1 q6) (L.trans t1) p Y;exact⟨e2,a2,w2,E,.of_steps (StepsIn.trans d (.one (fenced_calm hb hr rfl) stepR_inLoop)) j⟩
   |exit id=>
    obtain rfl:x=.exit id:=z;exact⟨_,i,h,R _ t rfl,.pass (x:=.inLoop c) rfl (λ_ _=>.inl (by simp)) d⟩
   |ret=>
    obtain rfl:x=.ret:=z;exact⟨_,i,h,R _ t rfl,.pass (x:=.inLoop c) rfl (λ_ _=>.inl (by simp)) d⟩
   |_=>exact z.elim
 obtain⟨e,i,h,G,d⟩:=J (n+1) n env H st B y σ a w g (Xn _) F r (λ_ q=>q) (XT _) rfl (Grow.refl _ _ _) hj;exact⟨e,i,h,G,.of_steps (.one (fenced_calm hb hr rfl) stepR_loop) d⟩
end
theorem Sim.part{fr ro:Nat->Prop}{σ:Sig}{H:Qd}{w:World}(s0:Sim fr ro σ H w){π:List Nat}{Hc:Qd}(R:π.map (λp=>H[p]?)=(Hc.map (QO (rho π H.length))).map some)(hπ:π.Nodup):
  Sim (λb=>fr b\/(∃i x,σ[i]?=some (some b)/\H[i]?=some x/\x.live=true/\i∉π)\/ ∃i x d,σ[i]?=some (some d)/\H[i]?=some x/\Hid w x d b/\i∉π) ro (Yj σ π) Hc w/\ ∀j:Nat,σ[rho π H.length j]?=(Yj σ π)[j]? :=by
 have hp:∀p∈π,p<H.length:=λp q=>Y3 R q;have hσl:=s0.len;have h:∀(j p:Nat),π[j]?=some p->H[p]?=(Hc[j]?).map (QO (rho π H.length)):=by
  intro j p m;have:=congrArg (λl=>l[j]?) R
  grind
 have L:π.length=Hc.length:=by simpa using congrArg List.length R
 have hσc:∀j:Nat,σ[rho π H.length j]?=(Yj σ π)[j]? :=by
  intro j;have:=Qd4 (τ:=[]) hσl hp j
  grind
 have hπj:∀(j b:Nat),(Yj σ π)[j]?=some (some b)->∃p,π[j]?=some p/\σ[p]?=some (some b):=by
  intro j b m;simp only[Yj,Xo]at m
  grind
 refine⟨?_,hσc⟩
 .refine⟨by simp[Yj,L],s0.roOk,?_,?_,?_,?_,?_,?_⟩
  .rintro b (M|⟨i,x,a,g,e,O⟩|⟨i,x,d,a,g,e,O⟩)
   .exact s0.frLt b M
   .exact(s0.own i b x a g e).1
   .exact(s0.hid i d x b a g e).lt
  .rintro b M (J|⟨i,x,a,g,e,O⟩|⟨i,x,d,a,g,e,O⟩)
   .exact s0.roFr b M J
   .exact(s0.own i b x a g e).2.1 M
   .exact(s0.hid i d x b a g e).ro M
  .intro j b x a g e;obtain⟨p,f,u⟩:=hπj j b a;have z:H[p]?=some (QO (rho π H.length) x):=by grind
   obtain⟨o1,o2,o3⟩:=s0.own p b _ u z (by rw[QF];exact e);refine⟨o1,o2,?_⟩;rintro(J|⟨i,y,y1,y2,F,P⟩|⟨i,y,d,y1,y2,F,P⟩)
   .exact o3 J
   .have:=s0.inj i p b _ _ y1 u y2 z F (by rw[QF];exact e)
    grind
   .exact(s0.hid i d y b y1 y2 F).ne p b _ u z (by rw[QF];exact e) rfl
  .intro i j b x y a g e O q5 q6;obtain⟨p,f,u⟩:=hπj i b a;obtain⟨r,t,T⟩:=hπj j b g;have z:H[p]?=some (QO (rho π H.length) x):=by rw[h i p f,e];rfl
   have V:H[r]?=some (QO (rho π H.length) y):=by rw[h j r t,O];rfl
   have:=s0.inj p r b _ _ u T z V (by rw[QF];exact q5) (by rw[QF];exact q6);subst this;have E:i<π.length:=by
    rcases VB i π.length with q|q
    .exact q
    .rw[XO q]at f;simp at f
   have m:j<π.length:=by
    rcases VB j π.length with q|q
    .exact q
    .rw[XO q]at t;simp at t
   rw[XK E]at f;rw[XK m]at t;have n:=(XY f).trans (XY t).symm;rcases Nat.lt_trichotomy i j with q|q|q
   .exact(VD.1 hπ i j E m q n).elim
   .exact q
   .exact(VD.1 hπ j i m E q n.symm).elim
  .intro j s x a g;have m:j<π.length:=by
    rcases VB j π.length with q|q
    .exact q
    .rw[XO (by simpa[Yj]using q)]at a;simp at a
   have f:π[j]?=some π[j]:=XK m;have z:H[π[j]]?=some (QO (rho π H.length) x):=by rw[h j _ f,g];rfl
   have u:σ[π[j]]?=some s:=by
    have:=hσc j;rw[a]at this;simpa[rho,f]using this
   exact(Qha hσc).1 (s0.blk _ s _ u z)
  .intro j b x c a g e;obtain⟨p,f,u⟩:=hπj j b a;have z:H[p]?=some (QO (rho π H.length) x):=by rw[h j p f,g];rfl
   have k:=s0.hid p b _ c u z ((Qak _ _ _ _ _).2 e);refine⟨k.lt,k.ro,?_,?_,?_⟩
   .rintro(J|⟨i,y,y1,y2,F,P⟩|⟨i,y,d,y1,y2,F,P⟩)
    .exact k.fr J
    .exact k.ne i c y y1 y2 F rfl
    .obtain⟨rfl,rfl⟩:=k.one i d y y1 y2 F;exact P (VG f)
   .intro B N y W Q X;obtain⟨r,G,Y⟩:=hπj B N W;exact k.ne r N _ Y (show H[r]?=some (QO (rho π H.length) y)by rw[h B r G,Q];rfl) (by rw[QF];exact X)
   .intro B N y W Q X;obtain⟨r,G,Y⟩:=hπj B N W;obtain⟨z4,z5⟩:=k.one r N _ Y (show H[r]?=some (QO (rho π H.length) y)by rw[h B r G,Q];rfl) ((Qak _ _ _ _ _).2 X);subst z5;have E:B<π.length:=(XL.1 G).1;have m:j<π.length:=(XL.1 f).1;rw[XK E]at G;rw[XK m]at f;have n:=(XY G).trans (XY f).symm;refine⟨z4,?_⟩;rcases Nat.lt_trichotomy B j with q|q|q
    .exact(VD.1 hπ B j E m q n).elim
    .exact q
    .exact(VD.1 hπ j B m E q n.symm).elim
theorem Sim.frames{fr fr' ro:Nat->Prop}{σ:Sig}{H:Qd}{w:World}(s:Sim fr ro σ H w)(lt:∀b,fr' b->b<w.heap.size)(hro:∀b,ro b->¬fr' b)(own:∀(i b:Nat) (x:Blk),σ[i]?=some (some b)->H[i]?=some x->x.live=true->¬fr' b)
  (hd:∀(i b:Nat) (x:Blk) (c:Nat),σ[i]?=some (some b)->H[i]?=some x->Hid w x b c->¬fr' c):Sim fr' ro σ H w:=
 ⟨s.len,s.roOk,lt,hro,λi b x q1 q2 q3=>⟨(s.own i b x q1 q2 q3).1,(s.own i b x q1 q2 q3).2.1,own i b x q1 q2 q3⟩,s.inj,s.blk,
  s.hidTo (· = ·) Q3 (XT _) (by simp) (by grind) (by grind)⟩
def Qjt(H:Qd)(p:Nat):Qd:=match H[p]? with
 |some x=>bif x.holds then H.set p .dead else H
 |none=>H
def QdJ:Qd->List Nat->Qd
 |H,[]=>H
 |H,p::π=>QdJ (Qjt H p) π
theorem QdK(H:Qd)(p:Nat):(Qjt H p=H/\ ∀x,H[p]?=some x->x.holds=false)\/Qjt H p=H.set p .dead:=by
 unfold Qjt
 grind
theorem QeL:∀(π:List Nat) (H:Qd) (i:Nat) (x:Blk),(QdJ H π)[i]?=some x->x=.dead\/(H[i]?=some x/\(x.holds=true->i∉π))
 |[],H,i,x,h=>.inr ⟨h,λ_=>by simp⟩
 |p::π,H,i,x,h=>by
  rcases QeL π _ i x h with h|⟨h1,h2⟩
  .exact .inl h
  .rcases QdK H p with⟨e,hl⟩|e
   .grind
   grind
theorem Qds{fr ro:Nat->Prop}{σ:Sig}{w:World}:∀(π:List Nat) {H:Qd} (s:Sim fr ro σ H w),Sim fr ro σ (QdJ H π) w
 |[],_,s=>s
 |p::π,H,s=>by
  rw[QdJ];rcases QdK H p with h|h
  .rw[h.1];exact Qds π s
  .rw[h];exact Qds π (s.kill p)
theorem Sim.put{fr ro:Nat->Prop}{σ:Sig}{H:Qd}{w:World}(s:Sim fr ro σ H w){b:Nat}{obj:Obj}(l:fr b)(r:w.shape? b=none):
  Sim fr ro σ H (w.putObj b obj)/\Qi (λc=>c≠b) ro w ro (w.putObj b obj):=by
 have a:∀c,c≠b->(w.putObj b obj).heap[c]?=w.heap[c]? :=λc t=>World.putObj_heap_other t;have g:(w.putObj b obj).heap.size=w.heap.size:=by simp
 have u:∀c,ro c->c≠b:=λc q e=>s.roFr c q (e▸l);have ev:Qi (λc=>c≠b) ro w ro (w.putObj b obj):=by
  refine⟨λ_ q=>q,(by grind),λc q=>a c q,by omega,λc x q=>?_,rfl,rfl,rfl,XT _⟩
  grind[World.shape?]
 have h:Ext ro σ w ro σ (w.putObj b obj):=by have:=ev.ext σ [];grind
 refine⟨⟨s.len,s.roOk.to (λ_ q=>q) ev.keepRo (λc q=>by rw[g];exact s.roLt c q),λc q=>by rw[g];exact s.frLt c q,s.roFr,λi c x k f B=>?_,s.inj,λi y x k f=>?_,
  s.hidTo (· = ·) Q3 (by omega) (by simp) (by simp) λj d y p n E=>.inl ⟨j,y,rfl,p,n,id,λc q=>s.hidKeep p n (λz=>a d (λe=>(s.own j d y p n z).2.2 (e▸l))) ev.keepRo q⟩⟩,ev⟩
 .obtain⟨F,G,J⟩:=s.own i c x k f B
  grind
 .refine(s.blk i y x k f).keep h ?_ ?_
  .rintro c rfl m;exact a c (λe=>(s.own i c x k f m).2.2 (e▸l))
  .rintro d c rfl m;exact a c (λe=>(s.hid i d x c k f m).fr (e▸l))
theorem Qbh{w:World}{l:Nat}{r:Loop}(h:w.heap[l]?=some (.loop r)):w.shape? l=none:=by
 unfold World.shape?;rw[h]
structure Fix where
 fr:Nat->Prop
 ro:Nat->Prop
 σ:Sig
 w:World
 h1:Nat
 env:Env
 tmps:Array Value
 ds1:List Deferred
 l:Nat
 rc:LoopState->Option Code->Loop
 fr1:Nat->Prop
structure Fix.Ok (D:Fix):Prop where
 sub:∀b,D.fr b->D.fr1 b
 l1:D.fr1 D.l
 lf:¬D.fr D.l
 len:D.σ.length=D.h1
structure RJ (D:Fix) (ro1:Nat->Prop) (σ1:Sig) (H:Qd) (st:LoopState) (pe:Option Code) (q g:Nat->Prop) (W:World):Prop where
 sim:Sim D.fr1 ro1 σ1 H W
 env:∀t,VR ro1 D.σ W (lk D.env t) (D.tmps.getD t undef)
 sig:σ1.take D.h1=D.σ
 ev:Qi D.fr D.ro D.w ro1 W
 marks:Qcc D.fr1 D.ds1 W
 rc:W.heap[D.l]?=some (.loop (D.rc st pe))
 roG:∀b,ro1 b->q b\/g b
 frG:∀b,D.fr1 b->g b
 own:∀(i b:Nat) (x:Blk),σ1[i]?=some (some b)->H[i]?=some x->x.live=true->g b
 hidG:∀(i b:Nat) (x:Blk) (c:Nat),σ1[i]?=some (some b)->H[i]?=some x->Hid W x b c->g c
 lt:∀b,g b->b<W.heap.size
theorem QdB{σ σ1:Sig}{a:Nat}(h:σ1.take a=σ){i b:Nat}(q:σ[i]?=some (some b)):σ1[i]?=some (some b):=by
 grind
section
variable {D:Fix} {ro1:Nat->Prop} {σ1:Sig} {H:Qd} {st:LoopState} {pe:Option Code} {qR g:Nat->Prop} {W:World}
theorem RJ.step(r:D.Ok)(j:RJ D ro1 σ1 H st pe qR g W){ro':Nat->Prop}{W':World}(e:Qi g qR W ro' W'):RJ D ro1 σ1 H st pe qR g W':=by
 have f:∀b,ro1 b->W'.heap[b]?=W.heap[b]? :=λb q=>(j.roG b q).elim (e.keepRo b) (e.keepFr b);have ev:Qi D.fr1 ro1 W ro1 W':=⟨λ_ q=>q,f,λb q=>e.keepFr b (j.frG b q),e.size,e.shape,e.os,e.tape,e.output,e.drawn⟩;have k:∀σ,Ext ro1 σ W ro1 σ W':=λ σ=>by have:=ev.ext σ [];grind
 refine⟨⟨j.sim.len,j.sim.roOk.to (λ_ q=>q) f (λb q=>Ve (j.sim.roLt b q) e.size),λb q=>Ve (j.sim.frLt b q) e.size,j.sim.roFr,λi b x h a p=>?_,j.sim.inj,λi z x h a=>?_,
  j.sim.hidTo (· = ·) Q3 e.size (by simp) (by simp) λi d y n m w=>.inl ⟨i,y,rfl,n,m,id,λc q=>j.sim.hidKeep n m (λz=>e.keepFr d (j.own i d y n m z)) f q⟩⟩,
  λt=>(j.env t).mono (k _),j.sig,j.ev.trans (ev.frMono r.sub),j.marks.keep ev,(ev.keepFr _ r.l1).trans j.rc,j.roG,j.frG,j.own,λi b x c h a p=>j.hidG i b x c h a (j.sim.hidKeep h a (λz=>e.keepFr b (j.own i b x h a z)) f p),λb q=>Ve (j.lt b q) e.size⟩
 .obtain⟨s,u⟩:=j.sim.own i b x h a p;exact⟨Ve s e.size,u⟩
 .refine(j.sim.blk i z x h a).keep (k _) ?_ ?_
  .rintro b rfl l;exact e.keepFr b (j.own i b x h a l)
  .rintro b c rfl l;exact e.keepFr c (j.hidG i b x c h a l)
theorem RJ.up{g':Nat->Prop}(j:RJ D ro1 σ1 H st pe qR g W)(h:∀b,g b->g' b)(hl:∀b,g' b->b<W.heap.size):RJ D ro1 σ1 H st pe qR g' W:=
 {j with roG:=λb q=>(j.roG b q).imp id (h b),frG:=λb q=>h b (j.frG b q),own:=λi b x q1 q2 q3=>h b (j.own i b x q1 q2 q3),hidG:=λi b x c q1 q2 q3=>h c (j.hidG i b x c q1 q2 q3),lt:=hl}
def FrB(D:Fix)(ro1 g:Nat->Prop)(W:World):Nat->Prop:=λb=>(D.fr1 b\/(¬g b/\ ¬ro1 b))/\b<W.heap.size
theorem RJ.simB(j:RJ D ro1 σ1 H st pe qR g W):Sim (FrB D ro1 g W) ro1 σ1 H W:=by
 refine j.sim.frames (λb q=>q.2) (λb q r=>?_) (λi b x e d a r=>?_) (λi b x c e d a r=>r.1.elim (j.sim.hid i b x c e d a).fr λr=>r.1 (j.hidG i b x c e d a))
 .rcases r.1 with r|r
  .exact j.sim.roFr b q r
  grind
 .rcases r.1 with r|r
  .exact(j.sim.own i b x e d a).2.2 r
  .exact r.1 (j.own i b x e d a)
theorem RJ.fin(F:D.Ok)(j:RJ D ro1 σ1 H st pe qR g W){y ro':Nat->Prop}{σ':Sig}{H':Qd}{W':World}{st':LoopState}{pe':Option Code}
  (ev:Qi (λb=>FrB D ro1 g W b/\b≠D.l) ro1 W ro' W')(s:Sim y ro' σ' H' W')(u:∀b,FrB D ro1 g W b->y b)(hσ:σ'.take D.h1=σ1.take D.h1)(L:W'.heap[D.l]?=some (.loop (D.rc st' pe'))):
  RJ D ro' σ' H' st' pe' qR (λb=>g b\/(W.heap.size<=b/\b<W'.heap.size)) W'/\Qfg g (λb=>g b\/(W.heap.size<=b/\b<W'.heap.size)) W W':=by
 have n:∀b,D.fr1 b->FrB D ro1 g W b:=λb q=>⟨.inl q,j.sim.frLt b q⟩;have P:W.shape? D.l=none:=Qbh j.rc;have z:Qi D.fr ro1 W ro' W':=ev.frMono λb q=>⟨n b (F.sub b q),λe=>F.lf (e▸q)⟩;have w:Ext ro1 D.σ W ro' D.σ W':=ev.ext0 D.σ;have E:∀b,b<W.heap.size->b<W'.heap.size:=λb q=>Ve q ev.size;have m:∀b,b<W.heap.size->¬FrB D ro1 g W b->g b\/ro1 b:=by
  intro b f O;by_cases h:g b
  .exact .inl h
  .by_cases a:ro1 b
   .exact .inr a
   .exact absurd ⟨.inr ⟨h,a⟩,f⟩ O
 refine⟨⟨s.frames (λb q=>E b (j.sim.frLt b q)) (λb q r=>s.roFr b q (u b (n b r))) (λi b x h a p r=>(s.own i b x h a p).2.2 (u b (n b r))) (λi b x c h a p r=>(s.hid i b x c h a p).fr (u c (n c r))),
  λt=>(j.env t).mono w,hσ.trans j.sig,j.ev.trans z,⟨j.marks.1,λd Q=>?_⟩,L,λb q=>?_,λb q=>.inl (j.frG b q),λi b x h a p=>?_,λi b x c h a p=>?_,λb q=>q.elim (λq=>E b (j.lt b q)) (λq=>q.2)⟩,
  ⟨λb q=>.inl q,(by grind),λb q=>q.elim (λq=>E b (j.lt b q)) (λq=>q.2),(by omega),λb h a=>?_,ev.size,ev.shape,ev.os,ev.tape,ev.output,ev.drawn⟩⟩
 .obtain⟨B,R,J,G⟩:=j.marks.2 d Q;refine⟨B,R,J,(ev.keepFr B ⟨n B J,λe=>?_⟩).trans G⟩;subst e;rw[j.rc]at G;cases G
 .rcases VB b W.heap.size with f|f
  .rcases m b f (λr=>s.roFr b q (u b r))with r|r
   .grind
   .exact(j.roG b r).imp id .inl
  .exact .inr (.inr ⟨f,s.roLt b q⟩)
 .obtain⟨T,N,M⟩:=s.own i b x h a p;rcases VB b W.heap.size with f|f
  .rcases m b f (λr=>M (u b r))with r|r
   .exact .inl r
   .exact absurd (ev.sub b r) N
  omega
 .have k:=s.hid i b x c h a p;rcases VB c W.heap.size with f|f
  .rcases m c f (λr=>k.fr (u c r))with r|r
   .exact .inl r
   .exact absurd (ev.sub c r) k.ro
  .exact .inr ⟨f,k.lt⟩
 .by_cases r:ro1 b
  .exact ev.keepRo b r
  .exact ev.keepFr b ⟨(by grind),λe=>a (j.frG b (e▸F.l1))⟩
end
theorem Sim.roAdd{fr ro a:Nat->Prop}{σ:Sig}{H:Qd}{w:World}(s:Sim fr ro σ H w)(g:∀b,a b->b<w.heap.size)(d:∀b,a b->¬fr b)(j:∀(i b:Nat) (x:Blk),σ[i]?=some (some b)->H[i]?=some x->x.live=true->¬a b)
  (h:∀(i b:Nat) (x:Blk) (c:Nat),σ[i]?=some (some b)->H[i]?=some x->Hid w x b c->¬a c):Sim fr (λb=>ro b\/a b) σ H w:=by
 have ext:Ext ro σ w (λb=>ro b\/a b) σ w:=⟨λ_ q=>.inl q,λ_ _=>rfl,λ_ _ q=>q,λ_ _ q=>q⟩;refine⟨s.len,s.roOk.to (λ_ q=>.inl q) (λ_ _=>rfl) (λb q=>q.elim (s.roLt b) (g b)),s.frLt,λb q=>q.elim (s.roFr b) (d b),λi b x f e k=>?_,s.inj,λi y x f e=>(s.blk i y x f e).keep ext (λ_ _ _=>rfl) (λ_ _ _ _=>rfl),
  s.hidTo (· = ·) Q3 (XT _) (by grind) (by simp) (by grind)⟩
 obtain⟨m,l,n⟩:=s.own i b x f e k
 grind
theorem RJ.roAdd{D:Fix}{ro1:Nat->Prop}{σ1:Sig}{H:Qd}{st:LoopState}{pe:Option Code}{qR ri g:Nat->Prop}{W:World}(j:RJ D ro1 σ1 H st pe qR g W)(hq:∀b,qR b->ri b)(hI:∀b,ri b->b<W.heap.size/\ ¬g b):RJ D (λb=>ro1 b\/ri b) σ1 H st pe ri g W:=
 {j with
  sim:=j.sim.roAdd (λb q=>(hI b q).1) (λb q z=>(hI b q).2 (j.frG b z)) (λi b x q1 q2 q3 z=>(hI b z).2 (j.own i b x q1 q2 q3)) (λi b x c q1 q2 q3 z=>(hI c z).2 (j.hidG i b x c q1 q2 q3))
  env:=λt=>(j.env t).mono ⟨λ_ q=>.inl q,λ_ _=>rfl,λ_ _ q=>q,λ_ _ q=>q⟩
  ev:=j.ev.trans (YB λ_ q=>.inl q)
  roG:=λb q=>q.elim (λq=>(j.roG b q).imp (hq b) id) .inl}
def Qk4:List Nat->List A->Env->Env
 |p::ps,a::zs,env=>Qk4 ps zs (up env p a)
 |_,_,env=>env
def Qio:List Nat->List Value->Array Value->Array Value
 |p::ps,v::vs,t=>Qio ps vs (t.setIfInBounds p v)
 |_,_,t=>t
theorem QfG:∀(ps:List Nat) (vs:List Value) (t:Array Value),(Qio ps vs t).size=t.size
 |[],_,_=>rfl
 |_::_,[],_=>rfl
 |p::ps,v::vs,t=>by simp[Qio,QfG ps]
theorem QfH:∀(ps:List Nat) (vs:List Value) (t:Array Value),(ps.toArray.zip vs.toArray).foldl (λt (p,v)=>t.setIfInBounds p v) t=Qio ps vs t
 |[],vs,t=>by rw[<- Array.foldl_toList,Array.toList_zip];rfl
 |p::ps,[],t=>by rw[<- Array.foldl_toList,Array.toList_zip];rfl
 |p::ps,v::vs,t=>by
  have:=QfH ps vs (t.setIfInBounds p v);rw[<- Array.foldl_toList,Array.toList_zip]at this⊢;exact this
theorem Qjd{ro:Nat->Prop}{σ:Sig}{w:World}:∀(ps:List Nat) (zs:List A) (vs:List Value) (env:Env) (t:Array Value),LR ro σ w zs vs->(∀p∈ps,p<t.size)->(∀s,VR ro σ w (lk env s) (t.getD s undef))->
  ∀s,VR ro σ w (lk (Qk4 ps zs env) s) ((Qio ps vs t).getD s undef)
 |[],_,_,_,_,_,_,h=>h
 |p::ps,[],vs,_,_,hv,_,h=>by
  obtain rfl:vs=[]:=hv;exact h
 |p::ps,a::zs,vs,env,t,hv,hp,h=>by
  obtain⟨v,vs',rfl,h0,hv'⟩:=hv;have h1:=VR.up (fr:=λ_=>False) (a:={tmps:=t,defers:=[]}) h (hp p (by simp)) h0;exact Qjd ps zs vs' (up env p a) (t.setIfInBounds p v) hv' (λq hq=>by grind) h1
def QmI(h1:Nat)(env:Env)(Q:Qz)(K:Qd->Prop):Qz
 |.normal,env',H'=>∃H2,Le h1 env' H' [] H2/\K H2
 |.exit id,env',H'=>∃H2,Le h1 env' H' [] H2/\Q (.exit id) env H2
 |.ret,env',H'=>∃H2,Le h1 env' H' [] H2/\Q .ret env H2
def Jump(Q:Qz)(env:Env)(c:Code)(H:Qd):Prop:=(∃id,c=.exit id/\Q (.exit id) env H)\/(c=.ret/\Q .ret env H)
section
variable {D:Fix} {ro0:Nat->Prop} {σ1:Sig} {H:Qd} {qR ri g:Nat->Prop} {W:World} {P:Program} {N:Nat} {Q:Qz} {K:Qd->Prop}
theorem RJ.round{fn:FuncId}{ps:List Nat}{assign body:Code}{df:Nat}{cs:List A}{vs:List Value}(hD:D.Ok)(R:D.rc=λst pe=>{state:=st,pending:=pe,fn:=fn,tmps:=D.tmps,params:=ps.toArray,assign:=assign,body:=body,defers:=df})
  (hN:D.tmps.size=N)(ak:∀p∈ps,p<N)(aj:cs.length=ps.length)(hq:∀b,qR b->ri b)(hI:∀b,ri b->b<W.heap.size/\ ¬g b)(O:LR ri [] W cs vs)(j0:RJ D ro0 σ1 H .ready none qR g W)
  (h:TC P D.h1 N assign (Qk4 ps cs D.env) H λe env1 H1=>e=.normal/\TC P D.h1 N body env1 H1 (QmI D.h1 D.env Q K)):
  YieldAt Fence.wide 0 P D.l vs.toArray W λe W'=>∃g',Qfg g g' W W'/\((e=.returned (.bool true)/\ ∃H2 ro2 σ2,K H2/\RJ D ro2 σ2 H2 .ready none ri g' W')\/
   (e=.returned (.bool false)/\ ∃H2 c ro2 σ2,Jump Q D.env c H2/\RJ D ro2 σ2 H2 .done (some c) ri g' W')):=by
 have al:vs.length=cs.length:=O.length;have j:=j0.roAdd hq hI;have t:LR (λb=>ro0 b\/ri b) σ1 W cs vs:=O.mono ⟨λ_ q=>.inr q,λ_ _=>rfl,λ_ _ q=>q,λi b q=>by simp at q⟩;clear j0;generalize(λb=>ro0 b\/ri b)=ro1 at j t;have ag:∀b,D.fr1 b->FrB D ro1 g W b:=λb q=>⟨.inl q,j.sim.frLt b q⟩;have u:=ag _ hD.l1;have M:=j.rc;have hy:=run_yield (P:=P) (r:=D.rc .ready none) (args:=vs.toArray) M (by grind);refine⟨fn,Qio ps vs D.tmps,assign,body,?_,?_⟩
 .grind[QfH]
 .refine roundIn_of_wpIn trivial ?_;show Code.wpIn (WF (some D.l)) 0 P _ _ _ _;have F:∀s,VR ro1 σ1 W (lk D.env s) (D.tmps.getD s undef):=λs=>(j.env s).mono ⟨λ_ q=>q,λ_ _=>rfl,λ_ _ q=>q,λi b q=>QdB j.sig q⟩;have ah:Qdu (some D.l) (FrB D ro1 g W) W:=λl e=>by grind
  have w1:=h (some D.l) (FrB D ro1 g W) ro1 σ1 {tmps:=Qio ps vs D.tmps,defers:=[]} W ⟨j.simB,Qjd ps cs vs D.env D.tmps t (by grind) F,by simp[QfG,hN],List.nodup_nil,λd hd=>by cases hd⟩ ah;refine Code.wpIn_mono ?_ w1;rintro e a1 w1 ⟨x1,env1,H1,ro2,σ2,k,h1,⟨rfl,h2⟩,T,h4,h5,h6⟩;cases e with
  |normal=>
   have X:w1.heap[D.l]?=some (.loop (D.rc .ready none)):=(h4.keepFr _ u).trans M;refine⟨_,run_beginRound X (by rw[R]),?_⟩;obtain⟨s2,y⟩:=T.sim.put (obj:=.loop {D.rc .ready none with state:=.busy}) (h6.sub _ u) (Qbh X);have ab:D.l<w1.heap.size:=by grind
   have ae:(w1.putObj D.l (.loop {D.rc .ready none with state:=.busy})).heap[D.l]?=some (.loop {D.rc .ready none with state:=.busy}):=World.putObj_heap_same ab;generalize hw2:w1.putObj D.l (.loop {D.rc .ready none with state:=.busy})=w2 at*;have ac:Qcc k a1.defers w2:=by
    refine⟨T.defers.1,λd hd=>?_⟩;obtain⟨B,e1,e2,e3⟩:=T.defers.2 d hd;refine⟨B,e1,e2,(y.keepFr B (λe=>?_)).trans e3⟩
    grind
   have r2:Rel k ro2 σ2 H1 env1 N a1 w2:=⟨s2,λs=>(T.env s).mono (y.ext0 σ2),T.size,ac⟩;have E:k D.l:=h6.sub _ u;refine Code.wpIn_mono ?_ (h2 (some D.l) k ro2 σ2 a1 w2 r2 (λl e=>by grind));rintro e a3 w3 ⟨x3,G,H3,x,σ3,aa,g1,g2,g3,g4,g5,g6⟩;have n:w3.heap[D.l]?=some (.loop {D.rc .ready none with state:=.busy}):=(g4.keepFr _ E).trans ae;have z:∀(H2:Qd) (jump:Option Code),Le D.h1 G H3 [] H2->∃v m,(Instr.endRound D.l jump).run P w3=.ok v m/\v=.bool jump.isNone/\ ∃g',Qfg g g' W m/\ ∃a σ4,RJ D a σ4 H2 (if jump.isNone then .ready else .done) jump ri g' m:=by
    intro H2 jump f;obtain⟨a,σ4,r4,s4,t4⟩:=f aa x σ3 N a3 w3 g3;refine⟨_,_,run_endRound jump n,rfl,?_⟩;have ad:aa D.l:=g6.sub _ E;obtain⟨s5,af⟩:=r4.sim.put (obj:=.loop {{D.rc .ready none with state:=.busy}with state:=if jump.isNone then .ready else .done,pending:=jump}) ad (Qbh n);have Y:D.l<w3.heap.size:=by rw[Vb]at n;exact n.1
    have ai:=World.putObj_heap_same (w:=w3) (r:=D.l) (o:=.loop {{D.rc .ready none with state:=.busy}with state:=if jump.isNone then .ready else .done,pending:=jump}) Y;have e1:Qi (λb=>FrB D ro1 g W b/\b≠D.l) ro1 W ro2 w1:=h4.frMono λb q=>q.1;have e2:Qi (λb=>FrB D ro1 g W b/\b≠D.l) ro2 w1 ro2 w2:=y.frMono λb q=>q.2;have e3:Qi (λb=>FrB D ro1 g W b/\b≠D.l) ro2 w2 x w3:=g4.frMono λb q=>h6.sub b q.1;have e4:Qi (λb=>FrB D ro1 g W b/\b≠D.l) x w3 a w3:=YB s4;have e5:=(((e1.trans e2).trans e3).trans e4).trans (af.frMono λb (q:FrB D ro1 g W b/\b≠D.l)=>q.2);obtain⟨q1,q2⟩:=j.fin hD e5 s5 (λb q=>g6.sub b (h6.sub b q)) (by rw[t4,g5,h5]) (st':=if jump.isNone then .ready else .done) (pe':=jump) (by rw[ai,R]);exact⟨_,q2,a,σ4,q1⟩
   cases e with
   |normal=>
    obtain rfl:x3=.normal:=g1;obtain⟨H2,f,L⟩:=g2;obtain⟨v,m,k1,rfl,g',J,a,σ4,V⟩:=z H2 none f;exact⟨_,m,k1,g',J,.inl ⟨rfl,H2,a,σ4,L,V⟩⟩
   |exit id=>
    obtain rfl:x3=.exit id:=g1;obtain⟨H2,f,L⟩:=g2;obtain⟨v,m,k1,rfl,g',J,a,σ4,V⟩:=z H2 (some (.exit id)) f;exact⟨_,m,k1,g',J,.inr ⟨rfl,H2,_,a,σ4,.inl ⟨id,rfl,L⟩,V⟩⟩
   |ret=>
    obtain rfl:x3=.ret:=g1;obtain⟨H2,f,L⟩:=g2;obtain⟨v,m,k1,rfl,g',J,a,σ4,V⟩:=z H2 (some .ret) f;exact⟨_,m,k1,g',J,.inr ⟨rfl,H2,_,a,σ4,.inr ⟨rfl,L⟩,V⟩⟩
   |_=>exact g1.elim
  |exit id=>cases h1
  |ret=>cases h1
  |_=>exact h1.elim
end
theorem Sim.beside{fr ro:Nat->Prop}{σ:Sig}{H:Qd}{w w1:World}(s:Sim fr ro σ H w)(ev:Qi fr ro w ro w1)(a:∀b,b<w.heap.size->w1.heap[b]?=w.heap[b]?):Sim (λb=>fr b\/(w.heap.size<=b/\b<w1.heap.size)) ro σ H w1:=by
 have g:Ext ro σ w ro σ w1:=ev.ext0 σ;refine⟨s.len,s.roOk.to (λ_ q=>q) ev.keepRo (λb q=>Ve (s.roLt b q) ev.size),λb q=>q.elim (λq=>Ve (s.frLt b q) ev.size) (λq=>q.2),λb q r=>?_,λi b x f e m=>?_,s.inj,λi z x f e=>?_,
  s.hidTo (· = ·) Q3 ev.size (by simp) (λi b x c f e m n=>n.elim id λq=>(by have:=(s.hid i b x c f e m).lt;omega)) λj d y l k p=>.inl ⟨j,y,rfl,l,k,id,λc q=>s.hidKeep l k (λz=>a d (s.own j d y l k z).1) ev.keepRo q⟩⟩
 .rcases r with r|r
  .exact s.roFr b q r
  .have:=s.roLt b q;omega
 .obtain⟨t,u,B⟩:=s.own i b x f e m
  grind
 .refine(s.blk i z x f e).keep g ?_ ?_
  .rintro b rfl h;exact a b (s.own i b x f e h).1
  .rintro b c rfl h;exact a c (s.hid i b x c f e h).lt
theorem QbX{w:World}{o:Obj}{b:Nat}(a:b<w.heap.size):(w.alloc o).heap[b]?=w.heap[b]? :=by
 show(w.heap.push o)[b]?=_
 grind
theorem Qme{P:Program}{fn:FuncId}{tmps:Array Value}{ps:Array Tmp}{assign body:Code}{rd:Option Nat}{fr ro:Nat->Prop}{w:World}(g:Qdu rd fr w)(t:∀b,ro b->b<w.heap.size)(m:∀b,fr b->b<w.heap.size):
  ∃l mark w1 df,(Instr.enterLoop fn tmps ps assign body rd).run P w=.ok (l,mark) w1/\w.heap.size<=l/\l<w1.heap.size/\w1.heap[l]?=some (.loop {state:=.ready,pending:=none,fn:=fn,tmps:=tmps,params:=ps,assign:=assign,body:=body,defers:=df})/\
   (∀b,b<w.heap.size->w1.heap[b]?=w.heap[b]?)/\mark.Nodup/\(∀d∈mark,∃D,d={target:=.collected D,args:= #[]}/\w.heap.size<=D/\D<w1.heap.size/\w1.heap[D]?=some (.deferred (some [])))/\Qi fr ro w ro w1:=by
 have e:∀w1:World,(∀b,b<w.heap.size->w1.heap[b]?=w.heap[b]?)->w.heap.size<=w1.heap.size->w1.os=w.os->w1.tape=w.tape->w1.output=w.output->w1.drawn=w.drawn->Qi fr ro w ro w1:=by
  intro w1 y k s p i u;refine⟨λ_ q=>q,(by grind),(by grind),k,λb x q=>?_,s,p,i,by omega⟩
  grind[World.shape?]
 cases rd with
 |none=>
  have a:∀b,b<w.heap.size->((w.alloc (.deferred (some []))).alloc (.loop {state:=.ready,pending:=none,fn:=fn,tmps:=tmps,params:=ps,assign:=assign,body:=body,defers:=w.heap.size})).heap[b]?=w.heap[b]? :=λb f=>
   (QbX (by simp;omega)).trans (QbX f)
  refine⟨_,_,_,w.heap.size,run_enterLoop_outer fn tmps ps assign body,by omega,by simp,?_,a,by simp,?_,e _ a (by simp;omega) rfl rfl rfl rfl⟩
  .grind[World.alloc_heap_new,World.size_alloc]
  .intro d r;obtain rfl:=VA.1 r;exact⟨_,rfl,XT _,by simp;omega,(QbX (by simp)).trans (World.alloc_heap_new w _)⟩
 |some j=>
  obtain⟨_,h,n⟩:=g j rfl;have a:∀b,b<w.heap.size->(w.alloc (.loop {state:=.ready,pending:=none,fn:=fn,tmps:=tmps,params:=ps,assign:=assign,body:=body,defers:=h.defers})).heap[b]?=w.heap[b]? :=λb f=>QbX f;exact⟨_,_,_,h.defers,run_enterLoop_inner n fn tmps ps assign body,XT _,by simp,World.alloc_heap_new w _,a,List.nodup_nil,(by simp),e _ a (by simp) rfl rfl rfl rfl⟩
theorem TC.rangeFunc{P:Program}{h0 N:Nat}{ad:Operand}{ps:List Nat}{assign body:Code}{env:Env}{H:Qd}{Q:Qz}{f:FuncId}{ae ac:List A}{Hc:Qd}{T S:Type}{enc:T->List A}{nx:List T->T->List T->Prop}{xs:List T}
  (π:List Nat)(Hp:S->Qd)(V:S->List T->Prop)(s0:S)(hh:h0<=H.length)(hg:opA env ad=.fn (.func f) [] ae)(hargs:ae=Qaa (rho π H.length) ac)(hH:π.map (λp=>H[p]?)=(Hc.map (QO (rho π H.length))).map some)(hπ:π.Nodup)
  (a2:(ps.all λp=>Nat.blt p N)=true)(eg:∀args w,(callFunc f args).run P w=.ok (.enter f args) w)(an:QmH P f ac Hc enc nx xs)(ao:∀x,(enc x).length=ps.length)
  (a7:Le H.length env (QdJ H π) env (Hp s0))(hV:V s0 xs)
  (am:∀s l x rem,V s l->nx l x rem->TC P H.length N assign (Qk4 ps (enc x) env) (Hp s) λe env1 H1=>e=.normal/\TC P H.length N body env1 H1 (QmI H.length env Q λH2=>∃s',V s' rem/\H2=Hp s'))
  (ag:∀s,V s []->Q .normal env (Hp s)):TC P h0 N (.rangeFunc ad ps.toArray assign body) env H Q:=by
 intro rd fr ro σ a w r hrd;have hv:=Qj r ad;rw[hg]at hv;obtain⟨l1,E,hv,a4,au⟩:=hv;obtain rfl:l1=[]:=a4;refine wpIn_rangeFunc ?_;intro fn bg;obtain⟨l,G,w1,df,he,hl,a5,a0,ar,be,ah,Y⟩:=Qme (P:=P) (fn:=fn) (tmps:=a.tmps) (ps:=ps.toArray) (assign:=assign) (body:=body) (ro:=ro) hrd r.sim.roLt r.sim.frLt;have s1:=r.sim.beside Y ar
 let D:Fix:=⟨fr,ro,σ,w,H.length,env,a.tmps,G++a.defers,l,(λst pe=>{state:=st,pending:=pe,fn:=fn,tmps:=a.tmps,params:=ps.toArray,assign:=assign,body:=body,defers:=df}),(λb=>fr b\/(w.heap.size<=b/\b<w1.heap.size))⟩
 have af:¬fr l:=λq=>by have:=r.sim.frLt l q;omega
 have hD:D.Ok:=⟨λb q=>.inl q,.inr ⟨hl,a5⟩,af,r.sim.len⟩;have L:Qcc D.fr1 (G++a.defers) w1:=by
  refine⟨List.nodup_append.2 ⟨be,r.defers.1,λd R d' a6 e=>?_⟩,λd R=>?_⟩
  .subst e;obtain⟨B,e1,e2,_⟩:=ah d R;obtain⟨B',aw,a3,_⟩:=r.defers.2 d a6;rw[e1]at aw;have:B=B':=by simpa using aw
   subst this;have:=r.sim.frLt B a3;omega
  .rcases VC.1 R with R|R
   .obtain⟨B,e1,e2,e3,e4⟩:=ah d R;exact⟨B,e1,.inr ⟨e2,e3⟩,e4⟩
   .obtain⟨B,e1,e2,e3⟩:=(r.defers.keep Y).2 d R;exact⟨B,e1,.inl e2,e3⟩
 obtain⟨sp,hσc⟩:=s1.part hH hπ;have ai:LR ro (Yj σ π) w1 ac E:=(Qbs hσc).1 (hargs▸au.mono (Y.ext0 σ))
 let frX:Nat->Prop:=λb=>D.fr1 b\/(∃(j:Nat) (x:Blk),(Yj σ π)[j]?=some (some b)/\Hc[j]?=some x/\x.live=true)\/ ∃(j:Nat) (x:Blk) (d:Nat),(Yj σ π)[j]?=some (some d)/\Hc[j]?=some x/\Hid w1 x d b
 have sX:Sim frX ro σ (QdJ H π) w1:=by
  refine(Qds π s1).frames (λb q=>?_) (λb q r=>?_) (λi b x n m k r=>?_) (λi b x c n m k r=>?_)
  .rcases q with q|⟨j,x,n,m,k⟩|⟨j,x,d,n,m,k⟩
   .exact s1.frLt b q
   .exact(sp.own j b x n m k).1
   .exact(sp.hid j d x b n m k).lt
  .rcases r with r|⟨j,x,n,m,k⟩|⟨j,x,d,n,m,k⟩
   .exact s1.roFr b q r
   .exact(sp.own j b x n m k).2.1 q
   .exact(sp.hid j d x b n m k).ro q
  .rcases QeL _ _ _ _ m with rfl|⟨m,hi⟩
   .cases k
   .rcases r with r|⟨j,y,p1,p2,p3⟩|⟨j,y,d,p1,p2,p3⟩
    .exact(s1.own i b x n m k).2.2 r
    .exact(sp.own j b y p1 p2 p3).2.2 (.inr (.inl ⟨i,x,n,m,k,hi (Qbv k)⟩))
    .exact(sp.hid j d y b p1 p2 p3).fr (.inr (.inl ⟨i,x,n,m,k,hi (Qbv k)⟩))
  .rcases QeL _ _ _ _ m with rfl|⟨m,hi⟩
   .exact k.elim
   .rcases r with r|⟨j,y,p1,p2,p3⟩|⟨j,y,d,p1,p2,p3⟩
    .exact(s1.hid i b x c n m k).fr r
    .exact(sp.own j c y p1 p2 p3).2.2 (.inr (.inr ⟨i,x,b,n,m,k,hi k.holds⟩))
    .exact(sp.hid j d y c p1 p2 p3).fr (.inr (.inr ⟨i,x,b,n,m,k,hi k.holds⟩))
 have rX:Rel frX ro σ (QdJ H π) env N {a with defers:=G++a.defers} w1:=
  ⟨sX,λs=>(r.env s).mono (Y.ext0 σ),r.size,L.1,λd R=>let⟨B,e1,e2,e3⟩:=L.2 d R;⟨B,e1,.inl e2,e3⟩⟩
 obtain⟨ab,σ',r',aa,ba⟩:=a7 frX ro σ N _ w1 rX;have hσt:σ.take H.length=σ:=by rw[<- r.sim.len,X8]
 let g0:Nat->Prop:=λb=>D.fr1 b\/(ab b/\ ¬ro b)\/(∃(i:Nat) (x:Blk),σ'[i]?=some (some b)/\(Hp s0)[i]?=some x/\x.live=true)\/ ∃(i:Nat) (x:Blk) (d:Nat),σ'[i]?=some (some d)/\(Hp s0)[i]?=some x/\Hid w1 x d b
 have j0:RJ D ab σ' (Hp s0) .ready none ro g0 w1:=by
  refine⟨r'.sim.frMono λb q=>.inl q,λt=>(r.env t).mono ⟨aa,Y.keepRo,Y.shape,λ_ _ q=>q⟩,ba.trans hσt,Y.trans (YB aa),L,a0,λb q=>?_,λb q=>.inl q,λi b x n m k=>.inr (.inr (.inl ⟨i,x,n,m,k⟩)),λi b x c n m k=>.inr (.inr (.inr ⟨i,x,b,n,m,k⟩)),λb q=>?_⟩
  .by_cases z:ro b
   .exact .inl z
   .exact .inr (.inr (.inl ⟨q,z⟩))
  .rcases q with q|q|⟨i,x,n,m,k⟩|⟨i,x,d,n,m,k⟩
   .exact s1.frLt b q
   .exact r'.sim.roLt b q.1
   .exact(r'.sim.own i b x n m k).1
   .exact(r'.sim.hid i d x b n m k).lt
 have sI:Sim g0 ro (Yj σ π) Hc w1:=by
  refine sp.frames (λb q=>j0.lt b q) (λb q z=>?_) (λj b x n m k z=>?_) (λj b x c n m k z=>?_)
  .rcases z with z|z|⟨i,x,n,m,k⟩|⟨i,x,d,n,m,k⟩
   .exact s1.roFr b q z
   .exact z.2 q
   .exact(r'.sim.own i b x n m k).2.1 (aa b q)
   .exact(r'.sim.hid i d x b n m k).ro (aa b q)
  .have hX:frX b:=.inr (.inl ⟨j,x,n,m,k⟩);rcases z with z|z|⟨i,y,p1,p2,p3⟩|⟨i,y,d,p1,p2,p3⟩
   .exact(sp.own j b x n m k).2.2 (.inl z)
   .exact r'.sim.roFr b z.1 hX
   .exact(r'.sim.own i b y p1 p2 p3).2.2 hX
   .exact(r'.sim.hid i d y b p1 p2 p3).fr hX
  .have hX:frX c:=.inr (.inr ⟨j,x,b,n,m,k⟩);rcases z with z|z|⟨i,y,p1,p2,p3⟩|⟨i,y,d,p1,p2,p3⟩
   .exact(sp.hid j b x c n m k).fr (.inl z)
   .exact r'.sim.roFr c z.1 hX
   .exact(r'.sim.own i c y p1 p2 p3).2.2 hX
   .exact(r'.sim.hid i d y c p1 p2 p3).fr hX
 let X:Ctx T:={l:=l,J:=λrem q g W=>∃s F σ1,V s rem/\RJ D F σ1 (Hp s) .ready none q g W,Jx:=λ_ q g W=>∃H2 c F σ1,Jump Q env c H2/\RJ D F σ1 H2 .done (some c) q g W,enc:=enc,nx:=nx}
 have av:∀p∈ps,p<N:=λp hp=>by simpa using Xs.1 a2 p hp
 have hX:X.ok P:=by
  refine⟨⟨λrem q g W W' ab ⟨s,F,σ1,M,O⟩ he=>⟨s,F,σ1,M,O.step hD he⟩,λrem q g g' W ⟨s,F,σ1,M,O⟩ hg hl=>⟨s,F,σ1,M,O.up hg hl⟩⟩,
   ⟨λrem q g W W' ab ⟨H2,c,F,σ1,M,O⟩ he=>⟨H2,c,F,σ1,M,O.step hD he⟩,λrem q g g' W ⟨H2,c,F,σ1,M,O⟩ hg hl=>⟨H2,c,F,σ1,M,O.up hg hl⟩⟩,?_⟩
  rintro lr x rem q g ri W vs bb ⟨s,F,σ1,M,O⟩ hq hI bc;obtain⟨a1,tm,a8,a9,y1,y2⟩:=RJ.round (D:=D) (Q:=Q) (K:=λH2=>∃s',V s' rem/\H2=Hp s') hD rfl r.size av (ao x) hq hI bc O (am s lr x rem M bb);refine⟨a1,tm,a8,a9,y1,RoundIn.mono y2 ?_⟩;rintro e W' ⟨g',k1,k2⟩;refine⟨g',ri,λ_ z=>z,k1,?_⟩;rcases k2 with⟨rfl,H2,u,σ2,⟨s',bd,rfl⟩,k3⟩|⟨rfl,H2,c,u,σ2,k3,k4⟩
  .exact .inl ⟨rfl,s',u,σ2,bd,k3⟩
  .exact .inr ⟨rfl,H2,c,u,σ2,k3,k4⟩
 have az:∀(ev:Operand->Value),ev ad=.func (.func f) #[] E.toArray->ev (.const (.func (.yield l) #[] #[]))=.func (.yield l) #[] #[]->(resolve ev (rangeCall ad l) 0).run P w1=.ok {target:=.fn (.func f) E.toArray,args:= #[.func (.yield l) #[] #[]]} w1:=by
  intro ev M O;simp[resolve,go_sem,M,O]
 refine⟨l,G,w1,{target:=.fn (.func f) E.toArray,args:= #[.func (.yield l) #[] #[]]},w1,f, #[.func (.yield l) #[] #[]]++E.toArray,w1,he,az a.eval hv rfl,λ_ _=>trivial,by simp[invoke,go_sem,eg],λh=>by simp[WF,Fence.wide]at h,?_⟩;refine WF.calls.2 ?_;have ak:=an X rfl rfl hX g0 ro (Yj σ π) w1 E ro sI (λ_ z=>z) ai ⟨s0,ab,σ',hV,j0⟩;have aj:(#[.func (.yield l) #[] #[]]++E.toArray:Array Value)=((Value.func (.yield X.l) #[] #[]::E)).toArray:=by simp[X]
 rw[aj];refine Calls.mono ak ?_;rintro e W' ⟨⟨v,rfl⟩,g2,qz,bh,aq⟩;have fin:∀(H2:Qd) (st:LoopState) (pe:Option Code) (u:Nat->Prop) (σ2:Sig),st≠ .busy->RJ D u σ2 H2 st pe qz g2 W'->∃w4,(Instr.endLoop l).run P W'=.ok pe w4/\Rel D.fr1 u σ2 H2 env N {a with defers:=G++a.defers} w4/\Qi fr ro w u w4:=by
  intro H2 st pe u σ2 hst j;refine⟨_,run_endLoop j.rc (by exact hst),?_⟩;obtain⟨s5,al⟩:=j.sim.put (obj:=.loop {(D.rc st pe)with state:=.exhausted}) hD.l1 (Qbh j.rc);have hr:=j.rc;refine⟨⟨s5,λt=>((j.env t).mono ⟨λ_ q=>q,λ_ _=>rfl,λ_ _ q=>q,λi b q=>QdB j.sig q⟩).mono (al.ext0 σ2),r.size,j.marks.1,λd R=>?_⟩,j.ev.trans (al.frMono λb q e=>af (by have e':b=l:=e;rw[<- e'];exact q))⟩;obtain⟨B,e1,e2,e3⟩:=j.marks.2 d R;refine⟨B,e1,e2,(al.keepFr B (λe=>?_)).trans e3⟩;subst e;rw[hr]at e3;cases e3
 have ay:Grow fr w a.defers D.fr1 (G++a.defers):=by
  refine⟨λb q=>.inl q,λb q=>q.imp id (λq=>q.1),λd R=>?_⟩;rcases VC.1 R with R|R
  .obtain⟨B,e1,e2,_⟩:=ah d R;exact .inr ⟨B,e1,e2⟩
  .exact .inl R
 have ax:∀{σ2:Sig},σ2.take H.length=σ->σ2.take h0=σ.take h0:=by
  intro σ2 h;have:=congrArg (List.take h0) h
  rwa [List.take_take,XB hh]at this
 rcases aq with⟨s,u,σ2,M,O⟩|⟨rem,H2,c,u,σ2,M,O⟩
 .obtain⟨w4,f1,f2,f3⟩:=fin _ _ _ u σ2 (by intro e;cases e) O;exact⟨none,w4,f1,.normal,env,_,u,σ2,_,rfl,ag s M,f2,f3,ax O.sig,ay⟩
 .obtain⟨w4,f1,f2,f3⟩:=fin _ _ _ u σ2 (by intro e;cases e) O;refine⟨some c,w4,f1,?_⟩;have hc:TC P h0 N c env H2 Q:=by
   rcases M with⟨id,rfl,M⟩|⟨rfl,M⟩
   .exact TC.exit M
   .exact TC.ret M
  exact Code.wpIn_mono (λe a w q=>q.grow f3 (ax O.sig) ay) (hc rd D.fr1 u σ2 _ w4 f2 (hrd.to f3 λb q=>.inl q))
section
variable {P:Program} {T:Type} {ts tq te k tm:Nat} {g:FuncId} {es:List (A×A)} {e:T->List A} {ea:T->A} {xs:List T}
end
theorem Qo5{T:Type}{X:Ctx T}{P:Program}{h0 N:Nat}{c:Code}{env env':Env}{H H':Qd}{k:YSt T}{Q:YD T}(i:Le h0 env H env' H')(h:TCy X P h0 N c env' H' k Q):TCy X P h0 N c env H k Q:=by
 intro n l j m σ a w g r hj hrd;obtain⟨f,σ',u,s,t⟩:=i j m σ N a w r;obtain⟨⟨x,p,b⟩,d⟩:=hj;exact Code.wpIn_mono (λe a w q=>q.grow s (XT _) t (Grow.refl _ _ _)) (h n l j f σ' a w g u ⟨⟨x,(by grind),b⟩,d⟩ hrd)
theorem Qk0{P:Program}{o:Oper}{env:Env}{H:Qd}{y z:Operand}{l:Nat}{a:A}{f:Array TypeId}(m:o.op=.call {callee:=.value y,args:= #[z],argTypes:=f})(j:opA env y=.fn (.yield l) [] [])(g:opA env z=a)(k:Yq a=true){N:Nat}:
  ∀fr ro σ act w,Rel fr ro σ H env N act w->∃vs:List Value,LR ro [] w [a] vs/\(execOp act.eval o).run P w=(Instr.yield l vs.toArray).run P w:=by
 intro fr ro σ act w r;have b:=Qj r y;rw[j]at b;obtain⟨i,h,b,n,e⟩:=b;obtain rfl:i=[]:=n;obtain rfl:h=[]:=e;have d:=Qj r z;rw[g]at d;refine⟨[act.eval z],⟨_,_,rfl,VR.data k d,rfl⟩,?_⟩;generalize act.eval=ev at*;simp[execOp,m,resolve,invoke,go_sem,b]
theorem QjY{P:Program}{o:Oper}{env:Env}{H:Qd}{y a d:Operand}{l:Nat}{f i:A}{p:Array TypeId}(u:o.op=.call {callee:=.value y,args:= #[a,d],argTypes:=p})(t:opA env y=.fn (.yield l) [] [])(g:opA env a=f)(h:opA env d=i)(j:Yq f=true)(e:Yq i=true){N:Nat}:
  ∀fr ro σ act w,Rel fr ro σ H env N act w->∃vs:List Value,LR ro [] w [f,i] vs/\(execOp act.eval o).run P w=(Instr.yield l vs.toArray).run P w:=by
 intro fr ro σ act w r;have b:=Qj r y;rw[t]at b;obtain⟨s,q,b,x,n⟩:=b;obtain rfl:s=[]:=x;obtain rfl:q=[]:=n;have k:=Qj r a;rw[g]at k;have m:=Qj r d;rw[h]at m;refine⟨[act.eval a,act.eval d],⟨_,_,rfl,VR.data j k,_,_,rfl,VR.data e m,rfl⟩,?_⟩;generalize act.eval=ev at*;simp[execOp,u,resolve,invoke,go_sem,b]
section
variable {P:Program} {K V:Type} {tm tb ty tk kt et:Nat} {ek:K->A} {ev:V->A} {m:List (K×V)} {T:Type}
end
section
variable {P:Program} {o:Oper} {env:Env} {H:Qd} {fr ro:Nat->Prop} {σ:Sig} {w:World}
theorem QkQ{e i t b1 b2:Nat}{es:List (List A)}{l:List Ent}(d:H[i]?=some (.rowr t 3 es))(he:l.map (eC b1 b2)=es):Le e env H env (H.set i (.ents t b1 b2 l)):=by
 subst he;intro g f σ N a w r;refine⟨f,σ,⟨r.sim.weaken (x':=.ents t b1 b2 l) d rfl ?_,r.env,r.size,r.defers⟩,λ_ q=>q,rfl⟩;intro y h;cases y with
 |none=>exact h.elim
 |some b=>exact h
theorem QcJ{b1 b2:Nat}:∀(l:List Ent),allK 3 (l.map (eC b1 b2))
 |[]=>trivial
 |e::l=>⟨rfl,QcJ l⟩
theorem Sim.phantomE(s:Sim fr ro σ H w)(t b1 b2:Nat):Sim fr ro (σ++[none]) (H++[.ents t b1 b2 []]) w:=by
 have ext:Ext ro σ w ro (σ++[none]) w:=⟨λ_ q=>q,λ_ _=>rfl,λ_ _ q=>q,λ_ _ h=>Qae h⟩;have u:=s.len;have a:∀(j:Nat) (v:Blk),(H++[Blk.ents t b1 b2 []])[j]?=some v->(j<H.length/\H[j]?=some v)\/(j=H.length/\v=.ents t b1 b2 []):=by
  intro j v h;rcases Nat.lt_trichotomy j H.length with q|q|q
  .rw[XM q]at h;exact .inl ⟨q,h⟩
  .subst q;simp at h;exact .inr ⟨rfl,h.symm⟩
  .rw[XO (by simp;omega)]at h;cases h
 have hσ:∀(j:Nat) (z:Option Nat),(σ++[none])[j]?=some z->(j<σ.length/\σ[j]?=some z)\/(j=σ.length/\z=none):=by
  intro j z h;rcases Nat.lt_trichotomy j σ.length with q|q|q
  .rw[XM q]at h;exact .inl ⟨q,h⟩
  .subst q;simp at h;exact .inr ⟨rfl,h.symm⟩
  .rw[XO (by simp;omega)]at h;cases h
 refine⟨by simp[u],s.roOk,s.frLt,s.roFr,λi b x k g n=>?_,λi j b x y k g n G F L=>?_,λi z x k g=>?_,
  s.hidTo (· = ·) Q3 (XT _) (λ_ _ _ _ _ _ _ q=>q) (λ_ _ _ _ _ _ _ q=>q) λj d y E B M=>.inl ?_⟩
 rotate_left 3
 .rcases hσ j _ E with⟨l,f⟩|⟨_,r⟩
  .rcases a j y B with⟨_,e⟩|⟨e,_⟩
   .exact⟨j,y,rfl,f,e,id,λ_ q=>q⟩
   .omega
  .cases r
 .rcases hσ i _ k with⟨l,f⟩|⟨_,r⟩
  .rcases a i x g with⟨_,e⟩|⟨e,_⟩
   .exact s.own i b x f e n
   .omega
  .cases r
 .rcases hσ i _ k with⟨l,f⟩|⟨_,r⟩
  .rcases hσ j _ g with⟨J,m⟩|⟨_,r⟩
   .rcases a i x n with⟨_,e⟩|⟨e,_⟩
    .rcases a j y G with⟨_,p⟩|⟨p,_⟩
     .exact s.inj i j b x y f m e p F L
     .omega
    .omega
   .cases r
  .cases r
 .rcases hσ i _ k with⟨l,f⟩|⟨l,rfl⟩
  .rcases a i x g with⟨_,e⟩|⟨e,_⟩
   .exact(s.blk i z x f e).keep ext (λ_ _ _=>rfl) (λ_ _ _ _=>rfl)
   .omega
  .rcases a i x g with⟨e,_⟩|⟨_,rfl⟩
   .omega
   .rfl
theorem Le.phantomE{h0 i m t T b1 b2:Nat}{cs:List A}(G:Nat.ble h0 H.length=true)(k:H[i]?=some (.cells T cs))(e:cs[m]?=some .nils):
  Le h0 env H env (H.set i (.cells T (cs.set m (.osl H.length 0 0 3)))++[.ents t b1 b2 []]):=by
 intro J f σ N a w r;have j:h0<=H.length:=XR G;have x:i<H.length:=(XL.1 k).1;have ext:Ext f σ w f (σ++[none]) w:=⟨λ_ q=>q,λ_ _=>rfl,λ_ _ q=>q,λ_ _ h=>Qae h⟩;have s:=r.sim.phantomE t b1 b2;have d:(H++[Blk.ents t b1 b2 []])[i]?=some (.cells T cs):=by rw[XM x];exact k
 have p:H.set i (.cells T (cs.set m (.osl H.length 0 0 3)))++[.ents t b1 b2 []]=(H++[Blk.ents t b1 b2 []]).set i (.cells T (cs.set m (.osl H.length 0 0 3))):=by
  rw[List.set_append_left _ _ x]
 rw[p];refine⟨f,σ++[none],⟨s.weaken d rfl ?_,λq=>(r.env q).mono ext,r.size,r.defers⟩,λ_ q=>q,QA (by rw[r.sim.len];exact j)⟩;intro y h;cases y with
 |none=>exact h
 |some b=>
  obtain⟨l,n,E,z⟩:=h;refine⟨l,n,?_,z⟩;clear n z d p k
  induction cs generalizing m l with
  |nil=>cases e
  |cons c cs F=>
   obtain⟨v,g,rfl,B,u⟩:=E;cases m with
   |zero=>
    simp at e;subst e;exact⟨v,g,rfl,.inl ⟨rfl,B⟩,u⟩
   |succ m=>exact⟨v,g,rfl,B,F (by simpa using e) g u⟩
theorem QL{h0 i m T:Nat}{cs:List A}(k:H[i]?=some (.cells T cs)):Le h0 env H env (H.set i (.cells T (cs.set m .any))):=by
 intro t n σ N a w r;refine⟨n,σ,⟨r.sim.weaken k rfl ?_,r.env,r.size,r.defers⟩,λ_ q=>q,rfl⟩;intro y h;cases y with
 |none=>exact h
 |some b=>
  obtain⟨l,f,e,j⟩:=h;refine⟨l,f,?_,j⟩;clear f j k
  induction cs generalizing m l with
  |nil=>exact e
  |cons c cs s=>
   obtain⟨v,d,rfl,p,g⟩:=e;cases m with
   |zero=>exact⟨v,d,rfl,trivial,g⟩
   |succ m=>exact⟨v,d,rfl,p,s d g⟩
theorem srcE{j m t b1 b2:Nat}{l:List Ent}{v:Value}(s:Sim fr ro σ H w)(i:H[j]?=some (.ents t b1 b2 l))(e:l.length=m)(h:VR ro σ w (.osl j 0 m 3) v):
  (∃a c,v=.slice a m c)/\ ∃vs:List Value,(∀w':World,w'.heap=w.heap->(Builtin.firstCells 3 m v).run P w'=.ok vs.toArray w')/\LR ro σ w (l.map (eC b1 b2)).flatten vs/\ ∀v∈vs,Qo v:=by
 rcases h with⟨rfl,rfl⟩|⟨b,p,d,M,F,q,rfl,f,⟨G,u⟩,J,E⟩
 .have:l=[]:=VI.1 e;subst this;exact⟨⟨none,0,rfl⟩,[],λ_ _=>YC,rfl,by simp⟩
 .refine⟨⟨_,d,rfl⟩,?_⟩;obtain⟨N,r,x⟩:=s.blk j _ _ q i;have g:=Yt (pre:=[]) (by simpa using r) x;by_cases z:0<d
  .obtain rfl:=f z;obtain⟨B,L,y⟩:=g.flat;have:=Qa4 (P:=P) (k:=3) (n:=m) (c:=d) B (by rw[y];simp[e]);simpa using this
  .obtain rfl:m=0:=by omega
   have:l=[]:=VI.1 e;subst this;exact⟨[],λ_ _=>YC,rfl,by simp⟩
theorem QmM{c:Call}{T T' t e' i j n m b1 b2:Nat}{x y:Operand}{l k:List Ent}(E:Q7 P T t 3)(hd:∀w,(underlying T').run P w=.ok (.slice e') w)(F:Nat.ble (l.length+k.length) Q9=true)(ac:Nat.blt 0 n=true)
  (ho:o.op=.call c:=by exact rfl)(hc:c={callee:=.builtin .append,args:= #[x,y],argTypes:= #[T,T']}:=by exact rfl)(hx:opA env x=.osl i 0 n 3:=by exact rfl)(hH:H[i]?=some (.ents t b1 b2 l):=by exact rfl)(hn:l.length=n:=by exact rfl)
  (hy:opA env y=.osl j 0 m 3:=by exact rfl)(hHj:H[j]?=some (.ents t b1 b2 k):=by exact rfl)(hm:k.length=m:=by exact rfl):
  OpH P o env H (.osl H.length 0 (l++k).length 3) (H.set i .dead++[.ents t b1 b2 (l++k)]):=by
 intro fr s σ N a w r;have aa:=XR F;have ai:0<n:=by simpa using ac
 have u:=Qj r x;rw[hx]at u;have h2:=Qj r y;rw[hy]at h2;obtain⟨⟨ay,cy,e1⟩,vs,V,q4,M⟩:=srcE (P:=P) r.sim hHj hm h2;rw[e1]at V;obtain⟨_,d,o1,o2,o3⟩:=srcE (P:=P) r.sim hH hn u;have ag:i<H.length:=(XL.1 hH).1;have aj:(H.set i .dead).length=H.length:=X3;rw[X2,hn,hm];rcases u with⟨q,_⟩|⟨b,p,cap,t',mm,h3,u,h4,⟨h5,Y⟩,O,h7⟩
 .omega
 have J:=r.sim.blk i _ _ h3 hH;obtain⟨lb,L,g2⟩:=J;have z:vs.length=m*3:=by rw[q4.length,Yd (QcJ k)];simp[hm]
 have af:d.length=n*3:=by rw[o2.length,Yd (QcJ l)];simp[hn]
 rw[u]at o1;by_cases h:n+m<=cap
 .obtain rfl:p=0*3:=h4 (by omega);have g:=QbF (t:=o.type) E hd (ad:=some ⟨b,0*3,none⟩) (n:=n) (m:=m) (cap:=cap) (c:=cy) (ax:=ay) h (V w rfl);have B:(n+m)*3<=lb.length:=by
   have:w.shape? b=some (t,lb.length):=by unfold World.shape?;rw[L];simp
   rw[this]at O;cases O;exact XV (XC 3 h) (by simpa using h7)
  rw[XA]at B;have ab:=Q4 (P:=P) (vs:=vs) (n*3) 0 L (by rw[z];simpa using B) M;have f:=r.sim.set (x':=.ents t b1 b2 (l++k)) (obj:=.cells (splice lb (n*3) vs).toArray t (0,0)) h3 hH rfl
   (λy hy=>Jc L (Q1 (by rw[z];exact B)) y hy)
   (λex ae=>⟨_,ae,by
    have:=(g2.app (n:=n) (by simp[hn]) (QcJ k) q4 M).mono ex;rw[VH (by simp[hn])]at this;rw[Xf];exact this⟩)
  have sm:=f.1.moved (i:=i) (Xa ag) h3;rw[List.set_set]at sm;refine⟨.slice (some ⟨b,0*3,none⟩) (n+m) cap,_,s,[some b],?_,.inr ⟨b,0*3,cap,t',mm,?_,rfl,h4,⟨h,Y⟩,?_,h7⟩,sm,f.2⟩
  .refine Yy ho hc _ ?_;rw[u,e1,g];simp only[YU,Nat.zero_mul,Xv,Vl,ab,Result.andThen,Vm];simp
  .rw[<- r.sim.len];simp
  .exact f.2.shape _ _ O
 .obtain⟨e,nc,X,W,g⟩:=Qeu (t:=o.type) E hd rfl (by omega) (by omega) V o1
  let w0:World:={w with drawn:=w.drawn+1}
  have G:Sim fr s σ (H.set i .dead) w0:=(r.sim.kill i).heap rfl;have e0:Qi fr s w s w0:=Qi.heap rfl rfl rfl rfl (Nat.le_succ _);have Q:LR s σ w0 ((l++k).map (eC b1 b2)).flatten (d++vs):=by
   rw[Xf,Xr];exact(o2.append q4).mono (Ext.heap (w:=w) (w':=w0) rfl)
  have R:∀v∈d++vs,Qo v:=λv hv=>by rcases VC.1 hv with q|q;exact o3 v q;exact M v q
  have s1:=G.alloc (x:=.ents t b1 b2 (l++k)) (obj:=.cells ((d++vs)++e).toArray t) ⟨(d++vs)++e,Q0 _ _,(YJ (QcJ _) Q R).mono ((Qi.alloc (fr:=fr) _ G.roLt G.frLt).ext σ _)⟩;have ah:Qi fr s w0 s (w0.alloc (.cells ((d++vs)++e).toArray t)):=Qi.alloc _ G.roLt G.frLt;refine⟨_,_,s,[some w.heap.size],Yy ho hc a.eval (by rw[u,e1];exact g),.inr ⟨w.heap.size,0,nc,t,(d++vs++e).length,?_,rfl,λ_=>by simp,X,?_,?_⟩,s1,e0.trans ah⟩
  .rw[<- r.sim.len];simp
  .have:=Q0 w0 (.cells ((d++vs)++e).toArray t);unfold World.shape?;rw[show w.heap.size=w0.heap.size from rfl,this];simp
  .simp only[X2,W,af,z,Xv];omega
theorem Qgg{c:Call}{T T' t e' i j n m b1 b2:Nat}{x y:Operand}{d b r:List Ent}(h:app d b=some r)(E:Q7 P T t 3)(e:∀w,(underlying T').run P w=.ok (.slice e') w)(a:Nat.blt 0 n=true)
  (g:o.op=.call c:=by exact rfl)(hc:c={callee:=.builtin .append,args:= #[x,y],argTypes:= #[T,T']}:=by exact rfl)(hx:opA env x=.osl i 0 n 3:=by exact rfl)(hH:H[i]?=some (.ents t b1 b2 d):=by exact rfl)(hn:d.length=n:=by exact rfl)
  (hy:opA env y=.osl j 0 m 3:=by exact rfl)(hHj:H[j]?=some (.ents t b1 b2 b):=by exact rfl)(hm:b.length=m:=by exact rfl):
  OpH P o env H (.osl H.length 0 r.length 3) (H.set i .dead++[.ents t b1 b2 r]):=by
 obtain⟨f,rfl⟩:=QiV h;exact QmM E e (XS f) a g hc hx hH hn hy hHj hm
theorem Pts.ents{i off t e f b1 b2:Nat}{l:List Ent}{x:Ent}{cs':List A}(he:l[e]?=some x)(j:H[i]?=some (.ents t b1 b2 l):=by exact rfl)(ho:off=e*3+f:=by exact rfl)(hcs:(eC b1 b2 x).drop f=cs':=by exact rfl):Pts H (.ptr i off) cs':=by
 intro p n σ w v s h;obtain⟨b,k,d⟩:=h;obtain⟨q,m,g⟩:=s.blk i _ _ k j;have a:(l.map (eC b1 b2))[e]?=some (eC b1 b2 x):=by rw[Xo,he];rfl
 have:=((Yt (pre:=[]) (by simpa using m) g).get e a).2.drop f;refine⟨b,off,d,?_⟩;rw[<- hcs,ho];simpa using this
def Qfw(cs:List A)(s:Int)(e:Ent):Option Int:=bif e.fl then(bif e.off==0 then some s else none)else match cs[e.off]? with
 |some (.int .i64 v)=>some v
 |_=>none
def Qit{F:Type}(put:F->Nat->Int->Option F)(x:F)(s:Int)(e:Ent)(v:Int):Option (F×Int):=
 bif e.fl then(bif e.off==0 then some (x,v)else none)else(put x e.off v).map λy=>(y,s)
abbrev QgO(b1 b2:Nat)(e:Ent):A:=.ptr (bif e.fl then b2 else b1) e.off
theorem Qmg{l:List A}{i:Nat}{a:A}(h:l[i]?=some a):∃r,l.drop i=a::r:=by
 obtain⟨b,rfl⟩:=XL.1 h;exact⟨_,Xp b⟩
theorem QbY{t b1 b2 T1 T2:Nat}{x:Operand}{e:Ent}{cs:List A}{s v:Int}(h:Qfw cs s e=some v)(g:∀w,(isAgg t).run P w=.ok false w)(i:o.op=.load t x:=by exact rfl)(hx:opA env x=QgO b1 b2 e:=by exact rfl)
  (h1:H[b1]?=some (.cells T1 cs):=by exact rfl)(h2:H[b2]?=some (.cells T2 [.int .i64 s]):=by exact rfl):OpV P o env H (.int .i64 v):=by
 unfold Qfw at h;unfold QgO at hx;cases f:e.fl with
 |true=>
  rw[f]at h hx;simp only[Vn]at h hx;cases d:e.off==0 with
  |false=>rw[d]at h;cases h
  |true=>
   rw[d]at h;have l:e.off=0:=by simpa using d
   rw[l]at hx;have m:s=v:=by simpa using h
   subst m;exact OpV.load i g hx (Pts.cells (cs':=[.int .i64 s]) h2 rfl)
 |false=>
  rw[f]at h hx;simp only[Vp]at h hx;cases b:cs[e.off]? with
  |none=>rw[b]at h;cases h
  |some a=>
   rw[b]at h;obtain⟨r,j⟩:=Qmg b;cases a with
   |int k n=>
    cases k<;>first|(cases h;exact OpV.load i g hx (Pts.cells h1 j))|cases h
   |_=>cases h
theorem Qil{l:List A}{i:Nat}{a:A}(h:i<l.length):splice l i [a]=l.set i a:=by
 unfold splice;rw[List.set_eq_take_append_cons_drop,Vs h];simp
theorem Qhf{i:Nat}{b:Blk}(h:H[i]?=some b):H.set i b=H:=by
 apply List.ext_getElem?;intro j;rw[Xb];by_cases e:i=j
 .subst e;rw[Vs rfl,Vs (XL.1 h).1,h]
 .rw[Vr e]
theorem Qi1{F:Type}{c:F->List A}{put:F->Nat->Int->Option F}{t b1 b2 T1 T2:Nat}{x y:Operand}{e:Ent}{f f':F}{s s' v:Int}(h:Qit put f s e v=some (f',s'))(a:∀x o v y,put x o v=some y->c y=(c x).set o (.int .i64 v)/\o<(c x).length)
  (l:∀w,(sizeOf t).run P w=.ok 1 w)(m:o.op=.store t x y:=by exact rfl)(hx:opA env x=QgO b1 b2 e:=by exact rfl)(h1:H[b1]?=some (.cells T1 (c f)):=by exact rfl)(h2:H[b2]?=some (.cells T2 [.int .i64 s]):=by exact rfl)(hy:opA env y=.int .i64 v:=by exact rfl)
  (hb:Nat.beq b1 b2=false:=by exact rfl):OpU P o env H ((H.set b1 (.cells T1 (c f'))).set b2 (.cells T2 [.int .i64 s'])):=by
 have i:b1≠b2:=λq=>by subst q;rw[VE]at hb;cases hb
 unfold Qit at h;unfold QgO at hx;cases k:e.fl with
 |true=>
  rw[k]at h hx;simp only[Vn]at h hx;cases b:e.off==0 with
  |false=>rw[b]at h;cases h
  |true=>
   rw[b]at h;have p:e.off=0:=by simpa using b
   rw[p]at hx;obtain⟨rfl,rfl⟩:f=f'/\v=s':=by simpa using h
   rw[Qhf h1];exact OpU.store (cs:=[.int .i64 s]) (vs:=[.int .i64 v]) (cs':=[.int .i64 v]) (v:=.int .i64 v) m hx h2 l hy rfl rfl rfl rfl rfl rfl
 |false=>
  rw[k]at h hx;simp only[Vp]at h hx;cases d:put f e.off v with
  |none=>rw[d]at h;cases h
  |some g=>
   rw[d]at h;obtain⟨rfl,rfl⟩:g=f'/\s=s':=by simpa using h
   obtain⟨r,j⟩:=a _ _ _ _ d;have n:(H.set b1 (.cells T1 (c g)))[b2]?=some (.cells T2 [.int .i64 s]):=by rw[XP i];exact h2
   rw[Qhf n];exact OpU.store (cs:=c f) (vs:=[.int .i64 v]) (cs':=c g) (v:=.int .i64 v) m hx h1 l hy rfl rfl rfl rfl (XS j) (by rw[Qil j,r])
end
section
variable {P:Program} {h0 N:Nat} {A B C:Code} {env:Env} {H:Qd} {Q:Qz}
theorem QmE{S B1:Type}{b:Ctl S B1}(Eb:S->Env)(Hb:S->Qd)(h:TC P h0 N A env H (Seq P h0 N B (Qgi h0 b Eb Hb (Seq P h0 N C Q))))(k:∀s env H,b=.cont s->Le h0 env H (Eb s) (Hb s)->Seq P h0 N C Q .normal env H):TC P h0 N (.seq A (.seq B C)) env H Q:=by
 refine TC.seq (h.mono λx env' H' q=>?_);cases x with
 |normal=>exact TC.seq (QgW Eb Hb q k)
 |exit id=>exact q
 |ret=>exact q
end
section
variable {P:Program} {o:Oper} {env:Env} {H:Qd}
theorem QeU{f g:Nat->Option (Nat×Nat)}:∀(parts:List (Nat×Value)) (cs:Array Value),(∀p∈parts,f p.1=g p.1)->Instr.fill f cs parts=Instr.fill g cs parts
 |[],cs,_=>rfl
 |(i,v)::rest,cs,h=>by
  unfold Instr.fill;rw[h (i,v) (by simp)];have ih:=λcs=>QeU rest cs (λp hp=>h p (by simp[hp]));cases g i with
  |none=>rfl
  |some p=>
   obtain⟨off,size⟩:=p;simp only;split
   .rfl
   .exact ih _
theorem Jm{t e n k:Nat}{z:Value}{zs cs:List A}{parts:List (Nat×Operand)}(g:∀w,(zeroValue t).run P w=.ok z w)(y:ZR (.agg zs) z)(u:∀w,(underlying t).run P w=.ok (.array n e) w)(F:∀w,(sizeOf e).run P w=.ok k w)
  (B:(parts.all λp=>Nat.blt p.1 n)=true)(s:o.op=.build t parts.toArray:=by exact rfl)(hf:QdN env ((List.range n).map λi=>(i*k,k)) zs parts=some cs:=by exact rfl):OpV P o env H (.agg cs):=by
 intro J m σ N a w r;obtain⟨l,rfl,x⟩:=y m σ w;obtain⟨b,G,f⟩:=QeV r parts zs l cs x hf;refine⟨.agg b.toArray,?_,b,rfl,f⟩;have h:Instr.fill (λi=>some (i*k,k)) l.toArray (parts.map λp=>(p.1,a.eval p.2))=some b.toArray:=by
  rw[<- G];refine QeU _ _ ?_;intro p j;obtain⟨q,E,rfl⟩:=Xe.1 j;have d:q.1<n:=by simpa using Xs.1 B q E
  simp[d]
 generalize hρ:a.eval=ρ at*;simp only[execOp,s,Instr.build,Vl,g,Result.andThen,u,F,XI,Vm,Value.cells,h]
def Yk(k:IntKind)(m n:Int):Int:=k.wrap (BitVec.ofInt k.bits m&&& BitVec.ofInt k.bits n).toNat
def orI(k:IntKind)(m n:Int):Int:=k.wrap (BitVec.ofInt k.bits m|||BitVec.ofInt k.bits n).toNat
def Qek(k:IntKind)(m n:Int):Int:=k.wrap (BitVec.ofInt k.bits m^^^BitVec.ofInt k.bits n).toNat
def Qer(k:IntKind)(m n:Int):Int:=k.wrap (m*2^(min n.toNat k.bits))
def QY(k:IntKind)(m n:Int):Int:=m.fdiv (2^(min n.toNat k.bits))
theorem OpV.and{t u:TypeId}{x y:Operand}{k:IntKind}{m n:Int}(f:o.op=.binOp .and t x y u)(d:opA env x=.int k m)(g:opA env y=.int k n):OpV P o env H (.int k (Yk k m n)):=by
 intro h i σ N a w r;have e:=Qw r d;have b:=Qw r g;refine⟨_,?_,rfl⟩;generalize a.eval=ρ at*;simp[execOp,f,e,b,Go.binOp,eqGuard,Op.intBits,go_sem,Yk]
theorem OpV.or{t u:TypeId}{x y:Operand}{k:IntKind}{m n:Int}(f:o.op=.binOp .or t x y u)(d:opA env x=.int k m)(g:opA env y=.int k n):OpV P o env H (.int k (orI k m n)):=by
 intro h i σ N a w r;have e:=Qw r d;have b:=Qw r g;refine⟨_,?_,rfl⟩;generalize a.eval=ρ at*;simp[execOp,f,e,b,Go.binOp,eqGuard,Op.intBits,go_sem,orI]
theorem OpV.xor{t u:TypeId}{x y:Operand}{k:IntKind}{m n:Int}(f:o.op=.binOp .xor t x y u)(d:opA env x=.int k m)(g:opA env y=.int k n):OpV P o env H (.int k (Qek k m n)):=by
 intro h i σ N a w r;have e:=Qw r d;have b:=Qw r g;refine⟨_,?_,rfl⟩;generalize a.eval=ρ at*;simp[execOp,f,e,b,Go.binOp,eqGuard,Op.intBits,go_sem,Qek]
theorem OpV.shl{t u:TypeId}{x y:Operand}{k d:IntKind}{m n:Int}(i:o.op=.binOp .shl t x y u)(g:opA env x=.int k m)(f:opA env y=.int d n)(e:0<=n):OpV P o env H (.int k (Qer k m n)):=by
 intro l j σ N a w r;have h:=Qw r g;have b:=Qw r f;refine⟨_,?_,rfl⟩;generalize a.eval=ρ at*;simp[execOp,i,h,b,Go.binOp,eqGuard,Op.shift,go_sem,Qer,Int.not_lt.2 e]
theorem OpV.shr{t u:TypeId}{x y:Operand}{k d:IntKind}{m n:Int}(i:o.op=.binOp .shr t x y u)(g:opA env x=.int k m)(f:opA env y=.int d n)(e:0<=n):OpV P o env H (.int k (QY k m n)):=by
 intro l j σ N a w r;have h:=Qw r g;have b:=Qw r f;refine⟨_,?_,rfl⟩;generalize a.eval=ρ at*;simp[execOp,i,h,b,Go.binOp,eqGuard,Op.shift,go_sem,QY,Int.not_lt.2 e]
theorem QdW{h0 i m t k T:Nat}{cs:List A}(J:Nat.ble h0 H.length=true)(n:H[i]?=some (.cells T cs))(e:cs[m]?=some .nils):
  Le h0 env H env (H.set i (.cells T (cs.set m (.osl H.length 0 0 k)))++[.row t k []]):=by
 intro L f σ N a w r;have j:h0<=H.length:=XR J;have z:i<H.length:=(XL.1 n).1;have ext:Ext f σ w f (σ++[none]) w:=⟨λ_ q=>q,λ_ _=>rfl,λ_ _ q=>q,λ_ _ h=>Qae h⟩;have s:=r.sim.phantom t k;have d:(H++[Blk.row t k []])[i]?=some (.cells T cs):=by rw[XM z];exact n
 have u:H.set i (.cells T (cs.set m (.osl H.length 0 0 k)))++[.row t k []]=(H++[Blk.row t k []]).set i (.cells T (cs.set m (.osl H.length 0 0 k))):=by
  rw[List.set_append_left _ _ z]
 rw[u];refine⟨f,σ++[none],⟨s.weaken d rfl ?_,λq=>(r.env q).mono ext,r.size,r.defers⟩,λ_ q=>q,QA (by rw[r.sim.len];exact j)⟩;intro y h;cases y with
 |none=>exact h
 |some b=>
  obtain⟨l,p,F,B⟩:=h;refine⟨l,p,?_,B⟩;clear p B d u n
  induction cs generalizing m l with
  |nil=>cases e
  |cons c cs G=>
   obtain⟨v,g,rfl,E,x⟩:=F;cases m with
   |zero=>
    simp at e;subst e;exact⟨v,g,rfl,.inl ⟨rfl,E⟩,x⟩
   |succ m=>exact⟨v,g,rfl,E,G (by simpa using e) g x⟩
theorem QkR{l i s g n k:Nat}{x:Blk}(F:lk env s=.osl i g n k)(j:H[i]?=some x)(y:Nat.ble l H.length=true):Le l env H (up env s (.osl H.length g n k)) (H.set i .dead++[x]):=by
 intro G f σ N a w r;have z:i<σ.length:=by rw[r.sim.len];exact(XL.1 j).1
 have hσ:σ[i]?=some σ[i]:=XK z;have ext:Ext f σ w f (σ++[σ[i]]) w:=⟨λ_ q=>q,λ_ _=>rfl,λ_ _ q=>q,λ_ _ h=>Qae h⟩;refine⟨f,σ++[σ[i]],⟨r.sim.moved j hσ,?_,r.size,r.defers⟩,λ_ q=>q,QA (by rw[r.sim.len];exact XR y)⟩;intro d;simp only[lk];by_cases q:d=s
 .subst q;rw[VE];have:=r.env d;rw[F]at this;rcases this with h|⟨b,p,e,t,m,E,u⟩
  .exact .inl h
  .refine .inr ⟨b,p,e,t,m,?_,u⟩;rw[E]at hσ;rw[<- r.sim.len];simpa using hσ.symm
 .have:Nat.beq d s=false:=by
   rw[VL];intro B;exact q (XQ B)
  rw[this];exact(r.env d).mono ext
def Qbn(n:Int):UInt8:=n.toNat.toUInt8
def QkC(P:Program)(H:Qd)(x:A)(l:List Int):Prop:=
 ∀fr ro σ w v,Sim fr ro σ H w->VR ro σ w x v->(∃a c,v=.slice a 0 c/\l=[])\/ ∃b off c,v=.slice (some ⟨b,off,none⟩) l.length c/\(l=[]\/CR ro σ w b (l.map λn=>A.int .u8 n) off)
theorem QgH:∀(l:List Int),(l.map (λn=>[A.int .u8 n])).flatten=l.map λn=>A.int .u8 n
 |[]=>rfl
 |n::l=>by simp[QgH l]
theorem QkC.nils:QkC P H .nils []:=λfr ro σ w v s h=>.inl ⟨none,0,h,rfl⟩
theorem QkC.row{i t n:Nat}{l:List Int}(k:H[i]?=some (.row t 1 (l.map λn=>[A.int .u8 n])):=by exact rfl)(hn:l.length=n:=by exact rfl):QkC P H (.osl i 0 n 1) l:=by
 intro z x σ w v s h;rcases h with⟨rfl,rfl⟩|⟨b,p,a,E,m,q,rfl,f,⟨B,j⟩,y,u⟩
 .exact .inl ⟨none,0,rfl,VI.1 hn⟩
 .refine .inr ⟨b,p,a,by rw[hn],?_⟩;by_cases d:l=[]
  .exact .inl d
  .have:0<a:=by have:=List.length_pos_iff.2 d;omega
   obtain rfl:=f this;obtain⟨F,r,g⟩:=s.blk i _ _ q k;have e:=(Yt (pre:=[]) (by simpa using r) g).flat.1;rw[QgH]at e;exact .inr (by simpa using e.lift)
theorem QkC.rsl{l:List Int}:QkC P H (.rsl 1 (l.map λn=>[A.int .u8 n])) l:=by
 intro j h σ w v s ⟨a,c,h1,h2,d⟩;subst h1;rw[X0]at*;rcases d with d|⟨b,e,rfl,i,g⟩
 .have:l=[]:=List.map_eq_nil_iff.1 d;subst this;exact .inl ⟨a,c,by simp,rfl⟩
 .have f:=g.flat.1;rw[QgH]at f;exact .inr ⟨b,e,c,rfl,.inr f.lift⟩
theorem Qb6{ro:Nat->Prop}{σ:Sig}{w:World}{b:Nat}:∀(l:List Int) (off:Nat) (a:ByteArray),CR ro σ w b (l.map λn=>A.int .u8 n) off->(Extern.Bytes.loadBytes ⟨b,off,none⟩ l.length a).run P w=.ok ⟨a.data++(l.map Qbn).toArray⟩ w
 |[],off,a,_=>by simp[Extern.Bytes.loadBytes,go_sem]
 |n::l,off,a,⟨⟨v,h1,hp,h2⟩,h3⟩=>by
  have h2':v=.int .u8 n:=h2;subst h2';have ih:=Qb6 l (off+1) (a.push n.toNat.toUInt8) h3;have hl:(Go.load ⟨b,off,none⟩).run P w=.ok (.int .u8 n) w:=by simp[Go.load,Sem.run,h1]
  simp only[XZ,Extern.Bytes.loadBytes,Vl,hl,Result.andThen];have d:(⟨b,off,none⟩:Addr).add 1=⟨b,off+1,none⟩:=by simp[YU]
  rw[d,ih];simp[Qbn,ByteArray.push]
theorem QdD{fr ro:Nat->Prop}{σ:Sig}{w:World}{x:A}{l:List Int}{v:Value}(h:QkC P H x l)(s:Sim fr ro σ H w)(f:VR ro σ w x v):(Extern.Bytes.bytesOf v).run P w=.ok ⟨(l.map Qbn).toArray⟩ w:=by
 rcases h fr ro σ w v s f with⟨a,c,rfl,rfl⟩|⟨b,d,c,rfl,e⟩
 .cases a with
  |none=>simp[Extern.Bytes.bytesOf,go_sem];rfl
  |some a=>simp[Extern.Bytes.bytesOf,Extern.Bytes.loadBytes,go_sem];rfl
 .rcases e with rfl|e
  .simp[Extern.Bytes.bytesOf,Extern.Bytes.loadBytes,go_sem];rfl
  .have:=Qb6 (P:=P) l d .empty e;simp only[Extern.Bytes.bytesOf,this];congr 2;simp[ByteArray.empty,ByteArray.emptyWithCapacity];rfl
def cmpB(l m:List Int):Int:=Lib.compareBytes (l.map Qbn) (m.map Qbn)
theorem OpV.cmpB{c:Call}{f:FuncId}{fn:Func}{x y:Operand}{k:Array TypeId}{ax d:A}{l m:List Int}(q:P.funcs[f]?=some fn)(b:(fn.name=="runtime.NumGoroutine")=false)(t:fn.body.isNone=true)(s:Extern.findNext fn=none)(he:Extern.find fn=some Extern.BytealgCompare.compare)
  (u:QkC P H ax l)(n:QkC P H d m)(z:o.op=.call c:=by exact rfl)(hc:c={callee:=.value (.func f),args:= #[x,y],argTypes:=k}:=by exact rfl)(hx:opA env x=ax:=by exact rfl)(hy:opA env y=d:=by exact rfl):OpV P o env H (.int .i64 (cmpB l m)):=by
 intro F E σ N a w r;have h:=Qj r x;rw[hx]at h;have g:=Qj r y;rw[hy]at g;have B:=QdD u r.sim h;have i:=QdD n r.sim g;refine⟨.int .i64 (Sw.cmpB l m),?_,rfl⟩;subst hc;have e:a.eval (.func f)=.func (.func f) #[] #[]:=rfl;have p:(callFunc f #[a.eval x,a.eval y]).run P w=.ok (.value (.int .i64 (Sw.cmpB l m))) w:=by
  rw[run_callFunc_extern q b t s he];have j:Sem.run P (Extern.BytealgCompare.compare #[a.eval x,a.eval y]) w=.ok (.int .i64 (Sw.cmpB l m)) w:=by
   change Sem.run P (do pure (goInt (Extern.BytealgCompare.cmp (<- Extern.Bytes.bytesOf (a.eval x)) (<- Extern.Bytes.bytesOf (a.eval y))))) w=_;simp only[Vl,B,i,Result.andThen,Vm,Lib.cmp_eq];rfl
  rw[j];rfl
 generalize a.eval=ρ at*;simp only[execOp,z,resolve,e,Deferred.ofValue,invoke,Vl,Vm,Result.andThen];simpa using p
theorem YK{t p n k b off j:Nat}{x y:Operand}{i:Int}{u:IntKind}(m:(i==(j:Int))=true)(J:Nat.blt j n=true)(G:∀w,(underlying t).run P w=.ok (.array n p) w)(L:∀w,(sizeOf p).run P w=.ok k w)(g:Nat.ble 2 n=true)
  (M:o.op=.indexAddr t x y:=by exact rfl)(hx:opA env x=.ptr b off:=by exact rfl)(hy:opA env y=.int u i:=by exact rfl):OpV P o env H (.ptr b (off+j*k)):=by
 intro Q O σ N a w r;have e:=Qj r x;rw[hx]at e;obtain⟨f,e,z⟩:=e;have s:=Qj r y;rw[hy]at s;have l:a.eval y=.int u i:=s;have F:i=(j:Int):=by simpa using m
 have h:j<n:=by simpa using J
 have E:2<=n:=XR g;subst F;refine⟨.pointer (some ⟨f,off+j*k,none⟩),?_,f,e,rfl⟩;have B:0<=(j:Int)/\(j:Int)<(n:Int):=by omega
 have d:(⟨f,off,none⟩:Addr).add ((j:Int).toNat*k)=⟨f,off+j*k,none⟩:=by
  unfold Addr.add;split
  .rename_i q;simp at q;simp[q]
  .simp
 generalize a.eval=ρ at*;simp[execOp,M,z,l,Instr.indexAt,asIntOf,G,L,Instr.sureAddr,B,d,go_sem,Result.andThen,h]
end
theorem QlJ{P:Program}{W:World}{name:String}{d:DataW Unit}:∀{a:List (String×DataW Unit)} {ps:List MemPlace},DataW.LaidVars P W a ps->(name,d)∈a->
  ∃(g:Nat) (t:TypeId) (cs:Array Value) (b:Nat) (p:List MemPlace),P.globalNamed name=some g/\(P.globals[g]?).map (·.type)=some t/\W.var? P name=some cs/\DataW.trod (λ_=>()) P W 0 (λ_=>true) false b t cs.toList=some (d,p):=by
 intro a
 induction a with
 |nil=>simp
 |cons x a n=>
  intro ps h i;obtain⟨g,t,cs,b,p,q,m,f,l,k,e,j⟩:=h
  grind
theorem Yb{P:Program}{W:World}{name:String}{a b:Int}{g t e:Nat}{k m:Field}{d:List (String×DataW Unit)}{ps:List MemPlace}(h:DataW.LaidVars P W d ps)(J:(name,DataW.agg [.lit (.int .i64 a),.lit (.int .i64 b)])∈d)
  (hg:P.globalNamed name=some g)(i:(P.globals[g]?).map (·.type)=some t)(L:P.underlying t=some (.struct #[k,m]))(B:k.type=e)(x:m.type=e)(M:k.offset=0)(O:m.offset=1)(he:P.underlying e=some (.int .i64))(f:P.cellsOf e=1)(l:P.cellsOf t=2):
  W.cell? ⟨g,0,none⟩=some (.int .i64 a)/\W.cell? ⟨g,1,none⟩=some (.int .i64 b):=by
 obtain⟨X,Y,cs,s,p,N,H,r,G⟩:=QlJ h J;obtain rfl:=XY (hg.symm.trans N);obtain rfl:=XY (i.symm.trans H);obtain⟨V,y1,n,T,E,q,u⟩:=Go.ChangeShapes.trod_struct2 L G;rw[B,M,f]at q;rw[x,O,f]at u;obtain⟨w,R,Q,_⟩:=DataW.trod_int he q;obtain⟨y,F,z,_⟩:=DataW.trod_int he u;subst Q z;have j:a=w/\b=y:=by grind
 obtain⟨rfl,rfl⟩:=j;rw[World.var?_cell hg r,World.var?_cell hg r];rw[l]at E;constructor
 .have:=congrArg (·[0]?) R
  grind
 .have:=congrArg (·[0]?) F
  grind
theorem Jg{w:World}{g:Nat}{a b:Int}(s:w.cell? ⟨g,0,none⟩=some (.int .i64 a)/\w.cell? ⟨g,1,none⟩=some (.int .i64 b)):∀(zs:List Int),some [a,b]=some zs->∀(i:Nat) (z:Int),zs[i]?=some z->w.cell? ⟨g,i,none⟩=some (.int .i64 z)
 |zs,h,0,z,hi=>by grind
 |zs,h,1,z,hi=>by grind
 |zs,h,i+2,z,hi=>by grind
def Qbj:Option Blk->Bool
 |some .dead=>true
 |_=>false
def Qap(hB hE:Nat)(H H':Qd):Bool:=(List.range (hE-hB)).all λp=> !Qbj H'[hB+p]? ||Qbj H[hB+p]?
def QjT(hB hE:Nat)(σ:Sig)(H:Qd):Prop:=∀p,hB<=p->p<hE->Qbj H[p]?=true->σ[p]?=some none
theorem Qks{hB hE:Nat}{H H':Qd}(h:Qap hB hE H H'=true){p:Nat}(d:hB<=p)(b:p<hE)(a:Qbj H'[p]?=true):Qbj H[p]?=true:=by
 have:=Xs.1 h (p-hB) (List.mem_range.2 (by omega));rw[show hB+(p-hB)=p by omega,a]at this;simpa using this
theorem Sim.allocAt{fr ro:Nat->Prop}{σ:Sig}{H:Qd}{w:World}(s:Sim fr ro σ H w){p:Nat}(L:σ[p]?=some none){obj:Obj}{x:Blk}
  (P:BR ro (σ.set p (some w.heap.size)) (w.alloc obj) x (some w.heap.size))
  (F:∀c,Hid (w.alloc obj) x w.heap.size c->False:=by exact λ_ h=>h.elim):Sim fr ro (σ.set p (some w.heap.size)) (H.set p x) (w.alloc obj):=by
 have ev:Qi fr ro w ro (w.alloc obj):=Qi.alloc obj s.roLt s.frLt;have u:=s.len;have E:p<σ.length:=(XL.1 L).1;have t:Ext ro σ w ro (σ.set p (some w.heap.size)) (w.alloc obj):=⟨ev.sub,ev.keepRo,ev.shape,λi b q=>by
  rw[XP (λz=>by subst z;rw[L]at q;cases q)];exact q⟩
 have e:∀(i:Nat) (y:Option Nat),(σ.set p (some w.heap.size))[i]?=some y->(i≠p/\σ[i]?=some y)\/(i=p/\y=some w.heap.size):=by
  intro i y h;by_cases q:i=p
  .subst q;rw[Xa E]at h;exact .inr ⟨rfl,(XY h).symm⟩
  .rw[XP (λz=>q z.symm)]at h;exact .inl ⟨q,h⟩
 have m:∀i:Nat,i≠p->(H.set p x)[i]?=H[i]? :=λi N=>XP (λz=>N z.symm);have M:(H.set p x)[p]?=some x:=Xa (by omega);refine⟨by simp[u],s.roOk.to (λ_ q=>q) ev.keepRo (λb h=>?_),λb h=>?_,s.roFr,?_,?_,?_,s.hidTo (· = ·) Q3 (by rw[YT];omega) (λ_ _ _ _ _ _ _ q=>q) (λ_ _ _ _ _ _ _ q=>q) λj d y l k Q=>?_⟩
 rotate_left 5
 .rcases e j _ l with⟨q,l⟩|⟨rfl,n⟩
  .rw[m j q]at k;exact .inl ⟨j,y,rfl,l,k,id,λc q=>s.hidKeep l k (λz=>Yr w obj d (s.own j d y l k z).1) ev.keepRo q⟩
  .rw[M]at k;cases k;cases n;exact .inr ⟨XT _,F⟩
 .rw[YT];have:=s.roLt b h;omega
 .rw[YT];have:=s.frLt b h;omega
 .intro i b y g f r;rw[YT];rcases e i _ g with⟨q,g⟩|⟨rfl,n⟩
  .rw[m i q]at f;obtain⟨a,b,c⟩:=s.own i b y g f r;exact⟨by omega,b,c⟩
  .cases n;exact⟨by omega,λq=>by have:=s.roLt _ q;omega,λq=>by have:=s.frLt _ q;omega⟩
 .intro i j b y z g f r B G J;rcases e i _ g with⟨q,l⟩|⟨O,n⟩<;>rcases e j _ f with⟨q',k⟩|⟨ej,e2⟩
  .rw[m i q]at r;rw[m j q']at B;exact s.inj i j b y z l k r B G J
  .cases e2;rw[m i q]at r;have:=(s.own i _ y l r G).1;omega
  .cases n;rw[m j q']at B;have:=(s.own j _ z k B J).1;omega
  .rw[O,ej]
 .intro i y z g f;rcases e i _ g with⟨q,g⟩|⟨rfl,n⟩
  .rw[m i q]at f;refine(s.blk i y z g f).keep t ?_ ?_
   .rintro b rfl u;exact Yr w obj b (s.own i b z g f u).1
   .rintro b c rfl u;exact Yr w obj c (s.hid i b z c g f u).lt
  .rw[M]at f;cases f;subst n;exact P
def OpZ(P:Program)(o:Oper)(t:Nat)(cs:List A):Prop:=
 ∀(ro:Nat->Prop) (σ:Sig) (w:World) (a:Act),∃l:List Value,(execOp a.eval o).run P w=.ok (.value (.pointer (some ⟨w.heap.size,0,none⟩))) (w.alloc (.cells l.toArray t))/\LR ro σ w cs l/\ ∀v∈l,Qo v
theorem OpZ.alloc{P:Program}{o:Oper}{t:Nat}{z:Value}{v:A}{cs:List A}(f:∀w,(zeroValue t).run P w=.ok z w)(h:ZR v z)(i:o.op=.alloc t:=by exact rfl)(hk:Yi v=true:=by exact rfl)(hcs:Q6 v=cs:=by exact rfl)(hpl:cs.all Yo=true:=by exact rfl):
  OpZ P o t cs:=by
 intro g σ w a;obtain⟨l,d,b⟩:=(h g σ w).cells hk;subst hcs;refine⟨l,?_,b,b.plain hpl⟩;generalize a.eval=ρ at*;have e:(newVar t z).run P w=.ok ⟨w.heap.size,0,none⟩ (w.alloc (.cells l.toArray t)):=by
  unfold newVar;rw[d];rfl
 simp only[execOp,i,Instr.alloc,Vl,f,Result.andThen,e];rfl
def OpZR(P:Program)(o:Oper)(e:Env)(H:Qd)(p:Nat)(x:A)(B:Blk):Prop:=
 ∀fr ro σ N a w,Rel fr ro σ H e N a w->∃v obj,(execOp a.eval o).run P w=.ok (.value v) (w.alloc obj)/\(∀c,Hid (w.alloc obj) B w.heap.size c->False)/\
  ∀σ',σ'[p]?=some (some w.heap.size)->Ext ro σ w ro σ' (w.alloc obj)->VR ro σ' (w.alloc obj) x v/\BR ro σ' (w.alloc obj) B (some w.heap.size)
theorem QbV{P:Program}{l:List Oper}{i:Nat}{o:Oper}{rd:Option Nat}{R:Exit->Act->World->Prop}{Q:Exit->Act->World->Prop}{K:Act->World->Prop}{a:Act}{w:World}
  (B:l[i]?=some o)(g:wpL P rd l.toArray R [o] a w)(h:∀e a' w',R e a' w'->e=.normal/\a'.defers=a.defers)(k:∀v w',R .normal (a.put o.dst v) w'->K (a.put o.dst v) w'):
  wpOpIn (WF rd) 0 P l.toArray Q i K a w:=by
 unfold wpOpIn;have p:l.toArray[i]?=some o:=by simpa using B
 rw[p];simp only;unfold wpL wpListIn at g;split at g
 .rename_i s;rw[Vs s];obtain⟨j,g⟩:=g;refine⟨j,?_⟩;have d:=Qhc (by
   intro a' w' q;unfold wpListIn at q;exact(h _ _ _ q).2) g
  generalize(o.semAt (WF rd).round a.eval).run P w=res at*;cases res with
  |ok n w'=>
   cases n with
   |value v=>exact k _ _ d.1
   |skip=>exact k _ _ d.1
   |defer E=>
    exfalso;have:=(h _ _ _ d.1).2;have:=congrArg List.length this
    revert this
    cases o.dst<;>simp[Act.put]
   |enter f m=>
    refine⟨d.1,CallsIn.mono d.2 (λe t b=>?_)⟩;cases e with
    |returned v=>exact k _ _ b.1
    |panicked c=>have:=(h _ _ _ b).1;cases this
    |outgrown=>obtain⟨z,w1,b⟩:=b;have:=(h _ _ _ b).1;cases this
   |row r m=>
    exact⟨d.1,RowsIn.mono d.2 (λ_ _ b=>k _ _ b.1)⟩
   |round l f y assign u=>
    refine⟨d.1,RoundIn.mono d.2 (λe t b=>?_)⟩;cases e with
    |returned v=>exact k _ _ b.1
    |panicked c=>have:=(h _ _ _ b).1;cases this
    |outgrown=>obtain⟨z,w1,b⟩:=b;have:=(h _ _ _ b).1;cases this
   |_=>exact d.elim
  |halt x w'=>
   cases x with
   |panic v=>have:=(h _ _ _ d).1;cases this
   |_=>exact d.elim
 .rename_i s;rw[Vr s];obtain⟨j,g⟩:=g;refine⟨j,?_⟩;unfold wpListIn at g;exact k _ _ g
theorem Qkr{P:Program}{l:List Oper}{m:Nat}(back:∀i o,l[i]?=some o->∀j∈Qh o,j<i)(k:∀i o,m<i->l[i]?=some o->i-1∈Qh o){Q:Exit->Act->World->Prop}{rd:Option Nat}:
  ∀(b t:Nat) (L:Array Bool) (a:Act) (w:World),L.size=l.length->(∀i,i<l.length->(onL L i↔i<t))->unl L<=b->m<=t->t<=l.length->
   wpL P rd l.toArray Q (l.drop t) a w->wpAnyIn (WF rd) 0 P .any l.toArray Q b L a w:=by
 intro b
 induction b with
 |zero=>
  intro t L a w hsz hL hf hm ht h;have:t=l.length:=by
   rcases VB t l.length with q|q
   .have:=Qje (L:=L) (i:=t) (by omega) (λz=>by have:=(hL t q).1 z;omega);omega
   .omega
  subst this;refine⟨List.eq_nil_iff_forall_not_mem.2 λi p=>?_,?_⟩
  .obtain⟨o,f,g,_⟩:=(QaE hsz).1 p;have d:=(XL.1 f).1;exact g ((hL i d).2 d)
  .rw[List.drop_length]at h;exact h
 |succ b G=>
  intro t L a w hsz hL hf hm ht h;have s:∀i o,l[i]?=some o->¬onL L i->(∀j∈Qh o,onL L j)->i=t:=by
   intro i o f g u;have d:=(XL.1 f).1;have F:t<=i:=by
    rcases VB i t with q|q
    .exact absurd ((hL i d).2 q) g
    .exact q
   rcases VB t i with q|q
   .have:=(hL (i-1) (by omega)).1 (u _ (k i o (by omega) f));omega
   .omega
  rcases VB t l.length with e|e
  .have E:l[t]?=some l[t]:=XK e;have n:¬onL L t:=λq=>by have:=(hL t e).1 q;omega
   have y:t∈Region.ready .any l.toArray L:=by
    refine(QaE hsz).2 ⟨_,E,n,λj x=>?_⟩;have:=back t _ E j x;exact(hL j (by omega)).2 this
   refine⟨λq=>(by rw[q]at y;cases y),λi p=>?_⟩;obtain⟨o,f,g,u⟩:=(QaE hsz).1 p;obtain rfl:=s i o f g u;rw[Xp e]at h;obtain rfl:l[i]=o:=by rw[XK e]at f;exact XY f
   unfold wpOpIn;rw[show l.toArray[i]?=some l[i]by rw[XG];exact f];simp only;unfold wpL wpListIn at h;have B:∀a w,wpL P rd l.toArray Q (l.drop (i+1)) a w->wpAnyIn (WF rd) 0 P .any l.toArray Q b (L.setIfInBounds i true) a w:=by
    intro a w q;have H:=Qgo (L:=L) (i:=i) (by omega) n;refine G (i+1) _ a w (by simpa using hsz) (λj x=>?_) (by omega) (by omega) (by omega) q;rw[Jh (by omega),hL j x];omega
   split at h
   .rename_i r;rw[Vs r];exact Oper.wpIn_mono B h
   .rename_i r;rw[Vr r];exact⟨h.1,B _ _ h.2⟩
  .have:t=l.length:=by omega
   subst this;rw[List.drop_length]at h;refine⟨λ_=>h,λi p=>?_⟩;obtain⟨o,f,g,_⟩:=(QaE hsz).1 p;have d:=(XL.1 f).1;exact absurd ((hL i d).2 d) g
def QmV(af ds:List Nat)(xs:List A)(env0 e:Env):Prop:=
 ∀s,(∃j x,af.contains j=true/\ds[j]?=some s/\xs[j]?=some x/\lk e s=x)\/lk e s=.any\/(ds.contains s=false/\lk e s=lk env0 s)
inductive Jd (P:Program) (N:Nat) (l:List Oper) (ds:List Nat) (xs:List A) (env0:Env) (hB hE:Nat) (i:Nat) (H H':Qd):Prop
 |mk (o:Oper) (e:Env) (d:Nat) (x:A) (ho:l[i]?=some o) (hd:o.dst=some d) (hx:xs[i]?=some x) (hdd:Qap hB hE H H'=true) (hs:Sb (Qh o) (QgS l i) ds xs env0 e)
   (h:WO P H.length N l.toArray [o] e H (YS (up e d x) H')):Jd P N l ds xs env0 hB hE i H H'
 |unit (o:Oper) (e:Env) (ho:l[i]?=some o) (hd:o.dst=none) (hx:xs[i]?=some .any) (hdd:Qap hB hE H H'=true) (hs:Sb (Qh o) (QgS l i) ds xs env0 e)
   (h:WO P H.length N l.toArray [o] e H (YS e H')):Jd P N l ds xs env0 hB hE i H H'
 |alloc (o:Oper) (d t p:Nat) (cs:List A) (ho:l[i]?=some o) (hd:o.dst=some d) (hg:o.guard=none) (hx:xs[i]?=some (.ptr p 0)) (hp:(Nat.ble hB p&&Nat.blt p hE)=true) (hdead:Qbj H[p]?=true)
   (hH:H.set p (.cells t cs)=H') (h:OpZ P o t cs) (hN:Nat.blt d N=true):Jd P N l ds xs env0 hB hE i H H'
 |row (o:Oper) (e:Env) (d p:Nat) (x:A) (B:Blk) (ho:l[i]?=some o) (hd:o.dst=some d) (hg:o.guard=none) (hx:xs[i]?=some x) (hp:(Nat.ble hB p&&Nat.blt p hE)=true) (hdead:Qbj H[p]?=true) (hlive:Qbj (some B)=false)
   (hH:H.set p B=H') (hs:Sb (Qh o) (QgS l i) ds xs env0 e) (h:OpZR P o e H p x B) (hN:Nat.blt d N=true):Jd P N l ds xs env0 hB hE i H H'
 |val (o:Oper) (e:Env) (d:Nat) (x:A) (ho:l[i]?=some o) (hd:o.dst=some d) (hg:o.guard=none) (hx:xs[i]?=some x) (hN:Nat.blt d N=true) (he:QmV (Qh o) ds xs env0 e) (h:OpV P o e H x)
   (hH:H=H':=by rfl):Jd P N l ds xs env0 hB hE i H H'
 |woE (o:Oper) (e:Env) (d:Nat) (x:A) (ho:l[i]?=some o) (hd:o.dst=some d) (hx:xs[i]?=some x) (he:QmV (Qh o) ds xs env0 e) (hdd:Qap hB hE H H'=true) (h:WO P H.length N l.toArray [o] e H (YS (up e d x) H')):Jd P N l ds xs env0 hB hE i H H'
theorem Sb.rel{af bf d:List Nat}{xs:List A}{env0 e:Env}{ro:Nat->Prop}{σ:Sig}{w:World}{a:Act}(h:Sb af bf d xs env0 e)
  (g:∀j∈af,∀s x,d[j]?=some s->xs[j]?=some x->VR ro σ w x (a.tmps.getD s undef))
  (f:∀s,d.contains s=false->VR ro σ w (lk env0 s) (a.tmps.getD s undef))(hP:∀j s,bf.contains j=true->d[j]?=some s->VR ro σ w (lk env0 s) (a.tmps.getD s undef)):
  ∀s,VR ro σ w (lk e s) (a.tmps.getD s undef):=by
 intro s
 induction h with
 |nil=>exact trivial
 | @dep j s1 x1 r h1 h2 h3 _ ih=>
  unfold lk;cases b:Nat.beq s s1 with
  |false=>exact ih
  |true=>
   obtain rfl:=XQ b;exact g j (by simpa using h1) _ _ h2 h3
 | @old s1 x1 r h1 h2 _ ih=>
  unfold lk;cases b:Nat.beq s s1 with
  |false=>exact ih
  |true=>
   obtain rfl:=XQ b;subst h2;exact f _ h1
 | @pre j s1 x1 r h1 h2 h3 _ ih=>
  unfold lk;cases b:Nat.beq s s1 with
  |false=>exact ih
  |true=>
   obtain rfl:=XQ b;subst h3;exact hP j _ h1 h2
structure After (fr ro:Nat->Prop) (σ:Sig) (w:World) (hB hE:Nat) (H':Qd) (xs:List A) (i:Nat) (o:Oper) (a':Act) (w':World) (ro':Nat->Prop) (σ':Sig):Prop where
 val:∀x,xs[i]?=some x->match o.dst with
  |some d=>VR ro' σ' w' x (a'.tmps.getD d undef)
  |none=>x=.any
 sim:Sim fr ro' σ' H' w'
 ev:Qi fr ro w ro' w'
 ext:Ext ro σ w ro' σ' w'
 holes:QjT hB hE σ' H'
 take:σ'.take hB=σ.take hB
theorem Jd.use{P:Program}{N:Nat}{l:List Oper}{ds:List Nat}{xs:List A}{env0:Env}{hB hE i:Nat}{H H':Qd}(hb:Jd P N l ds xs env0 hB hE i H H')
  {Q:Exit->Act->World->Prop}{K:Act->World->Prop}{fr ro:Nat->Prop}{σ:Sig}{a:Act}{w:World}{o:Oper}{rd:Option Nat}(O:l[i]?=some o)
  (f:Sim fr ro σ H w)(hN:a.tmps.size=N)(r:Qcc fr a.defers w)(ad:Qdu rd fr w)(hh:QjT hB hE σ H)(hl:hE<=H.length)(aj:hB<=hE)
  (hD:∀j∈Qh o,∀s x,ds[j]?=some s->xs[j]?=some x->VR ro σ w x (a.tmps.getD s undef))
  (hO:∀s,ds.contains s=false->VR ro σ w (lk env0 s) (a.tmps.getD s undef))(hP:∀j s,(QgS l i).contains j=true->ds[j]?=some s->VR ro σ w (lk env0 s) (a.tmps.getD s undef))
  (hK:∀v w' ro' σ',After fr ro σ w hB hE H' xs i o (a.put o.dst v) w' ro' σ'->K (a.put o.dst v) w'):
  wpOpIn (WF rd) 0 P l.toArray Q i K a w:=by
 have T:∀{e:Env} {H2:Qd} {E:Exit} {u:Act} {w':World},Qbw H.length fr ro σ w N a.defers (YS e H2) E u w'->E=.normal/\u.defers=a.defers:=by
  rintro e H2 E u w' ⟨x,_,_,_,_,_,k,⟨rfl,_⟩,_,_,_,L,_⟩;refine⟨?_,L⟩;cases E<;>first|rfl|exact k.elim|cases k
 have ai:∀{σ':Sig} {w':World},Qi fr ro w ro w'->σ'.take H.length=σ.take H.length->True:=λ_ _=>trivial;have aa:∀{e:Env} {u:Act} {w':World},Qbw H.length fr ro σ w N a.defers (YS e H') .normal u w'->Qap hB hE H H'=true->
   ∃ro' σ',Sim fr ro' σ' H' w'/\Qi fr ro w ro' w'/\Ext ro σ w ro' σ' w'/\QjT hB hE σ' H'/\σ'.take hB=σ.take hB/\ ∀s,VR ro' σ' w' (lk e s) (u.tmps.getD s undef):=by
  rintro e u w' ⟨_,ah,H2,ro',σ',ak,_,⟨_,rfl,rfl⟩,r',he,ht,_,ag⟩ G;have hσ:σ'=σ++σ'.drop H.length:=by
   conv=>lhs;rw[<- Xz H.length σ']
   rw[ht, <- f.len,X8]
  refine⟨ro',σ',r'.sim.frMono ag.sub,he,?_,?_,?_,r'.env⟩
  .rw[hσ];exact he.ext σ _
  .intro p k L h3;have:=hh p k L (Qks G k L h3);rw[hσ,XM (by rw[f.len];omega)];exact this
  .rw[hσ];exact QA (by rw[f.len];omega)
 cases hb with
 |woE n e d x g M hx he G h=>
  obtain rfl:n=o:=XY (g.symm.trans O);have hr:∀s,VR ro σ w (lk e s) (a.tmps.getD s undef):=λs=>by
   rcases he s with⟨j,x,k,L,h3,V⟩|V|⟨k,V⟩
   .rw[V];exact hD j (by simpa using k) s x L h3
   .rw[V];exact trivial
   .rw[V];exact hO s k
  refine QbV O (h rd fr ro σ a w ⟨f,hr,hN,r⟩ ad) (λ_ _ _ q=>T q) (λv w' q=>?_);obtain⟨ro',σ',g1,g2,J,g4,g5,g6⟩:=aa q G;refine hK v w' ro' σ' ⟨λy W=>?_,g1,g2,J,g4,g5⟩;obtain rfl:=XY (hx.symm.trans W);have:=g6 d;unfold lk at this;rw[VE]at this;rw[M]at this⊢;exact this
 |mk n e d x g M hx G hs h=>
  obtain rfl:n=o:=XY (g.symm.trans O);refine QbV O (h rd fr ro σ a w ⟨f,hs.rel hD hO hP,hN,r⟩ ad) (λ_ _ _ q=>T q) (λv w' q=>?_);obtain⟨ro',σ',g1,g2,J,g4,g5,g6⟩:=aa q G;refine hK v w' ro' σ' ⟨λy W=>?_,g1,g2,J,g4,g5⟩;obtain rfl:=XY (hx.symm.trans W);have:=g6 d;unfold lk at this;rw[VE]at this;rw[M]at this⊢;exact this
 |unit n e g M hx G hs h=>
  obtain rfl:n=o:=XY (g.symm.trans O);refine QbV O (h rd fr ro σ a w ⟨f,hs.rel hD hO hP,hN,r⟩ ad) (λ_ _ _ q=>T q) (λv w' q=>?_);obtain⟨ro',σ',g1,g2,J,g4,g5,g6⟩:=aa q G;refine hK v w' ro' σ' ⟨λy W=>?_,g1,g2,J,g4,g5⟩;obtain rfl:=XY (hx.symm.trans W);rw[M]
 |val n e d x g M hg hx X he h hH=>
  obtain rfl:n=o:=XY (g.symm.trans O);subst hH;have hr:Rel fr ro σ H e N a w:=by
   refine⟨f,λs=>?_,hN,r⟩;rcases he s with⟨j,x,k,L,h3,V⟩|V|⟨k,V⟩
   .rw[V];exact hD j (by simpa using k) s x L h3
   .rw[V];exact trivial
   .rw[V];exact hO s k
  obtain⟨v0,k,L⟩:=h fr ro σ N a w hr;have hw:Region.wanted n (yielded l.toArray a.tmps)=true:=by unfold Region.wanted;rw[hg]
  refine QbV (R:=λE u w'=>E=.normal/\u.defers=a.defers/\u=a.put n.dst v0/\w'=w) O (Qac hw k ?_) (λ_ _ _ q=>⟨q.1,q.2.1⟩) (λv w' q=>?_)
  .unfold wpL wpListIn;refine⟨rfl,?_,rfl,rfl⟩;rw[M];rfl
  .obtain⟨_,_,q1,rfl⟩:=q;refine hK v _ ro σ ⟨λy W=>?_,f,Qi.refl _ _ _,⟨λ_ q=>q,λ_ _=>rfl,λ_ _ q=>q,λ_ _ q=>q⟩,hh,rfl⟩;obtain rfl:=XY (hx.symm.trans W);rw[q1,M];have Y:d<a.tmps.size:=by rw[hN];simpa using X
   show VR ro σ w' x _;simpa[Act.put,Array.getD_eq_getD_getElem?,Y]using L
 |row n e d p x B g M hg hx hp F hlive hH hs h X=>
  obtain rfl:n=o:=XY (g.symm.trans O);subst hH;simp only[XW]at hp;have af:=XR hp.1;have ac:p<hE:=by simpa using hp.2
  have hσp:=hh p af ac F;have hr:Rel fr ro σ H e N a w:=⟨f,hs.rel hD hO hP,hN,r⟩;obtain⟨v0,ae,k,L,h3⟩:=h fr ro σ N a w hr;have hw:Region.wanted n (yielded l.toArray a.tmps)=true:=by unfold Region.wanted;rw[hg]
  have ev:Qi fr ro w ro (w.alloc ae):=Qi.alloc _ f.roLt f.frLt;have ab:p<σ.length:=by rw[f.len];omega
  have m:Ext ro σ w ro (σ.set p (some w.heap.size)) (w.alloc ae):=⟨ev.sub,ev.keepRo,ev.shape,λj b q=>by
   rw[XP (λz=>by subst z;rw[hσp]at q;cases q)];exact q⟩
  obtain⟨g8,g9⟩:=h3 _ (Xa ab) m;refine QbV (R:=λE u w'=>E=.normal/\u.defers=a.defers/\u=a.put n.dst v0/\w'=w.alloc ae) O (Qac hw k ?_) (λ_ _ _ q=>⟨q.1,q.2.1⟩) (λv w' q=>?_)
  .unfold wpL wpListIn;refine⟨rfl,?_,rfl,rfl⟩;rw[M];rfl
  .obtain⟨_,_,q1,rfl⟩:=q;refine hK v _ ro (σ.set p (some w.heap.size)) ⟨λy W=>?_,f.allocAt hσp g9 L,ev,m,λp' g1 g2 J=>?_,?_⟩
   .obtain rfl:=XY (hx.symm.trans W);rw[q1,M];have Y:d<a.tmps.size:=by rw[hN];simpa using X
    show VR ro _ _ x _;simpa[Act.put,Array.getD_eq_getD_getElem?,Y]using g8
   .by_cases q:p'=p
    .subst q;rw[Xa (by omega),hlive]at J;cases J
    .rw[XP (λz=>q z.symm)]at J⊢;exact hh p' g1 g2 J
   .rw[List.take_set,List.set_eq_of_length_le];rw[Xy];omega
 |alloc n d t p cs g M hg hx hp F hH h X=>
  obtain rfl:n=o:=XY (g.symm.trans O);subst hH;simp only[XW]at hp;have af:=XR hp.1;have ac:p<hE:=by simpa using hp.2
  have hσp:=hh p af ac F;obtain⟨lv,k,L,h3⟩:=h ro σ w a;have hw:Region.wanted n (yielded l.toArray a.tmps)=true:=by unfold Region.wanted;rw[hg]
  have ev:Qi fr ro w ro (w.alloc (.cells lv.toArray t)):=Qi.alloc _ f.roLt f.frLt;have ab:p<σ.length:=by rw[f.len];omega
  have m:Ext ro σ w ro (σ.set p (some w.heap.size)) (w.alloc (.cells lv.toArray t)):=⟨ev.sub,ev.keepRo,ev.shape,λj b q=>by
   rw[XP (λz=>by subst z;rw[hσp]at q;cases q)];exact q⟩
  refine QbV (R:=λE u w'=>E=.normal/\u.defers=a.defers/\u=a.put n.dst (.pointer (some ⟨w.heap.size,0,none⟩))/\w'=w.alloc (.cells lv.toArray t)) O (Qac hw k ?_) (λ_ _ _ q=>⟨q.1,q.2.1⟩) (λv w' q=>?_)
  .unfold wpL wpListIn;refine⟨rfl,?_,rfl,rfl⟩;rw[M];rfl
  .obtain⟨_,_,q1,rfl⟩:=q;refine hK v _ ro (σ.set p (some w.heap.size)) ⟨λy W=>?_,f.allocAt hσp ⟨lv,Q0 _ _,L.mono m,h3⟩,ev,m,λp' g1 g2 J=>?_,?_⟩
   .obtain rfl:=XY (hx.symm.trans W);rw[q1,M];have Y:d<a.tmps.size:=by rw[hN];simpa using X
    refine⟨w.heap.size,Xa ab,?_⟩;simp[Act.put,Array.getD_eq_getD_getElem?,Y]
   .by_cases q:p'=p
    .subst q;rw[Xa (by omega)]at J;cases J
    .rw[XP (λz=>q z.symm)]at J⊢;exact hh p' g1 g2 J
   .rw[List.take_set,List.set_eq_of_length_le];rw[Xy];omega
def same(a b:List Nat):Bool:=a.all (b.contains ·)&&b.all (a.contains ·)
theorem Qna{a b:List Nat}(h:same a b=true)(i:Nat):i∈a↔i∈b:=by
 unfold same at h;simp only[XW,Xs,List.contains_iff_mem]at h;exact⟨h.1 i,h.2 i⟩
structure QmY (l:List Oper) (m:Nat) (ds:List Nat) (hs:List Bool) (rq ms:List (List Nat)) (pl:List (List (Nat×Nat))) (N:Nat):Prop where
 len:m<=l.length
 dst:∀i o,i<m->l[i]?=some o->(∃d,o.dst=some d/\ds[i]?=some d/\d<N)\/o.dst=none
 dsl:ds.length=m
 nodup:∀(i j d:Nat),ds[i]?=some d->ds[j]?=some d->i=j
 back:∀i o,l[i]?=some o->∀j∈Qh o,j<i
 mid:∀o,l[m]?=some o->∀j,j<m->Qcb l m j
 chain:∀i o,m<i->l[i]?=some o->i-1∈Qh o
 rqs:∀i o,i<m->l[i]?=some o->∀h∈rq.getD i [],h<m/\hs.getD h false=true/\(h∈Qh o\/ ∃j∈Qh o,j<m/\h∈rq.getD j [])
 ms0:ms.getD 0 []=[]
 full:∀st,st<ms.length->st+1=ms.length\/ ∃i,i<m/\hs.getD i false=true/\i∉ms.getD st []
 msh:∀st h,h∈ms.getD st []->h<m/\hs.getD h false=true
 pls:∀i st,i<m->st<ms.length->(∀h∈rq.getD i [],h∈ms.getD st [])->(hs.getD i false=true->i∉ms.getD st [])->(∀h∈ms.getD st [],¬Qcb l h i)->
  ∃st',(st,st')∈pl.getD i []/\st'<ms.length/\if hs.getD i false then∀j,j∈ms.getD st' []↔j=i\/j∈ms.getD st []else st'=st
theorem Qn0{α:Type}{l:List α}{i:Nat}{d x:α}(h:l[i]?=some x):l.getD i d=x:=by rw[VK,h];rfl
theorem QhU{P:Program}{l:List Oper}{m:Nat}{Y:List Nat}{hs:List Bool}{rq ms:List (List Nat)}{pl:List (List (Nat×Nat))}{N h0 hB hE:Nat}{xs:List A}{env0:Env}{Hs:List Qd}{Hk:Qd}
  (ok:QmY l m Y hs rq ms pl N)(a1:xs.length=m)(a9:Hs.length=ms.length)(a5:h0<=hB)(ao:hB<=hE)(a7:∀H∈Hs,hE<=H.length)
  (a2:∀i p,i<m->p∈pl.getD i []->Jd P N l Y xs env0 hB hE i (Hs.getD p.1 []) (Hs.getD p.2 []))(au:Hs.getD (ms.length-1) []=Hk)
  {fr ro0:Nat->Prop}{σ0:Sig}{w0:World}{rd:Option Nat}{ds0:List Deferred}{R:Exit->Act->World->Prop}
  (hk:∀ro σ a w,Rel fr ro σ Hk (Qar Y xs env0) N a w->Qi fr ro0 w0 ro w->σ.take h0=σ0.take h0->a.defers=ds0->wpL P rd l.toArray R (l.drop m) a w)(al:Qcc fr ds0 w0)(ay:Qdu rd fr w0):
  ∀(f:Nat) (L:Array Bool) (a:Act) (w:World) (ro:Nat->Prop) (σ:Sig) (t:Nat),
   L.size=l.length->unl L<=f->(∀i,m<=i->¬onL L i)->t<ms.length->Sim fr ro σ (Hs.getD t []) w->a.tmps.size=N->a.defers=ds0->
   (∀(i d:Nat) (x:A),onL L i->Y[i]?=some d->xs[i]?=some x->VR ro σ w x (a.tmps.getD d undef))->(∀s,(∀j,Y[j]?=some s->¬onL L j)->VR ro σ w (lk env0 s) (a.tmps.getD s undef))->
   Qi fr ro0 w0 ro w->σ.take h0=σ0.take h0->QjT hB hE σ (Hs.getD t [])->
   (∀i,i<m->onL L i->∀h∈rq.getD i [],onL L h)->(∀i,i<m->hs.getD i false=true->(onL L i↔i∈ms.getD t []))->
   (∀i o,onL L i->l[i]?=some o->∀j∈Qh o,onL L j)->
   wpAnyIn (WF rd) 0 P .any l.toArray R f L a w:=by
 have ax:∀t,t<ms.length->hE<=(Hs.getD t []).length:=by
  intro t h;have e:Hs[t]?=some Hs[t]:=XK (by omega);rw[Qn0 e];exact a7 _ (Vc _)
 have fin:∀(f:Nat) (L:Array Bool) (a:Act) (w:World) (ro:Nat->Prop) (σ:Sig) (t:Nat),
   L.size=l.length->unl L<=f->(∀i,m<=i->¬onL L i)->t<ms.length->Sim fr ro σ (Hs.getD t []) w->a.tmps.size=N->a.defers=ds0->
   (∀(i d:Nat) (x:A),onL L i->Y[i]?=some d->xs[i]?=some x->VR ro σ w x (a.tmps.getD d undef))->(∀s,(∀j,Y[j]?=some s->¬onL L j)->VR ro σ w (lk env0 s) (a.tmps.getD s undef))->
   Qi fr ro0 w0 ro w->σ.take h0=σ0.take h0->
   (∀i,i<m->hs.getD i false=true->(onL L i↔i∈ms.getD t []))->(∀i,i<m->onL L i)->
   wpAnyIn (WF rd) 0 P .any l.toArray R f L a w:=by
  intro f L a w ro σ t hsz hu hsuf hst hsim hN hdef hD hE' hev htk hI2 k;have am:t=ms.length-1:=by
   rcases ok.full t hst with q|⟨i,O,X,h3⟩
   .omega
   .exact absurd ((hI2 i O X).1 (k i O)) h3
  rw[am,au]at hsim;refine Qkr ok.back ok.chain f m L a w hsz (λi hi=>⟨λq=>?_,λq=>k i q⟩) hu (XT _) ok.len ?_
  .rcases VB i m with z|z
   .exact z
   .exact absurd q (hsuf i z)
  .have hr:Rel fr ro σ Hk (Qar Y xs env0) N a w:=by
    refine⟨hsim,λs=>?_,hN,by rw[hdef];exact al.keep hev⟩;rcases Qnk (env0:=env0) (by rw[ok.dsl,a1]) s with⟨j,x,O,X,h3⟩|⟨O,X⟩
    .rw[h3];have b:j<m:=by have:=(XL.1 O).1;rw[ok.dsl]at this;exact this
     exact hD j s x (k j b) O X
    .rw[X];exact hE' s (λj q=>absurd (VG q) (by simpa using O))
   exact hk ro σ a w hr hev htk hdef
 intro f
 induction f with
 |zero=>
  intro L a w ro σ t hsz hu hsuf hst hsim hN hdef hD hE' hev htk hho hI1 hI2 hcl;refine fin 0 L a w ro σ t hsz hu hsuf hst hsim hN hdef hD hE' hev htk hI2 (λi hi=>?_);by_cases q:onL L i
  .exact q
  .have:=Qje (L:=L) (i:=i) (by have:=ok.len;omega) q;omega
 |succ f ih=>
  intro L a w ro σ t hsz hu hsuf hst hsim hN hdef hD hE' hev htk hho hI1 hI2 hcl;by_cases k:∀i,i<m->onL L i
  .exact fin (f+1) L a w ro σ t hsz hu hsuf hst hsim hN hdef hD hE' hev htk hI2 k
  .have aw:∃i,i<m/\ ¬onL L i:=by
    refine Classical.byContradiction λq=>k λi hi=>Classical.byContradiction λz=>q ⟨i,hi,z⟩
   obtain⟨n,hn,ae⟩:=aw;obtain⟨i0,O,X,h3⟩:=least (p:=λi=>¬onL L i) (λi=>Classical.em _) n ae;have bb:=ok.len;have ah:l[i0]?=some l[i0]:=XK (by omega);have hr:i0∈Region.ready .any l.toArray L:=(QaE hsz).2 ⟨_,ah,X,λj b=>Classical.byContradiction λz=>h3 j (ok.back i0 _ ah j b) z⟩;refine⟨λq=>(by rw[q]at hr;cases hr),λi hi=>?_⟩;obtain⟨o,T,W,G⟩:=(QaE hsz).1 hi;have B:i<m:=by
    rcases VB i m with q|q
    .exact q
    .exfalso;rcases VB m i with z|z
     .exact hsuf (i-1) (by omega) (G _ (ok.chain i o z T))
     .have:i=m:=by omega
      subst this;have a4:∀j,Qcb l i j->onL L j:=by
       intro j b
       induction b with
       |one r b=>rw[T]at r;cases r;exact G _ b
       |step _ r b ihr=>exact hcl _ _ ihr r _ b
      exact ae (a4 n (ok.mid o T n hn))
   have aj:∀h∈rq.getD i [],onL L h:=by
    intro h V;obtain⟨_,_,q|⟨j,q1,q2,q3⟩⟩:=ok.rqs i o B T h V
    .exact G h q
    .exact hI1 j q2 (G j q1) h q3
   obtain⟨a0,a6,aq,F⟩:=ok.pls i t B hst (λh V=>by
    obtain⟨q1,q2,_⟩:=ok.rqs i o B T h V;exact(hI2 h q1 q2).1 (aj h V)) (λq z=>W ((hI2 i B q).2 z)) (λh V hR=>by
    obtain⟨q1,q2⟩:=ok.msh t h V;have ar:onL L h:=(hI2 h q1 q2).2 V;have ag:∀j,Qcb l h j->onL L j:=by
     intro j b
     induction b with
     |one r b=>exact hcl _ _ ar r _ b
     |step _ r b ihr=>exact hcl _ _ ihr r _ b
    exact W (ag i hR))
   have hb:=a2 i _ B a6;refine hb.use T hsim hN (by rw[hdef];exact al.keep hev) (ay.to hev λ_ q=>q) hho (ax t hst) ao (λj b s x q1 q2=>hD j s x (G j b) q1 q2) (λs O=>hE' s (λj q=>absurd (VG q) (by simpa using O))) (λj s O X=>hE' s (λj' q q'=>?_)) ?_
   .obtain rfl:=ok.nodup j' j s q X;have b:=Xd.1 (List.contains_iff_mem.1 O);cases ac:l[j']? with
    |none=>rw[ac]at b;simp at b
    |some oj=>
     rw[ac]at b;exact W (hcl j' oj q' ac i (by simpa using b.2))
   intro v w' an σ' af;have ab:=af.ext;have aa:∀s,(∀d,o.dst=some d->s≠d)->(a.put o.dst v).tmps.getD s undef=a.tmps.getD s undef:=by
    intro s a3;cases hd:o.dst with
    |none=>rfl
    |some d=>
     simp only[Act.put,Array.getD_eq_getD_getElem?,Vd];rw[Vr (λq=>a3 d hd q.symm)]
   have ad:(a.put o.dst v).tmps.size=N:=by
    cases hd:o.dst with
    |none=>simpa[Act.put]using hN
    |some d=>simpa[Act.put]using hN
   have a8:(a.put o.dst v).defers=ds0:=by
    cases hd:o.dst with
    |none=>simpa[Act.put]using hdef
    |some d=>simpa[Act.put]using hdef
   have ba:=Qgo (L:=L) (i:=i) (by omega) W;have u:i<L.size:=by omega
   have az:∀s j,Y[j]?=some s->j≠i->∀d,o.dst=some d->s≠d:=by
    intro s j b E d hd q;subst q;rcases ok.dst i o B T with⟨d',g,Q,ai⟩|g
    .rw[hd]at g;cases g;exact E (ok.nodup j i _ b Q)
    .rw[hd]at g;cases g
   refine ih _ _ w' an σ' a0 (by simpa using hsz) (by omega) (λj b q=>?_) aq af.sim ad a8 ?_ ?_ (hev.trans af.ev) ?_ af.holes ?_ ?_ ?_
   .rcases(Jh u).1 q with z|z
    .omega
    .exact hsuf j b z
   .intro j s y b J hy;by_cases E:j=i
    .subst E;have hv:=af.val y hy;rcases ok.dst j o B T with⟨d',g,Q,ai⟩|g
     .obtain rfl:s=d':=XY (J.symm.trans Q);simp only[g]at hv⊢;exact hv
     .simp only[g]at hv;subst hv;exact trivial
    .rw[aa s (az s j J E)];rcases(Jh u).1 b with z|z
     .exact absurd z E
     .exact(hD j s y z J hy).mono ab
   .intro s J;have av:∀d,o.dst=some d->s≠d:=by
     rintro d hd rfl;rcases ok.dst i o B T with⟨d',g,Q,ai⟩|g
     .rw[hd]at g;cases g;exact J i Q ((Jh u).2 (.inl rfl))
     .rw[hd]at g;cases g
    rw[aa s av];exact(hE' s (λj q z=>J j q ((Jh u).2 (.inr z)))).mono ab
   .rw[<- htk];have:=congrArg (List.take h0) af.take;rw[List.take_take,List.take_take,XB a5]at this;exact this
   .intro j b M h V;refine(Jh u).2 (.inr ?_);rcases(Jh u).1 M with z|z
    .subst z;exact aj h V
    .exact hI1 j b z h V
   .intro j b M;rw[Jh u];cases q:hs.getD i false with
    |false=>
     have E:j≠i:=by rintro rfl;rw[q]at M;cases M
     rw[q]at F;simp only[Xi,if_false]at F;simp only[E,false_or];rw[F];exact hI2 j b M
    |true=>
     rw[q]at F;simp only[if_true]at F;rw[F j,hI2 j b M]
   .intro j o' b r j' ak;rcases(Jh u).1 b with z|z
    .subst z;rw[T]at r;cases r;exact(Jh u).2 (.inr (G _ ak))
    .exact(Jh u).2 (.inr (hcl j o' z r j' ak))
def QdP.dstB(N:Nat):Nat->List Oper->List Nat->Bool
 |_,_,[]=>true
 |i,o::r,d::ds=>(match o.dst with|some d'=>Nat.beq d' d&&Nat.blt d N|none=>true)&&QdP.dstB N (i+1) r ds
 |_,[],_::_=>false
def QdP.rqB(m:Nat)(hs:List Bool)(rq:List (List Nat)):Nat->List Oper->Bool
 |_,[]=>true
 |i,o::r=>(rq.getD i []).all (λh=>Nat.blt h m&&hs.getD h false&&((Qh o).contains h||(Qh o).any λj=>Nat.blt j m&&(rq.getD j []).contains h))&&QdP.rqB m hs rq (i+1) r
def Qis(l:List Oper)(h:Nat):List Nat:=match l[h]? with
 |some o=>QeC l h (Qh o)
 |none=>[]
theorem Qj6{l:List Oper}{h j:Nat}(q:j∈Qis l h):Qcb l h j:=by
 unfold Qis at q;cases a:l[h]? with
 |none=>rw[a]at q;cases q
 |some o=>rw[a]at q;exact QbU h (Qh o) (λi b=>.one a b) j q
def QdP.plB(l:List Oper)(m:Nat)(hs:List Bool)(rq ms:List (List Nat))(pl:List (List (Nat×Nat))):Bool:=
 (List.range m).all λi=>(List.range ms.length).all λst=>((ms.getD st []).any λh=>(Qis l h).contains i)|| !(rq.getD i []).all ((ms.getD st []).contains ·)||(hs.getD i false&&(ms.getD st []).contains i)||
  (pl.getD i []).any λp=>Nat.beq p.1 st&&Nat.blt p.2 ms.length&&(bif hs.getD i false then same (ms.getD p.2 []) (i::ms.getD st [])else Nat.beq p.2 st)
def QdP(l:List Oper)(m N:Nat)(ds:List Nat)(hs:List Bool)(rq ms:List (List Nat))(pl:List (List (Nat×Nat))):Bool:=
 Nat.ble m l.length&&(ds.length==m)&&QdP.dstB N 0 l ds&&drawChk.nodupB ds&&drawChk.goB l m 0 l&&QdP.rqB m hs rq 0 l&&(ms.getD 0 []).isEmpty&&Nat.blt 0 ms.length
 &&((List.range ms.length).all λst=>Nat.beq (st+1) ms.length||(List.range m).any λi=>hs.getD i false&& !(ms.getD st []).contains i)&&QdP.plB l m hs rq ms pl&&(List.range ms.length).all λst=>(ms.getD st []).all λh=>Nat.blt h m&&hs.getD h false
theorem Qf5{N:Nat}:∀(l:List Oper) (a:List Nat) (b:Nat),QdP.dstB N b l a=true->∀(i d:Nat) (o:Oper),l[i]?=some o->a[i]?=some d->
  (o.dst=some d/\d<N)\/o.dst=none:=by
 intro l
 induction l with
 |nil=>intro a b h i d o f;simp at f
 |cons x r k=>
  intro a b h i d o f g;cases a with
  |nil=>simp at g
  |cons y a=>
   simp only[QdP.dstB,XW]at h;cases i with
   |zero=>
    simp at f g;subst f;subst g;have h:=h.1;split at h
    .rename_i m j;simp only[XW]at h;have e:=XQ h.1;subst e;exact .inl ⟨j,by simpa using h.2⟩
    .rename_i j;exact .inr j
   |succ i=>
    have:=k a (b+1) h.2 i d o (by simpa using f) (by simpa using g);exact this
theorem Qlh{m:Nat}{e:List Bool}{d:List (List Nat)}:∀(l:List Oper) (b:Nat),QdP.rqB m e d b l=true->∀(i:Nat) (o:Oper),l[i]?=some o->
  ∀h∈d.getD (b+i) [],h<m/\e.getD h false=true/\(h∈Qh o\/ ∃j∈Qh o,j<m/\h∈d.getD j []):=by
 intro l
 induction l with
 |nil=>intro b h i o a;simp at a
 |cons x r t=>
  intro b h i o a;simp only[QdP.rqB,XW]at h;cases i with
  |zero=>
   simp at a;subst a;intro k u;have:=Xs.1 h.1 k (by simpa using u);simp only[XW,Bool.or_eq_true,List.contains_iff_mem,Xt]at this;obtain⟨⟨s,n⟩,w⟩:=this;refine⟨by simpa using s,n,?_⟩;rcases w with q|⟨j,p,g,f⟩
   .exact .inl q
   .exact .inr ⟨j,p,by simpa using g,f⟩
  |succ i=>
   have:=t (b+1) h.2 i o (by simpa using a);rw[show b+1+i=b+(i+1)by omega]at this;exact this
theorem Qmh{l:List Oper}{m N:Nat}{t:List Nat}{G:List Bool}{x r:List (List Nat)}{H:List (List (Nat×Nat))}(h:QdP l m N t G x r H=true):
  QmY l m t G x r H N/\0<r.length:=by
 unfold QdP at h;simp only[XW]at h;obtain⟨⟨⟨⟨⟨⟨⟨⟨⟨⟨Y,V⟩,X⟩,R⟩,J⟩,M⟩,O⟩,L⟩,h9⟩,E⟩,y⟩:=h;have F:m<=l.length:=XR Y;have B:t.length=m:=by simpa using V
 have g:=Qhu l 0 J;refine⟨⟨F,λi o s b=>?_,B,QdG R,λi o b=>by have:=(g i o b).1;simpa using this,λo b j T=>QbU m (Qh o) (λi s=>.one b s) j ((g m o b).2.1 (by omega) j T),
  λi o s b=>by have:=(g i o b).2.2 (by omega);simpa using this,λi o s b h f=>by have:=Qlh l 0 M i o b h (by simpa using f);exact this,
  by simpa using O,λk a=>?_,λk h f=>?_,λi k s a W Q hx=>?_⟩,by simpa using L⟩
 .have u:t[i]?=some t[i]:=XK (by omega);rcases Qf5 l t 0 X i _ o b u with⟨n,w⟩|n
  .exact .inl ⟨_,n,u,w⟩
  .exact .inr n
 .have:=Xs.1 h9 k (List.mem_range.2 a);simp only[Bool.or_eq_true,Xt,XW,Bool.not_eq_true']at this;rcases this with q|⟨i,n,w,d⟩
  .exact .inl (XQ q)
  .exact .inr ⟨i,List.mem_range.1 n,w,λz=>by rw[List.contains_iff_mem.2 z]at d;cases d⟩
 .have a:k<r.length:=by
   rcases VB k r.length with q|q
   .exact q
   .rw[VK,XO q]at f;cases f
  have:=Xs.1 (Xs.1 y k (List.mem_range.2 a)) h f;simp only[XW]at this;exact⟨by simpa using this.1,this.2⟩
 .have:=Xs.1 (Xs.1 E i (List.mem_range.2 s)) k (List.mem_range.2 a);simp only[Bool.or_eq_true,Bool.not_eq_true']at this;rcases this with((q|q)|q)|q
  .exfalso;obtain⟨h,f,q⟩:=Xt.1 q;exact hx h f (Qj6 (List.contains_iff_mem.1 q))
  .exfalso;have:((x.getD i []).all ((r.getD k []).contains ·))=true:=Xs.2 λh f=>List.contains_iff_mem.2 (W h f);rw[this]at q;cases q
  .simp only[XW]at q;exact absurd (List.contains_iff_mem.1 q.2) (Q q.1)
  .obtain⟨p,P,q⟩:=Xt.1 q;simp only[XW]at q;obtain⟨⟨n,w⟩,d⟩:=q;have e:=XQ n;refine⟨p.2,by rw[<- e];exact P,by simpa using w,?_⟩;cases z:G.getD i false with
   |true=>
    rw[z]at d;simp only[Vn]at d;simp only[if_true];intro j;rw[Qna d j,X5]
   |false=>
    rw[z]at d;simp only[Vp]at d;simp only[Xi,if_false];exact XQ d
inductive Qg4 (P:Program) (N:Nat) (l:List Oper) (ds:List Nat) (xs:List A) (env0:Env) (hB hE:Nat):Nat->List (List (Qd×Qd))->Prop
 |nil {i:Nat}:Qg4 P N l ds xs env0 hB hE i []
 |cons {i:Nat} {s:List (Qd×Qd)} {r:List (List (Qd×Qd))} (h:∀p∈s,Jd P N l ds xs env0 hB hE i p.1 p.2) (k:Qg4 P N l ds xs env0 hB hE (i+1) r):Qg4 P N l ds xs env0 hB hE i (s::r)
theorem Qg4.get{P:Program}{N:Nat}{l:List Oper}{d:List Nat}{xs:List A}{env0:Env}{hB hE b:Nat}{e:List (List (Qd×Qd))}(h:Qg4 P N l d xs env0 hB hE b e):
  ∀(i:Nat) (s:List (Qd×Qd)),e[i]?=some s->∀p∈s,Jd P N l d xs env0 hB hE (b+i) p.1 p.2:=by
 induction h with
 |nil=>intro i s h;simp at h
 | @cons b s0 r h _ ih=>
  intro i s a;cases i with
  |zero=>simp at a;subst a;exact h
  |succ i=>
   have:=ih i s (by simpa using a);rw[show b+1+i=b+(i+1)by omega]at this;exact this
theorem Qf{P:Program}{N:Nat}{l:List Oper}{a:List Nat}{xs:List A}{env0:Env}{hB hE i:Nat}:∀p∈([]:List (Qd×Qd)),Jd P N l a xs env0 hB hE i p.1 p.2:=by
 intro p b;cases b
theorem Qb{P:Program}{N:Nat}{l:List Oper}{a:List Nat}{xs:List A}{env0:Env}{hB hE i:Nat}{H H':Qd}{r:List (Qd×Qd)}(h:Jd P N l a xs env0 hB hE i H H')
  (k:∀p∈r,Jd P N l a xs env0 hB hE i p.1 p.2):∀p∈(H,H')::r,Jd P N l a xs env0 hB hE i p.1 p.2:=by
 intro p b;rcases X5.1 b with rfl|q
 .exact h
 .exact k p q
theorem Qgs{P:Program}{h0 N:Nat}{id:Nat}{l:List Oper}{env:Env}{H:Qd}{fr ro:Nat->Prop}{σ:Sig}{a:Act}{w:World}{rd:Option Nat}{R:Exit->Act->World->Prop}(m c:Nat)(ds:List Nat)(hs:List Bool)(rq T:List (List Nat))(J:List (List (Nat×Nat)))(xs:List A)(Hs:List Qd)(Hk:Qd)
  (hm:P.follows .mixedOrders=true)(hc:QdP l m N ds hs rq T J=true)(ac:Nat.beq xs.length m=true)(ae:Nat.beq Hs.length T.length=true)(af:Nat.ble h0 H.length=true)
  (hh:Hs.all (λX=>Nat.ble (H.length+c) X.length)=true)(ab:Hs[0]?=some (H++List.replicate c .dead))(V:Hs.getD (T.length-1) []=Hk)
  (ad:Qg4 P N l ds xs env H.length (H.length+c) 0 (J.map λq=>q.map λp=>(Hs.getD p.1 [],Hs.getD p.2 [])))(W:Nat.beq J.length m=true)
  (r:Rel fr ro σ H env N a w)(aa:Qdu rd fr w)
  (hk:∀ro' σ' a' w',Rel fr ro' σ' Hk (Qar ds xs env) N a' w'->Qi fr ro w ro' w'->σ'.take h0=σ.take h0->a'.defers=a.defers->wpL P rd l.toArray R (l.drop m) a' w'):(Code.region id l.toArray true).wpIn (WF rd) 0 P R a w:=by
 obtain⟨ok,E⟩:=Qmh hc;have O:=XQ ac;have F:=XQ ae;have ah:=XQ W;have B:Qi fr ro w ro {w with drawn:=w.drawn+1}:=⟨λ_ q=>q,λ_ _=>rfl,λ_ _=>rfl,XT _,λ_ _ q=>q,rfl,rfl,rfl,Nat.le_succ _⟩;have u:Ext ro σ w ro (σ++List.replicate c none) {w with drawn:=w.drawn+1}:=B.ext σ _;have ag:=r.sim.len;have G:Hs.getD 0 []=H++List.replicate c .dead:=Qn0 ab;have h:∀(i:Nat) (s:Option Nat) (x:Blk),(σ++List.replicate c none)[i]?=some s->(H++List.replicate c Blk.dead)[i]?=some x->(σ[i]?=some s/\H[i]?=some x)\/(s=none/\x=.dead):=by
  intro i s x n k;rcases VB i σ.length with q|q
  .rw[XM q]at n;rw[XM (by omega)]at k;exact .inl ⟨n,k⟩
  .rw[XN q]at n;rw[XN (by omega)]at k;have a1:=VG n;have a2:=VG k;exact .inr ⟨(List.mem_replicate.1 a1).2,(List.mem_replicate.1 a2).2⟩
 have M:Sim fr ro (σ++List.replicate c none) (H++List.replicate c .dead) {w with drawn:=w.drawn+1}:=by
  refine⟨by simp[ag],r.sim.roOk.to (λ_ q=>q) (λ_ _=>rfl) r.sim.roLt,r.sim.frLt,r.sim.roFr,?_,?_,?_,
   r.sim.hidTo (· = ·) Q3 (XT _) (λ_ _ _ _ _ _ _ q=>q) (λ_ _ _ _ _ _ _ q=>q) λj d y g1 g2 g3=>.inl ?_⟩
  rotate_left 3
  .rcases h j _ _ g1 g2 with⟨g,t⟩|⟨g,_⟩
   .exact⟨j,y,rfl,g,t,(λz=>z),λc q=>q⟩
   .cases g
  .intro i b blk n k Q;rcases h i _ _ n k with⟨g,t⟩|⟨g,_⟩
   .exact r.sim.own i b blk g t Q
   .cases g
  .intro i j b x y n k Q h4 h5 h6;rcases h i _ _ n Q with⟨g,t⟩|⟨g,_⟩
   .rcases h j _ _ k h4 with⟨Y,q4⟩|⟨Y,_⟩
    .exact r.sim.inj i j b x y g Y t q4 h5 h6
    .cases Y
   .cases g
  .intro i s x n k;rcases h i _ _ n k with⟨g,t⟩|⟨g,t⟩
   .exact BR.keep u (λb hb _=>rfl) (r.sim.blk i s x g t) (λ_ _ _ _=>rfl)
   .subst t;exact trivial
 have f:∀i,¬onL (Array.replicate l.length false) i:=by
  intro i q;unfold onL at q;rw[Array.getElem?_replicate]at q;split at q<;>simp at q
 have L:=XR af;refine wpIn_region_any hm ?_;rw[List.size_toArray];refine QhU ok O F L (Nat.le_add_right _ _) (λX hX=>XR (Xs.1 hh X hX)) ?_ V (ro0:=ro) (σ0:=σ) (w0:=w) (ds0:=a.defers) hk r.defers aa
  l.length _ a _ ro (σ++List.replicate c none) 0 (by simp) ?_ (λi _=>f i) E (by rw[G];exact M) r.size rfl (λi d x q=>absurd q (f i)) (λs _=>(r.env s).mono u) B (QA (by omega)) ?_
  (λi _ q=>absurd q (f i)) (λi _ _=>⟨λq=>absurd q (f i),λq=>by rw[ok.ms0]at q;cases q⟩) (λi o q=>absurd q (f i))
 .intro i p hi hp;have e:(J.map λq=>q.map λp=>(Hs.getD p.1 [],Hs.getD p.2 []))[i]?=some ((J.getD i []).map λp=>(Hs.getD p.1 [],Hs.getD p.2 [])):=by
   rw[Xo,XK (by omega),VK,XK (by omega)];rfl
  have:=ad.get i _ e _ (Xe.2 ⟨p,hp,rfl⟩);simpa using this
 .unfold unl;simp[List.countP_replicate]
 .intro p n k Q;rw[XN (by omega),List.getElem?_replicate,Vs (by omega)]
theorem Jk{P:Program}{h0 N:Nat}{id:Nat}{l:List Oper}{env:Env}{H:Qd}{Q:Qz}(m c:Nat)(f:List Nat)(x:List Bool)(u d:List (List Nat))(g:List (List (Nat×Nat)))(xs:List A)(Hs:List Qd)(Hk:Qd)
  (y:P.follows .mixedOrders=true)(G:QdP l m N f x u d g=true)(t:Nat.beq xs.length m=true)(j:Nat.beq Hs.length d.length=true)(k:Nat.ble h0 H.length=true)
  (B:Hs.all (λX=>Nat.ble (H.length+c) X.length)=true)(s:Hs[0]?=some (H++List.replicate c .dead))(i:Hs.getD (d.length-1) []=Hk)
  (h:Qg4 P N l f xs env H.length (H.length+c) 0 (g.map λq=>q.map λp=>(Hs.getD p.1 [],Hs.getD p.2 [])))(n:Nat.beq g.length m=true)
  (E:WO P h0 N l.toArray (l.drop m) (Qar f xs env) Hk Q):TC P h0 N (.region id l.toArray true) env H Q:=by
 intro F z J σ a w r hrd;refine Code.wpIn_mono (λe a w q=>Qbw.postW q) (Qgs m c f x u d g xs Hs Hk y G t j k B s i h n r hrd λro' σ' a' w' hr hev htk hdf=>?_);have b:=E F z ro' σ' a' w' hr (hrd.to hev λ_ q=>q);rw[hdf]at b;exact Ym (λe a w q=>q.step hev htk) _ _ _ b
def draw0(l:List Oper)(m N:Nat)(ds:List Nat):Bool:=Nat.ble m l.length&&(ds.length==m)&&QdP.dstB N 0 l ds&&drawChk.nodupB ds&&drawChk.goB l m 0 l
inductive Oq (P:Program) (N:Nat) (l:List Oper) (ds:List Nat) (xs:List A) (env0:Env) (H:Qd):Nat->Nat->Prop
 |n {i:Nat}:Oq P N l ds xs env0 H i 0
 |c {i c:Nat} (h:Jd P N l ds xs env0 H.length H.length i H H) (k:Oq P N l ds xs env0 H (i+1) c):Oq P N l ds xs env0 H i (c+1)
theorem Oq.get{P:Program}{N:Nat}{l:List Oper}{a:List Nat}{xs:List A}{env0:Env}{H:Qd}{b c:Nat}(h:Oq P N l a xs env0 H b c):∀i,i<c->Jd P N l a xs env0 H.length H.length (b+i) H H:=by
 induction h with
 |n=>intro i d;omega
 | @c b c h _ ih=>
  intro i d;cases i with
  |zero=>exact h
  |succ i=>
   have:=ih i (by omega);rw[show b+1+i=b+(i+1)by omega]at this;exact this
theorem Qmi{l:List Oper}{m N:Nat}{d:List Nat}(h:draw0 l m N d=true):QmY l m d [] [] [[]] (List.replicate m [(0,0)]) N:=by
 unfold draw0 at h;simp only[XW]at h;obtain⟨⟨⟨⟨y,t⟩,x⟩,w⟩,s⟩:=h;have q:m<=l.length:=XR y;have p:d.length=m:=by simpa using t
 have g:=Qhu l 0 s;refine⟨q,λi o e b=>?_,p,QdG w,λi o b=>by have:=(g i o b).1;simpa using this,λo b j z=>QbU m (Qh o) (λi e=>.one b e) j ((g m o b).2.1 (by omega) j z),
  λi o e b=>by have:=(g i o b).2.2 (by omega);simpa using this,λi o e b h n=>by simp at n,rfl,λk a=>.inl (by simp at a;simp[a]),λk h n=>by cases k<;>simp at n,λi k e a _ _ _=>?_⟩
 .have f:d[i]?=some d[i]:=XK (by omega);rcases Qf5 l d 0 x i _ o b f with⟨r,u⟩|r
  .exact .inl ⟨_,r,f,u⟩
  .exact .inr r
 .have:k=0:=by simp at a;exact a
  subst this;refine⟨0,?_,by simp,by simp⟩;rw[VK,List.getElem?_replicate,Vs e];exact VA.2 rfl
theorem Qgt{P:Program}{h0 N:Nat}{id:Nat}{l:List Oper}{env:Env}{H:Qd}{fr ro:Nat->Prop}{σ:Sig}{a:Act}{w:World}{rd:Option Nat}{R:Exit->Act->World->Prop}(m:Nat)(k:List Nat)(xs:List A)
  (B:P.follows .mixedOrders=true)(F:Go.Sw.draw0 l m N k=true)(n:Nat.beq xs.length m=true)(t:Nat.ble h0 H.length=true)
  (j:Oq P N l k xs env H 0 m)(r:Rel fr ro σ H env N a w)(u:Qdu rd fr w)
  (E:∀ro' σ' a' w',Rel fr ro' σ' H (Qar k xs env) N a' w'->Qi fr ro w ro' w'->σ'.take h0=σ.take h0->a'.defers=a.defers->wpL P rd l.toArray R (l.drop m) a' w'):(Code.region id l.toArray true).wpIn (WF rd) 0 P R a w:=by
 have ok:=Qmi F;have h:=XQ n;have e:Qi fr ro w ro {w with drawn:=w.drawn+1}:=⟨λ_ q=>q,λ_ _=>rfl,λ_ _=>rfl,XT _,λ_ _ q=>q,rfl,rfl,rfl,Nat.le_succ _⟩;have g:Ext ro σ w ro σ {w with drawn:=w.drawn+1}:=e.ext0 σ;have f:Sim fr ro σ H {w with drawn:=w.drawn+1}:=r.sim.heap rfl;have b:∀i,¬onL (Array.replicate l.length false) i:=by
  intro i q;unfold onL at q;rw[Array.getElem?_replicate]at q;split at q<;>simp at q
 refine wpIn_region_any B ?_;rw[List.size_toArray];refine QhU (hB:=H.length) (hE:=H.length) (Hs:=[H]) (Hk:=H) ok h rfl (XR t) (XT _) (λX hX=>by rw[VA.1 hX];exact XT _) ?_ rfl (ro0:=ro) (σ0:=σ) (w0:=w) (ds0:=a.defers) E r.defers u
  l.length _ a _ ro σ 0 (by simp) ?_ (λi _=>b i) (by simp) f r.size rfl (λi d x q=>absurd q (b i)) (λs _=>(r.env s).mono g) e rfl (λp J G=>by omega)
  (λi _ q=>absurd q (b i)) (λi _ _=>⟨λq=>absurd q (b i),λq=>by cases q⟩) (λi o q=>absurd q (b i))
 .intro i p z y;rw[VK,List.getElem?_replicate,Vs z]at y;obtain rfl:=VA.1 y;have:=j.get i z;rw[Xv]at this;exact this
 .unfold unl;simp[List.countP_replicate]
theorem TC.draw0{P:Program}{h0 N:Nat}{id:Nat}{l:List Oper}{env:Env}{H:Qd}{Q:Qz}(m:Nat)(d:List Nat)(xs:List A)
  (i:P.follows .mixedOrders=true)(n:Go.Sw.draw0 l m N d=true)(g:Nat.beq xs.length m=true)(h:Nat.ble h0 H.length=true)
  (f:Oq P N l d xs env H 0 m)(p:WO P h0 N l.toArray (l.drop m) (Qar d xs env) H Q):TC P h0 N (.region id l.toArray true) env H Q:=by
 intro j k s σ a w r hrd;refine Code.wpIn_mono (λe a w q=>Qbw.postW q) (Qgt m d xs i n g h f r hrd λro' σ' a' w' hr hev htk hdf=>?_);have b:=p j k ro' σ' a' w' hr (hrd.to hev λ_ q=>q);rw[hdf]at b;exact Ym (λe a w q=>q.step hev htk) _ _ _ b
section
variable {P:Program} {N:Nat} {l:List Oper} {ds af bf:List Nat} {xs:List A} {env0 e r:Env} {H H':Qd} {i hB hE:Nat} {o:Oper} {d s:Nat} {x a:A}
theorem sN:Sb af bf ds xs env0 []:=.nil
theorem sD(j:Nat)(k:Sb af bf ds xs env0 r)(b:af.contains j=true:=by exact rfl)(h2:ds[j]?=some s:=by exact rfl)(h3:xs[j]?=some a:=by exact rfl):Sb af bf ds xs env0 ((s,a)::r):=.dep j b h2 h3 k
theorem sP(j:Nat)(k:Sb af bf ds xs env0 r)(b:bf.contains j=true:=by exact rfl)(h2:ds[j]?=some s:=by exact rfl)(h3:lk env0 s=a:=by exact rfl):Sb af bf ds xs env0 ((s,a)::r):=.pre j b h2 h3 k
theorem QdQ(H:Qd):Qap hB hE H H=true:=by
 unfold Qap;refine Xs.2 λp _=>?_;cases Qbj H[hB+p]? <;>rfl
theorem Om(f:l[i]?=some o)(b:Sb (Qh o) (QgS l i) ds xs env0 e)(h:WO P H.length N l.toArray [o] e H (YS (up e d x) H))(a:o.dst=some d:=by exact rfl)(hx:xs[i]?=some x:=by exact rfl):Jd P N l ds xs env0 hB hE i H H:=
 .mk o e d x f a hx (QdQ H) b h
theorem Om1(f:l[i]?=some o)(b:Sb (Qh o) (QgS l i) ds xs env0 e)(h:WO P H.length N l.toArray [o] e H (YS (up e d x) H'))(a:o.dst=some d:=by exact rfl)(hx:xs[i]?=some x:=by exact rfl)(hdd:Qap hB hE H H'=true:=by exact rfl):Jd P N l ds xs env0 hB hE i H H':=
 .mk o e d x f a hx hdd b h
theorem Om2(d:l[i]?=some o)(b:Sb (Qh o) (QgS l i) ds xs env0 e)(h:WO P H.length N l.toArray [o] e H (YS e H'))(a:o.dst=none:=by exact rfl)(hx:xs[i]?=some .any:=by exact rfl)(hdd:Qap hB hE H H'=true:=by exact rfl):Jd P N l ds xs env0 hB hE i H H':=
 .unit o e d a hx hdd b h
end
structure TyI where
 fld:List (Nat×Nat×Nat)
 agg:List (Nat×Bool×Nat)
 zer:List (Nat×List A×List (Nat×Nat))
structure TyOK (P:Program) (T:TyI):Prop where
 fld:∀e∈T.fld,∃n,YL P e.1 e.2.1 e.2.2 n
 agg:∀e∈T.agg,(∀w,(isAgg e.1).run P w=.ok e.2.1 w)/\ ∀w,(sizeOf e.1).run P w=.ok e.2.2 w
 zer:∀e∈T.zer,(∃z,(∀w,(zeroValue e.1).run P w=.ok z w)/\ZR (.agg e.2.1) z)/\Qy P e.1 e.2.2
def Qhz:List (Nat×Nat×Nat)->Nat->Nat->Option Nat
 |[],_,_=>none
 |(a,b,c)::r,t,f=>bif Nat.beq a t&&Nat.beq b f then some c else Qhz r t f
def Qb3{β:Type}:List (Nat×β)->Nat->Option β
 |[],_=>none
 |(a,b)::r,t=>bif Nat.beq a t then some b else Qb3 r t
theorem Qhy{l:List (Nat×Nat×Nat)}{t f c:Nat}(h:Qhz l t f=some c):(t,f,c)∈l:=by
 induction l with
 |nil=>cases h
 |cons x r e=>
  obtain⟨a,b,d⟩:=x;unfold Qhz at h;cases q:(Nat.beq a t&&Nat.beq b f)with
  |true=>
   simp_all
  |false=>grind
theorem Qau{β:Type}{l:List (Nat×β)}{t:Nat}{c:β}(h:Qb3 l t=some c):(t,c)∈l:=by
 induction l with
 |nil=>cases h
 |cons x r d=>
  obtain⟨a,b⟩:=x;unfold Qb3 at h;cases q:Nat.beq a t with
  |true=>
   simp_all
  |false=>grind
def QgR(H:Qd):A->Option (List A)
 |.rp cs=>some cs
 |.ptr i off=>match H[i]? with
  |some (.cells _ cs)=>some (cs.drop off)
  |_=>none
 |_=>none
theorem QiS{H:Qd}{p:A}{cs:List A}(h:QgR H p=some cs):Pts H p cs:=by
 unfold QgR at h;split at h
 .cases h;exact Pts.rp
 .split at h
  .rename_i a;cases h;exact Pts.cells a rfl
  .cases h
 .cases h
def Qk9(T:TyI)(o:Oper)(env:Env)(H:Qd):Option A:=
 match o.op with
 |.move x=>some (opA env x)
 |.assign x=>some (opA env x)
 |.fieldAddr t x f=>match Qhz T.fld t f with
  |none=>none
  |some off=>match opA env x with
   |.ptr i p=>some (.ptr i (p+off))
   |.rp cs=>some (.rp (cs.drop off))
   |_=>none
 |.load t x=>match Qb3 T.agg t with
  |none=>none
  |some (b,n)=>match x with
   |.global g=>match QiD[g]? with
    |some zs=>bif b&&Nat.beq zs.length n then some (.agg (zs.map (A.int .i64)))else none
    |none=>none
   |x=>match QgR H (opA env x)with
    |none=>none
    |some cs=>bif b then(bif Nat.beq (cs.take n).length n then some (.agg (cs.take n))else none)else cs.head?
 |.build t parts=>match Qb3 T.zer t with
  |none=>none
  |some (zs,pl)=>match QdN env pl zs parts.toList with
   |some cs=>some (.agg cs)
   |none=>none
 |.extract x i=>match opA env x with
  |.tup vs=>vs[i]?
  |_=>none
 |.makeFunc f first cap=>some (.fn f (first.toList.map (opA env)) (cap.toList.map (opA env)))
 |_=>none
theorem Qk8{P:Program}{T:TyI}(k:TyOK P T){o:Oper}{env:Env}{H:Qd}{x:A}(h:Qk9 T o env H=some x):OpV P o env H x:=by
 unfold Qk9 at h;split at h
 .simp_all[OpV.move]
 .simp_all[OpV.assign]
 .rename_i t y f a;split at h
  .cases h
  .rename_i F j;obtain⟨n,s⟩:=k.fld _ (Qhy j);split at h
   .grind[Qcp]
   .rename_i e w;cases h;exact Qfk s a w rfl
   .cases h
 .rename_i t y a;split at h
  .cases h
  .rename_i b n u;obtain⟨d,i⟩:=k.agg _ (Qau u);split at h
   .rename_i g;split at h
    .rename_i m p;cases q:(b&&Nat.beq m.length n)with
     |false=>grind
     |true=>
      rw[q]at h;cases h;simp only[XW]at q;obtain⟨rfl,G⟩:=q;exact Qgc d i p (by simp_all) a
    .cases h
   .split at h
    .cases h
    .rename_i e B;have l:=QiS B;cases b with
     |true=>
      simp only[Vn]at h;cases q:Nat.beq (e.take n).length n with
      |false=>grind
      |true=>
       rw[q]at h;cases h;exact Qu a d i rfl l rfl (by simp_all)
     |false=>
      simp only[Vp]at h;cases e with
      |nil=>cases h
      |cons v e=>cases h;exact OpV.load a d rfl l
 .rename_i t parts a;split at h
  .cases h
  .rename_i m J r;obtain⟨⟨z,d,i⟩,E⟩:=k.zer _ (Qau r);split at h
   .rename_i e j;cases h;exact OpV.build d i E (by rw[a]) j
   .cases h
 .grind[OpV.extract]
 .rename_i f first cap a
  cases h;exact OpV.makeFunc (first:=first.toList) (cap:=cap.toList) (by rw[a]) rfl rfl
 .cases h
def QhS(af:List Nat):Nat->List Nat->List A->Env->Env
 |j,d::ds,x::xs,e=>(d,bif af.contains j then x else .any)::QhS af (j+1) ds xs e
 |_,_,_,e=>e
theorem Qnx{af:List Nat}{env0:Env}(s:Nat):∀(a:List Nat) (xs:List A) (b:Nat),a.length=xs.length->
  (∃(j:Nat) (x:A),a[j]?=some s/\xs[j]?=some x/\lk (QhS af b a xs env0) s=bif af.contains (b+j)then x else .any)\/(a.contains s=false/\lk (QhS af b a xs env0) s=lk env0 s):=by
 intro a
 induction a with
 |nil=>simp_all[QhS]
 |cons d a k=>
  intro xs b g;cases xs with
  |nil=>cases g
  |cons x xs=>
   cases q:Nat.beq s d with
   |true=>
    have e:=XQ q;subst e;left;refine⟨0,x,rfl,rfl,?_⟩
    simp_all[QhS,lk]
   |false=>
    have i:s≠d:=λz=>by simp_all
    simp only[QhS,lk,q,Vp];rcases k xs (b+1) (by grind)with⟨j,y,h,f,l⟩|⟨h,f⟩
    .left;refine⟨j+1,y,by grind,by grind,?_⟩
     grind
    grind
def Qjf(T:TyI)(N:Nat)(l:List Oper)(ds:List Nat)(xs:List A)(env0:Env)(H:Qd)(i:Nat):Option A:=
 match l[i]? with
 |none=>none
 |some o=>match o.guard,o.dst with
  |none,some d=>bif Nat.blt d N&&Nat.beq ds.length xs.length then Qk9 T o (QhS (Qh o) 0 ds xs env0) H else none
  |_,_=>none
theorem Qnw{af a:List Nat}{xs:List A}{env0:Env}(b:a.length=xs.length):QmV af a xs env0 (QhS af 0 a xs env0):=by
 intro s;rcases Qnx (af:=af) (env0:=env0) s a xs 0 b with⟨j,x,f,d,e⟩|h
 .grind
 grind
theorem vQ{P:Program}{T:TyI}(f:TyOK P T){N:Nat}{l:List Oper}{a:List Nat}{xs:List A}{env0:Env}{hB hE i:Nat}{H:Qd}{x:A}(e:xs[i]?=some x)(h:Qjf T N l a xs env0 H i=some x):Jd P N l a xs env0 hB hE i H H:=by
 unfold Qjf at h;split at h
 .cases h
 .rename_i o j;split at h
  .rename_i d g b;cases q:(Nat.blt d N&&Nat.beq a.length xs.length)with
   |false=>grind
   |true=>
    rw[q]at h;simp only[XW]at q;exact .val o _ d x j b g e q.1 (Qnw (by simp_all)) (Qk8 f h)
  .cases h
abbrev I(n:Int):A:=.int .i64 n
theorem zc{a:A}{v:Value}{al:List A}{vl:List Value}(h:ZR a v)(k:ZL al vl):ZL (a::al) (v::vl):=ZL.cons h k
def zr1:A->Value->Bool
 |.int k n,.int k' n'=>decide (k=k')&&decide (n=n')
 |.bool b,.bool b'=>b==b'
 |.str s,.string s'=>s.isEmpty&&s'.data.toList.isEmpty
 |.rsl _ es,.slice none 0 0=>es.isEmpty
 |.nils,.slice none 0 0=>true
 |.nilp,.pointer none=>true
 |.nilf,.nilFunc=>true
 |.nilm,.map none=>true
 |.nilif,.nilIface=>true
 |_,_=>false
def zrL:List A->List Value->Bool
 |[],[]=>true
 |a::r,v::s=>zr1 a v&&zrL r s
 |_,_=>false
def zrB:A->Value->Bool
 |.agg r,.agg s=>zrL r s.toList
 |a,v=>zr1 a v
theorem QkY{a:A}{v:Value}(h:zr1 a v=true):ZR a v:=by
 unfold zr1 at h;split at h
 .simp_all[ZR.int]
 .simp_all[ZR.bool]
 .rename_i s f;simp only[XW,List.isEmpty_iff]at h;obtain⟨rfl,g⟩:=h;obtain⟨d⟩:=f
  simp_all[ZR.str]
 .rename_i k b;have h:b=[]:=List.isEmpty_iff.1 h;subst h;exact ZR.rsl (α:=A) (e:=λx=>[x])
 .exact ZR.nils
 .exact ZR.nilp
 .exact ZR.nilf
 .exact ZR.nilm
 .exact QnF
 .cases h
theorem QkX:∀{r:List A} {s:List Value},zrL r s=true->ZL r s
 |[],[],_=>ZL.nil
 |a::r,v::s,h=>by
  simp only[zrL,XW]at h;exact ZL.cons (QkY h.1) (QkX h.2)
 |[],_::_,h=>by cases h
 |_::_,[],h=>by cases h
theorem zrC{a:A}{v:Value}(h:zrB a v=true):ZR a v:=by
 unfold zrB at h;split at h
 .rename_i r s;have:=ZR.agg (QkX h);omega
 .exact QkY h
section
variable {P:Program} {o:Oper} {env:Env} {H:Qd}
end
structure TyX where
 ty:TyI
 al:List (Nat×A)
 sl:List Nat
structure Qbc (P:Program) (T:TyX):Prop where
 ty:TyOK P T.ty
 al:∀e∈T.al,(∃z,(∀w,(zeroValue e.1).run P w=.ok z w)/\ZR e.2 z)/\Yi e.2=true/\(Q6 e.2).all Yo=true
 sl:∀t∈T.sl,∃et,∀w,(underlying t).run P w=.ok (.slice et) w
def YR(all:Array Oper)(o:Oper)(env:Env):Option Bool:=
 match o.guard with
 |none=>some true
 |some (j,c)=>match(all[j]?).bind (·.dst)with
  |none=>none
  |some d=>match lk env d with
   |.bool true=>some c
   |.bool false=>some (!c)
   |.tup []=>some false
   |_=>none
theorem QH{all:Array Oper}{o:Oper}{env:Env}{b:Bool}(h:YR all o env=some b):Qs all o env b:=by
 unfold YR at h;unfold Qs;split at h
 .grind
 .rename_i j c q;rw[q];split at h
  .cases h
  .rename_i d a;refine⟨d,a,?_⟩;split at h
   .simp_all
   .simp_all
   .grind
   .cases h
def Qdi:List Nat->Nat->Bool
 |[],_=>false
 |a::r,t=>bif Nat.beq a t then true else Qdi r t
theorem QgA{l:List Nat}{t:Nat}(h:Qdi l t=true):t∈l:=by
 induction l with
 |nil=>cases h
 |cons a r b=>
  grind[Qdi,Nat.eq_of_beq_eq_true]
inductive FL where
 |mk (l:List A)
def fl:List A->FL
 |[]=>.mk []
 |a::r=>match fl r with
  |.mk r'=>.mk (a::r')
theorem Qb9:∀l:List A,fl l=.mk l
 |[]=>rfl
 |a::r=>by unfold fl;rw[Qb9 r]
inductive FB where
 |mk (l:List Blk)
def fb:List Blk->FB
 |[]=>.mk []
 |a::r=>match fb r with
  |.mk r'=>.mk (a::r')
theorem QjB:∀l:List Blk,fb l=.mk l
 |[]=>rfl
 |a::r=>by unfold fb;rw[QjB r]
inductive FN where
 |mk (n:Nat)
def fn:List Blk->Nat->FN
 |[],n=>.mk n
 |_::r,n=>fn r (n+1)
theorem QlW:∀(l:List Blk) (n:Nat),fn l n=.mk (l.length+n)
 |[],n=>by simp[fn]
 |a::r,n=>by unfold fn;rw[QlW r];simp;omega
def Qjz(env:Env)(pl:List (Nat×Nat)):List A->List (Nat×Operand)->Option (List A)
 |cs,[]=>some cs
 |cs,(i,x)::r=>match YN pl i with
  |none=>none
  |some (off,size)=>match opB env x with
   |.mk a=>match fl (Q6 a)with
    |.mk vs=>bif Yi a&&Nat.beq vs.length size&&Nat.ble (off+size) cs.length then(match fl (splice cs off vs)with
     |.mk cs'=>Qjz env pl cs' r)else none
theorem QhC{env:Env}{pl:List (Nat×Nat)}:∀(parts:List (Nat×Operand)) (cs:List A),Qjz env pl cs parts=QdN env pl cs parts
 |[],cs=>rfl
 |(i,x)::r,cs=>by
  unfold Qjz QdN;rw[QaA];cases pl[i]? with
  |none=>rfl
  |some q=>
   obtain⟨off,size⟩:=q;cases h:opB env x with
   |mk a=>
    rw[QI h];simp only[Qb9];cases(Yi a&&Nat.beq (Q6 a).length size&&Nat.ble (off+size) cs.length)with
    |false=>rfl
    |true=>exact QhC r _
def Qhn(env:Env):List Operand->List A
 |[]=>[]
 |x::r=>match opB env x with
  |.mk a=>a::Qhn env r
theorem QcA{env:Env}:∀l:List Operand,Qhn env l=l.map (opA env)
 |[]=>rfl
 |x::r=>by
  unfold Qhn;cases h:opB env x with
  |mk a=>rw[Vi,QI h];show a::Qhn env r=_;rw[QcA r]
def ptX(H:Qd):Bx->Option Lx
 |.mk (.rp cs)=>some (.mk cs)
 |.mk (.ptr i off)=>match YN H i with
  |some (.cells _ cs)=>some (QhT off cs)
  |_=>none
 |_=>none
theorem Qor{H:Qd}{p:A}{cs:List A}(h:ptX H (.mk p)=some (.mk cs)):Pts H p cs:=by
 unfold ptX at h
 grind[Pts.rp,QaA,Pts.cells,Qe9]
def Qc3(T:TyX)(o:Oper)(env:Env)(H:Qd):Option A:=
 match o.op with
 |.move x=>match opB env x with|.mk a=>some a
 |.assign x=>match opB env x with|.mk a=>some a
 |.nilCheck x=>nlB (opB env x)
 |.extract x i=>exB (opB env x) i
 |.unOp u _ x=>unB u (opB env x)
 |.pick c x y=>piB (opB env c) (opB env x) (opB env y)
 |.binOp b _ x y _=>biB b (opB env x) (opB env y)
 |.fieldAddr t x f=>match Qhz T.ty.fld t f with
  |none=>none
  |some off=>match opB env x with
   |.mk (.ptr i p)=>some (.ptr i (p+off))
   |.mk (.rp cs)=>match QhT off cs with
    |.mk r=>some (.rp r)
   |_=>none
 |.load t x=>match Qb3 T.ty.agg t with
  |none=>none
  |some (b,n)=>match x with
   |.global g=>match YN QiD g with
    |some zs=>bif b&&Nat.beq zs.length n then(match fl (zs.map (A.int .i64))with|.mk l=>some (.agg l))else none
    |none=>none
   |x=>match ptX H (opB env x)with
    |none=>none
    |some (.mk cs)=>match b with
     |true=>(match fl (cs.take n)with|.mk l=>bif Nat.beq l.length n then some (.agg l)else none)
     |false=>(match cs with|[]=>none|a::_=>some a)
 |.build t parts=>match Qb3 T.ty.zer t with
  |none=>none
  |some (zs,pl)=>match Qjz env pl zs parts.toList with
   |some cs=>some (.agg cs)
   |none=>none
 |.makeFunc f first cap=>match fl (Qhn env first.toList),fl (Qhn env cap.toList)with
  |.mk l,.mk l'=>some (.fn f l l')
 |.call c=>match c with
  |{callee:=.builtin .len,args:=⟨[x]⟩,argTypes:=⟨[t]⟩}=>bif Qdi T.sl t then(match opB env x with
   |.mk (.osl _ 0 n _)=>some (.int .i64 n)
   |_=>none)else none
  |_=>none
 |_=>none
theorem Qat{P:Program}{T:TyX}(l:Qbc P T){o:Oper}{env:Env}{H:Qd}{x:A}(h:Qc3 T o env H=some x):OpV P o env H x:=by
 unfold Qc3 at h;split at h
 .simp_all[QbC,svB]
 .simp_all[QbC,svB]
 .simp_all[QbC,svB]
 .simp_all[QbC,svB]
 .simp_all[QbC,svB]
 .simp_all[QbC,svB]
 .simp_all[QbC,svB]
 .rename_i t y f a;split at h
  .cases h
  .rename_i u d;obtain⟨n,Q⟩:=l.ty.fld _ (Qhy d);split at h
   .grind[Qcp,QI]
   .rename_i s R;cases q:QhT u s with
    |mk r=>rw[q]at h;grind[Qfk,QI,Qe9]
   .cases h
 .rename_i t y a;split at h
  .cases h
  .rename_i b n L;obtain⟨m,j⟩:=l.ty.agg _ (Qau L);split at h
   .rename_i g;split at h
    .rename_i E w;rw[QaA]at w;cases q:(b&&Nat.beq E.length n)with
     |false=>grind
     |true=>
      rw[q,Qb9]at h;cases h;simp only[XW]at q;obtain⟨rfl,B⟩:=q;exact Qgc m j w (by simp_all) a
    .cases h
   .cases e:opB env y with
    |mk p=>
     rw[e]at h;split at h
     .cases h
     .rename_i s G;have F:=Qor G;cases b with
      |true=>
       simp only[Qb9]at h;cases q:Nat.beq (s.take n).length n with
       |false=>grind
       |true=>
        rw[q]at h;cases h;exact Qu a m j (QI e) F rfl (by simp_all)
      |false=>
       grind[OpV.load,QI]
 .rename_i t parts a;split at h
  .cases h
  .rename_i E V N;obtain⟨⟨z,m,j⟩,M⟩:=l.ty.zer _ (Qau N);split at h
   .rename_i s d;cases h;rw[QhC]at d;exact OpV.build m j M (by rw[a]) d
   .cases h
 .rename_i f first cap a
  simp only[Qb9]at h;cases h;rw[QcA,QcA];exact OpV.makeFunc (first:=first.toList) (cap:=cap.toList) (by rw[a]) rfl rfl
 .rename_i c a;split at h
  .rename_i y t;cases q:Qdi T.sl t with
   |false=>grind
   |true=>
    rw[q]at h;simp only[Vn]at h;obtain⟨O,J⟩:=l.sl t (QgA q);split at h
    .rename_i i n k B;cases h;exact QkJ J a rfl (QI B)
    .cases h
  .cases h
 .cases h
def stX(T:TyX)(h0 N:Nat)(all:Array Oper)(o:Oper)(env:Env)(H:Qd):Option (Env×Qd):=
 match YR all o env with
 |none=>none
 |some false=>match o.dst with
  |none=>none
  |some d=>bif Nat.blt d N then some (up env d (.tup []),H)else none
 |some true=>match o.dst with
  |none=>match o.op with
   |.store t x y=>match opB env x,Qb3 T.ty.agg t with
    |.mk (.ptr i off),some (_,n)=>match YN H i with
     |some (.cells S cs)=>match opB env y with
      |.mk a=>match fl (Q6 a)with
       |.mk vs=>bif Nat.ble h0 H.length&&(Yi a&&(Nat.beq vs.length n&&(vs.all Yo&&Nat.ble (off+n) cs.length)))then(match fl (splice cs off vs)with
        |.mk cs'=>match fb (H.set i (.cells S cs'))with
         |.mk H'=>some (env,H'))else none
     |_=>none
    |_,_=>none
   |_=>none
  |some d=>bif Nat.blt d N then(match o.op with
   |.alloc t=>match Qb3 T.al t with
    |some v=>bif Nat.ble h0 H.length then(match fn H 0,fl (Q6 v)with
     |.mk n,.mk cs=>match fb (H++[.cells t cs])with
      |.mk H'=>some (up env d (.ptr n 0),H'))else none
    |none=>none
   |.box t x=>match opB env x with
    |.mk a=>bif Nat.ble h0 H.length&&(Yi a&&(Q6 a).all Yo)then(match fn H 0,fl (Q6 a)with
     |.mk n,.mk cs=>match fb (H++[.cells t cs])with
      |.mk H'=>some (up env d (.ptr n 0),H'))else none
   |_=>match Qc3 T o env H with
    |some a=>some (up env d a,H)
    |none=>none)else none
def runX(T:TyX)(h0 N:Nat)(all:Array Oper):Nat->List Oper->Env->Qd->Option (List Oper×Env×Qd)
 |0,l,env,H=>some (l,env,H)
 |_+1,[],_,_=>none
 |n+1,o::l,env,H=>match stX T h0 N all o env H with
  |some (env',H')=>runX T h0 N all n l env' H'
  |none=>none
section
variable {P:Program} {T:TyX} {h0 N:Nat} {all:Array Oper} {l l':List Oper} {env env':Env} {H H':Qd} {Q:Qz}
theorem Qik(r:Qbc P T){o:Oper}(h:stX T h0 N all o env H=some (env',H'))(k:WO P h0 N all l env' H' Q):WO P h0 N all (o::l) env H Q:=by
 unfold stX at h;split at h
 .cases h
 .grind[QH,WO.skip]
 .rename_i M;have j:=QH M;split at h
  .rename_i g;split at h
   .rename_i t x y f;split at h
    .rename_i i m b n R G;split at h
     .rename_i S cs hH;rw[QaA]at hH;cases e:opB env y with
      |mk a=>
       rw[e]at h;simp only[Qb9,QjB]at h;generalize hc:(Nat.ble h0 H.length&&(Yi a&&(Nat.beq (Q6 a).length n&&((Q6 a).all Yo&&Nat.ble (m+n) cs.length))))=c at h;cases c with
       |false=>cases h
       |true=>
        cases h;simp only[XW]at hc;obtain⟨B,p,s,L,V⟩:=hc;obtain⟨_,W⟩:=r.ty.agg _ (Qau G);exact Qmu (by simp_all) j g (OpU.store f (QI R) hH W (QI e) p rfl (by simp_all) L V rfl) k
     .cases h
    .cases h
   .cases h
  .rename_i d g;cases q:Nat.blt d N with
   |false=>grind
   |true=>
    rw[q]at h;simp only[Vn]at h;split at h
    .rename_i t f;split at h
     .rename_i v u;cases c:Nat.ble h0 H.length with
      |false=>grind
      |true=>
       rw[c]at h;simp only[Qb9,QjB,QlW,Vn,Xw]at h;cases h;obtain⟨⟨z,J,w⟩,O,F⟩:=r.al _ (Qau u);exact QgV (by simp_all) j g q (Qfp J w f O rfl F) k
     .cases h
    .rename_i t x f;cases e:opB env x with
     |mk a=>
      rw[e]at h;simp only[Qb9,QjB,QlW,Xw]at h;generalize hc:(Nat.ble h0 H.length&&(Yi a&&(Q6 a).all Yo))=c at h;cases c with
      |false=>cases h
      |true=>
       cases h;simp only[XW]at hc;obtain⟨B,p,s⟩:=hc;exact QgV (by simp_all) j g q (OpH.box f (QI e) p rfl s) k
    .split at h
     .rename_i a E;cases h;exact Yv j g q (Qat r E) k
     .cases h
theorem AU(hT:Qbc P T):∀(n:Nat) {l l':List Oper} {env env':Env} {H H':Qd},runX T h0 N all n l env H=some (l',env',H')->WO P h0 N all l' env' H' Q->WO P h0 N all l env H Q
 |0,l,l',env,env',H,H',h,k=>by cases h;exact k
 |n+1,[],l',env,env',H,H',h,k=>by cases h
 |n+1,o::l,l',env,env',H,H',h,k=>by
  unfold runX at h;split at h
  .rename_i e1 H1 hs;exact Qik hT hs (AU hT n h k)
  .cases h
end
theorem yc{α:Type}{p:α->Prop}{a:α}{l:List α}(h:p a)(k:∀x∈l,p x):∀x∈a::l,p x:=(by grind)
theorem FA{P:Program}{T f off n:Nat}{fs:Array Field}{a:Field}(e:∀w,(underlying T).run P w=.ok (.struct fs) w)(b:fs[f]?=some a)(g:∀w,(sizeOf a.type).run P w=.ok n w)(d:a.offset=off:=by exact rfl)(h5:n≠0:=by decide):YL P T f off n:=⟨_,_,e,b,d,g,h5⟩
theorem QbE:∀(π:List Nat) (H:Qd) (xs:List Blk),π.map (λp=>H[p]?)=xs.map some->Yh H π xs=H
 |[],H,xs,h=>by
  simp_all[Yh]
 |p::π,H,[],h=>by simp at h
 |p::π,H,x::xs,h=>by
  simp only[Vi,List.cons.injEq]at h;have e:H.set p x=H:=by
   apply List.ext_getElem?
   grind
  unfold Yh;rw[e];exact QbE π H xs h.2
def Qip:A->Option Bx
 |.bool b=>some (.mk (.bool b))
 |.int k n=>some (.mk (.int k n))
 |.str s=>some (.mk (.str s))
 |.rsl k es=>some (.mk (.rsl k es))
 |_=>none
theorem Qji{v a:A}(h:Qip v=some (.mk a))(ρ:Nat->Nat):Yu ρ v=a:=by
 cases v<;>first|(cases h;rfl)|cases h
theorem Pc{P:Program}{h0 N:Nat}{all:Array Oper}{o:Oper}{l:List Oper}{env:Env}{H:Qd}{Q:Qz}{d:Nat}{f:FuncId}{args b:List A}{Hc:Qd}{v g:A}(π:List Nat)(i:o.dst=some d)(e:OpC P o env H f args)(h:C P f b Hc (λa H1=>a=v/\H1=Hc))(j:Qip v=some (.mk g))
  (k:WO P h0 N all l (up env d g) H Q)
  (hargs:args=Qaa (rho π H.length) b:=by exact rfl)(hH:π.map (λp=>H[p]?)=(Hc.map (QO (rho π H.length))).map some:=by exact rfl)(hπ:π.Nodup:=by decide)
  (hg:Qs all o env true:=by exact rfl)(hN:Nat.blt d N=true:=by exact rfl)(hh:Nat.ble h0 H.length=true:=by exact rfl):WO P h0 N all (o::l) env H Q:=by
 refine Qt π e h ?_ hargs hH hπ hg i hN hh
 simp_all[Qji,QbE]
theorem Qbt{i k:Nat}{es:List (List A)}:∀H:Qd,FzH i k es H H
 |[]=>.nil
 |_::r=>.keep (Qbt r)
def foN:Nat->FN
 |0=>.mk 0
 |n+1=>match foN n with
  |.mk m=>.mk (m+1)
theorem QeR:∀n,foN n=.mk n
 |0=>rfl
 |n+1=>by unfold foN;rw[QeR n]
mutual
def foA:A->Bx
 |.agg cs=>match foL cs with
  |.mk l=>.mk (.agg l)
 |.tup cs=>match foL cs with
  |.mk l=>.mk (.tup l)
 |.fn f a c=>match foL a,foL c with
  |.mk l,.mk l'=>.mk (.fn f l l')
 |.iface t v=>match foA v with
  |.mk v'=>.mk (.iface t v')
 |.ptr i off=>match foN i with
  |.mk i'=>.mk (.ptr i' off)
 |.osl i o n k=>match foN i with
  |.mk i'=>.mk (.osl i' o n k)
 |.map i=>match foN i with
  |.mk i'=>.mk (.map i')
 |a=>.mk a
def foL:List A->FL
 |[]=>.mk []
 |a::r=>match foA a,foL r with
  |.mk a',.mk r'=>.mk (a'::r')
end
mutual
theorem QgG:∀a:A,foA a=.mk a
 |.agg cs=>by unfold foA;rw[Qck cs]
 |.tup cs=>by unfold foA;rw[Qck cs]
 |.fn f a c=>by unfold foA;rw[Qck a,Qck c]
 |.iface t v=>by unfold foA;rw[QgG v]
 |.ptr i off=>by unfold foA;rw[QeR]
 |.osl i o n k=>by unfold foA;rw[QeR]
 |.map i=>by unfold foA;rw[QeR]
 |.any|.bool _|.int _ _|.str _|.nilp|.rp _|.nils|.rsl _ _|.nilf|.nilif|.nilm=>by rfl
theorem Qck:∀l:List A,foL l=.mk l
 |[]=>by rfl
 |a::r=>by unfold foL;rw[QgG a,Qck r]
end
inductive FE2 where
 |mk (l:List (List A))
def foE:List (List A)->FE2
 |[]=>.mk []
 |a::r=>match foL a,foE r with
  |.mk a',.mk r'=>.mk (a'::r')
theorem QlV:∀l,foE l=.mk l
 |[]=>rfl
 |a::r=>by unfold foE;rw[Qck,QlV r]
def foH:List Blk->FB
 |[]=>.mk []
 |b::r=>match foH r with
  |.mk r'=>match b with
   |.cells t cs=>match foL cs with
    |.mk l=>.mk (.cells t l::r')
   |.rowr t k es=>match foE es with
    |.mk l=>.mk (.rowr t k l::r')
   |.dead=>.mk (.dead::r')
   |.row t k es=>.mk (.row t k es::r')
   |.map es=>.mk (.map es::r')
   |.iter c es=>.mk (.iter c es::r')
   |.fmap es=>.mk (.fmap es::r')
   |.mapO fz t k es=>.mk (.mapO fz t k es::r')
   |.mapP es=>.mk (.mapP es::r')
   |.frow t k es=>.mk (.frow t k es::r')
   |.wins t a n c=>match foN a with
    |.mk a'=>.mk (.wins t a' n c::r')
   |.ents t a b es=>match foN a,foN b with
    |.mk a',.mk b'=>.mk (.ents t a' b' es::r')
theorem QiF:∀l,foH l=.mk l
 |[]=>rfl
 |b::r=>by
  unfold foH;rw[QiF r];cases b<;>simp only[Qck,QlV,QeR]
def foS(env:Env)(H:Qd):Option (Env×Qd):=
 match foH H with
 |.mk H'=>match env with
  |[]=>some ([],H')
  |(d,a)::e=>match foA a with
   |.mk a'=>some ((d,a')::e,H')
theorem QoS(env:Env)(H:Qd):foS env H=some (env,H):=by
 unfold foS;rw[QiF];cases env with
 |nil=>rfl
 |cons p e=>obtain⟨d,a⟩:=p;simp only[QgG]
theorem FE{P:Program}{h0 N:Nat}{all:Array Oper}{l:List Oper}{env env':Env}{H H':Qd}{Q:Qz}(h:foS env H=some (env',H'))(k:WO P h0 N all l env' H' Q):WO P h0 N all l env H Q:=by
 rw[QoS]at h
 grind
def entB(b1 b2:Nat):List (List A)->Option (List Ent)
 |[]=>some []
 |[.ptr b off,.int .i64 lo,.int .i64 hi]::r=>match entB b1 b2 r with
  |none=>none
  |some l=>match Nat.beq b b2 with
   |true=>some (⟨true,off,lo,hi⟩::l)
   |false=>match Nat.beq b b1 with
    |true=>some (⟨false,off,lo,hi⟩::l)
    |false=>none
 |_=>none
theorem Qny{b1 b2:Nat}:∀{es:List (List A)} {l:List Ent},entB b1 b2 es=some l->l.map (eC b1 b2)=es:=by
 intro es
 induction es with
 |nil=>intro l h;cases h;rfl
 |cons e r d=>
  intro l h;unfold entB at h;split at h
  .grind
  .rename_i b f lo i j q;cases q;split at h
   .cases h
   .rename_i g a;have e:=d a;split at h
    .rename_i q;cases h;have:=XQ q;subst this;rw[Vi,e];rfl
    .split at h
     .rename_i q;cases h;have:=XQ q;subst this;rw[Vi,e];rfl
     .cases h
  .cases h
theorem TE{P:Program}{h0 N:Nat}{all:Array Oper}{l:List Oper}{env:Env}{H:Qd}{Q:Qz}{t:Nat}{es:List (List A)}{L:List Ent}(i b1 b2:Nat)(hH:H[i]?=some (.rowr t 3 es))(h:entB b1 b2 es=some L)
  (k:WO P h0 N all l env (H.set i (.ents t b1 b2 L)) Q):WO P h0 N all l env H Q:=QB (QkQ hH (Qny h)) k
theorem R1{P:Program}{h0:Nat}{fn:Func}{env:Env}{H Hc:Qd}{v:A}(s:Nat)(hr:fn.results= #[.tmp s])(hle:Le h0 env H [(s,v)] Hc):QcT P h0 fn (λa H=>a=v/\H=Hc) .ret env H:=
 ⟨[(s,v)],Hc,v,hle,Qca.one hr (by simp_all[lk]),rfl,rfl⟩
theorem R2{P:Program}{h0:Nat}{fn:Func}{env:Env}{H Hc:Qd}{v v':A}(s t:Nat)(hr:fn.results= #[.tmp s,.tmp t])(hn:Nat.beq t s=false)(hle:Le h0 env H [(s,v),(t,v')] Hc):QcT P h0 fn (λa H=>a=.tup [v,v']/\H=Hc) .ret env H:=
 ⟨[(s,v),(t,v')],Hc,_,hle,QkD hr (by simp_all[lk]) (by simp_all[lk]),rfl,rfl⟩
theorem FzA.o{i k n:Nat}{es:List (List A)}(a:n=es.length:=by first|exact(X0 ..).symm|exact rfl):FzA i k es (.osl i 0 n k) (.rsl k es):=FzA.own a
end Go.Sw
