/- The rules by which the code is walked, with what they rest on (part 2). -/
import Derived.Test.YtbiglpikpigidaaGreatL1
import Derived.Below
import GoSem.ClaimChange
import Derived.Shelf.Strings.Search3
import Derived.Lib.LazyBuf
import Derived.Shelf.Sort.Plain
import Derived.Shelf.Slices.In.SortNone
import Derived.Shelf.Slices.CompactI
import Derived.RangeFuncIn
import Derived.RangeFuncSeq
import Derived.RangeFuncNested
import Derived.Lib.Bytealg
import Derived.Laws.Externs
import Derived.LaidLaws
import Derived.Lib.LaidTab
import Derived.ChangeArms
import Derived.ChangeSame
import Derived.Laws.BytesString
set_option linter.unusedVariables false
set_option linter.unusedSectionVars false
set_option linter.unusedSimpArgs false
namespace Go.Sw
open Option renaming none→AF,some→AC
open Bool renaming false→AD,true→AE
open Decidable renaming decide→AG
open Go renaming Oper→AM,Program→AK,Value→AL,World→AJ
section
open Go.Sort Go.Proofs Go.Shelf
theorem uW{α:Type}{k:Nat}:∀(vs:AA (AA α)) (j:Nat),(∀v∈vs,v.length=k)->j<vs.length*k->vs.flatten[j]?=(vs[j/k]?).bind λv=>v[j%k]?
 |[],j,_,h=>by simp at h
 |v::vs,j,hk,h=>by
  have hv:=hk v sq;have k0:0<k:=by
   rcases Nat.eq_zero_or_pos k with q|q
   .subst q;simp at h
   .exact q
  rw[Vl];by_cases q:j<k
  .rw[XL om,Nat.div_eq_of_lt q,Nat.mod_eq_of_lt q];simp
  .rw[XM om,hv,uW vs (j-k) (λv hv=>hk v (by simp[hv])) (by simp[Xm]at h;omega)];have f:j/k=(j-k)/k+1:=by rw[Nat.div_eq_sub_div k0 om]
   have d:j%k=(j-k)%k:=Nat.mod_eq_sub_mod om;rw[f,d,XE]
theorem eQ{α:Type}{k:Nat}:∀(vs:AA (AA α)),(∀v∈vs,v.length=k)->vs.flatten.length=vs.length*k
 |[],_=>sq
 |v::vs,h=>by rw[Vl,X2,eQ vs (λv hv=>h v (by simp[hv])),h v sq,XZ,Xm];omega
theorem eH{α:Type}(F:AA α)(j:Nat):F.toArray[j]?=F[j]? :=sq
theorem r_{α:Type}[Inhabited α](F:AA α)(j:Nat)(h:j<F.length):F[j]?=AC (F.toArray[j]!):=by simp[h]
theorem ry{β:Type}[Inhabited β]{enc:β->AA AL}{k:Nat}(f:∀x,(enc x).length=k)(d:Array β):flatK enc k d=((d.toList.map enc).flatten).toArray:=by
 have g:∀v∈d.toList.map enc,v.length=k:=by
  intro v m;obtain⟨x,_,rfl⟩:=Xe.1 m;exact f x
 apply Array.ext_getElem?;intro t;rw[eH ((d.toList.map enc).flatten) t];by_cases h:t<d.size*k
 .rw[uW _ t g (by simpa using h)];have B:0<k:=by
   rcases Nat.eq_zero_or_pos k with q|q
   .subst q;simp at h
   .exact q
  have h1:=Nat.div_lt_of_lt_mul (by rw[Nat.mul_comm];exact h);have y:t%k<k:=Nat.mod_lt _ B;have j:t<(flatK enc k d).size:=by simpa using h
  have e:=get_flatK enc k d t h;rw[getElem!_pos (flatK enc k d) t j]at e;rw[Array.getElem?_eq_getElem j,e];simp[h1];rw[XJ (by rw[f];exact y)];rfl
 .have e:(d.toList.map enc).flatten.length=d.size*k:=by rw[eQ _ g];simp
  rw[Array.getElem?_eq_none (by simpa using h),XN om]
section
variable {ro:Nat->Prop} {σ:Ce} {w:AJ} {T:Type} {enc:T->AA A} {k:Nat}
theorem RL.parts:∀{l:AA T} {lv:AA AL},RL ro σ w k (l.map enc) lv->
  ∃(ps:AA (T×AA AL)) (rest:AA AL),ps.map (·.1)=l/\lv=(ps.map (·.2)).flatten++rest/\ ∀p∈ps,p.2.length=k/\LR ro σ w (enc p.1) p.2/\ ∀v∈p.2,QC v
 |[],lv,_=>⟨[],lv,rfl,rfl,sq⟩
 |x::l,lv,h=>by
  obtain⟨l1,l2,rfl,h1,⟨h2,h3⟩,h4⟩:=h;obtain⟨ps,rest,e1,rfl,h5⟩:=RL.parts h4;refine⟨(x,l1)::ps,rest,by simp[e1],sq,?_⟩;intro p hp;rcases X6.1 hp with rfl|hp
  .exact⟨by rw[h2.length];exact h1,h2,h3⟩
  .exact h5 p hp
theorem uO(hk:∀x,(enc x).length=k):∀{ps:AA (T×AA AL)} {rest:AA AL},(∀p∈ps,LR ro σ w (enc p.1) p.2/\ ∀v∈p.2,QC v)->RL ro σ w k ((ps.map (·.1)).map enc) ((ps.map (·.2)).flatten++rest)
 |[],_,_=>trivial
 |p::ps,rest,h=>by
  refine⟨p.2,(ps.map (·.2)).flatten++rest,sq,hk _,h p sq,uO hk λq hq=>h q (by simp[hq])⟩
end
structure Elt (ro:Nat->Prop) (w:AJ) {T:Type} (enc:T->List A) (k:Nat) (l:List T) where
 x:T
 vs:List AL
 mem:x∈l
 len:vs.length=k
 rel:LR ro [] w (enc x) vs
 plain:∀v∈vs,QC v
theorem Qmd{v:AL}(h:QC v):v.oneCell'=true:=by cases v<;>first|rfl|exact h.elim
theorem qU{P:AK}{ρ:Ren}(L:SlLaysF0.n6 P ρ){T:Type}[DecidableEq T]{enc:T->AA A}{k t g:Nat}{cap:AA A}{l l':AA T}{cf:T->T->AB Int}(hs:L8 cf l=AC l')
  (a8:∀x y c,cf x y=AC c->C P g ([.agg (enc x),.agg (enc y)]++cap) [] (λa H=>a=.int .i64 c/\H=[]))
  (aE:∀w,(isAgg (ρ.t 24)).run P w=.ok AE w)(zE:∀w,(Go.sizeOf (ρ.t 24)).run P w=.ok k w)(eg:∀args w,(callFunc g args).run P w=.ok (.enter g args) w)
  (hk:∀x,(enc x).length=k)(hd:YK cap=AE):
  C P (ρ.f 6) [.osl 0 0 l.length k,.fn (.func g) [] cap] [.row t k (l.map enc)] (λa H=>a=.tup []/\H=[.row t k (l'.map enc)]):=by
 intro fr M σ vals w s hv;obtain⟨vs,r1,rfl,bj,vf,r2,rfl,bi,hr⟩:=hv;cases(show r2=[]from hr);obtain⟨lf,lc,rfl,h1,a1⟩:=bi;cases(show lf=[]from h1);have ay:LR M [] w cap lc:=LR.data hd a1;obtain⟨bd,al,O,a0,be⟩:=mW hs;have F:∀(ad:AB Addr) (c:Nat),vs=.slice ad 0 c->l=[]->
   Calls P (ρ.f 6) [vs,.func (.func g) #[] lc.toArray].toArray w λe w'=>∃v r H' ag τ,e=.returned v/\(r=.tup []/\H'=[.row t k (l'.map enc)])/\CZ fr ag (σ++τ) H' w'/\VR ag (σ++τ) w' r v/\Ql fr M w ag w':=by
  rintro ad c rfl rfl;have ae:l'=[]:=by rw[<- be];rfl
  subst ae;refine(AnyF.slices_SortFunc_none L ad c (.func (.func g) #[] lc.toArray) w).mono ?_;rintro e w' ⟨rfl,rfl⟩;exact⟨_,_,_,M,[],rfl,⟨rfl,rfl⟩,by simpa using s,⟨[],rfl,rfl⟩,Ql.refl _ _ _⟩
 rcases bj with⟨h0,rfl⟩|⟨b,p,cp,t',m,q1,rfl,q2,⟨q3,bv⟩,q4,q5⟩
 .exact F AF 0 rfl (VI.1 h0)
 .by_cases ae:l=[]
  .subst ae;exact F _ cp rfl rfl
  .have bu:0<l.length:=List.length_pos_iff.2 ae;obtain rfl:=q2 (Vf bu q3);obtain⟨lv,e1,e2⟩:=s.blk 0 _ _ q1 rfl;obtain⟨hb,an,a2⟩:=s.own 0 b _ q1 rfl rfl;obtain⟨X,J,a6,rfl,ai⟩:=RL.parts e2
   let α:=Elt M w enc k l
   have a7:∀p∈X,p.1∈l:=λp hp=>by rw[<- a6];exact VE hp
   let ds:AA α:=X.attach.map λp=>⟨p.1.1,p.1.2,a7 _ p.2,(ai _ p.2).1,(ai _ p.2).2.1,(ai _ p.2).2.2⟩
   have bb:∀{γ:Type} (f:T×AA AL->γ),X.attach.map (λp=>f p.1)=X.map f:=λf=>sq;have N:ds.map (·.x)=l:=by
    show(X.attach.map _).map _=_;rw[List.map_map];exact(bb (·.1)).trans a6
   have ak:ds.map (·.vs)=X.map (·.2):=by
    show(X.attach.map _).map _=_;rw[List.map_map];exact bb (·.2)
   have ax:ds.length=l.length:=by rw[<- N];simp
   have a5:ds≠[]:=by intro q;rw[q]at ax;simp at ax;omega
   let inh:Inhabited α:=⟨ds.head a5⟩
   let enc':α->AA AL:=λa=>a.vs
   let cf':α->α->Int:=λx y=>(cf x.x y.x).getD 0
   have af:∀x y:α,ltOf cf' x y=HM cf x.x y.x:=by
    intro x y;obtain⟨c,E⟩:=al x.x x.mem y.x y.mem;simp only[ltOf,HM,cf',E,Option.getD_some]
   have hO:SWO (ltOf cf'):=⟨λx=>by rw[af];exact O.irrefl _ x.mem,λx y z a b=>by rw[af]at*;exact O.trans _ x.mem _ y.mem _ z.mem a b,
    λx y z a b=>by rw[af]at*;exact O.ntrans _ x.mem _ y.mem _ z.mem a b⟩
   have aa:∀x:α,(enc' x).length=k:=λx=>x.len;have az:flatK enc' k ds.toArray=((X.map (·.2)).flatten).toArray:=by
    rw[ry aa];show((ds.map λa=>a.vs).flatten).toArray=_;rw[ak]
   have bn:∀v∈X.map (·.2),v.length=k:=by
    intro v hv;obtain⟨p,hp,rfl⟩:=Xe.1 hv;exact(ai p hp).1
   have ac:(X.map (·.2)).flatten.length=ds.length*k:=by rw[eQ _ bn, <- ak];simp
   have hH:HoldsK enc' k w b (0*k) ds.toArray:=by
    intro j hj;rw[az]at hj⊢;simp only[List.size_toArray]at hj;constructor
    .unfold World.cell?;simp only[e1,Option.isSome_none,Xi,if_false,Nat.zero_mul,Xv];rw[eH,XL hj];exact r_ _ _ hj
    .unfold World.frozen?;simp only[e1];simp
   have av:∀(d:Array α),d.size=ds.toArray.size->(putRowK enc' k w b (0*k) d).heap=w.heap.setIfInBounds b (.cells (((d.toList.map enc').flatten++J)).toArray t (0,0)):=by
    intro d B;have ah:(d.toList.map enc').flatten.length=(X.map (·.2)).flatten.length:=by
     rw[eQ _ (k:=k) (by intro v hv;obtain⟨x,_,rfl⟩:=Xe.1 hv;exact aa x),ac];simp at B⊢;rw[B]
    unfold putRowK putRow mapBlock;show w.heap.modify b _=_;rw[mj e1];simp only[onCells];congr 2;rw[ry aa];unfold putCells;apply Array.ext_getElem?;intro i;simp only[Array.getElem?_mapIdx,eH,Nat.zero_mul,XT,true_and,Xv,Nat.sub_zero,List.size_toArray,id_eq];by_cases hi:i<(d.toList.map enc').flatten.length
    .rw[XL hi,XL (by rw[<- ah];exact hi),XJ (by rw[<- ah];exact hi),r_ _ _ hi];exact congrArg AC (Vs hi)
    .rw[XM om,XM om,ah];cases(J[i-(X.map (·.2)).flatten.length]?)with
     |none=>rfl
     |some v=>
      rw[<- ah];exact congrArg AC (Vr hi)
   have V:∀(m:Nat) (os:Array Obj) (d:Array α),d.size=ds.toArray.size->
     (∀c,c<w.heap.size->c≠b->(sortWorldK enc' k w b (0*k) m d os).heap[c]?=w.heap[c]?)/\(sortWorldK enc' k w b (0*k) m d os).heap[b]?=AC (.cells (((d.toList.map enc').flatten++J)).toArray t (0,0))/\
     w.heap.size<=(sortWorldK enc' k w b (0*k) m d os).heap.size:=by
    intro m os d B;have e:(sortWorldK enc' k w b (0*k) m d os).heap=w.heap.setIfInBounds b (.cells (((d.toList.map enc').flatten++J)).toArray t (0,0))++os:=by
     rw[<- av d B];rfl
    rw[e];refine⟨λc E bo=>?_,?_,sq⟩
    .rw[Array.getElem?_append_left (by simpa using E),Ve,Vr (λq=>bo q.symm)]
    .rw[Array.getElem?_append_left (by simpa using hb),Ve,Vs rfl,Vs hb]
   have R:∀(m:Nat) (os:Array Obj) (d:Array α),d.size=ds.toArray.size->∀c y,w.shape? c=AC y->(sortWorldK enc' k w b (0*k) m d os).shape? c=AC y:=by
    intro m os d B c y hy;obtain⟨g1,g2,g3⟩:=V m os d B;by_cases E:c=b
    .subst E;unfold World.shape? at hy⊢;rw[e1]at hy;rw[g2];simp only[Option.some.injEq]at hy⊢;rw[<- hy];congr 1;simp only[List.size_toArray,X2];rw[eQ _ (k:=k) (by intro v hv;obtain⟨x,_,rfl⟩:=Xe.1 hv;exact aa x),ac];simp at B⊢;rw[B]
    .unfold World.shape? at hy⊢;rw[g1 c (Qn7 hy) E];exact hy
   have am:∀(m:Nat) (os:Array Obj) (d:Array α),d.size=ds.toArray.size->∀τ,DR M τ w M τ (sortWorldK enc' k w b (0*k) m d os):=by
    intro m os d B τ;obtain⟨g1,g2,g3⟩:=V m os d B;exact⟨λ_ q=>q,λc E=>g1 c (s.roLt c E) (λq=>an (q▸E)),R m os d B,λ_ _ q=>q⟩
   have bs:CmpLays P g lc.toArray enc' k cf' b (0*k) ds.toArray.size w:=by
    intro m os dk a3 x y;obtain⟨c,E⟩:=al x.x x.mem y.x y.mem;have G:=am m os dk a3 [];have bq:=a8 _ _ _ E;generalize hW:sortWorldK enc' k w b (0*k) m dk os=W at*;have bp:w.heap.size<=W.heap.size:=by rw[<- hW];exact(V m os dk a3).2.2
    have sW:CZ (λc=>c<W.heap.size/\ ¬M c) M [] [] W:=
     ⟨rfl,s.roOk.to (λ_ q=>q) G.keep (λc E=>Vf (s.roLt c E) bp),λc E=>E.1,λc E hf=>hf.2 E,λi b x h=>by simp at h,λi j b x y h=>by simp at h,λi y x h=>by simp at h,λi b x c h=>by simp at h⟩
    have aw:LR M [] W ([.agg (enc x.x),.agg (enc y.x)]++cap) ([.agg x.vs.toArray,.agg y.vs.toArray]++lc):=
     LR.append (show LR M [] W [A.agg (enc x.x),A.agg (enc y.x)] [Value.agg x.vs.toArray,Value.agg y.vs.toArray]from⟨_,_,rfl,⟨x.vs,rfl,x.rel.mono G⟩,_,_,rfl,⟨y.vs,rfl,y.rel.mono G⟩,rfl⟩) (ay.mono G)
    have Q:=bq _ M [] _ W sW aw;have bh:(([Value.agg x.vs.toArray,Value.agg y.vs.toArray]++lc).toArray:Array AL)= #[Value.agg (enc' x).toArray,Value.agg (enc' y).toArray]++lc.toArray:=by simp[enc']
    rw[bh]at Q;refine Q.mono ?_;rintro e w' ⟨v,r,H',ag,τ,rfl,⟨rfl,rfl⟩,s',bg,ev⟩;refine⟨?_,?_⟩
    .rw[show v=.int .i64 c from bg];simp only[cf',E,Option.getD_some]
    .refine QqB (λc E=>?_) ev.size ev.os ev.tape ev.output ev.drawn;by_cases a4:M c
     .exact ev.keepRo c a4
     .exact ev.keepFr c ⟨E,a4⟩
   have ab:ds.toArray.size=l.length:=by simpa using ax
   have aj:=AnyQ.slices_SortFunc L k aE zE enc' aa (λx v hv=>Qmd (x.plain v hv)) cf' hO g lc.toArray b (0*k) cp ds.toArray w eg bs hH hb (by rw[ab];unfold YG at bd;omega);rw[ab]at aj;refine aj.mono ?_;rintro e w' ⟨rfl,d,n,os,Y,ar,rfl⟩;have B:d.size=ds.toArray.size:=Y.1;obtain⟨g1,g2,g3⟩:=V n os d B;have ao:d.toList.Perm ds:=by
    have h:=Y.2.2;have x1:d.extract 0 l.length=d:=by rw[<- ab, <- B];exact Array.extract_size
    have x2:ds.toArray.extract 0 l.length=ds.toArray:=by rw[<- ab];exact Array.extract_size
    rw[x1,x2]at h;simpa using h
   have ba:d.toList.map (·.x)=l':=by
    rw[<- be];refine il (lt:=HM cf) ?_ ?_ ?_ (Jk O)
    .exact((ao.map (·.x)).trans (by rw[N])).trans (Q4 _ _).symm
    .intro x hx y hy;have bm:x∈l:=by rw[<- N];exact(ao.map (·.x)).mem_iff.1 hx
     have br:y∈l:=by rw[<- N];exact(ao.map (·.x)).mem_iff.1 hy
     exact a0 x bm y br
    .rw[VC];intro i j hi hj bk;simp only[X0]at hi hj;simp only[List.getElem_map];rw[<- af];have:=ar i j (XT _) bk (by rw[<- ab, <- B];simpa using hj);rw[getElem!_pos d j (by simpa using hj),getElem!_pos d i (by simpa using hi)]at this;simpa using this
   have bl:RL M [] (sortWorldK enc' k w b (0*k) n d os) k (l'.map enc) ((d.toList.map enc').flatten++J):=by
    have e3:d.toList.map enc'=(d.toList.map λa=>(a.x,a.vs)).map (·.2):=by simp[enc']
    have e4:l'=(d.toList.map λa=>(a.x,a.vs)).map (·.1):=by rw[<- ba];simp
    rw[e3,e4];refine uO hk ?_;intro p hp;obtain⟨a,_,rfl⟩:=Xe.1 hp;exact⟨a.rel.mono (am n os d B []),a.plain⟩
   have bc:Ql fr M w M (sortWorldK enc' k w b (0*k) n d os):=
    ⟨λ_ q=>q,λc E=>g1 c (s.roLt c E) (λq=>an (q▸E)),λc E=>g1 c (s.frLt c E) (λq=>a2 (q▸E)),g3,R n os d B,rfl,rfl,rfl,Nat.le_add_right _ _⟩
   have aq:σ.length=1:=s.len;have a9:CZ fr M σ [.row t k (l'.map enc)] (sortWorldK enc' k w b (0*k) n d os):=by
    have i0:∀{i:Nat} {x:CW},([.row t k (l'.map enc)]:Qc)[i]?=AC x->i=0/\x=.row t k (l'.map enc):=by
     intro i x h;cases i with
     |zero=>simp at h;exact⟨rfl,h.symm⟩
     |succ i=>simp at h
    refine⟨aq,s.roOk.to (λ_ q=>q) bc.keepRo (λc E=>Vf (s.roLt c E) g3),λc E=>Vf (s.frLt c E) g3,s.roFr,λi c x h1 h2 h3=>?_,λi j c x y h1 h2 h3 h4 _ _=>?_,λi y x h1 h2=>?_,λi b x c h1 h2 h3=>by obtain⟨rfl,rfl⟩:=i0 h2;exact h3.elim⟩
    .obtain⟨rfl,rfl⟩:=i0 h2;obtain⟨p1,p2⟩:=s.own 0 c _ h1 rfl rfl;exact⟨Vf p1 g3,p2⟩
    .rw[(i0 h3).1,(i0 h4).1]
    .obtain⟨rfl,rfl⟩:=i0 h2;rw[q1]at h1;cases h1;exact⟨_,g2,bl⟩
   exact⟨_,_,_,M,[],rfl,⟨rfl,rfl⟩,by simpa using a9,⟨[],rfl,rfl⟩,bc⟩
end
section
variable {T k:Nat}
section
variable {P:AK} {o:AM} {env:Env} {H:Qc} {fr ro:Nat->Prop} {σ:Ce} {w:AJ}
theorem CZ.addRo(s:CZ fr ro σ H w){b:Nat}(m:b<w.heap.size)(h:¬fr b)(F:∀(i:Nat) (x:CW),σ[i]?=AC (AC b)->H[i]?=AC x->x.live=AE->False)
  (t:∀(i d:Nat) (x:CW),σ[i]?=AC (AC d)->H[i]?=AC x->Dq w x d b->False):CZ fr (λc=>ro c\/c=b) σ H w:=by
 refine⟨s.len,s.roOk.to (λ_ q=>.inl q) (λ_ _=>rfl) ?_,s.frLt,?_,?_,s.inj,?_,s.hidTo (· = ·) Yq (XS _) gq sq gq⟩
 .rintro c (q|rfl)
  .exact s.roLt c q
  .exact m
 .rintro c (q|rfl)
  .exact s.roFr c q
  .exact h
 .intro i c x g f j;obtain⟨E,G,B⟩:=s.own i c x g f j
  grind
 .intro i y x g f;exact(s.blk i y x g f).keep ⟨λ_ q=>.inl q,λ_ _=>rfl,λ_ _ q=>q,λ_ _ q=>q⟩ (λ_ _ _=>rfl) (λ_ _ _ _=>rfl)
theorem QN{e n:Nat}{xs:AA Operand}{es:AA (AA A)}(E:ElemTy P T e k)(X:o.op=.buildSlice T n (M_ 0 xs).toArray)(Q:xs.length=n)(M:Nat.ble (n*k) 16777216=AE)
  (hk:(xs.all λx=>Yn (CP env x))=AE)(L:Q6 env xs=es)(R:allK k es)(W:es.flatten.all Yu=AE)(V:YK es.flatten=AE):
  E_ P o env H (.rsl k es) H:=by
 intro fr j σ N a w r;subst L;obtain⟨l,h1,O⟩:=nK r E Q M hk R;have G:LR j [] w (Q6 env xs).flatten l:=O.data V;have f:∀b,b<w.heap.size->(w.alloc (.cells l.toArray e)).heap[b]?=w.heap[b]? :=λb hb=>YA _ _ b hb;have m:w.heap.size<=(w.alloc (.cells l.toArray e)).heap.size:=sq;have Y:=r.sim.grown f m;have t:Ql fr j w j (w.alloc (.cells l.toArray e)):=Ql.alloc _ r.sim.roLt r.sim.frLt;have s2:=Y.addRo sq (λq=>Nat.lt_irrefl _ (r.sim.frLt _ q)) (λi x g h F=>Nat.lt_irrefl _ (r.sim.own i _ x g h F).1)
  (λi d x g h F=>Nat.lt_irrefl _ (r.sim.hid i d x _ g h (r.sim.hidKeep g h (λz=>f d (r.sim.own i d x g h z).1) (λb q=>f b (r.sim.roLt b q)) F)).lt)
 have J:RL j [] (w.alloc (.cells l.toArray e)) k (Q6 env xs) l:=by
  have:=Jh (rest:=[]) R (G.mono (t.ext0 [])) (O.plain W)
  grind
 have y:(Q6 env xs).length=n:=by simp[Q6,Q]
 refine⟨_,_,λc=>j c\/c=w.heap.size,[],nI X a.eval h1,(⟨AC ⟨w.heap.size,0,AF⟩,n,by rw[y],om,.inr ⟨w.heap.size,0,rfl,.inr rfl,?_⟩⟩),gq,t.trans (Yf λ_ q=>.inl q)⟩;have B:(w.alloc (.cells l.toArray e)).heap[w.heap.size]?=AC (.cells ([]++l).toArray e (0,0)):=Yz _ _;have:=YT B J;exact this.keep ⟨λ_ q=>.inl q,λ_ _=>rfl,λ_ _ q=>q,λ_ _ q=>q⟩ rfl
end
inductive FT:List A->List A->Prop
 |nil:FT [] []
 |eq {a:A} {l m:List A} (h:FT l m):FT (a::l) (a::m)
 |nl {k:Nat} {l m:List A} (h:FT l m):FT (.nils::l) (.rsl k []::m)
theorem LR.nils{ro:Nat->Prop}{σ:Ce}{w:AJ}{j m:AA A}(h:FT j m):∀{l:AA AL},LR ro σ w j l->LR ro σ w m l:=by
 induction h with
 |nil=>simp
 |eq _ ih=>rintro l ⟨v,g,e,d,f⟩;exact⟨v,g,e,d,ih f⟩
 |nl _ ih=>rintro l ⟨v,g,e,d,f⟩;exact⟨v,g,e,⟨AF,0,d,XS _,.inl rfl⟩,ih f⟩
theorem C.nils{P:AK}{f:FuncId}{l1 bs:AA A}{H:Qc}{Q:A->Qc->Prop}(hl:FT l1 bs)(h:C P f bs H Q):C P f l1 H Q:=
 λfr ro σ vals w s l=>h fr ro σ vals w s (LR.nils hl l)
def Qq(k:IntKind)(n:Int):Prop:=k.min<=n/\n<=k.max
def RW(w:AJ):Nat->Prop:=λb=>b<w.heap.size
structure dK {H:Type} (μ:DataW H->Nat):Prop where
 str:∀bytes,bytes.length<=μ (.lit (.string bytes))
 sl:∀e s,e.length<=μ (.slice e s)
 sle:∀e s,∀d∈e,μ d<=μ (.slice e s)
 ag:∀ps,∀d∈ps,μ d<=μ (.agg ps)
def RB(P:AK)(n:Nat)(t:TypeId)(T:Type)(e:T->AA A)(wf:T->Prop):Prop:=
 ∀(H:Type) (enc:TypeId×AL->H) (w:AJ) (base:Nat) (spare:Nat->Bool) (held:Bool) (m:Nat) (cs:AA AL) d,m<n->DataW.trod enc P w base spare held m t cs=AC d->
  ∀μ:DataW H->Nat,dK μ->μ d.1<=1048576->∃x:T,wf x/\LR (RW w) [] w (e x) cs/\ ∀v∈cs,QC v
section
variable {P:AK} {n:Nat} {t:TypeId} {T:Type} {e:T->AA A} {wf:T->Prop}
theorem RB.down(h:RB P (n+1) t T e wf):RB P n t T e wf:=λH enc w base spare held m cs d hm=>h H enc w base spare held m cs d (Nat.lt_succ_of_lt hm)
theorem gz(h:∀n,RB P n t T e wf->RB P (n+1) t T e wf):∀n,RB P n t T e wf
 |0=>λH enc w base spare held m cs d hm=>om
 |n+1=>h n (gz h n)
theorem Yd{T':Type}{j:T'->AA A}{f:T'->Prop}(h:RB P n t T e wf)(g:T->T')(he:∀x,j (g x)=e x)(y:∀x,wf x->f (g x)):RB P n t T' j f:=by
 intro H enc w base spare held m cs d hm hd μ hμ hwt;obtain⟨x,q,E,B⟩:=h H enc w base spare held m cs d hm hd μ hμ hwt
 grind
theorem RB.int{k:IntKind}(f:P.underlying t=AC (.int k)):RB P n t Int (Ys k) (Qq k):=by
 intro H enc w base spare held m cs d hm hd μ hμ hwt;cases m with
 |zero=>simp[DataW.trod]at hd
 |succ m=>
  rcases cs with _|⟨v,_|⟨j,r⟩⟩
  .simp[DataW.trod,f]at hd
  .cases v<;>simp[DataW.trod,f]at hd;rename_i q h;obtain⟨⟨rfl,g⟩,_⟩:=hd;refine⟨h,?_,⟨_,_,rfl,rfl,rfl⟩,by simp[QC]⟩;simpa[Lit.wf,Qq]using g
  .simp[DataW.trod,f]at hd
theorem RB.bool(f:P.underlying t=AC .bool):RB P n t Bool JL (λ_=>True):=by
 intro H enc w base spare held m cs d hm hd μ hμ hwt;cases m with
 |zero=>simp[DataW.trod]at hd
 |succ m=>
  rcases cs with _|⟨v,_|⟨g,r⟩⟩
  .simp[DataW.trod,f]at hd
  .cases v<;>simp[DataW.trod,f]at hd;rename_i b;exact⟨b,trivial,⟨_,_,rfl,rfl,rfl⟩,by simp[QC]⟩
  .simp[DataW.trod,f]at hd
theorem RB.string(f:P.underlying t=AC .string):RB P n t (AA UInt8) JK (λs=>s.length<=1048576):=by
 intro H enc w base spare held m cs d hm hd μ hμ hwt;cases m with
 |zero=>simp[DataW.trod]at hd
 |succ m=>
  rcases cs with _|⟨v,_|⟨g,r⟩⟩
  .simp[DataW.trod,f]at hd
  .cases v<;>simp[DataW.trod,f]at hd;rename_i s;obtain⟨_,rfl⟩:=hd;exact⟨s.data.toList,XU (hμ.str _) hwt,⟨_,_,rfl,rfl,rfl⟩,by simp[QC]⟩
  .simp[DataW.trod,f]at hd
theorem m0{α:Type}{f:Nat->AB α}:∀{n:Nat} {l:AA α},(List.range n).mapM f=AC l->l.length=n/\ ∀i,i<n->∃y,f i=AC y/\l[i]?=AC y
 |0,l,h=>gq
 |n+1,l,h=>by
  rw[List.range_succ,List.mapM_append]at h;cases h1:(List.range n).mapM f with
  |none=>grind
  |some l1=>
   cases h2:f n with
   |none=>grind
   |some y=>
    simp[h1,h2]at h;subst h;obtain⟨e1,e2⟩:=m0 h1
    grind
theorem uh{w:AJ}{ro:Nat->Prop}{b:Nat}:∀{cs:AA A} {l:AA AL} {off:Nat},LR ro [] w cs l->(∀v∈l,QC v)->(∀i,i<l.length->w.cell? ⟨b,off+i,AF⟩=l[i]?)->CR ro [] w b cs off
 |[],_,_,_,_,_=>trivial
 |a::cs,l,off,h,hp,hc=>by
  obtain⟨v,l',rfl,h1,h2⟩:=h;refine⟨gq,uh h2 gq λi hi=>?_⟩;have:=hc (i+1) gq
  grind
theorem RB.slice{E:TypeId}{k:Nat}{s:TypeId}(M:P.underlying s=AC (.slice E))(hk:P.cellsOf E=k)(h0:Nat.blt 0 k=AE)(hl:∀x,(e x).length=k)(h:RB P n E T e wf):
  RB P (n+1) s (AA T) (Qu k e) (λl=>l.length<=1048576/\ ∀x∈l,wf x):=by
 intro H enc w base spare held m cs d hm hd μ hμ hwt;have k0:0<k:=by simp_all
 cases m with
 |zero=>simp[DataW.trod]at hd
 |succ m=>
  rcases cs with _|⟨v,_|⟨v2,r⟩⟩
  .simp[DataW.trod,M]at hd
  .cases v<;>try (simp[DataW.trod,M]at hd;done)
   rename_i a len g;cases a with
   |none=>
    rcases len with _|len
    .rcases g with _|g
     .refine⟨[],⟨sq,sq⟩,⟨_,_,rfl,⟨AF,0,rfl,XS _,.inl rfl⟩,rfl⟩,by simp[QC]⟩
     .simp[DataW.trod,M]at hd
    .simp[DataW.trod,M]at hd
   |some a=>
    simp only[DataW.trod,M]at hd;split at hd
    .rename_i hc;obtain⟨c1,c2,c3⟩:=hc;cases Q:(List.range len).mapM (λi=>(w.cells? base (a.add (i*P.cellsOf E)) (P.cellsOf E)).bind (DataW.trod enc P w base spare held m E))with
     |none=>grind
     |some f=>
      rw[Q]at hd;simp only[XI,Option.map_eq_some_iff]at hd;obtain⟨B,_,rfl⟩:=hd;have J:f.length<=1048576:=by
       have h1:=hμ.sl (f.map (·.1)) (B.map (·.1))
       grind
      have ac:∀y∈f,μ y.1<=1048576:=λy W=>XU (hμ.sle _ (B.map (·.1)) _ (VE W)) hwt;obtain⟨e1,e2⟩:=m0 Q;have O:∀i,i<len->∃(x:T) (l:AA AL),wf x/\LR (RW w) [] w (e x) l/\(∀v∈l,QC v)/\l.length=k/\ ∀j,j<k->w.cell? ((a.add (i*k)).add j)=l[j]? :=by
       intro i hi;obtain⟨y,y1,y2⟩:=e2 i hi;rw[hk]at y1;cases ab:w.cells? base (a.add (i*k)) k with
       |none=>grind
       |some l=>
        rw[ab]at y1;obtain⟨x,x1,x2,x3⟩:=h H enc w base spare held m l y om y1 μ hμ (ac y (VG y2))
        grind[World.cells?,m0]
      by_cases R:len=0
      .subst R;exact⟨[],⟨sq,sq⟩,⟨_,_,rfl,⟨AC a,g,rfl,XT _,.inl rfl⟩,rfl⟩,by simp[QC]⟩
      .have first:a.spot=AF/\a.block<w.heap.size:=by
        obtain⟨x',l,p1,p2,p3,p4,Y⟩:=O 0 om;have t:=Y 0 k0;have aa:l[0]?=AC l[0]:=XJ om;have ea:(a.add (0*k)).add 0=a:=by simp[Addr.add]
        rw[aa,ea]at t;unfold World.cell? at t;split at t
        .rename_i hh;constructor
         .cases q:a.spot with
          |none=>rfl
          |some z=>simp[q]at t
         .exact(Vc.1 hh).1
        .cases t
       obtain⟨X,hb⟩:=first
       have V:∀n,a.add n=⟨a.block,a.off+n,AF⟩:=by
        intro n;cases a;simp only at X;subst X;unfold Addr.add;split
        .rename_i q;subst q;rfl
        .rfl
       have F:∀(b o n:Nat),(⟨b,o,AF⟩:Addr).add n=⟨b,o+n,AF⟩:=by
        intro b o n;unfold Addr.add;split
        .rename_i q;subst q;rfl
        .rfl
       have pick:∀q i,len-i=q->i<=len->∃G:AA T,G.length=len-i/\(∀x∈G,wf x)/\RR (RW w) [] w a.block k (G.map e) (a.off+i*k):=by
        intro q
        induction q with
        |zero=>intro i hq hi;exact⟨[],by simp[hq],sq,trivial⟩
        |succ q ih=>
         intro i hq hi;obtain⟨G,L,w2,N⟩:=ih (i+1) om om;obtain⟨x,l,p1,p2,p3,p4,Y⟩:=O i om;refine⟨x::G,by simp[L];omega,by intro y W;rcases X6.1 W with rfl|W;exact p1;exact w2 y W,hl x,?_,?_⟩
         .refine uh p2 p3 λj hj=>?_;have t:=Y j om;rw[V,F]at t;exact t
         .rw[Xm, <- Nat.add_assoc]at N;exact N
       obtain⟨G,L,w2,N⟩:=pick len 0 om (XT _);rw[Nat.zero_mul,Xw]at N;rw[Nat.sub_zero]at L;refine⟨G,⟨by rw[L, <- e1];exact J,w2⟩,⟨_,_,rfl,⟨AC a,g,by simp[L],by simp[L];exact c2,.inr ⟨a.block,a.off,?_,hb,N⟩⟩,rfl⟩,by simp[QC]⟩;cases a
       grind
    .cases hd
  .simp[DataW.trod,M]at hd
def RF(P:AK)(n:Nat)(fs:AA Field)(off L:Nat)(T:Type)(e:T->AA A)(wf:T->Prop):Prop:=
 ∀(H:Type) (enc:TypeId×AL->H) (w:AJ) (base:Nat) (spare:Nat->Bool) (held:Bool) (m:Nat) (cs:AA AL) ds,m<n->cs.length=L->
  fs.mapM (λf=>DataW.trod enc P w base spare held m f.type ((cs.drop f.offset).take (P.cellsOf f.type)))=AC ds->
  ∀μ:DataW H->Nat,dK μ->(∀y∈ds,μ y.1<=1048576)->∃x:T,wf x/\LR (RW w) [] w (e x) (cs.drop off)/\ ∀v∈cs.drop off,QC v
theorem RF.nil{L:Nat}:RF P n [] L L Unit (λ_=>[]) (λ_=>True):=by
 intro H enc w base spare held m cs ds hm hl hd μ hμ hwt;have:cs.drop L=[]:=gq;rw[this];exact⟨(),trivial,rfl,sq⟩
theorem RF.cons{f:Field}{fs:AA Field}{off L:Nat}{T2:Type}{E:T2->AA A}{g:T2->Prop}(G:f.offset=off)(F:P.cellsOf f.type=k)(h:RB P n f.type T e wf)(r:RF P n fs (off+k) L T2 E g):
  RF P n (f::fs) off L (T×T2) (λp=>e p.1++E p.2) (λp=>wf p.1/\g p.2):=by
 intro H enc w base spare held m cs ds hm hl hd μ hμ hwt;rw[List.mapM_cons]at hd;cases B:DataW.trod enc P w base spare held m f.type ((cs.drop f.offset).take (P.cellsOf f.type))with
 |none=>grind
 |some d=>
  cases J:fs.mapM (λf=>DataW.trod enc P w base spare held m f.type ((cs.drop f.offset).take (P.cellsOf f.type)))with
  |none=>grind
  |some j=>
   have t:ds=d::j:=by
    grind
   subst t;rw[G,F]at B;obtain⟨x,M,N,Q⟩:=h H enc w base spare held m _ d hm B μ hμ (hwt d sq);obtain⟨y,y1,y2,O⟩:=r H enc w base spare held m cs j hm hl J μ hμ gq;have q:cs.drop off=(cs.drop off).take k++cs.drop (off+k):=by rw[<- List.drop_drop,Xy]
   refine⟨(x,y),⟨M,y1⟩,by rw[q];exact N.append y2,?_⟩
   grind
theorem RB.struct{fs:Array Field}{L:Nat}(j:P.underlying t=AC (.struct fs))(B:P.cellsOf t=L)(h:RF P n fs.toList 0 L T e wf):RB P (n+1) t T e wf:=by
 intro H enc w base spare held m cs d hm hd μ hμ hwt;cases m with
 |zero=>simp[DataW.trod]at hd
 |succ m=>
  unfold DataW.trod at hd;simp only[j]at hd;split at hd
  .rename_i x;cases g:fs.toList.mapM (λf=>DataW.trod enc P w base spare held m f.type ((cs.drop f.offset).take (P.cellsOf f.type)))with
   |none=>grind
   |some q=>
    rw[g]at hd;simp only[Xj,Option.some.injEq]at hd;subst hd;have:=h H enc w base spare held m cs q om (by rw[x,B]) g μ hμ (λy E=>XU (hμ.ag _ _ gq) hwt)
    grind
  .cases hd
end
variable {P:AK}{W:AJ}
theorem C.law{f:FuncId}{args:AA A}{vals:AA AL}(h:C P f args [] (λa H=>a=.bool AE/\H=[]))(t:LR (RW W) [] W args vals)(d:GP W):
  Calls P f vals.toArray W λe W'=>e=.returned (.bool AE)/\Go.RowKit.Below W.heap.size W W':=by
 have s:CZ (λ_=>False) (RW W) [] [] W:=
  ⟨rfl,⟨λ_ h=>h,λb j=>d.size b j,d⟩,λ_ h=>h.elim,λ_ _ h=>h,sq,sq,sq,sq⟩
 refine(h _ _ _ _ W s t).mono ?_;rintro e W' ⟨v,r,H',q,τ,rfl,⟨rfl,rfl⟩,_,m,ev⟩;exact⟨by rw[show v=.bool AE from m],⟨ev.os,ev.tape,ev.output,ev.size,λk g=>ev.keepRo k g⟩⟩
variable {t:TypeId}
theorem Qof{d:Nat}{v:AL}{fs:Array Field}(f:P.underlying t=AC (.struct fs))(h:Value.okWide P W .any d t v):∃cs,v=.agg cs:=by
 unfold Value.okWide at h
 grind
variable {g:Nat}
theorem QjV{q:Array AL}{T:Type}{e:T->AA A}{wf:T->Prop}{H:Type}{enc:TypeId×AL->H}{f:Nat->Bool}{held:Bool}{d:DataW H}{ps:AA MemPlace}
  (h:∀n,RB P n t T e wf)(F:DataW.Trod enc P W g f held t (.agg q) d ps){μ:DataW H->Nat}(hμ:dK μ)(j:μ d<=1048576):∃x:T,wf x/\VR (RW W) [] W (.agg (e x)) (.agg q):=by
 obtain⟨m,y⟩:=F;obtain⟨x,E,B,_⟩:=h (m+1) H enc W g f held m _ _ (Xn _) y μ hμ j;exact⟨x,E,q.toList,sq,B⟩
theorem Qmb{a:AB Addr}{len cap:Nat}{T:Type}{e:T->AA A}{wf:AA T->Prop}{H:Type}{enc:TypeId×AL->H}{f:Nat->Bool}{held:Bool}{d:DataW H}{ps:AA MemPlace}
  (h:∀n,RB P n t (AA T) (Qu k e) wf)(B:DataW.Trod enc P W g f held t (.slice a len cap) d ps){μ:DataW H->Nat}(hμ:dK μ)(j:μ d<=1048576):∃x:AA T,wf x/\VR (RW W) [] W (.rsl k (x.map e)) (.slice a len cap):=by
 obtain⟨m,q⟩:=B;obtain⟨x,y,⟨v,G,E,J,F⟩,_⟩:=h (m+1) H enc W g f held m _ _ (Xn _) q μ hμ j;refine⟨x,y,?_⟩;have:(Value.slice a len cap).cells.toList=[.slice a len cap]:=rfl
 grind
theorem QjS(h:W.ShapedOpen P){t u:Nat}{z:AL}(hg:Nat.blt g P.globals.size=AE)(F:(((begin P (λ_ _=>0) default).world.heap[g]?).bind Obj.row?)=AC (#[z],t))
  (H:P.buildable t=AE)(J:P.cellTypes P.depth t=AC [u])(G:P.underlying u=AC (.int .i64)):∃m:Int,W.cell? ⟨g,0,AF⟩=AC (.int .i64 m):=by
 obtain⟨f,M,L,B⟩:=h.1 g _ _ (by simp_all) F;obtain⟨N,q,_,y⟩:=B H;rw[J]at q;cases q;have O:f.size=1:=L;have j:f[0]?=AC f[0]:=sq;obtain⟨Q,x,d⟩:=y 0 _ j;simp at x;subst x;unfold Cell.ok at d;rw[G]at d;cases E:f[0]<;>rw[E]at d<;>simp at d
 simp_all[World.cell?]
theorem Qj1{S B:Type}{step:S->AB (CF S B)}(f:Nat->S)(b:B)(k:Nat)(y:∀i,i<k->step (f i)=AC (.k (f (i+1))))(h:step (f k)=AC (.d b)):∀n,k<n->iter step n (f 0)=AC b:=by
 have g:∀m i n,k-i=m->i<=k->m<n->iter step n (f i)=AC b:=by
  intro m
  induction m with
  |zero=>
   intro i n q j t;have:i=k:=om;subst this;obtain⟨d,rfl⟩:∃d,n=d+1:=⟨n-1,om⟩;simp[iter,h]
  |succ m x=>
   intro i n q j t;obtain⟨d,rfl⟩:∃d,n=d+1:=⟨n-1,om⟩
   grind[iter]
 grind
theorem Qot{S B:Type}{step:S->AB (CF S B)}(s0:S)(d:Nat->S)(b:B)(k:Nat)(g:d 0=s0)(h:∀i,i<k->step (d i)=AC (.k (d (i+1))))(f:step (d k)=AC (.d b))(n:Nat)(j:k<n):iter step n s0=AC b:=by
 rw[<- g];exact Qj1 d b k h f n j
variable {α:Type}
variable {l:AA α}
theorem QA{i:Nat}{x:α}(h:l[i]?=AC x):CI l i=AC x:=by
 grind[CI]
theorem lO(l:AA α)(x:α)(h:l.length<4294967296):app l [x]=AC (l++[x]):=by
 unfold app;have:Nat.ble (l.length+[x].length) YG=true:=by
  grind[Nat.ble_eq_true_of_le,YG]
 grind
theorem dy(l m:AA α)(h:l.length+m.length<=4294967296):app l m=AC (l++m):=by
 simp_all[app,YG,XR]
theorem QI{n:Int}(f: -9223372036854775808<=n)(d:n<=9223372036854775807):IntKind.i64.wrap n=n:=by
 grind[IntKind.wrap,IntKind.bits,IntKind.signed]
theorem YU{i:Nat}(h:i<9223372036854775807):IntKind.i64.wrap (i+1)=(i+1:Nat):=by
 rw[QI om om];omega
theorem JA{p:Prop}[Decidable p](h:p):AG p=true:=Vt h
theorem YO{p:Prop}[Decidable p](h:¬p):AG p=false:=Vw h
open Go.Proofs Go.Shelf
def cat(a b:AA UInt8):AB (AA UInt8):=bif Nat.ble (a.length+b.length) 4294967296 then AC (a++b)else AF
theorem L?{a b r:AA UInt8}(h:cat a b=AC r):a.length+b.length<=4294967296/\a++b=r:=by
 unfold cat at h;cases q:Nat.ble (a.length+b.length) 4294967296 with
 |true=>simp_all
 |false=>grind
def dY(s t:AA UInt8):AB Bool:=bif Nat.blt s.length 4294967281 then AC (Lib.contains s t)else AF
variable {l':AA α}
section
variable {P:AK} {o:AM} {env:Env} {H:Qc}
theorem tK{u:TypeId}{x y:Operand}{p q r:AA UInt8}(m:cat p q=AC r)(E:o.op=.binOp .add t x y u:=by rfl)(hx:CP env x=.str p:=by rfl)(hy:CP env y=.str q:=by rfl):CS P o env H (.str r):=by
 intro L F σ N a w rr;obtain⟨G,j⟩:=L? m;have d:=Qp rr x;rw[hx]at d;have g:=Qp rr y;rw[hy]at g;have B:a.eval x=.string ⟨p.toArray⟩:=d;have h:a.eval y=.string ⟨q.toArray⟩:=g;have J:(⟨p.toArray⟩:ByteArray)++⟨q.toArray⟩=⟨r.toArray⟩:=by
  rw[<- j];rfl
 refine⟨.string ⟨r.toArray⟩,?_,rfl⟩;have f:¬((⟨p.toArray⟩:ByteArray).size+(⟨q.toArray⟩:ByteArray).size>IntKind.i64.max):=by
  have:IntKind.i64.max=9223372036854775807:=by decide
  grind[ByteArray.size]
 simp_all[eqGuard,execOp,binOp_string_add,Op.stringOp]
def L0(n:Nat)(l:AA α)(i:Int):AB α:=bif Nat.beq l.length n then CI l i else AF
theorem S0{n:Nat}{i:Int}{x:α}(h:L0 n l i=AC x):l.length=n/\CI l i=AC x:=by
 grind[L0,Nat.eq_of_beq_eq_true]
def Nj(n:Nat)(l:AA α):AB (AA α):=bif Nat.beq l.length n then AC l else AF
theorem St{n:Nat}(h:Nj n l=AC l'):l.length=n/\l=l':=by
 grind[Nj,Nat.eq_of_beq_eq_true]
theorem lP{n:Nat}(h:Nj n l=AC l'):l'.length=n:=(St h).2▸(St h).1
section
variable {α:Type} {e:α->AA A} {t et k n b:Nat} {x y:Operand} {l:AA α}
theorem Zw{i:Int}{v:α}{kk:IntKind}(h:L0 n l i=AC v)(G:∀w,(underlying t).run P w=.ok (.array n et) w)(J:∀w,(sizeOf et).run P w=.ok k w)(L:Nat.ble 2 n=AE)
  (B:o.op=.indexAddr t x y:=by rfl)(hx:CP env x=.ptr b 0:=by rfl)(hy:CP env y=.int kk i:=by rfl):CS P o env H (.ptr b (i.toNat*k)):=by
 intro V T σ N a w r;obtain⟨R,M⟩:=S0 h;obtain⟨O,Q⟩:=Kj M;have q:i.toNat<l.length:=gq;have d:=Qp r x;rw[hx]at d;obtain⟨f,d,E⟩:=d;have m:=Qp r y;rw[hy]at m;have g:a.eval y=.int kk i:=m;refine⟨.pointer (AC ⟨f,i.toNat*k,AF⟩),?_,f,d,rfl⟩;have F:0<=i/\i<n:=om;have j:(⟨f,0,AF⟩:Addr).add (i.toNat*k)=⟨f,i.toNat*k,AF⟩:=by
  grind[Addr.add]
 generalize a.eval=ρ at*;simp[B,E,g,Instr.indexAt,G,J,F,go_sem]
theorem qB{d:AA A}(hH:H[b]?=AC (.row t k (l.map e)):=by rfl)(hcs:(l.map e).flatten=d:=by rfl):Df H (.ptr b 0) d:=by
 intro B x σ w v s h;obtain⟨m,j,f⟩:=h;obtain⟨y,g,q⟩:=s.blk b _ _ j hH;refine⟨m,0,f,?_⟩;have:=(RR.flat (YT (pre:=[]) (by simpa using g) q)).1;subst hcs;exact this.lift
theorem rz(d:∀x,(e x).length=k)(L:AA α):(L.map e).flatten.length=L.length*k:=by
 induction L with
 |nil=>simp
 |cons c L ih=>grind
theorem Qjy{l':AA α}(h:Nj n l=AC l')(j:∀x,(e x).length=k)(d:n*k=g)(q:∀w,(isAgg t).run P w=.ok AE w)(B:∀w,(sizeOf t).run P w=.ok g w)
  (m:o.op=.load t x:=by rfl)(hx:CP env x=.ptr b 0:=by rfl)(hH:H[b]?=AC (.row T k (l.map e)):=by rfl):CS P o env H (.agg (l'.map e).flatten):=by
 obtain⟨y,rfl⟩:=St h;have f:=rz j l;rw[y,d]at f;exact Qt m q B hx (qB hH rfl) gq f
theorem QmY{r:Nat}{n2:Nat}(q:l.length=n)(d:∀x,(e x).length=k)(h:n*k=n2)(j:∀w,(isAgg t).run P w=.ok AE w)(f:∀w,(sizeOf t).run P w=.ok n2 w)
  (g:lk env r=.ptr b 0:=by rfl)(hH:H[b]?=AC (.row T k (l.map e)):=by rfl):D2 P env H (.cell r t) (.agg (l.map e).flatten):=by
 have m:=rz d l;have:=uP j f (qB hH rfl) g gq
 grind
theorem rB{c:AA A}{k:Nat}(h:c.length=k):∀n,allK k (List.replicate n c)
 |0=>trivial
 |n+1=>⟨h,rB h n⟩
theorem uo{vs:Array AL}{z:α}(E:∀w,(zeroValue t).run P w=.ok (.agg vs) w)(B:(YZ (List.replicate n (e z)).flatten).toArray=vs)(q:L2 (List.replicate n (e z)).flatten=AE)(h:(List.replicate n (e z)).flatten.all Yu=AE)(m:Nat.beq (e z).length k=AE)
  (x:o.op=.alloc t:=by rfl):E_ P o env H (.ptr H.length 0) (H++[.row t k ((List.replicate n z).map e)]):=by
 intro F g σ N a w r;have f:LR g [] w (List.replicate n (e z)).flatten (YZ (List.replicate n (e z)).flatten):=lp q;have d:=r.sim.allocRow (t:=t) (rest:=[]) (rB (XP m) n) f (f.plain h);rw[Vg]at d;have j:(List.replicate n z).map e=List.replicate n (e z):=List.map_replicate;refine⟨.pointer (AC ⟨w.heap.size,0,AF⟩),w.alloc (.cells (YZ (List.replicate n (e z)).flatten).toArray t),g,[AC w.heap.size],?_,⟨w.heap.size,?_,rfl⟩,j▸d,Ql.alloc _ r.sim.roLt r.sim.frLt⟩
 .have y:(newVar t (.agg vs)).run P w=.ok ⟨w.heap.size,0,AF⟩ (w.alloc (.cells vs t)):=rfl
  simp_all[execOp,Instr.alloc]
 .rw[<- r.sim.len];simp
theorem uq{n2:Nat}{l':AA α}{vs:AA A}(h:l.length=n)(h':l'.length=n)(hk:∀x,(e x).length=k)(M:n*k=n2)(hs:∀w,(sizeOf t).run P w=.ok n2 w)
  (hp:∀x,(e x).all Yu=AE)(hd:∀x,YK (e x)=AE)(R:(l'.map e).flatten=vs)
  (ho:o.op=.store t x y:=by rfl)(Q:CP env x=.ptr b 0:=by rfl)(hH:H[b]?=AC (.row T k (l.map e)):=by rfl)(F:CP env y=.agg vs:=by rfl):
  I6 P o env H (H.set b (.row T k (l'.map e))):=by
 intro fr ro σ N a w r;subst R;have j:=Qp r x;rw[Q]at j;obtain⟨bb,j,h2⟩:=j;have h3:=Qp r y;rw[F]at h3;obtain⟨m,h4,q⟩:=h3;obtain⟨W,X,q2⟩:=r.sim.blk b _ _ j hH;have V:∀(L:AA α),allK k (L.map e):=by
  intro L
  induction L with
  |nil=>trivial
  |cons c L B=>exact⟨hk c,B⟩
 have G:(l'.map e).flatten.length=n2:=by grind[Y1]
 have hm:m.length=n2:=by rw[q.length,G]
 have f:∀L:AA α,(L.map e).flatten.all Yu=true:=by
  grind
 have E:∀g ds:AA A,YK g=AE->YK ds=AE->YK (g++ds)=true:=by
  intro g
  induction g with
  |nil=>simp
  |cons c g B=>
   simp_all[YK]
 have O:∀L:AA α,YK (L.map e).flatten=true:=by
  intro L
  induction L with
  |nil=>rfl
  |cons c L B=>exact E _ _ (hd c) B
 have hlen:=by
  have:=q2.length;rw[X0,h,M]at this;exact this
 have Y:=YC (P:=P) (vs:=m) 0 0 X om (q.plain (f l'));have aa:splice W 0 m=m++W.drop n2:=by unfold splice;simp[hm]
 have d:=r.sim.set (x':=.row T k (l'.map e)) (obj:=.cells (splice W 0 m).toArray T (0,0)) j hH rfl
  (λy F=>JF X (YB om) y F)
  (λex J=>by
   have Q:=(q.data (O l')).mono ex.nil;exact⟨_,J,Jh (V l') Q (q.plain (f l'))⟩)
 refine⟨_,ro,[],?_,by simpa using d.1,d.2⟩
 simp_all[Value.cells,storeVar,execOp,Instr.storeAt,Instr.sureAddr]
end
end
theorem C.contains{ρ:Ren}(L:Lays.n144 P ρ)(hg:ρ.g 1=ZG){s t:AA UInt8}{r:Bool}(h:dY s t=AC r):C P (ρ.f 144) [.str s,.str t] [] (λa H=>a=.bool r/\H=[]):=by
 unfold dY at h;cases q:Nat.blt s.length 4294967281 with
 |false=>grind
 |true=>
  rw[q]at h;obtain rfl:=XY h;intro N j σ vals w sim hv;obtain⟨M,G,rfl,y,J,d,rfl,x,B⟩:=hv;cases(show d=[]from B);obtain⟨m,E⟩:=sim.roOk.gp.max;have e1:=y;have e2:=x;subst e1 e2;have hs:=by simpa using q
  refine(Any.strings_Contains L ⟨s.toArray⟩ ⟨t.toArray⟩ m w (by simpa[ByteArray.size]using hs) gq).mono ?_;rintro e F ⟨rfl,rfl⟩;exact⟨_,_,_,j,[],rfl,⟨rfl,rfl⟩,gq,rfl,Ql.refl _ _ _⟩
section
variable {P:AK} {o:AM} {env:Env} {H:Qc} {fr ro:Nat->Prop} {σ:Ce} {w:AJ}
theorem CZ.touch(s:CZ fr ro σ H w){b:Nat}{obj:Obj}(L:¬ro b)(G:¬fr b)(M:∀(i:Nat) (x:CW),σ[i]?=AC (AC b)->H[i]?=AC x->x.live=AE->False)
  (E:∀(i d:Nat) (x:CW),σ[i]?=AC (AC d)->H[i]?=AC x->Dq w x d b->False)
  (F:∀y,w.shape? b=AC y->{w with heap:=w.heap.setIfInBounds b obj}.shape? b=AC y):
  CZ fr ro σ H {w with heap:=w.heap.setIfInBounds b obj}/\Ql fr ro w ro {w with heap:=w.heap.setIfInBounds b obj}:=by
 have f:{w with heap:=w.heap.setIfInBounds b obj}.heap.size=w.heap.size:=sq;have ev:Ql fr ro w ro {w with heap:=w.heap.setIfInBounds b obj}:=
  ⟨λ_ h=>h,gq,gq,om,by
   grind[World.shape?],rfl,rfl,rfl,XS _⟩
 refine⟨⟨s.len,s.roOk.to (λ_ q=>q) ev.keepRo (λc h=>by rw[f];exact s.roLt c h),λc h=>by rw[f];exact s.frLt c h,s.roFr,?_,s.inj,?_,s.hidTo (· = ·) Yq om sq sq λj d y B t N=>.inl ⟨j,y,rfl,B,t,id,λc q=>s.hidKeep B t gq ev.keepRo q⟩⟩,ev⟩
 .intro i c x m g J;rw[f];exact s.own i c x m g J
 .intro i y x m g;refine(s.blk i y x m g).keep (ev.ext0 σ) ?_ ?_
  .grind
  grind
theorem Qm9{E i n t:Nat}{x:Operand}{es:AA (AA A)}(ht:P.underlying T=AC (.slice E))(hE:P.underlying E=AC (.int .u8))(hn:es.length=n)(h0:Nat.blt 0 n=AE)
  (ho:o.op=.convert T T x:=by rfl)(hx:CP env x=.osl i 0 n 1:=by rfl)(hH:H[i]?=AC (.row t 1 es):=by rfl):
  E_ P o env H (.rsl 1 es) (H.set i .dead):=by
 intro fr V σ N a w r;subst hn;have G:=Qp r x;rw[hx]at G;rcases G with⟨hz,_⟩|⟨b,p,O,t',m,G,h2,h6,⟨h3,ab⟩,h4,h5⟩
 .simp_all
 .have aa:0<es.length:=by simp_all
  obtain rfl:=h6 om;obtain⟨hb,M,h⟩:=r.sim.own i b _ G hH rfl;obtain⟨l,q1,q2⟩:=r.sim.blk i _ _ G hH;have s1:=r.sim.kill i;have g:∀(j:Nat) (y:CW),σ[j]?=AC (AC b)->(H.set i .dead)[j]?=AC y->y.live=AE->False:=by
   intro j y J f L;by_cases q:j=i
   .subst q;rw[Xb]at f;simp only[if_true]at f
    grind[CW.live]
   .rw[XO (λz=>q z.symm)]at f;exact q (r.sim.inj j i b y _ J G f hH L rfl)
  have R:∀(j d:Nat) (y:CW),σ[j]?=AC (AC d)->(H.set i .dead)[j]?=AC y->Dq w y d b->False:=by
   intro j d y J f L;by_cases q:j=i
   .subst q;rw[Xb]at f;simp only[if_true]at f;split at f
    .cases f;exact L.elim
    .simp at f
   .rw[XO (λz=>q z.symm)]at f;exact(r.sim.hid j d y b J f L).ne i b _ G hH rfl rfl
  let fz:Nat×Nat:=(l.length,l.length+1)
  have Y:∀y,w.shape? b=AC y->({w with heap:=w.heap.setIfInBounds b (.cells l.toArray t fz)}:AJ).shape? b=AC y:=by
   simp_all[World.shape?]
  obtain⟨s2,F⟩:=s1.touch (obj:=.cells l.toArray t fz) M h g R Y;have s3:=s2.addRo (b:=b) gq h g (λj d y J f L=>R j d y J f (s1.hidKeep J f gq F.keepRo L));have B:({w with heap:=w.heap.setIfInBounds b (.cells l.toArray t fz)}:AJ).heap[b]?=AC (.cells (([]:AA AL)++l).toArray t fz):=by
   grind
  have Q:DR V [] w V [] {w with heap:=w.heap.setIfInBounds b (.cells l.toArray t fz)}:=F.ext0 [];refine⟨.slice (AC ⟨b,0*1,AF⟩) es.length O,_,λc=>V c\/c=b,[],?_,?_,gq,F.trans (Yf λ_ q=>.inl q)⟩
  .have hf:w.freeze ⟨b,l.length,AF⟩ 1={w with heap:=w.heap.setIfInBounds b (.cells l.toArray t fz)}:=by
    unfold World.freeze;simp only[Nat.one_ne_zero,if_false];rw[mj q1];rfl
   have W:(markStringish ⟨b,0*1,AF⟩).run P w=.ok () {w with heap:=w.heap.setIfInBounds b (.cells l.toArray t fz)}:=by
    simp_all[markStringish,World.shape?]
   have hu:∀w,(underlying T).run P w=.ok (.slice E) w:=run_underlying ht;have X:∀w,(underlying E).run P w=.ok (.int .u8) w:=run_underlying hE;generalize a.eval=ρ at*;simp only[execOp,ho,h2,convert,Vm,hu,X,Result.andThen,beq_self_eq_true,W,Vn]
  .refine⟨AC ⟨b,0*1,AF⟩,O,rfl,h3,.inr ⟨b,0*1,rfl,.inr rfl,?_⟩⟩;have:=YT (pre:=[]) B (q2.mono Q);exact(by omega:RR V [] _ b 1 es (0*1)).keep ⟨λ_ q=>.inl q,λ_ _=>rfl,λ_ _ q=>q,λ_ _ q=>q⟩ rfl
end
mutual
theorem mo(ρ:Nat->Nat):∀{a:A},YL a=AE->Y0 ρ a=a
 |.any,_=>rfl
 |.bool _,_=>rfl
 |.int _ _,_=>rfl
 |.str _,_=>rfl
 |.nilp,_=>rfl
 |.ptr _ _,h=>by simp[YL]at h
 |.rp _,_=>rfl
 |.nils,_=>rfl
 |.rsl _ _,_=>rfl
 |.osl _ _ _ _,h=>by simp[YL]at h
 |.agg cs,h=>by simp only[YL]at h;simp only[Y0,S4 ρ h]
 |.fn f a c,h=>by simp only[YL,XV]at h;simp only[Y0,S4 ρ h.1,S4 ρ h.2]
 |.nilf,_=>rfl
 |.iface t a,h=>by simp only[YL]at h;simp only[Y0,mo ρ h]
 |.nilif,_=>rfl
 |.map _,h=>by simp[YL]at h
 |.nilm,_=>rfl
 |.tup vs,h=>by simp only[YL]at h;simp only[Y0,S4 ρ h]
theorem S4(ρ:Nat->Nat):∀{l:AA A},YK l=AE->JJ ρ l=l
 |[],_=>rfl
 |a::l,h=>by simp only[YK,XV]at h;simp only[JJ,mo ρ h.1,S4 ρ h.2]
end
theorem tQ{α:Type}{e:α->AA A}(d:∀x,YK (e x)=AE):∀L:AA α,YK (L.map e).flatten=AE
 |[]=>rfl
 |c::L=>by
  have hdt:∀cs ds,YK cs=AE->YK ds=AE->YK (cs++ds)=true:=by
   intro cs
   induction cs with
   |nil=>simp
   |cons c cs f=>
    simp_all[YK]
  exact hdt _ _ (d c) (tQ d L)
theorem Qqm{e:α->AA A}(hd:∀x,YK (e x)=AE)(ρ:Nat->Nat)(l:AA α):Y0 ρ (.agg (l.map e).flatten)=.agg (l.map e).flatten:=
 mo ρ (by exact tQ hd l)
end
section
variable {T:Nat}
section
variable {P:AK} {o:AM} {env:Env} {H:Qc}
theorem gy{c:Call}{f:Nat}{x:Operand}{xs:AA Operand}{j:Array TypeId}{d:String}{v:A}{args:AA A}(h:∀(a:Array AL) (w:AJ),(callFunc f a).run P w=.ok (.enter f a) w)(y:o.op=.call c)
  (E:c={callee:=.invoke x d,args:=xs.toArray,argTypes:=j})(q:CP env x=.iface T v)(hargs:v::xs.map (CP env)=args)
  (t:∀(u:AL) (w:AJ),(method (P.types.size+Made.depth) T u d).run P w=.ok (f,u) w):C6 P o env H f args:=by
 intro F B σ N a w r;have g:=Qp r x;rw[q]at g;obtain⟨u,g,m⟩:=g;refine⟨u::xs.map a.eval,?_,hargs▸⟨u,xs.map a.eval,rfl,m,Zl r xs⟩⟩
 simp_all[VH,callMethod,execOp,resolve,invoke]
theorem Sz{I:Nat}{x:Operand}{v:A}{d:TypeDesc}(j:∀w,(underlying T).run P w=.ok d w)(h:∀m,d≠ .interface m)(q:o.op=.typeAssert x I T true:=by rfl)(hx:CP env x=.iface T v:=by rfl):
  CS P o env H (.tup [v,.bool AE]):=by
 intro y t σ N a w r;have f:=Qp r x;rw[hx]at f;obtain⟨u,f,g⟩:=f;refine⟨.tuple #[u,.bool AE],?_,[u,.bool AE],rfl,_,_,rfl,g,_,_,rfl,rfl,rfl⟩
 simp_all[execOp,Instr.typeAssert]
theorem li{T' I:Nat}{x:Operand}{v z:A}{zv:AL}{d:TypeDesc}(F:∀w,(underlying T).run P w=.ok d w)(j:∀m,d≠ .interface m)(h:Nat.beq T' T=AD)(E:∀w,(zeroValue T).run P w=.ok zv w)(f:ZR z zv)
  (t:o.op=.typeAssert x I T true:=by rfl)(hx:CP env x=.iface T' v:=by rfl):
  CS P o env H (.tup [z,.bool AD]):=by
 intro J B σ N a w r;have g:=Qp r x;rw[hx]at g;obtain⟨u,g,y⟩:=g;have G:T'≠T:=λq=>by simp_all
 refine⟨.tuple #[zv,.bool AD],?_,[zv,.bool AD],rfl,_,_,rfl,f _ _ _,_,_,rfl,rfl,rfl⟩
 simp_all[execOp,Instr.typeAssert]
end
def TL(P:AK)(h0 N:Nat)(c:Code)(env:Env)(H:Qc)(Q:Qy):Prop:=
 ∀rd fr ro σ a w,DN fr ro σ H env N a w->KP rd fr w->∀(b:Frame) (k:AA Item) (cs:AA Frame),b.roundOf=(WF rd).round->(WF rd).fn b.fn->(WF rd).room (cs.length+1+0)->∃e a' w',H9 h0 fr ro σ w N a.defers Q e a' w'/\ArrivesIn (Machine.fenced P (WF rd)) P (lone (b.atR a (.code c::.inLoop c::k)) cs w) b k cs e a' w'
def Sl(P:AK)(h0 N:Nat)(c:Code)(Q:Qy):Qy
 |.normal,env,H=>TL P h0 N c env H Q
 |.exit id,env,H=>Q (.exit id) env H
 |.ret,env,H=>Q .ret env H
section
variable {P:AK} {h0 N:Nat} {c:Code} {env:Env} {H:Qc} {Q:Qy}
theorem Qpp(h:TL P h0 N c env H Q):TC P h0 N (.loop c) env H Q:=by
 intro t q m σ a w r hrd b k cs hro hb hr;obtain⟨e,j,g,f,d⟩:=h t q m σ a w r hrd b k cs hro hb hr;exact⟨e,j,g,f,.of_steps (.one (fenced_calm hb hr rfl) stepR_loop) d⟩
theorem TL.round(h:TC P h0 N c env H (Sl P h0 N c Q)):TL P h0 N c env H Q:=by
 intro M T L σ a w r hrd b k cs hro hb hr;obtain⟨e,y,t,W,d⟩:=h M T L σ a w r hrd b (.inLoop c::k) cs hro hb hr;obtain⟨x,f,H',j,σ',m,B,G,O,F,R,E⟩:=W;have V:∀x,Q x f H'->Rq e x->H9 h0 T L σ w N a.defers Q e y t:=λx q q'=>⟨x,f,H',j,σ',m,q',q,O,F,R,E⟩;cases e with
 |normal=>
  obtain rfl:x=.normal:=B;obtain⟨X,Y,w2,J,g⟩:=G M m j σ' y t O (hrd.to F E.sub) b k cs hro hb hr;exact⟨X,Y,w2,J.grow F R E,.of_steps (StepsIn.trans d (.one (fenced_calm hb hr rfl) stepR_inLoop)) g⟩
 |exit id=>
  obtain rfl:x=.exit id:=B;exact⟨_,y,t,V _ G rfl,.pass rfl sq d⟩
 |ret=>
  obtain rfl:x=.ret:=B;exact⟨_,y,t,V _ G rfl,.pass rfl sq d⟩
 |_=>exact B.elim
theorem i_(h:TC P h0 N c env H (Sl P h0 N c Q)):Sl P h0 N c Q .normal env H:=TL.round h
theorem i8{id:Nat}(h:Q (.exit id) env H):Sl P h0 N c Q (.exit id) env H:=h
theorem i9(h:Q .ret env H):Sl P h0 N c Q .ret env H:=h
theorem QmV(h:TC P h0 N c env H (Sl P h0 N c Q)):TC P h0 N (.loop c) env H Q:=Qpp (TL.round h)
end
variable {k:Nat}
section
variable {P:AK} {o:AM} {env:Env} {H:Qc}
theorem CS.ixL{t d b n j:Nat}{x y:Operand}{kk:IntKind}{i:Int}(m:Nat.blt j n=AE)(hi:i=j)(f:∀w,(underlying t).run P w=.ok (.slice d) w)(h:∀w,(sizeOf d).run P w=.ok k w)
  (g:o.op=.indexAddr t x y:=by rfl)(hx:CP env x=.osl b 0 n k:=by rfl)(hy:CP env y=.int kk i:=by rfl):CS P o env H (.ptr b (j*k)):=by
 have q:=qA (H:=H) g f h hx hy om (by simp_all)
 grind
end
theorem uK{ro:Nat->Prop}{σ:Ce}{w:AJ}{k:Nat}:∀{es:AA (AA A)} {l l':AA AL},RL ro σ w k es l->l.take (es.length*k)=l'.take (es.length*k)->RL ro σ w k es l'
 |[],_,_,_,_=>trivial
 |c::es,l,l',h,hp=>by
  obtain⟨l1,l2,rfl,h1,h2,h3⟩:=h;have hl1:l1.length=k:=by rw[h2.1.length];exact h1
  have d:l'.take k=l1:=by
   have:=congrArg (List.take k) hp
   grind[Nat.succ_mul]
  refine⟨l1,l'.drop k,by rw[<- d,Xy],h1,h2,uK h3 ?_⟩;have:=congrArg (List.drop k) hp
  grind[Nat.succ_mul]
section
variable {P:AK} {o:AM} {env:Env} {H:Qc}
theorem Qgu{c:Call}{et b s n t:Nat}{x:Operand}{es g:AA (AA A)}{z:AL}(ht:P.underlying T=AC (.slice et))(hz:∀w,(zeroValue et).run P w=.ok z w)(J:z.cells.size=k)(ad:∀v∈z.cells,QC v)
  (M:es.take s=g)(hb:s+n=es.length)(ho:o.op=.call c:=by rfl)(hc:c={callee:=.builtin .clear,args:= #[x],argTypes:= #[T]}:=by rfl)
  (hx:CP env x=.osl b s n k:=by rfl)(hH:H[b]?=AC (.row t k es):=by rfl):E_ P o env H (.tup []) (H.set b (.row t k g)):=by
 intro G j σ N a w r;subst M hc;have hu:∀w,(underlying T).run P w=.ok (.slice et) w:=run_underlying ht;have f:=Qp r x;rw[hx]at f;have R:CZ G j σ (H.set b (.row t k (es.take s))) w:=by
  refine r.sim.weaken hH rfl ?_;intro y q;cases y with
  |none=>rw[show es=[]from q];simp[BR]
  |some E=>obtain⟨l,g1,g2⟩:=q;exact⟨l,g1,RL.take s g2⟩
 have B:∀v,a.eval x=v->(Builtin.clear_ #[T] o.type #[v]).run P w=.ok (.tuple #[]) w->
   ∃v w' ro' τ,(execOp a.eval o).run P w=.ok (.value v) w'/\VR ro' (σ++τ) w' (.tup []) v/\CZ G ro' (σ++τ) (H.set b (.row t k (es.take s))) w'/\Ql G j w ro' w':=by
  intro v O d;refine⟨.tuple #[],w,j,[],?_,⟨[],rfl,rfl⟩,gq,Ql.refl _ _ _⟩
  simp_all[execOp,resolve,invoke,builtin]
 rcases f with⟨hn,f⟩|⟨E,p,F,t',m,f,h2,h3,⟨h4,ae⟩,h5,h6⟩
 .simp_all[Builtin.clear_]
 .by_cases hn:n=0
  .simp_all[Builtin.clear_]
  .obtain rfl:=h3 om;obtain⟨l,X,q2⟩:=r.sim.blk b _ _ f hH;have aa:=q2.length
   let vs:=(Builtin.zeroCells z.cells n).toList
   have ac:vs.length=n*k:=by simp[vs,Builtin.zeroCells,J]
   have Q:∀v∈vs,QC v:=by
    intro v O;simp only[vs,Builtin.zeroCells,Array.toList_map,Xe,Array.toList_range,List.mem_range]at O;obtain⟨i,hi,rfl⟩:=O;have Y:0<z.cells.size:=by
     grind
    grind[Nat.mod_lt]
   have ab:s*k+n*k=es.length*k:=gq;have d:=YC (P:=P) (vs:=vs) (s*k) 0 X om Q;have h:=r.sim.set (x':=.row t k (es.take s)) (obj:=.cells (splice l (s*k) vs).toArray t (0,0)) f hH rfl
    (λy q=>JF X (YB om) y q)
    (λex L=>⟨_,L,by
     refine(uK (RL.take s q2) ?_).mono ex.nil
     grind[splice]⟩)
   refine⟨.tuple #[],_,j,[],?_,⟨[],rfl,rfl⟩,gq,h.2⟩;have V:(Builtin.clear_ #[T] o.type #[.slice (AC ⟨E,s*k,AF⟩) n F]).run P w=.ok (.tuple #[]) {w with heap:=w.heap.setIfInBounds E (.cells (splice l (s*k) vs).toArray t (0,0))}:=by
    obtain⟨W,rfl⟩:∃W,n=W+1:=⟨n-1,om⟩;simp only[Xw]at d;simp only[Builtin.clear_,XF,XD,Vm,hu,hz,Result.andThen,d,Vn,vs]
   generalize a.eval=ρ at*;simp only[execOp,ho,resolve,Vm,Vn,Result.andThen,invoke,builtin,XH,Vj,Vk,h2,V]
end
variable {α:Type}
def isNil{R:Type}[DecidableEq R](l:AA α)(x y:AB R):AB R:=bif l.isEmpty then(bif x=y then x else AF)else y
variable {l:AA α}
theorem sB{R:Type}[DecidableEq R]{x y:AB R}{r:R}(h:isNil l x y=AC r)(b:Bool)(d:l≠[]->b=AD):(b=AE->x=AC r)/\(b=AD->y=AC r):=by
 unfold isNil at h
 grind
section
variable {P:AK} {o:AM} {env:Env} {H:Qc} {h0 N:Nat} {Q:Qy}
theorem Qna{e:α->AA A}{E:Nat}{u:TypeId}{x:Operand}(B:P.underlying T=AC (.slice E))(q:o.op=.binOp .eql T x (.const (.slice AF 0 0)) u)(j:CP env x=.rsl k (l.map e)):
  S8 P o env H (λv H'=>∃b:Bool,v=.bool b/\(l≠[]->b=AD)/\H'=H):=by
 intro G g σ N a w r;have d:=Qp r x;rw[j]at d;obtain⟨f,h,d,y,F⟩:=d;refine⟨.bool f.isNone,H,.bool f.isNone,w,g,[],⟨f.isNone,rfl,λt=>?_,rfl⟩,?_,rfl,by simpa using r.sim,Ql.refl _ _ _⟩
 .grind
 .have m:a.eval (.const (.slice AF 0 0))=.slice AF 0 0:=rfl
  grind[eqGuard,execOp,Sem.run_bind,Result.andThen,Go.run_eql_slice_nil,Sem.run_pure]
theorem Qpl{e:α->AA A}{E d:Nat}{u:TypeId}{x:Operand}{all:Array AM}{L:AA AM}(f:P.underlying T=AC (.slice E))(h:CP env x=.rsl k (l.map e))
  (j:∀b,(l≠[]->b=AD)->WO P h0 N all L (up env d (.bool b)) H Q)
  (g:o.op=.binOp .eql T x (.const (.slice AF 0 0)) u:=by rfl)(hg:Qz all o env true:=by rfl)(hd:o.dst=AC d:=by rfl)(hN:Nat.blt d N=true:=by rfl)(hh:Nat.ble h0 H.length=true:=by rfl):WO P h0 N all (o::L) env H Q:=by
 refine gw (by simp_all) hg hd hN (Qna f g h) ?_
 grind
end
theorem NP{x:AA α}{i:Int}(h:Dm l 0 i=AC x):0<=i/\i.toNat<=l.length/\l.take i.toNat=x/\x.length=i.toNat:=by
 obtain⟨_,d,f,g⟩:=Sy h
 grind
section
variable {P:AK} {o:AM} {env:Env} {H:Qc} {α:Type} {e:α->AA A} {T et k b t:Nat} {x y:Operand} {l l':AA α} {i:Int}
theorem Qkr(h:Dm l 0 i=AC l')(E1:∀w,(underlying T).run P w=.ok (.slice et) w)(E2:∀w,(sizeOf et).run P w=.ok k w)(f:o.op=.slice T x (AC y) AF none:=by rfl)
  (hx:CP env x=.osl b 0 l.length k:=by rfl)(hy:CP env y=.int .i64 i:=by rfl):CS P o env H (.osl b (0+i.toNat) (l.length-i.toNat) k):=by
 obtain⟨g,d,_,_⟩:=NP h;exact lq E1 E2 f hx gq (.inl ⟨rfl,rfl⟩) d (XS _)
theorem Qks(h:Dm l 0 i=AC l')(E1:∀w,(underlying T).run P w=.ok (.slice et) w)(E2:∀w,(sizeOf et).run P w=.ok k w)(f:o.op=.slice T x AF (AC y) none:=by rfl)
  (hx:CP env x=.osl b 0 l.length k:=by rfl)(hy:CP env y=.int .i64 i:=by rfl):CS P o env H (.osl b 0 l'.length k):=by
 obtain⟨g,d,_,j⟩:=NP h;have:=lq (H:=H) E1 E2 f hx (.inl ⟨rfl,rfl⟩) gq (XT _) d
 grind
theorem Qku{c:Call}{z:AL}(h:Dm l 0 i=AC l')(j:P.underlying T=AC (.slice et))(q:∀w,(zeroValue et).run P w=.ok z w)(d:z.cells.size=k)(f:∀v∈z.cells,QC v)(g:o.op=.call c:=by rfl)(hc:c={callee:=.builtin .clear,args:= #[x],argTypes:= #[T]}:=by rfl)
  (hx:CP env x=.osl b (0+i.toNat) (l.length-i.toNat) k:=by rfl)(hH:H[b]?=AC (.row t k (l.map e)):=by rfl):E_ P o env H (.tup []) (H.set b (.row t k (l'.map e))):=by
 obtain⟨E,y,m,B⟩:=NP h;refine Qgu j q d f ?_ ?_ g hc hx hH
 .rw[Xv, <- m,List.map_take]
 grind
end
open Go.Sort Go.Proofs Go.Shelf
theorem lj{ro:Nat->Prop}{σ:Ce}{w:AJ}:∀{l:AA Int} {lv:AA AL},RL ro σ w 1 (l.map λx=>[A.int .i64 x]) lv->∃rest,lv=l.map (Value.int .i64)++rest
 |[],lv,_=>⟨lv,rfl⟩
 |x::l,lv,h=>by
  obtain⟨l1,l2,rfl,h1,⟨h2,h3⟩,h4⟩:=h;obtain⟨rest,rfl⟩:=lj h4;obtain⟨v,r,rfl,hv,hr⟩:=h2;cases(show r=[]from hr);exact⟨rest,by rw[show v=.int .i64 x from hv];simp⟩
section
variable {P:AK} {o:AM} {env:Env} {H:Qc} {α:Type} {e:α->AA A} {T et k b t:Nat} {x y:Operand}
theorem QP{lo hi:AB Operand}{l r:AA α}{a c:Int}(h:Dm l a c=AC r)(E1:∀w,(underlying T).run P w=.ok (.slice et) w)(E2:∀w,(sizeOf et).run P w=.ok k w)
  (f:lo=AF/\a=0\/ ∃y,lo=AC y/\CP env y=.int .i64 a)(g:hi=AF/\c=l.length\/ ∃y,hi=AC y/\CP env y=.int .i64 c)
  (d:o.op=.slice T x lo hi none:=by rfl)(hx:CP env x=.osl b 0 l.length k:=by rfl):CS P o env H (.osl b (0+a.toNat) (c.toNat-a.toNat) k):=by
 obtain⟨m,j,q,_⟩:=Sy h;refine lq E1 E2 d hx ?_ ?_ om om
 .grind
 grind
theorem LV{l r:AA α}{a c:Int}(h:Dm l a c=AC r)(hH:H[b]?=AC (.row t k (l.map e)):=by rfl):Ht P H (.osl b (0+a.toNat) (c.toNat-a.toNat) k) k (r.map e):=by
 obtain⟨j,f,g,d⟩:=Sy h;refine Ht.osl hH ?_ gq;rw[<- d, <- List.map_drop, <- List.map_take,Xv,List.drop_take]
theorem dw{c:Call}{T' et et' i:Nat}{x y:Operand}{d:A}{l l' m r:AA α}{z:Int}(j:Dm l 0 z=AC l')(h:app l' m=AC r)(E:ElemTy P T et k)(f:∀w,(underlying T').run P w=.ok (.slice et') w)(t:Ht P H d k (m.map e))
  (g:o.op=.call c:=by rfl)(hc:c={callee:=.builtin .append,args:= #[x,y],argTypes:= #[T,T']}:=by rfl)(hx:CP env x=.osl i (0+Int.toNat 0) (z.toNat-Int.toNat 0) k:=by rfl)
  (hH:H[i]?=AC (.row et k (l.map e)):=by rfl)(hy:CP env y=d:=by rfl):
  E_ P o env H (.osl H.length 0 r.length k) (H.set i .dead++[.row et k (r.map e)]):=by
 obtain⟨F,rfl⟩:=kl h;obtain⟨B,J,q,G⟩:=NP j;have:=uN (n:=z.toNat) (gs:=(l'++m).map e) E f g hc hx hH gq hy t gq (by rw[<- List.map_take,q,Xf])
 grind
end
end
section
inductive Bx where
 |mk (a:A)
def R_:Env->Nat->Bx
 |[],_=>.mk .any
 |(d,a)::r,s=>bif Nat.beq s d then .mk a else R_ r s
theorem lB:∀{env:Env} {s:Nat} {a:A},R_ env s=.mk a->lk env s=a
 |[],s,a,h=>by cases h;rfl
 |(d,b)::r,s,a,h=>by
  unfold R_ at h;unfold lk;cases q:Nat.beq s d with
  |true=>grind
  |false=>rw[q]at h;exact lB h
inductive FBy where
 |mk (l:List UInt8)
def bV:AA UInt8->FBy
 |[]=>.mk []
 |a::r=>match bV r with
  |.mk r'=>.mk (a::r')
theorem pd:∀l,bV l=.mk l
 |[]=>rfl
 |a::r=>by unfold bV;rw[pd r]
def DQ(env:Env):Operand->Bx
 |.tmp t=>R_ env t
 |.const (.bool b)=>.mk (.bool b)
 |.const (.int k n)=>.mk (.int k n)
 |.const (.string s)=>match bV s.data.toList with
  |.mk l=>.mk (.str l)
 |.const (.pointer AF)=>.mk .nilp
 |.const (.slice AF 0 0)=>.mk .nils
 |.const (.map AF)=>.mk .nilm
 |.const .nilFunc=>.mk .nilf
 |.const .nilIface=>.mk .nilif
 |.func f=>.mk (.fn (.func f) [] [])
 |_=>.mk .any
theorem Q2{env:Env}{x:Operand}{a:A}(h:DQ env x=.mk a):CP env x=a:=by
 cases x with
 |tmp t=>exact lB h
 |const v=>
  cases v with
  |slice b n k=>cases b with
   |none=>cases n with
    |zero=>cases k<;>(cases h;rfl)
    |succ n=>cases h;rfl
   |some b=>cases h;rfl
  |pointer p=>cases p<;>(cases h;rfl)
  |map p=>cases p<;>(cases h;rfl)
  |string s=>
   have d:(match bV s.data.toList with|.mk l=>Bx.mk (.str l))=.mk a:=h;rw[pd]at d;cases d;rfl
  |_=>cases h;rfl
 |global g=>cases h;rfl
 |func f=>cases h;rfl
def YJ{α:Type}:AA α->Nat->AB α
 |[],_=>AF
 |a::_,0=>AC a
 |_::r,n+1=>YJ r n
theorem M9{α:Type}:∀(l:AA α) (n:Nat),YJ l n=l[n]?
 |[],n=>by simp[YJ]
 |a::r,0=>rfl
 |a::r,n+1=>by simp[YJ,M9 r n]
def oi:BinOp->IntKind->Int->Int->AB A
 |.add,k,m,n=>AC (.int k (k.wrap (m+n)))
 |.sub,k,m,n=>AC (.int k (k.wrap (m-n)))
 |.mul,k,m,n=>AC (.int k (k.wrap (m*n)))
 |.eql,_,m,n=>AC (.bool (m==n))
 |.neq,_,m,n=>AC (.bool (m != n))
 |.lss,_,m,n=>AC (.bool (AG (m<n)))
 |.leq,_,m,n=>AC (.bool (AG (m<=n)))
 |.gtr,_,m,n=>AC (.bool (AG (n<m)))
 |.geq,_,m,n=>AC (.bool (AG (n<=m)))
 |_,_,_,_=>AF
def oK:BinOp->AA UInt8->AA UInt8->AB A
 |.eql,p,q=>AC (.bool (p==q))
 |.neq,p,q=>AC (.bool (p != q))
 |.lss,p,q=>AC (.bool (Op.bytesLess p q))
 |_,_,_=>AF
def kQ(b:BinOp):Bx->Bx->AB A
 |.mk (.int k m),.mk (.int k' n)=>if k=k' then oi b k m n else AF
 |.mk (.str p),.mk (.str q)=>oK b p q
 |_,_=>AF
def jA:UnOp->Bx->AB A
 |.not,.mk (.bool b)=>AC (.bool !b)
 |.neg,.mk (.int k n)=>AC (.int k (k.wrap (0-n)))
 |_,_=>AF
def kN:Bx->Nat->AB A
 |.mk (.tup vs),i=>YJ vs i
 |_,_=>AF
def jO:Bx->AB A
 |.mk (.ptr i j)=>AC (.ptr i j)
 |.mk (.rp cs)=>AC (.rp cs)
 |_=>AF
def jJ:Bx->Bx->Bx->AB A
 |.mk (.bool AE),.mk a,_=>AC a
 |.mk (.bool AD),_,.mk a=>AC a
 |_,_,_=>AF
def Lb(env:Env):Op->AB A
 |.move x=>match DQ env x with|.mk a=>AC a
 |.assign x=>match DQ env x with|.mk a=>AC a
 |.nilCheck x=>jO (DQ env x)
 |.extract x i=>kN (DQ env x) i
 |.unOp u _ x=>jA u (DQ env x)
 |.pick c x y=>jJ (DQ env c) (DQ env x) (DQ env y)
 |.binOp b _ x y _=>kQ b (DQ env x) (DQ env y)
 |_=>AF
def pr(d:Nat):AB A->AB (Nat×A)
 |some a=>AC (d,a)
 |none=>AF
def jE(o:AM)(env:Env):AB (Nat×A):=
 match o.dst with
 |some d=>pr d (Lb env o.op)
 |none=>AF
variable {T f t:Nat}
section
variable {P:AK} {h0 N:Nat} {all:Array AM} {o:AM} {l:AA AM} {env:Env} {H H':Qc} {Q:Qy} {d:Nat} {x:A}
theorem Rg{p:Op}(g:o.op=p)(h:Lb env p=AC x):CS P o env H x:=by
 unfold Lb at h;split at h
 .rename_i y;cases q:DQ env y with|mk a=>simp_all[CS.move,Q2]
 .rename_i y;cases q:DQ env y with|mk a=>simp_all[CS.assign,Q2]
 .rename_i y;unfold jO at h;split at h
  .rename_i i j q;cases h;exact tJ g (Q2 q) rfl
  .rename_i F q;cases h;exact tJ g (Q2 q) rfl
  .cases h
 .rename_i y i;unfold kN at h
  grind[M9,CS.extract,Q2]
 .rename_i u t y;unfold jA at h
  grind[CS.not,Q2,CS.neg]
 .rename_i c y z;unfold jJ at h;split at h
  .rename_i a _ d f;cases h;exact CS.pick g (Q2 d) (by rw[Vs rfl];exact Q2 f)
  .rename_i a d f;cases h;exact CS.pick g (Q2 d) (by exact Q2 f)
  .cases h
 .rename_i b t y z u;unfold kQ at h;split at h
  .rename_i k m G n d f;split at h
   .rename_i e;subst e;have E:=Q2 d;have B:=Q2 f;unfold oi at h
    grind[CS.add,CS.sub,CS.mul,CS.eql,CS.neq,CS.lss,CS.leq,CS.gtr,CS.geq]
   .cases h
  .rename_i p q d f;have E:=Q2 d;have B:=Q2 f;unfold oK at h
   grind[Qm4,Qm0,Qm1]
  .cases h
 .cases h
theorem pw(h:jE o env=AC (d,x)):o.dst=AC d/\CS P o env H x:=by
 unfold jE at h;split at h
 .rename_i f q;cases e:Lb env o.op with
  |none=>rw[e]at h;cases h
  |some a=>rw[e]at h;cases h;exact⟨q,Rg rfl e⟩
 .cases h
theorem S(e:jE o env=AC (d,x))(k:WO P h0 N all l (up env d x) H Q)(hg:Qz all o env true:=by rfl)(hN:Nat.blt d N=true:=by rfl):WO P h0 N all (o::l) env H Q:=
 Yr hg (pw (P:=P) (H:=H) e).1 hN (pw e).2 k
theorem K(hg:Qz all o env AD)(f:o.dst=AC d)(k:WO P h0 N all l (up env d (.tup [])) H Q)(g:Nat.blt d N=true:=by rfl):WO P h0 N all (o::l) env H Q:=
 WO.skip hg f g k
def jK(v:Bool):Bx->Bx->Bx->AB (Bool×A)
 |.mk (.bool b),.mk a,.mk a'=>match v with|true=>AC (b,a)|false=>AC (b,a')
 |_,_,_=>AF
def vW(d:Nat):AB (Bool×A)->AB (Nat×Bool×A)
 |some a=>AC (d,a)
 |none=>AF
def jH(v:Bool)(o:AM)(env:Env):AB (Nat×Bool×A):=
 match o.dst,o.op with
 |some d,.pick c x y=>vW d (jK v (DQ env c) (DQ env x) (DQ env y))
 |_,_=>AF
theorem _K{v b:Bool}{p q r:Bx}(h:jK v p q r=AC (b,x)):∃a a',p=.mk (.bool b)/\q=.mk a/\r=.mk a'/\(bif v then a else a')=x:=by
 obtain⟨p⟩:=p;obtain⟨q⟩:=q;obtain⟨r⟩:=r;cases p<;>first|(cases h)|skip
 cases v<;>cases h<;>exact sq
theorem pc{v b:Bool}(h:jH v o env=AC (d,b,x))(B:b=v):o.dst=AC d/\CS P o env H x:=by
 unfold jH at h;split at h
 .rename_i t c y z q E;cases e:jK v (DQ env c) (DQ env y) (DQ env z)with
  |none=>rw[e]at h;cases h
  |some s=>
   rw[e]at h;cases h;obtain⟨a,j,f,F,g,m⟩:=_K e
   grind[CS.pick,Q2]
 .cases h
theorem Pk{v b:Bool}(f:b=v)(e:jH v o env=AC (d,b,x))(k:WO P h0 N all l (up env d x) H Q)(hg:Qz all o env true:=by rfl)(hN:Nat.blt d N=true:=by rfl):WO P h0 N all (o::l) env H Q:=
 Yr hg (pc (P:=P) (H:=H) e f).1 hN (pc e f).2 k
def gC(o:AM)(env:Env):AB (Nat×Nat×Nat×Nat×Nat):=
 match o.dst,o.op with
 |some d,.fieldAddr T x f=>match DQ env x with
  |.mk (.ptr i p)=>AC (d,T,f,i,p)
  |_=>AF
 |_,_=>AF
theorem gu{off n i p:Nat}(g:Qs P T f off n)(h:gC o env=AC (d,T,f,i,p)):o.dst=AC d/\CS P o env H (.ptr i (p+off)):=by
 grind[gC,m9,Q2]
theorem Fp{off n i p:Nat}(g:Qs P T f off n)(e:gC o env=AC (d,T,f,i,p))(k:WO P h0 N all l (up env d (.ptr i (p+off))) H Q)(hg:Qz all o env true:=by rfl)(hN:Nat.blt d N=true:=by rfl):WO P h0 N all (o::l) env H Q:=
 Yr hg (gu (H:=H) g e).1 hN (gu g e).2 k
theorem HJ{off n i p:Nat}(hg:Qz all o env AE)(g:Qs P T f off n)(e:gC o env=AC (d,T,f,i,p))(k:WO P h0 N all l (up env d (.ptr i (p+off))) H Q)(h:Nat.blt d N=true:=by rfl):WO P h0 N all (o::l) env H Q:=
 Yr hg (gu (H:=H) g e).1 h (gu g e).2 k
inductive Lx where
 |mk (l:List A)
def dP:Nat->AA A->Lx
 |0,l=>.mk l
 |n+1,_::r=>dP n r
 |_+1,[]=>.mk []
theorem mD:∀{n:Nat} {l r:AA A},dP n l=.mk r->l.drop n=r
 |0,l,r,h=>by cases h;rfl
 |n+1,a::l,r,h=>by rw[List.drop_succ_cons];exact mD h
 |n+1,[],r,h=>by cases h;rfl
def oe:AB CW->Nat->AB A
 |some (.cells _ cs),off=>YJ cs off
 |_,_=>AF
def jQ(H:Qc):Bx->AB A
 |.mk (.ptr i off)=>oe (YJ H i) off
 |.mk (.rp (a::_))=>AC a
 |_=>AF
def vT(d t:Nat):AB A->AB (Nat×Nat×A)
 |some a=>AC (d,t,a)
 |none=>AF
def f'(o:AM)(env:Env)(H:Qc):AB (Nat×Nat×A):=
 match o.dst,o.op with
 |some d,.load t x=>vT d t (jQ H (DQ env x))
 |_,_=>AF
theorem gh(m:∀w,(isAgg t).run P w=.ok AD w)(h:f' o env H=AC (d,t,x)):o.dst=AC d/\CS P o env H x:=by
 unfold f' at h;split at h
 .rename_i J G y E q;cases e:jQ H (DQ env y)with
  |none=>rw[e]at h;cases h
  |some a=>
   rw[e]at h;cases h;refine⟨E,?_⟩;unfold jQ at e;split at e
   .rename_i i f j;unfold oe at e;split at e
    .rename_i f L T0 T cs q4;rw[M9]at e q4;obtain⟨g,F⟩:∃g,cs.drop f=x::g:=by
      have B:=(XK.1 e).1
      simp_all[Xp]
     exact CS.load q m (Q2 j) (Df.cells q4 F)
    .cases e
   .rename_i a r j;cases e;exact CS.load q m (Q2 j) Df.rp
   .cases e
 .cases h
theorem Ld(f:∀w,(isAgg t).run P w=.ok AD w)(e:f' o env H=AC (d,t,x))(k:WO P h0 N all l (up env d x) H Q)(hg:Qz all o env true:=by rfl)(hN:Nat.blt d N=true:=by rfl):WO P h0 N all (o::l) env H Q:=
 Yr hg (gh f e).1 hN (gh f e).2 k
theorem Ldg(hg:Qz all o env AE)(f:∀w,(isAgg t).run P w=.ok AD w)(e:f' o env H=AC (d,t,x))(k:WO P h0 N all l (up env d x) H Q)(g:Nat.blt d N=true:=by rfl):WO P h0 N all (o::l) env H Q:=
 Yr hg (gh f e).1 g (gh f e).2 k
def SD(o:AM)(env:Env):AB (Nat×Nat×Nat×AA (AA A)×IntKind×Int):=
 match o.dst,o.op with
 |some d,.indexAddr t x y=>match DQ env x,DQ env y with
  |.mk (.rsl k es),.mk (.int kk i)=>AC (d,t,k,es,kk,i)
  |_,_=>AF
 |_,_=>AF
theorem Ix{α:Type}{e:α->AA A}{k:Nat}{L:AA α}{kk:IntKind}{i:Int}{v:α}(h:CI L i=AC v)(x:∀w,(underlying t).run P w=.ok (.slice f) w)(B:∀w,(sizeOf f).run P w=.ok k w)
  (q:SD o env=AC (d,t,k,L.map e,kk,i))(k:WO P h0 N all l (up env d (.rp (e v))) H Q)(hg:Qz all o env true:=by rfl)(hN:Nat.blt d N=true:=by rfl):WO P h0 N all (o::l) env H Q:=by
 unfold SD at q;split at q
 .rename_i m E;split at q
  .rename_i y j;simp[Option.some.injEq,Prod.mk.injEq]at q;obtain⟨rfl,rfl,rfl,g,rfl,rfl⟩:=q;exact Yr hg m hN (QV h x B E (by rw[Q2 y,g]) (Q2 j)) k
  .cases q
 .cases q
def R9(o:AM)(env:Env):AB (Nat×Nat×Bx):=
 match o.dst,o.op with
 |some d,.call c=>match c with
  |{callee:=.builtin .len,args:=⟨[x]⟩,argTypes:=⟨[t]⟩}=>AC (d,t,DQ env x)
  |_=>AF
 |_,_=>AF
theorem pW{b:Bx}(q:R9 o env=AC (d,t,b)):∃x,o.dst=AC d/\o.op=.call {callee:=.builtin .len,args:= #[x],argTypes:= #[t]}/\DQ env x=b:=by
 unfold R9 at q
 grind
theorem nO{α:Type}{e:α->AA A}{j k:Nat}{L:AA α}(f:∀w,(underlying t).run P w=.ok (.slice j) w)(q:R9 o env=AC (d,t,.mk (.rsl k (L.map e))))
  (k:WO P h0 N all l (up env d (.int .i64 L.length)) H Q)(hg:Qz all o env true:=by rfl)(hN:Nat.blt d N=true:=by rfl):WO P h0 N all (o::l) env H Q:=by
 obtain⟨x,m,h,g⟩:=pW q;exact Yr hg m hN (q_ f h rfl (Q2 g)) k
end
variable {α:Type}
variable {r:α}
section
variable {P:AK} {h0 N:Nat} {all:Array AM} {env env':Env} {H H':Qc} {Q:Qy} {c c':Code}
theorem Oi{α:Type}{x y:α}(h:AC x=AC y):x=y:=XY h
theorem Bd{α β:Type}{x:AB α}{f:α->AB β}{r:β}{G:Prop}(h:x.bind f=AC r)(k:∀a,x=AC a->f a=AC r->G):G:=by
 obtain⟨a,d,g⟩:=Qw h
 grind
theorem If{c:Bool}{x y:AB α}{G:Prop}(h:(bif c then x else y)=AC r)(t:c=AE->x=AC r->G)(e:c=AD->y=AC r->G):G:=by
 grind
theorem Cn{x:Operand}{t:Bool}{p q:AB α}(hx:DQ env x=.mk (.bool t))(h:(bif t then p else q)=AC r)(ht:t=AE->p=AC r->TC P h0 N c env H Q)(hf:t=AD->q=AC r->TC P h0 N c' env H Q):TC P h0 N (.cond x c c') env H Q:=
 TC.cond (Q2 hx) gq gq
theorem Q5{x:Operand}{t:Bool}{p q:AB α}(hx:DQ env x=.mk (.bool t))(h:(bif t then p else q)=AC r)(hf:t=AD->q=AC r->TC P h0 N c' env H Q)(ht:t=AE->p=AC r->TC P h0 N c env H Q):TC P h0 N (.cond x c c') env H Q:=
 TC.cond (Q2 hx) gq gq
theorem Lr(π:AA Nat)(d:π.take h0=List.range h0:=by rfl)(hH:π.map (λp=>H[p]?)=(H'.map (Q1 (Ci π H.length))).map some:=by rfl)(hπ:π.Nodup:=by decide)
  (hE:IO (Ci π H.length) env env':=by(repeat' (first|exact trivial|refine⟨rfl,?_⟩))):Le h0 env H env' H':=kh π d hH hπ hE
end
def Ev(f:Nat->AB α)(v:α):Prop:=∃N,∀n,N<=n->f n=AC v
variable {k:Nat}
section
variable {α β:Type} {f g:Nat->AB α} {v w:α}
theorem Qa(v:α):Ev (λ_=>AC v) v:=⟨0,λ_ _=>rfl⟩
theorem Ev.const{o:AB α}(h:o=AC v):Ev (λ_=>o) v:=⟨0,λ_ _=>h⟩
theorem Ev.bind{k:Nat->α->AB β}{b:β}(h:Ev f v)(d:Ev (λn=>k n v) b):Ev (λn=>(f n).bind (k n)) b:=by
 obtain⟨N,h⟩:=h;obtain⟨M,d⟩:=d;exact⟨max N M,λn g=>gq⟩
theorem YP{o:AB α}{k:Nat->α->AB β}{b:β}(h:o=AC v)(hk:Ev (λn=>k n v) b):Ev (λn=>o.bind (k n)) b:=Ev.bind (Ev.const h) hk
theorem JD{c:Bool}(h:c=AE->Ev f v)(d:c=AD->Ev g w):Ev (λn=>bif c then f n else g n) (bif c then v else w):=by
 cases c with
 |true=>exact h rfl
 |false=>exact d rfl
theorem Rb(h:Ev f v):Ev (λn=>bif AE then f n else g n) v:=h
theorem QW(h:Ev g v):Ev (λn=>bif AD then f n else g n) v:=h
theorem Ev.and{c d:Bool}{h:Nat->AB Bool}(f:c=AE->Ev h d):Ev (λn=>bif c then h n else AC AD) (c&&d):=by
 cases c with
 |true=>exact f rfl
 |false=>exact Qa _
theorem QR{c d:Bool}{h:Nat->AB Bool}(f:c=AD->Ev h d):Ev (λn=>bif c then AC AE else h n) (c||d):=by
 cases c with
 |true=>exact Qa _
 |false=>exact f rfl
theorem Ev.eq(h:Ev f v)(e:v=w):Ev f w:=e▸h
theorem Ev.congr(h:Ev f v)(e:∀n,g n=f n):Ev g v:=by
 obtain⟨N,h⟩:=h;exact⟨N,λn d=>gq⟩
theorem Jd(h:Ev (λn=>f (n+1)) v):Ev f v:=by
 obtain⟨N,h⟩:=h;refine⟨N+1,λn d=>?_⟩;obtain⟨m,rfl⟩:∃m,n=m+1:=⟨n-1,om⟩
 grind
theorem Ev.ex(h:Ev f v):∃n,f n=AC v:=let⟨N,h⟩:=h;⟨N,h N (XS _)⟩
theorem Ev.all{F:Nat->Nat->AB α}{V:Nat->α}(h:∀i,i<k->Ev (F i) (V i)):∃N,∀n,N<=n->∀i,i<k->F i n=AC (V i):=by
 induction k with
 |zero=>simp
 |succ k d=>
  obtain⟨N,g⟩:=d gq;obtain⟨M,f⟩:=h k om;refine⟨max N M,λn m i j=>?_⟩
  grind
end
variable {β:Type}
section
variable {S B α:Type} {step:Nat->S->AB (CF S B)}
theorem Ev.iter{s0:S}(d:Nat->S)(k:Nat){b:B}(h:d 0=s0)(j:∀i,i<k->Ev (λn=>step n (d i)) (.k (d (i+1))))(g:Ev (λn=>step n (d k)) (.d b)):
  Ev (λn=>Go.Sw.iter (step n) n s0) b:=by
 obtain⟨N,m⟩:=Ev.all j;obtain⟨M,f⟩:=g;exact⟨max (max N M) (k+1),λn q=>Qot s0 d b k h gq (f n om) n om⟩
theorem iZ{step:S->AB (CF S B)}{s:S}{b:B}(m:Nat)(h:Go.Sw.iter step m s=AC b):Ev (λn=>Go.Sw.iter step n s) b:=by
 have mono:∀m s,Go.Sw.iter step m s=AC b->∀n,m<=n->Go.Sw.iter step n s=AC b:=by
  intro m
  induction m with
  |zero=>intro s h;cases h
  |succ m f=>
   intro s h n g;obtain⟨d,rfl⟩:∃d,n=d+1:=⟨n-1,om⟩
   grind[Go.Sw.iter]
 exact⟨m,gq⟩
structure At (l:List α) (i:Nat) (x:α):Prop where
 get:l[i]?=AC x
 lt:AG ((i:Int)<(l.length:Int))=AE
 ix:CI l (i:Int)=AC x
 nx:IntKind.i64.wrap ((i:Int)+1)=((i+1:Nat):Int)
theorem Y6{l:AA α}{i:Nat}{x:α}(d:l.length<=4611686018427387904)(h:l[i]?=AC x):At l i x:=by
 have f:=(XK.1 h).1;exact⟨h,gq,QA h,YU om⟩
theorem At.mem{l:AA α}{i:Nat}{x:α}(h:At l i x):x∈l:=VG h.get
theorem At.lt'{l:AA α}{i:Nat}{x:α}(h:At l i x):i<l.length:=(XK.1 h.get).1
theorem At.take{l:AA α}{i:Nat}{x:α}(h:At l i x):l.take (i+1)=l.take i++[x]:=by
 rw[List.take_add_one,h.get];rfl
theorem Jf(l:AA α):AG ((l.length:Int)<(l.length:Int))=false:=sq
theorem ip{s0:S}(l:AA α)(q:α->Bool)(d:Nat->S)(m b:B)(t:l.length<=4611686018427387904)(E:d 0=s0)
  (L:∀i x,At l i x->q x=AD->Ev (λn=>step n (d i)) (.k (d (i+1))))
  (g:∀i x,At l i x->q x=AE->Ev (λn=>step n (d i)) (.d m))
  (G:Ev (λn=>step n (d l.length)) (.d b)):Ev (λn=>Go.Sw.iter (step n) n s0) (bif l.any q then m else b):=by
 have f:∀k,k<=l.length->(∀i x,l[i]?=AC x->i<k->q x=AD)\/ ∃i x,l[i]?=AC x/\i<k/\q x=AE/\ ∀j y,l[j]?=AC y->j<i->q y=false:=by
  intro k
  induction k with
  |zero=>simp
  |succ k N=>
   grind
 rcases f l.length (XS _)with h|⟨i,x,H,O,J,P⟩
 .have:l.any q=false:=by
   rw[VL];intro e;obtain⟨x,g,e⟩:=Xt.1 e;obtain⟨i,F,rfl⟩:=List.getElem_of_mem g
   grind
  rw[this];exact Ev.iter d l.length E (λi F=>L i _ (Y6 t (XJ F)) gq) G
 .have:l.any q=true:=gq;rw[this];refine Ev.iter d i E (λj M=>?_) (g i x (Y6 t H) J)
  grind[Y6]
theorem Q9{s0:S}(l:AA α)(g:β->α->β)(d:β)(h:β->Nat->S)(f:β->B)(m:l.length<=4611686018427387904)(E:h d 0=s0)
  (q:∀i x a,At l i x->a=(l.take i).foldl g d->Ev (λn=>step n (h a i)) (.k (h (g a x) (i+1))))
  (y:Ev (λn=>step n (h (l.foldl g d) l.length)) (.d (f (l.foldl g d)))):Ev (λn=>Go.Sw.iter (step n) n s0) (f (l.foldl g d)):=by
 refine Ev.iter (λi=>h ((l.take i).foldl g d) i) l.length gq (λi t=>?_) gq;have j:=Y6 m (XJ t);have:=q i _ _ j rfl;rw[j.take,List.foldl_append];exact this
theorem Ev.contains(l:AA α)(q:α->Bool)(g:Nat->α->AB Bool)(m:l.length<=4611686018427387904)(hg:∀x∈l,Ev (λn=>g n x) (q x)):
  Ev (λn=>(((Go.Sw.iter (λs:Int=>bif s<(l.length:Int) then(CI l s).bind λx=>(g n x).bind λr=>(bif r then AC (CF.d (CF.d s))else AC (CF.k (IntKind.i64.wrap (s+1))))else AC (CF.d (CF.k ()))) n (0:Int):AB (CF Unit Int)).bind λb=>
   match b with
   |.k _=>AC (-1)
   |.d s=>AC s):AB Int).bind λr=>AC (AG (0<=r))) (l.any q):=by
 cases e:l.any q with
 |false=>
  refine Ev.bind (v:=(-1:Int)) (Ev.bind (v:=CF.k ()) (Ev.iter (λi=>(i:Int)) l.length rfl (λi H=>?_) ?_) (Qa _)) (Qa _)
  .have d:=Y6 (x:=l[i]) m (XJ H);simp only[d.lt,Vo,d.ix,XI];have B:q l[i]=false:=by
    grind
   refine Ev.bind ((hg _ d.mem).eq B) ?_;simp only[Vp,d.nx];exact Qa _
  simp_all[Qa]
 |true=>
  obtain⟨x,J,h⟩:=Xt.1 e;have f:∀k,k<=l.length->(∀(i:Nat) (x:α),l[i]?=AC x->i<k->q x=AD)\/ ∃(i:Nat) (x:α),l[i]?=AC x/\i<k/\q x=AE/\ ∀(j:Nat) (y:α),l[j]?=AC y->j<i->q y=false:=by
   intro k
   induction k with
   |zero=>simp
   |succ k N=>
    grind
  rcases f l.length (XS _)with L|⟨i,x,F,M,G,E⟩
  .obtain⟨j,t,rfl⟩:=List.getElem_of_mem J
   grind
  .refine Ev.bind (v:=(i:Int)) (Ev.bind (v:=CF.d (i:Int)) (Ev.iter (λi=>(i:Int)) i rfl (λj t=>?_) ?_) (Qa _)) ?_
   .have d:=Y6 (x:=l[j]) m (XJ om);simp only[d.lt,Vo,d.ix,XI];refine Ev.bind ((hg _ d.mem).eq (E j _ d.get t)) ?_;simp only[Vp,d.nx];exact Qa _
   .have d:=Y6 m F;simp only[d.lt,Vo,d.ix,XI];refine Ev.bind ((hg _ d.mem).eq G) ?_;exact Qa _
   simp_all[Qa]
end
section
variable {S B α:Type} {step:Nat->S->AB (CF S B)}
theorem uk{s0:S}(d:Nat->S)(k:Nat)(R:Nat->B)(q:d 0=s0)(G:∀i,i<k->(Ev (λn=>step n (d i)) (.k (d (i+1)))/\R i=R (i+1))\/Ev (λn=>step n (d i)) (.d (R i)))
  (t:Ev (λn=>step n (d k)) (.d (R k))):Ev (λn=>Go.Sw.iter (step n) n s0) (R 0):=by
 have f:∀m,m<=k->(∀i,i<m->Ev (λn=>step n (d i)) (.k (d (i+1)))/\R i=R (i+1))\/ ∃j,j<m/\(∀i,i<j->Ev (λn=>step n (d i)) (.k (d (i+1)))/\R i=R (i+1))/\Ev (λn=>step n (d j)) (.d (R j)):=by
  intro m
  induction m with
  |zero=>simp
  |succ m x=>
   grind
 have HO:∀m,(∀i,i<m->R i=R (i+1))->R 0=R m:=by
  intro m
  induction m with
  |zero=>intro _;rfl
  |succ m x=>grind
 rcases f k (XS _)with h|⟨j,F,y,E⟩
 .rw[HO k λi g=>(h i g).2];exact Ev.iter d k q gq t
 .rw[HO j λi g=>(y i g).2];exact Ev.iter d j q gq E
theorem At.drop{l:AA α}{i:Nat}{x:α}(h:At l i x):l.drop i=x::l.drop (i+1):=by
 have:=h.lt';rw[Xp this,(XK.1 h.get).2]
theorem um{s0:S}(l:AA α)(st:Nat->S)(R:Nat->B)(hl:l.length<=4611686018427387904)(h0:st 0=s0)
  (hc:∀i x,At l i x->(Ev (λn=>step n (st i)) (.k (st (i+1)))/\R i=R (i+1))\/Ev (λn=>step n (st i)) (.d (R i)))
  (hd:Ev (λn=>step n (st l.length)) (.d (R l.length))):Ev (λn=>Go.Sw.iter (step n) n s0) (R 0):=
 uk st l.length R h0 (λi hi=>hc i _ (Y6 hl (XJ hi))) hd
end
variable {γ:Type}
section
variable {α β:Type} [DecidableEq α]
theorem Y9(p:α×β)(l:AA (α×β))(k:α):Jq (p::l) k=if p.1=k then AC p.2 else Jq l k:=by
 grind[Jq]
theorem Qmj(p:α×β)(l:AA (α×β))(k:α)(v:β):QK (p::l) k v=if p.1=k then(p.1,v)::l.map (λq=>bif q.1=k then(q.1,v)else q)else p::QK l k v:=by
 unfold QK
 grind
theorem Qoj(l:AA (α×β))(k d:α)(v:β)(h:d≠k):Jq (l.map λq=>bif q.1=k then(q.1,v)else q) d=Jq l d:=by
 induction l with
 |nil=>rfl
 |cons p l f=>
  grind[Y9]
theorem tU(l:AA (α×β))(k d:α)(v:β):Jq (QK l k v) d=if d=k then AC v else Jq l d:=by
 induction l with
 |nil=>
  show Jq ([]++[(k,v)]) d=_;rw[Vh,Y9]
  grind
 |cons p l f=>
  rw[Qmj];by_cases e:p.1=k
  .rw[Vs e,Y9,Y9];by_cases h:d=k
   .grind
   .have:p.1≠d:=gq
    simp_all[Qoj]
  .rw[Vr e,Y9,Y9,f]
   grind
theorem Qmm(k:α)(z:β):Qn ([]:AA (α×β)) k z=z:=rfl
theorem Y3(l:AA (α×β))(k d:α)(v z:β):Qn (QK l k v) d z=if d=k then v else Qn l d z:=by
 grind[Qn,tU]
theorem Qmi(l:AA (α×β))(k:α)(v:β):(QK l k v).map (·.1)=if k∈l.map (·.1)then l.map (·.1)else l.map (·.1)++[k]:=by
 unfold QK;have e:(l.any λp=>AG (p.1=k))=AG (k∈l.map (·.1)):=by
  grind
 rw[e];by_cases h:k∈l.map (·.1)
 .rw[Vt h,Vs h,Vo,List.map_map];apply List.map_congr_left
  grind
 grind
def YF(key:γ->α)(v:β)(l:AA γ):AA (α×β):=l.foldl (λm x=>QK m (key x) v) []
theorem Qhu(d:γ->α)(v:β)(l:AA γ)(x:γ):YF d v (l++[x])=QK (YF d v l) (d x) v:=by
 unfold YF;simp
theorem uZ(d:γ->α)(v z:β)(l:AA γ)(k:α):Qn (YF d v l) k z=if k∈l.map d then v else z:=by
 have f:∀(l:AA γ) (m:AA (α×β)),Qn (l.foldl (λm x=>QK m (d x) v) m) k z=if k∈l.map d then v else Qn m k z:=by
  intro l
  induction l with
  |nil=>simp
  |cons x l g=>
   intro m;rw[XC,g,Y3]
   grind
 exact f l []
theorem vG(d:γ->α)(v:β)(l:AA γ):(YF d v l).length<=l.length/\((YF d v l).length=l.length↔(l.map d).Nodup):=by
 have j:∀(l:AA γ) (m:AA (α×β)),(m.map (·.1)).Nodup->(l.foldl (λm x=>QK m (d x) v) m).length<=m.length+l.length/\((l.foldl (λm x=>QK m (d x) v) m).length=m.length+l.length↔(m.map (·.1)++l.map d).Nodup):=by
  intro l
  induction l with
  |nil=>simp
  |cons x l t=>
   intro m q;have g:=Qmi m (d x) v;have f:(QK m (d x) v).length=((QK m (d x) v).map (·.1)).length:=sq;by_cases h:d x∈m.map (·.1)
   .grind
   .rw[Vr h]at g;have y:((QK m (d x) v).map (·.1)).Nodup:=by
     grind
    grind
 grind[YF]
end
theorem Ju(l:AA α)(p:α->Bool)(g:Nat->α->AB Bool)(d:l.length<=4611686018427387904)(hg:∀x∈l,Ev (λn=>g n x) (p x)):
  Ev (λn=>(((Go.Sw.iter (λs:Int=>bif s<l.length then(CI l s).bind λx=>((g n x).bind λr1=>AC (!r1)).bind λr=>(bif r then AC (CF.d (CF.d s))else AC (CF.k (IntKind.i64.wrap (s+1))))else AC (CF.d (CF.k ()))) n 0).bind λb=>
   match b with
   |.k _=>AC (-1)
   |.d s=>AC s).bind λr=>AC (AG (0<=r))).bind λr=>AC (!r)) (l.all p):=by
 refine Ev.bind (Ev.contains l (λx=> !p x) (λn x=>(g n x).bind λr1=>AC (!r1)) d λx f=>Ev.bind (hg x f) (Qa _)) ((Qa _).eq ?_)
 grind
def ZM{α κ:Type}[DecidableEq κ](ok:α->Bool)(key:α->κ):AA κ->AA α->Bool
 |_,[]=>AE
 |seen,x::r=>ok x&& !seen.contains (key x)&&ZM ok key (seen++[key x]) r
theorem qE{α κ:Type}[DecidableEq κ](ok:α->Bool)(f:α->κ):∀(l:AA α) (d:AA κ),d.Nodup->ZM ok f d l=(l.all ok&&AG ((d++l.map f).Nodup))
 |[],d,h=>by simp[ZM,h]
 |x::r,d,h=>by
  simp[ZM,Vj];by_cases hk:f x∈d
  .grind
  .have hn:(d++[f x]).Nodup:=by
    grind
   rw[qE ok f r _ hn]
   grind
variable {B:Type}
theorem Ev.chk{κ:Type}[DecidableEq κ]{step:Nat->Int->AB (CF Int B)}(l:AA α)(ok:α->Bool)(d:α->κ)(f b:B)(j:l.length<=4611686018427387904)
  (q:∀i x,At l i x->ok x=AE->((l.take i).map d).contains (d x)=AD->Ev (λn=>step n (i:Int)) (.k ((i+1:Nat):Int)))
  (t:∀i x,At l i x->ok x=AD->Ev (λn=>step n (i:Int)) (.d f))
  (m:∀i x,At l i x->ok x=AE->((l.take i).map d).contains (d x)=AE->Ev (λn=>step n (i:Int)) (.d f))
  (h:Ev (λn=>step n (l.length:Int)) (.d b)):Ev (λn=>Go.Sw.iter (step n) n 0) (bif l.all ok&&AG ((l.map d).Nodup)then b else f):=by
 have e:=qE ok d l [] sq;rw[Vh]at e;rw[<- e];refine um l (λi=>(i:Int)) (λi=>bif ZM ok d ((l.take i).map d) (l.drop i)then b else f) j rfl (λi x g=>?_) ?_
 .rw[g.drop];simp only[ZM];rw[show(l.take i).map d++[d x]=(l.take (i+1)).map d by rw[g.take];simp]
  grind
 .rw[Xr];exact h
theorem Ev.inner{κ:Type}[DecidableEq κ]{step:Nat->Int->AB (CF Int B)}(l:AA α)(i:Nat)(d:α->κ)(k:κ)(g b:B)(F:l.length<=4611686018427387904)(hi:i<=l.length)
  (G:∀j y,j<i->At l j y->AG (d y=k)=AD->Ev (λn=>step n (j:Int)) (.k ((j+1:Nat):Int)))
  (H:∀j y,j<i->At l j y->AG (d y=k)=AE->Ev (λn=>step n (j:Int)) (.d g))
  (E:Ev (λn=>step n (i:Int)) (.d b)):Ev (λn=>Go.Sw.iter (step n) n 0) (bif ((l.take i).map d).contains k then g else b):=by
 have e:((l.take i).map d).contains k=(l.take i).any λy=>AG (d y=k):=by
  grind
 rw[e];have h:(l.take i).length=i:=by simp;omega
 have x:∀j y,At (l.take i) j y->j<i/\At l j y:=by
  intro j y f;have t:=f.lt';have q:=f.get
  grind[Y6]
 refine ip (l.take i) (λy=>AG (d y=k)) (λi=>(i:Int)) _ _ om rfl (λj y f m=>?_) (λj y f m=>?_) ?_
 .grind
 .grind
 grind
theorem m_{κ:Type}[DecidableEq κ]{step:Nat->AA (κ×β)×Int->AB (CF (AA (κ×β)×Int) (AA (κ×β)))}(l:AA α)(key:α->κ)(v:β)(hl:l.length<=4611686018427387904)
  (hc:∀i x m,At l i x->Ev (λn=>step n (m,(i:Int))) (.k (QK m (key x) v,((i+1:Nat):Int))))
  (hd:∀m,Ev (λn=>step n (m,(l.length:Int))) (.d m)):Ev (λn=>Go.Sw.iter (step n) n ([],0)) (YF key v l):=
 Q9 l (λm x=>QK m (key x) v) [] (λm i=>(m,(i:Int))) (λm=>m) hl rfl gq (hd _)
theorem Ev.shift{α:Type}{f:Nat->AB α}{v:α}(h:Ev f v):Ev (λn=>f (n+1)) v:=by
 obtain⟨N,h⟩:=h;exact⟨N,gq⟩
def Dc{S:Type}(step:Nat->S->AB (CF S B))(s:S)(b:B):Prop:=∃N,∀n k,N<=n->N<=k->Go.Sw.iter (step n) k s=AC b
section
variable {S B:Type} {step:Nat->S->AB (CF S B)} {s s':S} {b:B}
theorem Dc.done(h:Ev (λn=>step n s) (.d b)):Dc step s b:=by
 obtain⟨N,h⟩:=h;refine⟨N+1,λn k g f=>?_⟩;obtain⟨d,rfl⟩:∃d,k=d+1:=⟨k-1,om⟩
 grind[Go.Sw.iter]
theorem Dc.cont(h:Ev (λn=>step n s) (.k s'))(q:Dc step s' b):Dc step s b:=by
 obtain⟨N,h⟩:=h;obtain⟨M,q⟩:=q;refine⟨max N M+1,λn k g f=>?_⟩;obtain⟨d,rfl⟩:∃d,k=d+1:=⟨k-1,om⟩
 grind[Go.Sw.iter]
theorem Dc.ev(h:Dc step s b):Ev (λn=>Go.Sw.iter (step n) n s) b:=by
 obtain⟨N,h⟩:=h;exact⟨N,λn d=>h n n d d⟩
theorem Dc.eq{b':B}(h:Dc step s b)(e:b=b'):Dc step s b':=e▸h
end
variable {l:AA α}
theorem QH{r:AA α}{i:Nat}{x:α}(f:l.length<=4611686018427387904)(h:l.drop i=x::r):At l i x/\l.drop (i+1)=r:=by
 have d:l[i]?=AC x:=by
  have:=congrArg (λl=>l[0]?) h
  grind
 refine⟨Y6 f d,?_⟩;have:=(Y6 f d).drop
 grind
theorem Yw{i:Nat}(h:l.drop i=[])(hi:i<=l.length):AG ((i:Int)<(l.length:Int))=false:=by
 simp_all
theorem Z.{u}{α:Sort u}{a:α}:a=a:=rfl
section
variable {P:AK} {h0 N:Nat} {all:Array AM} {env:Env} {H H':Qc} {Q:Qy} {l:AA AM} {o:AM} {d:Nat}
theorem aV(x:A)(H:Qc){x':A}{H':Qc}(f:x'=x)(hH:H'=H)(k:WO P h0 N all l (up env d x) H Q):WO P h0 N all l (up env d x') H' Q:=by subst f;subst hH;exact k
theorem vX(x:A)(f:CS P o env H x)(k:WO P h0 N all l (up env d x) H Q)(hg:Qz all o env true:=by rfl)(hd:o.dst=AC d:=by rfl)(hN:Nat.blt d N=true:=by rfl):WO P h0 N all (o::l) env H Q:=
 Yr hg hd hN f k
theorem Wp:WO P h0 N all [] env H (YY env H):=WO.nil YY.mk
end
section
variable {P:AK} {o:AM} {env:Env} {H:Qc}
theorem Q?{ro:Nat->Prop}{σ:Ce}{w:AJ}(g:GP w){b:Nat}{zs:AA Int}(h:M4[b]?=AC zs):∀(i:Nat),CR ro σ w b ((zs.drop i).map (A.int .i64)) i:=by
 intro i;generalize hl:zs.drop i=l
 induction l generalizing i with
 |nil=>trivial
 |cons z l f=>
  have j:zs[i]?=AC z:=by
   have:=congrArg (·[0]?) hl
   grind
  have d:zs.drop (i+1)=l:=by
   rw[<- List.drop_drop,hl];rfl
  exact⟨⟨_,g.tab b zs h i z j,by simp[QC],rfl⟩,f (i+1) d⟩
theorem su{n g:Nat}{zs:AA Int}(h:∀w,(isAgg t).run P w=.ok AE w)(q:∀w,(sizeOf t).run P w=.ok n w)(hg:M4[g]?=AC zs)(m:zs.length=n)(f:o.op=.load t (.global g):=by rfl):
  CS P o env H (.agg (zs.map (A.int .i64))):=by
 intro y ro σ N a w r;obtain⟨l,d,_,x⟩:=YE (P:=P) 0 (by simpa using Q? (ro:=ro) (σ:=σ) r.sim.roOk.gp hg 0);refine⟨.agg l.toArray,?_,l,rfl,d⟩;have j:a.eval (.global g)=.pointer (AC ⟨g,0,AF⟩):=rfl
 simp_all[execOp,Instr.loadAt,Instr.sureAddr,loadVar,loadCells]
end
open Go.Proofs
variable {cells:α->AA A}{h:Nat}
section
variable {P:AK}
def aA(agg:Bool)(l:AA AL):AL:=bif agg then .agg l.toArray else l.headD .nilFunc
structure I3 (P:AK) (t:TypeId) (h k:Nat) (agg:Bool) (ok:List AL->Prop):Prop where
 len:∀l,ok l->l.length=k
 ia:∀w,(isAgg t).run P w=.ok agg w
 so:∀w,(sizeOf t).run P w=.ok k w
 eq:∀(w:AJ) (d:Nat) (l m:List AL),ok l->ok m->∃b:Bool,(Op.equalIn (d+h) t (aA agg l) (aA agg m)).run P w=.ok b w/\(b=AE↔l=m)
structure Cs (P:AK) (fs:List Field) (h off k:Nat) (ok:List AL->Prop):Prop where
 len:∀l,ok l->l.length=k
 eq:∀(w:AJ) (d:Nat) (p q l m:List AL),p.length=off->q.length=off->ok l->ok m->∃b:Bool,(Op.eqFields (d+h) (p++l).toArray (q++m).toArray fs).run P w=.ok b w/\(b=AE↔l=m)
theorem I3.int{t:TypeId}{k:IntKind}(j:P.underlying t=AC (.int k))(f:∀w,(isAgg t).run P w=.ok AD w)(g:∀w,(sizeOf t).run P w=.ok 1 w)(h:Nat):I3 P t (h+1) 1 AD (λl=>∃n:Int,l=[.int k n]):=by
 refine⟨?_,f,g,?_⟩
 .simp
 .rintro w d _ _ ⟨n,rfl⟩ ⟨m,rfl⟩;exact⟨_,run_equalIn_int w (d+h) t k k n m j,sq⟩
theorem I3.bool{t:TypeId}(j:P.underlying t=AC .bool)(f:∀w,(isAgg t).run P w=.ok AD w)(g:∀w,(sizeOf t).run P w=.ok 1 w)(h:Nat):I3 P t (h+1) 1 AD (λl=>∃n:Bool,l=[.bool n]):=by
 refine⟨?_,f,g,?_⟩
 .simp
 .rintro w d _ _ ⟨n,rfl⟩ ⟨m,rfl⟩;exact⟨_,run_equalIn_bool' w (d+h) t n m j,sq⟩
theorem Cs.nil(h d:Nat):Cs P [] h d 0 (λl=>l=[]):=by
 refine⟨?_,?_⟩
 .simp
 simp_all[Op.eqFields]
theorem sQ{t:TypeId}{agg:Bool}{w:AJ}(g:∀w,(isAgg t).run P w=.ok agg w)(m:∀w,(sizeOf t).run P w=.ok k w)(p d j:AA AL)(h:d.length=k)(f:agg=AD->k=1):
  (part t (p++(d++j)).toArray p.length).run P w=.ok (aA agg d) w:=by
 unfold part;cases agg with
 |true=>
  simp_all[aA]
 |false=>
  have:=f rfl;subst this
  match d,h with
  |[v],_=>simp[g,aA]
theorem Cs.cons{f:Field}{fs:AA Field}{j x N:Nat}{agg:Bool}{m t:AA AL->Prop}(ho:Nat.beq f.offset j=AE)(Y:f.name≠"_")(g:I3 P f.type h x agg m)(M:agg=AD->x=1)(J:Cs P fs h (j+x) N t):
  Cs P (f::fs) h j (x+N) (λl=>∃l1 l2,l=l1++l2/\m l1/\t l2):=by
 have F:f.offset=j:=(by simp_all);refine⟨?_,?_⟩
 .rintro _ ⟨l1,l2,rfl,a,b⟩;rw[X2,g.len _ a,J.len _ b]
 .rintro w d p q _ _ G O ⟨l1,l2,rfl,E,a2⟩ ⟨B,H,rfl,y,W⟩;have Q:=sQ (w:=w) g.ia g.so p l1 l2 (g.len _ E) M;have T:=sQ (w:=w) g.ia g.so q B H (g.len _ y) M;rw[G]at Q;rw[O]at T;obtain⟨L,e3,f3⟩:=g.eq w d l1 B E y;obtain⟨X,R,f4⟩:=J.eq w d (p++l1) (q++B) l2 H (by rw[X2,G,g.len _ E]) (by rw[X2,O,g.len _ y]) a2 W;rw[Vi,Vi]at R;have V:l1.length=B.length:=by rw[g.len _ E,g.len _ y]
  refine⟨L&&X,?_,?_⟩
  .cases L<;>simp[Op.eqFields,Y,F,Q,T,e3,R]
  .rw[XV,f3,f4];constructor
   .grind
   .intro e;exact List.append_inj e V
theorem I3.struct{t:TypeId}{h k:Nat}{ok:AA AL->Prop}(x:P.underlying t=AC (.struct (P.fieldsOf t)))(B:P.stoodInHeld t=AD)(j:∀w,(isAgg t).run P w=.ok AE w)(g:∀w,(sizeOf t).run P w=.ok k w)(f:Cs P (P.fieldsOf t).toList h 0 k ok):I3 P t (h+1) k AE ok:=by
 refine⟨f.len,j,g,λw d l m a b=>?_⟩;obtain⟨r,y,q⟩:=f.eq w d [] [] l m rfl rfl a b;refine⟨r,?_,q⟩;show(Op.equalIn (d+h+1) t (.agg l.toArray) (.agg m.toArray)).run P w=_
 grind[run_equalIn_agg]
theorem QS{t:TypeId}{fs:Array Field}{ok:AA AL->Prop}(g:P.underlying t=AC (.struct fs))(j:P.stoodInHeld t=AD)(m:∀w,(isAgg t).run P w=.ok AE w)(d:∀w,(sizeOf t).run P w=.ok k w)(f:Cs P fs.toList h 0 k ok):I3 P t (h+1) k AE ok:=by
 grind[Program.fieldsOf,I3.struct]
structure W6 (P:AK) (t:TypeId) {α:Type} (cells:α->List A):Prop where
 scl:∀x,L2 (cells x)=AE
 inj:∀x y,YZ (cells x)=YZ (cells y)->x=y
 guard:P.eqGuardType P.depth t=AD
 eq:∀(w:AJ) x y,∃b:Bool,(Op.equalIn 10000 t (.agg (YZ (cells x)).toArray) (.agg (YZ (cells y)).toArray)).run P w=.ok b w/\(b=AE↔YZ (cells x)=YZ (cells y))
theorem iK{ok:AA AL->Prop}(E:I3 P t h k AE ok)(g:Nat.ble h 10000=AE)(d:∀x,ok (YZ (cells x)))(f:∀x,L2 (cells x)=AE)(hi:∀x y,YZ (cells x)=YZ (cells y)->x=y)(hg:P.eqGuardType P.depth t=AD):W6 P t cells:=by
 refine⟨f,hi,hg,λw x y=>?_⟩;have:=E.eq w (10000-h) (YZ (cells x)) (YZ (cells y)) (d x) (d y)
 rwa [show 10000-h+h=10000 by simp_all]at this
variable {o:AM} {env:Env} {H:Qc}
theorem iQ{α:Type}[DecidableEq α]{cells:α->AA A}{t u:TypeId}{x y:Operand}{p q:α}(E:W6 P t cells)(M:CP env x=.agg (cells p))(F:CP env y=.agg (cells q))(j:o.op=.binOp .eql t x y u:=by rfl):CS P o env H (.bool (p==q)):=by
 intro Q O σ N a w r;have h:=Qp r x;have g:=Qp r y;rw[M]at h;rw[F]at g;have m:=VR.val (a:=.agg (cells p)) (E.scl p) h;have L:=VR.val (a:=.agg (cells q)) (E.scl q) g;obtain⟨b,B,G⟩:=E.eq w p q;have J:b=(p==q):=by
  rw[XX,G,Vx];exact⟨E.inj p q,λe=>by rw[e]⟩
 refine⟨.bool (p==q),?_,rfl⟩;rw[<- J];generalize a.eval=ρ at*;have f:ρ x=.agg (YZ (cells p)).toArray:=m;have d:ρ y=.agg (YZ (cells q)).toArray:=L;simp[j,f,d,go_sem,run_eqGuard_agg _ _ _ _ _ _ _ E.guard,B]
theorem sr{α:Type}[DecidableEq α]{cells:α->AA A}{t u:TypeId}{x y:Operand}{p q:α}(E:W6 P t cells)(M:CP env x=.agg (cells p))(F:CP env y=.agg (cells q))(j:o.op=.binOp .neq t x y u:=by rfl):CS P o env H (.bool (p != q)):=by
 intro Q O σ N a w r;have h:=Qp r x;have g:=Qp r y;rw[M]at h;rw[F]at g;have m:=VR.val (a:=.agg (cells p)) (E.scl p) h;have L:=VR.val (a:=.agg (cells q)) (E.scl q) g;obtain⟨b,B,G⟩:=E.eq w p q;have J:b=(p==q):=by
  rw[XX,G,Vx];exact⟨E.inj p q,λe=>by rw[e]⟩
 refine⟨.bool (p != q),?_,rfl⟩;rw[bne, <- J];generalize a.eval=ρ at*;have f:ρ x=.agg (YZ (cells p)).toArray:=m;have d:ρ y=.agg (YZ (cells q)).toArray:=L;simp[j,f,d,go_sem,run_eqGuard_agg _ _ _ _ _ _ _ E.guard,B]
end
end
section
structure dm (g g':Nat->Prop) (W W':AJ):Prop where
 sub:∀b,g b->g' b
 new:∀b,g' b->g b\/W.heap.size<=b
 lt:∀b,g' b->b<W'.heap.size
 all:∀b,W.heap.size<=b->b<W'.heap.size->g' b
 keep:∀b,b<W.heap.size->¬g b->W'.heap[b]?=W.heap[b]?
 size:W.heap.size<=W'.heap.size
 shape:∀b x,W.shape? b=AC x->W'.shape? b=AC x
 os:W'.os=W.os
 tape:W'.tape=W.tape
 output:W'.output=W.output
 drawn:W.drawn<=W'.drawn
abbrev Jv(T:Type):=AA T->(Nat->Prop)->(Nat->Prop)->AJ->Prop
structure o_ {T:Type} (J:Jv T):Prop where
 ev:∀rem q g W W' ro',J rem q g W->Ql g q W ro' W'->J rem q g W'
 up:∀rem q g g' W,J rem q g W->(∀b,g b->g' b)->(∀b,g' b->b<W.heap.size)->J rem q g' W
variable {W':AJ}{fr g ro:Nat->Prop}{σ:Ce}
theorem CZ.round{g':Nat->Prop}{H:Qc}{W:AJ}(s:CZ fr ro σ H W)(f:∀b,g b->fr b)(k:dm g g' W W'):CZ (λb=>fr b\/g' b) ro σ H W'/\Ql (λb=>b<W.heap.size/\ ¬g b) ro W ro W':=by
 have hro:=λb q=>k.keep b (s.roLt b q) (λr=>s.roFr b q (f b r));have t:DR ro σ W ro σ W':=by
  have ev:Ql (λ_=>False) ro W ro W':=⟨λ_ q=>q,hro,λ_ q=>q.elim,k.size,k.shape,k.os,k.tape,k.output,k.drawn⟩;have:=ev.ext σ []
  grind
 refine⟨⟨s.len,s.roOk.to (λ_ q=>q) hro (λb q=>Vf (s.roLt b q) k.size),λb q=>q.elim (λq=>Vf (s.frLt b q) k.size) (k.lt b),λb q r=>?_,λi b x h m M=>?_,s.inj,λi y x h m=>?_,
  s.hidTo (· = ·) Yq k.size sq (λi b x c h m M O=>O.elim id λq=>(k.new c q).elim (f c) λB=>(by have:=(s.hid i b x c h m M).lt;omega)) λj d y F E P=>.inl ⟨j,y,rfl,F,E,id,λc q=>s.hidKeep F E (λz=>k.keep d (s.own j d y F E z).1 λr=>(s.own j d y F E z).2.2 (f d r)) hro q⟩⟩,
  ⟨λ_ q=>q,hro,λb q=>k.keep b q.1 q.2,k.size,k.shape,k.os,k.tape,k.output,k.drawn⟩⟩
 .rcases r with r|r
  .exact s.roFr b q r
  .rcases k.new b r with B|B
   .exact s.roFr b q (f b B)
   .have:=s.roLt b q;omega
 .obtain⟨J,N,G⟩:=s.own i b x h m M;refine⟨Vf J k.size,N,λr=>?_⟩;rcases r with r|r
  .exact G r
  .rcases k.new b r with B|B
   .grind
   .omega
 .refine(s.blk i y x h m).keep t ?_ ?_
  .rintro b rfl L;obtain⟨J,N,G⟩:=s.own i b x h m L;exact k.keep b J (λr=>G (f b r))
  .rintro b c rfl L;have q:=s.hid i b x c h m L;exact k.keep c q.lt (λr=>q.fr (f c r))
variable {T:Type}
def I?(J Jx:Jv T)(g ri:Nat->Prop)(W1:AJ)(rem:AA T):Ending->AJ->Prop:=λe W'=>
 ∃g' q',(∀b,q' b->ri b)/\dm g g' W1 W'/\((e=.returned (.bool AE)/\J rem q' g' W')\/(e=.returned (.bool AD)/\Jx rem q' g' W'))
structure FW (T:Type) where
 l:Nat
 J:Jv T
 Jx:Jv T
 enc:T->List A
 nx:List T->T->List T->Prop
structure FW.ok {T:Type} (X:FW T) (P:AK):Prop where
 b:o_ X.J
 bx:o_ X.Jx
 round:∀l x rem q g ri W1 vs,X.nx l x rem->X.J l q g W1->(∀b,q b->ri b)->(∀b,ri b->b<W1.heap.size/\ ¬g b)->LR ri [] W1 (X.enc x) vs->YieldAt Fence.wide 0 P X.l vs.toArray W1 (I? X.J X.Jx g ri W1 rem)
def RN(P:AK)(f:FuncId)(caps:AA A)(H:Qc)(enc:T->AA A)(nx:AA T->T->AA T->Prop)(xs:AA T):Prop:=
 ∀(X:FW T),X.enc=enc->X.nx=nx->X.ok P->∀fr ro σ w capv q,CZ fr ro σ H w->(∀b,q b->ro b)->LR ro σ w caps capv->X.J xs q fr w->
  Calls P f ((Value.func (.yield X.l) #[] #[]::capv)).toArray w λe W'=>(∃v,e=.returned v)/\ ∃g q',(∀b,fr b->g b)/\((X.J [] q' g W')\/(∃rem,X.Jx rem q' g W'))
inductive HQ (T:Type) where
 |on (rem:List T)
 |off (rem:List T)
def FW.J'(X:FW T):HQ T->(Nat->Prop)->(Nat->Prop)->AJ->Prop
 |.on rem=>X.J rem
 |.off rem=>X.Jx rem
def FW.at(X:FW T)(st:HQ T)(g ro:Nat->Prop)(W:AJ):Prop:=∃q,(∀b,q b->ro b)/\X.J' st q g W
variable {ro':Nat->Prop}{w w':AJ}
theorem Ql.roMono{ro0:Nat->Prop}(h:Ql fr ro w ro' w')(s:∀b,ro0 b->ro b):Ql fr ro0 w ro' w':=
 ⟨λb q=>h.sub b (s b q),λb q=>h.keepRo b (s b q),h.keepFr,h.size,h.shape,h.os,h.tape,h.output,h.drawn⟩
theorem FW.ok.ev{T:Type}{X:FW T}{P:AK}(h:X.ok P){f:HQ T}{g ro ro':Nat->Prop}{W W':AJ}(d:X.at f g ro W)(he:Ql g ro W ro' W'):X.at f g ro' W':=by
 obtain⟨q,j,d⟩:=d;refine⟨q,λb z=>he.sub b (j b z),?_⟩;cases f with
 |on rem=>exact h.b.ev rem q g W W' ro' d (he.roMono j)
 |off rem=>exact h.bx.ev rem q g W W' ro' d (he.roMono j)
theorem FW.ok.up{T:Type}{X:FW T}{P:AK}(h:X.ok P){f:HQ T}{g g' ro:Nat->Prop}{W:AJ}(d:X.at f g ro W)(hg:∀b,g b->g' b)(j:∀b,g' b->b<W.heap.size):X.at f g' ro W:=by
 obtain⟨q,m,d⟩:=d;refine⟨q,m,?_⟩;cases f with
 |on rem=>exact h.b.up rem q g g' W d hg j
 |off rem=>exact h.bx.up rem q g g' W d hg j
abbrev YR(T:Type):=LZ->Env->Qc->HQ T->Prop
structure In (g fr:Nat->Prop) (ds:List Deferred):Prop where
 sub:∀b,g b->fr b
 beside:∀D,({target:=.collected D,args:= #[]}:Deferred)∈ds->¬g D
def M6(X:FW T)(h0:Nat)(fr ro:Nat->Prop)(σ:Ce)(w:AJ)(N:Nat)(ds:AA Deferred)(Q:YR T):Exit->Act->AJ->Prop:=
 λe a' w'=>∃x env' H' st ro' σ' fr' g',Rq e x/\Q x env' H' st/\DN fr' ro' σ' H' env' N a' w'/\(X.at st g' ro' w'/\In g' fr' a'.defers)/\(∀b,ro b->ro' b)/\w.heap.size<=w'.heap.size/\σ'.take h0=σ.take h0/\C_ fr w ds fr' a'.defers
variable {N:Nat}
theorem M6.grow{T:Type}{X:FW T}{m:Nat}{d j:Nat->Prop}{σ1:Ce}{y:AJ}{B f:AA Deferred}{Q:YR T}{e:Exit}{a':Act}
  (h:M6 X m d j σ1 y N f Q e a' w')(W:∀b,ro b->j b)(E:w.heap.size<=y.heap.size)(J:σ1.take m=σ.take m)(hg:C_ fr w B d f):M6 X m fr ro σ w N B Q e a' w':=by
 obtain⟨x,g,H',L,q,σ',t,V,P,G,H,O,Y,M,R,F⟩:=h;exact⟨x,g,H',L,q,σ',t,V,P,G,H,O,gq,XU E M,R.trans J,hg.trans E F⟩
def Cy(X:FW T)(P:AK)(h0 N:Nat)(c:Code)(env:Env)(H:Qc)(st:HQ T)(Q:YR T):Prop:=
 X.ok P->∀rd fr ro σ a w g,DN fr ro σ H env N a w->X.at st g ro w/\In g fr a.defers->rd=AF->c.wpIn (WF rd) 0 P (M6 X h0 fr ro σ w N a.defers Q) a w
def FS(X:FW T)(P:AK)(h0 N:Nat)(all:Array AM)(l:AA AM)(env:Env)(H:Qc)(st:HQ T)(Q:YR T):Prop:=
 X.ok P->∀rd fr ro σ a w g,DN fr ro σ H env N a w->X.at st g ro w/\In g fr a.defers->rd=AF->FD P rd all (M6 X h0 fr ro σ w N a.defers Q) l a w
theorem In.later{fr':Nat->Prop}{ds d:AA Deferred}(h:In g fr ds)(f:∀b,fr b->b<w.heap.size)(hg:C_ fr w ds fr' d):In g fr' d:=by
 refine⟨λb q=>hg.sub b (h.sub b q),λD hD q=>?_⟩;rcases hg.ds _ hD with r|⟨D',e,r⟩
 .exact h.beside D r q
 .have:=by simpa using e
  have:=f D (h.sub D q);omega
section
variable {T:Type} {X:FW T} {P:AK} {h0 N:Nat} {c c':Code} {env:Env} {H:Qc} {st:HQ T} {Q:YR T}
theorem QmZ{q:AA Deferred}{e:Exit}{a':Act}(L:X.ok P)(h:H9 h0 fr ro σ w N q (λx env H=>Q x env H st) e a' w')(E:∀b,fr b->b<w.heap.size)(f:X.at st g ro w/\In g fr q):
  M6 X h0 fr ro σ w N q Q e a' w':=by
 obtain⟨x,d,H',j,σ',t,F,B,J,m,G,y⟩:=h;exact⟨x,d,H',st,j,σ',t,g,F,B,J,⟨L.ev f.1 (m.frMono f.2.sub),f.2.later E y⟩,m.sub,m.size,G,y⟩
theorem Cy.lift(h:TC P h0 N c env H (λx env H=>Q x env H st)):Cy X P h0 N c env H st Q:=
 λhX rd fr ro σ a w g r hj hrd=>Code.wpIn_mono (λe a' w' q=>QmZ hX q r.sim.frLt hj) (h rd fr ro σ a w r (hrd▸Zx))
def dE(X:FW T)(P:AK)(h0 N:Nat)(c:Code)(Q:YR T):YR T
 |.normal,env,H,st=>Cy X P h0 N c env H st Q
 |.exit id,env,H,st=>Q (.exit id) env H st
 |.ret,env,H,st=>Q .ret env H st
theorem Cy.seq(h:Cy X P h0 N c env H st (dE X P h0 N c' Q)):Cy X P h0 N (.seq c c') env H st Q:=by
 intro R O Y V σ a w g r hj hrd;refine wpIn_seq (Code.wpIn_mono ?_ (h R O Y V σ a w g r hj hrd));rintro e W T ⟨x,d,H',m,f,σ',j,G,t,y,L,B,F,M,E,J⟩;cases e with
 |normal=>
  obtain rfl:x=.normal:=t;exact Code.wpIn_mono (λe a w q=>q.grow F M E J) (y R O j f σ' W T G L B hrd)
 |exit id=>
  obtain rfl:x=.exit id:=t;exact⟨_,d,H',m,f,σ',j,G,rfl,y,L,B,F,M,E,J⟩
 |ret=>
  obtain rfl:x=.ret:=t;exact⟨_,d,H',m,f,σ',j,G,rfl,y,L,B,F,M,E,J⟩
 |_=>exact t.elim
theorem Cy.region{id:Nat}{l:AA AM}(h:FS X P h0 N l.toArray l env H st Q):Cy X P h0 N (.region id l.toArray AD) env H st Q:=
 λhX rd fr ro σ a w g r hj hrd=>wpIn_region_lit (h hX rd fr ro σ a w g r hj hrd)
theorem Cy.cond{x:Operand}{t:Bool}(B:CP env x=.bool t)(y:t=AE->Cy X P h0 N c env H st Q)(q:t=AD->Cy X P h0 N c' env H st Q):Cy X P h0 N (.cond x c c') env H st Q:=by
 intro j h m f σ a w g r hj hrd;have d:=Qp r x;rw[B]at d;exact wpIn_cond_split d (λe=>y e j h m f σ a w g r hj hrd) (λe=>q e j h m f σ a w g r hj hrd)
theorem FS.nil{all:Array AM}(h:Q .normal env H st):FS X P h0 N all [] env H st Q:=
 λhX rd fr ro σ a w g r hj hrd=>⟨_,env,H,st,ro,σ,fr,g,rfl,h,r,hj,λ_ q=>q,XS _,rfl,C_.refl _ _ _⟩
end
variable {P:AK}{Q:Exit->Act->AJ->Prop}{rd:AB Nat}
theorem QjD{o:AM}{a:Act}{K K':Act->AJ->Prop}{Q':Exit->Act->AJ->Prop}(j:∀a w,K a w->K' a w)(E:∀ch a w,Q (.panic ch) a w->Q' (.panic ch) a w)(t:∀a w,Q .outgrown a w->Q' .outgrown a w)
  {r:Result Next}(h:o.uponIn (WF rd) 0 P a K Q r):o.uponIn (WF rd) 0 P a K' Q' r:=by
 cases r with
 |ok x w=>
  cases x with
  |value v=>exact j _ _ h
  |skip=>exact j _ _ h
  |defer d=>exact j _ _ h
  |enter f g=>
   refine⟨h.1,CallsIn.mono h.2 ?_⟩;intro e B q;cases e with
   |returned v=>grind
   |panicked c=>grind
   |outgrown=>obtain⟨a,w,q⟩:=q;exact⟨a,w,t _ _ q⟩
  |row r g=>exact⟨h.1,RowsIn.mono h.2 λv B q=>j _ _ q⟩
  |round l f y assign m=>
   refine⟨h.1,RoundIn.mono h.2 ?_⟩;intro e B q;cases e with
   |returned v=>grind
   |panicked c=>grind
   |outgrown=>obtain⟨a,w,q⟩:=q;exact⟨a,w,t _ _ q⟩
  |_=>exact h
 |halt x w=>
  cases x with
  |panic v=>exact E _ _ _ h
  |_=>exact h
section
variable {T:Type} {X:FW T} {P:AK} {h0 N:Nat} {env:Env} {H:Qc} {st:HQ T} {Q:YR T}
theorem FS.step{all:Array AM}{o:AM}{rest:AA AM}(h:WO P h0 N all [o] env H (λx env' H'=>x=.normal/\FS X P h0 N all rest env' H' st Q)):FS X P h0 N all (o::rest) env H st Q:=by
 intro M B F y σ a w g r hj hrd;have go:∀f d,IM h0 F y σ w N a.defers (λx env' H'=>x=.normal/\FS X P h0 N all rest env' H' st Q) .normal f d->FD P B all (M6 X h0 F y σ w N a.defers Q) rest f d:=by
  rintro f d ⟨x,env',H',j,σ',m,h1,⟨_,O⟩,W,E,T,Y,R⟩;have G:X.at st g j d/\In g m f.defers:=⟨M.ev hj.1 (E.frMono hj.2.sub),by rw[Y];exact hj.2.later r.sim.frLt R⟩;have:=O M B m j σ' f d g W G hrd;exact YH (λe J L q=>(q.grow E.sub E.size T gq)) _ _ _ this
 have t:=h B F y σ a w r (hrd▸Zx);unfold FD wpListIn at t⊢;split
 .rename_i V;rw[Vs V]at t;refine⟨t.1,QjD (λJ L q=>?_) (λch J L q=>?_) (λJ L q=>?_) t.2⟩
  .unfold wpListIn at q
   grind
  .obtain⟨x,_,_,_,_,_,q,_⟩:=q;exact q.elim
  .obtain⟨x,_,_,_,_,_,q,_⟩:=q;exact q.elim
 simp_all[wpListIn]
theorem FS.yield{all:Array AM}{o:AM}{rest:AA AM}{d:Nat}{x:T}{R rem:AA T}(L:X.nx R x rem)(hg:Qz all o env AE)(G:o.dst=AC d)(hN:Nat.blt d N=AE)
  (J:∀fr ro σ a w,DN fr ro σ H env N a w->∃vs:AA AL,LR ro [] w (X.enc x) vs/\(execOp a.eval o).run P w=(Instr.yield X.l vs.toArray).run P w)
  (k:∀b,FS X P h0 N all rest (up env d (.bool b)) H (bif b then .on rem else .off rem) Q):FS X P h0 N all (o::rest) env H (.on R) Q:=by
 intro Y W fr ro σ a w g r hj hrd;obtain⟨vs,hv,he⟩:=J fr ro σ a w r;obtain⟨q,hq,O⟩:=hj.1;obtain⟨fn,tmps,assign,V,h1,h2⟩:=Y.round R x rem q g ro w vs L O hq (λb z=>⟨r.sim.roLt b z,λy=>r.sim.roFr b z (hj.2.sub b y)⟩) hv;have h3:=he.trans h1;unfold FD wpListIn;rw[Vs (YV hg r)];refine⟨λ_ _=>trivial,?_⟩;rw[ig h3 (λd e=>by cases e)];refine⟨λh=>by simp[WF,Fence.wide]at h,(RoundIn.mono h2 ?_)⟩;rintro e j ⟨m,F,B,t,f⟩;obtain⟨s',ev⟩:=r.sim.round hj.2.sub t;have M:d<N:=by simp_all
 have E:DR ro σ w ro σ j:=by have:=ev.ext σ [];grind
 have fin:∀b,X.at (bif b then .on rem else .off rem) m ro j->FD P W all (M6 X h0 fr ro σ w N a.defers Q) rest (a.put o.dst (.bool b)) j:=by
  intro b f;have hm:Iq (λb=>fr b\/m b) a.defers j:=r.defers.to λD G q1 q2=>⟨.inl q1,(t.keep D (r.sim.frLt D q1) (hj.2.beside D G)).trans q2⟩;have hi:In m (λb=>fr b\/m b) a.defers:=by
   refine⟨λb q=>.inr q,λD hD q=>?_⟩;rcases t.new D q with F|F
   .exact hj.2.beside D hD F
   .have:=r.sim.frLt D (r.defers.mark hD).1;omega
  have r':DN (λb=>fr b\/m b) ro σ H (up env d (.bool b)) N {a with tmps:=a.tmps.setIfInBounds d (.bool b)} j:=
   ⟨s',VR.up (fr:=fr) (λs=>(r.env s).mono E) (by rw[r.size];exact M) rfl,by simpa using r.size,hm⟩
  have:=k b Y W _ ro σ _ j m r' ⟨f,hi⟩ hrd;simp[G];refine YH (λe a2 w2 q=>q.grow (λ_ q=>q) t.size rfl ⟨λ_ q=>.inl q,λb q=>?_,λ_ q=>q,λ_ q=>.inl q⟩) _ _ _ this;rcases q with q|q
  .exact .inl q
  .rcases t.new b q with q|q
   .exact .inl (hj.2.sub b q)
   omega
 rcases f with⟨rfl,f⟩|⟨rfl,f⟩
 .exact fin AE ⟨F,B,f⟩
 .exact fin AD ⟨F,B,f⟩
end
def ft:YR T:=λx env H st=>(x=.normal\/x=.ret)/\(st=.on []\/ ∃rem,st=.off rem)
theorem uu{T:Type}{f:FuncId}{fn:Func}{c:Code}{caps:AA A}{H:Qc}{enc:T->AA A}{nx:AA T->T->AA T->Prop}{xs:AA T}
  (hf:P.funcs[f]?=AC fn)(hb:fn.body=AC c)(hN:fn.ntmps=N)(hA:Nat.ble (caps.length+1) N=AE)(hR:fn.results= #[])
  (h:∀X,X.enc=enc->X.nx=nx->Cy X P H.length N c (Kh 0 (.fn (.yield X.l) [] []::caps)) H (.on xs) ft):RN P f caps H enc nx xs:=by
 intro X hE hNx hX fr ro0 σ w capv q0 hs hq0 hl hj;have B:LR ro0 σ w (.fn (.yield X.l) [] []::caps) (Value.func (.yield X.l) #[] #[]::capv):=⟨_,_,rfl,⟨[],[],rfl,rfl,rfl⟩,hl⟩;have Y:=B.length;have ad:caps.length+1<=N:=by simp_all
 refine(callsIn_wide).1 (callsIn_of_wp_marks hf hb trivial (Code.wpIn_mono ?_ (h X hE hNx hX AF fr ro0 σ _ w fr ⟨hs,?_,?_,List.nodup_nil,λd t=>by cases t⟩ ⟨⟨q0,hq0,hj⟩,λ_ q=>q,λD hD=>by cases hD⟩ rfl)))
 .rintro e M V ⟨x,aa,H1,st,ac,σ1,ab,g1,W,⟨h2,Q⟩,m,⟨h4,j⟩,h5,h6,h7,h8⟩;have E:LeavesInM Fence.wide 0 P fn M.tmps (λe W'=>(∃v,e=.returned v)/\ ∃g q',(∀b,fr b->g b)/\((X.J [] q' g W')\/(∃rem,X.Jx rem q' g W'))) M.defers .returning V:=by
   refine JQ M.defers V m.defers.1 (λd t=>?_) (m.sim.frMono j.sub) (λw2 s2 y=>?_)
   .obtain⟨D,rfl,_⟩:=(h8.ds d t).resolve_left sq;obtain⟨O,q2⟩:=m.defers.mark t;exact⟨D,rfl,λq=>m.sim.roFr D q O,j.beside D t,λi x L R G=>(m.sim.own i D x L R G).2.2 O,λi d x L R G=>(m.sim.hid i d x D L R G).fr O,q2⟩
   .have F:=hX.up (hX.ev h4 y) (g':=λb=>g1 b\/fr b) (λb q=>.inl q) (λb q=>Vf (m.sim.frLt b (q.elim (j.sub b) (h8.sub b))) y.size);obtain⟨q9,_,F⟩:=F;refine⟨.tuple #[],by simp[results,hR],⟨_,rfl⟩,λb=>g1 b\/fr b,q9,λb q=>.inr q,?_⟩;rcases Q with rfl|⟨rem,rfl⟩
    .exact .inl F
    .exact .inr ⟨rem,F⟩
  cases e with
  |normal=>exact E
  |ret=>exact E
  |exit id=>
   obtain rfl:x=.exit id:=W
   grind
  |_=>exact W.elim
 .intro s;have:=eJ [] rfl B (Array.replicate (fn.ntmps-(Value.func (.yield X.l) #[] #[]::capv).toArray.size) undef) s
  grind
 grind
section
variable {T:Type} {X:FW T} {P:AK} {h0 N:Nat} {c c':Code} {env:Env} {H:Qc} {st:HQ T} {Q Q':YR T}
theorem Cy.mono(h:Cy X P h0 N c env H st Q)(t:∀x env H st,Q x env H st->Q' x env H st):Cy X P h0 N c env H st Q':=by
 intro q J F B σ a w g r hj hrd;refine Code.wpIn_mono ?_ (h q J F B σ a w g r hj hrd);rintro e O M ⟨x,d,H',j,f,σ',m,L,E,y,G⟩;exact⟨x,d,H',j,f,σ',m,L,E,t _ _ _ _ y,G⟩
theorem Cy.skip(h:Q .normal env H st):Cy X P h0 N .skip env H st Q:=Cy.lift (TC.skip h)
theorem Cy.ret(h:Q .ret env H st):Cy X P h0 N .ret env H st Q:=Cy.lift (TC.ret h)
theorem Cy.exit{id:Nat}(h:Q (.exit id) env H st):Cy X P h0 N (.exit id) env H st Q:=Cy.lift (TC.exit h)
def W8(id:Nat)(Q:YR T):YR T
 |.normal,env,H,st=>Q .normal env H st
 |.exit id',env,H,st=>bif Nat.beq id' id then Q .normal env H st else Q (.exit id') env H st
 |.ret,env,H,st=>Q .ret env H st
theorem Cy.block{id:Nat}(h:Cy X P h0 N c env H st (W8 id Q)):Cy X P h0 N (.block id c) env H st Q:=by
 intro O M J G σ a w g r hj hrd;refine wpIn_block (Code.wpIn_mono ?_ (h O M J G σ a w g r hj hrd));rintro e T R ⟨x,d,H',t,j,σ',m,F,B,y,E⟩;cases e with
 |normal=>
  obtain rfl:x=.normal:=B;exact⟨_,d,H',t,j,σ',m,F,rfl,y,E⟩
 |exit f=>
  obtain rfl:x=.exit f:=B;unfold Exit.inBlock;simp only[W8]at y;by_cases q:f=id
  .subst q;rw[VD,Vo]at y;simp;exact⟨.normal,d,H',t,j,σ',m,F,rfl,y,E⟩
  .have L:Nat.beq f id=false:=by
    cases e:Nat.beq f id with
    |false=>rfl
    |true=>simp_all
   rw[L,Vp]at y;simp[q];exact⟨.exit f,d,H',t,j,σ',m,F,rfl,y,E⟩
 |ret=>
  obtain rfl:x=.ret:=B;exact⟨_,d,H',t,j,σ',m,F,rfl,y,E⟩
 |_=>exact B.elim
end
section
variable {T:Type} {X:FW T} {P:AK} {h0 N:Nat} {c:Code} {env:Env} {H:Qc} {st:HQ T} {Q:YR T}
def Qnb(I:Env->Qc->HQ T->Prop)(Q:YR T):YR T
 |.normal,env,H,st=>I env H st
 |.exit id,env,H,st=>Q (.exit id) env H st
 |.ret,env,H,st=>Q .ret env H st
theorem sz{I:Nat->Env->Qc->HQ T->Prop}(body:∀n env H st,I n env H st->Cy X P h0 N c env H st (Qnb (λenv H st=>∃n',n'<n/\I n' env H st) Q)){n:Nat}(V:I n env H st):Cy X P h0 N (.loop c) env H st Q:=by
 intro hX rd M J σ a w g r hj hrd b k cs hro hb hr;have R:∀m n env H st fr1 ro1 σ1 a1 w1 g1,n<m->I n env H st->DN fr1 ro1 σ1 H env N a1 w1->(∀b,J b->ro1 b)->w.heap.size<=w1.heap.size->σ1.take h0=σ.take h0->C_ M w a.defers fr1 a1.defers->X.at st g1 ro1 w1/\In g1 fr1 a1.defers->
   ∃e j h,M6 X h0 M J σ w N a.defers Q e j h/\ArrivesIn (Machine.fenced P (WF rd)) P (lone (b.atR a1 (.code c::.inLoop c::k)) cs w1) b k cs e j h:=by
  intro m
  induction m with
  |zero=>omega
  |succ m ih=>
   intro n env H st fr1 ro1 σ1 a1 w1 g1 hn V r1 s1 z1 t1 gr1 j1;obtain⟨e,j,h,O,d⟩:=body n env H st V hX rd fr1 ro1 σ1 a1 w1 g1 r1 j1 hrd b (.inLoop c::k) cs hro hb hr;obtain⟨x,f,H',t,B,σ',F,g',L,G,q3,q4,q5,q6,Y,q8⟩:=O;have s2:=λb q=>q5 b (s1 b q);have E:=gr1.trans z1 q8;have hp:∀x,Q x f H' t->Rq e x->M6 X h0 M J σ w N a.defers Q e j h:=λx q q'=>⟨x,f,H',t,B,σ',F,g',q',q,q3,q4,s2,XU z1 q6,Y.trans t1,E⟩;cases e with
   |normal=>
    obtain rfl:x=.normal:=L;obtain⟨n',aa,G⟩:=G;obtain⟨e2,a2,w2,W,y⟩:=ih n' f H' t F B σ' j h g' om G q3 s2 (XU z1 q6) (Y.trans t1) E q4;exact⟨e2,a2,w2,W,.of_steps (StepsIn.trans d (.one (fenced_calm hb hr rfl) stepR_inLoop)) y⟩
   |exit id=>
    obtain rfl:x=.exit id:=L;exact⟨_,j,h,hp _ G rfl,.pass rfl (λ_ _=>.inl sq) d⟩
   |ret=>
    obtain rfl:x=.ret:=L;exact⟨_,j,h,hp _ G rfl,.pass rfl (λ_ _=>.inl sq) d⟩
   |_=>exact L.elim
 obtain⟨e,j,h,O,d⟩:=R (n+1) n env H st M J σ a w g (Xn _) V r (λ_ q=>q) (XS _) rfl (C_.refl _ _ _) hj;exact⟨e,j,h,O,.of_steps (.one (fenced_calm hb hr rfl) stepR_loop) d⟩
end
variable {Hc:Qc}
theorem CZ.part{H:Qc}(s0:CZ fr ro σ H w){π:AA Nat}(hH:π.map (λp=>H[p]?)=(Hc.map (Q1 (Ci π H.length))).map AC)(hπ:π.Nodup):
  CZ (λb=>fr b\/(∃i x,σ[i]?=AC (AC b)/\H[i]?=AC x/\x.live=AE/\i∉π)\/ ∃i x d,σ[i]?=AC (AC d)/\H[i]?=AC x/\Dq w x d b/\i∉π) ro (YI σ π) Hc w/\ ∀j:Nat,σ[Ci π H.length j]?=(YI σ π)[j]? :=by
 have hp:∀p∈π,p<H.length:=λp q=>Jr hH q;have hσl:=s0.len;have t:∀(j p:Nat),π[j]?=AC p->H[p]?=(Hc[j]?).map (Q1 (Ci π H.length)):=by
  intro j p B;have:=congrArg (λl=>l[j]?) hH
  grind
 have T:π.length=Hc.length:=by simpa using congrArg List.length hH
 have hσc:∀j:Nat,σ[Ci π H.length j]?=(YI σ π)[j]? :=by
  intro j;have:=iH (τ:=[]) hσl hp j
  grind
 have hπj:∀(j b:Nat),(YI σ π)[j]?=AC (AC b)->∃p,π[j]?=AC p/\σ[p]?=AC (AC b):=by
  intro j b B;simp only[YI,Xo]at B
  grind
 refine⟨?_,hσc⟩
 .refine⟨by simp[YI,T],s0.roOk,?_,?_,?_,?_,?_,?_⟩
  .rintro b (R|⟨i,x,f,m,g,W⟩|⟨i,x,d,f,m,g,W⟩)
   .exact s0.frLt b R
   .exact(s0.own i b x f m g).1
   .exact(s0.hid i d x b f m g).lt
  .rintro b R (V|⟨i,x,f,m,g,W⟩|⟨i,x,d,f,m,g,W⟩)
   .exact s0.roFr b R V
   .exact(s0.own i b x f m g).2.1 R
   .exact(s0.hid i d x b f m g).ro R
  .intro j b x f m g;obtain⟨p,h,L⟩:=hπj j b f;have M:H[p]?=AC (Q1 (Ci π H.length) x):=gq;obtain⟨o1,o2,o3⟩:=s0.own p b _ L M (by rw[QX];exact g);refine⟨o1,o2,?_⟩;rintro(V|⟨i,y,y1,y2,N,X⟩|⟨i,y,d,y1,y2,N,X⟩)
   .exact o3 V
   .have:=s0.inj i p b _ _ y1 L y2 M N (by rw[QX];exact g)
    grind
   .exact(s0.hid i d y b y1 y2 N).ne p b _ L M (by rw[QX];exact g) rfl
  .intro i j b x y f m g W q5 q6;obtain⟨p,h,L⟩:=hπj i b f;obtain⟨F,G,Y⟩:=hπj j b m;have M:H[p]?=AC (Q1 (Ci π H.length) x):=by rw[t i p h,g];rfl
   have aa:H[F]?=AC (Q1 (Ci π H.length) y):=by rw[t j F G,W];rfl
   have:=s0.inj p F b _ _ L Y M aa (by rw[QX];exact q5) (by rw[QX];exact q6);subst this;have O:i<π.length:=by
    rcases VA i π.length with q|q
    .exact q
    .rw[XN q]at h;simp at h
   have B:j<π.length:=by
    rcases VA j π.length with q|q
    .exact q
    .rw[XN q]at G;simp at G
   rw[XJ O]at h;rw[XJ B]at G;have E:=(XY h).trans (XY G).symm;rcases Nat.lt_trichotomy i j with q|q|q
   .exact(VC.1 hπ i j O B q E).elim
   .exact q
   .exact(VC.1 hπ j i B O q E.symm).elim
  .intro j s x f m;have B:j<π.length:=by
    rcases VA j π.length with q|q
    .exact q
    .rw[XN (by simpa[YI]using q)]at f;simp at f
   have h:π[j]?=AC π[j]:=XJ B;have M:H[π[j]]?=AC (Q1 (Ci π H.length) x):=by rw[t j _ h,m];rfl
   have L:σ[π[j]]?=AC s:=by
    have:=hσc j;rw[f]at this;simpa[Ci,h]using this
   exact(gd hσc).1 (s0.blk _ s _ L M)
  .intro j b x c f m g;obtain⟨p,h,L⟩:=hπj j b f;have M:H[p]?=AC (Q1 (Ci π H.length) x):=by rw[t j p h,m];rfl
   have k:=s0.hid p b _ c L M ((Ri _ _ _ _ _).2 g);refine⟨k.lt,k.ro,?_,?_,?_⟩
   .rintro(V|⟨i,y,y1,y2,N,X⟩|⟨i,y,d,y1,y2,N,X⟩)
    .exact k.fr V
    .exact k.ne i c y y1 y2 N rfl
    .obtain⟨rfl,rfl⟩:=k.one i d y y1 y2 N;exact X (VG h)
   .intro J Q y z1 z2 z3;obtain⟨F,P,f2⟩:=hπj J Q z1;exact k.ne F Q _ f2 (show H[F]?=AC (Q1 (Ci π H.length) y)by rw[t J F P,z2];rfl) (by rw[QX];exact z3)
   .intro J Q y z1 z2 z3;obtain⟨F,P,f2⟩:=hπj J Q z1;obtain⟨z4,z5⟩:=k.one F Q _ f2 (show H[F]?=AC (Q1 (Ci π H.length) y)by rw[t J F P,z2];rfl) ((Ri _ _ _ _ _).2 z3);subst z5;have O:J<π.length:=(XK.1 P).1;have B:j<π.length:=(XK.1 h).1;rw[XJ O]at P;rw[XJ B]at h;have E:=(XY P).trans (XY h).symm;refine⟨z4,?_⟩;rcases Nat.lt_trichotomy J j with q|q|q
    .exact(VC.1 hπ J j O B q E).elim
    .exact q
    .exact(VC.1 hπ j J B O q E.symm).elim
theorem CZ.frames{fr':Nat->Prop}{H:Qc}(s:CZ fr ro σ H w)(lt:∀b,fr' b->b<w.heap.size)(hro:∀b,ro b->¬fr' b)(own:∀(i b:Nat) (x:CW),σ[i]?=AC (AC b)->H[i]?=AC x->x.live=AE->¬fr' b)
  (hd:∀(i b:Nat) (x:CW) (c:Nat),σ[i]?=AC (AC b)->H[i]?=AC x->Dq w x b c->¬fr' c):CZ fr' ro σ H w:=
 ⟨s.len,s.roOk,lt,hro,λi b x q1 q2 q3=>⟨(s.own i b x q1 q2 q3).1,(s.own i b x q1 q2 q3).2.1,own i b x q1 q2 q3⟩,s.inj,s.blk,
  s.hidTo (· = ·) Yq (XS _) sq gq gq⟩
def gQ(H:Qc)(p:Nat):Qc:=match H[p]? with
 |some x=>bif x.holds then H.set p .dead else H
 |none=>H
def RY:Qc->AA Nat->Qc
 |H,[]=>H
 |H,p::π=>RY (gQ H p) π
theorem uX(H:Qc)(p:Nat):(gQ H p=H/\ ∀x,H[p]?=AC x->x.holds=AD)\/gQ H p=H.set p .dead:=by
 unfold gQ
 grind
theorem ly:∀(π:AA Nat) (H:Qc) (i:Nat) (x:CW),(RY H π)[i]?=AC x->x=.dead\/(H[i]?=AC x/\(x.holds=AE->i∉π))
 |[],H,i,x,h=>.inr ⟨h,λ_=>sq⟩
 |p::π,H,i,x,h=>by
  rcases ly π _ i x h with h|⟨h1,h2⟩
  .exact .inl h
  .rcases uX H p with⟨e,hl⟩|e
   .grind
   grind
theorem mb{fr ro:Nat->Prop}{σ:Ce}{w:AJ}:∀(π:AA Nat) {H:Qc} (s:CZ fr ro σ H w),CZ fr ro σ (RY H π) w
 |[],_,s=>s
 |p::π,H,s=>by
  rw[RY];rcases uX H p with h|h
  .rw[h.1];exact mb π s
  .rw[h];exact mb π (s.kill p)
theorem CZ.put{H:Qc}(s:CZ fr ro σ H w){b:Nat}{obj:Obj}(B:fr b)(L:w.shape? b=AF):
  CZ fr ro σ H (w.putObj b obj)/\Ql (λc=>c≠b) ro w ro (w.putObj b obj):=by
 have f:∀c,c≠b->(w.putObj b obj).heap[c]?=w.heap[c]? :=λc N=>World.putObj_heap_other N;have t:(w.putObj b obj).heap.size=w.heap.size:=sq;have M:∀c,ro c->c≠b:=λc q e=>s.roFr c q (e▸B);have ev:Ql (λc=>c≠b) ro w ro (w.putObj b obj):=by
  refine⟨λ_ q=>q,gq,λc q=>f c q,om,λc x q=>?_,rfl,rfl,rfl,XS _⟩
  grind[World.shape?]
 have m:DR ro σ w ro σ (w.putObj b obj):=by have:=ev.ext σ [];grind
 refine⟨⟨s.len,s.roOk.to (λ_ q=>q) ev.keepRo (λc q=>by rw[t];exact s.roLt c q),λc q=>by rw[t];exact s.frLt c q,s.roFr,λi c x h g J=>?_,s.inj,λi y x h g=>?_,
  s.hidTo (· = ·) Yq om sq sq λj d y F E R=>.inl ⟨j,y,rfl,F,E,id,λc q=>s.hidKeep F E (λz=>f d (λe=>(s.own j d y F E z).2.2 (e▸B))) ev.keepRo q⟩⟩,ev⟩
 .obtain⟨P,Q,O⟩:=s.own i c x h g J
  grind
 .refine(s.blk i y x h g).keep m ?_ ?_
  .rintro c rfl G;exact f c (λe=>(s.own i c x h g G).2.2 (e▸B))
  .rintro d c rfl G;exact f c (λe=>(s.hid i d x c h g G).fr (e▸B))
theorem m6{l:Nat}{r:Loop}(h:w.heap[l]?=AC (.loop r)):w.shape? l=none:=by
 unfold World.shape?;rw[h]
structure Rk where
 fr:Nat->Prop
 ro:Nat->Prop
 σ:Ce
 w:AJ
 h1:Nat
 env:Env
 tmps:Array AL
 ds1:List Deferred
 l:Nat
 rc:LoopState->Option Code->Loop
 fr1:Nat->Prop
structure Rk.Ok (D:Rk):Prop where
 sub:∀b,D.fr b->D.fr1 b
 l1:D.fr1 D.l
 lf:¬D.fr D.l
 len:D.σ.length=D.h1
structure RJ (D:Rk) (ro1:Nat->Prop) (σ1:Ce) (H:Qc) (st:LoopState) (pe:Option Code) (q g:Nat->Prop) (W:AJ):Prop where
 sim:CZ D.fr1 ro1 σ1 H W
 env:∀t,VR ro1 D.σ W (lk D.env t) (D.tmps.getD t undef)
 sig:σ1.take D.h1=D.σ
 ev:Ql D.fr D.ro D.w ro1 W
 marks:Iq D.fr1 D.ds1 W
 rc:W.heap[D.l]?=AC (.loop (D.rc st pe))
 roG:∀b,ro1 b->q b\/g b
 frG:∀b,D.fr1 b->g b
 own:∀(i b:Nat) (x:CW),σ1[i]?=AC (AC b)->H[i]?=AC x->x.live=AE->g b
 hidG:∀(i b:Nat) (x:CW) (c:Nat),σ1[i]?=AC (AC b)->H[i]?=AC x->Dq W x b c->g c
 lt:∀b,g b->b<W.heap.size
theorem ug{σ1:Ce}{d:Nat}(h:σ1.take d=σ){i b:Nat}(q:σ[i]?=AC (AC b)):σ1[i]?=AC (AC b):=by
 grind
variable {H':Qc}
section
variable {D:Rk} {ro1:Nat->Prop} {σ1:Ce} {H:Qc} {st:LoopState} {pe:AB Code} {qR g:Nat->Prop} {W:AJ}
theorem RJ.step(J:D.Ok)(j:RJ D ro1 σ1 H st pe qR g W)(e:Ql g qR W ro' W'):RJ D ro1 σ1 H st pe qR g W':=by
 have hro:=λb q=>(j.roG b q).elim (e.keepRo b) (e.keepFr b);have ev:Ql D.fr1 ro1 W ro1 W':=⟨λ_ q=>q,hro,λb q=>e.keepFr b (j.frG b q),e.size,e.shape,e.os,e.tape,e.output,e.drawn⟩;have m:∀σ,DR ro1 σ W ro1 σ W':=λ σ=>by have:=ev.ext σ [];grind
 refine⟨⟨j.sim.len,j.sim.roOk.to (λ_ q=>q) hro (λb q=>Vf (j.sim.roLt b q) e.size),λb q=>Vf (j.sim.frLt b q) e.size,j.sim.roFr,λi b x f h G=>?_,j.sim.inj,λi z x f h=>?_,
  j.sim.hidTo (· = ·) Yq e.size sq sq λi d y E B N=>.inl ⟨i,y,rfl,E,B,id,λc q=>j.sim.hidKeep E B (λz=>e.keepFr d (j.own i d y E B z)) hro q⟩⟩,
  λt=>(j.env t).mono (m _),j.sig,j.ev.trans (ev.frMono J.sub),j.marks.keep ev,(ev.keepFr _ J.l1).trans j.rc,j.roG,j.frG,j.own,λi b x c f h G=>j.hidG i b x c f h (j.sim.hidKeep f h (λz=>e.keepFr b (j.own i b x f h z)) hro G),λb q=>Vf (j.lt b q) e.size⟩
 .obtain⟨L,M⟩:=j.sim.own i b x f h G;exact⟨Vf L e.size,M⟩
 .refine(j.sim.blk i z x f h).keep (m _) ?_ ?_
  .rintro b rfl F;exact e.keepFr b (j.own i b x f h F)
  .rintro b c rfl F;exact e.keepFr c (j.hidG i b x c f h F)
theorem RJ.up{g':Nat->Prop}(j:RJ D ro1 σ1 H st pe qR g W)(h:∀b,g b->g' b)(hl:∀b,g' b->b<W.heap.size):RJ D ro1 σ1 H st pe qR g' W:=
 {j with roG:=λb q=>(j.roG b q).imp id (h b),frG:=λb q=>h b (j.frG b q),own:=λi b x q1 q2 q3=>h b (j.own i b x q1 q2 q3),hidG:=λi b x c q1 q2 q3=>h c (j.hidG i b x c q1 q2 q3),lt:=hl}
def Kk(D:Rk)(ro1 g:Nat->Prop)(W:AJ):Nat->Prop:=λb=>(D.fr1 b\/(¬g b/\ ¬ro1 b))/\b<W.heap.size
theorem RJ.simB(j:RJ D ro1 σ1 H st pe qR g W):CZ (Kk D ro1 g W) ro1 σ1 H W:=by
 refine j.sim.frames (λb q=>q.2) (λb q r=>?_) (λi b x h d f r=>?_) (λi b x c h d f r=>r.1.elim (j.sim.hid i b x c h d f).fr λr=>r.1 (j.hidG i b x c h d f))
 .rcases r.1 with r|r
  .exact j.sim.roFr b q r
  grind
 .rcases r.1 with r|r
  .exact(j.sim.own i b x h d f).2.2 r
  .exact r.1 (j.own i b x h d f)
theorem RJ.fin(L:D.Ok)(j:RJ D ro1 σ1 H st pe qR g W){G:Nat->Prop}{σ':Ce}{st':LoopState}{pe':AB Code}
  (ev:Ql (λb=>Kk D ro1 g W b/\b≠D.l) ro1 W ro' W')(s:CZ G ro' σ' H' W')(F:∀b,Kk D ro1 g W b->G b)(hσ:σ'.take D.h1=σ1.take D.h1)(N:W'.heap[D.l]?=AC (.loop (D.rc st' pe'))):
  RJ D ro' σ' H' st' pe' qR (λb=>g b\/(W.heap.size<=b/\b<W'.heap.size)) W'/\dm g (λb=>g b\/(W.heap.size<=b/\b<W'.heap.size)) W W':=by
 have y:∀b,D.fr1 b->Kk D ro1 g W b:=λb q=>⟨.inl q,j.sim.frLt b q⟩;have evf:=ev.frMono λb q=>⟨y b (L.sub b q),λe=>L.lf (e▸q)⟩;have hext:=ev.ext0 D.σ;have J:∀b,b<W.heap.size->b<W'.heap.size:=λb q=>Vf q ev.size;have h:∀b,b<W.heap.size->¬Kk D ro1 g W b->g b\/ro1 b:=by
  intro b f P;by_cases m:g b
  .exact .inl m
  .by_cases d:ro1 b
   .exact .inr d
   .exact absurd ⟨.inr ⟨m,d⟩,f⟩ P
 refine⟨⟨s.frames (λb q=>J b (j.sim.frLt b q)) (λb q r=>s.roFr b q (F b (y b r))) (λi b x m d E r=>(s.own i b x m d E).2.2 (F b (y b r))) (λi b x c m d E r=>(s.hid i b x c m d E).fr (F c (y c r))),
  λt=>(j.env t).mono hext,hσ.trans j.sig,j.ev.trans evf,j.marks.to λB _ e2 e3=>⟨e2,(ev.keepFr B ⟨y B e2,λe=>?_⟩).trans e3⟩,N,λb q=>?_,λb q=>.inl (j.frG b q),λi b x m d E=>?_,λi b x c m d E=>?_,λb q=>q.elim (λq=>J b (j.lt b q)) (λq=>q.2)⟩,
  ⟨λb q=>.inl q,gq,λb q=>q.elim (λq=>J b (j.lt b q)) (λq=>q.2),om,λb m d=>?_,ev.size,ev.shape,ev.os,ev.tape,ev.output,ev.drawn⟩⟩
 .subst e;rw[j.rc]at e3;cases e3
 .rcases VA b W.heap.size with f|f
  .rcases h b f (λr=>s.roFr b q (F b r))with r|r
   .grind
   .exact(j.roG b r).imp id .inl
  .exact .inr (.inr ⟨f,s.roLt b q⟩)
 .obtain⟨Q,O,M⟩:=s.own i b x m d E;rcases VA b W.heap.size with f|f
  .rcases h b f (λr=>M (F b r))with r|r
   .exact .inl r
   .exact absurd (ev.sub b r) O
  omega
 .have k:=s.hid i b x c m d E;rcases VA c W.heap.size with f|f
  .rcases h c f (λr=>k.fr (F c r))with r|r
   .exact .inl r
   .exact absurd (ev.sub c r) k.ro
  .exact .inr ⟨f,k.lt⟩
 .by_cases r:ro1 b
  .exact ev.keepRo b r
  .exact ev.keepFr b ⟨gq,λe=>d (j.frG b (e▸L.l1))⟩
end
theorem CZ.roAdd{d:Nat->Prop}{H:Qc}(s:CZ fr ro σ H w)(f:∀b,d b->b<w.heap.size)(g:∀b,d b->¬fr b)(m:∀(i b:Nat) (x:CW),σ[i]?=AC (AC b)->H[i]?=AC x->x.live=AE->¬d b)
  (t:∀(i b:Nat) (x:CW) (c:Nat),σ[i]?=AC (AC b)->H[i]?=AC x->Dq w x b c->¬d c):CZ fr (λb=>ro b\/d b) σ H w:=by
 have ext:DR ro σ w (λb=>ro b\/d b) σ w:=⟨λ_ q=>.inl q,λ_ _=>rfl,λ_ _ q=>q,λ_ _ q=>q⟩;refine⟨s.len,s.roOk.to (λ_ q=>.inl q) (λ_ _=>rfl) (λb q=>q.elim (s.roLt b) (f b)),s.frLt,λb q=>q.elim (s.roFr b) (g b),λi b x h j B=>?_,s.inj,λi y x h j=>(s.blk i y x h j).keep ext (λ_ _ _=>rfl) (λ_ _ _ _=>rfl),
  s.hidTo (· = ·) Yq (XS _) gq sq gq⟩
 obtain⟨F,G,E⟩:=s.own i b x h j B
 grind
theorem RJ.roAdd{D:Rk}{ro1:Nat->Prop}{σ1:Ce}{H:Qc}{st:LoopState}{pe:AB Code}{qR ri g:Nat->Prop}{W:AJ}(j:RJ D ro1 σ1 H st pe qR g W)(hq:∀b,qR b->ri b)(hI:∀b,ri b->b<W.heap.size/\ ¬g b):RJ D (λb=>ro1 b\/ri b) σ1 H st pe ri g W:=
 {j with
  sim:=j.sim.roAdd (λb q=>(hI b q).1) (λb q z=>(hI b q).2 (j.frG b z)) (λi b x q1 q2 q3 z=>(hI b z).2 (j.own i b x q1 q2 q3)) (λi b x c q1 q2 q3 z=>(hI c z).2 (j.hidG i b x c q1 q2 q3))
  env:=λt=>(j.env t).mono ⟨λ_ q=>.inl q,λ_ _=>rfl,λ_ _ q=>q,λ_ _ q=>q⟩
  ev:=j.ev.trans (Yf λ_ q=>.inl q)
  roG:=λb q=>q.elim (λq=>(j.roG b q).imp (hq b) id) .inl}
def dL:AA Nat->AA A->Env->Env
 |p::ps,a::zs,env=>dL ps zs (up env p a)
 |_,_,env=>env
def So:AA Nat->AA AL->Array AL->Array AL
 |p::ps,v::vs,t=>So ps vs (t.setIfInBounds p v)
 |_,_,t=>t
theorem td:∀(ps:AA Nat) (vs:AA AL) (t:Array AL),(So ps vs t).size=t.size
 |[],_,_=>rfl
 |_::_,[],_=>rfl
 |p::ps,v::vs,t=>by simp[So,td ps]
theorem ta:∀(ps:AA Nat) (vs:AA AL) (t:Array AL),(ps.toArray.zip vs.toArray).foldl (λt (p,v)=>t.setIfInBounds p v) t=So ps vs t
 |[],vs,t=>by rw[<- Array.foldl_toList,Array.toList_zip];rfl
 |p::ps,[],t=>by rw[<- Array.foldl_toList,Array.toList_zip];rfl
 |p::ps,v::vs,t=>by
  have:=ta ps vs (t.setIfInBounds p v);rw[<- Array.foldl_toList,Array.toList_zip]at this⊢;exact this
theorem qm{ro:Nat->Prop}{σ:Ce}{w:AJ}:∀(ps:AA Nat) (zs:AA A) (vs:AA AL) (env:Env) (t:Array AL),LR ro σ w zs vs->(∀p∈ps,p<t.size)->(∀s,VR ro σ w (lk env s) (t.getD s undef))->
  ∀s,VR ro σ w (lk (dL ps zs env) s) ((So ps vs t).getD s undef)
 |[],_,_,_,_,_,_,h=>h
 |p::ps,[],vs,_,_,hv,_,h=>by
  obtain rfl:vs=[]:=hv;exact h
 |p::ps,a::zs,vs,env,t,hv,hp,h=>by
  obtain⟨v,vs',rfl,h0,hv'⟩:=hv;have h1:=VR.up (fr:=λ_=>False) (a:={tmps:=t,defers:=[]}) h (hp p sq) h0;exact qm ps zs vs' (up env p a) (t.setIfInBounds p v) hv' (λq hq=>gq) h1
def pK(h1:Nat)(env:Env)(Q:Qy)(K:Qc->Prop):Qy
 |.normal,env',H'=>∃H2,Le h1 env' H' [] H2/\K H2
 |.exit id,env',H'=>∃H2,Le h1 env' H' [] H2/\Q (.exit id) env H2
 |.ret,env',H'=>∃H2,Le h1 env' H' [] H2/\Q .ret env H2
def ec(Q:Qy)(env:Env)(c:Code)(H:Qc):Prop:=(∃id,c=.exit id/\Q (.exit id) env H)\/(c=.ret/\Q .ret env H)
section
variable {D:Rk} {ro0:Nat->Prop} {σ1:Ce} {H:Qc} {qR ri g:Nat->Prop} {W:AJ} {P:AK} {N:Nat} {Q:Qy} {K:Qc->Prop}
theorem RJ.round{fn:FuncId}{ps:AA Nat}{assign body:Code}{df:Nat}{R:AA A}{vs:AA AL}(hD:D.Ok)(X:D.rc=λst pe=>{state:=st,pending:=pe,fn:=fn,tmps:=D.tmps,params:=ps.toArray,assign:=assign,body:=body,defers:=df})
  (hN:D.tmps.size=N)(ar:∀p∈ps,p<N)(ao:R.length=ps.length)(hq:∀b,qR b->ri b)(hI:∀b,ri b->b<W.heap.size/\ ¬g b)(af:LR ri [] W R vs)(j0:RJ D ro0 σ1 H .ready AF qR g W)
  (h:TC P D.h1 N assign (dL ps R D.env) H λe env1 H1=>e=.normal/\TC P D.h1 N body env1 H1 (pK D.h1 D.env Q K)):
  YieldAt Fence.wide 0 P D.l vs.toArray W λe W'=>∃g',dm g g' W W'/\((e=.returned (.bool AE)/\ ∃H2 ro2 σ2,K H2/\RJ D ro2 σ2 H2 .ready AF ri g' W')\/
   (e=.returned (.bool AD)/\ ∃H2 c ro2 σ2,ec Q D.env c H2/\RJ D ro2 σ2 H2 .done (AC c) ri g' W')):=by
 have aq:vs.length=R.length:=af.length;have j:=j0.roAdd hq hI;have F:LR (λb=>ro0 b\/ri b) σ1 W R vs:=af.mono ⟨λ_ q=>.inr q,λ_ _=>rfl,λ_ _ q=>q,λi b q=>by simp at q⟩;clear j0;generalize(λb=>ro0 b\/ri b)=ro1 at j F;have an:∀b,D.fr1 b->Kk D ro1 g W b:=λb q=>⟨.inl q,j.sim.frLt b q⟩;have O:=an _ hD.l1;have ab:=j.rc;have hy:=run_yield (P:=P) (r:=D.rc .ready AF) (args:=vs.toArray) ab gq;refine⟨fn,So ps vs D.tmps,assign,body,?_,?_⟩
 .grind[ta]
 .refine roundIn_of_wpIn trivial ?_;show Code.wpIn (WF (AC D.l)) 0 P _ _ _ _;have ae:∀s,VR ro1 σ1 W (lk D.env s) (D.tmps.getD s undef):=λs=>(j.env s).mono ⟨λ_ q=>q,λ_ _=>rfl,λ_ _ q=>q,λi b q=>ug j.sig q⟩;have am:KP (AC D.l) (Kk D ro1 g W) W:=λl e=>gq;have E:=h (AC D.l) (Kk D ro1 g W) ro1 σ1 {tmps:=So ps vs D.tmps,defers:=[]} W ⟨j.simB,qm ps R vs D.env D.tmps F gq ae,by simp[td,hN],List.nodup_nil,λd hd=>by cases hd⟩ am;refine Code.wpIn_mono ?_ E;rintro e a1 E ⟨x1,env1,H1,ro2,σ2,x,h1,⟨rfl,h2⟩,h3,h4,h5,h6⟩;cases e with
  |normal=>
   have ad:E.heap[D.l]?=AC (.loop (D.rc .ready AF)):=(h4.keepFr _ O).trans ab;refine⟨_,run_beginRound ad (by rw[X]),?_⟩;obtain⟨s2,J⟩:=h3.sim.put (obj:=.loop {D.rc .ready AF with state:=.busy}) (h6.sub _ O) (m6 ad);have ac:D.l<E.heap.size:=gq;have ai:(E.putObj D.l (.loop {D.rc .ready AF with state:=.busy})).heap[D.l]?=AC (.loop {D.rc .ready AF with state:=.busy}):=World.putObj_heap_same ac;generalize hw2:E.putObj D.l (.loop {D.rc .ready AF with state:=.busy})=w2 at*;have al:Iq x a1.defers w2:=h3.defers.to λB _ e2 e3=>⟨e2,(J.keepFr B (λe=>gq)).trans e3⟩;have r2:DN x ro2 σ2 H1 env1 N a1 w2:=⟨s2,λs=>(h3.env s).mono (J.ext0 σ2),h3.size,al⟩;have aa:x D.l:=h6.sub _ O;refine Code.wpIn_mono ?_ (h2 (AC D.l) x ro2 σ2 a1 w2 r2 (λl e=>gq));rintro e a3 G ⟨x3,ag,H3,M,σ3,T,g1,g2,g3,g4,g5,g6⟩;have y:G.heap[D.l]?=AC (.loop {D.rc .ready AF with state:=.busy}):=(g4.keepFr _ aa).trans ai;have L:∀(H2:Qc) (jump:AB Code),Le D.h1 ag H3 [] H2->∃v t,(Instr.endRound D.l jump).run P G=.ok v t/\v=.bool jump.isNone/\ ∃g',dm g g' W t/\ ∃f σ4,RJ D f σ4 H2 (if jump.isNone then .ready else .done) jump ri g' t:=by
    intro H2 jump m;obtain⟨f,σ4,r4,s4,t4⟩:=m T M σ3 N a3 G g3;refine⟨_,_,run_endRound jump y,rfl,?_⟩;have ak:T D.l:=g6.sub _ aa;obtain⟨s5,aj⟩:=r4.sim.put ak (m6 y);have Y:D.l<G.heap.size:=by rw[Vc]at y;exact y.1
    have ah:=World.putObj_heap_same (w:=G) (r:=D.l) (o:=.loop {{D.rc .ready AF with state:=.busy}with state:=if jump.isNone then .ready else .done,pending:=jump}) Y;have e1:Ql (λb=>Kk D ro1 g W b/\b≠D.l) ro1 W ro2 E:=h4.frMono λb q=>q.1;have e2:Ql (λb=>Kk D ro1 g W b/\b≠D.l) ro2 E ro2 w2:=J.frMono λb q=>q.2;have e3:Ql (λb=>Kk D ro1 g W b/\b≠D.l) ro2 w2 M G:=g4.frMono λb q=>h6.sub b q.1;have e4:Ql (λb=>Kk D ro1 g W b/\b≠D.l) M G f G:=Yf s4;have e5:=(((e1.trans e2).trans e3).trans e4).trans (aj.frMono λb (q:Kk D ro1 g W b/\b≠D.l)=>q.2);obtain⟨q1,q2⟩:=j.fin hD e5 s5 (λb q=>g6.sub b (h6.sub b q)) (by rw[t4,g5,h5]) (st':=if jump.isNone then .ready else .done) (pe':=jump) (by rw[ah,X]);exact⟨_,q2,f,σ4,q1⟩
   cases e with
   |normal=>
    obtain rfl:x3=.normal:=g1;obtain⟨H2,m,hK⟩:=g2;obtain⟨v,t,V,rfl,g',k2,f,σ4,k3⟩:=L H2 AF m;exact⟨_,t,V,g',k2,.inl ⟨rfl,H2,f,σ4,hK,k3⟩⟩
   |exit id=>
    obtain rfl:x3=.exit id:=g1;obtain⟨H2,m,hK⟩:=g2;obtain⟨v,t,V,rfl,g',k2,f,σ4,k3⟩:=L H2 (AC (.exit id)) m;exact⟨_,t,V,g',k2,.inr ⟨rfl,H2,_,f,σ4,.inl ⟨id,rfl,hK⟩,k3⟩⟩
   |ret=>
    obtain rfl:x3=.ret:=g1;obtain⟨H2,m,hK⟩:=g2;obtain⟨v,t,V,rfl,g',k2,f,σ4,k3⟩:=L H2 (AC .ret) m;exact⟨_,t,V,g',k2,.inr ⟨rfl,H2,_,f,σ4,.inr ⟨rfl,hK⟩,k3⟩⟩
   |_=>exact g1.elim
  |exit id=>cases h1
  |ret=>cases h1
  |_=>exact h1.elim
end
theorem CZ.beside{H:Qc}{m:AJ}(s:CZ fr ro σ H w)(ev:Ql fr ro w ro m)(f:∀b,b<w.heap.size->m.heap[b]?=w.heap[b]?):CZ (λb=>fr b\/(w.heap.size<=b/\b<m.heap.size)) ro σ H m:=by
 have hext:=ev.ext0 σ;refine⟨s.len,s.roOk.to (λ_ q=>q) ev.keepRo (λb q=>Vf (s.roLt b q) ev.size),λb q=>q.elim (λq=>Vf (s.frLt b q) ev.size) (λq=>q.2),λb q r=>?_,λi b x g h F=>?_,s.inj,λi z x g h=>?_,
  s.hidTo (· = ·) Yq ev.size sq (λi b x c g h F G=>G.elim id λq=>(by have:=(s.hid i b x c g h F).lt;omega)) λj d y B t N=>.inl ⟨j,y,rfl,B,t,id,λc q=>s.hidKeep B t (λz=>f d (s.own j d y B t z).1) ev.keepRo q⟩⟩
 .rcases r with r|r
  .exact s.roFr b q r
  .have:=s.roLt b q;omega
 .obtain⟨L,M,J⟩:=s.own i b x g h F
  grind
 .refine(s.blk i z x g h).keep hext ?_ ?_
  .rintro b rfl E;exact f b (s.own i b x g h E).1
  .rintro b c rfl E;exact f c (s.hid i b x c g h E).lt
theorem iT{o:Obj}{b:Nat}(d:b<w.heap.size):(w.alloc o).heap[b]?=w.heap[b]? :=by
 show(w.heap.push o)[b]?=_
 grind
theorem Qo6{fn:FuncId}{tmps:Array AL}{ps:Array Tmp}{assign body:Code}(j:KP rd fr w)(L:∀b,ro b->b<w.heap.size)(B:∀b,fr b->b<w.heap.size):
  ∃l mark w1 df,(Instr.enterLoop fn tmps ps assign body rd).run P w=.ok (l,mark) w1/\w.heap.size<=l/\l<w1.heap.size/\w1.heap[l]?=AC (.loop {state:=.ready,pending:=AF,fn:=fn,tmps:=tmps,params:=ps,assign:=assign,body:=body,defers:=df})/\
   (∀b,b<w.heap.size->w1.heap[b]?=w.heap[b]?)/\mark.Nodup/\(∀d∈mark,∃D,d={target:=.collected D,args:= #[]}/\w.heap.size<=D/\D<w1.heap.size/\w1.heap[D]?=AC (.deferred (AC [])))/\Ql fr ro w ro w1:=by
 have g:∀w1,(∀b,b<w.heap.size->w1.heap[b]?=w.heap[b]?)->w.heap.size<=w1.heap.size->w1.os=w.os->w1.tape=w.tape->w1.output=w.output->w1.drawn=w.drawn->Ql fr ro w ro w1:=by
  intro w1 N E J F G M;refine⟨λ_ q=>q,gq,gq,E,λb x q=>?_,J,F,G,om⟩
  grind[World.shape?]
 cases rd with
 |none=>
  have f:∀b,b<w.heap.size->((w.alloc (.deferred (AC []))).alloc (.loop {state:=.ready,pending:=AF,fn:=fn,tmps:=tmps,params:=ps,assign:=assign,body:=body,defers:=w.heap.size})).heap[b]?=w.heap[b]? :=λb h=>
   (iT (by simp;omega)).trans (iT h)
  refine⟨_,_,_,w.heap.size,run_enterLoop_outer fn tmps ps assign body,om,sq,?_,f,sq,?_,g _ f (by simp;omega) rfl rfl rfl rfl⟩
  .grind[World.alloc_heap_new,World.size_alloc]
  .intro d t;obtain rfl:=Vz.1 t;exact⟨_,rfl,XS _,by simp;omega,(iT sq).trans (World.alloc_heap_new w _)⟩
 |some y=>
  obtain⟨_,m,H⟩:=j y rfl;have f:∀b,b<w.heap.size->(w.alloc (.loop {state:=.ready,pending:=AF,fn:=fn,tmps:=tmps,params:=ps,assign:=assign,body:=body,defers:=m.defers})).heap[b]?=w.heap[b]? :=λb h=>iT h;exact⟨_,_,_,m.defers,run_enterLoop_inner H fn tmps ps assign body,XS _,sq,World.alloc_heap_new w _,f,List.nodup_nil,sq,g _ f sq rfl rfl rfl rfl⟩
theorem TC.rangeFunc{P:AK}{h0 N:Nat}{ae:Operand}{ps:AA Nat}{assign body:Code}{env:Env}{H:Qc}{Q:Qy}{f:FuncId}{caps af:AA A}{Hc:Qc}{T S:Type}{enc:T->AA A}{nx:AA T->T->AA T->Prop}{xs:AA T}
  (π:AA Nat)(Hp:S->Qc)(V:S->AA T->Prop)(s0:S)(hh:h0<=H.length)(hg:CP env ae=.fn (.func f) [] caps)(hargs:caps=JJ (Ci π H.length) af)(hH:π.map (λp=>H[p]?)=(Hc.map (Q1 (Ci π H.length))).map AC)(hπ:π.Nodup)
  (a7:(ps.all λp=>Nat.blt p N)=AE)(eg:∀args w,(callFunc f args).run P w=.ok (.enter f args) w)(az:RN P f af Hc enc nx xs)(aq:∀x,(enc x).length=ps.length)
  (a9:Le H.length env (RY H π) env (Hp s0))(hV:V s0 xs)
  (ah:∀s l x rem,V s l->nx l x rem->TC P H.length N assign (dL ps (enc x) env) (Hp s) λe env1 H1=>e=.normal/\TC P H.length N body env1 H1 (pK H.length env Q λH2=>∃s',V s' rem/\H2=Hp s'))
  (ak:∀s,V s []->Q .normal env (Hp s)):TC P h0 N (.rangeFunc ae ps.toArray assign body) env H Q:=by
 intro rd fr ro σ a w r hrd;have hv:=Qp r ae;rw[hg]at hv;obtain⟨l1,L,hv,a2,ao⟩:=hv;obtain rfl:l1=[]:=a2;refine wpIn_rangeFunc ?_;intro fn bg;obtain⟨l,mark,Y,df,he,hl,be,ar,a0,a6,al,aa⟩:=Qo6 (P:=P) (fn:=fn) (tmps:=a.tmps) (ps:=ps.toArray) (assign:=assign) (body:=body) (ro:=ro) hrd r.sim.roLt r.sim.frLt;have s1:=r.sim.beside aa a0
 let D:Rk:=⟨fr,ro,σ,w,H.length,env,a.tmps,mark++a.defers,l,(λst pe=>{state:=st,pending:=pe,fn:=fn,tmps:=a.tmps,params:=ps.toArray,assign:=assign,body:=body,defers:=df}),(λb=>fr b\/(w.heap.size<=b/\b<Y.heap.size))⟩
 have ag:¬fr l:=λq=>by have:=r.sim.frLt l q;omega
 have hD:D.Ok:=⟨λb q=>.inl q,.inr ⟨hl,be⟩,ag,r.sim.len⟩;have ab:Iq D.fr1 (mark++a.defers) Y:=by
  refine⟨List.nodup_append.2 ⟨a6,r.defers.1,λd hd d' a4 e=>?_⟩,λd hd=>?_⟩
  .subst e;obtain⟨B,e1,e2,_⟩:=al d hd;have:=r.sim.frLt B (r.defers.mark (e1▸a4)).1;omega
  .rcases VB.1 hd with hd|hd
   .obtain⟨B,e1,e2,e3,e4⟩:=al d hd;exact .inl ⟨B,e1,.inr ⟨e2,e3⟩,e4⟩
   .exact(((r.defers.keep aa).to (fr':=D.fr1) λB _ e2 e3=>⟨.inl e2,e3⟩)).2 d hd
 obtain⟨sp,hσc⟩:=s1.part hH hπ;have an:LR ro (YI σ π) Y af L:=(Nw hσc).1 (hargs▸ao.mono (aa.ext0 σ))
 let frX:Nat->Prop:=λb=>D.fr1 b\/(∃(j:Nat) (x:CW),(YI σ π)[j]?=AC (AC b)/\Hc[j]?=AC x/\x.live=AE)\/ ∃(j:Nat) (x:CW) (d:Nat),(YI σ π)[j]?=AC (AC d)/\Hc[j]?=AC x/\Dq Y x d b
 have sX:CZ frX ro σ (RY H π) Y:=by
  refine(mb π s1).frames (λb q=>?_) (λb q r=>?_) (λi b x F E m r=>?_) (λi b x c F E m r=>?_)
  .rcases q with q|⟨j,x,F,E,m⟩|⟨j,x,d,F,E,m⟩
   .exact s1.frLt b q
   .exact(sp.own j b x F E m).1
   .exact(sp.hid j d x b F E m).lt
  .rcases r with r|⟨j,x,F,E,m⟩|⟨j,x,d,F,E,m⟩
   .exact s1.roFr b q r
   .exact(sp.own j b x F E m).2.1 q
   .exact(sp.hid j d x b F E m).ro q
  .rcases ly _ _ _ _ E with rfl|⟨E,hi⟩
   .cases m
   .rcases r with r|⟨j,y,p1,p2,p3⟩|⟨j,y,d,p1,p2,p3⟩
    .exact(s1.own i b x F E m).2.2 r
    .exact(sp.own j b y p1 p2 p3).2.2 (.inr (.inl ⟨i,x,F,E,m,hi (io m)⟩))
    .exact(sp.hid j d y b p1 p2 p3).fr (.inr (.inl ⟨i,x,F,E,m,hi (io m)⟩))
  .rcases ly _ _ _ _ E with rfl|⟨E,hi⟩
   .exact m.elim
   .rcases r with r|⟨j,y,p1,p2,p3⟩|⟨j,y,d,p1,p2,p3⟩
    .exact(s1.hid i b x c F E m).fr r
    .exact(sp.own j c y p1 p2 p3).2.2 (.inr (.inr ⟨i,x,b,F,E,m,hi m.holds⟩))
    .exact(sp.hid j d y c p1 p2 p3).fr (.inr (.inr ⟨i,x,b,F,E,m,hi m.holds⟩))
 have rX:DN frX ro σ (RY H π) env N {a with defers:=mark++a.defers} Y:=
  ⟨sX,λs=>(r.env s).mono (aa.ext0 σ),r.size,ab.to λB _ e2 e3=>⟨.inl e2,e3⟩⟩
 obtain⟨ad,σ',r',ac,bd⟩:=a9 frX ro σ N _ Y rX;have hσt:σ.take H.length=σ:=by rw[<- r.sim.len,X9]
 let g0:Nat->Prop:=λb=>D.fr1 b\/(ad b/\ ¬ro b)\/(∃(i:Nat) (x:CW),σ'[i]?=AC (AC b)/\(Hp s0)[i]?=AC x/\x.live=AE)\/ ∃(i:Nat) (x:CW) (d:Nat),σ'[i]?=AC (AC d)/\(Hp s0)[i]?=AC x/\Dq Y x d b
 have j0:RJ D ad σ' (Hp s0) .ready AF ro g0 Y:=by
  refine⟨r'.sim.frMono λb q=>.inl q,λt=>(r.env t).mono ⟨ac,aa.keepRo,aa.shape,λ_ _ q=>q⟩,bd.trans hσt,aa.trans (Yf ac),ab,ar,λb q=>?_,λb q=>.inl q,λi b x F E m=>.inr (.inr (.inl ⟨i,x,F,E,m⟩)),λi b x c F E m=>.inr (.inr (.inr ⟨i,x,b,F,E,m⟩)),λb q=>?_⟩
  .by_cases z:ro b
   .exact .inl z
   .exact .inr (.inr (.inl ⟨q,z⟩))
  .rcases q with q|q|⟨i,x,F,E,m⟩|⟨i,x,d,F,E,m⟩
   .exact s1.frLt b q
   .exact r'.sim.roLt b q.1
   .exact(r'.sim.own i b x F E m).1
   .exact(r'.sim.hid i d x b F E m).lt
 have sI:CZ g0 ro (YI σ π) Hc Y:=by
  refine sp.frames (λb q=>j0.lt b q) (λb q z=>?_) (λj b x F E m z=>?_) (λj b x c F E m z=>?_)
  .rcases z with z|z|⟨i,x,F,E,m⟩|⟨i,x,d,F,E,m⟩
   .exact s1.roFr b q z
   .exact z.2 q
   .exact(r'.sim.own i b x F E m).2.1 (ac b q)
   .exact(r'.sim.hid i d x b F E m).ro (ac b q)
  .have hX:frX b:=.inr (.inl ⟨j,x,F,E,m⟩);rcases z with z|z|⟨i,y,p1,p2,p3⟩|⟨i,y,d,p1,p2,p3⟩
   .exact(sp.own j b x F E m).2.2 (.inl z)
   .exact r'.sim.roFr b z.1 hX
   .exact(r'.sim.own i b y p1 p2 p3).2.2 hX
   .exact(r'.sim.hid i d y b p1 p2 p3).fr hX
  .have hX:frX c:=.inr (.inr ⟨j,x,b,F,E,m⟩);rcases z with z|z|⟨i,y,p1,p2,p3⟩|⟨i,y,d,p1,p2,p3⟩
   .exact(sp.hid j b x c F E m).fr (.inl z)
   .exact r'.sim.roFr c z.1 hX
   .exact(r'.sim.own i c y p1 p2 p3).2.2 hX
   .exact(r'.sim.hid i d y c p1 p2 p3).fr hX
 let X:FW T:={l:=l,J:=λrem q g W=>∃s M σ1,V s rem/\RJ D M σ1 (Hp s) .ready AF q g W,Jx:=λ_ q g W=>∃H2 c M σ1,ec Q env c H2/\RJ D M σ1 H2 .done (AC c) q g W,enc:=enc,nx:=nx}
 have aw:∀p∈ps,p<N:=λp hp=>by simpa using Xs.1 a7 p hp
 have hX:X.ok P:=by
  refine⟨⟨λrem q g W W' ad ⟨s,M,σ1,O,R⟩ he=>⟨s,M,σ1,O,R.step hD he⟩,λrem q g g' W ⟨s,M,σ1,O,R⟩ hg hl=>⟨s,M,σ1,O,R.up hg hl⟩⟩,
   ⟨λrem q g W W' ad ⟨H2,c,M,σ1,O,R⟩ he=>⟨H2,c,M,σ1,O,R.step hD he⟩,λrem q g g' W ⟨H2,c,M,σ1,O,R⟩ hg hl=>⟨H2,c,M,σ1,O,R.up hg hl⟩⟩,?_⟩
  rintro lr x rem q g ri W vs a5 ⟨s,M,σ1,O,R⟩ hq hI a3;obtain⟨bc,tm,ba,a8,y1,y2⟩:=RJ.round (D:=D) (Q:=Q) (K:=λH2=>∃s',V s' rem/\H2=Hp s') hD rfl r.size aw (aq x) hq hI a3 R (ah s lr x rem O a5);refine⟨bc,tm,ba,a8,y1,RoundIn.mono y2 ?_⟩;rintro e W' ⟨g',k1,k2⟩;refine⟨g',ri,λ_ z=>z,k1,?_⟩;rcases k2 with⟨rfl,H2,G,σ2,⟨s',bb,rfl⟩,k3⟩|⟨rfl,H2,c,G,σ2,k3,k4⟩
  .exact .inl ⟨rfl,s',G,σ2,bb,k3⟩
  .exact .inr ⟨rfl,H2,c,G,σ2,k3,k4⟩
 have ax:∀(ev:Operand->AL),ev ae=.func (.func f) #[] L.toArray->ev (.const (.func (.yield l) #[] #[]))=.func (.yield l) #[] #[]->(resolve ev (rangeCall ae l) 0).run P Y=.ok {target:=.fn (.func f) L.toArray,args:= #[.func (.yield l) #[] #[]]} Y:=by
  intro ev O R;simp[resolve,go_sem,O,R]
 refine⟨l,mark,Y,{target:=.fn (.func f) L.toArray,args:= #[.func (.yield l) #[] #[]]},Y,f, #[.func (.yield l) #[] #[]]++L.toArray,Y,he,ax a.eval hv rfl,λ_ _=>trivial,by simp[invoke,go_sem,eg],λh=>by simp[WF,Fence.wide]at h,?_⟩;refine WF.calls.2 ?_;have ai:=az X rfl rfl hX g0 ro (YI σ π) Y L ro sI (λ_ z=>z) an ⟨s0,ad,σ',hV,j0⟩;have aj:(#[.func (.yield l) #[] #[]]++L.toArray:Array AL)=((Value.func (.yield X.l) #[] #[]::L)).toArray:=by simp[X]
 rw[aj];refine Calls.mono ai ?_;rintro e W' ⟨⟨v,rfl⟩,g2,qz,bh,av⟩;have fin:∀(H2:Qc) (st:LoopState) (pe:AB Code) (G:Nat->Prop) (σ2:Ce),st≠ .busy->RJ D G σ2 H2 st pe qz g2 W'->∃w4,(Instr.endLoop l).run P W'=.ok pe w4/\DN D.fr1 G σ2 H2 env N {a with defers:=mark++a.defers} w4/\Ql fr ro w G w4:=by
  intro H2 st pe G σ2 hst j;refine⟨_,run_endLoop j.rc (by exact hst),?_⟩;obtain⟨s5,am⟩:=j.sim.put (obj:=.loop {(D.rc st pe)with state:=.exhausted}) hD.l1 (m6 j.rc);have hr:=j.rc;refine⟨⟨s5,λt=>((j.env t).mono ⟨λ_ q=>q,λ_ _=>rfl,λ_ _ q=>q,λi b q=>ug j.sig q⟩).mono (am.ext0 σ2),r.size,j.marks.to λB _ e2 e3=>⟨e2,(am.keepFr B (λe=>?_)).trans e3⟩⟩,j.ev.trans (am.frMono λb q e=>ag (by have e':b=l:=e;rw[<- e'];exact q))⟩;subst e;rw[hr]at e3;cases e3
 have a1:C_ fr w a.defers D.fr1 (mark++a.defers):=by
  refine⟨λb q=>.inl q,λb q=>q.imp id (λq=>q.1),λd hd=>List.mem_append_right _ hd,λd hd=>?_⟩;rcases VB.1 hd with hd|hd
  .obtain⟨B,e1,e2,_⟩:=al d hd;exact .inr ⟨B,e1,e2⟩
  .exact .inl hd
 have ay:∀{σ2:Ce},σ2.take H.length=σ->σ2.take h0=σ.take h0:=by
  intro σ2 h;have:=congrArg (List.take h0) h
  rwa [List.take_take,XA hh]at this
 rcases av with⟨s,G,σ2,O,R⟩|⟨rem,H2,c,G,σ2,O,R⟩
 .obtain⟨w4,f1,f2,f3⟩:=fin _ _ _ G σ2 (by intro e;cases e) R;exact⟨AF,w4,f1,.normal,env,_,G,σ2,_,rfl,ak s O,f2,f3,ay R.sig,a1⟩
 .obtain⟨w4,f1,f2,f3⟩:=fin _ _ _ G σ2 (by intro e;cases e) R;refine⟨AC c,w4,f1,?_⟩;have hc:TC P h0 N c env H2 Q:=by
   rcases O with⟨id,rfl,O⟩|⟨rfl,O⟩
   .exact TC.exit O
   .exact TC.ret O
  exact Code.wpIn_mono (λe a w q=>q.grow f3 (ay R.sig) a1) (hc rd D.fr1 G σ2 _ w4 f2 (hrd.to f3 λb q=>.inl q))
def dB(l:AA T)(x:T)(rem:AA T):Prop:=l.Perm (x::rem)
section
variable {P:AK} {T:Type} {ts tq te k tm:Nat} {g:FuncId} {es:AA (A×A)} {e:T->AA A} {ea:T->A} {xs:AA T}
end
variable {env':Env}{h0:Nat}
theorem Cy.le{T:Type}{X:FW T}{c:Code}{env:Env}{H:Qc}{x:HQ T}{Q:YR T}(j:Le h0 env H env' H')(h:Cy X P h0 N c env' H' x Q):Cy X P h0 N c env H x Q:=by
 intro L J y F σ a w g r hj hrd;obtain⟨d,σ',E,s,t⟩:=j y F σ N a w r;obtain⟨⟨B,G,f⟩,m⟩:=hj;exact Code.wpIn_mono (λe a w q=>q.grow s (XS _) t (C_.refl _ _ _)) (h L J y d σ' a w g E ⟨⟨B,gq,f⟩,m⟩ hrd)
mutual
theorem rV:∀{a:A},Ip a=AE->YL a=AE
 |.any,_=>rfl
 |.bool _,_=>rfl
 |.int _ _,_=>rfl
 |.str _,_=>rfl
 |.nilp,_=>rfl
 |.ptr _ _,h=>by simp[Ip]at h
 |.rp _,_=>rfl
 |.nils,_=>rfl
 |.rsl _ _,_=>rfl
 |.osl _ _ _ _,h=>by simp[Ip]at h
 |.agg cs,h=>by simp only[Ip]at h;simp only[YL];exact tZ h
 |.fn _ a c,h=>by simp[Ip]at h
 |.nilf,_=>rfl
 |.iface _ v,h=>by simp[Ip]at h
 |.nilif,_=>rfl
 |.map _,h=>by simp[Ip]at h
 |.nilm,_=>rfl
 |.tup vs,h=>by simp[Ip]at h
theorem tZ:∀{l:AA A},L2 l=AE->YK l=AE
 |[],_=>rfl
 |a::r,h=>by
  simp only[L2,XV]at h;simp only[YK,XV];exact⟨rV h.1,tZ h.2⟩
end
variable {y:Operand}
theorem rx{o:AM}{env:Env}{H:Qc}{z:Operand}{l:Nat}{a:A}{q:Array TypeId}(g:o.op=.call {callee:=.value y,args:= #[z],argTypes:=q})(m:CP env y=.fn (.yield l) [] [])(x:CP env z=a)(t:YL a=AE):
  ∀fr ro σ act w,DN fr ro σ H env N act w->∃vs:AA AL,LR ro [] w [a] vs/\(execOp act.eval o).run P w=(Instr.yield l vs.toArray).run P w:=by
 intro fr ro σ act w r;have d:=Qp r y;rw[m]at d;obtain⟨j,B,d,h,E⟩:=d;obtain rfl:j=[]:=h;have f:=Qp r z;rw[x]at f;refine⟨[act.eval z],⟨_,_,rfl,VR.data t f,rfl⟩,?_⟩;generalize act.eval=ev at*;simp[execOp,g,invoke,go_sem,d]
theorem QlJ{o:AM}{env:Env}{H:Qc}{g d:Operand}{l:Nat}{m q:A}{M:Array TypeId}(F:o.op=.call {callee:=.value y,args:= #[g,d],argTypes:=M})(L:CP env y=.fn (.yield l) [] [])(t:CP env g=m)(h:CP env d=q)(j:YL m=AE)(x:YL q=AE):
  ∀fr ro σ act w,DN fr ro σ H env N act w->∃vs:AA AL,LR ro [] w [m,q] vs/\(execOp act.eval o).run P w=(Instr.yield l vs.toArray).run P w:=by
 intro fr ro σ act w r;have f:=Qp r y;rw[L]at f;obtain⟨J,O,f,G,Q⟩:=f;obtain rfl:J=[]:=G;have B:=Qp r g;rw[t]at B;have E:=Qp r d;rw[h]at E;refine⟨[act.eval g,act.eval d],⟨_,_,rfl,VR.data j B,_,_,rfl,VR.data x E,rfl⟩,?_⟩;generalize act.eval=ev at*;simp[F,invoke,go_sem,f]
def pU(tm tb ty tk:Nat)(asg:Array AM)(ld:Op):Code:=
 (Code.region 0 #[{dst:=AC 4,op:=.load tm (.tmp 1),type:=tm,pos:="iter.go:27",after:= #[],guard:=AF},{dst:=AC 5,op:=.range tm (.tmp 4),type:=0,pos:="iter.go:27",after:= #[{on:=0,ground:=.data}],guard:=AF}] AD).seq
 (.block 0 (Code.loop ((Code.region 1 #[{dst:=AC 6,op:=.next (.tmp 5) AD,type:=0,pos:="iter.go:27",after:= #[],guard:=AF},{dst:=AC 7,op:=.extract (.tmp 6) 0,type:=tb,pos:="iter.go:27",after:= #[{on:=0,ground:=.data}],guard:=AF}] AD).seq
  ((Code.cond (.tmp 7) .skip (.exit 0)).seq (.block 1 ((Code.region 2 asg AD).seq
   ((Code.region 3 #[{dst:=AC 10,op:=.move (.tmp 0),type:=ty,pos:="iter.go:28",after:= #[],guard:=AF},{dst:=AC 11,op:=ld,type:=tk,pos:="iter.go:28",after:= #[],guard:=AF},
    {dst:=AC 12,op:=.call {callee:=.value (.tmp 10),args:= #[.tmp 11],argTypes:= #[tk]},type:=tb,pos:="iter.go:28",after:= #[{on:=0,ground:=.data},{on:=1,ground:=.data}],guard:=AF},
    {dst:=AC 13,op:=.unOp .not tb (.tmp 12),type:=tb,pos:="iter.go:28",after:= #[{on:=2,ground:=.data}],guard:=AF}] AD).seq (.cond (.tmp 13) .ret .skip))))))))
def _r(tk:Nat):Array AM:= #[{dst:=AC 8,op:=.entry (.tmp 5),type:=0,pos:="iter.go:27",after:= #[],guard:=AF},{dst:=AC 9,op:=.extract (.tmp 8) 0,type:=tk,pos:="iter.go:27",after:= #[{on:=0,ground:=.data}],guard:=AF},
 {dst:=AC 3,op:=.alloc tk,type:=0,pos:="iter.go:27",after:= #[],guard:=AF},
 {dst:=AF,op:=.store tk (.tmp 3) (.tmp 9),type:=0,pos:="iter.go:27",after:= #[{on:=2,ground:=.data},{on:=1,ground:=.data},{on:=0,ground:=.phase},{on:=1,ground:=.phase},{on:=2,ground:=.phase}],guard:=AF}]
variable {k:Nat}
section
variable {P:AK} {K V:Type} {tm tb ty tk kt et:Nat} {ek:K->A} {ev:V->A} {m:AA (K×V)} {T:Type}
abbrev oX(l:Nat):Env:=[(0,.fn (.yield l) [] []),(1,.ptr 0 0),(5,.ptr 2 0)]
abbrev oV(tm:Nat)(ek:K->A)(ev:V->A)(m l:AA (K×V)):Qc:=[.cells tm [.map 1],.fmap (Qo ek ev m),.iter AF (Qo ek ev l)]
theorem Qmn{g:FuncId}{fn:Func}{h:Array AM}{B:Op}(G:P.funcs[g]?=AC fn)(J:fn.body=AC (pU tm tb ty tk h B))(W:fn.ntmps=14)(R:fn.results= #[])(N:∀w,(isAgg tm).run P w=.ok AD w)(T:P.underlying tm=AC (.map kt et))(L:∀x,Ip (ek x)=AE)
  (round:∀(X:FW K) (e:K×V) (l:AA (K×V)) (env:Env) (H:Qc) (f:HQ K) (Q:YR K),lk env 0=.fn (.yield X.l) [] []->lk env 1=.ptr 0 0->lk env 5=.ptr 2 0->H=[.cells tm [.map 1],.fmap (Qo ek ev m),.iter (AC (ek e.1,ev e.2)) (Qo ek ev l)]->
   (∀env' H',lk env' 0=.fn (.yield X.l) [] []->lk env' 1=.ptr 0 0->lk env' 5=.ptr 2 0->(∀env2 b,lk env2 0=.fn (.yield X.l) [] []->lk env2 1=.ptr 0 0->lk env2 5=.ptr 2 0->Le 2 (up (up env2 12 (.bool b)) 13 (.bool (!b))) H' (oX X.l) (oV tm ek ev m l))->
    (∀pos env2,(∀s,s≠10->lk env2 s=lk env' s)->CS P {dst:=AC 11,op:=B,type:=tk,pos:=pos,after:= #[],guard:=AF} env2 H' (ek e.1))->Nat.ble 2 H'.length=AE->Q .normal env' H' f)->
   Cy X P 2 14 (.region 2 h AD) env H f Q):
  RN P g [.ptr 0 0] [.cells tm [.map 1],.fmap (Qo ek ev m)] (λx=>[ek x]) dB (m.map Prod.fst):=by
 refine uu G J W rfl R ?_;intro X hE hNx;refine Cy.seq (Cy.lift (TC.region ?_));refine Yr rfl rfl rfl (CS.load rfl N rfl (Df.cells rfl rfl)) (Zc (XQ rfl) rfl rfl rfl (tD T) ?_);refine WO.nil (Cy.block ?_);refine sz (I:=λn env H f=>∃l:AA (K×V),l.length=n/\f=.on (l.map Prod.fst)/\Le 2 env H (oX X.l) (oV tm ek ev m l)) ?_ ⟨m,rfl,rfl,Lr [0,1,2]⟩;rintro n env H f ⟨l,M,rfl,y⟩;refine Cy.le y (Cy.seq (Cy.lift (TC.region ?_)));refine gw (XQ rfl) rfl rfl rfl (S8.next rfl rfl rfl) ?_;rintro v H' (⟨t,rfl,rfl⟩|⟨e',Y,t,rfl,rfl⟩)
 .have hl:=List.map_eq_nil_iff.1 t;subst hl;refine Yr rfl rfl rfl (CS.extract rfl rfl rfl) (WO.nil ?_);exact Cy.seq (Cy.cond rfl (λe=>by cases e) (λ_=>(Cy.exit ⟨.inl rfl,.inl rfl⟩)))
 .obtain⟨O,E,F⟩:=tV t rfl;cases O with
  |nil=>cases F
  |cons e j=>
   obtain⟨rfl,rfl⟩:=F;have d:j.length<n:=by rw[<- M, <- E.length_eq];simp
   refine Yr rfl rfl rfl (CS.extract rfl rfl rfl) ?_;refine WO.nil (Cy.seq (Cy.cond rfl (λ_=>?_) (λe=>by cases e)));refine Cy.skip (Cy.block ?_);refine Cy.seq (round X e j _ _ _ _ rfl rfl rfl rfl ?_);intro env' H' g0 g1 g5 hfin hld hL;refine Cy.seq (Cy.region ?_);refine FS.step (Yr rfl rfl rfl (CS.move rfl g0) (WO.nil ⟨rfl,(FS.step (Yr rfl rfl rfl (hld _ _ λs q=>?_) (WO.nil ⟨rfl,?_⟩)))⟩))
   .simp[up,lk];have:Nat.beq s 10=false:=by rw[VL];intro z;exact q (XP z)
    rw[this];rfl
   refine FS.yield (x:=e.1) (rem:=j.map Prod.fst) ?_ rfl rfl rfl ?_ ?_
   .rw[hNx];exact E.symm.map Prod.fst
   .rw[hE];refine rx rfl ?_ ?_ (rV (L _))
    .rfl
    .rfl
   .intro b;refine FS.step (Yr rfl rfl rfl (CS.not rfl rfl) (WO.nil ⟨rfl,?_⟩));refine FS.nil (Cy.cond rfl (λq=>?_) (λq=>?_))
    .obtain rfl:b=false:=by simpa using q
     exact Cy.ret ⟨.inr rfl,.inr ⟨_,rfl⟩⟩
    .obtain rfl:b=true:=by simpa using q
     exact Cy.skip (⟨_,d,j,rfl,rfl,hfin _ AE g0 g1 g5⟩)
theorem Qs7{g:FuncId}{fn:Func}{e:K->AA A}{z:AL}{zv:A}{f:AA A}(R:P.funcs[g]?=AC fn)(V:fn.body=AC (pU tm tb ty tk (_r tk) (.load tk (.tmp 3))))(hN:fn.ntmps=14)(hR:fn.results= #[])(ha:∀w,(isAgg tm).run P w=.ok AD w)(hT:P.underlying tm=AC (.map kt et))
  (W:∀x,Ip (.agg (e x))=AE)(t:∀w,(isAgg tk).run P w=.ok AE w)(F:∀w,(zeroValue tk).run P w=.ok z w)(j:∀w,(sizeOf tk).run P w=.ok k w)(B:ZR zv z)(E:Yn zv=AE)(J:Yj zv=f)(N:f.all Yu=AE)(h:f.length=k)
  (M:∀x,(e x).length=k)(q:∀x,Yn (.agg (e x))=AE)(L:∀x,Yj (.agg (e x))=e x)(G:∀x,(e x).all Yu=AE):
  RN P g [.ptr 0 0] [.cells tm [.map 1],.fmap (Qo (λx=>.agg (e x)) ev m)] (λx=>[.agg (e x)]) dB (m.map Prod.fst):=by
 refine Qmn R V hN hR ha hT W ?_;intro X y l env H st Q g0 g1 g5 hH hc;subst hH;refine Cy.lift (TC.region ?_);refine Yr rfl rfl rfl (CS.entry rfl g5 rfl) (Yr rfl rfl rfl (CS.extract rfl rfl rfl) ?_);refine Zc sq rfl rfl rfl (eT F B rfl E J N) (kj sq rfl rfl (I6.store (cs':=e y.1) rfl rfl rfl j rfl (q _) (L _) (M _) (G _) (by simp[h]) (by simp[splice,h,M])) ?_);refine WO.nil (hc _ _ g0 g1 g5 ?_ ?_ rfl)
 .intro d b O Y T;exact Le.trans (sk (i:=2) rfl rfl) (Lr [0,1,2] (hE:=⟨O,Y,T,trivial⟩))
 .intro pos d he;exact Qt rfl t j (by show lk d 3=.ptr 3 0;rw[he 3 (by decide)];rfl) (Df.cells rfl rfl) gq (M _)
end
variable {d:AA A}
section
variable {P:AK} {o:AM} {env:Env} {H:Qc} {fr ro:Nat->Prop} {σ:Ce} {w:AJ}
theorem iL{i m T:Nat}(hH:H[i]?=AC (.cells T d)):Le h0 env H env (H.set i (.cells T (d.set m .any))):=by
 intro G E σ N a w r;refine⟨E,σ,⟨r.sim.weaken hH rfl ?_,r.env,r.size,r.defers⟩,λ_ q=>q,rfl⟩;intro y h;cases y with
 |none=>exact h
 |some b=>
  obtain⟨l,j,g,x⟩:=h;refine⟨l,j,?_,x⟩;clear j x hH
  induction d generalizing m l with
  |nil=>exact g
  |cons c d B=>
   obtain⟨v,f,rfl,F,t⟩:=g;cases m with
   |zero=>exact⟨v,f,rfl,trivial,t⟩
   |succ m=>exact⟨v,f,rfl,F,B f t⟩
theorem Df.ents{i d t e f g j:Nat}{l:AA fq}{x:fq}{cs':AA A}(he:l[e]?=AC x)(hH:H[i]?=AC (.ents t g j l):=by rfl)(ho:d=e*3+f:=by rfl)(hcs:(eC g j x).drop f=cs':=by rfl):Df H (.ptr i d) cs':=by
 intro J F σ w v s h;obtain⟨b,B,q⟩:=h;obtain⟨G,y,E⟩:=s.blk i _ _ B hH;have m:(l.map (eC g j))[e]?=AC (eC g j x):=by rw[Xo,he];rfl
 have:=((YT (pre:=[]) (by simpa using y) E).get e m).2.drop f;refine⟨b,d,q,?_⟩;rw[<- hcs,ho];simpa using this
end
section
variable {P:AK} {h0 N:Nat} {A B C:Code} {env:Env} {H:Qc} {Q:Qy}
end
variable {s t:Nat}
section
variable {P:AK} {o:AM} {env:Env} {H:Qc}
theorem uH{f g:Nat->AB (Nat×Nat)}:∀(parts:AA (Nat×AL)) (cs:Array AL),(∀p∈parts,f p.1=g p.1)->Instr.fill f cs parts=Instr.fill g cs parts
 |[],cs,_=>rfl
 |(i,v)::rest,cs,h=>by
  unfold Instr.fill;rw[h (i,v) sq];have ih:=λcs=>uH rest cs (λp hp=>h p (by simp[hp]));cases g i with
  |none=>rfl
  |some p=>
   simp;split
   .rfl
   .exact ih _
theorem Qh4{e n:Nat}{z:AL}{zs f:AA A}{parts:AA (Nat×Operand)}(F:∀w,(zeroValue t).run P w=.ok z w)(y:ZR (.agg zs) z)(G:∀w,(underlying t).run P w=.ok (.array n e) w)(L:∀w,(sizeOf e).run P w=.ok k w)
  (J:(parts.all λp=>Nat.blt p.1 n)=AE)(h:o.op=.build t parts.toArray:=by rfl)(hf:RX env ((List.range n).map λi=>(i*k,k)) zs parts=AC f:=by rfl):CS P o env H (.agg f):=by
 intro O E σ N a w r;obtain⟨l,rfl,B⟩:=y E σ w;obtain⟨d,x,M⟩:=mO r parts zs l f B hf;refine⟨.agg d.toArray,?_,d,rfl,M⟩;have m:Instr.fill (λi=>AC (i*k,k)) l.toArray (parts.map λp=>(p.1,a.eval p.2))=AC d.toArray:=by
  rw[<- x];refine uH _ _ ?_;intro p g;obtain⟨q,j,rfl⟩:=Xe.1 g;have hlt:=by simpa using Xs.1 J q j
  simp[hlt]
 simp[execOp,h,Instr.build,Vm,F,Result.andThen,G,L,XH,Vn,Value.cells,m]
def Jl(k:IntKind)(m n:Int):Int:=k.wrap (BitVec.ofInt k.bits m&&& BitVec.ofInt k.bits n).toNat
def Y8(k:IntKind)(m n:Int):Int:=m.fdiv (2^(min n.toNat k.bits))
theorem CS.and{t u:TypeId}{x y:Operand}{k:IntKind}{m n:Int}(f:o.op=.binOp .and t x y u)(h:CP env x=.int k m)(j:CP env y=.int k n):CS P o env H (.int k (Jl k m n)):=by
 intro B q σ N a w r;have d:=QY r h;have g:=QY r j;refine⟨_,?_,rfl⟩;generalize a.eval=ρ at*;simp[f,d,g,Op.intBits,go_sem,Jl]
theorem CS.shr{t u:TypeId}{x y:Operand}{k j:IntKind}{m n:Int}(d:o.op=.binOp .shr t x y u)(q:CP env x=.int k m)(g:CP env y=.int j n)(B:0<=n):CS P o env H (.int k (Y8 k m n)):=by
 intro F E σ N a w r;have h:=QY r q;have f:=QY r g;refine⟨_,?_,rfl⟩;generalize a.eval=ρ at*;simp[d,h,f,Op.shift,go_sem,Y8,Int.not_lt.2 B]
theorem Ye{i m T:Nat}(O:Nat.ble h0 H.length=AE)(hH:H[i]?=AC (.cells T d))(g:d[m]?=AC .nils):
  Le h0 env H env (H.set i (.cells T (d.set m (.osl H.length 0 0 k)))++[.row t k []]):=by
 intro P j σ N a w r;have hh':=XQ O;have hi:=(XK.1 hH).1;have ext:DR j σ w j (σ++[AF]) w:=⟨λ_ q=>q,λ_ _=>rfl,λ_ _ q=>q,λ_ _ h=>ik h⟩;have s:=r.sim.phantom t k;have f:(H++[CW.row t k []])[i]?=AC (.cells T d):=by rw[XL hi];exact hH
 have B:H.set i (.cells T (d.set m (.osl H.length 0 0 k)))++[.row t k []]=(H++[CW.row t k []]).set i (.cells T (d.set m (.osl H.length 0 0 k))):=by
  rw[List.set_append_left _ _ hi]
 rw[B];refine⟨j,σ++[AF],⟨s.weaken f rfl ?_,λq=>(r.env q).mono ext,r.size,r.defers⟩,λ_ q=>q,QT (by rw[r.sim.len];exact hh')⟩;intro y h;cases y with
 |none=>exact h
 |some b=>
  obtain⟨l,E,L,J⟩:=h;refine⟨l,E,?_,J⟩;clear E J f B hH
  induction d generalizing m l with
  |nil=>cases g
  |cons c d M=>
   obtain⟨v,x,rfl,F,G⟩:=L;cases m with
   |zero=>
    simp at g;subst g;exact⟨v,x,rfl,.inl ⟨rfl,F⟩,G⟩
   |succ m=>exact⟨v,x,rfl,F,M (by simpa using g) x G⟩
theorem ma{y i j n:Nat}{x:CW}(J:lk env s=.osl i j n k)(hH:H[i]?=AC x)(E:Nat.ble y H.length=AE):Le y env H (up env s (.osl H.length j n k)) (H.set i .dead++[x]):=by
 intro M f σ N a w r;have L:i<σ.length:=by rw[r.sim.len];exact(XK.1 hH).1
 have hσ:=XJ L;have ext:DR f σ w f (σ++[σ[i]]) w:=⟨λ_ q=>q,λ_ _=>rfl,λ_ _ q=>q,λ_ _ h=>ik h⟩;refine⟨f,σ++[σ[i]],⟨r.sim.moved hH hσ,?_,r.size,r.defers⟩,λ_ q=>q,QT (by rw[r.sim.len];exact XQ E)⟩;intro d;simp only[lk];by_cases q:d=s
 .subst q;rw[VD];have:=r.env d;rw[J]at this;rcases this with h|⟨b,p,g,t,m,F,B⟩
  .exact .inl h
  .refine .inr ⟨b,p,g,t,m,?_,B⟩;rw[F]at hσ;rw[<- r.sim.len];simpa using hσ.symm
 .have:Nat.beq d s=false:=by
   rw[VL];intro G;exact q (XP G)
  rw[this];exact(r.env d).mono ext
def JB(n:Int):UInt8:=n.toNat.toUInt8
def HG(P:AK)(H:Qc)(x:A)(l:AA Int):Prop:=
 ∀fr ro σ w v,CZ fr ro σ H w->VR ro σ w x v->(∃a c,v=.slice a 0 c/\l=[])\/ ∃b off c,v=.slice (AC ⟨b,off,AF⟩) l.length c/\(l=[]\/CR ro σ w b (l.map λn=>A.int .u8 n) off)
theorem lX:∀(l:AA Int),(l.map (λn=>[A.int .u8 n])).flatten=l.map λn=>A.int .u8 n
 |[]=>rfl
 |n::l=>by simp[lX l]
theorem HG.nils:HG P H .nils []:=λfr ro σ w v s h=>.inl ⟨AF,0,h,rfl⟩
theorem HG.row{i t n:Nat}{l:AA Int}(hH:H[i]?=AC (.row t 1 (l.map λn=>[A.int .u8 n])):=by rfl)(hn:l.length=n:=by rfl):HG P H (.osl i 0 n 1) l:=by
 intro N F σ w v s h;rcases h with⟨rfl,rfl⟩|⟨b,p,d,G,m,y,rfl,j,⟨L,q⟩,E,J⟩
 .exact .inl ⟨AF,0,rfl,VI.1 hn⟩
 .refine .inr ⟨b,p,d,by rw[hn],?_⟩;by_cases f:l=[]
  .exact .inl f
  .have:0<d:=by have:=List.length_pos_iff.2 f;omega
   obtain rfl:=j this;obtain⟨M,x,B⟩:=s.blk i _ _ y hH;have g:=(YT (pre:=[]) (by simpa using x) B).flat.1;rw[lX]at g;exact .inr (by simpa using g.lift)
theorem HG.rsl{l:AA Int}:HG P H (.rsl 1 (l.map λn=>[A.int .u8 n])) l:=by
 intro q m σ w v s ⟨a,c,h1,h2,f⟩;subst h1;rw[X0]at*;rcases f with f|⟨b,d,rfl,j,h⟩
 .have:=List.map_eq_nil_iff.1 f;subst this;exact .inl ⟨a,c,sq,rfl⟩
 .have g:=h.flat.1;rw[lX]at g;exact .inr ⟨b,d,c,rfl,.inr g.lift⟩
end
def N1:AB CW->Bool
 |some .dead=>AE
 |_=>AD
def JR(hB hE:Nat)(H H':Qc):Bool:=(List.range (hE-hB)).all λp=> !N1 H'[hB+p]? ||N1 H[hB+p]?
def gV(hB hE:Nat)(σ:Ce)(H:Qc):Prop:=∀p,hB<=p->p<hE->N1 H[p]?=AE->σ[p]?=AC AF
variable {hB hE:Nat}
theorem QmI{H:Qc}(h:JR hB hE H H'=AE){p:Nat}(f:hB<=p)(g:p<hE)(d:N1 H'[p]?=AE):N1 H[p]?=true:=by
 have:=Xs.1 h (p-hB) (List.mem_range.2 om);rw[show hB+(p-hB)=p by omega,d]at this;simpa using this
theorem CZ.allocAt{H:Qc}(s:CZ fr ro σ H w){p:Nat}(P:σ[p]?=AC AF){obj:Obj}{x:CW}
  (V:BR ro (σ.set p (AC w.heap.size)) (w.alloc obj) x (AC w.heap.size))
  (O:∀c,Dq (w.alloc obj) x w.heap.size c->False:=by exact λ_ h=>h.elim):CZ fr ro (σ.set p (AC w.heap.size)) (H.set p x) (w.alloc obj):=by
 have ev:Ql fr ro w ro (w.alloc obj):=Ql.alloc obj s.roLt s.frLt;have J:=s.len;have N:p<σ.length:=(XK.1 P).1;have L:DR ro σ w ro (σ.set p (AC w.heap.size)) (w.alloc obj):=⟨ev.sub,ev.keepRo,ev.shape,λi b q=>by
  rw[XO (λz=>by subst z;rw[P]at q;cases q)];exact q⟩
 have f:∀(i:Nat) (y:AB Nat),(σ.set p (AC w.heap.size))[i]?=AC y->(i≠p/\σ[i]?=AC y)\/(i=p/\y=AC w.heap.size):=by
  intro i y h;by_cases q:i=p
  .subst q;rw[Xa N]at h;exact .inr ⟨rfl,(XY h).symm⟩
  .rw[XO (λz=>q z.symm)]at h;exact .inl ⟨q,h⟩
 have E:∀i:Nat,i≠p->(H.set p x)[i]?=H[i]? :=λi W=>XO (λz=>W z.symm);have Q:(H.set p x)[p]?=AC x:=Xa om;refine⟨by simp[J],s.roOk.to (λ_ q=>q) ev.keepRo (λb h=>?_),λb h=>?_,s.roFr,?_,?_,?_,s.hidTo (· = ·) Yq (by rw[Jg];omega) (λ_ _ _ _ _ _ _ q=>q) (λ_ _ _ _ _ _ _ q=>q) λj d y B t Y=>?_⟩
 rotate_left 5
 .rcases f j _ B with⟨q,B⟩|⟨rfl,F⟩
  .rw[E j q]at t;exact .inl ⟨j,y,rfl,B,t,id,λc q=>s.hidKeep B t (λz=>YA w obj d (s.own j d y B t z).1) ev.keepRo q⟩
  .rw[Q]at t;cases t;cases F;exact .inr ⟨XS _,O⟩
 .rw[Jg];have:=s.roLt b h;omega
 .rw[Jg];have:=s.frLt b h;omega
 .intro i b y m g G;rw[Jg];rcases f i _ m with⟨q,m⟩|⟨rfl,F⟩
  .rw[E i q]at g;obtain⟨a,b,c⟩:=s.own i b y m g G;exact⟨om,b,c⟩
  .cases F;exact⟨om,λq=>by have:=s.roLt _ q;omega,λq=>by have:=s.frLt _ q;omega⟩
 .intro i j b y z m g G M T R;rcases f i _ m with⟨q,B⟩|⟨X,F⟩<;>rcases f j _ g with⟨q',t⟩|⟨ej,e2⟩
  .rw[E i q]at G;rw[E j q']at M;exact s.inj i j b y z B t G M T R
  .cases e2;rw[E i q]at G;have:=(s.own i _ y B G T).1;omega
  .cases F;rw[E j q']at M;have:=(s.own j _ z t M R).1;omega
  .rw[X,ej]
 .intro i y z m g;rcases f i _ m with⟨q,m⟩|⟨rfl,F⟩
  .rw[E i q]at g;refine(s.blk i y z m g).keep L ?_ ?_
   .rintro b rfl J;exact YA w obj b (s.own i b z m g J).1
   .rintro b c rfl J;exact YA w obj c (s.hid i b z c m g J).lt
  .rw[Q]at g;cases g;subst F;exact V
def I5(P:AK)(o:AM)(t:Nat)(cs:AA A):Prop:=
 ∀(ro:Nat->Prop) (σ:Ce) (w:AJ) (a:Act),∃l:AA AL,(execOp a.eval o).run P w=.ok (.value (.pointer (AC ⟨w.heap.size,0,AF⟩))) (w.alloc (.cells l.toArray t))/\LR ro σ w cs l/\ ∀v∈l,QC v
theorem I5.alloc{P:AK}{o:AM}{t:Nat}{z:AL}{v:A}{d:AA A}(q:∀w,(zeroValue t).run P w=.ok z w)(h:ZR v z)(g:o.op=.alloc t:=by rfl)(hk:Yn v=true:=by rfl)(hcs:Yj v=d:=by rfl)(hpl:d.all Yu=true:=by rfl):
  I5 P o t d:=by
 intro m σ w a;obtain⟨l,j,f⟩:=(h m σ w).cells hk;subst hcs;refine⟨l,?_,f,f.plain hpl⟩;generalize a.eval=ρ at*;have e:(newVar t z).run P w=.ok ⟨w.heap.size,0,AF⟩ (w.alloc (.cells l.toArray t)):=by
  unfold newVar;rw[j];rfl
 simp only[execOp,g,Instr.alloc,Vm,q,Result.andThen,e];rfl
def nL(P:AK)(o:AM)(e:Env)(H:Qc)(p:Nat)(x:A)(B:CW):Prop:=
 ∀fr ro σ N a w,DN fr ro σ H e N a w->∃v obj,(execOp a.eval o).run P w=.ok (.value v) (w.alloc obj)/\(∀c,Dq (w.alloc obj) B w.heap.size c->False)/\
  ∀σ',σ'[p]?=AC (AC w.heap.size)->DR ro σ w ro σ' (w.alloc obj)->VR ro σ' (w.alloc obj) x v/\BR ro σ' (w.alloc obj) B (AC w.heap.size)
variable {R:Exit->Act->AJ->Prop}{l:AA AM}
theorem S3{i:Nat}{o:AM}{K:Act->AJ->Prop}{a:Act}
  (L:l[i]?=AC o)(h:FD P rd l.toArray R [o] a w)(j:∀e a' w',R e a' w'->e=.normal/\a'.defers=a.defers)(t:∀v w',R .normal (a.put o.dst v) w'->K (a.put o.dst v) w'):
  wpOpIn (WF rd) 0 P l.toArray Q i K a w:=by
 unfold wpOpIn;have E:l.toArray[i]?=AC o:=by simpa using L
 rw[E];simp only;unfold FD wpListIn at h;split at h
 .rename_i B;rw[Vs B];obtain⟨m,h⟩:=h;refine⟨m,?_⟩;have g:=rv (by
   intro a' w' q;unfold wpListIn at q;exact(j _ _ _ q).2) h
  generalize(o.semAt (WF rd).round a.eval).run P w=res at*;cases res with
  |ok n w'=>
   cases n with
   |value v=>exact t _ _ g.1
   |skip=>exact t _ _ g.1
   |defer N=>
    exfalso;have:=(j _ _ _ g.1).2;have:=congrArg List.length this
    revert this
    cases o.dst<;>simp[Act.put]
   |enter f y=>
    refine⟨g.1,CallsIn.mono g.2 (λe F d=>?_)⟩;cases e with
    |returned v=>exact t _ _ d.1
    |panicked c=>have:=(j _ _ _ d).1;cases this
    |outgrown=>obtain⟨M,J,d⟩:=d;have:=(j _ _ _ d).1;cases this
   |row r y=>
    exact⟨g.1,RowsIn.mono g.2 (λ_ _ d=>t _ _ d.1)⟩
   |round l f H assign G=>
    refine⟨g.1,RoundIn.mono g.2 (λe F d=>?_)⟩;cases e with
    |returned v=>exact t _ _ d.1
    |panicked c=>have:=(j _ _ _ d).1;cases this
    |outgrown=>obtain⟨M,J,d⟩:=d;have:=(j _ _ _ d).1;cases this
   |_=>exact g.elim
  |halt x w'=>
   cases x with
   |panic v=>have:=(j _ _ _ g).1;cases this
   |_=>exact g.elim
 .rename_i B;rw[Vr B];obtain⟨m,h⟩:=h;refine⟨m,?_⟩;unfold wpListIn at h;exact t _ _ h
theorem QmH{m:Nat}(G:∀i o,l[i]?=AC o->∀j∈Qi o,j<i)(B:∀i o,m<i->l[i]?=AC o->i-1∈Qi o):
  ∀(d t:Nat) (L:Array Bool) (a:Act) (w:AJ),L.size=l.length->(∀i,i<l.length->(Dy L i↔i<t))->NN L<=d->m<=t->t<=l.length->
   FD P rd l.toArray Q (l.drop t) a w->wpAnyIn (WF rd) 0 P .any l.toArray Q d L a w:=by
 intro d
 induction d with
 |zero=>
  intro t L a w hsz hL hf hm ht h;have:t=l.length:=by
   rcases VA t l.length with q|q
   .have:=qk (L:=L) (i:=t) om (λz=>by have:=(hL t q).1 z;omega);omega
   .omega
  subst this;refine⟨List.eq_nil_iff_forall_not_mem.2 λi E=>?_,?_⟩
  .obtain⟨o,x,y,_⟩:=(Zz hsz).1 E;have f:=(XK.1 x).1;exact y ((hL i f).2 f)
  .rw[Xr]at h;exact h
 |succ d W=>
  intro t L a w hsz hL hf hm ht h;have H:∀i o,l[i]?=AC o->¬Dy L i->(∀j∈Qi o,Dy L j)->i=t:=by
   intro i o x y M;have f:=(XK.1 x).1;have V:t<=i:=by
    rcases VA i t with q|q
    .exact absurd ((hL i f).2 q) y
    .exact q
   rcases VA t i with q|q
   .have:=(hL (i-1) om).1 (M _ (B i o om x));omega
   .omega
  rcases VA t l.length with g|g
  .have O:l[t]?=AC l[t]:=XJ g;have F:¬Dy L t:=λq=>by have:=(hL t g).1 q;omega
   have R:t∈Region.ready .any l.toArray L:=by
    refine(Zz hsz).2 ⟨_,O,F,λj N=>?_⟩;have:=G t _ O j N;exact(hL j om).2 this
   refine⟨λq=>(by rw[q]at R;cases R),λi E=>?_⟩;obtain⟨o,x,y,M⟩:=(Zz hsz).1 E;obtain rfl:=H i o x y M;rw[Xp g]at h;obtain rfl:l[i]=o:=by rw[XJ g]at x;exact XY x
   unfold wpOpIn;rw[show l.toArray[i]?=AC l[i]by rw[XF];exact x];simp only;unfold FD wpListIn at h;have T:∀a w,FD P rd l.toArray Q (l.drop (i+1)) a w->wpAnyIn (WF rd) 0 P .any l.toArray Q d (L.setIfInBounds i AE) a w:=by
    intro a w q;have X:=lL (L:=L) (i:=i) om F;refine W (i+1) _ a w (by simpa using hsz) (λj N=>?_) om om om q;rw[JO om,hL j N];omega
   split at h
   .rename_i J;rw[Vs J];exact Oper.wpIn_mono T h
   .rename_i J;rw[Vr J];exact⟨h.1,T _ _ h.2⟩
  .have:t=l.length:=by omega
   subst this;rw[Xr]at h;refine⟨λ_=>h,λi E=>?_⟩;obtain⟨o,x,y,_⟩:=(Zz hsz).1 E;have f:=(XK.1 x).1;exact absurd ((hL i f).2 f) y
def gU(af ds:AA Nat)(xs:AA A)(env0 e:Env):Prop:=
 ∀s,(∃j x,af.contains j=AE/\ds[j]?=AC s/\xs[j]?=AC x/\lk e s=x)\/lk e s=.any\/(ds.contains s=AD/\lk e s=lk env0 s)
inductive Jn (P:AK) (N:Nat) (l:List AM) (ds:List Nat) (xs:List A) (env0:Env) (hB hE:Nat) (i:Nat) (H H':Qc):Prop
 |mk (o:AM) (e:Env) (d:Nat) (x:A) (ho:l[i]?=AC o) (hd:o.dst=AC d) (hx:xs[i]?=AC x) (hdd:JR hB hE H H'=AE) (hs:Sb (Qi o) (Nq l i) ds xs env0 e)
   (h:WO P H.length N l.toArray [o] e H (YY (up e d x) H')):Jn P N l ds xs env0 hB hE i H H'
 |unit (o:AM) (e:Env) (ho:l[i]?=AC o) (hd:o.dst=AF) (hx:xs[i]?=AC .any) (hdd:JR hB hE H H'=AE) (hs:Sb (Qi o) (Nq l i) ds xs env0 e)
   (h:WO P H.length N l.toArray [o] e H (YY e H')):Jn P N l ds xs env0 hB hE i H H'
 |unitE (o:AM) (e:Env) (ho:l[i]?=AC o) (hd:o.dst=AF) (hx:xs[i]?=AC .any) (hdd:JR hB hE H H'=AE) (he:gU (Qi o) ds xs env0 e)
   (h:WO P H.length N l.toArray [o] e H (YY e H')):Jn P N l ds xs env0 hB hE i H H'
 |alloc (o:AM) (d t p:Nat) (cs:List A) (ho:l[i]?=AC o) (hd:o.dst=AC d) (hg:o.guard=AF) (hx:xs[i]?=AC (.ptr p 0)) (hp:(Nat.ble hB p&&Nat.blt p hE)=AE) (hdead:N1 H[p]?=AE)
   (hH:H.set p (.cells t cs)=H') (h:I5 P o t cs) (hN:Nat.blt d N=AE):Jn P N l ds xs env0 hB hE i H H'
 |row (o:AM) (e:Env) (d p:Nat) (x:A) (B:CW) (ho:l[i]?=AC o) (hd:o.dst=AC d) (hg:o.guard=AF) (hx:xs[i]?=AC x) (hp:(Nat.ble hB p&&Nat.blt p hE)=AE) (hdead:N1 H[p]?=AE) (hlive:N1 (AC B)=AD)
   (hH:H.set p B=H') (hs:Sb (Qi o) (Nq l i) ds xs env0 e) (h:nL P o e H p x B) (hN:Nat.blt d N=AE):Jn P N l ds xs env0 hB hE i H H'
 |val (o:AM) (e:Env) (d:Nat) (x:A) (ho:l[i]?=AC o) (hd:o.dst=AC d) (hg:o.guard=AF) (hx:xs[i]?=AC x) (hN:Nat.blt d N=AE) (he:gU (Qi o) ds xs env0 e) (h:CS P o e H x)
   (hH:H=H':=by rfl):Jn P N l ds xs env0 hB hE i H H'
 |woE (o:AM) (e:Env) (d:Nat) (x:A) (ho:l[i]?=AC o) (hd:o.dst=AC d) (hx:xs[i]?=AC x) (he:gU (Qi o) ds xs env0 e) (hdd:JR hB hE H H'=AE) (h:WO P H.length N l.toArray [o] e H (YY (up e d x) H')):Jn P N l ds xs env0 hB hE i H H'
variable {af f:AA Nat}{env0:Env}{xs:AA A}
theorem Sb.rel{bf:AA Nat}{e:Env}{a:Act}(g:Sb af bf f xs env0 e)
  (m:∀j∈af,∀s x,f[j]?=AC s->xs[j]?=AC x->VR ro σ w x (a.tmps.getD s undef))
  (h:∀s,f.contains s=AD->VR ro σ w (lk env0 s) (a.tmps.getD s undef))(hP:∀j s,bf.contains j=AE->f[j]?=AC s->VR ro σ w (lk env0 s) (a.tmps.getD s undef)):
  ∀s,VR ro σ w (lk e s) (a.tmps.getD s undef):=by
 intro s
 induction g with
 |nil=>exact trivial
 | @dep j s1 x1 r h1 h2 h3 _ ih=>
  unfold lk;cases d:Nat.beq s s1 with
  |false=>exact ih
  |true=>
   obtain rfl:=XP d;exact m j (by simpa using h1) _ _ h2 h3
 | @old s1 x1 r h1 h2 _ ih=>
  unfold lk;cases d:Nat.beq s s1 with
  |false=>exact ih
  |true=>
   obtain rfl:=XP d;subst h2;exact h _ h1
 | @pre j s1 x1 r h1 h2 h3 _ ih=>
  unfold lk;cases d:Nat.beq s s1 with
  |false=>exact ih
  |true=>
   obtain rfl:=XP d;subst h3;exact hP j _ h1 h2
structure fx (fr ro:Nat->Prop) (σ:Ce) (w:AJ) (hB hE:Nat) (H':Qc) (xs:List A) (i:Nat) (o:AM) (a':Act) (w':AJ) (ro':Nat->Prop) (σ':Ce):Prop where
 val:∀x,xs[i]?=AC x->match o.dst with
  |some d=>VR ro' σ' w' x (a'.tmps.getD d undef)
  |none=>x=.any
 sim:CZ fr ro' σ' H' w'
 ev:Ql fr ro w ro' w'
 ext:DR ro σ w ro' σ' w'
 holes:gV hB hE σ' H'
 take:σ'.take hB=σ.take hB
theorem Jn.use{ds:AA Nat}{i:Nat}{H:Qc}(hb:Jn P N l ds xs env0 hB hE i H H'){K:Act->AJ->Prop}{a:Act}{o:AM}(ho:l[i]?=AC o)
  (f:CZ fr ro σ H w)(hN:a.tmps.size=N)(F:Iq fr a.defers w)(ad:KP rd fr w)(hh:gV hB hE σ H)(hl:hE<=H.length)(al:hB<=hE)
  (hD:∀j∈Qi o,∀s x,ds[j]?=AC s->xs[j]?=AC x->VR ro σ w x (a.tmps.getD s undef))
  (hO:∀s,ds.contains s=AD->VR ro σ w (lk env0 s) (a.tmps.getD s undef))(hP:∀j s,(Nq l i).contains j=AE->ds[j]?=AC s->VR ro σ w (lk env0 s) (a.tmps.getD s undef))
  (hK:∀v w' ro' σ',fx fr ro σ w hB hE H' xs i o (a.put o.dst v) w' ro' σ'->K (a.put o.dst v) w'):
  wpOpIn (WF rd) 0 P l.toArray Q i K a w:=by
 have aa:∀{e:Env} {H2:Qc} {E:Exit} {W:Act} {w':AJ},IM H.length fr ro σ w N a.defers (YY e H2) E W w'->E=.normal/\W.defers=a.defers:=by
  rintro e H2 E W w' ⟨x,_,_,_,_,_,m,⟨rfl,_⟩,_,_,_,V,_⟩;refine⟨?_,V⟩;cases E<;>first|rfl|exact m.elim|cases m
 have aj:∀{σ':Ce} {w':AJ},Ql fr ro w ro w'->σ'.take H.length=σ.take H.length->True:=λ_ _=>trivial;have Y:∀{e:Env} {W:Act} {w':AJ},IM H.length fr ro σ w N a.defers (YY e H') .normal W w'->JR hB hE H H'=AE->
   ∃ro' σ',CZ fr ro' σ' H' w'/\Ql fr ro w ro' w'/\DR ro σ w ro' σ' w'/\gV hB hE σ' H'/\σ'.take hB=σ.take hB/\ ∀s,VR ro' σ' w' (lk e s) (W.tmps.getD s undef):=by
  rintro e W w' ⟨_,ak,H2,ro',σ',am,_,⟨_,rfl,rfl⟩,r',he,ht,_,ai⟩ G;have hσ:σ'=σ++σ'.drop H.length:=by
   conv=>lhs;rw[<- Xy H.length σ']
   rw[ht, <- f.len,X9]
  refine⟨ro',σ',r'.sim.frMono ai.sub,he,?_,?_,?_,r'.env⟩
  .rw[hσ];exact he.ext σ _
  .intro p m V h3;have:=hh p m V (QmI G m V h3);rw[hσ,XL (by rw[f.len];omega)];exact this
  .rw[hσ];exact QT (by rw[f.len];omega)
 cases hb with
 |woE J e d x g T hx he G h=>
  obtain rfl:J=o:=XY (g.symm.trans ho);have hr:∀s,VR ro σ w (lk e s) (a.tmps.getD s undef):=λs=>by
   rcases he s with⟨j,x,m,V,h3,L⟩|L|⟨m,L⟩
   .rw[L];exact hD j (by simpa using m) s x V h3
   .rw[L];exact trivial
   .rw[L];exact hO s m
  refine S3 ho (h rd fr ro σ a w ⟨f,hr,hN,F⟩ ad) (λ_ _ _ q=>aa q) (λv w' q=>?_);obtain⟨ro',σ',g1,g2,O,g4,g5,g6⟩:=Y q G;refine hK v w' ro' σ' ⟨λy hy=>?_,g1,g2,O,g4,g5⟩;obtain rfl:=XY (hx.symm.trans hy);have:=g6 d;unfold lk at this;rw[VD]at this;rw[T]at this⊢;exact this
 |unitE J e g T hx G he h=>
  obtain rfl:J=o:=XY (g.symm.trans ho);have hr:∀s,VR ro σ w (lk e s) (a.tmps.getD s undef):=λs=>by
   rcases he s with⟨j,x,m,V,h3,L⟩|L|⟨m,L⟩
   .rw[L];exact hD j (by simpa using m) s x V h3
   .rw[L];exact trivial
   .rw[L];exact hO s m
  refine S3 ho (h rd fr ro σ a w ⟨f,hr,hN,F⟩ ad) (λ_ _ _ q=>aa q) (λv w' q=>?_);obtain⟨ro',σ',g1,g2,O,g4,g5,g6⟩:=Y q G;refine hK v w' ro' σ' ⟨λy hy=>?_,g1,g2,O,g4,g5⟩;obtain rfl:=XY (hx.symm.trans hy);rw[T]
 |mk J e d x g T hx G hs h=>
  obtain rfl:J=o:=XY (g.symm.trans ho);refine S3 ho (h rd fr ro σ a w ⟨f,hs.rel hD hO hP,hN,F⟩ ad) (λ_ _ _ q=>aa q) (λv w' q=>?_);obtain⟨ro',σ',g1,g2,O,g4,g5,g6⟩:=Y q G;refine hK v w' ro' σ' ⟨λy hy=>?_,g1,g2,O,g4,g5⟩;obtain rfl:=XY (hx.symm.trans hy);have:=g6 d;unfold lk at this;rw[VD]at this;rw[T]at this⊢;exact this
 |unit J e g T hx G hs h=>
  obtain rfl:J=o:=XY (g.symm.trans ho);refine S3 ho (h rd fr ro σ a w ⟨f,hs.rel hD hO hP,hN,F⟩ ad) (λ_ _ _ q=>aa q) (λv w' q=>?_);obtain⟨ro',σ',g1,g2,O,g4,g5,g6⟩:=Y q G;refine hK v w' ro' σ' ⟨λy hy=>?_,g1,g2,O,g4,g5⟩;obtain rfl:=XY (hx.symm.trans hy);rw[T]
 |val J e d x g T hg hx ab he h hH=>
  obtain rfl:J=o:=XY (g.symm.trans ho);subst hH;have hr:DN fr ro σ H e N a w:=by
   refine⟨f,λs=>?_,hN,F⟩;rcases he s with⟨j,x,m,V,h3,L⟩|L|⟨m,L⟩
   .rw[L];exact hD j (by simpa using m) s x V h3
   .rw[L];exact trivial
   .rw[L];exact hO s m
  obtain⟨v0,m,V⟩:=h fr ro σ N a w hr;have hw:Region.wanted J (yielded l.toArray a.tmps)=true:=by unfold Region.wanted;rw[hg]
  refine S3 (R:=λE W w'=>E=.normal/\W.defers=a.defers/\W=a.put J.dst v0/\w'=w) ho (JE hw m ?_) (λ_ _ _ q=>⟨q.1,q.2.1⟩) (λv w' q=>?_)
  .unfold FD wpListIn;refine⟨rfl,?_,rfl,rfl⟩;rw[T];rfl
  .obtain⟨_,_,q1,rfl⟩:=q;refine hK v _ ro σ ⟨λy hy=>?_,f,Ql.refl _ _ _,⟨λ_ q=>q,λ_ _=>rfl,λ_ _ q=>q,λ_ _ q=>q⟩,hh,rfl⟩;obtain rfl:=XY (hx.symm.trans hy);rw[q1,T];have ac:d<a.tmps.size:=by rw[hN];simpa using ab
   show VR ro σ w' x _;simpa[Act.put,Array.getD_eq_getD_getElem?,ac]using V
 |row J e d p x B g T hg hx hp X hlive hH hs h ab=>
  obtain rfl:J=o:=XY (g.symm.trans ho);subst hH;simp only[XV]at hp;have ae:=XQ hp.1;have ag:p<hE:=by simpa using hp.2
  have hσp:=hh p ae ag X;have hr:DN fr ro σ H e N a w:=⟨f,hs.rel hD hO hP,hN,F⟩;obtain⟨v0,ah,m,V,h3⟩:=h fr ro σ N a w hr;have hw:Region.wanted J (yielded l.toArray a.tmps)=true:=by unfold Region.wanted;rw[hg]
  have ev:Ql fr ro w ro (w.alloc ah):=Ql.alloc _ f.roLt f.frLt;have af:p<σ.length:=by rw[f.len];omega
  have M:DR ro σ w ro (σ.set p (AC w.heap.size)) (w.alloc ah):=⟨ev.sub,ev.keepRo,ev.shape,λj b q=>by
   rw[XO (λz=>by subst z;rw[hσp]at q;cases q)];exact q⟩
  obtain⟨g8,g9⟩:=h3 _ (Xa af) M;refine S3 (R:=λE W w'=>E=.normal/\W.defers=a.defers/\W=a.put J.dst v0/\w'=w.alloc ah) ho (JE hw m ?_) (λ_ _ _ q=>⟨q.1,q.2.1⟩) (λv w' q=>?_)
  .unfold FD wpListIn;refine⟨rfl,?_,rfl,rfl⟩;rw[T];rfl
  .obtain⟨_,_,q1,rfl⟩:=q;refine hK v _ ro (σ.set p (AC w.heap.size)) ⟨λy hy=>?_,f.allocAt hσp g9 V,ev,M,λp' g1 g2 O=>?_,?_⟩
   .obtain rfl:=XY (hx.symm.trans hy);rw[q1,T];have ac:d<a.tmps.size:=by rw[hN];simpa using ab
    show VR ro _ _ x _;simpa[Act.put,Array.getD_eq_getD_getElem?,ac]using g8
   .by_cases q:p'=p
    .subst q;rw[Xa om,hlive]at O;cases O
    .rw[XO (λz=>q z.symm)]at O⊢;exact hh p' g1 g2 O
   .rw[List.take_set,List.set_eq_of_length_le];rw[Xx];omega
 |alloc J d t p cs g T hg hx hp X hH h ab=>
  obtain rfl:J=o:=XY (g.symm.trans ho);subst hH;simp only[XV]at hp;have ae:=XQ hp.1;have ag:p<hE:=by simpa using hp.2
  have hσp:=hh p ae ag X;obtain⟨lv,m,V,h3⟩:=h ro σ w a;have hw:Region.wanted J (yielded l.toArray a.tmps)=true:=by unfold Region.wanted;rw[hg]
  have ev:Ql fr ro w ro (w.alloc (.cells lv.toArray t)):=Ql.alloc _ f.roLt f.frLt;have af:p<σ.length:=by rw[f.len];omega
  have M:DR ro σ w ro (σ.set p (AC w.heap.size)) (w.alloc (.cells lv.toArray t)):=⟨ev.sub,ev.keepRo,ev.shape,λj b q=>by
   rw[XO (λz=>by subst z;rw[hσp]at q;cases q)];exact q⟩
  refine S3 (R:=λE W w'=>E=.normal/\W.defers=a.defers/\W=a.put J.dst (.pointer (AC ⟨w.heap.size,0,AF⟩))/\w'=w.alloc (.cells lv.toArray t)) ho (JE hw m ?_) (λ_ _ _ q=>⟨q.1,q.2.1⟩) (λv w' q=>?_)
  .unfold FD wpListIn;refine⟨rfl,?_,rfl,rfl⟩;rw[T];rfl
  .obtain⟨_,_,q1,rfl⟩:=q;refine hK v _ ro (σ.set p (AC w.heap.size)) ⟨λy hy=>?_,f.allocAt hσp ⟨lv,Yz _ _,V.mono M,h3⟩,ev,M,λp' g1 g2 O=>?_,?_⟩
   .obtain rfl:=XY (hx.symm.trans hy);rw[q1,T];have ac:d<a.tmps.size:=by rw[hN];simpa using ab
    refine⟨w.heap.size,Xa af,?_⟩;simp[Act.put,Array.getD_eq_getD_getElem?,ac]
   .by_cases q:p'=p
    .subst q;rw[Xa om]at O;cases O
    .rw[XO (λz=>q z.symm)]at O⊢;exact hh p' g1 g2 O
   .rw[List.take_set,List.set_eq_of_length_le];rw[Xx];omega
def HO(a b:AA Nat):Bool:=a.all (b.contains ·)&&b.all (a.contains ·)
theorem Qqj{a b:AA Nat}(h:HO a b=AE)(i:Nat):i∈a↔i∈b:=by
 unfold HO at h;simp only[XV,Xs,List.contains_iff_mem]at h;exact⟨h.1 i,h.2 i⟩
structure kY (l:List AM) (m:Nat) (ds:List Nat) (hs:List Bool) (rq ms:List (List Nat)) (pl:List (List (Nat×Nat))) (N:Nat):Prop where
 len:m<=l.length
 dst:∀i o,i<m->l[i]?=AC o->(∃d,o.dst=AC d/\ds[i]?=AC d/\d<N)\/o.dst=AF
 dsl:ds.length=m
 nodup:∀(i j d:Nat),ds[i]?=AC d->ds[j]?=AC d->i=j
 back:∀i o,l[i]?=AC o->∀j∈Qi o,j<i
 mid:∀o,l[m]?=AC o->∀j,j<m->M7 l m j
 chain:∀i o,m<i->l[i]?=AC o->i-1∈Qi o
 rqs:∀i o,i<m->l[i]?=AC o->∀h∈rq.getD i [],h<m/\hs.getD h AD=AE/\(h∈Qi o\/ ∃j∈Qi o,j<m/\h∈rq.getD j [])
 ms0:ms.getD 0 []=[]
 full:∀st,st<ms.length->st+1=ms.length\/ ∃i,i<m/\hs.getD i AD=AE/\i∉ms.getD st []
 msh:∀st h,h∈ms.getD st []->h<m/\hs.getD h AD=AE
 pls:∀i st,i<m->st<ms.length->(∀h∈rq.getD i [],h∈ms.getD st [])->(hs.getD i AD=AE->i∉ms.getD st [])->(∀h∈ms.getD st [],¬M7 l h i)->
  ∃st',(st,st')∈pl.getD i []/\st'<ms.length/\if hs.getD i AD then∀j,j∈ms.getD st' []↔j=i\/j∈ms.getD st []else st'=st
theorem oq{α:Type}{l:AA α}{i:Nat}{d x:α}(h:l[i]?=AC x):l.getD i d=x:=by rw[VK,h];rfl
theorem rK{m:Nat}{ds:AA Nat}{hs:AA Bool}{rq ms:AA (AA Nat)}{pl:AA (AA (Nat×Nat))}{Hs:AA Qc}{Hk:Qc}
  (ok:kY l m ds hs rq ms pl N)(a2:xs.length=m)(bb:Hs.length=ms.length)(a9:h0<=hB)(ay:hB<=hE)(a4:∀H∈Hs,hE<=H.length)
  (a3:∀i p,i<m->p∈pl.getD i []->Jn P N l ds xs env0 hB hE i (Hs.getD p.1 []) (Hs.getD p.2 []))(av:Hs.getD (ms.length-1) []=Hk)
  {ro0:Nat->Prop}{σ0:Ce}{w0:AJ}{ds0:AA Deferred}
  (hk:∀ro σ a w,DN fr ro σ Hk (Ir ds xs env0) N a w->Ql fr ro0 w0 ro w->σ.take h0=σ0.take h0->a.defers=ds0->FD P rd l.toArray R (l.drop m) a w)(ak:Iq fr ds0 w0)(az:KP rd fr w0):
  ∀(f:Nat) (L:Array Bool) (a:Act) (w:AJ) (ro:Nat->Prop) (σ:Ce) (F:Nat),
   L.size=l.length->NN L<=f->(∀i,m<=i->¬Dy L i)->F<ms.length->CZ fr ro σ (Hs.getD F []) w->a.tmps.size=N->a.defers=ds0->
   (∀(i d:Nat) (x:A),Dy L i->ds[i]?=AC d->xs[i]?=AC x->VR ro σ w x (a.tmps.getD d undef))->(∀s,(∀j,ds[j]?=AC s->¬Dy L j)->VR ro σ w (lk env0 s) (a.tmps.getD s undef))->
   Ql fr ro0 w0 ro w->σ.take h0=σ0.take h0->gV hB hE σ (Hs.getD F [])->
   (∀i,i<m->Dy L i->∀h∈rq.getD i [],Dy L h)->(∀i,i<m->hs.getD i AD=AE->(Dy L i↔i∈ms.getD F []))->
   (∀i o,Dy L i->l[i]?=AC o->∀j∈Qi o,Dy L j)->
   wpAnyIn (WF rd) 0 P .any l.toArray R f L a w:=by
 have a1:∀F,F<ms.length->hE<=(Hs.getD F []).length:=by
  intro F h;have e:Hs[F]?=AC Hs[F]:=XJ om;rw[oq e];exact a4 _ (Vd _)
 have fin:∀(f:Nat) (L:Array Bool) (a:Act) (w:AJ) (ro:Nat->Prop) (σ:Ce) (F:Nat),
   L.size=l.length->NN L<=f->(∀i,m<=i->¬Dy L i)->F<ms.length->CZ fr ro σ (Hs.getD F []) w->a.tmps.size=N->a.defers=ds0->
   (∀(i d:Nat) (x:A),Dy L i->ds[i]?=AC d->xs[i]?=AC x->VR ro σ w x (a.tmps.getD d undef))->(∀s,(∀j,ds[j]?=AC s->¬Dy L j)->VR ro σ w (lk env0 s) (a.tmps.getD s undef))->
   Ql fr ro0 w0 ro w->σ.take h0=σ0.take h0->
   (∀i,i<m->hs.getD i AD=AE->(Dy L i↔i∈ms.getD F []))->(∀i,i<m->Dy L i)->
   wpAnyIn (WF rd) 0 P .any l.toArray R f L a w:=by
  intro f L a w ro σ F hsz hu hsuf hst hsim hN hdef hD hE' hev htk hI2 B;have ai:F=ms.length-1:=by
   rcases ok.full F hst with q|⟨i,W,h2,h3⟩
   .omega
   .exact absurd ((hI2 i W h2).1 (B i W)) h3
  rw[ai,av]at hsim;refine QmH ok.back ok.chain f m L a w hsz (λi hi=>⟨λq=>?_,λq=>B i q⟩) hu (XS _) ok.len ?_
  .rcases VA i m with z|z
   .exact z
   .exact absurd q (hsuf i z)
  .have hr:DN fr ro σ Hk (Ir ds xs env0) N a w:=by
    refine⟨hsim,λs=>?_,hN,by rw[hdef];exact ak.keep hev⟩;rcases Qqt (env0:=env0) (by rw[ok.dsl,a2]) s with⟨j,x,W,h2,h3⟩|⟨W,h2⟩
    .rw[h3];have g:j<m:=by have:=(XK.1 W).1;rw[ok.dsl]at this;exact this
     exact hD j s x (B j g) W h2
    .rw[h2];exact hE' s (λj q=>absurd (VG q) (by simpa using W))
   exact hk ro σ a w hr hev htk hdef
 intro f
 induction f with
 |zero=>
  intro L a w ro σ F hsz hu hsuf hst hsim hN hdef hD hE' hev htk hho hI1 hI2 hcl;refine fin 0 L a w ro σ F hsz hu hsuf hst hsim hN hdef hD hE' hev htk hI2 (λi hi=>?_);by_cases q:Dy L i
  .exact q
  .have:=qk (L:=L) (i:=i) (by have:=ok.len;omega) q;omega
 |succ f ih=>
  intro L a w ro σ F hsz hu hsuf hst hsim hN hdef hD hE' hev htk hho hI1 hI2 hcl;by_cases B:∀i,i<m->Dy L i
  .exact fin (f+1) L a w ro σ F hsz hu hsuf hst hsim hN hdef hD hE' hev htk hI2 B
  .have a8:∃i,i<m/\ ¬Dy L i:=by
    refine Classical.byContradiction λq=>B λi hi=>Classical.byContradiction λz=>q ⟨i,hi,z⟩
   obtain⟨n,hn,am⟩:=a8;obtain⟨i0,W,h2,h3⟩:=a_ (p:=λi=>¬Dy L i) (λi=>Classical.em _) n am;have bd:=ok.len;have aj:l[i0]?=AC l[i0]:=XJ om;have hr:i0∈Region.ready .any l.toArray L:=(Zz hsz).2 ⟨_,aj,h2,λj g=>Classical.byContradiction λz=>h3 j (ok.back i0 _ aj j g) z⟩;refine⟨λq=>(by rw[q]at hr;cases hr),λi hi=>?_⟩;obtain⟨o,Y,aa,T⟩:=(Zz hsz).1 hi;have J:i<m:=by
    rcases VA i m with q|q
    .exact q
    .exfalso;rcases VA m i with z|z
     .exact hsuf (i-1) om (T _ (ok.chain i o z Y))
     .have:i=m:=by omega
      subst this;have ba:∀j,M7 l i j->Dy L j:=by
       intro j g
       induction g with
       |one E g=>rw[Y]at E;cases E;exact T _ g
       |step _ E g ihr=>exact hcl _ _ ihr E _ g
      exact am (ba n (ok.mid o Y n hn))
   have ag:∀h∈rq.getD i [],Dy L h:=by
    intro h hh;obtain⟨_,_,q|⟨j,q1,q2,q3⟩⟩:=ok.rqs i o J Y h hh
    .exact T h q
    .exact hI1 j q2 (T j q1) h q3
   obtain⟨a6,a0,ax,O⟩:=ok.pls i F J hst (λh hh=>by
    obtain⟨q1,q2,_⟩:=ok.rqs i o J Y h hh;exact(hI2 h q1 q2).1 (ag h hh)) (λq z=>aa ((hI2 i J q).2 z)) (λh hh hR=>by
    obtain⟨q1,q2⟩:=ok.msh F h hh;have aw:Dy L h:=(hI2 h q1 q2).2 hh;have ah:∀j,M7 l h j->Dy L j:=by
     intro j g
     induction g with
     |one E g=>exact hcl _ _ aw E _ g
     |step _ E g ihr=>exact hcl _ _ ihr E _ g
    exact aa (ah i hR))
   have hb:=a3 i _ J a0;refine hb.use Y hsim hN (by rw[hdef];exact ak.keep hev) (az.to hev λ_ q=>q) hho (a1 F hst) ay (λj g s x q1 q2=>hD j s x (T j g) q1 q2) (λs W=>hE' s (λj q=>absurd (VG q) (by simpa using W))) (λj s W h2=>hE' s (λj' q q'=>?_)) ?_
   .obtain rfl:=ok.nodup j' j s q h2;have g:=Xd.1 (List.contains_iff_mem.1 W);cases ae:l[j']? with
    |none=>rw[ae]at g;simp at g
    |some oj=>
     rw[ae]at g;exact aa (hcl j' oj q' ae i (by simpa using g.2))
   intro v w' a5 σ' af;have ac:=af.ext;have ab:∀s,(∀d,o.dst=AC d->s≠d)->(a.put o.dst v).tmps.getD s undef=a.tmps.getD s undef:=by
    intro s aq;cases hd:o.dst with
    |none=>rfl
    |some d=>
     simp only[Act.put,Array.getD_eq_getD_getElem?,Ve];rw[Vr (λq=>aq d hd q.symm)]
   have ad:(a.put o.dst v).tmps.size=N:=by
    cases hd:o.dst with
    |none=>simpa[Act.put]using hN
    |some d=>simpa[Act.put]using hN
   have ar:(a.put o.dst v).defers=ds0:=by
    cases hd:o.dst with
    |none=>simpa[Act.put]using hdef
    |some d=>simpa[Act.put]using hdef
   have bc:=lL (L:=L) (i:=i) om aa;have G:i<L.size:=om;have a7:∀s j,ds[j]?=AC s->j≠i->∀d,o.dst=AC d->s≠d:=by
    intro s j g M d hd q;subst q;rcases ok.dst i o J Y with⟨d',t,X,an⟩|t
    .rw[hd]at t;cases t;exact M (ok.nodup j i _ g X)
    .rw[hd]at t;cases t
   refine ih _ _ w' a5 σ' a6 (by simpa using hsz) om (λj g q=>?_) ax af.sim ad ar ?_ ?_ (hev.trans af.ev) ?_ af.holes ?_ ?_ ?_
   .rcases(JO G).1 q with z|z
    .omega
    .exact hsuf j g z
   .intro j s y g Q hy;by_cases M:j=i
    .subst M;have hv:=af.val y hy;rcases ok.dst j o J Y with⟨d',t,X,an⟩|t
     .obtain rfl:s=d':=XY (Q.symm.trans X);simp only[t]at hv⊢;exact hv
     .simp only[t]at hv;subst hv;exact trivial
    .rw[ab s (a7 s j Q M)];rcases(JO G).1 g with z|z
     .exact absurd z M
     .exact(hD j s y z Q hy).mono ac
   .intro s Q;have ao:∀d,o.dst=AC d->s≠d:=by
     rintro d hd rfl;rcases ok.dst i o J Y with⟨d',t,X,an⟩|t
     .rw[hd]at t;cases t;exact Q i X ((JO G).2 (.inl rfl))
     .rw[hd]at t;cases t
    rw[ab s ao];exact(hE' s (λj q z=>Q j q ((JO G).2 (.inr z)))).mono ac
   .rw[<- htk];have:=congrArg (List.take h0) af.take;rw[List.take_take,List.take_take,XA a9]at this;exact this
   .intro j g V h hh;refine(JO G).2 (.inr ?_);rcases(JO G).1 V with z|z
    .subst z;exact ag h hh
    .exact hI1 j g z h hh
   .intro j g V;rw[JO G];cases q:hs.getD i AD with
    |false=>
     have M:j≠i:=by rintro rfl;rw[q]at V;cases V
     rw[q]at O;simp only[Xi,if_false]at O;simp only[M,false_or];rw[O];exact hI2 j g V
    |true=>
     rw[q]at O;simp only[if_true]at O;rw[O j,hI2 j g V]
   .intro j o' g E j' al;rcases(JO G).1 g with z|z
    .subst z;rw[Y]at E;cases E;exact(JO G).2 (.inr (T _ al))
    .exact(JO G).2 (.inr (hcl j o' z E j' al))
def HR.dstB(N:Nat):Nat->AA AM->AA Nat->Bool
 |_,_,[]=>AE
 |i,o::r,d::ds=>(match o.dst with|some d'=>Nat.beq d' d&&Nat.blt d N|none=>AE)&&HR.dstB N (i+1) r ds
 |_,[],_::_=>AD
def HR.rqB(m:Nat)(hs:AA Bool)(rq:AA (AA Nat)):Nat->AA AM->Bool
 |_,[]=>AE
 |i,o::r=>(rq.getD i []).all (λh=>Nat.blt h m&&hs.getD h AD&&((Qi o).contains h||(Qi o).any λj=>Nat.blt j m&&(rq.getD j []).contains h))&&HR.rqB m hs rq (i+1) r
def ky(l:AA AM)(h:Nat):AA Nat:=match l[h]? with
 |some o=>da l h (Qi o)
 |none=>[]
theorem Qmc{h j:Nat}(q:j∈ky l h):M7 l h j:=by
 unfold ky at q;cases d:l[h]? with
 |none=>rw[d]at q;cases q
 |some o=>rw[d]at q;exact iW h (Qi o) (λi f=>.one d f) j q
def HR.plB(l:AA AM)(m:Nat)(hs:AA Bool)(rq ms:AA (AA Nat))(pl:AA (AA (Nat×Nat))):Bool:=
 (List.range m).all λi=>(List.range ms.length).all λst=>((ms.getD st []).any λh=>(ky l h).contains i)|| !(rq.getD i []).all ((ms.getD st []).contains ·)||(hs.getD i AD&&(ms.getD st []).contains i)||
  (pl.getD i []).any λp=>Nat.beq p.1 st&&Nat.blt p.2 ms.length&&(bif hs.getD i AD then HO (ms.getD p.2 []) (i::ms.getD st [])else Nat.beq p.2 st)
def HR(l:AA AM)(m N:Nat)(ds:AA Nat)(hs:AA Bool)(rq ms:AA (AA Nat))(pl:AA (AA (Nat×Nat))):Bool:=
 Nat.ble m l.length&&(ds.length==m)&&HR.dstB N 0 l ds&&C0.nodupB ds&&C0.goB l m 0 l&&HR.rqB m hs rq 0 l&&(ms.getD 0 []).isEmpty&&Nat.blt 0 ms.length
 &&((List.range ms.length).all λst=>Nat.beq (st+1) ms.length||(List.range m).any λi=>hs.getD i AD&& !(ms.getD st []).contains i)&&HR.plB l m hs rq ms pl&&(List.range ms.length).all λst=>(ms.getD st []).all λh=>Nat.blt h m&&hs.getD h AD
theorem tw:∀(l:AA AM) (f:AA Nat) (b:Nat),HR.dstB N b l f=AE->∀(i d:Nat) (o:AM),l[i]?=AC o->f[i]?=AC d->
  (o.dst=AC d/\d<N)\/o.dst=none:=by
 intro l
 induction l with
 |nil=>intro f b h i d o g;simp at g
 |cons x r q=>
  intro f b h i d o g j;cases f with
  |nil=>simp at j
  |cons y f=>
   simp only[HR.dstB,XV]at h;cases i with
   |zero=>
    simp at g j;subst g;subst j;have h:=h.1;split at h
    .rename_i t m;simp only[XV]at h;have e:=XP h.1;subst e;exact .inl ⟨m,by simpa using h.2⟩
    .rename_i m;exact .inr m
   |succ i=>
    have:=q f (b+1) h.2 i d o (by simpa using g) (by simpa using j);exact this
theorem Qn9{m:Nat}{g:AA Bool}{f:AA (AA Nat)}:∀(l:AA AM) (b:Nat),HR.rqB m g f b l=AE->∀(i:Nat) (o:AM),l[i]?=AC o->
  ∀h∈f.getD (b+i) [],h<m/\g.getD h AD=AE/\(h∈Qi o\/ ∃j∈Qi o,j<m/\h∈f.getD j []):=by
 intro l
 induction l with
 |nil=>intro b h i o d;simp at d
 |cons x r E=>
  intro b h i o d;simp only[HR.rqB,XV]at h;cases i with
  |zero=>
   simp at d;subst d;intro k t;have:=Xs.1 h.1 k (by simpa using t);simp only[XV,Bool.or_eq_true,List.contains_iff_mem,Xt]at this;obtain⟨⟨F,H⟩,G⟩:=this;refine⟨by simpa using F,H,?_⟩;rcases G with q|⟨j,B,J,y⟩
   .exact .inl q
   .exact .inr ⟨j,B,by simpa using J,y⟩
  |succ i=>
   have:=E (b+1) h.2 i o (by simpa using d);rw[show b+1+i=b+(i+1)by omega]at this;exact this
theorem Qpa{m:Nat}{F:AA Nat}{R:AA Bool}{L E:AA (AA Nat)}{T:AA (AA (Nat×Nat))}(h:HR l m N F R L E T=AE):
  kY l m F R L E T N/\0<E.length:=by
 unfold HR at h;simp only[XV]at h;obtain⟨⟨⟨⟨⟨⟨⟨⟨⟨⟨X,V⟩,h3⟩,W⟩,h5⟩,h6⟩,Y⟩,h8⟩,h9⟩,O⟩,P⟩:=h;have Q:m<=l.length:=XQ X;have M:F.length=m:=by simpa using V
 have g:=sA l 0 h5;refine⟨⟨Q,λi o G f=>?_,M,ua W,λi o f=>by have:=(g i o f).1;simpa using this,λo f j hj=>iW m (Qi o) (λi G=>.one f G) j ((g m o f).2.1 om j hj),
  λi o G f=>by have:=(g i o f).2.2 om;simpa using this,λi o G f h x=>by have:=Qn9 l 0 h6 i o f h (by simpa using x);exact this,
  by simpa using Y,λy d=>?_,λy h x=>?_,λi y G d hr hn hx=>?_⟩,by simpa using h8⟩
 .have H:F[i]?=AC F[i]:=XJ om;rcases tw l F 0 h3 i _ o f H with⟨B,J⟩|B
  .exact .inl ⟨_,B,H,J⟩
  .exact .inr B
 .have:=Xs.1 h9 y (List.mem_range.2 d);simp only[Bool.or_eq_true,Xt,XV,Bool.not_eq_true']at this;rcases this with q|⟨i,B,J,t⟩
  .exact .inl (XP q)
  .exact .inr ⟨i,List.mem_range.1 B,J,λz=>by rw[List.contains_iff_mem.2 z]at t;cases t⟩
 .have d:y<E.length:=by
   rcases VA y E.length with q|q
   .exact q
   .rw[VK,XN q]at x;cases x
  have:=Xs.1 (Xs.1 P y (List.mem_range.2 d)) h x;simp only[XV]at this;exact⟨by simpa using this.1,this.2⟩
 .have:=Xs.1 (Xs.1 O i (List.mem_range.2 G)) y (List.mem_range.2 d);simp only[Bool.or_eq_true,Bool.not_eq_true']at this;rcases this with((q|q)|q)|q
  .exfalso;obtain⟨h,x,q⟩:=Xt.1 q;exact hx h x (Qmc (List.contains_iff_mem.1 q))
  .exfalso;have:((L.getD i []).all ((E.getD y []).contains ·))=true:=Xs.2 λh x=>List.contains_iff_mem.2 (hr h x);rw[this]at q;cases q
  .simp only[XV]at q;exact absurd (List.contains_iff_mem.1 q.2) (hn q.1)
  .obtain⟨p,hp,q⟩:=Xt.1 q;simp only[XV]at q;obtain⟨⟨B,J⟩,t⟩:=q;have e:=XP B;refine⟨p.2,by rw[<- e];exact hp,by simpa using J,?_⟩;cases z:R.getD i AD with
   |true=>
    rw[z]at t;simp only[Vo]at t;simp only[if_true];intro j;rw[Qqj t j,X6]
   |false=>
    rw[z]at t;simp only[Vp]at t;simp only[Xi,if_false];exact XP t
inductive Co (P:AK) (N:Nat) (l:List AM) (ds:List Nat) (xs:List A) (env0:Env) (hB hE:Nat):Nat->List (List (Qc×Qc))->Prop
 |nil {i:Nat}:Co P N l ds xs env0 hB hE i []
 |cons {i:Nat} {s:List (Qc×Qc)} {r:List (List (Qc×Qc))} (h:∀p∈s,Jn P N l ds xs env0 hB hE i p.1 p.2) (k:Co P N l ds xs env0 hB hE (i+1) r):Co P N l ds xs env0 hB hE i (s::r)
theorem Co.get{b:Nat}{g:AA (AA (Qc×Qc))}(h:Co P N l f xs env0 hB hE b g):
  ∀(i:Nat) (s:AA (Qc×Qc)),g[i]?=AC s->∀p∈s,Jn P N l f xs env0 hB hE (b+i) p.1 p.2:=by
 induction h with
 |nil=>intro i s h;simp at h
 | @cons b s0 r h _ ih=>
  intro i s d;cases i with
  |zero=>simp at d;subst d;exact h
  |succ i=>
   have:=ih i s (by simpa using d);rw[show b+1+i=b+(i+1)by omega]at this;exact this
theorem Qg{i:Nat}:∀p∈([]:AA (Qc×Qc)),Jn P N l f xs env0 hB hE i p.1 p.2:=by
 intro p d;cases d
theorem Qb{d:AA Nat}{i:Nat}{H:Qc}{r:AA (Qc×Qc)}(h:Jn P N l d xs env0 hB hE i H H')
  (k:∀p∈r,Jn P N l d xs env0 hB hE i p.1 p.2):∀p∈(H,H')::r,Jn P N l d xs env0 hB hE i p.1 p.2:=by
 intro p f;rcases X6.1 f with rfl|q
 .exact h
 .exact k p q
variable {id:Nat}
theorem Qhr{env:Env}{H:Qc}{a:Act}(m c:Nat)(ds:AA Nat)(hs:AA Bool)(rq Y:AA (AA Nat))(O:AA (AA (Nat×Nat)))(xs:AA A)(Hs:AA Qc)(Hk:Qc)
  (hm:P.follows .mixedOrders=AE)(hc:HR l m N ds hs rq Y O=AE)(ab:Nat.beq xs.length m=AE)(af:Nat.beq Hs.length Y.length=AE)(ag:Nat.ble h0 H.length=AE)
  (hh:Hs.all (λX=>Nat.ble (H.length+c) X.length)=AE)(ah:Hs[0]?=AC (H++List.replicate c .dead))(ac:Hs.getD (Y.length-1) []=Hk)
  (ad:Co P N l ds xs env H.length (H.length+c) 0 (O.map λq=>q.map λp=>(Hs.getD p.1 [],Hs.getD p.2 [])))(aa:Nat.beq O.length m=AE)
  (r:DN fr ro σ H env N a w)(ae:KP rd fr w)
  (hk:∀ro' σ' a' w',DN fr ro' σ' Hk (Ir ds xs env) N a' w'->Ql fr ro w ro' w'->σ'.take h0=σ.take h0->a'.defers=a.defers->FD P rd l.toArray R (l.drop m) a' w'):(Code.region id l.toArray AE).wpIn (WF rd) 0 P R a w:=by
 obtain⟨ok,L⟩:=Qpa hc;have G:=XP ab;have T:=XP af;have aj:=XP aa;have J:Ql fr ro w ro {w with drawn:=w.drawn+1}:=⟨λ_ q=>q,λ_ _=>rfl,λ_ _=>rfl,XS _,λ_ _ q=>q,rfl,rfl,rfl,Nat.le_succ _⟩;have F:DR ro σ w ro (σ++List.replicate c AF) {w with drawn:=w.drawn+1}:=J.ext σ _;have ai:=r.sim.len;have V:Hs.getD 0 []=H++List.replicate c .dead:=oq ah;have B:∀(i:Nat) (s:AB Nat) (x:CW),(σ++List.replicate c AF)[i]?=AC s->(H++List.replicate c CW.dead)[i]?=AC x->(σ[i]?=AC s/\H[i]?=AC x)\/(s=AF/\x=.dead):=by
  intro i s x t h;rcases VA i σ.length with q|q
  .rw[XL q]at t;rw[XL om]at h;exact .inl ⟨t,h⟩
  .rw[XM q]at t;rw[XM om]at h;have a1:=VG t;have a2:=VG h;exact .inr ⟨(List.mem_replicate.1 a1).2,(List.mem_replicate.1 a2).2⟩
 have M:CZ fr ro (σ++List.replicate c AF) (H++List.replicate c .dead) {w with drawn:=w.drawn+1}:=by
  refine⟨by simp[ai],r.sim.roOk.to (λ_ q=>q) (λ_ _=>rfl) r.sim.roLt,r.sim.frLt,r.sim.roFr,?_,?_,?_,
   r.sim.hidTo (· = ·) Yq (XS _) (λ_ _ _ _ _ _ _ q=>q) (λ_ _ _ _ _ _ _ q=>q) λj d y g1 g2 g3=>.inl ?_⟩
  rotate_left 3
  .rcases B j _ _ g1 g2 with⟨g,E⟩|⟨g,_⟩
   .exact⟨j,y,rfl,g,E,(λz=>z),λc q=>q⟩
   .cases g
  .intro i b blk t h W;rcases B i _ _ t h with⟨g,E⟩|⟨g,_⟩
   .exact r.sim.own i b blk g E W
   .cases g
  .intro i j b x y t h W h4 h5 h6;rcases B i _ _ t W with⟨g,E⟩|⟨g,_⟩
   .rcases B j _ _ h h4 with⟨q3,q4⟩|⟨q3,_⟩
    .exact r.sim.inj i j b x y g q3 E q4 h5 h6
    .cases q3
   .cases g
  .intro i s x t h;rcases B i _ _ t h with⟨g,E⟩|⟨g,E⟩
   .exact BR.keep F (λb hb _=>rfl) (r.sim.blk i s x g E) (λ_ _ _ _=>rfl)
   .subst E;exact trivial
 have f:∀i,¬Dy (Array.replicate l.length AD) i:=by
  intro i q;unfold Dy at q;rw[Array.getElem?_replicate]at q;split at q<;>simp at q
 have Q:=XQ ag;refine wpIn_region_any hm ?_;rw[List.size_toArray];refine rK ok G T Q (Nat.le_add_right _ _) (λX hX=>XQ (Xs.1 hh X hX)) ?_ ac (ro0:=ro) (σ0:=σ) (w0:=w) (ds0:=a.defers) hk r.defers ae
  l.length _ a _ ro (σ++List.replicate c AF) 0 sq ?_ (λi _=>f i) L (by rw[V];exact M) r.size rfl (λi d x q=>absurd q (f i)) (λs _=>(r.env s).mono F) J (QT om) ?_
  (λi _ q=>absurd q (f i)) (λi _ _=>⟨λq=>absurd q (f i),λq=>by rw[ok.ms0]at q;cases q⟩) (λi o q=>absurd q (f i))
 .intro i p hi hp;have e:(O.map λq=>q.map λp=>(Hs.getD p.1 [],Hs.getD p.2 []))[i]?=AC ((O.getD i []).map λp=>(Hs.getD p.1 [],Hs.getD p.2 [])):=by
   rw[Xo,XJ om,VK,XJ om];rfl
  have:=ad.get i _ e _ (Xe.2 ⟨p,hp,rfl⟩);simpa using this
 .unfold NN;simp[List.countP_replicate]
 .intro p t h W;rw[XM om,List.getElem?_replicate,Vs om]
theorem Yx{env:Env}{H:Qc}{Q:Qy}(m c:Nat)(h:AA Nat)(J:AA Bool)(G f:AA (AA Nat))(g:AA (AA (Nat×Nat)))(xs:AA A)(Hs:AA Qc)(Hk:Qc)
  (O:P.follows .mixedOrders=AE)(T:HR l m N h J G f g=AE)(x:Nat.beq xs.length m=AE)(t:Nat.beq Hs.length f.length=AE)(B:Nat.ble h0 H.length=AE)
  (L:Hs.all (λX=>Nat.ble (H.length+c) X.length)=AE)(F:Hs[0]?=AC (H++List.replicate c .dead))(y:Hs.getD (f.length-1) []=Hk)
  (E:Co P N l h xs env H.length (H.length+c) 0 (g.map λq=>q.map λp=>(Hs.getD p.1 [],Hs.getD p.2 [])))(j:Nat.beq g.length m=AE)
  (R:WO P h0 N l.toArray (l.drop m) (Ir h xs env) Hk Q):TC P h0 N (.region id l.toArray AE) env H Q:=by
 intro M V W σ a w r hrd;refine Code.wpIn_mono (λe a w q=>IM.postW q) (Qhr m c h J G f g xs Hs Hk O T x t B L F y E j r hrd λro' σ' a' w' hr hev htk hdf=>?_);have d:=R M V ro' σ' a' w' hr (hrd.to hev λ_ q=>q);rw[hdf]at d;exact YH (λe a w q=>q.step hev htk) _ _ _ d
def draw0(l:AA AM)(m N:Nat)(ds:AA Nat):Bool:=Nat.ble m l.length&&(ds.length==m)&&HR.dstB N 0 l ds&&C0.nodupB ds&&C0.goB l m 0 l
inductive Oq (P:AK) (N:Nat) (l:List AM) (ds:List Nat) (xs:List A) (env0:Env) (H:Qc):Nat->Nat->Prop
 |n {i:Nat}:Oq P N l ds xs env0 H i 0
 |c {i c:Nat} (h:Jn P N l ds xs env0 H.length H.length i H H) (k:Oq P N l ds xs env0 H (i+1) c):Oq P N l ds xs env0 H i (c+1)
theorem Oq.get{d:AA Nat}{H:Qc}{b c:Nat}(h:Oq P N l d xs env0 H b c):∀i,i<c->Jn P N l d xs env0 H.length H.length (b+i) H H:=by
 induction h with
 |n=>intro i f;omega
 | @c b c h _ ih=>
  intro i f;cases i with
  |zero=>exact h
  |succ i=>
   have:=ih i om;rw[show b+1+i=b+(i+1)by omega]at this;exact this
theorem Qpb{m:Nat}{q:AA Nat}(h:draw0 l m N q=AE):kY l m q [] [] [[]] (List.replicate m [(0,0)]) N:=by
 unfold draw0 at h;simp only[XV]at h;obtain⟨⟨⟨⟨M,J⟩,P⟩,L⟩,O⟩:=h;have G:m<=l.length:=XQ M;have F:q.length=m:=by simpa using J
 have g:=sA l 0 O;refine⟨G,λi o t f=>?_,F,ua L,λi o f=>by have:=(g i o f).1;simpa using this,λo f j H=>iW m (Qi o) (λi t=>.one f t) j ((g m o f).2.1 om j H),
  λi o t f=>by have:=(g i o f).2.2 om;simpa using this,λi o t f h B=>by simp at B,rfl,λy d=>.inl (by simp at d;simp[d]),λy h B=>by cases y<;>simp at B,λi y t d _ _ _=>?_⟩
 .have x:q[i]?=AC q[i]:=XJ om;rcases tw l q 0 P i _ o f x with⟨E,Q⟩|E
  .exact .inl ⟨_,E,x,Q⟩
  .exact .inr E
 .have:y=0:=by simp at d;exact d
  subst this;refine⟨0,?_,sq,sq⟩;rw[VK,List.getElem?_replicate,Vs t];exact Vz.2 rfl
theorem Qhs{env:Env}{H:Qc}{a:Act}(m:Nat)(F:AA Nat)(xs:AA A)
  (M:P.follows .mixedOrders=AE)(Q:Go.Sw.draw0 l m N F=AE)(G:Nat.beq xs.length m=AE)(y:Nat.ble h0 H.length=AE)
  (B:Oq P N l F xs env H 0 m)(r:DN fr ro σ H env N a w)(E:KP rd fr w)
  (O:∀ro' σ' a' w',DN fr ro' σ' H (Ir F xs env) N a' w'->Ql fr ro w ro' w'->σ'.take h0=σ.take h0->a'.defers=a.defers->FD P rd l.toArray R (l.drop m) a' w'):(Code.region id l.toArray AE).wpIn (WF rd) 0 P R a w:=by
 have ok:=Qpb Q;have j:=XP G;have t:Ql fr ro w ro {w with drawn:=w.drawn+1}:=⟨λ_ q=>q,λ_ _=>rfl,λ_ _=>rfl,XS _,λ_ _ q=>q,rfl,rfl,rfl,Nat.le_succ _⟩;have g:DR ro σ w ro σ {w with drawn:=w.drawn+1}:=t.ext0 σ;have h:CZ fr ro σ H {w with drawn:=w.drawn+1}:=r.sim.heap rfl;have f:∀i,¬Dy (Array.replicate l.length AD) i:=by
  intro i q;unfold Dy at q;rw[Array.getElem?_replicate]at q;split at q<;>simp at q
 refine wpIn_region_any M ?_;rw[List.size_toArray];refine rK (hB:=H.length) (hE:=H.length) (Hs:=[H]) (Hk:=H) ok j rfl (XQ y) (XS _) (λX hX=>by rw[Vz.1 hX];exact XS _) ?_ rfl (ro0:=ro) (σ0:=σ) (w0:=w) (ds0:=a.defers) O r.defers E
  l.length _ a _ ro σ 0 sq ?_ (λi _=>f i) sq h r.size rfl (λi d x q=>absurd q (f i)) (λs _=>(r.env s).mono g) t rfl (λp V T=>om)
  (λi _ q=>absurd q (f i)) (λi _ _=>⟨λq=>absurd q (f i),λq=>by cases q⟩) (λi o q=>absurd q (f i))
 .intro i p L J;rw[VK,List.getElem?_replicate,Vs L]at J;obtain rfl:=Vz.1 J;have:=B.get i L;rw[Xv]at this;exact this
 .unfold NN;simp[List.countP_replicate]
theorem TC.draw0{P:AK}{h0 N:Nat}{id:Nat}{l:AA AM}{env:Env}{H:Qc}{Q:Qy}(m:Nat)(f:AA Nat)(xs:AA A)
  (t:P.follows .mixedOrders=AE)(E:Go.Sw.draw0 l m N f=AE)(j:Nat.beq xs.length m=AE)(g:Nat.ble h0 H.length=AE)
  (h:Oq P N l f xs env H 0 m)(x:WO P h0 N l.toArray (l.drop m) (Ir f xs env) H Q):TC P h0 N (.region id l.toArray AE) env H Q:=by
 intro B y F σ a w r hrd;refine Code.wpIn_mono (λe a w q=>IM.postW q) (Qhs m f xs t E j g h r hrd λro' σ' a' w' hr hev htk hdf=>?_);have d:=x B y ro' σ' a' w' hr (hrd.to hev λ_ q=>q);rw[hdf]at d;exact YH (λe a w q=>q.step hev htk) _ _ _ d
section
variable {P:AK} {N:Nat} {l:AA AM} {ds af bf:AA Nat} {xs:AA A} {env0 e r:Env} {H H':Qc} {i hB hE:Nat} {o:AM} {d s:Nat} {x a:A}
theorem sN:Sb af bf ds xs env0 []:=.nil
theorem sD(j:Nat)(k:Sb af bf ds xs env0 r)(d:af.contains j=true:=by rfl)(h2:ds[j]?=AC s:=by rfl)(h3:xs[j]?=AC a:=by rfl):Sb af bf ds xs env0 ((s,a)::r):=.dep j d h2 h3 k
theorem sP(j:Nat)(k:Sb af bf ds xs env0 r)(d:bf.contains j=true:=by rfl)(h2:ds[j]?=AC s:=by rfl)(h3:lk env0 s=a:=by rfl):Sb af bf ds xs env0 ((s,a)::r):=.pre j d h2 h3 k
theorem sO(s:Nat)(k:Sb af bf ds xs env0 r)(d:ds.contains s=false:=by rfl)(h2:lk env0 s=a:=by rfl):Sb af bf ds xs env0 ((s,a)::r):=.old d h2 k
theorem uS(H:Qc):JR hB hE H H=true:=by
 unfold JR;refine Xs.2 λp _=>?_;cases N1 H[hB+p]? <;>rfl
theorem Om(j:l[i]?=AC o)(f:Sb (Qi o) (Nq l i) ds xs env0 e)(h:WO P H.length N l.toArray [o] e H (YY (up e d x) H))(g:o.dst=AC d:=by rfl)(hx:xs[i]?=AC x:=by rfl):Jn P N l ds xs env0 hB hE i H H:=
 .mk o e d x j g hx (uS H) f h
theorem F7(j:l[i]?=AC o)(f:Sb (Qi o) (Nq l i) ds xs env0 e)(h:WO P H.length N l.toArray [o] e H (YY (up e d x) H'))(g:o.dst=AC d:=by rfl)(hx:xs[i]?=AC x:=by rfl)(hdd:JR hB hE H H'=true:=by rfl):Jn P N l ds xs env0 hB hE i H H':=
 .mk o e d x j g hx hdd f h
theorem S9(g:l[i]?=AC o)(d:Sb (Qi o) (Nq l i) ds xs env0 e)(h:WO P H.length N l.toArray [o] e H (YY e H'))(f:o.dst=none:=by rfl)(hx:xs[i]?=AC .any:=by rfl)(hdd:JR hB hE H H'=true:=by rfl):Jn P N l ds xs env0 hB hE i H H':=
 .unit o e g f hx hdd d h
end
structure Si where
 fld:List (Nat×Nat×Nat)
 agg:List (Nat×Bool×Nat)
 zer:List (Nat×List A×List (Nat×Nat))
structure Sh (P:AK) (T:Si):Prop where
 fld:∀e∈T.fld,∃n,Qs P e.1 e.2.1 e.2.2 n
 agg:∀e∈T.agg,(∀w,(isAgg e.1).run P w=.ok e.2.1 w)/\ ∀w,(sizeOf e.1).run P w=.ok e.2.2 w
 zer:∀e∈T.zer,(∃z,(∀w,(zeroValue e.1).run P w=.ok z w)/\ZR (.agg e.2.1) z)/\Ss P e.1 e.2.2
def dR:AA (Nat×Nat×Nat)->Nat->Nat->AB Nat
 |[],_,_=>AF
 |(a,b,c)::r,t,f=>bif Nat.beq a t&&Nat.beq b f then AC c else dR r t f
def H8{β:Type}:AA (Nat×β)->Nat->AB β
 |[],_=>AF
 |(a,b)::r,t=>bif Nat.beq a t then AC b else H8 r t
theorem r9{l:AA (Nat×Nat×Nat)}{f c:Nat}(h:dR l t f=AC c):(t,f,c)∈l:=by
 induction l with
 |nil=>cases h
 |cons x r g=>
  obtain⟨a,b,d⟩:=x;unfold dR at h;cases q:(Nat.beq a t&&Nat.beq b f)with
  |true=>
   simp_all
  |false=>grind
theorem NB{β:Type}{l:AA (Nat×β)}{c:β}(h:H8 l t=AC c):(t,c)∈l:=by
 induction l with
 |nil=>cases h
 |cons x r d=>
  obtain⟨a,b⟩:=x;unfold H8 at h;cases q:Nat.beq a t with
  |true=>
   simp_all
  |false=>grind
def lQ(H:Qc):A->AB (AA A)
 |.rp cs=>AC cs
 |.ptr i off=>match H[i]? with
  |some (.cells _ cs)=>AC (cs.drop off)
  |_=>AF
 |_=>AF
theorem Qkj{H:Qc}{p:A}(h:lQ H p=AC d):Df H p d:=by
 unfold lQ at h;split at h
 .cases h;exact Df.rp
 .split at h
  .rename_i f;cases h;exact Df.cells f rfl
  .cases h
 .cases h
def ke(T:Si)(o:AM)(env:Env)(H:Qc):AB A:=
 match o.op with
 |.move x=>AC (CP env x)
 |.assign x=>AC (CP env x)
 |.fieldAddr t x f=>match dR T.fld t f with
  |none=>AF
  |some off=>match CP env x with
   |.ptr i p=>AC (.ptr i (p+off))
   |.rp cs=>AC (.rp (cs.drop off))
   |_=>AF
 |.load t x=>match H8 T.agg t with
  |none=>AF
  |some (b,n)=>match x with
   |.global g=>match M4[g]? with
    |some zs=>bif b&&Nat.beq zs.length n then AC (.agg (zs.map (A.int .i64)))else AF
    |none=>AF
   |x=>match lQ H (CP env x)with
    |none=>AF
    |some cs=>bif b then(bif Nat.beq (cs.take n).length n then AC (.agg (cs.take n))else AF)else cs.head?
 |.build t parts=>match H8 T.zer t with
  |none=>AF
  |some (zs,pl)=>match RX env pl zs parts.toList with
   |some cs=>AC (.agg cs)
   |none=>AF
 |.extract x i=>match CP env x with
  |.tup vs=>vs[i]?
  |_=>AF
 |.makeFunc f first cap=>AC (.fn f (first.toList.map (CP env)) (cap.toList.map (CP env)))
 |_=>AF
theorem QnX{T:Si}(E:Sh P T){o:AM}{env:Env}{H:Qc}{x:A}(h:ke T o env H=AC x):CS P o env H x:=by
 unfold ke at h;split at h
 .simp_all[CS.move]
 .simp_all[CS.assign]
 .rename_i t y f d;split at h
  .cases h
  .rename_i J B;obtain⟨n,Q⟩:=E.fld _ (r9 B);split at h
   .grind[m9]
   .rename_i g L;cases h;exact tG Q d L rfl
   .cases h
 .rename_i t y d;split at h
  .cases h
  .rename_i b n M;obtain⟨j,m⟩:=E.agg _ (NB M);split at h
   .split at h
    .rename_i G O;cases q:(b&&Nat.beq G.length n)with
     |false=>grind
     |true=>
      rw[q]at h;cases h;simp[XV]at q;obtain⟨rfl,Y⟩:=q;exact su j m O (by simp_all) d
    .cases h
   .split at h
    .cases h
    .rename_i g V;have F:=Qkj V;cases b with
     |true=>
      cases q:Nat.beq (g.take n).length n with
      |false=>grind
      |true=>
       rw[q]at h;cases h;exact Qt d j m rfl F rfl (by simp_all)
     |false=>
      cases g with
      |nil=>cases h
      |cons v g=>cases h;exact CS.load d j rfl F
 .rename_i t parts d;split at h
  .cases h
  .rename_i G X W;obtain⟨⟨z,j,m⟩,N⟩:=E.zer _ (NB W);split at h
   .rename_i g B;cases h;exact CS.build j m N (by rw[d]) B
   .cases h
 .grind[CS.extract]
 .rename_i f first R d
  cases h;exact CS.makeFunc (by rw[d]) rfl rfl
 .cases h
def RP(af:AA Nat):Nat->AA Nat->AA A->Env->Env
 |j,d::ds,x::xs,e=>(d,bif af.contains j then x else .any)::RP af (j+1) ds xs e
 |_,_,_,e=>e
theorem Qq1(s:Nat):∀(f:AA Nat) (xs:AA A) (b:Nat),f.length=xs.length->
  (∃(j:Nat) (x:A),f[j]?=AC s/\xs[j]?=AC x/\lk (RP af b f xs env0) s=bif af.contains (b+j)then x else .any)\/(f.contains s=AD/\lk (RP af b f xs env0) s=lk env0 s):=by
 intro f
 induction f with
 |nil=>simp_all[RP]
 |cons d f t=>
  intro xs b h;cases xs with
  |nil=>cases h
  |cons x xs=>
   cases q:Nat.beq s d with
   |true=>
    have e:=XP q;subst e;left;refine⟨0,x,rfl,rfl,?_⟩
    simp_all[RP,lk]
   |false=>
    have g:s≠d:=λz=>by simp_all
    simp only[RP,lk,q];rcases t xs (b+1) gq with⟨j,y,B,m,E⟩|⟨B,m⟩
    .left;refine⟨j+1,y,gq,gq,?_⟩
     grind
    grind
def gY(T:Si)(N:Nat)(l:AA AM)(ds:AA Nat)(xs:AA A)(env0:Env)(H:Qc)(i:Nat):AB A:=
 match l[i]? with
 |none=>AF
 |some o=>match o.guard,o.dst with
  |none,AC d=>bif Nat.blt d N&&Nat.beq ds.length xs.length then ke T o (RP (Qi o) 0 ds xs env0) H else AF
  |_,_=>AF
theorem Qq0{d:AA Nat}(f:d.length=xs.length):gU af d xs env0 (RP af 0 d xs env0):=by
 intro s;rcases Qq1 (af:=af) (env0:=env0) s d xs 0 f with⟨j,x,g,q,m⟩|h
 .grind
 grind
theorem vQ{T:Si}(y:Sh P T){i:Nat}{H:Qc}{x:A}(t:xs[i]?=AC x)(h:gY T N l f xs env0 H i=AC x):Jn P N l f xs env0 hB hE i H H:=by
 unfold gY at h;split at h
 .cases h
 .rename_i o j;split at h
  .rename_i d m g;cases q:(Nat.blt d N&&Nat.beq f.length xs.length)with
   |false=>grind
   |true=>
    rw[q]at h;simp only[XV]at q;exact .val o _ d x j g m t q.1 (Qq0 (by simp_all)) (QnX y h)
  .cases h
abbrev I(n:Int):A:=.int .i64 n
theorem zc{a:A}{v:AL}{al:AA A}{vl:AA AL}(h:ZR a v)(k:ZL al vl):ZL (a::al) (v::vl):=ZL.cons h k
def f7:A->AL->Bool
 |.int k n,.int k' n'=>AG (k=k')&&AG (n=n')
 |.bool b,.bool b'=>b==b'
 |.str s,.string s'=>s.isEmpty&&s'.data.toList.isEmpty
 |.rsl _ es,.slice AF 0 0=>es.isEmpty
 |.nils,.slice AF 0 0=>AE
 |.nilp,.pointer AF=>AE
 |.nilf,.nilFunc=>AE
 |.nilm,.map AF=>AE
 |.nilif,.nilIface=>AE
 |_,_=>AD
def fy:AA A->AA AL->Bool
 |[],[]=>AE
 |a::r,v::s=>f7 a v&&fy r s
 |_,_=>AD
def f6:A->AL->Bool
 |.agg r,.agg s=>fy r s.toList
 |a,v=>f7 a v
theorem pt{a:A}{v:AL}(h:f7 a v=AE):ZR a v:=by
 unfold f7 at h;split at h
 .simp_all[ZR.int]
 .simp_all[ZR.bool]
 .rename_i s f;simp[XV]at h;obtain⟨d⟩:=f
  simp_all[ZR.str]
 .rename_i k g;have h:=List.isEmpty_iff.1 h;subst h;exact ZR.rsl (e:=λx=>[x])
 .exact ZR.nils
 .exact ZR.nilp
 .exact ZR.nilf
 .exact ZR.nilm
 .exact Qq9
 .cases h
theorem pu:∀{r:AA A} {s:AA AL},fy r s=AE->ZL r s
 |[],[],_=>ZL.nil
 |a::r,v::s,h=>by
  simp[fy,XV]at h;exact ZL.cons (pt h.1) (pu h.2)
 |[],_::_,h=>by cases h
 |_::_,[],h=>by cases h
theorem Fu{a:A}{v:AL}(h:f6 a v=AE):ZR a v:=by
 unfold f6 at h;split at h
 .have:=ZR.agg (pu h);omega
 .exact pt h
section
variable {P:AK} {o:AM} {env:Env} {H:Qc}
theorem QjU{b:Nat}{l:AA Int}{d:Nat}(h:CR ro σ w b (l.map λn=>A.int .u8 n) d):(loadCells ⟨b,d,AF⟩ l.length).run P w=.ok (l.map λn=>Value.int .u8 n).toArray w:=by
 obtain⟨vs,t,_,x⟩:=YE (P:=P) 0 (by simpa using h);have e:∀(l:AA Int) (vs:AA AL),LR ro σ w (l.map λn=>A.int .u8 n) vs->vs=l.map λn=>Value.int .u8 n:=by
  intro l
  induction l with
  |nil=>intro vs h;exact h
  |cons n l m=>
   rintro vs ⟨v,j,rfl,f,q⟩;have g:v=.int .u8 n:=f
   grind
 grind[loadCells]
theorem sR:∀(l:AA Int) (acc:ByteArray),l.foldl (λr n=>r.push (UInt8.ofNat n.toNat)) acc=⟨acc.data++(l.map JB).toArray⟩
 |[],acc=>sq
 |n::l,acc=>by
  rw[XC,sR l];simp[JB]
theorem iR{t u e:TypeId}{x:Operand}{ax:A}{l:AA Int}(G:HG P H ax l)(h:∀w,(underlying t).run P w=.ok (.slice e) w)(he:∀w,(underlying e).run P w=.ok (.int .u8) w)(g:∀w,(underlying u).run P w=.ok .string w)
  (L:o.op=.convert t u x:=by rfl)(hx:CP env x=ax:=by rfl):CS P o env H (.str (l.map JB)):=by
 intro J F σ N a w r;have m:=Qp r x;rw[hx]at m;refine⟨.string ⟨(l.map JB).toArray⟩,?_,rfl⟩;have y:(convert t u (a.eval x)).run P w=.ok (.string ⟨(l.map JB).toArray⟩) w:=by
  rcases G J F σ w _ r.sim m with⟨q,c,f,rfl⟩|⟨b,d,c,f,j⟩
  .rw[f];cases q with
   |none=>simp[convert,h,g,he,go_sem];rfl
   |some q=>simp[convert,h,g,he,loadCells,go_sem];rfl
  .rw[f];have B:(loadCells ⟨b,d,AF⟩ l.length).run P w=.ok (l.map λn=>Value.int .u8 n).toArray w:=by
    rcases j with rfl|j
    .rfl
    .exact QjU j
   have E:(convert t u (.slice (AC ⟨b,d,AF⟩) l.length c)).run P w=(Conv.bytesToString (.slice (AC ⟨b,d,AF⟩) l.length c)).run P w:=by
    simp[convert,h,g,he,go_sem]
   rw[E,run_bytesToString w ⟨b,d,AF⟩ l.length c l B,sR];simp
 simp_all[execOp]
theorem Qm3{t u:TypeId}{x:Operand}{p q:AA UInt8}(ho:o.op=.binOp .gtr t x y u)(hx:CP env x=.str p)(hy:CP env y=.str q):CS P o env H (.bool (!(Op.bytesLess p q||p==q))):=
 iS (f:=λa b=> !(Op.bytesLess a b||a==b)) ho hx hy sq
end
structure Fr where
 ty:Si
 al:List (Nat×A)
 sl:List Nat
structure Iu (P:AK) (T:Fr):Prop where
 ty:Sh P T.ty
 al:∀e∈T.al,(∃z,(∀w,(zeroValue e.1).run P w=.ok z w)/\ZR e.2 z)/\Yn e.2=AE/\(Yj e.2).all Yu=AE
 sl:∀t∈T.sl,∃et,∀w,(underlying t).run P w=.ok (.slice et) w
def Yg(all:Array AM)(o:AM)(env:Env):AB Bool:=
 match o.guard with
 |none=>AC AE
 |some (j,c)=>match(all[j]?).bind (·.dst)with
  |none=>AF
  |some d=>match lk env d with
   |.bool AE=>AC c
   |.bool AD=>AC (!c)
   |.tup []=>AC AD
   |_=>AF
theorem Qx{all:Array AM}{o:AM}{env:Env}{b:Bool}(h:Yg all o env=AC b):Qz all o env b:=by
 unfold Yg at h;unfold Qz;split at h
 .grind
 .rename_i j c q;rw[q];split at h
  .cases h
  .rename_i d f;refine⟨d,f,?_⟩;split at h
   .simp_all
   .simp_all
   .grind
   .cases h
def Fs:AA Nat->Nat->Bool
 |[],_=>AD
 |a::r,t=>bif Nat.beq a t then AE else Fs r t
theorem lD{l:AA Nat}(h:Fs l t=AE):t∈l:=by
 induction l with
 |nil=>cases h
 |cons a r d=>
  grind[Fs,Nat.eq_of_beq_eq_true]
inductive FL where
 |mk (l:List A)
def fl:AA A->FL
 |[]=>.mk []
 |a::r=>match fl r with
  |.mk r'=>.mk (a::r')
theorem M8:∀l:AA A,fl l=.mk l
 |[]=>rfl
 |a::r=>by unfold fl;rw[M8 r]
inductive FB where
 |mk (l:List CW)
def fb:AA CW->FB
 |[]=>.mk []
 |a::r=>match fb r with
  |.mk r'=>.mk (a::r')
theorem ZQ:∀l:AA CW,fb l=.mk l
 |[]=>rfl
 |a::r=>by unfold fb;rw[ZQ r]
inductive FN where
 |mk (n:Nat)
def fn:AA CW->Nat->FN
 |[],n=>.mk n
 |_::r,n=>fn r (n+1)
theorem gP:∀(l:AA CW) (n:Nat),fn l n=.mk (l.length+n)
 |[],n=>by simp[fn]
 |a::r,n=>by unfold fn;rw[gP r];simp;omega
def gO(env:Env)(pl:AA (Nat×Nat)):AA A->AA (Nat×Operand)->AB (AA A)
 |cs,[]=>AC cs
 |cs,(i,x)::r=>match YJ pl i with
  |none=>AF
  |some (off,size)=>match DQ env x with
   |.mk a=>match fl (Yj a)with
    |.mk vs=>bif Yn a&&Nat.beq vs.length size&&Nat.ble (off+size) cs.length then(match fl (splice cs off vs)with
     |.mk cs'=>gO env pl cs' r)else AF
theorem sj{env:Env}{pl:AA (Nat×Nat)}:∀(parts:AA (Nat×Operand)) (cs:AA A),gO env pl cs parts=RX env pl cs parts
 |[],cs=>rfl
 |(i,x)::r,cs=>by
  unfold gO RX;rw[M9];cases pl[i]? with
  |none=>rfl
  |some q=>
   obtain⟨off,size⟩:=q;cases h:DQ env x with
   |mk a=>
    rw[Q2 h];simp only[M8];cases(Yn a&&Nat.beq (Yj a).length size&&Nat.ble (off+size) cs.length)with
    |false=>rfl
    |true=>exact sj r _
def RU(env:Env):AA Operand->AA A
 |[]=>[]
 |x::r=>match DQ env x with
  |.mk a=>a::RU env r
theorem du{env:Env}:∀l:AA Operand,RU env l=l.map (CP env)
 |[]=>rfl
 |x::r=>by
  unfold RU;cases h:DQ env x with
  |mk a=>rw[Vj,Q2 h];show a::RU env r=_;rw[du r]
def NV(H:Qc):Bx->AB Lx
 |.mk (.rp cs)=>AC (.mk cs)
 |.mk (.ptr i off)=>match YJ H i with
  |some (.cells _ cs)=>AC (dP off cs)
  |_=>AF
 |_=>AF
theorem _P{H:Qc}{p:A}(h:NV H (.mk p)=AC (.mk d)):Df H p d:=by
 unfold NV at h
 grind[Df.rp,M9,Df.cells,mD]
def IL(T:Fr)(o:AM)(env:Env)(H:Qc):AB A:=
 match o.op with
 |.move x=>match DQ env x with|.mk a=>AC a
 |.assign x=>match DQ env x with|.mk a=>AC a
 |.nilCheck x=>jO (DQ env x)
 |.extract x i=>kN (DQ env x) i
 |.unOp u _ x=>jA u (DQ env x)
 |.pick c x y=>jJ (DQ env c) (DQ env x) (DQ env y)
 |.binOp b _ x y _=>kQ b (DQ env x) (DQ env y)
 |.fieldAddr t x f=>match dR T.ty.fld t f with
  |none=>AF
  |some off=>match DQ env x with
   |.mk (.ptr i p)=>AC (.ptr i (p+off))
   |.mk (.rp cs)=>match dP off cs with
    |.mk r=>AC (.rp r)
   |_=>AF
 |.load t x=>match H8 T.ty.agg t with
  |none=>AF
  |some (b,n)=>match x with
   |.global g=>match YJ M4 g with
    |some zs=>bif b&&Nat.beq zs.length n then(match fl (zs.map (A.int .i64))with|.mk l=>AC (.agg l))else AF
    |none=>AF
   |x=>match NV H (DQ env x)with
    |none=>AF
    |some (.mk cs)=>match b with
     |true=>(match fl (cs.take n)with|.mk l=>bif Nat.beq l.length n then AC (.agg l)else AF)
     |false=>(match cs with|[]=>AF|a::_=>AC a)
 |.build t parts=>match H8 T.ty.zer t with
  |none=>AF
  |some (zs,pl)=>match gO env pl zs parts.toList with
   |some cs=>AC (.agg cs)
   |none=>AF
 |.makeFunc f first cap=>match fl (RU env first.toList),fl (RU env cap.toList)with
  |.mk l,.mk l'=>AC (.fn f l l')
 |.call c=>match c with
  |{callee:=.builtin .len,args:=⟨[x]⟩,argTypes:=⟨[t]⟩}=>bif Fs T.sl t then(match DQ env x with
   |.mk (.osl _ 0 n _)=>AC (.int .i64 n)
   |_=>AF)else AF
  |_=>AF
 |_=>AF
theorem ND{T:Fr}(m:Iu P T){o:AM}{env:Env}{H:Qc}{x:A}(h:IL T o env H=AC x):CS P o env H x:=by
 unfold IL at h;split at h
 .simp_all[Rg,Lb]
 .simp_all[Rg,Lb]
 .simp_all[Rg,Lb]
 .simp_all[Rg,Lb]
 .simp_all[Rg,Lb]
 .simp_all[Rg,Lb]
 .simp_all[Rg,Lb]
 .rename_i t y f d;split at h
  .cases h
  .rename_i G F;obtain⟨n,hn⟩:=m.ty.fld _ (r9 F);split at h
   .grind[m9,Q2]
   .rename_i B Y;cases q:dP G B with
    |mk r=>rw[q]at h;grind[tG,Q2,mD]
   .cases h
 .rename_i t y d;split at h
  .cases h
  .rename_i b n N;obtain⟨E,j⟩:=m.ty.agg _ (NB N);split at h
   .rename_i g;split at h
    .rename_i J L;rw[M9]at L;cases q:(b&&Nat.beq J.length n)with
     |false=>grind
     |true=>
      rw[q,M8]at h;cases h;simp only[XV]at q;obtain⟨rfl,M⟩:=q;exact su E j L (by simp_all) d
    .cases h
   .cases e:DQ env y with
    |mk p=>
     rw[e]at h;split at h
     .cases h
     .rename_i B O;have R:=_P O;cases b with
      |true=>
       simp only[M8]at h;cases q:Nat.beq (B.take n).length n with
       |false=>grind
       |true=>
        rw[q]at h;cases h;exact Qt d E j (Q2 e) R rfl (by simp_all)
      |false=>
       grind[CS.load,Q2]
 .rename_i t parts d;split at h
  .cases h
  .rename_i J pl Q;obtain⟨⟨z,E,j⟩,V⟩:=m.ty.zer _ (NB Q);split at h
   .rename_i B F;cases h;rw[sj]at F;exact CS.build E j V (by rw[d]) F
   .cases h
 .rename_i f first cap d
  simp only[M8]at h;cases h;rw[du,du];exact CS.makeFunc (first:=first.toList) (cap:=cap.toList) (by rw[d]) rfl rfl
 .rename_i c d;split at h
  .rename_i y t;cases q:Fs T.sl t with
   |false=>grind
   |true=>
    rw[q]at h;simp only[Vo]at h;obtain⟨X,W⟩:=m.sl t (lD q);split at h
    .rename_i i n k M;cases h;exact Qm6 W d rfl (Q2 M)
    .cases h
  .cases h
 .cases h
def f9(T:Fr)(h0 N:Nat)(all:Array AM)(o:AM)(env:Env)(H:Qc):AB (Env×Qc):=
 match Yg all o env with
 |none=>AF
 |some AD=>match o.dst with
  |none=>AF
  |some d=>bif Nat.blt d N then AC (up env d (.tup []),H)else AF
 |some AE=>match o.dst with
  |none=>match o.op with
   |.store t x y=>match DQ env x,H8 T.ty.agg t with
    |.mk (.ptr i off),AC (_,n)=>match YJ H i with
     |some (.cells S cs)=>match DQ env y with
      |.mk a=>match fl (Yj a)with
       |.mk vs=>bif Nat.ble h0 H.length&&(Yn a&&(Nat.beq vs.length n&&(vs.all Yu&&Nat.ble (off+n) cs.length)))then(match fl (splice cs off vs)with
        |.mk cs'=>match fb (H.set i (.cells S cs'))with
         |.mk H'=>AC (env,H'))else AF
     |_=>AF
    |_,_=>AF
   |_=>AF
  |some d=>bif Nat.blt d N then(match o.op with
   |.alloc t=>match H8 T.al t with
    |some v=>bif Nat.ble h0 H.length then(match fn H 0,fl (Yj v)with
     |.mk n,.mk cs=>match fb (H++[.cells t cs])with
      |.mk H'=>AC (up env d (.ptr n 0),H'))else AF
    |none=>AF
   |.box t x=>match DQ env x with
    |.mk a=>bif Nat.ble h0 H.length&&(Yn a&&(Yj a).all Yu)then(match fn H 0,fl (Yj a)with
     |.mk n,.mk cs=>match fb (H++[.cells t cs])with
      |.mk H'=>AC (up env d (.ptr n 0),H'))else AF
   |_=>match IL T o env H with
    |some a=>AC (up env d a,H)
    |none=>AF)else AF
def NS(T:Fr)(h0 N:Nat)(all:Array AM):Nat->AA AM->Env->Qc->AB (AA AM×Env×Qc)
 |0,l,env,H=>AC (l,env,H)
 |_+1,[],_,_=>AF
 |n+1,o::l,env,H=>match f9 T h0 N all o env H with
  |some (env',H')=>NS T h0 N all n l env' H'
  |none=>AF
section
variable {P:AK} {T:Fr} {h0 N:Nat} {all:Array AM} {l l':AA AM} {env env':Env} {H H':Qc} {Q:Qy}
theorem kz(E:Iu P T){o:AM}(h:f9 T h0 N all o env H=AC (env',H'))(k:WO P h0 N all l env' H' Q):WO P h0 N all (o::l) env H Q:=by
 unfold f9 at h;split at h
 .cases h
 .grind[Qx,WO.skip]
 .rename_i G;have j:=Qx G;split at h
  .rename_i f;split at h
   .rename_i t x y g;split at h
    .rename_i i B b n R L;split at h
     .rename_i S cs hH;rw[M9]at hH;cases e:DQ env y with
      |mk a=>
       rw[e]at h;simp only[M8,ZQ]at h;generalize hc:(Nat.ble h0 H.length&&(Yn a&&(Nat.beq (Yj a).length n&&((Yj a).all Yu&&Nat.ble (B+n) cs.length))))=c at h;cases c with
       |false=>cases h
       |true=>
        cases h;simp only[XV]at hc;obtain⟨c1,m,F,c4,J⟩:=hc;obtain⟨_,M⟩:=E.ty.agg _ (NB L);exact kj (by simp_all) j f (I6.store g (Q2 R) hH M (Q2 e) m rfl (by simp_all) c4 J rfl) k
     .cases h
    .cases h
   .cases h
  .rename_i d f;cases q:Nat.blt d N with
   |false=>grind
   |true=>
    rw[q]at h;simp only[Vo]at h;split at h
    .rename_i t g;split at h
     .rename_i v X;cases c:Nat.ble h0 H.length with
      |false=>grind
      |true=>
       rw[c]at h;simp only[M8,ZQ,gP,Vo,Xw]at h;cases h;obtain⟨⟨z,z1,V⟩,O,W⟩:=E.al _ (NB X);exact Zc (by simp_all) j f q (eT z1 V g O rfl W) k
     .cases h
    .rename_i t x g;cases e:DQ env x with
     |mk a=>
      rw[e]at h;simp only[M8,ZQ,gP,Xw]at h;generalize hc:(Nat.ble h0 H.length&&(Yn a&&(Yj a).all Yu))=c at h;cases c with
      |false=>cases h
      |true=>
       cases h;simp only[XV]at hc;obtain⟨c1,m,F⟩:=hc;exact Zc (by simp_all) j f q (E_.box g (Q2 e) m rfl F) k
    .split at h
     .rename_i a Y;cases h;exact Yr j f q (ND E Y) k
     .cases h
theorem AU(hT:Iu P T):∀(n:Nat) {l l':AA AM} {env env':Env} {H H':Qc},NS T h0 N all n l env H=AC (l',env',H')->WO P h0 N all l' env' H' Q->WO P h0 N all l env H Q
 |0,l,l',env,env',H,H',h,k=>by cases h;exact k
 |n+1,[],l',env,env',H,H',h,k=>by cases h
 |n+1,o::l,l',env,env',H,H',h,k=>by
  unfold NS at h;split at h
  .rename_i e1 H1 hs;exact kz hT hs (AU hT n h k)
  .cases h
end
theorem FA{T f off n:Nat}{fs:Array Field}{d:Field}(g:∀w,(underlying T).run P w=.ok (.struct fs) w)(j:fs[f]?=AC d)(m:∀w,(sizeOf d.type).run P w=.ok n w)(h:d.offset=off:=by rfl)(h5:n≠0:=by decide):Qs P T f off n:=⟨_,_,g,j,h,m,h5⟩
theorem uf:∀(π:AA Nat) (H:Qc) (xs:AA CW),π.map (λp=>H[p]?)=xs.map AC->Yc H π xs=H
 |[],H,xs,h=>by
  simp_all[Yc]
 |p::π,H,[],h=>by simp at h
 |p::π,H,x::xs,h=>by
  simp only[Vj,List.cons.injEq]at h;have e:H.set p x=H:=by
   apply List.ext_getElem?
   grind
  unfold Yc;rw[e];exact uf π H xs h.2
def RT:A->AB Bx
 |.bool b=>AC (.mk (.bool b))
 |.int k n=>AC (.mk (.int k n))
 |.str s=>AC (.mk (.str s))
 |.rsl k es=>AC (.mk (.rsl k es))
 |_=>AF
theorem Qqi{v d:A}(h:RT v=AC (.mk d))(ρ:Nat->Nat):Y0 ρ v=d:=by
 cases v<;>first|(cases h;rfl)|cases h
theorem Pc{all:Array AM}{o:AM}{env:Env}{H:Qc}{Q:Qy}{d:Nat}{f:FuncId}{args g:AA A}{v j:A}(π:AA Nat)(m:o.dst=AC d)(h:C6 P o env H f args)(q:C P f g Hc (λa H1=>a=v/\H1=Hc))(t:RT v=AC (.mk j))
  (k:WO P h0 N all l (up env d j) H Q)
  (hargs:args=JJ (Ci π H.length) g:=by rfl)(hH:π.map (λp=>H[p]?)=(Hc.map (Q1 (Ci π H.length))).map some:=by rfl)(hπ:π.Nodup:=by decide)
  (hg:Qz all o env true:=by rfl)(hN:Nat.blt d N=true:=by rfl)(hh:Nat.ble h0 H.length=true:=by rfl):WO P h0 N all (o::l) env H Q:=by
 refine Qf π h q ?_ hargs hH hπ hg m hN hh
 simp_all[Qqi,uf]
theorem QQ{i k:Nat}{es:AA (AA A)}:∀H:Qc,Dg i k es H H
 |[]=>.nil
 |_::r=>.keep (QQ r)
def RH:Nat->FN
 |0=>.mk 0
 |1=>.mk 1
 |2=>.mk 2
 |3=>.mk 3
 |4=>.mk 4
 |5=>.mk 5
 |6=>.mk 6
 |7=>.mk 7
 |8=>.mk 8
 |9=>.mk 9
 |10=>.mk 10
 |11=>.mk 11
 |12=>.mk 12
 |13=>.mk 13
 |14=>.mk 14
 |15=>.mk 15
 |16=>.mk 16
 |17=>.mk 17
 |18=>.mk 18
 |19=>.mk 19
 |20=>.mk 20
 |21=>.mk 21
 |22=>.mk 22
 |23=>.mk 23
 |24=>.mk 24
 |25=>.mk 25
 |26=>.mk 26
 |27=>.mk 27
 |28=>.mk 28
 |29=>.mk 29
 |30=>.mk 30
 |31=>.mk 31
 |32=>.mk 32
 |33=>.mk 33
 |34=>.mk 34
 |35=>.mk 35
 |36=>.mk 36
 |37=>.mk 37
 |38=>.mk 38
 |39=>.mk 39
 |40=>.mk 40
 |41=>.mk 41
 |42=>.mk 42
 |43=>.mk 43
 |44=>.mk 44
 |45=>.mk 45
 |46=>.mk 46
 |47=>.mk 47
 |n=>.mk n
theorem gt(n:Nat):RH n=.mk n:=by unfold RH;split<;>rfl
mutual
def LN:A->Bx
 |.agg cs=>match Nc cs with
  |.mk l=>.mk (.agg l)
 |.tup cs=>match Nc cs with
  |.mk l=>.mk (.tup l)
 |.fn f a c=>match Nc a,Nc c with
  |.mk l,.mk l'=>.mk (.fn f l l')
 |.iface t v=>match LN v with
  |.mk v'=>.mk (.iface t v')
 |.ptr i off=>match RH i with
  |.mk i'=>.mk (.ptr i' off)
 |.osl i o n k=>match RH i with
  |.mk i'=>.mk (.osl i' o n k)
 |.map i=>match RH i with
  |.mk i'=>.mk (.map i')
 |a=>.mk a
def Nc:AA A->FL
 |[]=>.mk []
 |a::r=>match LN a,Nc r with
  |.mk a',.mk r'=>.mk (a'::r')
end
mutual
theorem gr:∀a:A,LN a=.mk a
 |.agg cs=>by unfold LN;rw[Sx cs]
 |.tup cs=>by unfold LN;rw[Sx cs]
 |.fn f a c=>by unfold LN;rw[Sx a,Sx c]
 |.iface t v=>by unfold LN;rw[gr v]
 |.ptr i off=>by unfold LN;rw[gt]
 |.osl i o n k=>by unfold LN;rw[gt]
 |.map i=>by unfold LN;rw[gt]
 |.any|.bool _|.int _ _|.str _|.nilp|.rp _|.nils|.rsl _ _|.nilf|.nilif|.nilm=>by rfl
theorem Sx:∀l:AA A,Nc l=.mk l
 |[]=>by rfl
 |a::r=>by unfold Nc;rw[gr a,Sx r]
end
inductive FE2 where
 |mk (l:List (List A))
def gE:AA (AA A)->FE2
 |[]=>.mk []
 |a::r=>match Nc a,gE r with
  |.mk a',.mk r'=>.mk (a'::r')
theorem pf:∀l,gE l=.mk l
 |[]=>rfl
 |a::r=>by unfold gE;rw[Sx,pf r]
def bR:AA CW->FB
 |[]=>.mk []
 |b::r=>match bR r with
  |.mk r'=>match b with
   |.cells t cs=>match Nc cs with
    |.mk l=>.mk (.cells t l::r')
   |.rowr t k es=>match gE es with
    |.mk l=>.mk (.rowr t k l::r')
   |.dead=>.mk (.dead::r')
   |.row t k es=>.mk (.row t k es::r')
   |.map es=>.mk (.map es::r')
   |.iter c es=>.mk (.iter c es::r')
   |.fmap es=>.mk (.fmap es::r')
   |.mapO fz t k es=>.mk (.mapO fz t k es::r')
   |.mapP es=>.mk (.mapP es::r')
   |.frow t k es=>.mk (.frow t k es::r')
   |.wins t a n c=>match RH a with
    |.mk a'=>.mk (.wins t a' n c::r')
   |.ents t a b es=>match RH a,RH b with
    |.mk a',.mk b'=>.mk (.ents t a' b' es::r')
theorem lA:∀l,bR l=.mk l
 |[]=>rfl
 |b::r=>by
  unfold bR;rw[lA r];cases b<;>simp only[Sx,pf,gt]
def gD(env:Env)(H:Qc):AB (Env×Qc):=
 match bR H with
 |.mk H'=>match env with
  |[]=>AC ([],H')
  |(d,a)::e=>match LN a with
   |.mk a'=>AC ((d,a')::e,H')
theorem _m(env:Env)(H:Qc):gD env H=AC (env,H):=by
 unfold gD;rw[lA];cases env with
 |nil=>rfl
 |cons p e=>obtain⟨d,a⟩:=p;simp only[gr]
theorem FE{all:Array AM}{env:Env}{H:Qc}{Q:Qy}(h:gD env H=AC (env',H'))(k:WO P h0 N all l env' H' Q):WO P h0 N all l env H Q:=by
 rw[_m]at h
 grind
theorem R1{fn:Func}{env:Env}{H:Qc}{v:A}(s:Nat)(hr:fn.results= #[.tmp s])(hle:Le h0 env H [(s,v)] Hc):Jc P h0 fn (λa H=>a=v/\H=Hc) .ret env H:=
 ⟨[(s,v)],Hc,v,hle,H7.one hr (by simp_all[lk]),rfl,rfl⟩
theorem R2{fn:Func}{env:Env}{H:Qc}{v v':A}(s t:Nat)(hr:fn.results= #[.tmp s,.tmp t])(hn:Nat.beq t s=AD)(hle:Le h0 env H [(s,v),(t,v')] Hc):Jc P h0 fn (λa H=>a=.tup [v,v']/\H=Hc) .ret env H:=
 ⟨[(s,v),(t,v')],Hc,_,hle,QmX hr (by simp_all[lk]) (by simp_all[lk]),rfl,rfl⟩
theorem DO.o{i n:Nat}{es:AA (AA A)}(d:n=es.length:=by first|exact(X0 ..).symm|exact rfl):DO i k es (.osl i 0 n k) (.rsl k es):=DO.own d
theorem Le.env{d:Nat}{env env':Env}{H:Qc}(h:∀s,lk env' s=.any\/lk env' s=lk env s):Le d env H env' H:=by
 intro g f σ N a w r;refine⟨f,σ,⟨r.sim,λs=>?_,r.size,r.defers⟩,λ_ q=>q,rfl⟩;rcases h s with h|h
 .rw[h];trivial
 .rw[h];exact r.env s
def dI(env:Env):Env->Prop
 |[]=>True
 |(s,a)::r=>lk env s=a/\dI env r
theorem dI.ok{env:Env}:∀{env':Env},dI env env'->∀s,lk env' s=.any\/lk env' s=lk env s
 |[],_,s=>.inl rfl
 |(d,a)::e,⟨h1,h2⟩,s=>by
  by_cases q:s=d
  .simp_all[lk]
  .have:Nat.beq s d=false:=by
    simp_all[VL]
   simp only[lk,this,Vp];exact dI.ok h2 s
theorem Lw{env:Env}{H:Qc}(h:dI env env'):Le h0 env H env' H:=Le.env h.ok
def ixO(d:Nat)(op:Op)(t:Nat)(pos:String)(af:Array Edge):AM:={dst:=AC d,op:=op,type:=t,pos:=pos,after:=af,guard:=AF}
inductive Kf where
 |seq (c:Code)
 |blo (id:Nat)
 |unr (c:Code)
inductive Cf where
 |code (c:Code)
 |ops (all:Array AM) (l:List AM)
 |out (x:LZ)
def kq(P:AK)(h0 N:Nat):AA Kf->Qy->Qy
 |[],Q=>Q
 |.seq c::k,Q=>dG P h0 N c (kq P h0 N k Q)
 |.blo id::k,Q=>P1 id (kq P h0 N k Q)
 |.unr c::k,Q=>Sl P h0 N c (kq P h0 N k Q)
@[reducible] def Hd(P:AK)(h0 N:Nat):Cf->AA Kf->Env->Qc->Qy->Prop
 |.code c,k,env,H,Q=>TC P h0 N c env H (kq P h0 N k Q)
 |.ops all l,k,env,H,Q=>WO P h0 N all l env H (kq P h0 N k Q)
 |.out x,k,env,H,Q=>kq P h0 N k Q x env H
def ZV(T:Fr)(h0 N:Nat):Cf->AA Kf->Env->Qc->AB (Cf×AA Kf×Env×Qc)
 |.code (.seq a b),k,env,H=>AC (.code a,.seq b::k,env,H)
 |.code (.block id c),k,env,H=>AC (.code c,.blo id::k,env,H)
 |.code (.loop c),k,env,H=>AC (.code c,.unr c::k,env,H)
 |.code .skip,k,env,H=>AC (.out .normal,k,env,H)
 |.code .ret,k,env,H=>AC (.out .ret,k,env,H)
 |.code (.exit id),k,env,H=>AC (.out (.exit id),k,env,H)
 |.code (.region id ⟨l⟩ AD),k,env,H=>AC (.ops ⟨l⟩ l,k,env,H)
 |.code (.cond x a b),k,env,H=>match DQ env x with
  |.mk (.bool AE)=>AC (.code a,k,env,H)
  |.mk (.bool AD)=>AC (.code b,k,env,H)
  |_=>AF
 |.ops all [],k,env,H=>AC (.out .normal,k,env,H)
 |.ops all (o::l),k,env,H=>match f9 T h0 N all o env H with
  |some (env',H')=>AC (.ops all l,k,env',H')
  |none=>AF
 |.out .normal,.seq c::k,env,H=>AC (.code c,k,env,H)
 |.out (.exit i),.seq _::k,env,H=>AC (.out (.exit i),k,env,H)
 |.out .ret,.seq _::k,env,H=>AC (.out .ret,k,env,H)
 |.out .normal,.blo _::k,env,H=>AC (.out .normal,k,env,H)
 |.out (.exit i),.blo id::k,env,H=>match Nat.beq i id with
  |true=>AC (.out .normal,k,env,H)
  |false=>AC (.out (.exit i),k,env,H)
 |.out .ret,.blo _::k,env,H=>AC (.out .ret,k,env,H)
 |.out .normal,.unr c::k,env,H=>AC (.code c,.unr c::k,env,H)
 |.out (.exit i),.unr _::k,env,H=>AC (.out (.exit i),k,env,H)
 |.out .ret,.unr _::k,env,H=>AC (.out .ret,k,env,H)
 |_,_,_,_=>AF
def KQ(T:Fr)(h0 N:Nat):Nat->Cf->AA Kf->Env->Qc->AB (Cf×AA Kf×Env×Qc)
 |0,c,k,env,H=>AC (c,k,env,H)
 |n+1,c,k,env,H=>match ZV T h0 N c k env H with
  |some (c',k',env',H')=>KQ T h0 N n c' k' env' H'
  |none=>AF
section
variable {P:AK} {T:Fr} {h0 N:Nat} {Q:Qy}
theorem QnW(j:Iu P T){c f:Cf}{k d:AA Kf}{env:Env}{H:Qc}(h:ZV T h0 N c k env H=AC (f,d,env',H'))(g:Hd P h0 N f d env' H' Q):Hd P h0 N c k env H Q:=by
 unfold ZV at h;split at h
 .cases h;exact TC.seq g
 .cases h;exact TC.block g
 .cases h;exact QmV g
 .cases h;exact TC.skip g
 .cases h;exact TC.ret g
 .cases h;exact TC.exit g
 .cases h;exact TC.region g
 .split at h
  .rename_i q;cases h;exact Qpt (Q2 q) rfl g
  .rename_i q;cases h;exact Qpu (Q2 q) rfl g
  .cases h
 .cases h;exact WO.nil g
 .grind[kz]
 .cases h;exact aI g
 .cases h;exact aG g
 .cases h;exact aH g
 .cases h;exact c8 g
 .split at h
  .rename_i q;cases h;have:=XP q;subst this;exact c9 g
  .rename_i q;cases h;exact c6 q g
 .cases h;exact c7 g
 .cases h;exact i_ g
 .cases h;exact i8 g
 .cases h;exact i9 g
 .cases h
theorem d6(hT:Iu P T):∀(n:Nat) {c c':Cf} {k k':AA Kf} {env env':Env} {H H':Qc},KQ T h0 N n c k env H=AC (c',k',env',H')->Hd P h0 N c' k' env' H' Q->Hd P h0 N c k env H Q
 |0,c,c',k,k',env,env',H,H',h,g=>by cases h;exact g
 |n+1,c,c',k,k',env,env',H,H',h,g=>by
  unfold KQ at h;split at h
  .rename_i e;exact QnW hT e (d6 hT n h g)
  .cases h
theorem qn{env:Env}{a:A}(h:lk env s=a):∀t,lk (up env s a) t=lk env t:=by
 intro t;simp[lk];cases q:Nat.beq t s with
 |true=>simp_all
 |false=>rfl
theorem Is{α:Type}{all:Array AM}{env:Env}{H:Qc}{b:Bool}{x y:AB α}{r:α}(s:Nat)(h:(bif b then x else y)=AC r)(f:R_ env s=.mk (.bool b))
  (t:b=AE->x=AC r->WO P h0 N all l (up env s (.bool AE)) H Q)(e:b=AD->y=AC r->WO P h0 N all l (up env s (.bool AD)) H Q):WO P h0 N all l env H Q:=by
 have d:=lB f;cases b with
 |true=>exact WO.le (Le.env λt=>.inr (qn d t)) (t rfl h)
 |false=>exact WO.le (Le.env λt=>.inr (qn d t)) (e rfl h)
end
def kO(o:AM)(i:Nat):Nat:=match o.dst with|some d=>d|none=>1000000+i
def I4:Nat->Nat->AA AM->AA Nat
 |0,_,_=>[]
 |_+1,_,[]=>[]
 |m+1,i,o::l=>kO o i::I4 m (i+1) l
def Q7(af:AA Nat):Nat->AA Nat->AA A->Env->Env
 |j,d::ds,x::xs,e=>(d,bif Fs af j then x else .any)::Q7 af (j+1) ds xs e
 |j,d::ds,[],e=>(d,.any)::Q7 af (j+1) ds [] e
 |_,[],_,e=>e
theorem vF{l:AA Nat}:Fs l t=l.contains t:=by
 induction l with
 |nil=>rfl
 |cons a r d=>
  grind[Fs,Nat.eq_of_beq_eq_true,Nat.beq_refl]
theorem lR:∀(f:AA Nat) (xs m:AA A) (b:Nat),
  (∃(j:Nat) (x:A),af.contains (b+j)=AE/\f[j]?=AC s/\(xs++m)[j]?=AC x/\lk (Q7 af b f xs env0) s=x)\/lk (Q7 af b f xs env0) s=.any\/(f.contains s=AD/\lk (Q7 af b f xs env0) s=lk env0 s):=by
 intro f
 induction f with
 |nil=>intro xs m b;right;right;exact⟨rfl,by rfl⟩
 |cons d f F=>
  intro xs m b;have next:∀(g:AA A),(∃(j:Nat) (x:A),af.contains (b+1+j)=AE/\f[j]?=AC s/\(g++m)[j]?=AC x/\lk (Q7 af (b+1) f g env0) s=x)->∀E,(∃(j:Nat) (x:A),af.contains (b+j)=AE/\(d::f)[j]?=AC s/\(E::g++m)[j]?=AC x/\lk (Q7 af (b+1) f g env0) s=x):=by
   rintro g ⟨j,x,B,y,H,G⟩ E;exact⟨j+1,x,gq,gq,gq,G⟩
  cases xs with
  |nil=>
   cases q:Nat.beq s d with
   |true=>simp_all[Q7,lk]
   |false=>
    have t:s≠d:=λz=>by simp_all
    simp only[Q7,lk,q,Vp];rcases F [] [] (b+1)with⟨j,x,B,y,H,G⟩|h|⟨B,y⟩
    .simp at H
    .grind
    grind
  |cons x xs=>
   cases q:Nat.beq s d with
   |true=>
    have:=XP q;subst this;simp only[Q7,lk,q,Vo];cases c:Fs af b with
    |true=>left;exact⟨0,x,by rw[<- vF];exact c,rfl,rfl,rfl⟩
    |false=>simp
   |false=>
    have t:s≠d:=λz=>by simp_all
    simp only[Q7,lk,q,Vp];rcases F xs m (b+1)with h|h|⟨B,y⟩
    .exact .inl (next xs h x)
    .grind
    grind
variable {r:AA AM}
section
variable {P:AK} {T:Fr} {h0 N m:Nat} {l:AA AM} {ds:AA Nat} {env:Env} {H:Qc} {Q:Qy} {K:AA AM->Env->Qc->Prop}
def DS(P:AK)(N m:Nat)(l:AA AM)(ds:AA Nat)(env:Env)(H:Qc)(K:AA AM->Env->Qc->Prop)(r:AA AM)(xs:AA A):Prop:=
 r=l.drop xs.length->∃ys,xs.length+ys.length=m/\(∀j,xs.length<=j->j<m->Jn P N l ds (xs++ys) env H.length H.length j H H)/\K (l.drop m) (Ir ds (xs++ys) env) H
theorem aR{xs:AA A}:∀(c i:Nat),(∀j,i<=j->j<i+c->Jn P N l ds xs env H.length H.length j H H)->Oq P N l ds xs env H i c
 |0,i,_=>.n
 |c+1,i,h=>.c gq (aR c (i+1) gq)
theorem QpM{k:AA Kf}(m:Nat)(f:P.follows .mixedOrders=AE)(q:Go.Sw.draw0 l m N (I4 m 0 l)=AE)(d:Nat.ble h0 H.length=AE)
  (h:DS P N m l (I4 m 0 l) env H (λr e H=>WO P h0 N l.toArray r e H Q) l []):TC P h0 N (.region id l.toArray AE) env H Q:=by
 obtain⟨j,t,x,g⟩:=h rfl;exact TC.draw0 m _ j f q (by simp_all) d (aR m 0 gq) g
theorem DS.done(d:Nat.beq xs.length m=AE)(h:K r (Ir ds xs env) H):DS P N m l ds env H K r xs:=by
 intro f;have e:=XP d;refine⟨[],by simpa using e,λj q g=>om,?_⟩
 grind
theorem DS.add{o:AM}{x:A}(t:Nat.blt xs.length m=AE)(q:∀ys,l[xs.length]?=AC o->Jn P N l ds (xs++x::ys) env H.length H.length xs.length H H)(k:DS P N m l ds env H K r (xs++[x])):DS P N m l ds env H K (o::r) xs:=by
 intro f;have d:xs.length<l.length:=by
  grind[List.drop_eq_nil_of_le]
 rw[Xp d]at f;cases f;obtain⟨ys,h,g,j⟩:=k sq
 grind
theorem mQ{ys:AA A}{x:A}:(xs++x::ys)[xs.length]?=AC x:=sq
theorem DS.wo{o:AM}{x:A}{d:Nat}(h:WO P H.length N l.toArray [o] (Q7 (Qi o) 0 ds xs env) H (YY (up (Q7 (Qi o) 0 ds xs env) d x) H))(k:DS P N m l ds env H K r (xs++[x]))
  (f:o.dst=AC d:=by rfl)(hx:Nat.blt xs.length m=true:=by rfl):DS P N m l ds env H K (o::r) xs:=
 .add hx (λt g=>.woE o _ d x g f mQ (he:=by
  intro s;rcases lR (af:=Qi o) (env0:=env) (s:=s) ds xs (x::t) 0 with⟨j,y,E,G,F,B⟩|q|q
  .grind
  .grind
  grind) (hdd:=uS H) (h:=h)) k
theorem DS.v{o:AM}{x:A}{d:Nat}(h:CS P o (Q7 (Qi o) 0 ds xs env) H x)(k:DS P N m l ds env H K r (xs++[x]))(hg:Qz l.toArray o (Q7 (Qi o) 0 ds xs env) true:=by rfl)
  (hd:o.dst=AC d:=by rfl)(hN:Nat.blt d N=true:=by rfl)(hx:Nat.blt xs.length m=true:=by rfl):DS P N m l ds env H K (o::r) xs:=
 .wo (Yr hg hd hN h (WO.nil YY.mk)) k hd hx
def KN:AA A->A->FL
 |[],x=>.mk [x]
 |a::r,x=>match KN r x with
  |.mk r'=>.mk (a::r')
theorem Js:∀(l:AA A) (x:A),KN l x=.mk (l++[x])
 |[],x=>rfl
 |a::r,x=>by unfold KN;rw[Js r];rfl
def dV(T:Fr)(N m:Nat)(l:AA AM)(ds:AA Nat)(env:Env)(H:Qc):Nat->Nat->AA AM->AA A->AB (AA AM×AA A)
 |0,_,r,xs=>AC (r,xs)
 |_+1,_,[],_=>AF
 |n+1,i,o::r,xs=>match Nat.blt i m with
  |false=>AF
  |true=>match o.dst with
   |none=>AF
   |some d=>match Nat.blt d N with
    |false=>AF
    |true=>match Yg ⟨l⟩ o (Q7 (Qi o) 0 ds xs env)with
     |none=>AF
     |some AD=>match KN xs (.tup [])with
      |.mk xs'=>dV T N m l ds env H n (i+1) r xs'
     |some AE=>match IL T o (Q7 (Qi o) 0 ds xs env) H with
      |none=>AF
      |some x=>match KN xs x with
       |.mk xs'=>dV T N m l ds env H n (i+1) r xs'
theorem mA(hT:Iu P T):∀(n i:Nat) {r r':AA AM} {xs xs':AA A},i=xs.length->dV T N m l ds env H n i r xs=AC (r',xs')->DS P N m l ds env H K r' xs'->DS P N m l ds env H K r xs
 |0,i,r,r',xs,xs',_,h,k=>by cases h;exact k
 |n+1,i,[],r',xs,xs',_,h,k=>by cases h
 |n+1,i,o::r,r',xs,xs',hi,h,k=>by
  subst hi;unfold dV at h;split at h
  .cases h
  .rename_i q1;split at h
   .cases h
   .rename_i d hd;split at h
    .cases h
    .rename_i q2;split at h
     .cases h
     .rename_i hw;simp[Js]at h;exact .wo (WO.skip (Qx hw) hd q2 (WO.nil YY.mk)) (mA hT n _ sq h k) hd q1
     .rename_i hw;split at h
      .cases h
      .rename_i x hv;simp[Js]at h;exact .v (ND hT hv) (mA hT n _ sq h k) (Qx hw) hd q2 q1
def Nn:AA A->Nat->A->FL
 |[],_,_=>.mk []
 |_::r,0,x=>.mk (x::r)
 |a::r,n+1,x=>match Nn r n x with
  |.mk r'=>.mk (a::r')
theorem eE:∀{l:AA A} {n:Nat} {x:A},YJ l n=AC x->Nn l n x=.mk l
 |[],n,x,h=>by cases h
 |a::r,0,x,h=>by cases h;rfl
 |a::r,n+1,x,h=>by unfold Nn;rw[eE (l:=r) h]
theorem DS.is{α:Type}{b:Bool}{x y:AB α}{v:α}{f:AA A}(j:Nat)(h:(bif b then x else y)=AC v)(B:YJ xs j=AC (.bool b))(q:Nn xs j (.bool AE)=.mk f)(g:Nn xs j (.bool AD)=.mk d)
  (t:b=AE->x=AC v->DS P N m l ds env H K r f)(e:b=AD->y=AC v->DS P N m l ds env H K r d):DS P N m l ds env H K r xs:=by
 cases b with
 |true=>simp_all[eE]
 |false=>simp_all[eE]
end
end
end Go.Sw
