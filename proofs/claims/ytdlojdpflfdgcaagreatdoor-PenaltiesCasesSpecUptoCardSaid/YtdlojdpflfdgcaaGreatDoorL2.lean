/- The rules by which the code is walked, with what they rest on (part 2). -/
import Derived.Test.YtdlojdpflfdgcaaGreatDoorL1
import Derived.Below
import GoSem.ClaimChange
import Derived.Shelf.Strings.Search3
import Derived.Lib.LazyBuf
import Derived.Shelf.Sort.Plain
import Derived.Shelf.Slices.In.SortNone
import Derived.Shelf.Slices.CompactI
import Derived.RangeFuncIn
import Derived.RangeFuncSeq
import Derived.RangeFuncNested
import Derived.Lib.Bytealg
import Derived.Laws.Externs
import Derived.LaidLaws
import Derived.Lib.LaidTab
import Derived.ChangeArms
import Derived.ChangeSame
set_option linter.unusedVariables false
set_option linter.unusedSectionVars false
set_option linter.unusedSimpArgs false
namespace Go.Sw
open Go.Sort Go.Proofs Go.Shelf
theorem Qeo{α:Type}{k:Nat}:∀(vs:List (List α)) (j:Nat),(∀v∈vs,v.length=k)->j<vs.length*k->vs.flatten[j]?=(vs[j/k]?).bind λv=>v[j%k]?
 |[],j,_,h=>by simp at h
 |v::vs,j,hk,h=>by
  have hv:=hk v (by simp);have k0:0<k:=by
   rcases Nat.eq_zero_or_pos k with q|q
   .subst q;simp at h
   .exact q
  rw[Vf];by_cases q:j<k
  .rw[XJ (by omega),Nat.div_eq_of_lt q,Nat.mod_eq_of_lt q];simp
  .rw[XK (by omega),hv,Qeo vs (j-k) (λv hv=>hk v (by simp[hv])) (by simp[Xm]at h;omega)];have d:j/k=(j-k)/k+1:=by rw[Nat.div_eq_sub_div k0 (by omega)]
   have a:j%k=(j-k)%k:=Nat.mod_eq_sub_mod (by omega);rw[d,a,XD]
theorem Qal{α:Type}{k:Nat}:∀(vs:List (List α)),(∀v∈vs,v.length=k)->vs.flatten.length=vs.length*k
 |[],_=>by simp
 |v::vs,h=>by rw[Vf,XY,Qal vs (λv hv=>h v (by simp[hv])),h v (by simp),XW,Xm];omega
theorem Qa9{α:Type}(F:List α)(j:Nat):F.toArray[j]?=F[j]? :=by simp
theorem QfJ{α:Type}[Inhabited α](F:List α)(j:Nat)(h:j<F.length):F[j]?=some (F.toArray[j]!):=by simp[h]
theorem Qjr{β:Type}[Inhabited β]{enc:β->List Value}{k:Nat}(f:∀x,(enc x).length=k)(d:Array β):flatK enc k d=((d.toList.map enc).flatten).toArray:=by
 have g:∀v∈d.toList.map enc,v.length=k:=by
  intro v j;obtain⟨x,_,rfl⟩:=Xf.1 j;exact f x
 apply Array.ext_getElem?;intro t;rw[Qa9 ((d.toList.map enc).flatten) t];by_cases h:t<d.size*k
 .rw[Qeo _ t g (by simpa using h)];have i:0<k:=by
   rcases Nat.eq_zero_or_pos k with q|q
   .subst q;simp at h
   .exact q
  have h1:=Nat.div_lt_of_lt_mul (by rw[Nat.mul_comm];exact h);have l:t%k<k:=Nat.mod_lt _ i;have a:t<(flatK enc k d).size:=by simpa using h
  have e:=get_flatK enc k d t h;rw[getElem!_pos (flatK enc k d) t a]at e;rw[Array.getElem?_eq_getElem a,e];simp[h1];rw[XH (by rw[f];exact l)];rfl
 .have e:(d.toList.map enc).flatten.length=d.size*k:=by rw[Qal _ g];simp
  rw[Array.getElem?_eq_none (by simpa using h),XL (by omega)]
section
variable {ro:Nat->Prop} {U:Sig} {w:World} {T:Type} {enc:T->List A} {k:Nat}
theorem Qgn:∀{l:List T} {lv:List Value},RL ro U w k (l.map enc) lv->
  ∃(ps:List (T×List Value)) (rest:List Value),ps.map (·.1)=l/\lv=(ps.map (·.2)).flatten++rest/\ ∀p∈ps,p.2.length=k/\LR ro U w (enc p.1) p.2/\ ∀v∈p.2,Qy v
 |[],lv,_=>⟨[],lv,rfl,rfl,by simp⟩
 |x::l,lv,h=>by
  obtain⟨l1,l2,rfl,h1,⟨h2,h3⟩,h4⟩:=h;obtain⟨ps,rest,e1,rfl,h5⟩:=Qgn h4;refine⟨(x,l1)::ps,rest,by simp[e1],by simp,?_⟩;intro p hp;rcases X0.1 hp with rfl|hp
  .exact⟨by rw[h2.length];exact h1,h2,h3⟩
  .exact h5 p hp
theorem Qcb(hk:∀x,(enc x).length=k):∀{ps:List (T×List Value)} {rest:List Value},(∀p∈ps,LR ro U w (enc p.1) p.2/\ ∀v∈p.2,Qy v)->RL ro U w k ((ps.map (·.1)).map enc) ((ps.map (·.2)).flatten++rest)
 |[],_,_=>trivial
 |p::ps,rest,h=>by
  refine⟨p.2,(ps.map (·.2)).flatten++rest,by simp,hk _,h p (by simp),Qcb hk λq hq=>h q (by simp[hq])⟩
end
structure Elt (ro:Nat->Prop) (w:World) {T:Type} (enc:T->List A) (k:Nat) (l:List T) where
 x:T
 vs:List Value
 mem:x∈l
 len:vs.length=k
 rel:LR ro [] w (enc x) vs
 plain:∀v∈vs,Qy v
theorem QgW{v:Value}(h:Qy v):v.oneCell'=true:=by cases v<;>first|rfl|exact h.elim
theorem Qp8{P:Program}{ρ:Ren}(L:SlLaysF0.n6 P ρ){T:Type}[DecidableEq T]{enc:T->List A}{k t g:Nat}{cap:List A}{l l':List T}{cf:T->T->Option Int}(hs:QbT cf l=some l')
  (bc:∀x y c,cf x y=some c->C P g ([.agg (enc x),.agg (enc y)]++cap) [] (λa H=>a=.int .i64 c/\H=[]))
  (aE:∀w,(isAgg (ρ.t 24)).run P w=.ok true w)(zE:∀w,(Go.sizeOf (ρ.t 24)).run P w=.ok k w)(eg:∀args w,(callFunc g args).run P w=.ok (.enter g args) w)
  (hk:∀x,(enc x).length=k)(hd:Yq cap=true):
  C P (ρ.f 6) [.osl 0 0 l.length k,.fn (.func g) [] cap] [.row t k (l.map enc)] (λa H=>a=.tup []/\H=[.row t k (l'.map enc)]):=by
 intro fr J U vals w s hv;obtain⟨vs,r1,rfl,bi,vf,r2,rfl,bj,hr⟩:=hv;cases(show r2=[]from hr);obtain⟨lf,lc,rfl,h1,a1⟩:=bj;cases(show lf=[]from h1);have av:LR J [] w cap lc:=LR.data hd a1;obtain⟨ba,aj,R,ay,a0⟩:=Qc3 hs;have E:∀(ad:Option Addr) (c:Nat),vs=.slice ad 0 c->l=[]->
   Calls P (ρ.f 6) [vs,.func (.func g) #[] lc.toArray].toArray w λe w'=>∃v r H' ae τ,e=.returned v/\(r=.tup []/\H'=[.row t k (l'.map enc)])/\Sim fr ae (U++τ) H' w'/\VR ae (U++τ) w' r v/\Qm fr J w ae w':=by
  rintro ad c rfl rfl;have af:l'=[]:=by rw[<- a0];rfl
  subst af;refine(AnyF.slices_SortFunc_none L ad c (.func (.func g) #[] lc.toArray) w).mono ?_;rintro e w' ⟨rfl,rfl⟩;exact⟨_,_,_,J,[],rfl,⟨rfl,rfl⟩,by simpa using s,⟨[],rfl,rfl⟩,Qm.refl _ _ _⟩
 rcases bi with⟨h0,rfl⟩|⟨b,p,cp,t',m,q1,rfl,q2,⟨q3,br⟩,q4,q5⟩
 .exact E none 0 rfl (VD.1 h0)
 .by_cases af:l=[]
  .subst af;exact E _ cp rfl rfl
  .have bp:0<l.length:=List.length_pos_iff.2 af;obtain rfl:=q2 (X9 bp q3);obtain⟨lv,e1,e2⟩:=s.blk 0 _ _ q1 rfl;obtain⟨hb,al,a2⟩:=s.own 0 b _ q1 rfl rfl;obtain⟨V,G,a9,rfl,ag⟩:=Qgn e2
   let α:=Elt J w enc k l
   have a6:∀p∈V,p.1∈l:=λp hp=>by rw[<- a9];exact VA hp
   let ds:List α:=V.attach.map λp=>⟨p.1.1,p.1.2,a6 _ p.2,(ag _ p.2).1,(ag _ p.2).2.1,(ag _ p.2).2.2⟩
   have bb:∀{γ:Type} (f:T×List Value->γ),V.attach.map (λp=>f p.1)=V.map f:=λf=>by simp
   have Q:ds.map (·.x)=l:=by
    show(V.attach.map _).map _=_;rw[List.map_map];exact(bb (·.1)).trans a9
   have ak:ds.map (·.vs)=V.map (·.2):=by
    show(V.attach.map _).map _=_;rw[List.map_map];exact bb (·.2)
   have aq:ds.length=l.length:=by rw[<- Q];simp
   have a8:ds≠[]:=by intro q;rw[q]at aq;simp at aq;omega
   let inh:Inhabited α:=⟨ds.head a8⟩
   let enc':α->List Value:=λa=>a.vs
   let cf':α->α->Int:=λx y=>(cf x.x y.x).getD 0
   have ah:∀x y:α,ltOf cf' x y=ltO cf x.x y.x:=by
    intro x y;obtain⟨c,B⟩:=aj x.x x.mem y.x y.mem;simp only[ltOf,ltO,cf',B,Option.getD_some]
   have hO:SWO (ltOf cf'):=⟨λx=>by rw[ah];exact R.irrefl _ x.mem,λx y z a b=>by rw[ah]at*;exact R.trans _ x.mem _ y.mem _ z.mem a b,
    λx y z a b=>by rw[ah]at*;exact R.ntrans _ x.mem _ y.mem _ z.mem a b⟩
   have aa:∀x:α,(enc' x).length=k:=λx=>x.len;have au:flatK enc' k ds.toArray=((V.map (·.2)).flatten).toArray:=by
    rw[Qjr aa];show((ds.map λa=>a.vs).flatten).toArray=_;rw[ak]
   have bo:∀v∈V.map (·.2),v.length=k:=by
    intro v hv;obtain⟨p,hp,rfl⟩:=Xf.1 hv;exact(ag p hp).1
   have ab:(V.map (·.2)).flatten.length=ds.length*k:=by rw[Qal _ bo, <- ak];simp
   have hH:HoldsK enc' k w b (0*k) ds.toArray:=by
    intro j hj;rw[au]at hj⊢;simp only[List.size_toArray]at hj;constructor
    .unfold World.cell?;simp only[e1,Option.isSome_none,Xj,if_false,Nat.zero_mul,Xu];rw[Qa9,XJ hj];exact QfJ _ _ hj
    .unfold World.frozen?;simp only[e1];simp
   have ax:∀(d:Array α),d.size=ds.toArray.size->(putRowK enc' k w b (0*k) d).heap=w.heap.setIfInBounds b (.cells (((d.toList.map enc').flatten++G)).toArray t (0,0)):=by
    intro d u;have ac:(d.toList.map enc').flatten.length=(V.map (·.2)).flatten.length:=by
     rw[Qal _ (k:=k) (by intro v hv;obtain⟨x,_,rfl⟩:=Xf.1 hv;exact aa x),ab];simp at u⊢;rw[u]
    unfold putRowK putRow mapBlock;show w.heap.modify b _=_;rw[Qbe e1];simp only[onCells];congr 2;rw[Qjr aa];unfold putCells;apply Array.ext_getElem?;intro i;simp only[Array.getElem?_mapIdx,Qa9,Nat.zero_mul,XR,true_and,Xu,Nat.sub_zero,List.size_toArray,id_eq];by_cases hi:i<(d.toList.map enc').flatten.length
    .rw[XJ hi,XJ (by rw[<- ac];exact hi),XH (by rw[<- ac];exact hi),QfJ _ _ hi];exact congrArg some (Vm hi)
    .rw[XK (by omega),XK (by omega),ac];cases(G[i-(V.map (·.2)).flatten.length]?)with
     |none=>rfl
     |some v=>
      rw[<- ac];exact congrArg some (Vl hi)
   have O:∀(m:Nat) (os:Array Obj) (d:Array α),d.size=ds.toArray.size->
     (∀c,c<w.heap.size->c≠b->(sortWorldK enc' k w b (0*k) m d os).heap[c]?=w.heap[c]?)/\(sortWorldK enc' k w b (0*k) m d os).heap[b]?=some (.cells (((d.toList.map enc').flatten++G)).toArray t (0,0))/\
     w.heap.size<=(sortWorldK enc' k w b (0*k) m d os).heap.size:=by
    intro m os d u;have e:(sortWorldK enc' k w b (0*k) m d os).heap=w.heap.setIfInBounds b (.cells (((d.toList.map enc').flatten++G)).toArray t (0,0))++os:=by
     rw[<- ax d u];rfl
    rw[e];refine⟨λc B bq=>?_,?_,by simp⟩
    .rw[Array.getElem?_append_left (by simpa using B),X8,Vl (λq=>bq q.symm)]
    .rw[Array.getElem?_append_left (by simpa using hb),X8,Vm rfl,Vm hb]
   have M:∀(m:Nat) (os:Array Obj) (d:Array α),d.size=ds.toArray.size->∀c y,w.shape? c=some y->(sortWorldK enc' k w b (0*k) m d os).shape? c=some y:=by
    intro m os d u c y hy;obtain⟨g1,g2,g3⟩:=O m os d u;by_cases B:c=b
    .subst B;unfold World.shape? at hy⊢;rw[e1]at hy;rw[g2];simp only[Option.some.injEq]at hy⊢;rw[<- hy];congr 1;simp only[List.size_toArray,XY];rw[Qal _ (k:=k) (by intro v hv;obtain⟨x,_,rfl⟩:=Xf.1 hv;exact aa x),ab];simp at u⊢;rw[u]
    .unfold World.shape? at hy⊢;rw[g1 c (QiP hy) B];exact hy
   have am:∀(m:Nat) (os:Array Obj) (d:Array α),d.size=ds.toArray.size->∀τ,Ext J τ w J τ (sortWorldK enc' k w b (0*k) m d os):=by
    intro m os d u τ;obtain⟨g1,g2,g3⟩:=O m os d u;exact⟨λ_ q=>q,λc B=>g1 c (s.roLt c B) (λq=>al (q▸B)),M m os d u,λ_ _ q=>q⟩
   have bg:CmpLays P g lc.toArray enc' k cf' b (0*k) ds.toArray.size w:=by
    intro m os dk a5 x y;obtain⟨c,B⟩:=aj x.x x.mem y.x y.mem;have F:=am m os dk a5 [];have bd:=bc _ _ _ B;generalize hW:sortWorldK enc' k w b (0*k) m dk os=W at*;have bh:w.heap.size<=W.heap.size:=by rw[<- hW];exact(O m os dk a5).2.2
    have sW:Sim (λc=>c<W.heap.size/\ ¬J c) J [] [] W:=
     ⟨rfl,s.roOk.to (λ_ q=>q) F.keep (λc B=>X9 (s.roLt c B) bh),λc B=>B.1,λc B hf=>hf.2 B,λi b x h=>by simp at h,λi j b x y h=>by simp at h,λi y x h=>by simp at h,λi b x c h=>by simp at h⟩
    have ar:LR J [] W ([.agg (enc x.x),.agg (enc y.x)]++cap) ([.agg x.vs.toArray,.agg y.vs.toArray]++lc):=
     LR.append (show LR J [] W [A.agg (enc x.x),A.agg (enc y.x)] [Value.agg x.vs.toArray,Value.agg y.vs.toArray]from⟨_,_,rfl,⟨x.vs,rfl,x.rel.mono F⟩,_,_,rfl,⟨y.vs,rfl,y.rel.mono F⟩,rfl⟩) (av.mono F)
    have N:=bd _ J [] _ W sW ar;have bn:(([Value.agg x.vs.toArray,Value.agg y.vs.toArray]++lc).toArray:Array Value)= #[Value.agg (enc' x).toArray,Value.agg (enc' y).toArray]++lc.toArray:=by simp[enc']
    rw[bn]at N;refine N.mono ?_;rintro e w' ⟨v,r,H',ae,τ,rfl,⟨rfl,rfl⟩,s',bf,ev⟩;refine⟨?_,?_⟩
    .rw[show v=.int .i64 c from bf];simp only[cf',B,Option.getD_some]
    .refine QlS (λc B=>?_) ev.size ev.os ev.tape ev.output ev.drawn;by_cases a4:J c
     .exact ev.keepRo c a4
     .exact ev.keepFr c ⟨B,a4⟩
   have X:ds.toArray.size=l.length:=by simpa using aq
   have ai:=AnyQ.slices_SortFunc L k aE zE enc' aa (λx v hv=>QgW (x.plain v hv)) cf' hO g lc.toArray b (0*k) cp ds.toArray w eg bg hH hb (by rw[X];unfold QB at ba;omega);rw[X]at ai;refine ai.mono ?_;rintro e w' ⟨rfl,d,n,os,Y,aw,rfl⟩;have u:d.size=ds.toArray.size:=Y.1;obtain⟨g1,g2,g3⟩:=O n os d u;have an:d.toList.Perm ds:=by
    have h:=Y.2.2;have x1:d.extract 0 l.length=d:=by rw[<- X, <- u];exact Array.extract_size
    have x2:ds.toArray.extract 0 l.length=ds.toArray:=by rw[<- X];exact Array.extract_size
    rw[x1,x2]at h;simpa using h
   have a3:d.toList.map (·.x)=l':=by
    rw[<- a0];refine JD (lt:=ltO cf) ?_ ?_ ?_ (QX R)
    .exact((an.map (·.x)).trans (by rw[Q])).trans (Qz _ _).symm
    .intro x hx y hy;have be:x∈l:=by rw[<- Q];exact(an.map (·.x)).mem_iff.1 hx
     have bm:y∈l:=by rw[<- Q];exact(an.map (·.x)).mem_iff.1 hy
     exact ay x be y bm
    .rw[Vy];intro i j hi hj bl;simp only[XX]at hi hj;simp only[List.getElem_map];rw[<- ah];have:=aw i j (XR _) bl (by rw[<- X, <- u];simpa using hj);rw[getElem!_pos d j (by simpa using hj),getElem!_pos d i (by simpa using hi)]at this;simpa using this
   have bk:RL J [] (sortWorldK enc' k w b (0*k) n d os) k (l'.map enc) ((d.toList.map enc').flatten++G):=by
    have e3:d.toList.map enc'=(d.toList.map λa=>(a.x,a.vs)).map (·.2):=by simp[enc']
    have e4:l'=(d.toList.map λa=>(a.x,a.vs)).map (·.1):=by rw[<- a3];simp
    rw[e3,e4];refine Qcb hk ?_;intro p hp;obtain⟨a,_,rfl⟩:=Xf.1 hp;exact⟨a.rel.mono (am n os d u []),a.plain⟩
   have az:Qm fr J w J (sortWorldK enc' k w b (0*k) n d os):=
    ⟨λ_ q=>q,λc B=>g1 c (s.roLt c B) (λq=>al (q▸B)),λc B=>g1 c (s.frLt c B) (λq=>a2 (q▸B)),g3,M n os d u,rfl,rfl,rfl,Nat.le_add_right _ _⟩
   have ao:U.length=1:=s.len;have a7:Sim fr J U [.row t k (l'.map enc)] (sortWorldK enc' k w b (0*k) n d os):=by
    have i0:∀{i:Nat} {x:Blk},([.row t k (l'.map enc)]:Qc)[i]?=some x->i=0/\x=.row t k (l'.map enc):=by
     intro i x h;cases i with
     |zero=>simp at h;exact⟨rfl,h.symm⟩
     |succ i=>simp at h
    refine⟨ao,s.roOk.to (λ_ q=>q) az.keepRo (λc B=>X9 (s.roLt c B) g3),λc B=>X9 (s.frLt c B) g3,s.roFr,λi c x h1 h2 h3=>?_,λi j c x y h1 h2 h3 h4 _ _=>?_,λi y x h1 h2=>?_,λi b x c h1 h2 h3=>by obtain⟨rfl,rfl⟩:=i0 h2;exact h3.elim⟩
    .obtain⟨rfl,rfl⟩:=i0 h2;obtain⟨p1,p2⟩:=s.own 0 c _ h1 rfl rfl;exact⟨X9 p1 g3,p2⟩
    .rw[(i0 h3).1,(i0 h4).1]
    .obtain⟨rfl,rfl⟩:=i0 h2;rw[q1]at h1;cases h1;exact⟨_,g2,bk⟩
   exact⟨_,_,_,J,[],rfl,⟨rfl,rfl⟩,by simpa using a7,⟨[],rfl,rfl⟩,az⟩
end Go.Sw
namespace Go.Sw
variable {T k:Nat}
section
variable {P:Program} {o:Oper} {env:Env} {H:Qc} {fr ro:Nat->Prop} {U:Sig} {w:World}
theorem Sim.addRo(s:Sim fr ro U H w){b:Nat}(f:b<w.heap.size)(h:¬fr b)(k:∀(i:Nat) (x:Blk),U[i]?=some (some b)->H[i]?=some x->x.live=true->False)
  (j:∀(i d:Nat) (x:Blk),U[i]?=some (some d)->H[i]?=some x->Hid w x d b->False):Sim fr (λc=>ro c\/c=b) U H w:=by
 refine⟨s.len,s.roOk.to (λ_ q=>.inl q) (λ_ _=>rfl) ?_,s.frLt,?_,?_,s.inj,?_,s.hidTo (· = ·) Q6 (XQ _) (by grind) (by simp) (by grind)⟩
 .rintro c (q|rfl)
  .exact s.roLt c q
  .exact f
 .rintro c (q|rfl)
  .exact s.roFr c q
  .exact h
 .intro i c x a e g;obtain⟨n,m,l⟩:=s.own i c x a e g
  grind
 .intro i y x a e;exact(s.blk i y x a e).keep ⟨λ_ q=>.inl q,λ_ _=>rfl,λ_ _ q=>q,λ_ _ q=>q⟩ (λ_ _ _=>rfl) (λ_ _ _ _=>rfl)
theorem YB{e n:Nat}{xs:List Operand}{es:List (List A)}(E:Q0 P T e k)(Q:o.op=.buildSlice T n (Qaz 0 xs).toArray)(J:xs.length=n)(u:Nat.ble (n*k) 16777216=true)
  (R:(xs.all λx=>Yj (opA env x))=true)(B:Yi env xs=es)(L:allK k es)(hp:es.flatten.all Yy=true)(X:Yq es.flatten=true):
  OpH P o env H (.rsl k es) H:=by
 intro O m U N a w r;subst B;obtain⟨l,Y,M⟩:=QaK r E J u R L;have G:LR m [] w (Yi env xs).flatten l:=M.data X;have f:∀b,b<w.heap.size->(w.alloc (.cells l.toArray e)).heap[b]?=w.heap[b]? :=λb W=>Yl _ _ b W;have h:w.heap.size<=(w.alloc (.cells l.toArray e)).heap.size:=by simp
 have V:=r.sim.grown f h;have g:Qm O m w m (w.alloc (.cells l.toArray e)):=Qm.alloc _ r.sim.roLt r.sim.frLt;have s2:=V.addRo (by simp) (λq=>Nat.lt_irrefl _ (r.sim.frLt _ q)) (λi x t p y=>Nat.lt_irrefl _ (r.sim.own i _ x t p y).1)
  (λi d x t p y=>Nat.lt_irrefl _ (r.sim.hid i d x _ t p (r.sim.hidKeep t p (λz=>f d (r.sim.own i d x t p z).1) (λb q=>f b (r.sim.roLt b q)) y)).lt)
 have F:RL m [] (w.alloc (.cells l.toArray e)) k (Yi env xs) l:=by
  have:=JI (rest:=[]) L (G.mono (g.ext0 [])) (M.plain hp)
  grind
 have j:(Yi env xs).length=n:=by simp[Yi,J]
 refine⟨_,_,λc=>m c\/c=w.heap.size,[],Qaq Q a.eval Y,(⟨some ⟨w.heap.size,0,none⟩,n,by rw[j],by omega,.inr ⟨w.heap.size,0,rfl,.inr rfl,?_⟩⟩),by grind,g.trans (YV λ_ q=>.inl q)⟩;have s:(w.alloc (.cells l.toArray e)).heap[w.heap.size]?=some (.cells ([]++l).toArray e (0,0)):=Yk _ _;have:=Y4 s F;exact this.keep ⟨λ_ q=>.inl q,λ_ _=>rfl,λ_ _ q=>q,λ_ _ q=>q⟩ rfl
end
inductive Qlj:List A->List A->Prop
 |nil:Qlj [] []
 |eq {a:A} {l m:List A} (h:Qlj l m):Qlj (a::l) (a::m)
 |nl {k:Nat} {l m:List A} (h:Qlj l m):Qlj (.nils::l) (.rsl k []::m)
theorem LR.nils{ro:Nat->Prop}{U:Sig}{w:World}{g i:List A}(h:Qlj g i):∀{l:List Value},LR ro U w g l->LR ro U w i l:=by
 induction h with
 |nil=>simp
 |eq _ ih=>rintro l ⟨v,a,e,d,f⟩;exact⟨v,a,e,d,ih f⟩
 |nl _ ih=>rintro l ⟨v,a,e,d,f⟩;exact⟨v,a,e,⟨none,0,d,XQ _,.inl rfl⟩,ih f⟩
theorem C.nils{P:Program}{f:FuncId}{l1 bs:List A}{H:Qc}{Q:A->Qc->Prop}(hl:Qlj l1 bs)(h:C P f bs H Q):C P f l1 H Q:=
 λfr ro U vals w s l=>h fr ro U vals w s (LR.nils hl l)
def Qq(k:IntKind)(n:Int):Prop:=k.min<=n/\n<=k.max
def Qez(w:World):Nat->Prop:=λb=>b<w.heap.size
structure Qpb {H:Type} (μ:DataW H->Nat):Prop where
 str:∀bytes,bytes.length<=μ (.lit (.string bytes))
 sl:∀e s,e.length<=μ (.slice e s)
 sle:∀e s,∀d∈e,μ d<=μ (.slice e s)
 ag:∀ps,∀d∈ps,μ d<=μ (.agg ps)
def RB(P:Program)(n:Nat)(t:TypeId)(T:Type)(e:T->List A)(wf:T->Prop):Prop:=
 ∀(H:Type) (enc:TypeId×Value->H) (w:World) (base:Nat) (spare:Nat->Bool) (held:Bool) (m:Nat) (cs:List Value) d,m<n->DataW.trod enc P w base spare held m t cs=some d->
  ∀μ:DataW H->Nat,Qpb μ->μ d.1<=1048576->∃x:T,wf x/\LR (Qez w) [] w (e x) cs/\ ∀v∈cs,Qy v
section
variable {P:Program} {n:Nat} {t:TypeId} {T:Type} {e:T->List A} {wf:T->Prop}
theorem RB.down(h:RB P (n+1) t T e wf):RB P n t T e wf:=λH enc w base spare held m cs d hm=>h H enc w base spare held m cs d (Nat.lt_succ_of_lt hm)
theorem Qe2(h:∀n,RB P n t T e wf->RB P (n+1) t T e wf):∀n,RB P n t T e wf
 |0=>λH enc w base spare held m cs d hm=>(by omega)
 |n+1=>h n (Qe2 h n)
theorem Q3{T':Type}{f:T'->List A}{a:T'->Prop}(h:RB P n t T e wf)(g:T->T')(he:∀x,f (g x)=e x)(j:∀x,wf x->a (g x)):RB P n t T' f a:=by
 intro H enc w base spare held m cs d hm hd μ hμ hwt;obtain⟨x,k,l,i⟩:=h H enc w base spare held m cs d hm hd μ hμ hwt
 grind
theorem RB.int{k:IntKind}(a:P.underlying t=some (.int k)):RB P n t Int (Qe k) (Qq k):=by
 intro H enc w base spare held m cs d hm hd μ hμ hwt;cases m with
 |zero=>simp[DataW.trod]at hd
 |succ m=>
  rcases cs with _|⟨v,_|⟨h,r⟩⟩
  .simp[DataW.trod,a]at hd
  .cases v<;>simp[DataW.trod,a]at hd;rename_i g f;obtain⟨⟨rfl,e⟩,_⟩:=hd;refine⟨f,?_,⟨_,_,rfl,rfl,rfl⟩,by simp[Qy]⟩;simpa[Lit.wf,Qq]using e
  .simp[DataW.trod,a]at hd
theorem RB.bool(a:P.underlying t=some .bool):RB P n t Bool Qa8 (λ_=>True):=by
 intro H enc w base spare held m cs d hm hd μ hμ hwt;cases m with
 |zero=>simp[DataW.trod]at hd
 |succ m=>
  rcases cs with _|⟨v,_|⟨e,r⟩⟩
  .simp[DataW.trod,a]at hd
  .cases v<;>simp[DataW.trod,a]at hd;rename_i b;exact⟨b,trivial,⟨_,_,rfl,rfl,rfl⟩,by simp[Qy]⟩
  .simp[DataW.trod,a]at hd
theorem RB.string(a:P.underlying t=some .string):RB P n t (List UInt8) JO (λs=>s.length<=1048576):=by
 intro H enc w base spare held m cs d hm hd μ hμ hwt;cases m with
 |zero=>simp[DataW.trod]at hd
 |succ m=>
  rcases cs with _|⟨v,_|⟨e,r⟩⟩
  .simp[DataW.trod,a]at hd
  .cases v<;>simp[DataW.trod,a]at hd;rename_i s;obtain⟨_,rfl⟩:=hd;exact⟨s.data.toList,XS (hμ.str _) hwt,⟨_,_,rfl,rfl,rfl⟩,by simp[Qy]⟩
  .simp[DataW.trod,a]at hd
theorem QcR{α:Type}{f:Nat->Option α}:∀{n:Nat} {l:List α},(List.range n).mapM f=some l->l.length=n/\ ∀i,i<n->∃y,f i=some y/\l[i]?=some y
 |0,l,h=>by grind
 |n+1,l,h=>by
  rw[List.range_succ,List.mapM_append]at h;cases h1:(List.range n).mapM f with
  |none=>grind
  |some l1=>
   cases h2:f n with
   |none=>grind
   |some y=>
    simp[h1,h2]at h;subst h;obtain⟨e1,e2⟩:=QcR h1
    grind
theorem QeI{w:World}{ro:Nat->Prop}{b:Nat}:∀{cs:List A} {l:List Value} {off:Nat},LR ro [] w cs l->(∀v∈l,Qy v)->(∀i,i<l.length->w.cell? ⟨b,off+i,none⟩=l[i]?)->CR ro [] w b cs off
 |[],_,_,_,_,_=>trivial
 |a::cs,l,off,h,hp,hc=>by
  obtain⟨v,l',rfl,h1,h2⟩:=h;refine⟨(by grind),QeI h2 (by grind) λi hi=>?_⟩;have:=hc (i+1) (by grind)
  grind
theorem RB.slice{E:TypeId}{k:Nat}{s:TypeId}(G:P.underlying s=some (.slice E))(hk:P.cellsOf E=k)(h0:Nat.blt 0 k=true)(hl:∀x,(e x).length=k)(h:RB P n E T e wf):
  RB P (n+1) s (List T) (QoH k e) (λl=>l.length<=1048576/\ ∀x∈l,wf x):=by
 intro H enc w base spare held m cs d hm hd μ hμ hwt;have k0:0<k:=by simp_all
 cases m with
 |zero=>simp[DataW.trod]at hd
 |succ m=>
  rcases cs with _|⟨v,_|⟨v2,r⟩⟩
  .simp[DataW.trod,G]at hd
  .cases v<;>try (simp[DataW.trod,G]at hd;done)
   rename_i a len g;cases a with
   |none=>
    rcases len with _|len
    .rcases g with _|g
     .refine⟨[],⟨by simp,by simp⟩,⟨_,_,rfl,⟨none,0,rfl,XQ _,.inl rfl⟩,rfl⟩,by simp[Qy]⟩
     .simp[DataW.trod,G]at hd
    .simp[DataW.trod,G]at hd
   |some a=>
    simp only[DataW.trod,G]at hd;split at hd
    .rename_i hc;obtain⟨c1,c2,c3⟩:=hc;cases Q:(List.range len).mapM (λi=>(w.cells? base (a.add (i*P.cellsOf E)) (P.cellsOf E)).bind (DataW.trod enc P w base spare held m E))with
     |none=>grind
     |some f=>
      rw[Q]at hd;simp only[XG,Option.map_eq_some_iff]at hd;obtain⟨p,_,rfl⟩:=hd;have u:f.length<=1048576:=by
       have h1:=hμ.sl (f.map (·.1)) (p.map (·.1))
       grind
      have W:∀y∈f,μ y.1<=1048576:=λy R=>XS (hμ.sle _ (p.map (·.1)) _ (VA R)) hwt;obtain⟨e1,e2⟩:=QcR Q;have L:∀i,i<len->∃(x:T) (l:List Value),wf x/\LR (Qez w) [] w (e x) l/\(∀v∈l,Qy v)/\l.length=k/\ ∀j,j<k->w.cell? ((a.add (i*k)).add j)=l[j]? :=by
       intro i V;obtain⟨y,y1,y2⟩:=e2 i V;rw[hk]at y1;cases Y:w.cells? base (a.add (i*k)) k with
       |none=>grind
       |some l=>
        rw[Y]at y1;obtain⟨x,x1,x2,x3⟩:=h H enc w base spare held m l y (by omega) y1 μ hμ (W y (VB y2))
        grind[World.cells?,QcR]
      by_cases N:len=0
      .subst N;exact⟨[],⟨by simp,by simp⟩,⟨_,_,rfl,⟨some a,g,rfl,XR _,.inl rfl⟩,rfl⟩,by simp[Qy]⟩
      .have first:a.spot=none/\a.block<w.heap.size:=by
        obtain⟨x',l,p1,p2,p3,p4,X⟩:=L 0 (by omega);have t:=X 0 k0;have aa:l[0]?=some l[0]:=XH (by omega);have ea:(a.add (0*k)).add 0=a:=by simp[Addr.add]
        rw[aa,ea]at t;unfold World.cell? at t;split at t
        .rename_i hh;constructor
         .cases q:a.spot with
          |none=>rfl
          |some z=>simp[q]at t
         .exact(X7.1 hh).1
        .cases t
       obtain⟨M,hb⟩:=first
       have J:∀n,a.add n=⟨a.block,a.off+n,none⟩:=by
        intro n;cases a;simp only at M;subst M;unfold Addr.add;split
        .rename_i q;subst q;rfl
        .rfl
       have F:∀(b o n:Nat),(⟨b,o,none⟩:Addr).add n=⟨b,o+n,none⟩:=by
        intro b o n;unfold Addr.add;split
        .rename_i q;subst q;rfl
        .rfl
       have pick:∀q i,len-i=q->i<=len->∃B:List T,B.length=len-i/\(∀x∈B,wf x)/\RR (Qez w) [] w a.block k (B.map e) (a.off+i*k):=by
        intro q
        induction q with
        |zero=>intro i hq V;exact⟨[],by simp[hq],by simp,trivial⟩
        |succ q ih=>
         intro i hq V;obtain⟨B,w1,w2,O⟩:=ih (i+1) (by omega) (by omega);obtain⟨x,l,p1,p2,p3,p4,X⟩:=L i (by omega);refine⟨x::B,by simp[w1];omega,by intro y R;rcases X0.1 R with rfl|R;exact p1;exact w2 y R,hl x,?_,?_⟩
         .refine QeI p2 p3 λj hj=>?_;have t:=X j (by omega);rw[J,F]at t;exact t
         .rw[Xm, <- Nat.add_assoc]at O;exact O
       obtain⟨B,w1,w2,O⟩:=pick len 0 (by omega) (XR _);rw[Nat.zero_mul,Xv]at O;rw[Nat.sub_zero]at w1;refine⟨B,⟨by rw[w1, <- e1];exact u,w2⟩,⟨_,_,rfl,⟨some a,g,by simp[w1],by simp[w1];exact c2,.inr ⟨a.block,a.off,?_,hb,O⟩⟩,rfl⟩,by simp[Qy]⟩;cases a
       grind
    .cases hd
  .simp[DataW.trod,G]at hd
def RF(P:Program)(n:Nat)(fs:List Field)(off L:Nat)(T:Type)(e:T->List A)(wf:T->Prop):Prop:=
 ∀(H:Type) (enc:TypeId×Value->H) (w:World) (base:Nat) (spare:Nat->Bool) (held:Bool) (m:Nat) (cs:List Value) ds,m<n->cs.length=L->
  fs.mapM (λf=>DataW.trod enc P w base spare held m f.type ((cs.drop f.offset).take (P.cellsOf f.type)))=some ds->
  ∀μ:DataW H->Nat,Qpb μ->(∀y∈ds,μ y.1<=1048576)->∃x:T,wf x/\LR (Qez w) [] w (e x) (cs.drop off)/\ ∀v∈cs.drop off,Qy v
theorem RF.nil{L:Nat}:RF P n [] L L Unit (λ_=>[]) (λ_=>True):=by
 intro H enc w base spare held m cs ds hm hl hd μ hμ hwt;have:cs.drop L=[]:=(by grind);rw[this];exact⟨(),trivial,rfl,by simp⟩
theorem RF.cons{f:Field}{fs:List Field}{off L:Nat}{T2:Type}{q:T2->List A}{a:T2->Prop}(s:f.offset=off)(u:P.cellsOf f.type=k)(h:RB P n f.type T e wf)(r:RF P n fs (off+k) L T2 q a):
  RF P n (f::fs) off L (T×T2) (λp=>e p.1++q p.2) (λp=>wf p.1/\a p.2):=by
 intro H enc w base spare held m cs ds hm hl hd μ hμ hwt;rw[List.mapM_cons]at hd;cases l:DataW.trod enc P w base spare held m f.type ((cs.drop f.offset).take (P.cellsOf f.type))with
 |none=>grind
 |some d=>
  cases B:fs.mapM (λf=>DataW.trod enc P w base spare held m f.type ((cs.drop f.offset).take (P.cellsOf f.type)))with
  |none=>grind
  |some g=>
   have i:ds=d::g:=by
    grind
   subst i;rw[s,u]at l;obtain⟨x,z,t,F⟩:=h H enc w base spare held m _ d hm l μ hμ (hwt d (by simp));obtain⟨y,y1,y2,E⟩:=r H enc w base spare held m cs g hm hl B μ hμ (by grind);have j:cs.drop off=(cs.drop off).take k++cs.drop (off+k):=by rw[<- List.drop_drop,Xx]
   refine⟨(x,y),⟨z,y1⟩,by rw[j];exact t.append y2,?_⟩
   grind
theorem RB.struct{fs:Array Field}{L:Nat}(i:P.underlying t=some (.struct fs))(g:P.cellsOf t=L)(h:RF P n fs.toList 0 L T e wf):RB P (n+1) t T e wf:=by
 intro H enc w base spare held m cs d hm hd μ hμ hwt;cases m with
 |zero=>simp[DataW.trod]at hd
 |succ m=>
  unfold DataW.trod at hd;simp only[i]at hd;split at hd
  .rename_i j;cases a:fs.toList.mapM (λf=>DataW.trod enc P w base spare held m f.type ((cs.drop f.offset).take (P.cellsOf f.type)))with
   |none=>grind
   |some k=>
    rw[a]at hd;simp only[Xk,Option.some.injEq]at hd;subst hd;have:=h H enc w base spare held m cs k (by omega) (by rw[j,g]) a μ hμ (λy l=>XS (hμ.ag _ _ (by grind)) hwt)
    grind
  .cases hd
end
variable {P:Program}{W:World}
theorem C.law{f:FuncId}{args:List A}{vals:List Value}(h:C P f args [] (λa H=>a=.bool true/\H=[]))(hl:LR (Qez W) [] W args vals)(d:GP W):
  Calls P f vals.toArray W λe W'=>e=.returned (.bool true)/\Go.RowKit.Below W.heap.size W W':=by
 have s:Sim (λ_=>False) (Qez W) [] [] W:=
  ⟨rfl,⟨λ_ h=>h,λb l=>d.size b l,d⟩,λ_ h=>h.elim,λ_ _ h=>h,(by simp),(by simp),(by simp),(by simp)⟩
 refine(h _ _ _ _ W s hl).mono ?_;rintro e W' ⟨v,r,H',j,τ,rfl,⟨rfl,rfl⟩,_,g,ev⟩;exact⟨by rw[show v=.bool true from g],⟨ev.os,ev.tape,ev.output,ev.size,λk i=>ev.keepRo k i⟩⟩
variable {t:TypeId}
theorem QnV{a:Nat}{v:Value}{fs:Array Field}(d:P.underlying t=some (.struct fs))(h:Value.okWide P W .any a t v):∃cs,v=.agg cs:=by
 unfold Value.okWide at h
 grind
theorem Qku{cs:Array Value}{T:Type}{e:T->List A}{wf:T->Prop}{H:Type}{enc:TypeId×Value->H}{f:Nat}{a:Nat->Bool}{held:Bool}{d:DataW H}{ps:List MemPlace}
  (h:∀n,RB P n t T e wf)(j:DataW.Trod enc P W f a held t (.agg cs) d ps){μ:DataW H->Nat}(hμ:Qpb μ)(g:μ d<=1048576):∃x:T,wf x/\VR (Qez W) [] W (.agg (e x)) (.agg cs):=by
 obtain⟨m,i⟩:=j;obtain⟨x,k,l,_⟩:=h (m+1) H enc W f a held m _ _ (Xn _) i μ hμ g;exact⟨x,k,cs.toList,by simp,l⟩
theorem Qmy{a:Option Addr}{len cap:Nat}{T:Type}{e:T->List A}{wf:List T->Prop}{H:Type}{enc:TypeId×Value->H}{g:Nat}{f:Nat->Bool}{held:Bool}{d:DataW H}{ps:List MemPlace}
  (h:∀n,RB P n t (List T) (QoH k e) wf)(p:DataW.Trod enc P W g f held t (.slice a len cap) d ps){μ:DataW H->Nat}(hμ:Qpb μ)(i:μ d<=1048576):∃x:List T,wf x/\VR (Qez W) [] W (.rsl k (x.map e)) (.slice a len cap):=by
 obtain⟨m,j⟩:=p;obtain⟨x,l,⟨v,q,u,s,r⟩,_⟩:=h (m+1) H enc W g f held m _ _ (Xn _) j μ hμ i;refine⟨x,l,?_⟩;have:(Value.slice a len cap).cells.toList=[.slice a len cap]:=rfl
 grind
theorem Qko(h:W.ShapedOpen P){g t u:Nat}{z:Value}(hg:Nat.blt g P.globals.size=true)(l:(((begin P (λ_ _=>0) default).world.heap[g]?).bind Obj.row?)=some (#[z],t))
  (k:P.buildable t=true)(r:P.cellTypes P.depth t=some [u])(j:P.underlying u=some (.int .i64)):∃m:Int,W.cell? ⟨g,0,none⟩=some (.int .i64 m):=by
 obtain⟨d,x,s,p⟩:=h.1 g _ _ (by simp_all) l;obtain⟨y,f,_,q⟩:=p k;rw[r]at f;cases f;have B:d.size=1:=s;have e:d[0]?=some d[0]:=(by simp);obtain⟨w,i,a⟩:=q 0 _ e;simp at i;subst i;unfold Cell.ok at a;rw[j]at a;cases n:d[0]<;>rw[n]at a<;>simp at a
 simp_all[World.cell?]
theorem QkC{S B:Type}{step:S->Option (Ctl S B)}(a:Nat->S)(b:B)(k:Nat)(p:∀i,i<k->step (a i)=some (.cont (a (i+1))))(e:step (a k)=some (.done b)):∀n,k<n->iter step n (a 0)=some b:=by
 have h:∀m i n,k-i=m->i<=k->m<n->iter step n (a i)=some b:=by
  intro m
  induction m with
  |zero=>
   intro i n f j g;have:i=k:=by omega
   subst this;obtain⟨d,rfl⟩:∃d,n=d+1:=⟨n-1,by omega⟩;simp[iter,e]
  |succ m l=>
   intro i n f j g;obtain⟨d,rfl⟩:∃d,n=d+1:=⟨n-1,by omega⟩
   grind[iter]
 grind
theorem Qoc{S B:Type}{step:S->Option (Ctl S B)}(d:S)(a:Nat->S)(b:B)(k:Nat)(h0:a 0=d)(f:∀i,i<k->step (a i)=some (.cont (a (i+1))))(g:step (a k)=some (.done b))(n:Nat)(e:k<n):iter step n d=some b:=by
 rw[<- h0];exact QkC a b k f g n e
variable {α:Type}
variable {l:List α}
theorem YL{i:Nat}{x:α}(h:l[i]?=some x):idx l i=some x:=by
 grind[idx]
theorem JW(l:List α)(x:α)(h:l.length<4294967296):app l [x]=some (l++[x]):=by
 unfold app;have:Nat.ble (l.length+[x].length) QB=true:=by
  grind[Nat.ble_eq_true_of_le,QB]
 grind
theorem Qdv(l m:List α)(h:l.length+m.length<=4294967296):app l m=some (l++m):=by
 simp_all[app,QB,XP]
theorem Yb{n:Int}(h0: -9223372036854775808<=n)(a:n<=9223372036854775807):IntKind.i64.wrap n=n:=by
 grind[IntKind.wrap,IntKind.bits,IntKind.signed]
theorem YG{i:Nat}(h:i<9223372036854775807):IntKind.i64.wrap (i+1)=(i+1:Nat):=by
 rw[Yb (by omega) (by omega)];omega
theorem YH{p:Prop}[Decidable p](h:p):decide p=true:=Vn h
theorem Y3{p:Prop}[Decidable p](h:¬p):decide p=false:=Vr h
open Go.Proofs Go.Shelf
def cat(a b:List UInt8):Option (List UInt8):=bif Nat.ble (a.length+b.length) 4294967296 then some (a++b)else none
theorem Qq0{a b r:List UInt8}(h:cat a b=some r):a.length+b.length<=4294967296/\a++b=r:=by
 unfold cat at h;cases q:Nat.ble (a.length+b.length) 4294967296 with
 |true=>simp_all
 |false=>grind
def QfI(s t:List UInt8):Option Bool:=bif Nat.blt s.length 4294967281 then some (Lib.contains s t)else none
variable {l':List α}
section
variable {P:Program} {o:Oper} {env:Env} {H:Qc}
theorem Qgq{u:TypeId}{x y:Operand}{p q r:List UInt8}(h:cat p q=some r)(l:o.op=.binOp .add t x y u:=by exact rfl)(hx:opA env x=.str p:=by exact rfl)(hy:opA env y=.str q:=by exact rfl):OpV P o env H (.str r):=by
 intro k s U N a w rr;obtain⟨m,g⟩:=Qq0 h;have e:=Qh rr x;rw[hx]at e;have f:=Qh rr y;rw[hy]at f;have j:a.eval x=.string ⟨p.toArray⟩:=e;have i:a.eval y=.string ⟨q.toArray⟩:=f;have n:(⟨p.toArray⟩:ByteArray)++⟨q.toArray⟩=⟨r.toArray⟩:=by
  rw[<- g];rfl
 refine⟨.string ⟨r.toArray⟩,?_,rfl⟩;have d:¬((⟨p.toArray⟩:ByteArray).size+(⟨q.toArray⟩:ByteArray).size>IntKind.i64.max):=by
  have:IntKind.i64.max=9223372036854775807:=by decide
  grind[ByteArray.size]
 simp_all[eqGuard,execOp,binOp_string_add,Op.stringOp]
def QeM(n:Nat)(l:List α)(i:Int):Option α:=bif Nat.beq l.length n then idx l i else none
theorem QaZ{n:Nat}{i:Int}{x:α}(h:QeM n l i=some x):l.length=n/\idx l i=some x:=by
 grind[QeM,Nat.eq_of_beq_eq_true]
def arr(n:Nat)(l:List α):Option (List α):=bif Nat.beq l.length n then some l else none
theorem JH{n:Nat}(h:arr n l=some l'):l.length=n/\l=l':=by
 grind[arr,Nat.eq_of_beq_eq_true]
theorem Qby{n:Nat}(h:arr n l=some l'):l'.length=n:=(JH h).2▸(JH h).1
section
variable {α:Type} {e:α->List A} {t et k n b:Nat} {x y:Operand} {l:List α}
theorem Qah{i:Int}{v:α}{g:IntKind}(h:QeM n l i=some v)(B:∀w,(underlying t).run P w=.ok (.array n et) w)(s:∀w,(sizeOf et).run P w=.ok k w)(z:Nat.ble 2 n=true)
  (p:o.op=.indexAddr t x y:=by exact rfl)(hx:opA env x=.ptr b 0:=by exact rfl)(hy:opA env y=.int g i:=by exact rfl):OpV P o env H (.ptr b (i.toNat*k)):=by
 intro G M U N a w r;obtain⟨J,q⟩:=QaZ h;obtain⟨O,L⟩:=Qad q;have u:i.toNat<l.length:=(by grind);have d:=Qh r x;rw[hx]at d;obtain⟨e,d,F⟩:=d;have m:=Qh r y;rw[hy]at m;have f:a.eval y=.int g i:=m;refine⟨.pointer (some ⟨e,i.toNat*k,none⟩),?_,e,d,rfl⟩;have E:0<=i/\i<n:=by omega
 have j:(⟨e,0,none⟩:Addr).add (i.toNat*k)=⟨e,i.toNat*k,none⟩:=by
  grind[Addr.add]
 generalize a.eval=ρ at*;simp[p,F,f,Instr.indexAt,B,s,E,go_sem]
theorem Qmi{cs:List A}(hH:H[b]?=some (.row t k (l.map e)):=by exact rfl)(hcs:(l.map e).flatten=cs:=by exact rfl):Pts H (.ptr b 0) cs:=by
 intro m n U w v s h;obtain⟨g,f,d⟩:=h;obtain⟨j,i,a⟩:=s.blk b _ _ f hH;refine⟨g,0,d,?_⟩;have:=(RR.flat (Y4 (pre:=[]) (by simpa using i) a)).1;subst hcs;exact this.lift
theorem Qjq(a:∀x,(e x).length=k)(L:List α):(L.map e).flatten.length=L.length*k:=by
 induction L with
 |nil=>simp
 |cons c L ih=>grind
theorem Qj4{d:Nat}{l':List α}(h:arr n l=some l')(m:∀x,(e x).length=k)(a:n*k=d)(g:∀w,(isAgg t).run P w=.ok true w)(p:∀w,(sizeOf t).run P w=.ok d w)
  (i:o.op=.load t x:=by exact rfl)(hx:opA env x=.ptr b 0:=by exact rfl)(hH:H[b]?=some (.row T k (l.map e)):=by exact rfl):OpV P o env H (.agg (l'.map e).flatten):=by
 obtain⟨j,rfl⟩:=JH h;have f:=Qjq m l;rw[j,a]at f;exact Qs i g p hx (Qmi hH rfl) (by grind) f
theorem Qni{r:Nat}{n2:Nat}(hl:l.length=n)(h:∀x,(e x).length=k)(a:n*k=n2)(f:∀w,(isAgg t).run P w=.ok true w)(g:∀w,(sizeOf t).run P w=.ok n2 w)
  (d:lk env r=.ptr b 0:=by exact rfl)(hH:H[b]?=some (.row T k (l.map e)):=by exact rfl):QdB P env H (.cell r t) (.agg (l.map e).flatten):=by
 have i:=Qjq h l;have:=QeD f g (Qmi hH rfl) d (by grind)
 grind
theorem QjW{c:List A}{k:Nat}(h:c.length=k):∀n,allK k (List.replicate n c)
 |0=>trivial
 |n+1=>⟨h,QjW h n⟩
theorem Jt{vs:Array Value}{z:α}(u:∀w,(zeroValue t).run P w=.ok (.agg vs) w)(q:(Y6 (List.replicate n (e z)).flatten).toArray=vs)(l:Qfg (List.replicate n (e z)).flatten=true)(j:(List.replicate n (e z)).flatten.all Yy=true)(i:Nat.beq (e z).length k=true)
  (p:o.op=.alloc t:=by exact rfl):OpH P o env H (.ptr H.length 0) (H++[.row t k ((List.replicate n z).map e)]):=by
 intro m g U N a w r;have f:LR g [] w (List.replicate n (e z)).flatten (Y6 (List.replicate n (e z)).flatten):=Qgw l;have d:=r.sim.allocRow (t:=t) (rest:=[]) (QjW (XN i) n) f (f.plain j);rw[Va]at d;have h:(List.replicate n z).map e=List.replicate n (e z):=List.map_replicate;refine⟨.pointer (some ⟨w.heap.size,0,none⟩),w.alloc (.cells (Y6 (List.replicate n (e z)).flatten).toArray t),g,[some w.heap.size],?_,⟨w.heap.size,?_,rfl⟩,h▸d,Qm.alloc _ r.sim.roLt r.sim.frLt⟩
 .have s:(newVar t (.agg vs)).run P w=.ok ⟨w.heap.size,0,none⟩ (w.alloc (.cells vs t)):=rfl
  simp_all[execOp,Instr.alloc]
 .rw[<- r.sim.len];simp
theorem Js{n2:Nat}{l':List α}{vs:List A}(h:l.length=n)(h':l'.length=n)(X:∀x,(e x).length=k)(q:n*k=n2)(hs:∀w,(sizeOf t).run P w=.ok n2 w)
  (hp:∀x,(e x).all Yy=true)(hd:∀x,Yq (e x)=true)(J:(l'.map e).flatten=vs)
  (ho:o.op=.store t x y:=by exact rfl)(s:opA env x=.ptr b 0:=by exact rfl)(hH:H[b]?=some (.row T k (l.map e)):=by exact rfl)(M:opA env y=.agg vs:=by exact rfl):
  OpU P o env H (H.set b (.row T k (l'.map e))):=by
 intro fr ro U N a w r;subst J;have i:=Qh r x;rw[s]at i;obtain⟨bb,i,h2⟩:=i;have Q:=Qh r y;rw[M]at Q;obtain⟨m,h4,p⟩:=Q;obtain⟨B,O,W⟩:=r.sim.blk b _ _ i hH;have F:∀(L:List α),allK k (L.map e):=by
  intro L
  induction L with
  |nil=>trivial
  |cons c L j=>exact⟨X c,j⟩
 have z:(l'.map e).flatten.length=n2:=by grind[YR]
 have Y:m.length=n2:=by rw[p.length,z]
 have g:∀L:List α,(L.map e).flatten.all Yy=true:=by
  grind
 have E:∀f ds:List A,Yq f=true->Yq ds=true->Yq (f++ds)=true:=by
  intro f
  induction f with
  |nil=>simp
  |cons c f j=>
   simp_all[Yq]
 have G:∀L:List α,Yq (L.map e).flatten=true:=by
  intro L
  induction L with
  |nil=>rfl
  |cons c L j=>exact E _ _ (hd c) j
 have hlen:=by
  have:=W.length;rw[XX,h,q]at this;exact this
 have V:=Yp (P:=P) (vs:=m) 0 0 O (by omega) (p.plain (g l'));have R:splice B 0 m=m++B.drop n2:=by unfold splice;simp[Y]
 have d:=r.sim.set (x':=.row T k (l'.map e)) (obj:=.cells (splice B 0 m).toArray T (0,0)) i hH rfl
  (λy M=>QaD O (YE (by omega)) y M)
  (λex u=>by
   have s:=(p.data (G l')).mono ex.nil;exact⟨_,u,JI (F l') s (p.plain (g l'))⟩)
 refine⟨_,ro,[],?_,by simpa using d.1,d.2⟩
 simp_all[Value.cells,storeVar,execOp,Instr.storeAt,Instr.sureAddr]
end
end
theorem C.contains{ρ:Ren}(L:Lays.n144 P ρ)(hg:ρ.g 1=QmP){s t:List UInt8}{r:Bool}(h:QfI s t=some r):C P (ρ.f 144) [.str s,.str t] [] (λa H=>a=.bool r/\H=[]):=by
 unfold QfI at h;cases q:Nat.blt s.length 4294967281 with
 |false=>grind
 |true=>
  rw[q]at h;obtain rfl:=XV h;intro p k U vals w sim hv;obtain⟨u,y,rfl,i,z,d,rfl,l,j⟩:=hv;cases(show d=[]from j);obtain⟨m,n⟩:=sim.roOk.gp.max;have e1:=i;have e2:=l;subst e1 e2;have hs:=by simpa using q
  refine(Any.strings_Contains L ⟨s.toArray⟩ ⟨t.toArray⟩ m w (by simpa[ByteArray.size]using hs) (by grind)).mono ?_;rintro e x ⟨rfl,rfl⟩;exact⟨_,_,_,k,[],rfl,⟨rfl,rfl⟩,by grind,rfl,Qm.refl _ _ _⟩
section
variable {P:Program} {o:Oper} {env:Env} {H:Qc} {fr ro:Nat->Prop} {U:Sig} {w:World}
theorem Sim.touch(s:Sim fr ro U H w){b:Nat}{obj:Obj}(n:¬ro b)(r:¬fr b)(t:∀(i:Nat) (x:Blk),U[i]?=some (some b)->H[i]?=some x->x.live=true->False)
  (k:∀(i d:Nat) (x:Blk),U[i]?=some (some d)->H[i]?=some x->Hid w x d b->False)
  (m:∀y,w.shape? b=some y->{w with heap:=w.heap.setIfInBounds b obj}.shape? b=some y):
  Sim fr ro U H {w with heap:=w.heap.setIfInBounds b obj}/\Qm fr ro w ro {w with heap:=w.heap.setIfInBounds b obj}:=by
 have a:{w with heap:=w.heap.setIfInBounds b obj}.heap.size=w.heap.size:=by simp
 have ev:Qm fr ro w ro {w with heap:=w.heap.setIfInBounds b obj}:=
  ⟨λ_ h=>h,(by grind),(by grind),by omega,by
   grind[World.shape?],rfl,rfl,rfl,XQ _⟩
 refine⟨⟨s.len,s.roOk.to (λ_ q=>q) ev.keepRo (λc h=>by rw[a];exact s.roLt c h),λc h=>by rw[a];exact s.frLt c h,s.roFr,?_,s.inj,?_,s.hidTo (· = ·) Q6 (by omega) (by simp) (by simp) λj d y l g u=>.inl ⟨j,y,rfl,l,g,id,λc q=>s.hidKeep l g (by grind) ev.keepRo q⟩⟩,ev⟩
 .intro i c x e f p;rw[a];exact s.own i c x e f p
 .intro i y x e f;refine(s.blk i y x e f).keep (ev.ext0 U) ?_ ?_
  .grind
  grind
theorem Qnt{E i n t:Nat}{x:Operand}{es:List (List A)}(ht:P.underlying T=some (.slice E))(hE:P.underlying E=some (.int .u8))(hn:es.length=n)(h0:Nat.blt 0 n=true)
  (ho:o.op=.convert T T x:=by exact rfl)(hx:opA env x=.osl i 0 n 1:=by exact rfl)(hH:H[i]?=some (.row t 1 es):=by exact rfl):
  OpH P o env H (.rsl 1 es) (H.set i .dead):=by
 intro fr M U N a w r;subst hn;have k:=Qh r x;rw[hx]at k;rcases k with⟨hz,_⟩|⟨b,p,F,t',m,k,h2,h6,⟨h3,aa⟩,h4,h5⟩
 .simp_all
 .have W:0<es.length:=by simp_all
  obtain rfl:=h6 (by omega);obtain⟨hb,L,g⟩:=r.sim.own i b _ k hH rfl;obtain⟨l,q1,X⟩:=r.sim.blk i _ _ k hH;have V:=r.sim.kill i;have f:∀(j:Nat) (y:Blk),U[j]?=some (some b)->(H.set i .dead)[j]?=some y->y.live=true->False:=by
   intro j y B e u;by_cases q:j=i
   .subst q;rw[Xb]at e;simp only[if_true]at e
    grind[Blk.live]
   .rw[XM (λz=>q z.symm)]at e;exact q (r.sim.inj j i b y _ B k e hH u rfl)
  have G:∀(j d:Nat) (y:Blk),U[j]?=some (some d)->(H.set i .dead)[j]?=some y->Hid w y d b->False:=by
   intro j d y B e u;by_cases q:j=i
   .subst q;rw[Xb]at e;simp only[if_true]at e;split at e
    .cases e;exact u.elim
    .simp at e
   .rw[XM (λz=>q z.symm)]at e;exact(r.sim.hid j d y b B e u).ne i b _ k hH rfl rfl
  let fz:Nat×Nat:=(l.length,l.length+1)
  have O:∀y,w.shape? b=some y->({w with heap:=w.heap.setIfInBounds b (.cells l.toArray t fz)}:World).shape? b=some y:=by
   simp_all[World.shape?]
  obtain⟨Y,s⟩:=V.touch (obj:=.cells l.toArray t fz) L g f G O;have s3:=Y.addRo (b:=b) (by grind) g f (λj d y B e u=>G j d y B e (V.hidKeep B e (by grind) s.keepRo u));have h:({w with heap:=w.heap.setIfInBounds b (.cells l.toArray t fz)}:World).heap[b]?=some (.cells (([]:List Value)++l).toArray t fz):=by
   grind
  have J:Ext M [] w M [] {w with heap:=w.heap.setIfInBounds b (.cells l.toArray t fz)}:=s.ext0 [];refine⟨.slice (some ⟨b,0*1,none⟩) es.length F,_,λc=>M c\/c=b,[],?_,?_,by grind,s.trans (YV λ_ q=>.inl q)⟩
  .have hf:w.freeze ⟨b,l.length,none⟩ 1={w with heap:=w.heap.setIfInBounds b (.cells l.toArray t fz)}:=by
    unfold World.freeze;simp only[Nat.one_ne_zero,if_false];rw[Qbe q1];rfl
   have R:(markStringish ⟨b,0*1,none⟩).run P w=.ok () {w with heap:=w.heap.setIfInBounds b (.cells l.toArray t fz)}:=by
    simp_all[markStringish,World.shape?]
   have hu:∀w,(underlying T).run P w=.ok (.slice E) w:=run_underlying ht;have Q:∀w,(underlying E).run P w=.ok (.int .u8) w:=run_underlying hE;generalize a.eval=ρ at*;simp only[execOp,ho,h2,convert,Vg,hu,Q,Result.andThen,beq_self_eq_true,R,Vh]
  .refine⟨some ⟨b,0*1,none⟩,F,rfl,h3,.inr ⟨b,0*1,rfl,.inr rfl,?_⟩⟩;have:=Y4 (pre:=[]) h (X.mono J);exact(by omega:RR M [] _ b 1 es (0*1)).keep ⟨λ_ q=>.inl q,λ_ _=>rfl,λ_ _ q=>q,λ_ _ q=>q⟩ rfl
end
mutual
theorem QdO(ρ:Nat->Nat):∀{a:A},YJ a=true->Y7 ρ a=a
 |.any,_=>rfl
 |.bool _,_=>rfl
 |.int _ _,_=>rfl
 |.str _,_=>rfl
 |.nilp,_=>rfl
 |.ptr _ _,h=>by simp[YJ]at h
 |.rp _,_=>rfl
 |.nils,_=>rfl
 |.rsl _ _,_=>rfl
 |.osl _ _ _ _,h=>by simp[YJ]at h
 |.agg cs,h=>by simp only[YJ]at h;simp only[Y7,Qab ρ h]
 |.fn f a c,h=>by simp only[YJ,XT]at h;simp only[Y7,Qab ρ h.1,Qab ρ h.2]
 |.nilf,_=>rfl
 |.iface t a,h=>by simp only[YJ]at h;simp only[Y7,QdO ρ h]
 |.nilif,_=>rfl
 |.map _,h=>by simp[YJ]at h
 |.nilm,_=>rfl
 |.tup vs,h=>by simp only[YJ]at h;simp only[Y7,Qab ρ h]
theorem Qab(ρ:Nat->Nat):∀{l:List A},Yq l=true->Qai ρ l=l
 |[],_=>rfl
 |a::l,h=>by simp only[Yq,XT]at h;simp only[Qai,QdO ρ h.1,Qab ρ h.2]
end
theorem Qg8{α:Type}{e:α->List A}(a:∀x,Yq (e x)=true):∀L:List α,Yq (L.map e).flatten=true
 |[]=>rfl
 |c::L=>by
  have hdt:∀cs ds,Yq cs=true->Yq ds=true->Yq (cs++ds)=true:=by
   intro cs
   induction cs with
   |nil=>simp
   |cons c cs d=>
    simp_all[Yq]
  exact hdt _ _ (a c) (Qg8 a L)
theorem Qpv{e:α->List A}(hd:∀x,Yq (e x)=true)(ρ:Nat->Nat)(l:List α):Y7 ρ (.agg (l.map e).flatten)=.agg (l.map e).flatten:=
 QdO ρ (by exact Qg8 hd l)
end Go.Sw
namespace Go.Sw
variable {T:Nat}
section
variable {P:Program} {o:Oper} {env:Env} {H:Qc}
theorem Qe3{c:Call}{f:Nat}{x:Operand}{xs:List Operand}{h:Array TypeId}{name:String}{v:A}{args:List A}(e:∀(a:Array Value) (w:World),(callFunc f a).run P w=.ok (.enter f a) w)(l:o.op=.call c)
  (m:c={callee:=.invoke x name,args:=xs.toArray,argTypes:=h})(g:opA env x=.iface T v)(hargs:v::xs.map (opA env)=args)
  (j:∀(u:Value) (w:World),(method (P.types.size+Made.depth) T u name).run P w=.ok (f,u) w):OpC P o env H f args:=by
 intro k n U N a w r;have d:=Qh r x;rw[g]at d;obtain⟨u,d,i⟩:=d;refine⟨u::xs.map a.eval,?_,hargs▸⟨u,xs.map a.eval,rfl,i,Qbm r xs⟩⟩
 simp_all[VC,callMethod,execOp,resolve,invoke]
theorem QbA{I:Nat}{x:Operand}{v:A}{d:TypeDesc}(h:∀w,(underlying T).run P w=.ok d w)(k:∀m,d≠ .interface m)(g:o.op=.typeAssert x I T true:=by exact rfl)(hx:opA env x=.iface T v:=by exact rfl):
  OpV P o env H (.tup [v,.bool true]):=by
 intro i j U N a w r;have e:=Qh r x;rw[hx]at e;obtain⟨u,e,f⟩:=e;refine⟨.tuple #[u,.bool true],?_,[u,.bool true],rfl,_,_,rfl,f,_,_,rfl,rfl,rfl⟩
 simp_all[execOp,Instr.typeAssert]
theorem Qiv{T' I:Nat}{x:Operand}{v z:A}{e:Value}{d:TypeDesc}(n:∀w,(underlying T).run P w=.ok d w)(l:∀m,d≠ .interface m)(h:Nat.beq T' T=false)(s:∀w,(zeroValue T).run P w=.ok e w)(f:ZR z e)
  (k:o.op=.typeAssert x I T true:=by exact rfl)(hx:opA env x=.iface T' v:=by exact rfl):
  OpV P o env H (.tup [z,.bool false]):=by
 intro j p U N a w r;have g:=Qh r x;rw[hx]at g;obtain⟨u,g,t⟩:=g;have i:T'≠T:=λq=>by simp_all
 refine⟨.tuple #[e,.bool false],?_,[e,.bool false],rfl,_,_,rfl,f _ _ _,_,_,rfl,rfl,rfl⟩
 simp_all[execOp,Instr.typeAssert]
end
def TL(P:Program)(h0 N:Nat)(c:Code)(env:Env)(H:Qc)(Q:QR):Prop:=
 ∀rd fr ro U a w,Rel fr ro U H env N a w->Qd4 rd fr w->∀(b:Frame) (k:List Item) (cs:List Frame),b.roundOf=(WF rd).round->(WF rd).fn b.fn->(WF rd).room (cs.length+1+0)->∃e a' w',QaP h0 fr ro U w N a.defers Q e a' w'/\ArrivesIn (Machine.fenced P (WF rd)) P (lone (b.atR a (.code c::.inLoop c::k)) cs w) b k cs e a' w'
def Qk8(P:Program)(h0 N:Nat)(c:Code)(Q:QR):QR
 |.normal,env,H=>TL P h0 N c env H Q
 |.exit id,env,H=>Q (.exit id) env H
 |.ret,env,H=>Q .ret env H
section
variable {P:Program} {h0 N:Nat} {c:Code} {env:Env} {H:Qc} {Q:QR}
theorem Qo1(h:TL P h0 N c env H Q):TC P h0 N (.loop c) env H Q:=by
 intro g f j U a w r hrd b k cs hro hb hr;obtain⟨e,i,m,l,d⟩:=h g f j U a w r hrd b k cs hro hb hr;exact⟨e,i,m,l,.of_steps (.one (fenced_calm hb hr rfl) stepR_loop) d⟩
theorem TL.round(h:TC P h0 N c env H (Qk8 P h0 N c Q)):TL P h0 N c env H Q:=by
 intro y F G U a w r hrd b k cs hro hb hr;obtain⟨e,l,n,O,d⟩:=h y F G U a w r hrd b (.inLoop c::k) cs hro hb hr;obtain⟨x,f,H',j,σ',i,m,p,B,s,z,u⟩:=O;have E:∀x,Q x f H'->ExR e x->QaP h0 F G U w N a.defers Q e l n:=λx q L=>⟨x,f,H',j,σ',i,L,q,B,s,z,u⟩;cases e with
 |normal=>
  obtain rfl:x=.normal:=m;obtain⟨J,M,w2,t,g⟩:=p y i j σ' l n B (hrd.to s u.sub) b k cs hro hb hr;exact⟨J,M,w2,t.grow s z u,.of_steps (StepsIn.trans d (.one (fenced_calm hb hr rfl) stepR_inLoop)) g⟩
 |exit id=>
  obtain rfl:x=.exit id:=m;exact⟨_,l,n,E _ p rfl,.pass rfl (by simp) d⟩
 |ret=>
  obtain rfl:x=.ret:=m;exact⟨_,l,n,E _ p rfl,.pass rfl (by simp) d⟩
 |_=>exact m.elim
theorem unrN(h:TC P h0 N c env H (Qk8 P h0 N c Q)):Qk8 P h0 N c Q .normal env H:=TL.round h
theorem unrX{id:Nat}(h:Q (.exit id) env H):Qk8 P h0 N c Q (.exit id) env H:=h
theorem unrR(h:Q .ret env H):Qk8 P h0 N c Q .ret env H:=h
theorem Qng(h:TC P h0 N c env H (Qk8 P h0 N c Q)):TC P h0 N (.loop c) env H Q:=Qo1 (TL.round h)
end
variable {k t:Nat}
section
variable {P:Program} {o:Oper} {env:Env} {H:Qc}
theorem OpV.ixL{a b n j:Nat}{x y:Operand}{f:IntKind}{i:Int}(h:Nat.blt j n=true)(hi:i=j)(d:∀w,(underlying t).run P w=.ok (.slice a) w)(e:∀w,(sizeOf a).run P w=.ok k w)
  (g:o.op=.indexAddr t x y:=by exact rfl)(hx:opA env x=.osl b 0 n k:=by exact rfl)(hy:opA env y=.int f i:=by exact rfl):OpV P o env H (.ptr b (j*k)):=by
 have l:=Qiw (H:=H) g d e hx hy (by omega) (by simp_all)
 grind
end
theorem Qgm{ro:Nat->Prop}{U:Sig}{w:World}{k:Nat}:∀{es:List (List A)} {l l':List Value},RL ro U w k es l->l.take (es.length*k)=l'.take (es.length*k)->RL ro U w k es l'
 |[],_,_,_,_=>trivial
 |c::es,l,l',h,hp=>by
  obtain⟨l1,l2,rfl,h1,h2,h3⟩:=h;have hl1:l1.length=k:=by rw[h2.1.length];exact h1
  have a:l'.take k=l1:=by
   have:=congrArg (List.take k) hp
   grind[Nat.succ_mul]
  refine⟨l1,l'.drop k,by rw[<- a,Xx],h1,h2,Qgm h3 ?_⟩;have:=congrArg (List.drop k) hp
  grind[Nat.succ_mul]
section
variable {P:Program} {o:Oper} {env:Env} {H:Qc}
theorem QgJ{c:Call}{et b s n:Nat}{x:Operand}{es es':List (List A)}{z:Value}(ht:P.underlying T=some (.slice et))(hz:∀w,(zeroValue et).run P w=.ok z w)(M:z.cells.size=k)(ac:∀v∈z.cells,Qy v)
  (L:es.take s=es')(hb:s+n=es.length)(ho:o.op=.call c:=by exact rfl)(hc:c={callee:=.builtin .clear,args:= #[x],argTypes:= #[T]}:=by exact rfl)
  (hx:opA env x=.osl b s n k:=by exact rfl)(hH:H[b]?=some (.row t k es):=by exact rfl):OpH P o env H (.tup []) (H.set b (.row t k es')):=by
 intro G g U N a w r;subst L hc;have Y:∀w,(underlying T).run P w=.ok (.slice et) w:=run_underlying ht;have e:=Qh r x;rw[hx]at e;have J:Sim G g U (H.set b (.row t k (es.take s))) w:=by
  refine r.sim.weaken hH rfl ?_;intro y h;cases y with
  |none=>rw[show es=[]from h];simp[BR]
  |some O=>obtain⟨l,g1,g2⟩:=h;exact⟨l,g1,RL.take s g2⟩
 have u:∀v,a.eval x=v->(Builtin.clear_ #[T] o.type #[v]).run P w=.ok (.tuple #[]) w->
   ∃v w' ro' τ,(execOp a.eval o).run P w=.ok (.value v) w'/\VR ro' (U++τ) w' (.tup []) v/\Sim G ro' (U++τ) (H.set b (.row t k (es.take s))) w'/\Qm G g w ro' w':=by
  intro v j d;refine⟨.tuple #[],w,g,[],?_,⟨[],rfl,rfl⟩,by grind,Qm.refl _ _ _⟩
  simp_all[execOp,resolve,invoke,builtin]
 rcases e with⟨hn,e⟩|⟨O,p,B,t',m,e,h2,h3,⟨h4,aa⟩,h5,h6⟩
 .simp_all[Builtin.clear_]
 .by_cases hn:n=0
  .simp_all[Builtin.clear_]
  .obtain rfl:=h3 (by omega);obtain⟨l,R,Q⟩:=r.sim.blk b _ _ e hH;have V:=Q.length
   let vs:=(Builtin.zeroCells z.cells n).toList
   have ae:vs.length=n*k:=by simp[vs,Builtin.zeroCells,M]
   have F:∀v∈vs,Qy v:=by
    intro v j;simp only[vs,Builtin.zeroCells,Array.toList_map,Xf,Array.toList_range,List.mem_range]at j;obtain⟨i,hi,rfl⟩:=j;have W:0<z.cells.size:=by
     grind
    grind[Nat.mod_lt]
   have ab:s*k+n*k=es.length*k:=by grind
   have d:=Yp (P:=P) (vs:=vs) (s*k) 0 R (by omega) F;have f:=r.sim.set (x':=.row t k (es.take s)) (obj:=.cells (splice l (s*k) vs).toArray t (0,0)) e hH rfl
    (λy h=>QaD R (YE (by omega)) y h)
    (λex q=>⟨_,q,by
     refine(Qgm (RL.take s Q) ?_).mono ex.nil
     grind[splice]⟩)
   refine⟨.tuple #[],_,g,[],?_,⟨[],rfl,rfl⟩,by grind,f.2⟩;have E:(Builtin.clear_ #[T] o.type #[.slice (some ⟨O,s*k,none⟩) n B]).run P w=.ok (.tuple #[]) {w with heap:=w.heap.setIfInBounds O (.cells (splice l (s*k) vs).toArray t (0,0))}:=by
    obtain⟨X,rfl⟩:∃X,n=X+1:=⟨n-1,by omega⟩;simp only[Xv]at d;simp only[Builtin.clear_,XE,XC,Vg,Y,hz,Result.andThen,d,Vh,vs]
   generalize a.eval=ρ at*;simp only[execOp,ho,resolve,Vg,Vh,Result.andThen,invoke,builtin,XF,Vd,Ve,h2,E]
end
variable {α:Type}
def isNil{R:Type}[DecidableEq R](l:List α)(x y:Option R):Option R:=bif l.isEmpty then(bif decide (x=y)then x else none)else y
variable {l:List α}
theorem Qji{R:Type}[DecidableEq R]{x y:Option R}{r:R}(h:isNil l x y=some r)(b:Bool)(a:l≠[]->b=false):(b=true->x=some r)/\(b=false->y=some r):=by
 unfold isNil at h
 grind
section
variable {P:Program} {o:Oper} {env:Env} {H:Qc} {h0 N:Nat} {Q:QR}
theorem Qnu{e:α->List A}{E:Nat}{u:TypeId}{x:Operand}(q:P.underlying T=some (.slice E))(j:o.op=.binOp .eql T x (.const (.slice none 0 0)) u)(g:opA env x=.rsl k (l.map e)):
  OpE P o env H (λv H'=>∃b:Bool,v=.bool b/\(l≠[]->b=false)/\H'=H):=by
 intro i h U N a w r;have d:=Qh r x;rw[g]at d;obtain⟨ad,f,d,s,m⟩:=d;refine⟨.bool ad.isNone,H,.bool ad.isNone,w,h,[],⟨ad.isNone,rfl,λp=>?_,rfl⟩,?_,rfl,by simpa using r.sim,Qm.refl _ _ _⟩
 .grind
 .have n:a.eval (.const (.slice none 0 0))=.slice none 0 0:=rfl
  grind[eqGuard,execOp,Sem.run_bind,Result.andThen,Go.run_eql_slice_nil,Sem.run_pure]
theorem QjX{e:α->List A}{E d:Nat}{u:TypeId}{x:Operand}{all:Array Oper}{L:List Oper}(g:P.underlying T=some (.slice E))(a:opA env x=.rsl k (l.map e))
  (h:∀b,(l≠[]->b=false)->WO P h0 N all L (up env d (.bool b)) H Q)
  (f:o.op=.binOp .eql T x (.const (.slice none 0 0)) u:=by exact rfl)(hg:Qw all o env true:=by exact rfl)(hd:o.dst=some d:=by exact rfl)(hN:Nat.blt d N=true:=by exact rfl)(hh:Nat.ble h0 H.length=true:=by exact rfl):WO P h0 N all (o::L) env H Q:=by
 refine Qk7 (by simp_all) hg hd hN (Qnu g f a) ?_
 grind
end
theorem slc0{x:List α}{i:Int}(h:slc l 0 i=some x):0<=i/\i.toNat<=l.length/\l.take i.toNat=x/\x.length=i.toNat:=by
 obtain⟨_,d,a,e⟩:=Qfc h
 grind
section
variable {P:Program} {o:Oper} {env:Env} {H:Qc} {α:Type} {e:α->List A} {T et k b t:Nat} {x y:Operand} {l l':List α} {i:Int}
theorem Qld(h:slc l 0 i=some l')(E1:∀w,(underlying T).run P w=.ok (.slice et) w)(E2:∀w,(sizeOf et).run P w=.ok k w)(a:o.op=.slice T x (some y) none none:=by exact rfl)
  (hx:opA env x=.osl b 0 l.length k:=by exact rfl)(hy:opA env y=.int .i64 i:=by exact rfl):OpV P o env H (.osl b (0+i.toNat) (l.length-i.toNat) k):=by
 obtain⟨e,d,_,_⟩:=slc0 h;exact Qgs E1 E2 a hx (by grind) (.inl ⟨rfl,rfl⟩) d (XQ _)
theorem Qle(h:slc l 0 i=some l')(E1:∀w,(underlying T).run P w=.ok (.slice et) w)(E2:∀w,(sizeOf et).run P w=.ok k w)(a:o.op=.slice T x none (some y) none:=by exact rfl)
  (hx:opA env x=.osl b 0 l.length k:=by exact rfl)(hy:opA env y=.int .i64 i:=by exact rfl):OpV P o env H (.osl b 0 l'.length k):=by
 obtain⟨f,d,_,e⟩:=slc0 h;have:=Qgs (H:=H) E1 E2 a hx (.inl ⟨rfl,rfl⟩) (by grind) (XR _) d
 grind
theorem Qlh{c:Call}{z:Value}(h:slc l 0 i=some l')(j:P.underlying T=some (.slice et))(m:∀w,(zeroValue et).run P w=.ok z w)(d:z.cells.size=k)(a:∀v∈z.cells,Qy v)(f:o.op=.call c:=by exact rfl)(hc:c={callee:=.builtin .clear,args:= #[x],argTypes:= #[T]}:=by exact rfl)
  (hx:opA env x=.osl b (0+i.toNat) (l.length-i.toNat) k:=by exact rfl)(hH:H[b]?=some (.row t k (l.map e)):=by exact rfl):OpH P o env H (.tup []) (H.set b (.row t k (l'.map e))):=by
 obtain⟨p,q,g,n⟩:=slc0 h;refine QgJ j m d a ?_ ?_ f hc hx hH
 .rw[Xu, <- g,List.map_take]
 grind
end
open Go.Sort Go.Proofs Go.Shelf
def ltI(x y:Int):Bool:=decide (x<y)
def sortI(l:List Int):Option (List Int):=bif Nat.ble l.length QB then some (YX ltI l)else none
variable {l':List Int}
theorem QiO{l:List Int}(h:sortI l=some l'):l.length<=QB/\YX ltI l=l':=by
 unfold sortI at h;cases e:Nat.ble l.length QB with
 |false=>grind
 |true=>simp_all
theorem QdL{l:List Int}(h:sortI l=some l'):l.length=l'.length:=by
 rw[<- (QiO h).2];exact(Qz _ _).length_eq.symm
theorem Qdj(l:List Int):QeB ltI l:=
 ⟨λx _=>by simp[ltI],λx _ y _ z _ a b=>by simp[ltI]at*;omega,λx _ y _ z _ a b=>by simp[ltI]at*;omega⟩
theorem QeL(l:List Int):(l.mergeSort λx y=>decide (x<=y))=YX ltI l:=by
 refine JD ?_ ?_ ?_ (QX (Qdj l))
 .grind[List.mergeSort_perm,Qz]
 .simp[ltI]at*;omega
 grind[List.pairwise_mergeSort,ltI]
theorem Qmh{ro:Nat->Prop}{U:Sig}{w:World}:∀{l:List Int} {lv:List Value},RL ro U w 1 (l.map λx=>[A.int .i64 x]) lv->∃rest,lv=l.map (Value.int .i64)++rest
 |[],lv,_=>⟨lv,rfl⟩
 |x::l,lv,h=>by
  obtain⟨l1,l2,rfl,h1,⟨h2,h3⟩,h4⟩:=h;obtain⟨rest,rfl⟩:=Qmh h4;obtain⟨v,r,rfl,hv,hr⟩:=h2;cases(show r=[]from hr);exact⟨rest,by rw[show v=.int .i64 x from hv];simp⟩
theorem Qgo{ro:Nat->Prop}{U:Sig}{w:World}:∀(l:List Int) (rest:List Value),RL ro U w 1 (l.map λx=>[A.int .i64 x]) (l.map (Value.int .i64)++rest)
 |[],_=>trivial
 |x::l,rest=>⟨[.int .i64 x],l.map (Value.int .i64)++rest,by simp,rfl,⟨⟨_,_,rfl,rfl,rfl⟩,by simp[Qy]⟩,Qgo l rest⟩
theorem Qmq{P:Program}{ρ:Ren}(L:Lays.n189 P ρ){l:List Int}(hs:sortI l=some l'):
  C P (ρ.f 189) [.osl 0 0 l.length 1] [.row t 1 (l.map λx=>[A.int .i64 x])] (λa H=>a=.tup []/\H=[.row t 1 (l'.map λx=>[A.int .i64 x])]):=by
 intro fr J U vals w s hv;obtain⟨vs,r1,rfl,ag,hr⟩:=hv;cases(show r1=[]from hr);obtain⟨N,O⟩:=QiO hs;have z:∀(ad:Option Addr) (c:Nat),vs=.slice ad 0 c->l=[]->
   Calls P (ρ.f 189) [vs].toArray w λe M=>∃v r H' ro' τ,e=.returned v/\(r=.tup []/\H'=[.row t 1 (l'.map λx=>[A.int .i64 x])])/\Sim fr ro' (U++τ) H' M/\VR ro' (U++τ) M r v/\Qm fr J w ro' M:=by
  rintro ad c rfl rfl;have E:l'=[]:=by rw[<- O];rfl
  subst E;refine(Any.slices_Sort_int_none L ad c w).mono ?_;rintro e M ⟨rfl,rfl⟩;exact⟨_,_,_,J,[],rfl,⟨rfl,rfl⟩,by simpa using s,⟨[],rfl,rfl⟩,Qm.refl _ _ _⟩
 rcases ag with⟨h0,rfl⟩|⟨b,p,cp,t',m,q1,rfl,q2,⟨q3,ai⟩,q4,q5⟩
 .grind
 .by_cases E:l=[]
  .grind
  .have ae:0<l.length:=List.length_pos_iff.2 E;obtain rfl:=q2 (X9 ae q3);obtain⟨lv,e1,e2⟩:=s.blk 0 _ _ q1 rfl;obtain⟨hb,X,R⟩:=s.own 0 b _ q1 rfl rfl;obtain⟨d,rfl⟩:=Qmh e2;have hH:Holds (Value.int .i64) w b 0 l.toArray:=by
    intro j hj
    simp_all[World.cell?,XJ,World.frozen?]
   have g:=Any.slices_Sort_int L b 0 cp l w hH hb (by unfold QB at N;omega);rw[QeL,O]at g;simp only[Nat.zero_mul]at g⊢;refine g.mono ?_;rintro e M ⟨rfl,n,os,rfl⟩;have aj:l.length=l'.length:=QdL hs;generalize hW:grow (putRow (Value.int .i64) (Sort.ahead w n) b 0 l'.toArray) os=W;have ab:W.heap=w.heap.setIfInBounds b (.cells ((l'.map (Value.int .i64)++d)).toArray t (0,0))++os:=by
    rw[<- hW];show(w.heap.modify b _)++os=_;rw[Qbe e1];simp only[onCells];congr 3;unfold putCells
    grind
   have g1:∀c,c<w.heap.size->c≠b->W.heap[c]?=w.heap[c]? :=by
    grind
   have g2:W.heap[b]?=some (.cells ((l'.map (Value.int .i64)++d)).toArray t (0,0)):=by
    grind
   have Y:w.heap.size<=W.heap.size:=by grind
   have u:∀c y,w.shape? c=some y->W.shape? c=some y:=by
    grind[World.shape?]
   have ac:W.os=w.os:=by rw[<- hW];rfl
   have aa:W.tape=w.tape:=by rw[<- hW];rfl
   have af:W.output=w.output:=by rw[<- hW];rfl
   have ah:w.drawn<=W.drawn:=by rw[<- hW];exact Nat.le_add_right _ _
   have T:Qm fr J w J W:=
    ⟨λ_ q=>q,λc k=>g1 c (s.roLt c k) (λq=>X (q▸k)),λc k=>g1 c (s.frLt c k) (λq=>R (q▸k)),Y,u,ac,aa,af,ah⟩
   have B:U.length=1:=s.len;have V:Sim fr J U [.row t 1 (l'.map λx=>[A.int .i64 x])] W:=by
    have Q:∀{i:Nat} {x:Blk},([.row t 1 (l'.map λx=>[A.int .i64 x])]:Qc)[i]?=some x->i=0/\x=.row t 1 (l'.map λx=>[A.int .i64 x]):=by
     intro i x h;cases i with
     |zero=>simp at h;exact⟨rfl,h.symm⟩
     |succ i=>simp at h
    refine⟨B,s.roOk.to (λ_ q=>q) T.keepRo (λc k=>X9 (s.roLt c k) Y),λc k=>X9 (s.frLt c k) Y,s.roFr,λi c x G F h3=>?_,λi j c x y G F h3 h4 _ _=>?_,λi y x G F=>?_,λi b x c G F h3=>by obtain⟨rfl,rfl⟩:=Q F;exact h3.elim⟩
    .obtain⟨rfl,rfl⟩:=Q F;obtain⟨p1,p2⟩:=s.own 0 c _ G rfl rfl;exact⟨X9 p1 Y,p2⟩
    .rw[(Q h3).1,(Q h4).1]
    .obtain⟨rfl,rfl⟩:=Q F;rw[q1]at G;cases G;exact⟨_,g2,Qgo l' d⟩
   exact⟨_,_,_,J,[],rfl,⟨rfl,rfl⟩,by simpa using V,⟨[],rfl,rfl⟩,T⟩
def QaO(p:Int):List Int->List Int
 |[]=>[]
 |y::l=>bif y==p then QaO p l else y::QaO y l
def QjQ:List Int->List Int
 |[]=>[]
 |x::l=>x::QaO x l
section
variable {P:Program} {o:Oper} {env:Env} {H:Qc} {α:Type} {e:α->List A} {T et k b t:Nat} {x y:Operand}
theorem Jr{lo hi:Option Operand}{l r:List α}{a c:Int}(h:slc l a c=some r)(E1:∀w,(underlying T).run P w=.ok (.slice et) w)(E2:∀w,(sizeOf et).run P w=.ok k w)
  (d:lo=none/\a=0\/ ∃y,lo=some y/\opA env y=.int .i64 a)(e:hi=none/\c=l.length\/ ∃y,hi=some y/\opA env y=.int .i64 c)
  (f:o.op=.slice T x lo hi none:=by exact rfl)(hx:opA env x=.osl b 0 l.length k:=by exact rfl):OpV P o env H (.osl b (0+a.toNat) (c.toNat-a.toNat) k):=by
 obtain⟨i,g,j,_⟩:=Qfc h;refine Qgs E1 E2 f hx ?_ ?_ (by omega) (by omega)
 .grind
 grind
theorem Qis{l r:List α}{a c:Int}(h:slc l a c=some r)(hH:H[b]?=some (.row t k (l.map e)):=by exact rfl):Src P H (.osl b (0+a.toNat) (c.toNat-a.toNat) k) k (r.map e):=by
 obtain⟨f,i,g,d⟩:=Qfc h;refine Src.osl hH ?_ (by grind);rw[<- d, <- List.map_drop, <- List.map_take,Xu,List.drop_take]
theorem Qj7{c:Call}{T' et et' i:Nat}{x y:Operand}{ya:A}{l l' m r:List α}{z:Int}(hl:slc l 0 z=some l')(h:app l' m=some r)(E:Q0 P T et k)(f:∀w,(underlying T').run P w=.ok (.slice et') w)(g:Src P H ya k (m.map e))
  (d:o.op=.call c:=by exact rfl)(hc:c={callee:=.builtin .append,args:= #[x,y],argTypes:= #[T,T']}:=by exact rfl)(hx:opA env x=.osl i (0+Int.toNat 0) (z.toNat-Int.toNat 0) k:=by exact rfl)
  (hH:H[i]?=some (.row et k (l.map e)):=by exact rfl)(hy:opA env y=ya:=by exact rfl):
  OpH P o env H (.osl H.length 0 r.length k) (H.set i .dead++[.row et k (r.map e)]):=by
 obtain⟨j,rfl⟩:=Qiq h;obtain⟨s,p,a,q⟩:=slc0 hl;have:=QeE (n:=z.toNat) (gs:=(l'++m).map e) E f d hc hx hH (by grind) hy g (by grind) (by rw[<- List.map_take,a,Xg])
 grind
end
end Go.Sw
namespace Go.Sw
inductive Bx where
 |mk (a:A)
def lkB:Env->Nat->Bx
 |[],_=>.mk .any
 |(d,a)::r,s=>bif Nat.beq s d then .mk a else lkB r s
theorem QkB:∀{env:Env} {s:Nat} {a:A},lkB env s=.mk a->lk env s=a
 |[],s,a,h=>by cases h;rfl
 |(d,b)::r,s,a,h=>by
  unfold lkB at h;unfold lk;cases q:Nat.beq s d with
  |true=>grind
  |false=>rw[q]at h;exact QkB h
inductive FBy where
 |mk (l:List UInt8)
def fby:List UInt8->FBy
 |[]=>.mk []
 |a::r=>match fby r with
  |.mk r'=>.mk (a::r')
theorem Qoq:∀l,fby l=.mk l
 |[]=>rfl
 |a::r=>by unfold fby;rw[Qoq r]
def opB(env:Env):Operand->Bx
 |.tmp t=>lkB env t
 |.const (.bool b)=>.mk (.bool b)
 |.const (.int k n)=>.mk (.int k n)
 |.const (.string s)=>match fby s.data.toList with
  |.mk l=>.mk (.str l)
 |.const (.pointer none)=>.mk .nilp
 |.const (.slice none 0 0)=>.mk .nils
 |.const (.map none)=>.mk .nilm
 |.const .nilFunc=>.mk .nilf
 |.const .nilIface=>.mk .nilif
 |.func f=>.mk (.fn (.func f) [] [])
 |_=>.mk .any
theorem QP{env:Env}{x:Operand}{a:A}(h:opB env x=.mk a):opA env x=a:=by
 cases x with
 |tmp t=>exact QkB h
 |const v=>
  cases v with
  |slice b n k=>cases b with
   |none=>cases n with
    |zero=>cases k<;>(cases h;rfl)
    |succ n=>cases h;rfl
   |some b=>cases h;rfl
  |pointer p=>cases p<;>(cases h;rfl)
  |map p=>cases p<;>(cases h;rfl)
  |string s=>
   have d:(match fby s.data.toList with|.mk l=>Bx.mk (.str l))=.mk a:=h;rw[Qoq]at d;cases d;rfl
  |_=>cases h;rfl
 |global g=>cases h;rfl
 |func f=>cases h;rfl
def Y8{α:Type}:List α->Nat->Option α
 |[],_=>none
 |a::_,0=>some a
 |_::r,n+1=>Y8 r n
theorem QaB{α:Type}:∀(l:List α) (n:Nat),Y8 l n=l[n]?
 |[],n=>by simp[Y8]
 |a::r,0=>rfl
 |a::r,n+1=>by simp[Y8,QaB r n]
def arB:BinOp->IntKind->Int->Int->Option A
 |.add,k,m,n=>some (.int k (k.wrap (m+n)))
 |.sub,k,m,n=>some (.int k (k.wrap (m-n)))
 |.mul,k,m,n=>some (.int k (k.wrap (m*n)))
 |.eql,_,m,n=>some (.bool (m==n))
 |.neq,_,m,n=>some (.bool (m != n))
 |.lss,_,m,n=>some (.bool (decide (m<n)))
 |.leq,_,m,n=>some (.bool (decide (m<=n)))
 |.gtr,_,m,n=>some (.bool (decide (n<m)))
 |.geq,_,m,n=>some (.bool (decide (n<=m)))
 |_,_,_,_=>none
def srB:BinOp->List UInt8->List UInt8->Option A
 |.eql,p,q=>some (.bool (p==q))
 |.neq,p,q=>some (.bool (p != q))
 |.lss,p,q=>some (.bool (Op.bytesLess p q))
 |_,_,_=>none
def biB(b:BinOp):Bx->Bx->Option A
 |.mk (.int k m),.mk (.int k' n)=>if k=k' then arB b k m n else none
 |.mk (.str p),.mk (.str q)=>srB b p q
 |_,_=>none
def unB:UnOp->Bx->Option A
 |.not,.mk (.bool b)=>some (.bool !b)
 |.neg,.mk (.int k n)=>some (.int k (k.wrap (0-n)))
 |_,_=>none
def exB:Bx->Nat->Option A
 |.mk (.tup vs),i=>Y8 vs i
 |_,_=>none
def nlB:Bx->Option A
 |.mk (.ptr i j)=>some (.ptr i j)
 |.mk (.rp cs)=>some (.rp cs)
 |_=>none
def piB:Bx->Bx->Bx->Option A
 |.mk (.bool true),.mk a,_=>some a
 |.mk (.bool false),_,.mk a=>some a
 |_,_,_=>none
def svB(env:Env):Op->Option A
 |.move x=>match opB env x with|.mk a=>some a
 |.assign x=>match opB env x with|.mk a=>some a
 |.nilCheck x=>nlB (opB env x)
 |.extract x i=>exB (opB env x) i
 |.unOp u _ x=>unB u (opB env x)
 |.pick c x y=>piB (opB env c) (opB env x) (opB env y)
 |.binOp b _ x y _=>biB b (opB env x) (opB env y)
 |_=>none
def pr(d:Nat):Option A->Option (Nat×A)
 |some a=>some (d,a)
 |none=>none
def stB(o:Oper)(env:Env):Option (Nat×A):=
 match o.dst with
 |some d=>pr d (svB env o.op)
 |none=>none
variable {T f h t:Nat}{b:Bool}{r:List A}
section
variable {P:Program} {h0 N:Nat} {all:Array Oper} {o:Oper} {l:List Oper} {env:Env} {H H':Qc} {Q:QR} {d:Nat} {x:A}
theorem QbS{p:Op}(g:o.op=p)(h:svB env p=some x):OpV P o env H x:=by
 unfold svB at h;split at h
 .rename_i y;cases q:opB env y with|mk a=>simp_all[OpV.move,QP]
 .rename_i y;cases q:opB env y with|mk a=>simp_all[OpV.assign,QP]
 .rename_i y;unfold nlB at h;split at h
  .rename_i i j q;cases h;exact YK g (QP q) rfl
  .rename_i s q;cases h;exact YK g (QP q) rfl
  .cases h
 .rename_i y i;unfold exB at h
  grind[QaB,OpV.extract,QP]
 .rename_i u t y;unfold unB at h
  grind[OpV.not,QP,OpV.neg]
 .rename_i c y z;unfold piB at h;split at h
  .rename_i a _ d f;cases h;exact OpV.pick g (QP d) (by rw[Vm rfl];exact QP f)
  .rename_i a d f;cases h;exact OpV.pick g (QP d) (by exact QP f)
  .cases h
 .rename_i b t y z u;unfold biB at h;split at h
  .rename_i k m w n d f;split at h
   .rename_i e;subst e;have l:=QP d;have r:=QP f;unfold arB at h
    grind[OpV.add,OpV.sub,OpV.mul,OpV.eql,OpV.neq,OpV.lss,OpV.leq,OpV.gtr,OpV.geq]
   .cases h
  .rename_i p q d f;have l:=QP d;have r:=QP f;unfold srB at h
   grind[Qd7,Qnk,Qnl]
  .cases h
 .cases h
theorem QhH(h:stB o env=some (d,x)):o.dst=some d/\OpV P o env H x:=by
 unfold stB at h;split at h
 .rename_i f q;cases e:svB env o.op with
  |none=>rw[e]at h;cases h
  |some a=>rw[e]at h;cases h;exact⟨q,QbS rfl e⟩
 .cases h
theorem S(e:stB o env=some (d,x))(k:WO P h0 N all l (up env d x) H Q)(hg:Qw all o env true:=by exact rfl)(hN:Nat.blt d N=true:=by exact rfl):WO P h0 N all (o::l) env H Q:=
 QM hg (QhH (P:=P) (H:=H) e).1 hN (QhH e).2 k
theorem Sg(hg:Qw all o env true)(e:stB o env=some (d,x))(k:WO P h0 N all l (up env d x) H Q)(a:Nat.blt d N=true:=by exact rfl):WO P h0 N all (o::l) env H Q:=
 QM hg (QhH (P:=P) (H:=H) e).1 a (QhH e).2 k
theorem K(hg:Qw all o env false)(e:o.dst=some d)(k:WO P h0 N all l (up env d (.tup [])) H Q)(a:Nat.blt d N=true:=by exact rfl):WO P h0 N all (o::l) env H Q:=
 WO.skip hg e a k
theorem KF{j s:Nat}{c y:Bool}(a:y= !c)(f:o.dst=some d)(k:WO P h0 N all l (up env d (.tup [])) H Q)(e:Nat.blt d N=true:=by exact rfl)(hg:o.guard=some (j,c):=by exact rfl)(hs:(all[j]?).bind (·.dst)=some s:=by exact rfl)(hl:lk env s=.bool y:=by exact rfl):WO P h0 N all (o::l) env H Q:=
 WO.skip (gF a hg hs hl) f e k
def p2B(v:Bool):Bx->Bx->Bx->Option (Bool×A)
 |.mk (.bool b),.mk a,.mk a'=>match v with|true=>some (b,a)|false=>some (b,a')
 |_,_,_=>none
def pr2(d:Nat):Option (Bool×A)->Option (Nat×Bool×A)
 |some a=>some (d,a)
 |none=>none
def pkB(v:Bool)(o:Oper)(env:Env):Option (Nat×Bool×A):=
 match o.dst,o.op with
 |some d,.pick c x y=>pr2 d (p2B v (opB env c) (opB env x) (opB env y))
 |_,_=>none
theorem QqE{v:Bool}{p q r:Bx}(h:p2B v p q r=some (b,x)):∃a a',p=.mk (.bool b)/\q=.mk a/\r=.mk a'/\(bif v then a else a')=x:=by
 obtain⟨p⟩:=p;obtain⟨q⟩:=q;obtain⟨r⟩:=r;cases p<;>first|(cases h)|skip
 cases v<;>cases h<;>exact(by simp)
theorem QnT{v:Bool}(h:pkB v o env=some (d,b,x))(g:b=v):o.dst=some d/\OpV P o env H x:=by
 unfold pkB at h;split at h
 .rename_i k c y z p f;cases e:p2B v (opB env c) (opB env y) (opB env z)with
  |none=>rw[e]at h;cases h
  |some s=>
   rw[e]at h;cases h;obtain⟨a,i,j,n,l,m⟩:=QqE e
   grind[OpV.pick,QP]
 .cases h
theorem Pk{v:Bool}(a:b=v)(e:pkB v o env=some (d,b,x))(k:WO P h0 N all l (up env d x) H Q)(hg:Qw all o env true:=by exact rfl)(hN:Nat.blt d N=true:=by exact rfl):WO P h0 N all (o::l) env H Q:=
 QM hg (QnT (P:=P) (H:=H) e a).1 hN (QnT e a).2 k
def fpB(o:Oper)(env:Env):Option (Nat×Nat×Nat×Nat×Nat):=
 match o.dst,o.op with
 |some d,.fieldAddr T x f=>match opB env x with
  |.mk (.ptr i p)=>some (d,T,f,i,p)
  |_=>none
 |_,_=>none
theorem Qh0{off n i p:Nat}(a:QL P T f off n)(h:fpB o env=some (d,T,f,i,p)):o.dst=some d/\OpV P o env H (.ptr i (p+off)):=by
 grind[fpB,Yz,QP]
theorem Fp{off n i p:Nat}(a:QL P T f off n)(e:fpB o env=some (d,T,f,i,p))(k:WO P h0 N all l (up env d (.ptr i (p+off))) H Q)(hg:Qw all o env true:=by exact rfl)(hN:Nat.blt d N=true:=by exact rfl):WO P h0 N all (o::l) env H Q:=
 QM hg (Qh0 (H:=H) a e).1 hN (Qh0 a e).2 k
theorem Fpg{off n i p:Nat}(hg:Qw all o env true)(a:QL P T f off n)(e:fpB o env=some (d,T,f,i,p))(k:WO P h0 N all l (up env d (.ptr i (p+off))) H Q)(g:Nat.blt d N=true:=by exact rfl):WO P h0 N all (o::l) env H Q:=
 QM hg (Qh0 (H:=H) a e).1 g (Qh0 a e).2 k
inductive Lx where
 |mk (l:List A)
def Qgd:Nat->List A->Lx
 |0,l=>.mk l
 |n+1,_::r=>Qgd n r
 |_+1,[]=>.mk []
theorem Qdt:∀{n:Nat} {l r:List A},Qgd n l=.mk r->l.drop n=r
 |0,l,r,h=>by cases h;rfl
 |n+1,a::l,r,h=>by rw[List.drop_succ_cons];exact Qdt h
 |n+1,[],r,h=>by cases h;rfl
def frB(off:Nat)(o:Oper)(env:Env):Option (Nat×Nat×Nat×List A):=
 match o.dst,o.op with
 |some d,.fieldAddr T x f=>match opB env x with
  |.mk (.rp cs)=>match Qgd off cs with
   |.mk r=>some (d,T,f,r)
  |_=>none
 |_,_=>none
theorem QhZ{off n:Nat}(i:QL P T f off n)(h:frB off o env=some (d,T,f,r)):o.dst=some d/\OpV P o env H (.rp r):=by
 unfold frB at h;split at h
 .split at h
  .rename_i a g;cases e:Qgd off a with|mk r'=>rw[e]at h;grind[QA,QP,Qdt]
  .cases h
 .cases h
theorem Fr{off n:Nat}(a:QL P T f off n)(e:frB off o env=some (d,T,f,r))(k:WO P h0 N all l (up env d (.rp r)) H Q)(hg:Qw all o env true:=by exact rfl)(hN:Nat.blt d N=true:=by exact rfl):WO P h0 N all (o::l) env H Q:=
 QM hg (QhZ (H:=H) a e).1 hN (QhZ a e).2 k
theorem Frg{off n:Nat}(hg:Qw all o env true)(a:QL P T f off n)(e:frB off o env=some (d,T,f,r))(k:WO P h0 N all l (up env d (.rp r)) H Q)(g:Nat.blt d N=true:=by exact rfl):WO P h0 N all (o::l) env H Q:=
 QM hg (QhZ (H:=H) a e).1 g (QhZ a e).2 k
def ctB:Option Blk->Nat->Option A
 |some (.cells _ cs),off=>Y8 cs off
 |_,_=>none
def lvB(H:Qc):Bx->Option A
 |.mk (.ptr i off)=>ctB (Y8 H i) off
 |.mk (.rp (a::_))=>some a
 |_=>none
def pr3(d t:Nat):Option A->Option (Nat×Nat×A)
 |some a=>some (d,t,a)
 |none=>none
def ldB(o:Oper)(env:Env)(H:Qc):Option (Nat×Nat×A):=
 match o.dst,o.op with
 |some d,.load t x=>pr3 d t (lvB H (opB env x))
 |_,_=>none
theorem QhV(l:∀w,(isAgg t).run P w=.ok false w)(h:ldB o env H=some (d,t,x)):o.dst=some d/\OpV P o env H x:=by
 unfold ldB at h;split at h
 .rename_i s u y p k;cases e:lvB H (opB env y)with
  |none=>rw[e]at h;cases h
  |some a=>
   rw[e]at h;cases h;refine⟨p,?_⟩;unfold lvB at e;split at e
   .rename_i i f j;unfold ctB at e;split at e
    .rename_i f q T0 T cs q4;rw[QaB]at e q4;obtain⟨g,m⟩:∃g,cs.drop f=x::g:=by
      have n:=(XI.1 e).1
      simp_all[Xp]
     exact OpV.load k l (QP j) (Pts.cells q4 m)
    .cases e
   .rename_i a r j;cases e;exact OpV.load k l (QP j) Pts.rp
   .cases e
 .cases h
theorem Ld(a:∀w,(isAgg t).run P w=.ok false w)(e:ldB o env H=some (d,t,x))(k:WO P h0 N all l (up env d x) H Q)(hg:Qw all o env true:=by exact rfl)(hN:Nat.blt d N=true:=by exact rfl):WO P h0 N all (o::l) env H Q:=
 QM hg (QhV a e).1 hN (QhV a e).2 k
theorem Ldg(hg:Qw all o env true)(a:∀w,(isAgg t).run P w=.ok false w)(e:ldB o env H=some (d,t,x))(k:WO P h0 N all l (up env d x) H Q)(f:Nat.blt d N=true:=by exact rfl):WO P h0 N all (o::l) env H Q:=
 QM hg (QhV a e).1 f (QhV a e).2 k
def ixB(o:Oper)(env:Env):Option (Nat×Nat×Nat×List (List A)×IntKind×Int):=
 match o.dst,o.op with
 |some d,.indexAddr t x y=>match opB env x,opB env y with
  |.mk (.rsl k es),.mk (.int kk i)=>some (d,t,k,es,kk,i)
  |_,_=>none
 |_,_=>none
theorem Ix{α:Type}{e:α->List A}{a k:Nat}{L:List α}{g:IntKind}{i:Int}{v:α}(h:idx L i=some v)(p:∀w,(underlying t).run P w=.ok (.slice a) w)(r:∀w,(sizeOf a).run P w=.ok k w)
  (q:ixB o env=some (d,t,k,L.map e,g,i))(k:WO P h0 N all l (up env d (.rp (e v))) H Q)(hg:Qw all o env true:=by exact rfl)(hN:Nat.blt d N=true:=by exact rfl):WO P h0 N all (o::l) env H Q:=by
 unfold ixB at q;split at q
 .rename_i s f;split at q
  .rename_i m j;simp[Option.some.injEq,Prod.mk.injEq]at q;obtain⟨rfl,rfl,rfl,n,rfl,rfl⟩:=q;exact QM hg s hN (Qcs h p r f (by rw[QP m,n]) (QP j)) k
  .cases q
 .cases q
def lnB(o:Oper)(env:Env):Option (Nat×Nat×Bx):=
 match o.dst,o.op with
 |some d,.call c=>match c with
  |{callee:=.builtin .len,args:=⟨[x]⟩,argTypes:=⟨[t]⟩}=>some (d,t,opB env x)
  |_=>none
 |_,_=>none
theorem QqK{b:Bx}(q:lnB o env=some (d,t,b)):∃x,o.dst=some d/\o.op=.call {callee:=.builtin .len,args:= #[x],argTypes:= #[t]}/\opB env x=b:=by
 unfold lnB at q
 grind
theorem LnM{α:Type}{e:α->List A}{k:Nat}{L:List α}(g:∀w,(underlying t).run P w=.ok (.slice h) w)(q:lnB o env=some (d,t,.mk (.rsl k (L.map e))))
  (k:WO P h0 N all l (up env d (.int .i64 L.length)) H Q)(hg:Qw all o env true:=by exact rfl)(hN:Nat.blt d N=true:=by exact rfl):WO P h0 N all (o::l) env H Q:=by
 obtain⟨x,i,f,a⟩:=QqK q;exact QM hg i hN (Qo7 g f rfl (QP a)) k
end
section
variable {P:Program} {h0 N:Nat} {all:Array Oper} {env env':Env} {H H':Qc} {Q:QR} {c c':Code}
theorem Oi{α:Type}{x y:α}(h:some x=some y):x=y:=XV h
theorem Bd{α β:Type}{x:Option α}{f:α->Option β}{r:β}{G:Prop}(h:x.bind f=some r)(k:∀a,x=some a->f a=some r->G):G:=by
 obtain⟨a,d,e⟩:=YM h
 grind
theorem If{α:Type}{c:Bool}{x y:Option α}{r:α}{G:Prop}(h:(bif c then x else y)=some r)(t:c=true->x=some r->G)(e:c=false->y=some r->G):G:=by
 grind
theorem Cn{α:Type}{x:Operand}{t:Bool}{p q:Option α}{r:α}(hx:opB env x=.mk (.bool t))(h:(bif t then p else q)=some r)(ht:t=true->p=some r->TC P h0 N c env H Q)(hf:t=false->q=some r->TC P h0 N c' env H Q):TC P h0 N (.cond x c c') env H Q:=
 TC.cond (QP hx) (by grind) (by grind)
theorem Q8{α:Type}{x:Operand}{t:Bool}{p q:Option α}{r:α}(hx:opB env x=.mk (.bool t))(h:(bif t then p else q)=some r)(hf:t=false->q=some r->TC P h0 N c' env H Q)(ht:t=true->p=some r->TC P h0 N c env H Q):TC P h0 N (.cond x c c') env H Q:=
 TC.cond (QP hx) (by grind) (by grind)
theorem CnF{x:Operand}{t:Bool}(h:t=false)(hx:opB env x=.mk (.bool t))(hf:TC P h0 N c' env H Q):TC P h0 N (.cond x c c') env H Q:=Qgj (QP hx) h hf
theorem Lr(π:List Nat)(a:π.take h0=List.range h0:=by exact rfl)(hH:π.map (λp=>H[p]?)=(H'.map (Q5 (rho π H.length))).map some:=by exact rfl)(hπ:π.Nodup:=by decide)
  (hE:QbM (rho π H.length) env env':=by(repeat' (first|exact trivial|refine⟨rfl,?_⟩))):Le h0 env H env' H':=Qpd π a hH hπ hE
end
variable {α:Type}
def Ev(f:Nat->Option α)(v:α):Prop:=∃N,∀n,N<=n->f n=some v
variable {k:Nat}
section
variable {α β:Type} {f g:Nat->Option α} {v w:α}
theorem Qa(v:α):Ev (λ_=>some v) v:=⟨0,λ_ _=>rfl⟩
theorem Ev.const{o:Option α}(h:o=some v):Ev (λ_=>o) v:=⟨0,λ_ _=>h⟩
theorem Ev.bind{k:Nat->α->Option β}{b:β}(h:Ev f v)(a:Ev (λn=>k n v) b):Ev (λn=>(f n).bind (k n)) b:=by
 obtain⟨N,h⟩:=h;obtain⟨M,a⟩:=a;exact⟨max N M,λn d=>by grind⟩
theorem J1{o:Option α}{k:Nat->α->Option β}{b:β}(h:o=some v)(hk:Ev (λn=>k n v) b):Ev (λn=>o.bind (k n)) b:=Ev.bind (Ev.const h) hk
theorem QbG{c:Bool}(d:c=true->Ev f v)(a:c=false->Ev g w):Ev (λn=>bif c then f n else g n) (bif c then v else w):=by
 cases c with
 |true=>exact d rfl
 |false=>exact a rfl
theorem Qkd(h:Ev f v):Ev (λn=>bif true then f n else g n) v:=h
theorem Yw(h:Ev g v):Ev (λn=>bif false then f n else g n) v:=h
theorem Ev.and{c d:Bool}{h:Nat->Option Bool}(a:c=true->Ev h d):Ev (λn=>bif c then h n else some false) (c&&d):=by
 cases c with
 |true=>exact a rfl
 |false=>exact Qa _
theorem Ev.or{c d:Bool}{h:Nat->Option Bool}(a:c=false->Ev h d):Ev (λn=>bif c then some true else h n) (c||d):=by
 cases c with
 |true=>exact Qa _
 |false=>exact a rfl
theorem Ev.eq(h:Ev f v)(e:v=w):Ev f w:=e▸h
theorem Qcc(h:Ev f v)(e:∀n,g n=f n):Ev g v:=by
 obtain⟨N,h⟩:=h;exact⟨N,λn a=>by grind⟩
theorem QY(h:Ev (λn=>f (n+1)) v):Ev f v:=by
 obtain⟨N,h⟩:=h;refine⟨N+1,λn a=>?_⟩;obtain⟨m,rfl⟩:∃m,n=m+1:=⟨n-1,by omega⟩
 grind
theorem Ev.ex(h:Ev f v):∃n,f n=some v:=let⟨N,h⟩:=h;⟨N,h N (XQ _)⟩
theorem Ev.all{F:Nat->Nat->Option α}{V:Nat->α}(h:∀i,i<k->Ev (F i) (V i)):∃N,∀n,N<=n->∀i,i<k->F i n=some (V i):=by
 induction k with
 |zero=>simp
 |succ k a=>
  obtain⟨N,g⟩:=a (by grind);obtain⟨M,f⟩:=h k (by omega);refine⟨max N M,λn d i e=>?_⟩
  grind
end
variable {β:Type}
section
variable {S B α:Type} {step:Nat->S->Option (Ctl S B)}
theorem Ev.iter{d:S}(a:Nat->S)(k:Nat){b:B}(h0:a 0=d)(f:∀i,i<k->Ev (λn=>step n (a i)) (.cont (a (i+1))))(g:Ev (λn=>step n (a k)) (.done b)):
  Ev (λn=>Go.Sw.iter (step n) n d) b:=by
 obtain⟨N,h⟩:=Ev.all f;obtain⟨M,e⟩:=g;exact⟨max (max N M) (k+1),λn j=>Qoc d a b k h0 (by grind) (e n (by omega)) n (by omega)⟩
theorem Qcv{step:S->Option (Ctl S B)}{s:S}{b:B}(m:Nat)(h:Go.Sw.iter step m s=some b):Ev (λn=>Go.Sw.iter step n s) b:=by
 have mono:∀m s,Go.Sw.iter step m s=some b->∀n,m<=n->Go.Sw.iter step n s=some b:=by
  intro m
  induction m with
  |zero=>intro s h;cases h
  |succ m d=>
   intro s h n e;obtain⟨a,rfl⟩:∃a,n=a+1:=⟨n-1,by omega⟩
   grind[Go.Sw.iter]
 exact⟨m,(by grind)⟩
structure At (l:List α) (i:Nat) (x:α):Prop where
 get:l[i]?=some x
 lt:decide ((i:Int)<(l.length:Int))=true
 ix:idx l (i:Int)=some x
 nx:IntKind.i64.wrap ((i:Int)+1)=((i+1:Nat):Int)
theorem Ju{l:List α}{i:Nat}{x:α}(hl:l.length<=4611686018427387904)(h:l[i]?=some x):At l i x:=by
 have a:=(XI.1 h).1;exact⟨h,(by grind),YL h,YG (by omega)⟩
theorem At.mem{l:List α}{i:Nat}{x:α}(h:At l i x):x∈l:=VB h.get
theorem At.lt'{l:List α}{i:Nat}{x:α}(h:At l i x):i<l.length:=(XI.1 h.get).1
theorem At.take{l:List α}{i:Nat}{x:α}(h:At l i x):l.take (i+1)=l.take i++[x]:=by
 rw[List.take_add_one,h.get];rfl
theorem Qgc(l:List α):decide ((l.length:Int)<(l.length:Int))=false:=(by simp)
theorem Jn{g:S}(l:List α)(q:α->Bool)(a:Nat->S)(m b:B)(hl:l.length<=4611686018427387904)(h0:a 0=g)
  (u:∀i x,At l i x->q x=false->Ev (λn=>step n (a i)) (.cont (a (i+1))))
  (d:∀i x,At l i x->q x=true->Ev (λn=>step n (a i)) (.done m))
  (r:Ev (λn=>step n (a l.length)) (.done b)):Ev (λn=>Go.Sw.iter (step n) n g) (bif l.any q then m else b):=by
 have f:∀k,k<=l.length->(∀i x,l[i]?=some x->i<k->q x=false)\/ ∃i x,l[i]?=some x/\i<k/\q x=true/\ ∀j y,l[j]?=some y->j<i->q y=false:=by
  intro k
  induction k with
  |zero=>simp
  |succ k E=>
   grind
 rcases f l.length (XQ _)with h|⟨i,x,s,F,t,z⟩
 .have:l.any q=false:=by
   rw[VG];intro e;obtain⟨x,d,e⟩:=Xt.1 e;obtain⟨i,p,rfl⟩:=List.getElem_of_mem d
   grind
  rw[this];exact Ev.iter a l.length h0 (λi p=>u i _ (Ju hl (XH p)) (by grind)) r
 .have:l.any q=true:=(by grind);rw[this];refine Ev.iter a i h0 (λj w=>?_) (d i x (Ju hl s) t)
  grind[Ju]
theorem QS{j:S}(l:List α)(g:β->α->β)(d:β)(f:β->Nat->S)(e:β->B)(hl:l.length<=4611686018427387904)(h0:f d 0=j)
  (m:∀i x a,At l i x->a=(l.take i).foldl g d->Ev (λn=>step n (f a i)) (.cont (f (g a x) (i+1))))
  (p:Ev (λn=>step n (f (l.foldl g d) l.length)) (.done (e (l.foldl g d)))):Ev (λn=>Go.Sw.iter (step n) n j) (e (l.foldl g d)):=by
 refine Ev.iter (λi=>f ((l.take i).foldl g d) i) l.length (by grind) (λi k=>?_) (by grind);have h:=Ju hl (XH k);have:=m i _ _ h rfl;rw[h.take,List.foldl_append];exact this
theorem Ev.contains(l:List α)(q:α->Bool)(g:Nat->α->Option Bool)(hl:l.length<=4611686018427387904)(hg:∀x∈l,Ev (λn=>g n x) (q x)):
  Ev (λn=>(((Go.Sw.iter (λs:Int=>bif decide (s<(l.length:Int))then(idx l s).bind λx=>(g n x).bind λr=>(bif r then some (Ctl.done (Ctl.done s))else some (Ctl.cont (IntKind.i64.wrap (s+1))))else some (Ctl.done (Ctl.cont ()))) n (0:Int):Option (Ctl Unit Int)).bind λb=>
   match b with
   |.cont _=>some (-1)
   |.done s=>some s):Option Int).bind λr=>some (decide (0<=r))) (l.any q):=by
 cases e:l.any q with
 |false=>
  refine Ev.bind (v:=(-1:Int)) (Ev.bind (v:=Ctl.cont ()) (Ev.iter (λi=>(i:Int)) l.length rfl (λi w=>?_) ?_) (Qa _)) (Qa _)
  .have a:=Ju (x:=l[i]) hl (XH w);simp only[a.lt,Vi,a.ix,XG];have z:q l[i]=false:=by
    grind
   refine Ev.bind ((hg _ a.mem).eq z) ?_;simp only[Vj,a.nx];exact Qa _
  simp_all[Qa]
 |true=>
  obtain⟨x,u,h⟩:=Xt.1 e;have d:∀k,k<=l.length->(∀(i:Nat) (x:α),l[i]?=some x->i<k->q x=false)\/ ∃(i:Nat) (x:α),l[i]?=some x/\i<k/\q x=true/\ ∀(j:Nat) (y:α),l[j]?=some y->j<i->q y=false:=by
   intro k
   induction k with
   |zero=>simp
   |succ k E=>
    grind
  rcases d l.length (XQ _)with B|⟨i,x,p,F,t,m⟩
  .obtain⟨j,f,rfl⟩:=List.getElem_of_mem u
   grind
  .refine Ev.bind (v:=(i:Int)) (Ev.bind (v:=Ctl.done (i:Int)) (Ev.iter (λi=>(i:Int)) i rfl (λj f=>?_) ?_) (Qa _)) ?_
   .have a:=Ju (x:=l[j]) hl (XH (by omega));simp only[a.lt,Vi,a.ix,XG];refine Ev.bind ((hg _ a.mem).eq (m j _ a.get f)) ?_;simp only[Vj,a.nx];exact Qa _
   .have a:=Ju hl p;simp only[a.lt,Vi,a.ix,XG];refine Ev.bind ((hg _ a.mem).eq t) ?_;exact Qa _
   simp_all[Qa]
end
section
variable {S B α:Type} {step:Nat->S->Option (Ctl S B)}
theorem QiB{f:S}(a:Nat->S)(k:Nat)(R:Nat->B)(h0:a 0=f)(s:∀i,i<k->(Ev (λn=>step n (a i)) (.cont (a (i+1)))/\R i=R (i+1))\/Ev (λn=>step n (a i)) (.done (R i)))
  (l:Ev (λn=>step n (a k)) (.done (R k))):Ev (λn=>Go.Sw.iter (step n) n f) (R 0):=by
 have e:∀m,m<=k->(∀i,i<m->Ev (λn=>step n (a i)) (.cont (a (i+1)))/\R i=R (i+1))\/ ∃j,j<m/\(∀i,i<j->Ev (λn=>step n (a i)) (.cont (a (i+1)))/\R i=R (i+1))/\Ev (λn=>step n (a j)) (.done (R j)):=by
  intro m
  induction m with
  |zero=>simp
  |succ m g=>
   grind
 have same:∀m,(∀i,i<m->R i=R (i+1))->R 0=R m:=by
  intro m
  induction m with
  |zero=>intro _;rfl
  |succ m g=>grind
 rcases e k (XQ _)with h|⟨j,r,q,p⟩
 .rw[same k λi d=>(h i d).2];exact Ev.iter a k h0 (by grind) l
 .rw[same j λi d=>(q i d).2];exact Ev.iter a j h0 (by grind) p
theorem At.drop{l:List α}{i:Nat}{x:α}(h:At l i x):l.drop i=x::l.drop (i+1):=by
 have:=h.lt';rw[Xp this,(XI.1 h.get).2]
theorem QbE{s0:S}(l:List α)(st:Nat->S)(R:Nat->B)(hl:l.length<=4611686018427387904)(h0:st 0=s0)
  (hc:∀i x,At l i x->(Ev (λn=>step n (st i)) (.cont (st (i+1)))/\R i=R (i+1))\/Ev (λn=>step n (st i)) (.done (R i)))
  (hd:Ev (λn=>step n (st l.length)) (.done (R l.length))):Ev (λn=>Go.Sw.iter (step n) n s0) (R 0):=
 QiB st l.length R h0 (λi hi=>hc i _ (Ju hl (XH hi))) hd
end
variable {γ:Type}
section
variable {α β:Type} [DecidableEq α]
theorem QaG(p:α×β)(l:List (α×β))(k:α):YQ (p::l) k=if p.1=k then some p.2 else YQ l k:=by
 grind[YQ]
theorem QmB(p:α×β)(l:List (α×β))(k:α)(v:β):QQ (p::l) k v=if p.1=k then(p.1,v)::l.map (λq=>bif decide (q.1=k)then(q.1,v)else q)else p::QQ l k v:=by
 unfold QQ
 grind
theorem Qn4(l:List (α×β))(k a:α)(v:β)(h:a≠k):YQ (l.map λq=>bif decide (q.1=k)then(q.1,v)else q) a=YQ l a:=by
 induction l with
 |nil=>rfl
 |cons p l d=>
  grind[QaG]
theorem Jb(l:List (α×β))(k a:α)(v:β):YQ (QQ l k v) a=if a=k then some v else YQ l a:=by
 induction l with
 |nil=>
  show YQ ([]++[(k,v)]) a=_;rw[Vb,QaG]
  grind
 |cons p l d=>
  rw[QmB];by_cases e:p.1=k
  .rw[Vm e,QaG,QaG];by_cases h:a=k
   .grind
   .have:p.1≠a:=(by grind)
    simp_all[Qn4]
  .rw[Vl e,QaG,QaG,d]
   grind
theorem QmC(k:α)(z:β):Q2 ([]:List (α×β)) k z=z:=rfl
theorem Qfv(l:List (α×β))(k a:α)(v z:β):Q2 (QQ l k v) a z=if a=k then v else Q2 l a z:=by
 grind[Q2,Jb]
theorem QdT(l:List (α×β))(k:α)(v:β):(QQ l k v).map (·.1)=if k∈l.map (·.1)then l.map (·.1)else l.map (·.1)++[k]:=by
 unfold QQ;have e:(l.any λp=>decide (p.1=k))=decide (k∈l.map (·.1)):=by
  grind
 rw[e];by_cases h:k∈l.map (·.1)
 .rw[Vn h,Vm h,Vi,List.map_map];apply List.map_congr_left
  grind
 grind
def Yu(key:γ->α)(v:β)(l:List γ):List (α×β):=l.foldl (λm x=>QQ m (key x) v) []
theorem QhS(a:γ->α)(v:β)(l:List γ)(x:γ):Yu a v (l++[x])=QQ (Yu a v l) (a x) v:=by
 unfold Yu;simp
theorem Qek(a:γ->α)(v z:β)(l:List γ)(k:α):Q2 (Yu a v l) k z=if k∈l.map a then v else z:=by
 have d:∀(l:List γ) (m:List (α×β)),Q2 (l.foldl (λm x=>QQ m (a x) v) m) k z=if k∈l.map a then v else Q2 m k z:=by
  intro l
  induction l with
  |nil=>simp
  |cons x l e=>
   intro m;rw[XB,e,Qfv]
   grind
 exact d l []
theorem Qcz(a:γ->α)(v:β)(l:List γ):(Yu a v l).length<=l.length/\((Yu a v l).length=l.length↔(l.map a).Nodup):=by
 have f:∀(l:List γ) (m:List (α×β)),(m.map (·.1)).Nodup->(l.foldl (λm x=>QQ m (a x) v) m).length<=m.length+l.length/\((l.foldl (λm x=>QQ m (a x) v) m).length=m.length+l.length↔(m.map (·.1)++l.map a).Nodup):=by
  intro l
  induction l with
  |nil=>simp
  |cons x l j=>
   intro m g;have e:=QdT m (a x) v;have d:(QQ m (a x) v).length=((QQ m (a x) v).map (·.1)).length:=by simp
   by_cases h:a x∈m.map (·.1)
   .grind
   .rw[Vl h]at e;have i:((QQ m (a x) v).map (·.1)).Nodup:=by
     grind
    grind
 grind[Yu]
end
theorem JA(l:List α)(p:α->Bool)(g:Nat->α->Option Bool)(hl:l.length<=4611686018427387904)(hg:∀x∈l,Ev (λn=>g n x) (p x)):
  Ev (λn=>(((Go.Sw.iter (λs:Int=>bif decide (s<l.length)then(idx l s).bind λx=>((g n x).bind λr1=>some (!r1)).bind λr=>(bif r then some (Ctl.done (Ctl.done s))else some (Ctl.cont (IntKind.i64.wrap (s+1))))else some (Ctl.done (Ctl.cont ()))) n 0).bind λb=>
   match b with
   |.cont _=>some (-1)
   |.done s=>some s).bind λr=>some (decide (0<=r))).bind λr=>some (!r)) (l.all p):=by
 refine Ev.bind (Ev.contains l (λx=> !p x) (λn x=>(g n x).bind λr1=>some (!r1)) hl λx a=>Ev.bind (hg x a) (Qa _)) ((Qa _).eq ?_)
 grind
def Qna{α κ:Type}[DecidableEq κ](ok:α->Bool)(key:α->κ):List κ->List α->Bool
 |_,[]=>true
 |seen,x::r=>ok x&& !seen.contains (key x)&&Qna ok key (seen++[key x]) r
theorem Ql8{α κ:Type}[DecidableEq κ](ok:α->Bool)(d:α->κ):∀(l:List α) (a:List κ),a.Nodup->Qna ok d a l=(l.all ok&&decide ((a++l.map d).Nodup))
 |[],a,h=>by simp[Qna,h]
 |x::r,a,h=>by
  simp[Qna,Vd];by_cases hk:d x∈a
  .grind
  .have hn:(a++[d x]).Nodup:=by
    grind
   rw[Ql8 ok d r _ hn]
   grind
variable {B:Type}
theorem Qph{κ:Type}[DecidableEq κ]{step:Nat->Int->Option (Ctl Int B)}(l:List α)(ok:α->Bool)(a:α->κ)(d b:B)(hl:l.length<=4611686018427387904)
  (j:∀i x,At l i x->ok x=true->((l.take i).map a).contains (a x)=false->Ev (λn=>step n (i:Int)) (.cont ((i+1:Nat):Int)))
  (h:∀i x,At l i x->ok x=false->Ev (λn=>step n (i:Int)) (.done d))
  (k:∀i x,At l i x->ok x=true->((l.take i).map a).contains (a x)=true->Ev (λn=>step n (i:Int)) (.done d))
  (g:Ev (λn=>step n (l.length:Int)) (.done b)):Ev (λn=>Go.Sw.iter (step n) n 0) (bif l.all ok&&decide ((l.map a).Nodup)then b else d):=by
 have e:=Ql8 ok a l [] (by simp);rw[Vb]at e;rw[<- e];refine QbE l (λi=>(i:Int)) (λi=>bif Qna ok a ((l.take i).map a) (l.drop i)then b else d) hl rfl (λi x f=>?_) ?_
 .rw[f.drop];simp only[Qna];rw[show(l.take i).map a++[a x]=(l.take (i+1)).map a by rw[f.take];simp]
  grind
 .rw[Xr];exact g
theorem Qke{κ:Type}[DecidableEq κ]{step:Nat->Int->Option (Ctl Int B)}(l:List α)(i:Nat)(a:α->κ)(k:κ)(f b:B)(hl:l.length<=4611686018427387904)(hi:i<=l.length)
  (t:∀j y,j<i->At l j y->decide (a y=k)=false->Ev (λn=>step n (j:Int)) (.cont ((j+1:Nat):Int)))
  (s:∀j y,j<i->At l j y->decide (a y=k)=true->Ev (λn=>step n (j:Int)) (.done f))
  (r:Ev (λn=>step n (i:Int)) (.done b)):Ev (λn=>Go.Sw.iter (step n) n 0) (bif ((l.take i).map a).contains k then f else b):=by
 have e:((l.take i).map a).contains k=(l.take i).any λy=>decide (a y=k):=by
  grind
 rw[e];have g:(l.take i).length=i:=by simp;omega
 have p:∀j y,At (l.take i) j y->j<i/\At l j y:=by
  intro j y d;have m:=d.lt';have h:=d.get
  grind[Ju]
 refine Jn (l.take i) (λy=>decide (a y=k)) (λi=>(i:Int)) _ _ (by omega) rfl (λj y d q=>?_) (λj y d q=>?_) ?_
 .grind
 .grind
 grind
theorem QbF{κ:Type}[DecidableEq κ]{step:Nat->List (κ×β)×Int->Option (Ctl (List (κ×β)×Int) (List (κ×β)))}(l:List α)(key:α->κ)(v:β)(hl:l.length<=4611686018427387904)
  (hc:∀i x m,At l i x->Ev (λn=>step n (m,(i:Int))) (.cont (QQ m (key x) v,((i+1:Nat):Int))))
  (hd:∀m,Ev (λn=>step n (m,(l.length:Int))) (.done m)):Ev (λn=>Go.Sw.iter (step n) n ([],0)) (Yu key v l):=
 QS l (λm x=>QQ m (key x) v) [] (λm i=>(m,(i:Int))) (λm=>m) hl rfl (by grind) (hd _)
theorem Ev.shift{α:Type}{f:Nat->Option α}{v:α}(h:Ev f v):Ev (λn=>f (n+1)) v:=by
 obtain⟨N,h⟩:=h;exact⟨N,(by grind)⟩
def EvI{S:Type}(step:Nat->S->Option (Ctl S B))(s:S)(b:B):Prop:=∃N,∀n k,N<=n->N<=k->Go.Sw.iter (step n) k s=some b
section
variable {S B:Type} {step:Nat->S->Option (Ctl S B)} {s s':S} {b:B}
theorem EvI.done(h:Ev (λn=>step n s) (.done b)):EvI step s b:=by
 obtain⟨N,h⟩:=h;refine⟨N+1,λn k d e=>?_⟩;obtain⟨a,rfl⟩:∃a,k=a+1:=⟨k-1,by omega⟩
 grind[Go.Sw.iter]
theorem EvI.cont(h:Ev (λn=>step n s) (.cont s'))(q:EvI step s' b):EvI step s b:=by
 obtain⟨N,h⟩:=h;obtain⟨M,q⟩:=q;refine⟨max N M+1,λn k d e=>?_⟩;obtain⟨a,rfl⟩:∃a,k=a+1:=⟨k-1,by omega⟩
 grind[Go.Sw.iter]
theorem EvI.ev(h:EvI step s b):Ev (λn=>Go.Sw.iter (step n) n s) b:=by
 obtain⟨N,h⟩:=h;exact⟨N,λn a=>h n n a a⟩
theorem EvI.eq{b':B}(h:EvI step s b)(e:b=b'):EvI step s b':=e▸h
end
variable {l:List α}
theorem QC{r:List α}{i:Nat}{x:α}(hl:l.length<=4611686018427387904)(h:l.drop i=x::r):At l i x/\l.drop (i+1)=r:=by
 have a:l[i]?=some x:=by
  have:=congrArg (λl=>l[0]?) h
  grind
 refine⟨Ju hl a,?_⟩;have:=(Ju hl a).drop
 grind
theorem Q9{i:Nat}(h:l.drop i=[])(hi:i<=l.length):decide ((i:Int)<(l.length:Int))=false:=by
 simp_all
theorem Z.{u}{α:Sort u}{a:α}:a=a:=rfl
section
variable {P:Program} {h0 N:Nat} {all:Array Oper} {env:Env} {H H':Qc} {Q:QR} {l:List Oper} {o:Oper} {d:Nat}
theorem aV(x:A)(H:Qc){x':A}{H':Qc}(a:x'=x)(hH:H'=H)(k:WO P h0 N all l (up env d x) H Q):WO P h0 N all l (up env d x') H' Q:=by subst a;subst hH;exact k
theorem vX(x:A)(a:OpV P o env H x)(k:WO P h0 N all l (up env d x) H Q)(hg:Qw all o env true:=by exact rfl)(hd:o.dst=some d:=by exact rfl)(hN:Nat.blt d N=true:=by exact rfl):WO P h0 N all (o::l) env H Q:=
 QM hg hd hN a k
theorem Wp:WO P h0 N all [] env H (Jc env H):=WO.nil Jc.mk
end
section
variable {P:Program} {o:Oper} {env:Env} {H:Qc}
theorem Qp7{ro:Nat->Prop}{U:Sig}{w:World}(g:GP w){b:Nat}{zs:List Int}(h:QkE[b]?=some zs):∀(i:Nat),CR ro U w b ((zs.drop i).map (A.int .i64)) i:=by
 intro i;generalize hl:zs.drop i=l
 induction l generalizing i with
 |nil=>trivial
 |cons z l d=>
  have e:zs[i]?=some z:=by
   have:=congrArg (·[0]?) hl
   grind
  have a:zs.drop (i+1)=l:=by
   rw[<- List.drop_drop,hl];rfl
  exact⟨⟨_,g.tab b zs h i z e,by simp[Qy],rfl⟩,d (i+1) a⟩
theorem Qht{n g:Nat}{zs:List Int}(f:∀w,(isAgg t).run P w=.ok true w)(i:∀w,(sizeOf t).run P w=.ok n w)(hg:QkE[g]?=some zs)(hl:zs.length=n)(k:o.op=.load t (.global g):=by exact rfl):
  OpV P o env H (.agg (zs.map (A.int .i64))):=by
 intro j ro U N a w r;obtain⟨l,d,_,e⟩:=Yt (P:=P) 0 (by simpa using Qp7 (ro:=ro) (U:=U) r.sim.roOk.gp hg 0);refine⟨.agg l.toArray,?_,l,rfl,d⟩;have h:a.eval (.global g)=.pointer (some ⟨g,0,none⟩):=rfl
 simp_all[execOp,Instr.loadAt,Instr.sureAddr,loadVar,loadCells]
end
open Go.Proofs
variable {cells:α->List A}
section
variable {P:Program}
def toV(agg:Bool)(l:List Value):Value:=bif agg then .agg l.toArray else l.headD .nilFunc
structure QiD (P:Program) (t:TypeId) (h k:Nat) (agg:Bool) (ok:List Value->Prop):Prop where
 len:∀l,ok l->l.length=k
 ia:∀w,(isAgg t).run P w=.ok agg w
 so:∀w,(sizeOf t).run P w=.ok k w
 eq:∀(w:World) (d:Nat) (l m:List Value),ok l->ok m->∃b:Bool,(Op.equalIn (d+h) t (toV agg l) (toV agg m)).run P w=.ok b w/\(b=true↔l=m)
structure Qlp (P:Program) (fs:List Field) (h off k:Nat) (ok:List Value->Prop):Prop where
 len:∀l,ok l->l.length=k
 eq:∀(w:World) (d:Nat) (p q l m:List Value),p.length=off->q.length=off->ok l->ok m->∃b:Bool,(Op.eqFields (d+h) (p++l).toArray (q++m).toArray fs).run P w=.ok b w/\(b=true↔l=m)
theorem QiD.int{t:TypeId}{k:IntKind}(f:P.underlying t=some (.int k))(a:∀w,(isAgg t).run P w=.ok false w)(e:∀w,(sizeOf t).run P w=.ok 1 w)(h:Nat):QiD P t (h+1) 1 false (λl=>∃n:Int,l=[.int k n]):=by
 refine⟨?_,a,e,?_⟩
 .simp
 .rintro w d _ _ ⟨n,rfl⟩ ⟨m,rfl⟩;exact⟨_,run_equalIn_int w (d+h) t k k n m f,by simp⟩
theorem QiD.bool{t:TypeId}(f:P.underlying t=some .bool)(a:∀w,(isAgg t).run P w=.ok false w)(e:∀w,(sizeOf t).run P w=.ok 1 w)(h:Nat):QiD P t (h+1) 1 false (λl=>∃n:Bool,l=[.bool n]):=by
 refine⟨?_,a,e,?_⟩
 .simp
 .rintro w d _ _ ⟨n,rfl⟩ ⟨m,rfl⟩;exact⟨_,run_equalIn_bool' w (d+h) t n m f,by simp⟩
theorem Qlp.nil(h off:Nat):Qlp P [] h off 0 (λl=>l=[]):=by
 refine⟨?_,?_⟩
 .simp
 simp_all[Op.eqFields]
theorem Qi3{t:TypeId}{agg:Bool}{w:World}(e:∀w,(isAgg t).run P w=.ok agg w)(g:∀w,(sizeOf t).run P w=.ok k w)(p a d:List Value)(hl:a.length=k)(f:agg=false->k=1):
  (part t (p++(a++d)).toArray p.length).run P w=.ok (toV agg a) w:=by
 unfold part;cases agg with
 |true=>
  simp_all[toV]
 |false=>
  have:=f rfl;subst this
  match a,hl with
  |[v],_=>simp[e,toV]
theorem Qlp.cons{f:Field}{fs:List Field}{off r E:Nat}{agg:Bool}{j i:List Value->Prop}(V:Nat.beq f.offset off=true)(O:f.name≠"_")(g:QiD P f.type h r agg j)(x:agg=false->r=1)(t:Qlp P fs h (off+r) E i):
  Qlp P (f::fs) h off (r+E) (λl=>∃l1 l2,l=l1++l2/\j l1/\i l2):=by
 have s:f.offset=off:=(by simp_all);refine⟨?_,?_⟩
 .rintro _ ⟨l1,l2,rfl,a,b⟩;rw[XY,g.len _ a,t.len _ b]
 .rintro w d p q _ _ F z ⟨l1,l2,rfl,k,T⟩ ⟨m,u,rfl,n,N⟩;have G:=Qi3 (w:=w) g.ia g.so p l1 l2 (g.len _ k) x;have y:=Qi3 (w:=w) g.ia g.so q m u (g.len _ n) x;rw[F]at G;rw[z]at y;obtain⟨B,M,Q⟩:=g.eq w d l1 m k n;obtain⟨J,H,R⟩:=t.eq w d (p++l1) (q++m) l2 u (by rw[XY,F,g.len _ k]) (by rw[XY,z,g.len _ n]) T N;rw[Vc,Vc]at H;have L:l1.length=m.length:=by rw[g.len _ k,g.len _ n]
  refine⟨B&&J,?_,?_⟩
  .cases B<;>simp[Op.eqFields,O,s,G,y,M,H]
  .rw[XT,Q,R];constructor
   .grind
   .intro e;exact List.append_inj e L
theorem QiD.struct{t:TypeId}{h k:Nat}{ok:List Value->Prop}(n:P.underlying t=some (.struct (P.fieldsOf t)))(p:P.stoodInHeld t=false)(f:∀w,(isAgg t).run P w=.ok true w)(g:∀w,(sizeOf t).run P w=.ok k w)(e:Qlp P (P.fieldsOf t).toList h 0 k ok):QiD P t (h+1) k true ok:=by
 refine⟨e.len,f,g,λw d l m a b=>?_⟩;obtain⟨r,j,i⟩:=e.eq w d [] [] l m rfl rfl a b;refine⟨r,?_,i⟩;show(Op.equalIn (d+h+1) t (.agg l.toArray) (.agg m.toArray)).run P w=_
 grind[run_equalIn_agg]
theorem QZ{t:TypeId}{fs:Array Field}{ok:List Value->Prop}(d:P.underlying t=some (.struct fs))(f:P.stoodInHeld t=false)(a:∀w,(isAgg t).run P w=.ok true w)(e:∀w,(sizeOf t).run P w=.ok k w)(g:Qlp P fs.toList h 0 k ok):QiD P t (h+1) k true ok:=by
 grind[Program.fieldsOf,QiD.struct]
structure EqD (P:Program) (t:TypeId) {α:Type} (cells:α->List A):Prop where
 scl:∀x,Qfg (cells x)=true
 inj:∀x y,Y6 (cells x)=Y6 (cells y)->x=y
 guard:P.eqGuardType P.depth t=false
 eq:∀(w:World) x y,∃b:Bool,(Op.equalIn 10000 t (.agg (Y6 (cells x)).toArray) (.agg (Y6 (cells y)).toArray)).run P w=.ok b w/\(b=true↔Y6 (cells x)=Y6 (cells y))
theorem Qmp{ok:List Value->Prop}(E:QiD P t h k true ok)(e:Nat.ble h 10000=true)(a:∀x,ok (Y6 (cells x)))(d:∀x,Qfg (cells x)=true)(hi:∀x y,Y6 (cells x)=Y6 (cells y)->x=y)(hg:P.eqGuardType P.depth t=false):EqD P t cells:=by
 refine⟨d,hi,hg,λw x y=>?_⟩;have:=E.eq w (10000-h) (Y6 (cells x)) (Y6 (cells y)) (a x) (a y)
 rwa [show 10000-h+h=10000 by simp_all]at this
variable {o:Oper} {env:Env} {H:Qc}
theorem Qhv{α:Type}[DecidableEq α]{cells:α->List A}{t u:TypeId}{x y:Operand}{p q:α}(E:EqD P t cells)(k:opA env x=.agg (cells p))(l:opA env y=.agg (cells q))(j:o.op=.binOp .eql t x y u:=by exact rfl):OpV P o env H (.bool (p==q)):=by
 intro B F U N a w r;have h:=Qh r x;have g:=Qh r y;rw[k]at h;rw[l]at g;have m:=VR.val (a:=.agg (cells p)) (E.scl p) h;have z:=VR.val (a:=.agg (cells q)) (E.scl q) g;obtain⟨b,n,s⟩:=E.eq w p q;have i:b=(p==q):=by
  rw[XU,s,Vs];exact⟨E.inj p q,λe=>by rw[e]⟩
 refine⟨.bool (p==q),?_,rfl⟩;rw[<- i];generalize a.eval=ρ at*;have f:ρ x=.agg (Y6 (cells p)).toArray:=m;have d:ρ y=.agg (Y6 (cells q)).toArray:=z;simp[j,f,d,go_sem,run_eqGuard_agg _ _ _ _ _ _ _ E.guard,n]
theorem Qhu{α:Type}[DecidableEq α]{cells:α->List A}{t u:TypeId}{x y:Operand}{p q:α}(E:EqD P t cells)(k:opA env x=.agg (cells p))(l:opA env y=.agg (cells q))(j:o.op=.binOp .neq t x y u:=by exact rfl):OpV P o env H (.bool (p != q)):=by
 intro B F U N a w r;have h:=Qh r x;have g:=Qh r y;rw[k]at h;rw[l]at g;have m:=VR.val (a:=.agg (cells p)) (E.scl p) h;have z:=VR.val (a:=.agg (cells q)) (E.scl q) g;obtain⟨b,n,s⟩:=E.eq w p q;have i:b=(p==q):=by
  rw[XU,s,Vs];exact⟨E.inj p q,λe=>by rw[e]⟩
 refine⟨.bool (p != q),?_,rfl⟩;rw[bne, <- i];generalize a.eval=ρ at*;have f:ρ x=.agg (Y6 (cells p)).toArray:=m;have d:ρ y=.agg (Y6 (cells q)).toArray:=z;simp[j,f,d,go_sem,run_eqGuard_agg _ _ _ _ _ _ _ E.guard,n]
end
end Go.Sw
namespace Go.Sw
structure Qgl (g g':Nat->Prop) (W W':World):Prop where
 sub:∀b,g b->g' b
 new:∀b,g' b->g b\/W.heap.size<=b
 lt:∀b,g' b->b<W'.heap.size
 all:∀b,W.heap.size<=b->b<W'.heap.size->g' b
 keep:∀b,b<W.heap.size->¬g b->W'.heap[b]?=W.heap[b]?
 size:W.heap.size<=W'.heap.size
 shape:∀b x,W.shape? b=some x->W'.shape? b=some x
 os:W'.os=W.os
 tape:W'.tape=W.tape
 output:W'.output=W.output
 drawn:W.drawn<=W'.drawn
abbrev Jv(T:Type):=List T->(Nat->Prop)->(Nat->Prop)->World->Prop
structure Qqn {T:Type} (J:Jv T):Prop where
 ev:∀rem q g W W' ro',J rem q g W->Qm g q W ro' W'->J rem q g W'
 up:∀rem q g g' W,J rem q g W->(∀b,g b->g' b)->(∀b,g' b->b<W.heap.size)->J rem q g' W
variable {W W':World}{fr g ro:Nat->Prop}{U:Sig}
theorem Sim.round{g':Nat->Prop}{H:Qc}(s:Sim fr ro U H W)(a:∀b,g b->fr b)(k:Qgl g g' W W'):Sim (λb=>fr b\/g' b) ro U H W'/\Qm (λb=>b<W.heap.size/\ ¬g b) ro W ro W':=by
 have hro:=λb q=>k.keep b (s.roLt b q) (λr=>s.roFr b q (a b r));have l:Ext ro U W ro U W':=by
  have ev:Qm (λ_=>False) ro W ro W':=⟨λ_ q=>q,hro,λ_ q=>q.elim,k.size,k.shape,k.os,k.tape,k.output,k.drawn⟩;have:=ev.ext U []
  grind
 refine⟨⟨s.len,s.roOk.to (λ_ q=>q) hro (λb q=>X9 (s.roLt b q) k.size),λb q=>q.elim (λq=>X9 (s.frLt b q) k.size) (k.lt b),λb q r=>?_,λi b x e f p=>?_,s.inj,λi y x e f=>?_,
  s.hidTo (· = ·) Q6 k.size (by simp) (λi b x c e f p E=>E.elim id λq=>(k.new c q).elim (a c) λh=>(by have:=(s.hid i b x c e f p).lt;omega)) λj d y n m F=>.inl ⟨j,y,rfl,n,m,id,λc q=>s.hidKeep n m (λz=>k.keep d (s.own j d y n m z).1 λr=>(s.own j d y n m z).2.2 (a d r)) hro q⟩⟩,
  ⟨λ_ q=>q,hro,λb q=>k.keep b q.1 q.2,k.size,k.shape,k.os,k.tape,k.output,k.drawn⟩⟩
 .rcases r with r|r
  .exact s.roFr b q r
  .rcases k.new b r with h|h
   .exact s.roFr b q (a b h)
   .have:=s.roLt b q;omega
 .obtain⟨w,B,t⟩:=s.own i b x e f p;refine⟨X9 w k.size,B,λr=>?_⟩;rcases r with r|r
  .exact t r
  .rcases k.new b r with h|h
   .grind
   .omega
 .refine(s.blk i y x e f).keep l ?_ ?_
  .rintro b rfl u;obtain⟨w,B,t⟩:=s.own i b x e f u;exact k.keep b w (λr=>t (a b r))
  .rintro b c rfl u;have q:=s.hid i b x c e f u;exact k.keep c q.lt (λr=>q.fr (a c r))
variable {T:Type}
def Qq7(J Jx:Jv T)(g ri:Nat->Prop)(W1:World)(rem:List T):Ending->World->Prop:=λe W'=>
 ∃g' q',(∀b,q' b->ri b)/\Qgl g g' W1 W'/\((e=.returned (.bool true)/\J rem q' g' W')\/(e=.returned (.bool false)/\Jx rem q' g' W'))
structure Ctx (T:Type) where
 l:Nat
 J:Jv T
 Jx:Jv T
 enc:T->List A
 nx:List T->T->List T->Prop
structure Ctx.ok {T:Type} (X:Ctx T) (P:Program):Prop where
 b:Qqn X.J
 bx:Qqn X.Jx
 round:∀l x rem q g ri W1 vs,X.nx l x rem->X.J l q g W1->(∀b,q b->ri b)->(∀b,ri b->b<W1.heap.size/\ ¬g b)->LR ri [] W1 (X.enc x) vs->YieldAt Fence.wide 0 P X.l vs.toArray W1 (Qq7 X.J X.Jx g ri W1 rem)
def Qit(P:Program)(f:FuncId)(caps:List A)(H:Qc)(enc:T->List A)(nx:List T->T->List T->Prop)(xs:List T):Prop:=
 ∀(X:Ctx T),X.enc=enc->X.nx=nx->X.ok P->∀fr ro U w capv q,Sim fr ro U H w->(∀b,q b->ro b)->LR ro U w caps capv->X.J xs q fr w->
  Calls P f ((Value.func (.yield X.l) #[] #[]::capv)).toArray w λe W'=>(∃v,e=.returned v)/\ ∃g q',(∀b,fr b->g b)/\((X.J [] q' g W')\/(∃rem,X.Jx rem q' g W'))
inductive YSt (T:Type) where
 |on (rem:List T)
 |off (rem:List T)
def Ctx.J'(X:Ctx T):YSt T->(Nat->Prop)->(Nat->Prop)->World->Prop
 |.on rem=>X.J rem
 |.off rem=>X.Jx rem
def Ctx.at(X:Ctx T)(st:YSt T)(g ro:Nat->Prop)(W:World):Prop:=∃q,(∀b,q b->ro b)/\X.J' st q g W
variable {ro':Nat->Prop}{w w':World}
theorem Qm.roMono{ro0:Nat->Prop}(h:Qm fr ro w ro' w')(s:∀b,ro0 b->ro b):Qm fr ro0 w ro' w':=
 ⟨λb q=>h.sub b (s b q),λb q=>h.keepRo b (s b q),h.keepFr,h.size,h.shape,h.os,h.tape,h.output,h.drawn⟩
theorem Ctx.ok.ev{T:Type}{X:Ctx T}{P:Program}(h:X.ok P){d:YSt T}{g ro ro':Nat->Prop}{W W':World}(a:X.at d g ro W)(he:Qm g ro W ro' W'):X.at d g ro' W':=by
 obtain⟨q,e,a⟩:=a;refine⟨q,λb z=>he.sub b (e b z),?_⟩;cases d with
 |on rem=>exact h.b.ev rem q g W W' ro' a (he.roMono e)
 |off rem=>exact h.bx.ev rem q g W W' ro' a (he.roMono e)
theorem Ctx.ok.up{T:Type}{X:Ctx T}{P:Program}(h:X.ok P){d:YSt T}{g g' ro:Nat->Prop}{W:World}(a:X.at d g ro W)(hg:∀b,g b->g' b)(hl:∀b,g' b->b<W.heap.size):X.at d g' ro W:=by
 obtain⟨q,e,a⟩:=a;refine⟨q,e,?_⟩;cases d with
 |on rem=>exact h.b.up rem q g g' W a hg hl
 |off rem=>exact h.bx.up rem q g g' W a hg hl
abbrev YN(T:Type):=AEx->Env->Qc->YSt T->Prop
structure In (g fr:Nat->Prop) (ds:List Deferred):Prop where
 sub:∀b,g b->fr b
 beside:∀D,({target:=.collected D,args:= #[]}:Deferred)∈ds->¬g D
def QdC(X:Ctx T)(h0:Nat)(fr ro:Nat->Prop)(U:Sig)(w:World)(N:Nat)(ds:List Deferred)(Q:YN T):Exit->Act->World->Prop:=
 λe a' w'=>∃x env' H' st ro' σ' fr' g',ExR e x/\Q x env' H' st/\Rel fr' ro' σ' H' env' N a' w'/\(X.at st g' ro' w'/\In g' fr' a'.defers)/\(∀b,ro b->ro' b)/\w.heap.size<=w'.heap.size/\σ'.take h0=U.take h0/\Grow fr w ds fr' a'.defers
variable {N h0:Nat}
theorem QdC.grow{T:Type}{X:Ctx T}{a:Nat->Prop}{σ1:Sig}{w1:World}{k d:List Deferred}{Q:YN T}{e:Exit}{a':Act}
  (h:QdC X h0 a g σ1 w1 N d Q e a' w')(E:∀b,ro b->g b)(l:w.heap.size<=w1.heap.size)(q:σ1.take h0=U.take h0)(hg:Grow fr w k a d):QdC X h0 fr ro U w N k Q e a' w':=by
 obtain⟨x,f,H',r,j,σ',i,p,t,z,u,s,B,m,y,n⟩:=h;exact⟨x,f,H',r,j,σ',i,p,t,z,u,s,(by grind),XS l m,y.trans q,hg.trans l n⟩
def TCy(X:Ctx T)(P:Program)(h0 N:Nat)(c:Code)(env:Env)(H:Qc)(st:YSt T)(Q:YN T):Prop:=
 X.ok P->∀rd fr ro U a w g,Rel fr ro U H env N a w->X.at st g ro w/\In g fr a.defers->rd=none->c.wpIn (WF rd) 0 P (QdC X h0 fr ro U w N a.defers Q) a w
def WOy(X:Ctx T)(P:Program)(h0 N:Nat)(all:Array Oper)(l:List Oper)(env:Env)(H:Qc)(st:YSt T)(Q:YN T):Prop:=
 X.ok P->∀rd fr ro U a w g,Rel fr ro U H env N a w->X.at st g ro w/\In g fr a.defers->rd=none->wpL P rd all (QdC X h0 fr ro U w N a.defers Q) l a w
theorem In.later{a:Nat->Prop}{ds ds':List Deferred}(h:In g fr ds)(hl:∀b,fr b->b<w.heap.size)(hg:Grow fr w ds a ds'):In g a ds':=by
 refine⟨λb q=>hg.sub b (h.sub b q),λD hD q=>?_⟩;rcases hg.ds _ hD with r|⟨D',e,r⟩
 .exact h.beside D r q
 .have:=by simpa using e
  have:=hl D (h.sub D q);omega
section
variable {T:Type} {X:Ctx T} {P:Program} {h0 N:Nat} {c c':Code} {env:Env} {H:Qc} {st:YSt T} {Q:YN T}
theorem Qnj{j:List Deferred}{e:Exit}{a':Act}(m:X.ok P)(h:QaP h0 fr ro U w N j (λx env H=>Q x env H st) e a' w')(hl:∀b,fr b->b<w.heap.size)(d:X.at st g ro w/\In g fr j):
  QdC X h0 fr ro U w N j Q e a' w':=by
 obtain⟨x,a,H',k,σ',f,n,r,p,i,q,l⟩:=h;exact⟨x,a,H',st,k,σ',f,g,n,r,p,⟨m.ev d.1 (i.frMono d.2.sub),d.2.later hl l⟩,i.sub,i.size,q,l⟩
theorem TCy.lift(h:TC P h0 N c env H (λx env H=>Q x env H st)):TCy X P h0 N c env H st Q:=
 λhX rd fr ro U a w g r hj hrd=>Code.wpIn_mono (λe a' w' q=>Qnj hX q r.sim.frLt hj) (h rd fr ro U a w r (hrd▸Qd4.none))
def SeqY(X:Ctx T)(P:Program)(h0 N:Nat)(c:Code)(Q:YN T):YN T
 |.normal,env,H,st=>TCy X P h0 N c env H st Q
 |.exit id,env,H,st=>Q (.exit id) env H st
 |.ret,env,H,st=>Q .ret env H st
theorem TCy.seq(h:TCy X P h0 N c env H st (SeqY X P h0 N c' Q)):TCy X P h0 N (.seq c c') env H st Q:=by
 intro B z G J U a w g r hj hrd;refine wpIn_seq (Code.wpIn_mono ?_ (h B z G J U a w g r hj hrd));rintro e F E ⟨x,d,H',j,i,σ',f,m,k,y,s,p,n,u,t,l⟩;cases e with
 |normal=>
  obtain rfl:x=.normal:=k;exact Code.wpIn_mono (λe a w q=>q.grow n u t l) (y B z f i σ' F E m s p hrd)
 |exit id=>
  obtain rfl:x=.exit id:=k;exact⟨_,d,H',j,i,σ',f,m,rfl,y,s,p,n,u,t,l⟩
 |ret=>
  obtain rfl:x=.ret:=k;exact⟨_,d,H',j,i,σ',f,m,rfl,y,s,p,n,u,t,l⟩
 |_=>exact k.elim
theorem TCy.region{id:Nat}{l:List Oper}(h:WOy X P h0 N l.toArray l env H st Q):TCy X P h0 N (.region id l.toArray false) env H st Q:=
 λhX rd fr ro U a w g r hj hrd=>wpIn_region_lit (h hX rd fr ro U a w g r hj hrd)
theorem TCy.cond{x:Operand}{t:Bool}(k:opA env x=.bool t)(l:t=true->TCy X P h0 N c env H st Q)(m:t=false->TCy X P h0 N c' env H st Q):TCy X P h0 N (.cond x c c') env H st Q:=by
 intro d h f j U a w g r hj hrd;have i:=Qh r x;rw[k]at i;exact wpIn_cond_split i (λe=>l e d h f j U a w g r hj hrd) (λe=>m e d h f j U a w g r hj hrd)
theorem WOy.nil{all:Array Oper}(h:Q .normal env H st):WOy X P h0 N all [] env H st Q:=
 λhX rd fr ro U a w g r hj hrd=>⟨_,env,H,st,ro,U,fr,g,rfl,h,r,hj,λ_ q=>q,XQ _,rfl,Grow.refl _ _ _⟩
end
variable {P:Program}{Q:Exit->Act->World->Prop}{o:Oper}{rd:Option Nat}
theorem Qkl{a:Act}{K K':Act->World->Prop}{Q':Exit->Act->World->Prop}(i:∀a w,K a w->K' a w)(p:∀ch a w,Q (.panic ch) a w->Q' (.panic ch) a w)(m:∀a w,Q .outgrown a w->Q' .outgrown a w)
  {r:Result Next}(h:o.uponIn (WF rd) 0 P a K Q r):o.uponIn (WF rd) 0 P a K' Q' r:=by
 cases r with
 |ok x w=>
  cases x with
  |value v=>exact i _ _ h
  |skip=>exact i _ _ h
  |defer d=>exact i _ _ h
  |enter f g=>
   refine⟨h.1,CallsIn.mono h.2 ?_⟩;intro e n q;cases e with
   |returned v=>grind
   |panicked c=>grind
   |outgrown=>obtain⟨a,w,q⟩:=q;exact⟨a,w,m _ _ q⟩
  |row r g=>exact⟨h.1,RowsIn.mono h.2 λv n q=>i _ _ q⟩
  |round l f k assign j=>
   refine⟨h.1,RoundIn.mono h.2 ?_⟩;intro e n q;cases e with
   |returned v=>grind
   |panicked c=>grind
   |outgrown=>obtain⟨a,w,q⟩:=q;exact⟨a,w,m _ _ q⟩
  |_=>exact h
 |halt x w=>
  cases x with
  |panic v=>exact p _ _ _ h
  |_=>exact h
section
variable {T:Type} {X:Ctx T} {P:Program} {h0 N:Nat} {env:Env} {H:Qc} {st:YSt T} {Q:YN T}
theorem WOy.step{all:Array Oper}{rest:List Oper}(h:WO P h0 N all [o] env H (λx env' H'=>x=.normal/\WOy X P h0 N all rest env' H' st Q)):WOy X P h0 N all (o::rest) env H st Q:=by
 intro u l p s U a w g r hj hrd;have M:∀f j,QbL h0 p s U w N a.defers (λx env' H'=>x=.normal/\WOy X P h0 N all rest env' H' st Q) .normal f j->wpL P l all (QdC X h0 p s U w N a.defers Q) rest f j:=by
  rintro f j ⟨x,env',H',i,σ',d,J,⟨_,y⟩,B,m,z,G,F⟩;have t:X.at st g i j/\In g d f.defers:=⟨u.ev hj.1 (m.frMono hj.2.sub),by rw[G];exact hj.2.later r.sim.frLt F⟩;have:=y u l d i σ' f j g B t hrd;exact Yn (λe n w2 q=>(q.grow m.sub m.size z (by grind))) _ _ _ this
 have k:=h l p s U a w r (hrd▸Qd4.none);unfold wpL wpListIn at k⊢;split
 .rename_i E;rw[Vm E]at k;refine⟨k.1,Qkl (λn w2 q=>?_) (λL n w2 q=>?_) (λn w2 q=>?_) k.2⟩
  .unfold wpListIn at q
   grind
  .obtain⟨x,_,_,_,_,_,q,_⟩:=q;exact q.elim
  .obtain⟨x,_,_,_,_,_,q,_⟩:=q;exact q.elim
 simp_all[wpListIn]
theorem WOy.yield{all:Array Oper}{o:Oper}{rest:List Oper}{d:Nat}{x:T}{G rem:List T}(J:X.nx G x rem)(hg:Qw all o env true)(u:o.dst=some d)(hN:Nat.blt d N=true)
  (B:∀fr ro U a w,Rel fr ro U H env N a w->∃vs:List Value,LR ro [] w (X.enc x) vs/\(execOp a.eval o).run P w=(Instr.yield X.l vs.toArray).run P w)
  (k:∀b,WOy X P h0 N all rest (up env d (.bool b)) H (bif b then .on rem else .off rem) Q):WOy X P h0 N all (o::rest) env H (.on G) Q:=by
 intro R O fr ro U a w g r hj hrd;obtain⟨vs,hv,Y⟩:=B fr ro U a w r;obtain⟨q,hq,F⟩:=hj.1;obtain⟨fn,tmps,assign,M,h1,W⟩:=R.round G x rem q g ro w vs J F hq (λb z=>⟨r.sim.roLt b z,λy=>r.sim.roFr b z (hj.2.sub b y)⟩) hv;have h3:=Y.trans h1;unfold wpL wpListIn;rw[Vm (YP hg r)];refine⟨λ_ _=>trivial,?_⟩;rw[Qc5 h3 (λd e=>by cases e)];refine⟨λh=>by simp[WF,Fence.wide]at h,(RoundIn.mono W ?_)⟩;rintro e i ⟨j,n,p,m,f⟩;obtain⟨s',ev⟩:=r.sim.round hj.2.sub m;have E:d<N:=by simp_all
 have t:Ext ro U w ro U i:=by have:=ev.ext U [];grind
 have fin:∀b,X.at (bif b then .on rem else .off rem) j ro i->wpL P O all (QdC X h0 fr ro U w N a.defers Q) rest (a.put o.dst (.bool b)) i:=by
  intro b f;have hm:QcJ (λb=>fr b\/j b) a.defers i:=by
   refine⟨r.defers.1,λd u=>?_⟩;obtain⟨D,rfl,L,V⟩:=r.defers.2 d u;exact⟨D,rfl,.inl L,(m.keep D (r.sim.frLt D L) (hj.2.beside D u)).trans V⟩
  have hi:In j (λb=>fr b\/j b) a.defers:=by
   refine⟨λb q=>.inr q,λD hD q=>?_⟩;rcases m.new D q with n|n
   .exact hj.2.beside D hD n
   .obtain⟨D',e,L,_⟩:=r.defers.2 _ hD
    grind
  have r':Rel (λb=>fr b\/j b) ro U H (up env d (.bool b)) N {a with tmps:=a.tmps.setIfInBounds d (.bool b)} i:=
   ⟨s',VR.up (fr:=fr) (λs=>(r.env s).mono t) (by rw[r.size];exact E) rfl,by simpa using r.size,hm⟩
  have:=k b R O _ ro U _ i j r' ⟨f,hi⟩ hrd;simp[u];refine Yn (λe a2 w2 q=>q.grow (λ_ q=>q) m.size rfl ⟨λ_ q=>.inl q,λb q=>?_,λ_ q=>.inl q⟩) _ _ _ this;rcases q with q|q
  .exact .inl q
  .rcases m.new b q with q|q
   .exact .inl (hj.2.sub b q)
   omega
 rcases f with⟨rfl,f⟩|⟨rfl,f⟩
 .exact fin true ⟨n,p,f⟩
 .exact fin false ⟨n,p,f⟩
end
def EndY:YN T:=λx env H st=>(x=.normal\/x=.ret)/\(st=.on []\/ ∃rem,st=.off rem)
variable {fn:Func}
theorem QdA{T:Type}{f:FuncId}{c:Code}{a:List A}{H:Qc}{enc:T->List A}{nx:List T->T->List T->Prop}{xs:List T}
  (hf:P.funcs[f]?=some fn)(hb:fn.body=some c)(hN:fn.ntmps=N)(hA:Nat.ble (a.length+1) N=true)(hR:fn.results= #[])
  (h:∀X,X.enc=enc->X.nx=nx->TCy X P H.length N c (Qew 0 (.fn (.yield X.l) [] []::a)) H (.on xs) EndY):Qit P f a H enc nx xs:=by
 intro X hE hNx hX fr ro0 U w capv q0 hs hq0 hl hj;have p:LR ro0 U w (.fn (.yield X.l) [] []::a) (Value.func (.yield X.l) #[] #[]::capv):=⟨_,_,rfl,⟨[],[],rfl,rfl,rfl⟩,hl⟩;have Q:=p.length;have ab:a.length+1<=N:=by simp_all
 refine(callsIn_wide).1 (callsIn_of_wp_marks hf hb trivial (Code.wpIn_mono ?_ (h X hE hNx hX none fr ro0 U _ w fr ⟨hs,?_,?_,List.nodup_nil,λd t=>by cases t⟩ ⟨⟨q0,hq0,hj⟩,λ_ q=>q,λD hD=>by cases hD⟩ rfl)))
 .rintro e y G ⟨x,O,H1,st,aa,σ1,R,L,M,⟨h2,E⟩,k,⟨Y,j⟩,h5,h6,h7,W⟩;have m:LeavesInM Fence.wide 0 P fn y.tmps (λe W'=>(∃v,e=.returned v)/\ ∃g q',(∀b,fr b->g b)/\((X.J [] q' g W')\/(∃rem,X.Jx rem q' g W'))) y.defers .returning G:=by
   refine Qbr y.defers G k.defers.1 (λd t=>?_) (k.sim.frMono j.sub) (λw2 s2 n=>?_)
   .obtain⟨D,rfl,F,V⟩:=k.defers.2 d t;exact⟨D,rfl,λq=>k.sim.roFr D q F,j.beside D t,λi x z u B=>(k.sim.own i D x z u B).2.2 F,λi d x z u B=>(k.sim.hid i d x D z u B).fr F,V⟩
   .have r:=hX.up (hX.ev Y n) (g':=λb=>L b\/fr b) (λb q=>.inl q) (λb q=>X9 (k.sim.frLt b (q.elim (j.sub b) (W.sub b))) n.size);obtain⟨q9,_,r⟩:=r;refine⟨.tuple #[],by simp[results,hR],⟨_,rfl⟩,λb=>L b\/fr b,q9,λb q=>.inr q,?_⟩;rcases E with rfl|⟨rem,rfl⟩
    .exact .inl r
    .exact .inr ⟨rem,r⟩
  cases e with
  |normal=>exact m
  |ret=>exact m
  |exit id=>
   obtain rfl:x=.exit id:=M
   grind
  |_=>exact M.elim
 .intro s;have:=QfA [] rfl p (Array.replicate (fn.ntmps-(Value.func (.yield X.l) #[] #[]::capv).toArray.size) undef) s
  grind
 grind
section
variable {T:Type} {X:Ctx T} {P:Program} {h0 N:Nat} {c c':Code} {env:Env} {H:Qc} {st:YSt T} {Q Q':YN T}
theorem TCy.mono(h:TCy X P h0 N c env H st Q)(q:∀x env H st,Q x env H st->Q' x env H st):TCy X P h0 N c env H st Q':=by
 intro k p l t U a w g r hj hrd;refine Code.wpIn_mono ?_ (h k p l t U a w g r hj hrd);rintro e z y ⟨x,d,H',j,i,σ',f,s,m,u,n⟩;exact⟨x,d,H',j,i,σ',f,s,m,q _ _ _ _ u,n⟩
theorem TCy.skip(h:Q .normal env H st):TCy X P h0 N .skip env H st Q:=TCy.lift (TC.skip h)
theorem TCy.ret(h:Q .ret env H st):TCy X P h0 N .ret env H st Q:=TCy.lift (TC.ret h)
theorem TCy.exit{id:Nat}(h:Q (.exit id) env H st):TCy X P h0 N (.exit id) env H st Q:=TCy.lift (TC.exit h)
def BloY(id:Nat)(Q:YN T):YN T
 |.normal,env,H,st=>Q .normal env H st
 |.exit id',env,H,st=>bif Nat.beq id' id then Q .normal env H st else Q (.exit id') env H st
 |.ret,env,H,st=>Q .ret env H st
theorem TCy.block{id:Nat}(h:TCy X P h0 N c env H st (BloY id Q)):TCy X P h0 N (.block id c) env H st Q:=by
 intro s y t z U a w g r hj hrd;refine wpIn_block (Code.wpIn_mono ?_ (h s y t z U a w g r hj hrd));rintro e B E ⟨x,d,H',k,j,σ',i,p,m,l,n⟩;cases e with
 |normal=>
  obtain rfl:x=.normal:=m;exact⟨_,d,H',k,j,σ',i,p,rfl,l,n⟩
 |exit f=>
  obtain rfl:x=.exit f:=m;unfold Exit.inBlock;simp only[BloY]at l;by_cases q:f=id
  .subst q;rw[Vz,Vi]at l;simp;exact⟨.normal,d,H',k,j,σ',i,p,rfl,l,n⟩
  .have u:Nat.beq f id=false:=by
    cases e:Nat.beq f id with
    |false=>rfl
    |true=>simp_all
   rw[u,Vj]at l;simp[q];exact⟨.exit f,d,H',k,j,σ',i,p,rfl,l,n⟩
 |ret=>
  obtain rfl:x=.ret:=m;exact⟨_,d,H',k,j,σ',i,p,rfl,l,n⟩
 |_=>exact m.elim
end
section
variable {T:Type} {X:Ctx T} {P:Program} {h0 N:Nat} {c:Code} {env:Env} {H:Qc} {st:YSt T} {Q:YN T}
def Qnv(I:Env->Qc->YSt T->Prop)(Q:YN T):YN T
 |.normal,env,H,st=>I env H st
 |.exit id,env,H,st=>Q (.exit id) env H st
 |.ret,env,H,st=>Q .ret env H st
theorem Qhr{I:Nat->Env->Qc->YSt T->Prop}(body:∀n env H st,I n env H st->TCy X P h0 N c env H st (Qnv (λenv H st=>∃n',n'<n/\I n' env H st) Q)){n:Nat}(G:I n env H st):TCy X P h0 N (.loop c) env H st Q:=by
 intro hX O z B U a w g r hj hrd b k cs hro hb hr;have F:∀m n env H st fr1 ro1 σ1 a1 w1 g1,n<m->I n env H st->Rel fr1 ro1 σ1 H env N a1 w1->(∀b,B b->ro1 b)->w.heap.size<=w1.heap.size->σ1.take h0=U.take h0->Grow z w a.defers fr1 a1.defers->X.at st g1 ro1 w1/\In g1 fr1 a1.defers->
   ∃e h i,QdC X h0 z B U w N a.defers Q e h i/\ArrivesIn (Machine.fenced P (WF O)) P (lone (b.atR a1 (.code c::.inLoop c::k)) cs w1) b k cs e h i:=by
  intro m
  induction m with
  |zero=>omega
  |succ m ih=>
   intro n env H st fr1 ro1 σ1 a1 w1 g1 hn G r1 s1 z1 t1 gr1 j1;obtain⟨e,h,i,J,d⟩:=body n env H st G hX O fr1 ro1 σ1 a1 w1 g1 r1 j1 hrd b (.inLoop c::k) cs hro hb hr;obtain⟨x,f,H',j,t,σ',s,R,y,p,W,L,q5,M,q7,q8⟩:=J;have V:=λb q=>q5 b (s1 b q);have u:=gr1.trans z1 q8;have Y:∀x,Q x f H' j->ExR e x->QdC X h0 z B U w N a.defers Q e h i:=λx q q'=>⟨x,f,H',j,t,σ',s,R,q',q,W,L,V,XS z1 M,q7.trans t1,u⟩;cases e with
   |normal=>
    obtain rfl:x=.normal:=y;obtain⟨n',aa,p⟩:=p;obtain⟨e2,a2,w2,E,l⟩:=ih n' f H' j s t σ' h i R (by omega) p W V (XS z1 M) (q7.trans t1) u L;exact⟨e2,a2,w2,E,.of_steps (StepsIn.trans d (.one (fenced_calm hb hr rfl) stepR_inLoop)) l⟩
   |exit id=>
    obtain rfl:x=.exit id:=y;exact⟨_,h,i,Y _ p rfl,.pass rfl (λ_ _=>.inl (by simp)) d⟩
   |ret=>
    obtain rfl:x=.ret:=y;exact⟨_,h,i,Y _ p rfl,.pass rfl (λ_ _=>.inl (by simp)) d⟩
   |_=>exact y.elim
 obtain⟨e,h,i,J,d⟩:=F (n+1) n env H st z B U a w g (Xn _) G r (λ_ q=>q) (XQ _) rfl (Grow.refl _ _ _) hj;exact⟨e,h,i,J,.of_steps (.one (fenced_calm hb hr rfl) stepR_loop) d⟩
end
theorem Sim.part{H:Qc}(h:Sim fr ro U H w){π:List Nat}{Hc:Qc}(hH:π.map (λp=>H[p]?)=(Hc.map (Q5 (rho π H.length))).map some)(hπ:π.Nodup):
  Sim (λb=>fr b\/(∃i x,U[i]?=some (some b)/\H[i]?=some x/\x.live=true/\i∉π)\/ ∃i x d,U[i]?=some (some d)/\H[i]?=some x/\Hid w x d b/\i∉π) ro (YA U π) Hc w/\ ∀j:Nat,U[rho π H.length j]?=(YA U π)[j]? :=by
 have hp:∀p∈π,p<H.length:=λp q=>Jz hH q;have hσl:=h.len;have m:∀(j p:Nat),π[j]?=some p->H[p]?=(Hc[j]?).map (Q5 (rho π H.length)):=by
  intro j p n;have:=congrArg (λl=>l[j]?) hH
  grind
 have N:π.length=Hc.length:=by simpa using congrArg List.length hH
 have hσc:∀j:Nat,U[rho π H.length j]?=(YA U π)[j]? :=by
  intro j;have:=QeQ (τ:=[]) hσl hp j
  grind
 have hπj:∀(j b:Nat),(YA U π)[j]?=some (some b)->∃p,π[j]?=some p/\U[p]?=some (some b):=by
  intro j b n;simp only[YA,Xo]at n
  grind
 refine⟨?_,hσc⟩
 .refine⟨by simp[YA,N],h.roOk,?_,?_,?_,?_,?_,?_⟩
  .rintro b (O|⟨i,x,a,g,e,L⟩|⟨i,x,d,a,g,e,L⟩)
   .exact h.frLt b O
   .exact(h.own i b x a g e).1
   .exact(h.hid i d x b a g e).lt
  .rintro b O (M|⟨i,x,a,g,e,L⟩|⟨i,x,d,a,g,e,L⟩)
   .exact h.roFr b O M
   .exact(h.own i b x a g e).2.1 O
   .exact(h.hid i d x b a g e).ro O
  .intro j b x a g e;obtain⟨p,f,z⟩:=hπj j b a;have B:H[p]?=some (Q5 (rho π H.length) x):=by grind
   obtain⟨o1,o2,o3⟩:=h.own p b _ z B (by rw[QO];exact e);refine⟨o1,o2,?_⟩;rintro(M|⟨i,y,y1,y2,G,Q⟩|⟨i,y,d,y1,y2,G,Q⟩)
   .exact o3 M
   .have:=h.inj i p b _ _ y1 z y2 B G (by rw[QO];exact e)
    grind
   .exact(h.hid i d y b y1 y2 G).ne p b _ z B (by rw[QO];exact e) rfl
  .intro i j b x y a g e L q5 q6;obtain⟨p,f,z⟩:=hπj i b a;obtain⟨r,t,X⟩:=hπj j b g;have B:H[p]?=some (Q5 (rho π H.length) x):=by rw[m i p f,e];rfl
   have R:H[r]?=some (Q5 (rho π H.length) y):=by rw[m j r t,L];rfl
   have:=h.inj p r b _ _ z X B R (by rw[QO];exact q5) (by rw[QO];exact q6);subst this;have F:i<π.length:=by
    rcases Vw i π.length with q|q
    .exact q
    .rw[XL q]at f;simp at f
   have n:j<π.length:=by
    rcases Vw j π.length with q|q
    .exact q
    .rw[XL q]at t;simp at t
   rw[XH F]at f;rw[XH n]at t;have u:=(XV f).trans (XV t).symm;rcases Nat.lt_trichotomy i j with q|q|q
   .exact(Vy.1 hπ i j F n q u).elim
   .exact q
   .exact(Vy.1 hπ j i n F q u.symm).elim
  .intro j s x a g;have n:j<π.length:=by
    rcases Vw j π.length with q|q
    .exact q
    .rw[XL (by simpa[YA]using q)]at a;simp at a
   have f:π[j]?=some π[j]:=XH n;have B:H[π[j]]?=some (Q5 (rho π H.length) x):=by rw[m j _ f,g];rfl
   have z:U[π[j]]?=some s:=by
    have:=hσc j;rw[a]at this;simpa[rho,f]using this
   exact(QiH hσc).1 (h.blk _ s _ z B)
  .intro j b x c a g e;obtain⟨p,f,z⟩:=hπj j b a;have B:H[p]?=some (Q5 (rho π H.length) x):=by rw[m j p f,g];rfl
   have k:=h.hid p b _ c z B ((Qaj _ _ _ _ _).2 e);refine⟨k.lt,k.ro,?_,?_,?_⟩
   .rintro(M|⟨i,y,y1,y2,G,Q⟩|⟨i,y,d,y1,y2,G,Q⟩)
    .exact k.fr M
    .exact k.ne i c y y1 y2 G rfl
    .obtain⟨rfl,rfl⟩:=k.one i d y y1 y2 G;exact Q (VB f)
   .intro E P y Y T V;obtain⟨r,J,W⟩:=hπj E P Y;exact k.ne r P _ W (show H[r]?=some (Q5 (rho π H.length) y)by rw[m E r J,T];rfl) (by rw[QO];exact V)
   .intro E P y Y T V;obtain⟨r,J,W⟩:=hπj E P Y;obtain⟨z4,z5⟩:=k.one r P _ W (show H[r]?=some (Q5 (rho π H.length) y)by rw[m E r J,T];rfl) ((Qaj _ _ _ _ _).2 V);subst z5;have F:E<π.length:=(XI.1 J).1;have n:j<π.length:=(XI.1 f).1;rw[XH F]at J;rw[XH n]at f;have u:=(XV J).trans (XV f).symm;refine⟨z4,?_⟩;rcases Nat.lt_trichotomy E j with q|q|q
    .exact(Vy.1 hπ E j F n q u).elim
    .exact q
    .exact(Vy.1 hπ j E n F q u.symm).elim
theorem Sim.frames{fr':Nat->Prop}{H:Qc}(s:Sim fr ro U H w)(lt:∀b,fr' b->b<w.heap.size)(hro:∀b,ro b->¬fr' b)(own:∀(i b:Nat) (x:Blk),U[i]?=some (some b)->H[i]?=some x->x.live=true->¬fr' b)
  (hd:∀(i b:Nat) (x:Blk) (c:Nat),U[i]?=some (some b)->H[i]?=some x->Hid w x b c->¬fr' c):Sim fr' ro U H w:=
 ⟨s.len,s.roOk,lt,hro,λi b x q1 q2 q3=>⟨(s.own i b x q1 q2 q3).1,(s.own i b x q1 q2 q3).2.1,own i b x q1 q2 q3⟩,s.inj,s.blk,
  s.hidTo (· = ·) Q6 (XQ _) (by simp) (by grind) (by grind)⟩
def QlL(H:Qc)(p:Nat):Qc:=match H[p]? with
 |some x=>bif x.holds then H.set p .dead else H
 |none=>H
def Qem:Qc->List Nat->Qc
 |H,[]=>H
 |H,p::π=>Qem (QlL H p) π
theorem Qen(H:Qc)(p:Nat):(QlL H p=H/\ ∀x,H[p]?=some x->x.holds=false)\/QlL H p=H.set p .dead:=by
 unfold QlL
 grind
theorem QfB:∀(π:List Nat) (H:Qc) (i:Nat) (x:Blk),(Qem H π)[i]?=some x->x=.dead\/(H[i]?=some x/\(x.holds=true->i∉π))
 |[],H,i,x,h=>.inr ⟨h,λ_=>by simp⟩
 |p::π,H,i,x,h=>by
  rcases QfB π _ i x h with h|⟨h1,h2⟩
  .exact .inl h
  .rcases Qen H p with⟨e,hl⟩|e
   .grind
   grind
theorem Qd3{fr ro:Nat->Prop}{U:Sig}{w:World}:∀(π:List Nat) {H:Qc} (s:Sim fr ro U H w),Sim fr ro U (Qem H π) w
 |[],_,s=>s
 |p::π,H,s=>by
  rw[Qem];rcases Qen H p with h|h
  .rw[h.1];exact Qd3 π s
  .rw[h];exact Qd3 π (s.kill p)
variable {b:Nat}
theorem Sim.put{H:Qc}(s:Sim fr ro U H w){obj:Obj}(l:fr b)(r:w.shape? b=none):
  Sim fr ro U H (w.putObj b obj)/\Qm (λc=>c≠b) ro w ro (w.putObj b obj):=by
 have a:∀c,c≠b->(w.putObj b obj).heap[c]?=w.heap[c]? :=λc B=>World.putObj_heap_other B;have h:(w.putObj b obj).heap.size=w.heap.size:=by simp
 have t:∀c,ro c->c≠b:=λc q e=>s.roFr c q (e▸l);have ev:Qm (λc=>c≠b) ro w ro (w.putObj b obj):=by
  refine⟨λ_ q=>q,(by grind),λc q=>a c q,by omega,λc x q=>?_,rfl,rfl,rfl,XQ _⟩
  grind[World.shape?]
 have k:Ext ro U w ro U (w.putObj b obj):=by have:=ev.ext U [];grind
 refine⟨⟨s.len,s.roOk.to (λ_ q=>q) ev.keepRo (λc q=>by rw[h];exact s.roLt c q),λc q=>by rw[h];exact s.frLt c q,s.roFr,λi c x f g u=>?_,s.inj,λi y x f g=>?_,
  s.hidTo (· = ·) Q6 (by omega) (by simp) (by simp) λj d y p m E=>.inl ⟨j,y,rfl,p,m,id,λc q=>s.hidKeep p m (λz=>a d (λe=>(s.own j d y p m z).2.2 (e▸l))) ev.keepRo q⟩⟩,ev⟩
 .obtain⟨J,G,F⟩:=s.own i c x f g u
  grind
 .refine(s.blk i y x f g).keep k ?_ ?_
  .rintro c rfl n;exact a c (λe=>(s.own i c x f g n).2.2 (e▸l))
  .rintro d c rfl n;exact a c (λe=>(s.hid i d x c f g n).fr (e▸l))
theorem QcL{l:Nat}{r:Loop}(h:w.heap[l]?=some (.loop r)):w.shape? l=none:=by
 unfold World.shape?;rw[h]
structure Fix where
 fr:Nat->Prop
 ro:Nat->Prop
 U:Sig
 w:World
 h1:Nat
 env:Env
 tmps:Array Value
 ds1:List Deferred
 l:Nat
 rc:LoopState->Option Code->Loop
 fr1:Nat->Prop
structure Fix.Ok (D:Fix):Prop where
 sub:∀b,D.fr b->D.fr1 b
 l1:D.fr1 D.l
 lf:¬D.fr D.l
 len:D.U.length=D.h1
structure RJ (D:Fix) (ro1:Nat->Prop) (σ1:Sig) (H:Qc) (st:LoopState) (pe:Option Code) (q g:Nat->Prop) (W:World):Prop where
 sim:Sim D.fr1 ro1 σ1 H W
 env:∀t,VR ro1 D.U W (lk D.env t) (D.tmps.getD t undef)
 sig:σ1.take D.h1=D.U
 ev:Qm D.fr D.ro D.w ro1 W
 marks:QcJ D.fr1 D.ds1 W
 rc:W.heap[D.l]?=some (.loop (D.rc st pe))
 roG:∀b,ro1 b->q b\/g b
 frG:∀b,D.fr1 b->g b
 own:∀(i b:Nat) (x:Blk),σ1[i]?=some (some b)->H[i]?=some x->x.live=true->g b
 hidG:∀(i b:Nat) (x:Blk) (c:Nat),σ1[i]?=some (some b)->H[i]?=some x->Hid W x b c->g c
 lt:∀b,g b->b<W.heap.size
theorem Qed{σ1:Sig}{a:Nat}(h:σ1.take a=U){i:Nat}(q:U[i]?=some (some b)):σ1[i]?=some (some b):=by
 grind
variable {H':Qc}
section
variable {D:Fix} {ro1:Nat->Prop} {σ1:Sig} {H:Qc} {st:LoopState} {pe:Option Code} {qR g:Nat->Prop} {W:World}
theorem RJ.step(p:D.Ok)(j:RJ D ro1 σ1 H st pe qR g W)(e:Qm g qR W ro' W'):RJ D ro1 σ1 H st pe qR g W':=by
 have hro:=λb q=>(j.roG b q).elim (e.keepRo b) (e.keepFr b);have ev:Qm D.fr1 ro1 W ro1 W':=⟨λ_ q=>q,hro,λb q=>e.keepFr b (j.frG b q),e.size,e.shape,e.os,e.tape,e.output,e.drawn⟩;have h:∀U,Ext ro1 U W ro1 U W':=λ U=>by have:=ev.ext U [];grind
 refine⟨⟨j.sim.len,j.sim.roOk.to (λ_ q=>q) hro (λb q=>X9 (j.sim.roLt b q) e.size),λb q=>X9 (j.sim.frLt b q) e.size,j.sim.roFr,λi b x a f l=>?_,j.sim.inj,λi z x a f=>?_,
  j.sim.hidTo (· = ·) Q6 e.size (by simp) (by simp) λi d y n k u=>.inl ⟨i,y,rfl,n,k,id,λc q=>j.sim.hidKeep n k (λz=>e.keepFr d (j.own i d y n k z)) hro q⟩⟩,
  λt=>(j.env t).mono (h _),j.sig,j.ev.trans (ev.frMono p.sub),j.marks.keep ev,(ev.keepFr _ p.l1).trans j.rc,j.roG,j.frG,j.own,λi b x c a f l=>j.hidG i b x c a f (j.sim.hidKeep a f (λz=>e.keepFr b (j.own i b x a f z)) hro l),λb q=>X9 (j.lt b q) e.size⟩
 .obtain⟨s,r⟩:=j.sim.own i b x a f l;exact⟨X9 s e.size,r⟩
 .refine(j.sim.blk i z x a f).keep (h _) ?_ ?_
  .rintro b rfl m;exact e.keepFr b (j.own i b x a f m)
  .rintro b c rfl m;exact e.keepFr c (j.hidG i b x c a f m)
theorem RJ.up{g':Nat->Prop}(j:RJ D ro1 σ1 H st pe qR g W)(h:∀b,g b->g' b)(hl:∀b,g' b->b<W.heap.size):RJ D ro1 σ1 H st pe qR g' W:=
 {j with roG:=λb q=>(j.roG b q).imp id (h b),frG:=λb q=>h b (j.frG b q),own:=λi b x q1 q2 q3=>h b (j.own i b x q1 q2 q3),hidG:=λi b x c q1 q2 q3=>h c (j.hidG i b x c q1 q2 q3),lt:=hl}
def FrB(D:Fix)(ro1 g:Nat->Prop)(W:World):Nat->Prop:=λb=>(D.fr1 b\/(¬g b/\ ¬ro1 b))/\b<W.heap.size
theorem RJ.simB(j:RJ D ro1 σ1 H st pe qR g W):Sim (FrB D ro1 g W) ro1 σ1 H W:=by
 refine j.sim.frames (λb q=>q.2) (λb q r=>?_) (λi b x e d a r=>?_) (λi b x c e d a r=>r.1.elim (j.sim.hid i b x c e d a).fr λr=>r.1 (j.hidG i b x c e d a))
 .rcases r.1 with r|r
  .exact j.sim.roFr b q r
  grind
 .rcases r.1 with r|r
  .exact(j.sim.own i b x e d a).2.2 r
  .exact r.1 (j.own i b x e d a)
theorem RJ.fin(E:D.Ok)(j:RJ D ro1 σ1 H st pe qR g W){w:Nat->Prop}{σ':Sig}{st':LoopState}{pe':Option Code}
  (ev:Qm (λb=>FrB D ro1 g W b/\b≠D.l) ro1 W ro' W')(s:Sim w ro' σ' H' W')(u:∀b,FrB D ro1 g W b->w b)(hσ:σ'.take D.h1=σ1.take D.h1)(N:W'.heap[D.l]?=some (.loop (D.rc st' pe'))):
  RJ D ro' σ' H' st' pe' qR (λb=>g b\/(W.heap.size<=b/\b<W'.heap.size)) W'/\Qgl g (λb=>g b\/(W.heap.size<=b/\b<W'.heap.size)) W W':=by
 have h:∀b,D.fr1 b->FrB D ro1 g W b:=λb q=>⟨.inl q,j.sim.frLt b q⟩;have evf:=ev.frMono λb q=>⟨h b (E.sub b q),λe=>E.lf (e▸q)⟩;have hext:=ev.ext0 D.U;have z:∀b,b<W.heap.size->b<W'.heap.size:=λb q=>X9 q ev.size;have m:∀b,b<W.heap.size->¬FrB D ro1 g W b->g b\/ro1 b:=by
  intro b f J;by_cases n:g b
  .exact .inl n
  .by_cases a:ro1 b
   .exact .inr a
   .exact absurd ⟨.inr ⟨n,a⟩,f⟩ J
 refine⟨⟨s.frames (λb q=>z b (j.sim.frLt b q)) (λb q r=>s.roFr b q (u b (h b r))) (λi b x n a p r=>(s.own i b x n a p).2.2 (u b (h b r))) (λi b x c n a p r=>(s.hid i b x c n a p).fr (u c (h c r))),
  λt=>(j.env t).mono hext,hσ.trans j.sig,j.ev.trans evf,⟨j.marks.1,λd L=>?_⟩,N,λb q=>?_,λb q=>.inl (j.frG b q),λi b x n a p=>?_,λi b x c n a p=>?_,λb q=>q.elim (λq=>z b (j.lt b q)) (λq=>q.2)⟩,
  ⟨λb q=>.inl q,(by grind),λb q=>q.elim (λq=>z b (j.lt b q)) (λq=>q.2),(by omega),λb n a=>?_,ev.size,ev.shape,ev.os,ev.tape,ev.output,ev.drawn⟩⟩
 .obtain⟨B,M,F,y⟩:=j.marks.2 d L;refine⟨B,M,F,(ev.keepFr B ⟨h B F,λe=>?_⟩).trans y⟩;subst e;rw[j.rc]at y;cases y
 .rcases Vw b W.heap.size with f|f
  .rcases m b f (λr=>s.roFr b q (u b r))with r|r
   .grind
   .exact(j.roG b r).imp id .inl
  .exact .inr (.inr ⟨f,s.roLt b q⟩)
 .obtain⟨P,O,G⟩:=s.own i b x n a p;rcases Vw b W.heap.size with f|f
  .rcases m b f (λr=>G (u b r))with r|r
   .exact .inl r
   .exact absurd (ev.sub b r) O
  omega
 .have k:=s.hid i b x c n a p;rcases Vw c W.heap.size with f|f
  .rcases m c f (λr=>k.fr (u c r))with r|r
   .exact .inl r
   .exact absurd (ev.sub c r) k.ro
  .exact .inr ⟨f,k.lt⟩
 .by_cases r:ro1 b
  .exact ev.keepRo b r
  .exact ev.keepFr b ⟨(by grind),λe=>a (j.frG b (e▸E.l1))⟩
end
theorem Sim.roAdd{a:Nat->Prop}{H:Qc}(s:Sim fr ro U H w)(f:∀b,a b->b<w.heap.size)(e:∀b,a b->¬fr b)(h:∀(i b:Nat) (x:Blk),U[i]?=some (some b)->H[i]?=some x->x.live=true->¬a b)
  (j:∀(i b:Nat) (x:Blk) (c:Nat),U[i]?=some (some b)->H[i]?=some x->Hid w x b c->¬a c):Sim fr (λb=>ro b\/a b) U H w:=by
 have ext:Ext ro U w (λb=>ro b\/a b) U w:=⟨λ_ q=>.inl q,λ_ _=>rfl,λ_ _ q=>q,λ_ _ q=>q⟩;refine⟨s.len,s.roOk.to (λ_ q=>.inl q) (λ_ _=>rfl) (λb q=>q.elim (s.roLt b) (f b)),s.frLt,λb q=>q.elim (s.roFr b) (e b),λi b x g d k=>?_,s.inj,λi y x g d=>(s.blk i y x g d).keep ext (λ_ _ _=>rfl) (λ_ _ _ _=>rfl),
  s.hidTo (· = ·) Q6 (XQ _) (by grind) (by simp) (by grind)⟩
 obtain⟨n,m,l⟩:=s.own i b x g d k
 grind
theorem RJ.roAdd{D:Fix}{ro1:Nat->Prop}{σ1:Sig}{H:Qc}{st:LoopState}{pe:Option Code}{qR ri g:Nat->Prop}{W:World}(j:RJ D ro1 σ1 H st pe qR g W)(hq:∀b,qR b->ri b)(hI:∀b,ri b->b<W.heap.size/\ ¬g b):RJ D (λb=>ro1 b\/ri b) σ1 H st pe ri g W:=
 {j with
  sim:=j.sim.roAdd (λb q=>(hI b q).1) (λb q z=>(hI b q).2 (j.frG b z)) (λi b x q1 q2 q3 z=>(hI b z).2 (j.own i b x q1 q2 q3)) (λi b x c q1 q2 q3 z=>(hI c z).2 (j.hidG i b x c q1 q2 q3))
  env:=λt=>(j.env t).mono ⟨λ_ q=>.inl q,λ_ _=>rfl,λ_ _ q=>q,λ_ _ q=>q⟩
  ev:=j.ev.trans (YV λ_ q=>.inl q)
  roG:=λb q=>q.elim (λq=>(j.roG b q).imp (hq b) id) .inl}
def QnF:List Nat->List A->Env->Env
 |p::ps,a::zs,env=>QnF ps zs (up env p a)
 |_,_,env=>env
def Qkp:List Nat->List Value->Array Value->Array Value
 |p::ps,v::vs,t=>Qkp ps vs (t.setIfInBounds p v)
 |_,_,t=>t
theorem QgM:∀(ps:List Nat) (vs:List Value) (t:Array Value),(Qkp ps vs t).size=t.size
 |[],_,_=>rfl
 |_::_,[],_=>rfl
 |p::ps,v::vs,t=>by simp[Qkp,QgM ps]
theorem QgN:∀(ps:List Nat) (vs:List Value) (t:Array Value),(ps.toArray.zip vs.toArray).foldl (λt (p,v)=>t.setIfInBounds p v) t=Qkp ps vs t
 |[],vs,t=>by rw[<- Array.foldl_toList,Array.toList_zip];rfl
 |p::ps,[],t=>by rw[<- Array.foldl_toList,Array.toList_zip];rfl
 |p::ps,v::vs,t=>by
  have:=QgN ps vs (t.setIfInBounds p v);rw[<- Array.foldl_toList,Array.toList_zip]at this⊢;exact this
theorem Qlv{ro:Nat->Prop}{U:Sig}{w:World}:∀(ps:List Nat) (zs:List A) (vs:List Value) (env:Env) (t:Array Value),LR ro U w zs vs->(∀p∈ps,p<t.size)->(∀s,VR ro U w (lk env s) (t.getD s undef))->
  ∀s,VR ro U w (lk (QnF ps zs env) s) ((Qkp ps vs t).getD s undef)
 |[],_,_,_,_,_,_,h=>h
 |p::ps,[],vs,_,_,hv,_,h=>by
  obtain rfl:vs=[]:=hv;exact h
 |p::ps,a::zs,vs,env,t,hv,hp,h=>by
  obtain⟨v,vs',rfl,h0,hv'⟩:=hv;have h1:=VR.up (fr:=λ_=>False) (a:={tmps:=t,defers:=[]}) h (hp p (by simp)) h0;exact Qlv ps zs vs' (up env p a) (t.setIfInBounds p v) hv' (λq hq=>by grind) h1
def Qla(h1:Nat)(env:Env)(Q:QR)(K:Qc->Prop):QR
 |.normal,env',H'=>∃H2,Le h1 env' H' [] H2/\K H2
 |.exit id,env',H'=>∃H2,Le h1 env' H' [] H2/\Q (.exit id) env H2
 |.ret,env',H'=>∃H2,Le h1 env' H' [] H2/\Q .ret env H2
def Jump(Q:QR)(env:Env)(c:Code)(H:Qc):Prop:=(∃id,c=.exit id/\Q (.exit id) env H)\/(c=.ret/\Q .ret env H)
variable {cs:List A}
section
variable {D:Fix} {ro0:Nat->Prop} {σ1:Sig} {H:Qc} {qR ri g:Nat->Prop} {W:World} {P:Program} {N:Nat} {Q:QR} {K:Qc->Prop}
theorem RJ.round{fn:FuncId}{ps:List Nat}{assign body:Code}{df:Nat}{vs:List Value}(hD:D.Ok)(M:D.rc=λst pe=>{state:=st,pending:=pe,fn:=fn,tmps:=D.tmps,params:=ps.toArray,assign:=assign,body:=body,defers:=df})
  (hN:D.tmps.size=N)(ak:∀p∈ps,p<N)(aj:cs.length=ps.length)(hq:∀b,qR b->ri b)(hI:∀b,ri b->b<W.heap.size/\ ¬g b)(aa:LR ri [] W cs vs)(j0:RJ D ro0 σ1 H .ready none qR g W)
  (h:TC P D.h1 N assign (QnF ps cs D.env) H λe env1 H1=>e=.normal/\TC P D.h1 N body env1 H1 (Qla D.h1 D.env Q K)):
  YieldAt Fence.wide 0 P D.l vs.toArray W λe W'=>∃g',Qgl g g' W W'/\((e=.returned (.bool true)/\ ∃H2 ro2 σ2,K H2/\RJ D ro2 σ2 H2 .ready none ri g' W')\/
   (e=.returned (.bool false)/\ ∃H2 c ro2 σ2,Jump Q D.env c H2/\RJ D ro2 σ2 H2 .done (some c) ri g' W')):=by
 have al:vs.length=cs.length:=aa.length;have j:=j0.roAdd hq hI;have t:LR (λb=>ro0 b\/ri b) σ1 W cs vs:=aa.mono ⟨λ_ q=>.inr q,λ_ _=>rfl,λ_ _ q=>q,λi b q=>by simp at q⟩;clear j0;generalize(λb=>ro0 b\/ri b)=ro1 at j t;have ag:∀b,D.fr1 b->FrB D ro1 g W b:=λb q=>⟨.inl q,j.sim.frLt b q⟩;have y:=ag _ hD.l1;have R:=j.rc;have hy:=run_yield (P:=P) (r:=D.rc .ready none) (args:=vs.toArray) R (by grind);refine⟨fn,Qkp ps vs D.tmps,assign,body,?_,?_⟩
 .grind[QgN]
 .refine roundIn_of_wpIn trivial ?_;show Code.wpIn (WF (some D.l)) 0 P _ _ _ _;have J:∀s,VR ro1 σ1 W (lk D.env s) (D.tmps.getD s undef):=λs=>(j.env s).mono ⟨λ_ q=>q,λ_ _=>rfl,λ_ _ q=>q,λi b q=>Qed j.sig q⟩;have ai:Qd4 (some D.l) (FrB D ro1 g W) W:=λl e=>by grind
  have w1:=h (some D.l) (FrB D ro1 g W) ro1 σ1 {tmps:=Qkp ps vs D.tmps,defers:=[]} W ⟨j.simB,Qlv ps cs vs D.env D.tmps t (by grind) J,by simp[QgM,hN],List.nodup_nil,λd hd=>by cases hd⟩ ai;refine Code.wpIn_mono ?_ w1;rintro e a1 w1 ⟨x1,env1,H1,ro2,σ2,n,h1,⟨rfl,h2⟩,L,h4,h5,h6⟩;cases e with
  |normal=>
   have O:w1.heap[D.l]?=some (.loop (D.rc .ready none)):=(h4.keepFr _ y).trans R;refine⟨_,run_beginRound O (by rw[M]),?_⟩;obtain⟨s2,x⟩:=L.sim.put (obj:=.loop {D.rc .ready none with state:=.busy}) (h6.sub _ y) (QcL O);have E:D.l<w1.heap.size:=by grind
   have ah:(w1.putObj D.l (.loop {D.rc .ready none with state:=.busy})).heap[D.l]?=some (.loop {D.rc .ready none with state:=.busy}):=World.putObj_heap_same E;generalize hw2:w1.putObj D.l (.loop {D.rc .ready none with state:=.busy})=w2 at*;have ae:QcJ n a1.defers w2:=by
    refine⟨L.defers.1,λd hd=>?_⟩;obtain⟨B,e1,e2,e3⟩:=L.defers.2 d hd;refine⟨B,e1,e2,(x.keepFr B (λe=>?_)).trans e3⟩
    grind
   have r2:Rel n ro2 σ2 H1 env1 N a1 w2:=⟨s2,λs=>(L.env s).mono (x.ext0 σ2),L.size,ae⟩;have Y:n D.l:=h6.sub _ y;refine Code.wpIn_mono ?_ (h2 (some D.l) n ro2 σ2 a1 w2 r2 (λl e=>by grind));rintro e a3 w3 ⟨x3,V,H3,z,σ3,G,g1,g2,g3,g4,g5,g6⟩;have k:w3.heap[D.l]?=some (.loop {D.rc .ready none with state:=.busy}):=(g4.keepFr _ Y).trans ah;have u:∀(H2:Qc) (jump:Option Code),Le D.h1 V H3 [] H2->∃v m,(Instr.endRound D.l jump).run P w3=.ok v m/\v=.bool jump.isNone/\ ∃g',Qgl g g' W m/\ ∃a σ4,RJ D a σ4 H2 (if jump.isNone then .ready else .done) jump ri g' m:=by
    intro H2 jump f;obtain⟨a,σ4,r4,s4,t4⟩:=f G z σ3 N a3 w3 g3;refine⟨_,_,run_endRound jump k,rfl,?_⟩;have ac:G D.l:=g6.sub _ Y;obtain⟨s5,ab⟩:=r4.sim.put ac (QcL k);have F:D.l<w3.heap.size:=by rw[X7]at k;exact k.1
    have af:=World.putObj_heap_same (w:=w3) (r:=D.l) (o:=.loop {{D.rc .ready none with state:=.busy}with state:=if jump.isNone then .ready else .done,pending:=jump}) F;have e1:Qm (λb=>FrB D ro1 g W b/\b≠D.l) ro1 W ro2 w1:=h4.frMono λb q=>q.1;have e2:Qm (λb=>FrB D ro1 g W b/\b≠D.l) ro2 w1 ro2 w2:=x.frMono λb q=>q.2;have e3:Qm (λb=>FrB D ro1 g W b/\b≠D.l) ro2 w2 z w3:=g4.frMono λb q=>h6.sub b q.1;have e4:Qm (λb=>FrB D ro1 g W b/\b≠D.l) z w3 a w3:=YV s4;have e5:=(((e1.trans e2).trans e3).trans e4).trans (ab.frMono λb (q:FrB D ro1 g W b/\b≠D.l)=>q.2);obtain⟨q1,q2⟩:=j.fin hD e5 s5 (λb q=>g6.sub b (h6.sub b q)) (by rw[t4,g5,h5]) (st':=if jump.isNone then .ready else .done) (pe':=jump) (by rw[af,M]);exact⟨_,q2,a,σ4,q1⟩
   cases e with
   |normal=>
    obtain rfl:x3=.normal:=g1;obtain⟨H2,f,T⟩:=g2;obtain⟨v,m,k1,rfl,g',k2,a,σ4,X⟩:=u H2 none f;exact⟨_,m,k1,g',k2,.inl ⟨rfl,H2,a,σ4,T,X⟩⟩
   |exit id=>
    obtain rfl:x3=.exit id:=g1;obtain⟨H2,f,T⟩:=g2;obtain⟨v,m,k1,rfl,g',k2,a,σ4,X⟩:=u H2 (some (.exit id)) f;exact⟨_,m,k1,g',k2,.inr ⟨rfl,H2,_,a,σ4,.inl ⟨id,rfl,T⟩,X⟩⟩
   |ret=>
    obtain rfl:x3=.ret:=g1;obtain⟨H2,f,T⟩:=g2;obtain⟨v,m,k1,rfl,g',k2,a,σ4,X⟩:=u H2 (some .ret) f;exact⟨_,m,k1,g',k2,.inr ⟨rfl,H2,_,a,σ4,.inr ⟨rfl,T⟩,X⟩⟩
   |_=>exact g1.elim
  |exit id=>cases h1
  |ret=>cases h1
  |_=>exact h1.elim
end
theorem Sim.beside{H:Qc}{w1:World}(s:Sim fr ro U H w)(ev:Qm fr ro w ro w1)(a:∀b,b<w.heap.size->w1.heap[b]?=w.heap[b]?):Sim (λb=>fr b\/(w.heap.size<=b/\b<w1.heap.size)) ro U H w1:=by
 have hext:=ev.ext0 U;refine⟨s.len,s.roOk.to (λ_ q=>q) ev.keepRo (λb q=>X9 (s.roLt b q) ev.size),λb q=>q.elim (λq=>X9 (s.frLt b q) ev.size) (λq=>q.2),λb q r=>?_,λi b x f e h=>?_,s.inj,λi z x f e=>?_,
  s.hidTo (· = ·) Q6 ev.size (by simp) (λi b x c f e h m=>m.elim id λq=>(by have:=(s.hid i b x c f e h).lt;omega)) λj d y l g n=>.inl ⟨j,y,rfl,l,g,id,λc q=>s.hidKeep l g (λz=>a d (s.own j d y l g z).1) ev.keepRo q⟩⟩
 .rcases r with r|r
  .exact s.roFr b q r
  .have:=s.roLt b q;omega
 .obtain⟨u,t,p⟩:=s.own i b x f e h
  grind
 .refine(s.blk i z x f e).keep hext ?_ ?_
  .rintro b rfl k;exact a b (s.own i b x f e k).1
  .rintro b c rfl k;exact a c (s.hid i b x c f e k).lt
theorem Qcp{o:Obj}(a:b<w.heap.size):(w.alloc o).heap[b]?=w.heap[b]? :=by
 show(w.heap.push o)[b]?=_
 grind
theorem QoG{fn:FuncId}{tmps:Array Value}{ps:Array Tmp}{assign body:Code}(f:Qd4 rd fr w)(p:∀b,ro b->b<w.heap.size)(r:∀b,fr b->b<w.heap.size):
  ∃l mark w1 df,(Instr.enterLoop fn tmps ps assign body rd).run P w=.ok (l,mark) w1/\w.heap.size<=l/\l<w1.heap.size/\w1.heap[l]?=some (.loop {state:=.ready,pending:=none,fn:=fn,tmps:=tmps,params:=ps,assign:=assign,body:=body,defers:=df})/\
   (∀b,b<w.heap.size->w1.heap[b]?=w.heap[b]?)/\mark.Nodup/\(∀d∈mark,∃D,d={target:=.collected D,args:= #[]}/\w.heap.size<=D/\D<w1.heap.size/\w1.heap[D]?=some (.deferred (some [])))/\Qm fr ro w ro w1:=by
 have e:∀w1,(∀b,b<w.heap.size->w1.heap[b]?=w.heap[b]?)->w.heap.size<=w1.heap.size->w1.os=w.os->w1.tape=w.tape->w1.output=w.output->w1.drawn=w.drawn->Qm fr ro w ro w1:=by
  intro w1 y t n k s u;refine⟨λ_ q=>q,(by grind),(by grind),t,λb x q=>?_,n,k,s,by omega⟩
  grind[World.shape?]
 cases rd with
 |none=>
  have a:∀b,b<w.heap.size->((w.alloc (.deferred (some []))).alloc (.loop {state:=.ready,pending:=none,fn:=fn,tmps:=tmps,params:=ps,assign:=assign,body:=body,defers:=w.heap.size})).heap[b]?=w.heap[b]? :=λb g=>
   (Qcp (by simp;omega)).trans (Qcp g)
  refine⟨_,_,_,w.heap.size,run_enterLoop_outer fn tmps ps assign body,by omega,by simp,?_,a,by simp,?_,e _ a (by simp;omega) rfl rfl rfl rfl⟩
  .grind[World.alloc_heap_new,World.size_alloc]
  .intro d m;obtain rfl:=Vv.1 m;exact⟨_,rfl,XQ _,by simp;omega,(Qcp (by simp)).trans (World.alloc_heap_new w _)⟩
 |some i=>
  obtain⟨_,h,j⟩:=f i rfl;have a:∀b,b<w.heap.size->(w.alloc (.loop {state:=.ready,pending:=none,fn:=fn,tmps:=tmps,params:=ps,assign:=assign,body:=body,defers:=h.defers})).heap[b]?=w.heap[b]? :=λb g=>Qcp g;exact⟨_,_,_,h.defers,run_enterLoop_inner j fn tmps ps assign body,XQ _,by simp,World.alloc_heap_new w _,a,List.nodup_nil,(by simp),e _ a (by simp) rfl rfl rfl rfl⟩
theorem TC.rangeFunc{P:Program}{h0 N:Nat}{ac:Operand}{ps:List Nat}{assign body:Code}{env:Env}{H:Qc}{Q:QR}{f:FuncId}{ah af:List A}{Hc:Qc}{T S:Type}{enc:T->List A}{nx:List T->T->List T->Prop}{xs:List T}
  (π:List Nat)(Hp:S->Qc)(V:S->List T->Prop)(s0:S)(hh:h0<=H.length)(hg:opA env ac=.fn (.func f) [] ah)(hargs:ah=Qai (rho π H.length) af)(hH:π.map (λp=>H[p]?)=(Hc.map (Q5 (rho π H.length))).map some)(hπ:π.Nodup)
  (bf:(ps.all λp=>Nat.blt p N)=true)(eg:∀args w,(callFunc f args).run P w=.ok (.enter f args) w)(aw:Qit P f af Hc enc nx xs)(a2:∀x,(enc x).length=ps.length)
  (be:Le H.length env (Qem H π) env (Hp s0))(hV:V s0 xs)
  (ao:∀s l x rem,V s l->nx l x rem->TC P H.length N assign (QnF ps (enc x) env) (Hp s) λe env1 H1=>e=.normal/\TC P H.length N body env1 H1 (Qla H.length env Q λH2=>∃s',V s' rem/\H2=Hp s'))
  (an:∀s,V s []->Q .normal env (Hp s)):TC P h0 N (.rangeFunc ac ps.toArray assign body) env H Q:=by
 intro rd fr ro U a w r hrd;have hv:=Qh r ac;rw[hg]at hv;obtain⟨l1,E,hv,a9,av⟩:=hv;obtain rfl:l1=[]:=a9;refine wpIn_rangeFunc ?_;intro fn bi;obtain⟨l,G,w1,df,he,hl,a7,a1,az,bg,aj,aa⟩:=QoG (P:=P) (fn:=fn) (tmps:=a.tmps) (ps:=ps.toArray) (assign:=assign) (body:=body) (ro:=ro) hrd r.sim.roLt r.sim.frLt;have s1:=r.sim.beside aa az
 let D:Fix:=⟨fr,ro,U,w,H.length,env,a.tmps,G++a.defers,l,(λst pe=>{state:=st,pending:=pe,fn:=fn,tmps:=a.tmps,params:=ps.toArray,assign:=assign,body:=body,defers:=df}),(λb=>fr b\/(w.heap.size<=b/\b<w1.heap.size))⟩
 have ag:¬fr l:=λq=>by have:=r.sim.frLt l q;omega
 have hD:D.Ok:=⟨λb q=>.inl q,.inr ⟨hl,a7⟩,ag,r.sim.len⟩;have M:QcJ D.fr1 (G++a.defers) w1:=by
  refine⟨List.nodup_append.2 ⟨bg,r.defers.1,λd R d' a8 e=>?_⟩,λd R=>?_⟩
  .subst e;obtain⟨B,e1,e2,_⟩:=aj d R;obtain⟨B',ar,bc,_⟩:=r.defers.2 d a8;rw[e1]at ar;have:B=B':=by simpa using ar
   subst this;have:=r.sim.frLt B bc;omega
  .rcases Vx.1 R with R|R
   .obtain⟨B,e1,e2,e3,e4⟩:=aj d R;exact⟨B,e1,.inr ⟨e2,e3⟩,e4⟩
   .obtain⟨B,e1,e2,e3⟩:=(r.defers.keep aa).2 d R;exact⟨B,e1,.inl e2,e3⟩
 obtain⟨sp,hσc⟩:=s1.part hH hπ;have al:LR ro (YA U π) w1 af E:=(QbD hσc).1 (hargs▸av.mono (aa.ext0 U))
 let frX:Nat->Prop:=λb=>D.fr1 b\/(∃(j:Nat) (x:Blk),(YA U π)[j]?=some (some b)/\Hc[j]?=some x/\x.live=true)\/ ∃(j:Nat) (x:Blk) (d:Nat),(YA U π)[j]?=some (some d)/\Hc[j]?=some x/\Hid w1 x d b
 have sX:Sim frX ro U (Qem H π) w1:=by
  refine(Qd3 π s1).frames (λb q=>?_) (λb q r=>?_) (λi b x n m k r=>?_) (λi b x c n m k r=>?_)
  .rcases q with q|⟨j,x,n,m,k⟩|⟨j,x,d,n,m,k⟩
   .exact s1.frLt b q
   .exact(sp.own j b x n m k).1
   .exact(sp.hid j d x b n m k).lt
  .rcases r with r|⟨j,x,n,m,k⟩|⟨j,x,d,n,m,k⟩
   .exact s1.roFr b q r
   .exact(sp.own j b x n m k).2.1 q
   .exact(sp.hid j d x b n m k).ro q
  .rcases QfB _ _ _ _ m with rfl|⟨m,hi⟩
   .cases k
   .rcases r with r|⟨j,y,p1,Y,p3⟩|⟨j,y,d,p1,Y,p3⟩
    .exact(s1.own i b x n m k).2.2 r
    .exact(sp.own j b y p1 Y p3).2.2 (.inr (.inl ⟨i,x,n,m,k,hi (QbI k)⟩))
    .exact(sp.hid j d y b p1 Y p3).fr (.inr (.inl ⟨i,x,n,m,k,hi (QbI k)⟩))
  .rcases QfB _ _ _ _ m with rfl|⟨m,hi⟩
   .exact k.elim
   .rcases r with r|⟨j,y,p1,Y,p3⟩|⟨j,y,d,p1,Y,p3⟩
    .exact(s1.hid i b x c n m k).fr r
    .exact(sp.own j c y p1 Y p3).2.2 (.inr (.inr ⟨i,x,b,n,m,k,hi k.holds⟩))
    .exact(sp.hid j d y c p1 Y p3).fr (.inr (.inr ⟨i,x,b,n,m,k,hi k.holds⟩))
 have rX:Rel frX ro U (Qem H π) env N {a with defers:=G++a.defers} w1:=
  ⟨sX,λs=>(r.env s).mono (aa.ext0 U),r.size,M.1,λd R=>let⟨B,e1,e2,e3⟩:=M.2 d R;⟨B,e1,.inl e2,e3⟩⟩
 obtain⟨ae,σ',r',ab,a4⟩:=be frX ro U N _ w1 rX;have hσt:U.take H.length=U:=by rw[<- r.sim.len,X4]
 let g0:Nat->Prop:=λb=>D.fr1 b\/(ae b/\ ¬ro b)\/(∃(i:Nat) (x:Blk),σ'[i]?=some (some b)/\(Hp s0)[i]?=some x/\x.live=true)\/ ∃(i:Nat) (x:Blk) (d:Nat),σ'[i]?=some (some d)/\(Hp s0)[i]?=some x/\Hid w1 x d b
 have j0:RJ D ae σ' (Hp s0) .ready none ro g0 w1:=by
  refine⟨r'.sim.frMono λb q=>.inl q,λt=>(r.env t).mono ⟨ab,aa.keepRo,aa.shape,λ_ _ q=>q⟩,a4.trans hσt,aa.trans (YV ab),M,a1,λb q=>?_,λb q=>.inl q,λi b x n m k=>.inr (.inr (.inl ⟨i,x,n,m,k⟩)),λi b x c n m k=>.inr (.inr (.inr ⟨i,x,b,n,m,k⟩)),λb q=>?_⟩
  .by_cases z:ro b
   .exact .inl z
   .exact .inr (.inr (.inl ⟨q,z⟩))
  .rcases q with q|q|⟨i,x,n,m,k⟩|⟨i,x,d,n,m,k⟩
   .exact s1.frLt b q
   .exact r'.sim.roLt b q.1
   .exact(r'.sim.own i b x n m k).1
   .exact(r'.sim.hid i d x b n m k).lt
 have sI:Sim g0 ro (YA U π) Hc w1:=by
  refine sp.frames (λb q=>j0.lt b q) (λb q z=>?_) (λj b x n m k z=>?_) (λj b x c n m k z=>?_)
  .rcases z with z|z|⟨i,x,n,m,k⟩|⟨i,x,d,n,m,k⟩
   .exact s1.roFr b q z
   .exact z.2 q
   .exact(r'.sim.own i b x n m k).2.1 (ab b q)
   .exact(r'.sim.hid i d x b n m k).ro (ab b q)
  .have hX:frX b:=.inr (.inl ⟨j,x,n,m,k⟩);rcases z with z|z|⟨i,y,p1,Y,p3⟩|⟨i,y,d,p1,Y,p3⟩
   .exact(sp.own j b x n m k).2.2 (.inl z)
   .exact r'.sim.roFr b z.1 hX
   .exact(r'.sim.own i b y p1 Y p3).2.2 hX
   .exact(r'.sim.hid i d y b p1 Y p3).fr hX
  .have hX:frX c:=.inr (.inr ⟨j,x,b,n,m,k⟩);rcases z with z|z|⟨i,y,p1,Y,p3⟩|⟨i,y,d,p1,Y,p3⟩
   .exact(sp.hid j b x c n m k).fr (.inl z)
   .exact r'.sim.roFr c z.1 hX
   .exact(r'.sim.own i c y p1 Y p3).2.2 hX
   .exact(r'.sim.hid i d y c p1 Y p3).fr hX
 let X:Ctx T:={l:=l,J:=λrem q g W=>∃s F σ1,V s rem/\RJ D F σ1 (Hp s) .ready none q g W,Jx:=λ_ q g W=>∃H2 c F σ1,Jump Q env c H2/\RJ D F σ1 H2 .done (some c) q g W,enc:=enc,nx:=nx}
 have a0:∀p∈ps,p<N:=λp hp=>by simpa using Xs.1 bf p hp
 have hX:X.ok P:=by
  refine⟨⟨λrem q g W W' ae ⟨s,F,σ1,L,O⟩ he=>⟨s,F,σ1,L,O.step hD he⟩,λrem q g g' W ⟨s,F,σ1,L,O⟩ hg hl=>⟨s,F,σ1,L,O.up hg hl⟩⟩,
   ⟨λrem q g W W' ae ⟨H2,c,F,σ1,L,O⟩ he=>⟨H2,c,F,σ1,L,O.step hD he⟩,λrem q g g' W ⟨H2,c,F,σ1,L,O⟩ hg hl=>⟨H2,c,F,σ1,L,O.up hg hl⟩⟩,?_⟩
  rintro lr x rem q g ri W vs bd ⟨s,F,σ1,L,O⟩ hq hI a5;obtain⟨bb,tm,a3,ba,y1,y2⟩:=RJ.round (D:=D) (Q:=Q) (K:=λH2=>∃s',V s' rem/\H2=Hp s') hD rfl r.size a0 (a2 x) hq hI a5 O (ao s lr x rem L bd);refine⟨bb,tm,a3,ba,y1,RoundIn.mono y2 ?_⟩;rintro e W' ⟨g',k1,k2⟩;refine⟨g',ri,λ_ z=>z,k1,?_⟩;rcases k2 with⟨rfl,H2,u,σ2,⟨s',a6,rfl⟩,k3⟩|⟨rfl,H2,c,u,σ2,k3,k4⟩
  .exact .inl ⟨rfl,s',u,σ2,a6,k3⟩
  .exact .inr ⟨rfl,H2,c,u,σ2,k3,k4⟩
 have ay:∀(ev:Operand->Value),ev ac=.func (.func f) #[] E.toArray->ev (.const (.func (.yield l) #[] #[]))=.func (.yield l) #[] #[]->(resolve ev (rangeCall ac l) 0).run P w1=.ok {target:=.fn (.func f) E.toArray,args:= #[.func (.yield l) #[] #[]]} w1:=by
  intro ev L O;simp[resolve,go_sem,L,O]
 refine⟨l,G,w1,{target:=.fn (.func f) E.toArray,args:= #[.func (.yield l) #[] #[]]},w1,f, #[.func (.yield l) #[] #[]]++E.toArray,w1,he,ay a.eval hv rfl,λ_ _=>trivial,by simp[invoke,go_sem,eg],λh=>by simp[WF,Fence.wide]at h,?_⟩;refine WF.calls.2 ?_;have am:=aw X rfl rfl hX g0 ro (YA U π) w1 E ro sI (λ_ z=>z) al ⟨s0,ae,σ',hV,j0⟩;have ak:(#[.func (.yield l) #[] #[]]++E.toArray:Array Value)=((Value.func (.yield X.l) #[] #[]::E)).toArray:=by simp[X]
 rw[ak];refine Calls.mono am ?_;rintro e W' ⟨⟨v,rfl⟩,g2,qz,bh,aq⟩;have fin:∀(H2:Qc) (st:LoopState) (pe:Option Code) (u:Nat->Prop) (σ2:Sig),st≠ .busy->RJ D u σ2 H2 st pe qz g2 W'->∃w4,(Instr.endLoop l).run P W'=.ok pe w4/\Rel D.fr1 u σ2 H2 env N {a with defers:=G++a.defers} w4/\Qm fr ro w u w4:=by
  intro H2 st pe u σ2 hst j;refine⟨_,run_endLoop j.rc (by exact hst),?_⟩;obtain⟨s5,ai⟩:=j.sim.put (obj:=.loop {(D.rc st pe)with state:=.exhausted}) hD.l1 (QcL j.rc);have hr:=j.rc;refine⟨⟨s5,λt=>((j.env t).mono ⟨λ_ q=>q,λ_ _=>rfl,λ_ _ q=>q,λi b q=>Qed j.sig q⟩).mono (ai.ext0 σ2),r.size,j.marks.1,λd R=>?_⟩,j.ev.trans (ai.frMono λb q e=>ag (by have e':b=l:=e;rw[<- e'];exact q))⟩;obtain⟨B,e1,e2,e3⟩:=j.marks.2 d R;refine⟨B,e1,e2,(ai.keepFr B (λe=>?_)).trans e3⟩;subst e;rw[hr]at e3;cases e3
 have au:Grow fr w a.defers D.fr1 (G++a.defers):=by
  refine⟨λb q=>.inl q,λb q=>q.imp id (λq=>q.1),λd R=>?_⟩;rcases Vx.1 R with R|R
  .obtain⟨B,e1,e2,_⟩:=aj d R;exact .inr ⟨B,e1,e2⟩
  .exact .inl R
 have ax:∀{σ2:Sig},σ2.take H.length=U->σ2.take h0=U.take h0:=by
  intro σ2 h;have:=congrArg (List.take h0) h
  rwa [List.take_take,Xz hh]at this
 rcases aq with⟨s,u,σ2,L,O⟩|⟨rem,H2,c,u,σ2,L,O⟩
 .obtain⟨w4,f1,f2,f3⟩:=fin _ _ _ u σ2 (by intro e;cases e) O;exact⟨none,w4,f1,.normal,env,_,u,σ2,_,rfl,an s L,f2,f3,ax O.sig,au⟩
 .obtain⟨w4,f1,f2,f3⟩:=fin _ _ _ u σ2 (by intro e;cases e) O;refine⟨some c,w4,f1,?_⟩;have hc:TC P h0 N c env H2 Q:=by
   rcases L with⟨id,rfl,L⟩|⟨rfl,L⟩
   .exact TC.exit L
   .exact TC.ret L
  exact Code.wpIn_mono (λe a w q=>q.grow f3 (ax O.sig) au) (hc rd D.fr1 u σ2 _ w4 f2 (hrd.to f3 λb q=>.inl q))
variable {env:Env}{k t:Nat}
theorem Qka{i T:Nat}{H:Qc}(hh:Nat.ble h0 H.length=true)(hH:H[i]?=some (.cells T [.nils])):Le h0 env H env (H.set i (.cells T [.osl H.length 0 0 k])++[.row t k []]):=by
 intro fr G U N a w r;have B:h0<=H.length:=(by simp_all);have hi:i<H.length:=(by grind);have ext:Ext G U w G (U++[none]) w:=⟨λ_ q=>q,λ_ _=>rfl,λ_ _ q=>q,(by grind)⟩;have s:=r.sim.phantom t k;have m:(H++[Blk.row t k []])[i]?=some (.cells T [.nils]):=by grind
 have V:H.set i (.cells T [.osl H.length 0 0 k])++[.row t k []]=(H++[Blk.row t k []]).set i (.cells T [.osl H.length 0 0 k]):=by
  grind
 have f:∀(j:Nat) (v:Blk),((H++[Blk.row t k []]).set i (.cells T [.osl H.length 0 0 k]))[j]?=some v->(j=i/\v=.cells T [.osl H.length 0 0 k])\/(j≠i/\(H++[Blk.row t k []])[j]?=some v):=by
  grind
 have e:∀(j:Nat) (v:Blk),((H++[Blk.row t k []]).set i (.cells T [.osl H.length 0 0 k]))[j]?=some v->v.live=true->∃p,(H++[Blk.row t k []])[j]?=some p/\p.live=true:=by
  intro j v h hv;rcases f j v h with⟨rfl,rfl⟩|⟨_,h⟩
  .exact⟨_,m,rfl⟩
  grind
 refine⟨G,U++[none],⟨?_,λq=>(r.env q).mono ext,r.size,r.defers⟩,λ_ q=>q,QF (by rw[r.sim.len];exact B)⟩;rw[V];refine⟨by rw[XZ];exact s.len,s.roOk,s.frLt,s.roFr,λj b v u z F=>?_,λj L b v p u z F O Q P=>?_,λj y v u z=>?_,
  s.hidTo (· = ·) Q6 (XQ _) (by simp) (by simp) λj d y g n M=>.inl ?_⟩
 rotate_left 3
 .rcases f j y n with⟨rfl,rfl⟩|⟨_,h⟩
  .exact⟨j,_,rfl,g,m,λ_=>rfl,λ_ q=>q.elim⟩
  grind
 .obtain⟨p,g,n⟩:=e j v z F;exact s.own j b p u g n
 .obtain⟨x,g,n⟩:=e j v F Q;obtain⟨W,J,E⟩:=e L p O P;exact s.inj j L b x W u z g J n E
 .rcases f j v z with⟨rfl,rfl⟩|⟨_,h⟩
  .have:=s.blk j y _ u m;cases y with
   |none=>exact this
   |some b=>
    obtain⟨l,g,⟨R,Y,rfl,n,M⟩,X⟩:=this;refine⟨_,g,⟨R,Y,rfl,.inl ⟨rfl,n⟩,?_⟩,X⟩;omega
  .exact s.blk j y v u h
theorem Qmk{i:Nat}{H:Qc}{es:List (A×A)}(hH:H[i]?=some (.map es)):Le h0 env H env (H.set i (.fmap es)):=by
 intro e f U N a w r;have d:∃s,U[i]?=some s:=by
  have:i<U.length:=by rw[r.sim.len];grind
  simp_all
 obtain⟨s,d⟩:=d;cases s with
 |none=>exact(r.sim.blk i _ _ d hH).elim
 |some b=>
  refine⟨_,U,⟨r.sim.shutMap d hH,λq=>(r.env q).mono ⟨λ_ q=>.inl q,λ_ _=>rfl,λ_ _ q=>q,λ_ _ q=>q⟩,r.size,r.defers⟩,λ_ q=>.inl q,rfl⟩
def anyN(l:List T)(x:T)(rem:List T):Prop:=l.Perm (x::rem)
def QoV(ts te:Nat)(ld:Op):Code:=.block 1 (.region 3 #[{dst:=some 8,op:=.load ts (.tmp 2),type:=ts,pos:="iter.go:52",after:= #[],guard:=none},{dst:=some 9,op:=ld,type:=te,pos:="iter.go:52",after:= #[],guard:=none},
 {dst:=some 10,op:=.buildSlice ts 1 #[(0,.tmp 9)],type:=ts,pos:="iter.go:52",after:= #[{on:=1,ground:=.data}],guard:=none},
 {dst:=some 11,op:=.call {callee:=.builtin .append,args:= #[.tmp 8,.tmp 10],argTypes:= #[ts,ts]},type:=ts,pos:="iter.go:52",after:= #[{on:=0,ground:=.data},{on:=2,ground:=.data}],guard:=none},
 {dst:=none,op:=.store ts (.tmp 2) (.tmp 11),type:=0,pos:="iter.go:52",after:= #[{on:=3,ground:=.data},{on:=3,ground:=.chain},{on:=0,ground:=.phase},{on:=1,ground:=.phase},{on:=2,ground:=.phase},{on:=3,ground:=.phase}],guard:=none}] false)
def Qq3(ts tq te:Nat)(asg:Code)(ld:Op):Code:=(Code.region 0 #[{dst:=some 2,op:=.box ts (.tmp 0),type:=0,pos:="iter.go:50",after:= #[],guard:=none},{dst:=some 4,op:=.assign (.const (.slice none 0 0)),type:=ts,pos:="iter.go:50",after:= #[],guard:=none}] false).seq
 (((Code.region 1 #[{dst:=some 6,op:=.move (.tmp 1),type:=tq,pos:="iter.go:51",after:= #[],guard:=none}] false).seq (.block 0 (.rangeFunc (.tmp 6) #[7] asg (QoV ts te ld)))).seq
  ((Code.region 4 #[{dst:=some 12,op:=.load ts (.tmp 2),type:=ts,pos:="iter.go:54",after:= #[],guard:=none},{dst:=some 4,op:=.assign (.tmp 12),type:=ts,pos:="iter.go:54",after:= #[{on:=0,ground:=.data},{on:=0,ground:=.phase}],guard:=none}] false).seq .ret))
def Qq4(te:Nat):Code:=.region 2 #[{dst:=some 5,op:=.assign (.tmp 7),type:=te,pos:="iter.go:51",after:= #[],guard:=none}] false
variable {env0:Env}
section
variable {P:Program} {T:Type} {ts tq te k tm:Nat} {g:FuncId} {es:List (A×A)} {e:T->List A} {ea:T->A} {xs:List T}
abbrev apH(ts te k tm:Nat)(es:List (A×A))(e:T->List A)(done:List T):Qc:=[.dead,.fmap es,.cells ts [.osl 3 0 done.length k],.row te k (done.map e)]
theorem QpY(B:N=13){done:List T}{x:T}{H:Qc}{K:Qc->Prop}{g:Op}(E:Q0 P ts te k)(r:∀w,(isAgg ts).run P w=.ok false w)(F:∀w,(sizeOf ts).run P w=.ok 1 w)(z:app done [x]=some (done++[x]))
  (j:(e x).length=k)(u:Nat.ble (k+1) 16777216=true)(f:Yj (ea x)=true)(a:Yr (ea x)=e x)(q:(e x).all Yy=true)(J:Yq (e x)=true)(M:Nat.ble 3 H.length=true)
  (h:lk env 2=.ptr 2 0)(p:H[2]?=some (.cells ts [.osl 3 0 done.length k]))(O:H[3]?=some (.row te k (done.map e)))
  (d:∀env',(∀s,s≠8->lk env' s=lk env s)->∀pos,OpV P {dst:=some 9,op:=g,type:=te,pos:=pos,after:= #[],guard:=none} env' H (ea x))
  (l:∀env',∃H2,Le 3 env' (((((H++[Blk.row te k [e x]]).set 3 .dead)++[Blk.row te k ((done++[x]).map e)]).set 2 (.cells ts [.osl (H.length+1) 0 (done++[x]).length k]))) [] H2/\K H2){Q:QR}:
  TC P 3 N (QoV ts te g) env H (Qla 3 env0 Q K):=by
 subst B;have L:3<H.length:=(by grind);refine TC.block (TC.region ?_);refine QM rfl rfl rfl (OpV.load (v:=.osl 3 0 done.length k) (cs:=[]) rfl r h (Pts.cells p rfl)) ?_;refine QM rfl rfl rfl (x:=ea x) ?_ ?_
 .refine d _ (λs G=>?_) _;simp only[up,lk];have:Nat.beq s 8=false:=by
   simp_all[VG]
  grind
 refine Jj (by omega) rfl rfl rfl (OpH.lit (xs:=[.tmp 9]) (es:=[e x]) E rfl rfl (by grind) ?_ ?_ ⟨j,trivial⟩ (by grind) (by grind)) ?_
 .simp[opA,lk,up,f]
 .simp[Yi,opA,lk,up,a]
 refine Jj (x:=.osl (H.length+1) 0 (done++[x]).length k) (H':=((H++[Blk.row te k [e x]]).set 3 .dead)++[Blk.row te k ((done++[x]).map e)]) (by simp;omega) rfl rfl rfl ?_ ?_
 .have:=Qk (P:=P) (o:={dst:=some 11,op:=.call {callee:=.builtin .append,args:= #[.tmp 8,.tmp 10],argTypes:= #[ts,ts]},type:=ts,pos:="iter.go:52",after:= #[{on:=0,ground:=.data},{on:=2,ground:=.data}],guard:=none})
   (env:=up (up (up env 8 (.osl 3 0 done.length k)) 9 (ea x)) 10 (.osl H.length 0 1 k)) (H:=H++[Blk.row te k [e x]]) (x:=.tmp 8) (y:=.tmp 10) (e:=e) (m:=[x]) (i:=3) (n:=done.length) (ya:=.osl H.length 0 1 k) z E E.sl (QH (t:=te) (by simp) rfl) rfl rfl rfl rfl (by grind) rfl
  grind
 refine Qbz (by simp;omega) rfl rfl (OpU.store (i:=2) (off:=0) (T:=ts) (n:=1) (cs:=[.osl 3 0 done.length k]) rfl ?_ ?_ F rfl rfl rfl rfl rfl rfl rfl) ?_
 .exact h
 .grind
 .refine WO.nil ?_;exact l _
theorem QoU{xs done l rem:List T}{x:T}(hl:Nat.ble xs.length QB=true)(a:(done++l).Perm xs)(d:l.Perm (x::rem)):app done [x]=some (done++[x])/\((done++[x])++rem).Perm xs:=by
 have e:=a.length_eq;have f:=d.length_eq;have g:=XO hl;simp at e f;refine⟨?_,?_⟩
 .unfold app;have:Nat.ble (done.length+[x].length) QB=true:=XP (by simp;omega)
  grind
 .refine List.Perm.trans ?_ a;simp[Vc];exact(List.Perm.append_left done d).symm
theorem QhB{m:FuncId}(B:P.funcs[m]?=some fn)(t:fn.body=some (Qq3 ts tq te (Qq4 te) (.move (.tmp 5))))(F:fn.ntmps=13)(z:fn.results= #[.tmp 4])(E:Q0 P ts te 1)(k:∀w,(isAgg ts).run P w=.ok false w)(G:∀w,(sizeOf ts).run P w=.ok 1 w)
  (q:∀args w,(callFunc g args).run P w=.ok (.enter g args) w)(d:Qit P g [.ptr 0 0] [.cells tm [.map 1],.fmap es] (λx=>[ea x]) anyN xs)(hl:Nat.ble xs.length QB=true)
  (J:∀x,QbU (ea x)=true)(j:∀x,Yj (ea x)=true)(f:∀x,Yr (ea x)=[ea x])(h:∀x,Yy (ea x)=true)(u:∀x,YJ (ea x)=true):
  C P m [.nils,.fn (.func g) [] [.ptr 0 0]] [.cells tm [.map 1],.fmap es] (λr H1=>∃p:List T,p.Perm xs/\r=.osl 2 0 p.length 1/\H1=[.dead,.fmap es,.row te 1 (p.map λx=>[ea x])]):=by
 refine QE B t F rfl (TC.seq (TC.region ?_));refine Jj (by omega) rfl rfl rfl (OpH.box rfl rfl rfl rfl rfl) ?_;refine QM rfl rfl rfl (OpV.assign rfl rfl) (WO.nil ?_);refine TC.seq (TC.seq (TC.region (QM rfl rfl rfl (OpV.move rfl rfl) ?_)));refine WO.nil (TC.block ?_);refine TC.rangeFunc [0,1] (apH ts te 1 tm es (λx=>[ea x])) (λdone l=>(done++l).Perm xs) [] (by simp) rfl rfl rfl (by decide) rfl q d (λx=>rfl) ?_ (List.Perm.refl _) ?_ ?_
 .exact Qka (i:=2) rfl rfl
 .intro done l x rem e s;obtain⟨y,H⟩:=QoU hl e s;refine TC.region (QM rfl rfl rfl (OpV.assign rfl rfl) (WO.nil ⟨rfl,(QpY rfl E k G y rfl rfl (j x) (f x) (by simp[h x]) (by simp[Yq,u x]) rfl rfl rfl rfl ?_ ?_)⟩))
  .intro a n pos;exact OpV.move rfl (by show lk a 5=ea x;rw[n 5 (by decide)];rfl)
  .intro a;exact⟨_,Lr [0,1,2,5],_,H,rfl⟩
 .intro done e;rw[Va]at e;refine TC.seq (TC.region (QM rfl rfl rfl (OpV.load rfl k rfl (Pts.cells rfl rfl)) ?_));refine QM rfl rfl rfl (OpV.assign rfl rfl) (WO.nil ?_);exact TC.ret (⟨[(4,.osl 2 0 done.length 1)],[.dead,.fmap es,.row te 1 (done.map λx=>[ea x])],_,Lr [0,1,3],QcH.one z rfl,done,e,rfl,rfl⟩)
end
theorem Qgi{T:Type}{X:Ctx T}{c:Code}{env':Env}{H:Qc}{l:YSt T}{Q:YN T}(i:Le h0 env H env' H')(h:TCy X P h0 N c env' H' l Q):TCy X P h0 N c env H l Q:=by
 intro m u k y U a w g r hj hrd;obtain⟨j,σ',n,s,t⟩:=i k y U N a w r;obtain⟨⟨p,x,d⟩,f⟩:=hj;exact Code.wpIn_mono (λe a w q=>q.grow s (XQ _) t (Grow.refl _ _ _)) (h m u k j σ' a w g n ⟨⟨p,(by grind),d⟩,f⟩ hrd)
mutual
theorem QiR:∀{a:A},QbU a=true->YJ a=true
 |.any,_=>rfl
 |.bool _,_=>rfl
 |.int _ _,_=>rfl
 |.str _,_=>rfl
 |.nilp,_=>rfl
 |.ptr _ _,h=>by simp[QbU]at h
 |.rp _,_=>rfl
 |.nils,_=>rfl
 |.rsl _ _,_=>rfl
 |.osl _ _ _ _,h=>by simp[QbU]at h
 |.agg cs,h=>by simp only[QbU]at h;simp only[YJ];exact QgO h
 |.fn _ a c,h=>by simp[QbU]at h
 |.nilf,_=>rfl
 |.iface _ v,h=>by simp[QbU]at h
 |.nilif,_=>rfl
 |.map _,h=>by simp[QbU]at h
 |.nilm,_=>rfl
 |.tup vs,h=>by simp[QbU]at h
theorem QgO:∀{l:List A},Qfg l=true->Yq l=true
 |[],_=>rfl
 |a::r,h=>by
  simp only[Qfg,XT]at h;simp only[Yq,XT];exact⟨QiR h.1,QgO h.2⟩
end
theorem QiI{H:Qc}{y z:Operand}{l:Nat}{a:A}{i:Array TypeId}(f:o.op=.call {callee:=.value y,args:= #[z],argTypes:=i})(k:opA env y=.fn (.yield l) [] [])(h:opA env z=a)(m:YJ a=true):
  ∀fr ro U act w,Rel fr ro U H env N act w->∃vs:List Value,LR ro [] w [a] vs/\(execOp act.eval o).run P w=(Instr.yield l vs.toArray).run P w:=by
 intro fr ro U act w r;have d:=Qh r y;rw[k]at d;obtain⟨g,n,d,j,p⟩:=d;obtain rfl:g=[]:=j;have e:=Qh r z;rw[h]at e;refine⟨[act.eval z],⟨_,_,rfl,VR.data m e,rfl⟩,?_⟩;generalize act.eval=ev at*;simp[execOp,f,invoke,go_sem,d]
theorem Qms{H:Qc}{y d e:Operand}{l:Nat}{k j:A}{s:Array TypeId}(p:o.op=.call {callee:=.value y,args:= #[d,e],argTypes:=s})(u:opA env y=.fn (.yield l) [] [])(h:opA env d=k)(i:opA env e=j)(f:YJ k=true)(g:YJ j=true):
  ∀fr ro U act w,Rel fr ro U H env N act w->∃vs:List Value,LR ro [] w [k,j] vs/\(execOp act.eval o).run P w=(Instr.yield l vs.toArray).run P w:=by
 intro fr ro U act w r;have a:=Qh r y;rw[u]at a;obtain⟨q,x,a,t,z⟩:=a;obtain rfl:q=[]:=t;have n:=Qh r d;rw[h]at n;have m:=Qh r e;rw[i]at m;refine⟨[act.eval d,act.eval e],⟨_,_,rfl,VR.data f n,_,_,rfl,VR.data g m,rfl⟩,?_⟩;generalize act.eval=ev at*;simp[p,invoke,go_sem,a]
def Qn9(tm tb ty tk:Nat)(asg:Array Oper)(ld:Op):Code:=
 (Code.region 0 #[{dst:=some 4,op:=.load tm (.tmp 1),type:=tm,pos:="iter.go:27",after:= #[],guard:=none},{dst:=some 5,op:=.range tm (.tmp 4),type:=0,pos:="iter.go:27",after:= #[{on:=0,ground:=.data}],guard:=none}] false).seq
 (.block 0 (Code.loop ((Code.region 1 #[{dst:=some 6,op:=.next (.tmp 5) false,type:=0,pos:="iter.go:27",after:= #[],guard:=none},{dst:=some 7,op:=.extract (.tmp 6) 0,type:=tb,pos:="iter.go:27",after:= #[{on:=0,ground:=.data}],guard:=none}] false).seq
  ((Code.cond (.tmp 7) .skip (.exit 0)).seq (.block 1 ((Code.region 2 asg false).seq
   ((Code.region 3 #[{dst:=some 10,op:=.move (.tmp 0),type:=ty,pos:="iter.go:28",after:= #[],guard:=none},{dst:=some 11,op:=ld,type:=tk,pos:="iter.go:28",after:= #[],guard:=none},
    {dst:=some 12,op:=.call {callee:=.value (.tmp 10),args:= #[.tmp 11],argTypes:= #[tk]},type:=tb,pos:="iter.go:28",after:= #[{on:=0,ground:=.data},{on:=1,ground:=.data}],guard:=none},
    {dst:=some 13,op:=.unOp .not tb (.tmp 12),type:=tb,pos:="iter.go:28",after:= #[{on:=2,ground:=.data}],guard:=none}] false).seq (.cond (.tmp 13) .ret .skip))))))))
def QqL(tk:Nat):Array Oper:= #[{dst:=some 8,op:=.entry (.tmp 5),type:=0,pos:="iter.go:27",after:= #[],guard:=none},{dst:=some 9,op:=.extract (.tmp 8) 0,type:=tk,pos:="iter.go:27",after:= #[{on:=0,ground:=.data}],guard:=none},
 {dst:=some 3,op:=.assign (.tmp 9),type:=tk,pos:="iter.go:27",after:= #[{on:=1,ground:=.data},{on:=0,ground:=.phase},{on:=1,ground:=.phase}],guard:=none}]
section
variable {P:Program} {K V:Type} {tm tb ty tk kt et:Nat} {ek:K->A} {ev:V->A} {m:List (K×V)} {T:Type}
abbrev kyE(l:Nat):Env:=[(0,.fn (.yield l) [] []),(1,.ptr 0 0),(5,.ptr 2 0)]
abbrev kyH(tm:Nat)(ek:K->A)(ev:V->A)(m l:List (K×V)):Qc:=[.cells tm [.map 1],.fmap (Qo ek ev m),.iter none (Qo ek ev l)]
theorem QmG{g:FuncId}{a:Array Oper}{p:Op}(M:P.funcs[g]?=some fn)(B:fn.body=some (Qn9 tm tb ty tk a p))(G:fn.ntmps=14)(F:fn.results= #[])(u:∀w,(isAgg tm).run P w=.ok false w)(L:P.underlying tm=some (.map kt et))(t:∀x,QbU (ek x)=true)
  (round:∀(X:Ctx K) (e:K×V) (l:List (K×V)) (env:Env) (H:Qc) (d:YSt K) (Q:YN K),lk env 0=.fn (.yield X.l) [] []->lk env 1=.ptr 0 0->lk env 5=.ptr 2 0->H=[.cells tm [.map 1],.fmap (Qo ek ev m),.iter (some (ek e.1,ev e.2)) (Qo ek ev l)]->
   (∀env' H',lk env' 0=.fn (.yield X.l) [] []->lk env' 1=.ptr 0 0->lk env' 5=.ptr 2 0->(∀env2 b,lk env2 0=.fn (.yield X.l) [] []->lk env2 1=.ptr 0 0->lk env2 5=.ptr 2 0->Le 2 (up (up env2 12 (.bool b)) 13 (.bool (!b))) H' (kyE X.l) (kyH tm ek ev m l))->
    (∀pos env2,(∀s,s≠10->lk env2 s=lk env' s)->OpV P {dst:=some 11,op:=p,type:=tk,pos:=pos,after:= #[],guard:=none} env2 H' (ek e.1))->Nat.ble 2 H'.length=true->Q .normal env' H' d)->
   TCy X P 2 14 (.region 2 a false) env H d Q):
  Qit P g [.ptr 0 0] [.cells tm [.map 1],.fmap (Qo ek ev m)] (λx=>[ek x]) anyN (m.map Prod.fst):=by
 refine QdA M B G rfl F ?_;intro X hE hNx;refine TCy.seq (TCy.lift (TC.region ?_));refine QM rfl rfl rfl (OpV.load rfl u rfl (Pts.cells rfl rfl)) (Jj (XO rfl) rfl rfl rfl (Qgu L) ?_);refine WO.nil (TCy.block ?_);refine Qhr (I:=λn env H d=>∃l:List (K×V),l.length=n/\d=.on (l.map Prod.fst)/\Le 2 env H (kyE X.l) (kyH tm ek ev m l)) ?_ ⟨m,rfl,rfl,Lr [0,1,2]⟩;rintro n env H d ⟨l,y,rfl,i⟩;refine Qgi i (TCy.seq (TCy.lift (TC.region ?_)));refine Qk7 (XO rfl) rfl rfl rfl (OpE.next rfl rfl rfl) ?_;rintro v H' (⟨j,rfl,rfl⟩|⟨N,J,j,rfl,rfl⟩)
 .have hl:=List.map_eq_nil_iff.1 j;subst hl;refine QM rfl rfl rfl (OpV.extract rfl rfl rfl) (WO.nil ?_);exact TCy.seq (TCy.cond rfl (λe=>by cases e) (λ_=>(TCy.exit ⟨.inl rfl,.inl rfl⟩)))
 .obtain⟨E,r,k⟩:=QgX j rfl;cases E with
  |nil=>cases k
  |cons e h=>
   obtain⟨rfl,rfl⟩:=k;have f:h.length<n:=by rw[<- y, <- r.length_eq];simp
   refine QM rfl rfl rfl (OpV.extract rfl rfl rfl) ?_;refine WO.nil (TCy.seq (TCy.cond rfl (λ_=>?_) (λe=>by cases e)));refine TCy.skip (TCy.block ?_);refine TCy.seq (round X e h _ _ _ _ rfl rfl rfl rfl ?_);intro env' H' g0 g1 g5 hfin hld hL;refine TCy.seq (TCy.region ?_);refine WOy.step (QM rfl rfl rfl (OpV.move rfl g0) (WO.nil ⟨rfl,(WOy.step (QM rfl rfl rfl (hld _ _ λs q=>?_) (WO.nil ⟨rfl,?_⟩)))⟩))
   .simp[up,lk];have:Nat.beq s 10=false:=by rw[VG];intro z;exact q (XN z)
    rw[this];rfl
   refine WOy.yield (x:=e.1) (rem:=h.map Prod.fst) ?_ rfl rfl rfl ?_ ?_
   .rw[hNx];exact r.symm.map Prod.fst
   .rw[hE];refine QiI rfl ?_ ?_ (QiR (t _))
    .rfl
    .rfl
   .intro b;refine WOy.step (QM rfl rfl rfl (OpV.not rfl rfl) (WO.nil ⟨rfl,?_⟩));refine WOy.nil (TCy.cond rfl (λq=>?_) (λq=>?_))
    .obtain rfl:b=false:=by simpa using q
     exact TCy.ret ⟨.inr rfl,.inr ⟨_,rfl⟩⟩
    .obtain rfl:b=true:=by simpa using q
     exact TCy.skip (⟨_,f,h,rfl,rfl,hfin _ true g0 g1 g5⟩)
theorem Qgk{g:FuncId}(k:P.funcs[g]?=some fn)(h:fn.body=some (Qn9 tm tb ty tk (QqL tk) (.move (.tmp 3))))(n:fn.ntmps=14)(j:fn.results= #[])(d:∀w,(isAgg tm).run P w=.ok false w)(s:P.underlying tm=some (.map kt et))(t:∀x,QbU (ek x)=true):
  Qit P g [.ptr 0 0] [.cells tm [.map 1],.fmap (Qo ek ev m)] (λx=>[ek x]) anyN (m.map Prod.fst):=by
 refine QmG k h n j d s t ?_;intro X e l env H st Q g0 g1 g5 hH hk;subst hH;refine TCy.lift (TC.region (QM rfl rfl rfl (OpV.entry rfl g5 rfl) ?_));refine QM rfl rfl rfl (OpV.extract rfl rfl rfl) (QM rfl rfl rfl (OpV.assign rfl rfl) ?_);refine WO.nil (hk _ _ g0 g1 g5 ?_ ?_ rfl)
 .intro a b q p r;exact Le.trans (Qhy (i:=2) rfl rfl) (Lr [0,1,2] (hE:=⟨q,p,r,trivial⟩))
 .intro pos a f;exact OpV.move rfl (by show lk a 3=_;rw[f 3 (by decide)];rfl)
end
def QqZ(ts tq fA:Nat):Code:=(Code.region 0 #[{dst:=some 2,op:=.assign (.const (.slice none 0 0)),type:=ts,pos:="iter.go:59",after:= #[],guard:=none}] false).seq
 ((Code.region 1 #[{dst:=some 3,op:=.move (.tmp 0),type:=tq,pos:="iter.go:60",after:= #[],guard:=none},
  {dst:=some 4,op:=.call {callee:=.value (.func fA),args:= #[.const (.slice none 0 0),.tmp 3],argTypes:= #[ts,tq]},type:=ts,pos:="iter.go:60",after:= #[{on:=0,ground:=.data}],guard:=none},
  {dst:=some 2,op:=.assign (.tmp 4),type:=ts,pos:="iter.go:60",after:= #[{on:=1,ground:=.data},{on:=1,ground:=.chain},{on:=0,ground:=.phase},{on:=1,ground:=.phase}],guard:=none}] false).seq .ret)
variable {j:Nat}
theorem QhA{d i l:Nat}{g:FuncId}{es:List (A×A)}{e:T->List A}{xs:List T}{fC a:FuncId}(u:P.funcs[fC]?=some fn)(m:fn.body=some (QqZ d j a))(q:fn.ntmps=5)(n:fn.results= #[.tmp 2])
  (f:∀(env:Env) (H:Qc),lk env 3=.fn (.func g) [] [.ptr 0 0]->OpC P {dst:=some 4,op:=.call {callee:=.value (.func a),args:= #[.const (.slice none 0 0),.tmp 3],argTypes:= #[d,j]},type:=d,pos:="iter.go:60",after:= #[{on:=0,ground:=.data}],guard:=none} env H a [.nils,.fn (.func g) [] [.ptr 0 0]])
  (t:C P a [.nils,.fn (.func g) [] [.ptr 0 0]] [.cells l [.map 1],.fmap es] (λr H1=>∃p:List T,p.Perm xs/\r=.osl 2 0 p.length k/\H1=[.dead,.fmap es,.row i k (p.map e)])):
  C P fC [.fn (.func g) [] [.ptr 0 0]] [.cells l [.map 1],.fmap es] (λr H1=>∃p:List T,p.Perm xs/\r=.osl 2 0 p.length k/\H1=[.dead,.fmap es,.row i k (p.map e)]):=by
 refine QE u m q rfl ?_;refine TC.seq (TC.region (QM rfl rfl rfl (OpV.assign rfl rfl) ?_));refine WO.nil (TC.seq (TC.region ?_));refine QM rfl rfl rfl (OpV.move rfl rfl) (WO.call [0,1] (by omega) rfl rfl (λx h=>by grind) (f _ _ rfl) rfl rfl (by decide) t ?_);rintro r H1 ⟨p,s,rfl,rfl⟩;refine QM rfl rfl rfl (OpV.assign rfl rfl) ?_;refine WO.nil (TC.ret ?_);exact⟨[(2,.osl 2 0 p.length k)],[.dead,.fmap es,.row i k (p.map e)],_,Lr [0,1,2],QcH.one n rfl,p,s,rfl,rfl⟩
def QoW{K R:Type}[DecidableEq R](l:List K)(k:List K->Option R):Option R:=bif Nat.ble l.length QB then anyP k l else none
theorem Qme{K R:Type}[DecidableEq R]{l:List K}{k:List K->Option R}{r:R}(h:QoW l k=some r):Nat.ble l.length QB=true/\ ∀p,p.Perm l->k p=some r:=by
 unfold QoW at h;cases q:Nat.ble l.length QB with
 |true=>rw[q]at h;exact⟨rfl,Qmc h⟩
 |false=>grind
variable {b1 b2 m:Nat}
section
variable {P:Program} {o:Oper} {env:Env} {H:Qc} {fr ro:Nat->Prop} {U:Sig} {w:World}
theorem Qnw{i:Nat}{es:List (List A)}{l:List Ent}(hH:H[i]?=some (.rowr t 3 es))(he:l.map (eC b1 b2)=es):Le h0 env H env (H.set i (.ents t b1 b2 l)):=by
 subst he;intro e d U N a w r;refine⟨d,U,⟨r.sim.weaken hH rfl ?_,r.env,r.size,r.defers⟩,λ_ q=>q,rfl⟩;intro y h;cases y with
 |none=>exact h.elim
 |some b=>exact h
theorem Qds{b1 b2:Nat}:∀(l:List Ent),allK 3 (l.map (eC b1 b2))
 |[]=>trivial
 |e::l=>⟨rfl,Qds l⟩
theorem Sim.phantomE(s:Sim fr ro U H w)(t b1 b2:Nat):Sim fr ro (U++[none]) (H++[.ents t b1 b2 []]) w:=by
 have ext:Ext ro U w ro (U++[none]) w:=⟨λ_ q=>q,λ_ _=>rfl,λ_ _ q=>q,λ_ _ h=>Qaa h⟩;have G:=s.len;have a:∀(j:Nat) (v:Blk),(H++[Blk.ents t b1 b2 []])[j]?=some v->(j<H.length/\H[j]?=some v)\/(j=H.length/\v=.ents t b1 b2 []):=by
  intro j v h;rcases Nat.lt_trichotomy j H.length with q|q|q
  .rw[XJ q]at h;exact .inl ⟨q,h⟩
  .subst q;simp at h;exact .inr ⟨rfl,h.symm⟩
  .rw[XL (by simp;omega)]at h;cases h
 have hσ:∀(j:Nat) (z:Option Nat),(U++[none])[j]?=some z->(j<U.length/\U[j]?=some z)\/(j=U.length/\z=none):=by
  intro j z h;rcases Nat.lt_trichotomy j U.length with q|q|q
  .rw[XJ q]at h;exact .inl ⟨q,h⟩
  .subst q;simp at h;exact .inr ⟨rfl,h.symm⟩
  .rw[XL (by simp;omega)]at h;cases h
 refine⟨by simp[G],s.roOk,s.frLt,s.roFr,λi b x k g n=>?_,λi j b x y k g n E L F=>?_,λi z x k g=>?_,
  s.hidTo (· = ·) Q6 (XQ _) (λ_ _ _ _ _ _ _ q=>q) (λ_ _ _ _ _ _ _ q=>q) λj d y J B M=>.inl ?_⟩
 rotate_left 3
 .rcases hσ j _ J with⟨l,f⟩|⟨_,r⟩
  .rcases a j y B with⟨_,e⟩|⟨e,_⟩
   .exact⟨j,y,rfl,f,e,id,λ_ q=>q⟩
   .omega
  .cases r
 .rcases hσ i _ k with⟨l,f⟩|⟨_,r⟩
  .rcases a i x g with⟨_,e⟩|⟨e,_⟩
   .exact s.own i b x f e n
   .omega
  .cases r
 .rcases hσ i _ k with⟨l,f⟩|⟨_,r⟩
  .rcases hσ j _ g with⟨u,m⟩|⟨_,r⟩
   .rcases a i x n with⟨_,e⟩|⟨e,_⟩
    .rcases a j y E with⟨_,p⟩|⟨p,_⟩
     .exact s.inj i j b x y f m e p L F
     .omega
    .omega
   .cases r
  .cases r
 .rcases hσ i _ k with⟨l,f⟩|⟨l,rfl⟩
  .rcases a i x g with⟨_,e⟩|⟨e,_⟩
   .exact(s.blk i z x f e).keep ext (λ_ _ _=>rfl) (λ_ _ _ _=>rfl)
   .omega
  .rcases a i x g with⟨e,_⟩|⟨_,rfl⟩
   .omega
   .rfl
theorem Le.phantomE{h0 i m t T b1 b2:Nat}{cs:List A}(B:Nat.ble h0 H.length=true)(hH:H[i]?=some (.cells T cs))(e:cs[m]?=some .nils):
  Le h0 env H env (H.set i (.cells T (cs.set m (.osl H.length 0 0 3)))++[.ents t b1 b2 []]):=by
 intro E g U N a w r;have hh':=XO B;have hi:=(XI.1 hH).1;have ext:Ext g U w g (U++[none]) w:=⟨λ_ q=>q,λ_ _=>rfl,λ_ _ q=>q,λ_ _ h=>Qaa h⟩;have s:=r.sim.phantomE t b1 b2;have d:(H++[Blk.ents t b1 b2 []])[i]?=some (.cells T cs):=by rw[XJ hi];exact hH
 have n:H.set i (.cells T (cs.set m (.osl H.length 0 0 3)))++[.ents t b1 b2 []]=(H++[Blk.ents t b1 b2 []]).set i (.cells T (cs.set m (.osl H.length 0 0 3))):=by
  rw[List.set_append_left _ _ hi]
 rw[n];refine⟨g,U++[none],⟨s.weaken d rfl ?_,λq=>(r.env q).mono ext,r.size,r.defers⟩,λ_ q=>q,QF (by rw[r.sim.len];exact hh')⟩;intro y h;cases y with
 |none=>exact h
 |some b=>
  obtain⟨l,p,x,k⟩:=h;refine⟨l,p,?_,k⟩;clear p k d n hH
  induction cs generalizing m l with
  |nil=>cases e
  |cons c cs z=>
   obtain⟨v,f,rfl,u,j⟩:=x;cases m with
   |zero=>
    simp at e;subst e;exact⟨v,f,rfl,.inl ⟨rfl,u⟩,j⟩
   |succ m=>exact⟨v,f,rfl,u,z (by simpa using e) f j⟩
theorem QV{i T:Nat}(hH:H[i]?=some (.cells T cs)):Le h0 env H env (H.set i (.cells T (cs.set m .any))):=by
 intro s n U N a w r;refine⟨n,U,⟨r.sim.weaken hH rfl ?_,r.env,r.size,r.defers⟩,λ_ q=>q,rfl⟩;intro y h;cases y with
 |none=>exact h
 |some b=>
  obtain⟨l,j,f,g⟩:=h;refine⟨l,j,?_,g⟩;clear j g hH
  induction cs generalizing m l with
  |nil=>exact f
  |cons c cs k=>
   obtain⟨v,d,rfl,p,e⟩:=f;cases m with
   |zero=>exact⟨v,d,rfl,trivial,e⟩
   |succ m=>exact⟨v,d,rfl,p,k d e⟩
theorem srcE{l:List Ent}{v:Value}(s:Sim fr ro U H w)(hH:H[j]?=some (.ents t b1 b2 l))(e:l.length=m)(h:VR ro U w (.osl j 0 m 3) v):
  (∃a c,v=.slice a m c)/\ ∃vs:List Value,(∀w',w'.heap=w.heap->(Builtin.firstCells 3 m v).run P w'=.ok vs.toArray w')/\LR ro U w (l.map (eC b1 b2)).flatten vs/\ ∀v∈vs,Qy v:=by
 rcases h with⟨rfl,rfl⟩|⟨b,p,d,L,J,r,rfl,q,⟨F,f⟩,E,M⟩
 .have:=VD.1 e;subst this;exact⟨⟨none,0,rfl⟩,[],λ_ _=>Jf,rfl,by simp⟩
 .refine⟨⟨_,d,rfl⟩,?_⟩;obtain⟨B,z,g⟩:=s.blk j _ _ r hH;have x:=Y4 (pre:=[]) (by simpa using z) g;by_cases u:0<d
  .obtain rfl:=q u;obtain⟨y,G,i⟩:=x.flat;have:=Qcg (P:=P) (k:=3) (n:=m) (c:=d) y (by rw[i];simp[e]);simpa using this
  .obtain rfl:m=0:=by omega
   have:=VD.1 e;subst this;exact⟨[],λ_ _=>Jf,rfl,by simp⟩
theorem Qpa{c:Call}{T T' e' i n:Nat}{x y:Operand}{l k:List Ent}(E:Q0 P T t 3)(hd:∀w,(underlying T').run P w=.ok (.slice e') w)(G:Nat.ble (l.length+k.length) QB=true)(af:Nat.blt 0 n=true)
  (ho:o.op=.call c:=by exact rfl)(hc:c={callee:=.builtin .append,args:= #[x,y],argTypes:= #[T,T']}:=by exact rfl)(hx:opA env x=.osl i 0 n 3:=by exact rfl)(hH:H[i]?=some (.ents t b1 b2 l):=by exact rfl)(hn:l.length=n:=by exact rfl)
  (hy:opA env y=.osl j 0 m 3:=by exact rfl)(hHj:H[j]?=some (.ents t b1 b2 k):=by exact rfl)(hm:k.length=m:=by exact rfl):
  OpH P o env H (.osl H.length 0 (l++k).length 3) (H.set i .dead++[.ents t b1 b2 (l++k)]):=by
 intro fr s U N a w r;have ab:=XO G;have ah:0<n:=by simpa using af
 have B:=Qh r x;rw[hx]at B;have h2:=Qh r y;rw[hy]at h2;obtain⟨⟨ay,cy,e1⟩,vs,q3,L,V⟩:=srcE (P:=P) r.sim hHj hm h2;rw[e1]at q3;obtain⟨_,e,o1,o2,o3⟩:=srcE (P:=P) r.sim hH hn B;have Q:i<H.length:=(XI.1 hH).1;rw[XY,hn,hm];rcases B with⟨q,_⟩|⟨b,p,cap,t',mm,h3,B,h4,⟨h5,X⟩,h6,h7⟩
 .omega
 have F:=r.sim.blk i _ _ h3 hH;obtain⟨lb,O,g2⟩:=F;have z:vs.length=m*3:=by rw[L.length,YR (Qds k)];simp[hm]
 have ac:e.length=n*3:=by rw[o2.length,YR (Qds l)];simp[hn]
 rw[B]at o1;by_cases f:n+m<=cap
 .obtain rfl:p=0*3:=h4 (by omega);have g:=Qc6 (t:=o.type) E hd (ad:=some ⟨b,0*3,none⟩) (n:=n) (m:=m) (cap:=cap) (c:=cy) (ax:=ay) f (q3 w rfl);have u:(n+m)*3<=lb.length:=by
   have:w.shape? b=some (t,lb.length):=by unfold World.shape?;rw[O];simp
   rw[this]at h6;cases h6;exact XS (XA 3 f) (by simpa using h7)
  rw[Xy]at u;have ag:=Yp (P:=P) (vs:=vs) (n*3) 0 O (by rw[z];simpa using u) V;have h:=r.sim.set (x':=.ents t b1 b2 (l++k)) h3 hH rfl
   (λy hy=>QaD O (YE (by rw[z];exact u)) y hy)
   (λex M=>⟨_,M,by
    have:=(g2.app (n:=n) (by simp[hn]) (Qds k) L V).mono ex;rw[VC (by simp[hn])]at this;rw[Xg];exact this⟩)
  have sm:=h.1.moved (i:=i) (Xa Q) h3;rw[List.set_set]at sm;refine⟨.slice (some ⟨b,0*3,none⟩) (n+m) cap,_,s,[some b],?_,.inr ⟨b,0*3,cap,t',mm,?_,rfl,h4,⟨f,X⟩,?_,h7⟩,sm,h.2⟩
  .refine Jh ho hc _ ?_;rw[B,e1,g];simp only[JX,Nat.zero_mul,Xu,Vg,ag,Result.andThen,Vh];simp
  .rw[<- r.sim.len];simp
  .exact h.2.shape _ _ h6
 .obtain⟨d,nc,ae,R,g⟩:=QiT (t:=o.type) E hd rfl (by omega) (by omega) q3 o1
  let w0:World:={w with drawn:=w.drawn+1}
  have J:Sim fr s U (H.set i .dead) w0:=(r.sim.kill i).heap rfl;have e0:Qm fr s w s w0:=Qm.heap rfl rfl rfl rfl (Nat.le_succ _);have Y:LR s U w0 ((l++k).map (eC b1 b2)).flatten (e++vs):=by
   rw[Xg,List.flatten_append];exact(o2.append L).mono (Ext.heap (w:=w) (w':=w0) rfl)
  have W:∀v∈e++vs,Qy v:=λv hv=>by rcases Vx.1 hv with q|q;exact o3 v q;exact V v q
  have s1:=J.alloc (x:=.ents t b1 b2 (l++k)) (obj:=.cells ((e++vs)++d).toArray t) ⟨(e++vs)++d,Yk _ _,(JI (Qds _) Y W).mono ((Qm.alloc (fr:=fr) _ J.roLt J.frLt).ext U _)⟩;have aa:Qm fr s w0 s (w0.alloc (.cells ((e++vs)++d).toArray t)):=Qm.alloc _ J.roLt J.frLt;refine⟨_,_,s,[some w.heap.size],Jh ho hc a.eval (by rw[B,e1];exact g),.inr ⟨w.heap.size,0,nc,t,(e++vs++d).length,?_,rfl,λ_=>by simp,ae,?_,?_⟩,s1,e0.trans aa⟩
  .rw[<- r.sim.len];simp
  .have:=Yk w0 (.cells ((e++vs)++d).toArray t);unfold World.shape?;rw[show w.heap.size=w0.heap.size from rfl,this];simp
  .simp only[XY,R,ac,z,Xu];omega
theorem Qhw{c:Call}{T T' e' i n:Nat}{x y:Operand}{a e r:List Ent}(h:app a e=some r)(E:Q0 P T t 3)(g:∀w,(underlying T').run P w=.ok (.slice e') w)(d:Nat.blt 0 n=true)
  (f:o.op=.call c:=by exact rfl)(hc:c={callee:=.builtin .append,args:= #[x,y],argTypes:= #[T,T']}:=by exact rfl)(hx:opA env x=.osl i 0 n 3:=by exact rfl)(hH:H[i]?=some (.ents t b1 b2 a):=by exact rfl)(hn:a.length=n:=by exact rfl)
  (hy:opA env y=.osl j 0 m 3:=by exact rfl)(hHj:H[j]?=some (.ents t b1 b2 e):=by exact rfl)(hm:e.length=m:=by exact rfl):
  OpH P o env H (.osl H.length 0 r.length 3) (H.set i .dead++[.ents t b1 b2 r]):=by
 obtain⟨k,rfl⟩:=Qiq h;exact Qpa E g (XP k) d f hc hx hH hn hy hHj hm
theorem Pts.ents{i off t e f b1 b2:Nat}{l:List Ent}{x:Ent}{cs':List A}(he:l[e]?=some x)(hH:H[i]?=some (.ents t b1 b2 l):=by exact rfl)(ho:off=e*3+f:=by exact rfl)(hcs:(eC b1 b2 x).drop f=cs':=by exact rfl):Pts H (.ptr i off) cs':=by
 intro n p U w v s h;obtain⟨b,j,g⟩:=h;obtain⟨m,k,d⟩:=s.blk i _ _ j hH;have a:(l.map (eC b1 b2))[e]?=some (eC b1 b2 x):=by rw[Xo,he];rfl
 have:=((Y4 (pre:=[]) (by simpa using k) d).get e a).2.drop f;refine⟨b,off,g,?_⟩;rw[<- hcs,ho];simpa using this
def QgB(cs:List A)(s:Int)(e:Ent):Option Int:=bif e.fl then(bif e.off==0 then some s else none)else match cs[e.off]? with
 |some (.int .i64 v)=>some v
 |_=>none
def Qkw{F:Type}(put:F->Nat->Int->Option F)(x:F)(s:Int)(e:Ent)(v:Int):Option (F×Int):=
 bif e.fl then(bif e.off==0 then some (x,v)else none)else(put x e.off v).map λy=>(y,s)
abbrev Qij(b1 b2:Nat)(e:Ent):A:=.ptr (bif e.fl then b2 else b1) e.off
theorem QoJ{l:List A}{i:Nat}{a:A}(h:l[i]?=some a):∃r,l.drop i=a::r:=by
 obtain⟨d,rfl⟩:=XI.1 h;exact⟨_,Xp d⟩
theorem Qcr{T1 T2:Nat}{x:Operand}{e:Ent}{s v:Int}(h:QgB cs s e=some v)(g:∀w,(isAgg t).run P w=.ok false w)(i:o.op=.load t x:=by exact rfl)(hx:opA env x=Qij b1 b2 e:=by exact rfl)
  (h1:H[b1]?=some (.cells T1 cs):=by exact rfl)(h2:H[b2]?=some (.cells T2 [.int .i64 s]):=by exact rfl):OpV P o env H (.int .i64 v):=by
 unfold QgB at h;unfold Qij at hx;cases j:e.fl with
 |true=>
  rw[j]at h hx;cases f:e.off==0 with
  |false=>rw[f]at h;cases h
  |true=>
   rw[f]at h;have e0:=by simpa using f
   rw[e0]at hx;have hv:=by simpa using h
   subst hv;exact OpV.load i g hx (Pts.cells h2 rfl)
 |false=>
  rw[j]at h hx;cases d:cs[e.off]? with
  |none=>rw[d]at h;cases h
  |some a=>
   rw[d]at h;obtain⟨r,l⟩:=QoJ d;cases a with
   |int k n=>
    cases k<;>first|(cases h;exact OpV.load i g hx (Pts.cells h1 l))|cases h
   |_=>cases h
theorem Qkm{l:List A}{i:Nat}{a:A}(h:i<l.length):splice l i [a]=l.set i a:=by
 unfold splice;rw[List.set_eq_take_append_cons_drop,Vm h];simp
theorem QiQ{i:Nat}{b:Blk}(h:H[i]?=some b):H.set i b=H:=by
 apply List.ext_getElem?;intro j;rw[Xb];by_cases e:i=j
 .subst e;rw[Vm rfl,Vm (XI.1 h).1,h]
 .rw[Vl e]
theorem Qlf{F:Type}{c:F->List A}{put:F->Nat->Int->Option F}{T1 T2:Nat}{x y:Operand}{e:Ent}{f f':F}{s s' v:Int}(h:Qkw put f s e v=some (f',s'))(a:∀x o v y,put x o v=some y->c y=(c x).set o (.int .i64 v)/\o<(c x).length)
  (m:∀w,(sizeOf t).run P w=.ok 1 w)(l:o.op=.store t x y:=by exact rfl)(hx:opA env x=Qij b1 b2 e:=by exact rfl)(h1:H[b1]?=some (.cells T1 (c f)):=by exact rfl)(h2:H[b2]?=some (.cells T2 [.int .i64 s]):=by exact rfl)(hy:opA env y=.int .i64 v:=by exact rfl)
  (hb:Nat.beq b1 b2=false:=by exact rfl):OpU P o env H ((H.set b1 (.cells T1 (c f'))).set b2 (.cells T2 [.int .i64 s'])):=by
 have j:b1≠b2:=λq=>by subst q;rw[Vz]at hb;cases hb
 unfold Qkw at h;unfold Qij at hx;cases n:e.fl with
 |true=>
  rw[n]at h hx;cases d:e.off==0 with
  |false=>rw[d]at h;cases h
  |true=>
   rw[d]at h;have e0:=by simpa using d
   rw[e0]at hx;obtain⟨rfl,rfl⟩:f=f'/\v=s':=by simpa using h
   rw[QiQ h1];exact OpU.store l hx h2 m hy rfl rfl rfl rfl rfl rfl
 |false=>
  rw[n]at h hx;cases i:put f e.off v with
  |none=>rw[i]at h;cases h
  |some g=>
   rw[i]at h;obtain⟨rfl,rfl⟩:g=f'/\s=s':=by simpa using h
   obtain⟨r,k⟩:=a _ _ _ _ i;have p:(H.set b1 (.cells T1 (c g)))[b2]?=some (.cells T2 [.int .i64 s]):=by rw[XM j];exact h2
   rw[QiQ p];exact OpU.store (vs:=[.int .i64 v]) l hx h1 m hy rfl rfl rfl rfl (XP k) (by rw[Qkm k,r])
end
section
variable {P:Program} {h0 N:Nat} {A B C:Code} {env:Env} {H:Qc} {Q:QR}
theorem Qo4{S B1:Type}{b:Ctl S B1}(Eb:S->Env)(Hb:S->Qc)(h:TC P h0 N A env H (Seq P h0 N B (QdF h0 b Eb Hb (Seq P h0 N C Q))))(k:∀s env H,b=.cont s->Le h0 env H (Eb s) (Hb s)->Seq P h0 N C Q .normal env H):TC P h0 N (.seq A (.seq B C)) env H Q:=by
 refine TC.seq (h.mono λx env' H' q=>?_);cases x with
 |normal=>exact TC.seq (Qmg Eb Hb q k)
 |exit id=>exact q
 |ret=>exact q
end
section
variable {P:Program} {o:Oper} {env:Env} {H:Qc}
theorem QfR{f g:Nat->Option (Nat×Nat)}:∀(parts:List (Nat×Value)) (cs:Array Value),(∀p∈parts,f p.1=g p.1)->Instr.fill f cs parts=Instr.fill g cs parts
 |[],cs,_=>rfl
 |(i,v)::rest,cs,h=>by
  unfold Instr.fill;rw[h (i,v) (by simp)];have ih:=λcs=>QfR rest cs (λp hp=>h p (by simp[hp]));cases g i with
  |none=>rfl
  |some p=>
   simp;split
   .rfl
   .exact ih _
theorem JZ{e n:Nat}{z:Value}{zs:List A}{parts:List (Nat×Operand)}(j:∀w,(zeroValue t).run P w=.ok z w)(m:ZR (.agg zs) z)(y:∀w,(underlying t).run P w=.ok (.array n e) w)(B:∀w,(sizeOf e).run P w=.ok k w)
  (g:(parts.all λp=>Nat.blt p.1 n)=true)(h:o.op=.build t parts.toArray:=by exact rfl)(hf:Qeq env ((List.range n).map λi=>(i*k,k)) zs parts=some cs:=by exact rfl):OpV P o env H (.agg cs):=by
 intro J E U N a w r;obtain⟨l,rfl,f⟩:=m E U w;obtain⟨d,u,F⟩:=QfS r parts zs l cs f hf;refine⟨.agg d.toArray,?_,d,rfl,F⟩;have x:Instr.fill (λi=>some (i*k,k)) l.toArray (parts.map λp=>(p.1,a.eval p.2))=some d.toArray:=by
  rw[<- u];refine QfR _ _ ?_;intro p s;obtain⟨q,G,rfl⟩:=Xf.1 s;have hlt:=by simpa using Xs.1 g q G
  simp[hlt]
 simp[execOp,h,Instr.build,Vg,j,Result.andThen,y,B,XF,Vh,Value.cells,x]
def orI(k:IntKind)(m n:Int):Int:=k.wrap (BitVec.ofInt k.bits m|||BitVec.ofInt k.bits n).toNat
def QiJ(k:IntKind)(m n:Int):Int:=k.wrap (BitVec.ofInt k.bits m^^^BitVec.ofInt k.bits n).toNat
def QhI(k:IntKind)(m n:Int):Int:=k.wrap (m*2^(min n.toNat k.bits))
def Qfe(k:IntKind)(m n:Int):Int:=m.fdiv (2^(min n.toNat k.bits))
theorem OpV.or{t u:TypeId}{x y:Operand}{k:IntKind}{m n:Int}(e:o.op=.binOp .or t x y u)(d:opA env x=.int k m)(f:opA env y=.int k n):OpV P o env H (.int k (orI k m n)):=by
 intro i j U N a w r;have g:=QK r d;have h:=QK r f;refine⟨_,?_,rfl⟩;generalize a.eval=ρ at*;simp[e,g,h,Op.intBits,go_sem,orI]
theorem OpV.xor{t u:TypeId}{x y:Operand}{k:IntKind}{m n:Int}(e:o.op=.binOp .xor t x y u)(d:opA env x=.int k m)(f:opA env y=.int k n):OpV P o env H (.int k (QiJ k m n)):=by
 intro i j U N a w r;have g:=QK r d;have h:=QK r f;refine⟨_,?_,rfl⟩;generalize a.eval=ρ at*;simp[e,g,h,Op.intBits,go_sem,QiJ]
theorem OpV.shl{t u:TypeId}{x y:Operand}{k g:IntKind}{m n:Int}(e:o.op=.binOp .shl t x y u)(h:opA env x=.int k m)(i:opA env y=.int g n)(d:0<=n):OpV P o env H (.int k (QhI k m n)):=by
 intro l p U N a w r;have f:=QK r h;have j:=QK r i;refine⟨_,?_,rfl⟩;generalize a.eval=ρ at*;simp[e,f,j,Op.shift,go_sem,QhI,Int.not_lt.2 d]
theorem OpV.shr{t u:TypeId}{x y:Operand}{k g:IntKind}{m n:Int}(e:o.op=.binOp .shr t x y u)(h:opA env x=.int k m)(i:opA env y=.int g n)(d:0<=n):OpV P o env H (.int k (Qfe k m n)):=by
 intro l p U N a w r;have f:=QK r h;have j:=QK r i;refine⟨_,?_,rfl⟩;generalize a.eval=ρ at*;simp[e,f,j,Op.shift,go_sem,Qfe,Int.not_lt.2 d]
theorem YU{i T:Nat}(E:Nat.ble h0 H.length=true)(hH:H[i]?=some (.cells T cs))(e:cs[m]?=some .nils):
  Le h0 env H env (H.set i (.cells T (cs.set m (.osl H.length 0 0 k)))++[.row t k []]):=by
 intro F g U N a w r;have hh':=XO E;have hi:=(XI.1 hH).1;have ext:Ext g U w g (U++[none]) w:=⟨λ_ q=>q,λ_ _=>rfl,λ_ _ q=>q,λ_ _ h=>Qaa h⟩;have s:=r.sim.phantom t k;have d:(H++[Blk.row t k []])[i]?=some (.cells T cs):=by rw[XJ hi];exact hH
 have p:H.set i (.cells T (cs.set m (.osl H.length 0 0 k)))++[.row t k []]=(H++[Blk.row t k []]).set i (.cells T (cs.set m (.osl H.length 0 0 k))):=by
  rw[List.set_append_left _ _ hi]
 rw[p];refine⟨g,U++[none],⟨s.weaken d rfl ?_,λq=>(r.env q).mono ext,r.size,r.defers⟩,λ_ q=>q,QF (by rw[r.sim.len];exact hh')⟩;intro y h;cases y with
 |none=>exact h
 |some b=>
  obtain⟨l,u,z,n⟩:=h;refine⟨l,u,?_,n⟩;clear u n d p hH
  induction cs generalizing m l with
  |nil=>cases e
  |cons c cs B=>
   obtain⟨v,f,rfl,x,j⟩:=z;cases m with
   |zero=>
    simp at e;subst e;exact⟨v,f,rfl,.inl ⟨rfl,x⟩,j⟩
   |succ m=>exact⟨v,f,rfl,x,B (by simpa using e) f j⟩
theorem Qhx{i s g n:Nat}{x:Blk}(y:lk env s=.osl i g n k)(hH:H[i]?=some x)(z:Nat.ble h0 H.length=true):Le h0 env H (up env s (.osl H.length g n k)) (H.set i .dead++[x]):=by
 intro E f U N a w r;have u:i<U.length:=by rw[r.sim.len];exact(XI.1 hH).1
 have hσ:=XH u;have ext:Ext f U w f (U++[U[i]]) w:=⟨λ_ q=>q,λ_ _=>rfl,λ_ _ q=>q,λ_ _ h=>Qaa h⟩;refine⟨f,U++[U[i]],⟨r.sim.moved hH hσ,?_,r.size,r.defers⟩,λ_ q=>q,QF (by rw[r.sim.len];exact XO z)⟩;intro d;simp only[lk];by_cases q:d=s
 .subst q;rw[Vz];have:=r.env d;rw[y]at this;rcases this with h|⟨b,p,e,t,m,l,B⟩
  .exact .inl h
  .refine .inr ⟨b,p,e,t,m,?_,B⟩;rw[l]at hσ;rw[<- r.sim.len];simpa using hσ.symm
 .have:Nat.beq d s=false:=by
   rw[VG];intro j;exact q (XN j)
  rw[this];exact(r.env d).mono ext
def Yh(n:Int):UInt8:=n.toNat.toUInt8
def Qk9(P:Program)(H:Qc)(x:A)(l:List Int):Prop:=
 ∀fr ro U w v,Sim fr ro U H w->VR ro U w x v->(∃a c,v=.slice a 0 c/\l=[])\/ ∃b off c,v=.slice (some ⟨b,off,none⟩) l.length c/\(l=[]\/CR ro U w b (l.map λn=>A.int .u8 n) off)
theorem Qh2:∀(l:List Int),(l.map (λn=>[A.int .u8 n])).flatten=l.map λn=>A.int .u8 n
 |[]=>rfl
 |n::l=>by simp[Qh2 l]
theorem Qk9.nils:Qk9 P H .nils []:=λfr ro U w v s h=>.inl ⟨none,0,h,rfl⟩
theorem Qk9.row{i t n:Nat}{l:List Int}(hH:H[i]?=some (.row t 1 (l.map λn=>[A.int .u8 n])):=by exact rfl)(hn:l.length=n:=by exact rfl):Qk9 P H (.osl i 0 n 1) l:=by
 intro x z U w v s h;rcases h with⟨rfl,rfl⟩|⟨b,p,a,B,m,k,rfl,j,⟨y,f⟩,u,E⟩
 .exact .inl ⟨none,0,rfl,VD.1 hn⟩
 .refine .inr ⟨b,p,a,by rw[hn],?_⟩;by_cases d:l=[]
  .exact .inl d
  .have:0<a:=by have:=List.length_pos_iff.2 d;omega
   obtain rfl:=j this;obtain⟨r,q,g⟩:=s.blk i _ _ k hH;have e:=(Y4 (pre:=[]) (by simpa using q) g).flat.1;rw[Qh2]at e;exact .inr (by simpa using e.lift)
theorem Qk9.rsl{l:List Int}:Qk9 P H (.rsl 1 (l.map λn=>[A.int .u8 n])) l:=by
 intro h j U w v s ⟨a,c,h1,h2,e⟩;subst h1;rw[XX]at*;rcases e with e|⟨b,d,rfl,i,g⟩
 .have:=List.map_eq_nil_iff.1 e;subst this;exact .inl ⟨a,c,by simp,rfl⟩
 .have f:=g.flat.1;rw[Qh2]at f;exact .inr ⟨b,d,c,rfl,.inr f.lift⟩
theorem Qcy{ro:Nat->Prop}{U:Sig}{w:World}{b:Nat}:∀(l:List Int) (off:Nat) (a:ByteArray),CR ro U w b (l.map λn=>A.int .u8 n) off->(Extern.Bytes.loadBytes ⟨b,off,none⟩ l.length a).run P w=.ok ⟨a.data++(l.map Yh).toArray⟩ w
 |[],off,a,_=>by simp[Extern.Bytes.loadBytes]
 |n::l,off,a,⟨⟨v,h1,hp,h2⟩,h3⟩=>by
  have h2':=h2;subst h2';have ih:=Qcy l (off+1) (a.push n.toNat.toUInt8) h3;have hl:(Go.load ⟨b,off,none⟩).run P w=.ok (.int .u8 n) w:=by simp[h1]
  simp[XW,Extern.Bytes.loadBytes,Vg,hl,Result.andThen];have d:(⟨b,off,none⟩:Addr).add 1=⟨b,off+1,none⟩:=by simp[JX]
  rw[d,ih];simp[Yh]
theorem Qeg{x:A}{l:List Int}{v:Value}(h:Qk9 P H x l)(s:Sim fr ro U H w)(f:VR ro U w x v):(Extern.Bytes.bytesOf v).run P w=.ok ⟨(l.map Yh).toArray⟩ w:=by
 rcases h fr ro U w v s f with⟨a,c,rfl,rfl⟩|⟨b,d,c,rfl,e⟩
 .cases a with
  |none=>rfl
  |some a=>rfl
 .rcases e with rfl|e
  .rfl
  .have:=Qcy (P:=P) l d .empty e;simp only[Extern.Bytes.bytesOf,this];simp[ByteArray.empty,ByteArray.emptyWithCapacity];rfl
def cmpB(l m:List Int):Int:=Lib.compareBytes (l.map Yh) (m.map Yh)
theorem OpV.cmpB{c:Call}{f:FuncId}{fn:Func}{x y:Operand}{t:Array TypeId}{ax h:A}{l m:List Int}(z:P.funcs[f]?=some fn)(d:(fn.name=="runtime.NumGoroutine")=false)(k:fn.body.isNone=true)(j:Extern.findNext fn=none)(he:Extern.find fn=some Extern.BytealgCompare.compare)
  (p:Qk9 P H ax l)(E:Qk9 P H h m)(n:o.op=.call c:=by exact rfl)(hc:c={callee:=.value (.func f),args:= #[x,y],argTypes:=t}:=by exact rfl)(hx:opA env x=ax:=by exact rfl)(hy:opA env y=h:=by exact rfl):OpV P o env H (.int .i64 (cmpB l m)):=by
 intro F G U N a w r;have g:=Qh r x;rw[hx]at g;have i:=Qh r y;rw[hy]at i;have s:=Qeg p r.sim g;have u:=Qeg E r.sim i;refine⟨.int .i64 (Sw.cmpB l m),?_,rfl⟩;subst hc;have e:a.eval (.func f)=.func (.func f) #[] #[]:=rfl;have q:(callFunc f #[a.eval x,a.eval y]).run P w=.ok (.value (.int .i64 (Sw.cmpB l m))) w:=by
  rw[run_callFunc_extern z d k j he];have B:Sem.run P (Extern.BytealgCompare.compare #[a.eval x,a.eval y]) w=.ok (.int .i64 (Sw.cmpB l m)) w:=by
   change Sem.run P (do pure (goInt (Extern.BytealgCompare.cmp (<- Extern.Bytes.bytesOf (a.eval x)) (<- Extern.Bytes.bytesOf (a.eval y))))) w=_;simp[Vg,s,u,Result.andThen,Lib.cmp_eq];rfl
  rw[B];rfl
 simp[execOp,n,resolve,e,Deferred.ofValue,invoke,Vh];simpa using q
theorem Q7{n off:Nat}{x y:Operand}{i:Int}{g:IntKind}(f:(i==j)=true)(p:Nat.blt j n=true)(z:∀w,(underlying t).run P w=.ok (.array n m) w)(E:∀w,(sizeOf m).run P w=.ok k w)(B:Nat.ble 2 n=true)
  (s:o.op=.indexAddr t x y:=by exact rfl)(hx:opA env x=.ptr b off:=by exact rfl)(hy:opA env y=.int g i:=by exact rfl):OpV P o env H (.ptr b (off+j*k)):=by
 intro G J U N a w r;have d:=Qh r x;rw[hx]at d;obtain⟨e,d,F⟩:=d;have l:=Qh r y;rw[hy]at l;have u:a.eval y=.int g i:=l;have hi:=by simpa using f
 have hjn:=by simpa using p
 subst hi;refine⟨.pointer (some ⟨e,off+j*k,none⟩),?_,e,d,rfl⟩;have hr:=by omega
 have h:(⟨e,off,none⟩:Addr).add ((j:Int).toNat*k)=⟨e,off+j*k,none⟩:=by
  unfold Addr.add;split
  .rename_i q;simp at q;simp[q]
  .simp
 generalize a.eval=ρ at*;simp[s,F,Instr.indexAt,z,E,hr,go_sem,hjn]
end
theorem Qn8{name:String}{d:DataW Unit}:∀{a:List (String×DataW Unit)} {ps:List MemPlace},DataW.LaidVars P W a ps->(name,d)∈a->
  ∃(g:Nat) (t:TypeId) (cs:Array Value) (e:Nat) (p:List MemPlace),P.globalNamed name=some g/\(P.globals[g]?).map (·.type)=some t/\W.var? P name=some cs/\DataW.trod (λ_=>()) P W 0 (λ_=>true) false e t cs.toList=some (d,p):=by
 intro a
 induction a with
 |nil=>simp
 |cons x a k=>
  intro ps h f;obtain⟨g,t,cs,e,p,q,l,r,m,i,n,j⟩:=h
  grind
theorem Yo{name:String}{a b:Int}{g e:Nat}{j k:Field}{d:List (String×DataW Unit)}{ps:List MemPlace}(h:DataW.LaidVars P W d ps)(w:(name,DataW.agg [.lit (.int .i64 a),.lit (.int .i64 b)])∈d)
  (hg:P.globalNamed name=some g)(i:(P.globals[g]?).map (·.type)=some t)(M:P.underlying t=some (.struct #[j,k]))(B:j.type=e)(L:k.type=e)(F:j.offset=0)(E:k.offset=1)(he:P.underlying e=some (.int .i64))(f:P.cellsOf e=1)(x:P.cellsOf t=2):
  W.cell? ⟨g,0,none⟩=some (.int .i64 a)/\W.cell? ⟨g,1,none⟩=some (.int .i64 b):=by
 obtain⟨T,t',R,r,p,z,N,m,y⟩:=Qn8 h w;obtain rfl:=XV (hg.symm.trans z);obtain rfl:=XV (i.symm.trans N);obtain⟨X,y1,n,V,O,q,l⟩:=Go.ChangeShapes.trod_struct2 M y;rw[B,F,f]at q;rw[L,E,f]at l;obtain⟨H,s,Q,_⟩:=DataW.trod_int he q;obtain⟨G,u,Y,_⟩:=DataW.trod_int he l;have J:a=H/\b=G:=by grind
 rw[World.var?_cell hg m,World.var?_cell hg m];constructor
 .have:=congrArg (·[0]?) s
  grind
 .have:=congrArg (·[0]?) u
  grind
theorem JR{g:Nat}{a b:Int}(s:w.cell? ⟨g,0,none⟩=some (.int .i64 a)/\w.cell? ⟨g,1,none⟩=some (.int .i64 b)):∀(zs:List Int),some [a,b]=some zs->∀(i:Nat) (z:Int),zs[i]?=some z->w.cell? ⟨g,i,none⟩=some (.int .i64 z)
 |zs,h,0,z,hi=>by grind
 |zs,h,1,z,hi=>by grind
 |zs,h,i+2,z,hi=>by grind
def Qbs:Option Blk->Bool
 |some .dead=>true
 |_=>false
def Qar(hB hE:Nat)(H H':Qc):Bool:=(List.range (hE-hB)).all λp=> !Qbs H'[hB+p]? ||Qbs H[hB+p]?
def Qmm(hB hE:Nat)(U:Sig)(H:Qc):Prop:=∀p,hB<=p->p<hE->Qbs H[p]?=true->U[p]?=some none
variable {hB hE:Nat}
theorem Qm6{H:Qc}(h:Qar hB hE H H'=true){p:Nat}(d:hB<=p)(e:p<hE)(a:Qbs H'[p]?=true):Qbs H[p]?=true:=by
 have:=Xs.1 h (p-hB) (List.mem_range.2 (by omega));rw[show hB+(p-hB)=p by omega,a]at this;simpa using this
theorem Sim.allocAt{H:Qc}(s:Sim fr ro U H w){p:Nat}(M:U[p]?=some none){obj:Obj}{x:Blk}
  (P:BR ro (U.set p (some w.heap.size)) (w.alloc obj) x (some w.heap.size))
  (F:∀c,Hid (w.alloc obj) x w.heap.size c->False:=by exact λ_ h=>h.elim):Sim fr ro (U.set p (some w.heap.size)) (H.set p x) (w.alloc obj):=by
 have ev:Qm fr ro w ro (w.alloc obj):=Qm.alloc obj s.roLt s.frLt;have t:=s.len;have E:p<U.length:=(XI.1 M).1;have u:Ext ro U w ro (U.set p (some w.heap.size)) (w.alloc obj):=⟨ev.sub,ev.keepRo,ev.shape,λi b q=>by
  rw[XM (λz=>by subst z;rw[M]at q;cases q)];exact q⟩
 have e:∀(i:Nat) (y:Option Nat),(U.set p (some w.heap.size))[i]?=some y->(i≠p/\U[i]?=some y)\/(i=p/\y=some w.heap.size):=by
  intro i y h;by_cases q:i=p
  .subst q;rw[Xa E]at h;exact .inr ⟨rfl,(XV h).symm⟩
  .rw[XM (λz=>q z.symm)]at h;exact .inl ⟨q,h⟩
 have m:∀i:Nat,i≠p->(H.set p x)[i]?=H[i]? :=λi N=>XM (λz=>N z.symm);have J:(H.set p x)[p]?=some x:=Xa (by omega);refine⟨by simp[t],s.roOk.to (λ_ q=>q) ev.keepRo (λb h=>?_),λb h=>?_,s.roFr,?_,?_,?_,s.hidTo (· = ·) Q6 (by rw[Ji];omega) (λ_ _ _ _ _ _ _ q=>q) (λ_ _ _ _ _ _ _ q=>q) λj d y l k Q=>?_⟩
 rotate_left 5
 .rcases e j _ l with⟨q,l⟩|⟨rfl,n⟩
  .rw[m j q]at k;exact .inl ⟨j,y,rfl,l,k,id,λc q=>s.hidKeep l k (λz=>Yl w obj d (s.own j d y l k z).1) ev.keepRo q⟩
  .rw[J]at k;cases k;cases n;exact .inr ⟨XQ _,F⟩
 .rw[Ji];have:=s.roLt b h;omega
 .rw[Ji];have:=s.frLt b h;omega
 .intro i b y f g r;rw[Ji];rcases e i _ f with⟨q,f⟩|⟨rfl,n⟩
  .rw[m i q]at g;obtain⟨a,b,c⟩:=s.own i b y f g r;exact⟨by omega,b,c⟩
  .cases n;exact⟨by omega,λq=>by have:=s.roLt _ q;omega,λq=>by have:=s.frLt _ q;omega⟩
 .intro i j b y z f g r B L G;rcases e i _ f with⟨q,l⟩|⟨O,n⟩<;>rcases e j _ g with⟨q',k⟩|⟨ej,e2⟩
  .rw[m i q]at r;rw[m j q']at B;exact s.inj i j b y z l k r B L G
  .cases e2;rw[m i q]at r;have:=(s.own i _ y l r L).1;omega
  .cases n;rw[m j q']at B;have:=(s.own j _ z k B G).1;omega
  .rw[O,ej]
 .intro i y z f g;rcases e i _ f with⟨q,f⟩|⟨rfl,n⟩
  .rw[m i q]at g;refine(s.blk i y z f g).keep u ?_ ?_
   .rintro b rfl t;exact Yl w obj b (s.own i b z f g t).1
   .rintro b c rfl t;exact Yl w obj c (s.hid i b z c f g t).lt
  .rw[J]at g;cases g;subst n;exact P
def OpZ(P:Program)(o:Oper)(t:Nat)(cs:List A):Prop:=
 ∀(ro:Nat->Prop) (U:Sig) (w:World) (a:Act),∃l:List Value,(execOp a.eval o).run P w=.ok (.value (.pointer (some ⟨w.heap.size,0,none⟩))) (w.alloc (.cells l.toArray t))/\LR ro U w cs l/\ ∀v∈l,Qy v
theorem OpZ.alloc{P:Program}{o:Oper}{t:Nat}{z:Value}{v:A}{cs:List A}(i:∀w,(zeroValue t).run P w=.ok z w)(f:ZR v z)(g:o.op=.alloc t:=by exact rfl)(hk:Yj v=true:=by exact rfl)(hcs:Yr v=cs:=by exact rfl)(hpl:cs.all Yy=true:=by exact rfl):
  OpZ P o t cs:=by
 intro h U w a;obtain⟨l,j,d⟩:=(f h U w).cells hk;subst hcs;refine⟨l,?_,d,d.plain hpl⟩;generalize a.eval=ρ at*;have e:(newVar t z).run P w=.ok ⟨w.heap.size,0,none⟩ (w.alloc (.cells l.toArray t)):=by
  unfold newVar;rw[j];rfl
 simp only[execOp,g,Instr.alloc,Vg,i,Result.andThen,e];rfl
def OpZR(P:Program)(o:Oper)(e:Env)(H:Qc)(p:Nat)(x:A)(B:Blk):Prop:=
 ∀fr ro U N a w,Rel fr ro U H e N a w->∃v obj,(execOp a.eval o).run P w=.ok (.value v) (w.alloc obj)/\(∀c,Hid (w.alloc obj) B w.heap.size c->False)/\
  ∀σ',σ'[p]?=some (some w.heap.size)->Ext ro U w ro σ' (w.alloc obj)->VR ro σ' (w.alloc obj) x v/\BR ro σ' (w.alloc obj) B (some w.heap.size)
variable {R:Exit->Act->World->Prop}{l:List Oper}
theorem Qck{i:Nat}{K:Act->World->Prop}{a:Act}
  (B:l[i]?=some o)(h:wpL P rd l.toArray R [o] a w)(k:∀e a' w',R e a' w'->e=.normal/\a'.defers=a.defers)(m:∀v w',R .normal (a.put o.dst v) w'->K (a.put o.dst v) w'):
  wpOpIn (WF rd) 0 P l.toArray Q i K a w:=by
 unfold wpOpIn;have s:l.toArray[i]?=some o:=by simpa using B
 rw[s];simp only;unfold wpL wpListIn at h;split at h
 .rename_i u;rw[Vm u];obtain⟨j,h⟩:=h;refine⟨j,?_⟩;have g:=QiM (by
   intro a' w' q;unfold wpListIn at q;exact(k _ _ _ q).2) h
  generalize(o.semAt (WF rd).round a.eval).run P w=res at*;cases res with
  |ok n w'=>
   cases n with
   |value v=>exact m _ _ g.1
   |skip=>exact m _ _ g.1
   |defer F=>
    exfalso;have:=(k _ _ _ g.1).2;have:=congrArg List.length this
    revert this
    cases o.dst<;>simp[Act.put]
   |enter f p=>
    refine⟨g.1,CallsIn.mono g.2 (λe t d=>?_)⟩;cases e with
    |returned v=>exact m _ _ d.1
    |panicked c=>have:=(k _ _ _ d).1;cases this
    |outgrown=>obtain⟨E,w1,d⟩:=d;have:=(k _ _ _ d).1;cases this
   |row r p=>
    exact⟨g.1,RowsIn.mono g.2 (λ_ _ d=>m _ _ d.1)⟩
   |round l f y assign z=>
    refine⟨g.1,RoundIn.mono g.2 (λe t d=>?_)⟩;cases e with
    |returned v=>exact m _ _ d.1
    |panicked c=>have:=(k _ _ _ d).1;cases this
    |outgrown=>obtain⟨E,w1,d⟩:=d;have:=(k _ _ _ d).1;cases this
   |_=>exact g.elim
  |halt x w'=>
   cases x with
   |panic v=>have:=(k _ _ _ g).1;cases this
   |_=>exact g.elim
 .rename_i u;rw[Vl u];obtain⟨j,h⟩:=h;refine⟨j,?_⟩;unfold wpListIn at h;exact m _ _ h
theorem Qm5(r:∀i o,l[i]?=some o->∀j∈Qn o,j<i)(k:∀i o,m<i->l[i]?=some o->i-1∈Qn o):
  ∀(d t:Nat) (L:Array Bool) (a:Act) (w:World),L.size=l.length->(∀i,i<l.length->(onL L i↔i<t))->unl L<=d->m<=t->t<=l.length->
   wpL P rd l.toArray Q (l.drop t) a w->wpAnyIn (WF rd) 0 P .any l.toArray Q d L a w:=by
 intro d
 induction d with
 |zero=>
  intro t L a w hsz hL hf hm ht h;have:t=l.length:=by
   rcases Vw t l.length with q|q
   .have:=Qlw (L:=L) (i:=t) (by omega) (λz=>by have:=(hL t q).1 z;omega);omega
   .omega
  subst this;refine⟨List.eq_nil_iff_forall_not_mem.2 λi p=>?_,?_⟩
  .obtain⟨o,f,n,_⟩:=(QaH hsz).1 p;have e:=(XI.1 f).1;exact n ((hL i e).2 e)
  .rw[Xr]at h;exact h
 |succ d H=>
  intro t L a w hsz hL hf hm ht h;have B:∀i o,l[i]?=some o->¬onL L i->(∀j∈Qn o,onL L j)->i=t:=by
   intro i o f n x;have e:=(XI.1 f).1;have J:t<=i:=by
    rcases Vw i t with q|q
    .exact absurd ((hL i e).2 q) n
    .exact q
   rcases Vw t i with q|q
   .have:=(hL (i-1) (by omega)).1 (x _ (k i o (by omega) f));omega
   .omega
  rcases Vw t l.length with g|g
  .have F:l[t]?=some l[t]:=XH g;have s:¬onL L t:=λq=>by have:=(hL t g).1 q;omega
   have G:t∈Region.ready .any l.toArray L:=by
    refine(QaH hsz).2 ⟨_,F,s,λj u=>?_⟩;have:=r t _ F j u;exact(hL j (by omega)).2 this
   refine⟨λq=>(by rw[q]at G;cases G),λi p=>?_⟩;obtain⟨o,f,n,x⟩:=(QaH hsz).1 p;obtain rfl:=B i o f n x;rw[Xp g]at h;obtain rfl:l[i]=o:=by rw[XH g]at f;exact XV f
   unfold wpOpIn;rw[show l.toArray[i]?=some l[i]by rw[XE];exact f];simp only;unfold wpL wpListIn at h;have E:∀a w,wpL P rd l.toArray Q (l.drop (i+1)) a w->wpAnyIn (WF rd) 0 P .any l.toArray Q d (L.setIfInBounds i true) a w:=by
    intro a w q;have M:=QhF (L:=L) (i:=i) (by omega) s;refine H (i+1) _ a w (by simpa using hsz) (λj u=>?_) (by omega) (by omega) (by omega) q;rw[JT (by omega),hL j u];omega
   split at h
   .rename_i y;rw[Vm y];exact Oper.wpIn_mono E h
   .rename_i y;rw[Vl y];exact⟨h.1,E _ _ h.2⟩
  .have:t=l.length:=by omega
   subst this;rw[Xr]at h;refine⟨λ_=>h,λi p=>?_⟩;obtain⟨o,f,n,_⟩:=(QaH hsz).1 p;have e:=(XI.1 f).1;exact absurd ((hL i e).2 e) n
def Qpi(af ds:List Nat)(xs:List A)(env0 e:Env):Prop:=
 ∀s,(∃j x,af.contains j=true/\ds[j]?=some s/\xs[j]?=some x/\lk e s=x)\/lk e s=.any\/(ds.contains s=false/\lk e s=lk env0 s)
inductive JP (P:Program) (N:Nat) (l:List Oper) (ds:List Nat) (xs:List A) (env0:Env) (hB hE:Nat) (i:Nat) (H H':Qc):Prop
 |mk (o:Oper) (e:Env) (d:Nat) (x:A) (ho:l[i]?=some o) (hd:o.dst=some d) (hx:xs[i]?=some x) (hdd:Qar hB hE H H'=true) (hs:Sb (Qn o) (Qio l i) ds xs env0 e)
   (h:WO P H.length N l.toArray [o] e H (Jc (up e d x) H')):JP P N l ds xs env0 hB hE i H H'
 |unit (o:Oper) (e:Env) (ho:l[i]?=some o) (hd:o.dst=none) (hx:xs[i]?=some .any) (hdd:Qar hB hE H H'=true) (hs:Sb (Qn o) (Qio l i) ds xs env0 e)
   (h:WO P H.length N l.toArray [o] e H (Jc e H')):JP P N l ds xs env0 hB hE i H H'
 |alloc (o:Oper) (d t p:Nat) (cs:List A) (ho:l[i]?=some o) (hd:o.dst=some d) (hg:o.guard=none) (hx:xs[i]?=some (.ptr p 0)) (hp:(Nat.ble hB p&&Nat.blt p hE)=true) (hdead:Qbs H[p]?=true)
   (hH:H.set p (.cells t cs)=H') (h:OpZ P o t cs) (hN:Nat.blt d N=true):JP P N l ds xs env0 hB hE i H H'
 |row (o:Oper) (e:Env) (d p:Nat) (x:A) (B:Blk) (ho:l[i]?=some o) (hd:o.dst=some d) (hg:o.guard=none) (hx:xs[i]?=some x) (hp:(Nat.ble hB p&&Nat.blt p hE)=true) (hdead:Qbs H[p]?=true) (hlive:Qbs (some B)=false)
   (hH:H.set p B=H') (hs:Sb (Qn o) (Qio l i) ds xs env0 e) (h:OpZR P o e H p x B) (hN:Nat.blt d N=true):JP P N l ds xs env0 hB hE i H H'
 |val (o:Oper) (e:Env) (d:Nat) (x:A) (ho:l[i]?=some o) (hd:o.dst=some d) (hg:o.guard=none) (hx:xs[i]?=some x) (hN:Nat.blt d N=true) (he:Qpi (Qn o) ds xs env0 e) (h:OpV P o e H x)
   (hH:H=H':=by rfl):JP P N l ds xs env0 hB hE i H H'
 |woE (o:Oper) (e:Env) (d:Nat) (x:A) (ho:l[i]?=some o) (hd:o.dst=some d) (hx:xs[i]?=some x) (he:Qpi (Qn o) ds xs env0 e) (hdd:Qar hB hE H H'=true) (h:WO P H.length N l.toArray [o] e H (Jc (up e d x) H')):JP P N l ds xs env0 hB hE i H H'
variable {xs:List A}
theorem Sb.rel{af g f:List Nat}{e:Env}{a:Act}(k:Sb af g f xs env0 e)
  (h:∀j∈af,∀s x,f[j]?=some s->xs[j]?=some x->VR ro U w x (a.tmps.getD s undef))
  (i:∀s,f.contains s=false->VR ro U w (lk env0 s) (a.tmps.getD s undef))(hP:∀j s,g.contains j=true->f[j]?=some s->VR ro U w (lk env0 s) (a.tmps.getD s undef)):
  ∀s,VR ro U w (lk e s) (a.tmps.getD s undef):=by
 intro s
 induction k with
 |nil=>exact trivial
 | @dep j s1 x1 r h1 h2 h3 _ ih=>
  unfold lk;cases d:Nat.beq s s1 with
  |false=>exact ih
  |true=>
   obtain rfl:=XN d;exact h j (by simpa using h1) _ _ h2 h3
 | @old s1 x1 r h1 h2 _ ih=>
  unfold lk;cases d:Nat.beq s s1 with
  |false=>exact ih
  |true=>
   obtain rfl:=XN d;subst h2;exact i _ h1
 | @pre j s1 x1 r h1 h2 h3 _ ih=>
  unfold lk;cases d:Nat.beq s s1 with
  |false=>exact ih
  |true=>
   obtain rfl:=XN d;subst h3;exact hP j _ h1 h2
structure After (fr ro:Nat->Prop) (U:Sig) (w:World) (hB hE:Nat) (H':Qc) (xs:List A) (i:Nat) (o:Oper) (a':Act) (w':World) (ro':Nat->Prop) (σ':Sig):Prop where
 val:∀x,xs[i]?=some x->match o.dst with
  |some d=>VR ro' σ' w' x (a'.tmps.getD d undef)
  |none=>x=.any
 sim:Sim fr ro' σ' H' w'
 ev:Qm fr ro w ro' w'
 ext:Ext ro U w ro' σ' w'
 holes:Qmm hB hE σ' H'
 take:σ'.take hB=U.take hB
theorem JP.use{ds:List Nat}{i:Nat}{H:Qc}(hb:JP P N l ds xs env0 hB hE i H H'){K:Act->World->Prop}{a:Act}(O:l[i]?=some o)
  (f:Sim fr ro U H w)(hN:a.tmps.size=N)(n:QcJ fr a.defers w)(ae:Qd4 rd fr w)(hh:Qmm hB hE U H)(hl:hE<=H.length)(al:hB<=hE)
  (hD:∀j∈Qn o,∀s x,ds[j]?=some s->xs[j]?=some x->VR ro U w x (a.tmps.getD s undef))
  (hO:∀s,ds.contains s=false->VR ro U w (lk env0 s) (a.tmps.getD s undef))(hP:∀j s,(Qio l i).contains j=true->ds[j]?=some s->VR ro U w (lk env0 s) (a.tmps.getD s undef))
  (hK:∀v w' ro' σ',After fr ro U w hB hE H' xs i o (a.put o.dst v) w' ro' σ'->K (a.put o.dst v) w'):
  wpOpIn (WF rd) 0 P l.toArray Q i K a w:=by
 have X:∀{e:Env} {H2:Qc} {E:Exit} {u:Act} {w':World},QbL H.length fr ro U w N a.defers (Jc e H2) E u w'->E=.normal/\u.defers=a.defers:=by
  rintro e H2 E u w' ⟨x,_,_,_,_,_,k,⟨rfl,_⟩,_,_,_,L,_⟩;refine⟨?_,L⟩;cases E<;>first|rfl|exact k.elim|cases k
 have ai:∀{σ':Sig} {w':World},Qm fr ro w ro w'->σ'.take H.length=U.take H.length->True:=λ_ _=>trivial;have Y:∀{e:Env} {u:Act} {w':World},QbL H.length fr ro U w N a.defers (Jc e H') .normal u w'->Qar hB hE H H'=true->
   ∃ro' σ',Sim fr ro' σ' H' w'/\Qm fr ro w ro' w'/\Ext ro U w ro' σ' w'/\Qmm hB hE σ' H'/\σ'.take hB=U.take hB/\ ∀s,VR ro' σ' w' (lk e s) (u.tmps.getD s undef):=by
  rintro e u w' ⟨_,aj,H2,ro',σ',ak,_,⟨_,rfl,rfl⟩,r',he,ht,_,ah⟩ G;have hσ:σ'=U++σ'.drop H.length:=by
   conv=>lhs;rw[<- Xx H.length σ']
   rw[ht, <- f.len,X4]
  refine⟨ro',σ',r'.sim.frMono ah.sub,he,?_,?_,?_,r'.env⟩
  .rw[hσ];exact he.ext U _
  .intro p k L h3;have:=hh p k L (Qm6 G k L h3);rw[hσ,XJ (by rw[f.len];omega)];exact this
  .rw[hσ];exact QF (by rw[f.len];omega)
 cases hb with
 |woE m e d x g M T he G h=>
  obtain rfl:m=o:=XV (g.symm.trans O);have hr:∀s,VR ro U w (lk e s) (a.tmps.getD s undef):=λs=>by
   rcases he s with⟨j,x,k,L,h3,V⟩|V|⟨k,V⟩
   .rw[V];exact hD j (by simpa using k) s x L h3
   .rw[V];exact trivial
   .rw[V];exact hO s k
  refine Qck O (h rd fr ro U a w ⟨f,hr,hN,n⟩ ae) (λ_ _ _ q=>X q) (λv w' q=>?_);obtain⟨ro',σ',g1,g2,F,g4,g5,g6⟩:=Y q G;refine hK v w' ro' σ' ⟨λy hy=>?_,g1,g2,F,g4,g5⟩;obtain rfl:=XV (T.symm.trans hy);have:=g6 d;unfold lk at this;rw[Vz]at this;rw[M]at this⊢;exact this
 |mk m e d x g M T G hs h=>
  obtain rfl:m=o:=XV (g.symm.trans O);refine Qck O (h rd fr ro U a w ⟨f,hs.rel hD hO hP,hN,n⟩ ae) (λ_ _ _ q=>X q) (λv w' q=>?_);obtain⟨ro',σ',g1,g2,F,g4,g5,g6⟩:=Y q G;refine hK v w' ro' σ' ⟨λy hy=>?_,g1,g2,F,g4,g5⟩;obtain rfl:=XV (T.symm.trans hy);have:=g6 d;unfold lk at this;rw[Vz]at this;rw[M]at this⊢;exact this
 |unit m e g M T G hs h=>
  obtain rfl:m=o:=XV (g.symm.trans O);refine Qck O (h rd fr ro U a w ⟨f,hs.rel hD hO hP,hN,n⟩ ae) (λ_ _ _ q=>X q) (λv w' q=>?_);obtain⟨ro',σ',g1,g2,F,g4,g5,g6⟩:=Y q G;refine hK v w' ro' σ' ⟨λy hy=>?_,g1,g2,F,g4,g5⟩;obtain rfl:=XV (T.symm.trans hy);rw[M]
 |val m e d x g M hg T aa he h hH=>
  obtain rfl:m=o:=XV (g.symm.trans O);subst hH;have hr:Rel fr ro U H e N a w:=by
   refine⟨f,λs=>?_,hN,n⟩;rcases he s with⟨j,x,k,L,h3,V⟩|V|⟨k,V⟩
   .rw[V];exact hD j (by simpa using k) s x L h3
   .rw[V];exact trivial
   .rw[V];exact hO s k
  obtain⟨v0,k,L⟩:=h fr ro U N a w hr;have hw:Region.wanted m (yielded l.toArray a.tmps)=true:=by unfold Region.wanted;rw[hg]
  refine Qck (R:=λE u w'=>E=.normal/\u.defers=a.defers/\u=a.put m.dst v0/\w'=w) O (JJ hw k ?_) (λ_ _ _ q=>⟨q.1,q.2.1⟩) (λv w' q=>?_)
  .unfold wpL wpListIn;refine⟨rfl,?_,rfl,rfl⟩;rw[M];rfl
  .obtain⟨_,_,q1,rfl⟩:=q;refine hK v _ ro U ⟨λy hy=>?_,f,Qm.refl _ _ _,⟨λ_ q=>q,λ_ _=>rfl,λ_ _ q=>q,λ_ _ q=>q⟩,hh,rfl⟩;obtain rfl:=XV (T.symm.trans hy);rw[q1,M];have W:d<a.tmps.size:=by rw[hN];simpa using aa
   show VR ro U w' x _;simpa[Act.put,Array.getD_eq_getD_getElem?,W]using L
 |row m e d p x B g M hg T hp J hlive hH hs h aa=>
  obtain rfl:m=o:=XV (g.symm.trans O);subst hH;simp only[XT]at hp;have ag:=XO hp.1;have ac:p<hE:=by simpa using hp.2
  have hσp:=hh p ag ac J;have hr:Rel fr ro U H e N a w:=⟨f,hs.rel hD hO hP,hN,n⟩;obtain⟨v0,af,k,L,h3⟩:=h fr ro U N a w hr;have hw:Region.wanted m (yielded l.toArray a.tmps)=true:=by unfold Region.wanted;rw[hg]
  have ev:Qm fr ro w ro (w.alloc af):=Qm.alloc _ f.roLt f.frLt;have ab:p<U.length:=by rw[f.len];omega
  have r:Ext ro U w ro (U.set p (some w.heap.size)) (w.alloc af):=⟨ev.sub,ev.keepRo,ev.shape,λj b q=>by
   rw[XM (λz=>by subst z;rw[hσp]at q;cases q)];exact q⟩
  obtain⟨g8,g9⟩:=h3 _ (Xa ab) r;refine Qck (R:=λE u w'=>E=.normal/\u.defers=a.defers/\u=a.put m.dst v0/\w'=w.alloc af) O (JJ hw k ?_) (λ_ _ _ q=>⟨q.1,q.2.1⟩) (λv w' q=>?_)
  .unfold wpL wpListIn;refine⟨rfl,?_,rfl,rfl⟩;rw[M];rfl
  .obtain⟨_,_,q1,rfl⟩:=q;refine hK v _ ro (U.set p (some w.heap.size)) ⟨λy hy=>?_,f.allocAt hσp g9 L,ev,r,λp' g1 g2 F=>?_,?_⟩
   .obtain rfl:=XV (T.symm.trans hy);rw[q1,M];have W:d<a.tmps.size:=by rw[hN];simpa using aa
    show VR ro _ _ x _;simpa[Act.put,Array.getD_eq_getD_getElem?,W]using g8
   .by_cases q:p'=p
    .subst q;rw[Xa (by omega),hlive]at F;cases F
    .rw[XM (λz=>q z.symm)]at F⊢;exact hh p' g1 g2 F
   .rw[List.take_set,List.set_eq_of_length_le];rw[Xw];omega
 |alloc m d t p cs g M hg T hp J hH h aa=>
  obtain rfl:m=o:=XV (g.symm.trans O);subst hH;simp only[XT]at hp;have ag:=XO hp.1;have ac:p<hE:=by simpa using hp.2
  have hσp:=hh p ag ac J;obtain⟨lv,k,L,h3⟩:=h ro U w a;have hw:Region.wanted m (yielded l.toArray a.tmps)=true:=by unfold Region.wanted;rw[hg]
  have ev:Qm fr ro w ro (w.alloc (.cells lv.toArray t)):=Qm.alloc _ f.roLt f.frLt;have ab:p<U.length:=by rw[f.len];omega
  have r:Ext ro U w ro (U.set p (some w.heap.size)) (w.alloc (.cells lv.toArray t)):=⟨ev.sub,ev.keepRo,ev.shape,λj b q=>by
   rw[XM (λz=>by subst z;rw[hσp]at q;cases q)];exact q⟩
  refine Qck (R:=λE u w'=>E=.normal/\u.defers=a.defers/\u=a.put m.dst (.pointer (some ⟨w.heap.size,0,none⟩))/\w'=w.alloc (.cells lv.toArray t)) O (JJ hw k ?_) (λ_ _ _ q=>⟨q.1,q.2.1⟩) (λv w' q=>?_)
  .unfold wpL wpListIn;refine⟨rfl,?_,rfl,rfl⟩;rw[M];rfl
  .obtain⟨_,_,q1,rfl⟩:=q;refine hK v _ ro (U.set p (some w.heap.size)) ⟨λy hy=>?_,f.allocAt hσp ⟨lv,Yk _ _,L.mono r,h3⟩,ev,r,λp' g1 g2 F=>?_,?_⟩
   .obtain rfl:=XV (T.symm.trans hy);rw[q1,M];have W:d<a.tmps.size:=by rw[hN];simpa using aa
    refine⟨w.heap.size,Xa ab,?_⟩;simp[Act.put,Array.getD_eq_getD_getElem?,W]
   .by_cases q:p'=p
    .subst q;rw[Xa (by omega)]at F;cases F
    .rw[XM (λz=>q z.symm)]at F⊢;exact hh p' g1 g2 F
   .rw[List.take_set,List.set_eq_of_length_le];rw[Xw];omega
def same(a b:List Nat):Bool:=a.all (b.contains ·)&&b.all (a.contains ·)
theorem Qpu{a b:List Nat}(h:same a b=true)(i:Nat):i∈a↔i∈b:=by
 unfold same at h;simp only[XT,Xs,List.contains_iff_mem]at h;exact⟨h.1 i,h.2 i⟩
structure Qpl (l:List Oper) (m:Nat) (ds:List Nat) (hs:List Bool) (rq ms:List (List Nat)) (pl:List (List (Nat×Nat))) (N:Nat):Prop where
 len:m<=l.length
 dst:∀i o,i<m->l[i]?=some o->(∃d,o.dst=some d/\ds[i]?=some d/\d<N)\/o.dst=none
 dsl:ds.length=m
 nodup:∀(i j d:Nat),ds[i]?=some d->ds[j]?=some d->i=j
 back:∀i o,l[i]?=some o->∀j∈Qn o,j<i
 mid:∀o,l[m]?=some o->∀j,j<m->QcI l m j
 chain:∀i o,m<i->l[i]?=some o->i-1∈Qn o
 rqs:∀i o,i<m->l[i]?=some o->∀h∈rq.getD i [],h<m/\hs.getD h false=true/\(h∈Qn o\/ ∃j∈Qn o,j<m/\h∈rq.getD j [])
 ms0:ms.getD 0 []=[]
 full:∀st,st<ms.length->st+1=ms.length\/ ∃i,i<m/\hs.getD i false=true/\i∉ms.getD st []
 msh:∀st h,h∈ms.getD st []->h<m/\hs.getD h false=true
 pls:∀i st,i<m->st<ms.length->(∀h∈rq.getD i [],h∈ms.getD st [])->(hs.getD i false=true->i∉ms.getD st [])->(∀h∈ms.getD st [],¬QcI l h i)->
  ∃st',(st,st')∈pl.getD i []/\st'<ms.length/\if hs.getD i false then∀j,j∈ms.getD st' []↔j=i\/j∈ms.getD st []else st'=st
theorem Qqe{α:Type}{l:List α}{i:Nat}{d x:α}(h:l[i]?=some x):l.getD i d=x:=by rw[VF,h];rfl
theorem QjP{X:List Nat}{hs:List Bool}{rq ms:List (List Nat)}{pl:List (List (Nat×Nat))}{Hs:List Qc}{Hk:Qc}
  (ok:Qpl l m X hs rq ms pl N)(a9:xs.length=m)(bc:Hs.length=ms.length)(aw:h0<=hB)(au:hB<=hE)(av:∀H∈Hs,hE<=H.length)
  (a0:∀i p,i<m->p∈pl.getD i []->JP P N l X xs env0 hB hE i (Hs.getD p.1 []) (Hs.getD p.2 []))(a2:Hs.getD (ms.length-1) []=Hk)
  {ro0:Nat->Prop}{σ0:Sig}{w0:World}{ds0:List Deferred}
  (hk:∀ro U a w,Rel fr ro U Hk (Qat X xs env0) N a w->Qm fr ro0 w0 ro w->U.take h0=σ0.take h0->a.defers=ds0->wpL P rd l.toArray R (l.drop m) a w)(al:QcJ fr ds0 w0)(ay:Qd4 rd fr w0):
  ∀(g:Nat) (L:Array Bool) (a:Act) (w:World) (ro:Nat->Prop) (U:Sig) (u:Nat),
   L.size=l.length->unl L<=g->(∀i,m<=i->¬onL L i)->u<ms.length->Sim fr ro U (Hs.getD u []) w->a.tmps.size=N->a.defers=ds0->
   (∀(i d:Nat) (x:A),onL L i->X[i]?=some d->xs[i]?=some x->VR ro U w x (a.tmps.getD d undef))->(∀s,(∀j,X[j]?=some s->¬onL L j)->VR ro U w (lk env0 s) (a.tmps.getD s undef))->
   Qm fr ro0 w0 ro w->U.take h0=σ0.take h0->Qmm hB hE U (Hs.getD u [])->
   (∀i,i<m->onL L i->∀h∈rq.getD i [],onL L h)->(∀i,i<m->hs.getD i false=true->(onL L i↔i∈ms.getD u []))->
   (∀i o,onL L i->l[i]?=some o->∀j∈Qn o,onL L j)->
   wpAnyIn (WF rd) 0 P .any l.toArray R g L a w:=by
 have aq:∀u,u<ms.length->hE<=(Hs.getD u []).length:=by
  intro u h;have e:Hs[u]?=some Hs[u]:=XH (by omega);rw[Qqe e];exact av _ (List.getElem_mem _)
 have fin:∀(g:Nat) (L:Array Bool) (a:Act) (w:World) (ro:Nat->Prop) (U:Sig) (u:Nat),
   L.size=l.length->unl L<=g->(∀i,m<=i->¬onL L i)->u<ms.length->Sim fr ro U (Hs.getD u []) w->a.tmps.size=N->a.defers=ds0->
   (∀(i d:Nat) (x:A),onL L i->X[i]?=some d->xs[i]?=some x->VR ro U w x (a.tmps.getD d undef))->(∀s,(∀j,X[j]?=some s->¬onL L j)->VR ro U w (lk env0 s) (a.tmps.getD s undef))->
   Qm fr ro0 w0 ro w->U.take h0=σ0.take h0->
   (∀i,i<m->hs.getD i false=true->(onL L i↔i∈ms.getD u []))->(∀i,i<m->onL L i)->
   wpAnyIn (WF rd) 0 P .any l.toArray R g L a w:=by
  intro g L a w ro U u hsz hu hsuf hst hsim hN hdef hD hE' hev htk hI2 r;have ah:u=ms.length-1:=by
   rcases ok.full u hst with q|⟨i,Q,Y,h3⟩
   .omega
   .exact absurd ((hI2 i Q Y).1 (r i Q)) h3
  rw[ah,a2]at hsim;refine Qm5 ok.back ok.chain g m L a w hsz (λi hi=>⟨λq=>?_,λq=>r i q⟩) hu (XQ _) ok.len ?_
  .rcases Vw i m with z|z
   .exact z
   .exact absurd q (hsuf i z)
  .have hr:Rel fr ro U Hk (Qat X xs env0) N a w:=by
    refine⟨hsim,λs=>?_,hN,by rw[hdef];exact al.keep hev⟩;rcases QpC (env0:=env0) (by rw[ok.dsl,a9]) s with⟨j,x,Q,Y,h3⟩|⟨Q,Y⟩
    .rw[h3];have f:j<m:=by have:=(XI.1 Q).1;rw[ok.dsl]at this;exact this
     exact hD j s x (r j f) Q Y
    .rw[Y];exact hE' s (λj q=>absurd (VB q) (by simpa using Q))
   exact hk ro U a w hr hev htk hdef
 intro g
 induction g with
 |zero=>
  intro L a w ro U u hsz hu hsuf hst hsim hN hdef hD hE' hev htk hho hI1 hI2 hcl;refine fin 0 L a w ro U u hsz hu hsuf hst hsim hN hdef hD hE' hev htk hI2 (λi hi=>?_);by_cases q:onL L i
  .exact q
  .have:=Qlw (L:=L) (i:=i) (by have:=ok.len;omega) q;omega
 |succ g ih=>
  intro L a w ro U u hsz hu hsuf hst hsim hN hdef hD hE' hev htk hho hI1 hI2 hcl;by_cases r:∀i,i<m->onL L i
  .exact fin (g+1) L a w ro U u hsz hu hsuf hst hsim hN hdef hD hE' hev htk hI2 r
  .have a3:∃i,i<m/\ ¬onL L i:=by
    refine Classical.byContradiction λq=>r λi hi=>Classical.byContradiction λz=>q ⟨i,hi,z⟩
   obtain⟨n,hn,an⟩:=a3;obtain⟨i0,Q,Y,h3⟩:=least (p:=λi=>¬onL L i) (λi=>Classical.em _) n an;have bb:=ok.len;have am:l[i0]?=some l[i0]:=XH (by omega);have hr:i0∈Region.ready .any l.toArray L:=(QaH hsz).2 ⟨_,am,Y,λj f=>Classical.byContradiction λz=>h3 j (ok.back i0 _ am j f) z⟩;refine⟨λq=>(by rw[q]at hr;cases hr),λi hi=>?_⟩;obtain⟨o,V,aa,O⟩:=(QaH hsz).1 hi;have E:i<m:=by
    rcases Vw i m with q|q
    .exact q
    .exfalso;rcases Vw m i with z|z
     .exact hsuf (i-1) (by omega) (O _ (ok.chain i o z V))
     .have:i=m:=by omega
      subst this;have az:∀j,QcI l i j->onL L j:=by
       intro j f
       induction f with
       |one t f=>rw[V]at t;cases t;exact O _ f
       |step _ t f ihr=>exact hcl _ _ ihr t _ f
      exact an (az n (ok.mid o V n hn))
   have ao:∀h∈rq.getD i [],onL L h:=by
    intro h W;obtain⟨_,_,q|⟨j,q1,q2,q3⟩⟩:=ok.rqs i o E V h W
    .exact O h q
    .exact hI1 j q2 (O j q1) h q3
   obtain⟨a5,a8,ax,M⟩:=ok.pls i u E hst (λh W=>by
    obtain⟨q1,q2,_⟩:=ok.rqs i o E V h W;exact(hI2 h q1 q2).1 (ao h W)) (λq z=>aa ((hI2 i E q).2 z)) (λh W hR=>by
    obtain⟨q1,q2⟩:=ok.msh u h W;have a6:onL L h:=(hI2 h q1 q2).2 W;have ai:∀j,QcI l h j->onL L j:=by
     intro j f
     induction f with
     |one t f=>exact hcl _ _ a6 t _ f
     |step _ t f ihr=>exact hcl _ _ ihr t _ f
    exact aa (ai i hR))
   have hb:=a0 i _ E a8;refine hb.use V hsim hN (by rw[hdef];exact al.keep hev) (ay.to hev λ_ q=>q) hho (aq u hst) au (λj f s x q1 q2=>hD j s x (O j f) q1 q2) (λs Q=>hE' s (λj q=>absurd (VB q) (by simpa using Q))) (λj s Q Y=>hE' s (λj' q q'=>?_)) ?_
   .obtain rfl:=ok.nodup j' j s q Y;have f:=Xe.1 (List.contains_iff_mem.1 Q);cases ae:l[j']? with
    |none=>rw[ae]at f;simp at f
    |some oj=>
     rw[ae]at f;exact aa (hcl j' oj q' ae i (by simpa using f.2))
   intro v w' a4 σ' af;have ac:=af.ext;have ab:∀s,(∀d,o.dst=some d->s≠d)->(a.put o.dst v).tmps.getD s undef=a.tmps.getD s undef:=by
    intro s a1;cases hd:o.dst with
    |none=>rfl
    |some d=>
     simp only[Act.put,Array.getD_eq_getD_getElem?,X8];rw[Vl (λq=>a1 d hd q.symm)]
   have ag:(a.put o.dst v).tmps.size=N:=by
    cases hd:o.dst with
    |none=>simpa[Act.put]using hN
    |some d=>simpa[Act.put]using hN
   have ar:(a.put o.dst v).defers=ds0:=by
    cases hd:o.dst with
    |none=>simpa[Act.put]using hdef
    |some d=>simpa[Act.put]using hdef
   have bd:=QhF (L:=L) (i:=i) (by omega) aa;have B:i<L.size:=by omega
   have a7:∀s j,X[j]?=some s->j≠i->∀d,o.dst=some d->s≠d:=by
    intro s j f F d hd q;subst q;rcases ok.dst i o E V with⟨d',k,T,ak⟩|k
    .rw[hd]at k;cases k;exact F (ok.nodup j i _ f T)
    .rw[hd]at k;cases k
   refine ih _ _ w' a4 σ' a5 (by simpa using hsz) (by omega) (λj f q=>?_) ax af.sim ag ar ?_ ?_ (hev.trans af.ev) ?_ af.holes ?_ ?_ ?_
   .rcases(JT B).1 q with z|z
    .omega
    .exact hsuf j f z
   .intro j s y f J hy;by_cases F:j=i
    .subst F;have hv:=af.val y hy;rcases ok.dst j o E V with⟨d',k,T,ak⟩|k
     .obtain rfl:s=d':=XV (J.symm.trans T);simp only[k]at hv⊢;exact hv
     .simp only[k]at hv;subst hv;exact trivial
    .rw[ab s (a7 s j J F)];rcases(JT B).1 f with z|z
     .exact absurd z F
     .exact(hD j s y z J hy).mono ac
   .intro s J;have ba:∀d,o.dst=some d->s≠d:=by
     rintro d hd rfl;rcases ok.dst i o E V with⟨d',k,T,ak⟩|k
     .rw[hd]at k;cases k;exact J i T ((JT B).2 (.inl rfl))
     .rw[hd]at k;cases k
    rw[ab s ba];exact(hE' s (λj q z=>J j q ((JT B).2 (.inr z)))).mono ac
   .rw[<- htk];have:=congrArg (List.take h0) af.take;rw[List.take_take,List.take_take,Xz aw]at this;exact this
   .intro j f G h W;refine(JT B).2 (.inr ?_);rcases(JT B).1 G with z|z
    .subst z;exact ao h W
    .exact hI1 j f z h W
   .intro j f G;rw[JT B];cases q:hs.getD i false with
    |false=>
     have F:j≠i:=by rintro rfl;rw[q]at G;cases G
     rw[q]at M;simp only[Xj,if_false]at M;simp only[F,false_or];rw[M];exact hI2 j f G
    |true=>
     rw[q]at M;simp only[if_true]at M;rw[M j,hI2 j f G]
   .intro j o' f t j' aj;rcases(JT B).1 f with z|z
    .subst z;rw[V]at t;cases t;exact(JT B).2 (.inr (O _ aj))
    .exact(JT B).2 (.inr (hcl j o' z t j' aj))
def Qex.dstB(N:Nat):Nat->List Oper->List Nat->Bool
 |_,_,[]=>true
 |i,o::r,d::ds=>(match o.dst with|some d'=>Nat.beq d' d&&Nat.blt d N|none=>true)&&Qex.dstB N (i+1) r ds
 |_,[],_::_=>false
def Qex.rqB(m:Nat)(hs:List Bool)(rq:List (List Nat)):Nat->List Oper->Bool
 |_,[]=>true
 |i,o::r=>(rq.getD i []).all (λh=>Nat.blt h m&&hs.getD h false&&((Qn o).contains h||(Qn o).any λj=>Nat.blt j m&&(rq.getD j []).contains h))&&Qex.rqB m hs rq (i+1) r
def Qkv(l:List Oper)(h:Nat):List Nat:=match l[h]? with
 |some o=>Qfp l h (Qn o)
 |none=>[]
theorem Qmz{h:Nat}(q:j∈Qkv l h):QcI l h j:=by
 unfold Qkv at q;cases a:l[h]? with
 |none=>rw[a]at q;cases q
 |some o=>rw[a]at q;exact Qcj h (Qn o) (λi d=>.one a d) j q
def Qex.plB(l:List Oper)(m:Nat)(hs:List Bool)(rq ms:List (List Nat))(pl:List (List (Nat×Nat))):Bool:=
 (List.range m).all λi=>(List.range ms.length).all λst=>((ms.getD st []).any λh=>(Qkv l h).contains i)|| !(rq.getD i []).all ((ms.getD st []).contains ·)||(hs.getD i false&&(ms.getD st []).contains i)||
  (pl.getD i []).any λp=>Nat.beq p.1 st&&Nat.blt p.2 ms.length&&(bif hs.getD i false then same (ms.getD p.2 []) (i::ms.getD st [])else Nat.beq p.2 st)
def Qex(l:List Oper)(m N:Nat)(ds:List Nat)(hs:List Bool)(rq ms:List (List Nat))(pl:List (List (Nat×Nat))):Bool:=
 Nat.ble m l.length&&(ds.length==m)&&Qex.dstB N 0 l ds&&drawChk.nodupB ds&&drawChk.goB l m 0 l&&Qex.rqB m hs rq 0 l&&(ms.getD 0 []).isEmpty&&Nat.blt 0 ms.length
 &&((List.range ms.length).all λst=>Nat.beq (st+1) ms.length||(List.range m).any λi=>hs.getD i false&& !(ms.getD st []).contains i)&&Qex.plB l m hs rq ms pl&&(List.range ms.length).all λst=>(ms.getD st []).all λh=>Nat.blt h m&&hs.getD h false
theorem Qhl:∀(l:List Oper) (a:List Nat) (b:Nat),Qex.dstB N b l a=true->∀(i d:Nat) (o:Oper),l[i]?=some o->a[i]?=some d->
  (o.dst=some d/\d<N)\/o.dst=none:=by
 intro l
 induction l with
 |nil=>intro a b h i d o f;simp at f
 |cons x r k=>
  intro a b h i d o f g;cases a with
  |nil=>simp at g
  |cons y a=>
   simp only[Qex.dstB,XT]at h;cases i with
   |zero=>
    simp at f g;subst f;subst g;have h:=h.1;split at h
    .rename_i m j;simp only[XT]at h;have e:=XN h.1;subst e;exact .inl ⟨j,by simpa using h.2⟩
    .rename_i j;exact .inr j
   |succ i=>
    have:=k a (b+1) h.2 i d o (by simpa using f) (by simpa using g);exact this
theorem QnQ{e:List Bool}{d:List (List Nat)}:∀(l:List Oper) (b:Nat),Qex.rqB m e d b l=true->∀(i:Nat) (o:Oper),l[i]?=some o->
  ∀h∈d.getD (b+i) [],h<m/\e.getD h false=true/\(h∈Qn o\/ ∃j∈Qn o,j<m/\h∈d.getD j []):=by
 intro l
 induction l with
 |nil=>intro b h i o a;simp at a
 |cons x r g=>
  intro b h i o a;simp only[Qex.rqB,XT]at h;cases i with
  |zero=>
   simp at a;subst a;intro k p;have:=Xs.1 h.1 k (by simpa using p);simp only[XT,Bool.or_eq_true,List.contains_iff_mem,Xt]at this;obtain⟨⟨w,f⟩,t⟩:=this;refine⟨by simpa using w,f,?_⟩;rcases t with q|⟨j,n,u,s⟩
   .exact .inl q
   .exact .inr ⟨j,n,by simpa using u,s⟩
  |succ i=>
   have:=g (b+1) h.2 i o (by simpa using a);rw[show b+1+i=b+(i+1)by omega]at this;exact this
theorem QoK{u:List Nat}{B:List Bool}{G s:List (List Nat)}{J:List (List (Nat×Nat))}(h:Qex l m N u B G s J=true):
  Qpl l m u B G s J N/\0<s.length:=by
 unfold Qex at h;simp only[XT]at h;obtain⟨⟨⟨⟨⟨⟨⟨⟨⟨⟨V,h2⟩,W⟩,T⟩,P⟩,h6⟩,Y⟩,M⟩,L⟩,F⟩,H⟩:=h;have y:m<=l.length:=XO V;have E:u.length=m:=by simpa using h2
 have g:=Qjl l 0 P;refine⟨⟨y,λi o t d=>?_,E,Qej T,λi o d=>by have:=(g i o d).1;simpa using this,λo d j Q=>Qcj m (Qn o) (λi t=>.one d t) j ((g m o d).2.1 (by omega) j Q),
  λi o t d=>by have:=(g i o d).2.2 (by omega);simpa using this,λi o t d h k=>by have:=QnQ l 0 h6 i o d h (by simpa using k);exact this,
  by simpa using Y,λn a=>?_,λn h k=>?_,λi n t a hr R O=>?_⟩,by simpa using M⟩
 .have x:u[i]?=some u[i]:=XH (by omega);rcases Qhl l u 0 W i _ o d x with⟨r,w⟩|r
  .exact .inl ⟨_,r,x,w⟩
  .exact .inr r
 .have:=Xs.1 L n (List.mem_range.2 a);simp only[Bool.or_eq_true,Xt,XT,Bool.not_eq_true']at this;rcases this with q|⟨i,r,w,f⟩
  .exact .inl (XN q)
  .exact .inr ⟨i,List.mem_range.1 r,w,λz=>by rw[List.contains_iff_mem.2 z]at f;cases f⟩
 .have a:n<s.length:=by
   rcases Vw n s.length with q|q
   .exact q
   .rw[VF,XL q]at k;cases k
  have:=Xs.1 (Xs.1 H n (List.mem_range.2 a)) h k;simp only[XT]at this;exact⟨by simpa using this.1,this.2⟩
 .have:=Xs.1 (Xs.1 F i (List.mem_range.2 t)) n (List.mem_range.2 a);simp only[Bool.or_eq_true,Bool.not_eq_true']at this;rcases this with((q|q)|q)|q
  .exfalso;obtain⟨h,k,q⟩:=Xt.1 q;exact O h k (Qmz (List.contains_iff_mem.1 q))
  .exfalso;have:((G.getD i []).all ((s.getD n []).contains ·))=true:=Xs.2 λh k=>List.contains_iff_mem.2 (hr h k);rw[this]at q;cases q
  .simp only[XT]at q;exact absurd (List.contains_iff_mem.1 q.2) (R q.1)
  .obtain⟨p,X,q⟩:=Xt.1 q;simp only[XT]at q;obtain⟨⟨r,w⟩,f⟩:=q;have e:=XN r;refine⟨p.2,by rw[<- e];exact X,by simpa using w,?_⟩;cases z:B.getD i false with
   |true=>
    rw[z]at f;simp only[Vi]at f;simp only[if_true];intro j;rw[Qpu f j,X0]
   |false=>
    rw[z]at f;simp only[Vj]at f;simp only[Xj,if_false];exact XN f
inductive QiA (P:Program) (N:Nat) (l:List Oper) (ds:List Nat) (xs:List A) (env0:Env) (hB hE:Nat):Nat->List (List (Qc×Qc))->Prop
 |nil {i:Nat}:QiA P N l ds xs env0 hB hE i []
 |cons {i:Nat} {s:List (Qc×Qc)} {r:List (List (Qc×Qc))} (h:∀p∈s,JP P N l ds xs env0 hB hE i p.1 p.2) (k:QiA P N l ds xs env0 hB hE (i+1) r):QiA P N l ds xs env0 hB hE i (s::r)
theorem QiA.get{e:List Nat}{d:List (List (Qc×Qc))}(h:QiA P N l e xs env0 hB hE b d):
  ∀(i:Nat) (s:List (Qc×Qc)),d[i]?=some s->∀p∈s,JP P N l e xs env0 hB hE (b+i) p.1 p.2:=by
 induction h with
 |nil=>intro i s h;simp at h
 | @cons b s0 r h _ ih=>
  intro i s a;cases i with
  |zero=>simp at a;subst a;exact h
  |succ i=>
   have:=ih i s (by simpa using a);rw[show b+1+i=b+(i+1)by omega]at this;exact this
theorem Qd{a:List Nat}{i:Nat}:∀p∈([]:List (Qc×Qc)),JP P N l a xs env0 hB hE i p.1 p.2:=by
 intro p d;cases d
theorem Qb{a:List Nat}{i:Nat}{H:Qc}{r:List (Qc×Qc)}(h:JP P N l a xs env0 hB hE i H H')
  (k:∀p∈r,JP P N l a xs env0 hB hE i p.1 p.2):∀p∈(H,H')::r,JP P N l a xs env0 hB hE i p.1 p.2:=by
 intro p d;rcases X0.1 d with rfl|q
 .exact h
 .exact k p q
variable {id:Nat}
theorem QhM{H:Qc}{a:Act}(m c:Nat)(ds:List Nat)(hs:List Bool)(rq W:List (List Nat))(M:List (List (Nat×Nat)))(xs:List A)(Hs:List Qc)(Hk:Qc)
  (hm:P.follows .mixedOrders=true)(hc:Qex l m N ds hs rq W M=true)(ag:Nat.beq xs.length m=true)(ae:Nat.beq Hs.length W.length=true)(ac:Nat.ble h0 H.length=true)
  (hh:Hs.all (λX=>Nat.ble (H.length+c) X.length)=true)(V:Hs[0]?=some (H++List.replicate c .dead))(ab:Hs.getD (W.length-1) []=Hk)
  (Y:QiA P N l ds xs env H.length (H.length+c) 0 (M.map λq=>q.map λp=>(Hs.getD p.1 [],Hs.getD p.2 [])))(aa:Nat.beq M.length m=true)
  (r:Rel fr ro U H env N a w)(af:Qd4 rd fr w)
  (hk:∀ro' σ' a' w',Rel fr ro' σ' Hk (Qat ds xs env) N a' w'->Qm fr ro w ro' w'->σ'.take h0=U.take h0->a'.defers=a.defers->wpL P rd l.toArray R (l.drop m) a' w'):(Code.region id l.toArray true).wpIn (WF rd) 0 P R a w:=by
 obtain⟨ok,O⟩:=QoK hc;have G:=XN ag;have E:=XN ae;have ah:=XN aa;have J:Qm fr ro w ro {w with drawn:=w.drawn+1}:=⟨λ_ q=>q,λ_ _=>rfl,λ_ _=>rfl,XQ _,λ_ _ q=>q,rfl,rfl,rfl,Nat.le_succ _⟩;have u:Ext ro U w ro (U++List.replicate c none) {w with drawn:=w.drawn+1}:=J.ext U _;have T:=r.sim.len;have F:Hs.getD 0 []=H++List.replicate c .dead:=Qqe V;have n:∀(i:Nat) (s:Option Nat) (x:Blk),(U++List.replicate c none)[i]?=some s->(H++List.replicate c Blk.dead)[i]?=some x->(U[i]?=some s/\H[i]?=some x)\/(s=none/\x=.dead):=by
  intro i s x k h;rcases Vw i U.length with q|q
  .rw[XJ q]at k;rw[XJ (by omega)]at h;exact .inl ⟨k,h⟩
  .rw[XK q]at k;rw[XK (by omega)]at h;have a1:=VB k;have a2:=VB h;exact .inr ⟨(List.mem_replicate.1 a1).2,(List.mem_replicate.1 a2).2⟩
 have L:Sim fr ro (U++List.replicate c none) (H++List.replicate c .dead) {w with drawn:=w.drawn+1}:=by
  refine⟨by simp[T],r.sim.roOk.to (λ_ q=>q) (λ_ _=>rfl) r.sim.roLt,r.sim.frLt,r.sim.roFr,?_,?_,?_,
   r.sim.hidTo (· = ·) Q6 (XQ _) (λ_ _ _ _ _ _ _ q=>q) (λ_ _ _ _ _ _ _ q=>q) λj d y g1 g2 g3=>.inl ?_⟩
  rotate_left 3
  .rcases n j _ _ g1 g2 with⟨g,t⟩|⟨g,_⟩
   .exact⟨j,y,rfl,g,t,(λz=>z),λc q=>q⟩
   .cases g
  .intro i b blk k h Q;rcases n i _ _ k h with⟨g,t⟩|⟨g,_⟩
   .exact r.sim.own i b blk g t Q
   .cases g
  .intro i j b x y k h Q h4 h5 h6;rcases n i _ _ k Q with⟨g,t⟩|⟨g,_⟩
   .rcases n j _ _ h h4 with⟨q3,q4⟩|⟨q3,_⟩
    .exact r.sim.inj i j b x y g q3 t q4 h5 h6
    .cases q3
   .cases g
  .intro i s x k h;rcases n i _ _ k h with⟨g,t⟩|⟨g,t⟩
   .exact BR.keep u (λb hb _=>rfl) (r.sim.blk i s x g t) (λ_ _ _ _=>rfl)
   .subst t;exact trivial
 have f:∀i,¬onL (Array.replicate l.length false) i:=by
  intro i q;unfold onL at q;rw[Array.getElem?_replicate]at q;split at q<;>simp at q
 have B:=XO ac;refine wpIn_region_any hm ?_;rw[List.size_toArray];refine QjP ok G E B (Nat.le_add_right _ _) (λX hX=>XO (Xs.1 hh X hX)) ?_ ab (ro0:=ro) (σ0:=U) (w0:=w) (ds0:=a.defers) hk r.defers af
  l.length _ a _ ro (U++List.replicate c none) 0 (by simp) ?_ (λi _=>f i) O (by rw[F];exact L) r.size rfl (λi d x q=>absurd q (f i)) (λs _=>(r.env s).mono u) J (QF (by omega)) ?_
  (λi _ q=>absurd q (f i)) (λi _ _=>⟨λq=>absurd q (f i),λq=>by rw[ok.ms0]at q;cases q⟩) (λi o q=>absurd q (f i))
 .intro i p hi hp;have e:(M.map λq=>q.map λp=>(Hs.getD p.1 [],Hs.getD p.2 []))[i]?=some ((M.getD i []).map λp=>(Hs.getD p.1 [],Hs.getD p.2 [])):=by
   rw[Xo,XH (by omega),VF,XH (by omega)];rfl
  have:=Y.get i _ e _ (Xf.2 ⟨p,hp,rfl⟩);simpa using this
 .unfold unl;simp[List.countP_replicate]
 .intro p k h Q;rw[XK (by omega),List.getElem?_replicate,Vm (by omega)]
theorem YS{H:Qc}{Q:QR}(m c:Nat)(g:List Nat)(x:List Bool)(y f:List (List Nat))(h:List (List (Nat×Nat)))(xs:List A)(Hs:List Qc)(Hk:Qc)
  (G:P.follows .mixedOrders=true)(F:Qex l m N g x y f h=true)(t:Nat.beq xs.length m=true)(k:Nat.beq Hs.length f.length=true)(i:Nat.ble h0 H.length=true)
  (J:Hs.all (λX=>Nat.ble (H.length+c) X.length)=true)(j:Hs[0]?=some (H++List.replicate c .dead))(u:Hs.getD (f.length-1) []=Hk)
  (n:QiA P N l g xs env H.length (H.length+c) 0 (h.map λq=>q.map λp=>(Hs.getD p.1 [],Hs.getD p.2 [])))(s:Nat.beq h.length m=true)
  (B:WO P h0 N l.toArray (l.drop m) (Qat g xs env) Hk Q):TC P h0 N (.region id l.toArray true) env H Q:=by
 intro E z L U a w r hrd;refine Code.wpIn_mono (λe a w q=>QbL.postW q) (QhM m c g x y f h xs Hs Hk G F t k i J j u n s r hrd λro' σ' a' w' hr hev htk hdf=>?_);have d:=B E z ro' σ' a' w' hr (hrd.to hev λ_ q=>q);rw[hdf]at d;exact Yn (λe a w q=>q.step hev htk) _ _ _ d
def draw0(l:List Oper)(m N:Nat)(ds:List Nat):Bool:=Nat.ble m l.length&&(ds.length==m)&&Qex.dstB N 0 l ds&&drawChk.nodupB ds&&drawChk.goB l m 0 l
inductive Oq (P:Program) (N:Nat) (l:List Oper) (ds:List Nat) (xs:List A) (env0:Env) (H:Qc):Nat->Nat->Prop
 |n {i:Nat}:Oq P N l ds xs env0 H i 0
 |c {i c:Nat} (h:JP P N l ds xs env0 H.length H.length i H H) (k:Oq P N l ds xs env0 H (i+1) c):Oq P N l ds xs env0 H i (c+1)
theorem Oq.get{a:List Nat}{H:Qc}{c:Nat}(h:Oq P N l a xs env0 H b c):∀i,i<c->JP P N l a xs env0 H.length H.length (b+i) H H:=by
 induction h with
 |n=>intro i d;omega
 | @c b c h _ ih=>
  intro i d;cases i with
  |zero=>exact h
  |succ i=>
   have:=ih i (by omega);rw[show b+1+i=b+(i+1)by omega]at this;exact this
theorem QoL{e:List Nat}(h:draw0 l m N e=true):Qpl l m e [] [] [[]] (List.replicate m [(0,0)]) N:=by
 unfold draw0 at h;simp only[XT]at h;obtain⟨⟨⟨⟨x,B⟩,y⟩,w⟩,z⟩:=h;have s:m<=l.length:=XO x;have q:e.length=m:=by simpa using B
 have g:=Qjl l 0 z;refine⟨s,λi o f d=>?_,q,Qej w,λi o d=>by have:=(g i o d).1;simpa using this,λo d j t=>Qcj m (Qn o) (λi f=>.one d f) j ((g m o d).2.1 (by omega) j t),
  λi o f d=>by have:=(g i o d).2.2 (by omega);simpa using this,λi o f d h r=>by simp at r,rfl,λn a=>.inl (by simp at a;simp[a]),λn h r=>by cases n<;>simp at r,λi n f a _ _ _=>?_⟩
 .have k:e[i]?=some e[i]:=XH (by omega);rcases Qhl l e 0 y i _ o d k with⟨p,u⟩|p
  .exact .inl ⟨_,p,k,u⟩
  .exact .inr p
 .have:n=0:=by simp at a;exact a
  subst this;refine⟨0,?_,by simp,by simp⟩;rw[VF,List.getElem?_replicate,Vm f];exact Vv.2 rfl
theorem QhN{H:Qc}{a:Act}(m:Nat)(t:List Nat)(xs:List A)
  (E:P.follows .mixedOrders=true)(G:Go.Sw.draw0 l m N t=true)(y:Nat.beq xs.length m=true)(k:Nat.ble h0 H.length=true)
  (u:Oq P N l t xs env H 0 m)(r:Rel fr ro U H env N a w)(n:Qd4 rd fr w)
  (F:∀ro' σ' a' w',Rel fr ro' σ' H (Qat t xs env) N a' w'->Qm fr ro w ro' w'->σ'.take h0=U.take h0->a'.defers=a.defers->wpL P rd l.toArray R (l.drop m) a' w'):(Code.region id l.toArray true).wpIn (WF rd) 0 P R a w:=by
 have ok:=QoL G;have f:=XN y;have g:Qm fr ro w ro {w with drawn:=w.drawn+1}:=⟨λ_ q=>q,λ_ _=>rfl,λ_ _=>rfl,XQ _,λ_ _ q=>q,rfl,rfl,rfl,Nat.le_succ _⟩;have j:Ext ro U w ro U {w with drawn:=w.drawn+1}:=g.ext0 U;have h:Sim fr ro U H {w with drawn:=w.drawn+1}:=r.sim.heap rfl;have e:∀i,¬onL (Array.replicate l.length false) i:=by
  intro i q;unfold onL at q;rw[Array.getElem?_replicate]at q;split at q<;>simp at q
 refine wpIn_region_any E ?_;rw[List.size_toArray];refine QjP (hB:=H.length) (hE:=H.length) (Hs:=[H]) (Hk:=H) ok f rfl (XO k) (XQ _) (λX hX=>by rw[Vv.1 hX];exact XQ _) ?_ rfl (ro0:=ro) (σ0:=U) (w0:=w) (ds0:=a.defers) F r.defers n
  l.length _ a _ ro U 0 (by simp) ?_ (λi _=>e i) (by simp) h r.size rfl (λi d x q=>absurd q (e i)) (λs _=>(r.env s).mono j) g rfl (λp L J=>by omega)
  (λi _ q=>absurd q (e i)) (λi _ _=>⟨λq=>absurd q (e i),λq=>by cases q⟩) (λi o q=>absurd q (e i))
 .intro i p z B;rw[VF,List.getElem?_replicate,Vm z]at B;obtain rfl:=Vv.1 B;have:=u.get i z;rw[Xu]at this;exact this
 .unfold unl;simp[List.countP_replicate]
theorem TC.draw0{P:Program}{h0 N:Nat}{id:Nat}{l:List Oper}{env:Env}{H:Qc}{Q:QR}(m:Nat)(f:List Nat)(xs:List A)
  (j:P.follows .mixedOrders=true)(s:Go.Sw.draw0 l m N f=true)(i:Nat.beq xs.length m=true)(g:Nat.ble h0 H.length=true)
  (h:Oq P N l f xs env H 0 m)(n:WO P h0 N l.toArray (l.drop m) (Qat f xs env) H Q):TC P h0 N (.region id l.toArray true) env H Q:=by
 intro p k t U a w r hrd;refine Code.wpIn_mono (λe a w q=>QbL.postW q) (QhN m f xs j s i g h r hrd λro' σ' a' w' hr hev htk hdf=>?_);have d:=n p k ro' σ' a' w' hr (hrd.to hev λ_ q=>q);rw[hdf]at d;exact Yn (λe a w q=>q.step hev htk) _ _ _ d
section
variable {P:Program} {N:Nat} {l:List Oper} {ds af bf:List Nat} {xs:List A} {env0 e r:Env} {H H':Qc} {i hB hE:Nat} {o:Oper} {d s:Nat} {x a:A}
theorem sN:Sb af bf ds xs env0 []:=.nil
theorem sD(j:Nat)(k:Sb af bf ds xs env0 r)(d:af.contains j=true:=by exact rfl)(h2:ds[j]?=some s:=by exact rfl)(h3:xs[j]?=some a:=by exact rfl):Sb af bf ds xs env0 ((s,a)::r):=.dep j d h2 h3 k
theorem sP(j:Nat)(k:Sb af bf ds xs env0 r)(d:bf.contains j=true:=by exact rfl)(h2:ds[j]?=some s:=by exact rfl)(h3:lk env0 s=a:=by exact rfl):Sb af bf ds xs env0 ((s,a)::r):=.pre j d h2 h3 k
theorem sO(s:Nat)(k:Sb af bf ds xs env0 r)(d:ds.contains s=false:=by exact rfl)(h2:lk env0 s=a:=by exact rfl):Sb af bf ds xs env0 ((s,a)::r):=.old d h2 k
theorem Qey(H:Qc):Qar hB hE H H=true:=by
 unfold Qar;refine Xs.2 λp _=>?_;cases Qbs H[hB+p]? <;>rfl
theorem Om(f:l[i]?=some o)(a:Sb (Qn o) (Qio l i) ds xs env0 e)(h:WO P H.length N l.toArray [o] e H (Jc (up e d x) H))(g:o.dst=some d:=by exact rfl)(hx:xs[i]?=some x:=by exact rfl):JP P N l ds xs env0 hB hE i H H:=
 .mk o e d x f g hx (Qey H) a h
theorem Om1(f:l[i]?=some o)(a:Sb (Qn o) (Qio l i) ds xs env0 e)(h:WO P H.length N l.toArray [o] e H (Jc (up e d x) H'))(g:o.dst=some d:=by exact rfl)(hx:xs[i]?=some x:=by exact rfl)(hdd:Qar hB hE H H'=true:=by exact rfl):JP P N l ds xs env0 hB hE i H H':=
 .mk o e d x f g hx hdd a h
theorem Om2(d:l[i]?=some o)(a:Sb (Qn o) (Qio l i) ds xs env0 e)(h:WO P H.length N l.toArray [o] e H (Jc e H'))(f:o.dst=none:=by exact rfl)(hx:xs[i]?=some .any:=by exact rfl)(hdd:Qar hB hE H H'=true:=by exact rfl):JP P N l ds xs env0 hB hE i H H':=
 .unit o e d f hx hdd a h
end
end Go.Sw
