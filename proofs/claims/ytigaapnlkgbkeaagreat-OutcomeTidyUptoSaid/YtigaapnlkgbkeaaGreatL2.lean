/- The rules by which the code is walked, with what they rest on (part 2). -/
import Derived.Test.YtigaapnlkgbkeaaGreatL1
import Derived.Below
import GoSem.ClaimChange
import Derived.Shelf.Strings.Search3
import Derived.Lib.LazyBuf
import Derived.Shelf.Sort.Plain
import Derived.Shelf.Slices.In.SortNone
import Derived.Shelf.Slices.CompactI
import Derived.RangeFuncIn
import Derived.RangeFuncSeq
import Derived.RangeFuncNested
import Derived.Lib.Bytealg
import Derived.Laws.Externs
import Derived.LaidLaws
import Derived.Lib.LaidTab
import Derived.ChangeArms
import Derived.ChangeSame
import Derived.Laws.BytesString
set_option linter.unusedVariables false
set_option linter.unusedSectionVars false
set_option linter.unusedSimpArgs false
namespace Go.Sw
open Go.Sort Go.Proofs Go.Shelf
theorem QcD{α:Type}{k:Nat}:∀(vs:List (List α)) (j:Nat),(∀v∈vs,v.length=k)->j<vs.length*k->vs.flatten[j]?=(vs[j/k]?).bind λv=>v[j%k]?
 |[],j,_,h=>by simp at h
 |v::vs,j,hk,h=>by
  have hv:=hk v (by simp);have k0:0<k:=by
   rcases Nat.eq_zero_or_pos k with q|q
   .subst q;simp at h
   .exact q
  rw[Vf];by_cases q:j<k
  .rw[XH (by omega),Nat.div_eq_of_lt q,Nat.mod_eq_of_lt q];simp
  .rw[XI (by omega),hv,QcD vs (j-k) (λv hv=>hk v (by simp[hv])) (by simp[Xj]at h;omega)];have d:j/k=(j-k)/k+1:=by rw[Nat.div_eq_sub_div k0 (by omega)]
   have a:j%k=(j-k)%k:=Nat.mod_eq_sub_mod (by omega);rw[d,a,XA]
theorem Qai{α:Type}{k:Nat}:∀(vs:List (List α)),(∀v∈vs,v.length=k)->vs.flatten.length=vs.length*k
 |[],_=>by simp
 |v::vs,h=>by rw[Vf,XX,Qai vs (λv hv=>h v (by simp[hv])),h v (by simp),XV,Xj];omega
theorem QaF{α:Type}(F:List α)(j:Nat):F.toArray[j]?=F[j]? :=by simp
theorem Qfe{α:Type}[Inhabited α](F:List α)(j:Nat)(h:j<F.length):F[j]?=some (F.toArray[j]!):=by simp[h]
theorem Qfj{β:Type}[Inhabited β]{enc:β->List Value}{k:Nat}(a:∀x,(enc x).length=k)(d:Array β):flatK enc k d=((d.toList.map enc).flatten).toArray:=by
 have f:∀v∈d.toList.map enc,v.length=k:=by
  intro v j;obtain⟨x,_,rfl⟩:=Xe.1 j;exact a x
 apply Array.ext_getElem?;intro t;rw[QaF ((d.toList.map enc).flatten) t];by_cases h:t<d.size*k
 .rw[QcD _ t f (by simpa using h)];have i:0<k:=by
   rcases Nat.eq_zero_or_pos k with q|q
   .subst q;simp at h
   .exact q
  have h1:=Nat.div_lt_of_lt_mul (by rw[Nat.mul_comm];exact h);have l:t%k<k:=Nat.mod_lt _ i;have g:t<(flatK enc k d).size:=by simpa using h
  have e:=get_flatK enc k d t h;rw[getElem!_pos (flatK enc k d) t g]at e;rw[Array.getElem?_eq_getElem g,e];simp[h1];rw[XF (by rw[a];exact l)];rfl
 .have e:(d.toList.map enc).flatten.length=d.size*k:=by rw[Qai _ f];simp
  rw[Array.getElem?_eq_none (by simpa using h),XJ (by omega)]
section
variable {ro:Nat->Prop} {σ:Sig} {w:World} {T:Type} {enc:T->List A} {k:Nat}
theorem Qfz:∀{l:List T} {lv:List Value},RL ro σ w k (l.map enc) lv->
  ∃(ps:List (T×List Value)) (rest:List Value),ps.map (·.1)=l/\lv=(ps.map (·.2)).flatten++rest/\ ∀p∈ps,p.2.length=k/\LR ro σ w (enc p.1) p.2/\ ∀v∈p.2,Qu v
 |[],lv,_=>⟨[],lv,rfl,rfl,by simp⟩
 |x::l,lv,h=>by
  obtain⟨l1,l2,rfl,h1,⟨h2,h3⟩,h4⟩:=h;obtain⟨ps,rest,e1,rfl,h5⟩:=Qfz h4;refine⟨(x,l1)::ps,rest,by simp[e1],by simp,?_⟩;intro p hp;rcases X0.1 hp with rfl|hp
  .exact⟨by rw[h2.length];exact h1,h2,h3⟩
  .exact h5 p hp
theorem QcL(hk:∀x,(enc x).length=k):∀{ps:List (T×List Value)} {rest:List Value},(∀p∈ps,LR ro σ w (enc p.1) p.2/\ ∀v∈p.2,Qu v)->RL ro σ w k ((ps.map (·.1)).map enc) ((ps.map (·.2)).flatten++rest)
 |[],_,_=>trivial
 |p::ps,rest,h=>by
  refine⟨p.2,(ps.map (·.2)).flatten++rest,by simp,hk _,h p (by simp),QcL hk λq hq=>h q (by simp[hq])⟩
end
structure Elt (ro:Nat->Prop) (w:World) {T:Type} (enc:T->List A) (k:Nat) (l:List T) where
 x:T
 vs:List Value
 mem:x∈l
 len:vs.length=k
 rel:LR ro [] w (enc x) vs
 plain:∀v∈vs,Qu v
theorem QgW{v:Value}(h:Qu v):v.oneCell'=true:=by cases v<;>first|rfl|exact h.elim
theorem QgN{P:Program}{ρ:Ren}(L:SlLaysF0.n6 P ρ){T:Type}[DecidableEq T]{enc:T->List A}{k t g:Nat}{cap:List A}{l l':List T}{cf:T->T->Option Int}(hs:Qbx cf l=some l')
  (a5:∀x y c,cf x y=some c->C P g ([.agg (enc x),.agg (enc y)]++cap) [] (λa H=>a=.int .i64 c/\H=[]))
  (aE:∀w,(isAgg (ρ.t 24)).run P w=.ok true w)(zE:∀w,(Go.sizeOf (ρ.t 24)).run P w=.ok k w)(eg:∀args w,(callFunc g args).run P w=.ok (.enter g args) w)
  (hk:∀x,(enc x).length=k)(hd:Ym cap=true):
  C P (ρ.f 6) [.osl 0 0 l.length k,.fn (.func g) [] cap] [.row t k (l.map enc)] (λa H=>a=.tup []/\H=[.row t k (l'.map enc)]):=by
 intro fr G σ vals w s hv;obtain⟨vs,r1,rfl,bk,vf,r2,rfl,bn,hr⟩:=hv;cases(show r2=[]from hr);obtain⟨lf,lc,rfl,h1,a1⟩:=bn;cases(show lf=[]from h1);have ay:LR G [] w cap lc:=LR.data hd a1;obtain⟨a8,ai,O,av,a2⟩:=Qc9 hs;have E:∀(ad:Option Addr) (c:Nat),vs=.slice ad 0 c->l=[]->
   Calls P (ρ.f 6) [vs,.func (.func g) #[] lc.toArray].toArray w λe w'=>∃v r H' ae τ,e=.returned v/\(r=.tup []/\H'=[.row t k (l'.map enc)])/\Sim fr ae (σ++τ) H' w'/\VR ae (σ++τ) w' r v/\Qi fr G w ae w':=by
  rintro ad c rfl rfl;have ag:l'=[]:=by rw[<- a2];rfl
  subst ag;refine(AnyF.slices_SortFunc_none L ad c (.func (.func g) #[] lc.toArray) w).mono ?_;rintro e w' ⟨rfl,rfl⟩;exact⟨_,_,_,G,[],rfl,⟨rfl,rfl⟩,by simpa using s,⟨[],rfl,rfl⟩,Qi.refl _ _ _⟩
 rcases bk with⟨h0,rfl⟩|⟨b,p,cp,t',m,q1,rfl,q2,⟨q3,br⟩,q4,q5⟩
 .exact E none 0 rfl (Vy.1 h0)
 .by_cases ag:l=[]
  .subst ag;exact E _ cp rfl rfl
  .have bh:0<l.length:=List.length_pos_iff.2 ag;obtain rfl:=q2 (X9 bh q3);obtain⟨lv,e1,e2⟩:=s.blk 0 _ _ q1 rfl;obtain⟨hb,aj,a4⟩:=s.own 0 b _ q1 rfl rfl;obtain⟨V,J,a7,rfl,af⟩:=Qfz e2
   let α:=Elt G w enc k l
   have ba:∀p∈V,p.1∈l:=λp hp=>by rw[<- a7];exact Vv hp
   let ds:List α:=V.attach.map λp=>⟨p.1.1,p.1.2,ba _ p.2,(af _ p.2).1,(af _ p.2).2.1,(af _ p.2).2.2⟩
   have a3:∀{γ:Type} (f:T×List Value->γ),V.attach.map (λp=>f p.1)=V.map f:=λf=>by simp
   have N:ds.map (·.x)=l:=by
    show(V.attach.map _).map _=_;rw[List.map_map];exact(a3 (·.1)).trans a7
   have al:ds.map (·.vs)=V.map (·.2):=by
    show(V.attach.map _).map _=_;rw[List.map_map];exact a3 (·.2)
   have aq:ds.length=l.length:=by rw[<- N];simp
   have a9:ds≠[]:=by intro q;rw[q]at aq;simp at aq;omega
   let inh:Inhabited α:=⟨ds.head a9⟩
   let enc':α->List Value:=λa=>a.vs
   let cf':α->α->Int:=λx y=>(cf x.x y.x).getD 0
   have ah:∀x y:α,ltOf cf' x y=ltO cf x.x y.x:=by
    intro x y;obtain⟨c,B⟩:=ai x.x x.mem y.x y.mem;simp only[ltOf,ltO,cf',B,Option.getD_some]
   have hO:SWO (ltOf cf'):=⟨λx=>by rw[ah];exact O.irrefl _ x.mem,λx y z a b=>by rw[ah]at*;exact O.trans _ x.mem _ y.mem _ z.mem a b,
    λx y z a b=>by rw[ah]at*;exact O.ntrans _ x.mem _ y.mem _ z.mem a b⟩
   have aa:∀x:α,(enc' x).length=k:=λx=>x.len;have ax:flatK enc' k ds.toArray=((V.map (·.2)).flatten).toArray:=by
    rw[Qfj aa];show((ds.map λa=>a.vs).flatten).toArray=_;rw[al]
   have be:∀v∈V.map (·.2),v.length=k:=by
    intro v hv;obtain⟨p,hp,rfl⟩:=Xe.1 hv;exact(af p hp).1
   have X:(V.map (·.2)).flatten.length=ds.length*k:=by rw[Qai _ be, <- al];simp
   have hH:HoldsK enc' k w b (0*k) ds.toArray:=by
    intro j hj;rw[ax]at hj⊢;simp only[List.size_toArray]at hj;constructor
    .unfold World.cell?;simp only[e1,Option.isSome_none,Xh,if_false,Nat.zero_mul,Xs];rw[QaF,XH hj];exact Qfe _ _ hj
    .unfold World.frozen?;simp only[e1];simp
   have ar:∀(d:Array α),d.size=ds.toArray.size->(putRowK enc' k w b (0*k) d).heap=w.heap.setIfInBounds b (.cells (((d.toList.map enc').flatten++J)).toArray t (0,0)):=by
    intro d u;have ac:(d.toList.map enc').flatten.length=(V.map (·.2)).flatten.length:=by
     rw[Qai _ (k:=k) (by intro v hv;obtain⟨x,_,rfl⟩:=Xe.1 hv;exact aa x),X];simp at u⊢;rw[u]
    unfold putRowK putRow mapBlock;show w.heap.modify b _=_;rw[Qce e1];simp only[onCells];congr 2;rw[Qfj aa];unfold putCells;apply Array.ext_getElem?;intro i;simp only[Array.getElem?_mapIdx,QaF,Nat.zero_mul,XP,true_and,Xs,Nat.sub_zero,List.size_toArray,id_eq];by_cases hi:i<(d.toList.map enc').flatten.length
    .rw[XH hi,XH (by rw[<- ac];exact hi),XF (by rw[<- ac];exact hi),Qfe _ _ hi];exact congrArg some (Vm hi)
    .rw[XI (by omega),XI (by omega),ac];cases(J[i-(V.map (·.2)).flatten.length]?)with
     |none=>rfl
     |some v=>
      rw[<- ac];exact congrArg some (Vl hi)
   have M:∀(m:Nat) (os:Array Obj) (d:Array α),d.size=ds.toArray.size->
     (∀c,c<w.heap.size->c≠b->(sortWorldK enc' k w b (0*k) m d os).heap[c]?=w.heap[c]?)/\(sortWorldK enc' k w b (0*k) m d os).heap[b]?=some (.cells (((d.toList.map enc').flatten++J)).toArray t (0,0))/\
     w.heap.size<=(sortWorldK enc' k w b (0*k) m d os).heap.size:=by
    intro m os d u;have e:(sortWorldK enc' k w b (0*k) m d os).heap=w.heap.setIfInBounds b (.cells (((d.toList.map enc').flatten++J)).toArray t (0,0))++os:=by
     rw[<- ar d u];rfl
    rw[e];refine⟨λc B bm=>?_,?_,by simp⟩
    .rw[Array.getElem?_append_left (by simpa using B),X8,Vl (λq=>bm q.symm)]
    .rw[Array.getElem?_append_left (by simpa using hb),X8,Vm rfl,Vm hb]
   have R:∀(m:Nat) (os:Array Obj) (d:Array α),d.size=ds.toArray.size->∀c y,w.shape? c=some y->(sortWorldK enc' k w b (0*k) m d os).shape? c=some y:=by
    intro m os d u c y hy;obtain⟨g1,g2,g3⟩:=M m os d u;by_cases B:c=b
    .subst B;unfold World.shape? at hy⊢;rw[e1]at hy;rw[g2];simp only[Option.some.injEq]at hy⊢;rw[<- hy];congr 1;simp only[List.size_toArray,XX];rw[Qai _ (k:=k) (by intro v hv;obtain⟨x,_,rfl⟩:=Xe.1 hv;exact aa x),X];simp at u⊢;rw[u]
    .unfold World.shape? at hy⊢;rw[g1 c (QhS hy) B];exact hy
   have am:∀(m:Nat) (os:Array Obj) (d:Array α),d.size=ds.toArray.size->∀τ,Ext G τ w G τ (sortWorldK enc' k w b (0*k) m d os):=by
    intro m os d u τ;obtain⟨g1,g2,g3⟩:=M m os d u;exact⟨λ_ q=>q,λc B=>g1 c (s.roLt c B) (λq=>aj (q▸B)),R m os d u,λ_ _ q=>q⟩
   have bp:CmpLays P g lc.toArray enc' k cf' b (0*k) ds.toArray.size w:=by
    intro m os dk a0 x y;obtain⟨c,B⟩:=ai x.x x.mem y.x y.mem;have F:=am m os dk a0 [];have bl:=a5 _ _ _ B;generalize hW:sortWorldK enc' k w b (0*k) m dk os=W at*;have bf:w.heap.size<=W.heap.size:=by rw[<- hW];exact(M m os dk a0).2.2
    have sW:Sim (λc=>c<W.heap.size/\ ¬G c) G [] [] W:=
     ⟨rfl,s.roOk.to (λ_ q=>q) F.keep (λc B=>X9 (s.roLt c B) bf),λc B=>B.1,λc B hf=>hf.2 B,λi b x h=>by simp at h,λi j b x y h=>by simp at h,λi y x h=>by simp at h,λi b x c h=>by simp at h⟩
    have aw:LR G [] W ([.agg (enc x.x),.agg (enc y.x)]++cap) ([.agg x.vs.toArray,.agg y.vs.toArray]++lc):=
     LR.append (show LR G [] W [A.agg (enc x.x),A.agg (enc y.x)] [Value.agg x.vs.toArray,Value.agg y.vs.toArray]from⟨_,_,rfl,⟨x.vs,rfl,x.rel.mono F⟩,_,_,rfl,⟨y.vs,rfl,y.rel.mono F⟩,rfl⟩) (ay.mono F)
    have Q:=bl _ G [] _ W sW aw;have bi:(([Value.agg x.vs.toArray,Value.agg y.vs.toArray]++lc).toArray:Array Value)= #[Value.agg (enc' x).toArray,Value.agg (enc' y).toArray]++lc.toArray:=by simp[enc']
    rw[bi]at Q;refine Q.mono ?_;rintro e w' ⟨v,r,H',ae,τ,rfl,⟨rfl,rfl⟩,s',bg,ev⟩;refine⟨?_,?_⟩
    .rw[show v=.int .i64 c from bg];simp only[cf',B,Option.getD_some]
    .refine Qi4 (λc B=>?_) ev.size ev.os ev.tape ev.output ev.drawn;by_cases bc:G c
     .exact ev.keepRo c bc
     .exact ev.keepFr c ⟨B,bc⟩
   have ab:ds.toArray.size=l.length:=by simpa using aq
   have ak:=AnyQ.slices_SortFunc L k aE zE enc' aa (λx v hv=>QgW (x.plain v hv)) cf' hO g lc.toArray b (0*k) cp ds.toArray w eg bp hH hb (by rw[ab];unfold Yg at a8;omega);rw[ab]at ak;refine ak.mono ?_;rintro e w' ⟨rfl,d,n,os,Y,an,rfl⟩;have u:d.size=ds.toArray.size:=Y.1;obtain⟨g1,g2,g3⟩:=M n os d u;have ao:d.toList.Perm ds:=by
    have h:=Y.2.2;have x1:d.extract 0 l.length=d:=by rw[<- ab, <- u];exact Array.extract_size
    have x2:ds.toArray.extract 0 l.length=ds.toArray:=by rw[<- ab];exact Array.extract_size
    rw[x1,x2]at h;simpa using h
   have bb:d.toList.map (·.x)=l':=by
    rw[<- a2];refine QaR (lt:=ltO cf) ?_ ?_ ?_ (YH O)
    .exact((ao.map (·.x)).trans (by rw[N])).trans (QK _ _).symm
    .intro x hx y hy;have bd:x∈l:=by rw[<- N];exact(ao.map (·.x)).mem_iff.1 hx
     have bj:y∈l:=by rw[<- N];exact(ao.map (·.x)).mem_iff.1 hy
     exact av x bd y bj
    .rw[Vt];intro i j hi hj bo;simp only[XW]at hi hj;simp only[List.getElem_map];rw[<- ah];have:=an i j (XP _) bo (by rw[<- ab, <- u];simpa using hj);rw[getElem!_pos d j (by simpa using hj),getElem!_pos d i (by simpa using hi)]at this;simpa using this
   have bq:RL G [] (sortWorldK enc' k w b (0*k) n d os) k (l'.map enc) ((d.toList.map enc').flatten++J):=by
    have e3:d.toList.map enc'=(d.toList.map λa=>(a.x,a.vs)).map (·.2):=by simp[enc']
    have e4:l'=(d.toList.map λa=>(a.x,a.vs)).map (·.1):=by rw[<- bb];simp
    rw[e3,e4];refine QcL hk ?_;intro p hp;obtain⟨a,_,rfl⟩:=Xe.1 hp;exact⟨a.rel.mono (am n os d u []),a.plain⟩
   have a6:Qi fr G w G (sortWorldK enc' k w b (0*k) n d os):=
    ⟨λ_ q=>q,λc B=>g1 c (s.roLt c B) (λq=>aj (q▸B)),λc B=>g1 c (s.frLt c B) (λq=>a4 (q▸B)),g3,R n os d u,rfl,rfl,rfl,Nat.le_add_right _ _⟩
   have au:σ.length=1:=s.len;have az:Sim fr G σ [.row t k (l'.map enc)] (sortWorldK enc' k w b (0*k) n d os):=by
    have i0:∀{i:Nat} {x:Blk},([.row t k (l'.map enc)]:Qc)[i]?=some x->i=0/\x=.row t k (l'.map enc):=by
     intro i x h;cases i with
     |zero=>simp at h;exact⟨rfl,h.symm⟩
     |succ i=>simp at h
    refine⟨au,s.roOk.to (λ_ q=>q) a6.keepRo (λc B=>X9 (s.roLt c B) g3),λc B=>X9 (s.frLt c B) g3,s.roFr,λi c x h1 h2 h3=>?_,λi j c x y h1 h2 h3 h4 _ _=>?_,λi y x h1 h2=>?_,λi b x c h1 h2 h3=>by obtain⟨rfl,rfl⟩:=i0 h2;exact h3.elim⟩
    .obtain⟨rfl,rfl⟩:=i0 h2;obtain⟨p1,p2⟩:=s.own 0 c _ h1 rfl rfl;exact⟨X9 p1 g3,p2⟩
    .rw[(i0 h3).1,(i0 h4).1]
    .obtain⟨rfl,rfl⟩:=i0 h2;rw[q1]at h1;cases h1;exact⟨_,g2,bq⟩
   exact⟨_,_,_,G,[],rfl,⟨rfl,rfl⟩,by simpa using az,⟨[],rfl,rfl⟩,a6⟩
end Go.Sw
namespace Go.Sw
section
variable {P:Program} {o:Oper} {env:Env} {H:Qc} {fr ro:Nat->Prop} {σ:Sig} {w:World}
theorem Sim.addRo(s:Sim fr ro σ H w){b:Nat}(g:b<w.heap.size)(h:¬fr b)(j:∀(i:Nat) (x:Blk),σ[i]?=some (some b)->H[i]?=some x->x.live=true->False)
  (k:∀(i d:Nat) (x:Blk),σ[i]?=some (some d)->H[i]?=some x->Hid w x d b->False):Sim fr (λc=>ro c\/c=b) σ H w:=by
 refine⟨s.len,s.roOk.to (λ_ q=>.inl q) (λ_ _=>rfl) ?_,s.frLt,?_,?_,s.inj,?_,s.hidTo (· = ·) QX (XO _) (by grind) (by simp) (by grind)⟩
 .rintro c (q|rfl)
  .exact s.roLt c q
  .exact g
 .rintro c (q|rfl)
  .exact s.roFr c q
  .exact h
 .intro i c x a e f;obtain⟨n,m,l⟩:=s.own i c x a e f
  grind
 .intro i y x a e;exact(s.blk i y x a e).keep ⟨λ_ q=>.inl q,λ_ _=>rfl,λ_ _ q=>q,λ_ _ q=>q⟩ (λ_ _ _=>rfl) (λ_ _ _ _=>rfl)
theorem QI{T e k n:Nat}{xs:List Operand}{es:List (List A)}(E:QP P T e k)(R:o.op=.buildSlice T n (QaB 0 xs).toArray)(L:xs.length=n)(B:Nat.ble (n*k) 16777216=true)
  (O:(xs.all λx=>Q6 (opA env x))=true)(F:Yh env xs=es)(J:allK k es)(Y:es.flatten.all Yf=true)(V:Ym es.flatten=true):
  OpH P o env H (.rsl k es) H:=by
 intro Q j σ N a w r;subst F;obtain⟨l,h1,M⟩:=Qbd r E L B O J;have y:LR j [] w (Yh env xs).flatten l:=M.data V;have f:∀b,b<w.heap.size->(w.alloc (.cells l.toArray e)).heap[b]?=w.heap[b]? :=λb X=>Q2 _ _ b X;have g:w.heap.size<=(w.alloc (.cells l.toArray e)).heap.size:=by simp
 have W:=r.sim.grown f g;have h:Qi Q j w j (w.alloc (.cells l.toArray e)):=Qi.alloc _ r.sim.roLt r.sim.frLt;have s2:=W.addRo (by simp) (λq=>Nat.lt_irrefl _ (r.sim.frLt _ q)) (λi x s p u=>Nat.lt_irrefl _ (r.sim.own i _ x s p u).1)
  (λi d x s p u=>Nat.lt_irrefl _ (r.sim.hid i d x _ s p (r.sim.hidKeep s p (λz=>f d (r.sim.own i d x s p z).1) (λb q=>f b (r.sim.roLt b q)) u)).lt)
 have G:RL j [] (w.alloc (.cells l.toArray e)) k (Yh env xs) l:=by
  have:=Qaf (rest:=[]) J (y.mono (h.ext0 [])) (M.plain Y)
  grind
 have t:(Yh env xs).length=n:=by simp[Yh,L]
 refine⟨_,_,λc=>j c\/c=w.heap.size,[],Qa4 R a.eval h1,(⟨some ⟨w.heap.size,0,none⟩,n,by rw[t],by omega,.inr ⟨w.heap.size,0,rfl,.inr rfl,?_⟩⟩),by grind,h.trans (QS λ_ q=>.inl q)⟩;have m:(w.alloc (.cells l.toArray e)).heap[w.heap.size]?=some (.cells ([]++l).toArray e (0,0)):=Yi _ _;have:=YB m G;exact this.keep ⟨λ_ q=>.inl q,λ_ _=>rfl,λ_ _ q=>q,λ_ _ q=>q⟩ rfl
end
inductive Qgc:List A->List A->Prop
 |nil:Qgc [] []
 |eq {a:A} {l m:List A} (h:Qgc l m):Qgc (a::l) (a::m)
 |nl {k:Nat} {l m:List A} (h:Qgc l m):Qgc (.nils::l) (.rsl k []::m)
theorem LR.nils{ro:Nat->Prop}{σ:Sig}{w:World}{i g:List A}(h:Qgc i g):∀{l:List Value},LR ro σ w i l->LR ro σ w g l:=by
 induction h with
 |nil=>simp
 |eq _ ih=>rintro l ⟨v,d,e,a,f⟩;exact⟨v,d,e,a,ih f⟩
 |nl _ ih=>rintro l ⟨v,d,e,a,f⟩;exact⟨v,d,e,⟨none,0,a,XO _,.inl rfl⟩,ih f⟩
theorem C.nils{P:Program}{f:FuncId}{l1 bs:List A}{H:Qc}{Q:A->Qc->Prop}(hl:Qgc l1 bs)(h:C P f bs H Q):C P f l1 H Q:=
 λfr ro σ vals w s l=>h fr ro σ vals w s (LR.nils hl l)
def Y0(k:IntKind)(n:Int):Prop:=k.min<=n/\n<=k.max
def QdA(w:World):Nat->Prop:=λb=>b<w.heap.size
structure Meas {H:Type} (μ:DataW H->Nat):Prop where
 str:∀bytes,bytes.length<=μ (.lit (.string bytes))
 sl:∀e s,e.length<=μ (.slice e s)
 sle:∀e s,∀d∈e,μ d<=μ (.slice e s)
 ag:∀ps,∀d∈ps,μ d<=μ (.agg ps)
def RB(P:Program)(n:Nat)(t:TypeId)(T:Type)(e:T->List A)(wf:T->Prop):Prop:=
 ∀(H:Type) (enc:TypeId×Value->H) (w:World) (base:Nat) (spare:Nat->Bool) (held:Bool) (m:Nat) (cs:List Value) d,m<n->DataW.trod enc P w base spare held m t cs=some d->
  ∀μ:DataW H->Nat,Meas μ->μ d.1<=1048576->∃x:T,wf x/\LR (QdA w) [] w (e x) cs/\ ∀v∈cs,Qu v
section
variable {P:Program} {n:Nat} {t:TypeId} {T:Type} {e:T->List A} {wf:T->Prop}
theorem RB.down(h:RB P (n+1) t T e wf):RB P n t T e wf:=λH enc w base spare held m cs d hm=>h H enc w base spare held m cs d (Nat.lt_succ_of_lt hm)
theorem Qjp{T':Type}{f:T'->List A}{a:T'->Prop}(h:RB P n t T e wf)(g:T->T')(he:∀x,f (g x)=e x)(k:∀x,wf x->a (g x)):RB P n t T' f a:=by
 intro H enc w base spare held m cs d hm hd μ hμ hwt;obtain⟨x,i,l,j⟩:=h H enc w base spare held m cs d hm hd μ hμ hwt
 grind
theorem RB.int{k:IntKind}(a:P.underlying t=some (.int k)):RB P n t Int (Qd k) (Y0 k):=by
 intro H enc w base spare held m cs d hm hd μ hμ hwt;cases m with
 |zero=>simp[DataW.trod]at hd
 |succ m=>
  rcases cs with _|⟨v,_|⟨h,r⟩⟩
  .simp[DataW.trod,a]at hd
  .cases v<;>simp[DataW.trod,a]at hd;rename_i g e;obtain⟨⟨rfl,f⟩,_⟩:=hd;refine⟨e,?_,⟨_,_,rfl,rfl,rfl⟩,by simp[Qu]⟩;simpa[Lit.wf,Y0]using f
  .simp[DataW.trod,a]at hd
theorem RB.bool(a:P.underlying t=some .bool):RB P n t Bool YP (λ_=>True):=by
 intro H enc w base spare held m cs d hm hd μ hμ hwt;cases m with
 |zero=>simp[DataW.trod]at hd
 |succ m=>
  rcases cs with _|⟨v,_|⟨e,r⟩⟩
  .simp[DataW.trod,a]at hd
  .cases v<;>simp[DataW.trod,a]at hd;rename_i b;exact⟨b,trivial,⟨_,_,rfl,rfl,rfl⟩,by simp[Qu]⟩
  .simp[DataW.trod,a]at hd
theorem RB.string(a:P.underlying t=some .string):RB P n t (List UInt8) encS (λs=>s.length<=1048576):=by
 intro H enc w base spare held m cs d hm hd μ hμ hwt;cases m with
 |zero=>simp[DataW.trod]at hd
 |succ m=>
  rcases cs with _|⟨v,_|⟨e,r⟩⟩
  .simp[DataW.trod,a]at hd
  .cases v<;>simp[DataW.trod,a]at hd;rename_i s;obtain⟨_,rfl⟩:=hd;exact⟨s.data.toList,XQ (hμ.str _) hwt,⟨_,_,rfl,rfl,rfl⟩,by simp[Qu]⟩
  .simp[DataW.trod,a]at hd
theorem QbJ{α:Type}{f:Nat->Option α}:∀{n:Nat} {l:List α},(List.range n).mapM f=some l->l.length=n/\ ∀i,i<n->∃y,f i=some y/\l[i]?=some y
 |0,l,h=>by grind
 |n+1,l,h=>by
  rw[List.range_succ,List.mapM_append]at h;cases h1:(List.range n).mapM f with
  |none=>grind
  |some l1=>
   cases h2:f n with
   |none=>grind
   |some y=>
    simp[h1,h2]at h;subst h;obtain⟨e1,e2⟩:=QbJ h1
    grind
theorem QcN{w:World}{ro:Nat->Prop}{b:Nat}:∀{cs:List A} {l:List Value} {off:Nat},LR ro [] w cs l->(∀v∈l,Qu v)->(∀i,i<l.length->w.cell? ⟨b,off+i,none⟩=l[i]?)->CR ro [] w b cs off
 |[],_,_,_,_,_=>trivial
 |a::cs,l,off,h,hp,hc=>by
  obtain⟨v,l',rfl,h1,h2⟩:=h;refine⟨(by grind),QcN h2 (by grind) λi hi=>?_⟩;have:=hc (i+1) (by grind)
  grind
theorem RB.slice{E:TypeId}{k:Nat}{s:TypeId}(G:P.underlying s=some (.slice E))(hk:P.cellsOf E=k)(h0:Nat.blt 0 k=true)(hl:∀x,(e x).length=k)(h:RB P n E T e wf):
  RB P (n+1) s (List T) (Qw k e) (λl=>l.length<=1048576/\ ∀x∈l,wf x):=by
 intro H enc w base spare held m cs d hm hd μ hμ hwt;have k0:0<k:=by simp_all
 cases m with
 |zero=>simp[DataW.trod]at hd
 |succ m=>
  rcases cs with _|⟨v,_|⟨v2,r⟩⟩
  .simp[DataW.trod,G]at hd
  .cases v<;>try (simp[DataW.trod,G]at hd;done)
   rename_i a len g;cases a with
   |none=>
    rcases len with _|len
    .rcases g with _|g
     .refine⟨[],⟨by simp,by simp⟩,⟨_,_,rfl,⟨none,0,rfl,XO _,.inl rfl⟩,rfl⟩,by simp[Qu]⟩
     .simp[DataW.trod,G]at hd
    .simp[DataW.trod,G]at hd
   |some a=>
    simp only[DataW.trod,G]at hd;split at hd
    .rename_i hc;obtain⟨c1,c2,c3⟩:=hc;cases R:(List.range len).mapM (λi=>(w.cells? base (a.add (i*P.cellsOf E)) (P.cellsOf E)).bind (DataW.trod enc P w base spare held m E))with
     |none=>grind
     |some f=>
      rw[R]at hd;simp only[XE,Option.map_eq_some_iff]at hd;obtain⟨t,_,rfl⟩:=hd;have u:f.length<=1048576:=by
       have h1:=hμ.sl (f.map (·.1)) (t.map (·.1))
       grind
      have ab:∀y∈f,μ y.1<=1048576:=λy L=>XQ (hμ.sle _ (t.map (·.1)) _ (Vv L)) hwt;obtain⟨e1,e2⟩:=QbJ R;have M:∀i,i<len->∃(x:T) (l:List Value),wf x/\LR (QdA w) [] w (e x) l/\(∀v∈l,Qu v)/\l.length=k/\ ∀j,j<k->w.cell? ((a.add (i*k)).add j)=l[j]? :=by
       intro i W;obtain⟨y,y1,y2⟩:=e2 i W;rw[hk]at y1;cases aa:w.cells? base (a.add (i*k)) k with
       |none=>grind
       |some l=>
        rw[aa]at y1;obtain⟨x,x1,x2,x3⟩:=h H enc w base spare held m l y (by omega) y1 μ hμ (ab y (Vw y2))
        grind[World.cells?,QbJ]
      by_cases O:len=0
      .subst O;exact⟨[],⟨by simp,by simp⟩,⟨_,_,rfl,⟨some a,g,rfl,XP _,.inl rfl⟩,rfl⟩,by simp[Qu]⟩
      .have first:a.spot=none/\a.block<w.heap.size:=by
        obtain⟨x',l,p1,p2,p3,p4,p5⟩:=M 0 (by omega);have p:=p5 0 k0;have Y:l[0]?=some l[0]:=XF (by omega);have ea:(a.add (0*k)).add 0=a:=by simp[Addr.add]
        rw[Y,ea]at p;unfold World.cell? at p;split at p
        .rename_i hh;constructor
         .cases q:a.spot with
          |none=>rfl
          |some z=>simp[q]at p
         .exact(X7.1 hh).1
        .cases p
       obtain⟨V,hb⟩:=first
       have N:∀n,a.add n=⟨a.block,a.off+n,none⟩:=by
        intro n;cases a;simp only at V;subst V;unfold Addr.add;split
        .rename_i q;subst q;rfl
        .rfl
       have F:∀(b o n:Nat),(⟨b,o,none⟩:Addr).add n=⟨b,o+n,none⟩:=by
        intro b o n;unfold Addr.add;split
        .rename_i q;subst q;rfl
        .rfl
       have pick:∀q i,len-i=q->i<=len->∃B:List T,B.length=len-i/\(∀x∈B,wf x)/\RR (QdA w) [] w a.block k (B.map e) (a.off+i*k):=by
        intro q
        induction q with
        |zero=>intro i hq W;exact⟨[],by simp[hq],by simp,trivial⟩
        |succ q ih=>
         intro i hq W;obtain⟨B,J,X,Q⟩:=ih (i+1) (by omega) (by omega);obtain⟨x,l,p1,p2,p3,p4,p5⟩:=M i (by omega);refine⟨x::B,by simp[J];omega,by intro y L;rcases X0.1 L with rfl|L;exact p1;exact X y L,hl x,?_,?_⟩
         .refine QcN p2 p3 λj hj=>?_;have p:=p5 j (by omega);rw[N,F]at p;exact p
         .rw[Xj, <- Nat.add_assoc]at Q;exact Q
       obtain⟨B,J,X,Q⟩:=pick len 0 (by omega) (XP _);rw[Nat.zero_mul,Xt]at Q;rw[Nat.sub_zero]at J;refine⟨B,⟨by rw[J, <- e1];exact u,X⟩,⟨_,_,rfl,⟨some a,g,by simp[J],by simp[J];exact c2,.inr ⟨a.block,a.off,?_,hb,Q⟩⟩,rfl⟩,by simp[Qu]⟩;cases a
       grind
    .cases hd
  .simp[DataW.trod,G]at hd
def RF(P:Program)(n:Nat)(fs:List Field)(off L:Nat)(T:Type)(e:T->List A)(wf:T->Prop):Prop:=
 ∀(H:Type) (enc:TypeId×Value->H) (w:World) (base:Nat) (spare:Nat->Bool) (held:Bool) (m:Nat) (cs:List Value) ds,m<n->cs.length=L->
  fs.mapM (λf=>DataW.trod enc P w base spare held m f.type ((cs.drop f.offset).take (P.cellsOf f.type)))=some ds->
  ∀μ:DataW H->Nat,Meas μ->(∀y∈ds,μ y.1<=1048576)->∃x:T,wf x/\LR (QdA w) [] w (e x) (cs.drop off)/\ ∀v∈cs.drop off,Qu v
theorem RF.nil{L:Nat}:RF P n [] L L Unit (λ_=>[]) (λ_=>True):=by
 intro H enc w base spare held m cs ds hm hl hd μ hμ hwt;have:cs.drop L=[]:=(by grind);rw[this];exact⟨(),trivial,rfl,by simp⟩
theorem RF.cons{f:Field}{fs:List Field}{off L k:Nat}{T2:Type}{e2:T2->List A}{a:T2->Prop}(q:f.offset=off)(s:P.cellsOf f.type=k)(h:RB P n f.type T e wf)(r:RF P n fs (off+k) L T2 e2 a):
  RF P n (f::fs) off L (T×T2) (λp=>e p.1++e2 p.2) (λp=>wf p.1/\a p.2):=by
 intro H enc w base spare held m cs ds hm hl hd μ hμ hwt;rw[List.mapM_cons]at hd;cases l:DataW.trod enc P w base spare held m f.type ((cs.drop f.offset).take (P.cellsOf f.type))with
 |none=>grind
 |some d=>
  cases z:fs.mapM (λf=>DataW.trod enc P w base spare held m f.type ((cs.drop f.offset).take (P.cellsOf f.type)))with
  |none=>grind
  |some g=>
   have i:ds=d::g:=by
    grind
   subst i;rw[q,s]at l;obtain⟨x,t,u,B⟩:=h H enc w base spare held m _ d hm l μ hμ (hwt d (by simp));obtain⟨y,y1,y2,E⟩:=r H enc w base spare held m cs g hm hl z μ hμ (by grind);have j:cs.drop off=(cs.drop off).take k++cs.drop (off+k):=by rw[<- List.drop_drop,Xv]
   refine⟨(x,y),⟨t,y1⟩,by rw[j];exact u.append y2,?_⟩
   grind
theorem RB.struct{fs:Array Field}{L:Nat}(k:P.underlying t=some (.struct fs))(i:P.cellsOf t=L)(h:RF P n fs.toList 0 L T e wf):RB P (n+1) t T e wf:=by
 intro H enc w base spare held m cs d hm hd μ hμ hwt;cases m with
 |zero=>simp[DataW.trod]at hd
 |succ m=>
  unfold DataW.trod at hd;simp only[k]at hd;split at hd
  .rename_i g;cases a:fs.toList.mapM (λf=>DataW.trod enc P w base spare held m f.type ((cs.drop f.offset).take (P.cellsOf f.type)))with
   |none=>grind
   |some j=>
    rw[a]at hd;simp only[Xi,Option.some.injEq]at hd;subst hd;have:=h H enc w base spare held m cs j (by omega) (by rw[g,i]) a μ hμ (λy l=>XQ (hμ.ag _ _ (by grind)) hwt)
    grind
  .cases hd
end
theorem C.law{P:Program}{f:FuncId}{args:List A}{W:World}{vals:List Value}(h:C P f args [] (λa H=>a=.bool true/\H=[]))(j:LR (QdA W) [] W args vals)(d:GP W):
  Calls P f vals.toArray W λe W'=>e=.returned (.bool true)/\Go.RowKit.Below W.heap.size W W':=by
 have s:Sim (λ_=>False) (QdA W) [] [] W:=
  ⟨rfl,⟨λ_ h=>h,λb m=>d.size b m,d⟩,λ_ h=>h.elim,λ_ _ h=>h,(by simp),(by simp),(by simp),(by simp)⟩
 refine(h _ _ _ _ W s j).mono ?_;rintro e W' ⟨v,r,H',l,τ,rfl,⟨rfl,rfl⟩,_,g,ev⟩;exact⟨by rw[show v=.bool true from g],⟨ev.os,ev.tape,ev.output,ev.size,λk i=>ev.keepRo k i⟩⟩
theorem QgU{P:Program}{W:World}{t:TypeId}{a:Option Addr}{len cap:Nat}{T:Type}{e:T->List A}{k:Nat}{wf:List T->Prop}{H:Type}{enc:TypeId×Value->H}{g:Nat}{f:Nat->Bool}{held:Bool}{d:DataW H}{ps:List MemPlace}
  (h:∀n,RB P n t (List T) (Qw k e) wf)(j:DataW.Trod enc P W g f held t (.slice a len cap) d ps){μ:DataW H->Nat}(hμ:Meas μ)(i:μ d<=1048576):∃x:List T,wf x/\VR (QdA W) [] W (.rsl k (x.map e)) (.slice a len cap):=by
 obtain⟨m,l⟩:=j;obtain⟨x,p,⟨v,s,u,r,q⟩,_⟩:=h (m+1) H enc W g f held m _ _ (Xk _) l μ hμ i;refine⟨x,p,?_⟩;have:(Value.slice a len cap).cells.toList=[.slice a len cap]:=rfl
 grind
theorem QfK{P:Program}{W:World}(h:W.ShapedOpen P){g t u:Nat}{z:Value}(hg:Nat.blt g P.globals.size=true)(r:(((begin P (λ_ _=>0) default).world.heap[g]?).bind Obj.row?)=some (#[z],t))
  (p:P.buildable t=true)(q:P.cellTypes P.depth t=some [u])(s:P.underlying u=some (.int .i64)):∃m:Int,W.cell? ⟨g,0,none⟩=some (.int .i64 m):=by
 obtain⟨d,w,l,j⟩:=h.1 g _ _ (by simp_all) r;obtain⟨B,f,_,n⟩:=j p;rw[q]at f;cases f;have y:d.size=1:=l;have e:d[0]?=some d[0]:=(by simp);obtain⟨x,i,a⟩:=n 0 _ e;simp at i;subst i;unfold Cell.ok at a;rw[s]at a;cases k:d[0]<;>rw[k]at a<;>simp at a
 simp_all[World.cell?]
theorem QfR{S B:Type}{step:S->Option (Ctl S B)}(a:Nat->S)(b:B)(k:Nat)(p:∀i,i<k->step (a i)=some (.cont (a (i+1))))(e:step (a k)=some (.done b)):∀n,k<n->iter step n (a 0)=some b:=by
 have f:∀m i n,k-i=m->i<=k->m<n->iter step n (a i)=some b:=by
  intro m
  induction m with
  |zero=>
   intro i n h j g;have:i=k:=by omega
   subst this;obtain⟨d,rfl⟩:∃d,n=d+1:=⟨n-1,by omega⟩;simp[iter,e]
  |succ m l=>
   intro i n h j g;obtain⟨d,rfl⟩:∃d,n=d+1:=⟨n-1,by omega⟩
   grind[iter]
 grind
theorem Qh3{S B:Type}{step:S->Option (Ctl S B)}(d:S)(a:Nat->S)(b:B)(k:Nat)(g:a 0=d)(f:∀i,i<k->step (a i)=some (.cont (a (i+1))))(e:step (a k)=some (.done b))(n:Nat)(h:k<n):iter step n d=some b:=by
 rw[<- g];exact QfR a b k f e n h
theorem QcZ{α:Type}{l:List α}{i:Nat}{x:α}(h:l[i]?=some x):idx l i=some x:=by
 grind[idx]
theorem QgC{α:Type}(l:List α)(x:α)(h:l.length<4294967296):app l [x]=some (l++[x]):=by
 unfold app;have:Nat.ble (l.length+[x].length) Yg=true:=by
  grind[Nat.ble_eq_true_of_le,Yg]
 grind
theorem Qc6{n:Int}(a: -9223372036854775808<=n)(d:n<=9223372036854775807):IntKind.i64.wrap n=n:=by
 grind[IntKind.wrap,IntKind.bits,IntKind.signed]
theorem Qb9{i:Nat}(h:i<9223372036854775807):IntKind.i64.wrap (i+1)=(i+1:Nat):=by
 rw[Qc6 (by omega) (by omega)];omega
theorem QfX{p:Prop}[Decidable p](h:p):decide p=true:=decide_eq_true h
theorem QfY{p:Prop}[Decidable p](h:¬p):decide p=false:=Vo h
open Go.Proofs Go.Shelf
def cat(a b:List UInt8):Option (List UInt8):=bif Nat.ble (a.length+b.length) 4294967296 then some (a++b)else none
theorem Qj4{a b r:List UInt8}(h:cat a b=some r):a.length+b.length<=4294967296/\a++b=r:=by
 unfold cat at h;cases q:Nat.ble (a.length+b.length) 4294967296 with
 |true=>simp_all
 |false=>grind
def QfS(s t:List UInt8):Option Bool:=bif Nat.blt s.length 4294967281 then some (Lib.contains s t)else none
section
variable {P:Program} {o:Oper} {env:Env} {H:Qc}
theorem QdI{t u:TypeId}{x y:Operand}{p q r:List UInt8}(g:cat p q=some r)(k:o.op=.binOp .add t x y u:=by exact rfl)(hx:opA env x=.str p:=by exact rfl)(hy:opA env y=.str q:=by exact rfl):OpV P o env H (.str r):=by
 intro s m σ N a w rr;obtain⟨n,j⟩:=Qj4 g;have e:=Ql rr x;rw[hx]at e;have d:=Ql rr y;rw[hy]at d;have i:a.eval x=.string ⟨p.toArray⟩:=e;have h:a.eval y=.string ⟨q.toArray⟩:=d;have l:(⟨p.toArray⟩:ByteArray)++⟨q.toArray⟩=⟨r.toArray⟩:=by
  rw[<- j];rfl
 refine⟨.string ⟨r.toArray⟩,?_,rfl⟩;have f:¬((⟨p.toArray⟩:ByteArray).size+(⟨q.toArray⟩:ByteArray).size>IntKind.i64.max):=by
  have:IntKind.i64.max=9223372036854775807:=by decide
  grind[ByteArray.size]
 simp_all[eqGuard,execOp,binOp_string_add,Op.stringOp]
def Qez{α:Type}(n:Nat)(l:List α)(i:Int):Option α:=bif Nat.beq l.length n then idx l i else none
theorem QaV{α:Type}{n:Nat}{l:List α}{i:Int}{x:α}(h:Qez n l i=some x):l.length=n/\idx l i=some x:=by
 grind[Qez,Nat.eq_of_beq_eq_true]
def arr{α:Type}(n:Nat)(l:List α):Option (List α):=bif Nat.beq l.length n then some l else none
theorem QbM{α:Type}{n:Nat}{l l':List α}(h:arr n l=some l'):l.length=n/\l=l':=by
 grind[arr,Nat.eq_of_beq_eq_true]
theorem QeI{α:Type}{n:Nat}{l l':List α}(h:arr n l=some l'):l'.length=n:=(QbM h).2▸(QbM h).1
section
variable {α:Type} {e:α->List A} {t et k n b:Nat} {x y:Operand} {l:List α}
theorem Qaw{i:Int}{v:α}{m:IntKind}(h:Qez n l i=some v)(q:∀w,(underlying t).run P w=.ok (.array n et) w)(s:∀w,(sizeOf et).run P w=.ok k w)(B:Nat.ble 2 n=true)
  (z:o.op=.indexAddr t x y:=by exact rfl)(hx:opA env x=.ptr b 0:=by exact rfl)(hy:opA env y=.int m i:=by exact rfl):OpV P o env H (.ptr b (i.toNat*k)):=by
 intro M L σ N a w r;obtain⟨O,p⟩:=QaV h;obtain⟨J,G⟩:=QaU p;have u:i.toNat<l.length:=(by grind);have e:=Ql r x;rw[hx]at e;obtain⟨d,e,F⟩:=e;have g:=Ql r y;rw[hy]at g;have f:a.eval y=.int m i:=g;refine⟨.pointer (some ⟨d,i.toNat*k,none⟩),?_,d,e,rfl⟩;have E:0<=i/\i<n:=by omega
 have j:(⟨d,0,none⟩:Addr).add (i.toNat*k)=⟨d,i.toNat*k,none⟩:=by
  grind[Addr.add]
 generalize a.eval=ρ at*;simp[z,F,f,Instr.indexAt,q,s,E,go_sem]
theorem QgF{a:List A}(i:H[b]?=some (.row t k (l.map e)):=by exact rfl)(hcs:(l.map e).flatten=a:=by exact rfl):Pts H (.ptr b 0) a:=by
 intro q p σ w v s h;obtain⟨j,f,m⟩:=h;obtain⟨n,d,g⟩:=s.blk b _ _ f i;refine⟨j,0,m,?_⟩;have:=(RR.flat (YB (pre:=[]) (by simpa using d) g)).1;subst hcs;exact this.lift
theorem Qfi(a:∀x,(e x).length=k)(L:List α):(L.map e).flatten.length=L.length*k:=by
 induction L with
 |nil=>simp
 |cons c L ih=>grind
theorem QfB{f:Nat}{l':List α}(h:arr n l=some l')(i:∀x,(e x).length=k)(a:n*k=f)(j:∀w,(isAgg t).run P w=.ok true w)(m:∀w,(sizeOf t).run P w=.ok f w){T:Nat}
  (g:o.op=.load t x:=by exact rfl)(hx:opA env x=.ptr b 0:=by exact rfl)(hH:H[b]?=some (.row T k (l.map e)):=by exact rfl):OpV P o env H (.agg (l'.map e).flatten):=by
 obtain⟨p,rfl⟩:=QbM h;have d:=Qfi i l;rw[p,a]at d;exact Q1 g j m hx (QgF hH rfl) (by grind) d
theorem Qhi{r:Nat}{n2 T:Nat}(j:l.length=n)(a:∀x,(e x).length=k)(h:n*k=n2)(f:∀w,(isAgg t).run P w=.ok true w)(g:∀w,(sizeOf t).run P w=.ok n2 w)
  (d:lk env r=.ptr b 0:=by exact rfl)(hH:H[b]?=some (.row T k (l.map e)):=by exact rfl):Qb4 P env H (.cell r t) (.agg (l.map e).flatten):=by
 have i:=Qfi a l;have:=QcK f g (QgF hH rfl) d (by grind)
 grind
theorem Qfv{c:List A}{k:Nat}(h:c.length=k):∀n,allK k (List.replicate n c)
 |0=>trivial
 |n+1=>⟨h,Qfv h n⟩
theorem Qb7{vs:Array Value}{z:α}(s:∀w,(zeroValue t).run P w=.ok (.agg vs) w)(p:(Yv (List.replicate n (e z)).flatten).toArray=vs)(j:Qer (List.replicate n (e z)).flatten=true)(i:(List.replicate n (e z)).flatten.all Yf=true)(h:Nat.beq (e z).length k=true)
  (m:o.op=.alloc t:=by exact rfl):OpH P o env H (.ptr H.length 0) (H++[.row t k ((List.replicate n z).map e)]):=by
 intro u g σ N a w r;have f:LR g [] w (List.replicate n (e z)).flatten (Yv (List.replicate n (e z)).flatten):=QdR j;have d:=r.sim.allocRow (t:=t) (rest:=[]) (Qfv (XL h) n) f (f.plain i);rw[Va]at d;have l:(List.replicate n z).map e=List.replicate n (e z):=List.map_replicate;refine⟨.pointer (some ⟨w.heap.size,0,none⟩),w.alloc (.cells (Yv (List.replicate n (e z)).flatten).toArray t),g,[some w.heap.size],?_,⟨w.heap.size,?_,rfl⟩,l▸d,Qi.alloc _ r.sim.roLt r.sim.frLt⟩
 .have q:(newVar t (.agg vs)).run P w=.ok ⟨w.heap.size,0,none⟩ (w.alloc (.cells vs t)):=rfl
  simp_all[execOp,Instr.alloc]
 .rw[<- r.sim.len];simp
theorem Qb6{T n2:Nat}{l':List α}{vs:List A}(h:l.length=n)(h':l'.length=n)(W:∀x,(e x).length=k)(M:n*k=n2)(hs:∀w,(sizeOf t).run P w=.ok n2 w)
  (hp:∀x,(e x).all Yf=true)(hd:∀x,Ym (e x)=true)(B:(l'.map e).flatten=vs)
  (ho:o.op=.store t x y:=by exact rfl)(J:opA env x=.ptr b 0:=by exact rfl)(hH:H[b]?=some (.row T k (l.map e)):=by exact rfl)(u:opA env y=.agg vs:=by exact rfl):
  OpU P o env H (H.set b (.row T k (l'.map e))):=by
 intro fr Y σ N a w r;subst B;have i:=Ql r x;rw[J]at i;obtain⟨bb,i,h2⟩:=i;have O:=Ql r y;rw[u]at O;obtain⟨m,h4,j⟩:=O;obtain⟨q,V,q2⟩:=r.sim.blk b _ _ i hH;have z:∀(L:List α),allK k (L.map e):=by
  intro L
  induction L with
  |nil=>trivial
  |cons c L p=>exact⟨W c,p⟩
 have F:(l'.map e).flatten.length=n2:=by grind[YE]
 have X:m.length=n2:=by rw[j.length,F]
 have g:∀L:List α,(L.map e).flatten.all Yf=true:=by
  grind
 have G:∀f ds:List A,Ym f=true->Ym ds=true->Ym (f++ds)=true:=by
  intro f
  induction f with
  |nil=>simp
  |cons c f p=>
   simp_all[Ym]
 have s:∀L:List α,Ym (L.map e).flatten=true:=by
  intro L
  induction L with
  |nil=>rfl
  |cons c L p=>exact G _ _ (hd c) p
 have hlen:=by
  have:=q2.length;rw[XW,h,M]at this;exact this
 have R:=Q9 (P:=P) (vs:=m) 0 0 V (by omega) (j.plain (g l'));have Q:splice q 0 m=m++q.drop n2:=by unfold splice;simp[X]
 have d:=r.sim.set (x':=.row T k (l'.map e)) (obj:=.cells (splice q 0 m).toArray T (0,0)) i hH rfl
  (λy u=>Qab V (Q7 (by omega)) y u)
  (λex E=>by
   have J:=(j.data (s l')).mono ex.nil;exact⟨_,E,Qaf (z l') J (j.plain (g l'))⟩)
 refine⟨_,Y,[],?_,by simpa using d.1,d.2⟩
 simp_all[Value.cells,storeVar,execOp,Instr.storeAt,Instr.sureAddr]
end
end
theorem C.contains{P:Program}{ρ:Ren}(L:Lays.n144 P ρ)(hg:ρ.g 1=Qg2){s t:List UInt8}{r:Bool}(h:QfS s t=some r):C P (ρ.f 144) [.str s,.str t] [] (λa H=>a=.bool r/\H=[]):=by
 unfold QfS at h;cases q:Nat.blt s.length 4294967281 with
 |false=>grind
 |true=>
  rw[q]at h;obtain rfl:=XU h;intro x j σ vals w sim hv;obtain⟨n,p,rfl,k,z,i,rfl,l,d⟩:=hv;cases(show i=[]from d);obtain⟨m,y⟩:=sim.roOk.gp.max;have e1:=k;have e2:=l;subst e1 e2;have hs:=by simpa using q
  refine(Any.strings_Contains L ⟨s.toArray⟩ ⟨t.toArray⟩ m w (by simpa[ByteArray.size]using hs) (by grind)).mono ?_;rintro e u ⟨rfl,rfl⟩;exact⟨_,_,_,j,[],rfl,⟨rfl,rfl⟩,by grind,rfl,Qi.refl _ _ _⟩
section
variable {P:Program} {o:Oper} {env:Env} {H:Qc} {fr ro:Nat->Prop} {σ:Sig} {w:World}
theorem Sim.touch(s:Sim fr ro σ H w){b:Nat}{obj:Obj}(n:¬ro b)(r:¬fr b)(t:∀(i:Nat) (x:Blk),σ[i]?=some (some b)->H[i]?=some x->x.live=true->False)
  (k:∀(i d:Nat) (x:Blk),σ[i]?=some (some d)->H[i]?=some x->Hid w x d b->False)
  (m:∀y,w.shape? b=some y->{w with heap:=w.heap.setIfInBounds b obj}.shape? b=some y):
  Sim fr ro σ H {w with heap:=w.heap.setIfInBounds b obj}/\Qi fr ro w ro {w with heap:=w.heap.setIfInBounds b obj}:=by
 have a:{w with heap:=w.heap.setIfInBounds b obj}.heap.size=w.heap.size:=by simp
 have ev:Qi fr ro w ro {w with heap:=w.heap.setIfInBounds b obj}:=
  ⟨λ_ h=>h,(by grind),(by grind),by omega,by
   grind[World.shape?],rfl,rfl,rfl,XO _⟩
 refine⟨⟨s.len,s.roOk.to (λ_ q=>q) ev.keepRo (λc h=>by rw[a];exact s.roLt c h),λc h=>by rw[a];exact s.frLt c h,s.roFr,?_,s.inj,?_,s.hidTo (· = ·) QX (by omega) (by simp) (by simp) λj d y g l u=>.inl ⟨j,y,rfl,g,l,id,λc q=>s.hidKeep g l (by grind) ev.keepRo q⟩⟩,ev⟩
 .intro i c x e f p;rw[a];exact s.own i c x e f p
 .intro i y x e f;refine(s.blk i y x e f).keep (ev.ext0 σ) ?_ ?_
  .grind
  grind
theorem Qht{T E i n t:Nat}{x:Operand}{es:List (List A)}(X:P.underlying T=some (.slice E))(hE:P.underlying E=some (.int .u8))(hn:es.length=n)(h0:Nat.blt 0 n=true)
  (ho:o.op=.convert T T x:=by exact rfl)(hx:opA env x=.osl i 0 n 1:=by exact rfl)(hH:H[i]?=some (.row t 1 es):=by exact rfl):
  OpH P o env H (.rsl 1 es) (H.set i .dead):=by
 intro fr M σ N a w r;subst hn;have k:=Ql r x;rw[hx]at k;rcases k with⟨hz,_⟩|⟨b,p,L,t',m,k,h2,Y,⟨h3,aa⟩,h4,h5⟩
 .simp_all
 .have V:0<es.length:=by simp_all
  obtain rfl:=Y (by omega);obtain⟨hb,J,g⟩:=r.sim.own i b _ k hH rfl;obtain⟨l,q1,q2⟩:=r.sim.blk i _ _ k hH;have W:=r.sim.kill i;have f:∀(j:Nat) (y:Blk),σ[j]?=some (some b)->(H.set i .dead)[j]?=some y->y.live=true->False:=by
   intro j y B e u;by_cases q:j=i
   .subst q;rw[Xb]at e;simp only[if_true]at e
    grind[Blk.live]
   .rw[XK (λz=>q z.symm)]at e;exact q (r.sim.inj j i b y _ B k e hH u rfl)
  have F:∀(j d:Nat) (y:Blk),σ[j]?=some (some d)->(H.set i .dead)[j]?=some y->Hid w y d b->False:=by
   intro j d y B e u;by_cases q:j=i
   .subst q;rw[Xb]at e;simp only[if_true]at e;split at e
    .cases e;exact u.elim
    .simp at e
   .rw[XK (λz=>q z.symm)]at e;exact(r.sim.hid j d y b B e u).ne i b _ k hH rfl rfl
  let fz:Nat×Nat:=(l.length,l.length+1)
  have Q:∀y,w.shape? b=some y->({w with heap:=w.heap.setIfInBounds b (.cells l.toArray t fz)}:World).shape? b=some y:=by
   simp_all[World.shape?]
  obtain⟨s2,s⟩:=W.touch (obj:=.cells l.toArray t fz) J g f F Q;have s3:=s2.addRo (b:=b) (by grind) g f (λj d y B e u=>F j d y B e (W.hidKeep B e (by grind) s.keepRo u));have h:({w with heap:=w.heap.setIfInBounds b (.cells l.toArray t fz)}:World).heap[b]?=some (.cells (([]:List Value)++l).toArray t fz):=by
   grind
  have G:Ext M [] w M [] {w with heap:=w.heap.setIfInBounds b (.cells l.toArray t fz)}:=s.ext0 [];refine⟨.slice (some ⟨b,0*1,none⟩) es.length L,_,λc=>M c\/c=b,[],?_,?_,by grind,s.trans (QS λ_ q=>.inl q)⟩
  .have hf:w.freeze ⟨b,l.length,none⟩ 1={w with heap:=w.heap.setIfInBounds b (.cells l.toArray t fz)}:=by
    unfold World.freeze;simp only[Nat.one_ne_zero,if_false];rw[Qce q1];rfl
   have O:(markStringish ⟨b,0*1,none⟩).run P w=.ok () {w with heap:=w.heap.setIfInBounds b (.cells l.toArray t fz)}:=by
    simp_all[markStringish,World.shape?]
   have hu:∀w,(underlying T).run P w=.ok (.slice E) w:=run_underlying X;have R:∀w,(underlying E).run P w=.ok (.int .u8) w:=run_underlying hE;generalize a.eval=ρ at*;simp only[execOp,ho,h2,convert,Vg,hu,R,Result.andThen,beq_self_eq_true,O,Vh]
  .refine⟨some ⟨b,0*1,none⟩,L,rfl,h3,.inr ⟨b,0*1,rfl,.inr rfl,?_⟩⟩;have:=YB (pre:=[]) h (q2.mono G);exact(by omega:RR M [] _ b 1 es (0*1)).keep ⟨λ_ q=>.inl q,λ_ _=>rfl,λ_ _ q=>q,λ_ _ q=>q⟩ rfl
end
mutual
theorem Qcc(ρ:Nat->Nat):∀{a:A},Yd a=true->Yz ρ a=a
 |.any,_=>rfl
 |.bool _,_=>rfl
 |.int _ _,_=>rfl
 |.str _,_=>rfl
 |.nilp,_=>rfl
 |.ptr _ _,h=>by simp[Yd]at h
 |.rp _,_=>rfl
 |.nils,_=>rfl
 |.rsl _ _,_=>rfl
 |.osl _ _ _ _,h=>by simp[Yd]at h
 |.agg cs,h=>by simp only[Yd]at h;simp only[Yz,Qad ρ h]
 |.fn f a c,h=>by simp only[Yd,XR]at h;simp only[Yz,Qad ρ h.1,Qad ρ h.2]
 |.nilf,_=>rfl
 |.iface t a,h=>by simp only[Yd]at h;simp only[Yz,Qcc ρ h]
 |.nilif,_=>rfl
 |.map _,h=>by simp[Yd]at h
 |.nilm,_=>rfl
 |.tup vs,h=>by simp only[Yd]at h;simp only[Yz,Qad ρ h]
theorem Qad(ρ:Nat->Nat):∀{l:List A},Ym l=true->Qag ρ l=l
 |[],_=>rfl
 |a::l,h=>by simp only[Ym,XR]at h;simp only[Qag,Qcc ρ h.1,Qad ρ h.2]
end
theorem Qec{α:Type}{e:α->List A}(a:∀x,Ym (e x)=true):∀L:List α,Ym (L.map e).flatten=true
 |[]=>rfl
 |c::L=>by
  have hdt:∀cs ds,Ym cs=true->Ym ds=true->Ym (cs++ds)=true:=by
   intro cs
   induction cs with
   |nil=>simp
   |cons c cs d=>
    simp_all[Ym]
  exact hdt _ _ (a c) (Qec a L)
theorem QiW{α:Type}{e:α->List A}(hd:∀x,Ym (e x)=true)(ρ:Nat->Nat)(l:List α):Yz ρ (.agg (l.map e).flatten)=.agg (l.map e).flatten:=
 Qcc ρ (by exact Qec hd l)
end Go.Sw
namespace Go.Sw
section
variable {P:Program} {o:Oper} {env:Env} {H:Qc}
theorem Qc3{c:Call}{f T:Nat}{x:Operand}{xs:List Operand}{i:Array TypeId}{d:String}{v:A}{args:List A}(g:∀(a:Array Value) (w:World),(callFunc f a).run P w=.ok (.enter f a) w)(k:o.op=.call c)
  (l:c={callee:=.invoke x d,args:=xs.toArray,argTypes:=i})(h:opA env x=.iface T v)(hargs:v::xs.map (opA env)=args)
  (p:∀(u:Value) (w:World),(method (P.types.size+Made.depth) T u d).run P w=.ok (f,u) w):OpC P o env H f args:=by
 intro n m σ N a w r;have e:=Ql r x;rw[h]at e;obtain⟨u,e,j⟩:=e;refine⟨u::xs.map a.eval,?_,hargs▸⟨u,xs.map a.eval,rfl,j,QaL r xs⟩⟩
 simp_all[Vx,callMethod,execOp,resolve,invoke]
theorem QaW{T I:Nat}{x:Operand}{v:A}{d:TypeDesc}(k:∀w,(underlying T).run P w=.ok d w)(h:∀m,d≠ .interface m)(g:o.op=.typeAssert x I T true:=by exact rfl)(hx:opA env x=.iface T v:=by exact rfl):
  OpV P o env H (.tup [v,.bool true]):=by
 intro j i σ N a w r;have e:=Ql r x;rw[hx]at e;obtain⟨u,e,f⟩:=e;refine⟨.tuple #[u,.bool true],?_,[u,.bool true],rfl,_,_,rfl,f,_,_,rfl,rfl,rfl⟩
 simp_all[execOp,Instr.typeAssert]
theorem QeO{T T' I:Nat}{x:Operand}{v z:A}{zv:Value}{d:TypeDesc}(j:∀w,(underlying T).run P w=.ok d w)(i:∀m,d≠ .interface m)(g:Nat.beq T' T=false)(k:∀w,(zeroValue T).run P w=.ok zv w)(f:ZR z zv)
  (h:o.op=.typeAssert x I T true:=by exact rfl)(hx:opA env x=.iface T' v:=by exact rfl):
  OpV P o env H (.tup [z,.bool false]):=by
 intro n l σ N a w r;have e:=Ql r x;rw[hx]at e;obtain⟨u,e,s⟩:=e;have p:T'≠T:=λq=>by simp_all
 refine⟨.tuple #[zv,.bool false],?_,[zv,.bool false],rfl,_,_,rfl,f _ _ _,_,_,rfl,rfl,rfl⟩
 simp_all[execOp,Instr.typeAssert]
end
def TL(P:Program)(h0 N:Nat)(c:Code)(env:Env)(H:Qc)(Q:Qx):Prop:=
 ∀rd fr ro σ a w,Rel fr ro σ H env N a w->Qco rd fr w->∀(b:Frame) (k:List Item) (cs:List Frame),b.roundOf=(WF rd).round->(WF rd).fn b.fn->(WF rd).room (cs.length+1+0)->∃e a' w',Qan h0 fr ro σ w N a.defers Q e a' w'/\ArrivesIn (Machine.fenced P (WF rd)) P (lone (b.atR a (.code c::.inLoop c::k)) cs w) b k cs e a' w'
def Qf4(P:Program)(h0 N:Nat)(c:Code)(Q:Qx):Qx
 |.normal,env,H=>TL P h0 N c env H Q
 |.exit id,env,H=>Q (.exit id) env H
 |.ret,env,H=>Q .ret env H
section
variable {P:Program} {h0 N:Nat} {c:Code} {env:Env} {H:Qc} {Q:Qx}
theorem Qiu(h:TL P h0 N c env H Q):TC P h0 N (.loop c) env H Q:=by
 intro j f l σ a w r hrd b k cs hro hb hr;obtain⟨e,m,i,g,d⟩:=h j f l σ a w r hrd b k cs hro hb hr;exact⟨e,m,i,g,.of_steps (.one (fenced_calm hb hr rfl) stepR_loop) d⟩
theorem TL.round(h:TC P h0 N c env H (Qf4 P h0 N c Q)):TL P h0 N c env H Q:=by
 intro E y G σ a w r hrd b k cs hro hb hr;obtain⟨e,m,l,R,d⟩:=h E y G σ a w r hrd b (.inLoop c::k) cs hro hb hr;obtain⟨x,f,H',i,σ',j,n,u,B,p,F,t⟩:=R;have z:∀x,Q x f H'->ExR e x->Qan h0 y G σ w N a.defers Q e m l:=λx q J=>⟨x,f,H',i,σ',j,J,q,B,p,F,t⟩;cases e with
 |normal=>
  obtain rfl:x=.normal:=n;obtain⟨L,O,M,s,g⟩:=u E j i σ' m l B (hrd.to p t.sub) b k cs hro hb hr;exact⟨L,O,M,s.grow p F t,.of_steps (StepsIn.trans d (.one (fenced_calm hb hr rfl) stepR_inLoop)) g⟩
 |exit id=>
  obtain rfl:x=.exit id:=n;exact⟨_,m,l,z _ u rfl,.pass rfl (by simp) d⟩
 |ret=>
  obtain rfl:x=.ret:=n;exact⟨_,m,l,z _ u rfl,.pass rfl (by simp) d⟩
 |_=>exact n.elim
theorem unrN(h:TC P h0 N c env H (Qf4 P h0 N c Q)):Qf4 P h0 N c Q .normal env H:=TL.round h
theorem unrX{id:Nat}(h:Q (.exit id) env H):Qf4 P h0 N c Q (.exit id) env H:=h
theorem unrR(h:Q .ret env H):Qf4 P h0 N c Q .ret env H:=h
theorem Qhe(h:TC P h0 N c env H (Qf4 P h0 N c Q)):TC P h0 N (.loop c) env H Q:=Qiu (TL.round h)
end
section
variable {P:Program} {o:Oper} {env:Env} {H:Qc}
theorem OpV.ixL{t a k b n j:Nat}{x y:Operand}{e:IntKind}{i:Int}(l:Nat.blt j n=true)(hi:i=j)(g:∀w,(underlying t).run P w=.ok (.slice a) w)(f:∀w,(sizeOf a).run P w=.ok k w)
  (d:o.op=.indexAddr t x y:=by exact rfl)(hx:opA env x=.osl b 0 n k:=by exact rfl)(hy:opA env y=.int e i:=by exact rfl):OpV P o env H (.ptr b (j*k)):=by
 have h:=QgG (H:=H) d g f hx hy (by omega) (by simp_all)
 grind
end
theorem QdG{ro:Nat->Prop}{σ:Sig}{w:World}{k:Nat}:∀{es:List (List A)} {l l':List Value},RL ro σ w k es l->l.take (es.length*k)=l'.take (es.length*k)->RL ro σ w k es l'
 |[],_,_,_,_=>trivial
 |c::es,l,l',h,hp=>by
  obtain⟨l1,l2,rfl,h1,h2,h3⟩:=h;have hl1:l1.length=k:=by rw[h2.1.length];exact h1
  have a:l'.take k=l1:=by
   have:=congrArg (List.take k) hp
   grind[Nat.succ_mul]
  refine⟨l1,l'.drop k,by rw[<- a,Xv],h1,h2,QdG h3 ?_⟩;have:=congrArg (List.drop k) hp
  grind[Nat.succ_mul]
section
variable {P:Program} {o:Oper} {env:Env} {H:Qc}
theorem QdZ{c:Call}{T et k b s n t:Nat}{x:Operand}{es g:List (List A)}{z:Value}(ht:P.underlying T=some (.slice et))(hz:∀w,(zeroValue et).run P w=.ok z w)(u:z.cells.size=k)(aa:∀v∈z.cells,Qu v)
  (O:es.take s=g)(hb:s+n=es.length)(ho:o.op=.call c:=by exact rfl)(hc:c={callee:=.builtin .clear,args:= #[x],argTypes:= #[T]}:=by exact rfl)
  (hx:opA env x=.osl b s n k:=by exact rfl)(hH:H[b]?=some (.row t k es):=by exact rfl):OpH P o env H (.tup []) (H.set b (.row t k g)):=by
 intro q j σ N a w r;subst O hc;have hu:∀w,(underlying T).run P w=.ok (.slice et) w:=run_underlying ht;have e:=Ql r x;rw[hx]at e;have Q:Sim q j σ (H.set b (.row t k (es.take s))) w:=by
  refine r.sim.weaken hH rfl ?_;intro y h;cases y with
  |none=>rw[show es=[]from h];simp[BR]
  |some J=>obtain⟨l,g1,g2⟩:=h;exact⟨l,g1,RL.take s g2⟩
 have L:∀v,a.eval x=v->(Builtin.clear_ #[T] o.type #[v]).run P w=.ok (.tuple #[]) w->
   ∃v w' ro' τ,(execOp a.eval o).run P w=.ok (.value v) w'/\VR ro' (σ++τ) w' (.tup []) v/\Sim q ro' (σ++τ) (H.set b (.row t k (es.take s))) w'/\Qi q j w ro' w':=by
  intro v B d;refine⟨.tuple #[],w,j,[],?_,⟨[],rfl,rfl⟩,by grind,Qi.refl _ _ _⟩
  simp_all[execOp,resolve,invoke,builtin]
 rcases e with⟨hn,e⟩|⟨J,p,F,t',m,e,h2,h3,⟨h4,ad⟩,h5,h6⟩
 .simp_all[Builtin.clear_]
 .by_cases hn:n=0
  .simp_all[Builtin.clear_]
  .obtain rfl:=h3 (by omega);obtain⟨l,W,X⟩:=r.sim.blk b _ _ e hH;have V:=X.length
   let vs:=(Builtin.zeroCells z.cells n).toList
   have ab:vs.length=n*k:=by simp[vs,Builtin.zeroCells,u]
   have G:∀v∈vs,Qu v:=by
    intro v B;simp only[vs,Builtin.zeroCells,Array.toList_map,Xe,Array.toList_range,List.mem_range]at B;obtain⟨i,hi,rfl⟩:=B;have R:0<z.cells.size:=by
     grind
    grind[Nat.mod_lt]
   have ac:s*k+n*k=es.length*k:=by grind
   have d:=Q9 (P:=P) (vs:=vs) (s*k) 0 W (by omega) G;have f:=r.sim.set (x':=.row t k (es.take s)) (obj:=.cells (splice l (s*k) vs).toArray t (0,0)) e hH rfl
    (λy h=>Qab W (Q7 (by omega)) y h)
    (λex E=>⟨_,E,by
     refine(QdG (RL.take s X) ?_).mono ex.nil
     grind[splice]⟩)
   refine⟨.tuple #[],_,j,[],?_,⟨[],rfl,rfl⟩,by grind,f.2⟩;have M:(Builtin.clear_ #[T] o.type #[.slice (some ⟨J,s*k,none⟩) n F]).run P w=.ok (.tuple #[]) {w with heap:=w.heap.setIfInBounds J (.cells (splice l (s*k) vs).toArray t (0,0))}:=by
    obtain⟨Y,rfl⟩:∃Y,n=Y+1:=⟨n-1,by omega⟩;simp only[Xt]at d;simp only[Builtin.clear_,XB,Xz,Vg,hu,hz,Result.andThen,d,Vh,vs]
   generalize a.eval=ρ at*;simp only[execOp,ho,resolve,Vg,Vh,Result.andThen,invoke,builtin,XD,Vd,Ve,h2,M]
end
def isNil{α R:Type}[DecidableEq R](l:List α)(x y:Option R):Option R:=bif l.isEmpty then(bif decide (x=y)then x else none)else y
theorem Qfc{α R:Type}[DecidableEq R]{l:List α}{x y:Option R}{r:R}(h:isNil l x y=some r)(b:Bool)(a:l≠[]->b=false):(b=true->x=some r)/\(b=false->y=some r):=by
 unfold isNil at h
 grind
section
variable {P:Program} {o:Oper} {env:Env} {H:Qc} {h0 N:Nat} {Q:Qx}
theorem Qhu{α:Type}{e:α->List A}{T E k:Nat}{u:TypeId}{x:Operand}{l:List α}(q:P.underlying T=some (.slice E))(j:o.op=.binOp .eql T x (.const (.slice none 0 0)) u)(g:opA env x=.rsl k (l.map e)):
  OpE P o env H (λv H'=>∃b:Bool,v=.bool b/\(l≠[]->b=false)/\H'=H):=by
 intro s h σ N a w r;have f:=Ql r x;rw[g]at f;obtain⟨d,i,f,t,n⟩:=f;refine⟨.bool d.isNone,H,.bool d.isNone,w,h,[],⟨d.isNone,rfl,λm=>?_,rfl⟩,?_,rfl,by simpa using r.sim,Qi.refl _ _ _⟩
 .grind
 .have p:a.eval (.const (.slice none 0 0))=.slice none 0 0:=rfl
  grind[eqGuard,execOp,Sem.run_bind,Result.andThen,Go.run_eql_slice_nil,Sem.run_pure]
theorem Qir{α:Type}{e:α->List A}{T E k d:Nat}{u:TypeId}{x:Operand}{l:List α}{all:Array Oper}{L:List Oper}(f:P.underlying T=some (.slice E))(g:opA env x=.rsl k (l.map e))
  (h:∀b,(l≠[]->b=false)->WO P h0 N all L (up env d (.bool b)) H Q)
  (a:o.op=.binOp .eql T x (.const (.slice none 0 0)) u:=by exact rfl)(hg:Qs all o env true:=by exact rfl)(hd:o.dst=some d:=by exact rfl)(hN:Nat.blt d N=true:=by exact rfl)(hh:Nat.ble h0 H.length=true:=by exact rfl):WO P h0 N all (o::L) env H Q:=by
 refine Qf3 (by simp_all) hg hd hN (Qhu f a g) ?_
 grind
end
theorem slc0{α:Type}{l x:List α}{i:Int}(h:slc l 0 i=some x):0<=i/\i.toNat<=l.length/\l.take i.toNat=x/\x.length=i.toNat:=by
 obtain⟨_,e,d,a⟩:=Qda h
 grind
section
variable {P:Program} {o:Oper} {env:Env} {H:Qc} {α:Type} {e:α->List A} {T et k b t:Nat} {x y:Operand} {l l':List α} {i:Int}
theorem Qf7(h:slc l 0 i=some l')(E1:∀w,(underlying T).run P w=.ok (.slice et) w)(E2:∀w,(sizeOf et).run P w=.ok k w)(a:o.op=.slice T x (some y) none none:=by exact rfl)
  (hx:opA env x=.osl b 0 l.length k:=by exact rfl)(hy:opA env y=.int .i64 i:=by exact rfl):OpV P o env H (.osl b (0+i.toNat) (l.length-i.toNat) k):=by
 obtain⟨e,d,_,_⟩:=slc0 h;exact QdM E1 E2 a hx (by grind) (.inl ⟨rfl,rfl⟩) d (XO _)
theorem Qf8(h:slc l 0 i=some l')(E1:∀w,(underlying T).run P w=.ok (.slice et) w)(E2:∀w,(sizeOf et).run P w=.ok k w)(a:o.op=.slice T x none (some y) none:=by exact rfl)
  (hx:opA env x=.osl b 0 l.length k:=by exact rfl)(hy:opA env y=.int .i64 i:=by exact rfl):OpV P o env H (.osl b 0 l'.length k):=by
 obtain⟨e,d,_,f⟩:=slc0 h;have:=QdM (H:=H) E1 E2 a hx (.inl ⟨rfl,rfl⟩) (by grind) (XP _) d
 grind
theorem Qga{c:Call}{z:Value}(h:slc l 0 i=some l')(j:P.underlying T=some (.slice et))(m:∀w,(zeroValue et).run P w=.ok z w)(a:z.cells.size=k)(d:∀v∈z.cells,Qu v)(f:o.op=.call c:=by exact rfl)(hc:c={callee:=.builtin .clear,args:= #[x],argTypes:= #[T]}:=by exact rfl)
  (hx:opA env x=.osl b (0+i.toNat) (l.length-i.toNat) k:=by exact rfl)(hH:H[b]?=some (.row t k (l.map e)):=by exact rfl):OpH P o env H (.tup []) (H.set b (.row t k (l'.map e))):=by
 obtain⟨p,q,g,n⟩:=slc0 h;refine QdZ j m a d ?_ ?_ f hc hx hH
 .rw[Xs, <- g,List.map_take]
 grind
end
open Go.Sort Go.Proofs Go.Shelf
theorem QeM{ro:Nat->Prop}{σ:Sig}{w:World}:∀{l:List Int} {lv:List Value},RL ro σ w 1 (l.map λx=>[A.int .i64 x]) lv->∃rest,lv=l.map (Value.int .i64)++rest
 |[],lv,_=>⟨lv,rfl⟩
 |x::l,lv,h=>by
  obtain⟨l1,l2,rfl,h1,⟨h2,h3⟩,h4⟩:=h;obtain⟨rest,rfl⟩:=QeM h4;obtain⟨v,r,rfl,hv,hr⟩:=h2;cases(show r=[]from hr);exact⟨rest,by rw[show v=.int .i64 x from hv];simp⟩
section
variable {P:Program} {o:Oper} {env:Env} {H:Qc} {α:Type} {e:α->List A} {T et k b t:Nat} {x y:Operand}
theorem Qem{lo hi:Option Operand}{l r:List α}{a c:Int}(h:slc l a c=some r)(E1:∀w,(underlying T).run P w=.ok (.slice et) w)(E2:∀w,(sizeOf et).run P w=.ok k w)
  (f:lo=none/\a=0\/ ∃y,lo=some y/\opA env y=.int .i64 a)(e:hi=none/\c=l.length\/ ∃y,hi=some y/\opA env y=.int .i64 c)
  (d:o.op=.slice T x lo hi none:=by exact rfl)(hx:opA env x=.osl b 0 l.length k:=by exact rfl):OpV P o env H (.osl b (0+a.toNat) (c.toNat-a.toNat) k):=by
 obtain⟨i,g,j,_⟩:=Qda h;refine QdM E1 E2 d hx ?_ ?_ (by omega) (by omega)
 .grind
 grind
end
end Go.Sw
namespace Go.Sw
inductive Bx where
 |mk (a:A)
def lkB:Env->Nat->Bx
 |[],_=>.mk .any
 |(d,a)::r,s=>bif Nat.beq s d then .mk a else lkB r s
theorem QfQ:∀{env:Env} {s:Nat} {a:A},lkB env s=.mk a->lk env s=a
 |[],s,a,h=>by cases h;rfl
 |(d,b)::r,s,a,h=>by
  unfold lkB at h;unfold lk;cases q:Nat.beq s d with
  |true=>grind
  |false=>rw[q]at h;exact QfQ h
inductive FBy where
 |mk (l:List UInt8)
def fby:List UInt8->FBy
 |[]=>.mk []
 |a::r=>match fby r with
  |.mk r'=>.mk (a::r')
theorem Qic:∀l,fby l=.mk l
 |[]=>rfl
 |a::r=>by unfold fby;rw[Qic r]
def opB(env:Env):Operand->Bx
 |.tmp t=>lkB env t
 |.const (.bool b)=>.mk (.bool b)
 |.const (.int k n)=>.mk (.int k n)
 |.const (.string s)=>match fby s.data.toList with
  |.mk l=>.mk (.str l)
 |.const (.pointer none)=>.mk .nilp
 |.const (.slice none 0 0)=>.mk .nils
 |.const (.map none)=>.mk .nilm
 |.const .nilFunc=>.mk .nilf
 |.const .nilIface=>.mk .nilif
 |.func f=>.mk (.fn (.func f) [] [])
 |_=>.mk .any
theorem QE{env:Env}{x:Operand}{a:A}(h:opB env x=.mk a):opA env x=a:=by
 cases x with
 |tmp t=>exact QfQ h
 |const v=>
  cases v with
  |slice b n k=>cases b with
   |none=>cases n with
    |zero=>cases k<;>(cases h;rfl)
    |succ n=>cases h;rfl
   |some b=>cases h;rfl
  |pointer p=>cases p<;>(cases h;rfl)
  |map p=>cases p<;>(cases h;rfl)
  |string s=>
   have d:(match fby s.data.toList with|.mk l=>Bx.mk (.str l))=.mk a:=h;rw[Qic]at d;cases d;rfl
  |_=>cases h;rfl
 |global g=>cases h;rfl
 |func f=>cases h;rfl
def Yw{α:Type}:List α->Nat->Option α
 |[],_=>none
 |a::_,0=>some a
 |_::r,n+1=>Yw r n
theorem Qat{α:Type}:∀(l:List α) (n:Nat),Yw l n=l[n]?
 |[],n=>by simp[Yw]
 |a::r,0=>rfl
 |a::r,n+1=>by simp[Yw,Qat r n]
def arB:BinOp->IntKind->Int->Int->Option A
 |.add,k,m,n=>some (.int k (k.wrap (m+n)))
 |.sub,k,m,n=>some (.int k (k.wrap (m-n)))
 |.mul,k,m,n=>some (.int k (k.wrap (m*n)))
 |.eql,_,m,n=>some (.bool (m==n))
 |.neq,_,m,n=>some (.bool (m != n))
 |.lss,_,m,n=>some (.bool (decide (m<n)))
 |.leq,_,m,n=>some (.bool (decide (m<=n)))
 |.gtr,_,m,n=>some (.bool (decide (n<m)))
 |.geq,_,m,n=>some (.bool (decide (n<=m)))
 |_,_,_,_=>none
def srB:BinOp->List UInt8->List UInt8->Option A
 |.eql,p,q=>some (.bool (p==q))
 |.neq,p,q=>some (.bool (p != q))
 |.lss,p,q=>some (.bool (Op.bytesLess p q))
 |_,_,_=>none
def biB(b:BinOp):Bx->Bx->Option A
 |.mk (.int k m),.mk (.int k' n)=>if k=k' then arB b k m n else none
 |.mk (.str p),.mk (.str q)=>srB b p q
 |_,_=>none
def unB:UnOp->Bx->Option A
 |.not,.mk (.bool b)=>some (.bool !b)
 |.neg,.mk (.int k n)=>some (.int k (k.wrap (0-n)))
 |_,_=>none
def exB:Bx->Nat->Option A
 |.mk (.tup vs),i=>Yw vs i
 |_,_=>none
def nlB:Bx->Option A
 |.mk (.ptr i j)=>some (.ptr i j)
 |.mk (.rp cs)=>some (.rp cs)
 |_=>none
def piB:Bx->Bx->Bx->Option A
 |.mk (.bool true),.mk a,_=>some a
 |.mk (.bool false),_,.mk a=>some a
 |_,_,_=>none
def svB(env:Env):Op->Option A
 |.move x=>match opB env x with|.mk a=>some a
 |.assign x=>match opB env x with|.mk a=>some a
 |.nilCheck x=>nlB (opB env x)
 |.extract x i=>exB (opB env x) i
 |.unOp u _ x=>unB u (opB env x)
 |.pick c x y=>piB (opB env c) (opB env x) (opB env y)
 |.binOp b _ x y _=>biB b (opB env x) (opB env y)
 |_=>none
def pr(d:Nat):Option A->Option (Nat×A)
 |some a=>some (d,a)
 |none=>none
def stB(o:Oper)(env:Env):Option (Nat×A):=
 match o.dst with
 |some d=>pr d (svB env o.op)
 |none=>none
section
variable {P:Program} {h0 N:Nat} {all:Array Oper} {o:Oper} {l:List Oper} {env:Env} {H H':Qc} {Q:Qx} {d:Nat} {x:A}
theorem Qbc{p:Op}(g:o.op=p)(h:svB env p=some x):OpV P o env H x:=by
 unfold svB at h;split at h
 .rename_i y;cases q:opB env y with|mk a=>simp_all[OpV.move,QE]
 .rename_i y;cases q:opB env y with|mk a=>simp_all[OpV.assign,QE]
 .rename_i y;unfold nlB at h;split at h
  .rename_i i j q;cases h;exact QdJ g (QE q) rfl
  .rename_i w q;cases h;exact QdJ g (QE q) rfl
  .cases h
 .rename_i y i;unfold exB at h
  grind[Qat,OpV.extract,QE]
 .rename_i u t y;unfold unB at h
  grind[OpV.not,QE,OpV.neg]
 .rename_i c y z;unfold piB at h;split at h
  .rename_i a _ f d;cases h;exact OpV.pick g (QE f) (by rw[Vm rfl];exact QE d)
  .rename_i a f d;cases h;exact OpV.pick g (QE f) (by exact QE d)
  .cases h
 .rename_i b t y z u;unfold biB at h;split at h
  .rename_i k m s n f d;split at h
   .rename_i e;subst e;have l:=QE f;have r:=QE d;unfold arB at h
    grind[OpV.add,OpV.sub,OpV.mul,OpV.eql,OpV.neq,OpV.lss,OpV.leq,OpV.gtr,OpV.geq]
   .cases h
  .rename_i p q f d;have l:=QE f;have r:=QE d;unfold srB at h
   grind[Qhn,Qhk,Qhl]
  .cases h
 .cases h
theorem QhO(h:stB o env=some (d,x)):o.dst=some d/\OpV P o env H x:=by
 unfold stB at h;split at h
 .rename_i f q;cases e:svB env o.op with
  |none=>rw[e]at h;cases h
  |some a=>rw[e]at h;cases h;exact⟨q,Qbc rfl e⟩
 .cases h
theorem S(e:stB o env=some (d,x))(k:WO P h0 N all l (up env d x) H Q)(hg:Qs all o env true:=by exact rfl)(hN:Nat.blt d N=true:=by exact rfl):WO P h0 N all (o::l) env H Q:=
 Yr hg (QhO (P:=P) (H:=H) e).1 hN (QhO e).2 k
theorem K(hg:Qs all o env false)(a:o.dst=some d)(k:WO P h0 N all l (up env d (.tup [])) H Q)(e:Nat.blt d N=true:=by exact rfl):WO P h0 N all (o::l) env H Q:=
 WO.skip hg a e k
def p2B(v:Bool):Bx->Bx->Bx->Option (Bool×A)
 |.mk (.bool b),.mk a,.mk a'=>match v with|true=>some (b,a)|false=>some (b,a')
 |_,_,_=>none
def pr2(d:Nat):Option (Bool×A)->Option (Nat×Bool×A)
 |some a=>some (d,a)
 |none=>none
def pkB(v:Bool)(o:Oper)(env:Env):Option (Nat×Bool×A):=
 match o.dst,o.op with
 |some d,.pick c x y=>pr2 d (p2B v (opB env c) (opB env x) (opB env y))
 |_,_=>none
theorem QjN{v b:Bool}{p q r:Bx}(h:p2B v p q r=some (b,x)):∃a a',p=.mk (.bool b)/\q=.mk a/\r=.mk a'/\(bif v then a else a')=x:=by
 obtain⟨p⟩:=p;obtain⟨q⟩:=q;obtain⟨r⟩:=r;cases p<;>first|(cases h)|skip
 cases v<;>cases h<;>exact(by simp)
theorem QhW{v b:Bool}(h:pkB v o env=some (d,b,x))(k:b=v):o.dst=some d/\OpV P o env H x:=by
 unfold pkB at h;split at h
 .rename_i l c y z i n;cases e:p2B v (opB env c) (opB env y) (opB env z)with
  |none=>rw[e]at h;cases h
  |some s=>
   rw[e]at h;cases h;obtain⟨a,p,j,g,f,m⟩:=QjN e
   grind[OpV.pick,QE]
 .cases h
theorem Pk{v b:Bool}(a:b=v)(e:pkB v o env=some (d,b,x))(k:WO P h0 N all l (up env d x) H Q)(hg:Qs all o env true:=by exact rfl)(hN:Nat.blt d N=true:=by exact rfl):WO P h0 N all (o::l) env H Q:=
 Yr hg (QhW (P:=P) (H:=H) e a).1 hN (QhW e a).2 k
def fpB(o:Oper)(env:Env):Option (Nat×Nat×Nat×Nat×Nat):=
 match o.dst,o.op with
 |some d,.fieldAddr T x f=>match opB env x with
  |.mk (.ptr i p)=>some (d,T,f,i,p)
  |_=>none
 |_,_=>none
theorem QeA{T f off n i p:Nat}(a:Yb P T f off n)(h:fpB o env=some (d,T,f,i,p)):o.dst=some d/\OpV P o env H (.ptr i (p+off)):=by
 grind[fpB,QbO,QE]
theorem Fp{T f off n i p:Nat}(a:Yb P T f off n)(e:fpB o env=some (d,T,f,i,p))(k:WO P h0 N all l (up env d (.ptr i (p+off))) H Q)(hg:Qs all o env true:=by exact rfl)(hN:Nat.blt d N=true:=by exact rfl):WO P h0 N all (o::l) env H Q:=
 Yr hg (QeA (H:=H) a e).1 hN (QeA a e).2 k
theorem Fpg{T f off n i p:Nat}(hg:Qs all o env true)(a:Yb P T f off n)(e:fpB o env=some (d,T,f,i,p))(k:WO P h0 N all l (up env d (.ptr i (p+off))) H Q)(g:Nat.blt d N=true:=by exact rfl):WO P h0 N all (o::l) env H Q:=
 Yr hg (QeA (H:=H) a e).1 g (QeA a e).2 k
inductive Lx where
 |mk (l:List A)
def Qfn:Nat->List A->Lx
 |0,l=>.mk l
 |n+1,_::r=>Qfn n r
 |_+1,[]=>.mk []
theorem Qdw:∀{n:Nat} {l r:List A},Qfn n l=.mk r->l.drop n=r
 |0,l,r,h=>by cases h;rfl
 |n+1,a::l,r,h=>by rw[List.drop_succ_cons];exact Qdw h
 |n+1,[],r,h=>by cases h;rfl
def ctB:Option Blk->Nat->Option A
 |some (.cells _ cs),off=>Yw cs off
 |_,_=>none
def lvB(H:Qc):Bx->Option A
 |.mk (.ptr i off)=>ctB (Yw H i) off
 |.mk (.rp (a::_))=>some a
 |_=>none
def pr3(d t:Nat):Option A->Option (Nat×Nat×A)
 |some a=>some (d,t,a)
 |none=>none
def ldB(o:Oper)(env:Env)(H:Qc):Option (Nat×Nat×A):=
 match o.dst,o.op with
 |some d,.load t x=>pr3 d t (lvB H (opB env x))
 |_,_=>none
theorem Qev{t:Nat}(k:∀w,(isAgg t).run P w=.ok false w)(h:ldB o env H=some (d,t,x)):o.dst=some d/\OpV P o env H x:=by
 unfold ldB at h;split at h
 .rename_i s q y m l;cases e:lvB H (opB env y)with
  |none=>rw[e]at h;cases h
  |some a=>
   rw[e]at h;cases h;refine⟨m,?_⟩;unfold lvB at e;split at e
   .rename_i i f j;unfold ctB at e;split at e
    .rename_i f u T0 T cs q4;rw[Qat]at e q4;obtain⟨g,n⟩:∃g,cs.drop f=x::g:=by
      have p:=(XG.1 e).1
      simp_all[Xm]
     exact OpV.load l k (QE j) (Pts.cells q4 n)
    .cases e
   .rename_i a r j;cases e;exact OpV.load l k (QE j) Pts.rp
   .cases e
 .cases h
theorem Ld{t:Nat}(a:∀w,(isAgg t).run P w=.ok false w)(e:ldB o env H=some (d,t,x))(k:WO P h0 N all l (up env d x) H Q)(hg:Qs all o env true:=by exact rfl)(hN:Nat.blt d N=true:=by exact rfl):WO P h0 N all (o::l) env H Q:=
 Yr hg (Qev a e).1 hN (Qev a e).2 k
theorem Ldg{t:Nat}(hg:Qs all o env true)(a:∀w,(isAgg t).run P w=.ok false w)(e:ldB o env H=some (d,t,x))(k:WO P h0 N all l (up env d x) H Q)(f:Nat.blt d N=true:=by exact rfl):WO P h0 N all (o::l) env H Q:=
 Yr hg (Qev a e).1 f (Qev a e).2 k
def ixB(o:Oper)(env:Env):Option (Nat×Nat×Nat×List (List A)×IntKind×Int):=
 match o.dst,o.op with
 |some d,.indexAddr t x y=>match opB env x,opB env y with
  |.mk (.rsl k es),.mk (.int kk i)=>some (d,t,k,es,kk,i)
  |_,_=>none
 |_,_=>none
theorem Ix{α:Type}{e:α->List A}{t a k:Nat}{L:List α}{p:IntKind}{i:Int}{v:α}(h:idx L i=some v)(m:∀w,(underlying t).run P w=.ok (.slice a) w)(n:∀w,(sizeOf a).run P w=.ok k w)
  (q:ixB o env=some (d,t,k,L.map e,p,i))(k:WO P h0 N all l (up env d (.rp (e v))) H Q)(hg:Qs all o env true:=by exact rfl)(hN:Nat.blt d N=true:=by exact rfl):WO P h0 N all (o::l) env H Q:=by
 unfold ixB at q;split at q
 .rename_i j s;split at q
  .rename_i r f;simp[Option.some.injEq,Prod.mk.injEq]at q;obtain⟨rfl,rfl,rfl,g,rfl,rfl⟩:=q;exact Yr hg j hN (Qc2 h m n s (by rw[QE r,g]) (QE f)) k
  .cases q
 .cases q
def lnB(o:Oper)(env:Env):Option (Nat×Nat×Bx):=
 match o.dst,o.op with
 |some d,.call c=>match c with
  |{callee:=.builtin .len,args:=⟨[x]⟩,argTypes:=⟨[t]⟩}=>some (d,t,opB env x)
  |_=>none
 |_,_=>none
theorem QjU{t:Nat}{b:Bx}(q:lnB o env=some (d,t,b)):∃x,o.dst=some d/\o.op=.call {callee:=.builtin .len,args:= #[x],argTypes:= #[t]}/\opB env x=b:=by
 unfold lnB at q
 grind
theorem LnM{α:Type}{e:α->List A}{t h k:Nat}{L:List α}(a:∀w,(underlying t).run P w=.ok (.slice h) w)(q:lnB o env=some (d,t,.mk (.rsl k (L.map e))))
  (k:WO P h0 N all l (up env d (.int .i64 L.length)) H Q)(hg:Qs all o env true:=by exact rfl)(hN:Nat.blt d N=true:=by exact rfl):WO P h0 N all (o::l) env H Q:=by
 obtain⟨x,i,g,f⟩:=QjU q;exact Yr hg i hN (QfC a g rfl (QE f)) k
end
section
variable {P:Program} {h0 N:Nat} {all:Array Oper} {env env':Env} {H H':Qc} {Q:Qx} {c c':Code}
theorem Oi{α:Type}{x y:α}(h:some x=some y):x=y:=XU h
theorem Bd{α β:Type}{x:Option α}{f:α->Option β}{r:β}{G:Prop}(h:x.bind f=some r)(k:∀a,x=some a->f a=some r->G):G:=by
 obtain⟨a,e,d⟩:=Q5 h
 grind
theorem If{α:Type}{c:Bool}{x y:Option α}{r:α}{G:Prop}(h:(bif c then x else y)=some r)(t:c=true->x=some r->G)(e:c=false->y=some r->G):G:=by
 grind
theorem Cn{α:Type}{x:Operand}{t:Bool}{p q:Option α}{r:α}(hx:opB env x=.mk (.bool t))(h:(bif t then p else q)=some r)(ht:t=true->p=some r->TC P h0 N c env H Q)(hf:t=false->q=some r->TC P h0 N c' env H Q):TC P h0 N (.cond x c c') env H Q:=
 TC.cond (QE hx) (by grind) (by grind)
theorem Ys{α:Type}{x:Operand}{t:Bool}{p q:Option α}{r:α}(hx:opB env x=.mk (.bool t))(h:(bif t then p else q)=some r)(hf:t=false->q=some r->TC P h0 N c' env H Q)(ht:t=true->p=some r->TC P h0 N c env H Q):TC P h0 N (.cond x c c') env H Q:=
 TC.cond (QE hx) (by grind) (by grind)
theorem Lr(π:List Nat)(a:π.take h0=List.range h0:=by exact rfl)(hH:π.map (λp=>H[p]?)=(H'.map (QM (rho π H.length))).map some:=by exact rfl)(hπ:π.Nodup:=by decide)
  (hE:Qbq (rho π H.length) env env':=by(repeat' (first|exact trivial|refine⟨rfl,?_⟩))):Le h0 env H env' H':=Qka π a hH hπ hE
end
def Ev{α:Type}(f:Nat->Option α)(v:α):Prop:=∃N,∀n,N<=n->f n=some v
section
variable {α β:Type} {f g:Nat->Option α} {v w:α}
theorem Qk(v:α):Ev (λ_=>some v) v:=⟨0,λ_ _=>rfl⟩
theorem Ev.const{o:Option α}(h:o=some v):Ev (λ_=>o) v:=⟨0,λ_ _=>h⟩
theorem Ev.bind{k:Nat->α->Option β}{b:β}(h:Ev f v)(a:Ev (λn=>k n v) b):Ev (λn=>(f n).bind (k n)) b:=by
 obtain⟨N,h⟩:=h;obtain⟨M,a⟩:=a;exact⟨max N M,λn d=>by grind⟩
theorem Ev.bif{c:Bool}(d:c=true->Ev f v)(a:c=false->Ev g w):Ev (λn=>bif c then f n else g n) (bif c then v else w):=by
 cases c with
 |true=>exact d rfl
 |false=>exact a rfl
theorem QjE(h:Ev f v):Ev (λn=>bif true then f n else g n) v:=h
theorem QgM(h:Ev g v):Ev (λn=>bif false then f n else g n) v:=h
theorem Ev.and{c d:Bool}{h:Nat->Option Bool}(a:c=true->Ev h d):Ev (λn=>bif c then h n else some false) (c&&d):=by
 cases c with
 |true=>exact a rfl
 |false=>exact Qk _
theorem QdS{c d:Bool}{h:Nat->Option Bool}(a:c=false->Ev h d):Ev (λn=>bif c then some true else h n) (c||d):=by
 cases c with
 |true=>exact Qk _
 |false=>exact a rfl
theorem Ev.eq(h:Ev f v)(e:v=w):Ev f w:=e▸h
theorem QdT(h:Ev f v)(e:∀n,g n=f n):Ev g v:=by
 obtain⟨N,h⟩:=h;exact⟨N,λn a=>by grind⟩
theorem Ev.succ(h:Ev (λn=>f (n+1)) v):Ev f v:=by
 obtain⟨N,h⟩:=h;refine⟨N+1,λn a=>?_⟩;obtain⟨m,rfl⟩:∃m,n=m+1:=⟨n-1,by omega⟩
 grind
theorem Ev.ex(h:Ev f v):∃n,f n=some v:=let⟨N,h⟩:=h;⟨N,h N (XO _)⟩
theorem Ev.all{k:Nat}{F:Nat->Nat->Option α}{V:Nat->α}(h:∀i,i<k->Ev (F i) (V i)):∃N,∀n,N<=n->∀i,i<k->F i n=some (V i):=by
 induction k with
 |zero=>simp
 |succ k a=>
  obtain⟨N,f⟩:=a (by grind);obtain⟨M,e⟩:=h k (by omega);refine⟨max N M,λn g i d=>?_⟩
  grind
end
section
variable {S B α:Type} {step:Nat->S->Option (Ctl S B)}
theorem Ev.iter{d:S}(a:Nat->S)(k:Nat){b:B}(f:a 0=d)(h:∀i,i<k->Ev (λn=>step n (a i)) (.cont (a (i+1))))(e:Ev (λn=>step n (a k)) (.done b)):
  Ev (λn=>Go.Sw.iter (step n) n d) b:=by
 obtain⟨N,j⟩:=Ev.all h;obtain⟨M,g⟩:=e;exact⟨max (max N M) (k+1),λn l=>Qh3 d a b k f (by grind) (g n (by omega)) n (by omega)⟩
structure At (l:List α) (i:Nat) (x:α):Prop where
 get:l[i]?=some x
 lt:decide ((i:Int)<(l.length:Int))=true
 ix:idx l (i:Int)=some x
 nx:IntKind.i64.wrap ((i:Int)+1)=((i+1:Nat):Int)
theorem QbS{l:List α}{i:Nat}{x:α}(a:l.length<=4611686018427387904)(h:l[i]?=some x):At l i x:=by
 have d:=(XG.1 h).1;exact⟨h,(by grind),QcZ h,Qb9 (by omega)⟩
theorem At.mem{l:List α}{i:Nat}{x:α}(h:At l i x):x∈l:=Vw h.get
theorem At.lt'{l:List α}{i:Nat}{x:α}(h:At l i x):i<l.length:=(XG.1 h.get).1
theorem At.take{l:List α}{i:Nat}{x:α}(h:At l i x):l.take (i+1)=l.take i++[x]:=by
 rw[List.take_add_one,h.get];rfl
theorem end_(l:List α):decide ((l.length:Int)<(l.length:Int))=false:=(by simp)
theorem QeU{β:Type}{j:S}(l:List α)(g:β->α->β)(d:β)(f:β->Nat->S)(e:β->B)(k:l.length<=4611686018427387904)(r:f d 0=j)
  (p:∀i x a,At l i x->a=(l.take i).foldl g d->Ev (λn=>step n (f a i)) (.cont (f (g a x) (i+1))))
  (q:Ev (λn=>step n (f (l.foldl g d) l.length)) (.done (e (l.foldl g d)))):Ev (λn=>Go.Sw.iter (step n) n j) (e (l.foldl g d)):=by
 refine Ev.iter (λi=>f ((l.take i).foldl g d) i) l.length (by grind) (λi m=>?_) (by grind);have h:=QbS k (XF m);have:=p i _ _ h rfl;rw[h.take,List.foldl_append];exact this
theorem Ev.contains(l:List α)(q:α->Bool)(g:Nat->α->Option Bool)(d:l.length<=4611686018427387904)(hg:∀x∈l,Ev (λn=>g n x) (q x)):
  Ev (λn=>(((Go.Sw.iter (λs:Int=>bif decide (s<(l.length:Int))then(idx l s).bind λx=>(g n x).bind λr=>(bif r then some (Ctl.done (Ctl.done s))else some (Ctl.cont (IntKind.i64.wrap (s+1))))else some (Ctl.done (Ctl.cont ()))) n (0:Int):Option (Ctl Unit Int)).bind λb=>
   match b with
   |.cont _=>some (-1)
   |.done s=>some s):Option Int).bind λr=>some (decide (0<=r))) (l.any q):=by
 cases e:l.any q with
 |false=>
  refine Ev.bind (v:=(-1:Int)) (Ev.bind (v:=Ctl.cont ()) (Ev.iter (λi=>(i:Int)) l.length rfl (λi u=>?_) ?_) (Qk _)) (Qk _)
  .have a:=QbS (x:=l[i]) d (XF u);simp only[a.lt,Vi,a.ix,XE];have w:q l[i]=false:=by
    grind
   refine Ev.bind ((hg _ a.mem).eq w) ?_;simp only[Vj,a.nx];exact Qk _
  simp_all[Qk]
 |true=>
  obtain⟨x,z,h⟩:=Xq.1 e;have f:∀k,k<=l.length->(∀(i:Nat) (x:α),l[i]?=some x->i<k->q x=false)\/ ∃(i:Nat) (x:α),l[i]?=some x/\i<k/\q x=true/\ ∀(j:Nat) (y:α),l[j]?=some y->j<i->q y=false:=by
   intro k
   induction k with
   |zero=>simp
   |succ k E=>
    grind
  rcases f l.length (XO _)with F|⟨i,x,B,G,t,p⟩
  .obtain⟨j,m,rfl⟩:=List.getElem_of_mem z
   grind
  .refine Ev.bind (v:=(i:Int)) (Ev.bind (v:=Ctl.done (i:Int)) (Ev.iter (λi=>(i:Int)) i rfl (λj m=>?_) ?_) (Qk _)) ?_
   .have a:=QbS (x:=l[j]) d (XF (by omega));simp only[a.lt,Vi,a.ix,XE];refine Ev.bind ((hg _ a.mem).eq (p j _ a.get m)) ?_;simp only[Vj,a.nx];exact Qk _
   .have a:=QbS d B;simp only[a.lt,Vi,a.ix,XE];refine Ev.bind ((hg _ a.mem).eq t) ?_;exact Qk _
   simp_all[Qk]
end
section
variable {S B α:Type} {step:Nat->S->Option (Ctl S B)}
theorem At.drop{l:List α}{i:Nat}{x:α}(h:At l i x):l.drop i=x::l.drop (i+1):=by
 have:=h.lt';rw[Xm this,(XG.1 h.get).2]
end
section
variable {α β:Type} [DecidableEq α]
end
def EvI{S B:Type}(step:Nat->S->Option (Ctl S B))(s:S)(b:B):Prop:=∃N,∀n k,N<=n->N<=k->Go.Sw.iter (step n) k s=some b
section
variable {S B:Type} {step:Nat->S->Option (Ctl S B)} {s s':S} {b:B}
theorem EvI.done(h:Ev (λn=>step n s) (.done b)):EvI step s b:=by
 obtain⟨N,h⟩:=h;refine⟨N+1,λn k d e=>?_⟩;obtain⟨a,rfl⟩:∃a,k=a+1:=⟨k-1,by omega⟩
 grind[Go.Sw.iter]
theorem EvI.cont(h:Ev (λn=>step n s) (.cont s'))(q:EvI step s' b):EvI step s b:=by
 obtain⟨N,h⟩:=h;obtain⟨M,q⟩:=q;refine⟨max N M+1,λn k d e=>?_⟩;obtain⟨a,rfl⟩:∃a,k=a+1:=⟨k-1,by omega⟩
 grind[Go.Sw.iter]
theorem EvI.ev(h:EvI step s b):Ev (λn=>Go.Sw.iter (step n) n s) b:=by
 obtain⟨N,h⟩:=h;exact⟨N,λn a=>h n n a a⟩
theorem EvI.eq{b':B}(h:EvI step s b)(e:b=b'):EvI step s b':=e▸h
end
theorem Yx{α:Type}{l r:List α}{i:Nat}{x:α}(a:l.length<=4611686018427387904)(h:l.drop i=x::r):At l i x/\l.drop (i+1)=r:=by
 have d:l[i]?=some x:=by
  have:=congrArg (λl=>l[0]?) h
  grind
 refine⟨QbS a d,?_⟩;have:=(QbS a d).drop
 grind
theorem Qbm{α:Type}{l:List α}{i:Nat}(h:l.drop i=[])(hi:i<=l.length):decide ((i:Int)<(l.length:Int))=false:=by
 simp_all
theorem Z.{u}{α:Sort u}{a:α}:a=a:=rfl
section
variable {P:Program} {h0 N:Nat} {all:Array Oper} {env:Env} {H H':Qc} {Q:Qx} {l:List Oper} {o:Oper} {d:Nat}
theorem aV(x:A)(H:Qc){x':A}{H':Qc}(a:x'=x)(e:H'=H)(k:WO P h0 N all l (up env d x) H Q):WO P h0 N all l (up env d x') H' Q:=by subst a;subst e;exact k
theorem vX(x:A)(a:OpV P o env H x)(k:WO P h0 N all l (up env d x) H Q)(hg:Qs all o env true:=by exact rfl)(hd:o.dst=some d:=by exact rfl)(hN:Nat.blt d N=true:=by exact rfl):WO P h0 N all (o::l) env H Q:=
 Yr hg hd hN a k
theorem Wp:WO P h0 N all [] env H (YC env H):=WO.nil YC.mk
end
section
variable {P:Program} {o:Oper} {env:Env} {H:Qc}
theorem Qju{ro:Nat->Prop}{σ:Sig}{w:World}(g:GP w){b:Nat}{zs:List Int}(h:QfT[b]?=some zs):∀(i:Nat),CR ro σ w b ((zs.drop i).map (A.int .i64)) i:=by
 intro i;generalize hl:zs.drop i=l
 induction l generalizing i with
 |nil=>trivial
 |cons z l e=>
  have d:zs[i]?=some z:=by
   have:=congrArg (·[0]?) hl
   grind
  have a:zs.drop (i+1)=l:=by
   rw[<- List.drop_drop,hl];rfl
  exact⟨⟨_,g.tab b zs h i z d,by simp[Qu],rfl⟩,e (i+1) a⟩
theorem Qel{t n g:Nat}{zs:List Int}(h:∀w,(isAgg t).run P w=.ok true w)(i:∀w,(sizeOf t).run P w=.ok n w)(hg:QfT[g]?=some zs)(f:zs.length=n)(e:o.op=.load t (.global g):=by exact rfl):
  OpV P o env H (.agg (zs.map (A.int .i64))):=by
 intro k ro σ N a w r;obtain⟨l,d,_,j⟩:=Yk (P:=P) 0 (by simpa using Qju (ro:=ro) (σ:=σ) r.sim.roOk.gp hg 0);refine⟨.agg l.toArray,?_,l,rfl,d⟩;have m:a.eval (.global g)=.pointer (some ⟨g,0,none⟩):=rfl
 simp_all[execOp,Instr.loadAt,Instr.sureAddr,loadVar,loadCells]
end
open Go.Proofs
section
variable {P:Program}
def toV(agg:Bool)(l:List Value):Value:=bif agg then .agg l.toArray else l.headD .nilFunc
structure QeV (P:Program) (t:TypeId) (h k:Nat) (agg:Bool) (ok:List Value->Prop):Prop where
 len:∀l,ok l->l.length=k
 ia:∀w,(isAgg t).run P w=.ok agg w
 so:∀w,(sizeOf t).run P w=.ok k w
 eq:∀(w:World) (d:Nat) (l m:List Value),ok l->ok m->∃b:Bool,(Op.equalIn (d+h) t (toV agg l) (toV agg m)).run P w=.ok b w/\(b=true↔l=m)
structure Qge (P:Program) (fs:List Field) (h off k:Nat) (ok:List Value->Prop):Prop where
 len:∀l,ok l->l.length=k
 eq:∀(w:World) (d:Nat) (p q l m:List Value),p.length=off->q.length=off->ok l->ok m->∃b:Bool,(Op.eqFields (d+h) (p++l).toArray (q++m).toArray fs).run P w=.ok b w/\(b=true↔l=m)
theorem QeV.int{t:TypeId}{k:IntKind}(e:P.underlying t=some (.int k))(f:∀w,(isAgg t).run P w=.ok false w)(a:∀w,(sizeOf t).run P w=.ok 1 w)(h:Nat):QeV P t (h+1) 1 false (λl=>∃n:Int,l=[.int k n]):=by
 refine⟨?_,f,a,?_⟩
 .simp
 .rintro w d _ _ ⟨n,rfl⟩ ⟨m,rfl⟩;exact⟨_,run_equalIn_int w (d+h) t k k n m e,by simp⟩
theorem QeV.bool{t:TypeId}(e:P.underlying t=some .bool)(f:∀w,(isAgg t).run P w=.ok false w)(a:∀w,(sizeOf t).run P w=.ok 1 w)(h:Nat):QeV P t (h+1) 1 false (λl=>∃n:Bool,l=[.bool n]):=by
 refine⟨?_,f,a,?_⟩
 .simp
 .rintro w d _ _ ⟨n,rfl⟩ ⟨m,rfl⟩;exact⟨_,run_equalIn_bool' w (d+h) t n m e,by simp⟩
theorem Qge.nil(h a:Nat):Qge P [] h a 0 (λl=>l=[]):=by
 refine⟨?_,?_⟩
 .simp
 simp_all[Op.eqFields]
theorem Qfa{t:TypeId}{k:Nat}{agg:Bool}{w:World}(e:∀w,(isAgg t).run P w=.ok agg w)(h:∀w,(sizeOf t).run P w=.ok k w)(p a g:List Value)(d:a.length=k)(f:agg=false->k=1):
  (part t (p++(a++g)).toArray p.length).run P w=.ok (toV agg a) w:=by
 unfold part;cases agg with
 |true=>
  simp_all[toV]
 |false=>
  have:=f rfl;subst this
  match a,d with
  |[v],_=>simp[e,toV]
theorem Qge.cons{f:Field}{fs:List Field}{h i n x:Nat}{agg:Bool}{j k:List Value->Prop}(W:Nat.beq f.offset i=true)(V:f.name≠"_")(g:QeV P f.type h n agg j)(u:agg=false->n=1)(J:Qge P fs h (i+n) x k):
  Qge P (f::fs) h i (n+x) (λl=>∃l1 l2,l=l1++l2/\j l1/\k l2):=by
 have t:f.offset=i:=(by simp_all);refine⟨?_,?_⟩
 .rintro _ ⟨l1,l2,rfl,a,b⟩;rw[XX,g.len _ a,J.len _ b]
 .rintro w d p q _ _ E y ⟨l1,l2,rfl,s,M⟩ ⟨r,G,rfl,m,R⟩;have B:=Qfa (w:=w) g.ia g.so p l1 l2 (g.len _ s) u;have z:=Qfa (w:=w) g.ia g.so q r G (g.len _ m) u;rw[E]at B;rw[y]at z;obtain⟨F,Q,N⟩:=g.eq w d l1 r s m;obtain⟨O,H,L⟩:=J.eq w d (p++l1) (q++r) l2 G (by rw[XX,E,g.len _ s]) (by rw[XX,y,g.len _ m]) M R;rw[Vc,Vc]at H;have T:l1.length=r.length:=by rw[g.len _ s,g.len _ m]
  refine⟨F&&O,?_,?_⟩
  .cases F<;>simp[Op.eqFields,V,t,B,z,Q,H]
  .rw[XR,N,L];constructor
   .grind
   .intro e;exact List.append_inj e T
theorem QeV.struct{t:TypeId}{h k:Nat}{ok:List Value->Prop}(n:P.underlying t=some (.struct (P.fieldsOf t)))(p:P.stoodInHeld t=false)(g:∀w,(isAgg t).run P w=.ok true w)(f:∀w,(sizeOf t).run P w=.ok k w)(e:Qge P (P.fieldsOf t).toList h 0 k ok):QeV P t (h+1) k true ok:=by
 refine⟨e.len,g,f,λw d l m a b=>?_⟩;obtain⟨r,j,i⟩:=e.eq w d [] [] l m rfl rfl a b;refine⟨r,?_,i⟩;show(Op.equalIn (d+h+1) t (.agg l.toArray) (.agg m.toArray)).run P w=_
 grind[run_equalIn_agg]
theorem Qa0{t:TypeId}{h k:Nat}{fs:Array Field}{ok:List Value->Prop}(f:P.underlying t=some (.struct fs))(g:P.stoodInHeld t=false)(e:∀w,(isAgg t).run P w=.ok true w)(d:∀w,(sizeOf t).run P w=.ok k w)(a:Qge P fs.toList h 0 k ok):QeV P t (h+1) k true ok:=by
 grind[Program.fieldsOf,QeV.struct]
structure EqD (P:Program) (t:TypeId) {α:Type} (cells:α->List A):Prop where
 scl:∀x,Qer (cells x)=true
 inj:∀x y,Yv (cells x)=Yv (cells y)->x=y
 guard:P.eqGuardType P.depth t=false
 eq:∀(w:World) x y,∃b:Bool,(Op.equalIn 10000 t (.agg (Yv (cells x)).toArray) (.agg (Yv (cells y)).toArray)).run P w=.ok b w/\(b=true↔Yv (cells x)=Yv (cells y))
theorem QeW{α:Type}{cells:α->List A}{t h k:Nat}{ok:List Value->Prop}(E:QeV P t h k true ok)(e:Nat.ble h 10000=true)(a:∀x,ok (Yv (cells x)))(d:∀x,Qer (cells x)=true)(hi:∀x y,Yv (cells x)=Yv (cells y)->x=y)(hg:P.eqGuardType P.depth t=false):EqD P t cells:=by
 refine⟨d,hi,hg,λw x y=>?_⟩;have:=E.eq w (10000-h) (Yv (cells x)) (Yv (cells y)) (a x) (a y)
 rwa [show 10000-h+h=10000 by simp_all]at this
variable {o:Oper} {env:Env} {H:Qc}
theorem Qcq{α:Type}[DecidableEq α]{cells:α->List A}{t u:TypeId}{x y:Operand}{p q:α}(E:EqD P t cells)(n:opA env x=.agg (cells p))(l:opA env y=.agg (cells q))(k:o.op=.binOp .eql t x y u:=by exact rfl):OpV P o env H (.bool (p==q)):=by
 intro F B σ N a w r;have g:=Ql r x;have h:=Ql r y;rw[n]at g;rw[l]at h;have s:=VR.val (a:=.agg (cells p)) (E.scl p) g;have m:=VR.val (a:=.agg (cells q)) (E.scl q) h;obtain⟨b,i,j⟩:=E.eq w p q;have z:b=(p==q):=by
  rw[XT,j,Vp];exact⟨E.inj p q,λe=>by rw[e]⟩
 refine⟨.bool (p==q),?_,rfl⟩;rw[<- z];generalize a.eval=ρ at*;have f:ρ x=.agg (Yv (cells p)).toArray:=s;have d:ρ y=.agg (Yv (cells q)).toArray:=m;simp[k,f,d,go_sem,run_eqGuard_agg _ _ _ _ _ _ _ E.guard,i]
theorem Qhq{α:Type}[DecidableEq α]{cells:α->List A}{t u:TypeId}{x y:Operand}{p q:α}(E:EqD P t cells)(n:opA env x=.agg (cells p))(l:opA env y=.agg (cells q))(k:o.op=.binOp .neq t x y u:=by exact rfl):OpV P o env H (.bool (p != q)):=by
 intro F B σ N a w r;have g:=Ql r x;have h:=Ql r y;rw[n]at g;rw[l]at h;have s:=VR.val (a:=.agg (cells p)) (E.scl p) g;have m:=VR.val (a:=.agg (cells q)) (E.scl q) h;obtain⟨b,i,j⟩:=E.eq w p q;have z:b=(p==q):=by
  rw[XT,j,Vp];exact⟨E.inj p q,λe=>by rw[e]⟩
 refine⟨.bool (p != q),?_,rfl⟩;rw[bne, <- z];generalize a.eval=ρ at*;have f:ρ x=.agg (Yv (cells p)).toArray:=s;have d:ρ y=.agg (Yv (cells q)).toArray:=m;simp[k,f,d,go_sem,run_eqGuard_agg _ _ _ _ _ _ _ E.guard,i]
end
end Go.Sw
namespace Go.Sw
structure QdF (g g':Nat->Prop) (W W':World):Prop where
 sub:∀b,g b->g' b
 new:∀b,g' b->g b\/W.heap.size<=b
 lt:∀b,g' b->b<W'.heap.size
 all:∀b,W.heap.size<=b->b<W'.heap.size->g' b
 keep:∀b,b<W.heap.size->¬g b->W'.heap[b]?=W.heap[b]?
 size:W.heap.size<=W'.heap.size
 shape:∀b x,W.shape? b=some x->W'.shape? b=some x
 os:W'.os=W.os
 tape:W'.tape=W.tape
 output:W'.output=W.output
 drawn:W.drawn<=W'.drawn
abbrev Jv(T:Type):=List T->(Nat->Prop)->(Nat->Prop)->World->Prop
structure QjG {T:Type} (J:Jv T):Prop where
 ev:∀rem q g W W' ro',J rem q g W->Qi g q W ro' W'->J rem q g W'
 up:∀rem q g g' W,J rem q g W->(∀b,g b->g' b)->(∀b,g' b->b<W.heap.size)->J rem q g' W
theorem Sim.round{fr g g' ro:Nat->Prop}{σ:Sig}{H:Qc}{W W':World}(s:Sim fr ro σ H W)(a:∀b,g b->fr b)(k:QdF g g' W W'):Sim (λb=>fr b\/g' b) ro σ H W'/\Qi (λb=>b<W.heap.size/\ ¬g b) ro W ro W':=by
 have hro:=λb q=>k.keep b (s.roLt b q) (λr=>s.roFr b q (a b r));have l:Ext ro σ W ro σ W':=by
  have ev:Qi (λ_=>False) ro W ro W':=⟨λ_ q=>q,hro,λ_ q=>q.elim,k.size,k.shape,k.os,k.tape,k.output,k.drawn⟩;have:=ev.ext σ []
  grind
 refine⟨⟨s.len,s.roOk.to (λ_ q=>q) hro (λb q=>X9 (s.roLt b q) k.size),λb q=>q.elim (λq=>X9 (s.frLt b q) k.size) (k.lt b),λb q r=>?_,λi b x e f w=>?_,s.inj,λi y x e f=>?_,
  s.hidTo (· = ·) QX k.size (by simp) (λi b x c e f w E=>E.elim id λq=>(k.new c q).elim (a c) λh=>(by have:=(s.hid i b x c e f w).lt;omega)) λj d y m n F=>.inl ⟨j,y,rfl,m,n,id,λc q=>s.hidKeep m n (λz=>k.keep d (s.own j d y m n z).1 λr=>(s.own j d y m n z).2.2 (a d r)) hro q⟩⟩,
  ⟨λ_ q=>q,hro,λb q=>k.keep b q.1 q.2,k.size,k.shape,k.os,k.tape,k.output,k.drawn⟩⟩
 .rcases r with r|r
  .exact s.roFr b q r
  .rcases k.new b r with h|h
   .exact s.roFr b q (a b h)
   .have:=s.roLt b q;omega
 .obtain⟨u,B,p⟩:=s.own i b x e f w;refine⟨X9 u k.size,B,λr=>?_⟩;rcases r with r|r
  .exact p r
  .rcases k.new b r with h|h
   .grind
   .omega
 .refine(s.blk i y x e f).keep l ?_ ?_
  .rintro b rfl t;obtain⟨u,B,p⟩:=s.own i b x e f t;exact k.keep b u (λr=>p (a b r))
  .rintro b c rfl t;have q:=s.hid i b x c e f t;exact k.keep c q.lt (λr=>q.fr (a c r))
def Qj8{T:Type}(J Jx:Jv T)(g ri:Nat->Prop)(W1:World)(rem:List T):Ending->World->Prop:=λe W'=>
 ∃g' q',(∀b,q' b->ri b)/\QdF g g' W1 W'/\((e=.returned (.bool true)/\J rem q' g' W')\/(e=.returned (.bool false)/\Jx rem q' g' W'))
structure Ctx (T:Type) where
 l:Nat
 J:Jv T
 Jx:Jv T
 enc:T->List A
 nx:List T->T->List T->Prop
structure Ctx.ok {T:Type} (X:Ctx T) (P:Program):Prop where
 b:QjG X.J
 bx:QjG X.Jx
 round:∀l x rem q g ri W1 vs,X.nx l x rem->X.J l q g W1->(∀b,q b->ri b)->(∀b,ri b->b<W1.heap.size/\ ¬g b)->LR ri [] W1 (X.enc x) vs->YieldAt Fence.wide 0 P X.l vs.toArray W1 (Qj8 X.J X.Jx g ri W1 rem)
def Qhg{T:Type}(P:Program)(f:FuncId)(caps:List A)(H:Qc)(enc:T->List A)(nx:List T->T->List T->Prop)(xs:List T):Prop:=
 ∀(X:Ctx T),X.enc=enc->X.nx=nx->X.ok P->∀fr ro σ w capv q,Sim fr ro σ H w->(∀b,q b->ro b)->LR ro σ w caps capv->X.J xs q fr w->
  Calls P f ((Value.func (.yield X.l) #[] #[]::capv)).toArray w λe W'=>(∃v,e=.returned v)/\ ∃g q',(∀b,fr b->g b)/\((X.J [] q' g W')\/(∃rem,X.Jx rem q' g W'))
inductive YSt (T:Type) where
 |on (rem:List T)
 |off (rem:List T)
def Ctx.J'{T:Type}(X:Ctx T):YSt T->(Nat->Prop)->(Nat->Prop)->World->Prop
 |.on rem=>X.J rem
 |.off rem=>X.Jx rem
def Ctx.at{T:Type}(X:Ctx T)(st:YSt T)(g ro:Nat->Prop)(W:World):Prop:=∃q,(∀b,q b->ro b)/\X.J' st q g W
theorem Qi.roMono{fr ro ro0 ro':Nat->Prop}{w w':World}(h:Qi fr ro w ro' w')(s:∀b,ro0 b->ro b):Qi fr ro0 w ro' w':=
 ⟨λb q=>h.sub b (s b q),λb q=>h.keepRo b (s b q),h.keepFr,h.size,h.shape,h.os,h.tape,h.output,h.drawn⟩
theorem Ctx.ok.ev{T:Type}{X:Ctx T}{P:Program}(h:X.ok P){f:YSt T}{g ro a:Nat->Prop}{W W':World}(d:X.at f g ro W)(he:Qi g ro W a W'):X.at f g a W':=by
 obtain⟨q,e,d⟩:=d;refine⟨q,λb z=>he.sub b (e b z),?_⟩;cases f with
 |on rem=>exact h.b.ev rem q g W W' a d (he.roMono e)
 |off rem=>exact h.bx.ev rem q g W W' a d (he.roMono e)
theorem Ctx.ok.up{T:Type}{X:Ctx T}{P:Program}(h:X.ok P){d:YSt T}{g g' ro:Nat->Prop}{W:World}(a:X.at d g ro W)(hg:∀b,g b->g' b)(e:∀b,g' b->b<W.heap.size):X.at d g' ro W:=by
 obtain⟨q,f,a⟩:=a;refine⟨q,f,?_⟩;cases d with
 |on rem=>exact h.b.up rem q g g' W a hg e
 |off rem=>exact h.bx.up rem q g g' W a hg e
abbrev Yn(T:Type):=AEx->Env->Qc->YSt T->Prop
structure In (g fr:Nat->Prop) (ds:List Deferred):Prop where
 sub:∀b,g b->fr b
 beside:∀D,({target:=.collected D,args:= #[]}:Deferred)∈ds->¬g D
def Qb5{T:Type}(X:Ctx T)(h0:Nat)(fr ro:Nat->Prop)(σ:Sig)(w:World)(N:Nat)(ds:List Deferred)(Q:Yn T):Exit->Act->World->Prop:=
 λe a' w'=>∃x env' H' st ro' σ' fr' g',ExR e x/\Q x env' H' st/\Rel fr' ro' σ' H' env' N a' w'/\(X.at st g' ro' w'/\In g' fr' a'.defers)/\(∀b,ro b->ro' b)/\w.heap.size<=w'.heap.size/\σ'.take h0=σ.take h0/\Grow fr w ds fr' a'.defers
theorem Qb5.grow{T:Type}{X:Ctx T}{i:Nat}{fr g ro f:Nat->Prop}{σ σ1:Sig}{w n:World}{N:Nat}{l d:List Deferred}{Q:Yn T}{e:Exit}{a':Act}{w':World}
  (h:Qb5 X i g f σ1 n N d Q e a' w')(G:∀b,ro b->f b)(m:w.heap.size<=n.heap.size)(p:σ1.take i=σ.take i)(hg:Grow fr w l g d):Qb5 X i fr ro σ w N l Q e a' w':=by
 obtain⟨x,a,H',r,j,σ',k,B,y,E,t,s,F,q,u,z⟩:=h;exact⟨x,a,H',r,j,σ',k,B,y,E,t,s,(by grind),XQ m q,u.trans p,hg.trans m z⟩
def TCy{T:Type}(X:Ctx T)(P:Program)(h0 N:Nat)(c:Code)(env:Env)(H:Qc)(st:YSt T)(Q:Yn T):Prop:=
 X.ok P->∀rd fr ro σ a w g,Rel fr ro σ H env N a w->X.at st g ro w/\In g fr a.defers->rd=none->c.wpIn (WF rd) 0 P (Qb5 X h0 fr ro σ w N a.defers Q) a w
def WOy{T:Type}(X:Ctx T)(P:Program)(h0 N:Nat)(all:Array Oper)(l:List Oper)(env:Env)(H:Qc)(st:YSt T)(Q:Yn T):Prop:=
 X.ok P->∀rd fr ro σ a w g,Rel fr ro σ H env N a w->X.at st g ro w/\In g fr a.defers->rd=none->wpL P rd all (Qb5 X h0 fr ro σ w N a.defers Q) l a w
theorem In.later{fr fr' g:Nat->Prop}{w:World}{ds a:List Deferred}(h:In g fr ds)(d:∀b,fr b->b<w.heap.size)(hg:Grow fr w ds fr' a):In g fr' a:=by
 refine⟨λb q=>hg.sub b (h.sub b q),λD hD q=>?_⟩;rcases hg.ds _ hD with r|⟨D',e,r⟩
 .exact h.beside D r q
 .have:=by simpa using e
  have:=d D (h.sub D q);omega
section
variable {T:Type} {X:Ctx T} {P:Program} {h0 N:Nat} {c c':Code} {env:Env} {H:Qc} {st:YSt T} {Q:Yn T}
theorem Qhj{fr ro:Nat->Prop}{σ:Sig}{w:World}{d:List Deferred}{e:Exit}{a':Act}{w':World}(q:X.ok P)(h:Qan h0 fr ro σ w N d (λx env H=>Q x env H st) e a' w'){g:Nat->Prop}(n:∀b,fr b->b<w.heap.size)(i:X.at st g ro w/\In g fr d):
  Qb5 X h0 fr ro σ w N d Q e a' w':=by
 obtain⟨x,a,H',k,σ',j,r,s,p,f,m,l⟩:=h;exact⟨x,a,H',st,k,σ',j,g,r,s,p,⟨q.ev i.1 (f.frMono i.2.sub),i.2.later n l⟩,f.sub,f.size,m,l⟩
theorem TCy.lift(h:TC P h0 N c env H (λx env H=>Q x env H st)):TCy X P h0 N c env H st Q:=
 λhX rd fr ro σ a w g r hj hrd=>Code.wpIn_mono (λe a' w' q=>Qhj hX q r.sim.frLt hj) (h rd fr ro σ a w r (hrd▸Qav))
def SeqY(X:Ctx T)(P:Program)(h0 N:Nat)(c:Code)(Q:Yn T):Yn T
 |.normal,env,H,st=>TCy X P h0 N c env H st Q
 |.exit id,env,H,st=>Q (.exit id) env H st
 |.ret,env,H,st=>Q .ret env H st
theorem TCy.seq(h:TCy X P h0 N c env H st (SeqY X P h0 N c' Q)):TCy X P h0 N (.seq c c') env H st Q:=by
 intro B z G J σ a w g r hj hrd;refine wpIn_seq (Code.wpIn_mono ?_ (h B z G J σ a w g r hj hrd));rintro e F E ⟨x,d,H',j,f,σ',i,t,k,y,p,n,l,m,s,u⟩;cases e with
 |normal=>
  obtain rfl:x=.normal:=k;exact Code.wpIn_mono (λe a w q=>q.grow l m s u) (y B z i f σ' F E t p n hrd)
 |exit id=>
  obtain rfl:x=.exit id:=k;exact⟨_,d,H',j,f,σ',i,t,rfl,y,p,n,l,m,s,u⟩
 |ret=>
  obtain rfl:x=.ret:=k;exact⟨_,d,H',j,f,σ',i,t,rfl,y,p,n,l,m,s,u⟩
 |_=>exact k.elim
theorem TCy.region{id:Nat}{l:List Oper}(h:WOy X P h0 N l.toArray l env H st Q):TCy X P h0 N (.region id l.toArray false) env H st Q:=
 λhX rd fr ro σ a w g r hj hrd=>wpIn_region_lit (h hX rd fr ro σ a w g r hj hrd)
theorem TCy.cond{x:Operand}{t:Bool}(k:opA env x=.bool t)(l:t=true->TCy X P h0 N c env H st Q)(m:t=false->TCy X P h0 N c' env H st Q):TCy X P h0 N (.cond x c c') env H st Q:=by
 intro j f i h σ a w g r hj hrd;have d:=Ql r x;rw[k]at d;exact wpIn_cond_split d (λe=>l e j f i h σ a w g r hj hrd) (λe=>m e j f i h σ a w g r hj hrd)
theorem WOy.nil{all:Array Oper}(h:Q .normal env H st):WOy X P h0 N all [] env H st Q:=
 λhX rd fr ro σ a w g r hj hrd=>⟨_,env,H,st,ro,σ,fr,g,rfl,h,r,hj,λ_ q=>q,XO _,rfl,Grow.refl _ _ _⟩
end
theorem QfJ{P:Program}{rd:Option Nat}{o:Oper}{a:Act}{K K':Act->World->Prop}{Q Q':Exit->Act->World->Prop}(i:∀a w,K a w->K' a w)(p:∀ch a w,Q (.panic ch) a w->Q' (.panic ch) a w)(j:∀a w,Q .outgrown a w->Q' .outgrown a w)
  {r:Result Next}(h:o.uponIn (WF rd) 0 P a K Q r):o.uponIn (WF rd) 0 P a K' Q' r:=by
 cases r with
 |ok x w=>
  cases x with
  |value v=>exact i _ _ h
  |skip=>exact i _ _ h
  |defer d=>exact i _ _ h
  |enter f g=>
   refine⟨h.1,CallsIn.mono h.2 ?_⟩;intro e m q;cases e with
   |returned v=>grind
   |panicked c=>grind
   |outgrown=>obtain⟨a,w,q⟩:=q;exact⟨a,w,j _ _ q⟩
  |row r g=>exact⟨h.1,RowsIn.mono h.2 λv m q=>i _ _ q⟩
  |round l f n assign k=>
   refine⟨h.1,RoundIn.mono h.2 ?_⟩;intro e m q;cases e with
   |returned v=>grind
   |panicked c=>grind
   |outgrown=>obtain⟨a,w,q⟩:=q;exact⟨a,w,j _ _ q⟩
  |_=>exact h
 |halt x w=>
  cases x with
  |panic v=>exact p _ _ _ h
  |_=>exact h
section
variable {T:Type} {X:Ctx T} {P:Program} {h0 N:Nat} {env:Env} {H:Qc} {st:YSt T} {Q:Yn T}
theorem WOy.step{all:Array Oper}{o:Oper}{rest:List Oper}(h:WO P h0 N all [o] env H (λx env' H'=>x=.normal/\WOy X P h0 N all rest env' H' st Q)):WOy X P h0 N all (o::rest) env H st Q:=by
 intro y p m u σ a w g r hj hrd;have O:∀f d,Qa8 h0 m u σ w N a.defers (λx env' H'=>x=.normal/\WOy X P h0 N all rest env' H' st Q) .normal f d->wpL P p all (Qb5 X h0 m u σ w N a.defers Q) rest f d:=by
  rintro f d ⟨x,env',H',i,σ',j,M,⟨_,J⟩,E,n,z,B,F⟩;have l:X.at st g i d/\In g j f.defers:=⟨y.ev hj.1 (n.frMono hj.2.sub),by rw[B];exact hj.2.later r.sim.frLt F⟩;have:=J y p j i σ' f d g E l hrd;exact Q3 (λe t s q=>(q.grow n.sub n.size z (by grind))) _ _ _ this
 have k:=h p m u σ a w r (hrd▸Qav);unfold wpL wpListIn at k⊢;split
 .rename_i G;rw[Vm G]at k;refine⟨k.1,QfJ (λt s q=>?_) (λL t s q=>?_) (λt s q=>?_) k.2⟩
  .unfold wpListIn at q
   grind
  .obtain⟨x,_,_,_,_,_,q,_⟩:=q;exact q.elim
  .obtain⟨x,_,_,_,_,_,q,_⟩:=q;exact q.elim
 simp_all[wpListIn]
theorem WOy.yield{all:Array Oper}{o:Oper}{rest:List Oper}{d:Nat}{x:T}{E rem:List T}(B:X.nx E x rem)(hg:Qs all o env true)(G:o.dst=some d)(hN:Nat.blt d N=true)
  (u:∀fr ro σ a w,Rel fr ro σ H env N a w->∃vs:List Value,LR ro [] w (X.enc x) vs/\(execOp a.eval o).run P w=(Instr.yield X.l vs.toArray).run P w)
  (k:∀b,WOy X P h0 N all rest (up env d (.bool b)) H (bif b then .on rem else .off rem) Q):WOy X P h0 N all (o::rest) env H (.on E) Q:=by
 intro O L fr ro σ a w g r hj hrd;obtain⟨vs,Y,W⟩:=u fr ro σ a w r;obtain⟨q,hq,F⟩:=hj.1;obtain⟨fn,tmps,assign,M,h1,h2⟩:=O.round E x rem q g ro w vs B F hq (λb z=>⟨r.sim.roLt b z,λy=>r.sim.roFr b z (hj.2.sub b y)⟩) Y;have h3:=W.trans h1;unfold wpL wpListIn;rw[Vm (Yp hg r)];refine⟨λ_ _=>trivial,?_⟩;rw[QbT h3 (λd e=>by cases e)];refine⟨λh=>by simp[WF,Fence.wide]at h,(RoundIn.mono h2 ?_)⟩;rintro e i ⟨j,m,p,n,f⟩;obtain⟨s',ev⟩:=r.sim.round hj.2.sub n;have J:d<N:=by simp_all
 have t:Ext ro σ w ro σ i:=by have:=ev.ext σ [];grind
 have fin:∀b,X.at (bif b then .on rem else .off rem) j ro i->wpL P L all (Qb5 X h0 fr ro σ w N a.defers Q) rest (a.put o.dst (.bool b)) i:=by
  intro b f;have V:QaO (λb=>fr b\/j b) a.defers i:=r.defers.to λD G q1 q2=>⟨.inl q1,(n.keep D (r.sim.frLt D q1) (hj.2.beside D G)).trans q2⟩;have R:In j (λb=>fr b\/j b) a.defers:=by
   refine⟨λb q=>.inr q,λD hD q=>?_⟩;rcases n.new D q with m|m
   .exact hj.2.beside D hD m
   .have:=r.sim.frLt D (r.defers.mark hD).1;omega
  have r':Rel (λb=>fr b\/j b) ro σ H (up env d (.bool b)) N {a with tmps:=a.tmps.setIfInBounds d (.bool b)} i:=
   ⟨s',VR.up (fr:=fr) (λs=>(r.env s).mono t) (by rw[r.size];exact J) rfl,by simpa using r.size,V⟩
  have:=k b O L _ ro σ _ i j r' ⟨f,R⟩ hrd;simp[G];refine Q3 (λe a2 w2 q=>q.grow (λ_ q=>q) n.size rfl ⟨λ_ q=>.inl q,λb q=>?_,λ_ q=>q,λ_ q=>.inl q⟩) _ _ _ this;rcases q with q|q
  .exact .inl q
  .rcases n.new b q with q|q
   .exact .inl (hj.2.sub b q)
   omega
 rcases f with⟨rfl,f⟩|⟨rfl,f⟩
 .exact fin true ⟨m,p,f⟩
 .exact fin false ⟨m,p,f⟩
end
def EndY{T:Type}:Yn T:=λx env H st=>(x=.normal\/x=.ret)/\(st=.on []\/ ∃rem,st=.off rem)
theorem QeK{T:Type}{P:Program}{f:FuncId}{fn:Func}{c:Code}{N:Nat}{caps:List A}{H:Qc}{enc:T->List A}{nx:List T->T->List T->Prop}{xs:List T}
  (V:P.funcs[f]?=some fn)(hb:fn.body=some c)(hN:fn.ntmps=N)(hA:Nat.ble (caps.length+1) N=true)(W:fn.results= #[])
  (h:∀X,X.enc=enc->X.nx=nx->TCy X P H.length N c (Qa5 0 (.fn (.yield X.l) [] []::caps)) H (.on xs) EndY):Qhg P f caps H enc nx xs:=by
 intro X hE hNx hX fr ro0 σ w capv q0 hs hq0 hl hj;have k:LR ro0 σ w (.fn (.yield X.l) [] []::caps) (Value.func (.yield X.l) #[] #[]::capv):=⟨_,_,rfl,⟨[],[],rfl,rfl,rfl⟩,hl⟩;have L:=k.length;have aa:caps.length+1<=N:=by simp_all
 refine(callsIn_wide).1 (callsIn_of_wp_marks V hb trivial (Code.wpIn_mono ?_ (h X hE hNx hX none fr ro0 σ _ w fr ⟨hs,?_,?_,List.nodup_nil,λd m=>by cases m⟩ ⟨⟨q0,hq0,hj⟩,λ_ q=>q,λD hD=>by cases hD⟩ rfl)))
 .rintro e t F ⟨x,O,H1,st,ab,σ1,ac,M,G,⟨h2,y⟩,j,⟨h4,a⟩,h5,h6,h7,Q⟩;have n:LeavesInM Fence.wide 0 P fn t.tmps (λe W'=>(∃v,e=.returned v)/\ ∃g q',(∀b,fr b->g b)/\((X.J [] q' g W')\/(∃rem,X.Jx rem q' g W'))) t.defers .returning F:=by
   refine YW t.defers F j.defers.1 (λd m=>?_) (j.sim.frMono a.sub) (λw2 s2 p=>?_)
   .obtain⟨D,rfl,_⟩:=(Q.ds d m).resolve_left (by simp);obtain⟨u,Y⟩:=j.defers.mark m;exact⟨D,rfl,λq=>j.sim.roFr D q u,a.beside D m,λi x E z B=>(j.sim.own i D x E z B).2.2 u,λi d x E z B=>(j.sim.hid i d x D E z B).fr u,Y⟩
   .have r:=hX.up (hX.ev h4 p) (g':=λb=>M b\/fr b) (λb q=>.inl q) (λb q=>X9 (j.sim.frLt b (q.elim (a.sub b) (Q.sub b))) p.size);obtain⟨R,_,r⟩:=r;refine⟨.tuple #[],by simp[results,W],⟨_,rfl⟩,λb=>M b\/fr b,R,λb q=>.inr q,?_⟩;rcases y with rfl|⟨rem,rfl⟩
    .exact .inl r
    .exact .inr ⟨rem,r⟩
  cases e with
  |normal=>exact n
  |ret=>exact n
  |exit id=>
   obtain rfl:x=.exit id:=G
   grind
  |_=>exact G.elim
 .intro s;have:=Qbi [] rfl k (Array.replicate (fn.ntmps-(Value.func (.yield X.l) #[] #[]::capv).toArray.size) undef) s
  grind
 grind
section
variable {T:Type} {X:Ctx T} {P:Program} {h0 N:Nat} {c c':Code} {env:Env} {H:Qc} {st:YSt T} {Q Q':Yn T}
theorem TCy.mono(h:TCy X P h0 N c env H st Q)(m:∀x env H st,Q x env H st->Q' x env H st):TCy X P h0 N c env H st Q':=by
 intro t n k p σ a w g r hj hrd;refine Code.wpIn_mono ?_ (h t n k p σ a w g r hj hrd);rintro e z y ⟨x,d,H',f,i,σ',j,s,q,u,l⟩;exact⟨x,d,H',f,i,σ',j,s,q,m _ _ _ _ u,l⟩
theorem TCy.skip(h:Q .normal env H st):TCy X P h0 N .skip env H st Q:=TCy.lift (TC.skip h)
theorem TCy.ret(h:Q .ret env H st):TCy X P h0 N .ret env H st Q:=TCy.lift (TC.ret h)
theorem TCy.exit{id:Nat}(h:Q (.exit id) env H st):TCy X P h0 N (.exit id) env H st Q:=TCy.lift (TC.exit h)
def BloY(id:Nat)(Q:Yn T):Yn T
 |.normal,env,H,st=>Q .normal env H st
 |.exit id',env,H,st=>bif Nat.beq id' id then Q .normal env H st else Q (.exit id') env H st
 |.ret,env,H,st=>Q .ret env H st
theorem TCy.block{id:Nat}(h:TCy X P h0 N c env H st (BloY id Q)):TCy X P h0 N (.block id c) env H st Q:=by
 intro z u s y σ a w g r hj hrd;refine wpIn_block (Code.wpIn_mono ?_ (h z u s y σ a w g r hj hrd));rintro e E B ⟨x,d,H',i,j,σ',k,p,n,l,m⟩;cases e with
 |normal=>
  obtain rfl:x=.normal:=n;exact⟨_,d,H',i,j,σ',k,p,rfl,l,m⟩
 |exit f=>
  obtain rfl:x=.exit f:=n;unfold Exit.inBlock;simp only[BloY]at l;by_cases q:f=id
  .subst q;rw[Vu,Vi]at l;simp;exact⟨.normal,d,H',i,j,σ',k,p,rfl,l,m⟩
  .have t:Nat.beq f id=false:=by
    cases e:Nat.beq f id with
    |false=>rfl
    |true=>simp_all
   rw[t,Vj]at l;simp[q];exact⟨.exit f,d,H',i,j,σ',k,p,rfl,l,m⟩
 |ret=>
  obtain rfl:x=.ret:=n;exact⟨_,d,H',i,j,σ',k,p,rfl,l,m⟩
 |_=>exact n.elim
end
section
variable {T:Type} {X:Ctx T} {P:Program} {h0 N:Nat} {c:Code} {env:Env} {H:Qc} {st:YSt T} {Q:Yn T}
def Qhv(I:Env->Qc->YSt T->Prop)(Q:Yn T):Yn T
 |.normal,env,H,st=>I env H st
 |.exit id,env,H,st=>Q (.exit id) env H st
 |.ret,env,H,st=>Q .ret env H st
theorem Qhd{I:Nat->Env->Qc->YSt T->Prop}(body:∀n env H st,I n env H st->TCy X P h0 N c env H st (Qhv (λenv H st=>∃n',n'<n/\I n' env H st) Q)){n:Nat}(G:I n env H st):TCy X P h0 N (.loop c) env H st Q:=by
 intro hX R y B σ a w g r hj hrd b k cs hro hb hr;have J:∀m n env H st fr1 ro1 σ1 a1 w1 g1,n<m->I n env H st->Rel fr1 ro1 σ1 H env N a1 w1->(∀b,B b->ro1 b)->w.heap.size<=w1.heap.size->σ1.take h0=σ.take h0->Grow y w a.defers fr1 a1.defers->X.at st g1 ro1 w1/\In g1 fr1 a1.defers->
   ∃e i h,Qb5 X h0 y B σ w N a.defers Q e i h/\ArrivesIn (Machine.fenced P (WF R)) P (lone (b.atR a1 (.code c::.inLoop c::k)) cs w1) b k cs e i h:=by
  intro m
  induction m with
  |zero=>omega
  |succ m ih=>
   intro n env H st fr1 ro1 σ1 a1 w1 g1 hn G r1 s1 z1 t1 gr1 j1;obtain⟨e,i,h,E,d⟩:=body n env H st G hX R fr1 ro1 σ1 a1 w1 g1 r1 j1 hrd b (.inLoop c::k) cs hro hb hr;obtain⟨x,f,H',j,p,σ',t,g',z,u,O,L,q5,W,V,q8⟩:=E;have Y:=λb q=>q5 b (s1 b q);have s:=gr1.trans z1 q8;have M:∀x,Q x f H' j->ExR e x->Qb5 X h0 y B σ w N a.defers Q e i h:=λx q q'=>⟨x,f,H',j,p,σ',t,g',q',q,O,L,Y,XQ z1 W,V.trans t1,s⟩;cases e with
   |normal=>
    obtain rfl:x=.normal:=z;obtain⟨n',aa,u⟩:=u;obtain⟨e2,a2,w2,F,l⟩:=ih n' f H' j t p σ' i h g' (by omega) u O Y (XQ z1 W) (V.trans t1) s L;exact⟨e2,a2,w2,F,.of_steps (StepsIn.trans d (.one (fenced_calm hb hr rfl) stepR_inLoop)) l⟩
   |exit id=>
    obtain rfl:x=.exit id:=z;exact⟨_,i,h,M _ u rfl,.pass rfl (λ_ _=>.inl (by simp)) d⟩
   |ret=>
    obtain rfl:x=.ret:=z;exact⟨_,i,h,M _ u rfl,.pass rfl (λ_ _=>.inl (by simp)) d⟩
   |_=>exact z.elim
 obtain⟨e,i,h,E,d⟩:=J (n+1) n env H st y B σ a w g (Xk _) G r (λ_ q=>q) (XO _) rfl (Grow.refl _ _ _) hj;exact⟨e,i,h,E,.of_steps (.one (fenced_calm hb hr rfl) stepR_loop) d⟩
end
theorem Sim.part{fr ro:Nat->Prop}{σ:Sig}{H:Qc}{w:World}(g:Sim fr ro σ H w){π:List Nat}{Hc:Qc}(X:π.map (λp=>H[p]?)=(Hc.map (QM (rho π H.length))).map some)(hπ:π.Nodup):
  Sim (λb=>fr b\/(∃i x,σ[i]?=some (some b)/\H[i]?=some x/\x.live=true/\i∉π)\/ ∃i x d,σ[i]?=some (some d)/\H[i]?=some x/\Hid w x d b/\i∉π) ro (Q4 σ π) Hc w/\ ∀j:Nat,σ[rho π H.length j]?=(Q4 σ π)[j]? :=by
 have hp:∀p∈π,p<H.length:=λp q=>YK X q;have hσl:=g.len;have m:∀(j p:Nat),π[j]?=some p->H[p]?=(Hc[j]?).map (QM (rho π H.length)):=by
  intro j p n;have:=congrArg (λl=>l[j]?) X
  grind
 have N:π.length=Hc.length:=by simpa using congrArg List.length X
 have hσc:∀j:Nat,σ[rho π H.length j]?=(Q4 σ π)[j]? :=by
  intro j;have:=QcQ (τ:=[]) hσl hp j
  grind
 have hπj:∀(j b:Nat),(Q4 σ π)[j]?=some (some b)->∃p,π[j]?=some p/\σ[p]?=some (some b):=by
  intro j b n;simp only[Q4,Xl]at n
  grind
 refine⟨?_,hσc⟩
 .refine⟨by simp[Q4,N],g.roOk,?_,?_,?_,?_,?_,?_⟩
  .rintro b (P|⟨i,x,a,h,f,M⟩|⟨i,x,d,a,h,f,M⟩)
   .exact g.frLt b P
   .exact(g.own i b x a h f).1
   .exact(g.hid i d x b a h f).lt
  .rintro b P (L|⟨i,x,a,h,f,M⟩|⟨i,x,d,a,h,f,M⟩)
   .exact g.roFr b P L
   .exact(g.own i b x a h f).2.1 P
   .exact(g.hid i d x b a h f).ro P
  .intro j b x a h f;obtain⟨p,e,z⟩:=hπj j b a;have E:H[p]?=some (QM (rho π H.length) x):=by grind
   obtain⟨o1,o2,o3⟩:=g.own p b _ z E (by rw[Qz];exact f);refine⟨o1,o2,?_⟩;rintro(L|⟨i,y,y1,y2,G,Q⟩|⟨i,y,d,y1,y2,G,Q⟩)
   .exact o3 L
   .have:=g.inj i p b _ _ y1 z y2 E G (by rw[Qz];exact f)
    grind
   .exact(g.hid i d y b y1 y2 G).ne p b _ z E (by rw[Qz];exact f) rfl
  .intro i j b x y a h f M q5 q6;obtain⟨p,e,z⟩:=hπj i b a;obtain⟨t,u,W⟩:=hπj j b h;have E:H[p]?=some (QM (rho π H.length) x):=by rw[m i p e,f];rfl
   have T:H[t]?=some (QM (rho π H.length) y):=by rw[m j t u,M];rfl
   have:=g.inj p t b _ _ z W E T (by rw[Qz];exact q5) (by rw[Qz];exact q6);subst this;have F:i<π.length:=by
    rcases Vr i π.length with q|q
    .exact q
    .rw[XJ q]at e;simp at e
   have n:j<π.length:=by
    rcases Vr j π.length with q|q
    .exact q
    .rw[XJ q]at u;simp at u
   rw[XF F]at e;rw[XF n]at u;have r:=(XU e).trans (XU u).symm;rcases Nat.lt_trichotomy i j with q|q|q
   .exact(Vt.1 hπ i j F n q r).elim
   .exact q
   .exact(Vt.1 hπ j i n F q r.symm).elim
  .intro j s x a h;have n:j<π.length:=by
    rcases Vr j π.length with q|q
    .exact q
    .rw[XJ (by simpa[Q4]using q)]at a;simp at a
   have e:π[j]?=some π[j]:=XF n;have E:H[π[j]]?=some (QM (rho π H.length) x):=by rw[m j _ e,h];rfl
   have z:σ[π[j]]?=some s:=by
    have:=hσc j;rw[a]at this;simpa[rho,e]using this
   exact(Qe1 hσc).1 (g.blk _ s _ z E)
  .intro j b x c a h f;obtain⟨p,e,z⟩:=hπj j b a;have E:H[p]?=some (QM (rho π H.length) x):=by rw[m j p e,h];rfl
   have k:=g.hid p b _ c z E ((Qah _ _ _ _ _).2 f);refine⟨k.lt,k.ro,?_,?_,?_⟩
   .rintro(L|⟨i,y,y1,y2,G,Q⟩|⟨i,y,d,y1,y2,G,Q⟩)
    .exact k.fr L
    .exact k.ne i c y y1 y2 G rfl
    .obtain⟨rfl,rfl⟩:=k.one i d y y1 y2 G;exact Q (Vw e)
   .intro B O y V Y R;obtain⟨t,J,f2⟩:=hπj B O V;exact k.ne t O _ f2 (show H[t]?=some (QM (rho π H.length) y)by rw[m B t J,Y];rfl) (by rw[Qz];exact R)
   .intro B O y V Y R;obtain⟨t,J,f2⟩:=hπj B O V;obtain⟨z4,z5⟩:=k.one t O _ f2 (show H[t]?=some (QM (rho π H.length) y)by rw[m B t J,Y];rfl) ((Qah _ _ _ _ _).2 R);subst z5;have F:B<π.length:=(XG.1 J).1;have n:j<π.length:=(XG.1 e).1;rw[XF F]at J;rw[XF n]at e;have r:=(XU J).trans (XU e).symm;refine⟨z4,?_⟩;rcases Nat.lt_trichotomy B j with q|q|q
    .exact(Vt.1 hπ B j F n q r).elim
    .exact q
    .exact(Vt.1 hπ j B n F q r.symm).elim
theorem Sim.frames{fr fr' ro:Nat->Prop}{σ:Sig}{H:Qc}{w:World}(s:Sim fr ro σ H w)(lt:∀b,fr' b->b<w.heap.size)(hro:∀b,ro b->¬fr' b)(own:∀(i b:Nat) (x:Blk),σ[i]?=some (some b)->H[i]?=some x->x.live=true->¬fr' b)
  (hd:∀(i b:Nat) (x:Blk) (c:Nat),σ[i]?=some (some b)->H[i]?=some x->Hid w x b c->¬fr' c):Sim fr' ro σ H w:=
 ⟨s.len,s.roOk,lt,hro,λi b x q1 q2 q3=>⟨(s.own i b x q1 q2 q3).1,(s.own i b x q1 q2 q3).2.1,own i b x q1 q2 q3⟩,s.inj,s.blk,
  s.hidTo (· = ·) QX (XO _) (by simp) (by grind) (by grind)⟩
def Qgs(H:Qc)(p:Nat):Qc:=match H[p]? with
 |some x=>bif x.holds then H.set p .dead else H
 |none=>H
def QcA:Qc->List Nat->Qc
 |H,[]=>H
 |H,p::π=>QcA (Qgs H p) π
theorem QcB(H:Qc)(p:Nat):(Qgs H p=H/\ ∀x,H[p]?=some x->x.holds=false)\/Qgs H p=H.set p .dead:=by
 unfold Qgs
 grind
theorem Qdk:∀(π:List Nat) (H:Qc) (i:Nat) (x:Blk),(QcA H π)[i]?=some x->x=.dead\/(H[i]?=some x/\(x.holds=true->i∉π))
 |[],H,i,x,h=>.inr ⟨h,λ_=>by simp⟩
 |p::π,H,i,x,h=>by
  rcases Qdk π _ i x h with h|⟨h1,h2⟩
  .exact .inl h
  .rcases QcB H p with⟨e,hl⟩|e
   .grind
   grind
theorem Qcn{fr ro:Nat->Prop}{σ:Sig}{w:World}:∀(π:List Nat) {H:Qc} (s:Sim fr ro σ H w),Sim fr ro σ (QcA H π) w
 |[],_,s=>s
 |p::π,H,s=>by
  rw[QcA];rcases QcB H p with h|h
  .rw[h.1];exact Qcn π s
  .rw[h];exact Qcn π (s.kill p)
theorem Sim.put{fr ro:Nat->Prop}{σ:Sig}{H:Qc}{w:World}(s:Sim fr ro σ H w){b:Nat}{obj:Obj}(l:fr b)(r:w.shape? b=none):
  Sim fr ro σ H (w.putObj b obj)/\Qi (λc=>c≠b) ro w ro (w.putObj b obj):=by
 have a:∀c,c≠b->(w.putObj b obj).heap[c]?=w.heap[c]? :=λc u=>World.putObj_heap_other u;have f:(w.putObj b obj).heap.size=w.heap.size:=by simp
 have t:∀c,ro c->c≠b:=λc q e=>s.roFr c q (e▸l);have ev:Qi (λc=>c≠b) ro w ro (w.putObj b obj):=by
  refine⟨λ_ q=>q,(by grind),λc q=>a c q,by omega,λc x q=>?_,rfl,rfl,rfl,XO _⟩
  grind[World.shape?]
 have h:Ext ro σ w ro σ (w.putObj b obj):=by have:=ev.ext σ [];grind
 refine⟨⟨s.len,s.roOk.to (λ_ q=>q) ev.keepRo (λc q=>by rw[f];exact s.roLt c q),λc q=>by rw[f];exact s.frLt c q,s.roFr,λi c x g k B=>?_,s.inj,λi y x g k=>?_,
  s.hidTo (· = ·) QX (by omega) (by simp) (by simp) λj d y m p F=>.inl ⟨j,y,rfl,m,p,id,λc q=>s.hidKeep m p (λz=>a d (λe=>(s.own j d y m p z).2.2 (e▸l))) ev.keepRo q⟩⟩,ev⟩
 .obtain⟨J,G,E⟩:=s.own i c x g k B
  grind
 .refine(s.blk i y x g k).keep h ?_ ?_
  .rintro c rfl n;exact a c (λe=>(s.own i c x g k n).2.2 (e▸l))
  .rintro d c rfl n;exact a c (λe=>(s.hid i d x c g k n).fr (e▸l))
theorem QbE{w:World}{l:Nat}{r:Loop}(h:w.heap[l]?=some (.loop r)):w.shape? l=none:=by
 unfold World.shape?;rw[h]
structure Fix where
 fr:Nat->Prop
 ro:Nat->Prop
 σ:Sig
 w:World
 h1:Nat
 env:Env
 tmps:Array Value
 ds1:List Deferred
 l:Nat
 rc:LoopState->Option Code->Loop
 fr1:Nat->Prop
structure Fix.Ok (D:Fix):Prop where
 sub:∀b,D.fr b->D.fr1 b
 l1:D.fr1 D.l
 lf:¬D.fr D.l
 len:D.σ.length=D.h1
structure RJ (D:Fix) (ro1:Nat->Prop) (σ1:Sig) (H:Qc) (st:LoopState) (pe:Option Code) (q g:Nat->Prop) (W:World):Prop where
 sim:Sim D.fr1 ro1 σ1 H W
 env:∀t,VR ro1 D.σ W (lk D.env t) (D.tmps.getD t undef)
 sig:σ1.take D.h1=D.σ
 ev:Qi D.fr D.ro D.w ro1 W
 marks:QaO D.fr1 D.ds1 W
 rc:W.heap[D.l]?=some (.loop (D.rc st pe))
 roG:∀b,ro1 b->q b\/g b
 frG:∀b,D.fr1 b->g b
 own:∀(i b:Nat) (x:Blk),σ1[i]?=some (some b)->H[i]?=some x->x.live=true->g b
 hidG:∀(i b:Nat) (x:Blk) (c:Nat),σ1[i]?=some (some b)->H[i]?=some x->Hid W x b c->g c
 lt:∀b,g b->b<W.heap.size
theorem Qcu{σ σ1:Sig}{a:Nat}(h:σ1.take a=σ){i b:Nat}(q:σ[i]?=some (some b)):σ1[i]?=some (some b):=by
 grind
section
variable {D:Fix} {ro1:Nat->Prop} {σ1:Sig} {H:Qc} {st:LoopState} {pe:Option Code} {qR g:Nat->Prop} {W:World}
theorem RJ.step(r:D.Ok)(j:RJ D ro1 σ1 H st pe qR g W){n:Nat->Prop}{W':World}(e:Qi g qR W n W'):RJ D ro1 σ1 H st pe qR g W':=by
 have hro:=λb q=>(j.roG b q).elim (e.keepRo b) (e.keepFr b);have ev:Qi D.fr1 ro1 W ro1 W':=⟨λ_ q=>q,hro,λb q=>e.keepFr b (j.frG b q),e.size,e.shape,e.os,e.tape,e.output,e.drawn⟩;have h:∀σ,Ext ro1 σ W ro1 σ W':=λ σ=>by have:=ev.ext σ [];grind
 refine⟨⟨j.sim.len,j.sim.roOk.to (λ_ q=>q) hro (λb q=>X9 (j.sim.roLt b q) e.size),λb q=>X9 (j.sim.frLt b q) e.size,j.sim.roFr,λi b x a f m=>?_,j.sim.inj,λi z x a f=>?_,
  j.sim.hidTo (· = ·) QX e.size (by simp) (by simp) λi d y k p w=>.inl ⟨i,y,rfl,k,p,id,λc q=>j.sim.hidKeep k p (λz=>e.keepFr d (j.own i d y k p z)) hro q⟩⟩,
  λt=>(j.env t).mono (h _),j.sig,j.ev.trans (ev.frMono r.sub),j.marks.keep ev,(ev.keepFr _ r.l1).trans j.rc,j.roG,j.frG,j.own,λi b x c a f m=>j.hidG i b x c a f (j.sim.hidKeep a f (λz=>e.keepFr b (j.own i b x a f z)) hro m),λb q=>X9 (j.lt b q) e.size⟩
 .obtain⟨u,s⟩:=j.sim.own i b x a f m;exact⟨X9 u e.size,s⟩
 .refine(j.sim.blk i z x a f).keep (h _) ?_ ?_
  .rintro b rfl l;exact e.keepFr b (j.own i b x a f l)
  .rintro b c rfl l;exact e.keepFr c (j.hidG i b x c a f l)
theorem RJ.up{g':Nat->Prop}(j:RJ D ro1 σ1 H st pe qR g W)(h:∀b,g b->g' b)(hl:∀b,g' b->b<W.heap.size):RJ D ro1 σ1 H st pe qR g' W:=
 {j with roG:=λb q=>(j.roG b q).imp id (h b),frG:=λb q=>h b (j.frG b q),own:=λi b x q1 q2 q3=>h b (j.own i b x q1 q2 q3),hidG:=λi b x c q1 q2 q3=>h c (j.hidG i b x c q1 q2 q3),lt:=hl}
def FrB(D:Fix)(ro1 g:Nat->Prop)(W:World):Nat->Prop:=λb=>(D.fr1 b\/(¬g b/\ ¬ro1 b))/\b<W.heap.size
theorem RJ.simB(j:RJ D ro1 σ1 H st pe qR g W):Sim (FrB D ro1 g W) ro1 σ1 H W:=by
 refine j.sim.frames (λb q=>q.2) (λb q r=>?_) (λi b x d a e r=>?_) (λi b x c d a e r=>r.1.elim (j.sim.hid i b x c d a e).fr λr=>r.1 (j.hidG i b x c d a e))
 .rcases r.1 with r|r
  .exact j.sim.roFr b q r
  grind
 .rcases r.1 with r|r
  .exact(j.sim.own i b x d a e).2.2 r
  .exact r.1 (j.own i b x d a e)
theorem RJ.fin(z:D.Ok)(j:RJ D ro1 σ1 H st pe qR g W){w p:Nat->Prop}{σ':Sig}{H':Qc}{W':World}{st':LoopState}{pe':Option Code}
  (ev:Qi (λb=>FrB D ro1 g W b/\b≠D.l) ro1 W p W')(s:Sim w p σ' H' W')(u:∀b,FrB D ro1 g W b->w b)(hσ:σ'.take D.h1=σ1.take D.h1)(G:W'.heap[D.l]?=some (.loop (D.rc st' pe'))):
  RJ D p σ' H' st' pe' qR (λb=>g b\/(W.heap.size<=b/\b<W'.heap.size)) W'/\QdF g (λb=>g b\/(W.heap.size<=b/\b<W'.heap.size)) W W':=by
 have m:∀b,D.fr1 b->FrB D ro1 g W b:=λb q=>⟨.inl q,j.sim.frLt b q⟩;have evf:=ev.frMono λb q=>⟨m b (z.sub b q),λe=>z.lf (e▸q)⟩;have hext:=ev.ext0 D.σ;have y:∀b,b<W.heap.size->b<W'.heap.size:=λb q=>X9 q ev.size;have f:∀b,b<W.heap.size->¬FrB D ro1 g W b->g b\/ro1 b:=by
  intro b a J;by_cases h:g b
  .exact .inl h
  .by_cases d:ro1 b
   .exact .inr d
   .exact absurd ⟨.inr ⟨h,d⟩,a⟩ J
 refine⟨⟨s.frames (λb q=>y b (j.sim.frLt b q)) (λb q r=>s.roFr b q (u b (m b r))) (λi b x h d n r=>(s.own i b x h d n).2.2 (u b (m b r))) (λi b x c h d n r=>(s.hid i b x c h d n).fr (u c (m c r))),
  λt=>(j.env t).mono hext,hσ.trans j.sig,j.ev.trans evf,j.marks.to λB _ e2 e3=>⟨e2,(ev.keepFr B ⟨m B e2,λe=>?_⟩).trans e3⟩,G,λb q=>?_,λb q=>.inl (j.frG b q),λi b x h d n=>?_,λi b x c h d n=>?_,λb q=>q.elim (λq=>y b (j.lt b q)) (λq=>q.2)⟩,
  ⟨λb q=>.inl q,(by grind),λb q=>q.elim (λq=>y b (j.lt b q)) (λq=>q.2),(by omega),λb h d=>?_,ev.size,ev.shape,ev.os,ev.tape,ev.output,ev.drawn⟩⟩
 .subst e;rw[j.rc]at e3;cases e3
 .rcases Vr b W.heap.size with a|a
  .rcases f b a (λr=>s.roFr b q (u b r))with r|r
   .grind
   .exact(j.roG b r).imp id .inl
  .exact .inr (.inr ⟨a,s.roLt b q⟩)
 .obtain⟨L,E,F⟩:=s.own i b x h d n;rcases Vr b W.heap.size with a|a
  .rcases f b a (λr=>F (u b r))with r|r
   .exact .inl r
   .exact absurd (ev.sub b r) E
  omega
 .have k:=s.hid i b x c h d n;rcases Vr c W.heap.size with a|a
  .rcases f c a (λr=>k.fr (u c r))with r|r
   .exact .inl r
   .exact absurd (ev.sub c r) k.ro
  .exact .inr ⟨a,k.lt⟩
 .by_cases r:ro1 b
  .exact ev.keepRo b r
  .exact ev.keepFr b ⟨(by grind),λe=>d (j.frG b (e▸z.l1))⟩
end
theorem Sim.roAdd{fr ro a:Nat->Prop}{σ:Sig}{H:Qc}{w:World}(s:Sim fr ro σ H w)(e:∀b,a b->b<w.heap.size)(f:∀b,a b->¬fr b)(h:∀(i b:Nat) (x:Blk),σ[i]?=some (some b)->H[i]?=some x->x.live=true->¬a b)
  (j:∀(i b:Nat) (x:Blk) (c:Nat),σ[i]?=some (some b)->H[i]?=some x->Hid w x b c->¬a c):Sim fr (λb=>ro b\/a b) σ H w:=by
 have ext:Ext ro σ w (λb=>ro b\/a b) σ w:=⟨λ_ q=>.inl q,λ_ _=>rfl,λ_ _ q=>q,λ_ _ q=>q⟩;refine⟨s.len,s.roOk.to (λ_ q=>.inl q) (λ_ _=>rfl) (λb q=>q.elim (s.roLt b) (e b)),s.frLt,λb q=>q.elim (s.roFr b) (f b),λi b x d g k=>?_,s.inj,λi y x d g=>(s.blk i y x d g).keep ext (λ_ _ _=>rfl) (λ_ _ _ _=>rfl),
  s.hidTo (· = ·) QX (XO _) (by grind) (by simp) (by grind)⟩
 obtain⟨n,m,l⟩:=s.own i b x d g k
 grind
theorem RJ.roAdd{D:Fix}{ro1:Nat->Prop}{σ1:Sig}{H:Qc}{st:LoopState}{pe:Option Code}{qR ri g:Nat->Prop}{W:World}(j:RJ D ro1 σ1 H st pe qR g W)(hq:∀b,qR b->ri b)(hI:∀b,ri b->b<W.heap.size/\ ¬g b):RJ D (λb=>ro1 b\/ri b) σ1 H st pe ri g W:=
 {j with
  sim:=j.sim.roAdd (λb q=>(hI b q).1) (λb q z=>(hI b q).2 (j.frG b z)) (λi b x q1 q2 q3 z=>(hI b z).2 (j.own i b x q1 q2 q3)) (λi b x c q1 q2 q3 z=>(hI c z).2 (j.hidG i b x c q1 q2 q3))
  env:=λt=>(j.env t).mono ⟨λ_ q=>.inl q,λ_ _=>rfl,λ_ _ q=>q,λ_ _ q=>q⟩
  ev:=j.ev.trans (QS λ_ q=>.inl q)
  roG:=λb q=>q.elim (λq=>(j.roG b q).imp (hq b) id) .inl}
def QhG:List Nat->List A->Env->Env
 |p::ps,a::zs,env=>QhG ps zs (up env p a)
 |_,_,env=>env
def QfL:List Nat->List Value->Array Value->Array Value
 |p::ps,v::vs,t=>QfL ps vs (t.setIfInBounds p v)
 |_,_,t=>t
theorem Qd4:∀(ps:List Nat) (vs:List Value) (t:Array Value),(QfL ps vs t).size=t.size
 |[],_,_=>rfl
 |_::_,[],_=>rfl
 |p::ps,v::vs,t=>by simp[QfL,Qd4 ps]
theorem Qd5:∀(ps:List Nat) (vs:List Value) (t:Array Value),(ps.toArray.zip vs.toArray).foldl (λt (p,v)=>t.setIfInBounds p v) t=QfL ps vs t
 |[],vs,t=>by rw[<- Array.foldl_toList,Array.toList_zip];rfl
 |p::ps,[],t=>by rw[<- Array.foldl_toList,Array.toList_zip];rfl
 |p::ps,v::vs,t=>by
  have:=Qd5 ps vs (t.setIfInBounds p v);rw[<- Array.foldl_toList,Array.toList_zip]at this⊢;exact this
theorem Qgj{ro:Nat->Prop}{σ:Sig}{w:World}:∀(ps:List Nat) (zs:List A) (vs:List Value) (env:Env) (t:Array Value),LR ro σ w zs vs->(∀p∈ps,p<t.size)->(∀s,VR ro σ w (lk env s) (t.getD s undef))->
  ∀s,VR ro σ w (lk (QhG ps zs env) s) ((QfL ps vs t).getD s undef)
 |[],_,_,_,_,_,_,h=>h
 |p::ps,[],vs,_,_,hv,_,h=>by
  obtain rfl:vs=[]:=hv;exact h
 |p::ps,a::zs,vs,env,t,hv,hp,h=>by
  obtain⟨v,vs',rfl,h0,hv'⟩:=hv;have h1:=VR.up (fr:=λ_=>False) (a:={tmps:=t,defers:=[]}) h (hp p (by simp)) h0;exact Qgj ps zs vs' (up env p a) (t.setIfInBounds p v) hv' (λq hq=>by grind) h1
def QiA(h1:Nat)(env:Env)(Q:Qx)(K:Qc->Prop):Qx
 |.normal,env',H'=>∃H2,Le h1 env' H' [] H2/\K H2
 |.exit id,env',H'=>∃H2,Le h1 env' H' [] H2/\Q (.exit id) env H2
 |.ret,env',H'=>∃H2,Le h1 env' H' [] H2/\Q .ret env H2
def Jump(Q:Qx)(env:Env)(c:Code)(H:Qc):Prop:=(∃id,c=.exit id/\Q (.exit id) env H)\/(c=.ret/\Q .ret env H)
section
variable {D:Fix} {ro0:Nat->Prop} {σ1:Sig} {H:Qc} {qR ri g:Nat->Prop} {W:World} {P:Program} {N:Nat} {Q:Qx} {K:Qc->Prop}
theorem RJ.round{fn:FuncId}{ps:List Nat}{assign body:Code}{df:Nat}{G:List A}{vs:List Value}(hD:D.Ok)(Y:D.rc=λst pe=>{state:=st,pending:=pe,fn:=fn,tmps:=D.tmps,params:=ps.toArray,assign:=assign,body:=body,defers:=df})
  (hN:D.tmps.size=N)(an:∀p∈ps,p<N)(al:G.length=ps.length)(hq:∀b,qR b->ri b)(hI:∀b,ri b->b<W.heap.size/\ ¬g b)(X:LR ri [] W G vs)(j0:RJ D ro0 σ1 H .ready none qR g W)
  (h:TC P D.h1 N assign (QhG ps G D.env) H λe env1 H1=>e=.normal/\TC P D.h1 N body env1 H1 (QiA D.h1 D.env Q K)):
  YieldAt Fence.wide 0 P D.l vs.toArray W λe W'=>∃g',QdF g g' W W'/\((e=.returned (.bool true)/\ ∃H2 ro2 σ2,K H2/\RJ D ro2 σ2 H2 .ready none ri g' W')\/
   (e=.returned (.bool false)/\ ∃H2 c ro2 σ2,Jump Q D.env c H2/\RJ D ro2 σ2 H2 .done (some c) ri g' W')):=by
 have am:vs.length=G.length:=X.length;have j:=j0.roAdd hq hI;have x:LR (λb=>ro0 b\/ri b) σ1 W G vs:=X.mono ⟨λ_ q=>.inr q,λ_ _=>rfl,λ_ _ q=>q,λi b q=>by simp at q⟩;clear j0;generalize(λb=>ro0 b\/ri b)=ro1 at j x;have ai:∀b,D.fr1 b->FrB D ro1 g W b:=λb q=>⟨.inl q,j.sim.frLt b q⟩;have E:=ai _ hD.l1;have V:=j.rc;have hy:=run_yield (P:=P) (r:=D.rc .ready none) (args:=vs.toArray) V (by grind);refine⟨fn,QfL ps vs D.tmps,assign,body,?_,?_⟩
 .grind[Qd5]
 .refine roundIn_of_wpIn trivial ?_;show Code.wpIn (WF (some D.l)) 0 P _ _ _ _;have ad:∀s,VR ro1 σ1 W (lk D.env s) (D.tmps.getD s undef):=λs=>(j.env s).mono ⟨λ_ q=>q,λ_ _=>rfl,λ_ _ q=>q,λi b q=>Qcu j.sig q⟩;have ah:Qco (some D.l) (FrB D ro1 g W) W:=λl e=>by grind
  have u:=h (some D.l) (FrB D ro1 g W) ro1 σ1 {tmps:=QfL ps vs D.tmps,defers:=[]} W ⟨j.simB,Qgj ps G vs D.env D.tmps x (by grind) ad,by simp[Qd4,hN],List.nodup_nil,λd hd=>by cases hd⟩ ah;refine Code.wpIn_mono ?_ u;rintro e a1 u ⟨x1,env1,H1,ro2,σ2,k,h1,⟨rfl,h2⟩,h3,h4,h5,h6⟩;cases e with
  |normal=>
   have M:u.heap[D.l]?=some (.loop (D.rc .ready none)):=(h4.keepFr _ E).trans V;refine⟨_,run_beginRound M (by rw[Y]),?_⟩;obtain⟨s2,F⟩:=h3.sim.put (obj:=.loop {D.rc .ready none with state:=.busy}) (h6.sub _ E) (QbE M);have aa:D.l<u.heap.size:=by grind
   have ag:(u.putObj D.l (.loop {D.rc .ready none with state:=.busy})).heap[D.l]?=some (.loop {D.rc .ready none with state:=.busy}):=World.putObj_heap_same aa;generalize hw2:u.putObj D.l (.loop {D.rc .ready none with state:=.busy})=w2 at*;have ae:QaO k a1.defers w2:=h3.defers.to λB _ e2 e3=>⟨e2,(F.keepFr B (λe=>by grind)).trans e3⟩;have r2:Rel k ro2 σ2 H1 env1 N a1 w2:=⟨s2,λs=>(h3.env s).mono (F.ext0 σ2),h3.size,ae⟩;have T:k D.l:=h6.sub _ E;refine Code.wpIn_mono ?_ (h2 (some D.l) k ro2 σ2 a1 w2 r2 (λl e=>by grind));rintro e a3 t ⟨x3,ac,H3,z,σ3,J,g1,g2,g3,g4,g5,g6⟩;have m:t.heap[D.l]?=some (.loop {D.rc .ready none with state:=.busy}):=(g4.keepFr _ T).trans ag;have y:∀(H2:Qc) (jump:Option Code),Le D.h1 ac H3 [] H2->∃v n,(Instr.endRound D.l jump).run P t=.ok v n/\v=.bool jump.isNone/\ ∃g',QdF g g' W n/\ ∃a σ4,RJ D a σ4 H2 (if jump.isNone then .ready else .done) jump ri g' n:=by
    intro H2 jump f;obtain⟨a,σ4,r4,s4,t4⟩:=f J z σ3 N a3 t g3;refine⟨_,_,run_endRound jump m,rfl,?_⟩;have af:J D.l:=g6.sub _ T;obtain⟨s5,ak⟩:=r4.sim.put af (QbE m);have ab:D.l<t.heap.size:=by rw[X7]at m;exact m.1
    have aj:=World.putObj_heap_same (w:=t) (r:=D.l) (o:=.loop {{D.rc .ready none with state:=.busy}with state:=if jump.isNone then .ready else .done,pending:=jump}) ab;have e1:Qi (λb=>FrB D ro1 g W b/\b≠D.l) ro1 W ro2 u:=h4.frMono λb q=>q.1;have e2:Qi (λb=>FrB D ro1 g W b/\b≠D.l) ro2 u ro2 w2:=F.frMono λb q=>q.2;have e3:Qi (λb=>FrB D ro1 g W b/\b≠D.l) ro2 w2 z t:=g4.frMono λb q=>h6.sub b q.1;have e4:Qi (λb=>FrB D ro1 g W b/\b≠D.l) z t a t:=QS s4;have e5:=(((e1.trans e2).trans e3).trans e4).trans (ak.frMono λb (q:FrB D ro1 g W b/\b≠D.l)=>q.2);obtain⟨q1,q2⟩:=j.fin hD e5 s5 (λb q=>g6.sub b (h6.sub b q)) (by rw[t4,g5,h5]) (st':=if jump.isNone then .ready else .done) (pe':=jump) (by rw[aj,Y]);exact⟨_,q2,a,σ4,q1⟩
   cases e with
   |normal=>
    obtain rfl:x3=.normal:=g1;obtain⟨H2,f,hK⟩:=g2;obtain⟨v,n,R,rfl,g',O,a,σ4,L⟩:=y H2 none f;exact⟨_,n,R,g',O,.inl ⟨rfl,H2,a,σ4,hK,L⟩⟩
   |exit id=>
    obtain rfl:x3=.exit id:=g1;obtain⟨H2,f,hK⟩:=g2;obtain⟨v,n,R,rfl,g',O,a,σ4,L⟩:=y H2 (some (.exit id)) f;exact⟨_,n,R,g',O,.inr ⟨rfl,H2,_,a,σ4,.inl ⟨id,rfl,hK⟩,L⟩⟩
   |ret=>
    obtain rfl:x3=.ret:=g1;obtain⟨H2,f,hK⟩:=g2;obtain⟨v,n,R,rfl,g',O,a,σ4,L⟩:=y H2 (some .ret) f;exact⟨_,n,R,g',O,.inr ⟨rfl,H2,_,a,σ4,.inr ⟨rfl,hK⟩,L⟩⟩
   |_=>exact g1.elim
  |exit id=>cases h1
  |ret=>cases h1
  |_=>exact h1.elim
end
theorem Sim.beside{fr ro:Nat->Prop}{σ:Sig}{H:Qc}{w g:World}(s:Sim fr ro σ H w)(ev:Qi fr ro w ro g)(a:∀b,b<w.heap.size->g.heap[b]?=w.heap[b]?):Sim (λb=>fr b\/(w.heap.size<=b/\b<g.heap.size)) ro σ H g:=by
 have hext:=ev.ext0 σ;refine⟨s.len,s.roOk.to (λ_ q=>q) ev.keepRo (λb q=>X9 (s.roLt b q) ev.size),λb q=>q.elim (λq=>X9 (s.frLt b q) ev.size) (λq=>q.2),λb q r=>?_,λi b x e f l=>?_,s.inj,λi z x e f=>?_,
  s.hidTo (· = ·) QX ev.size (by simp) (λi b x c e f l n=>n.elim id λq=>(by have:=(s.hid i b x c e f l).lt;omega)) λj d y h m t=>.inl ⟨j,y,rfl,h,m,id,λc q=>s.hidKeep h m (λz=>a d (s.own j d y h m z).1) ev.keepRo q⟩⟩
 .rcases r with r|r
  .exact s.roFr b q r
  .have:=s.roLt b q;omega
 .obtain⟨B,u,p⟩:=s.own i b x e f l
  grind
 .refine(s.blk i z x e f).keep hext ?_ ?_
  .rintro b rfl k;exact a b (s.own i b x e f k).1
  .rintro b c rfl k;exact a c (s.hid i b x c e f k).lt
theorem Qbu{w:World}{o:Obj}{b:Nat}(a:b<w.heap.size):(w.alloc o).heap[b]?=w.heap[b]? :=by
 show(w.heap.push o)[b]?=_
 grind
theorem Qig{P:Program}{fn:FuncId}{tmps:Array Value}{ps:Array Tmp}{assign body:Code}{rd:Option Nat}{fr ro:Nat->Prop}{w:World}(f:Qco rd fr w)(k:∀b,ro b->b<w.heap.size)(r:∀b,fr b->b<w.heap.size):
  ∃l mark w1 df,(Instr.enterLoop fn tmps ps assign body rd).run P w=.ok (l,mark) w1/\w.heap.size<=l/\l<w1.heap.size/\w1.heap[l]?=some (.loop {state:=.ready,pending:=none,fn:=fn,tmps:=tmps,params:=ps,assign:=assign,body:=body,defers:=df})/\
   (∀b,b<w.heap.size->w1.heap[b]?=w.heap[b]?)/\mark.Nodup/\(∀d∈mark,∃D,d={target:=.collected D,args:= #[]}/\w.heap.size<=D/\D<w1.heap.size/\w1.heap[D]?=some (.deferred (some [])))/\Qi fr ro w ro w1:=by
 have e:∀w1,(∀b,b<w.heap.size->w1.heap[b]?=w.heap[b]?)->w.heap.size<=w1.heap.size->w1.os=w.os->w1.tape=w.tape->w1.output=w.output->w1.drawn=w.drawn->Qi fr ro w ro w1:=by
  intro w1 u s n m i y;refine⟨λ_ q=>q,(by grind),(by grind),s,λb x q=>?_,n,m,i,by omega⟩
  grind[World.shape?]
 cases rd with
 |none=>
  have a:∀b,b<w.heap.size->((w.alloc (.deferred (some []))).alloc (.loop {state:=.ready,pending:=none,fn:=fn,tmps:=tmps,params:=ps,assign:=assign,body:=body,defers:=w.heap.size})).heap[b]?=w.heap[b]? :=λb g=>
   (Qbu (by simp;omega)).trans (Qbu g)
  refine⟨_,_,_,w.heap.size,run_enterLoop_outer fn tmps ps assign body,by omega,by simp,?_,a,by simp,?_,e _ a (by simp;omega) rfl rfl rfl rfl⟩
  .grind[World.alloc_heap_new,World.size_alloc]
  .intro d j;obtain rfl:=Vq.1 j;exact⟨_,rfl,XO _,by simp;omega,(Qbu (by simp)).trans (World.alloc_heap_new w _)⟩
 |some t=>
  obtain⟨_,h,p⟩:=f t rfl;have a:∀b,b<w.heap.size->(w.alloc (.loop {state:=.ready,pending:=none,fn:=fn,tmps:=tmps,params:=ps,assign:=assign,body:=body,defers:=h.defers})).heap[b]?=w.heap[b]? :=λb g=>Qbu g;exact⟨_,_,_,h.defers,run_enterLoop_inner p fn tmps ps assign body,XO _,by simp,World.alloc_heap_new w _,a,List.nodup_nil,(by simp),e _ a (by simp) rfl rfl rfl rfl⟩
theorem TC.rangeFunc{P:Program}{h0 N:Nat}{ae:Operand}{ps:List Nat}{assign body:Code}{env:Env}{H:Qc}{Q:Qx}{f:FuncId}{caps ac:List A}{Hc:Qc}{T S:Type}{enc:T->List A}{nx:List T->T->List T->Prop}{xs:List T}
  (π:List Nat)(Hp:S->Qc)(V:S->List T->Prop)(s0:S)(hh:h0<=H.length)(hg:opA env ae=.fn (.func f) [] caps)(hargs:caps=Qag (rho π H.length) ac)(hH:π.map (λp=>H[p]?)=(Hc.map (QM (rho π H.length))).map some)(hπ:π.Nodup)
  (a7:(ps.all λp=>Nat.blt p N)=true)(eg:∀args w,(callFunc f args).run P w=.ok (.enter f args) w)(aq:Qhg P f ac Hc enc nx xs)(ar:∀x,(enc x).length=ps.length)
  (bc:Le H.length env (QcA H π) env (Hp s0))(hV:V s0 xs)
  (ah:∀s l x rem,V s l->nx l x rem->TC P H.length N assign (QhG ps (enc x) env) (Hp s) λe env1 H1=>e=.normal/\TC P H.length N body env1 H1 (QiA H.length env Q λH2=>∃s',V s' rem/\H2=Hp s'))
  (am:∀s,V s []->Q .normal env (Hp s)):TC P h0 N (.rangeFunc ae ps.toArray assign body) env H Q:=by
 intro rd fr ro σ a w r hrd;have hv:=Ql r ae;rw[hg]at hv;obtain⟨l1,E,hv,a9,ao⟩:=hv;obtain rfl:l1=[]:=a9;refine wpIn_rangeFunc ?_;intro fn be;obtain⟨l,mark,M,df,he,hl,a5,an,av,a1,ak,O⟩:=Qig (P:=P) (fn:=fn) (tmps:=a.tmps) (ps:=ps.toArray) (assign:=assign) (body:=body) (ro:=ro) hrd r.sim.roLt r.sim.frLt;have s1:=r.sim.beside O av
 let D:Fix:=⟨fr,ro,σ,w,H.length,env,a.tmps,mark++a.defers,l,(λst pe=>{state:=st,pending:=pe,fn:=fn,tmps:=a.tmps,params:=ps.toArray,assign:=assign,body:=body,defers:=df}),(λb=>fr b\/(w.heap.size<=b/\b<M.heap.size))⟩
 have af:¬fr l:=λq=>by have:=r.sim.frLt l q;omega
 have hD:D.Ok:=⟨λb q=>.inl q,.inr ⟨hl,a5⟩,af,r.sim.len⟩;have ab:QaO D.fr1 (mark++a.defers) M:=by
  refine⟨List.nodup_append.2 ⟨a1,r.defers.1,λd hd d' a0 e=>?_⟩,λd hd=>?_⟩
  .subst e;obtain⟨B,e1,e2,_⟩:=ak d hd;have:=r.sim.frLt B (r.defers.mark (e1▸a0)).1;omega
  .rcases Vs.1 hd with hd|hd
   .obtain⟨B,e1,e2,e3,e4⟩:=ak d hd;exact .inl ⟨B,e1,.inr ⟨e2,e3⟩,e4⟩
   .exact(((r.defers.keep O).to (fr':=D.fr1) λB _ e2 e3=>⟨.inl e2,e3⟩)).2 d hd
 obtain⟨sp,hσc⟩:=s1.part hH hπ;have al:LR ro (Q4 σ π) M ac E:=(QaZ hσc).1 (hargs▸ao.mono (O.ext0 σ))
 let frX:Nat->Prop:=λb=>D.fr1 b\/(∃(j:Nat) (x:Blk),(Q4 σ π)[j]?=some (some b)/\Hc[j]?=some x/\x.live=true)\/ ∃(j:Nat) (x:Blk) (d:Nat),(Q4 σ π)[j]?=some (some d)/\Hc[j]?=some x/\Hid M x d b
 have sX:Sim frX ro σ (QcA H π) M:=by
  refine(Qcn π s1).frames (λb q=>?_) (λb q r=>?_) (λi b x n m k r=>?_) (λi b x c n m k r=>?_)
  .rcases q with q|⟨j,x,n,m,k⟩|⟨j,x,d,n,m,k⟩
   .exact s1.frLt b q
   .exact(sp.own j b x n m k).1
   .exact(sp.hid j d x b n m k).lt
  .rcases r with r|⟨j,x,n,m,k⟩|⟨j,x,d,n,m,k⟩
   .exact s1.roFr b q r
   .exact(sp.own j b x n m k).2.1 q
   .exact(sp.hid j d x b n m k).ro q
  .rcases Qdk _ _ _ _ m with rfl|⟨m,hi⟩
   .cases k
   .rcases r with r|⟨j,y,R,p2,Y⟩|⟨j,y,d,R,p2,Y⟩
    .exact(s1.own i b x n m k).2.2 r
    .exact(sp.own j b y R p2 Y).2.2 (.inr (.inl ⟨i,x,n,m,k,hi (Qa2 k)⟩))
    .exact(sp.hid j d y b R p2 Y).fr (.inr (.inl ⟨i,x,n,m,k,hi (Qa2 k)⟩))
  .rcases Qdk _ _ _ _ m with rfl|⟨m,hi⟩
   .exact k.elim
   .rcases r with r|⟨j,y,R,p2,Y⟩|⟨j,y,d,R,p2,Y⟩
    .exact(s1.hid i b x c n m k).fr r
    .exact(sp.own j c y R p2 Y).2.2 (.inr (.inr ⟨i,x,b,n,m,k,hi k.holds⟩))
    .exact(sp.hid j d y c R p2 Y).fr (.inr (.inr ⟨i,x,b,n,m,k,hi k.holds⟩))
 have rX:Rel frX ro σ (QcA H π) env N {a with defers:=mark++a.defers} M:=
  ⟨sX,λs=>(r.env s).mono (O.ext0 σ),r.size,ab.to λB _ e2 e3=>⟨.inl e2,e3⟩⟩
 obtain⟨ad,σ',r',aa,ba⟩:=bc frX ro σ N _ M rX;have hσt:σ.take H.length=σ:=by rw[<- r.sim.len,X4]
 let g0:Nat->Prop:=λb=>D.fr1 b\/(ad b/\ ¬ro b)\/(∃(i:Nat) (x:Blk),σ'[i]?=some (some b)/\(Hp s0)[i]?=some x/\x.live=true)\/ ∃(i:Nat) (x:Blk) (d:Nat),σ'[i]?=some (some d)/\(Hp s0)[i]?=some x/\Hid M x d b
 have j0:RJ D ad σ' (Hp s0) .ready none ro g0 M:=by
  refine⟨r'.sim.frMono λb q=>.inl q,λt=>(r.env t).mono ⟨aa,O.keepRo,O.shape,λ_ _ q=>q⟩,ba.trans hσt,O.trans (QS aa),ab,an,λb q=>?_,λb q=>.inl q,λi b x n m k=>.inr (.inr (.inl ⟨i,x,n,m,k⟩)),λi b x c n m k=>.inr (.inr (.inr ⟨i,x,b,n,m,k⟩)),λb q=>?_⟩
  .by_cases z:ro b
   .exact .inl z
   .exact .inr (.inr (.inl ⟨q,z⟩))
  .rcases q with q|q|⟨i,x,n,m,k⟩|⟨i,x,d,n,m,k⟩
   .exact s1.frLt b q
   .exact r'.sim.roLt b q.1
   .exact(r'.sim.own i b x n m k).1
   .exact(r'.sim.hid i d x b n m k).lt
 have sI:Sim g0 ro (Q4 σ π) Hc M:=by
  refine sp.frames (λb q=>j0.lt b q) (λb q z=>?_) (λj b x n m k z=>?_) (λj b x c n m k z=>?_)
  .rcases z with z|z|⟨i,x,n,m,k⟩|⟨i,x,d,n,m,k⟩
   .exact s1.roFr b q z
   .exact z.2 q
   .exact(r'.sim.own i b x n m k).2.1 (aa b q)
   .exact(r'.sim.hid i d x b n m k).ro (aa b q)
  .have hX:frX b:=.inr (.inl ⟨j,x,n,m,k⟩);rcases z with z|z|⟨i,y,R,p2,Y⟩|⟨i,y,d,R,p2,Y⟩
   .exact(sp.own j b x n m k).2.2 (.inl z)
   .exact r'.sim.roFr b z.1 hX
   .exact(r'.sim.own i b y R p2 Y).2.2 hX
   .exact(r'.sim.hid i d y b R p2 Y).fr hX
  .have hX:frX c:=.inr (.inr ⟨j,x,b,n,m,k⟩);rcases z with z|z|⟨i,y,R,p2,Y⟩|⟨i,y,d,R,p2,Y⟩
   .exact(sp.hid j b x c n m k).fr (.inl z)
   .exact r'.sim.roFr c z.1 hX
   .exact(r'.sim.own i c y R p2 Y).2.2 hX
   .exact(r'.sim.hid i d y c R p2 Y).fr hX
 let X:Ctx T:={l:=l,J:=λrem q g W=>∃s F σ1,V s rem/\RJ D F σ1 (Hp s) .ready none q g W,Jx:=λ_ q g W=>∃H2 c F σ1,Jump Q env c H2/\RJ D F σ1 H2 .done (some c) q g W,enc:=enc,nx:=nx}
 have au:∀p∈ps,p<N:=λp hp=>by simpa using Xp.1 a7 p hp
 have hX:X.ok P:=by
  refine⟨⟨λrem q g W W' ad ⟨s,F,σ1,G,L⟩ he=>⟨s,F,σ1,G,L.step hD he⟩,λrem q g g' W ⟨s,F,σ1,G,L⟩ hg hl=>⟨s,F,σ1,G,L.up hg hl⟩⟩,
   ⟨λrem q g W W' ad ⟨H2,c,F,σ1,G,L⟩ he=>⟨H2,c,F,σ1,G,L.step hD he⟩,λrem q g g' W ⟨H2,c,F,σ1,G,L⟩ hg hl=>⟨H2,c,F,σ1,G,L.up hg hl⟩⟩,?_⟩
  rintro lr x rem q g ri W vs bb ⟨s,F,σ1,G,L⟩ hq hI a6;obtain⟨a8,tm,a3,a2,y1,y2⟩:=RJ.round (D:=D) (Q:=Q) (K:=λH2=>∃s',V s' rem/\H2=Hp s') hD rfl r.size au (ar x) hq hI a6 L (ah s lr x rem G bb);refine⟨a8,tm,a3,a2,y1,RoundIn.mono y2 ?_⟩;rintro e W' ⟨g',k1,k2⟩;refine⟨g',ri,λ_ z=>z,k1,?_⟩;rcases k2 with⟨rfl,H2,u,σ2,⟨s',a4,rfl⟩,k3⟩|⟨rfl,H2,c,u,σ2,k3,k4⟩
  .exact .inl ⟨rfl,s',u,σ2,a4,k3⟩
  .exact .inr ⟨rfl,H2,c,u,σ2,k3,k4⟩
 have ax:∀(ev:Operand->Value),ev ae=.func (.func f) #[] E.toArray->ev (.const (.func (.yield l) #[] #[]))=.func (.yield l) #[] #[]->(resolve ev (rangeCall ae l) 0).run P M=.ok {target:=.fn (.func f) E.toArray,args:= #[.func (.yield l) #[] #[]]} M:=by
  intro ev G L;simp[resolve,go_sem,G,L]
 refine⟨l,mark,M,{target:=.fn (.func f) E.toArray,args:= #[.func (.yield l) #[] #[]]},M,f, #[.func (.yield l) #[] #[]]++E.toArray,M,he,ax a.eval hv rfl,λ_ _=>trivial,by simp[invoke,go_sem,eg],λh=>by simp[WF,Fence.wide]at h,?_⟩;refine WF.calls.2 ?_;have ag:=aq X rfl rfl hX g0 ro (Q4 σ π) M E ro sI (λ_ z=>z) al ⟨s0,ad,σ',hV,j0⟩;have ai:(#[.func (.yield l) #[] #[]]++E.toArray:Array Value)=((Value.func (.yield X.l) #[] #[]::E)).toArray:=by simp[X]
 rw[ai];refine Calls.mono ag ?_;rintro e W' ⟨⟨v,rfl⟩,g2,qz,bd,az⟩;have fin:∀(H2:Qc) (st:LoopState) (pe:Option Code) (u:Nat->Prop) (σ2:Sig),st≠ .busy->RJ D u σ2 H2 st pe qz g2 W'->∃w4,(Instr.endLoop l).run P W'=.ok pe w4/\Rel D.fr1 u σ2 H2 env N {a with defers:=mark++a.defers} w4/\Qi fr ro w u w4:=by
  intro H2 st pe u σ2 hst j;refine⟨_,run_endLoop j.rc (by exact hst),?_⟩;obtain⟨s5,aj⟩:=j.sim.put (obj:=.loop {(D.rc st pe)with state:=.exhausted}) hD.l1 (QbE j.rc);have hr:=j.rc;refine⟨⟨s5,λt=>((j.env t).mono ⟨λ_ q=>q,λ_ _=>rfl,λ_ _ q=>q,λi b q=>Qcu j.sig q⟩).mono (aj.ext0 σ2),r.size,j.marks.to λB _ e2 e3=>⟨e2,(aj.keepFr B (λe=>?_)).trans e3⟩⟩,j.ev.trans (aj.frMono λb q e=>af (by have e':b=l:=e;rw[<- e'];exact q))⟩;subst e;rw[hr]at e3;cases e3
 have aw:Grow fr w a.defers D.fr1 (mark++a.defers):=by
  refine⟨λb q=>.inl q,λb q=>q.imp id (λq=>q.1),λd hd=>List.mem_append_right _ hd,λd hd=>?_⟩;rcases Vs.1 hd with hd|hd
  .obtain⟨B,e1,e2,_⟩:=ak d hd;exact .inr ⟨B,e1,e2⟩
  .exact .inl hd
 have ay:∀{σ2:Sig},σ2.take H.length=σ->σ2.take h0=σ.take h0:=by
  intro σ2 h;have:=congrArg (List.take h0) h
  rwa [List.take_take,Xx hh]at this
 rcases az with⟨s,u,σ2,G,L⟩|⟨rem,H2,c,u,σ2,G,L⟩
 .obtain⟨w4,f1,f2,f3⟩:=fin _ _ _ u σ2 (by intro e;cases e) L;exact⟨none,w4,f1,.normal,env,_,u,σ2,_,rfl,am s G,f2,f3,ay L.sig,aw⟩
 .obtain⟨w4,f1,f2,f3⟩:=fin _ _ _ u σ2 (by intro e;cases e) L;refine⟨some c,w4,f1,?_⟩;have hc:TC P h0 N c env H2 Q:=by
   rcases G with⟨id,rfl,G⟩|⟨rfl,G⟩
   .exact TC.exit G
   .exact TC.ret G
  exact Code.wpIn_mono (λe a w q=>q.grow f3 (ay L.sig) aw) (hc rd D.fr1 u σ2 _ w4 f2 (hrd.to f3 λb q=>.inl q))
section
variable {P:Program} {T:Type} {ts tq te k tm:Nat} {g:FuncId} {es:List (A×A)} {e:T->List A} {ea:T->A} {xs:List T}
end
theorem Qj7{T:Type}{X:Ctx T}{P:Program}{h0 N:Nat}{c:Code}{env d:Env}{H H':Qc}{m:YSt T}{Q:Yn T}(f:Le h0 env H d H')(h:TCy X P h0 N c d H' m Q):TCy X P h0 N c env H m Q:=by
 intro z x l y σ a w g r hj hrd;obtain⟨k,σ',p,s,t⟩:=f l y σ N a w r;obtain⟨⟨n,u,j⟩,i⟩:=hj;exact Code.wpIn_mono (λe a w q=>q.grow s (XO _) t (Grow.refl _ _ _)) (h z x l k σ' a w g p ⟨⟨n,(by grind),j⟩,i⟩ hrd)
theorem QhD{P:Program}{o:Oper}{env:Env}{H:Qc}{y z:Operand}{l:Nat}{a:A}{k:Array TypeId}(f:o.op=.call {callee:=.value y,args:= #[z],argTypes:=k})(g:opA env y=.fn (.yield l) [] [])(j:opA env z=a)(i:Yd a=true){N:Nat}:
  ∀fr ro σ act w,Rel fr ro σ H env N act w->∃vs:List Value,LR ro [] w [a] vs/\(execOp act.eval o).run P w=(Instr.yield l vs.toArray).run P w:=by
 intro fr ro σ act w r;have d:=Ql r y;rw[g]at d;obtain⟨m,p,d,h,n⟩:=d;obtain rfl:m=[]:=h;have e:=Ql r z;rw[j]at e;refine⟨[act.eval z],⟨_,_,rfl,VR.data i e,rfl⟩,?_⟩;generalize act.eval=ev at*;simp[execOp,f,invoke,go_sem,d]
theorem QgO{P:Program}{o:Oper}{env:Env}{H:Qc}{y e a:Operand}{l:Nat}{g h:A}{t:Array TypeId}(p:o.op=.call {callee:=.value y,args:= #[e,a],argTypes:=t})(q:opA env y=.fn (.yield l) [] [])(i:opA env e=g)(f:opA env a=h)(k:Yd g=true)(j:Yd h=true){N:Nat}:
  ∀fr ro σ act w,Rel fr ro σ H env N act w->∃vs:List Value,LR ro [] w [g,h] vs/\(execOp act.eval o).run P w=(Instr.yield l vs.toArray).run P w:=by
 intro fr ro σ act w r;have d:=Ql r y;rw[q]at d;obtain⟨u,z,d,s,x⟩:=d;obtain rfl:u=[]:=s;have n:=Ql r e;rw[i]at n;have m:=Ql r a;rw[f]at m;refine⟨[act.eval e,act.eval a],⟨_,_,rfl,VR.data k n,_,_,rfl,VR.data j m,rfl⟩,?_⟩;generalize act.eval=ev at*;simp[p,invoke,go_sem,d]
section
variable {P:Program} {K V:Type} {tm tb ty tk kt et:Nat} {ek:K->A} {ev:V->A} {m:List (K×V)} {T:Type}
end
section
variable {P:Program} {o:Oper} {env:Env} {H:Qc} {fr ro:Nat->Prop} {σ:Sig} {w:World}
theorem Qc4{h0 i m T:Nat}{d:List A}(j:H[i]?=some (.cells T d)):Le h0 env H env (H.set i (.cells T (d.set m .any))):=by
 intro u t σ N a w r;refine⟨t,σ,⟨r.sim.weaken j rfl ?_,r.env,r.size,r.defers⟩,λ_ q=>q,rfl⟩;intro y h;cases y with
 |none=>exact h
 |some b=>
  obtain⟨l,f,n,g⟩:=h;refine⟨l,f,?_,g⟩;clear f g j
  induction d generalizing m l with
  |nil=>exact n
  |cons c d p=>
   obtain⟨v,e,rfl,s,k⟩:=n;cases m with
   |zero=>exact⟨v,e,rfl,trivial,k⟩
   |succ m=>exact⟨v,e,rfl,s,p e k⟩
theorem Pts.ents{i a t e f j g:Nat}{l:List Ent}{x:Ent}{d:List A}(he:l[e]?=some x)(q:H[i]?=some (.ents t j g l):=by exact rfl)(ho:a=e*3+f:=by exact rfl)(hcs:(eC j g x).drop f=d:=by exact rfl):Pts H (.ptr i a) d:=by
 intro z y σ w v s h;obtain⟨b,n,r⟩:=h;obtain⟨u,m,p⟩:=s.blk i _ _ n q;have k:(l.map (eC j g))[e]?=some (eC j g x):=by rw[Xl,he];rfl
 have:=((YB (pre:=[]) (by simpa using m) p).get e k).2.drop f;refine⟨b,a,r,?_⟩;rw[<- hcs,ho];simpa using this
end
section
variable {P:Program} {h0 N:Nat} {A B C:Code} {env:Env} {H:Qc} {Q:Qx}
end
section
variable {P:Program} {o:Oper} {env:Env} {H:Qc}
theorem Qds{f g:Nat->Option (Nat×Nat)}:∀(parts:List (Nat×Value)) (cs:Array Value),(∀p∈parts,f p.1=g p.1)->Instr.fill f cs parts=Instr.fill g cs parts
 |[],cs,_=>rfl
 |(i,v)::rest,cs,h=>by
  unfold Instr.fill;rw[h (i,v) (by simp)];have ih:=λcs=>Qds rest cs (λp hp=>h p (by simp[hp]));cases g i with
  |none=>rfl
  |some p=>
   simp;split
   .rfl
   .exact ih _
theorem QeP{t e n k:Nat}{z:Value}{zs d:List A}{parts:List (Nat×Operand)}(F:∀w,(zeroValue t).run P w=.ok z w)(j:ZR (.agg zs) z)(u:∀w,(underlying t).run P w=.ok (.array n e) w)(E:∀w,(sizeOf e).run P w=.ok k w)
  (G:(parts.all λp=>Nat.blt p.1 n)=true)(h:o.op=.build t parts.toArray:=by exact rfl)(hf:QcE env ((List.range n).map λi=>(i*k,k)) zs parts=some d:=by exact rfl):OpV P o env H (.agg d):=by
 intro L J σ N a w r;obtain⟨l,rfl,m⟩:=j J σ w;obtain⟨f,x,s⟩:=Qdt r parts zs l d m hf;refine⟨.agg f.toArray,?_,f,rfl,s⟩;have g:Instr.fill (λi=>some (i*k,k)) l.toArray (parts.map λp=>(p.1,a.eval p.2))=some f.toArray:=by
  rw[<- x];refine Qds _ _ ?_;intro p y;obtain⟨q,B,rfl⟩:=Xe.1 y;have hlt:=by simpa using Xp.1 G q B
  simp[hlt]
 simp[execOp,h,Instr.build,Vg,F,Result.andThen,u,E,XD,Vh,Value.cells,g]
def Yo(k:IntKind)(m n:Int):Int:=k.wrap (BitVec.ofInt k.bits m&&& BitVec.ofInt k.bits n).toNat
def Yq(k:IntKind)(m n:Int):Int:=m.fdiv (2^(min n.toNat k.bits))
theorem OpV.and{t u:TypeId}{x y:Operand}{k:IntKind}{m n:Int}(d:o.op=.binOp .and t x y u)(e:opA env x=.int k m)(f:opA env y=.int k n):OpV P o env H (.int k (Yo k m n)):=by
 intro j i σ N a w r;have g:=QH r e;have h:=QH r f;refine⟨_,?_,rfl⟩;generalize a.eval=ρ at*;simp[d,g,h,Op.intBits,go_sem,Yo]
theorem OpV.shr{t u:TypeId}{x y:Operand}{k h:IntKind}{m n:Int}(d:o.op=.binOp .shr t x y u)(f:opA env x=.int k m)(e:opA env y=.int h n)(i:0<=n):OpV P o env H (.int k (Yq k m n)):=by
 intro p l σ N a w r;have g:=QH r f;have j:=QH r e;refine⟨_,?_,rfl⟩;generalize a.eval=ρ at*;simp[d,g,j,Op.shift,go_sem,Yq,Int.not_lt.2 i]
theorem Yt{h0 i m t k T:Nat}{d:List A}(F:Nat.ble h0 H.length=true)(g:H[i]?=some (.cells T d))(f:d[m]?=some .nils):
  Le h0 env H env (H.set i (.cells T (d.set m (.osl H.length 0 0 k)))++[.row t k []]):=by
 intro J j σ N a w r;have hh':=XM F;have hi:=(XG.1 g).1;have ext:Ext j σ w j (σ++[none]) w:=⟨λ_ q=>q,λ_ _=>rfl,λ_ _ q=>q,λ_ _ h=>QbD h⟩;have s:=r.sim.phantom t k;have e:(H++[Blk.row t k []])[i]?=some (.cells T d):=by rw[XH hi];exact g
 have u:H.set i (.cells T (d.set m (.osl H.length 0 0 k)))++[.row t k []]=(H++[Blk.row t k []]).set i (.cells T (d.set m (.osl H.length 0 0 k))):=by
  rw[List.set_append_left _ _ hi]
 rw[u];refine⟨j,σ++[none],⟨s.weaken e rfl ?_,λq=>(r.env q).mono ext,r.size,r.defers⟩,λ_ q=>q,QB (by rw[r.sim.len];exact hh')⟩;intro y h;cases y with
 |none=>exact h
 |some b=>
  obtain⟨l,p,G,x⟩:=h;refine⟨l,p,?_,x⟩;clear p x e u g
  induction d generalizing m l with
  |nil=>cases f
  |cons c d E=>
   obtain⟨v,n,rfl,z,B⟩:=G;cases m with
   |zero=>
    simp at f;subst f;exact⟨v,n,rfl,.inl ⟨rfl,z⟩,B⟩
   |succ m=>exact⟨v,n,rfl,z,E (by simpa using f) n B⟩
def SrcB(P:Program)(H:Qc)(x:A)(l:List Int):Prop:=
 ∀fr ro σ w v,Sim fr ro σ H w->VR ro σ w x v->(∃a c,v=.slice a 0 c/\l=[])\/ ∃b off c,v=.slice (some ⟨b,off,none⟩) l.length c/\(l=[]\/CR ro σ w b (l.map λn=>A.int .u8 n) off)
theorem QeC:∀(l:List Int),(l.map (λn=>[A.int .u8 n])).flatten=l.map λn=>A.int .u8 n
 |[]=>rfl
 |n::l=>by simp[QeC l]
theorem SrcB.nils:SrcB P H .nils []:=λfr ro σ w v s h=>.inl ⟨none,0,h,rfl⟩
theorem SrcB.row{i t n:Nat}{l:List Int}(j:H[i]?=some (.row t 1 (l.map λn=>[A.int .u8 n])):=by exact rfl)(hn:l.length=n:=by exact rfl):SrcB P H (.osl i 0 n 1) l:=by
 intro F E σ w v s h;rcases h with⟨rfl,rfl⟩|⟨b,p,a,B,m,k,rfl,r,⟨y,f⟩,x,u⟩
 .exact .inl ⟨none,0,rfl,Vy.1 hn⟩
 .refine .inr ⟨b,p,a,by rw[hn],?_⟩;by_cases d:l=[]
  .exact .inl d
  .have:0<a:=by have:=List.length_pos_iff.2 d;omega
   obtain rfl:=r this;obtain⟨z,g,q⟩:=s.blk i _ _ k j;have e:=(YB (pre:=[]) (by simpa using g) q).flat.1;rw[QeC]at e;exact .inr (by simpa using e.lift)
theorem SrcB.rsl{l:List Int}:SrcB P H (.rsl 1 (l.map λn=>[A.int .u8 n])) l:=by
 intro j i σ w v s ⟨a,c,h1,h2,e⟩;subst h1;rw[XW]at*;rcases e with e|⟨b,d,rfl,h,g⟩
 .have:=List.map_eq_nil_iff.1 e;subst this;exact .inl ⟨a,c,by simp,rfl⟩
 .have f:=g.flat.1;rw[QeC]at f;exact .inr ⟨b,d,c,rfl,.inr f.lift⟩
end
def QaT:Option Blk->Bool
 |some .dead=>true
 |_=>false
def Qal(hB hE:Nat)(H H':Qc):Bool:=(List.range (hE-hB)).all λp=> !QaT H'[hB+p]? ||QaT H[hB+p]?
def QgL(hB hE:Nat)(σ:Sig)(H:Qc):Prop:=∀p,hB<=p->p<hE->QaT H[p]?=true->σ[p]?=some none
theorem Qg7{hB hE:Nat}{H H':Qc}(h:Qal hB hE H H'=true){p:Nat}(e:hB<=p)(d:p<hE)(a:QaT H'[p]?=true):QaT H[p]?=true:=by
 have:=Xp.1 h (p-hB) (List.mem_range.2 (by omega));rw[show hB+(p-hB)=p by omega,a]at this;simpa using this
theorem Sim.allocAt{fr ro:Nat->Prop}{σ:Sig}{H:Qc}{w:World}(s:Sim fr ro σ H w){p:Nat}(M:σ[p]?=some none){obj:Obj}{x:Blk}
  (P:BR ro (σ.set p (some w.heap.size)) (w.alloc obj) x (some w.heap.size))
  (E:∀c,Hid (w.alloc obj) x w.heap.size c->False:=by exact λ_ h=>h.elim):Sim fr ro (σ.set p (some w.heap.size)) (H.set p x) (w.alloc obj):=by
 have ev:Qi fr ro w ro (w.alloc obj):=Qi.alloc obj s.roLt s.frLt;have t:=s.len;have F:p<σ.length:=(XG.1 M).1;have u:Ext ro σ w ro (σ.set p (some w.heap.size)) (w.alloc obj):=⟨ev.sub,ev.keepRo,ev.shape,λi b q=>by
  rw[XK (λz=>by subst z;rw[M]at q;cases q)];exact q⟩
 have e:∀(i:Nat) (y:Option Nat),(σ.set p (some w.heap.size))[i]?=some y->(i≠p/\σ[i]?=some y)\/(i=p/\y=some w.heap.size):=by
  intro i y h;by_cases q:i=p
  .subst q;rw[Xa F]at h;exact .inr ⟨rfl,(XU h).symm⟩
  .rw[XK (λz=>q z.symm)]at h;exact .inl ⟨q,h⟩
 have n:∀i:Nat,i≠p->(H.set p x)[i]?=H[i]? :=λi N=>XK (λz=>N z.symm);have L:(H.set p x)[p]?=some x:=Xa (by omega);refine⟨by simp[t],s.roOk.to (λ_ q=>q) ev.keepRo (λb h=>?_),λb h=>?_,s.roFr,?_,?_,?_,s.hidTo (· = ·) QX (by rw[YD];omega) (λ_ _ _ _ _ _ _ q=>q) (λ_ _ _ _ _ _ _ q=>q) λj d y l k Q=>?_⟩
 rotate_left 5
 .rcases e j _ l with⟨q,l⟩|⟨rfl,m⟩
  .rw[n j q]at k;exact .inl ⟨j,y,rfl,l,k,id,λc q=>s.hidKeep l k (λz=>Q2 w obj d (s.own j d y l k z).1) ev.keepRo q⟩
  .rw[L]at k;cases k;cases m;exact .inr ⟨XO _,E⟩
 .rw[YD];have:=s.roLt b h;omega
 .rw[YD];have:=s.frLt b h;omega
 .intro i b y f g r;rw[YD];rcases e i _ f with⟨q,f⟩|⟨rfl,m⟩
  .rw[n i q]at g;obtain⟨a,b,c⟩:=s.own i b y f g r;exact⟨by omega,b,c⟩
  .cases m;exact⟨by omega,λq=>by have:=s.roLt _ q;omega,λq=>by have:=s.frLt _ q;omega⟩
 .intro i j b y z f g r B G J;rcases e i _ f with⟨q,l⟩|⟨O,m⟩<;>rcases e j _ g with⟨q',k⟩|⟨ej,e2⟩
  .rw[n i q]at r;rw[n j q']at B;exact s.inj i j b y z l k r B G J
  .cases e2;rw[n i q]at r;have:=(s.own i _ y l r G).1;omega
  .cases m;rw[n j q']at B;have:=(s.own j _ z k B J).1;omega
  .rw[O,ej]
 .intro i y z f g;rcases e i _ f with⟨q,f⟩|⟨rfl,m⟩
  .rw[n i q]at g;refine(s.blk i y z f g).keep u ?_ ?_
   .rintro b rfl t;exact Q2 w obj b (s.own i b z f g t).1
   .rintro b c rfl t;exact Q2 w obj c (s.hid i b z c f g t).lt
  .rw[L]at g;cases g;subst m;exact P
def OpZ(P:Program)(o:Oper)(t:Nat)(cs:List A):Prop:=
 ∀(ro:Nat->Prop) (σ:Sig) (w:World) (a:Act),∃l:List Value,(execOp a.eval o).run P w=.ok (.value (.pointer (some ⟨w.heap.size,0,none⟩))) (w.alloc (.cells l.toArray t))/\LR ro σ w cs l/\ ∀v∈l,Qu v
theorem OpZ.alloc{P:Program}{o:Oper}{t:Nat}{z:Value}{v:A}{d:List A}(j:∀w,(zeroValue t).run P w=.ok z w)(h:ZR v z)(g:o.op=.alloc t:=by exact rfl)(hk:Q6 v=true:=by exact rfl)(hcs:QZ v=d:=by exact rfl)(hpl:d.all Yf=true:=by exact rfl):
  OpZ P o t d:=by
 intro i σ w a;obtain⟨l,k,f⟩:=(h i σ w).cells hk;subst hcs;refine⟨l,?_,f,f.plain hpl⟩;generalize a.eval=ρ at*;have e:(newVar t z).run P w=.ok ⟨w.heap.size,0,none⟩ (w.alloc (.cells l.toArray t)):=by
  unfold newVar;rw[k];rfl
 simp only[execOp,g,Instr.alloc,Vg,j,Result.andThen,e];rfl
def OpZR(P:Program)(o:Oper)(e:Env)(H:Qc)(p:Nat)(x:A)(B:Blk):Prop:=
 ∀fr ro σ N a w,Rel fr ro σ H e N a w->∃v obj,(execOp a.eval o).run P w=.ok (.value v) (w.alloc obj)/\(∀c,Hid (w.alloc obj) B w.heap.size c->False)/\
  ∀σ',σ'[p]?=some (some w.heap.size)->Ext ro σ w ro σ' (w.alloc obj)->VR ro σ' (w.alloc obj) x v/\BR ro σ' (w.alloc obj) B (some w.heap.size)
theorem Qbs{P:Program}{l:List Oper}{i:Nat}{o:Oper}{rd:Option Nat}{R:Exit->Act->World->Prop}{Q:Exit->Act->World->Prop}{K:Act->World->Prop}{a:Act}{w:World}
  (B:l[i]?=some o)(h:wpL P rd l.toArray R [o] a w)(k:∀e a' w',R e a' w'->e=.normal/\a'.defers=a.defers)(m:∀v w',R .normal (a.put o.dst v) w'->K (a.put o.dst v) w'):
  wpOpIn (WF rd) 0 P l.toArray Q i K a w:=by
 unfold wpOpIn;have s:l.toArray[i]?=some o:=by simpa using B
 rw[s];simp only;unfold wpL wpListIn at h;split at h
 .rename_i t;rw[Vm t];obtain⟨j,h⟩:=h;refine⟨j,?_⟩;have g:=Qe2 (by
   intro a' w' q;unfold wpListIn at q;exact(k _ _ _ q).2) h
  generalize(o.semAt (WF rd).round a.eval).run P w=res at*;cases res with
  |ok n w'=>
   cases n with
   |value v=>exact m _ _ g.1
   |skip=>exact m _ _ g.1
   |defer G=>
    exfalso;have:=(k _ _ _ g.1).2;have:=congrArg List.length this
    revert this
    cases o.dst<;>simp[Act.put]
   |enter f p=>
    refine⟨g.1,CallsIn.mono g.2 (λe u d=>?_)⟩;cases e with
    |returned v=>exact m _ _ d.1
    |panicked c=>have:=(k _ _ _ d).1;cases this
    |outgrown=>obtain⟨E,F,d⟩:=d;have:=(k _ _ _ d).1;cases this
   |row r p=>
    exact⟨g.1,RowsIn.mono g.2 (λ_ _ d=>m _ _ d.1)⟩
   |round l f z assign y=>
    refine⟨g.1,RoundIn.mono g.2 (λe u d=>?_)⟩;cases e with
    |returned v=>exact m _ _ d.1
    |panicked c=>have:=(k _ _ _ d).1;cases this
    |outgrown=>obtain⟨E,F,d⟩:=d;have:=(k _ _ _ d).1;cases this
   |_=>exact g.elim
  |halt x w'=>
   cases x with
   |panic v=>have:=(k _ _ _ g).1;cases this
   |_=>exact g.elim
 .rename_i t;rw[Vl t];obtain⟨j,h⟩:=h;refine⟨j,?_⟩;unfold wpListIn at h;exact m _ _ h
theorem Qg6{P:Program}{l:List Oper}{m:Nat}(s:∀i o,l[i]?=some o->∀j∈Qj o,j<i)(k:∀i o,m<i->l[i]?=some o->i-1∈Qj o){Q:Exit->Act->World->Prop}{rd:Option Nat}:
  ∀(d t:Nat) (L:Array Bool) (a:Act) (w:World),L.size=l.length->(∀i,i<l.length->(onL L i↔i<t))->unl L<=d->m<=t->t<=l.length->
   wpL P rd l.toArray Q (l.drop t) a w->wpAnyIn (WF rd) 0 P .any l.toArray Q d L a w:=by
 intro d
 induction d with
 |zero=>
  intro t L a w hsz hL hf hm ht h;have:t=l.length:=by
   rcases Vr t l.length with q|q
   .have:=Qgk (L:=L) (i:=t) (by omega) (λz=>by have:=(hL t q).1 z;omega);omega
   .omega
  subst this;refine⟨List.eq_nil_iff_forall_not_mem.2 λi p=>?_,?_⟩
  .obtain⟨o,g,n,_⟩:=(Qau hsz).1 p;have e:=(XG.1 g).1;exact n ((hL i e).2 e)
  .rw[Xo]at h;exact h
 |succ d H=>
  intro t L a w hsz hL hf hm ht h;have u:∀i o,l[i]?=some o->¬onL L i->(∀j∈Qj o,onL L j)->i=t:=by
   intro i o g n x;have e:=(XG.1 g).1;have J:t<=i:=by
    rcases Vr i t with q|q
    .exact absurd ((hL i e).2 q) n
    .exact q
   rcases Vr t i with q|q
   .have:=(hL (i-1) (by omega)).1 (x _ (k i o (by omega) g));omega
   .omega
  rcases Vr t l.length with f|f
  .have E:l[t]?=some l[t]:=XF f;have r:¬onL L t:=λq=>by have:=(hL t f).1 q;omega
   have F:t∈Region.ready .any l.toArray L:=by
    refine(Qau hsz).2 ⟨_,E,r,λj y=>?_⟩;have:=s t _ E j y;exact(hL j (by omega)).2 this
   refine⟨λq=>(by rw[q]at F;cases F),λi p=>?_⟩;obtain⟨o,g,n,x⟩:=(Qau hsz).1 p;obtain rfl:=u i o g n x;rw[Xm f]at h;obtain rfl:l[i]=o:=by rw[XF f]at g;exact XU g
   unfold wpOpIn;rw[show l.toArray[i]?=some l[i]by rw[XB];exact g];simp only;unfold wpL wpListIn at h;have G:∀a w,wpL P rd l.toArray Q (l.drop (i+1)) a w->wpAnyIn (WF rd) 0 P .any l.toArray Q d (L.setIfInBounds i true) a w:=by
    intro a w q;have M:=Qeq (L:=L) (i:=i) (by omega) r;refine H (i+1) _ a w (by simpa using hsz) (λj y=>?_) (by omega) (by omega) (by omega) q;rw[YV (by omega),hL j y];omega
   split at h
   .rename_i B;rw[Vm B];exact Oper.wpIn_mono G h
   .rename_i B;rw[Vl B];exact⟨h.1,G _ _ h.2⟩
  .have:t=l.length:=by omega
   subst this;rw[Xo]at h;refine⟨λ_=>h,λi p=>?_⟩;obtain⟨o,g,n,_⟩:=(Qau hsz).1 p;have e:=(XG.1 g).1;exact absurd ((hL i e).2 e) n
def QiI(af ds:List Nat)(xs:List A)(env0 e:Env):Prop:=
 ∀s,(∃j x,af.contains j=true/\ds[j]?=some s/\xs[j]?=some x/\lk e s=x)\/lk e s=.any\/(ds.contains s=false/\lk e s=lk env0 s)
inductive YS (P:Program) (N:Nat) (l:List Oper) (ds:List Nat) (xs:List A) (env0:Env) (hB hE:Nat) (i:Nat) (H H':Qc):Prop
 |mk (o:Oper) (e:Env) (d:Nat) (x:A) (ho:l[i]?=some o) (hd:o.dst=some d) (hx:xs[i]?=some x) (hdd:Qal hB hE H H'=true) (hs:Sb (Qj o) (QeG l i) ds xs env0 e)
   (h:WO P H.length N l.toArray [o] e H (YC (up e d x) H')):YS P N l ds xs env0 hB hE i H H'
 |unit (o:Oper) (e:Env) (ho:l[i]?=some o) (hd:o.dst=none) (hx:xs[i]?=some .any) (hdd:Qal hB hE H H'=true) (hs:Sb (Qj o) (QeG l i) ds xs env0 e)
   (h:WO P H.length N l.toArray [o] e H (YC e H')):YS P N l ds xs env0 hB hE i H H'
 |alloc (o:Oper) (d t p:Nat) (cs:List A) (ho:l[i]?=some o) (hd:o.dst=some d) (hg:o.guard=none) (hx:xs[i]?=some (.ptr p 0)) (hp:(Nat.ble hB p&&Nat.blt p hE)=true) (hdead:QaT H[p]?=true)
   (hH:H.set p (.cells t cs)=H') (h:OpZ P o t cs) (hN:Nat.blt d N=true):YS P N l ds xs env0 hB hE i H H'
 |row (o:Oper) (e:Env) (d p:Nat) (x:A) (B:Blk) (ho:l[i]?=some o) (hd:o.dst=some d) (hg:o.guard=none) (hx:xs[i]?=some x) (hp:(Nat.ble hB p&&Nat.blt p hE)=true) (hdead:QaT H[p]?=true) (hlive:QaT (some B)=false)
   (hH:H.set p B=H') (hs:Sb (Qj o) (QeG l i) ds xs env0 e) (h:OpZR P o e H p x B) (hN:Nat.blt d N=true):YS P N l ds xs env0 hB hE i H H'
 |val (o:Oper) (e:Env) (d:Nat) (x:A) (ho:l[i]?=some o) (hd:o.dst=some d) (hg:o.guard=none) (hx:xs[i]?=some x) (hN:Nat.blt d N=true) (he:QiI (Qj o) ds xs env0 e) (h:OpV P o e H x)
   (hH:H=H':=by rfl):YS P N l ds xs env0 hB hE i H H'
 |woE (o:Oper) (e:Env) (d:Nat) (x:A) (ho:l[i]?=some o) (hd:o.dst=some d) (hx:xs[i]?=some x) (he:QiI (Qj o) ds xs env0 e) (hdd:Qal hB hE H H'=true) (h:WO P H.length N l.toArray [o] e H (YC (up e d x) H')):YS P N l ds xs env0 hB hE i H H'
theorem Sb.rel{af g f:List Nat}{xs:List A}{env0 e:Env}{ro:Nat->Prop}{σ:Sig}{w:World}{a:Act}(l:Sb af g f xs env0 e)
  (k:∀j∈af,∀s x,f[j]?=some s->xs[j]?=some x->VR ro σ w x (a.tmps.getD s undef))
  (h:∀s,f.contains s=false->VR ro σ w (lk env0 s) (a.tmps.getD s undef))(i:∀j s,g.contains j=true->f[j]?=some s->VR ro σ w (lk env0 s) (a.tmps.getD s undef)):
  ∀s,VR ro σ w (lk e s) (a.tmps.getD s undef):=by
 intro s
 induction l with
 |nil=>exact trivial
 | @dep j s1 x1 r h1 h2 h3 _ ih=>
  unfold lk;cases d:Nat.beq s s1 with
  |false=>exact ih
  |true=>
   obtain rfl:=XL d;exact k j (by simpa using h1) _ _ h2 h3
 | @old s1 x1 r h1 h2 _ ih=>
  unfold lk;cases d:Nat.beq s s1 with
  |false=>exact ih
  |true=>
   obtain rfl:=XL d;subst h2;exact h _ h1
 | @pre j s1 x1 r h1 h2 h3 _ ih=>
  unfold lk;cases d:Nat.beq s s1 with
  |false=>exact ih
  |true=>
   obtain rfl:=XL d;subst h3;exact i j _ h1 h2
structure After (fr ro:Nat->Prop) (σ:Sig) (w:World) (hB hE:Nat) (H':Qc) (xs:List A) (i:Nat) (o:Oper) (a':Act) (w':World) (ro':Nat->Prop) (σ':Sig):Prop where
 val:∀x,xs[i]?=some x->match o.dst with
  |some d=>VR ro' σ' w' x (a'.tmps.getD d undef)
  |none=>x=.any
 sim:Sim fr ro' σ' H' w'
 ev:Qi fr ro w ro' w'
 ext:Ext ro σ w ro' σ' w'
 holes:QgL hB hE σ' H'
 take:σ'.take hB=σ.take hB
theorem YS.use{P:Program}{N:Nat}{l:List Oper}{ds:List Nat}{xs:List A}{env0:Env}{hB hE i:Nat}{H H':Qc}(hb:YS P N l ds xs env0 hB hE i H H')
  {Q:Exit->Act->World->Prop}{K:Act->World->Prop}{fr ro:Nat->Prop}{σ:Sig}{a:Act}{w:World}{o:Oper}{rd:Option Nat}(O:l[i]?=some o)
  (f:Sim fr ro σ H w)(hN:a.tmps.size=N)(m:QaO fr a.defers w)(ae:Qco rd fr w)(hh:QgL hB hE σ H)(hl:hE<=H.length)(aj:hB<=hE)
  (hD:∀j∈Qj o,∀s x,ds[j]?=some s->xs[j]?=some x->VR ro σ w x (a.tmps.getD s undef))
  (hO:∀s,ds.contains s=false->VR ro σ w (lk env0 s) (a.tmps.getD s undef))(hP:∀j s,(QeG l i).contains j=true->ds[j]?=some s->VR ro σ w (lk env0 s) (a.tmps.getD s undef))
  (hK:∀v w' ro' σ',After fr ro σ w hB hE H' xs i o (a.put o.dst v) w' ro' σ'->K (a.put o.dst v) w'):
  wpOpIn (WF rd) 0 P l.toArray Q i K a w:=by
 have V:∀{e:Env} {H2:Qc} {E:Exit} {u:Act} {w':World},Qa8 H.length fr ro σ w N a.defers (YC e H2) E u w'->E=.normal/\u.defers=a.defers:=by
  rintro e H2 E u w' ⟨x,_,_,_,_,_,k,⟨rfl,_⟩,_,_,_,M,_⟩;refine⟨?_,M⟩;cases E<;>first|rfl|exact k.elim|cases k
 have ah:∀{σ':Sig} {w':World},Qi fr ro w ro w'->σ'.take H.length=σ.take H.length->True:=λ_ _=>trivial;have T:∀{e:Env} {u:Act} {w':World},Qa8 H.length fr ro σ w N a.defers (YC e H') .normal u w'->Qal hB hE H H'=true->
   ∃ro' σ',Sim fr ro' σ' H' w'/\Qi fr ro w ro' w'/\Ext ro σ w ro' σ' w'/\QgL hB hE σ' H'/\σ'.take hB=σ.take hB/\ ∀s,VR ro' σ' w' (lk e s) (u.tmps.getD s undef):=by
  rintro e u w' ⟨_,ai,H2,ro',σ',ak,_,⟨_,rfl,rfl⟩,r',he,ht,_,ag⟩ J;have hσ:σ'=σ++σ'.drop H.length:=by
   conv=>lhs;rw[<- Xv H.length σ']
   rw[ht, <- f.len,X4]
  refine⟨ro',σ',r'.sim.frMono ag.sub,he,?_,?_,?_,r'.env⟩
  .rw[hσ];exact he.ext σ _
  .intro p k M h3;have:=hh p k M (Qg7 J k M h3);rw[hσ,XH (by rw[f.len];omega)];exact this
  .rw[hσ];exact QB (by rw[f.len];omega)
 cases hb with
 |woE n e d x g L hx he J h=>
  obtain rfl:n=o:=XU (g.symm.trans O);have hr:∀s,VR ro σ w (lk e s) (a.tmps.getD s undef):=λs=>by
   rcases he s with⟨j,x,k,M,h3,X⟩|X|⟨k,X⟩
   .rw[X];exact hD j (by simpa using k) s x M h3
   .rw[X];exact trivial
   .rw[X];exact hO s k
  refine Qbs O (h rd fr ro σ a w ⟨f,hr,hN,m⟩ ae) (λ_ _ _ q=>V q) (λv w' q=>?_);obtain⟨ro',σ',g1,g2,G,g4,g5,g6⟩:=T q J;refine hK v w' ro' σ' ⟨λy W=>?_,g1,g2,G,g4,g5⟩;obtain rfl:=XU (hx.symm.trans W);have:=g6 d;unfold lk at this;rw[Vu]at this;rw[L]at this⊢;exact this
 |mk n e d x g L hx J hs h=>
  obtain rfl:n=o:=XU (g.symm.trans O);refine Qbs O (h rd fr ro σ a w ⟨f,hs.rel hD hO hP,hN,m⟩ ae) (λ_ _ _ q=>V q) (λv w' q=>?_);obtain⟨ro',σ',g1,g2,G,g4,g5,g6⟩:=T q J;refine hK v w' ro' σ' ⟨λy W=>?_,g1,g2,G,g4,g5⟩;obtain rfl:=XU (hx.symm.trans W);have:=g6 d;unfold lk at this;rw[Vu]at this;rw[L]at this⊢;exact this
 |unit n e g L hx J hs h=>
  obtain rfl:n=o:=XU (g.symm.trans O);refine Qbs O (h rd fr ro σ a w ⟨f,hs.rel hD hO hP,hN,m⟩ ae) (λ_ _ _ q=>V q) (λv w' q=>?_);obtain⟨ro',σ',g1,g2,G,g4,g5,g6⟩:=T q J;refine hK v w' ro' σ' ⟨λy W=>?_,g1,g2,G,g4,g5⟩;obtain rfl:=XU (hx.symm.trans W);rw[L]
 |val n e d x g L hg hx Y he h hH=>
  obtain rfl:n=o:=XU (g.symm.trans O);subst hH;have hr:Rel fr ro σ H e N a w:=by
   refine⟨f,λs=>?_,hN,m⟩;rcases he s with⟨j,x,k,M,h3,X⟩|X|⟨k,X⟩
   .rw[X];exact hD j (by simpa using k) s x M h3
   .rw[X];exact trivial
   .rw[X];exact hO s k
  obtain⟨v0,k,M⟩:=h fr ro σ N a w hr;have hw:Region.wanted n (yielded l.toArray a.tmps)=true:=by unfold Region.wanted;rw[hg]
  refine Qbs (R:=λE u w'=>E=.normal/\u.defers=a.defers/\u=a.put n.dst v0/\w'=w) O (YQ hw k ?_) (λ_ _ _ q=>⟨q.1,q.2.1⟩) (λv w' q=>?_)
  .unfold wpL wpListIn;refine⟨rfl,?_,rfl,rfl⟩;rw[L];rfl
  .obtain⟨_,_,q1,rfl⟩:=q;refine hK v _ ro σ ⟨λy W=>?_,f,Qi.refl _ _ _,⟨λ_ q=>q,λ_ _=>rfl,λ_ _ q=>q,λ_ _ q=>q⟩,hh,rfl⟩;obtain rfl:=XU (hx.symm.trans W);rw[q1,L];have aa:d<a.tmps.size:=by rw[hN];simpa using Y
   show VR ro σ w' x _;simpa[Act.put,Array.getD_eq_getD_getElem?,aa]using M
 |row n e d p x B g L hg hx hp F hlive hH hs h Y=>
  obtain rfl:n=o:=XU (g.symm.trans O);subst hH;simp only[XR]at hp;have ab:=XM hp.1;have ac:p<hE:=by simpa using hp.2
  have hσp:=hh p ab ac F;have hr:Rel fr ro σ H e N a w:=⟨f,hs.rel hD hO hP,hN,m⟩;obtain⟨v0,af,k,M,h3⟩:=h fr ro σ N a w hr;have hw:Region.wanted n (yielded l.toArray a.tmps)=true:=by unfold Region.wanted;rw[hg]
  have ev:Qi fr ro w ro (w.alloc af):=Qi.alloc _ f.roLt f.frLt;have ad:p<σ.length:=by rw[f.len];omega
  have r:Ext ro σ w ro (σ.set p (some w.heap.size)) (w.alloc af):=⟨ev.sub,ev.keepRo,ev.shape,λj b q=>by
   rw[XK (λz=>by subst z;rw[hσp]at q;cases q)];exact q⟩
  obtain⟨g8,g9⟩:=h3 _ (Xa ad) r;refine Qbs (R:=λE u w'=>E=.normal/\u.defers=a.defers/\u=a.put n.dst v0/\w'=w.alloc af) O (YQ hw k ?_) (λ_ _ _ q=>⟨q.1,q.2.1⟩) (λv w' q=>?_)
  .unfold wpL wpListIn;refine⟨rfl,?_,rfl,rfl⟩;rw[L];rfl
  .obtain⟨_,_,q1,rfl⟩:=q;refine hK v _ ro (σ.set p (some w.heap.size)) ⟨λy W=>?_,f.allocAt hσp g9 M,ev,r,λp' g1 g2 G=>?_,?_⟩
   .obtain rfl:=XU (hx.symm.trans W);rw[q1,L];have aa:d<a.tmps.size:=by rw[hN];simpa using Y
    show VR ro _ _ x _;simpa[Act.put,Array.getD_eq_getD_getElem?,aa]using g8
   .by_cases q:p'=p
    .subst q;rw[Xa (by omega),hlive]at G;cases G
    .rw[XK (λz=>q z.symm)]at G⊢;exact hh p' g1 g2 G
   .rw[List.take_set,List.set_eq_of_length_le];rw[Xu];omega
 |alloc n d t p cs g L hg hx hp F hH h Y=>
  obtain rfl:n=o:=XU (g.symm.trans O);subst hH;simp only[XR]at hp;have ab:=XM hp.1;have ac:p<hE:=by simpa using hp.2
  have hσp:=hh p ab ac F;obtain⟨lv,k,M,h3⟩:=h ro σ w a;have hw:Region.wanted n (yielded l.toArray a.tmps)=true:=by unfold Region.wanted;rw[hg]
  have ev:Qi fr ro w ro (w.alloc (.cells lv.toArray t)):=Qi.alloc _ f.roLt f.frLt;have ad:p<σ.length:=by rw[f.len];omega
  have r:Ext ro σ w ro (σ.set p (some w.heap.size)) (w.alloc (.cells lv.toArray t)):=⟨ev.sub,ev.keepRo,ev.shape,λj b q=>by
   rw[XK (λz=>by subst z;rw[hσp]at q;cases q)];exact q⟩
  refine Qbs (R:=λE u w'=>E=.normal/\u.defers=a.defers/\u=a.put n.dst (.pointer (some ⟨w.heap.size,0,none⟩))/\w'=w.alloc (.cells lv.toArray t)) O (YQ hw k ?_) (λ_ _ _ q=>⟨q.1,q.2.1⟩) (λv w' q=>?_)
  .unfold wpL wpListIn;refine⟨rfl,?_,rfl,rfl⟩;rw[L];rfl
  .obtain⟨_,_,q1,rfl⟩:=q;refine hK v _ ro (σ.set p (some w.heap.size)) ⟨λy W=>?_,f.allocAt hσp ⟨lv,Yi _ _,M.mono r,h3⟩,ev,r,λp' g1 g2 G=>?_,?_⟩
   .obtain rfl:=XU (hx.symm.trans W);rw[q1,L];have aa:d<a.tmps.size:=by rw[hN];simpa using Y
    refine⟨w.heap.size,Xa ad,?_⟩;simp[Act.put,Array.getD_eq_getD_getElem?,aa]
   .by_cases q:p'=p
    .subst q;rw[Xa (by omega)]at G;cases G
    .rw[XK (λz=>q z.symm)]at G⊢;exact hh p' g1 g2 G
   .rw[List.take_set,List.set_eq_of_length_le];rw[Xu];omega
def same(a b:List Nat):Bool:=a.all (b.contains ·)&&b.all (a.contains ·)
theorem QiV{a b:List Nat}(h:same a b=true)(i:Nat):i∈a↔i∈b:=by
 unfold same at h;simp only[XR,Xp,List.contains_iff_mem]at h;exact⟨h.1 i,h.2 i⟩
structure QiL (l:List Oper) (m:Nat) (ds:List Nat) (hs:List Bool) (rq ms:List (List Nat)) (pl:List (List (Nat×Nat))) (N:Nat):Prop where
 len:m<=l.length
 dst:∀i o,i<m->l[i]?=some o->(∃d,o.dst=some d/\ds[i]?=some d/\d<N)\/o.dst=none
 dsl:ds.length=m
 nodup:∀(i j d:Nat),ds[i]?=some d->ds[j]?=some d->i=j
 back:∀i o,l[i]?=some o->∀j∈Qj o,j<i
 mid:∀o,l[m]?=some o->∀j,j<m->QbC l m j
 chain:∀i o,m<i->l[i]?=some o->i-1∈Qj o
 rqs:∀i o,i<m->l[i]?=some o->∀h∈rq.getD i [],h<m/\hs.getD h false=true/\(h∈Qj o\/ ∃j∈Qj o,j<m/\h∈rq.getD j [])
 ms0:ms.getD 0 []=[]
 full:∀st,st<ms.length->st+1=ms.length\/ ∃i,i<m/\hs.getD i false=true/\i∉ms.getD st []
 msh:∀st h,h∈ms.getD st []->h<m/\hs.getD h false=true
 pls:∀i st,i<m->st<ms.length->(∀h∈rq.getD i [],h∈ms.getD st [])->(hs.getD i false=true->i∉ms.getD st [])->(∀h∈ms.getD st [],¬QbC l h i)->
  ∃st',(st,st')∈pl.getD i []/\st'<ms.length/\if hs.getD i false then∀j,j∈ms.getD st' []↔j=i\/j∈ms.getD st []else st'=st
theorem Qjy{α:Type}{l:List α}{i:Nat}{d x:α}(h:l[i]?=some x):l.getD i d=x:=by rw[VA,h];rfl
theorem Qfp{P:Program}{l:List Oper}{m:Nat}{ds:List Nat}{hs:List Bool}{rq ms:List (List Nat)}{pl:List (List (Nat×Nat))}{N h0 hB hE:Nat}{xs:List A}{env0:Env}{Hs:List Qc}{Hk:Qc}
  (ok:QiL l m ds hs rq ms pl N)(a3:xs.length=m)(a9:Hs.length=ms.length)(a8:h0<=hB)(a0:hB<=hE)(a5:∀H∈Hs,hE<=H.length)
  (au:∀i p,i<m->p∈pl.getD i []->YS P N l ds xs env0 hB hE i (Hs.getD p.1 []) (Hs.getD p.2 []))(ao:Hs.getD (ms.length-1) []=Hk)
  {fr ro0:Nat->Prop}{σ0:Sig}{w0:World}{rd:Option Nat}{ds0:List Deferred}{R:Exit->Act->World->Prop}
  (hk:∀ro σ a w,Rel fr ro σ Hk (Qam ds xs env0) N a w->Qi fr ro0 w0 ro w->σ.take h0=σ0.take h0->a.defers=ds0->wpL P rd l.toArray R (l.drop m) a w)(ak:QaO fr ds0 w0)(a6:Qco rd fr w0):
  ∀(g:Nat) (L:Array Bool) (a:Act) (w:World) (ro:Nat->Prop) (σ:Sig) (u:Nat),
   L.size=l.length->unl L<=g->(∀i,m<=i->¬onL L i)->u<ms.length->Sim fr ro σ (Hs.getD u []) w->a.tmps.size=N->a.defers=ds0->
   (∀(i d:Nat) (x:A),onL L i->ds[i]?=some d->xs[i]?=some x->VR ro σ w x (a.tmps.getD d undef))->(∀s,(∀j,ds[j]?=some s->¬onL L j)->VR ro σ w (lk env0 s) (a.tmps.getD s undef))->
   Qi fr ro0 w0 ro w->σ.take h0=σ0.take h0->QgL hB hE σ (Hs.getD u [])->
   (∀i,i<m->onL L i->∀h∈rq.getD i [],onL L h)->(∀i,i<m->hs.getD i false=true->(onL L i↔i∈ms.getD u []))->
   (∀i o,onL L i->l[i]?=some o->∀j∈Qj o,onL L j)->
   wpAnyIn (WF rd) 0 P .any l.toArray R g L a w:=by
 have aq:∀u,u<ms.length->hE<=(Hs.getD u []).length:=by
  intro u h;have e:Hs[u]?=some Hs[u]:=XF (by omega);rw[Qjy e];exact a5 _ (List.getElem_mem _)
 have fin:∀(g:Nat) (L:Array Bool) (a:Act) (w:World) (ro:Nat->Prop) (σ:Sig) (u:Nat),
   L.size=l.length->unl L<=g->(∀i,m<=i->¬onL L i)->u<ms.length->Sim fr ro σ (Hs.getD u []) w->a.tmps.size=N->a.defers=ds0->
   (∀(i d:Nat) (x:A),onL L i->ds[i]?=some d->xs[i]?=some x->VR ro σ w x (a.tmps.getD d undef))->(∀s,(∀j,ds[j]?=some s->¬onL L j)->VR ro σ w (lk env0 s) (a.tmps.getD s undef))->
   Qi fr ro0 w0 ro w->σ.take h0=σ0.take h0->
   (∀i,i<m->hs.getD i false=true->(onL L i↔i∈ms.getD u []))->(∀i,i<m->onL L i)->
   wpAnyIn (WF rd) 0 P .any l.toArray R g L a w:=by
  intro g L a w ro σ u hsz hu hsuf hst hsim hN hdef hD hE' hev htk hI2 r;have ah:u=ms.length-1:=by
   rcases ok.full u hst with q|⟨i,Q,Y,h3⟩
   .omega
   .exact absurd ((hI2 i Q Y).1 (r i Q)) h3
  rw[ah,ao]at hsim;refine Qg6 ok.back ok.chain g m L a w hsz (λi hi=>⟨λq=>?_,λq=>r i q⟩) hu (XO _) ok.len ?_
  .rcases Vr i m with z|z
   .exact z
   .exact absurd q (hsuf i z)
  .have hr:Rel fr ro σ Hk (Qam ds xs env0) N a w:=by
    refine⟨hsim,λs=>?_,hN,by rw[hdef];exact ak.keep hev⟩;rcases Qi0 (env0:=env0) (by rw[ok.dsl,a3]) s with⟨j,x,Q,Y,h3⟩|⟨Q,Y⟩
    .rw[h3];have f:j<m:=by have:=(XG.1 Q).1;rw[ok.dsl]at this;exact this
     exact hD j s x (r j f) Q Y
    .rw[Y];exact hE' s (λj q=>absurd (Vw q) (by simpa using Q))
   exact hk ro σ a w hr hev htk hdef
 intro g
 induction g with
 |zero=>
  intro L a w ro σ u hsz hu hsuf hst hsim hN hdef hD hE' hev htk hho hI1 hI2 hcl;refine fin 0 L a w ro σ u hsz hu hsuf hst hsim hN hdef hD hE' hev htk hI2 (λi hi=>?_);by_cases q:onL L i
  .exact q
  .have:=Qgk (L:=L) (i:=i) (by have:=ok.len;omega) q;omega
 |succ g ih=>
  intro L a w ro σ u hsz hu hsuf hst hsim hN hdef hD hE' hev htk hho hI1 hI2 hcl;by_cases r:∀i,i<m->onL L i
  .exact fin (g+1) L a w ro σ u hsz hu hsuf hst hsim hN hdef hD hE' hev htk hI2 r
  .have aw:∃i,i<m/\ ¬onL L i:=by
    refine Classical.byContradiction λq=>r λi hi=>Classical.byContradiction λz=>q ⟨i,hi,z⟩
   obtain⟨n,hn,ai⟩:=aw;obtain⟨i0,Q,Y,h3⟩:=least (p:=λi=>¬onL L i) (λi=>Classical.em _) n ai;have ba:=ok.len;have ae:l[i0]?=some l[i0]:=XF (by omega);have hr:i0∈Region.ready .any l.toArray L:=(Qau hsz).2 ⟨_,ae,Y,λj f=>Classical.byContradiction λz=>h3 j (ok.back i0 _ ae j f) z⟩;refine⟨λq=>(by rw[q]at hr;cases hr),λi hi=>?_⟩;obtain⟨o,W,X,O⟩:=(Qau hsz).1 hi;have E:i<m:=by
    rcases Vr i m with q|q
    .exact q
    .exfalso;rcases Vr m i with z|z
     .exact hsuf (i-1) (by omega) (O _ (ok.chain i o z W))
     .have:i=m:=by omega
      subst this;have an:∀j,QbC l i j->onL L j:=by
       intro j f
       induction f with
       |one t f=>rw[W]at t;cases t;exact O _ f
       |step _ t f ihr=>exact hcl _ _ ihr t _ f
      exact ai (an n (ok.mid o W n hn))
   have ag:∀h∈rq.getD i [],onL L h:=by
    intro h V;obtain⟨_,_,q|⟨j,q1,q2,q3⟩⟩:=ok.rqs i o E W h V
    .exact O h q
    .exact hI1 j q2 (O j q1) h q3
   obtain⟨av,ar,a1,J⟩:=ok.pls i u E hst (λh V=>by
    obtain⟨q1,q2,_⟩:=ok.rqs i o E W h V;exact(hI2 h q1 q2).1 (ag h V)) (λq z=>X ((hI2 i E q).2 z)) (λh V hR=>by
    obtain⟨q1,q2⟩:=ok.msh u h V;have ay:onL L h:=(hI2 h q1 q2).2 V;have al:∀j,QbC l h j->onL L j:=by
     intro j f
     induction f with
     |one t f=>exact hcl _ _ ay t _ f
     |step _ t f ihr=>exact hcl _ _ ihr t _ f
    exact X (al i hR))
   have hb:=au i _ E ar;refine hb.use W hsim hN (by rw[hdef];exact ak.keep hev) (a6.to hev λ_ q=>q) hho (aq u hst) a0 (λj f s x q1 q2=>hD j s x (O j f) q1 q2) (λs Q=>hE' s (λj q=>absurd (Vw q) (by simpa using Q))) (λj s Q Y=>hE' s (λj' q q'=>?_)) ?_
   .obtain rfl:=ok.nodup j' j s q Y;have f:=Xd.1 (List.contains_iff_mem.1 Q);cases ac:l[j']? with
    |none=>rw[ac]at f;simp at f
    |some oj=>
     rw[ac]at f;exact X (hcl j' oj q' ac i (by simpa using f.2))
   intro v w' ax σ' af;have ab:=af.ext;have aa:∀s,(∀d,o.dst=some d->s≠d)->(a.put o.dst v).tmps.getD s undef=a.tmps.getD s undef:=by
    intro s a7;cases hd:o.dst with
    |none=>rfl
    |some d=>
     simp only[Act.put,Array.getD_eq_getD_getElem?,X8];rw[Vl (λq=>a7 d hd q.symm)]
   have ad:(a.put o.dst v).tmps.size=N:=by
    cases hd:o.dst with
    |none=>simpa[Act.put]using hN
    |some d=>simpa[Act.put]using hN
   have a4:(a.put o.dst v).defers=ds0:=by
    cases hd:o.dst with
    |none=>simpa[Act.put]using hdef
    |some d=>simpa[Act.put]using hdef
   have bb:=Qeq (L:=L) (i:=i) (by omega) X;have B:i<L.size:=by omega
   have az:∀s j,ds[j]?=some s->j≠i->∀d,o.dst=some d->s≠d:=by
    intro s j f F d hd q;subst q;rcases ok.dst i o E W with⟨d',k,T,am⟩|k
    .rw[hd]at k;cases k;exact F (ok.nodup j i _ f T)
    .rw[hd]at k;cases k
   refine ih _ _ w' ax σ' av (by simpa using hsz) (by omega) (λj f q=>?_) a1 af.sim ad a4 ?_ ?_ (hev.trans af.ev) ?_ af.holes ?_ ?_ ?_
   .rcases(YV B).1 q with z|z
    .omega
    .exact hsuf j f z
   .intro j s y f G hy;by_cases F:j=i
    .subst F;have hv:=af.val y hy;rcases ok.dst j o E W with⟨d',k,T,am⟩|k
     .obtain rfl:s=d':=XU (G.symm.trans T);simp only[k]at hv⊢;exact hv
     .simp only[k]at hv;subst hv;exact trivial
    .rw[aa s (az s j G F)];rcases(YV B).1 f with z|z
     .exact absurd z F
     .exact(hD j s y z G hy).mono ab
   .intro s G;have a2:∀d,o.dst=some d->s≠d:=by
     rintro d hd rfl;rcases ok.dst i o E W with⟨d',k,T,am⟩|k
     .rw[hd]at k;cases k;exact G i T ((YV B).2 (.inl rfl))
     .rw[hd]at k;cases k
    rw[aa s a2];exact(hE' s (λj q z=>G j q ((YV B).2 (.inr z)))).mono ab
   .rw[<- htk];have:=congrArg (List.take h0) af.take;rw[List.take_take,List.take_take,Xx a8]at this;exact this
   .intro j f M h V;refine(YV B).2 (.inr ?_);rcases(YV B).1 M with z|z
    .subst z;exact ag h V
    .exact hI1 j f z h V
   .intro j f M;rw[YV B];cases q:hs.getD i false with
    |false=>
     have F:j≠i:=by rintro rfl;rw[q]at M;cases M
     rw[q]at J;simp only[Xh,if_false]at J;simp only[F,false_or];rw[J];exact hI2 j f M
    |true=>
     rw[q]at J;simp only[if_true]at J;rw[J j,hI2 j f M]
   .intro j o' f t j' aj;rcases(YV B).1 f with z|z
    .subst z;rw[W]at t;cases t;exact(YV B).2 (.inr (O _ aj))
    .exact(YV B).2 (.inr (hcl j o' z t j' aj))
def QcG.dstB(N:Nat):Nat->List Oper->List Nat->Bool
 |_,_,[]=>true
 |i,o::r,d::ds=>(match o.dst with|some d'=>Nat.beq d' d&&Nat.blt d N|none=>true)&&QcG.dstB N (i+1) r ds
 |_,[],_::_=>false
def QcG.rqB(m:Nat)(hs:List Bool)(rq:List (List Nat)):Nat->List Oper->Bool
 |_,[]=>true
 |i,o::r=>(rq.getD i []).all (λh=>Nat.blt h m&&hs.getD h false&&((Qj o).contains h||(Qj o).any λj=>Nat.blt j m&&(rq.getD j []).contains h))&&QcG.rqB m hs rq (i+1) r
def QfO(l:List Oper)(h:Nat):List Nat:=match l[h]? with
 |some o=>Qdi l h (Qj o)
 |none=>[]
theorem QgV{l:List Oper}{h j:Nat}(q:j∈QfO l h):QbC l h j:=by
 unfold QfO at q;cases a:l[h]? with
 |none=>rw[a]at q;cases q
 |some o=>rw[a]at q;exact Qbr h (Qj o) (λi d=>.one a d) j q
def QcG.plB(l:List Oper)(m:Nat)(hs:List Bool)(rq ms:List (List Nat))(pl:List (List (Nat×Nat))):Bool:=
 (List.range m).all λi=>(List.range ms.length).all λst=>((ms.getD st []).any λh=>(QfO l h).contains i)|| !(rq.getD i []).all ((ms.getD st []).contains ·)||(hs.getD i false&&(ms.getD st []).contains i)||
  (pl.getD i []).any λp=>Nat.beq p.1 st&&Nat.blt p.2 ms.length&&(bif hs.getD i false then same (ms.getD p.2 []) (i::ms.getD st [])else Nat.beq p.2 st)
def QcG(l:List Oper)(m N:Nat)(ds:List Nat)(hs:List Bool)(rq ms:List (List Nat))(pl:List (List (Nat×Nat))):Bool:=
 Nat.ble m l.length&&(ds.length==m)&&QcG.dstB N 0 l ds&&drawChk.nodupB ds&&drawChk.goB l m 0 l&&QcG.rqB m hs rq 0 l&&(ms.getD 0 []).isEmpty&&Nat.blt 0 ms.length
 &&((List.range ms.length).all λst=>Nat.beq (st+1) ms.length||(List.range m).any λi=>hs.getD i false&& !(ms.getD st []).contains i)&&QcG.plB l m hs rq ms pl&&(List.range ms.length).all λst=>(ms.getD st []).all λh=>Nat.blt h m&&hs.getD h false
theorem Qef{N:Nat}:∀(l:List Oper) (a:List Nat) (b:Nat),QcG.dstB N b l a=true->∀(i d:Nat) (o:Oper),l[i]?=some o->a[i]?=some d->
  (o.dst=some d/\d<N)\/o.dst=none:=by
 intro l
 induction l with
 |nil=>intro a b h i d o f;simp at f
 |cons x r k=>
  intro a b h i d o f g;cases a with
  |nil=>simp at g
  |cons y a=>
   simp only[QcG.dstB,XR]at h;cases i with
   |zero=>
    simp at f g;subst f;subst g;have h:=h.1;split at h
    .rename_i m j;simp only[XR]at h;have e:=XL h.1;subst e;exact .inl ⟨j,by simpa using h.2⟩
    .rename_i j;exact .inr j
   |succ i=>
    have:=k a (b+1) h.2 i d o (by simpa using f) (by simpa using g);exact this
theorem QhV{m:Nat}{e:List Bool}{d:List (List Nat)}:∀(l:List Oper) (b:Nat),QcG.rqB m e d b l=true->∀(i:Nat) (o:Oper),l[i]?=some o->
  ∀h∈d.getD (b+i) [],h<m/\e.getD h false=true/\(h∈Qj o\/ ∃j∈Qj o,j<m/\h∈d.getD j []):=by
 intro l
 induction l with
 |nil=>intro b h i o a;simp at a
 |cons x r p=>
  intro b h i o a;simp only[QcG.rqB,XR]at h;cases i with
  |zero=>
   simp at a;subst a;intro k g;have:=Xp.1 h.1 k (by simpa using g);simp only[XR,Bool.or_eq_true,List.contains_iff_mem,Xq]at this;obtain⟨⟨s,u⟩,t⟩:=this;refine⟨by simpa using s,u,?_⟩;rcases t with q|⟨j,n,f,w⟩
   .exact .inl q
   .exact .inr ⟨j,n,by simpa using f,w⟩
  |succ i=>
   have:=p (b+1) h.2 i o (by simpa using a);rw[show b+1+i=b+(i+1)by omega]at this;exact this
theorem Qik{l:List Oper}{m N:Nat}{t:List Nat}{E:List Bool}{y u:List (List Nat)}{J:List (List (Nat×Nat))}(h:QcG l m N t E y u J=true):
  QiL l m t E y u J N/\0<u.length:=by
 unfold QcG at h;simp only[XR]at h;obtain⟨⟨⟨⟨⟨⟨⟨⟨⟨⟨X,h2⟩,Q⟩,P⟩,L⟩,M⟩,T⟩,h8⟩,O⟩,B⟩,F⟩:=h;have H:m<=l.length:=XM X;have G:t.length=m:=by simpa using h2
 have g:=Qfd l 0 L;refine⟨⟨H,λi o s d=>?_,G,Qcy P,λi o d=>by have:=(g i o d).1;simpa using this,λo d j V=>Qbr m (Qj o) (λi s=>.one d s) j ((g m o d).2.1 (by omega) j V),
  λi o s d=>by have:=(g i o d).2.2 (by omega);simpa using this,λi o s d h k=>by have:=QhV l 0 M i o d h (by simpa using k);exact this,
  by simpa using T,λn a=>?_,λn h k=>?_,λi n s a W Y hx=>?_⟩,by simpa using h8⟩
 .have w:t[i]?=some t[i]:=XF (by omega);rcases Qef l t 0 Q i _ o d w with⟨r,x⟩|r
  .exact .inl ⟨_,r,w,x⟩
  .exact .inr r
 .have:=Xp.1 O n (List.mem_range.2 a);simp only[Bool.or_eq_true,Xq,XR,Bool.not_eq_true']at this;rcases this with q|⟨i,r,x,f⟩
  .exact .inl (XL q)
  .exact .inr ⟨i,List.mem_range.1 r,x,λz=>by rw[List.contains_iff_mem.2 z]at f;cases f⟩
 .have a:n<u.length:=by
   rcases Vr n u.length with q|q
   .exact q
   .rw[VA,XJ q]at k;cases k
  have:=Xp.1 (Xp.1 F n (List.mem_range.2 a)) h k;simp only[XR]at this;exact⟨by simpa using this.1,this.2⟩
 .have:=Xp.1 (Xp.1 B i (List.mem_range.2 s)) n (List.mem_range.2 a);simp only[Bool.or_eq_true,Bool.not_eq_true']at this;rcases this with((q|q)|q)|q
  .exfalso;obtain⟨h,k,q⟩:=Xq.1 q;exact hx h k (QgV (List.contains_iff_mem.1 q))
  .exfalso;have:((y.getD i []).all ((u.getD n []).contains ·))=true:=Xp.2 λh k=>List.contains_iff_mem.2 (W h k);rw[this]at q;cases q
  .simp only[XR]at q;exact absurd (List.contains_iff_mem.1 q.2) (Y q.1)
  .obtain⟨p,R,q⟩:=Xq.1 q;simp only[XR]at q;obtain⟨⟨r,x⟩,f⟩:=q;have e:=XL r;refine⟨p.2,by rw[<- e];exact R,by simpa using x,?_⟩;cases z:E.getD i false with
   |true=>
    rw[z]at f;simp only[Vi]at f;simp only[if_true];intro j;rw[QiV f j,X0]
   |false=>
    rw[z]at f;simp only[Vj]at f;simp only[Xh,if_false];exact XL f
inductive QeS (P:Program) (N:Nat) (l:List Oper) (ds:List Nat) (xs:List A) (env0:Env) (hB hE:Nat):Nat->List (List (Qc×Qc))->Prop
 |nil {i:Nat}:QeS P N l ds xs env0 hB hE i []
 |cons {i:Nat} {s:List (Qc×Qc)} {r:List (List (Qc×Qc))} (h:∀p∈s,YS P N l ds xs env0 hB hE i p.1 p.2) (k:QeS P N l ds xs env0 hB hE (i+1) r):QeS P N l ds xs env0 hB hE i (s::r)
theorem QeS.get{P:Program}{N:Nat}{l:List Oper}{e:List Nat}{xs:List A}{env0:Env}{hB hE b:Nat}{d:List (List (Qc×Qc))}(h:QeS P N l e xs env0 hB hE b d):
  ∀(i:Nat) (s:List (Qc×Qc)),d[i]?=some s->∀p∈s,YS P N l e xs env0 hB hE (b+i) p.1 p.2:=by
 induction h with
 |nil=>intro i s h;simp at h
 | @cons b s0 r h _ ih=>
  intro i s a;cases i with
  |zero=>simp at a;subst a;exact h
  |succ i=>
   have:=ih i s (by simpa using a);rw[show b+1+i=b+(i+1)by omega]at this;exact this
theorem Qb{P:Program}{N:Nat}{l:List Oper}{d:List Nat}{xs:List A}{env0:Env}{hB hE i:Nat}:∀p∈([]:List (Qc×Qc)),YS P N l d xs env0 hB hE i p.1 p.2:=by
 intro p a;cases a
theorem Qa{P:Program}{N:Nat}{l:List Oper}{a:List Nat}{xs:List A}{env0:Env}{hB hE i:Nat}{H H':Qc}{r:List (Qc×Qc)}(h:YS P N l a xs env0 hB hE i H H')
  (k:∀p∈r,YS P N l a xs env0 hB hE i p.1 p.2):∀p∈(H,H')::r,YS P N l a xs env0 hB hE i p.1 p.2:=by
 intro p d;rcases X0.1 d with rfl|q
 .exact h
 .exact k p q
theorem Qes{P:Program}{h0 N:Nat}{id:Nat}{l:List Oper}{env:Env}{H:Qc}{fr ro:Nat->Prop}{σ:Sig}{a:Act}{w:World}{rd:Option Nat}{R:Exit->Act->World->Prop}(m c:Nat)(V:List Nat)(hs:List Bool)(rq ms:List (List Nat))(G:List (List (Nat×Nat)))(xs:List A)(Hs:List Qc)(Hk:Qc)
  (hm:P.follows .mixedOrders=true)(hc:QcG l m N V hs rq ms G=true)(ac:Nat.beq xs.length m=true)(ae:Nat.beq Hs.length ms.length=true)(ag:Nat.ble h0 H.length=true)
  (hh:Hs.all (λX=>Nat.ble (H.length+c) X.length)=true)(ab:Hs[0]?=some (H++List.replicate c .dead))(aa:Hs.getD (ms.length-1) []=Hk)
  (T:QeS P N l V xs env H.length (H.length+c) 0 (G.map λq=>q.map λp=>(Hs.getD p.1 [],Hs.getD p.2 [])))(Y:Nat.beq G.length m=true)
  (r:Rel fr ro σ H env N a w)(af:Qco rd fr w)
  (hk:∀ro' σ' a' w',Rel fr ro' σ' Hk (Qam V xs env) N a' w'->Qi fr ro w ro' w'->σ'.take h0=σ.take h0->a'.defers=a.defers->wpL P rd l.toArray R (l.drop m) a' w'):(Code.region id l.toArray true).wpIn (WF rd) 0 P R a w:=by
 obtain⟨ok,E⟩:=Qik hc;have L:=XL ac;have B:=XL ae;have ah:=XL Y;have J:Qi fr ro w ro {w with drawn:=w.drawn+1}:=⟨λ_ q=>q,λ_ _=>rfl,λ_ _=>rfl,XO _,λ_ _ q=>q,rfl,rfl,rfl,Nat.le_succ _⟩;have u:Ext ro σ w ro (σ++List.replicate c none) {w with drawn:=w.drawn+1}:=J.ext σ _;have ad:=r.sim.len;have M:Hs.getD 0 []=H++List.replicate c .dead:=Qjy ab;have h:∀(i:Nat) (s:Option Nat) (x:Blk),(σ++List.replicate c none)[i]?=some s->(H++List.replicate c Blk.dead)[i]?=some x->(σ[i]?=some s/\H[i]?=some x)\/(s=none/\x=.dead):=by
  intro i s x k n;rcases Vr i σ.length with q|q
  .rw[XH q]at k;rw[XH (by omega)]at n;exact .inl ⟨k,n⟩
  .rw[XI q]at k;rw[XI (by omega)]at n;have a1:=Vw k;have a2:=Vw n;exact .inr ⟨(List.mem_replicate.1 a1).2,(List.mem_replicate.1 a2).2⟩
 have O:Sim fr ro (σ++List.replicate c none) (H++List.replicate c .dead) {w with drawn:=w.drawn+1}:=by
  refine⟨by simp[ad],r.sim.roOk.to (λ_ q=>q) (λ_ _=>rfl) r.sim.roLt,r.sim.frLt,r.sim.roFr,?_,?_,?_,
   r.sim.hidTo (· = ·) QX (XO _) (λ_ _ _ _ _ _ _ q=>q) (λ_ _ _ _ _ _ _ q=>q) λj d y g1 g2 g3=>.inl ?_⟩
  rotate_left 3
  .rcases h j _ _ g1 g2 with⟨g,t⟩|⟨g,_⟩
   .exact⟨j,y,rfl,g,t,(λz=>z),λc q=>q⟩
   .cases g
  .intro i b blk k n Q;rcases h i _ _ k n with⟨g,t⟩|⟨g,_⟩
   .exact r.sim.own i b blk g t Q
   .cases g
  .intro i j b x y k n Q h4 h5 h6;rcases h i _ _ k Q with⟨g,t⟩|⟨g,_⟩
   .rcases h j _ _ n h4 with⟨W,q4⟩|⟨W,_⟩
    .exact r.sim.inj i j b x y g W t q4 h5 h6
    .cases W
   .cases g
  .intro i s x k n;rcases h i _ _ k n with⟨g,t⟩|⟨g,t⟩
   .exact BR.keep u (λb hb _=>rfl) (r.sim.blk i s x g t) (λ_ _ _ _=>rfl)
   .subst t;exact trivial
 have f:∀i,¬onL (Array.replicate l.length false) i:=by
  intro i q;unfold onL at q;rw[Array.getElem?_replicate]at q;split at q<;>simp at q
 have F:=XM ag;refine wpIn_region_any hm ?_;rw[List.size_toArray];refine Qfp ok L B F (Nat.le_add_right _ _) (λX hX=>XM (Xp.1 hh X hX)) ?_ aa (ro0:=ro) (σ0:=σ) (w0:=w) (ds0:=a.defers) hk r.defers af
  l.length _ a _ ro (σ++List.replicate c none) 0 (by simp) ?_ (λi _=>f i) E (by rw[M];exact O) r.size rfl (λi d x q=>absurd q (f i)) (λs _=>(r.env s).mono u) J (QB (by omega)) ?_
  (λi _ q=>absurd q (f i)) (λi _ _=>⟨λq=>absurd q (f i),λq=>by rw[ok.ms0]at q;cases q⟩) (λi o q=>absurd q (f i))
 .intro i p hi hp;have e:(G.map λq=>q.map λp=>(Hs.getD p.1 [],Hs.getD p.2 []))[i]?=some ((G.getD i []).map λp=>(Hs.getD p.1 [],Hs.getD p.2 [])):=by
   rw[Xl,XF (by omega),VA,XF (by omega)];rfl
  have:=T.get i _ e _ (Xe.2 ⟨p,hp,rfl⟩);simpa using this
 .unfold unl;simp[List.countP_replicate]
 .intro p k n Q;rw[XI (by omega),List.getElem?_replicate,Vm (by omega)]
theorem QG{P:Program}{h0 N:Nat}{id:Nat}{l:List Oper}{env:Env}{H:Qc}{Q:Qx}(m c:Nat)(g:List Nat)(x:List Bool)(y f:List (List Nat))(h:List (List (Nat×Nat)))(xs:List A)(Hs:List Qc)(Hk:Qc)
  (G:P.follows .mixedOrders=true)(E:QcG l m N g x y f h=true)(u:Nat.beq xs.length m=true)(i:Nat.beq Hs.length f.length=true)(t:Nat.ble h0 H.length=true)
  (B:Hs.all (λX=>Nat.ble (H.length+c) X.length)=true)(s:Hs[0]?=some (H++List.replicate c .dead))(n:Hs.getD (f.length-1) []=Hk)
  (j:QeS P N l g xs env H.length (H.length+c) 0 (h.map λq=>q.map λp=>(Hs.getD p.1 [],Hs.getD p.2 [])))(k:Nat.beq h.length m=true)
  (z:WO P h0 N l.toArray (l.drop m) (Qam g xs env) Hk Q):TC P h0 N (.region id l.toArray true) env H Q:=by
 intro J F L σ a w r hrd;refine Code.wpIn_mono (λe a w q=>Qa8.postW q) (Qes m c g x y f h xs Hs Hk G E u i t B s n j k r hrd λro' σ' a' w' hr hev htk hdf=>?_);have d:=z J F ro' σ' a' w' hr (hrd.to hev λ_ q=>q);rw[hdf]at d;exact Q3 (λe a w q=>q.step hev htk) _ _ _ d
def draw0(l:List Oper)(m N:Nat)(ds:List Nat):Bool:=Nat.ble m l.length&&(ds.length==m)&&QcG.dstB N 0 l ds&&drawChk.nodupB ds&&drawChk.goB l m 0 l
inductive Oq (P:Program) (N:Nat) (l:List Oper) (ds:List Nat) (xs:List A) (env0:Env) (H:Qc):Nat->Nat->Prop
 |n {i:Nat}:Oq P N l ds xs env0 H i 0
 |c {i c:Nat} (h:YS P N l ds xs env0 H.length H.length i H H) (k:Oq P N l ds xs env0 H (i+1) c):Oq P N l ds xs env0 H i (c+1)
theorem Oq.get{P:Program}{N:Nat}{l:List Oper}{a:List Nat}{xs:List A}{env0:Env}{H:Qc}{b c:Nat}(h:Oq P N l a xs env0 H b c):∀i,i<c->YS P N l a xs env0 H.length H.length (b+i) H H:=by
 induction h with
 |n=>intro i d;omega
 | @c b c h _ ih=>
  intro i d;cases i with
  |zero=>exact h
  |succ i=>
   have:=ih i (by omega);rw[show b+1+i=b+(i+1)by omega]at this;exact this
theorem Qil{l:List Oper}{m N:Nat}{f:List Nat}(h:draw0 l m N f=true):QiL l m f [] [] [[]] (List.replicate m [(0,0)]) N:=by
 unfold draw0 at h;simp only[XR]at h;obtain⟨⟨⟨⟨B,z⟩,x⟩,w⟩,t⟩:=h;have s:m<=l.length:=XM B;have r:f.length=m:=by simpa using z
 have g:=Qfd l 0 t;refine⟨s,λi o e d=>?_,r,Qcy w,λi o d=>by have:=(g i o d).1;simpa using this,λo d j y=>Qbr m (Qj o) (λi e=>.one d e) j ((g m o d).2.1 (by omega) j y),
  λi o e d=>by have:=(g i o d).2.2 (by omega);simpa using this,λi o e d h p=>by simp at p,rfl,λn a=>.inl (by simp at a;simp[a]),λn h p=>by cases n<;>simp at p,λi n e a _ _ _=>?_⟩
 .have k:f[i]?=some f[i]:=XF (by omega);rcases Qef l f 0 x i _ o d k with⟨q,u⟩|q
  .exact .inl ⟨_,q,k,u⟩
  .exact .inr q
 .have:n=0:=by simp at a;exact a
  subst this;refine⟨0,?_,by simp,by simp⟩;rw[VA,List.getElem?_replicate,Vm e];exact Vq.2 rfl
theorem Qet{P:Program}{h0 N:Nat}{id:Nat}{l:List Oper}{env:Env}{H:Qc}{fr ro:Nat->Prop}{σ:Sig}{a:Act}{w:World}{rd:Option Nat}{R:Exit->Act->World->Prop}(m:Nat)(n:List Nat)(xs:List A)
  (F:P.follows .mixedOrders=true)(G:Go.Sw.draw0 l m N n=true)(y:Nat.beq xs.length m=true)(t:Nat.ble h0 H.length=true)
  (u:Oq P N l n xs env H 0 m)(r:Rel fr ro σ H env N a w)(k:Qco rd fr w)
  (E:∀ro' σ' a' w',Rel fr ro' σ' H (Qam n xs env) N a' w'->Qi fr ro w ro' w'->σ'.take h0=σ.take h0->a'.defers=a.defers->wpL P rd l.toArray R (l.drop m) a' w'):(Code.region id l.toArray true).wpIn (WF rd) 0 P R a w:=by
 have ok:=Qil G;have f:=XL y;have j:Qi fr ro w ro {w with drawn:=w.drawn+1}:=⟨λ_ q=>q,λ_ _=>rfl,λ_ _=>rfl,XO _,λ_ _ q=>q,rfl,rfl,rfl,Nat.le_succ _⟩;have h:Ext ro σ w ro σ {w with drawn:=w.drawn+1}:=j.ext0 σ;have g:Sim fr ro σ H {w with drawn:=w.drawn+1}:=r.sim.heap rfl;have e:∀i,¬onL (Array.replicate l.length false) i:=by
  intro i q;unfold onL at q;rw[Array.getElem?_replicate]at q;split at q<;>simp at q
 refine wpIn_region_any F ?_;rw[List.size_toArray];refine Qfp (hB:=H.length) (hE:=H.length) (Hs:=[H]) (Hk:=H) ok f rfl (XM t) (XO _) (λX hX=>by rw[Vq.1 hX];exact XO _) ?_ rfl (ro0:=ro) (σ0:=σ) (w0:=w) (ds0:=a.defers) E r.defers k
  l.length _ a _ ro σ 0 (by simp) ?_ (λi _=>e i) (by simp) g r.size rfl (λi d x q=>absurd q (e i)) (λs _=>(r.env s).mono h) j rfl (λp J L=>by omega)
  (λi _ q=>absurd q (e i)) (λi _ _=>⟨λq=>absurd q (e i),λq=>by cases q⟩) (λi o q=>absurd q (e i))
 .intro i p z B;rw[VA,List.getElem?_replicate,Vm z]at B;obtain rfl:=Vq.1 B;have:=u.get i z;rw[Xs]at this;exact this
 .unfold unl;simp[List.countP_replicate]
theorem TC.draw0{P:Program}{h0 N:Nat}{id:Nat}{l:List Oper}{env:Env}{H:Qc}{Q:Qx}(m:Nat)(f:List Nat)(xs:List A)
  (s:P.follows .mixedOrders=true)(k:Go.Sw.draw0 l m N f=true)(i:Nat.beq xs.length m=true)(g:Nat.ble h0 H.length=true)
  (h:Oq P N l f xs env H 0 m)(j:WO P h0 N l.toArray (l.drop m) (Qam f xs env) H Q):TC P h0 N (.region id l.toArray true) env H Q:=by
 intro n p t σ a w r hrd;refine Code.wpIn_mono (λe a w q=>Qa8.postW q) (Qet m f xs s k i g h r hrd λro' σ' a' w' hr hev htk hdf=>?_);have d:=j n p ro' σ' a' w' hr (hrd.to hev λ_ q=>q);rw[hdf]at d;exact Q3 (λe a w q=>q.step hev htk) _ _ _ d
section
variable {P:Program} {N:Nat} {l:List Oper} {ds af bf:List Nat} {xs:List A} {env0 e r:Env} {H H':Qc} {i hB hE:Nat} {o:Oper} {d s:Nat} {x a:A}
theorem sN:Sb af bf ds xs env0 []:=.nil
theorem sD(j:Nat)(k:Sb af bf ds xs env0 r)(d:af.contains j=true:=by exact rfl)(h2:ds[j]?=some s:=by exact rfl)(h3:xs[j]?=some a:=by exact rfl):Sb af bf ds xs env0 ((s,a)::r):=.dep j d h2 h3 k
theorem sP(j:Nat)(k:Sb af bf ds xs env0 r)(d:bf.contains j=true:=by exact rfl)(h2:ds[j]?=some s:=by exact rfl)(h3:lk env0 s=a:=by exact rfl):Sb af bf ds xs env0 ((s,a)::r):=.pre j d h2 h3 k
theorem sO(s:Nat)(k:Sb af bf ds xs env0 r)(d:ds.contains s=false:=by exact rfl)(h2:lk env0 s=a:=by exact rfl):Sb af bf ds xs env0 ((s,a)::r):=.old d h2 k
theorem QcH(H:Qc):Qal hB hE H H=true:=by
 unfold Qal;refine Xp.2 λp _=>?_;cases QaT H[hB+p]? <;>rfl
theorem Om(a:l[i]?=some o)(g:Sb (Qj o) (QeG l i) ds xs env0 e)(h:WO P H.length N l.toArray [o] e H (YC (up e d x) H))(f:o.dst=some d:=by exact rfl)(hx:xs[i]?=some x:=by exact rfl):YS P N l ds xs env0 hB hE i H H:=
 .mk o e d x a f hx (QcH H) g h
theorem Om1(a:l[i]?=some o)(g:Sb (Qj o) (QeG l i) ds xs env0 e)(h:WO P H.length N l.toArray [o] e H (YC (up e d x) H'))(f:o.dst=some d:=by exact rfl)(hx:xs[i]?=some x:=by exact rfl)(hdd:Qal hB hE H H'=true:=by exact rfl):YS P N l ds xs env0 hB hE i H H':=
 .mk o e d x a f hx hdd g h
theorem Om2(a:l[i]?=some o)(f:Sb (Qj o) (QeG l i) ds xs env0 e)(h:WO P H.length N l.toArray [o] e H (YC e H'))(d:o.dst=none:=by exact rfl)(hx:xs[i]?=some .any:=by exact rfl)(hdd:Qal hB hE H H'=true:=by exact rfl):YS P N l ds xs env0 hB hE i H H':=
 .unit o e a d hx hdd f h
end
structure TyI where
 fld:List (Nat×Nat×Nat)
 agg:List (Nat×Bool×Nat)
 zer:List (Nat×List A×List (Nat×Nat))
structure TyOK (P:Program) (T:TyI):Prop where
 fld:∀e∈T.fld,∃n,Yb P e.1 e.2.1 e.2.2 n
 agg:∀e∈T.agg,(∀w,(isAgg e.1).run P w=.ok e.2.1 w)/\ ∀w,(sizeOf e.1).run P w=.ok e.2.2 w
 zer:∀e∈T.zer,(∃z,(∀w,(zeroValue e.1).run P w=.ok z w)/\ZR (.agg e.2.1) z)/\QdH P e.1 e.2.2
def Qfh:List (Nat×Nat×Nat)->Nat->Nat->Option Nat
 |[],_,_=>none
 |(a,b,c)::r,t,f=>bif Nat.beq a t&&Nat.beq b f then some c else Qfh r t f
def Qbb{β:Type}:List (Nat×β)->Nat->Option β
 |[],_=>none
 |(a,b)::r,t=>bif Nat.beq a t then some b else Qbb r t
theorem Qfg{l:List (Nat×Nat×Nat)}{t f c:Nat}(h:Qfh l t f=some c):(t,f,c)∈l:=by
 induction l with
 |nil=>cases h
 |cons x r e=>
  obtain⟨a,b,d⟩:=x;unfold Qfh at h;cases q:(Nat.beq a t&&Nat.beq b f)with
  |true=>
   simp_all
  |false=>grind
theorem Qap{β:Type}{l:List (Nat×β)}{t:Nat}{c:β}(h:Qbb l t=some c):(t,c)∈l:=by
 induction l with
 |nil=>cases h
 |cons x r d=>
  obtain⟨a,b⟩:=x;unfold Qbb at h;cases q:Nat.beq a t with
  |true=>
   simp_all
  |false=>grind
def QeF(H:Qc):A->Option (List A)
 |.rp cs=>some cs
 |.ptr i off=>match H[i]? with
  |some (.cells _ cs)=>some (cs.drop off)
  |_=>none
 |_=>none
theorem Qf0{H:Qc}{p:A}{a:List A}(h:QeF H p=some a):Pts H p a:=by
 unfold QeF at h;split at h
 .cases h;exact Pts.rp
 .split at h
  .rename_i d;cases h;exact Pts.cells d rfl
  .cases h
 .cases h
def QhM(T:TyI)(o:Oper)(env:Env)(H:Qc):Option A:=
 match o.op with
 |.move x=>some (opA env x)
 |.assign x=>some (opA env x)
 |.fieldAddr t x f=>match Qfh T.fld t f with
  |none=>none
  |some off=>match opA env x with
   |.ptr i p=>some (.ptr i (p+off))
   |.rp cs=>some (.rp (cs.drop off))
   |_=>none
 |.load t x=>match Qbb T.agg t with
  |none=>none
  |some (b,n)=>match x with
   |.global g=>match QfT[g]? with
    |some zs=>bif b&&Nat.beq zs.length n then some (.agg (zs.map (A.int .i64)))else none
    |none=>none
   |x=>match QeF H (opA env x)with
    |none=>none
    |some cs=>bif b then(bif Nat.beq (cs.take n).length n then some (.agg (cs.take n))else none)else cs.head?
 |.build t parts=>match Qbb T.zer t with
  |none=>none
  |some (zs,pl)=>match QcE env pl zs parts.toList with
   |some cs=>some (.agg cs)
   |none=>none
 |.extract x i=>match opA env x with
  |.tup vs=>vs[i]?
  |_=>none
 |.makeFunc f first cap=>some (.fn f (first.toList.map (opA env)) (cap.toList.map (opA env)))
 |_=>none
theorem QhL{P:Program}{T:TyI}(i:TyOK P T){o:Oper}{env:Env}{H:Qc}{x:A}(h:QhM T o env H=some x):OpV P o env H x:=by
 unfold QhM at h;split at h
 .simp_all[OpV.move]
 .simp_all[OpV.assign]
 .rename_i t y f a;split at h
  .cases h
  .rename_i m j;obtain⟨n,F⟩:=i.fld _ (Qfg j);split at h
   .grind[QbO]
   .rename_i d s;cases h;exact QdL F a s rfl
   .cases h
 .rename_i t y a;split at h
  .cases h
  .rename_i b n p;obtain⟨e,g⟩:=i.agg _ (Qap p);split at h
   .split at h
    .rename_i k w;cases q:(b&&Nat.beq k.length n)with
     |false=>grind
     |true=>
      rw[q]at h;cases h;simp[XR]at q;obtain⟨rfl,J⟩:=q;exact Qel e g w (by simp_all) a
    .cases h
   .split at h
    .cases h
    .rename_i d r;have l:=Qf0 r;cases b with
     |true=>
      cases q:Nat.beq (d.take n).length n with
      |false=>grind
      |true=>
       rw[q]at h;cases h;exact Q1 a e g rfl l rfl (by simp_all)
     |false=>
      cases d with
      |nil=>cases h
      |cons v d=>cases h;exact OpV.load a e rfl l
 .rename_i t parts a;split at h
  .cases h
  .rename_i k G B;obtain⟨⟨z,e,g⟩,u⟩:=i.zer _ (Qap B);split at h
   .rename_i d j;cases h;exact OpV.build e g u (by rw[a]) j
   .cases h
 .grind[OpV.extract]
 .rename_i f first E a
  cases h;exact OpV.makeFunc (by rw[a]) rfl rfl
 .cases h
def Qfm(af:List Nat):Nat->List Nat->List A->Env->Env
 |j,d::ds,x::xs,e=>(d,bif af.contains j then x else .any)::Qfm af (j+1) ds xs e
 |_,_,_,e=>e
theorem Qje{af:List Nat}{env0:Env}(s:Nat):∀(a:List Nat) (xs:List A) (b:Nat),a.length=xs.length->
  (∃(j:Nat) (x:A),a[j]?=some s/\xs[j]?=some x/\lk (Qfm af b a xs env0) s=bif af.contains (b+j)then x else .any)\/(a.contains s=false/\lk (Qfm af b a xs env0) s=lk env0 s):=by
 intro a
 induction a with
 |nil=>simp_all[Qfm]
 |cons d a h=>
  intro xs b g;cases xs with
  |nil=>cases g
  |cons x xs=>
   cases q:Nat.beq s d with
   |true=>
    have e:=XL q;subst e;left;refine⟨0,x,rfl,rfl,?_⟩
    simp_all[Qfm,lk]
   |false=>
    have f:s≠d:=λz=>by simp_all
    simp only[Qfm,lk,q];rcases h xs (b+1) (by grind)with⟨j,y,i,k,l⟩|⟨i,k⟩
    .left;refine⟨j+1,y,by grind,by grind,?_⟩
     grind
    grind
def Qgl(T:TyI)(N:Nat)(l:List Oper)(ds:List Nat)(xs:List A)(env0:Env)(H:Qc)(i:Nat):Option A:=
 match l[i]? with
 |none=>none
 |some o=>match o.guard,o.dst with
  |none,some d=>bif Nat.blt d N&&Nat.beq ds.length xs.length then QhM T o (Qfm (Qj o) 0 ds xs env0) H else none
  |_,_=>none
theorem Qjd{af a:List Nat}{xs:List A}{env0:Env}(d:a.length=xs.length):QiI af a xs env0 (Qfm af 0 a xs env0):=by
 intro s;rcases Qje (af:=af) (env0:=env0) s a xs 0 d with⟨j,x,e,g,f⟩|h
 .grind
 grind
theorem vQ{P:Program}{T:TyI}(j:TyOK P T){N:Nat}{l:List Oper}{a:List Nat}{xs:List A}{env0:Env}{hB hE i:Nat}{H:Qc}{x:A}(g:xs[i]?=some x)(h:Qgl T N l a xs env0 H i=some x):YS P N l a xs env0 hB hE i H H:=by
 unfold Qgl at h;split at h
 .cases h
 .rename_i o e;split at h
  .rename_i d k f;cases q:(Nat.blt d N&&Nat.beq a.length xs.length)with
   |false=>grind
   |true=>
    rw[q]at h;simp only[XR]at q;exact .val o _ d x e f k g q.1 (Qjd (by simp_all)) (QhL j h)
  .cases h
abbrev I(n:Int):A:=.int .i64 n
theorem zc{a:A}{v:Value}{al:List A}{vl:List Value}(h:ZR a v)(k:ZL al vl):ZL (a::al) (v::vl):=ZL.cons h k
def zr1:A->Value->Bool
 |.int k n,.int k' n'=>decide (k=k')&&decide (n=n')
 |.bool b,.bool b'=>b==b'
 |.str s,.string s'=>s.isEmpty&&s'.data.toList.isEmpty
 |.rsl _ es,.slice none 0 0=>es.isEmpty
 |.nils,.slice none 0 0=>true
 |.nilp,.pointer none=>true
 |.nilf,.nilFunc=>true
 |.nilm,.map none=>true
 |.nilif,.nilIface=>true
 |_,_=>false
def zrL:List A->List Value->Bool
 |[],[]=>true
 |a::r,v::s=>zr1 a v&&zrL r s
 |_,_=>false
def zrB:A->Value->Bool
 |.agg r,.agg s=>zrL r s.toList
 |a,v=>zr1 a v
theorem QhC{a:A}{v:Value}(h:zr1 a v=true):ZR a v:=by
 unfold zr1 at h;split at h
 .simp_all[ZR.int]
 .simp_all[ZR.bool]
 .rename_i s f;simp[XR]at h;obtain⟨d⟩:=f
  simp_all[ZR.str]
 .rename_i k g;have h:=List.isEmpty_iff.1 h;subst h;exact ZR.rsl (e:=λx=>[x])
 .exact ZR.nils
 .exact ZR.nilp
 .exact ZR.nilf
 .exact ZR.nilm
 .exact Qjj
 .cases h
theorem QhB:∀{r:List A} {s:List Value},zrL r s=true->ZL r s
 |[],[],_=>ZL.nil
 |a::r,v::s,h=>by
  simp[zrL,XR]at h;exact ZL.cons (QhC h.1) (QhB h.2)
 |[],_::_,h=>by cases h
 |_::_,[],h=>by cases h
theorem zrC{a:A}{v:Value}(h:zrB a v=true):ZR a v:=by
 unfold zrB at h;split at h
 .have:=ZR.agg (QhB h);omega
 .exact QhC h
section
variable {P:Program} {o:Oper} {env:Env} {H:Qc}
end
structure TyX where
 ty:TyI
 al:List (Nat×A)
 sl:List Nat
structure QaN (P:Program) (T:TyX):Prop where
 ty:TyOK P T.ty
 al:∀e∈T.al,(∃z,(∀w,(zeroValue e.1).run P w=.ok z w)/\ZR e.2 z)/\Q6 e.2=true/\(QZ e.2).all Yf=true
 sl:∀t∈T.sl,∃et,∀w,(underlying t).run P w=.ok (.slice et) w
def Yy(all:Array Oper)(o:Oper)(env:Env):Option Bool:=
 match o.guard with
 |none=>some true
 |some (j,c)=>match(all[j]?).bind (·.dst)with
  |none=>none
  |some d=>match lk env d with
   |.bool true=>some c
   |.bool false=>some (!c)
   |.tup []=>some false
   |_=>none
theorem QF{all:Array Oper}{o:Oper}{env:Env}{b:Bool}(h:Yy all o env=some b):Qs all o env b:=by
 unfold Yy at h;unfold Qs;split at h
 .grind
 .rename_i j c q;rw[q];split at h
  .cases h
  .rename_i d a;refine⟨d,a,?_⟩;split at h
   .simp_all
   .simp_all
   .grind
   .cases h
def Qcg:List Nat->Nat->Bool
 |[],_=>false
 |a::r,t=>bif Nat.beq a t then true else Qcg r t
theorem Qeu{l:List Nat}{t:Nat}(h:Qcg l t=true):t∈l:=by
 induction l with
 |nil=>cases h
 |cons a r d=>
  grind[Qcg,Nat.eq_of_beq_eq_true]
inductive FL where
 |mk (l:List A)
def fl:List A->FL
 |[]=>.mk []
 |a::r=>match fl r with
  |.mk r'=>.mk (a::r')
theorem QbA:∀l:List A,fl l=.mk l
 |[]=>rfl
 |a::r=>by unfold fl;rw[QbA r]
inductive FB where
 |mk (l:List Blk)
def fb:List Blk->FB
 |[]=>.mk []
 |a::r=>match fb r with
  |.mk r'=>.mk (a::r')
theorem Qgw:∀l:List Blk,fb l=.mk l
 |[]=>rfl
 |a::r=>by unfold fb;rw[Qgw r]
inductive FN where
 |mk (n:Nat)
def fn:List Blk->Nat->FN
 |[],n=>.mk n
 |_::r,n=>fn r (n+1)
theorem Qib:∀(l:List Blk) (n:Nat),fn l n=.mk (l.length+n)
 |[],n=>by simp[fn]
 |a::r,n=>by unfold fn;rw[Qib r];simp;omega
def Qgu(env:Env)(pl:List (Nat×Nat)):List A->List (Nat×Operand)->Option (List A)
 |cs,[]=>some cs
 |cs,(i,x)::r=>match Yw pl i with
  |none=>none
  |some (off,size)=>match opB env x with
   |.mk a=>match fl (QZ a)with
    |.mk vs=>bif Q6 a&&Nat.beq vs.length size&&Nat.ble (off+size) cs.length then(match fl (splice cs off vs)with
     |.mk cs'=>Qgu env pl cs' r)else none
theorem Qfk{env:Env}{pl:List (Nat×Nat)}:∀(parts:List (Nat×Operand)) (cs:List A),Qgu env pl cs parts=QcE env pl cs parts
 |[],cs=>rfl
 |(i,x)::r,cs=>by
  unfold Qgu QcE;rw[Qat];cases pl[i]? with
  |none=>rfl
  |some q=>
   obtain⟨off,size⟩:=q;cases h:opB env x with
   |mk a=>
    rw[QE h];simp only[QbA];cases(Q6 a&&Nat.beq (QZ a).length size&&Nat.ble (off+size) cs.length)with
    |false=>rfl
    |true=>exact Qfk r _
def Qfb(env:Env):List Operand->List A
 |[]=>[]
 |x::r=>match opB env x with
  |.mk a=>a::Qfb env r
theorem QbY{env:Env}:∀l:List Operand,Qfb env l=l.map (opA env)
 |[]=>rfl
 |x::r=>by
  unfold Qfb;cases h:opB env x with
  |mk a=>rw[Vd,QE h];show a::Qfb env r=_;rw[QbY r]
def ptX(H:Qc):Bx->Option Lx
 |.mk (.rp cs)=>some (.mk cs)
 |.mk (.ptr i off)=>match Yw H i with
  |some (.cells _ cs)=>some (Qfn off cs)
  |_=>none
 |_=>none
theorem QjL{H:Qc}{p:A}{a:List A}(h:ptX H (.mk p)=some (.mk a)):Pts H p a:=by
 unfold ptX at h
 grind[Pts.rp,Qat,Pts.cells,Qdw]
def Qca(T:TyX)(o:Oper)(env:Env)(H:Qc):Option A:=
 match o.op with
 |.move x=>match opB env x with|.mk a=>some a
 |.assign x=>match opB env x with|.mk a=>some a
 |.nilCheck x=>nlB (opB env x)
 |.extract x i=>exB (opB env x) i
 |.unOp u _ x=>unB u (opB env x)
 |.pick c x y=>piB (opB env c) (opB env x) (opB env y)
 |.binOp b _ x y _=>biB b (opB env x) (opB env y)
 |.fieldAddr t x f=>match Qfh T.ty.fld t f with
  |none=>none
  |some off=>match opB env x with
   |.mk (.ptr i p)=>some (.ptr i (p+off))
   |.mk (.rp cs)=>match Qfn off cs with
    |.mk r=>some (.rp r)
   |_=>none
 |.load t x=>match Qbb T.ty.agg t with
  |none=>none
  |some (b,n)=>match x with
   |.global g=>match Yw QfT g with
    |some zs=>bif b&&Nat.beq zs.length n then(match fl (zs.map (A.int .i64))with|.mk l=>some (.agg l))else none
    |none=>none
   |x=>match ptX H (opB env x)with
    |none=>none
    |some (.mk cs)=>match b with
     |true=>(match fl (cs.take n)with|.mk l=>bif Nat.beq l.length n then some (.agg l)else none)
     |false=>(match cs with|[]=>none|a::_=>some a)
 |.build t parts=>match Qbb T.ty.zer t with
  |none=>none
  |some (zs,pl)=>match Qgu env pl zs parts.toList with
   |some cs=>some (.agg cs)
   |none=>none
 |.makeFunc f first cap=>match fl (Qfb env first.toList),fl (Qfb env cap.toList)with
  |.mk l,.mk l'=>some (.fn f l l')
 |.call c=>match c with
  |{callee:=.builtin .len,args:=⟨[x]⟩,argTypes:=⟨[t]⟩}=>bif Qcg T.sl t then(match opB env x with
   |.mk (.osl _ 0 n _)=>some (.int .i64 n)
   |_=>none)else none
  |_=>none
 |_=>none
theorem Qao{P:Program}{T:TyX}(d:QaN P T){o:Oper}{env:Env}{H:Qc}{x:A}(h:Qca T o env H=some x):OpV P o env H x:=by
 unfold Qca at h;split at h
 .simp_all[Qbc,svB]
 .simp_all[Qbc,svB]
 .simp_all[Qbc,svB]
 .simp_all[Qbc,svB]
 .simp_all[Qbc,svB]
 .simp_all[Qbc,svB]
 .simp_all[Qbc,svB]
 .rename_i t y f a;split at h
  .cases h
  .rename_i u j;obtain⟨n,R⟩:=d.ty.fld _ (Qfg j);split at h
   .grind[QbO,QE]
   .rename_i l Q;cases q:Qfn u l with
    |mk r=>rw[q]at h;grind[QdL,QE,Qdw]
   .cases h
 .rename_i t y a;split at h
  .cases h
  .rename_i b n F;obtain⟨m,s⟩:=d.ty.agg _ (Qap F);split at h
   .rename_i g;split at h
    .rename_i w B;rw[Qat]at B;cases q:(b&&Nat.beq w.length n)with
     |false=>grind
     |true=>
      rw[q,QbA]at h;cases h;simp only[XR]at q;obtain⟨rfl,E⟩:=q;exact Qel m s B (by simp_all) a
    .cases h
   .cases e:opB env y with
    |mk p=>
     rw[e]at h;split at h
     .cases h
     .rename_i l N;have L:=QjL N;cases b with
      |true=>
       simp only[QbA]at h;cases q:Nat.beq (l.take n).length n with
       |false=>grind
       |true=>
        rw[q]at h;cases h;exact Q1 a m s (QE e) L rfl (by simp_all)
      |false=>
       grind[OpV.load,QE]
 .rename_i t parts a;split at h
  .cases h
  .rename_i w V M;obtain⟨⟨z,m,s⟩,J⟩:=d.ty.zer _ (Qap M);split at h
   .rename_i l j;cases h;rw[Qfk]at j;exact OpV.build m s J (by rw[a]) j
   .cases h
 .rename_i f first cap a
  simp only[QbA]at h;cases h;rw[QbY,QbY];exact OpV.makeFunc (first:=first.toList) (cap:=cap.toList) (by rw[a]) rfl rfl
 .rename_i c a;split at h
  .rename_i y t;cases q:Qcg T.sl t with
   |false=>grind
   |true=>
    rw[q]at h;simp only[Vi]at h;obtain⟨O,G⟩:=d.sl t (Qeu q);split at h
    .rename_i i n k E;cases h;exact Qhp G a rfl (QE E)
    .cases h
  .cases h
 .cases h
def stX(T:TyX)(h0 N:Nat)(all:Array Oper)(o:Oper)(env:Env)(H:Qc):Option (Env×Qc):=
 match Yy all o env with
 |none=>none
 |some false=>match o.dst with
  |none=>none
  |some d=>bif Nat.blt d N then some (up env d (.tup []),H)else none
 |some true=>match o.dst with
  |none=>match o.op with
   |.store t x y=>match opB env x,Qbb T.ty.agg t with
    |.mk (.ptr i off),some (_,n)=>match Yw H i with
     |some (.cells S cs)=>match opB env y with
      |.mk a=>match fl (QZ a)with
       |.mk vs=>bif Nat.ble h0 H.length&&(Q6 a&&(Nat.beq vs.length n&&(vs.all Yf&&Nat.ble (off+n) cs.length)))then(match fl (splice cs off vs)with
        |.mk cs'=>match fb (H.set i (.cells S cs'))with
         |.mk H'=>some (env,H'))else none
     |_=>none
    |_,_=>none
   |_=>none
  |some d=>bif Nat.blt d N then(match o.op with
   |.alloc t=>match Qbb T.al t with
    |some v=>bif Nat.ble h0 H.length then(match fn H 0,fl (QZ v)with
     |.mk n,.mk cs=>match fb (H++[.cells t cs])with
      |.mk H'=>some (up env d (.ptr n 0),H'))else none
    |none=>none
   |.box t x=>match opB env x with
    |.mk a=>bif Nat.ble h0 H.length&&(Q6 a&&(QZ a).all Yf)then(match fn H 0,fl (QZ a)with
     |.mk n,.mk cs=>match fb (H++[.cells t cs])with
      |.mk H'=>some (up env d (.ptr n 0),H'))else none
   |_=>match Qca T o env H with
    |some a=>some (up env d a,H)
    |none=>none)else none
section
variable {P:Program} {T:TyX} {h0 N:Nat} {all:Array Oper} {l l':List Oper} {env env':Env} {H H':Qc} {Q:Qx}
theorem QhN(p:QaN P T){o:Oper}(h:stX T h0 N all o env H=some (env',H'))(k:WO P h0 N all l env' H' Q):WO P h0 N all (o::l) env H Q:=by
 unfold stX at h;split at h
 .cases h
 .grind[QF,WO.skip]
 .rename_i V;have j:=QF V;split at h
  .rename_i g;split at h
   .rename_i t x y f;split at h
    .rename_i i m b n M E;split at h
     .rename_i S cs hH;rw[Qat]at hH;cases e:opB env y with
      |mk a=>
       rw[e]at h;simp only[QbA,Qgw]at h;generalize hc:(Nat.ble h0 H.length&&(Q6 a&&(Nat.beq (QZ a).length n&&((QZ a).all Yf&&Nat.ble (m+n) cs.length))))=c at h;cases c with
       |false=>cases h
       |true=>
        cases h;simp only[XR]at hc;obtain⟨c1,r,s,J,w⟩:=hc;obtain⟨_,F⟩:=p.ty.agg _ (Qap E);exact Qiq (by simp_all) j g (OpU.store f (QE M) hH F (QE e) r rfl (by simp_all) J w rfl) k
     .cases h
    .cases h
   .cases h
  .rename_i d g;cases q:Nat.blt d N with
   |false=>grind
   |true=>
    rw[q]at h;simp only[Vi]at h;split at h
    .rename_i t f;split at h
     .rename_i v L;cases c:Nat.ble h0 H.length with
      |false=>grind
      |true=>
       rw[c]at h;simp only[QbA,Qgw,Qib,Vi,Xt]at h;cases h;obtain⟨⟨z,G,B⟩,u,R⟩:=p.al _ (Qap L);exact Qf2 (by simp_all) j g q (QbP G B f u rfl R) k
     .cases h
    .rename_i t x f;cases e:opB env x with
     |mk a=>
      rw[e]at h;simp only[QbA,Qgw,Qib,Xt]at h;generalize hc:(Nat.ble h0 H.length&&(Q6 a&&(QZ a).all Yf))=c at h;cases c with
      |false=>cases h
      |true=>
       cases h;simp only[XR]at hc;obtain⟨c1,r,s⟩:=hc;exact Qf2 (by simp_all) j g q (OpH.box f (QE e) r rfl s) k
    .split at h
     .rename_i a O;cases h;exact Yr j g q (Qao p O) k
     .cases h
end
theorem FA{P:Program}{T f off n:Nat}{fs:Array Field}{a:Field}(d:∀w,(underlying T).run P w=.ok (.struct fs) w)(h:fs[f]?=some a)(e:∀w,(sizeOf a.type).run P w=.ok n w)(g:a.offset=off:=by exact rfl)(h5:n≠0:=by decide):Yb P T f off n:=⟨_,_,d,h,g,e,h5⟩
theorem Qcv:∀(π:List Nat) (H:Qc) (xs:List Blk),π.map (λp=>H[p]?)=xs.map some->QL H π xs=H
 |[],H,xs,h=>by
  simp_all[QL]
 |p::π,H,[],h=>by simp at h
 |p::π,H,x::xs,h=>by
  simp only[Vd,List.cons.injEq]at h;have e:H.set p x=H:=by
   apply List.ext_getElem?
   grind
  unfold QL;rw[e];exact Qcv π H xs h.2
def QgP:A->Option Bx
 |.bool b=>some (.mk (.bool b))
 |.int k n=>some (.mk (.int k n))
 |.str s=>some (.mk (.str s))
 |.rsl k es=>some (.mk (.rsl k es))
 |_=>none
theorem QiU{v a:A}(h:QgP v=some (.mk a))(ρ:Nat->Nat):Yz ρ v=a:=by
 cases v<;>first|(cases h;rfl)|cases h
theorem Pc{P:Program}{h0 N:Nat}{all:Array Oper}{o:Oper}{l:List Oper}{env:Env}{H:Qc}{Q:Qx}{d:Nat}{f:FuncId}{args e:List A}{Hc:Qc}{v h:A}(π:List Nat)(i:o.dst=some d)(g:OpC P o env H f args)(j:C P f e Hc (λa H1=>a=v/\H1=Hc))(m:QgP v=some (.mk h))
  (k:WO P h0 N all l (up env d h) H Q)
  (hargs:args=Qag (rho π H.length) e:=by exact rfl)(hH:π.map (λp=>H[p]?)=(Hc.map (QM (rho π H.length))).map some:=by exact rfl)(hπ:π.Nodup:=by decide)
  (hg:Qs all o env true:=by exact rfl)(hN:Nat.blt d N=true:=by exact rfl)(hh:Nat.ble h0 H.length=true:=by exact rfl):WO P h0 N all (o::l) env H Q:=by
 refine Qh π g j ?_ hargs hH hπ hg i hN hh
 simp_all[QiU,Qcv]
theorem QV{i k:Nat}{es:List (List A)}:∀H:Qc,FzH i k es H H
 |[]=>.nil
 |_::r=>.keep (QV r)
def foN:Nat->FN
 |0=>.mk 0
 |1=>.mk 1
 |2=>.mk 2
 |3=>.mk 3
 |4=>.mk 4
 |5=>.mk 5
 |6=>.mk 6
 |7=>.mk 7
 |8=>.mk 8
 |9=>.mk 9
 |10=>.mk 10
 |11=>.mk 11
 |12=>.mk 12
 |13=>.mk 13
 |14=>.mk 14
 |15=>.mk 15
 |16=>.mk 16
 |17=>.mk 17
 |18=>.mk 18
 |19=>.mk 19
 |20=>.mk 20
 |21=>.mk 21
 |22=>.mk 22
 |23=>.mk 23
 |24=>.mk 24
 |25=>.mk 25
 |26=>.mk 26
 |27=>.mk 27
 |28=>.mk 28
 |29=>.mk 29
 |30=>.mk 30
 |31=>.mk 31
 |32=>.mk 32
 |33=>.mk 33
 |34=>.mk 34
 |35=>.mk 35
 |36=>.mk 36
 |37=>.mk 37
 |38=>.mk 38
 |39=>.mk 39
 |40=>.mk 40
 |41=>.mk 41
 |42=>.mk 42
 |43=>.mk 43
 |44=>.mk 44
 |45=>.mk 45
 |46=>.mk 46
 |47=>.mk 47
 |n=>.mk n
theorem QeB(n:Nat):foN n=.mk n:=by unfold foN;split<;>rfl
mutual
def foA:A->Bx
 |.agg cs=>match foL cs with
  |.mk l=>.mk (.agg l)
 |.tup cs=>match foL cs with
  |.mk l=>.mk (.tup l)
 |.fn f a c=>match foL a,foL c with
  |.mk l,.mk l'=>.mk (.fn f l l')
 |.iface t v=>match foA v with
  |.mk v'=>.mk (.iface t v')
 |.ptr i off=>match foN i with
  |.mk i'=>.mk (.ptr i' off)
 |.osl i o n k=>match foN i with
  |.mk i'=>.mk (.osl i' o n k)
 |.map i=>match foN i with
  |.mk i'=>.mk (.map i')
 |a=>.mk a
def foL:List A->FL
 |[]=>.mk []
 |a::r=>match foA a,foL r with
  |.mk a',.mk r'=>.mk (a'::r')
end
mutual
theorem QfU:∀a:A,foA a=.mk a
 |.agg cs=>by unfold foA;rw[QbK cs]
 |.tup cs=>by unfold foA;rw[QbK cs]
 |.fn f a c=>by unfold foA;rw[QbK a,QbK c]
 |.iface t v=>by unfold foA;rw[QfU v]
 |.ptr i off=>by unfold foA;rw[QeB]
 |.osl i o n k=>by unfold foA;rw[QeB]
 |.map i=>by unfold foA;rw[QeB]
 |.any|.bool _|.int _ _|.str _|.nilp|.rp _|.nils|.rsl _ _|.nilf|.nilif|.nilm=>by rfl
theorem QbK:∀l:List A,foL l=.mk l
 |[]=>by rfl
 |a::r=>by unfold foL;rw[QfU a,QbK r]
end
inductive FE2 where
 |mk (l:List (List A))
def foE:List (List A)->FE2
 |[]=>.mk []
 |a::r=>match foL a,foE r with
  |.mk a',.mk r'=>.mk (a'::r')
theorem Qia:∀l,foE l=.mk l
 |[]=>rfl
 |a::r=>by unfold foE;rw[QbK,Qia r]
def foH:List Blk->FB
 |[]=>.mk []
 |b::r=>match foH r with
  |.mk r'=>match b with
   |.cells t cs=>match foL cs with
    |.mk l=>.mk (.cells t l::r')
   |.rowr t k es=>match foE es with
    |.mk l=>.mk (.rowr t k l::r')
   |.dead=>.mk (.dead::r')
   |.row t k es=>.mk (.row t k es::r')
   |.map es=>.mk (.map es::r')
   |.iter c es=>.mk (.iter c es::r')
   |.fmap es=>.mk (.fmap es::r')
   |.mapO fz t k es=>.mk (.mapO fz t k es::r')
   |.mapP es=>.mk (.mapP es::r')
   |.frow t k es=>.mk (.frow t k es::r')
   |.wins t a n c=>match foN a with
    |.mk a'=>.mk (.wins t a' n c::r')
   |.ents t a b es=>match foN a,foN b with
    |.mk a',.mk b'=>.mk (.ents t a' b' es::r')
theorem Qh9:∀l,foH l=.mk l
 |[]=>rfl
 |b::r=>by
  unfold foH;rw[Qh9 r];cases b<;>simp only[QbK,Qia,QeB]
def foS(env:Env)(H:Qc):Option (Env×Qc):=
 match foH H with
 |.mk H'=>match env with
  |[]=>some ([],H')
  |(d,a)::e=>match foA a with
   |.mk a'=>some ((d,a')::e,H')
theorem QjX(env:Env)(H:Qc):foS env H=some (env,H):=by
 unfold foS;rw[Qh9];cases env with
 |nil=>rfl
 |cons p e=>obtain⟨d,a⟩:=p;simp only[QfU]
theorem FE{P:Program}{h0 N:Nat}{all:Array Oper}{l:List Oper}{env a:Env}{H H':Qc}{Q:Qx}(h:foS env H=some (a,H'))(k:WO P h0 N all l a H' Q):WO P h0 N all l env H Q:=by
 rw[QjX]at h
 grind
theorem R1{P:Program}{h0:Nat}{fn:Func}{env:Env}{H Hc:Qc}{v:A}(s:Nat)(hr:fn.results= #[.tmp s])(hle:Le h0 env H [(s,v)] Hc):YM P h0 fn (λa H=>a=v/\H=Hc) .ret env H:=
 ⟨[(s,v)],Hc,v,hle,Qa7.one hr (by simp_all[lk]),rfl,rfl⟩
theorem R2{P:Program}{h0:Nat}{fn:Func}{env:Env}{H Hc:Qc}{v v':A}(s t:Nat)(hr:fn.results= #[.tmp s,.tmp t])(hn:Nat.beq t s=false)(hle:Le h0 env H [(s,v),(t,v')] Hc):YM P h0 fn (λa H=>a=.tup [v,v']/\H=Hc) .ret env H:=
 ⟨[(s,v),(t,v')],Hc,_,hle,Qhh hr (by simp_all[lk]) (by simp_all[lk]),rfl,rfl⟩
theorem FzA.o{i k n:Nat}{es:List (List A)}(a:n=es.length:=by first|exact(XW ..).symm|exact rfl):FzA i k es (.osl i 0 n k) (.rsl k es):=FzA.own a
theorem Le.env{f:Nat}{env d:Env}{H:Qc}(h:∀s,lk d s=.any\/lk d s=lk env s):Le f env H d H:=by
 intro g e σ N a w r;refine⟨e,σ,⟨r.sim,λs=>?_,r.size,r.defers⟩,λ_ q=>q,rfl⟩;rcases h s with h|h
 .rw[h];trivial
 .rw[h];exact r.env s
def QiH(env:Env):Env->Prop
 |[]=>True
 |(s,a)::r=>lk env s=a/\QiH env r
theorem QiH.ok{env:Env}:∀{f:Env},QiH env f->∀s,lk f s=.any\/lk f s=lk env s
 |[],_,s=>.inl rfl
 |(d,a)::e,⟨h1,h2⟩,s=>by
  by_cases q:s=d
  .simp_all[lk]
  .have:Nat.beq s d=false:=by
    simp_all[VB]
   simp only[lk,this,Vj];exact QiH.ok h2 s
theorem Lw{h0:Nat}{env env':Env}{H:Qc}(h:QiH env env'):Le h0 env H env' H:=Le.env h.ok
def ixO(d:Nat)(op:Op)(t:Nat)(pos:String)(af:Array Edge):Oper:={dst:=some d,op:=op,type:=t,pos:=pos,after:=af,guard:=none}
inductive Kf where
 |seq (c:Code)
 |blo (id:Nat)
 |unr (c:Code)
inductive Cf where
 |code (c:Code)
 |ops (all:Array Oper) (l:List Oper)
 |out (x:AEx)
def kq(P:Program)(h0 N:Nat):List Kf->Qx->Qx
 |[],Q=>Q
 |.seq c::k,Q=>Seq P h0 N c (kq P h0 N k Q)
 |.blo id::k,Q=>Blo id (kq P h0 N k Q)
 |.unr c::k,Q=>Qf4 P h0 N c (kq P h0 N k Q)
@[reducible] def Hd(P:Program)(h0 N:Nat):Cf->List Kf->Env->Qc->Qx->Prop
 |.code c,k,env,H,Q=>TC P h0 N c env H (kq P h0 N k Q)
 |.ops all l,k,env,H,Q=>WO P h0 N all l env H (kq P h0 N k Q)
 |.out x,k,env,H,Q=>kq P h0 N k Q x env H
def Qd3(T:TyX)(h0 N:Nat):Cf->List Kf->Env->Qc->Option (Cf×List Kf×Env×Qc)
 |.code (.seq a b),k,env,H=>some (.code a,.seq b::k,env,H)
 |.code (.block id c),k,env,H=>some (.code c,.blo id::k,env,H)
 |.code (.loop c),k,env,H=>some (.code c,.unr c::k,env,H)
 |.code .skip,k,env,H=>some (.out .normal,k,env,H)
 |.code .ret,k,env,H=>some (.out .ret,k,env,H)
 |.code (.exit id),k,env,H=>some (.out (.exit id),k,env,H)
 |.code (.region id ⟨l⟩ false),k,env,H=>some (.ops ⟨l⟩ l,k,env,H)
 |.code (.cond x a b),k,env,H=>match opB env x with
  |.mk (.bool true)=>some (.code a,k,env,H)
  |.mk (.bool false)=>some (.code b,k,env,H)
  |_=>none
 |.ops all [],k,env,H=>some (.out .normal,k,env,H)
 |.ops all (o::l),k,env,H=>match stX T h0 N all o env H with
  |some (env',H')=>some (.ops all l,k,env',H')
  |none=>none
 |.out .normal,.seq c::k,env,H=>some (.code c,k,env,H)
 |.out (.exit i),.seq _::k,env,H=>some (.out (.exit i),k,env,H)
 |.out .ret,.seq _::k,env,H=>some (.out .ret,k,env,H)
 |.out .normal,.blo _::k,env,H=>some (.out .normal,k,env,H)
 |.out (.exit i),.blo id::k,env,H=>match Nat.beq i id with
  |true=>some (.out .normal,k,env,H)
  |false=>some (.out (.exit i),k,env,H)
 |.out .ret,.blo _::k,env,H=>some (.out .ret,k,env,H)
 |.out .normal,.unr c::k,env,H=>some (.code c,.unr c::k,env,H)
 |.out (.exit i),.unr _::k,env,H=>some (.out (.exit i),k,env,H)
 |.out .ret,.unr _::k,env,H=>some (.out .ret,k,env,H)
 |_,_,_,_=>none
def QbV(T:TyX)(h0 N:Nat):Nat->Cf->List Kf->Env->Qc->Option (Cf×List Kf×Env×Qc)
 |0,c,k,env,H=>some (c,k,env,H)
 |n+1,c,k,env,H=>match Qd3 T h0 N c k env H with
  |some (c',k',env',H')=>QbV T h0 N n c' k' env' H'
  |none=>none
section
variable {P:Program} {T:TyX} {h0 N:Nat} {Q:Qx}
theorem QhK(f:QaN P T){c e:Cf}{k d:List Kf}{env a:Env}{H H':Qc}(h:Qd3 T h0 N c k env H=some (e,d,a,H'))(g:Hd P h0 N e d a H' Q):Hd P h0 N c k env H Q:=by
 unfold Qd3 at h;split at h
 .cases h;exact TC.seq g
 .cases h;exact TC.block g
 .cases h;exact Qhe g
 .cases h;exact TC.skip g
 .cases h;exact TC.ret g
 .cases h;exact TC.exit g
 .cases h;exact TC.region g
 .split at h
  .rename_i q;cases h;exact Qiy (QE q) rfl g
  .rename_i q;cases h;exact Qiz (QE q) rfl g
  .cases h
 .cases h;exact WO.nil g
 .grind[QhN]
 .cases h;exact seqN g
 .cases h;exact seqX g
 .cases h;exact seqR g
 .cases h;exact bloN g
 .split at h
  .rename_i q;cases h;have:=XL q;subst this;exact bloE g
  .rename_i q;cases h;exact bloX q g
 .cases h;exact bloR g
 .cases h;exact unrN g
 .cases h;exact unrX g
 .cases h;exact unrR g
 .cases h
theorem QbU(hT:QaN P T):∀(n:Nat) {c c':Cf} {k k':List Kf} {env env':Env} {H H':Qc},QbV T h0 N n c k env H=some (c',k',env',H')->Hd P h0 N c' k' env' H' Q->Hd P h0 N c k env H Q
 |0,c,c',k,k',env,env',H,H',h,g=>by cases h;exact g
 |n+1,c,c',k,k',env,env',H,H',h,g=>by
  unfold QbV at h;split at h
  .rename_i e;exact QhK hT e (QbU hT n h g)
  .cases h
theorem Qgh{env:Env}{s:Nat}{a:A}(h:lk env s=a):∀t,lk (up env s a) t=lk env t:=by
 intro t;simp[lk];cases q:Nat.beq t s with
 |true=>simp_all
 |false=>rfl
theorem Is{α:Type}{all:Array Oper}{l:List Oper}{env:Env}{H:Qc}{b:Bool}{x y:Option α}{r:α}(s:Nat)(h:(bif b then x else y)=some r)(d:lkB env s=.mk (.bool b))
  (t:b=true->x=some r->WO P h0 N all l (up env s (.bool true)) H Q)(e:b=false->y=some r->WO P h0 N all l (up env s (.bool false)) H Q):WO P h0 N all l env H Q:=by
 have a:=QfQ d;cases b with
 |true=>exact Qp (Le.env λt=>.inr (Qgh a t)) (t rfl h)
 |false=>exact Qp (Le.env λt=>.inr (Qgh a t)) (e rfl h)
end
def dstN(o:Oper)(i:Nat):Nat:=match o.dst with|some d=>d|none=>1000000+i
def QaJ:Nat->Nat->List Oper->List Nat
 |0,_,_=>[]
 |_+1,_,[]=>[]
 |m+1,i,o::l=>dstN o i::QaJ m (i+1) l
def QY(af:List Nat):Nat->List Nat->List A->Env->Env
 |j,d::ds,x::xs,e=>(d,bif Qcg af j then x else .any)::QY af (j+1) ds xs e
 |j,d::ds,[],e=>(d,.any)::QY af (j+1) ds [] e
 |_,[],_,e=>e
theorem QdX{l:List Nat}{t:Nat}:Qcg l t=l.contains t:=by
 induction l with
 |nil=>rfl
 |cons a r d=>
  grind[Qcg,Nat.eq_of_beq_eq_true,Nat.beq_refl]
theorem QgA{af:List Nat}{env0:Env}{s:Nat}:∀(a:List Nat) (xs f:List A) (b:Nat),
  (∃(j:Nat) (x:A),af.contains (b+j)=true/\a[j]?=some s/\(xs++f)[j]?=some x/\lk (QY af b a xs env0) s=x)\/lk (QY af b a xs env0) s=.any\/(a.contains s=false/\lk (QY af b a xs env0) s=lk env0 s):=by
 intro a
 induction a with
 |nil=>intro xs f b;right;right;exact⟨rfl,by rfl⟩
 |cons d a l=>
  intro xs f b;have next:∀(e:List A),(∃(j:Nat) (x:A),af.contains (b+1+j)=true/\a[j]?=some s/\(e++f)[j]?=some x/\lk (QY af (b+1) a e env0) s=x)->∀p,(∃(j:Nat) (x:A),af.contains (b+j)=true/\(d::a)[j]?=some s/\(p::e++f)[j]?=some x/\lk (QY af (b+1) a e env0) s=x):=by
   rintro e ⟨j,x,i,k,n,m⟩ p;exact⟨j+1,x,by grind,by grind,by grind,m⟩
  cases xs with
  |nil=>
   cases q:Nat.beq s d with
   |true=>simp_all[QY,lk]
   |false=>
    have g:s≠d:=λz=>by simp_all
    simp only[QY,lk,q,Vj];rcases l [] [] (b+1)with⟨j,x,i,k,n,m⟩|h|⟨i,k⟩
    .simp at n
    .grind
    grind
  |cons x xs=>
   cases q:Nat.beq s d with
   |true=>
    have:=XL q;subst this;simp only[QY,lk,q,Vi];cases c:Qcg af b with
    |true=>left;exact⟨0,x,by rw[<- QdX];exact c,rfl,rfl,rfl⟩
    |false=>simp
   |false=>
    have g:s≠d:=λz=>by simp_all
    simp only[QY,lk,q,Vj];rcases l xs f (b+1)with h|h|⟨i,k⟩
    .exact .inl (next xs h x)
    .grind
    grind
section
variable {P:Program} {T:TyX} {h0 N m:Nat} {l:List Oper} {ds:List Nat} {env:Env} {H:Qc} {Q:Qx} {K:List Oper->Env->Qc->Prop}
def DS(P:Program)(N m:Nat)(l:List Oper)(ds:List Nat)(env:Env)(H:Qc)(K:List Oper->Env->Qc->Prop)(r:List Oper)(xs:List A):Prop:=
 r=l.drop xs.length->∃ys,xs.length+ys.length=m/\(∀j,xs.length<=j->j<m->YS P N l ds (xs++ys) env H.length H.length j H H)/\K (l.drop m) (Qam ds (xs++ys) env) H
theorem oqOf{xs:List A}:∀(c i:Nat),(∀j,i<=j->j<i+c->YS P N l ds xs env H.length H.length j H H)->Oq P N l ds xs env H i c
 |0,i,_=>.n
 |c+1,i,h=>.c (by grind) (oqOf c (i+1) (by grind))
theorem QiM{id:Nat}{k:List Kf}(m:Nat)(i:P.follows .mixedOrders=true)(d:Go.Sw.draw0 l m N (QaJ m 0 l)=true)(a:Nat.ble h0 H.length=true)
  (h:DS P N m l (QaJ m 0 l) env H (λr e H=>WO P h0 N l.toArray r e H Q) l []):TC P h0 N (.region id l.toArray true) env H Q:=by
 obtain⟨f,j,n,g⟩:=h rfl;exact TC.draw0 m _ f i d (by simp_all) a (oqOf m 0 (by grind)) g
theorem DS.done{xs:List A}{r:List Oper}(a:Nat.beq xs.length m=true)(h:K r (Qam ds xs env) H):DS P N m l ds env H K r xs:=by
 intro g;have e:=XL a;refine⟨[],by simpa using e,λj f d=>by omega,?_⟩
 grind
theorem DS.add{xs:List A}{o:Oper}{r:List Oper}{x:A}(f:Nat.blt xs.length m=true)(g:∀ys,l[xs.length]?=some o->YS P N l ds (xs++x::ys) env H.length H.length xs.length H H)(k:DS P N m l ds env H K r (xs++[x])):DS P N m l ds env H K (o::r) xs:=by
 intro d;have a:xs.length<l.length:=by
  grind[List.drop_eq_nil_of_le]
 rw[Xm a]at d;cases d;obtain⟨ys,h,i,e⟩:=k (by simp)
 grind
theorem Qff{xs a:List A}{x:A}:(xs++x::a)[xs.length]?=some x:=by simp
theorem DS.wo{xs:List A}{o:Oper}{r:List Oper}{x:A}{d:Nat}(h:WO P H.length N l.toArray [o] (QY (Qj o) 0 ds xs env) H (YC (up (QY (Qj o) 0 ds xs env) d x) H))(k:DS P N m l ds env H K r (xs++[x]))
  (e:o.dst=some d:=by exact rfl)(hx:Nat.blt xs.length m=true:=by exact rfl):DS P N m l ds env H K (o::r) xs:=
 .add hx (λf a=>.woE o _ d x a e Qff (he:=by
  intro s;rcases QgA (af:=Qj o) (env0:=env) (s:=s) ds xs (x::f) 0 with⟨j,y,i,p,n,g⟩|q|q
  .grind
  .grind
  grind) (hdd:=QcH H) (h:=h)) k
theorem DS.v{xs:List A}{o:Oper}{r:List Oper}{x:A}{d:Nat}(h:OpV P o (QY (Qj o) 0 ds xs env) H x)(k:DS P N m l ds env H K r (xs++[x]))(hg:Qs l.toArray o (QY (Qj o) 0 ds xs env) true:=by exact rfl)
  (hd:o.dst=some d:=by exact rfl)(hN:Nat.blt d N=true:=by exact rfl)(hx:Nat.blt xs.length m=true:=by exact rfl):DS P N m l ds env H K (o::r) xs:=
 .wo (Yr hg hd hN h (WO.nil YC.mk)) k hd hx
def Qb2:List A->A->FL
 |[],x=>.mk [x]
 |a::r,x=>match Qb2 r x with
  |.mk r'=>.mk (a::r')
theorem YL:∀(l:List A) (x:A),Qb2 l x=.mk (l++[x])
 |[],x=>rfl
 |a::r,x=>by unfold Qb2;rw[YL r];rfl
def Qe6(T:TyX)(N m:Nat)(l:List Oper)(ds:List Nat)(env:Env)(H:Qc):Nat->Nat->List Oper->List A->Option (List Oper×List A)
 |0,_,r,xs=>some (r,xs)
 |_+1,_,[],_=>none
 |n+1,i,o::r,xs=>match Nat.blt i m with
  |false=>none
  |true=>match o.dst with
   |none=>none
   |some d=>match Nat.blt d N with
    |false=>none
    |true=>match Yy ⟨l⟩ o (QY (Qj o) 0 ds xs env)with
     |none=>none
     |some false=>match Qb2 xs (.tup [])with
      |.mk xs'=>Qe6 T N m l ds env H n (i+1) r xs'
     |some true=>match Qca T o (QY (Qj o) 0 ds xs env) H with
      |none=>none
      |some x=>match Qb2 xs x with
       |.mk xs'=>Qe6 T N m l ds env H n (i+1) r xs'
theorem Qde(hT:QaN P T):∀(n i:Nat) {r r':List Oper} {xs xs':List A},i=xs.length->Qe6 T N m l ds env H n i r xs=some (r',xs')->DS P N m l ds env H K r' xs'->DS P N m l ds env H K r xs
 |0,i,r,r',xs,xs',_,h,k=>by cases h;exact k
 |n+1,i,[],r',xs,xs',_,h,k=>by cases h
 |n+1,i,o::r,r',xs,xs',hi,h,k=>by
  subst hi;unfold Qe6 at h;split at h
  .cases h
  .rename_i q1;split at h
   .cases h
   .rename_i d hd;split at h
    .cases h
    .rename_i q2;split at h
     .cases h
     .rename_i hw;simp[YL]at h;exact .wo (WO.skip (QF hw) hd q2 (WO.nil YC.mk)) (Qde hT n _ (by simp) h k) hd q1
     .rename_i hw;split at h
      .cases h
      .rename_i x hv;simp[YL]at h;exact .v (Qao hT hv) (Qde hT n _ (by simp) h k) (QF hw) hd q2 q1
def QfM:List A->Nat->A->FL
 |[],_,_=>.mk []
 |_::r,0,x=>.mk (x::r)
 |a::r,n+1,x=>match QfM r n x with
  |.mk r'=>.mk (a::r')
theorem QaG:∀{l:List A} {n:Nat} {x:A},Yw l n=some x->QfM l n x=.mk l
 |[],n,x,h=>by cases h
 |a::r,0,x,h=>by cases h;rfl
 |a::r,n+1,x,h=>by unfold QfM;rw[QaG (l:=r) h]
theorem Ye{α:Type}{b:Bool}{x y:Option α}{v:α}{xs a d:List A}{r:List Oper}(j:Nat)(h:(bif b then x else y)=some v)(i:Yw xs j=some (.bool b))(g:QfM xs j (.bool true)=.mk a)(f:QfM xs j (.bool false)=.mk d)
  (t:b=true->x=some v->DS P N m l ds env H K r a)(e:b=false->y=some v->DS P N m l ds env H K r d):DS P N m l ds env H K r xs:=by
 cases b with
 |true=>simp_all[QaG]
 |false=>simp_all[QaG]
end
@[reducible] def RQ{β:Type}(w:β->A)(Hc:β->Qc)(r:β):A->Qc->Prop:=λa H=>a=w r/\H=Hc r
@[reducible] def Csm{β:Type}(P:Program)(f:FuncId)(args:List A)(H:Qc)(w:β->A)(r:β):Prop:=C P f args H (RQ w (λ_=>H) r)
structure TyZ where
 sl:List (Nat×Nat×Nat)
 fn:List Nat
structure QbB (P:Program) (Z:TyZ):Prop where
 sl:∀e∈Z.sl,(∀w,(underlying e.1).run P w=.ok (.slice e.2.1) w)/\ ∀w,(sizeOf e.2.1).run P w=.ok e.2.2 w
 fn:∀f∈Z.fn,∀(a:Array Value) (w:World),(callFunc f a).run P w=.ok (.enter f a) w
section
variable {P:Program} {Z:TyZ} {h0 N:Nat} {all:Array Oper} {o:Oper} {l:List Oper} {env:Env} {H:Qc} {Q:Qx} {d:Nat}
theorem Izz(p:QbB P Z){α:Type}{e:α->List A}{t j k:Nat}{L:List α}{a:IntKind}{i:Int}{v:α}(h:idx L i=some v)(q:ixB o env=some (d,t,k,L.map e,a,i))(g:WO P h0 N all l (up env d (.rp (e v))) H Q)
  (m:Qbb Z.sl t=some (j,k))(hg:Yy all o env=some true)(n:Nat.blt d N=true):WO P h0 N all (o::l) env H Q:=by
 obtain⟨f,r⟩:=p.sl _ (Qap m);exact Ix h f r q g (QF hg) n
theorem Ize(p:QbB P Z){α:Type}{e:α->List A}{t j k:Nat}{L:List α}{f:IntKind}{i:Int}{v:α}{a:List A}(h:idx L i=some v)(he:e v=a)(q:ixB o env=some (d,t,k,L.map e,f,i))(g:WO P h0 N all l (up env d (.rp a)) H Q)
  (m:Qbb Z.sl t=some (j,k))(hg:Yy all o env=some true)(n:Nat.blt d N=true):WO P h0 N all (o::l) env H Q:=by
 subst he;exact Izz p h q g m hg n
theorem Lmz(m:QbB P Z){α:Type}{e:α->List A}{t f k i:Nat}{L:List α}(q:lnB o env=some (d,t,.mk (.rsl k (L.map e))))(g:WO P h0 N all l (up env d (.int .i64 L.length)) H Q)
  (h:Qbb Z.sl t=some (f,i))(hg:Yy all o env=some true)(j:Nat.blt d N=true):WO P h0 N all (o::l) env H Q:=by
 obtain⟨a,n⟩:=m.sl _ (Qap h);exact LnM a q g (QF hg) j
def QdY(Z:TyZ)(o:Oper)(env:Env):Option (Nat×Nat×List A):=
 match o.dst with
 |none=>none
 |some d=>match o.op with
  |.call {callee:=.value (.func f),args:=⟨xs⟩,argTypes:=_}=>bif Qcg Z.fn f then(match fl (Qfb env xs)with|.mk ax=>some (d,f,ax))else none
  |.call {callee:=.value (.tmp x),args:=⟨xs⟩,argTypes:=_}=>match opB env (.tmp x)with
   |.mk (.fn (.func f) vf vc)=>bif Qcg Z.fn f then(match fl (vf++(Qfb env xs++vc))with|.mk ax=>some (d,f,ax))else none
   |_=>none
  |_=>none
theorem Qc1(j:QbB P Z){f:Nat}{args:List A}(h:QdY Z o env=some (d,f,args)):o.dst=some d/\OpC P o env H f args:=by
 unfold QdY at h;split at h
 .cases h
 .rename_i m g;split at h
  .rename_i e i l a;cases q:Qcg Z.fn e with
   |false=>grind
   |true=>
    rw[q]at h;simp only[QbA]at h;cases h;exact⟨g,OpC.fn (j.fn _ (Qeu q)) a rfl (QbY i).symm⟩
  .rename_i x i l a;split at h
   .rename_i e p n k;cases q:Qcg Z.fn e with
    |false=>grind
    |true=>
     rw[q]at h;simp only[QbA]at h;cases h;exact⟨g,YY (j.fn _ (Qeu q)) a rfl (QE k) (by rw[QbY])⟩
   .cases h
  .cases h
theorem Czz(i:QbB P Z){β γ:Type}{F:Option β}{F':β->Option γ}{r:γ}{f:Nat}{args a:List A}{Hc:Qc}{w:β->A}(π:List Nat)(h:F.bind F'=some r)(k:∀v,F=some v->C P f a Hc (RQ w (λ_=>Hc) v))
  (e:QdY Z o env=some (d,f,args))(g:∀v,F=some v->F' v=some r->WO P h0 N all l (up env d (w v)) H Q)(j:∀v,QgP (w v)=some (.mk (w v)))
  (hargs:args=Qag (rho π H.length) a)(t:π.map (λp=>H[p]?)=(Hc.map (QM (rho π H.length))).map some)(hπ:π.Nodup)(hg:Yy all o env=some true)(u:Nat.blt d N=true)(m:Nat.ble h0 H.length=true):WO P h0 N all (o::l) env H Q:=by
 obtain⟨v,q,x⟩:=Q5 h;obtain⟨n,s⟩:=Qc1 (H:=H) i e
 grind[Pc,QF]
theorem DzZ(u:QbB P Z){K:List Oper->Env->Qc->Prop}{m:Nat}{i:List Oper}{e:List Nat}{xs:List A}{β γ:Type}{F:Option β}{F':β->Option γ}{r:γ}{f:Nat}{args a:List A}{Hc:Qc}{w:β->A}(π:List Nat)(h:F.bind F'=some r)(s:∀v,F=some v->C P f a Hc (RQ w (λ_=>Hc) v))
  (j:QdY Z o (QY (Qj o) 0 e xs env)=some (d,f,args))(g:∀v,F=some v->F' v=some r->DS P N m i e env H K l (xs++[w v]))(q:∀v,QgP (w v)=some (.mk (w v)))
  (hargs:args=Qag (rho π H.length) a)(y:π.map (λp=>H[p]?)=(Hc.map (QM (rho π H.length))).map some)(hπ:π.Nodup)(hg:Yy i.toArray o (QY (Qj o) 0 e xs env)=some true)(z:Nat.blt d N=true)(t:Nat.blt xs.length m=true):DS P N m i e env H K (o::l) xs:=by
 obtain⟨v,n,B⟩:=Q5 h;obtain⟨k,x⟩:=Qc1 u j;exact .wo (Pc π k x (s v n) (q v) (WO.nil YC.mk) hargs y hπ (QF hg) z (by simp)) (g v n B) k t
theorem ln:QaQ H [] []:=trivial
theorem ls{ax d:List A}{a:A}(k:QaQ H ax d)(h:Yd a=true:=by exact rfl):QaQ H (a::ax) (a::d):=⟨.inl ⟨rfl,h⟩,k⟩
theorem lo{ax a:List A}{i n k t:Nat}{es:List (List A)}(d:QaQ H ax a)(e:H[i]?=some (.row t k es):=by exact rfl)(hn:es.length=n:=by exact XW ..):QaQ H (.osl i 0 n k::ax) (.rsl k es::a):=
 ⟨.inr (by grind),d⟩
theorem Cbz(k:QbB P Z){β γ:Type}{F:Option β}{F':β->Option γ}{r:γ}{f:Nat}{args a:List A}{w:β->A}(h:F.bind F'=some r)(i:∀v,F=some v->C P f a [] (RQ w (λ_=>[]) v))
  (e:QdY Z o env=some (d,f,args))(m:QaQ H args a)(g:∀v,F=some v->F' v=some r->WO P h0 N all l (up env d (w v)) H Q)(s:∀v,QW (w v)=true)
  (hg:Yy all o env=some true)(q:Nat.blt d N=true):WO P h0 N all (o::l) env H Q:=by
 obtain⟨v,n,t⟩:=Q5 h;obtain⟨j,p⟩:=Qc1 k e;refine Qb3 p m (i v n) ?_ ?_ (QF hg) j q
 .grind
 grind
end
def ixL:List Nat:=[0,1,2,3,4,5,6,7,8,9,10,11,12,13,14,15,16,17,18,19,20,21,22,23,24,25,26,27,28,29,30,31,32,33,34,35,36,37,38,39,40,41,42,43,44,45,46,47,48,49,50,51,52,53,54,55,56,57,58,59,60,61,62,63]
def QfP:List Nat->List Nat->Nat->FN
 |a::r,b::s,j=>bif Nat.beq a j then .mk b else QfP r s j
 |_,_,j=>.mk j
mutual
def cpA(sel:List Nat):A->Bx
 |.ptr i off=>match QfP sel ixL i with
  |.mk j=>.mk (.ptr j off)
 |.osl i o n k=>match QfP sel ixL i with
  |.mk j=>.mk (.osl j o n k)
 |.map i=>match QfP sel ixL i with
  |.mk j=>.mk (.map j)
 |.fn f a c=>match cpL sel a,cpL sel c with
  |.mk a',.mk c'=>.mk (.fn f a' c')
 |a=>.mk a
def cpL(sel:List Nat):List A->FL
 |[]=>.mk []
 |a::r=>match cpA sel a,cpL sel r with
  |.mk a',.mk r'=>.mk (a'::r')
end
inductive FV where
 |mk (e:Env)
def Qh2(sel:List Nat)(env:Env):List Nat->Env->FV
 |[],nE=>.mk nE
 |s::r,nE=>match lkB env s with
  |.mk a=>match cpA sel a,Qh2 sel env r nE with
   |.mk a',.mk e=>.mk ((s,a')::e)
def selH(H:Qc):List Nat->List Nat->List (Nat×Blk)->FB
 |a::r,p::ps,[]=>match Yw H a,selH H r ps []with
  |some b,.mk l=>.mk (b::l)
  |none,.mk l=>.mk l
 |a::r,p::ps,(q,b)::n=>bif Nat.beq p q then(match selH H r ps n with|.mk l=>.mk (b::l))else(match Yw H a,selH H r ps ((q,b)::n)with
  |some b,.mk l=>.mk (b::l)
  |none,.mk l=>.mk l)
 |_,_,_=>.mk []
def QfZ(sel keep:List Nat)(nE:Env)(nH:List (Nat×Blk))(env:Env)(H:Qc):Option (Env×Qc):=
 match Qh2 sel env keep nE,selH H sel ixL nH with
 |.mk e,.mk h=>some (e,h)
section
variable {P:Program} {h0 N:Nat} {c:Code} {env:Env} {H:Qc} {Q:Qx}
def Qgf{β:Type}(h0:Nat)(b:β)(E':β->Env)(H':β->Qc)(Q:Qx):Qx
 |.normal,env,H=>Le h0 env H (E' b) (H' b)
 |.exit id,env,H=>Q (.exit id) env H
 |.ret,env,H=>Q .ret env H
theorem Qa6{h0:Nat}{env:Env}{H:Qc}{Q:Qx}{β:Type}{b:β}{E':β->Env}{H':β->Qc}(h:Le h0 env H (E' b) (H' b)):Qgf h0 b E' H' Q .normal env H:=h
theorem Ct{β:Type}{E':β->Env}{H':β->Qc}(b:β)(sel keep:List Nat)(nE:β->Env)(nH:β->List (Nat×Blk))(_:∀b,QfZ sel keep (nE b) (nH b) env H=some (E' b,H' b))(h:TC P h0 N c env H (Qgf h0 b E' H' Q))(k:∀env H,Le h0 env H (E' b) (H' b)->Q .normal env H):TC P h0 N c env H Q:=
 h.mono λx env' H' q=>by
  cases x with
  |normal=>exact k _ _ q
  |exit id=>exact q
  |ret=>exact q
theorem CtE{S B:Type}{b:Ctl S B}{E':S->Env}{H':S->Qc}(sel keep:List Nat)(nE:S->Env)(nH:S->List (Nat×Blk))(_:∀s,QfZ sel keep (nE s) (nH s) env H=some (E' s,H' s))(h:TC P h0 N c env H (Qeo h0 b E' H' Q))(k:∀s env H,b=.cont s->Le h0 env H (E' s) (H' s)->Q .normal env H):TC P h0 N c env H Q:=Qjm E' H' h k
theorem Lp{S B:Type}{step:S->Option (Ctl S B)}{E':S->Env}{H':S->Qc}{m:Nat}{s0:S}{b0:B}(sel keep:List Nat)(nE:S->Env)(nH:S->List (Nat×Blk))(h:iter step m s0=some b0)(_:∀s,QfZ sel keep (nE s) (nH s) env H=some (E' s,H' s))(hI:Le h0 env H (E' s0) (H' s0))
  (body:∀s d,step s=some d->(∀b,d=.done b->b=b0)->TC P h0 N c (E' s) (H' s) (QaP (λs env H=>Le h0 env H (E' s) (H' s)) d Q)):TC P h0 N (.loop c) env H Q:=TC.loop E' H' h hI body
end
theorem Oj{S B:Type}{d:Ctl S B}{x b0:B}(hb:∀b,d=.done b->b=b0)(h:some (Ctl.done x)=some d):x=b0:=hb x (Oi h).symm
theorem Rt{P:Program}{a:Nat}{fn:Func}{env:Env}{H:Qc}{β:Type}{e r:β}{w:β->A}{Hc:β->Qc}(h:some e=some r)(s:Nat)(π:List Nat)(d:fn.results= #[.tmp s]:=by exact rfl)(hpre:π.take a=List.range a:=by exact rfl)
  (hH:π.map (λp=>H[p]?)=((Hc e).map (QM (rho π H.length))).map some:=by exact rfl)(hπ:π.Nodup:=by decide)(hE:Qbq (rho π H.length) env [(s,w e)]:=by exact⟨rfl,trivial⟩):YM P a fn (RQ w Hc r) .ret env H:=by
 cases h;exact R1 s d (Lr π hpre hH hπ hE)
theorem Cl{d:Nat}{env:Env}{H:Qc}{Q:Qx}{β:Type}{e b:β}{E':β->Env}{H':β->Qc}(h:some e=some b)(π:List Nat)(a:π.take d=List.range d:=by exact rfl)
  (hH:π.map (λp=>H[p]?)=((H' e).map (QM (rho π H.length))).map some:=by exact rfl)(hπ:π.Nodup:=by decide)(hE:Qbq (rho π H.length) env (E' e):=by(repeat' (first|exact trivial|refine⟨rfl,?_⟩))):Qgf d b E' H' Q .normal env H:=by
 cases h;exact Lr π a hH hπ hE
def plC(cat:List Nat):List (List (Nat×Nat)):=cat.map λc=>match c with|0=>[(0,0)]|1=>[(0,1)]|2=>[(1,1)]|_=>[(0,0),(1,1)]
def rqC(b:Nat)(cat:List Nat):List (List Nat):=cat.map λc=>match c with|2=>[b]|_=>[]
def hsC(cat:List Nat):List Bool:=cat.map λc=>match c with|1=>true|_=>false
section
variable {P:Program} {T:TyX} {h0 N m b:Nat} {cat:List Nat} {l:List Oper} {ds:List Nat} {env:Env} {H H1:Qc} {Q:Qx} {K:List Oper->Env->Qc->Prop}
theorem QeR{P:Program}{N:Nat}{l:List Oper}{ds:List Nat}{xs:List A}{env0:Env}{hB hE:Nat}:∀(ss:List (List (Qc×Qc))) (b:Nat),(∀i s,ss[i]?=some s->∀p∈s,YS P N l ds xs env0 hB hE (b+i) p.1 p.2)->QeS P N l ds xs env0 hB hE b ss
 |[],b,h=>.nil
 |s::ss,b,h=>.cons (h 0 s rfl) (QeR ss (b+1) λi s' hs=>by rw[show b+1+i=b+(i+1)by omega];simp_all)
def Dob(P:Program)(N:Nat)(cat:List Nat)(l:List Oper)(ds:List Nat)(env:Env)(H H1:Qc)(zs:List A)(j:Nat):Prop:=
 ∀p∈(plC cat).getD j [],YS P N l ds zs env H.length H.length j ([H,H1].getD p.1 []) ([H,H1].getD p.2 [])
def DB(P:Program)(N m:Nat)(cat:List Nat)(l:List Oper)(ds:List Nat)(env:Env)(H H1:Qc)(K:List Oper->Env->Qc->Prop)(r:List Oper)(xs:List A):Prop:=
 r=l.drop xs.length->∃ys,xs.length+ys.length=m/\(∀j,xs.length<=j->j<m->Dob P N cat l ds env H H1 (xs++ys) j)/\K (l.drop m) (Qam ds (xs++ys) env) H1
def DA(P:Program)(N m:Nat)(cat:List Nat)(l:List Oper)(ds:List Nat)(env:Env)(H:Qc)(K:List Oper->Env->Qc->Prop)(r:List Oper)(xs:List A):Prop:=
 r=l.drop xs.length->∃ys H1,xs.length+ys.length=m/\H.length<=H1.length/\(∀j,xs.length<=j->j<m->Dob P N cat l ds env H H1 (xs++ys) j)/\K (l.drop m) (Qam ds (xs++ys) env) H1
theorem Qkc{f:List A}(d:cat.length=m)(h:∀j,0<=j->j<m->Dob P N cat l ds env H H1 f j):QeS P N l ds f env H.length (H.length+0) 0 ((plC cat).map λq=>q.map λp=>([H,H1].getD p.1 [],[H,H1].getD p.2 [])):=by
 refine QeR _ 0 λi s a p k=>?_;rw[Xl]at a;cases e:(plC cat)[i]? with
 |none=>grind
 |some q=>
  rw[e]at a;cases a;obtain⟨n,r,rfl⟩:=Xe.1 k;have g:i<m:=by
   grind[plC]
  have:=h i (XP _) g n (by grind)
  grind
theorem DA.len(a:H.length<=H1.length):[H,H1].all (λX=>Nat.ble (H.length+0) X.length)=true:=by
 simp_all
theorem QiO{id:Nat}(m b:Nat)(cat:List Nat)(n:P.follows .mixedOrders=true)(k:QcG l m N (QaJ m 0 l) (hsC cat) (rqC b cat) [[],[b]] (plC cat)=true)(d:Nat.beq cat.length m=true)(f:Nat.ble h0 H.length=true)
  (h:DA P N m cat l (QaJ m 0 l) env H (λr e H=>WO P h0 N l.toArray r e H Q) l []):TC P h0 N (.region id l.toArray true) env H Q:=by
 obtain⟨g,H1,q,p,i,j⟩:=h rfl;have a:=XL d;exact QG m 0 _ _ _ _ _ g [H,H1] H1 n k (by grind) rfl f (DA.len p) (by simp) rfl (Qkc a i) (by simp[plC,a]) j
theorem QaK{xs:List A}{o:Oper}{r:List Oper}(d:o::r=l.drop xs.length):l[xs.length]?=some o/\r=l.drop (xs.length+1):=by
 have a:xs.length<l.length:=by
  grind[List.drop_eq_nil_of_le]
 rw[Xm a]at d
 grind
theorem QeY{zs:List A}{j c:Nat}(a:Yw cat j=some c)(h:∀p∈match c with|0=>[(0,0)]|1=>[(0,1)]|2=>[(1,1)]|_=>[(0,0),(1,1)],YS P N l ds zs env H.length H.length j ([H,H1].getD p.1 []) ([H,H1].getD p.2 [])):Dob P N cat l ds env H H1 zs j:=by
 intro p d
 grind[Qat,plC]
theorem Qas{hB hE:Nat}{xs a:List A}{o:Oper}{x:A}{d:Nat}{X X':Qc}(e:l[xs.length]?=some o)(hdd:Qal hB hE X X'=true)(h:WO P X.length N l.toArray [o] (QY (Qj o) 0 ds xs env) X (YC (up (QY (Qj o) 0 ds xs env) d x) X'))(f:o.dst=some d):
  YS P N l ds (xs++x::a) env hB hE xs.length X X':=
 .woE o _ d x e f Qff (he:=by
  intro s;rcases QgA (af:=Qj o) (env0:=env) (s:=s) ds xs (x::a) 0 with⟨j,y,m,k,g,i⟩|q|q
  .grind
  .grind
  grind) (hdd:=hdd) (h:=h)
theorem YI{n:Nat}{X X':Qc}:Qal n n X X'=true:=by unfold Qal;simp
theorem DA.wo{xs:List A}{o:Oper}{r:List Oper}{x:A}{d:Nat}(h:WO P H.length N l.toArray [o] (QY (Qj o) 0 ds xs env) H (YC (up (QY (Qj o) 0 ds xs env) d x) H))(k:DA P N m cat l ds env H K r (xs++[x]))
  (n:Yw cat xs.length=some 0:=by exact rfl)(hd:o.dst=some d:=by exact rfl)(hx:Nat.blt xs.length m=true:=by exact rfl):DA P N m cat l ds env H K (o::r) xs:=by
 intro s;obtain⟨e,t⟩:=QaK s;obtain⟨g,H1,u,w,f,a⟩:=k (by grind);simp[Vc,Vb]at u f a;refine⟨x::g,H1,by grind,w,λj y z=>?_,a⟩;rcases Vr xs.length j with q|q
 .grind
 .obtain rfl:j=xs.length:=by omega
  refine QeY n λp i=>?_;obtain rfl:=Vq.1 i;exact Qas e YI h hd
theorem DA.op{xs:List A}{o:Oper}{r:List Oper}{x:A}{d:Nat}(h:WO P H.length N l.toArray [o] (QY (Qj o) 0 ds xs env) H (YC (up (QY (Qj o) 0 ds xs env) d x) H1))(k:DB P N m cat l ds env H H1 K r (xs++[x]))(u:Nat.ble H.length H1.length=true:=by exact rfl)
  (hc:Yw cat xs.length=some 1:=by exact rfl)(hd:o.dst=some d:=by exact rfl)(hx:Nat.blt xs.length m=true:=by exact rfl):DA P N m cat l ds env H K (o::r) xs:=by
 intro n;obtain⟨e,s⟩:=QaK n;obtain⟨g,t,f,a⟩:=k (by grind);simp[Vc,Vb]at t f a;refine⟨x::g,H1,by grind,(by simp_all),λj w y=>?_,a⟩;rcases Vr xs.length j with q|q
 .grind
 .obtain rfl:j=xs.length:=by omega
  refine QeY hc λp i=>?_;obtain rfl:=Vq.1 i;exact Qas e YI h hd
theorem DB.done{xs:List A}{r:List Oper}(a:Nat.beq xs.length m=true)(h:K r (Qam ds xs env) H1):DB P N m cat l ds env H H1 K r xs:=by
 intro g;have e:=XL a;refine⟨[],by simpa using e,λj f d=>by omega,?_⟩
 grind
theorem DB.add{xs:List A}{o:Oper}{r:List Oper}{x:A}(h:∀ys,l[xs.length]?=some o->Dob P N cat l ds env H H1 (xs++x::ys) xs.length)(k:DB P N m cat l ds env H H1 K r (xs++[x])):DB P N m cat l ds env H H1 K (o::r) xs:=by
 intro a;obtain⟨e,d⟩:=QaK a;obtain⟨ys,i,g,f⟩:=k (by grind)
 grind
theorem DB.wo1{xs:List A}{o:Oper}{r:List Oper}{x:A}{d:Nat}(h:WO P H1.length N l.toArray [o] (QY (Qj o) 0 ds xs env) H1 (YC (up (QY (Qj o) 0 ds xs env) d x) H1))(k:DB P N m cat l ds env H H1 K r (xs++[x]))
  (e:Yw cat xs.length=some 2:=by exact rfl)(hd:o.dst=some d:=by exact rfl):DB P N m cat l ds env H H1 K (o::r) xs:=
 .add (λg a=>QeY e λp f=>by
  obtain rfl:=Vq.1 f;exact Qas a YI h hd) k
theorem DB.wo2{xs:List A}{o:Oper}{r:List Oper}{x:A}{d:Nat}(h:WO P H.length N l.toArray [o] (QY (Qj o) 0 ds xs env) H (YC (up (QY (Qj o) 0 ds xs env) d x) H))(g:WO P H1.length N l.toArray [o] (QY (Qj o) 0 ds xs env) H1 (YC (up (QY (Qj o) 0 ds xs env) d x) H1))(k:DB P N m cat l ds env H H1 K r (xs++[x]))
  (f:Yw cat xs.length=some 3:=by exact rfl)(hd:o.dst=some d:=by exact rfl):DB P N m cat l ds env H H1 K (o::r) xs:=
 .add (λi e=>QeY f λp a=>by
  rcases X0.1 a with rfl|a
  .exact Qas e YI h hd
  .obtain rfl:=Vq.1 a;exact Qas e YI g hd) k
def Qe7(T:TyX)(N m:Nat)(cat:List Nat)(l:List Oper)(ds:List Nat)(env:Env)(H:Qc):Nat->Nat->List Oper->List A->Option (List Oper×List A)
 |0,_,r,xs=>some (r,xs)
 |_+1,_,[],_=>none
 |n+1,i,o::r,xs=>match Nat.blt i m,Yw cat i with
  |true,some 0=>match o.dst with
   |none=>none
   |some d=>match Nat.blt d N with
    |false=>none
    |true=>match Yy ⟨l⟩ o (QY (Qj o) 0 ds xs env)with
     |none=>none
     |some false=>match Qb2 xs (.tup [])with
      |.mk xs'=>Qe7 T N m cat l ds env H n (i+1) r xs'
     |some true=>match Qca T o (QY (Qj o) 0 ds xs env) H with
      |none=>none
      |some x=>match Qb2 xs x with
       |.mk xs'=>Qe7 T N m cat l ds env H n (i+1) r xs'
  |_,_=>none
theorem Qdh(hT:QaN P T):∀(n i:Nat) {r r':List Oper} {xs xs':List A},i=xs.length->Qe7 T N m cat l ds env H n i r xs=some (r',xs')->DA P N m cat l ds env H K r' xs'->DA P N m cat l ds env H K r xs
 |0,i,r,r',xs,xs',_,h,k=>by cases h;exact k
 |n+1,i,[],r',xs,xs',_,h,k=>by cases h
 |n+1,i,o::r,r',xs,xs',hi,h,k=>by
  subst hi;unfold Qe7 at h;split at h
  .rename_i q1 q0;split at h
   .cases h
   .rename_i d hd;split at h
    .cases h
    .rename_i q2;split at h
     .cases h
     .rename_i hw;simp[YL]at h;exact .wo (WO.skip (QF hw) hd q2 (WO.nil YC.mk)) (Qdh hT n _ (by simp) h k) q0 hd q1
     .rename_i hw;split at h
      .cases h
      .rename_i x hv;simp[YL]at h;exact .wo (Yr (QF hw) hd q2 (Qao hT hv) (WO.nil YC.mk)) (Qdh hT n _ (by simp) h k) q0 hd q1
  .cases h
theorem QiX{H:Qc}{p:Bx}{r:Lx}(h:ptX [] p=some r):ptX H p=some r:=by
 unfold ptX at h⊢
 grind[Yw]
theorem Qc7{o:Oper}{e:Env}{H:Qc}{x:A}(h:Qca T o e []=some x):Qca T o e H=some x:=by
 unfold Qca at h⊢;split at h<;>first|exact h|skip
 split at h
 .cases h
 grind[QiX]
def Qdg(T:TyX)(N:Nat)(cat:List Nat)(l:List Oper)(ds:List Nat)(env:Env)(H1:Qc):Nat->Nat->List Oper->List A->Option (List Oper×List A)
 |0,_,r,xs=>some (r,xs)
 |_+1,_,[],_=>none
 |n+1,i,o::r,xs=>match o.dst with
  |none=>none
  |some d=>match Nat.blt d N with
   |false=>none
   |true=>match Yy ⟨l⟩ o (QY (Qj o) 0 ds xs env)with
    |none=>none
    |some false=>match Yw cat i with
     |some 2=>(match Qb2 xs (.tup [])with
      |.mk xs'=>Qdg T N cat l ds env H1 n (i+1) r xs')
     |some 3=>(match Qb2 xs (.tup [])with
      |.mk xs'=>Qdg T N cat l ds env H1 n (i+1) r xs')
     |_=>none
    |some true=>match Yw cat i with
     |some 2=>(match Qca T o (QY (Qj o) 0 ds xs env) H1 with
      |none=>none
      |some x=>match Qb2 xs x with
       |.mk xs'=>Qdg T N cat l ds env H1 n (i+1) r xs')
     |some 3=>(match Qca T o (QY (Qj o) 0 ds xs env) []with
      |none=>none
      |some x=>match Qb2 xs x with
       |.mk xs'=>Qdg T N cat l ds env H1 n (i+1) r xs')
     |_=>none
theorem Qbf(hT:QaN P T):∀(n i:Nat) {r r':List Oper} {xs xs':List A},i=xs.length->Qdg T N cat l ds env H1 n i r xs=some (r',xs')->DB P N m cat l ds env H H1 K r' xs'->DB P N m cat l ds env H H1 K r xs
 |0,i,r,r',xs,xs',_,h,k=>by cases h;exact k
 |n+1,i,[],r',xs,xs',_,h,k=>by cases h
 |n+1,i,o::r,r',xs,xs',hi,h,k=>by
  subst hi;unfold Qdg at h;split at h
  .cases h
  .rename_i d hd;split at h
   .cases h
   .rename_i q2;split at h
    .cases h
    .rename_i hw;split at h
     .rename_i q0;simp[YL]at h;exact .wo1 (WO.skip (QF hw) hd q2 (WO.nil YC.mk)) (Qbf hT n _ (by simp) h k) q0 hd
     .rename_i q0;simp[YL]at h;exact .wo2 (WO.skip (QF hw) hd q2 (WO.nil YC.mk)) (WO.skip (QF hw) hd q2 (WO.nil YC.mk)) (Qbf hT n _ (by simp) h k) q0 hd
     .cases h
    .rename_i hw;split at h
     .rename_i q0;split at h
      .cases h
      .rename_i x hv;simp[YL]at h;exact .wo1 (Yr (QF hw) hd q2 (Qao hT hv) (WO.nil YC.mk)) (Qbf hT n _ (by simp) h k) q0 hd
     .rename_i q0;split at h
      .cases h
      .rename_i x hv;simp[YL]at h;exact .wo2 (Yr (QF hw) hd q2 (Qao hT (Qc7 hv)) (WO.nil YC.mk)) (Yr (QF hw) hd q2 (Qao hT (Qc7 hv)) (WO.nil YC.mk)) (Qbf hT n _ (by simp) h k) q0 hd
     .cases h
end
def chkF(L:List (Nat×List (Nat×Nat)))(fs:List (Nat×Nat×Nat)):Bool:=
 fs.all λe=>match Qbb L e.1 with
  |some pl=>(match Yw pl e.2.1 with
   |some q=>Nat.beq q.1 e.2.2&& !(Nat.beq q.2 0)
   |none=>false)
  |none=>false
theorem PL.get{P:Program}{fs:List Field}{d:List (Nat×Nat)}(h:PL P fs d):∀{f a n:Nat},Yw d f=some (a,n)->∃fd,fs[f]?=some fd/\fd.offset=a/\ ∀w,(sizeOf fd.type).run P w=.ok n w:=by
 induction h with
 |nil=>intro f a n h;cases h
 |cons h k g=>
  intro f a n e;cases f with
  |zero=>cases e;grind
  |succ f=>grind[Yw]
theorem QjY{P:Program}{L:List (Nat×List (Nat×Nat))}{fs:List (Nat×Nat×Nat)}(l:∀e∈L,QdH P e.1 e.2)(h:chkF L fs=true):∀e∈fs,∃n,Yb P e.1 e.2.1 e.2.2 n:=by
 intro e d;have:=Xp.1 h e d;split at this
 .rename_i u a;split at this
  .rename_i q i;obtain⟨f,n⟩:=q;simp only[XR,Bool.not_eq_true']at this;have k:=XL this.1;obtain⟨g,p,s⟩:=l _ (Qap a);obtain⟨m,t,r,j⟩:=PL.get s i;refine⟨n,⟨⟨_,m,p,by grind,r.trans k,j,?_⟩⟩⟩
   grind[Nat.beq_refl]
  .cases this
 .cases this
section
variable {P:Program} {Z:TyZ} {h0 N:Nat} {all:Array Oper} {o:Oper} {l:List Oper} {env:Env} {H:Qc} {Q:Qx} {d:Nat}
theorem Cdz(m:QbB P Z){β γ:Type}{F:Option β}{F':β->Option γ}{r:γ}{f:Nat}{args a:List A}{Hc:Qc}{w:β->A}{Hr:β->Qc}(π:List Nat)(h:F.bind F'=some r)(i:∀v,F=some v->C P f a Hc (RQ w Hr v))
  (e:QdY Z o env=some (d,f,args))(g:∀v,F=some v->F' v=some r->WO P h0 N all l (up env d (Yz (rho π H.length) (w v))) (QL H π ((Hr v).map (QM (rho π H.length)))) Q)
  (hargs:args=Qag (rho π H.length) a)(s:π.map (λp=>H[p]?)=(Hc.map (QM (rho π H.length))).map some)(hπ:π.Nodup)(hg:Yy all o env=some true)(t:Nat.blt d N=true)(j:Nat.ble h0 H.length=true):WO P h0 N all (o::l) env H Q:=by
 obtain⟨v,n,u⟩:=Q5 h;obtain⟨k,q⟩:=Qc1 (H:=H) m e;refine Qh π q (i v n) ?_ hargs s hπ (QF hg) k t j
 grind
end
inductive FLL where
 |mk (l:List (List A))
def cpLL(sel:List Nat):List (List A)->FLL
 |[]=>.mk []
 |a::r=>match cpL sel a,cpLL sel r with
  |.mk a',.mk r'=>.mk (a'::r')
inductive FBk where
 |mk (b:Blk)
def cpBk(sel:List Nat):Blk->FBk
 |.cells t cs=>match cpL sel cs with
  |.mk l=>.mk (.cells t l)
 |.rowr t k es=>match cpLL sel es with
  |.mk l=>.mk (.rowr t k l)
 |.wins t a n c=>match QfP sel ixL a with
  |.mk a'=>.mk (.wins t a' n c)
 |.ents t a b es=>match QfP sel ixL a,QfP sel ixL b with
  |.mk a',.mk b'=>.mk (.ents t a' b' es)
 |b=>.mk b
def selD(H:Qc)(sel:List Nat):List Nat->FB
 |[]=>.mk []
 |a::r=>match Yw H a with
  |some b=>(match cpBk sel b,selD H sel r with
   |.mk b',.mk l=>.mk (b'::l))
  |none=>.mk []
def retC(sel sl:List Nat)(env:Env)(H:Qc):Option (Env×Qc):=
 match Qh2 sel env sl [],selD H sel sel with
 |.mk e,.mk h=>some (e,h)
theorem Rx{P:Program}{e:Nat}{fn:Func}{env E':Env}{H H':Qc}{Qr:A->Qc->Prop}{f:A}(π sl:List Nat)(_:retC π sl env H=some (E',H'))(a:Qa7 P fn E' H' f)(g:Qr f H')(d:π.take e=List.range e:=by exact rfl)
  (hH:π.map (λp=>H[p]?)=(H'.map (QM (rho π H.length))).map some:=by exact rfl)(hπ:π.Nodup:=by decide)(hE:Qbq (rho π H.length) env E':=by(repeat' (first|exact trivial|refine⟨rfl,?_⟩))):YM P e fn Qr .ret env H:=
 ⟨E',H',f,Lr π d hH hπ hE,a,g⟩
end Go.Sw
