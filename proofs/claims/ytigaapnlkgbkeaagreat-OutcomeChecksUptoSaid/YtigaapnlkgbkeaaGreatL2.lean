/- The rules by which the code is walked, with what they rest on (part 2). -/
import Derived.Test.YtigaapnlkgbkeaaGreatL1
import Derived.Below
import GoSem.ClaimChange
import Derived.Shelf.Strings.Search3
import Derived.Lib.LazyBuf
import Derived.Shelf.Sort.Plain
import Derived.Shelf.Slices.In.SortNone
import Derived.Shelf.Slices.CompactI
import Derived.RangeFuncIn
import Derived.RangeFuncSeq
import Derived.RangeFuncNested
import Derived.Lib.Bytealg
import Derived.Laws.Externs
import Derived.LaidLaws
import Derived.Lib.LaidTab
import Derived.ChangeArms
import Derived.ChangeSame
import Derived.Laws.BytesString
set_option linter.unusedVariables false
set_option linter.unusedSectionVars false
set_option linter.unusedSimpArgs false
namespace Go.Sw
open Go.Sort Go.Proofs Go.Shelf
theorem Qcv{α:Type}{k:Nat}:∀(vs:List (List α)) (j:Nat),(∀v∈vs,v.length=k)->j<vs.length*k->vs.flatten[j]?=(vs[j/k]?).bind λv=>v[j%k]?
 |[],j,_,h=>by simp at h
 |v::vs,j,hk,h=>by
  have hv:=hk v (by simp);have k0:0<k:=by
   rcases Nat.eq_zero_or_pos k with q|q
   .subst q;simp at h
   .exact q
  rw[Ve];by_cases q:j<k
  .rw[XG (by omega),Nat.div_eq_of_lt q,Nat.mod_eq_of_lt q];simp
  .rw[XH (by omega),hv,Qcv vs (j-k) (λv hv=>hk v (by simp[hv])) (by simp[Xj]at h;omega)];have a:j/k=(j-k)/k+1:=by rw[Nat.div_eq_sub_div k0 (by omega)]
   have d:j%k=(j-k)%k:=Nat.mod_eq_sub_mod (by omega);rw[a,d,Xz]
theorem Qai{α:Type}{k:Nat}:∀(vs:List (List α)),(∀v∈vs,v.length=k)->vs.flatten.length=vs.length*k
 |[],_=>by simp
 |v::vs,h=>by rw[Ve,XV,Qai vs (λv hv=>h v (by simp[hv])),h v (by simp),XT,Xj];omega
theorem QaF{α:Type}(F:List α)(j:Nat):F.toArray[j]?=F[j]? :=by simp
theorem Qe0{α:Type}[Inhabited α](F:List α)(j:Nat)(h:j<F.length):F[j]?=some (F.toArray[j]!):=by simp[h]
theorem Qe5{β:Type}[Inhabited β]{enc:β->List Value}{k:Nat}(f:∀x,(enc x).length=k)(d:Array β):flatK enc k d=((d.toList.map enc).flatten).toArray:=by
 have g:∀v∈d.toList.map enc,v.length=k:=by
  intro v j;obtain⟨x,_,rfl⟩:=Xe.1 j;exact f x
 apply Array.ext_getElem?;intro t;rw[QaF ((d.toList.map enc).flatten) t];by_cases h:t<d.size*k
 .rw[Qcv _ t g (by simpa using h)];have i:0<k:=by
   rcases Nat.eq_zero_or_pos k with q|q
   .subst q;simp at h
   .exact q
  have h1:=Nat.div_lt_of_lt_mul (by rw[Nat.mul_comm];exact h);have l:t%k<k:=Nat.mod_lt _ i;have a:t<(flatK enc k d).size:=by simpa using h
  have e:=get_flatK enc k d t h;rw[getElem!_pos (flatK enc k d) t a]at e;rw[Array.getElem?_eq_getElem a,e];simp[h1];rw[XE (by rw[f];exact l)];rfl
 .have e:(d.toList.map enc).flatten.length=d.size*k:=by rw[Qai _ g];simp
  rw[Array.getElem?_eq_none (by simpa using h),XI (by omega)]
section
variable {ro:Nat->Prop} {σ:Sig} {w:World} {T:Type} {enc:T->List A} {k:Nat}
theorem Qfk:∀{l:List T} {lv:List Value},RL ro σ w k (l.map enc) lv->
  ∃(ps:List (T×List Value)) (rest:List Value),ps.map (·.1)=l/\lv=(ps.map (·.2)).flatten++rest/\ ∀p∈ps,p.2.length=k/\LR ro σ w (enc p.1) p.2/\ ∀v∈p.2,Qv v
 |[],lv,_=>⟨[],lv,rfl,rfl,by simp⟩
 |x::l,lv,h=>by
  obtain⟨l1,l2,rfl,h1,⟨h2,h3⟩,h4⟩:=h;obtain⟨ps,rest,e1,rfl,h5⟩:=Qfk h4;refine⟨(x,l1)::ps,rest,by simp[e1],by simp,?_⟩;intro p hp;rcases XY.1 hp with rfl|hp
  .exact⟨by rw[h2.length];exact h1,h2,h3⟩
  .exact h5 p hp
theorem QcD(hk:∀x,(enc x).length=k):∀{ps:List (T×List Value)} {rest:List Value},(∀p∈ps,LR ro σ w (enc p.1) p.2/\ ∀v∈p.2,Qv v)->RL ro σ w k ((ps.map (·.1)).map enc) ((ps.map (·.2)).flatten++rest)
 |[],_,_=>trivial
 |p::ps,rest,h=>by
  refine⟨p.2,(ps.map (·.2)).flatten++rest,by simp,hk _,h p (by simp),QcD hk λq hq=>h q (by simp[hq])⟩
end
structure Elt (ro:Nat->Prop) (w:World) {T:Type} (enc:T->List A) (k:Nat) (l:List T) where
 x:T
 vs:List Value
 mem:x∈l
 len:vs.length=k
 rel:LR ro [] w (enc x) vs
 plain:∀v∈vs,Qv v
theorem QgF{v:Value}(h:Qv v):v.oneCell'=true:=by cases v<;>first|rfl|exact h.elim
theorem Qgw{P:Program}{ρ:Ren}(L:SlLaysF0.n6 P ρ){T:Type}[DecidableEq T]{enc:T->List A}{k t g:Nat}{cap:List A}{l l':List T}{cf:T->T->Option Int}(hs:QdK cf l=some l')
  (az:∀x y c,cf x y=some c->C P g ([.agg (enc x),.agg (enc y)]++cap) [] (λa H=>a=.int .i64 c/\H=[]))
  (aE:∀w,(isAgg (ρ.t 24)).run P w=.ok true w)(zE:∀w,(Go.sizeOf (ρ.t 24)).run P w=.ok k w)(eg:∀args w,(callFunc g args).run P w=.ok (.enter g args) w)
  (hk:∀x,(enc x).length=k)(hd:Yi cap=true):
  C P (ρ.f 6) [.osl 0 0 l.length k,.fn (.func g) [] cap] [.row t k (l.map enc)] (λa H=>a=.tup []/\H=[.row t k (l'.map enc)]):=by
 intro fr G σ vals w s hv;obtain⟨vs,r1,rfl,bj,vf,r2,rfl,bk,hr⟩:=hv;cases(show r2=[]from hr);obtain⟨lf,lc,rfl,h1,a3⟩:=bk;cases(show lf=[]from h1);have an:LR G [] w cap lc:=LR.data hd a3;obtain⟨bb,al,Q,ay,a5⟩:=QeO hs;have E:∀(ad:Option Addr) (c:Nat),vs=.slice ad 0 c->l=[]->
   Calls P (ρ.f 6) [vs,.func (.func g) #[] lc.toArray].toArray w λe w'=>∃v r H' ae τ,e=.returned v/\(r=.tup []/\H'=[.row t k (l'.map enc)])/\Sim fr ae (σ++τ) H' w'/\VR ae (σ++τ) w' r v/\Qj fr G w ae w':=by
  rintro ad c rfl rfl;have ac:l'=[]:=by rw[<- a5];rfl
  subst ac;refine(AnyF.slices_SortFunc_none L ad c (.func (.func g) #[] lc.toArray) w).mono ?_;rintro e w' ⟨rfl,rfl⟩;exact⟨_,_,_,G,[],rfl,⟨rfl,rfl⟩,by simpa using s,⟨[],rfl,rfl⟩,Qj.refl _ _ _⟩
 rcases bj with⟨h0,rfl⟩|⟨b,p,cp,t',m,q1,rfl,q2,⟨q3,br⟩,q4,q5⟩
 .exact E none 0 rfl (Vu.1 h0)
 .by_cases ac:l=[]
  .subst ac;exact E _ cp rfl rfl
  .have bi:0<l.length:=List.length_pos_iff.2 ac;obtain rfl:=q2 (X8 bi q3);obtain⟨lv,e1,e2⟩:=s.blk 0 _ _ q1 rfl;obtain⟨hb,ak,bc⟩:=s.own 0 b _ q1 rfl rfl;obtain⟨V,J,a6,rfl,ag⟩:=Qfk e2
   let α:=Elt G w enc k l
   have a0:∀p∈V,p.1∈l:=λp hp=>by rw[<- a6];exact Vr hp
   let ds:List α:=V.attach.map λp=>⟨p.1.1,p.1.2,a0 _ p.2,(ag _ p.2).1,(ag _ p.2).2.1,(ag _ p.2).2.2⟩
   have a9:∀{γ:Type} (f:T×List Value->γ),V.attach.map (λp=>f p.1)=V.map f:=λf=>by simp
   have O:ds.map (·.x)=l:=by
    show(V.attach.map _).map _=_;rw[List.map_map];exact(a9 (·.1)).trans a6
   have am:ds.map (·.vs)=V.map (·.2):=by
    show(V.attach.map _).map _=_;rw[List.map_map];exact a9 (·.2)
   have ax:ds.length=l.length:=by rw[<- O];simp
   have a1:ds≠[]:=by intro q;rw[q]at ax;simp at ax;omega
   let inh:Inhabited α:=⟨ds.head a1⟩
   let enc':α->List Value:=λa=>a.vs
   let cf':α->α->Int:=λx y=>(cf x.x y.x).getD 0
   have ah:∀x y:α,ltOf cf' x y=ltO cf x.x y.x:=by
    intro x y;obtain⟨c,B⟩:=al x.x x.mem y.x y.mem;simp only[ltOf,ltO,cf',B,Option.getD_some]
   have hO:SWO (ltOf cf'):=⟨λx=>by rw[ah];exact Q.irrefl _ x.mem,λx y z a b=>by rw[ah]at*;exact Q.trans _ x.mem _ y.mem _ z.mem a b,
    λx y z a b=>by rw[ah]at*;exact Q.ntrans _ x.mem _ y.mem _ z.mem a b⟩
   have aa:∀x:α,(enc' x).length=k:=λx=>x.len;have ar:flatK enc' k ds.toArray=((V.map (·.2)).flatten).toArray:=by
    rw[Qe5 aa];show((ds.map λa=>a.vs).flatten).toArray=_;rw[am]
   have be:∀v∈V.map (·.2),v.length=k:=by
    intro v hv;obtain⟨p,hp,rfl⟩:=Xe.1 hv;exact(ag p hp).1
   have ab:(V.map (·.2)).flatten.length=ds.length*k:=by rw[Qai _ be, <- am];simp
   have hH:HoldsK enc' k w b (0*k) ds.toArray:=by
    intro j hj;rw[ar]at hj⊢;simp only[List.size_toArray]at hj;constructor
    .unfold World.cell?;simp only[e1,Option.isSome_none,Xh,if_false,Nat.zero_mul,Xr];rw[QaF,XG hj];exact Qe0 _ _ hj
    .unfold World.frozen?;simp only[e1];simp
   have av:∀(d:Array α),d.size=ds.toArray.size->(putRowK enc' k w b (0*k) d).heap=w.heap.setIfInBounds b (.cells (((d.toList.map enc').flatten++J)).toArray t (0,0)):=by
    intro d u;have af:(d.toList.map enc').flatten.length=(V.map (·.2)).flatten.length:=by
     rw[Qai _ (k:=k) (by intro v hv;obtain⟨x,_,rfl⟩:=Xe.1 hv;exact aa x),ab];simp at u⊢;rw[u]
    unfold putRowK putRow mapBlock;show w.heap.modify b _=_;rw[Qb9 e1];simp only[onCells];congr 2;rw[Qe5 aa];unfold putCells;apply Array.ext_getElem?;intro i;simp only[Array.getElem?_mapIdx,QaF,Nat.zero_mul,XN,true_and,Xr,Nat.sub_zero,List.size_toArray,id_eq];by_cases hi:i<(d.toList.map enc').flatten.length
    .rw[XG hi,XG (by rw[<- af];exact hi),XE (by rw[<- af];exact hi),Qe0 _ _ hi];exact congrArg some (Vk hi)
    .rw[XH (by omega),XH (by omega),af];cases(J[i-(V.map (·.2)).flatten.length]?)with
     |none=>rfl
     |some v=>
      rw[<- af];exact congrArg some (Vj hi)
   have R:∀(m:Nat) (os:Array Obj) (d:Array α),d.size=ds.toArray.size->
     (∀c,c<w.heap.size->c≠b->(sortWorldK enc' k w b (0*k) m d os).heap[c]?=w.heap[c]?)/\(sortWorldK enc' k w b (0*k) m d os).heap[b]?=some (.cells (((d.toList.map enc').flatten++J)).toArray t (0,0))/\
     w.heap.size<=(sortWorldK enc' k w b (0*k) m d os).heap.size:=by
    intro m os d u;have e:(sortWorldK enc' k w b (0*k) m d os).heap=w.heap.setIfInBounds b (.cells (((d.toList.map enc').flatten++J)).toArray t (0,0))++os:=by
     rw[<- av d u];rfl
    rw[e];refine⟨λc B bm=>?_,?_,by simp⟩
    .rw[Array.getElem?_append_left (by simpa using B),X7,Vj (λq=>bm q.symm)]
    .rw[Array.getElem?_append_left (by simpa using hb),X7,Vk rfl,Vk hb]
   have N:∀(m:Nat) (os:Array Obj) (d:Array α),d.size=ds.toArray.size->∀c y,w.shape? c=some y->(sortWorldK enc' k w b (0*k) m d os).shape? c=some y:=by
    intro m os d u c y hy;obtain⟨g1,g2,g3⟩:=R m os d u;by_cases B:c=b
    .subst B;unfold World.shape? at hy⊢;rw[e1]at hy;rw[g2];simp only[Option.some.injEq]at hy⊢;rw[<- hy];congr 1;simp only[List.size_toArray,XV];rw[Qai _ (k:=k) (by intro v hv;obtain⟨x,_,rfl⟩:=Xe.1 hv;exact aa x),ab];simp at u⊢;rw[u]
    .unfold World.shape? at hy⊢;rw[g1 c (Qhv hy) B];exact hy
   have aj:∀(m:Nat) (os:Array Obj) (d:Array α),d.size=ds.toArray.size->∀τ,Ext G τ w G τ (sortWorldK enc' k w b (0*k) m d os):=by
    intro m os d u τ;obtain⟨g1,g2,g3⟩:=R m os d u;exact⟨λ_ q=>q,λc B=>g1 c (s.roLt c B) (λq=>ak (q▸B)),N m os d u,λ_ _ q=>q⟩
   have bq:CmpLays P g lc.toArray enc' k cf' b (0*k) ds.toArray.size w:=by
    intro m os dk a2 x y;obtain⟨c,B⟩:=al x.x x.mem y.x y.mem;have F:=aj m os dk a2 [];have bg:=az _ _ _ B;generalize hW:sortWorldK enc' k w b (0*k) m dk os=W at*;have bh:w.heap.size<=W.heap.size:=by rw[<- hW];exact(R m os dk a2).2.2
    have sW:Sim (λc=>c<W.heap.size/\ ¬G c) G [] [] W:=
     ⟨rfl,s.roOk.to (λ_ q=>q) F.keep (λc B=>X8 (s.roLt c B) bh),λc B=>B.1,λc B hf=>hf.2 B,λi b x h=>by simp at h,λi j b x y h=>by simp at h,λi y x h=>by simp at h,λi b x c h=>by simp at h⟩
    have au:LR G [] W ([.agg (enc x.x),.agg (enc y.x)]++cap) ([.agg x.vs.toArray,.agg y.vs.toArray]++lc):=
     LR.append (show LR G [] W [A.agg (enc x.x),A.agg (enc y.x)] [Value.agg x.vs.toArray,Value.agg y.vs.toArray]from⟨_,_,rfl,⟨x.vs,rfl,x.rel.mono F⟩,_,_,rfl,⟨y.vs,rfl,y.rel.mono F⟩,rfl⟩) (an.mono F)
    have M:=bg _ G [] _ W sW au;have bd:(([Value.agg x.vs.toArray,Value.agg y.vs.toArray]++lc).toArray:Array Value)= #[Value.agg (enc' x).toArray,Value.agg (enc' y).toArray]++lc.toArray:=by simp[enc']
    rw[bd]at M;refine M.mono ?_;rintro e w' ⟨v,r,H',ae,τ,rfl,⟨rfl,rfl⟩,s',bp,ev⟩;refine⟨?_,?_⟩
    .rw[show v=.int .i64 c from bp];simp only[cf',B,Option.getD_some]
    .refine QiM (λc B=>?_) ev.size ev.os ev.tape ev.output ev.drawn;by_cases ba:G c
     .exact ev.keepRo c ba
     .exact ev.keepFr c ⟨B,ba⟩
   have X:ds.toArray.size=l.length:=by simpa using ax
   have ai:=AnyQ.slices_SortFunc L k aE zE enc' aa (λx v hv=>QgF (x.plain v hv)) cf' hO g lc.toArray b (0*k) cp ds.toArray w eg bq hH hb (by rw[X];unfold Yz at bb;omega);rw[X]at ai;refine ai.mono ?_;rintro e w' ⟨rfl,d,n,os,Y,ao,rfl⟩;have u:d.size=ds.toArray.size:=Y.1;obtain⟨g1,g2,g3⟩:=R n os d u;have aq:d.toList.Perm ds:=by
    have h:=Y.2.2;have x1:d.extract 0 l.length=d:=by rw[<- X, <- u];exact Array.extract_size
    have x2:ds.toArray.extract 0 l.length=ds.toArray:=by rw[<- X];exact Array.extract_size
    rw[x1,x2]at h;simpa using h
   have a7:d.toList.map (·.x)=l':=by
    rw[<- a5];refine QcY (lt:=ltO cf) ?_ ?_ ?_ (QbV Q)
    .exact((aq.map (·.x)).trans (by rw[O])).trans (QaR _ _).symm
    .intro x hx y hy;have bn:x∈l:=by rw[<- O];exact(aq.map (·.x)).mem_iff.1 hx
     have bo:y∈l:=by rw[<- O];exact(aq.map (·.x)).mem_iff.1 hy
     exact ay x bn y bo
    .rw[Vp];intro i j hi hj bf;simp only[XU]at hi hj;simp only[List.getElem_map];rw[<- ah];have:=ao i j (XN _) bf (by rw[<- X, <- u];simpa using hj);rw[getElem!_pos d j (by simpa using hj),getElem!_pos d i (by simpa using hi)]at this;simpa using this
   have bl:RL G [] (sortWorldK enc' k w b (0*k) n d os) k (l'.map enc) ((d.toList.map enc').flatten++J):=by
    have e3:d.toList.map enc'=(d.toList.map λa=>(a.x,a.vs)).map (·.2):=by simp[enc']
    have e4:l'=(d.toList.map λa=>(a.x,a.vs)).map (·.1):=by rw[<- a7];simp
    rw[e3,e4];refine QcD hk ?_;intro p hp;obtain⟨a,_,rfl⟩:=Xe.1 hp;exact⟨a.rel.mono (aj n os d u []),a.plain⟩
   have a4:Qj fr G w G (sortWorldK enc' k w b (0*k) n d os):=
    ⟨λ_ q=>q,λc B=>g1 c (s.roLt c B) (λq=>ak (q▸B)),λc B=>g1 c (s.frLt c B) (λq=>bc (q▸B)),g3,N n os d u,rfl,rfl,rfl,Nat.le_add_right _ _⟩
   have aw:σ.length=1:=s.len;have a8:Sim fr G σ [.row t k (l'.map enc)] (sortWorldK enc' k w b (0*k) n d os):=by
    have i0:∀{i:Nat} {x:Blk},([.row t k (l'.map enc)]:Qc)[i]?=some x->i=0/\x=.row t k (l'.map enc):=by
     intro i x h;cases i with
     |zero=>simp at h;exact⟨rfl,h.symm⟩
     |succ i=>simp at h
    refine⟨aw,s.roOk.to (λ_ q=>q) a4.keepRo (λc B=>X8 (s.roLt c B) g3),λc B=>X8 (s.frLt c B) g3,s.roFr,λi c x h1 h2 h3=>?_,λi j c x y h1 h2 h3 h4 _ _=>?_,λi y x h1 h2=>?_,λi b x c h1 h2 h3=>by obtain⟨rfl,rfl⟩:=i0 h2;exact h3.elim⟩
    .obtain⟨rfl,rfl⟩:=i0 h2;obtain⟨p1,p2⟩:=s.own 0 c _ h1 rfl rfl;exact⟨X8 p1 g3,p2⟩
    .rw[(i0 h3).1,(i0 h4).1]
    .obtain⟨rfl,rfl⟩:=i0 h2;rw[q1]at h1;cases h1;exact⟨_,g2,bl⟩
   exact⟨_,_,_,G,[],rfl,⟨rfl,rfl⟩,by simpa using a8,⟨[],rfl,rfl⟩,a4⟩
end Go.Sw
namespace Go.Sw
section
variable {P:Program} {o:Oper} {env:Env} {H:Qc} {fr ro:Nat->Prop} {σ:Sig} {w:World}
theorem Sim.addRo(s:Sim fr ro σ H w){b:Nat}(h:b<w.heap.size)(g:¬fr b)(n:∀(i:Nat) (x:Blk),σ[i]?=some (some b)->H[i]?=some x->x.live=true->False)
  (k:∀(i d:Nat) (x:Blk),σ[i]?=some (some d)->H[i]?=some x->Hid w x d b->False):Sim fr (λc=>ro c\/c=b) σ H w:=by
 refine⟨s.len,s.roOk.to (λ_ q=>.inl q) (λ_ _=>rfl) ?_,s.frLt,?_,?_,s.inj,?_,s.hidTo (· = ·) QU (XM _) (by grind) (by simp) (by grind)⟩
 .rintro c (q|rfl)
  .exact s.roLt c q
  .exact h
 .rintro c (q|rfl)
  .exact s.roFr c q
  .exact g
 .intro i c x a e f;obtain⟨m,l,j⟩:=s.own i c x a e f
  grind
 .intro i y x a e;exact(s.blk i y x a e).keep ⟨λ_ q=>.inl q,λ_ _=>rfl,λ_ _ q=>q,λ_ _ q=>q⟩ (λ_ _ _=>rfl) (λ_ _ _ _=>rfl)
theorem QH{T e k n:Nat}{xs:List Operand}{es:List (List A)}(E:QN P T e k)(Y:o.op=.buildSlice T n (QaB 0 xs).toArray)(J:xs.length=n)(u:Nat.ble (n*k) 16777216=true)
  (Q:(xs.all λx=>Q4 (opA env x))=true)(y:Ye env xs=es)(M:allK k es)(X:es.flatten.all Yd=true)(R:Yi es.flatten=true):
  OpH P o env H (.rsl k es) H:=by
 intro O g σ N a w r;subst y;obtain⟨l,W,L⟩:=Qbb r E J u Q M;have F:LR g [] w (Ye env xs).flatten l:=L.data R;have f:∀b,b<w.heap.size->(w.alloc (.cells l.toArray e)).heap[b]?=w.heap[b]? :=λb hb=>QZ _ _ b hb;have m:w.heap.size<=(w.alloc (.cells l.toArray e)).heap.size:=by simp
 have V:=r.sim.grown f m;have p:Qj O g w g (w.alloc (.cells l.toArray e)):=Qj.alloc _ r.sim.roLt r.sim.frLt;have s2:=V.addRo (by simp) (λq=>Nat.lt_irrefl _ (r.sim.frLt _ q)) (λi x h t G=>Nat.lt_irrefl _ (r.sim.own i _ x h t G).1)
  (λi d x h t G=>Nat.lt_irrefl _ (r.sim.hid i d x _ h t (r.sim.hidKeep h t (λz=>f d (r.sim.own i d x h t z).1) (λb q=>f b (r.sim.roLt b q)) G)).lt)
 have B:RL g [] (w.alloc (.cells l.toArray e)) k (Ye env xs) l:=by
  have:=Qaf (rest:=[]) M (F.mono (p.ext0 [])) (L.plain X)
  grind
 have j:(Ye env xs).length=n:=by simp[Ye,J]
 refine⟨_,_,λc=>g c\/c=w.heap.size,[],Qa3 Y a.eval W,(⟨some ⟨w.heap.size,0,none⟩,n,by rw[j],by omega,.inr ⟨w.heap.size,0,rfl,.inr rfl,?_⟩⟩),by grind,p.trans (QR λ_ q=>.inl q)⟩;have s:(w.alloc (.cells l.toArray e)).heap[w.heap.size]?=some (.cells ([]++l).toArray e (0,0)):=Yf _ _;have:=YA s B;exact this.keep ⟨λ_ q=>.inl q,λ_ _=>rfl,λ_ _ q=>q,λ_ _ q=>q⟩ rfl
end
inductive QfX:List A->List A->Prop
 |nil:QfX [] []
 |eq {a:A} {l m:List A} (h:QfX l m):QfX (a::l) (a::m)
 |nl {k:Nat} {l m:List A} (h:QfX l m):QfX (.nils::l) (.rsl k []::m)
theorem LR.nils{ro:Nat->Prop}{σ:Sig}{w:World}{i g:List A}(h:QfX i g):∀{l:List Value},LR ro σ w i l->LR ro σ w g l:=by
 induction h with
 |nil=>simp
 |eq _ ih=>rintro l ⟨v,f,e,d,a⟩;exact⟨v,f,e,d,ih a⟩
 |nl _ ih=>rintro l ⟨v,f,e,d,a⟩;exact⟨v,f,e,⟨none,0,d,XM _,.inl rfl⟩,ih a⟩
theorem C.nils{P:Program}{f:FuncId}{l1 bs:List A}{H:Qc}{Q:A->Qc->Prop}(hl:QfX l1 bs)(h:C P f bs H Q):C P f l1 H Q:=
 λfr ro σ vals w s l=>h fr ro σ vals w s (LR.nils hl l)
def Qbw(k:IntKind)(n:Int):Prop:=k.min<=n/\n<=k.max
def Qdk(w:World):Nat->Prop:=λb=>b<w.heap.size
structure Meas {H:Type} (μ:DataW H->Nat):Prop where
 str:∀bytes,bytes.length<=μ (.lit (.string bytes))
 sl:∀e s,e.length<=μ (.slice e s)
 sle:∀e s,∀d∈e,μ d<=μ (.slice e s)
 ag:∀ps,∀d∈ps,μ d<=μ (.agg ps)
def RB(P:Program)(n:Nat)(t:TypeId)(T:Type)(e:T->List A)(wf:T->Prop):Prop:=
 ∀(H:Type) (enc:TypeId×Value->H) (w:World) (base:Nat) (spare:Nat->Bool) (held:Bool) (m:Nat) (cs:List Value) d,m<n->DataW.trod enc P w base spare held m t cs=some d->
  ∀μ:DataW H->Nat,Meas μ->μ d.1<=1048576->∃x:T,wf x/\LR (Qdk w) [] w (e x) cs/\ ∀v∈cs,Qv v
section
variable {P:Program} {n:Nat} {t:TypeId} {T:Type} {e:T->List A} {wf:T->Prop}
theorem RB.down(h:RB P (n+1) t T e wf):RB P n t T e wf:=λH enc w base spare held m cs d hm=>h H enc w base spare held m cs d (Nat.lt_succ_of_lt hm)
theorem Qex{T':Type}{f:T'->List A}{a:T'->Prop}(h:RB P n t T e wf)(g:T->T')(he:∀x,f (g x)=e x)(l:∀x,wf x->a (g x)):RB P n t T' f a:=by
 intro H enc w base spare held m cs d hm hd μ hμ hwt;obtain⟨x,k,j,i⟩:=h H enc w base spare held m cs d hm hd μ hμ hwt
 grind
theorem RB.int{k:IntKind}(a:P.underlying t=some (.int k)):RB P n t Int (Qd k) (Qbw k):=by
 intro H enc w base spare held m cs d hm hd μ hμ hwt;cases m with
 |zero=>simp[DataW.trod]at hd
 |succ m=>
  rcases cs with _|⟨v,_|⟨h,r⟩⟩
  .simp[DataW.trod,a]at hd
  .cases v<;>simp[DataW.trod,a]at hd;rename_i g f;obtain⟨⟨rfl,e⟩,_⟩:=hd;refine⟨f,?_,⟨_,_,rfl,rfl,rfl⟩,by simp[Qv]⟩;simpa[Lit.wf,Qbw]using e
  .simp[DataW.trod,a]at hd
theorem RB.bool(a:P.underlying t=some .bool):RB P n t Bool YN (λ_=>True):=by
 intro H enc w base spare held m cs d hm hd μ hμ hwt;cases m with
 |zero=>simp[DataW.trod]at hd
 |succ m=>
  rcases cs with _|⟨v,_|⟨e,r⟩⟩
  .simp[DataW.trod,a]at hd
  .cases v<;>simp[DataW.trod,a]at hd;rename_i b;exact⟨b,trivial,⟨_,_,rfl,rfl,rfl⟩,by simp[Qv]⟩
  .simp[DataW.trod,a]at hd
theorem RB.string(a:P.underlying t=some .string):RB P n t (List UInt8) encS (λs=>s.length<=1048576):=by
 intro H enc w base spare held m cs d hm hd μ hμ hwt;cases m with
 |zero=>simp[DataW.trod]at hd
 |succ m=>
  rcases cs with _|⟨v,_|⟨e,r⟩⟩
  .simp[DataW.trod,a]at hd
  .cases v<;>simp[DataW.trod,a]at hd;rename_i s;obtain⟨_,rfl⟩:=hd;exact⟨s.data.toList,XO (hμ.str _) hwt,⟨_,_,rfl,rfl,rfl⟩,by simp[Qv]⟩
  .simp[DataW.trod,a]at hd
theorem QbF{α:Type}{f:Nat->Option α}:∀{n:Nat} {l:List α},(List.range n).mapM f=some l->l.length=n/\ ∀i,i<n->∃y,f i=some y/\l[i]?=some y
 |0,l,h=>by grind
 |n+1,l,h=>by
  rw[List.range_succ,List.mapM_append]at h;cases h1:(List.range n).mapM f with
  |none=>grind
  |some l1=>
   cases h2:f n with
   |none=>grind
   |some y=>
    simp[h1,h2]at h;subst h;obtain⟨e1,e2⟩:=QbF h1
    grind
theorem QcF{w:World}{ro:Nat->Prop}{b:Nat}:∀{cs:List A} {l:List Value} {off:Nat},LR ro [] w cs l->(∀v∈l,Qv v)->(∀i,i<l.length->w.cell? ⟨b,off+i,none⟩=l[i]?)->CR ro [] w b cs off
 |[],_,_,_,_,_=>trivial
 |a::cs,l,off,h,hp,hc=>by
  obtain⟨v,l',rfl,h1,h2⟩:=h;refine⟨(by grind),QcF h2 (by grind) λi hi=>?_⟩;have:=hc (i+1) (by grind)
  grind
theorem RB.slice{E:TypeId}{k:Nat}{s:TypeId}(G:P.underlying s=some (.slice E))(hk:P.cellsOf E=k)(h0:Nat.blt 0 k=true)(hl:∀x,(e x).length=k)(h:RB P n E T e wf):
  RB P (n+1) s (List T) (Qy k e) (λl=>l.length<=1048576/\ ∀x∈l,wf x):=by
 intro H enc w base spare held m cs d hm hd μ hμ hwt;have k0:0<k:=by simp_all
 cases m with
 |zero=>simp[DataW.trod]at hd
 |succ m=>
  rcases cs with _|⟨v,_|⟨v2,r⟩⟩
  .simp[DataW.trod,G]at hd
  .cases v<;>try (simp[DataW.trod,G]at hd;done)
   rename_i a len g;cases a with
   |none=>
    rcases len with _|len
    .rcases g with _|g
     .refine⟨[],⟨by simp,by simp⟩,⟨_,_,rfl,⟨none,0,rfl,XM _,.inl rfl⟩,rfl⟩,by simp[Qv]⟩
     .simp[DataW.trod,G]at hd
    .simp[DataW.trod,G]at hd
   |some a=>
    simp only[DataW.trod,G]at hd;split at hd
    .rename_i hc;obtain⟨c1,c2,c3⟩:=hc;cases V:(List.range len).mapM (λi=>(w.cells? base (a.add (i*P.cellsOf E)) (P.cellsOf E)).bind (DataW.trod enc P w base spare held m E))with
     |none=>grind
     |some f=>
      rw[V]at hd;simp only[XD,Option.map_eq_some_iff]at hd;obtain⟨p,_,rfl⟩:=hd;have u:f.length<=1048576:=by
       have h1:=hμ.sl (f.map (·.1)) (p.map (·.1))
       grind
      have aa:∀y∈f,μ y.1<=1048576:=λy N=>XO (hμ.sle _ (p.map (·.1)) _ (Vr N)) hwt;obtain⟨e1,e2⟩:=QbF V;have M:∀i,i<len->∃(x:T) (l:List Value),wf x/\LR (Qdk w) [] w (e x) l/\(∀v∈l,Qv v)/\l.length=k/\ ∀j,j<k->w.cell? ((a.add (i*k)).add j)=l[j]? :=by
       intro i hi;obtain⟨y,y1,y2⟩:=e2 i hi;rw[hk]at y1;cases X:w.cells? base (a.add (i*k)) k with
       |none=>grind
       |some l=>
        rw[X]at y1;obtain⟨x,x1,x2,x3⟩:=h H enc w base spare held m l y (by omega) y1 μ hμ (aa y (Vs y2))
        grind[World.cells?,QbF]
      by_cases R:len=0
      .subst R;exact⟨[],⟨by simp,by simp⟩,⟨_,_,rfl,⟨some a,g,rfl,XN _,.inl rfl⟩,rfl⟩,by simp[Qv]⟩
      .have first:a.spot=none/\a.block<w.heap.size:=by
        obtain⟨x',l,p1,p2,p3,p4,p5⟩:=M 0 (by omega);have t:=p5 0 k0;have Y:l[0]?=some l[0]:=XE (by omega);have ea:(a.add (0*k)).add 0=a:=by simp[Addr.add]
        rw[Y,ea]at t;unfold World.cell? at t;split at t
        .rename_i hh;constructor
         .cases q:a.spot with
          |none=>rfl
          |some z=>simp[q]at t
         .exact(X5.1 hh).1
        .cases t
       obtain⟨Q,hb⟩:=first
       have L:∀n,a.add n=⟨a.block,a.off+n,none⟩:=by
        intro n;cases a;simp only at Q;subst Q;unfold Addr.add;split
        .rename_i q;subst q;rfl
        .rfl
       have F:∀(b o n:Nat),(⟨b,o,none⟩:Addr).add n=⟨b,o+n,none⟩:=by
        intro b o n;unfold Addr.add;split
        .rename_i q;subst q;rfl
        .rfl
       have pick:∀q i,len-i=q->i<=len->∃B:List T,B.length=len-i/\(∀x∈B,wf x)/\RR (Qdk w) [] w a.block k (B.map e) (a.off+i*k):=by
        intro q
        induction q with
        |zero=>intro i hq hi;exact⟨[],by simp[hq],by simp,trivial⟩
        |succ q ih=>
         intro i hq hi;obtain⟨B,J,W,O⟩:=ih (i+1) (by omega) (by omega);obtain⟨x,l,p1,p2,p3,p4,p5⟩:=M i (by omega);refine⟨x::B,by simp[J];omega,by intro y N;rcases XY.1 N with rfl|N;exact p1;exact W y N,hl x,?_,?_⟩
         .refine QcF p2 p3 λj hj=>?_;have t:=p5 j (by omega);rw[L,F]at t;exact t
         .rw[Xj, <- Nat.add_assoc]at O;exact O
       obtain⟨B,J,W,O⟩:=pick len 0 (by omega) (XN _);rw[Nat.zero_mul,Xs]at O;rw[Nat.sub_zero]at J;refine⟨B,⟨by rw[J, <- e1];exact u,W⟩,⟨_,_,rfl,⟨some a,g,by simp[J],by simp[J];exact c2,.inr ⟨a.block,a.off,?_,hb,O⟩⟩,rfl⟩,by simp[Qv]⟩;cases a
       grind
    .cases hd
  .simp[DataW.trod,G]at hd
def RF(P:Program)(n:Nat)(fs:List Field)(off L:Nat)(T:Type)(e:T->List A)(wf:T->Prop):Prop:=
 ∀(H:Type) (enc:TypeId×Value->H) (w:World) (base:Nat) (spare:Nat->Bool) (held:Bool) (m:Nat) (cs:List Value) ds,m<n->cs.length=L->
  fs.mapM (λf=>DataW.trod enc P w base spare held m f.type ((cs.drop f.offset).take (P.cellsOf f.type)))=some ds->
  ∀μ:DataW H->Nat,Meas μ->(∀y∈ds,μ y.1<=1048576)->∃x:T,wf x/\LR (Qdk w) [] w (e x) (cs.drop off)/\ ∀v∈cs.drop off,Qv v
theorem RF.nil{L:Nat}:RF P n [] L L Unit (λ_=>[]) (λ_=>True):=by
 intro H enc w base spare held m cs ds hm hl hd μ hμ hwt;have:cs.drop L=[]:=(by grind);rw[this];exact⟨(),trivial,rfl,by simp⟩
theorem RF.cons{f:Field}{fs:List Field}{off L k:Nat}{T2:Type}{e2:T2->List A}{a:T2->Prop}(z:f.offset=off)(s:P.cellsOf f.type=k)(h:RB P n f.type T e wf)(r:RF P n fs (off+k) L T2 e2 a):
  RF P n (f::fs) off L (T×T2) (λp=>e p.1++e2 p.2) (λp=>wf p.1/\a p.2):=by
 intro H enc w base spare held m cs ds hm hl hd μ hμ hwt;rw[List.mapM_cons]at hd;cases l:DataW.trod enc P w base spare held m f.type ((cs.drop f.offset).take (P.cellsOf f.type))with
 |none=>grind
 |some d=>
  cases u:fs.mapM (λf=>DataW.trod enc P w base spare held m f.type ((cs.drop f.offset).take (P.cellsOf f.type)))with
  |none=>grind
  |some g=>
   have j:ds=d::g:=by
    grind
   subst j;rw[z,s]at l;obtain⟨x,t,q,B⟩:=h H enc w base spare held m _ d hm l μ hμ (hwt d (by simp));obtain⟨y,y1,y2,E⟩:=r H enc w base spare held m cs g hm hl u μ hμ (by grind);have i:cs.drop off=(cs.drop off).take k++cs.drop (off+k):=by rw[<- List.drop_drop,Xu]
   refine⟨(x,y),⟨t,y1⟩,by rw[i];exact q.append y2,?_⟩
   grind
theorem RB.struct{fs:Array Field}{L:Nat}(g:P.underlying t=some (.struct fs))(j:P.cellsOf t=L)(h:RF P n fs.toList 0 L T e wf):RB P (n+1) t T e wf:=by
 intro H enc w base spare held m cs d hm hd μ hμ hwt;cases m with
 |zero=>simp[DataW.trod]at hd
 |succ m=>
  unfold DataW.trod at hd;simp only[g]at hd;split at hd
  .rename_i k;cases a:fs.toList.mapM (λf=>DataW.trod enc P w base spare held m f.type ((cs.drop f.offset).take (P.cellsOf f.type)))with
   |none=>grind
   |some i=>
    rw[a]at hd;simp only[Xi,Option.some.injEq]at hd;subst hd;have:=h H enc w base spare held m cs i (by omega) (by rw[k,j]) a μ hμ (λy l=>XO (hμ.ag _ _ (by grind)) hwt)
    grind
  .cases hd
end
theorem C.law{P:Program}{f:FuncId}{args:List A}{W:World}{vals:List Value}(h:C P f args [] (λa H=>a=.bool true/\H=[]))(i:LR (Qdk W) [] W args vals)(d:GP W):
  Calls P f vals.toArray W λe W'=>e=.returned (.bool true)/\Go.RowKit.Below W.heap.size W W':=by
 have s:Sim (λ_=>False) (Qdk W) [] [] W:=
  ⟨rfl,⟨λ_ h=>h,λb m=>d.size b m,d⟩,λ_ h=>h.elim,λ_ _ h=>h,(by simp),(by simp),(by simp),(by simp)⟩
 refine(h _ _ _ _ W s i).mono ?_;rintro e W' ⟨v,r,H',j,τ,rfl,⟨rfl,rfl⟩,_,g,ev⟩;exact⟨by rw[show v=.bool true from g],⟨ev.os,ev.tape,ev.output,ev.size,λk l=>ev.keepRo k l⟩⟩
theorem QeV{P:Program}{W:World}{a:Nat}{t:TypeId}{v:Value}{fs:Array Field}(d:P.underlying t=some (.struct fs))(h:Value.okWide P W .any a t v):∃cs,v=.agg cs:=by
 unfold Value.okWide at h
 grind
theorem Qc7{P:Program}{W:World}{t:TypeId}{g:Array Value}{T:Type}{e:T->List A}{wf:T->Prop}{H:Type}{enc:TypeId×Value->H}{f:Nat}{a:Nat->Bool}{held:Bool}{d:DataW H}{ps:List MemPlace}
  (h:∀n,RB P n t T e wf)(k:DataW.Trod enc P W f a held t (.agg g) d ps){μ:DataW H->Nat}(hμ:Meas μ)(i:μ d<=1048576):∃x:T,wf x/\VR (Qdk W) [] W (.agg (e x)) (.agg g):=by
 obtain⟨m,j⟩:=k;obtain⟨x,l,p,_⟩:=h (m+1) H enc W f a held m _ _ (Xk _) j μ hμ i;exact⟨x,l,g.toList,by simp,p⟩
theorem Qfw{P:Program}{W:World}(h:W.ShapedOpen P){g t u:Nat}{z:Value}(hg:Nat.blt g P.globals.size=true)(j:(((begin P (λ_ _=>0) default).world.heap[g]?).bind Obj.row?)=some (#[z],t))
  (r:P.buildable t=true)(s:P.cellTypes P.depth t=some [u])(q:P.underlying u=some (.int .i64)):∃m:Int,W.cell? ⟨g,0,none⟩=some (.int .i64 m):=by
 obtain⟨a,B,p,n⟩:=h.1 g _ _ (by simp_all) j;obtain⟨x,i,_,l⟩:=n r;rw[s]at i;cases i;have w:a.size=1:=p;have e:a[0]?=some a[0]:=(by simp);obtain⟨y,f,d⟩:=l 0 _ e;simp at f;subst f;unfold Cell.ok at d;rw[q]at d;cases k:a[0]<;>rw[k]at d<;>simp at d
 simp_all[World.cell?]
theorem QfE{S B:Type}{step:S->Option (Ctl S B)}(a:Nat->S)(b:B)(k:Nat)(p:∀i,i<k->step (a i)=some (.cont (a (i+1))))(h:step (a k)=some (.done b)):∀n,k<n->iter step n (a 0)=some b:=by
 have e:∀m i n,k-i=m->i<=k->m<n->iter step n (a i)=some b:=by
  intro m
  induction m with
  |zero=>
   intro i n g j f;have:i=k:=by omega
   subst this;obtain⟨d,rfl⟩:∃d,n=d+1:=⟨n-1,by omega⟩;simp[iter,h]
  |succ m l=>
   intro i n g j f;obtain⟨d,rfl⟩:∃d,n=d+1:=⟨n-1,by omega⟩
   grind[iter]
 grind
theorem QhF{S B:Type}{step:S->Option (Ctl S B)}(d:S)(a:Nat->S)(b:B)(k:Nat)(g:a 0=d)(h:∀i,i<k->step (a i)=some (.cont (a (i+1))))(e:step (a k)=some (.done b))(n:Nat)(f:k<n):iter step n d=some b:=by
 rw[<- g];exact QfE a b k h e n f
theorem QS{α:Type}{l:List α}{i:Nat}{x:α}(h:l[i]?=some x):idx l i=some x:=by
 grind[idx]
theorem Qfu{n:Int}(d: -9223372036854775808<=n)(a:n<=9223372036854775807):IntKind.i64.wrap n=n:=by
 grind[IntKind.wrap,IntKind.bits,IntKind.signed]
theorem QdH{i:Nat}(h:i<9223372036854775807):IntKind.i64.wrap (i+1)=(i+1:Nat):=by
 rw[Qfu (by omega) (by omega)];omega
theorem decF{p:Prop}[Decidable p](h:¬p):decide p=false:=Vl h
open Go.Proofs Go.Shelf
def cat(a b:List UInt8):Option (List UInt8):=bif Nat.ble (a.length+b.length) 4294967296 then some (a++b)else none
theorem QjE{a b r:List UInt8}(h:cat a b=some r):a.length+b.length<=4294967296/\a++b=r:=by
 unfold cat at h;cases q:Nat.ble (a.length+b.length) 4294967296 with
 |true=>simp_all
 |false=>grind
def QfF(s t:List UInt8):Option Bool:=bif Nat.blt s.length 4294967281 then some (Lib.contains s t)else none
section
variable {P:Program} {o:Oper} {env:Env} {H:Qc}
theorem Qdr{t u:TypeId}{x y:Operand}{p q r:List UInt8}(h:cat p q=some r)(s:o.op=.binOp .add t x y u:=by exact rfl)(hx:opA env x=.str p:=by exact rfl)(hy:opA env y=.str q:=by exact rfl):OpV P o env H (.str r):=by
 intro k n σ N a w rr;obtain⟨m,i⟩:=QjE h;have e:=Ql rr x;rw[hx]at e;have f:=Ql rr y;rw[hy]at f;have g:a.eval x=.string ⟨p.toArray⟩:=e;have j:a.eval y=.string ⟨q.toArray⟩:=f;have l:(⟨p.toArray⟩:ByteArray)++⟨q.toArray⟩=⟨r.toArray⟩:=by
  rw[<- i];rfl
 refine⟨.string ⟨r.toArray⟩,?_,rfl⟩;have d:¬((⟨p.toArray⟩:ByteArray).size+(⟨q.toArray⟩:ByteArray).size>IntKind.i64.max):=by
  have:IntKind.i64.max=9223372036854775807:=by decide
  grind[ByteArray.size]
 simp_all[eqGuard,execOp,binOp_string_add,Op.stringOp]
def Qej{α:Type}(n:Nat)(l:List α)(i:Int):Option α:=bif Nat.beq l.length n then idx l i else none
theorem QaU{α:Type}{n:Nat}{l:List α}{i:Int}{x:α}(h:Qej n l i=some x):l.length=n/\idx l i=some x:=by
 grind[Qej,Nat.eq_of_beq_eq_true]
def arr{α:Type}(n:Nat)(l:List α):Option (List α):=bif Nat.beq l.length n then some l else none
theorem QbI{α:Type}{n:Nat}{l l':List α}(h:arr n l=some l'):l.length=n/\l=l':=by
 grind[arr,Nat.eq_of_beq_eq_true]
theorem Qes{α:Type}{n:Nat}{l l':List α}(h:arr n l=some l'):l'.length=n:=(QbI h).2▸(QbI h).1
section
variable {α:Type} {e:α->List A} {t et k n b:Nat} {x y:Operand} {l:List α}
theorem Qaw{i:Int}{v:α}{m:IntKind}(h:Qej n l i=some v)(p:∀w,(underlying t).run P w=.ok (.array n et) w)(s:∀w,(sizeOf et).run P w=.ok k w)(B:Nat.ble 2 n=true)
  (F:o.op=.indexAddr t x y:=by exact rfl)(hx:opA env x=.ptr b 0:=by exact rfl)(hy:opA env y=.int m i:=by exact rfl):OpV P o env H (.ptr b (i.toNat*k)):=by
 intro G L σ N a w r;obtain⟨O,q⟩:=QaU h;obtain⟨J,M⟩:=QaT q;have E:i.toNat<l.length:=(by grind);have e:=Ql r x;rw[hx]at e;obtain⟨d,e,z⟩:=e;have j:=Ql r y;rw[hy]at j;have f:a.eval y=.int m i:=j;refine⟨.pointer (some ⟨d,i.toNat*k,none⟩),?_,d,e,rfl⟩;have u:0<=i/\i<n:=by omega
 have g:(⟨d,0,none⟩:Addr).add (i.toNat*k)=⟨d,i.toNat*k,none⟩:=by
  grind[Addr.add]
 generalize a.eval=ρ at*;simp[F,z,f,Instr.indexAt,p,s,u,go_sem]
theorem Qgp{a:List A}(j:H[b]?=some (.row t k (l.map e)):=by exact rfl)(hcs:(l.map e).flatten=a:=by exact rfl):Pts H (.ptr b 0) a:=by
 intro n q σ w v s h;obtain⟨i,d,f⟩:=h;obtain⟨p,g,m⟩:=s.blk b _ _ d j;refine⟨i,0,f,?_⟩;have:=(RR.flat (YA (pre:=[]) (by simpa using g) m)).1;subst hcs;exact this.lift
theorem Qe4(a:∀x,(e x).length=k)(L:List α):(L.map e).flatten.length=L.length*k:=by
 induction L with
 |nil=>simp
 |cons c L ih=>grind
theorem Qfm{d:Nat}{l':List α}(h:arr n l=some l')(m:∀x,(e x).length=k)(a:n*k=d)(g:∀w,(isAgg t).run P w=.ok true w)(i:∀w,(sizeOf t).run P w=.ok d w){T:Nat}
  (p:o.op=.load t x:=by exact rfl)(hx:opA env x=.ptr b 0:=by exact rfl)(hH:H[b]?=some (.row T k (l.map e)):=by exact rfl):OpV P o env H (.agg (l'.map e).flatten):=by
 obtain⟨j,rfl⟩:=QbI h;have f:=Qe4 m l;rw[j,a]at f;exact QY p g i hx (Qgp hH rfl) (by grind) f
theorem Qg1{r:Nat}{n2 T:Nat}(i:l.length=n)(h:∀x,(e x).length=k)(f:n*k=n2)(a:∀w,(isAgg t).run P w=.ok true w)(g:∀w,(sizeOf t).run P w=.ok n2 w)
  (d:lk env r=.ptr b 0:=by exact rfl)(hH:H[b]?=some (.row T k (l.map e)):=by exact rfl):QbZ P env H (.cell r t) (.agg (l.map e).flatten):=by
 have j:=Qe4 h l;have:=QcC a g (Qgp hH rfl) d (by grind)
 grind
theorem Qfg{c:List A}{k:Nat}(h:c.length=k):∀n,allK k (List.replicate n c)
 |0=>trivial
 |n+1=>⟨h,Qfg h n⟩
theorem Qb3{vs:Array Value}{z:α}(s:∀w,(zeroValue t).run P w=.ok (.agg vs) w)(p:(Yt (List.replicate n (e z)).flatten).toArray=vs)(i:Qeb (List.replicate n (e z)).flatten=true)(l:(List.replicate n (e z)).flatten.all Yd=true)(j:Nat.beq (e z).length k=true)
  (u:o.op=.alloc t:=by exact rfl):OpH P o env H (.ptr H.length 0) (H++[.row t k ((List.replicate n z).map e)]):=by
 intro m f σ N a w r;have g:LR f [] w (List.replicate n (e z)).flatten (Yt (List.replicate n (e z)).flatten):=Qdz i;have d:=r.sim.allocRow (t:=t) (rest:=[]) (Qfg (XK j) n) g (g.plain l);rw[X9]at d;have h:(List.replicate n z).map e=List.replicate n (e z):=List.map_replicate;refine⟨.pointer (some ⟨w.heap.size,0,none⟩),w.alloc (.cells (Yt (List.replicate n (e z)).flatten).toArray t),f,[some w.heap.size],?_,⟨w.heap.size,?_,rfl⟩,h▸d,Qj.alloc _ r.sim.roLt r.sim.frLt⟩
 .have q:(newVar t (.agg vs)).run P w=.ok ⟨w.heap.size,0,none⟩ (w.alloc (.cells vs t)):=rfl
  simp_all[execOp,Instr.alloc]
 .rw[<- r.sim.len];simp
theorem Qb2{T n2:Nat}{l':List α}{vs:List A}(h:l.length=n)(h':l'.length=n)(X:∀x,(e x).length=k)(s:n*k=n2)(hs:∀w,(sizeOf t).run P w=.ok n2 w)
  (hp:∀x,(e x).all Yd=true)(hd:∀x,Yi (e x)=true)(u:(l'.map e).flatten=vs)
  (ho:o.op=.store t x y:=by exact rfl)(q:opA env x=.ptr b 0:=by exact rfl)(hH:H[b]?=some (.row T k (l.map e)):=by exact rfl)(F:opA env y=.agg vs:=by exact rfl):
  OpU P o env H (H.set b (.row T k (l'.map e))):=by
 intro fr Y σ N a w r;subst u;have i:=Ql r x;rw[q]at i;obtain⟨bb,i,h2⟩:=i;have V:=Ql r y;rw[F]at V;obtain⟨m,h4,j⟩:=V;obtain⟨z,Q,q2⟩:=r.sim.blk b _ _ i hH;have E:∀(L:List α),allK k (L.map e):=by
  intro L
  induction L with
  |nil=>trivial
  |cons c L p=>exact⟨X c,p⟩
 have J:(l'.map e).flatten.length=n2:=by grind[YD]
 have W:m.length=n2:=by rw[j.length,J]
 have g:∀L:List α,(L.map e).flatten.all Yd=true:=by
  grind
 have G:∀f ds:List A,Yi f=true->Yi ds=true->Yi (f++ds)=true:=by
  intro f
  induction f with
  |nil=>simp
  |cons c f p=>
   simp_all[Yi]
 have M:∀L:List α,Yi (L.map e).flatten=true:=by
  intro L
  induction L with
  |nil=>rfl
  |cons c L p=>exact G _ _ (hd c) p
 have hlen:=by
  have:=q2.length;rw[XU,h,s]at this;exact this
 have O:=Q9 (P:=P) (vs:=m) 0 0 Q (by omega) (j.plain (g l'));have R:splice z 0 m=m++z.drop n2:=by unfold splice;simp[W]
 have d:=r.sim.set (x':=.row T k (l'.map e)) (obj:=.cells (splice z 0 m).toArray T (0,0)) i hH rfl
  (λy F=>Qab Q (Q6 (by omega)) y F)
  (λex B=>by
   have q:=(j.data (M l')).mono ex.nil;exact⟨_,B,Qaf (E l') q (j.plain (g l'))⟩)
 refine⟨_,Y,[],?_,by simpa using d.1,d.2⟩
 simp_all[Value.cells,storeVar,execOp,Instr.storeAt,Instr.sureAddr]
end
end
theorem C.contains{P:Program}{ρ:Ren}(L:Lays.n144 P ρ)(hg:ρ.g 1=QgJ){s t:List UInt8}{r:Bool}(h:QfF s t=some r):C P (ρ.f 144) [.str s,.str t] [] (λa H=>a=.bool r/\H=[]):=by
 unfold QfF at h;cases q:Nat.blt s.length 4294967281 with
 |false=>grind
 |true=>
  rw[q]at h;obtain rfl:=XS h;intro u k σ vals w sim hv;obtain⟨n,y,rfl,i,z,j,rfl,l,d⟩:=hv;cases(show j=[]from d);obtain⟨m,p⟩:=sim.roOk.gp.max;have e1:=i;have e2:=l;subst e1 e2;have hs:=by simpa using q
  refine(Any.strings_Contains L ⟨s.toArray⟩ ⟨t.toArray⟩ m w (by simpa[ByteArray.size]using hs) (by grind)).mono ?_;rintro e x ⟨rfl,rfl⟩;exact⟨_,_,_,k,[],rfl,⟨rfl,rfl⟩,by grind,rfl,Qj.refl _ _ _⟩
section
variable {P:Program} {o:Oper} {env:Env} {H:Qc} {fr ro:Nat->Prop} {σ:Sig} {w:World}
theorem Sim.touch(s:Sim fr ro σ H w){b:Nat}{obj:Obj}(r:¬ro b)(p:¬fr b)(u:∀(i:Nat) (x:Blk),σ[i]?=some (some b)->H[i]?=some x->x.live=true->False)
  (k:∀(i d:Nat) (x:Blk),σ[i]?=some (some d)->H[i]?=some x->Hid w x d b->False)
  (n:∀y,w.shape? b=some y->{w with heap:=w.heap.setIfInBounds b obj}.shape? b=some y):
  Sim fr ro σ H {w with heap:=w.heap.setIfInBounds b obj}/\Qj fr ro w ro {w with heap:=w.heap.setIfInBounds b obj}:=by
 have a:{w with heap:=w.heap.setIfInBounds b obj}.heap.size=w.heap.size:=by simp
 have ev:Qj fr ro w ro {w with heap:=w.heap.setIfInBounds b obj}:=
  ⟨λ_ h=>h,(by grind),(by grind),by omega,by
   grind[World.shape?],rfl,rfl,rfl,XM _⟩
 refine⟨⟨s.len,s.roOk.to (λ_ q=>q) ev.keepRo (λc h=>by rw[a];exact s.roLt c h),λc h=>by rw[a];exact s.frLt c h,s.roFr,?_,s.inj,?_,s.hidTo (· = ·) QU (by omega) (by simp) (by simp) λj d y g l t=>.inl ⟨j,y,rfl,g,l,id,λc q=>s.hidKeep g l (by grind) ev.keepRo q⟩⟩,ev⟩
 .intro i c x e f m;rw[a];exact s.own i c x e f m
 .intro i y x e f;refine(s.blk i y x e f).keep (ev.ext0 σ) ?_ ?_
  .grind
  grind
theorem Qhc{T E i n t:Nat}{x:Operand}{es:List (List A)}(X:P.underlying T=some (.slice E))(hE:P.underlying E=some (.int .u8))(hn:es.length=n)(h0:Nat.blt 0 n=true)
  (ho:o.op=.convert T T x:=by exact rfl)(hx:opA env x=.osl i 0 n 1:=by exact rfl)(hH:H[i]?=some (.row t 1 es):=by exact rfl):
  OpH P o env H (.rsl 1 es) (H.set i .dead):=by
 intro fr M σ N a w r;subst hn;have k:=Ql r x;rw[hx]at k;rcases k with⟨hz,_⟩|⟨b,p,G,t',m,k,h2,h6,⟨h3,aa⟩,h4,h5⟩
 .simp_all
 .have V:0<es.length:=by simp_all
  obtain rfl:=h6 (by omega);obtain⟨hb,F,g⟩:=r.sim.own i b _ k hH rfl;obtain⟨l,q1,q2⟩:=r.sim.blk i _ _ k hH;have W:=r.sim.kill i;have f:∀(j:Nat) (y:Blk),σ[j]?=some (some b)->(H.set i .dead)[j]?=some y->y.live=true->False:=by
   intro j y B e u;by_cases q:j=i
   .subst q;rw[Xb]at e;simp only[if_true]at e
    grind[Blk.live]
   .rw[XJ (λz=>q z.symm)]at e;exact q (r.sim.inj j i b y _ B k e hH u rfl)
  have J:∀(j d:Nat) (y:Blk),σ[j]?=some (some d)->(H.set i .dead)[j]?=some y->Hid w y d b->False:=by
   intro j d y B e u;by_cases q:j=i
   .subst q;rw[Xb]at e;simp only[if_true]at e;split at e
    .cases e;exact u.elim
    .simp at e
   .rw[XJ (λz=>q z.symm)]at e;exact(r.sim.hid j d y b B e u).ne i b _ k hH rfl rfl
  let fz:Nat×Nat:=(l.length,l.length+1)
  have Q:∀y,w.shape? b=some y->({w with heap:=w.heap.setIfInBounds b (.cells l.toArray t fz)}:World).shape? b=some y:=by
   simp_all[World.shape?]
  obtain⟨s2,h⟩:=W.touch (obj:=.cells l.toArray t fz) F g f J Q;have s3:=s2.addRo (b:=b) (by grind) g f (λj d y B e u=>J j d y B e (W.hidKeep B e (by grind) h.keepRo u));have s:({w with heap:=w.heap.setIfInBounds b (.cells l.toArray t fz)}:World).heap[b]?=some (.cells (([]:List Value)++l).toArray t fz):=by
   grind
  have L:Ext M [] w M [] {w with heap:=w.heap.setIfInBounds b (.cells l.toArray t fz)}:=h.ext0 [];refine⟨.slice (some ⟨b,0*1,none⟩) es.length G,_,λc=>M c\/c=b,[],?_,?_,by grind,h.trans (QR λ_ q=>.inl q)⟩
  .have hf:w.freeze ⟨b,l.length,none⟩ 1={w with heap:=w.heap.setIfInBounds b (.cells l.toArray t fz)}:=by
    unfold World.freeze;simp only[Nat.one_ne_zero,if_false];rw[Qb9 q1];rfl
   have O:(markStringish ⟨b,0*1,none⟩).run P w=.ok () {w with heap:=w.heap.setIfInBounds b (.cells l.toArray t fz)}:=by
    simp_all[markStringish,World.shape?]
   have Y:∀w,(underlying T).run P w=.ok (.slice E) w:=run_underlying X;have R:∀w,(underlying E).run P w=.ok (.int .u8) w:=run_underlying hE;generalize a.eval=ρ at*;simp only[execOp,ho,h2,convert,Vf,Y,R,Result.andThen,beq_self_eq_true,O,Vg]
  .refine⟨some ⟨b,0*1,none⟩,G,rfl,h3,.inr ⟨b,0*1,rfl,.inr rfl,?_⟩⟩;have:=YA (pre:=[]) s (q2.mono L);exact(by omega:RR M [] _ b 1 es (0*1)).keep ⟨λ_ q=>.inl q,λ_ _=>rfl,λ_ _ q=>q,λ_ _ q=>q⟩ rfl
end
mutual
theorem Qb7(ρ:Nat->Nat):∀{a:A},Yc a=true->Yw ρ a=a
 |.any,_=>rfl
 |.bool _,_=>rfl
 |.int _ _,_=>rfl
 |.str _,_=>rfl
 |.nilp,_=>rfl
 |.ptr _ _,h=>by simp[Yc]at h
 |.rp _,_=>rfl
 |.nils,_=>rfl
 |.rsl _ _,_=>rfl
 |.osl _ _ _ _,h=>by simp[Yc]at h
 |.agg cs,h=>by simp only[Yc]at h;simp only[Yw,Qad ρ h]
 |.fn f a c,h=>by simp only[Yc,XP]at h;simp only[Yw,Qad ρ h.1,Qad ρ h.2]
 |.nilf,_=>rfl
 |.iface t a,h=>by simp only[Yc]at h;simp only[Yw,Qb7 ρ h]
 |.nilif,_=>rfl
 |.map _,h=>by simp[Yc]at h
 |.nilm,_=>rfl
 |.tup vs,h=>by simp only[Yc]at h;simp only[Yw,Qad ρ h]
theorem Qad(ρ:Nat->Nat):∀{l:List A},Yi l=true->Qag ρ l=l
 |[],_=>rfl
 |a::l,h=>by simp only[Yi,XP]at h;simp only[Qag,Qb7 ρ h.1,Qad ρ h.2]
end
theorem QdU{α:Type}{e:α->List A}(a:∀x,Yi (e x)=true):∀L:List α,Yi (L.map e).flatten=true
 |[]=>rfl
 |c::L=>by
  have hdt:∀cs ds,Yi cs=true->Yi ds=true->Yi (cs++ds)=true:=by
   intro cs
   induction cs with
   |nil=>simp
   |cons c cs d=>
    simp_all[Yi]
  exact hdt _ _ (a c) (QdU a L)
theorem QiD{α:Type}{e:α->List A}(hd:∀x,Yi (e x)=true)(ρ:Nat->Nat)(l:List α):Yw ρ (.agg (l.map e).flatten)=.agg (l.map e).flatten:=
 Qb7 ρ (by exact QdU hd l)
end Go.Sw
namespace Go.Sw
section
variable {P:Program} {o:Oper} {env:Env} {H:Qc}
theorem QcT{c:Call}{f T:Nat}{x:Operand}{xs:List Operand}{i:Array TypeId}{d:String}{v:A}{args:List A}(g:∀(a:Array Value) (w:World),(callFunc f a).run P w=.ok (.enter f a) w)(n:o.op=.call c)
  (p:c={callee:=.invoke x d,args:=xs.toArray,argTypes:=i})(h:opA env x=.iface T v)(hargs:v::xs.map (opA env)=args)
  (k:∀(u:Value) (w:World),(method (P.types.size+Made.depth) T u d).run P w=.ok (f,u) w):OpC P o env H f args:=by
 intro l m σ N a w r;have e:=Ql r x;rw[h]at e;obtain⟨u,e,j⟩:=e;refine⟨u::xs.map a.eval,?_,hargs▸⟨u,xs.map a.eval,rfl,j,QaK r xs⟩⟩
 simp_all[Vt,callMethod,execOp,resolve,invoke]
theorem QaV{T I:Nat}{x:Operand}{v:A}{d:TypeDesc}(i:∀w,(underlying T).run P w=.ok d w)(j:∀m,d≠ .interface m)(k:o.op=.typeAssert x I T true:=by exact rfl)(hx:opA env x=.iface T v:=by exact rfl):
  OpV P o env H (.tup [v,.bool true]):=by
 intro h g σ N a w r;have e:=Ql r x;rw[hx]at e;obtain⟨u,e,f⟩:=e;refine⟨.tuple #[u,.bool true],?_,[u,.bool true],rfl,_,_,rfl,f,_,_,rfl,rfl,rfl⟩
 simp_all[execOp,Instr.typeAssert]
theorem Qez{T T' I:Nat}{x:Operand}{v z:A}{zv:Value}{d:TypeDesc}(i:∀w,(underlying T).run P w=.ok d w)(l:∀m,d≠ .interface m)(g:Nat.beq T' T=false)(p:∀w,(zeroValue T).run P w=.ok zv w)(f:ZR z zv)
  (s:o.op=.typeAssert x I T true:=by exact rfl)(hx:opA env x=.iface T' v:=by exact rfl):
  OpV P o env H (.tup [z,.bool false]):=by
 intro h k σ N a w r;have e:=Ql r x;rw[hx]at e;obtain⟨u,e,n⟩:=e;have j:T'≠T:=λq=>by simp_all
 refine⟨.tuple #[zv,.bool false],?_,[zv,.bool false],rfl,_,_,rfl,f _ _ _,_,_,rfl,rfl,rfl⟩
 simp_all[execOp,Instr.typeAssert]
end
def TL(P:Program)(h0 N:Nat)(c:Code)(env:Env)(H:Qc)(Q:Qx):Prop:=
 ∀rd fr ro σ a w,Rel fr ro σ H env N a w->Qch rd fr w->∀(b:Frame) (k:List Item) (cs:List Frame),b.roundOf=(WF rd).round->(WF rd).fn b.fn->(WF rd).room (cs.length+1+0)->∃e a' w',Qan h0 fr ro σ w N a.defers Q e a' w'/\ArrivesIn (Machine.fenced P (WF rd)) P (lone (b.atR a (.code c::.inLoop c::k)) cs w) b k cs e a' w'
def QfP(P:Program)(h0 N:Nat)(c:Code)(Q:Qx):Qx
 |.normal,env,H=>TL P h0 N c env H Q
 |.exit id,env,H=>Q (.exit id) env H
 |.ret,env,H=>Q .ret env H
section
variable {P:Program} {h0 N:Nat} {c:Code} {env:Env} {H:Qc} {Q:Qx}
theorem Qie(h:TL P h0 N c env H Q):TC P h0 N (.loop c) env H Q:=by
 intro l f j σ a w r hrd b k cs hro hb hr;obtain⟨e,g,i,m,d⟩:=h l f j σ a w r hrd b k cs hro hb hr;exact⟨e,g,i,m,.of_steps (.one (fenced_calm hb hr rfl) stepR_loop) d⟩
theorem TL.round(h:TC P h0 N c env H (QfP P h0 N c Q)):TL P h0 N c env H Q:=by
 intro z y B σ a w r hrd b k cs hro hb hr;obtain⟨e,n,m,M,d⟩:=h z y B σ a w r hrd b (.inLoop c::k) cs hro hb hr;obtain⟨x,f,H',j,σ',i,l,t,F,u,E,p⟩:=M;have G:∀x,Q x f H'->ExR e x->Qan h0 y B σ w N a.defers Q e n m:=λx q R=>⟨x,f,H',j,σ',i,R,q,F,u,E,p⟩;cases e with
 |normal=>
  obtain rfl:x=.normal:=l;obtain⟨O,L,J,s,g⟩:=t z i j σ' n m F (hrd.to u p.sub) b k cs hro hb hr;exact⟨O,L,J,s.grow u E p,.of_steps (StepsIn.trans d (.one (fenced_calm hb hr rfl) stepR_inLoop)) g⟩
 |exit id=>
  obtain rfl:x=.exit id:=l;exact⟨_,n,m,G _ t rfl,.pass rfl (by simp) d⟩
 |ret=>
  obtain rfl:x=.ret:=l;exact⟨_,n,m,G _ t rfl,.pass rfl (by simp) d⟩
 |_=>exact l.elim
theorem unrN(h:TC P h0 N c env H (QfP P h0 N c Q)):QfP P h0 N c Q .normal env H:=TL.round h
theorem unrX{id:Nat}(h:Q (.exit id) env H):QfP P h0 N c Q (.exit id) env H:=h
theorem unrR(h:Q .ret env H):QfP P h0 N c Q .ret env H:=h
theorem QgX(h:TC P h0 N c env H (QfP P h0 N c Q)):TC P h0 N (.loop c) env H Q:=Qie (TL.round h)
end
section
variable {P:Program} {o:Oper} {env:Env} {H:Qc}
theorem OpV.ixL{t a k b n j:Nat}{x y:Operand}{f:IntKind}{i:Int}(h:Nat.blt j n=true)(hi:i=j)(d:∀w,(underlying t).run P w=.ok (.slice a) w)(e:∀w,(sizeOf a).run P w=.ok k w)
  (g:o.op=.indexAddr t x y:=by exact rfl)(hx:opA env x=.osl b 0 n k:=by exact rfl)(hy:opA env y=.int f i:=by exact rfl):OpV P o env H (.ptr b (j*k)):=by
 have l:=Qgq (H:=H) g d e hx hy (by omega) (by simp_all)
 grind
end
theorem Qdp{ro:Nat->Prop}{σ:Sig}{w:World}{k:Nat}:∀{es:List (List A)} {l l':List Value},RL ro σ w k es l->l.take (es.length*k)=l'.take (es.length*k)->RL ro σ w k es l'
 |[],_,_,_,_=>trivial
 |c::es,l,l',h,hp=>by
  obtain⟨l1,l2,rfl,h1,h2,h3⟩:=h;have hl1:l1.length=k:=by rw[h2.1.length];exact h1
  have a:l'.take k=l1:=by
   have:=congrArg (List.take k) hp
   grind[Nat.succ_mul]
  refine⟨l1,l'.drop k,by rw[<- a,Xu],h1,h2,Qdp h3 ?_⟩;have:=congrArg (List.drop k) hp
  grind[Nat.succ_mul]
section
variable {P:Program} {o:Oper} {env:Env} {H:Qc}
theorem QdF{c:Call}{T et k b s n t:Nat}{x:Operand}{es g:List (List A)}{z:Value}(ht:P.underlying T=some (.slice et))(hz:∀w,(zeroValue et).run P w=.ok z w)(G:z.cells.size=k)(ad:∀v∈z.cells,Qv v)
  (J:es.take s=g)(hb:s+n=es.length)(ho:o.op=.call c:=by exact rfl)(hc:c={callee:=.builtin .clear,args:= #[x],argTypes:= #[T]}:=by exact rfl)
  (hx:opA env x=.osl b s n k:=by exact rfl)(hH:H[b]?=some (.row t k es):=by exact rfl):OpH P o env H (.tup []) (H.set b (.row t k g)):=by
 intro q j σ N a w r;subst J hc;have hu:∀w,(underlying T).run P w=.ok (.slice et) w:=run_underlying ht;have e:=Ql r x;rw[hx]at e;have O:Sim q j σ (H.set b (.row t k (es.take s))) w:=by
  refine r.sim.weaken hH rfl ?_;intro y h;cases y with
  |none=>rw[show es=[]from h];simp[BR]
  |some M=>obtain⟨l,g1,g2⟩:=h;exact⟨l,g1,RL.take s g2⟩
 have E:∀v,a.eval x=v->(Builtin.clear_ #[T] o.type #[v]).run P w=.ok (.tuple #[]) w->
   ∃v w' ro' τ,(execOp a.eval o).run P w=.ok (.value v) w'/\VR ro' (σ++τ) w' (.tup []) v/\Sim q ro' (σ++τ) (H.set b (.row t k (es.take s))) w'/\Qj q j w ro' w':=by
  intro v F d;refine⟨.tuple #[],w,j,[],?_,⟨[],rfl,rfl⟩,by grind,Qj.refl _ _ _⟩
  simp_all[execOp,resolve,invoke,builtin]
 rcases e with⟨hn,e⟩|⟨M,p,L,t',m,e,h2,h3,⟨h4,aa⟩,h5,h6⟩
 .simp_all[Builtin.clear_]
 .by_cases hn:n=0
  .simp_all[Builtin.clear_]
  .obtain rfl:=h3 (by omega);obtain⟨l,V,W⟩:=r.sim.blk b _ _ e hH;have X:=W.length
   let vs:=(Builtin.zeroCells z.cells n).toList
   have ac:vs.length=n*k:=by simp[vs,Builtin.zeroCells,G]
   have u:∀v∈vs,Qv v:=by
    intro v F;simp only[vs,Builtin.zeroCells,Array.toList_map,Xe,Array.toList_range,List.mem_range]at F;obtain⟨i,hi,rfl⟩:=F;have R:0<z.cells.size:=by
     grind
    grind[Nat.mod_lt]
   have ab:s*k+n*k=es.length*k:=by grind
   have d:=Q9 (P:=P) (vs:=vs) (s*k) 0 V (by omega) u;have f:=r.sim.set (x':=.row t k (es.take s)) (obj:=.cells (splice l (s*k) vs).toArray t (0,0)) e hH rfl
    (λy h=>Qab V (Q6 (by omega)) y h)
    (λex B=>⟨_,B,by
     refine(Qdp (RL.take s W) ?_).mono ex.nil
     grind[splice]⟩)
   refine⟨.tuple #[],_,j,[],?_,⟨[],rfl,rfl⟩,by grind,f.2⟩;have Q:(Builtin.clear_ #[T] o.type #[.slice (some ⟨M,s*k,none⟩) n L]).run P w=.ok (.tuple #[]) {w with heap:=w.heap.setIfInBounds M (.cells (splice l (s*k) vs).toArray t (0,0))}:=by
    obtain⟨Y,rfl⟩:∃Y,n=Y+1:=⟨n-1,by omega⟩;simp only[Xs]at d;simp only[Builtin.clear_,XA,Xy,Vf,hu,hz,Result.andThen,d,Vg,vs]
   generalize a.eval=ρ at*;simp only[execOp,ho,resolve,Vf,Vg,Result.andThen,invoke,builtin,XC,Vc,Vd,h2,Q]
end
def Qge{α R:Type}[DecidableEq R](l:List α)(x y:Option R):Option R:=bif l.isEmpty then(bif decide (x=y)then x else none)else y
theorem QeX{α R:Type}[DecidableEq R]{l:List α}{x y:Option R}{r:R}(h:Qge l x y=some r)(b:Bool)(a:l≠[]->b=false):(b=true->x=some r)/\(b=false->y=some r):=by
 unfold Qge at h
 grind
section
variable {P:Program} {o:Oper} {env:Env} {H:Qc} {h0 N:Nat} {Q:Qx}
theorem Qhd{α:Type}{e:α->List A}{T E k:Nat}{u:TypeId}{x:Operand}{l:List α}(m:P.underlying T=some (.slice E))(s:o.op=.binOp .eql T x (.const (.slice none 0 0)) u)(g:opA env x=.rsl k (l.map e)):
  OpE P o env H (λv H'=>∃b:Bool,v=.bool b/\(l≠[]->b=false)/\H'=H):=by
 intro j h σ N a w r;have d:=Ql r x;rw[g]at d;obtain⟨f,i,d,p,n⟩:=d;refine⟨.bool f.isNone,H,.bool f.isNone,w,h,[],⟨f.isNone,rfl,λq=>?_,rfl⟩,?_,rfl,by simpa using r.sim,Qj.refl _ _ _⟩
 .grind
 .have t:a.eval (.const (.slice none 0 0))=.slice none 0 0:=rfl
  grind[eqGuard,execOp,Sem.run_bind,Result.andThen,Go.run_eql_slice_nil,Sem.run_pure]
theorem Qib{α:Type}{e:α->List A}{T E k d:Nat}{u:TypeId}{x:Operand}{l:List α}{all:Array Oper}{L:List Oper}(g:P.underlying T=some (.slice E))(a:opA env x=.rsl k (l.map e))
  (h:∀b,(l≠[]->b=false)->WO P h0 N all L (up env d (.bool b)) H Q)
  (f:o.op=.binOp .eql T x (.const (.slice none 0 0)) u:=by exact rfl)(hg:Qt all o env true:=by exact rfl)(hd:o.dst=some d:=by exact rfl)(hN:Nat.blt d N=true:=by exact rfl)(hh:Nat.ble h0 H.length=true:=by exact rfl):WO P h0 N all (o::L) env H Q:=by
 refine QfO (by simp_all) hg hd hN (Qhd g f a) ?_
 grind
end
theorem slc0{α:Type}{l x:List α}{i:Int}(h:slc l 0 i=some x):0<=i/\i.toNat<=l.length/\l.take i.toNat=x/\x.length=i.toNat:=by
 obtain⟨_,a,d,e⟩:=QcZ h
 grind
section
variable {P:Program} {o:Oper} {env:Env} {H:Qc} {α:Type} {e:α->List A} {T et k b t:Nat} {x y:Operand} {l l':List α} {i:Int}
theorem QfS(h:slc l 0 i=some l')(E1:∀w,(underlying T).run P w=.ok (.slice et) w)(E2:∀w,(sizeOf et).run P w=.ok k w)(a:o.op=.slice T x (some y) none none:=by exact rfl)
  (hx:opA env x=.osl b 0 l.length k:=by exact rfl)(hy:opA env y=.int .i64 i:=by exact rfl):OpV P o env H (.osl b (0+i.toNat) (l.length-i.toNat) k):=by
 obtain⟨e,d,_,_⟩:=slc0 h;exact Qdv E1 E2 a hx (by grind) (.inl ⟨rfl,rfl⟩) d (XM _)
theorem QfT(h:slc l 0 i=some l')(E1:∀w,(underlying T).run P w=.ok (.slice et) w)(E2:∀w,(sizeOf et).run P w=.ok k w)(d:o.op=.slice T x none (some y) none:=by exact rfl)
  (hx:opA env x=.osl b 0 l.length k:=by exact rfl)(hy:opA env y=.int .i64 i:=by exact rfl):OpV P o env H (.osl b 0 l'.length k):=by
 obtain⟨e,a,_,f⟩:=slc0 h;have:=Qdv (H:=H) E1 E2 d hx (.inl ⟨rfl,rfl⟩) (by grind) (XN _) a
 grind
theorem QfV{c:Call}{z:Value}(h:slc l 0 i=some l')(f:P.underlying T=some (.slice et))(j:∀w,(zeroValue et).run P w=.ok z w)(d:z.cells.size=k)(a:∀v∈z.cells,Qv v)(m:o.op=.call c:=by exact rfl)(hc:c={callee:=.builtin .clear,args:= #[x],argTypes:= #[T]}:=by exact rfl)
  (hx:opA env x=.osl b (0+i.toNat) (l.length-i.toNat) k:=by exact rfl)(hH:H[b]?=some (.row t k (l.map e)):=by exact rfl):OpH P o env H (.tup []) (H.set b (.row t k (l'.map e))):=by
 obtain⟨p,q,g,n⟩:=slc0 h;refine QdF f j d a ?_ ?_ m hc hx hH
 .rw[Xr, <- g,List.map_take]
 grind
end
open Go.Sort Go.Proofs Go.Shelf
theorem Qew{ro:Nat->Prop}{σ:Sig}{w:World}:∀{l:List Int} {lv:List Value},RL ro σ w 1 (l.map λx=>[A.int .i64 x]) lv->∃rest,lv=l.map (Value.int .i64)++rest
 |[],lv,_=>⟨lv,rfl⟩
 |x::l,lv,h=>by
  obtain⟨l1,l2,rfl,h1,⟨h2,h3⟩,h4⟩:=h;obtain⟨rest,rfl⟩:=Qew h4;obtain⟨v,r,rfl,hv,hr⟩:=h2;cases(show r=[]from hr);exact⟨rest,by rw[show v=.int .i64 x from hv];simp⟩
section
variable {P:Program} {o:Oper} {env:Env} {H:Qc} {α:Type} {e:α->List A} {T et k b t:Nat} {x y:Operand}
theorem Qd6{lo hi:Option Operand}{l r:List α}{a c:Int}(h:slc l a c=some r)(E1:∀w,(underlying T).run P w=.ok (.slice et) w)(E2:∀w,(sizeOf et).run P w=.ok k w)
  (d:lo=none/\a=0\/ ∃y,lo=some y/\opA env y=.int .i64 a)(e:hi=none/\c=l.length\/ ∃y,hi=some y/\opA env y=.int .i64 c)
  (f:o.op=.slice T x lo hi none:=by exact rfl)(hx:opA env x=.osl b 0 l.length k:=by exact rfl):OpV P o env H (.osl b (0+a.toNat) (c.toNat-a.toNat) k):=by
 obtain⟨j,i,g,_⟩:=QcZ h;refine Qdv E1 E2 f hx ?_ ?_ (by omega) (by omega)
 .grind
 grind
end
end Go.Sw
namespace Go.Sw
inductive Bx where
 |mk (a:A)
def lkB:Env->Nat->Bx
 |[],_=>.mk .any
 |(d,a)::r,s=>bif Nat.beq s d then .mk a else lkB r s
theorem QfD:∀{env:Env} {s:Nat} {a:A},lkB env s=.mk a->lk env s=a
 |[],s,a,h=>by cases h;rfl
 |(d,b)::r,s,a,h=>by
  unfold lkB at h;unfold lk;cases q:Nat.beq s d with
  |true=>grind
  |false=>rw[q]at h;exact QfD h
inductive FBy where
 |mk (l:List UInt8)
def fby:List UInt8->FBy
 |[]=>.mk []
 |a::r=>match fby r with
  |.mk r'=>.mk (a::r')
theorem QhO:∀l,fby l=.mk l
 |[]=>rfl
 |a::r=>by unfold fby;rw[QhO r]
def opB(env:Env):Operand->Bx
 |.tmp t=>lkB env t
 |.const (.bool b)=>.mk (.bool b)
 |.const (.int k n)=>.mk (.int k n)
 |.const (.string s)=>match fby s.data.toList with
  |.mk l=>.mk (.str l)
 |.const (.pointer none)=>.mk .nilp
 |.const (.slice none 0 0)=>.mk .nils
 |.const (.map none)=>.mk .nilm
 |.const .nilFunc=>.mk .nilf
 |.const .nilIface=>.mk .nilif
 |.func f=>.mk (.fn (.func f) [] [])
 |_=>.mk .any
theorem QC{env:Env}{x:Operand}{a:A}(h:opB env x=.mk a):opA env x=a:=by
 cases x with
 |tmp t=>exact QfD h
 |const v=>
  cases v with
  |slice b n k=>cases b with
   |none=>cases n with
    |zero=>cases k<;>(cases h;rfl)
    |succ n=>cases h;rfl
   |some b=>cases h;rfl
  |pointer p=>cases p<;>(cases h;rfl)
  |map p=>cases p<;>(cases h;rfl)
  |string s=>
   have d:(match fby s.data.toList with|.mk l=>Bx.mk (.str l))=.mk a:=h;rw[QhO]at d;cases d;rfl
  |_=>cases h;rfl
 |global g=>cases h;rfl
 |func f=>cases h;rfl
def Yu{α:Type}:List α->Nat->Option α
 |[],_=>none
 |a::_,0=>some a
 |_::r,n+1=>Yu r n
theorem Qat{α:Type}:∀(l:List α) (n:Nat),Yu l n=l[n]?
 |[],n=>by simp[Yu]
 |a::r,0=>rfl
 |a::r,n+1=>by simp[Yu,Qat r n]
def arB:BinOp->IntKind->Int->Int->Option A
 |.add,k,m,n=>some (.int k (k.wrap (m+n)))
 |.sub,k,m,n=>some (.int k (k.wrap (m-n)))
 |.mul,k,m,n=>some (.int k (k.wrap (m*n)))
 |.eql,_,m,n=>some (.bool (m==n))
 |.neq,_,m,n=>some (.bool (m != n))
 |.lss,_,m,n=>some (.bool (decide (m<n)))
 |.leq,_,m,n=>some (.bool (decide (m<=n)))
 |.gtr,_,m,n=>some (.bool (decide (n<m)))
 |.geq,_,m,n=>some (.bool (decide (n<=m)))
 |_,_,_,_=>none
def srB:BinOp->List UInt8->List UInt8->Option A
 |.eql,p,q=>some (.bool (p==q))
 |.neq,p,q=>some (.bool (p != q))
 |.lss,p,q=>some (.bool (Op.bytesLess p q))
 |_,_,_=>none
def biB(b:BinOp):Bx->Bx->Option A
 |.mk (.int k m),.mk (.int k' n)=>if k=k' then arB b k m n else none
 |.mk (.str p),.mk (.str q)=>srB b p q
 |_,_=>none
def unB:UnOp->Bx->Option A
 |.not,.mk (.bool b)=>some (.bool !b)
 |.neg,.mk (.int k n)=>some (.int k (k.wrap (0-n)))
 |_,_=>none
def exB:Bx->Nat->Option A
 |.mk (.tup vs),i=>Yu vs i
 |_,_=>none
def nlB:Bx->Option A
 |.mk (.ptr i j)=>some (.ptr i j)
 |.mk (.rp cs)=>some (.rp cs)
 |_=>none
def piB:Bx->Bx->Bx->Option A
 |.mk (.bool true),.mk a,_=>some a
 |.mk (.bool false),_,.mk a=>some a
 |_,_,_=>none
def svB(env:Env):Op->Option A
 |.move x=>match opB env x with|.mk a=>some a
 |.assign x=>match opB env x with|.mk a=>some a
 |.nilCheck x=>nlB (opB env x)
 |.extract x i=>exB (opB env x) i
 |.unOp u _ x=>unB u (opB env x)
 |.pick c x y=>piB (opB env c) (opB env x) (opB env y)
 |.binOp b _ x y _=>biB b (opB env x) (opB env y)
 |_=>none
def pr(d:Nat):Option A->Option (Nat×A)
 |some a=>some (d,a)
 |none=>none
def stB(o:Oper)(env:Env):Option (Nat×A):=
 match o.dst with
 |some d=>pr d (svB env o.op)
 |none=>none
section
variable {P:Program} {h0 N:Nat} {all:Array Oper} {o:Oper} {l:List Oper} {env:Env} {H H':Qc} {Q:Qx} {d:Nat} {x:A}
theorem Qba{p:Op}(g:o.op=p)(h:svB env p=some x):OpV P o env H x:=by
 unfold svB at h;split at h
 .rename_i y;cases q:opB env y with|mk a=>simp_all[OpV.move,QC]
 .rename_i y;cases q:opB env y with|mk a=>simp_all[OpV.assign,QC]
 .rename_i y;unfold nlB at h;split at h
  .rename_i i j q;cases h;exact Qds g (QC q) rfl
  .rename_i s q;cases h;exact Qds g (QC q) rfl
  .cases h
 .rename_i y i;unfold exB at h
  grind[Qat,OpV.extract,QC]
 .rename_i u t y;unfold unB at h
  grind[OpV.not,QC,OpV.neg]
 .rename_i c y z;unfold piB at h;split at h
  .rename_i a _ d f;cases h;exact OpV.pick g (QC d) (by rw[Vk rfl];exact QC f)
  .rename_i a d f;cases h;exact OpV.pick g (QC d) (by exact QC f)
  .cases h
 .rename_i b t y z u;unfold biB at h;split at h
  .rename_i k m w n d f;split at h
   .rename_i e;subst e;have l:=QC d;have r:=QC f;unfold arB at h
    grind[OpV.add,OpV.sub,OpV.mul,OpV.eql,OpV.neq,OpV.lss,OpV.leq,OpV.gtr,OpV.geq]
   .cases h
  .rename_i p q d f;have l:=QC d;have r:=QC f;unfold srB at h
   grind[Qg6,Qg3,Qg4]
  .cases h
 .cases h
theorem Qhu(h:stB o env=some (d,x)):o.dst=some d/\OpV P o env H x:=by
 unfold stB at h;split at h
 .rename_i f q;cases e:svB env o.op with
  |none=>rw[e]at h;cases h
  |some a=>rw[e]at h;cases h;exact⟨q,Qba rfl e⟩
 .cases h
theorem S(e:stB o env=some (d,x))(k:WO P h0 N all l (up env d x) H Q)(hg:Qt all o env true:=by exact rfl)(hN:Nat.blt d N=true:=by exact rfl):WO P h0 N all (o::l) env H Q:=
 Yq hg (Qhu (P:=P) (H:=H) e).1 hN (Qhu e).2 k
theorem K(hg:Qt all o env false)(e:o.dst=some d)(k:WO P h0 N all l (up env d (.tup [])) H Q)(a:Nat.blt d N=true:=by exact rfl):WO P h0 N all (o::l) env H Q:=
 WO.skip hg e a k
def p2B(v:Bool):Bx->Bx->Bx->Option (Bool×A)
 |.mk (.bool b),.mk a,.mk a'=>match v with|true=>some (b,a)|false=>some (b,a')
 |_,_,_=>none
def pr2(d:Nat):Option (Bool×A)->Option (Nat×Bool×A)
 |some a=>some (d,a)
 |none=>none
def pkB(v:Bool)(o:Oper)(env:Env):Option (Nat×Bool×A):=
 match o.dst,o.op with
 |some d,.pick c x y=>pr2 d (p2B v (opB env c) (opB env x) (opB env y))
 |_,_=>none
theorem Qjn{v b:Bool}{p q r:Bx}(h:p2B v p q r=some (b,x)):∃a a',p=.mk (.bool b)/\q=.mk a/\r=.mk a'/\(bif v then a else a')=x:=by
 obtain⟨p⟩:=p;obtain⟨q⟩:=q;obtain⟨r⟩:=r;cases p<;>first|(cases h)|skip
 cases v<;>cases h<;>exact(by simp)
theorem Qhz{v b:Bool}(h:pkB v o env=some (d,b,x))(n:b=v):o.dst=some d/\OpV P o env H x:=by
 unfold pkB at h;split at h
 .rename_i k c y z i p;cases e:p2B v (opB env c) (opB env y) (opB env z)with
  |none=>rw[e]at h;cases h
  |some s=>
   rw[e]at h;cases h;obtain⟨a,f,l,m,j,g⟩:=Qjn e
   grind[OpV.pick,QC]
 .cases h
theorem Pk{v b:Bool}(a:b=v)(e:pkB v o env=some (d,b,x))(k:WO P h0 N all l (up env d x) H Q)(hg:Qt all o env true:=by exact rfl)(hN:Nat.blt d N=true:=by exact rfl):WO P h0 N all (o::l) env H Q:=
 Yq hg (Qhz (P:=P) (H:=H) e a).1 hN (Qhz e a).2 k
def fpB(o:Oper)(env:Env):Option (Nat×Nat×Nat×Nat×Nat):=
 match o.dst,o.op with
 |some d,.fieldAddr T x f=>match opB env x with
  |.mk (.ptr i p)=>some (d,T,f,i,p)
  |_=>none
 |_,_=>none
theorem Qek{T f off n i p:Nat}(a:Ym P T f off n)(h:fpB o env=some (d,T,f,i,p)):o.dst=some d/\OpV P o env H (.ptr i (p+off)):=by
 grind[fpB,QbK,QC]
theorem Fp{T f off n i p:Nat}(a:Ym P T f off n)(e:fpB o env=some (d,T,f,i,p))(k:WO P h0 N all l (up env d (.ptr i (p+off))) H Q)(hg:Qt all o env true:=by exact rfl)(hN:Nat.blt d N=true:=by exact rfl):WO P h0 N all (o::l) env H Q:=
 Yq hg (Qek (H:=H) a e).1 hN (Qek a e).2 k
theorem Fpg{T f off n i p:Nat}(hg:Qt all o env true)(a:Ym P T f off n)(e:fpB o env=some (d,T,f,i,p))(k:WO P h0 N all l (up env d (.ptr i (p+off))) H Q)(g:Nat.blt d N=true:=by exact rfl):WO P h0 N all (o::l) env H Q:=
 Yq hg (Qek (H:=H) a e).1 g (Qek a e).2 k
inductive Lx where
 |mk (l:List A)
def Qfb:Nat->List A->Lx
 |0,l=>.mk l
 |n+1,_::r=>Qfb n r
 |_+1,[]=>.mk []
theorem Qdi:∀{n:Nat} {l r:List A},Qfb n l=.mk r->l.drop n=r
 |0,l,r,h=>by cases h;rfl
 |n+1,a::l,r,h=>by rw[List.drop_succ_cons];exact Qdi h
 |n+1,[],r,h=>by cases h;rfl
def ctB:Option Blk->Nat->Option A
 |some (.cells _ cs),off=>Yu cs off
 |_,_=>none
def lvB(H:Qc):Bx->Option A
 |.mk (.ptr i off)=>ctB (Yu H i) off
 |.mk (.rp (a::_))=>some a
 |_=>none
def pr3(d t:Nat):Option A->Option (Nat×Nat×A)
 |some a=>some (d,t,a)
 |none=>none
def ldB(o:Oper)(env:Env)(H:Qc):Option (Nat×Nat×A):=
 match o.dst,o.op with
 |some d,.load t x=>pr3 d t (lvB H (opB env x))
 |_,_=>none
theorem Qef{t:Nat}(k:∀w,(isAgg t).run P w=.ok false w)(h:ldB o env H=some (d,t,x)):o.dst=some d/\OpV P o env H x:=by
 unfold ldB at h;split at h
 .rename_i u s y m l;cases e:lvB H (opB env y)with
  |none=>rw[e]at h;cases h
  |some a=>
   rw[e]at h;cases h;refine⟨m,?_⟩;unfold lvB at e;split at e
   .rename_i i f j;unfold ctB at e;split at e
    .rename_i f q T0 T cs q4;rw[Qat]at e q4;obtain⟨g,p⟩:∃g,cs.drop f=x::g:=by
      have n:=(XF.1 e).1
      simp_all[Xm]
     exact OpV.load l k (QC j) (Pts.cells q4 p)
    .cases e
   .rename_i a r j;cases e;exact OpV.load l k (QC j) Pts.rp
   .cases e
 .cases h
theorem Ld{t:Nat}(a:∀w,(isAgg t).run P w=.ok false w)(e:ldB o env H=some (d,t,x))(k:WO P h0 N all l (up env d x) H Q)(hg:Qt all o env true:=by exact rfl)(hN:Nat.blt d N=true:=by exact rfl):WO P h0 N all (o::l) env H Q:=
 Yq hg (Qef a e).1 hN (Qef a e).2 k
theorem Ldg{t:Nat}(hg:Qt all o env true)(a:∀w,(isAgg t).run P w=.ok false w)(e:ldB o env H=some (d,t,x))(k:WO P h0 N all l (up env d x) H Q)(f:Nat.blt d N=true:=by exact rfl):WO P h0 N all (o::l) env H Q:=
 Yq hg (Qef a e).1 f (Qef a e).2 k
def ixB(o:Oper)(env:Env):Option (Nat×Nat×Nat×List (List A)×IntKind×Int):=
 match o.dst,o.op with
 |some d,.indexAddr t x y=>match opB env x,opB env y with
  |.mk (.rsl k es),.mk (.int kk i)=>some (d,t,k,es,kk,i)
  |_,_=>none
 |_,_=>none
theorem Ix{α:Type}{e:α->List A}{t a k:Nat}{L:List α}{r:IntKind}{i:Int}{v:α}(h:idx L i=some v)(f:∀w,(underlying t).run P w=.ok (.slice a) w)(g:∀w,(sizeOf a).run P w=.ok k w)
  (q:ixB o env=some (d,t,k,L.map e,r,i))(k:WO P h0 N all l (up env d (.rp (e v))) H Q)(hg:Qt all o env true:=by exact rfl)(hN:Nat.blt d N=true:=by exact rfl):WO P h0 N all (o::l) env H Q:=by
 unfold ixB at q;split at q
 .rename_i p s;split at q
  .rename_i j m;simp[Option.some.injEq,Prod.mk.injEq]at q;obtain⟨rfl,rfl,rfl,n,rfl,rfl⟩:=q;exact Yq hg p hN (Qb1 h f g s (by rw[QC j,n]) (QC m)) k
  .cases q
 .cases q
def lnB(o:Oper)(env:Env):Option (Nat×Nat×Bx):=
 match o.dst,o.op with
 |some d,.call c=>match c with
  |{callee:=.builtin .len,args:=⟨[x]⟩,argTypes:=⟨[t]⟩}=>some (d,t,opB env x)
  |_=>none
 |_,_=>none
theorem Qju{t:Nat}{b:Bx}(q:lnB o env=some (d,t,b)):∃x,o.dst=some d/\o.op=.call {callee:=.builtin .len,args:= #[x],argTypes:= #[t]}/\opB env x=b:=by
 unfold lnB at q
 grind
theorem LnM{α:Type}{e:α->List A}{t g k:Nat}{L:List α}(a:∀w,(underlying t).run P w=.ok (.slice g) w)(q:lnB o env=some (d,t,.mk (.rsl k (L.map e))))
  (k:WO P h0 N all l (up env d (.int .i64 L.length)) H Q)(hg:Qt all o env true:=by exact rfl)(hN:Nat.blt d N=true:=by exact rfl):WO P h0 N all (o::l) env H Q:=by
 obtain⟨x,f,i,h⟩:=Qju q;exact Yq hg f hN (Qfn a i rfl (QC h)) k
end
section
variable {P:Program} {h0 N:Nat} {all:Array Oper} {env env':Env} {H H':Qc} {Q:Qx} {c c':Code}
theorem Oi{α:Type}{x y:α}(h:some x=some y):x=y:=XS h
theorem Bd{α β:Type}{x:Option α}{f:α->Option β}{r:β}{G:Prop}(h:x.bind f=some r)(k:∀a,x=some a->f a=some r->G):G:=by
 obtain⟨a,d,e⟩:=Q3 h
 grind
theorem If{α:Type}{c:Bool}{x y:Option α}{r:α}{G:Prop}(h:(bif c then x else y)=some r)(t:c=true->x=some r->G)(e:c=false->y=some r->G):G:=by
 grind
theorem Cn{α:Type}{x:Operand}{t:Bool}{p q:Option α}{r:α}(hx:opB env x=.mk (.bool t))(h:(bif t then p else q)=some r)(ht:t=true->p=some r->TC P h0 N c env H Q)(hf:t=false->q=some r->TC P h0 N c' env H Q):TC P h0 N (.cond x c c') env H Q:=
 TC.cond (QC hx) (by grind) (by grind)
theorem Yn{α:Type}{x:Operand}{t:Bool}{p q:Option α}{r:α}(hx:opB env x=.mk (.bool t))(h:(bif t then p else q)=some r)(hf:t=false->q=some r->TC P h0 N c' env H Q)(ht:t=true->p=some r->TC P h0 N c env H Q):TC P h0 N (.cond x c c') env H Q:=
 TC.cond (QC hx) (by grind) (by grind)
theorem Lr(π:List Nat)(a:π.take h0=List.range h0:=by exact rfl)(hH:π.map (λp=>H[p]?)=(H'.map (QK (rho π H.length))).map some:=by exact rfl)(hπ:π.Nodup:=by decide)
  (hE:Qbj (rho π H.length) env env':=by(repeat' (first|exact trivial|refine⟨rfl,?_⟩))):Le h0 env H env' H':=QjK π a hH hπ hE
end
def Ev{α:Type}(f:Nat->Option α)(v:α):Prop:=∃N,∀n,N<=n->f n=some v
section
variable {α β:Type} {f g:Nat->Option α} {v w:α}
theorem Qf(v:α):Ev (λ_=>some v) v:=⟨0,λ_ _=>rfl⟩
theorem Ev.const{o:Option α}(h:o=some v):Ev (λ_=>o) v:=⟨0,λ_ _=>h⟩
theorem Ev.bind{k:Nat->α->Option β}{b:β}(h:Ev f v)(a:Ev (λn=>k n v) b):Ev (λn=>(f n).bind (k n)) b:=by
 obtain⟨N,h⟩:=h;obtain⟨M,a⟩:=a;exact⟨max N M,λn d=>by grind⟩
theorem QjL{c:Bool}(a:c=true->Ev f v)(d:c=false->Ev g w):Ev (λn=>bif c then f n else g n) (bif c then v else w):=by
 cases c with
 |true=>exact a rfl
 |false=>exact d rfl
theorem Qbx(h:Ev g v):Ev (λn=>bif false then f n else g n) v:=h
theorem Ev.and{c d:Bool}{h:Nat->Option Bool}(a:c=true->Ev h d):Ev (λn=>bif c then h n else some false) (c&&d):=by
 cases c with
 |true=>exact a rfl
 |false=>exact Qf _
theorem Ys{c d:Bool}{h:Nat->Option Bool}(a:c=false->Ev h d):Ev (λn=>bif c then some true else h n) (c||d):=by
 cases c with
 |true=>exact Qf _
 |false=>exact a rfl
theorem Ev.eq(h:Ev f v)(e:v=w):Ev f w:=e▸h
theorem Qiq(h:Ev f v)(e:∀n,g n=f n):Ev g v:=by
 obtain⟨N,h⟩:=h;exact⟨N,λn a=>by grind⟩
theorem Ev.succ(h:Ev (λn=>f (n+1)) v):Ev f v:=by
 obtain⟨N,h⟩:=h;refine⟨N+1,λn a=>?_⟩;obtain⟨m,rfl⟩:∃m,n=m+1:=⟨n-1,by omega⟩
 grind
theorem Ev.ex(h:Ev f v):∃n,f n=some v:=let⟨N,h⟩:=h;⟨N,h N (XM _)⟩
theorem Ev.all{k:Nat}{F:Nat->Nat->Option α}{V:Nat->α}(h:∀i,i<k->Ev (F i) (V i)):∃N,∀n,N<=n->∀i,i<k->F i n=some (V i):=by
 induction k with
 |zero=>simp
 |succ k a=>
  obtain⟨N,f⟩:=a (by grind);obtain⟨M,g⟩:=h k (by omega);refine⟨max N M,λn e i d=>?_⟩
  grind
end
section
variable {S B α:Type} {step:Nat->S->Option (Ctl S B)}
theorem Ev.iter{d:S}(a:Nat->S)(k:Nat){b:B}(e:a 0=d)(h:∀i,i<k->Ev (λn=>step n (a i)) (.cont (a (i+1))))(f:Ev (λn=>step n (a k)) (.done b)):
  Ev (λn=>Go.Sw.iter (step n) n d) b:=by
 obtain⟨N,l⟩:=Ev.all h;obtain⟨M,g⟩:=f;exact⟨max (max N M) (k+1),λn j=>QhF d a b k e (by grind) (g n (by omega)) n (by omega)⟩
structure At (l:List α) (i:Nat) (x:α):Prop where
 get:l[i]?=some x
 lt:decide ((i:Int)<(l.length:Int))=true
 ix:idx l (i:Int)=some x
 nx:IntKind.i64.wrap ((i:Int)+1)=((i+1:Nat):Int)
theorem Qcm{l:List α}{i:Nat}{x:α}(a:l.length<=4611686018427387904)(h:l[i]?=some x):At l i x:=by
 have d:=(XF.1 h).1;exact⟨h,(by grind),QS h,QdH (by omega)⟩
theorem At.mem{l:List α}{i:Nat}{x:α}(h:At l i x):x∈l:=Vs h.get
theorem At.lt'{l:List α}{i:Nat}{x:α}(h:At l i x):i<l.length:=(XF.1 h.get).1
theorem At.take{l:List α}{i:Nat}{x:α}(h:At l i x):l.take (i+1)=l.take i++[x]:=by
 rw[List.take_add_one,h.get];rfl
theorem end_(l:List α):decide ((l.length:Int)<(l.length:Int))=false:=(by simp)
theorem Ev.contains(l:List α)(q:α->Bool)(g:Nat->α->Option Bool)(f:l.length<=4611686018427387904)(hg:∀x∈l,Ev (λn=>g n x) (q x)):
  Ev (λn=>(((Go.Sw.iter (λs:Int=>bif decide (s<(l.length:Int))then(idx l s).bind λx=>(g n x).bind λr=>(bif r then some (Ctl.done (Ctl.done s))else some (Ctl.cont (IntKind.i64.wrap (s+1))))else some (Ctl.done (Ctl.cont ()))) n (0:Int):Option (Ctl Unit Int)).bind λb=>
   match b with
   |.cont _=>some (-1)
   |.done s=>some s):Option Int).bind λr=>some (decide (0<=r))) (l.any q):=by
 cases e:l.any q with
 |false=>
  refine Ev.bind (v:=(-1:Int)) (Ev.bind (v:=Ctl.cont ()) (Ev.iter (λi=>(i:Int)) l.length rfl (λi w=>?_) ?_) (Qf _)) (Qf _)
  .have a:=Qcm (x:=l[i]) f (XE w);simp only[a.lt,Vh,a.ix,XD];have B:q l[i]=false:=by
    grind
   refine Ev.bind ((hg _ a.mem).eq B) ?_;simp only[Vi,a.nx];exact Qf _
  simp_all[Qf]
 |true=>
  obtain⟨x,t,h⟩:=Xp.1 e;have d:∀k,k<=l.length->(∀(i:Nat) (x:α),l[i]?=some x->i<k->q x=false)\/ ∃(i:Nat) (x:α),l[i]?=some x/\i<k/\q x=true/\ ∀(j:Nat) (y:α),l[j]?=some y->j<i->q y=false:=by
   intro k
   induction k with
   |zero=>simp
   |succ k E=>
    grind
  rcases d l.length (XM _)with G|⟨i,x,z,F,u,p⟩
  .obtain⟨j,m,rfl⟩:=List.getElem_of_mem t
   grind
  .refine Ev.bind (v:=(i:Int)) (Ev.bind (v:=Ctl.done (i:Int)) (Ev.iter (λi=>(i:Int)) i rfl (λj m=>?_) ?_) (Qf _)) ?_
   .have a:=Qcm (x:=l[j]) f (XE (by omega));simp only[a.lt,Vh,a.ix,XD];refine Ev.bind ((hg _ a.mem).eq (p j _ a.get m)) ?_;simp only[Vi,a.nx];exact Qf _
   .have a:=Qcm f z;simp only[a.lt,Vh,a.ix,XD];refine Ev.bind ((hg _ a.mem).eq u) ?_;exact Qf _
   simp_all[Qf]
end
section
variable {S B α:Type} {step:Nat->S->Option (Ctl S B)}
theorem At.drop{l:List α}{i:Nat}{x:α}(h:At l i x):l.drop i=x::l.drop (i+1):=by
 have:=h.lt';rw[Xm this,(XF.1 h.get).2]
end
section
variable {α β:Type} [DecidableEq α]
end
def EvI{S B:Type}(step:Nat->S->Option (Ctl S B))(s:S)(b:B):Prop:=∃N,∀n k,N<=n->N<=k->Go.Sw.iter (step n) k s=some b
section
variable {S B:Type} {step:Nat->S->Option (Ctl S B)} {s s':S} {b:B}
theorem EvI.done(h:Ev (λn=>step n s) (.done b)):EvI step s b:=by
 obtain⟨N,h⟩:=h;refine⟨N+1,λn k e d=>?_⟩;obtain⟨a,rfl⟩:∃a,k=a+1:=⟨k-1,by omega⟩
 grind[Go.Sw.iter]
theorem EvI.cont(h:Ev (λn=>step n s) (.cont s'))(q:EvI step s' b):EvI step s b:=by
 obtain⟨N,h⟩:=h;obtain⟨M,q⟩:=q;refine⟨max N M+1,λn k e d=>?_⟩;obtain⟨a,rfl⟩:∃a,k=a+1:=⟨k-1,by omega⟩
 grind[Go.Sw.iter]
theorem EvI.ev(h:EvI step s b):Ev (λn=>Go.Sw.iter (step n) n s) b:=by
 obtain⟨N,h⟩:=h;exact⟨N,λn a=>h n n a a⟩
theorem EvI.eq{b':B}(h:EvI step s b)(e:b=b'):EvI step s b':=e▸h
end
theorem Qf2{α:Type}{l r:List α}{i:Nat}{x:α}(d:l.length<=4611686018427387904)(h:l.drop i=x::r):At l i x/\l.drop (i+1)=r:=by
 have a:l[i]?=some x:=by
  have:=congrArg (λl=>l[0]?) h
  grind
 refine⟨Qcm d a,?_⟩;have:=(Qcm d a).drop
 grind
theorem Qh0{α:Type}{l:List α}{i:Nat}(h:l.drop i=[])(hi:i<=l.length):decide ((i:Int)<(l.length:Int))=false:=by
 simp_all
theorem Z.{u}{α:Sort u}{a:α}:a=a:=rfl
section
variable {P:Program} {h0 N:Nat} {all:Array Oper} {env:Env} {H H':Qc} {Q:Qx} {l:List Oper} {o:Oper} {d:Nat}
theorem aV(x:A)(H:Qc){x':A}{H':Qc}(a:x'=x)(e:H'=H)(k:WO P h0 N all l (up env d x) H Q):WO P h0 N all l (up env d x') H' Q:=by subst a;subst e;exact k
theorem vX(x:A)(a:OpV P o env H x)(k:WO P h0 N all l (up env d x) H Q)(hg:Qt all o env true:=by exact rfl)(hd:o.dst=some d:=by exact rfl)(hN:Nat.blt d N=true:=by exact rfl):WO P h0 N all (o::l) env H Q:=
 Yq hg hd hN a k
theorem Wp:WO P h0 N all [] env H (YB env H):=WO.nil YB.mk
end
section
variable {P:Program} {o:Oper} {env:Env} {H:Qc}
theorem Qi7{ro:Nat->Prop}{σ:Sig}{w:World}(g:GP w){b:Nat}{zs:List Int}(h:QfG[b]?=some zs):∀(i:Nat),CR ro σ w b ((zs.drop i).map (A.int .i64)) i:=by
 intro i;generalize hl:zs.drop i=l
 induction l generalizing i with
 |nil=>trivial
 |cons z l d=>
  have e:zs[i]?=some z:=by
   have:=congrArg (·[0]?) hl
   grind
  have a:zs.drop (i+1)=l:=by
   rw[<- List.drop_drop,hl];rfl
  exact⟨⟨_,g.tab b zs h i z e,by simp[Qv],rfl⟩,d (i+1) a⟩
theorem Qd5{t n g:Nat}{zs:List Int}(e:∀w,(isAgg t).run P w=.ok true w)(h:∀w,(sizeOf t).run P w=.ok n w)(hg:QfG[g]?=some zs)(i:zs.length=n)(k:o.op=.load t (.global g):=by exact rfl):
  OpV P o env H (.agg (zs.map (A.int .i64))):=by
 intro f ro σ N a w r;obtain⟨l,d,_,m⟩:=Yg (P:=P) 0 (by simpa using Qi7 (ro:=ro) (σ:=σ) r.sim.roOk.gp hg 0);refine⟨.agg l.toArray,?_,l,rfl,d⟩;have j:a.eval (.global g)=.pointer (some ⟨g,0,none⟩):=rfl
 simp_all[execOp,Instr.loadAt,Instr.sureAddr,loadVar,loadCells]
end
open Go.Proofs
section
variable {P:Program}
def toV(agg:Bool)(l:List Value):Value:=bif agg then .agg l.toArray else l.headD .nilFunc
structure QeF (P:Program) (t:TypeId) (h k:Nat) (agg:Bool) (ok:List Value->Prop):Prop where
 len:∀l,ok l->l.length=k
 ia:∀w,(isAgg t).run P w=.ok agg w
 so:∀w,(sizeOf t).run P w=.ok k w
 eq:∀(w:World) (d:Nat) (l m:List Value),ok l->ok m->∃b:Bool,(Op.equalIn (d+h) t (toV agg l) (toV agg m)).run P w=.ok b w/\(b=true↔l=m)
structure QfZ (P:Program) (fs:List Field) (h off k:Nat) (ok:List Value->Prop):Prop where
 len:∀l,ok l->l.length=k
 eq:∀(w:World) (d:Nat) (p q l m:List Value),p.length=off->q.length=off->ok l->ok m->∃b:Bool,(Op.eqFields (d+h) (p++l).toArray (q++m).toArray fs).run P w=.ok b w/\(b=true↔l=m)
theorem QeF.int{t:TypeId}{k:IntKind}(a:P.underlying t=some (.int k))(e:∀w,(isAgg t).run P w=.ok false w)(f:∀w,(sizeOf t).run P w=.ok 1 w)(h:Nat):QeF P t (h+1) 1 false (λl=>∃n:Int,l=[.int k n]):=by
 refine⟨?_,e,f,?_⟩
 .simp
 .rintro w d _ _ ⟨n,rfl⟩ ⟨m,rfl⟩;exact⟨_,run_equalIn_int w (d+h) t k k n m a,by simp⟩
theorem QeF.bool{t:TypeId}(a:P.underlying t=some .bool)(e:∀w,(isAgg t).run P w=.ok false w)(f:∀w,(sizeOf t).run P w=.ok 1 w)(h:Nat):QeF P t (h+1) 1 false (λl=>∃n:Bool,l=[.bool n]):=by
 refine⟨?_,e,f,?_⟩
 .simp
 .rintro w d _ _ ⟨n,rfl⟩ ⟨m,rfl⟩;exact⟨_,run_equalIn_bool' w (d+h) t n m a,by simp⟩
theorem QfZ.nil(h a:Nat):QfZ P [] h a 0 (λl=>l=[]):=by
 refine⟨?_,?_⟩
 .simp
 simp_all[Op.eqFields]
theorem QeT{t:TypeId}{k:Nat}{agg:Bool}{w:World}(d:∀w,(isAgg t).run P w=.ok agg w)(h:∀w,(sizeOf t).run P w=.ok k w)(p a e:List Value)(f:a.length=k)(g:agg=false->k=1):
  (part t (p++(a++e)).toArray p.length).run P w=.ok (toV agg a) w:=by
 unfold part;cases agg with
 |true=>
  simp_all[toV]
 |false=>
  have:=g rfl;subst this
  match a,f with
  |[v],_=>simp[d,toV]
theorem QfZ.cons{f:Field}{fs:List Field}{h i n B:Nat}{agg:Bool}{k j:List Value->Prop}(W:Nat.beq f.offset i=true)(M:f.name≠"_")(g:QeF P f.type h n agg k)(u:agg=false->n=1)(x:QfZ P fs h (i+n) B j):
  QfZ P (f::fs) h i (n+B) (λl=>∃l1 l2,l=l1++l2/\k l1/\j l2):=by
 have t:f.offset=i:=(by simp_all);refine⟨?_,?_⟩
 .rintro _ ⟨l1,l2,rfl,a,b⟩;rw[XV,g.len _ a,x.len _ b]
 .rintro w d p q _ _ H J ⟨l1,l2,rfl,r,L⟩ ⟨m,E,rfl,s,O⟩;have F:=QeT (w:=w) g.ia g.so p l1 l2 (g.len _ r) u;have G:=QeT (w:=w) g.ia g.so q m E (g.len _ s) u;rw[H]at F;rw[J]at G;obtain⟨y,N,T⟩:=g.eq w d l1 m r s;obtain⟨Q,z,V⟩:=x.eq w d (p++l1) (q++m) l2 E (by rw[XV,H,g.len _ r]) (by rw[XV,J,g.len _ s]) L O;rw[Vb,Vb]at z;have R:l1.length=m.length:=by rw[g.len _ r,g.len _ s]
  refine⟨y&&Q,?_,?_⟩
  .cases y<;>simp[Op.eqFields,M,t,F,G,N,z]
  .rw[XP,T,V];constructor
   .grind
   .intro e;exact List.append_inj e R
theorem QeF.struct{t:TypeId}{h k:Nat}{ok:List Value->Prop}(p:P.underlying t=some (.struct (P.fieldsOf t)))(j:P.stoodInHeld t=false)(f:∀w,(isAgg t).run P w=.ok true w)(i:∀w,(sizeOf t).run P w=.ok k w)(e:QfZ P (P.fieldsOf t).toList h 0 k ok):QeF P t (h+1) k true ok:=by
 refine⟨e.len,f,i,λw d l m a b=>?_⟩;obtain⟨r,n,g⟩:=e.eq w d [] [] l m rfl rfl a b;refine⟨r,?_,g⟩;show(Op.equalIn (d+h+1) t (.agg l.toArray) (.agg m.toArray)).run P w=_
 grind[run_equalIn_agg]
theorem QaZ{t:TypeId}{h k:Nat}{fs:Array Field}{ok:List Value->Prop}(e:P.underlying t=some (.struct fs))(d:P.stoodInHeld t=false)(a:∀w,(isAgg t).run P w=.ok true w)(g:∀w,(sizeOf t).run P w=.ok k w)(f:QfZ P fs.toList h 0 k ok):QeF P t (h+1) k true ok:=by
 grind[Program.fieldsOf,QeF.struct]
structure EqD (P:Program) (t:TypeId) {α:Type} (cells:α->List A):Prop where
 scl:∀x,Qeb (cells x)=true
 inj:∀x y,Yt (cells x)=Yt (cells y)->x=y
 guard:P.eqGuardType P.depth t=false
 eq:∀(w:World) x y,∃b:Bool,(Op.equalIn 10000 t (.agg (Yt (cells x)).toArray) (.agg (Yt (cells y)).toArray)).run P w=.ok b w/\(b=true↔Yt (cells x)=Yt (cells y))
theorem QeG{α:Type}{cells:α->List A}{t h k:Nat}{ok:List Value->Prop}(E:QeF P t h k true ok)(e:Nat.ble h 10000=true)(a:∀x,ok (Yt (cells x)))(d:∀x,Qeb (cells x)=true)(hi:∀x y,Yt (cells x)=Yt (cells y)->x=y)(hg:P.eqGuardType P.depth t=false):EqD P t cells:=by
 refine⟨d,hi,hg,λw x y=>?_⟩;have:=E.eq w (10000-h) (Yt (cells x)) (Yt (cells y)) (a x) (a y)
 rwa [show 10000-h+h=10000 by simp_all]at this
variable {o:Oper} {env:Env} {H:Qc}
theorem Qbp{α:Type}[DecidableEq α]{cells:α->List A}{t u:TypeId}{x y:Operand}{p q:α}(E:EqD P t cells)(i:opA env x=.agg (cells p))(z:opA env y=.agg (cells q))(n:o.op=.binOp .eql t x y u:=by exact rfl):OpV P o env H (.bool (p==q)):=by
 intro B F σ N a w r;have g:=Ql r x;have h:=Ql r y;rw[i]at g;rw[z]at h;have l:=VR.val (a:=.agg (cells p)) (E.scl p) g;have m:=VR.val (a:=.agg (cells q)) (E.scl q) h;obtain⟨b,k,j⟩:=E.eq w p q;have s:b=(p==q):=by
  rw[XR,j,beq_iff_eq];exact⟨E.inj p q,λe=>by rw[e]⟩
 refine⟨.bool (p==q),?_,rfl⟩;rw[<- s];generalize a.eval=ρ at*;have d:ρ x=.agg (Yt (cells p)).toArray:=l;have f:ρ y=.agg (Yt (cells q)).toArray:=m;simp[n,d,f,go_sem,run_eqGuard_agg _ _ _ _ _ _ _ E.guard,k]
theorem Qg9{α:Type}[DecidableEq α]{cells:α->List A}{t u:TypeId}{x y:Operand}{p q:α}(E:EqD P t cells)(i:opA env x=.agg (cells p))(z:opA env y=.agg (cells q))(n:o.op=.binOp .neq t x y u:=by exact rfl):OpV P o env H (.bool (p != q)):=by
 intro B F σ N a w r;have g:=Ql r x;have h:=Ql r y;rw[i]at g;rw[z]at h;have l:=VR.val (a:=.agg (cells p)) (E.scl p) g;have m:=VR.val (a:=.agg (cells q)) (E.scl q) h;obtain⟨b,k,j⟩:=E.eq w p q;have s:b=(p==q):=by
  rw[XR,j,beq_iff_eq];exact⟨E.inj p q,λe=>by rw[e]⟩
 refine⟨.bool (p != q),?_,rfl⟩;rw[bne, <- s];generalize a.eval=ρ at*;have d:ρ x=.agg (Yt (cells p)).toArray:=l;have f:ρ y=.agg (Yt (cells q)).toArray:=m;simp[n,d,f,go_sem,run_eqGuard_agg _ _ _ _ _ _ _ E.guard,k]
end
end Go.Sw
namespace Go.Sw
structure Qdo (g g':Nat->Prop) (W W':World):Prop where
 sub:∀b,g b->g' b
 new:∀b,g' b->g b\/W.heap.size<=b
 lt:∀b,g' b->b<W'.heap.size
 all:∀b,W.heap.size<=b->b<W'.heap.size->g' b
 keep:∀b,b<W.heap.size->¬g b->W'.heap[b]?=W.heap[b]?
 size:W.heap.size<=W'.heap.size
 shape:∀b x,W.shape? b=some x->W'.shape? b=some x
 os:W'.os=W.os
 tape:W'.tape=W.tape
 output:W'.output=W.output
 drawn:W.drawn<=W'.drawn
abbrev Jv(T:Type):=List T->(Nat->Prop)->(Nat->Prop)->World->Prop
structure Qji {T:Type} (J:Jv T):Prop where
 ev:∀rem q g W W' ro',J rem q g W->Qj g q W ro' W'->J rem q g W'
 up:∀rem q g g' W,J rem q g W->(∀b,g b->g' b)->(∀b,g' b->b<W.heap.size)->J rem q g' W
theorem Sim.round{fr g g' ro:Nat->Prop}{σ:Sig}{H:Qc}{W W':World}(s:Sim fr ro σ H W)(a:∀b,g b->fr b)(k:Qdo g g' W W'):Sim (λb=>fr b\/g' b) ro σ H W'/\Qj (λb=>b<W.heap.size/\ ¬g b) ro W ro W':=by
 have hro:=λb q=>k.keep b (s.roLt b q) (λr=>s.roFr b q (a b r));have h:Ext ro σ W ro σ W':=by
  have ev:Qj (λ_=>False) ro W ro W':=⟨λ_ q=>q,hro,λ_ q=>q.elim,k.size,k.shape,k.os,k.tape,k.output,k.drawn⟩;have:=ev.ext σ []
  grind
 refine⟨⟨s.len,s.roOk.to (λ_ q=>q) hro (λb q=>X8 (s.roLt b q) k.size),λb q=>q.elim (λq=>X8 (s.frLt b q) k.size) (k.lt b),λb q r=>?_,λi b x e f p=>?_,s.inj,λi y x e f=>?_,
  s.hidTo (· = ·) QU k.size (by simp) (λi b x c e f p E=>E.elim id λq=>(k.new c q).elim (a c) λl=>(by have:=(s.hid i b x c e f p).lt;omega)) λj d y m n F=>.inl ⟨j,y,rfl,m,n,id,λc q=>s.hidKeep m n (λz=>k.keep d (s.own j d y m n z).1 λr=>(s.own j d y m n z).2.2 (a d r)) hro q⟩⟩,
  ⟨λ_ q=>q,hro,λb q=>k.keep b q.1 q.2,k.size,k.shape,k.os,k.tape,k.output,k.drawn⟩⟩
 .rcases r with r|r
  .exact s.roFr b q r
  .rcases k.new b r with l|l
   .exact s.roFr b q (a b l)
   .have:=s.roLt b q;omega
 .obtain⟨w,B,u⟩:=s.own i b x e f p;refine⟨X8 w k.size,B,λr=>?_⟩;rcases r with r|r
  .exact u r
  .rcases k.new b r with l|l
   .grind
   .omega
 .refine(s.blk i y x e f).keep h ?_ ?_
  .rintro b rfl t;obtain⟨w,B,u⟩:=s.own i b x e f t;exact k.keep b w (λr=>u (a b r))
  .rintro b c rfl t;have q:=s.hid i b x c e f t;exact k.keep c q.lt (λr=>q.fr (a c r))
def QjI{T:Type}(J Jx:Jv T)(g ri:Nat->Prop)(W1:World)(rem:List T):Ending->World->Prop:=λe W'=>
 ∃g' q',(∀b,q' b->ri b)/\Qdo g g' W1 W'/\((e=.returned (.bool true)/\J rem q' g' W')\/(e=.returned (.bool false)/\Jx rem q' g' W'))
structure Ctx (T:Type) where
 l:Nat
 J:Jv T
 Jx:Jv T
 enc:T->List A
 nx:List T->T->List T->Prop
structure Ctx.ok {T:Type} (X:Ctx T) (P:Program):Prop where
 b:Qji X.J
 bx:Qji X.Jx
 round:∀l x rem q g ri W1 vs,X.nx l x rem->X.J l q g W1->(∀b,q b->ri b)->(∀b,ri b->b<W1.heap.size/\ ¬g b)->LR ri [] W1 (X.enc x) vs->YieldAt Fence.wide 0 P X.l vs.toArray W1 (QjI X.J X.Jx g ri W1 rem)
def QgZ{T:Type}(P:Program)(f:FuncId)(caps:List A)(H:Qc)(enc:T->List A)(nx:List T->T->List T->Prop)(xs:List T):Prop:=
 ∀(X:Ctx T),X.enc=enc->X.nx=nx->X.ok P->∀fr ro σ w capv q,Sim fr ro σ H w->(∀b,q b->ro b)->LR ro σ w caps capv->X.J xs q fr w->
  Calls P f ((Value.func (.yield X.l) #[] #[]::capv)).toArray w λe W'=>(∃v,e=.returned v)/\ ∃g q',(∀b,fr b->g b)/\((X.J [] q' g W')\/(∃rem,X.Jx rem q' g W'))
inductive YSt (T:Type) where
 |on (rem:List T)
 |off (rem:List T)
def Ctx.J'{T:Type}(X:Ctx T):YSt T->(Nat->Prop)->(Nat->Prop)->World->Prop
 |.on rem=>X.J rem
 |.off rem=>X.Jx rem
def Ctx.at{T:Type}(X:Ctx T)(st:YSt T)(g ro:Nat->Prop)(W:World):Prop:=∃q,(∀b,q b->ro b)/\X.J' st q g W
theorem Qj.roMono{fr ro ro0 ro':Nat->Prop}{w w':World}(h:Qj fr ro w ro' w')(s:∀b,ro0 b->ro b):Qj fr ro0 w ro' w':=
 ⟨λb q=>h.sub b (s b q),λb q=>h.keepRo b (s b q),h.keepFr,h.size,h.shape,h.os,h.tape,h.output,h.drawn⟩
theorem Ctx.ok.ev{T:Type}{X:Ctx T}{P:Program}(h:X.ok P){e:YSt T}{g ro a:Nat->Prop}{W W':World}(d:X.at e g ro W)(he:Qj g ro W a W'):X.at e g a W':=by
 obtain⟨q,f,d⟩:=d;refine⟨q,λb z=>he.sub b (f b z),?_⟩;cases e with
 |on rem=>exact h.b.ev rem q g W W' a d (he.roMono f)
 |off rem=>exact h.bx.ev rem q g W W' a d (he.roMono f)
theorem Ctx.ok.up{T:Type}{X:Ctx T}{P:Program}(h:X.ok P){d:YSt T}{g g' ro:Nat->Prop}{W:World}(a:X.at d g ro W)(hg:∀b,g b->g' b)(e:∀b,g' b->b<W.heap.size):X.at d g' ro W:=by
 obtain⟨q,f,a⟩:=a;refine⟨q,f,?_⟩;cases d with
 |on rem=>exact h.b.up rem q g g' W a hg e
 |off rem=>exact h.bx.up rem q g g' W a hg e
abbrev Yk(T:Type):=AEx->Env->Qc->YSt T->Prop
structure In (g fr:Nat->Prop) (ds:List Deferred):Prop where
 sub:∀b,g b->fr b
 beside:∀D,({target:=.collected D,args:= #[]}:Deferred)∈ds->¬g D
def Qb0{T:Type}(X:Ctx T)(h0:Nat)(fr ro:Nat->Prop)(σ:Sig)(w:World)(N:Nat)(ds:List Deferred)(Q:Yk T):Exit->Act->World->Prop:=
 λe a' w'=>∃x env' H' st ro' σ' fr' g',ExR e x/\Q x env' H' st/\Rel fr' ro' σ' H' env' N a' w'/\(X.at st g' ro' w'/\In g' fr' a'.defers)/\(∀b,ro b->ro' b)/\w.heap.size<=w'.heap.size/\σ'.take h0=σ.take h0/\Grow fr w ds fr' a'.defers
theorem Qb0.grow{T:Type}{X:Ctx T}{i:Nat}{fr f ro a:Nat->Prop}{σ σ1:Sig}{w n:World}{N:Nat}{l d:List Deferred}{Q:Yk T}{e:Exit}{a':Act}{w':World}
  (h:Qb0 X i f a σ1 n N d Q e a' w')(F:∀b,ro b->a b)(m:w.heap.size<=n.heap.size)(p:σ1.take i=σ.take i)(hg:Grow fr w l f d):Qb0 X i fr ro σ w N l Q e a' w':=by
 obtain⟨x,g,H',q,j,σ',k,B,y,r,u,t,G,z,s,E⟩:=h;exact⟨x,g,H',q,j,σ',k,B,y,r,u,t,(by grind),XO m z,s.trans p,hg.trans m E⟩
def TCy{T:Type}(X:Ctx T)(P:Program)(h0 N:Nat)(c:Code)(env:Env)(H:Qc)(st:YSt T)(Q:Yk T):Prop:=
 X.ok P->∀rd fr ro σ a w g,Rel fr ro σ H env N a w->X.at st g ro w/\In g fr a.defers->rd=none->c.wpIn (WF rd) 0 P (Qb0 X h0 fr ro σ w N a.defers Q) a w
def WOy{T:Type}(X:Ctx T)(P:Program)(h0 N:Nat)(all:Array Oper)(l:List Oper)(env:Env)(H:Qc)(st:YSt T)(Q:Yk T):Prop:=
 X.ok P->∀rd fr ro σ a w g,Rel fr ro σ H env N a w->X.at st g ro w/\In g fr a.defers->rd=none->wpL P rd all (Qb0 X h0 fr ro σ w N a.defers Q) l a w
theorem In.later{fr fr' g:Nat->Prop}{w:World}{ds a:List Deferred}(h:In g fr ds)(d:∀b,fr b->b<w.heap.size)(hg:Grow fr w ds fr' a):In g fr' a:=by
 refine⟨λb q=>hg.sub b (h.sub b q),λD hD q=>?_⟩;rcases hg.ds _ hD with r|⟨D',e,r⟩
 .exact h.beside D r q
 .have:=by simpa using e
  have:=d D (h.sub D q);omega
section
variable {T:Type} {X:Ctx T} {P:Program} {h0 N:Nat} {c c':Code} {env:Env} {H:Qc} {st:YSt T} {Q:Yk T}
theorem Qg2{fr ro:Nat->Prop}{σ:Sig}{w:World}{f:List Deferred}{e:Exit}{a':Act}{w':World}(s:X.ok P)(h:Qan h0 fr ro σ w N f (λx env H=>Q x env H st) e a' w'){g:Nat->Prop}(q:∀b,fr b->b<w.heap.size)(k:X.at st g ro w/\In g fr f):
  Qb0 X h0 fr ro σ w N f Q e a' w':=by
 obtain⟨x,a,H',i,σ',j,p,r,n,d,m,l⟩:=h;exact⟨x,a,H',st,i,σ',j,g,p,r,n,⟨s.ev k.1 (d.frMono k.2.sub),k.2.later q l⟩,d.sub,d.size,m,l⟩
theorem TCy.lift(h:TC P h0 N c env H (λx env H=>Q x env H st)):TCy X P h0 N c env H st Q:=
 λhX rd fr ro σ a w g r hj hrd=>Code.wpIn_mono (λe a' w' q=>Qg2 hX q r.sim.frLt hj) (h rd fr ro σ a w r (hrd▸Qav))
def SeqY(X:Ctx T)(P:Program)(h0 N:Nat)(c:Code)(Q:Yk T):Yk T
 |.normal,env,H,st=>TCy X P h0 N c env H st Q
 |.exit id,env,H,st=>Q (.exit id) env H st
 |.ret,env,H,st=>Q .ret env H st
theorem TCy.seq(h:TCy X P h0 N c env H st (SeqY X P h0 N c' Q)):TCy X P h0 N (.seq c c') env H st Q:=by
 intro B z E G σ a w g r hj hrd;refine wpIn_seq (Code.wpIn_mono ?_ (h B z E G σ a w g r hj hrd));rintro e J F ⟨x,d,H',j,i,σ',f,u,k,s,t,m,n,p,l,y⟩;cases e with
 |normal=>
  obtain rfl:x=.normal:=k;exact Code.wpIn_mono (λe a w q=>q.grow n p l y) (s B z f i σ' J F u t m hrd)
 |exit id=>
  obtain rfl:x=.exit id:=k;exact⟨_,d,H',j,i,σ',f,u,rfl,s,t,m,n,p,l,y⟩
 |ret=>
  obtain rfl:x=.ret:=k;exact⟨_,d,H',j,i,σ',f,u,rfl,s,t,m,n,p,l,y⟩
 |_=>exact k.elim
theorem TCy.region{id:Nat}{l:List Oper}(h:WOy X P h0 N l.toArray l env H st Q):TCy X P h0 N (.region id l.toArray false) env H st Q:=
 λhX rd fr ro σ a w g r hj hrd=>wpIn_region_lit (h hX rd fr ro σ a w g r hj hrd)
theorem TCy.cond{x:Operand}{t:Bool}(k:opA env x=.bool t)(l:t=true->TCy X P h0 N c env H st Q)(m:t=false->TCy X P h0 N c' env H st Q):TCy X P h0 N (.cond x c c') env H st Q:=by
 intro j i d h σ a w g r hj hrd;have f:=Ql r x;rw[k]at f;exact wpIn_cond_split f (λe=>l e j i d h σ a w g r hj hrd) (λe=>m e j i d h σ a w g r hj hrd)
theorem WOy.nil{all:Array Oper}(h:Q .normal env H st):WOy X P h0 N all [] env H st Q:=
 λhX rd fr ro σ a w g r hj hrd=>⟨_,env,H,st,ro,σ,fr,g,rfl,h,r,hj,λ_ q=>q,XM _,rfl,Grow.refl _ _ _⟩
end
theorem Qfv{P:Program}{rd:Option Nat}{o:Oper}{a:Act}{K K':Act->World->Prop}{Q Q':Exit->Act->World->Prop}(i:∀a w,K a w->K' a w)(p:∀ch a w,Q (.panic ch) a w->Q' (.panic ch) a w)(n:∀a w,Q .outgrown a w->Q' .outgrown a w)
  {r:Result Next}(h:o.uponIn (WF rd) 0 P a K Q r):o.uponIn (WF rd) 0 P a K' Q' r:=by
 cases r with
 |ok x w=>
  cases x with
  |value v=>exact i _ _ h
  |skip=>exact i _ _ h
  |defer d=>exact i _ _ h
  |enter f g=>
   refine⟨h.1,CallsIn.mono h.2 ?_⟩;intro e j q;cases e with
   |returned v=>grind
   |panicked c=>grind
   |outgrown=>obtain⟨a,w,q⟩:=q;exact⟨a,w,n _ _ q⟩
  |row r g=>exact⟨h.1,RowsIn.mono h.2 λv j q=>i _ _ q⟩
  |round l f m assign k=>
   refine⟨h.1,RoundIn.mono h.2 ?_⟩;intro e j q;cases e with
   |returned v=>grind
   |panicked c=>grind
   |outgrown=>obtain⟨a,w,q⟩:=q;exact⟨a,w,n _ _ q⟩
  |_=>exact h
 |halt x w=>
  cases x with
  |panic v=>exact p _ _ _ h
  |_=>exact h
section
variable {T:Type} {X:Ctx T} {P:Program} {h0 N:Nat} {env:Env} {H:Qc} {st:YSt T} {Q:Yk T}
theorem WOy.step{all:Array Oper}{o:Oper}{rest:List Oper}(h:WO P h0 N all [o] env H (λx env' H'=>x=.normal/\WOy X P h0 N all rest env' H' st Q)):WOy X P h0 N all (o::rest) env H st Q:=by
 intro y s m u σ a w g r hj hrd;have L:∀i f,Qa7 h0 m u σ w N a.defers (λx env' H'=>x=.normal/\WOy X P h0 N all rest env' H' st Q) .normal i f->wpL P s all (Qb0 X h0 m u σ w N a.defers Q) rest i f:=by
  rintro i f ⟨x,env',H',j,σ',d,M,⟨_,F⟩,G,t,E,J,B⟩;have p:X.at st g j f/\In g d i.defers:=⟨y.ev hj.1 (t.frMono hj.2.sub),by rw[J];exact hj.2.later r.sim.frLt B⟩;have:=F y s d j σ' i f g G p hrd;exact Q1 (λe n l q=>(q.grow t.sub t.size E (by grind))) _ _ _ this
 have k:=h s m u σ a w r (hrd▸Qav);unfold wpL wpListIn at k⊢;split
 .rename_i z;rw[Vk z]at k;refine⟨k.1,Qfv (λn l q=>?_) (λO n l q=>?_) (λn l q=>?_) k.2⟩
  .unfold wpListIn at q
   grind
  .obtain⟨x,_,_,_,_,_,q,_⟩:=q;exact q.elim
  .obtain⟨x,_,_,_,_,_,q,_⟩:=q;exact q.elim
 simp_all[wpListIn]
theorem WOy.yield{all:Array Oper}{o:Oper}{rest:List Oper}{d:Nat}{x:T}{F rem:List T}(G:X.nx F x rem)(hg:Qt all o env true)(E:o.dst=some d)(hN:Nat.blt d N=true)
  (B:∀fr ro σ a w,Rel fr ro σ H env N a w->∃vs:List Value,LR ro [] w (X.enc x) vs/\(execOp a.eval o).run P w=(Instr.yield X.l vs.toArray).run P w)
  (k:∀b,WOy X P h0 N all rest (up env d (.bool b)) H (bif b then .on rem else .off rem) Q):WOy X P h0 N all (o::rest) env H (.on F) Q:=by
 intro O M fr ro σ a w g r hj hrd;obtain⟨vs,Y,he⟩:=B fr ro σ a w r;obtain⟨q,hq,J⟩:=hj.1;obtain⟨fn,tmps,assign,L,W,h2⟩:=O.round F x rem q g ro w vs G J hq (λb z=>⟨r.sim.roLt b z,λy=>r.sim.roFr b z (hj.2.sub b y)⟩) Y;have h3:=he.trans W;unfold wpL wpListIn;rw[Vk (Yo hg r)];refine⟨λ_ _=>trivial,?_⟩;rw[QbO h3 (λd e=>by cases e)];refine⟨λh=>by simp[WF,Fence.wide]at h,(RoundIn.mono h2 ?_)⟩;rintro e i ⟨j,t,m,p,f⟩;obtain⟨s',ev⟩:=r.sim.round hj.2.sub p;have u:d<N:=by simp_all
 have n:Ext ro σ w ro σ i:=by have:=ev.ext σ [];grind
 have fin:∀b,X.at (bif b then .on rem else .off rem) j ro i->wpL P M all (Qb0 X h0 fr ro σ w N a.defers Q) rest (a.put o.dst (.bool b)) i:=by
  intro b f;have R:QaN (λb=>fr b\/j b) a.defers i:=r.defers.to λD E q1 q2=>⟨.inl q1,(p.keep D (r.sim.frLt D q1) (hj.2.beside D E)).trans q2⟩;have hi:In j (λb=>fr b\/j b) a.defers:=by
   refine⟨λb q=>.inr q,λD hD q=>?_⟩;rcases p.new D q with t|t
   .exact hj.2.beside D hD t
   .have:=r.sim.frLt D (r.defers.mark hD).1;omega
  have V:Rel (λb=>fr b\/j b) ro σ H (up env d (.bool b)) N {a with tmps:=a.tmps.setIfInBounds d (.bool b)} i:=
   ⟨s',VR.up (fr:=fr) (λs=>(r.env s).mono n) (by rw[r.size];exact u) rfl,by simpa using r.size,R⟩
  have:=k b O M _ ro σ _ i j V ⟨f,hi⟩ hrd;simp[E];refine Q1 (λe a2 w2 q=>q.grow (λ_ q=>q) p.size rfl ⟨λ_ q=>.inl q,λb q=>?_,λ_ q=>q,λ_ q=>.inl q⟩) _ _ _ this;rcases q with q|q
  .exact .inl q
  .rcases p.new b q with q|q
   .exact .inl (hj.2.sub b q)
   omega
 rcases f with⟨rfl,f⟩|⟨rfl,f⟩
 .exact fin true ⟨t,m,f⟩
 .exact fin false ⟨t,m,f⟩
end
def EndY{T:Type}:Yk T:=λx env H st=>(x=.normal\/x=.ret)/\(st=.on []\/ ∃rem,st=.off rem)
theorem Qeu{T:Type}{P:Program}{f:FuncId}{fn:Func}{c:Code}{N:Nat}{caps:List A}{H:Qc}{enc:T->List A}{nx:List T->T->List T->Prop}{xs:List T}
  (hf:P.funcs[f]?=some fn)(hb:fn.body=some c)(hN:fn.ntmps=N)(hA:Nat.ble (caps.length+1) N=true)(R:fn.results= #[])
  (h:∀X,X.enc=enc->X.nx=nx->TCy X P H.length N c (Qa4 0 (.fn (.yield X.l) [] []::caps)) H (.on xs) EndY):QgZ P f caps H enc nx xs:=by
 intro X hE hNx hX fr ro0 σ w capv q0 hs hq0 hl hj;have m:LR ro0 σ w (.fn (.yield X.l) [] []::caps) (Value.func (.yield X.l) #[] #[]::capv):=⟨_,_,rfl,⟨[],[],rfl,rfl,rfl⟩,hl⟩;have O:=m.length;have ab:caps.length+1<=N:=by simp_all
 refine(callsIn_wide).1 (callsIn_of_wp_marks hf hb trivial (Code.wpIn_mono ?_ (h X hE hNx hX none fr ro0 σ _ w fr ⟨hs,?_,?_,List.nodup_nil,λd n=>by cases n⟩ ⟨⟨q0,hq0,hj⟩,λ_ q=>q,λD hD=>by cases hD⟩ rfl)))
 .rintro e z M ⟨x,L,H1,st,aa,σ1,W,G,F,⟨h2,u⟩,j,⟨Y,a⟩,h5,h6,h7,Q⟩;have p:LeavesInM Fence.wide 0 P fn z.tmps (λe W'=>(∃v,e=.returned v)/\ ∃g q',(∀b,fr b->g b)/\((X.J [] q' g W')\/(∃rem,X.Jx rem q' g W'))) z.defers .returning M:=by
   refine YU z.defers M j.defers.1 (λd n=>?_) (j.sim.frMono a.sub) (λw2 s2 k=>?_)
   .obtain⟨D,rfl,_⟩:=(Q.ds d n).resolve_left (by simp);obtain⟨y,q2⟩:=j.defers.mark n;exact⟨D,rfl,λq=>j.sim.roFr D q y,a.beside D n,λi x B E t=>(j.sim.own i D x B E t).2.2 y,λi d x B E t=>(j.sim.hid i d x D B E t).fr y,q2⟩
   .have r:=hX.up (hX.ev Y k) (g':=λb=>G b\/fr b) (λb q=>.inl q) (λb q=>X8 (j.sim.frLt b (q.elim (a.sub b) (Q.sub b))) k.size);obtain⟨V,_,r⟩:=r;refine⟨.tuple #[],by simp[results,R],⟨_,rfl⟩,λb=>G b\/fr b,V,λb q=>.inr q,?_⟩;rcases u with rfl|⟨rem,rfl⟩
    .exact .inl r
    .exact .inr ⟨rem,r⟩
  cases e with
  |normal=>exact p
  |ret=>exact p
  |exit id=>
   obtain rfl:x=.exit id:=F
   grind
  |_=>exact F.elim
 .intro s;have:=Qbg [] rfl m (Array.replicate (fn.ntmps-(Value.func (.yield X.l) #[] #[]::capv).toArray.size) undef) s
  grind
 grind
section
variable {T:Type} {X:Ctx T} {P:Program} {h0 N:Nat} {c c':Code} {env:Env} {H:Qc} {st:YSt T} {Q Q':Yk T}
theorem TCy.mono(h:TCy X P h0 N c env H st Q)(m:∀x env H st,Q x env H st->Q' x env H st):TCy X P h0 N c env H st Q':=by
 intro u q k p σ a w g r hj hrd;refine Code.wpIn_mono ?_ (h u q k p σ a w g r hj hrd);rintro e y z ⟨x,d,H',j,f,σ',i,t,n,s,l⟩;exact⟨x,d,H',j,f,σ',i,t,n,m _ _ _ _ s,l⟩
theorem TCy.skip(h:Q .normal env H st):TCy X P h0 N .skip env H st Q:=TCy.lift (TC.skip h)
theorem TCy.ret(h:Q .ret env H st):TCy X P h0 N .ret env H st Q:=TCy.lift (TC.ret h)
theorem TCy.exit{id:Nat}(h:Q (.exit id) env H st):TCy X P h0 N (.exit id) env H st Q:=TCy.lift (TC.exit h)
def BloY(id:Nat)(Q:Yk T):Yk T
 |.normal,env,H,st=>Q .normal env H st
 |.exit id',env,H,st=>bif Nat.beq id' id then Q .normal env H st else Q (.exit id') env H st
 |.ret,env,H,st=>Q .ret env H st
theorem TCy.block{id:Nat}(h:TCy X P h0 N c env H st (BloY id Q)):TCy X P h0 N (.block id c) env H st Q:=by
 intro z u s t σ a w g r hj hrd;refine wpIn_block (Code.wpIn_mono ?_ (h z u s t σ a w g r hj hrd));rintro e E B ⟨x,d,H',k,i,σ',j,m,p,l,n⟩;cases e with
 |normal=>
  obtain rfl:x=.normal:=p;exact⟨_,d,H',k,i,σ',j,m,rfl,l,n⟩
 |exit f=>
  obtain rfl:x=.exit f:=p;unfold Exit.inBlock;simp only[BloY]at l;by_cases q:f=id
  .subst q;rw[Vq,Vh]at l;simp;exact⟨.normal,d,H',k,i,σ',j,m,rfl,l,n⟩
  .have y:Nat.beq f id=false:=by
    cases e:Nat.beq f id with
    |false=>rfl
    |true=>simp_all
   rw[y,Vi]at l;simp[q];exact⟨.exit f,d,H',k,i,σ',j,m,rfl,l,n⟩
 |ret=>
  obtain rfl:x=.ret:=p;exact⟨_,d,H',k,i,σ',j,m,rfl,l,n⟩
 |_=>exact p.elim
end
section
variable {T:Type} {X:Ctx T} {P:Program} {h0 N:Nat} {c:Code} {env:Env} {H:Qc} {st:YSt T} {Q:Yk T}
def Qhe(I:Env->Qc->YSt T->Prop)(Q:Yk T):Yk T
 |.normal,env,H,st=>I env H st
 |.exit id,env,H,st=>Q (.exit id) env H st
 |.ret,env,H,st=>Q .ret env H st
theorem QgW{I:Nat->Env->Qc->YSt T->Prop}(body:∀n env H st,I n env H st->TCy X P h0 N c env H st (Qhe (λenv H st=>∃n',n'<n/\I n' env H st) Q)){n:Nat}(F:I n env H st):TCy X P h0 N (.loop c) env H st Q:=by
 intro hX O y B σ a w g r hj hrd b k cs hro hb hr;have J:∀m n env H st fr1 ro1 σ1 a1 w1 g1,n<m->I n env H st->Rel fr1 ro1 σ1 H env N a1 w1->(∀b,B b->ro1 b)->w.heap.size<=w1.heap.size->σ1.take h0=σ.take h0->Grow y w a.defers fr1 a1.defers->X.at st g1 ro1 w1/\In g1 fr1 a1.defers->
   ∃e i h,Qb0 X h0 y B σ w N a.defers Q e i h/\ArrivesIn (Machine.fenced P (WF O)) P (lone (b.atR a1 (.code c::.inLoop c::k)) cs w1) b k cs e i h:=by
  intro m
  induction m with
  |zero=>omega
  |succ m ih=>
   intro n env H st fr1 ro1 σ1 a1 w1 g1 hn F r1 s1 z1 t1 gr1 j1;obtain⟨e,i,h,G,d⟩:=body n env H st F hX O fr1 ro1 σ1 a1 w1 g1 r1 j1 hrd b (.inLoop c::k) cs hro hb hr;obtain⟨x,f,H',l,u,σ',s,g',z,t,V,W,q5,L,R,q8⟩:=G;have M:=λb q=>q5 b (s1 b q);have p:=gr1.trans z1 q8;have Y:∀x,Q x f H' l->ExR e x->Qb0 X h0 y B σ w N a.defers Q e i h:=λx q q'=>⟨x,f,H',l,u,σ',s,g',q',q,V,W,M,XO z1 L,R.trans t1,p⟩;cases e with
   |normal=>
    obtain rfl:x=.normal:=z;obtain⟨n',aa,t⟩:=t;obtain⟨e2,a2,w2,E,j⟩:=ih n' f H' l s u σ' i h g' (by omega) t V M (XO z1 L) (R.trans t1) p W;exact⟨e2,a2,w2,E,.of_steps (StepsIn.trans d (.one (fenced_calm hb hr rfl) stepR_inLoop)) j⟩
   |exit id=>
    obtain rfl:x=.exit id:=z;exact⟨_,i,h,Y _ t rfl,.pass rfl (λ_ _=>.inl (by simp)) d⟩
   |ret=>
    obtain rfl:x=.ret:=z;exact⟨_,i,h,Y _ t rfl,.pass rfl (λ_ _=>.inl (by simp)) d⟩
   |_=>exact z.elim
 obtain⟨e,i,h,G,d⟩:=J (n+1) n env H st y B σ a w g (Xk _) F r (λ_ q=>q) (XM _) rfl (Grow.refl _ _ _) hj;exact⟨e,i,h,G,.of_steps (.one (fenced_calm hb hr rfl) stepR_loop) d⟩
end
theorem Sim.part{fr ro:Nat->Prop}{σ:Sig}{H:Qc}{w:World}(g:Sim fr ro σ H w){π:List Nat}{Hc:Qc}(W:π.map (λp=>H[p]?)=(Hc.map (QK (rho π H.length))).map some)(hπ:π.Nodup):
  Sim (λb=>fr b\/(∃i x,σ[i]?=some (some b)/\H[i]?=some x/\x.live=true/\i∉π)\/ ∃i x d,σ[i]?=some (some d)/\H[i]?=some x/\Hid w x d b/\i∉π) ro (Q2 σ π) Hc w/\ ∀j:Nat,σ[rho π H.length j]?=(Q2 σ π)[j]? :=by
 have hp:∀p∈π,p<H.length:=λp q=>YI W q;have hσl:=g.len;have m:∀(j p:Nat),π[j]?=some p->H[p]?=(Hc[j]?).map (QK (rho π H.length)):=by
  intro j p n;have:=congrArg (λl=>l[j]?) W
  grind
 have N:π.length=Hc.length:=by simpa using congrArg List.length W
 have hσc:∀j:Nat,σ[rho π H.length j]?=(Q2 σ π)[j]? :=by
  intro j;have:=QcI (τ:=[]) hσl hp j
  grind
 have hπj:∀(j b:Nat),(Q2 σ π)[j]?=some (some b)->∃p,π[j]?=some p/\σ[p]?=some (some b):=by
  intro j b n;simp only[Q2,Xl]at n
  grind
 refine⟨?_,hσc⟩
 .refine⟨by simp[Q2,N],g.roOk,?_,?_,?_,?_,?_,?_⟩
  .rintro b (L|⟨i,x,a,h,f,O⟩|⟨i,x,d,a,h,f,O⟩)
   .exact g.frLt b L
   .exact(g.own i b x a h f).1
   .exact(g.hid i d x b a h f).lt
  .rintro b L (P|⟨i,x,a,h,f,O⟩|⟨i,x,d,a,h,f,O⟩)
   .exact g.roFr b L P
   .exact(g.own i b x a h f).2.1 L
   .exact(g.hid i d x b a h f).ro L
  .intro j b x a h f;obtain⟨p,e,E⟩:=hπj j b a;have z:H[p]?=some (QK (rho π H.length) x):=by grind
   obtain⟨o1,o2,o3⟩:=g.own p b _ E z (by rw[Qz];exact f);refine⟨o1,o2,?_⟩;rintro(P|⟨i,y,y1,y2,F,Q⟩|⟨i,y,d,y1,y2,F,Q⟩)
   .exact o3 P
   .have:=g.inj i p b _ _ y1 E y2 z F (by rw[Qz];exact f)
    grind
   .exact(g.hid i d y b y1 y2 F).ne p b _ E z (by rw[Qz];exact f) rfl
  .intro i j b x y a h f O q5 q6;obtain⟨p,e,E⟩:=hπj i b a;obtain⟨u,r,aa⟩:=hπj j b h;have z:H[p]?=some (QK (rho π H.length) x):=by rw[m i p e,f];rfl
   have Y:H[u]?=some (QK (rho π H.length) y):=by rw[m j u r,O];rfl
   have:=g.inj p u b _ _ E aa z Y (by rw[Qz];exact q5) (by rw[Qz];exact q6);subst this;have G:i<π.length:=by
    rcases Vn i π.length with q|q
    .exact q
    .rw[XI q]at e;simp at e
   have n:j<π.length:=by
    rcases Vn j π.length with q|q
    .exact q
    .rw[XI q]at r;simp at r
   rw[XE G]at e;rw[XE n]at r;have t:=(XS e).trans (XS r).symm;rcases Nat.lt_trichotomy i j with q|q|q
   .exact(Vp.1 hπ i j G n q t).elim
   .exact q
   .exact(Vp.1 hπ j i n G q t.symm).elim
  .intro j s x a h;have n:j<π.length:=by
    rcases Vn j π.length with q|q
    .exact q
    .rw[XI (by simpa[Q2]using q)]at a;simp at a
   have e:π[j]?=some π[j]:=XE n;have z:H[π[j]]?=some (QK (rho π H.length) x):=by rw[m j _ e,h];rfl
   have E:σ[π[j]]?=some s:=by
    have:=hσc j;rw[a]at this;simpa[rho,e]using this
   exact(QeL hσc).1 (g.blk _ s _ E z)
  .intro j b x c a h f;obtain⟨p,e,E⟩:=hπj j b a;have z:H[p]?=some (QK (rho π H.length) x):=by rw[m j p e,h];rfl
   have k:=g.hid p b _ c E z ((Qah _ _ _ _ _).2 f);refine⟨k.lt,k.ro,?_,?_,?_⟩
   .rintro(P|⟨i,y,y1,y2,F,Q⟩|⟨i,y,d,y1,y2,F,Q⟩)
    .exact k.fr P
    .exact k.ne i c y y1 y2 F rfl
    .obtain⟨rfl,rfl⟩:=k.one i d y y1 y2 F;exact Q (Vs e)
   .intro B M y R V X;obtain⟨u,J,T⟩:=hπj B M R;exact k.ne u M _ T (show H[u]?=some (QK (rho π H.length) y)by rw[m B u J,V];rfl) (by rw[Qz];exact X)
   .intro B M y R V X;obtain⟨u,J,T⟩:=hπj B M R;obtain⟨z4,z5⟩:=k.one u M _ T (show H[u]?=some (QK (rho π H.length) y)by rw[m B u J,V];rfl) ((Qah _ _ _ _ _).2 X);subst z5;have G:B<π.length:=(XF.1 J).1;have n:j<π.length:=(XF.1 e).1;rw[XE G]at J;rw[XE n]at e;have t:=(XS J).trans (XS e).symm;refine⟨z4,?_⟩;rcases Nat.lt_trichotomy B j with q|q|q
    .exact(Vp.1 hπ B j G n q t).elim
    .exact q
    .exact(Vp.1 hπ j B n G q t.symm).elim
theorem Sim.frames{fr fr' ro:Nat->Prop}{σ:Sig}{H:Qc}{w:World}(s:Sim fr ro σ H w)(lt:∀b,fr' b->b<w.heap.size)(hro:∀b,ro b->¬fr' b)(own:∀(i b:Nat) (x:Blk),σ[i]?=some (some b)->H[i]?=some x->x.live=true->¬fr' b)
  (hd:∀(i b:Nat) (x:Blk) (c:Nat),σ[i]?=some (some b)->H[i]?=some x->Hid w x b c->¬fr' c):Sim fr' ro σ H w:=
 ⟨s.len,s.roOk,lt,hro,λi b x q1 q2 q3=>⟨(s.own i b x q1 q2 q3).1,(s.own i b x q1 q2 q3).2.1,own i b x q1 q2 q3⟩,s.inj,s.blk,
  s.hidTo (· = ·) QU (XM _) (by simp) (by grind) (by grind)⟩
def Qgd(H:Qc)(p:Nat):Qc:=match H[p]? with
 |some x=>bif x.holds then H.set p .dead else H
 |none=>H
def Qct:Qc->List Nat->Qc
 |H,[]=>H
 |H,p::π=>Qct (Qgd H p) π
theorem Qcu(H:Qc)(p:Nat):(Qgd H p=H/\ ∀x,H[p]?=some x->x.holds=false)\/Qgd H p=H.set p .dead:=by
 unfold Qgd
 grind
theorem Qda:∀(π:List Nat) (H:Qc) (i:Nat) (x:Blk),(Qct H π)[i]?=some x->x=.dead\/(H[i]?=some x/\(x.holds=true->i∉π))
 |[],H,i,x,h=>.inr ⟨h,λ_=>by simp⟩
 |p::π,H,i,x,h=>by
  rcases Qda π _ i x h with h|⟨h1,h2⟩
  .exact .inl h
  .rcases Qcu H p with⟨e,hl⟩|e
   .grind
   grind
theorem Qcg{fr ro:Nat->Prop}{σ:Sig}{w:World}:∀(π:List Nat) {H:Qc} (s:Sim fr ro σ H w),Sim fr ro σ (Qct H π) w
 |[],_,s=>s
 |p::π,H,s=>by
  rw[Qct];rcases Qcu H p with h|h
  .rw[h.1];exact Qcg π s
  .rw[h];exact Qcg π (s.kill p)
theorem Sim.put{fr ro:Nat->Prop}{σ:Sig}{H:Qc}{w:World}(s:Sim fr ro σ H w){b:Nat}{obj:Obj}(l:fr b)(t:w.shape? b=none):
  Sim fr ro σ H (w.putObj b obj)/\Qj (λc=>c≠b) ro w ro (w.putObj b obj):=by
 have a:∀c,c≠b->(w.putObj b obj).heap[c]?=w.heap[c]? :=λc B=>World.putObj_heap_other B;have f:(w.putObj b obj).heap.size=w.heap.size:=by simp
 have u:∀c,ro c->c≠b:=λc q e=>s.roFr c q (e▸l);have ev:Qj (λc=>c≠b) ro w ro (w.putObj b obj):=by
  refine⟨λ_ q=>q,(by grind),λc q=>a c q,by omega,λc x q=>?_,rfl,rfl,rfl,XM _⟩
  grind[World.shape?]
 have g:Ext ro σ w ro σ (w.putObj b obj):=by have:=ev.ext σ [];grind
 refine⟨⟨s.len,s.roOk.to (λ_ q=>q) ev.keepRo (λc q=>by rw[f];exact s.roLt c q),λc q=>by rw[f];exact s.frLt c q,s.roFr,λi c x h k r=>?_,s.inj,λi y x h k=>?_,
  s.hidTo (· = ·) QU (by omega) (by simp) (by simp) λj d y m p E=>.inl ⟨j,y,rfl,m,p,id,λc q=>s.hidKeep m p (λz=>a d (λe=>(s.own j d y m p z).2.2 (e▸l))) ev.keepRo q⟩⟩,ev⟩
 .obtain⟨J,G,F⟩:=s.own i c x h k r
  grind
 .refine(s.blk i y x h k).keep g ?_ ?_
  .rintro c rfl n;exact a c (λe=>(s.own i c x h k n).2.2 (e▸l))
  .rintro d c rfl n;exact a c (λe=>(s.hid i d x c h k n).fr (e▸l))
theorem Qbz{w:World}{l:Nat}{r:Loop}(h:w.heap[l]?=some (.loop r)):w.shape? l=none:=by
 unfold World.shape?;rw[h]
structure Fix where
 fr:Nat->Prop
 ro:Nat->Prop
 σ:Sig
 w:World
 h1:Nat
 env:Env
 tmps:Array Value
 ds1:List Deferred
 l:Nat
 rc:LoopState->Option Code->Loop
 fr1:Nat->Prop
structure Fix.Ok (D:Fix):Prop where
 sub:∀b,D.fr b->D.fr1 b
 l1:D.fr1 D.l
 lf:¬D.fr D.l
 len:D.σ.length=D.h1
structure RJ (D:Fix) (ro1:Nat->Prop) (σ1:Sig) (H:Qc) (st:LoopState) (pe:Option Code) (q g:Nat->Prop) (W:World):Prop where
 sim:Sim D.fr1 ro1 σ1 H W
 env:∀t,VR ro1 D.σ W (lk D.env t) (D.tmps.getD t undef)
 sig:σ1.take D.h1=D.σ
 ev:Qj D.fr D.ro D.w ro1 W
 marks:QaN D.fr1 D.ds1 W
 rc:W.heap[D.l]?=some (.loop (D.rc st pe))
 roG:∀b,ro1 b->q b\/g b
 frG:∀b,D.fr1 b->g b
 own:∀(i b:Nat) (x:Blk),σ1[i]?=some (some b)->H[i]?=some x->x.live=true->g b
 hidG:∀(i b:Nat) (x:Blk) (c:Nat),σ1[i]?=some (some b)->H[i]?=some x->Hid W x b c->g c
 lt:∀b,g b->b<W.heap.size
theorem Qcn{σ σ1:Sig}{a:Nat}(h:σ1.take a=σ){i b:Nat}(q:σ[i]?=some (some b)):σ1[i]?=some (some b):=by
 grind
section
variable {D:Fix} {ro1:Nat->Prop} {σ1:Sig} {H:Qc} {st:LoopState} {pe:Option Code} {qR g:Nat->Prop} {W:World}
theorem RJ.step(r:D.Ok)(j:RJ D ro1 σ1 H st pe qR g W){m:Nat->Prop}{W':World}(e:Qj g qR W m W'):RJ D ro1 σ1 H st pe qR g W':=by
 have hro:=λb q=>(j.roG b q).elim (e.keepRo b) (e.keepFr b);have ev:Qj D.fr1 ro1 W ro1 W':=⟨λ_ q=>q,hro,λb q=>e.keepFr b (j.frG b q),e.size,e.shape,e.os,e.tape,e.output,e.drawn⟩;have h:∀σ,Ext ro1 σ W ro1 σ W':=λ σ=>by have:=ev.ext σ [];grind
 refine⟨⟨j.sim.len,j.sim.roOk.to (λ_ q=>q) hro (λb q=>X8 (j.sim.roLt b q) e.size),λb q=>X8 (j.sim.frLt b q) e.size,j.sim.roFr,λi b x a f l=>?_,j.sim.inj,λi z x a f=>?_,
  j.sim.hidTo (· = ·) QU e.size (by simp) (by simp) λi d y k p w=>.inl ⟨i,y,rfl,k,p,id,λc q=>j.sim.hidKeep k p (λz=>e.keepFr d (j.own i d y k p z)) hro q⟩⟩,
  λt=>(j.env t).mono (h _),j.sig,j.ev.trans (ev.frMono r.sub),j.marks.keep ev,(ev.keepFr _ r.l1).trans j.rc,j.roG,j.frG,j.own,λi b x c a f l=>j.hidG i b x c a f (j.sim.hidKeep a f (λz=>e.keepFr b (j.own i b x a f z)) hro l),λb q=>X8 (j.lt b q) e.size⟩
 .obtain⟨u,s⟩:=j.sim.own i b x a f l;exact⟨X8 u e.size,s⟩
 .refine(j.sim.blk i z x a f).keep (h _) ?_ ?_
  .rintro b rfl n;exact e.keepFr b (j.own i b x a f n)
  .rintro b c rfl n;exact e.keepFr c (j.hidG i b x c a f n)
theorem RJ.up{g':Nat->Prop}(j:RJ D ro1 σ1 H st pe qR g W)(h:∀b,g b->g' b)(hl:∀b,g' b->b<W.heap.size):RJ D ro1 σ1 H st pe qR g' W:=
 {j with roG:=λb q=>(j.roG b q).imp id (h b),frG:=λb q=>h b (j.frG b q),own:=λi b x q1 q2 q3=>h b (j.own i b x q1 q2 q3),hidG:=λi b x c q1 q2 q3=>h c (j.hidG i b x c q1 q2 q3),lt:=hl}
def FrB(D:Fix)(ro1 g:Nat->Prop)(W:World):Nat->Prop:=λb=>(D.fr1 b\/(¬g b/\ ¬ro1 b))/\b<W.heap.size
theorem RJ.simB(j:RJ D ro1 σ1 H st pe qR g W):Sim (FrB D ro1 g W) ro1 σ1 H W:=by
 refine j.sim.frames (λb q=>q.2) (λb q r=>?_) (λi b x e d a r=>?_) (λi b x c e d a r=>r.1.elim (j.sim.hid i b x c e d a).fr λr=>r.1 (j.hidG i b x c e d a))
 .rcases r.1 with r|r
  .exact j.sim.roFr b q r
  grind
 .rcases r.1 with r|r
  .exact(j.sim.own i b x e d a).2.2 r
  .exact r.1 (j.own i b x e d a)
theorem RJ.fin(y:D.Ok)(j:RJ D ro1 σ1 H st pe qR g W){w n:Nat->Prop}{σ':Sig}{H':Qc}{W':World}{st':LoopState}{pe':Option Code}
  (ev:Qj (λb=>FrB D ro1 g W b/\b≠D.l) ro1 W n W')(s:Sim w n σ' H' W')(u:∀b,FrB D ro1 g W b->w b)(hσ:σ'.take D.h1=σ1.take D.h1)(F:W'.heap[D.l]?=some (.loop (D.rc st' pe'))):
  RJ D n σ' H' st' pe' qR (λb=>g b\/(W.heap.size<=b/\b<W'.heap.size)) W'/\Qdo g (λb=>g b\/(W.heap.size<=b/\b<W'.heap.size)) W W':=by
 have f:∀b,D.fr1 b->FrB D ro1 g W b:=λb q=>⟨.inl q,j.sim.frLt b q⟩;have evf:=ev.frMono λb q=>⟨f b (y.sub b q),λe=>y.lf (e▸q)⟩;have hext:=ev.ext0 D.σ;have z:∀b,b<W.heap.size->b<W'.heap.size:=λb q=>X8 q ev.size;have m:∀b,b<W.heap.size->¬FrB D ro1 g W b->g b\/ro1 b:=by
  intro b d E;by_cases h:g b
  .exact .inl h
  .by_cases a:ro1 b
   .exact .inr a
   .exact absurd ⟨.inr ⟨h,a⟩,d⟩ E
 refine⟨⟨s.frames (λb q=>z b (j.sim.frLt b q)) (λb q r=>s.roFr b q (u b (f b r))) (λi b x h a p r=>(s.own i b x h a p).2.2 (u b (f b r))) (λi b x c h a p r=>(s.hid i b x c h a p).fr (u c (f c r))),
  λt=>(j.env t).mono hext,hσ.trans j.sig,j.ev.trans evf,j.marks.to λB _ e2 e3=>⟨e2,(ev.keepFr B ⟨f B e2,λe=>?_⟩).trans e3⟩,F,λb q=>?_,λb q=>.inl (j.frG b q),λi b x h a p=>?_,λi b x c h a p=>?_,λb q=>q.elim (λq=>z b (j.lt b q)) (λq=>q.2)⟩,
  ⟨λb q=>.inl q,(by grind),λb q=>q.elim (λq=>z b (j.lt b q)) (λq=>q.2),(by omega),λb h a=>?_,ev.size,ev.shape,ev.os,ev.tape,ev.output,ev.drawn⟩⟩
 .subst e;rw[j.rc]at e3;cases e3
 .rcases Vn b W.heap.size with d|d
  .rcases m b d (λr=>s.roFr b q (u b r))with r|r
   .grind
   .exact(j.roG b r).imp id .inl
  .exact .inr (.inr ⟨d,s.roLt b q⟩)
 .obtain⟨L,J,G⟩:=s.own i b x h a p;rcases Vn b W.heap.size with d|d
  .rcases m b d (λr=>G (u b r))with r|r
   .exact .inl r
   .exact absurd (ev.sub b r) J
  omega
 .have k:=s.hid i b x c h a p;rcases Vn c W.heap.size with d|d
  .rcases m c d (λr=>k.fr (u c r))with r|r
   .exact .inl r
   .exact absurd (ev.sub c r) k.ro
  .exact .inr ⟨d,k.lt⟩
 .by_cases r:ro1 b
  .exact ev.keepRo b r
  .exact ev.keepFr b ⟨(by grind),λe=>a (j.frG b (e▸y.l1))⟩
end
theorem Sim.roAdd{fr ro a:Nat->Prop}{σ:Sig}{H:Qc}{w:World}(s:Sim fr ro σ H w)(d:∀b,a b->b<w.heap.size)(e:∀b,a b->¬fr b)(j:∀(i b:Nat) (x:Blk),σ[i]?=some (some b)->H[i]?=some x->x.live=true->¬a b)
  (h:∀(i b:Nat) (x:Blk) (c:Nat),σ[i]?=some (some b)->H[i]?=some x->Hid w x b c->¬a c):Sim fr (λb=>ro b\/a b) σ H w:=by
 have ext:Ext ro σ w (λb=>ro b\/a b) σ w:=⟨λ_ q=>.inl q,λ_ _=>rfl,λ_ _ q=>q,λ_ _ q=>q⟩;refine⟨s.len,s.roOk.to (λ_ q=>.inl q) (λ_ _=>rfl) (λb q=>q.elim (s.roLt b) (d b)),s.frLt,λb q=>q.elim (s.roFr b) (e b),λi b x f g k=>?_,s.inj,λi y x f g=>(s.blk i y x f g).keep ext (λ_ _ _=>rfl) (λ_ _ _ _=>rfl),
  s.hidTo (· = ·) QU (XM _) (by grind) (by simp) (by grind)⟩
 obtain⟨n,m,l⟩:=s.own i b x f g k
 grind
theorem RJ.roAdd{D:Fix}{ro1:Nat->Prop}{σ1:Sig}{H:Qc}{st:LoopState}{pe:Option Code}{qR ri g:Nat->Prop}{W:World}(j:RJ D ro1 σ1 H st pe qR g W)(hq:∀b,qR b->ri b)(hI:∀b,ri b->b<W.heap.size/\ ¬g b):RJ D (λb=>ro1 b\/ri b) σ1 H st pe ri g W:=
 {j with
  sim:=j.sim.roAdd (λb q=>(hI b q).1) (λb q z=>(hI b q).2 (j.frG b z)) (λi b x q1 q2 q3 z=>(hI b z).2 (j.own i b x q1 q2 q3)) (λi b x c q1 q2 q3 z=>(hI c z).2 (j.hidG i b x c q1 q2 q3))
  env:=λt=>(j.env t).mono ⟨λ_ q=>.inl q,λ_ _=>rfl,λ_ _ q=>q,λ_ _ q=>q⟩
  ev:=j.ev.trans (QR λ_ q=>.inl q)
  roG:=λb q=>q.elim (λq=>(j.roG b q).imp (hq b) id) .inl}
def Qho:List Nat->List A->Env->Env
 |p::ps,a::zs,env=>Qho ps zs (up env p a)
 |_,_,env=>env
def Qfx:List Nat->List Value->Array Value->Array Value
 |p::ps,v::vs,t=>Qfx ps vs (t.setIfInBounds p v)
 |_,_,t=>t
theorem QdL:∀(ps:List Nat) (vs:List Value) (t:Array Value),(Qfx ps vs t).size=t.size
 |[],_,_=>rfl
 |_::_,[],_=>rfl
 |p::ps,v::vs,t=>by simp[Qfx,QdL ps]
theorem QdM:∀(ps:List Nat) (vs:List Value) (t:Array Value),(ps.toArray.zip vs.toArray).foldl (λt (p,v)=>t.setIfInBounds p v) t=Qfx ps vs t
 |[],vs,t=>by rw[<- Array.foldl_toList,Array.toList_zip];rfl
 |p::ps,[],t=>by rw[<- Array.foldl_toList,Array.toList_zip];rfl
 |p::ps,v::vs,t=>by
  have:=QdM ps vs (t.setIfInBounds p v);rw[<- Array.foldl_toList,Array.toList_zip]at this⊢;exact this
theorem Qf5{ro:Nat->Prop}{σ:Sig}{w:World}:∀(ps:List Nat) (zs:List A) (vs:List Value) (env:Env) (t:Array Value),LR ro σ w zs vs->(∀p∈ps,p<t.size)->(∀s,VR ro σ w (lk env s) (t.getD s undef))->
  ∀s,VR ro σ w (lk (Qho ps zs env) s) ((Qfx ps vs t).getD s undef)
 |[],_,_,_,_,_,_,h=>h
 |p::ps,[],vs,_,_,hv,_,h=>by
  obtain rfl:vs=[]:=hv;exact h
 |p::ps,a::zs,vs,env,t,hv,hp,h=>by
  obtain⟨v,vs',rfl,h0,hv'⟩:=hv;have h1:=VR.up (fr:=λ_=>False) (a:={tmps:=t,defers:=[]}) h (hp p (by simp)) h0;exact Qf5 ps zs vs' (up env p a) (t.setIfInBounds p v) hv' (λq hq=>by grind) h1
def Qik(h1:Nat)(env:Env)(Q:Qx)(K:Qc->Prop):Qx
 |.normal,env',H'=>∃H2,Le h1 env' H' [] H2/\K H2
 |.exit id,env',H'=>∃H2,Le h1 env' H' [] H2/\Q (.exit id) env H2
 |.ret,env',H'=>∃H2,Le h1 env' H' [] H2/\Q .ret env H2
def Jump(Q:Qx)(env:Env)(c:Code)(H:Qc):Prop:=(∃id,c=.exit id/\Q (.exit id) env H)\/(c=.ret/\Q .ret env H)
section
variable {D:Fix} {ro0:Nat->Prop} {σ1:Sig} {H:Qc} {qR ri g:Nat->Prop} {W:World} {P:Program} {N:Nat} {Q:Qx} {K:Qc->Prop}
theorem RJ.round{fn:FuncId}{ps:List Nat}{assign body:Code}{df:Nat}{G:List A}{vs:List Value}(hD:D.Ok)(aa:D.rc=λst pe=>{state:=st,pending:=pe,fn:=fn,tmps:=D.tmps,params:=ps.toArray,assign:=assign,body:=body,defers:=df})
  (hN:D.tmps.size=N)(an:∀p∈ps,p<N)(al:G.length=ps.length)(hq:∀b,qR b->ri b)(hI:∀b,ri b->b<W.heap.size/\ ¬g b)(J:LR ri [] W G vs)(j0:RJ D ro0 σ1 H .ready none qR g W)
  (h:TC P D.h1 N assign (Qho ps G D.env) H λe env1 H1=>e=.normal/\TC P D.h1 N body env1 H1 (Qik D.h1 D.env Q K)):
  YieldAt Fence.wide 0 P D.l vs.toArray W λe W'=>∃g',Qdo g g' W W'/\((e=.returned (.bool true)/\ ∃H2 ro2 σ2,K H2/\RJ D ro2 σ2 H2 .ready none ri g' W')\/
   (e=.returned (.bool false)/\ ∃H2 c ro2 σ2,Jump Q D.env c H2/\RJ D ro2 σ2 H2 .done (some c) ri g' W')):=by
 have am:vs.length=G.length:=J.length;have j:=j0.roAdd hq hI;have x:LR (λb=>ro0 b\/ri b) σ1 W G vs:=J.mono ⟨λ_ q=>.inr q,λ_ _=>rfl,λ_ _ q=>q,λi b q=>by simp at q⟩;clear j0;generalize(λb=>ro0 b\/ri b)=ro1 at j x;have ah:∀b,D.fr1 b->FrB D ro1 g W b:=λb q=>⟨.inl q,j.sim.frLt b q⟩;have E:=ah _ hD.l1;have Y:=j.rc;have hy:=run_yield (P:=P) (r:=D.rc .ready none) (args:=vs.toArray) Y (by grind);refine⟨fn,Qfx ps vs D.tmps,assign,body,?_,?_⟩
 .grind[QdM]
 .refine roundIn_of_wpIn trivial ?_;show Code.wpIn (WF (some D.l)) 0 P _ _ _ _;have V:∀s,VR ro1 σ1 W (lk D.env s) (D.tmps.getD s undef):=λs=>(j.env s).mono ⟨λ_ q=>q,λ_ _=>rfl,λ_ _ q=>q,λi b q=>Qcn j.sig q⟩;have aj:Qch (some D.l) (FrB D ro1 g W) W:=λl e=>by grind
  have u:=h (some D.l) (FrB D ro1 g W) ro1 σ1 {tmps:=Qfx ps vs D.tmps,defers:=[]} W ⟨j.simB,Qf5 ps G vs D.env D.tmps x (by grind) V,by simp[QdL,hN],List.nodup_nil,λd hd=>by cases hd⟩ aj;refine Code.wpIn_mono ?_ u;rintro e a1 u ⟨x1,env1,H1,ro2,σ2,k,h1,⟨rfl,h2⟩,h3,h4,h5,h6⟩;cases e with
  |normal=>
   have ad:u.heap[D.l]?=some (.loop (D.rc .ready none)):=(h4.keepFr _ E).trans Y;refine⟨_,run_beginRound ad (by rw[aa]),?_⟩;obtain⟨s2,z⟩:=h3.sim.put (obj:=.loop {D.rc .ready none with state:=.busy}) (h6.sub _ E) (Qbz ad);have O:D.l<u.heap.size:=by grind
   have ai:(u.putObj D.l (.loop {D.rc .ready none with state:=.busy})).heap[D.l]?=some (.loop {D.rc .ready none with state:=.busy}):=World.putObj_heap_same O;generalize hw2:u.putObj D.l (.loop {D.rc .ready none with state:=.busy})=w2 at*;have ag:QaN k a1.defers w2:=h3.defers.to λB _ e2 e3=>⟨e2,(z.keepFr B (λe=>by grind)).trans e3⟩;have r2:Rel k ro2 σ2 H1 env1 N a1 w2:=⟨s2,λs=>(h3.env s).mono (z.ext0 σ2),h3.size,ag⟩;have T:k D.l:=h6.sub _ E;refine Code.wpIn_mono ?_ (h2 (some D.l) k ro2 σ2 a1 w2 r2 (λl e=>by grind));rintro e a3 t ⟨x3,ab,H3,y,σ3,M,g1,g2,g3,g4,g5,g6⟩;have m:t.heap[D.l]?=some (.loop {D.rc .ready none with state:=.busy}):=(g4.keepFr _ T).trans ai;have F:∀(H2:Qc) (jump:Option Code),Le D.h1 ab H3 [] H2->∃v n,(Instr.endRound D.l jump).run P t=.ok v n/\v=.bool jump.isNone/\ ∃g',Qdo g g' W n/\ ∃a σ4,RJ D a σ4 H2 (if jump.isNone then .ready else .done) jump ri g' n:=by
    intro H2 jump f;obtain⟨a,σ4,r4,s4,t4⟩:=f M y σ3 N a3 t g3;refine⟨_,_,run_endRound jump m,rfl,?_⟩;have af:M D.l:=g6.sub _ T;obtain⟨s5,ak⟩:=r4.sim.put af (Qbz m);have ac:D.l<t.heap.size:=by rw[X5]at m;exact m.1
    have ae:=World.putObj_heap_same (w:=t) (r:=D.l) (o:=.loop {{D.rc .ready none with state:=.busy}with state:=if jump.isNone then .ready else .done,pending:=jump}) ac;have e1:Qj (λb=>FrB D ro1 g W b/\b≠D.l) ro1 W ro2 u:=h4.frMono λb q=>q.1;have e2:Qj (λb=>FrB D ro1 g W b/\b≠D.l) ro2 u ro2 w2:=z.frMono λb q=>q.2;have e3:Qj (λb=>FrB D ro1 g W b/\b≠D.l) ro2 w2 y t:=g4.frMono λb q=>h6.sub b q.1;have e4:Qj (λb=>FrB D ro1 g W b/\b≠D.l) y t a t:=QR s4;have e5:=(((e1.trans e2).trans e3).trans e4).trans (ak.frMono λb (q:FrB D ro1 g W b/\b≠D.l)=>q.2);obtain⟨q1,q2⟩:=j.fin hD e5 s5 (λb q=>g6.sub b (h6.sub b q)) (by rw[t4,g5,h5]) (st':=if jump.isNone then .ready else .done) (pe':=jump) (by rw[ae,aa]);exact⟨_,q2,a,σ4,q1⟩
   cases e with
   |normal=>
    obtain rfl:x3=.normal:=g1;obtain⟨H2,f,L⟩:=g2;obtain⟨v,n,X,rfl,g',k2,a,σ4,R⟩:=F H2 none f;exact⟨_,n,X,g',k2,.inl ⟨rfl,H2,a,σ4,L,R⟩⟩
   |exit id=>
    obtain rfl:x3=.exit id:=g1;obtain⟨H2,f,L⟩:=g2;obtain⟨v,n,X,rfl,g',k2,a,σ4,R⟩:=F H2 (some (.exit id)) f;exact⟨_,n,X,g',k2,.inr ⟨rfl,H2,_,a,σ4,.inl ⟨id,rfl,L⟩,R⟩⟩
   |ret=>
    obtain rfl:x3=.ret:=g1;obtain⟨H2,f,L⟩:=g2;obtain⟨v,n,X,rfl,g',k2,a,σ4,R⟩:=F H2 (some .ret) f;exact⟨_,n,X,g',k2,.inr ⟨rfl,H2,_,a,σ4,.inr ⟨rfl,L⟩,R⟩⟩
   |_=>exact g1.elim
  |exit id=>cases h1
  |ret=>cases h1
  |_=>exact h1.elim
end
theorem Sim.beside{fr ro:Nat->Prop}{σ:Sig}{H:Qc}{w g:World}(s:Sim fr ro σ H w)(ev:Qj fr ro w ro g)(a:∀b,b<w.heap.size->g.heap[b]?=w.heap[b]?):Sim (λb=>fr b\/(w.heap.size<=b/\b<g.heap.size)) ro σ H g:=by
 have hext:=ev.ext0 σ;refine⟨s.len,s.roOk.to (λ_ q=>q) ev.keepRo (λb q=>X8 (s.roLt b q) ev.size),λb q=>q.elim (λq=>X8 (s.frLt b q) ev.size) (λq=>q.2),λb q r=>?_,λi b x e f k=>?_,s.inj,λi z x e f=>?_,
  s.hidTo (· = ·) QU ev.size (by simp) (λi b x c e f k n=>n.elim id λq=>(by have:=(s.hid i b x c e f k).lt;omega)) λj d y h m p=>.inl ⟨j,y,rfl,h,m,id,λc q=>s.hidKeep h m (λz=>a d (s.own j d y h m z).1) ev.keepRo q⟩⟩
 .rcases r with r|r
  .exact s.roFr b q r
  .have:=s.roLt b q;omega
 .obtain⟨B,u,t⟩:=s.own i b x e f k
  grind
 .refine(s.blk i z x e f).keep hext ?_ ?_
  .rintro b rfl l;exact a b (s.own i b x e f l).1
  .rintro b c rfl l;exact a c (s.hid i b x c e f l).lt
theorem Qbm{w:World}{o:Obj}{b:Nat}(a:b<w.heap.size):(w.alloc o).heap[b]?=w.heap[b]? :=by
 show(w.heap.push o)[b]?=_
 grind
theorem QhZ{P:Program}{fn:FuncId}{tmps:Array Value}{ps:Array Tmp}{assign body:Code}{rd:Option Nat}{fr ro:Nat->Prop}{w:World}(f:Qch rd fr w)(t:∀b,ro b->b<w.heap.size)(p:∀b,fr b->b<w.heap.size):
  ∃l mark w1 df,(Instr.enterLoop fn tmps ps assign body rd).run P w=.ok (l,mark) w1/\w.heap.size<=l/\l<w1.heap.size/\w1.heap[l]?=some (.loop {state:=.ready,pending:=none,fn:=fn,tmps:=tmps,params:=ps,assign:=assign,body:=body,defers:=df})/\
   (∀b,b<w.heap.size->w1.heap[b]?=w.heap[b]?)/\mark.Nodup/\(∀d∈mark,∃D,d={target:=.collected D,args:= #[]}/\w.heap.size<=D/\D<w1.heap.size/\w1.heap[D]?=some (.deferred (some [])))/\Qj fr ro w ro w1:=by
 have e:∀w1,(∀b,b<w.heap.size->w1.heap[b]?=w.heap[b]?)->w.heap.size<=w1.heap.size->w1.os=w.os->w1.tape=w.tape->w1.output=w.output->w1.drawn=w.drawn->Qj fr ro w ro w1:=by
  intro w1 u s k i j y;refine⟨λ_ q=>q,(by grind),(by grind),s,λb x q=>?_,k,i,j,by omega⟩
  grind[World.shape?]
 cases rd with
 |none=>
  have a:∀b,b<w.heap.size->((w.alloc (.deferred (some []))).alloc (.loop {state:=.ready,pending:=none,fn:=fn,tmps:=tmps,params:=ps,assign:=assign,body:=body,defers:=w.heap.size})).heap[b]?=w.heap[b]? :=λb g=>
   (Qbm (by simp;omega)).trans (Qbm g)
  refine⟨_,_,_,w.heap.size,run_enterLoop_outer fn tmps ps assign body,by omega,by simp,?_,a,by simp,?_,e _ a (by simp;omega) rfl rfl rfl rfl⟩
  .grind[World.alloc_heap_new,World.size_alloc]
  .intro d r;obtain rfl:=Vm.1 r;exact⟨_,rfl,XM _,by simp;omega,(Qbm (by simp)).trans (World.alloc_heap_new w _)⟩
 |some m=>
  obtain⟨_,h,n⟩:=f m rfl;have a:∀b,b<w.heap.size->(w.alloc (.loop {state:=.ready,pending:=none,fn:=fn,tmps:=tmps,params:=ps,assign:=assign,body:=body,defers:=h.defers})).heap[b]?=w.heap[b]? :=λb g=>Qbm g;exact⟨_,_,_,h.defers,run_enterLoop_inner n fn tmps ps assign body,XM _,by simp,World.alloc_heap_new w _,a,List.nodup_nil,(by simp),e _ a (by simp) rfl rfl rfl rfl⟩
theorem TC.rangeFunc{P:Program}{h0 N:Nat}{af:Operand}{ps:List Nat}{assign body:Code}{env:Env}{H:Qc}{Q:Qx}{f:FuncId}{caps ae:List A}{Hc:Qc}{T S:Type}{enc:T->List A}{nx:List T->T->List T->Prop}{xs:List T}
  (π:List Nat)(Hp:S->Qc)(V:S->List T->Prop)(s0:S)(hh:h0<=H.length)(hg:opA env af=.fn (.func f) [] caps)(hargs:caps=Qag (rho π H.length) ae)(hH:π.map (λp=>H[p]?)=(Hc.map (QK (rho π H.length))).map some)(hπ:π.Nodup)
  (ba:(ps.all λp=>Nat.blt p N)=true)(eg:∀args w,(callFunc f args).run P w=.ok (.enter f args) w)(av:QgZ P f ae Hc enc nx xs)(ao:∀x,(enc x).length=ps.length)
  (a1:Le H.length env (Qct H π) env (Hp s0))(hV:V s0 xs)
  (an:∀s l x rem,V s l->nx l x rem->TC P H.length N assign (Qho ps (enc x) env) (Hp s) λe env1 H1=>e=.normal/\TC P H.length N body env1 H1 (Qik H.length env Q λH2=>∃s',V s' rem/\H2=Hp s'))
  (al:∀s,V s []->Q .normal env (Hp s)):TC P h0 N (.rangeFunc af ps.toArray assign body) env H Q:=by
 intro rd fr ro σ a w r hrd;have hv:=Ql r af;rw[hg]at hv;obtain⟨l1,E,hv,a6,aq⟩:=hv;obtain rfl:l1=[]:=a6;refine wpIn_rangeFunc ?_;intro fn bf;obtain⟨l,mark,M,df,he,hl,a8,au,az,bb,ak,aa⟩:=QhZ (P:=P) (fn:=fn) (tmps:=a.tmps) (ps:=ps.toArray) (assign:=assign) (body:=body) (ro:=ro) hrd r.sim.roLt r.sim.frLt;have s1:=r.sim.beside aa az
 let D:Fix:=⟨fr,ro,σ,w,H.length,env,a.tmps,mark++a.defers,l,(λst pe=>{state:=st,pending:=pe,fn:=fn,tmps:=a.tmps,params:=ps.toArray,assign:=assign,body:=body,defers:=df}),(λb=>fr b\/(w.heap.size<=b/\b<M.heap.size))⟩
 have ag:¬fr l:=λq=>by have:=r.sim.frLt l q;omega
 have hD:D.Ok:=⟨λb q=>.inl q,.inr ⟨hl,a8⟩,ag,r.sim.len⟩;have ac:QaN D.fr1 (mark++a.defers) M:=by
  refine⟨List.nodup_append.2 ⟨bb,r.defers.1,λd O d' a4 e=>?_⟩,λd O=>?_⟩
  .subst e;obtain⟨B,e1,e2,_⟩:=ak d O;have:=r.sim.frLt B (r.defers.mark (e1▸a4)).1;omega
  .rcases Vo.1 O with O|O
   .obtain⟨B,e1,e2,e3,e4⟩:=ak d O;exact .inl ⟨B,e1,.inr ⟨e2,e3⟩,e4⟩
   .exact(((r.defers.keep aa).to (fr':=D.fr1) λB _ e2 e3=>⟨.inl e2,e3⟩)).2 d O
 obtain⟨sp,hσc⟩:=s1.part hH hπ;have ah:LR ro (Q2 σ π) M ae E:=(QaY hσc).1 (hargs▸aq.mono (aa.ext0 σ))
 let frX:Nat->Prop:=λb=>D.fr1 b\/(∃(j:Nat) (x:Blk),(Q2 σ π)[j]?=some (some b)/\Hc[j]?=some x/\x.live=true)\/ ∃(j:Nat) (x:Blk) (d:Nat),(Q2 σ π)[j]?=some (some d)/\Hc[j]?=some x/\Hid M x d b
 have sX:Sim frX ro σ (Qct H π) M:=by
  refine(Qcg π s1).frames (λb q=>?_) (λb q r=>?_) (λi b x n m k r=>?_) (λi b x c n m k r=>?_)
  .rcases q with q|⟨j,x,n,m,k⟩|⟨j,x,d,n,m,k⟩
   .exact s1.frLt b q
   .exact(sp.own j b x n m k).1
   .exact(sp.hid j d x b n m k).lt
  .rcases r with r|⟨j,x,n,m,k⟩|⟨j,x,d,n,m,k⟩
   .exact s1.roFr b q r
   .exact(sp.own j b x n m k).2.1 q
   .exact(sp.hid j d x b n m k).ro q
  .rcases Qda _ _ _ _ m with rfl|⟨m,hi⟩
   .cases k
   .rcases r with r|⟨j,y,p1,Y,R⟩|⟨j,y,d,p1,Y,R⟩
    .exact(s1.own i b x n m k).2.2 r
    .exact(sp.own j b y p1 Y R).2.2 (.inr (.inl ⟨i,x,n,m,k,hi (Qa1 k)⟩))
    .exact(sp.hid j d y b p1 Y R).fr (.inr (.inl ⟨i,x,n,m,k,hi (Qa1 k)⟩))
  .rcases Qda _ _ _ _ m with rfl|⟨m,hi⟩
   .exact k.elim
   .rcases r with r|⟨j,y,p1,Y,R⟩|⟨j,y,d,p1,Y,R⟩
    .exact(s1.hid i b x c n m k).fr r
    .exact(sp.own j c y p1 Y R).2.2 (.inr (.inr ⟨i,x,b,n,m,k,hi k.holds⟩))
    .exact(sp.hid j d y c p1 Y R).fr (.inr (.inr ⟨i,x,b,n,m,k,hi k.holds⟩))
 have rX:Rel frX ro σ (Qct H π) env N {a with defers:=mark++a.defers} M:=
  ⟨sX,λs=>(r.env s).mono (aa.ext0 σ),r.size,ac.to λB _ e2 e3=>⟨.inl e2,e3⟩⟩
 obtain⟨ad,σ',r',ab,a7⟩:=a1 frX ro σ N _ M rX;have hσt:σ.take H.length=σ:=by rw[<- r.sim.len,X2]
 let g0:Nat->Prop:=λb=>D.fr1 b\/(ad b/\ ¬ro b)\/(∃(i:Nat) (x:Blk),σ'[i]?=some (some b)/\(Hp s0)[i]?=some x/\x.live=true)\/ ∃(i:Nat) (x:Blk) (d:Nat),σ'[i]?=some (some d)/\(Hp s0)[i]?=some x/\Hid M x d b
 have j0:RJ D ad σ' (Hp s0) .ready none ro g0 M:=by
  refine⟨r'.sim.frMono λb q=>.inl q,λt=>(r.env t).mono ⟨ab,aa.keepRo,aa.shape,λ_ _ q=>q⟩,a7.trans hσt,aa.trans (QR ab),ac,au,λb q=>?_,λb q=>.inl q,λi b x n m k=>.inr (.inr (.inl ⟨i,x,n,m,k⟩)),λi b x c n m k=>.inr (.inr (.inr ⟨i,x,b,n,m,k⟩)),λb q=>?_⟩
  .by_cases z:ro b
   .exact .inl z
   .exact .inr (.inr (.inl ⟨q,z⟩))
  .rcases q with q|q|⟨i,x,n,m,k⟩|⟨i,x,d,n,m,k⟩
   .exact s1.frLt b q
   .exact r'.sim.roLt b q.1
   .exact(r'.sim.own i b x n m k).1
   .exact(r'.sim.hid i d x b n m k).lt
 have sI:Sim g0 ro (Q2 σ π) Hc M:=by
  refine sp.frames (λb q=>j0.lt b q) (λb q z=>?_) (λj b x n m k z=>?_) (λj b x c n m k z=>?_)
  .rcases z with z|z|⟨i,x,n,m,k⟩|⟨i,x,d,n,m,k⟩
   .exact s1.roFr b q z
   .exact z.2 q
   .exact(r'.sim.own i b x n m k).2.1 (ab b q)
   .exact(r'.sim.hid i d x b n m k).ro (ab b q)
  .have hX:frX b:=.inr (.inl ⟨j,x,n,m,k⟩);rcases z with z|z|⟨i,y,p1,Y,R⟩|⟨i,y,d,p1,Y,R⟩
   .exact(sp.own j b x n m k).2.2 (.inl z)
   .exact r'.sim.roFr b z.1 hX
   .exact(r'.sim.own i b y p1 Y R).2.2 hX
   .exact(r'.sim.hid i d y b p1 Y R).fr hX
  .have hX:frX c:=.inr (.inr ⟨j,x,b,n,m,k⟩);rcases z with z|z|⟨i,y,p1,Y,R⟩|⟨i,y,d,p1,Y,R⟩
   .exact(sp.hid j b x c n m k).fr (.inl z)
   .exact r'.sim.roFr c z.1 hX
   .exact(r'.sim.own i c y p1 Y R).2.2 hX
   .exact(r'.sim.hid i d y c p1 Y R).fr hX
 let X:Ctx T:={l:=l,J:=λrem q g W=>∃s F σ1,V s rem/\RJ D F σ1 (Hp s) .ready none q g W,Jx:=λ_ q g W=>∃H2 c F σ1,Jump Q env c H2/\RJ D F σ1 H2 .done (some c) q g W,enc:=enc,nx:=nx}
 have aw:∀p∈ps,p<N:=λp hp=>by simpa using Xo.1 ba p hp
 have hX:X.ok P:=by
  refine⟨⟨λrem q g W W' ad ⟨s,F,σ1,G,L⟩ he=>⟨s,F,σ1,G,L.step hD he⟩,λrem q g g' W ⟨s,F,σ1,G,L⟩ hg hl=>⟨s,F,σ1,G,L.up hg hl⟩⟩,
   ⟨λrem q g W W' ad ⟨H2,c,F,σ1,G,L⟩ he=>⟨H2,c,F,σ1,G,L.step hD he⟩,λrem q g g' W ⟨H2,c,F,σ1,G,L⟩ hg hl=>⟨H2,c,F,σ1,G,L.up hg hl⟩⟩,?_⟩
  rintro lr x rem q g ri W vs bd ⟨s,F,σ1,G,L⟩ hq hI a5;obtain⟨bc,tm,a9,a3,y1,y2⟩:=RJ.round (D:=D) (Q:=Q) (K:=λH2=>∃s',V s' rem/\H2=Hp s') hD rfl r.size aw (ao x) hq hI a5 L (an s lr x rem G bd);refine⟨bc,tm,a9,a3,y1,RoundIn.mono y2 ?_⟩;rintro e W' ⟨g',k1,k2⟩;refine⟨g',ri,λ_ z=>z,k1,?_⟩;rcases k2 with⟨rfl,H2,u,σ2,⟨s',a2,rfl⟩,k3⟩|⟨rfl,H2,c,u,σ2,k3,k4⟩
  .exact .inl ⟨rfl,s',u,σ2,a2,k3⟩
  .exact .inr ⟨rfl,H2,c,u,σ2,k3,k4⟩
 have ay:∀(ev:Operand->Value),ev af=.func (.func f) #[] E.toArray->ev (.const (.func (.yield l) #[] #[]))=.func (.yield l) #[] #[]->(resolve ev (rangeCall af l) 0).run P M=.ok {target:=.fn (.func f) E.toArray,args:= #[.func (.yield l) #[] #[]]} M:=by
  intro ev G L;simp[resolve,go_sem,G,L]
 refine⟨l,mark,M,{target:=.fn (.func f) E.toArray,args:= #[.func (.yield l) #[] #[]]},M,f, #[.func (.yield l) #[] #[]]++E.toArray,M,he,ay a.eval hv rfl,λ_ _=>trivial,by simp[invoke,go_sem,eg],λh=>by simp[WF,Fence.wide]at h,?_⟩;refine WF.calls.2 ?_;have am:=av X rfl rfl hX g0 ro (Q2 σ π) M E ro sI (λ_ z=>z) ah ⟨s0,ad,σ',hV,j0⟩;have ai:(#[.func (.yield l) #[] #[]]++E.toArray:Array Value)=((Value.func (.yield X.l) #[] #[]::E)).toArray:=by simp[X]
 rw[ai];refine Calls.mono am ?_;rintro e W' ⟨⟨v,rfl⟩,g2,qz,be,ax⟩;have fin:∀(H2:Qc) (st:LoopState) (pe:Option Code) (u:Nat->Prop) (σ2:Sig),st≠ .busy->RJ D u σ2 H2 st pe qz g2 W'->∃w4,(Instr.endLoop l).run P W'=.ok pe w4/\Rel D.fr1 u σ2 H2 env N {a with defers:=mark++a.defers} w4/\Qj fr ro w u w4:=by
  intro H2 st pe u σ2 hst j;refine⟨_,run_endLoop j.rc (by exact hst),?_⟩;obtain⟨s5,aj⟩:=j.sim.put (obj:=.loop {(D.rc st pe)with state:=.exhausted}) hD.l1 (Qbz j.rc);have hr:=j.rc;refine⟨⟨s5,λt=>((j.env t).mono ⟨λ_ q=>q,λ_ _=>rfl,λ_ _ q=>q,λi b q=>Qcn j.sig q⟩).mono (aj.ext0 σ2),r.size,j.marks.to λB _ e2 e3=>⟨e2,(aj.keepFr B (λe=>?_)).trans e3⟩⟩,j.ev.trans (aj.frMono λb q e=>ag (by have e':b=l:=e;rw[<- e'];exact q))⟩;subst e;rw[hr]at e3;cases e3
 have a0:Grow fr w a.defers D.fr1 (mark++a.defers):=by
  refine⟨λb q=>.inl q,λb q=>q.imp id (λq=>q.1),λd O=>List.mem_append_right _ O,λd O=>?_⟩;rcases Vo.1 O with O|O
  .obtain⟨B,e1,e2,_⟩:=ak d O;exact .inr ⟨B,e1,e2⟩
  .exact .inl O
 have ar:∀{σ2:Sig},σ2.take H.length=σ->σ2.take h0=σ.take h0:=by
  intro σ2 h;have:=congrArg (List.take h0) h
  rwa [List.take_take,Xw hh]at this
 rcases ax with⟨s,u,σ2,G,L⟩|⟨rem,H2,c,u,σ2,G,L⟩
 .obtain⟨w4,f1,f2,f3⟩:=fin _ _ _ u σ2 (by intro e;cases e) L;exact⟨none,w4,f1,.normal,env,_,u,σ2,_,rfl,al s G,f2,f3,ar L.sig,a0⟩
 .obtain⟨w4,f1,f2,f3⟩:=fin _ _ _ u σ2 (by intro e;cases e) L;refine⟨some c,w4,f1,?_⟩;have hc:TC P h0 N c env H2 Q:=by
   rcases G with⟨id,rfl,G⟩|⟨rfl,G⟩
   .exact TC.exit G
   .exact TC.ret G
  exact Code.wpIn_mono (λe a w q=>q.grow f3 (ar L.sig) a0) (hc rd D.fr1 u σ2 _ w4 f2 (hrd.to f3 λb q=>.inl q))
section
variable {P:Program} {T:Type} {ts tq te k tm:Nat} {g:FuncId} {es:List (A×A)} {e:T->List A} {ea:T->A} {xs:List T}
end
theorem QjH{T:Type}{X:Ctx T}{P:Program}{h0 N:Nat}{c:Code}{env d:Env}{H H':Qc}{m:YSt T}{Q:Yk T}(k:Le h0 env H d H')(h:TCy X P h0 N c d H' m Q):TCy X P h0 N c env H m Q:=by
 intro z y l x σ a w g r hj hrd;obtain⟨i,σ',n,s,t⟩:=k l x σ N a w r;obtain⟨⟨u,p,j⟩,f⟩:=hj;exact Code.wpIn_mono (λe a w q=>q.grow s (XM _) t (Grow.refl _ _ _)) (h z y l i σ' a w g n ⟨⟨u,(by grind),j⟩,f⟩ hrd)
theorem Qhl{P:Program}{o:Oper}{env:Env}{H:Qc}{y z:Operand}{l:Nat}{a:A}{g:Array TypeId}(k:o.op=.call {callee:=.value y,args:= #[z],argTypes:=g})(m:opA env y=.fn (.yield l) [] [])(i:opA env z=a)(f:Yc a=true){N:Nat}:
  ∀fr ro σ act w,Rel fr ro σ H env N act w->∃vs:List Value,LR ro [] w [a] vs/\(execOp act.eval o).run P w=(Instr.yield l vs.toArray).run P w:=by
 intro fr ro σ act w r;have d:=Ql r y;rw[m]at d;obtain⟨h,n,d,j,p⟩:=d;obtain rfl:h=[]:=j;have e:=Ql r z;rw[i]at e;refine⟨[act.eval z],⟨_,_,rfl,VR.data f e,rfl⟩,?_⟩;generalize act.eval=ev at*;simp[execOp,k,invoke,go_sem,d]
theorem Qgx{P:Program}{o:Oper}{env:Env}{H:Qc}{y a e:Operand}{l:Nat}{g h:A}{p:Array TypeId}(t:o.op=.call {callee:=.value y,args:= #[a,e],argTypes:=p})(u:opA env y=.fn (.yield l) [] [])(i:opA env a=g)(j:opA env e=h)(f:Yc g=true)(k:Yc h=true){N:Nat}:
  ∀fr ro σ act w,Rel fr ro σ H env N act w->∃vs:List Value,LR ro [] w [g,h] vs/\(execOp act.eval o).run P w=(Instr.yield l vs.toArray).run P w:=by
 intro fr ro σ act w r;have d:=Ql r y;rw[u]at d;obtain⟨q,x,d,s,z⟩:=d;obtain rfl:q=[]:=s;have n:=Ql r a;rw[i]at n;have m:=Ql r e;rw[j]at m;refine⟨[act.eval a,act.eval e],⟨_,_,rfl,VR.data f n,_,_,rfl,VR.data k m,rfl⟩,?_⟩;generalize act.eval=ev at*;simp[t,invoke,go_sem,d]
section
variable {P:Program} {K V:Type} {tm tb ty tk kt et:Nat} {ek:K->A} {ev:V->A} {m:List (K×V)} {T:Type}
end
section
variable {P:Program} {o:Oper} {env:Env} {H:Qc} {fr ro:Nat->Prop} {σ:Sig} {w:World}
theorem QcU{h0 i m T:Nat}{d:List A}(k:H[i]?=some (.cells T d)):Le h0 env H env (H.set i (.cells T (d.set m .any))):=by
 intro u p σ N a w r;refine⟨p,σ,⟨r.sim.weaken k rfl ?_,r.env,r.size,r.defers⟩,λ_ q=>q,rfl⟩;intro y h;cases y with
 |none=>exact h
 |some b=>
  obtain⟨l,g,j,f⟩:=h;refine⟨l,g,?_,f⟩;clear g f k
  induction d generalizing m l with
  |nil=>exact j
  |cons c d s=>
   obtain⟨v,e,rfl,t,n⟩:=j;cases m with
   |zero=>exact⟨v,e,rfl,trivial,n⟩
   |succ m=>exact⟨v,e,rfl,t,s e n⟩
theorem Pts.ents{i a t e f j g:Nat}{l:List Ent}{x:Ent}{d:List A}(he:l[e]?=some x)(q:H[i]?=some (.ents t j g l):=by exact rfl)(ho:a=e*3+f:=by exact rfl)(hcs:(eC j g x).drop f=d:=by exact rfl):Pts H (.ptr i a) d:=by
 intro u z σ w v s h;obtain⟨b,m,n⟩:=h;obtain⟨y,p,r⟩:=s.blk i _ _ m q;have k:(l.map (eC j g))[e]?=some (eC j g x):=by rw[Xl,he];rfl
 have:=((YA (pre:=[]) (by simpa using p) r).get e k).2.drop f;refine⟨b,a,n,?_⟩;rw[<- hcs,ho];simpa using this
end
section
variable {P:Program} {h0 N:Nat} {A B C:Code} {env:Env} {H:Qc} {Q:Qx}
end
section
variable {P:Program} {o:Oper} {env:Env} {H:Qc}
theorem Qdg{f g:Nat->Option (Nat×Nat)}:∀(parts:List (Nat×Value)) (cs:Array Value),(∀p∈parts,f p.1=g p.1)->Instr.fill f cs parts=Instr.fill g cs parts
 |[],cs,_=>rfl
 |(i,v)::rest,cs,h=>by
  unfold Instr.fill;rw[h (i,v) (by simp)];have ih:=λcs=>Qdg rest cs (λp hp=>h p (by simp[hp]));cases g i with
  |none=>rfl
  |some p=>
   simp;split
   .rfl
   .exact ih _
theorem QeA{t e n k:Nat}{z:Value}{zs f:List A}{parts:List (Nat×Operand)}(y:∀w,(zeroValue t).run P w=.ok z w)(m:ZR (.agg zs) z)(h:∀w,(underlying t).run P w=.ok (.array n e) w)(j:∀w,(sizeOf e).run P w=.ok k w)
  (G:(parts.all λp=>Nat.blt p.1 n)=true)(F:o.op=.build t parts.toArray:=by exact rfl)(hf:Qcw env ((List.range n).map λi=>(i*k,k)) zs parts=some f:=by exact rfl):OpV P o env H (.agg f):=by
 intro L s σ N a w r;obtain⟨l,rfl,g⟩:=m s σ w;obtain⟨d,x,B⟩:=Qdh r parts zs l f g hf;refine⟨.agg d.toArray,?_,d,rfl,B⟩;have u:Instr.fill (λi=>some (i*k,k)) l.toArray (parts.map λp=>(p.1,a.eval p.2))=some d.toArray:=by
  rw[<- x];refine Qdg _ _ ?_;intro p E;obtain⟨q,J,rfl⟩:=Xe.1 E;have hlt:=by simpa using Xo.1 G q J
  simp[hlt]
 simp[execOp,F,Instr.build,Vf,y,Result.andThen,h,j,XC,Vg,Value.cells,u]
def Yl(k:IntKind)(m n:Int):Int:=k.wrap (BitVec.ofInt k.bits m&&& BitVec.ofInt k.bits n).toNat
def Yp(k:IntKind)(m n:Int):Int:=m.fdiv (2^(min n.toNat k.bits))
theorem OpV.and{t u:TypeId}{x y:Operand}{k:IntKind}{m n:Int}(g:o.op=.binOp .and t x y u)(d:opA env x=.int k m)(h:opA env y=.int k n):OpV P o env H (.int k (Yl k m n)):=by
 intro j i σ N a w r;have f:=QG r d;have e:=QG r h;refine⟨_,?_,rfl⟩;generalize a.eval=ρ at*;simp[g,f,e,Op.intBits,go_sem,Yl]
theorem OpV.shr{t u:TypeId}{x y:Operand}{k g:IntKind}{m n:Int}(i:o.op=.binOp .shr t x y u)(d:opA env x=.int k m)(j:opA env y=.int g n)(e:0<=n):OpV P o env H (.int k (Yp k m n)):=by
 intro l p σ N a w r;have f:=QG r d;have h:=QG r j;refine⟨_,?_,rfl⟩;generalize a.eval=ρ at*;simp[i,f,h,Op.shift,go_sem,Yp,Int.not_lt.2 e]
theorem Yr{h0 i m t k T:Nat}{d:List A}(E:Nat.ble h0 H.length=true)(n:H[i]?=some (.cells T d))(f:d[m]?=some .nils):
  Le h0 env H env (H.set i (.cells T (d.set m (.osl H.length 0 0 k)))++[.row t k []]):=by
 intro J g σ N a w r;have hh':=XL E;have hi:=(XF.1 n).1;have ext:Ext g σ w g (σ++[none]) w:=⟨λ_ q=>q,λ_ _=>rfl,λ_ _ q=>q,λ_ _ h=>Qby h⟩;have s:=r.sim.phantom t k;have e:(H++[Blk.row t k []])[i]?=some (.cells T d):=by rw[XG hi];exact n
 have z:H.set i (.cells T (d.set m (.osl H.length 0 0 k)))++[.row t k []]=(H++[Blk.row t k []]).set i (.cells T (d.set m (.osl H.length 0 0 k))):=by
  rw[List.set_append_left _ _ hi]
 rw[z];refine⟨g,σ++[none],⟨s.weaken e rfl ?_,λq=>(r.env q).mono ext,r.size,r.defers⟩,λ_ q=>q,QB (by rw[r.sim.len];exact hh')⟩;intro y h;cases y with
 |none=>exact h
 |some b=>
  obtain⟨l,u,G,p⟩:=h;refine⟨l,u,?_,p⟩;clear u p e z n
  induction d generalizing m l with
  |nil=>cases f
  |cons c d F=>
   obtain⟨v,j,rfl,x,B⟩:=G;cases m with
   |zero=>
    simp at f;subst f;exact⟨v,j,rfl,.inl ⟨rfl,x⟩,B⟩
   |succ m=>exact⟨v,j,rfl,x,F (by simpa using f) j B⟩
def SrcB(P:Program)(H:Qc)(x:A)(l:List Int):Prop:=
 ∀fr ro σ w v,Sim fr ro σ H w->VR ro σ w x v->(∃a c,v=.slice a 0 c/\l=[])\/ ∃b off c,v=.slice (some ⟨b,off,none⟩) l.length c/\(l=[]\/CR ro σ w b (l.map λn=>A.int .u8 n) off)
theorem Qem:∀(l:List Int),(l.map (λn=>[A.int .u8 n])).flatten=l.map λn=>A.int .u8 n
 |[]=>rfl
 |n::l=>by simp[Qem l]
theorem SrcB.nils:SrcB P H .nils []:=λfr ro σ w v s h=>.inl ⟨none,0,h,rfl⟩
theorem SrcB.row{i t n:Nat}{l:List Int}(j:H[i]?=some (.row t 1 (l.map λn=>[A.int .u8 n])):=by exact rfl)(hn:l.length=n:=by exact rfl):SrcB P H (.osl i 0 n 1) l:=by
 intro y E σ w v s h;rcases h with⟨rfl,rfl⟩|⟨b,p,a,F,m,g,rfl,k,⟨z,f⟩,u,x⟩
 .exact .inl ⟨none,0,rfl,Vu.1 hn⟩
 .refine .inr ⟨b,p,a,by rw[hn],?_⟩;by_cases e:l=[]
  .exact .inl e
  .have:0<a:=by have:=List.length_pos_iff.2 e;omega
   obtain rfl:=k this;obtain⟨B,q,r⟩:=s.blk i _ _ g j;have d:=(YA (pre:=[]) (by simpa using q) r).flat.1;rw[Qem]at d;exact .inr (by simpa using d.lift)
theorem SrcB.rsl{l:List Int}:SrcB P H (.rsl 1 (l.map λn=>[A.int .u8 n])) l:=by
 intro i j σ w v s ⟨a,c,h1,h2,d⟩;subst h1;rw[XU]at*;rcases d with d|⟨b,e,rfl,h,g⟩
 .have:=List.map_eq_nil_iff.1 d;subst this;exact .inl ⟨a,c,by simp,rfl⟩
 .have f:=g.flat.1;rw[Qem]at f;exact .inr ⟨b,e,c,rfl,.inr f.lift⟩
end
def QaS:Option Blk->Bool
 |some .dead=>true
 |_=>false
def Qal(hB hE:Nat)(H H':Qc):Bool:=(List.range (hE-hB)).all λp=> !QaS H'[hB+p]? ||QaS H[hB+p]?
def Qgv(hB hE:Nat)(σ:Sig)(H:Qc):Prop:=∀p,hB<=p->p<hE->QaS H[p]?=true->σ[p]?=some none
theorem QgP{hB hE:Nat}{H H':Qc}(h:Qal hB hE H H'=true){p:Nat}(d:hB<=p)(e:p<hE)(a:QaS H'[p]?=true):QaS H[p]?=true:=by
 have:=Xo.1 h (p-hB) (List.mem_range.2 (by omega));rw[show hB+(p-hB)=p by omega,a]at this;simpa using this
theorem Sim.allocAt{fr ro:Nat->Prop}{σ:Sig}{H:Qc}{w:World}(s:Sim fr ro σ H w){p:Nat}(J:σ[p]?=some none){obj:Obj}{x:Blk}
  (P:BR ro (σ.set p (some w.heap.size)) (w.alloc obj) x (some w.heap.size))
  (E:∀c,Hid (w.alloc obj) x w.heap.size c->False:=by exact λ_ h=>h.elim):Sim fr ro (σ.set p (some w.heap.size)) (H.set p x) (w.alloc obj):=by
 have ev:Qj fr ro w ro (w.alloc obj):=Qj.alloc obj s.roLt s.frLt;have u:=s.len;have F:p<σ.length:=(XF.1 J).1;have t:Ext ro σ w ro (σ.set p (some w.heap.size)) (w.alloc obj):=⟨ev.sub,ev.keepRo,ev.shape,λi b q=>by
  rw[XJ (λz=>by subst z;rw[J]at q;cases q)];exact q⟩
 have e:∀(i:Nat) (y:Option Nat),(σ.set p (some w.heap.size))[i]?=some y->(i≠p/\σ[i]?=some y)\/(i=p/\y=some w.heap.size):=by
  intro i y h;by_cases q:i=p
  .subst q;rw[Xa F]at h;exact .inr ⟨rfl,(XS h).symm⟩
  .rw[XJ (λz=>q z.symm)]at h;exact .inl ⟨q,h⟩
 have m:∀i:Nat,i≠p->(H.set p x)[i]?=H[i]? :=λi N=>XJ (λz=>N z.symm);have G:(H.set p x)[p]?=some x:=Xa (by omega);refine⟨by simp[u],s.roOk.to (λ_ q=>q) ev.keepRo (λb h=>?_),λb h=>?_,s.roFr,?_,?_,?_,s.hidTo (· = ·) QU (by rw[YC];omega) (λ_ _ _ _ _ _ _ q=>q) (λ_ _ _ _ _ _ _ q=>q) λj d y l k Q=>?_⟩
 rotate_left 5
 .rcases e j _ l with⟨q,l⟩|⟨rfl,n⟩
  .rw[m j q]at k;exact .inl ⟨j,y,rfl,l,k,id,λc q=>s.hidKeep l k (λz=>QZ w obj d (s.own j d y l k z).1) ev.keepRo q⟩
  .rw[G]at k;cases k;cases n;exact .inr ⟨XM _,E⟩
 .rw[YC];have:=s.roLt b h;omega
 .rw[YC];have:=s.frLt b h;omega
 .intro i b y g f r;rw[YC];rcases e i _ g with⟨q,g⟩|⟨rfl,n⟩
  .rw[m i q]at f;obtain⟨a,b,c⟩:=s.own i b y g f r;exact⟨by omega,b,c⟩
  .cases n;exact⟨by omega,λq=>by have:=s.roLt _ q;omega,λq=>by have:=s.frLt _ q;omega⟩
 .intro i j b y z g f r B L M;rcases e i _ g with⟨q,l⟩|⟨O,n⟩<;>rcases e j _ f with⟨q',k⟩|⟨ej,e2⟩
  .rw[m i q]at r;rw[m j q']at B;exact s.inj i j b y z l k r B L M
  .cases e2;rw[m i q]at r;have:=(s.own i _ y l r L).1;omega
  .cases n;rw[m j q']at B;have:=(s.own j _ z k B M).1;omega
  .rw[O,ej]
 .intro i y z g f;rcases e i _ g with⟨q,g⟩|⟨rfl,n⟩
  .rw[m i q]at f;refine(s.blk i y z g f).keep t ?_ ?_
   .rintro b rfl u;exact QZ w obj b (s.own i b z g f u).1
   .rintro b c rfl u;exact QZ w obj c (s.hid i b z c g f u).lt
  .rw[G]at f;cases f;subst n;exact P
def OpZ(P:Program)(o:Oper)(t:Nat)(cs:List A):Prop:=
 ∀(ro:Nat->Prop) (σ:Sig) (w:World) (a:Act),∃l:List Value,(execOp a.eval o).run P w=.ok (.value (.pointer (some ⟨w.heap.size,0,none⟩))) (w.alloc (.cells l.toArray t))/\LR ro σ w cs l/\ ∀v∈l,Qv v
theorem OpZ.alloc{P:Program}{o:Oper}{t:Nat}{z:Value}{v:A}{d:List A}(h:∀w,(zeroValue t).run P w=.ok z w)(j:ZR v z)(k:o.op=.alloc t:=by exact rfl)(hk:Q4 v=true:=by exact rfl)(hcs:QW v=d:=by exact rfl)(hpl:d.all Yd=true:=by exact rfl):
  OpZ P o t d:=by
 intro g σ w a;obtain⟨l,i,f⟩:=(j g σ w).cells hk;subst hcs;refine⟨l,?_,f,f.plain hpl⟩;generalize a.eval=ρ at*;have e:(newVar t z).run P w=.ok ⟨w.heap.size,0,none⟩ (w.alloc (.cells l.toArray t)):=by
  unfold newVar;rw[i];rfl
 simp only[execOp,k,Instr.alloc,Vf,h,Result.andThen,e];rfl
def OpZR(P:Program)(o:Oper)(e:Env)(H:Qc)(p:Nat)(x:A)(B:Blk):Prop:=
 ∀fr ro σ N a w,Rel fr ro σ H e N a w->∃v obj,(execOp a.eval o).run P w=.ok (.value v) (w.alloc obj)/\(∀c,Hid (w.alloc obj) B w.heap.size c->False)/\
  ∀σ',σ'[p]?=some (some w.heap.size)->Ext ro σ w ro σ' (w.alloc obj)->VR ro σ' (w.alloc obj) x v/\BR ro σ' (w.alloc obj) B (some w.heap.size)
theorem Qbl{P:Program}{l:List Oper}{i:Nat}{o:Oper}{rd:Option Nat}{R:Exit->Act->World->Prop}{Q:Exit->Act->World->Prop}{K:Act->World->Prop}{a:Act}{w:World}
  (E:l[i]?=some o)(h:wpL P rd l.toArray R [o] a w)(j:∀e a' w',R e a' w'->e=.normal/\a'.defers=a.defers)(m:∀v w',R .normal (a.put o.dst v) w'->K (a.put o.dst v) w'):
  wpOpIn (WF rd) 0 P l.toArray Q i K a w:=by
 unfold wpOpIn;have s:l.toArray[i]?=some o:=by simpa using E
 rw[s];simp only;unfold wpL wpListIn at h;split at h
 .rename_i u;rw[Vk u];obtain⟨k,h⟩:=h;refine⟨k,?_⟩;have g:=QeM (by
   intro a' w' q;unfold wpListIn at q;exact(j _ _ _ q).2) h
  generalize(o.semAt (WF rd).round a.eval).run P w=res at*;cases res with
  |ok n w'=>
   cases n with
   |value v=>exact m _ _ g.1
   |skip=>exact m _ _ g.1
   |defer G=>
    exfalso;have:=(j _ _ _ g.1).2;have:=congrArg List.length this
    revert this
    cases o.dst<;>simp[Act.put]
   |enter f p=>
    refine⟨g.1,CallsIn.mono g.2 (λe t d=>?_)⟩;cases e with
    |returned v=>exact m _ _ d.1
    |panicked c=>have:=(j _ _ _ d).1;cases this
    |outgrown=>obtain⟨B,F,d⟩:=d;have:=(j _ _ _ d).1;cases this
   |row r p=>
    exact⟨g.1,RowsIn.mono g.2 (λ_ _ d=>m _ _ d.1)⟩
   |round l f y assign z=>
    refine⟨g.1,RoundIn.mono g.2 (λe t d=>?_)⟩;cases e with
    |returned v=>exact m _ _ d.1
    |panicked c=>have:=(j _ _ _ d).1;cases this
    |outgrown=>obtain⟨B,F,d⟩:=d;have:=(j _ _ _ d).1;cases this
   |_=>exact g.elim
  |halt x w'=>
   cases x with
   |panic v=>have:=(j _ _ _ g).1;cases this
   |_=>exact g.elim
 .rename_i u;rw[Vj u];obtain⟨k,h⟩:=h;refine⟨k,?_⟩;unfold wpListIn at h;exact m _ _ h
theorem QgO{P:Program}{l:List Oper}{m:Nat}(p:∀i o,l[i]?=some o->∀j∈Qk o,j<i)(n:∀i o,m<i->l[i]?=some o->i-1∈Qk o){Q:Exit->Act->World->Prop}{rd:Option Nat}:
  ∀(d t:Nat) (L:Array Bool) (a:Act) (w:World),L.size=l.length->(∀i,i<l.length->(onL L i↔i<t))->unl L<=d->m<=t->t<=l.length->
   wpL P rd l.toArray Q (l.drop t) a w->wpAnyIn (WF rd) 0 P .any l.toArray Q d L a w:=by
 intro d
 induction d with
 |zero=>
  intro t L a w hsz hL hf hm ht h;have:t=l.length:=by
   rcases Vn t l.length with q|q
   .have:=Qf6 (L:=L) (i:=t) (by omega) (λz=>by have:=(hL t q).1 z;omega);omega
   .omega
  subst this;refine⟨List.eq_nil_iff_forall_not_mem.2 λi r=>?_,?_⟩
  .obtain⟨o,g,k,_⟩:=(Qau hsz).1 r;have e:=(XF.1 g).1;exact k ((hL i e).2 e)
  .rw[Xn]at h;exact h
 |succ d H=>
  intro t L a w hsz hL hf hm ht h;have x:∀i o,l[i]?=some o->¬onL L i->(∀j∈Qk o,onL L j)->i=t:=by
   intro i o g k y;have e:=(XF.1 g).1;have J:t<=i:=by
    rcases Vn i t with q|q
    .exact absurd ((hL i e).2 q) k
    .exact q
   rcases Vn t i with q|q
   .have:=(hL (i-1) (by omega)).1 (y _ (n i o (by omega) g));omega
   .omega
  rcases Vn t l.length with f|f
  .have G:l[t]?=some l[t]:=XE f;have s:¬onL L t:=λq=>by have:=(hL t f).1 q;omega
   have E:t∈Region.ready .any l.toArray L:=by
    refine(Qau hsz).2 ⟨_,G,s,λj B=>?_⟩;have:=p t _ G j B;exact(hL j (by omega)).2 this
   refine⟨λq=>(by rw[q]at E;cases E),λi r=>?_⟩;obtain⟨o,g,k,y⟩:=(Qau hsz).1 r;obtain rfl:=x i o g k y;rw[Xm f]at h;obtain rfl:l[i]=o:=by rw[XE f]at g;exact XS g
   unfold wpOpIn;rw[show l.toArray[i]?=some l[i]by rw[XA];exact g];simp only;unfold wpL wpListIn at h;have F:∀a w,wpL P rd l.toArray Q (l.drop (i+1)) a w->wpAnyIn (WF rd) 0 P .any l.toArray Q d (L.setIfInBounds i true) a w:=by
    intro a w q;have M:=Qea (L:=L) (i:=i) (by omega) s;refine H (i+1) _ a w (by simpa using hsz) (λj B=>?_) (by omega) (by omega) (by omega) q;rw[YT (by omega),hL j B];omega
   split at h
   .rename_i u;rw[Vk u];exact Oper.wpIn_mono F h
   .rename_i u;rw[Vj u];exact⟨h.1,F _ _ h.2⟩
  .have:t=l.length:=by omega
   subst this;rw[Xn]at h;refine⟨λ_=>h,λi r=>?_⟩;obtain⟨o,g,k,_⟩:=(Qau hsz).1 r;have e:=(XF.1 g).1;exact absurd ((hL i e).2 e) k
def Qis(af ds:List Nat)(xs:List A)(env0 e:Env):Prop:=
 ∀s,(∃j x,af.contains j=true/\ds[j]?=some s/\xs[j]?=some x/\lk e s=x)\/lk e s=.any\/(ds.contains s=false/\lk e s=lk env0 s)
inductive YQ (P:Program) (N:Nat) (l:List Oper) (ds:List Nat) (xs:List A) (env0:Env) (hB hE:Nat) (i:Nat) (H H':Qc):Prop
 |mk (o:Oper) (e:Env) (d:Nat) (x:A) (ho:l[i]?=some o) (hd:o.dst=some d) (hx:xs[i]?=some x) (hdd:Qal hB hE H H'=true) (hs:Sb (Qk o) (Qeq l i) ds xs env0 e)
   (h:WO P H.length N l.toArray [o] e H (YB (up e d x) H')):YQ P N l ds xs env0 hB hE i H H'
 |unit (o:Oper) (e:Env) (ho:l[i]?=some o) (hd:o.dst=none) (hx:xs[i]?=some .any) (hdd:Qal hB hE H H'=true) (hs:Sb (Qk o) (Qeq l i) ds xs env0 e)
   (h:WO P H.length N l.toArray [o] e H (YB e H')):YQ P N l ds xs env0 hB hE i H H'
 |alloc (o:Oper) (d t p:Nat) (cs:List A) (ho:l[i]?=some o) (hd:o.dst=some d) (hg:o.guard=none) (hx:xs[i]?=some (.ptr p 0)) (hp:(Nat.ble hB p&&Nat.blt p hE)=true) (hdead:QaS H[p]?=true)
   (hH:H.set p (.cells t cs)=H') (h:OpZ P o t cs) (hN:Nat.blt d N=true):YQ P N l ds xs env0 hB hE i H H'
 |row (o:Oper) (e:Env) (d p:Nat) (x:A) (B:Blk) (ho:l[i]?=some o) (hd:o.dst=some d) (hg:o.guard=none) (hx:xs[i]?=some x) (hp:(Nat.ble hB p&&Nat.blt p hE)=true) (hdead:QaS H[p]?=true) (hlive:QaS (some B)=false)
   (hH:H.set p B=H') (hs:Sb (Qk o) (Qeq l i) ds xs env0 e) (h:OpZR P o e H p x B) (hN:Nat.blt d N=true):YQ P N l ds xs env0 hB hE i H H'
 |val (o:Oper) (e:Env) (d:Nat) (x:A) (ho:l[i]?=some o) (hd:o.dst=some d) (hg:o.guard=none) (hx:xs[i]?=some x) (hN:Nat.blt d N=true) (he:Qis (Qk o) ds xs env0 e) (h:OpV P o e H x)
   (hH:H=H':=by rfl):YQ P N l ds xs env0 hB hE i H H'
 |woE (o:Oper) (e:Env) (d:Nat) (x:A) (ho:l[i]?=some o) (hd:o.dst=some d) (hx:xs[i]?=some x) (he:Qis (Qk o) ds xs env0 e) (hdd:Qal hB hE H H'=true) (h:WO P H.length N l.toArray [o] e H (YB (up e d x) H')):YQ P N l ds xs env0 hB hE i H H'
theorem Sb.rel{af g f:List Nat}{xs:List A}{env0 e:Env}{ro:Nat->Prop}{σ:Sig}{w:World}{a:Act}(h:Sb af g f xs env0 e)
  (k:∀j∈af,∀s x,f[j]?=some s->xs[j]?=some x->VR ro σ w x (a.tmps.getD s undef))
  (l:∀s,f.contains s=false->VR ro σ w (lk env0 s) (a.tmps.getD s undef))(i:∀j s,g.contains j=true->f[j]?=some s->VR ro σ w (lk env0 s) (a.tmps.getD s undef)):
  ∀s,VR ro σ w (lk e s) (a.tmps.getD s undef):=by
 intro s
 induction h with
 |nil=>exact trivial
 | @dep j s1 x1 r h1 h2 h3 _ ih=>
  unfold lk;cases d:Nat.beq s s1 with
  |false=>exact ih
  |true=>
   obtain rfl:=XK d;exact k j (by simpa using h1) _ _ h2 h3
 | @old s1 x1 r h1 h2 _ ih=>
  unfold lk;cases d:Nat.beq s s1 with
  |false=>exact ih
  |true=>
   obtain rfl:=XK d;subst h2;exact l _ h1
 | @pre j s1 x1 r h1 h2 h3 _ ih=>
  unfold lk;cases d:Nat.beq s s1 with
  |false=>exact ih
  |true=>
   obtain rfl:=XK d;subst h3;exact i j _ h1 h2
structure After (fr ro:Nat->Prop) (σ:Sig) (w:World) (hB hE:Nat) (H':Qc) (xs:List A) (i:Nat) (o:Oper) (a':Act) (w':World) (ro':Nat->Prop) (σ':Sig):Prop where
 val:∀x,xs[i]?=some x->match o.dst with
  |some d=>VR ro' σ' w' x (a'.tmps.getD d undef)
  |none=>x=.any
 sim:Sim fr ro' σ' H' w'
 ev:Qj fr ro w ro' w'
 ext:Ext ro σ w ro' σ' w'
 holes:Qgv hB hE σ' H'
 take:σ'.take hB=σ.take hB
theorem YQ.use{P:Program}{N:Nat}{l:List Oper}{ds:List Nat}{xs:List A}{env0:Env}{hB hE i:Nat}{H H':Qc}(hb:YQ P N l ds xs env0 hB hE i H H')
  {Q:Exit->Act->World->Prop}{K:Act->World->Prop}{fr ro:Nat->Prop}{σ:Sig}{a:Act}{w:World}{o:Oper}{rd:Option Nat}(O:l[i]?=some o)
  (f:Sim fr ro σ H w)(hN:a.tmps.size=N)(m:QaN fr a.defers w)(ae:Qch rd fr w)(hh:Qgv hB hE σ H)(hl:hE<=H.length)(al:hB<=hE)
  (hD:∀j∈Qk o,∀s x,ds[j]?=some s->xs[j]?=some x->VR ro σ w x (a.tmps.getD s undef))
  (hO:∀s,ds.contains s=false->VR ro σ w (lk env0 s) (a.tmps.getD s undef))(hP:∀j s,(Qeq l i).contains j=true->ds[j]?=some s->VR ro σ w (lk env0 s) (a.tmps.getD s undef))
  (hK:∀v w' ro' σ',After fr ro σ w hB hE H' xs i o (a.put o.dst v) w' ro' σ'->K (a.put o.dst v) w'):
  wpOpIn (WF rd) 0 P l.toArray Q i K a w:=by
 have V:∀{e:Env} {H2:Qc} {E:Exit} {u:Act} {w':World},Qa7 H.length fr ro σ w N a.defers (YB e H2) E u w'->E=.normal/\u.defers=a.defers:=by
  rintro e H2 E u w' ⟨x,_,_,_,_,_,k,⟨rfl,_⟩,_,_,_,L,_⟩;refine⟨?_,L⟩;cases E<;>first|rfl|exact k.elim|cases k
 have ai:∀{σ':Sig} {w':World},Qj fr ro w ro w'->σ'.take H.length=σ.take H.length->True:=λ_ _=>trivial;have aa:∀{e:Env} {u:Act} {w':World},Qa7 H.length fr ro σ w N a.defers (YB e H') .normal u w'->Qal hB hE H H'=true->
   ∃ro' σ',Sim fr ro' σ' H' w'/\Qj fr ro w ro' w'/\Ext ro σ w ro' σ' w'/\Qgv hB hE σ' H'/\σ'.take hB=σ.take hB/\ ∀s,VR ro' σ' w' (lk e s) (u.tmps.getD s undef):=by
  rintro e u w' ⟨_,aj,H2,ro',σ',ak,_,⟨_,rfl,rfl⟩,r',he,ht,_,ah⟩ F;have hσ:σ'=σ++σ'.drop H.length:=by
   conv=>lhs;rw[<- Xu H.length σ']
   rw[ht, <- f.len,X2]
  refine⟨ro',σ',r'.sim.frMono ah.sub,he,?_,?_,?_,r'.env⟩
  .rw[hσ];exact he.ext σ _
  .intro p k L h3;have:=hh p k L (QgP F k L h3);rw[hσ,XG (by rw[f.len];omega)];exact this
  .rw[hσ];exact QB (by rw[f.len];omega)
 cases hb with
 |woE n e d x g M T he F h=>
  obtain rfl:n=o:=XS (g.symm.trans O);have hr:∀s,VR ro σ w (lk e s) (a.tmps.getD s undef):=λs=>by
   rcases he s with⟨j,x,k,L,h3,W⟩|W|⟨k,W⟩
   .rw[W];exact hD j (by simpa using k) s x L h3
   .rw[W];exact trivial
   .rw[W];exact hO s k
  refine Qbl O (h rd fr ro σ a w ⟨f,hr,hN,m⟩ ae) (λ_ _ _ q=>V q) (λv w' q=>?_);obtain⟨ro',σ',g1,g2,G,g4,g5,g6⟩:=aa q F;refine hK v w' ro' σ' ⟨λy Y=>?_,g1,g2,G,g4,g5⟩;obtain rfl:=XS (T.symm.trans Y);have:=g6 d;unfold lk at this;rw[Vq]at this;rw[M]at this⊢;exact this
 |mk n e d x g M T F hs h=>
  obtain rfl:n=o:=XS (g.symm.trans O);refine Qbl O (h rd fr ro σ a w ⟨f,hs.rel hD hO hP,hN,m⟩ ae) (λ_ _ _ q=>V q) (λv w' q=>?_);obtain⟨ro',σ',g1,g2,G,g4,g5,g6⟩:=aa q F;refine hK v w' ro' σ' ⟨λy Y=>?_,g1,g2,G,g4,g5⟩;obtain rfl:=XS (T.symm.trans Y);have:=g6 d;unfold lk at this;rw[Vq]at this;rw[M]at this⊢;exact this
 |unit n e g M T F hs h=>
  obtain rfl:n=o:=XS (g.symm.trans O);refine Qbl O (h rd fr ro σ a w ⟨f,hs.rel hD hO hP,hN,m⟩ ae) (λ_ _ _ q=>V q) (λv w' q=>?_);obtain⟨ro',σ',g1,g2,G,g4,g5,g6⟩:=aa q F;refine hK v w' ro' σ' ⟨λy Y=>?_,g1,g2,G,g4,g5⟩;obtain rfl:=XS (T.symm.trans Y);rw[M]
 |val n e d x g M hg T ab he h hH=>
  obtain rfl:n=o:=XS (g.symm.trans O);subst hH;have hr:Rel fr ro σ H e N a w:=by
   refine⟨f,λs=>?_,hN,m⟩;rcases he s with⟨j,x,k,L,h3,W⟩|W|⟨k,W⟩
   .rw[W];exact hD j (by simpa using k) s x L h3
   .rw[W];exact trivial
   .rw[W];exact hO s k
  obtain⟨v0,k,L⟩:=h fr ro σ N a w hr;have hw:Region.wanted n (yielded l.toArray a.tmps)=true:=by unfold Region.wanted;rw[hg]
  refine Qbl (R:=λE u w'=>E=.normal/\u.defers=a.defers/\u=a.put n.dst v0/\w'=w) O (YO hw k ?_) (λ_ _ _ q=>⟨q.1,q.2.1⟩) (λv w' q=>?_)
  .unfold wpL wpListIn;refine⟨rfl,?_,rfl,rfl⟩;rw[M];rfl
  .obtain⟨_,_,q1,rfl⟩:=q;refine hK v _ ro σ ⟨λy Y=>?_,f,Qj.refl _ _ _,⟨λ_ q=>q,λ_ _=>rfl,λ_ _ q=>q,λ_ _ q=>q⟩,hh,rfl⟩;obtain rfl:=XS (T.symm.trans Y);rw[q1,M];have X:d<a.tmps.size:=by rw[hN];simpa using ab
   show VR ro σ w' x _;simpa[Act.put,Array.getD_eq_getD_getElem?,X]using L
 |row n e d p x B g M hg T hp J hlive hH hs h ab=>
  obtain rfl:n=o:=XS (g.symm.trans O);subst hH;simp only[XP]at hp;have ag:=XL hp.1;have af:p<hE:=by simpa using hp.2
  have hσp:=hh p ag af J;have hr:Rel fr ro σ H e N a w:=⟨f,hs.rel hD hO hP,hN,m⟩;obtain⟨v0,ac,k,L,h3⟩:=h fr ro σ N a w hr;have hw:Region.wanted n (yielded l.toArray a.tmps)=true:=by unfold Region.wanted;rw[hg]
  have ev:Qj fr ro w ro (w.alloc ac):=Qj.alloc _ f.roLt f.frLt;have ad:p<σ.length:=by rw[f.len];omega
  have r:Ext ro σ w ro (σ.set p (some w.heap.size)) (w.alloc ac):=⟨ev.sub,ev.keepRo,ev.shape,λj b q=>by
   rw[XJ (λz=>by subst z;rw[hσp]at q;cases q)];exact q⟩
  obtain⟨g8,g9⟩:=h3 _ (Xa ad) r;refine Qbl (R:=λE u w'=>E=.normal/\u.defers=a.defers/\u=a.put n.dst v0/\w'=w.alloc ac) O (YO hw k ?_) (λ_ _ _ q=>⟨q.1,q.2.1⟩) (λv w' q=>?_)
  .unfold wpL wpListIn;refine⟨rfl,?_,rfl,rfl⟩;rw[M];rfl
  .obtain⟨_,_,q1,rfl⟩:=q;refine hK v _ ro (σ.set p (some w.heap.size)) ⟨λy Y=>?_,f.allocAt hσp g9 L,ev,r,λp' g1 g2 G=>?_,?_⟩
   .obtain rfl:=XS (T.symm.trans Y);rw[q1,M];have X:d<a.tmps.size:=by rw[hN];simpa using ab
    show VR ro _ _ x _;simpa[Act.put,Array.getD_eq_getD_getElem?,X]using g8
   .by_cases q:p'=p
    .subst q;rw[Xa (by omega),hlive]at G;cases G
    .rw[XJ (λz=>q z.symm)]at G⊢;exact hh p' g1 g2 G
   .rw[List.take_set,List.set_eq_of_length_le];rw[Xt];omega
 |alloc n d t p cs g M hg T hp J hH h ab=>
  obtain rfl:n=o:=XS (g.symm.trans O);subst hH;simp only[XP]at hp;have ag:=XL hp.1;have af:p<hE:=by simpa using hp.2
  have hσp:=hh p ag af J;obtain⟨lv,k,L,h3⟩:=h ro σ w a;have hw:Region.wanted n (yielded l.toArray a.tmps)=true:=by unfold Region.wanted;rw[hg]
  have ev:Qj fr ro w ro (w.alloc (.cells lv.toArray t)):=Qj.alloc _ f.roLt f.frLt;have ad:p<σ.length:=by rw[f.len];omega
  have r:Ext ro σ w ro (σ.set p (some w.heap.size)) (w.alloc (.cells lv.toArray t)):=⟨ev.sub,ev.keepRo,ev.shape,λj b q=>by
   rw[XJ (λz=>by subst z;rw[hσp]at q;cases q)];exact q⟩
  refine Qbl (R:=λE u w'=>E=.normal/\u.defers=a.defers/\u=a.put n.dst (.pointer (some ⟨w.heap.size,0,none⟩))/\w'=w.alloc (.cells lv.toArray t)) O (YO hw k ?_) (λ_ _ _ q=>⟨q.1,q.2.1⟩) (λv w' q=>?_)
  .unfold wpL wpListIn;refine⟨rfl,?_,rfl,rfl⟩;rw[M];rfl
  .obtain⟨_,_,q1,rfl⟩:=q;refine hK v _ ro (σ.set p (some w.heap.size)) ⟨λy Y=>?_,f.allocAt hσp ⟨lv,Yf _ _,L.mono r,h3⟩,ev,r,λp' g1 g2 G=>?_,?_⟩
   .obtain rfl:=XS (T.symm.trans Y);rw[q1,M];have X:d<a.tmps.size:=by rw[hN];simpa using ab
    refine⟨w.heap.size,Xa ad,?_⟩;simp[Act.put,Array.getD_eq_getD_getElem?,X]
   .by_cases q:p'=p
    .subst q;rw[Xa (by omega)]at G;cases G
    .rw[XJ (λz=>q z.symm)]at G⊢;exact hh p' g1 g2 G
   .rw[List.take_set,List.set_eq_of_length_le];rw[Xt];omega
def same(a b:List Nat):Bool:=a.all (b.contains ·)&&b.all (a.contains ·)
theorem QiC{a b:List Nat}(h:same a b=true)(i:Nat):i∈a↔i∈b:=by
 unfold same at h;simp only[XP,Xo,List.contains_iff_mem]at h;exact⟨h.1 i,h.2 i⟩
structure Qiv (l:List Oper) (m:Nat) (ds:List Nat) (hs:List Bool) (rq ms:List (List Nat)) (pl:List (List (Nat×Nat))) (N:Nat):Prop where
 len:m<=l.length
 dst:∀i o,i<m->l[i]?=some o->(∃d,o.dst=some d/\ds[i]?=some d/\d<N)\/o.dst=none
 dsl:ds.length=m
 nodup:∀(i j d:Nat),ds[i]?=some d->ds[j]?=some d->i=j
 back:∀i o,l[i]?=some o->∀j∈Qk o,j<i
 mid:∀o,l[m]?=some o->∀j,j<m->Qbv l m j
 chain:∀i o,m<i->l[i]?=some o->i-1∈Qk o
 rqs:∀i o,i<m->l[i]?=some o->∀h∈rq.getD i [],h<m/\hs.getD h false=true/\(h∈Qk o\/ ∃j∈Qk o,j<m/\h∈rq.getD j [])
 ms0:ms.getD 0 []=[]
 full:∀st,st<ms.length->st+1=ms.length\/ ∃i,i<m/\hs.getD i false=true/\i∉ms.getD st []
 msh:∀st h,h∈ms.getD st []->h<m/\hs.getD h false=true
 pls:∀i st,i<m->st<ms.length->(∀h∈rq.getD i [],h∈ms.getD st [])->(hs.getD i false=true->i∉ms.getD st [])->(∀h∈ms.getD st [],¬Qbv l h i)->
  ∃st',(st,st')∈pl.getD i []/\st'<ms.length/\if hs.getD i false then∀j,j∈ms.getD st' []↔j=i\/j∈ms.getD st []else st'=st
theorem Qjb{α:Type}{l:List α}{i:Nat}{d x:α}(h:l[i]?=some x):l.getD i d=x:=by rw[Vw,h];rfl
theorem Qfd{P:Program}{l:List Oper}{m:Nat}{ds:List Nat}{hs:List Bool}{rq Y:List (List Nat)}{pl:List (List (Nat×Nat))}{N h0 hB hE:Nat}{xs:List A}{env0:Env}{Hs:List Qc}{Hk:Qc}
  (ok:Qiv l m ds hs rq Y pl N)(az:xs.length=m)(bb:Hs.length=Y.length)(au:h0<=hB)(a7:hB<=hE)(aw:∀H∈Hs,hE<=H.length)
  (a6:∀i p,i<m->p∈pl.getD i []->YQ P N l ds xs env0 hB hE i (Hs.getD p.1 []) (Hs.getD p.2 []))(an:Hs.getD (Y.length-1) []=Hk)
  {fr ro0:Nat->Prop}{σ0:Sig}{w0:World}{rd:Option Nat}{ds0:List Deferred}{R:Exit->Act->World->Prop}
  (hk:∀ro σ a w,Rel fr ro σ Hk (Qam ds xs env0) N a w->Qj fr ro0 w0 ro w->σ.take h0=σ0.take h0->a.defers=ds0->wpL P rd l.toArray R (l.drop m) a w)(aj:QaN fr ds0 w0)(ar:Qch rd fr w0):
  ∀(f:Nat) (L:Array Bool) (a:Act) (w:World) (ro:Nat->Prop) (σ:Sig) (u:Nat),
   L.size=l.length->unl L<=f->(∀i,m<=i->¬onL L i)->u<Y.length->Sim fr ro σ (Hs.getD u []) w->a.tmps.size=N->a.defers=ds0->
   (∀(i d:Nat) (x:A),onL L i->ds[i]?=some d->xs[i]?=some x->VR ro σ w x (a.tmps.getD d undef))->(∀s,(∀j,ds[j]?=some s->¬onL L j)->VR ro σ w (lk env0 s) (a.tmps.getD s undef))->
   Qj fr ro0 w0 ro w->σ.take h0=σ0.take h0->Qgv hB hE σ (Hs.getD u [])->
   (∀i,i<m->onL L i->∀h∈rq.getD i [],onL L h)->(∀i,i<m->hs.getD i false=true->(onL L i↔i∈Y.getD u []))->
   (∀i o,onL L i->l[i]?=some o->∀j∈Qk o,onL L j)->
   wpAnyIn (WF rd) 0 P .any l.toArray R f L a w:=by
 have a0:∀u,u<Y.length->hE<=(Hs.getD u []).length:=by
  intro u h;have e:Hs[u]?=some Hs[u]:=XE (by omega);rw[Qjb e];exact aw _ (X6 _)
 have fin:∀(f:Nat) (L:Array Bool) (a:Act) (w:World) (ro:Nat->Prop) (σ:Sig) (u:Nat),
   L.size=l.length->unl L<=f->(∀i,m<=i->¬onL L i)->u<Y.length->Sim fr ro σ (Hs.getD u []) w->a.tmps.size=N->a.defers=ds0->
   (∀(i d:Nat) (x:A),onL L i->ds[i]?=some d->xs[i]?=some x->VR ro σ w x (a.tmps.getD d undef))->(∀s,(∀j,ds[j]?=some s->¬onL L j)->VR ro σ w (lk env0 s) (a.tmps.getD s undef))->
   Qj fr ro0 w0 ro w->σ.take h0=σ0.take h0->
   (∀i,i<m->hs.getD i false=true->(onL L i↔i∈Y.getD u []))->(∀i,i<m->onL L i)->
   wpAnyIn (WF rd) 0 P .any l.toArray R f L a w:=by
  intro f L a w ro σ u hsz hu hsuf hst hsim hN hdef hD hE' hev htk hI2 r;have ah:u=Y.length-1:=by
   rcases ok.full u hst with q|⟨i,Q,h2,h3⟩
   .omega
   .exact absurd ((hI2 i Q h2).1 (r i Q)) h3
  rw[ah,an]at hsim;refine QgO ok.back ok.chain f m L a w hsz (λi hi=>⟨λq=>?_,λq=>r i q⟩) hu (XM _) ok.len ?_
  .rcases Vn i m with z|z
   .exact z
   .exact absurd q (hsuf i z)
  .have hr:Rel fr ro σ Hk (Qam ds xs env0) N a w:=by
    refine⟨hsim,λs=>?_,hN,by rw[hdef];exact aj.keep hev⟩;rcases QiI (env0:=env0) (by rw[ok.dsl,az]) s with⟨j,x,Q,h2,h3⟩|⟨Q,h2⟩
    .rw[h3];have g:j<m:=by have:=(XF.1 Q).1;rw[ok.dsl]at this;exact this
     exact hD j s x (r j g) Q h2
    .rw[h2];exact hE' s (λj q=>absurd (Vs q) (by simpa using Q))
   exact hk ro σ a w hr hev htk hdef
 intro f
 induction f with
 |zero=>
  intro L a w ro σ u hsz hu hsuf hst hsim hN hdef hD hE' hev htk hho hI1 hI2 hcl;refine fin 0 L a w ro σ u hsz hu hsuf hst hsim hN hdef hD hE' hev htk hI2 (λi hi=>?_);by_cases q:onL L i
  .exact q
  .have:=Qf6 (L:=L) (i:=i) (by have:=ok.len;omega) q;omega
 |succ f ih=>
  intro L a w ro σ u hsz hu hsuf hst hsim hN hdef hD hE' hev htk hho hI1 hI2 hcl;by_cases r:∀i,i<m->onL L i
  .exact fin (f+1) L a w ro σ u hsz hu hsuf hst hsim hN hdef hD hE' hev htk hI2 r
  .have a1:∃i,i<m/\ ¬onL L i:=by
    refine Classical.byContradiction λq=>r λi hi=>Classical.byContradiction λz=>q ⟨i,hi,z⟩
   obtain⟨n,hn,ak⟩:=a1;obtain⟨i0,Q,h2,h3⟩:=least (p:=λi=>¬onL L i) (λi=>Classical.em _) n ak;have a9:=ok.len;have ag:l[i0]?=some l[i0]:=XE (by omega);have hr:i0∈Region.ready .any l.toArray L:=(Qau hsz).2 ⟨_,ag,h2,λj g=>Classical.byContradiction λz=>h3 j (ok.back i0 _ ag j g) z⟩;refine⟨λq=>(by rw[q]at hr;cases hr),λi hi=>?_⟩;obtain⟨o,V,X,M⟩:=(Qau hsz).1 hi;have E:i<m:=by
    rcases Vn i m with q|q
    .exact q
    .exfalso;rcases Vn m i with z|z
     .exact hsuf (i-1) (by omega) (M _ (ok.chain i o z V))
     .have:i=m:=by omega
      subst this;have ao:∀j,Qbv l i j->onL L j:=by
       intro j g
       induction g with
       |one t g=>rw[V]at t;cases t;exact M _ g
       |step _ t g ihr=>exact hcl _ _ ihr t _ g
      exact ak (ao n (ok.mid o V n hn))
   have ai:∀h∈rq.getD i [],onL L h:=by
    intro h W;obtain⟨_,_,q|⟨j,q1,q2,q3⟩⟩:=ok.rqs i o E V h W
    .exact M h q
    .exact hI1 j q2 (M j q1) h q3
   obtain⟨a8,ay,a4,J⟩:=ok.pls i u E hst (λh W=>by
    obtain⟨q1,q2,_⟩:=ok.rqs i o E V h W;exact(hI2 h q1 q2).1 (ai h W)) (λq z=>X ((hI2 i E q).2 z)) (λh W hR=>by
    obtain⟨q1,q2⟩:=ok.msh u h W;have a3:onL L h:=(hI2 h q1 q2).2 W;have am:∀j,Qbv l h j->onL L j:=by
     intro j g
     induction g with
     |one t g=>exact hcl _ _ a3 t _ g
     |step _ t g ihr=>exact hcl _ _ ihr t _ g
    exact X (am i hR))
   have hb:=a6 i _ E ay;refine hb.use V hsim hN (by rw[hdef];exact aj.keep hev) (ar.to hev λ_ q=>q) hho (a0 u hst) a7 (λj g s x q1 q2=>hD j s x (M j g) q1 q2) (λs Q=>hE' s (λj q=>absurd (Vs q) (by simpa using Q))) (λj s Q h2=>hE' s (λj' q q'=>?_)) ?_
   .obtain rfl:=ok.nodup j' j s q h2;have g:=Xd.1 (List.contains_iff_mem.1 Q);cases ac:l[j']? with
    |none=>rw[ac]at g;simp at g
    |some oj=>
     rw[ac]at g;exact X (hcl j' oj q' ac i (by simpa using g.2))
   intro v w' ax σ' af;have aa:=af.ext;have ab:∀s,(∀d,o.dst=some d->s≠d)->(a.put o.dst v).tmps.getD s undef=a.tmps.getD s undef:=by
    intro s aq;cases hd:o.dst with
    |none=>rfl
    |some d=>
     simp only[Act.put,Array.getD_eq_getD_getElem?,X7];rw[Vj (λq=>aq d hd q.symm)]
   have ad:(a.put o.dst v).tmps.size=N:=by
    cases hd:o.dst with
    |none=>simpa[Act.put]using hN
    |some d=>simpa[Act.put]using hN
   have a5:(a.put o.dst v).defers=ds0:=by
    cases hd:o.dst with
    |none=>simpa[Act.put]using hdef
    |some d=>simpa[Act.put]using hdef
   have ba:=Qea (L:=L) (i:=i) (by omega) X;have B:i<L.size:=by omega
   have a2:∀s j,ds[j]?=some s->j≠i->∀d,o.dst=some d->s≠d:=by
    intro s j g F d hd q;subst q;rcases ok.dst i o E V with⟨d',k,T,al⟩|k
    .rw[hd]at k;cases k;exact F (ok.nodup j i _ g T)
    .rw[hd]at k;cases k
   refine ih _ _ w' ax σ' a8 (by simpa using hsz) (by omega) (λj g q=>?_) a4 af.sim ad a5 ?_ ?_ (hev.trans af.ev) ?_ af.holes ?_ ?_ ?_
   .rcases(YT B).1 q with z|z
    .omega
    .exact hsuf j g z
   .intro j s y g O hy;by_cases F:j=i
    .subst F;have hv:=af.val y hy;rcases ok.dst j o E V with⟨d',k,T,al⟩|k
     .obtain rfl:s=d':=XS (O.symm.trans T);simp only[k]at hv⊢;exact hv
     .simp only[k]at hv;subst hv;exact trivial
    .rw[ab s (a2 s j O F)];rcases(YT B).1 g with z|z
     .exact absurd z F
     .exact(hD j s y z O hy).mono aa
   .intro s O;have av:∀d,o.dst=some d->s≠d:=by
     rintro d hd rfl;rcases ok.dst i o E V with⟨d',k,T,al⟩|k
     .rw[hd]at k;cases k;exact O i T ((YT B).2 (.inl rfl))
     .rw[hd]at k;cases k
    rw[ab s av];exact(hE' s (λj q z=>O j q ((YT B).2 (.inr z)))).mono aa
   .rw[<- htk];have:=congrArg (List.take h0) af.take;rw[List.take_take,List.take_take,Xw au]at this;exact this
   .intro j g G h W;refine(YT B).2 (.inr ?_);rcases(YT B).1 G with z|z
    .subst z;exact ai h W
    .exact hI1 j g z h W
   .intro j g G;rw[YT B];cases q:hs.getD i false with
    |false=>
     have F:j≠i:=by rintro rfl;rw[q]at G;cases G
     rw[q]at J;simp only[Xh,if_false]at J;simp only[F,false_or];rw[J];exact hI2 j g G
    |true=>
     rw[q]at J;simp only[if_true]at J;rw[J j,hI2 j g G]
   .intro j o' g t j' ae;rcases(YT B).1 g with z|z
    .subst z;rw[V]at t;cases t;exact(YT B).2 (.inr (M _ ae))
    .exact(YT B).2 (.inr (hcl j o' z t j' ae))
def Qcy.dstB(N:Nat):Nat->List Oper->List Nat->Bool
 |_,_,[]=>true
 |i,o::r,d::ds=>(match o.dst with|some d'=>Nat.beq d' d&&Nat.blt d N|none=>true)&&Qcy.dstB N (i+1) r ds
 |_,[],_::_=>false
def Qcy.rqB(m:Nat)(hs:List Bool)(rq:List (List Nat)):Nat->List Oper->Bool
 |_,[]=>true
 |i,o::r=>(rq.getD i []).all (λh=>Nat.blt h m&&hs.getD h false&&((Qk o).contains h||(Qk o).any λj=>Nat.blt j m&&(rq.getD j []).contains h))&&Qcy.rqB m hs rq (i+1) r
def QfA(l:List Oper)(h:Nat):List Nat:=match l[h]? with
 |some o=>Qc8 l h (Qk o)
 |none=>[]
theorem QgD{l:List Oper}{h j:Nat}(q:j∈QfA l h):Qbv l h j:=by
 unfold QfA at q;cases a:l[h]? with
 |none=>rw[a]at q;cases q
 |some o=>rw[a]at q;exact Qbk h (Qk o) (λi d=>.one a d) j q
def Qcy.plB(l:List Oper)(m:Nat)(hs:List Bool)(rq ms:List (List Nat))(pl:List (List (Nat×Nat))):Bool:=
 (List.range m).all λi=>(List.range ms.length).all λst=>((ms.getD st []).any λh=>(QfA l h).contains i)|| !(rq.getD i []).all ((ms.getD st []).contains ·)||(hs.getD i false&&(ms.getD st []).contains i)||
  (pl.getD i []).any λp=>Nat.beq p.1 st&&Nat.blt p.2 ms.length&&(bif hs.getD i false then same (ms.getD p.2 []) (i::ms.getD st [])else Nat.beq p.2 st)
def Qcy(l:List Oper)(m N:Nat)(ds:List Nat)(hs:List Bool)(rq ms:List (List Nat))(pl:List (List (Nat×Nat))):Bool:=
 Nat.ble m l.length&&(ds.length==m)&&Qcy.dstB N 0 l ds&&drawChk.nodupB ds&&drawChk.goB l m 0 l&&Qcy.rqB m hs rq 0 l&&(ms.getD 0 []).isEmpty&&Nat.blt 0 ms.length
 &&((List.range ms.length).all λst=>Nat.beq (st+1) ms.length||(List.range m).any λi=>hs.getD i false&& !(ms.getD st []).contains i)&&Qcy.plB l m hs rq ms pl&&(List.range ms.length).all λst=>(ms.getD st []).all λh=>Nat.blt h m&&hs.getD h false
theorem QdX{N:Nat}:∀(l:List Oper) (a:List Nat) (b:Nat),Qcy.dstB N b l a=true->∀(i d:Nat) (o:Oper),l[i]?=some o->a[i]?=some d->
  (o.dst=some d/\d<N)\/o.dst=none:=by
 intro l
 induction l with
 |nil=>intro a b h i d o f;simp at f
 |cons x r k=>
  intro a b h i d o f g;cases a with
  |nil=>simp at g
  |cons y a=>
   simp only[Qcy.dstB,XP]at h;cases i with
   |zero=>
    simp at f g;subst f;subst g;have h:=h.1;split at h
    .rename_i m j;simp only[XP]at h;have e:=XK h.1;subst e;exact .inl ⟨j,by simpa using h.2⟩
    .rename_i j;exact .inr j
   |succ i=>
    have:=k a (b+1) h.2 i d o (by simpa using f) (by simpa using g);exact this
theorem Qhy{m:Nat}{e:List Bool}{d:List (List Nat)}:∀(l:List Oper) (b:Nat),Qcy.rqB m e d b l=true->∀(i:Nat) (o:Oper),l[i]?=some o->
  ∀h∈d.getD (b+i) [],h<m/\e.getD h false=true/\(h∈Qk o\/ ∃j∈Qk o,j<m/\h∈d.getD j []):=by
 intro l
 induction l with
 |nil=>intro b h i o a;simp at a
 |cons x r s=>
  intro b h i o a;simp only[Qcy.rqB,XP]at h;cases i with
  |zero=>
   simp at a;subst a;intro k g;have:=Xo.1 h.1 k (by simpa using g);simp only[XP,Bool.or_eq_true,List.contains_iff_mem,Xp]at this;obtain⟨⟨t,w⟩,n⟩:=this;refine⟨by simpa using t,w,?_⟩;rcases n with q|⟨j,p,u,f⟩
   .exact .inl q
   .exact .inr ⟨j,p,by simpa using u,f⟩
  |succ i=>
   have:=s (b+1) h.2 i o (by simpa using a);rw[show b+1+i=b+(i+1)by omega]at this;exact this
theorem Qh4{l:List Oper}{m N:Nat}{t:List Nat}{E:List Bool}{y s:List (List Nat)}{J:List (List (Nat×Nat))}(h:Qcy l m N t E y s J=true):
  Qiv l m t E y s J N/\0<s.length:=by
 unfold Qcy at h;simp only[XP]at h;obtain⟨⟨⟨⟨⟨⟨⟨⟨⟨⟨Q,X⟩,Y⟩,O⟩,P⟩,h6⟩,M⟩,h8⟩,R⟩,H⟩,B⟩:=h;have F:m<=l.length:=XL Q;have G:t.length=m:=by simpa using X
 have g:=QeZ l 0 P;refine⟨⟨F,λi o u d=>?_,G,Qcr O,λi o d=>by have:=(g i o d).1;simpa using this,λo d j hj=>Qbk m (Qk o) (λi u=>.one d u) j ((g m o d).2.1 (by omega) j hj),
  λi o u d=>by have:=(g i o d).2.2 (by omega);simpa using this,λi o u d h f=>by have:=Qhy l 0 h6 i o d h (by simpa using f);exact this,
  by simpa using M,λn a=>?_,λn h f=>?_,λi n u a W T L=>?_⟩,by simpa using h8⟩
 .have w:t[i]?=some t[i]:=XE (by omega);rcases QdX l t 0 Y i _ o d w with⟨r,x⟩|r
  .exact .inl ⟨_,r,w,x⟩
  .exact .inr r
 .have:=Xo.1 R n (List.mem_range.2 a);simp only[Bool.or_eq_true,Xp,XP,Bool.not_eq_true']at this;rcases this with q|⟨i,r,x,k⟩
  .exact .inl (XK q)
  .exact .inr ⟨i,List.mem_range.1 r,x,λz=>by rw[List.contains_iff_mem.2 z]at k;cases k⟩
 .have a:n<s.length:=by
   rcases Vn n s.length with q|q
   .exact q
   .rw[Vw,XI q]at f;cases f
  have:=Xo.1 (Xo.1 B n (List.mem_range.2 a)) h f;simp only[XP]at this;exact⟨by simpa using this.1,this.2⟩
 .have:=Xo.1 (Xo.1 H i (List.mem_range.2 u)) n (List.mem_range.2 a);simp only[Bool.or_eq_true,Bool.not_eq_true']at this;rcases this with((q|q)|q)|q
  .exfalso;obtain⟨h,f,q⟩:=Xp.1 q;exact L h f (QgD (List.contains_iff_mem.1 q))
  .exfalso;have:((y.getD i []).all ((s.getD n []).contains ·))=true:=Xo.2 λh f=>List.contains_iff_mem.2 (W h f);rw[this]at q;cases q
  .simp only[XP]at q;exact absurd (List.contains_iff_mem.1 q.2) (T q.1)
  .obtain⟨p,V,q⟩:=Xp.1 q;simp only[XP]at q;obtain⟨⟨r,x⟩,k⟩:=q;have e:=XK r;refine⟨p.2,by rw[<- e];exact V,by simpa using x,?_⟩;cases z:E.getD i false with
   |true=>
    rw[z]at k;simp only[Vh]at k;simp only[if_true];intro j;rw[QiC k j,XY]
   |false=>
    rw[z]at k;simp only[Vi]at k;simp only[Xh,if_false];exact XK k
inductive QeD (P:Program) (N:Nat) (l:List Oper) (ds:List Nat) (xs:List A) (env0:Env) (hB hE:Nat):Nat->List (List (Qc×Qc))->Prop
 |nil {i:Nat}:QeD P N l ds xs env0 hB hE i []
 |cons {i:Nat} {s:List (Qc×Qc)} {r:List (List (Qc×Qc))} (h:∀p∈s,YQ P N l ds xs env0 hB hE i p.1 p.2) (k:QeD P N l ds xs env0 hB hE (i+1) r):QeD P N l ds xs env0 hB hE i (s::r)
theorem QeD.get{P:Program}{N:Nat}{l:List Oper}{e:List Nat}{xs:List A}{env0:Env}{hB hE b:Nat}{d:List (List (Qc×Qc))}(h:QeD P N l e xs env0 hB hE b d):
  ∀(i:Nat) (s:List (Qc×Qc)),d[i]?=some s->∀p∈s,YQ P N l e xs env0 hB hE (b+i) p.1 p.2:=by
 induction h with
 |nil=>intro i s h;simp at h
 | @cons b s0 r h _ ih=>
  intro i s a;cases i with
  |zero=>simp at a;subst a;exact h
  |succ i=>
   have:=ih i s (by simpa using a);rw[show b+1+i=b+(i+1)by omega]at this;exact this
theorem Qb{P:Program}{N:Nat}{l:List Oper}{d:List Nat}{xs:List A}{env0:Env}{hB hE i:Nat}:∀p∈([]:List (Qc×Qc)),YQ P N l d xs env0 hB hE i p.1 p.2:=by
 intro p a;cases a
theorem Qa{P:Program}{N:Nat}{l:List Oper}{a:List Nat}{xs:List A}{env0:Env}{hB hE i:Nat}{H H':Qc}{r:List (Qc×Qc)}(h:YQ P N l a xs env0 hB hE i H H')
  (k:∀p∈r,YQ P N l a xs env0 hB hE i p.1 p.2):∀p∈(H,H')::r,YQ P N l a xs env0 hB hE i p.1 p.2:=by
 intro p d;rcases XY.1 d with rfl|q
 .exact h
 .exact k p q
theorem Qec{P:Program}{h0 N:Nat}{id:Nat}{l:List Oper}{env:Env}{H:Qc}{fr ro:Nat->Prop}{σ:Sig}{a:Act}{w:World}{rd:Option Nat}{R:Exit->Act->World->Prop}(m c:Nat)(ds:List Nat)(hs:List Bool)(rq Y:List (List Nat))(F:List (List (Nat×Nat)))(xs:List A)(Hs:List Qc)(Hk:Qc)
  (hm:P.follows .mixedOrders=true)(hc:Qcy l m N ds hs rq Y F=true)(af:Nat.beq xs.length m=true)(ac:Nat.beq Hs.length Y.length=true)(ab:Nat.ble h0 H.length=true)
  (hh:Hs.all (λX=>Nat.ble (H.length+c) X.length)=true)(ad:Hs[0]?=some (H++List.replicate c .dead))(V:Hs.getD (Y.length-1) []=Hk)
  (ae:QeD P N l ds xs env H.length (H.length+c) 0 (F.map λq=>q.map λp=>(Hs.getD p.1 [],Hs.getD p.2 [])))(T:Nat.beq F.length m=true)
  (r:Rel fr ro σ H env N a w)(aa:Qch rd fr w)
  (hk:∀ro' σ' a' w',Rel fr ro' σ' Hk (Qam ds xs env) N a' w'->Qj fr ro w ro' w'->σ'.take h0=σ.take h0->a'.defers=a.defers->wpL P rd l.toArray R (l.drop m) a' w'):(Code.region id l.toArray true).wpIn (WF rd) 0 P R a w:=by
 obtain⟨ok,B⟩:=Qh4 hc;have J:=XK af;have L:=XK ac;have ag:=XK T;have E:Qj fr ro w ro {w with drawn:=w.drawn+1}:=⟨λ_ q=>q,λ_ _=>rfl,λ_ _=>rfl,XM _,λ_ _ q=>q,rfl,rfl,rfl,Nat.le_succ _⟩;have u:Ext ro σ w ro (σ++List.replicate c none) {w with drawn:=w.drawn+1}:=E.ext σ _;have W:=r.sim.len;have O:Hs.getD 0 []=H++List.replicate c .dead:=Qjb ad;have n:∀(i:Nat) (s:Option Nat) (x:Blk),(σ++List.replicate c none)[i]?=some s->(H++List.replicate c Blk.dead)[i]?=some x->(σ[i]?=some s/\H[i]?=some x)\/(s=none/\x=.dead):=by
  intro i s x h k;rcases Vn i σ.length with q|q
  .rw[XG q]at h;rw[XG (by omega)]at k;exact .inl ⟨h,k⟩
  .rw[XH q]at h;rw[XH (by omega)]at k;have a1:=Vs h;have a2:=Vs k;exact .inr ⟨(List.mem_replicate.1 a1).2,(List.mem_replicate.1 a2).2⟩
 have G:Sim fr ro (σ++List.replicate c none) (H++List.replicate c .dead) {w with drawn:=w.drawn+1}:=by
  refine⟨by simp[W],r.sim.roOk.to (λ_ q=>q) (λ_ _=>rfl) r.sim.roLt,r.sim.frLt,r.sim.roFr,?_,?_,?_,
   r.sim.hidTo (· = ·) QU (XM _) (λ_ _ _ _ _ _ _ q=>q) (λ_ _ _ _ _ _ _ q=>q) λj d y g1 g2 g3=>.inl ?_⟩
  rotate_left 3
  .rcases n j _ _ g1 g2 with⟨g,t⟩|⟨g,_⟩
   .exact⟨j,y,rfl,g,t,(λz=>z),λc q=>q⟩
   .cases g
  .intro i b blk h k Q;rcases n i _ _ h k with⟨g,t⟩|⟨g,_⟩
   .exact r.sim.own i b blk g t Q
   .cases g
  .intro i j b x y h k Q h4 h5 h6;rcases n i _ _ h Q with⟨g,t⟩|⟨g,_⟩
   .rcases n j _ _ k h4 with⟨q3,q4⟩|⟨q3,_⟩
    .exact r.sim.inj i j b x y g q3 t q4 h5 h6
    .cases q3
   .cases g
  .intro i s x h k;rcases n i _ _ h k with⟨g,t⟩|⟨g,t⟩
   .exact BR.keep u (λb hb _=>rfl) (r.sim.blk i s x g t) (λ_ _ _ _=>rfl)
   .subst t;exact trivial
 have f:∀i,¬onL (Array.replicate l.length false) i:=by
  intro i q;unfold onL at q;rw[Array.getElem?_replicate]at q;split at q<;>simp at q
 have M:=XL ab;refine wpIn_region_any hm ?_;rw[List.size_toArray];refine Qfd ok J L M (Nat.le_add_right _ _) (λX hX=>XL (Xo.1 hh X hX)) ?_ V (ro0:=ro) (σ0:=σ) (w0:=w) (ds0:=a.defers) hk r.defers aa
  l.length _ a _ ro (σ++List.replicate c none) 0 (by simp) ?_ (λi _=>f i) B (by rw[O];exact G) r.size rfl (λi d x q=>absurd q (f i)) (λs _=>(r.env s).mono u) E (QB (by omega)) ?_
  (λi _ q=>absurd q (f i)) (λi _ _=>⟨λq=>absurd q (f i),λq=>by rw[ok.ms0]at q;cases q⟩) (λi o q=>absurd q (f i))
 .intro i p hi hp;have e:(F.map λq=>q.map λp=>(Hs.getD p.1 [],Hs.getD p.2 []))[i]?=some ((F.getD i []).map λp=>(Hs.getD p.1 [],Hs.getD p.2 [])):=by
   rw[Xl,XE (by omega),Vw,XE (by omega)];rfl
  have:=ae.get i _ e _ (Xe.2 ⟨p,hp,rfl⟩);simpa using this
 .unfold unl;simp[List.countP_replicate]
 .intro p h k Q;rw[XH (by omega),List.getElem?_replicate,Vk (by omega)]
theorem QF{P:Program}{h0 N:Nat}{id:Nat}{l:List Oper}{env:Env}{H:Qc}{Q:Qx}(m c:Nat)(f:List Nat)(x:List Bool)(y h:List (List Nat))(g:List (List (Nat×Nat)))(xs:List A)(Hs:List Qc)(Hk:Qc)
  (z:P.follows .mixedOrders=true)(G:Qcy l m N f x y h g=true)(u:Nat.beq xs.length m=true)(j:Nat.beq Hs.length h.length=true)(i:Nat.ble h0 H.length=true)
  (J:Hs.all (λX=>Nat.ble (H.length+c) X.length)=true)(k:Hs[0]?=some (H++List.replicate c .dead))(t:Hs.getD (h.length-1) []=Hk)
  (s:QeD P N l f xs env H.length (H.length+c) 0 (g.map λq=>q.map λp=>(Hs.getD p.1 [],Hs.getD p.2 [])))(n:Nat.beq g.length m=true)
  (E:WO P h0 N l.toArray (l.drop m) (Qam f xs env) Hk Q):TC P h0 N (.region id l.toArray true) env H Q:=by
 intro F B L σ a w r hrd;refine Code.wpIn_mono (λe a w q=>Qa7.postW q) (Qec m c f x y h g xs Hs Hk z G u j i J k t s n r hrd λro' σ' a' w' hr hev htk hdf=>?_);have d:=E F B ro' σ' a' w' hr (hrd.to hev λ_ q=>q);rw[hdf]at d;exact Q1 (λe a w q=>q.step hev htk) _ _ _ d
def draw0(l:List Oper)(m N:Nat)(ds:List Nat):Bool:=Nat.ble m l.length&&(ds.length==m)&&Qcy.dstB N 0 l ds&&drawChk.nodupB ds&&drawChk.goB l m 0 l
inductive Oq (P:Program) (N:Nat) (l:List Oper) (ds:List Nat) (xs:List A) (env0:Env) (H:Qc):Nat->Nat->Prop
 |n {i:Nat}:Oq P N l ds xs env0 H i 0
 |c {i c:Nat} (h:YQ P N l ds xs env0 H.length H.length i H H) (k:Oq P N l ds xs env0 H (i+1) c):Oq P N l ds xs env0 H i (c+1)
theorem Oq.get{P:Program}{N:Nat}{l:List Oper}{a:List Nat}{xs:List A}{env0:Env}{H:Qc}{b c:Nat}(h:Oq P N l a xs env0 H b c):∀i,i<c->YQ P N l a xs env0 H.length H.length (b+i) H H:=by
 induction h with
 |n=>intro i d;omega
 | @c b c h _ ih=>
  intro i d;cases i with
  |zero=>exact h
  |succ i=>
   have:=ih i (by omega);rw[show b+1+i=b+(i+1)by omega]at this;exact this
theorem Qh5{l:List Oper}{m N:Nat}{f:List Nat}(h:draw0 l m N f=true):Qiv l m f [] [] [[]] (List.replicate m [(0,0)]) N:=by
 unfold draw0 at h;simp only[XP]at h;obtain⟨⟨⟨⟨y,z⟩,x⟩,t⟩,u⟩:=h;have q:m<=l.length:=XL y;have s:f.length=m:=by simpa using z
 have g:=QeZ l 0 u;refine⟨q,λi o e d=>?_,s,Qcr t,λi o d=>by have:=(g i o d).1;simpa using this,λo d j w=>Qbk m (Qk o) (λi e=>.one d e) j ((g m o d).2.1 (by omega) j w),
  λi o e d=>by have:=(g i o d).2.2 (by omega);simpa using this,λi o e d h p=>by simp at p,rfl,λn a=>.inl (by simp at a;simp[a]),λn h p=>by cases n<;>simp at p,λi n e a _ _ _=>?_⟩
 .have k:f[i]?=some f[i]:=XE (by omega);rcases QdX l f 0 x i _ o d k with⟨r,B⟩|r
  .exact .inl ⟨_,r,k,B⟩
  .exact .inr r
 .have:n=0:=by simp at a;exact a
  subst this;refine⟨0,?_,by simp,by simp⟩;rw[Vw,List.getElem?_replicate,Vk e];exact Vm.2 rfl
theorem Qed{P:Program}{h0 N:Nat}{id:Nat}{l:List Oper}{env:Env}{H:Qc}{fr ro:Nat->Prop}{σ:Sig}{a:Act}{w:World}{rd:Option Nat}{R:Exit->Act->World->Prop}(m:Nat)(u:List Nat)(xs:List A)
  (E:P.follows .mixedOrders=true)(G:Go.Sw.draw0 l m N u=true)(y:Nat.beq xs.length m=true)(t:Nat.ble h0 H.length=true)
  (n:Oq P N l u xs env H 0 m)(r:Rel fr ro σ H env N a w)(k:Qch rd fr w)
  (F:∀ro' σ' a' w',Rel fr ro' σ' H (Qam u xs env) N a' w'->Qj fr ro w ro' w'->σ'.take h0=σ.take h0->a'.defers=a.defers->wpL P rd l.toArray R (l.drop m) a' w'):(Code.region id l.toArray true).wpIn (WF rd) 0 P R a w:=by
 have ok:=Qh5 G;have h:=XK y;have j:Qj fr ro w ro {w with drawn:=w.drawn+1}:=⟨λ_ q=>q,λ_ _=>rfl,λ_ _=>rfl,XM _,λ_ _ q=>q,rfl,rfl,rfl,Nat.le_succ _⟩;have g:Ext ro σ w ro σ {w with drawn:=w.drawn+1}:=j.ext0 σ;have f:Sim fr ro σ H {w with drawn:=w.drawn+1}:=r.sim.heap rfl;have e:∀i,¬onL (Array.replicate l.length false) i:=by
  intro i q;unfold onL at q;rw[Array.getElem?_replicate]at q;split at q<;>simp at q
 refine wpIn_region_any E ?_;rw[List.size_toArray];refine Qfd (hB:=H.length) (hE:=H.length) (Hs:=[H]) (Hk:=H) ok h rfl (XL t) (XM _) (λX hX=>by rw[Vm.1 hX];exact XM _) ?_ rfl (ro0:=ro) (σ0:=σ) (w0:=w) (ds0:=a.defers) F r.defers k
  l.length _ a _ ro σ 0 (by simp) ?_ (λi _=>e i) (by simp) f r.size rfl (λi d x q=>absurd q (e i)) (λs _=>(r.env s).mono g) j rfl (λp J L=>by omega)
  (λi _ q=>absurd q (e i)) (λi _ _=>⟨λq=>absurd q (e i),λq=>by cases q⟩) (λi o q=>absurd q (e i))
 .intro i p z B;rw[Vw,List.getElem?_replicate,Vk z]at B;obtain rfl:=Vm.1 B;have:=n.get i z;rw[Xr]at this;exact this
 .unfold unl;simp[List.countP_replicate]
theorem TC.draw0{P:Program}{h0 N:Nat}{id:Nat}{l:List Oper}{env:Env}{H:Qc}{Q:Qx}(m:Nat)(f:List Nat)(xs:List A)
  (k:P.follows .mixedOrders=true)(s:Go.Sw.draw0 l m N f=true)(i:Nat.beq xs.length m=true)(h:Nat.ble h0 H.length=true)
  (g:Oq P N l f xs env H 0 m)(n:WO P h0 N l.toArray (l.drop m) (Qam f xs env) H Q):TC P h0 N (.region id l.toArray true) env H Q:=by
 intro p j t σ a w r hrd;refine Code.wpIn_mono (λe a w q=>Qa7.postW q) (Qed m f xs k s i h g r hrd λro' σ' a' w' hr hev htk hdf=>?_);have d:=n p j ro' σ' a' w' hr (hrd.to hev λ_ q=>q);rw[hdf]at d;exact Q1 (λe a w q=>q.step hev htk) _ _ _ d
section
variable {P:Program} {N:Nat} {l:List Oper} {ds af bf:List Nat} {xs:List A} {env0 e r:Env} {H H':Qc} {i hB hE:Nat} {o:Oper} {d s:Nat} {x a:A}
theorem sN:Sb af bf ds xs env0 []:=.nil
theorem sD(j:Nat)(k:Sb af bf ds xs env0 r)(d:af.contains j=true:=by exact rfl)(h2:ds[j]?=some s:=by exact rfl)(h3:xs[j]?=some a:=by exact rfl):Sb af bf ds xs env0 ((s,a)::r):=.dep j d h2 h3 k
theorem sP(j:Nat)(k:Sb af bf ds xs env0 r)(d:bf.contains j=true:=by exact rfl)(h2:ds[j]?=some s:=by exact rfl)(h3:lk env0 s=a:=by exact rfl):Sb af bf ds xs env0 ((s,a)::r):=.pre j d h2 h3 k
theorem sO(s:Nat)(k:Sb af bf ds xs env0 r)(d:ds.contains s=false:=by exact rfl)(h2:lk env0 s=a:=by exact rfl):Sb af bf ds xs env0 ((s,a)::r):=.old d h2 k
theorem Qcz(H:Qc):Qal hB hE H H=true:=by
 unfold Qal;refine Xo.2 λp _=>?_;cases QaS H[hB+p]? <;>rfl
theorem Om(a:l[i]?=some o)(g:Sb (Qk o) (Qeq l i) ds xs env0 e)(h:WO P H.length N l.toArray [o] e H (YB (up e d x) H))(f:o.dst=some d:=by exact rfl)(hx:xs[i]?=some x:=by exact rfl):YQ P N l ds xs env0 hB hE i H H:=
 .mk o e d x a f hx (Qcz H) g h
theorem Om1(a:l[i]?=some o)(g:Sb (Qk o) (Qeq l i) ds xs env0 e)(h:WO P H.length N l.toArray [o] e H (YB (up e d x) H'))(f:o.dst=some d:=by exact rfl)(hx:xs[i]?=some x:=by exact rfl)(hdd:Qal hB hE H H'=true:=by exact rfl):YQ P N l ds xs env0 hB hE i H H':=
 .mk o e d x a f hx hdd g h
theorem Om2(a:l[i]?=some o)(f:Sb (Qk o) (Qeq l i) ds xs env0 e)(h:WO P H.length N l.toArray [o] e H (YB e H'))(d:o.dst=none:=by exact rfl)(hx:xs[i]?=some .any:=by exact rfl)(hdd:Qal hB hE H H'=true:=by exact rfl):YQ P N l ds xs env0 hB hE i H H':=
 .unit o e a d hx hdd f h
end
structure TyI where
 fld:List (Nat×Nat×Nat)
 agg:List (Nat×Bool×Nat)
 zer:List (Nat×List A×List (Nat×Nat))
structure TyOK (P:Program) (T:TyI):Prop where
 fld:∀e∈T.fld,∃n,Ym P e.1 e.2.1 e.2.2 n
 agg:∀e∈T.agg,(∀w,(isAgg e.1).run P w=.ok e.2.1 w)/\ ∀w,(sizeOf e.1).run P w=.ok e.2.2 w
 zer:∀e∈T.zer,(∃z,(∀w,(zeroValue e.1).run P w=.ok z w)/\ZR (.agg e.2.1) z)/\Qdq P e.1 e.2.2
def Qe3:List (Nat×Nat×Nat)->Nat->Nat->Option Nat
 |[],_,_=>none
 |(a,b,c)::r,t,f=>bif Nat.beq a t&&Nat.beq b f then some c else Qe3 r t f
def Qa9{β:Type}:List (Nat×β)->Nat->Option β
 |[],_=>none
 |(a,b)::r,t=>bif Nat.beq a t then some b else Qa9 r t
theorem Qe2{l:List (Nat×Nat×Nat)}{t f c:Nat}(h:Qe3 l t f=some c):(t,f,c)∈l:=by
 induction l with
 |nil=>cases h
 |cons x r e=>
  obtain⟨a,b,d⟩:=x;unfold Qe3 at h;cases q:(Nat.beq a t&&Nat.beq b f)with
  |true=>
   simp_all
  |false=>grind
theorem Qap{β:Type}{l:List (Nat×β)}{t:Nat}{c:β}(h:Qa9 l t=some c):(t,c)∈l:=by
 induction l with
 |nil=>cases h
 |cons x r d=>
  obtain⟨a,b⟩:=x;unfold Qa9 at h;cases q:Nat.beq a t with
  |true=>
   simp_all
  |false=>grind
def Qep(H:Qc):A->Option (List A)
 |.rp cs=>some cs
 |.ptr i off=>match H[i]? with
  |some (.cells _ cs)=>some (cs.drop off)
  |_=>none
 |_=>none
theorem QfL{H:Qc}{p:A}{a:List A}(h:Qep H p=some a):Pts H p a:=by
 unfold Qep at h;split at h
 .cases h;exact Pts.rp
 .split at h
  .rename_i d;cases h;exact Pts.cells d rfl
  .cases h
 .cases h
def Qhs(T:TyI)(o:Oper)(env:Env)(H:Qc):Option A:=
 match o.op with
 |.move x=>some (opA env x)
 |.assign x=>some (opA env x)
 |.fieldAddr t x f=>match Qe3 T.fld t f with
  |none=>none
  |some off=>match opA env x with
   |.ptr i p=>some (.ptr i (p+off))
   |.rp cs=>some (.rp (cs.drop off))
   |_=>none
 |.load t x=>match Qa9 T.agg t with
  |none=>none
  |some (b,n)=>match x with
   |.global g=>match QfG[g]? with
    |some zs=>bif b&&Nat.beq zs.length n then some (.agg (zs.map (A.int .i64)))else none
    |none=>none
   |x=>match Qep H (opA env x)with
    |none=>none
    |some cs=>bif b then(bif Nat.beq (cs.take n).length n then some (.agg (cs.take n))else none)else cs.head?
 |.build t parts=>match Qa9 T.zer t with
  |none=>none
  |some (zs,pl)=>match Qcw env pl zs parts.toList with
   |some cs=>some (.agg cs)
   |none=>none
 |.extract x i=>match opA env x with
  |.tup vs=>vs[i]?
  |_=>none
 |.makeFunc f first cap=>some (.fn f (first.toList.map (opA env)) (cap.toList.map (opA env)))
 |_=>none
theorem Qhr{P:Program}{T:TyI}(i:TyOK P T){o:Oper}{env:Env}{H:Qc}{x:A}(h:Qhs T o env H=some x):OpV P o env H x:=by
 unfold Qhs at h;split at h
 .simp_all[OpV.move]
 .simp_all[OpV.assign]
 .rename_i t y f a;split at h
  .cases h
  .rename_i s j;obtain⟨n,r⟩:=i.fld _ (Qe2 j);split at h
   .grind[QbK]
   .rename_i d F;cases h;exact Qdu r a F rfl
   .cases h
 .rename_i t y a;split at h
  .cases h
  .rename_i b n m;obtain⟨e,g⟩:=i.agg _ (Qap m);split at h
   .split at h
    .rename_i k p;cases q:(b&&Nat.beq k.length n)with
     |false=>grind
     |true=>
      rw[q]at h;cases h;simp[XP]at q;obtain⟨rfl,G⟩:=q;exact Qd5 e g p (by simp_all) a
    .cases h
   .split at h
    .cases h
    .rename_i d B;have l:=QfL B;cases b with
     |true=>
      cases q:Nat.beq (d.take n).length n with
      |false=>grind
      |true=>
       rw[q]at h;cases h;exact QY a e g rfl l rfl (by simp_all)
     |false=>
      cases d with
      |nil=>cases h
      |cons v d=>cases h;exact OpV.load a e rfl l
 .rename_i t parts a;split at h
  .cases h
  .rename_i k J w;obtain⟨⟨z,e,g⟩,E⟩:=i.zer _ (Qap w);split at h
   .rename_i d j;cases h;exact OpV.build e g E (by rw[a]) j
   .cases h
 .grind[OpV.extract]
 .rename_i f first u a
  cases h;exact OpV.makeFunc (by rw[a]) rfl rfl
 .cases h
def Qfa(af:List Nat):Nat->List Nat->List A->Env->Env
 |j,d::ds,x::xs,e=>(d,bif af.contains j then x else .any)::Qfa af (j+1) ds xs e
 |_,_,_,e=>e
theorem QiX{af:List Nat}{env0:Env}(s:Nat):∀(a:List Nat) (xs:List A) (b:Nat),a.length=xs.length->
  (∃(j:Nat) (x:A),a[j]?=some s/\xs[j]?=some x/\lk (Qfa af b a xs env0) s=bif af.contains (b+j)then x else .any)\/(a.contains s=false/\lk (Qfa af b a xs env0) s=lk env0 s):=by
 intro a
 induction a with
 |nil=>simp_all[Qfa]
 |cons d a i=>
  intro xs b h;cases xs with
  |nil=>cases h
  |cons x xs=>
   cases q:Nat.beq s d with
   |true=>
    have e:=XK q;subst e;left;refine⟨0,x,rfl,rfl,?_⟩
    simp_all[Qfa,lk]
   |false=>
    have g:s≠d:=λz=>by simp_all
    simp only[Qfa,lk,q];rcases i xs (b+1) (by grind)with⟨j,y,f,k,l⟩|⟨f,k⟩
    .left;refine⟨j+1,y,by grind,by grind,?_⟩
     grind
    grind
def Qf7(T:TyI)(N:Nat)(l:List Oper)(ds:List Nat)(xs:List A)(env0:Env)(H:Qc)(i:Nat):Option A:=
 match l[i]? with
 |none=>none
 |some o=>match o.guard,o.dst with
  |none,some d=>bif Nat.blt d N&&Nat.beq ds.length xs.length then Qhs T o (Qfa (Qk o) 0 ds xs env0) H else none
  |_,_=>none
theorem QiW{af a:List Nat}{xs:List A}{env0:Env}(d:a.length=xs.length):Qis af a xs env0 (Qfa af 0 a xs env0):=by
 intro s;rcases QiX (af:=af) (env0:=env0) s a xs 0 d with⟨j,x,g,e,f⟩|h
 .grind
 grind
theorem vQ{P:Program}{T:TyI}(f:TyOK P T){N:Nat}{l:List Oper}{a:List Nat}{xs:List A}{env0:Env}{hB hE i:Nat}{H:Qc}{x:A}(e:xs[i]?=some x)(h:Qf7 T N l a xs env0 H i=some x):YQ P N l a xs env0 hB hE i H H:=by
 unfold Qf7 at h;split at h
 .cases h
 .rename_i o k;split at h
  .rename_i d g j;cases q:(Nat.blt d N&&Nat.beq a.length xs.length)with
   |false=>grind
   |true=>
    rw[q]at h;simp only[XP]at q;exact .val o _ d x k j g e q.1 (QiW (by simp_all)) (Qhr f h)
  .cases h
abbrev I(n:Int):A:=.int .i64 n
theorem zc{a:A}{v:Value}{al:List A}{vl:List Value}(h:ZR a v)(k:ZL al vl):ZL (a::al) (v::vl):=ZL.cons h k
def zr1:A->Value->Bool
 |.int k n,.int k' n'=>decide (k=k')&&decide (n=n')
 |.bool b,.bool b'=>b==b'
 |.str s,.string s'=>s.isEmpty&&s'.data.toList.isEmpty
 |.rsl _ es,.slice none 0 0=>es.isEmpty
 |.nils,.slice none 0 0=>true
 |.nilp,.pointer none=>true
 |.nilf,.nilFunc=>true
 |.nilm,.map none=>true
 |.nilif,.nilIface=>true
 |_,_=>false
def zrL:List A->List Value->Bool
 |[],[]=>true
 |a::r,v::s=>zr1 a v&&zrL r s
 |_,_=>false
def zrB:A->Value->Bool
 |.agg r,.agg s=>zrL r s.toList
 |a,v=>zr1 a v
theorem Qhk{a:A}{v:Value}(h:zr1 a v=true):ZR a v:=by
 unfold zr1 at h;split at h
 .simp_all[ZR.int]
 .simp_all[ZR.bool]
 .rename_i s f;simp[XP]at h;obtain⟨d⟩:=f
  simp_all[ZR.str]
 .rename_i k g;have h:=List.isEmpty_iff.1 h;subst h;exact ZR.rsl (e:=λx=>[x])
 .exact ZR.nils
 .exact ZR.nilp
 .exact ZR.nilf
 .exact ZR.nilm
 .exact QiZ
 .cases h
theorem Qhj:∀{r:List A} {s:List Value},zrL r s=true->ZL r s
 |[],[],_=>ZL.nil
 |a::r,v::s,h=>by
  simp[zrL,XP]at h;exact ZL.cons (Qhk h.1) (Qhj h.2)
 |[],_::_,h=>by cases h
 |_::_,[],h=>by cases h
theorem zrC{a:A}{v:Value}(h:zrB a v=true):ZR a v:=by
 unfold zrB at h;split at h
 .have:=ZR.agg (Qhj h);omega
 .exact Qhk h
section
variable {P:Program} {o:Oper} {env:Env} {H:Qc}
end
structure TyX where
 ty:TyI
 al:List (Nat×A)
 sl:List Nat
structure QaM (P:Program) (T:TyX):Prop where
 ty:TyOK P T.ty
 al:∀e∈T.al,(∃z,(∀w,(zeroValue e.1).run P w=.ok z w)/\ZR e.2 z)/\Q4 e.2=true/\(QW e.2).all Yd=true
 sl:∀t∈T.sl,∃et,∀w,(underlying t).run P w=.ok (.slice et) w
def Yv(all:Array Oper)(o:Oper)(env:Env):Option Bool:=
 match o.guard with
 |none=>some true
 |some (j,c)=>match(all[j]?).bind (·.dst)with
  |none=>none
  |some d=>match lk env d with
   |.bool true=>some c
   |.bool false=>some (!c)
   |.tup []=>some false
   |_=>none
theorem QE{all:Array Oper}{o:Oper}{env:Env}{b:Bool}(h:Yv all o env=some b):Qt all o env b:=by
 unfold Yv at h;unfold Qt;split at h
 .grind
 .rename_i j c q;rw[q];split at h
  .cases h
  .rename_i d a;refine⟨d,a,?_⟩;split at h
   .simp_all
   .simp_all
   .grind
   .cases h
def Qcb:List Nat->Nat->Bool
 |[],_=>false
 |a::r,t=>bif Nat.beq a t then true else Qcb r t
theorem Qee{l:List Nat}{t:Nat}(h:Qcb l t=true):t∈l:=by
 induction l with
 |nil=>cases h
 |cons a r d=>
  grind[Qcb,Nat.eq_of_beq_eq_true]
inductive FL where
 |mk (l:List A)
def fl:List A->FL
 |[]=>.mk []
 |a::r=>match fl r with
  |.mk r'=>.mk (a::r')
theorem Qbt:∀l:List A,fl l=.mk l
 |[]=>rfl
 |a::r=>by unfold fl;rw[Qbt r]
inductive FB where
 |mk (l:List Blk)
def fb:List Blk->FB
 |[]=>.mk []
 |a::r=>match fb r with
  |.mk r'=>.mk (a::r')
theorem Qgh:∀l:List Blk,fb l=.mk l
 |[]=>rfl
 |a::r=>by unfold fb;rw[Qgh r]
inductive FN where
 |mk (n:Nat)
def fn:List Blk->Nat->FN
 |[],n=>.mk n
 |_::r,n=>fn r (n+1)
theorem QhN:∀(l:List Blk) (n:Nat),fn l n=.mk (l.length+n)
 |[],n=>by simp[fn]
 |a::r,n=>by unfold fn;rw[QhN r];simp;omega
def Qgf(env:Env)(pl:List (Nat×Nat)):List A->List (Nat×Operand)->Option (List A)
 |cs,[]=>some cs
 |cs,(i,x)::r=>match Yu pl i with
  |none=>none
  |some (off,size)=>match opB env x with
   |.mk a=>match fl (QW a)with
    |.mk vs=>bif Q4 a&&Nat.beq vs.length size&&Nat.ble (off+size) cs.length then(match fl (splice cs off vs)with
     |.mk cs'=>Qgf env pl cs' r)else none
theorem Qe6{env:Env}{pl:List (Nat×Nat)}:∀(parts:List (Nat×Operand)) (cs:List A),Qgf env pl cs parts=Qcw env pl cs parts
 |[],cs=>rfl
 |(i,x)::r,cs=>by
  unfold Qgf Qcw;rw[Qat];cases pl[i]? with
  |none=>rfl
  |some q=>
   obtain⟨off,size⟩:=q;cases h:opB env x with
   |mk a=>
    rw[QC h];simp only[Qbt];cases(Q4 a&&Nat.beq (QW a).length size&&Nat.ble (off+size) cs.length)with
    |false=>rfl
    |true=>exact Qe6 r _
def QeW(env:Env):List Operand->List A
 |[]=>[]
 |x::r=>match opB env x with
  |.mk a=>a::QeW env r
theorem QbU{env:Env}:∀l:List Operand,QeW env l=l.map (opA env)
 |[]=>rfl
 |x::r=>by
  unfold QeW;cases h:opB env x with
  |mk a=>rw[Vc,QC h];show a::QeW env r=_;rw[QbU r]
def ptX(H:Qc):Bx->Option Lx
 |.mk (.rp cs)=>some (.mk cs)
 |.mk (.ptr i off)=>match Yu H i with
  |some (.cells _ cs)=>some (Qfb off cs)
  |_=>none
 |_=>none
theorem Qjl{H:Qc}{p:A}{a:List A}(h:ptX H (.mk p)=some (.mk a)):Pts H p a:=by
 unfold ptX at h
 grind[Pts.rp,Qat,Pts.cells,Qdi]
def Qb5(T:TyX)(o:Oper)(env:Env)(H:Qc):Option A:=
 match o.op with
 |.move x=>match opB env x with|.mk a=>some a
 |.assign x=>match opB env x with|.mk a=>some a
 |.nilCheck x=>nlB (opB env x)
 |.extract x i=>exB (opB env x) i
 |.unOp u _ x=>unB u (opB env x)
 |.pick c x y=>piB (opB env c) (opB env x) (opB env y)
 |.binOp b _ x y _=>biB b (opB env x) (opB env y)
 |.fieldAddr t x f=>match Qe3 T.ty.fld t f with
  |none=>none
  |some off=>match opB env x with
   |.mk (.ptr i p)=>some (.ptr i (p+off))
   |.mk (.rp cs)=>match Qfb off cs with
    |.mk r=>some (.rp r)
   |_=>none
 |.load t x=>match Qa9 T.ty.agg t with
  |none=>none
  |some (b,n)=>match x with
   |.global g=>match Yu QfG g with
    |some zs=>bif b&&Nat.beq zs.length n then(match fl (zs.map (A.int .i64))with|.mk l=>some (.agg l))else none
    |none=>none
   |x=>match ptX H (opB env x)with
    |none=>none
    |some (.mk cs)=>match b with
     |true=>(match fl (cs.take n)with|.mk l=>bif Nat.beq l.length n then some (.agg l)else none)
     |false=>(match cs with|[]=>none|a::_=>some a)
 |.build t parts=>match Qa9 T.ty.zer t with
  |none=>none
  |some (zs,pl)=>match Qgf env pl zs parts.toList with
   |some cs=>some (.agg cs)
   |none=>none
 |.makeFunc f first cap=>match fl (QeW env first.toList),fl (QeW env cap.toList)with
  |.mk l,.mk l'=>some (.fn f l l')
 |.call c=>match c with
  |{callee:=.builtin .len,args:=⟨[x]⟩,argTypes:=⟨[t]⟩}=>bif Qcb T.sl t then(match opB env x with
   |.mk (.osl _ 0 n _)=>some (.int .i64 n)
   |_=>none)else none
  |_=>none
 |_=>none
theorem Qao{P:Program}{T:TyX}(m:QaM P T){o:Oper}{env:Env}{H:Qc}{x:A}(h:Qb5 T o env H=some x):OpV P o env H x:=by
 unfold Qb5 at h;split at h
 .simp_all[Qba,svB]
 .simp_all[Qba,svB]
 .simp_all[Qba,svB]
 .simp_all[Qba,svB]
 .simp_all[Qba,svB]
 .simp_all[Qba,svB]
 .simp_all[Qba,svB]
 .rename_i t y f a;split at h
  .cases h
  .rename_i u s;obtain⟨n,R⟩:=m.ty.fld _ (Qe2 s);split at h
   .grind[QbK,QC]
   .rename_i d Q;cases q:Qfb u d with
    |mk r=>rw[q]at h;grind[Qdu,QC,Qdi]
   .cases h
 .rename_i t y a;split at h
  .cases h
  .rename_i b n F;obtain⟨j,l⟩:=m.ty.agg _ (Qap F);split at h
   .rename_i g;split at h
    .rename_i w B;rw[Qat]at B;cases q:(b&&Nat.beq w.length n)with
     |false=>grind
     |true=>
      rw[q,Qbt]at h;cases h;simp only[XP]at q;obtain⟨rfl,E⟩:=q;exact Qd5 j l B (by simp_all) a
    .cases h
   .cases e:opB env y with
    |mk p=>
     rw[e]at h;split at h
     .cases h
     .rename_i d J;have N:=Qjl J;cases b with
      |true=>
       simp only[Qbt]at h;cases q:Nat.beq (d.take n).length n with
       |false=>grind
       |true=>
        rw[q]at h;cases h;exact QY a j l (QC e) N rfl (by simp_all)
      |false=>
       grind[OpV.load,QC]
 .rename_i t parts a;split at h
  .cases h
  .rename_i w O G;obtain⟨⟨z,j,l⟩,M⟩:=m.ty.zer _ (Qap G);split at h
   .rename_i d s;cases h;rw[Qe6]at s;exact OpV.build j l M (by rw[a]) s
   .cases h
 .rename_i f first cap a
  simp only[Qbt]at h;cases h;rw[QbU,QbU];exact OpV.makeFunc (first:=first.toList) (cap:=cap.toList) (by rw[a]) rfl rfl
 .rename_i c a;split at h
  .rename_i y t;cases q:Qcb T.sl t with
   |false=>grind
   |true=>
    rw[q]at h;simp only[Vh]at h;obtain⟨V,L⟩:=m.sl t (Qee q);split at h
    .rename_i i n k E;cases h;exact Qg8 L a rfl (QC E)
    .cases h
  .cases h
 .cases h
def stX(T:TyX)(h0 N:Nat)(all:Array Oper)(o:Oper)(env:Env)(H:Qc):Option (Env×Qc):=
 match Yv all o env with
 |none=>none
 |some false=>match o.dst with
  |none=>none
  |some d=>bif Nat.blt d N then some (up env d (.tup []),H)else none
 |some true=>match o.dst with
  |none=>match o.op with
   |.store t x y=>match opB env x,Qa9 T.ty.agg t with
    |.mk (.ptr i off),some (_,n)=>match Yu H i with
     |some (.cells S cs)=>match opB env y with
      |.mk a=>match fl (QW a)with
       |.mk vs=>bif Nat.ble h0 H.length&&(Q4 a&&(Nat.beq vs.length n&&(vs.all Yd&&Nat.ble (off+n) cs.length)))then(match fl (splice cs off vs)with
        |.mk cs'=>match fb (H.set i (.cells S cs'))with
         |.mk H'=>some (env,H'))else none
     |_=>none
    |_,_=>none
   |_=>none
  |some d=>bif Nat.blt d N then(match o.op with
   |.alloc t=>match Qa9 T.al t with
    |some v=>bif Nat.ble h0 H.length then(match fn H 0,fl (QW v)with
     |.mk n,.mk cs=>match fb (H++[.cells t cs])with
      |.mk H'=>some (up env d (.ptr n 0),H'))else none
    |none=>none
   |.box t x=>match opB env x with
    |.mk a=>bif Nat.ble h0 H.length&&(Q4 a&&(QW a).all Yd)then(match fn H 0,fl (QW a)with
     |.mk n,.mk cs=>match fb (H++[.cells t cs])with
      |.mk H'=>some (up env d (.ptr n 0),H'))else none
   |_=>match Qb5 T o env H with
    |some a=>some (up env d a,H)
    |none=>none)else none
section
variable {P:Program} {T:TyX} {h0 N:Nat} {all:Array Oper} {l l':List Oper} {env env':Env} {H H':Qc} {Q:Qx}
theorem Qht(r:QaM P T){o:Oper}(h:stX T h0 N all o env H=some (env',H'))(k:WO P h0 N all l env' H' Q):WO P h0 N all (o::l) env H Q:=by
 unfold stX at h;split at h
 .cases h
 .grind[QE,WO.skip]
 .rename_i J;have j:=QE J;split at h
  .rename_i f;split at h
   .rename_i t x y g;split at h
    .rename_i i m b n u B;split at h
     .rename_i S cs hH;rw[Qat]at hH;cases e:opB env y with
      |mk a=>
       rw[e]at h;simp only[Qbt,Qgh]at h;generalize hc:(Nat.ble h0 H.length&&(Q4 a&&(Nat.beq (QW a).length n&&((QW a).all Yd&&Nat.ble (m+n) cs.length))))=c at h;cases c with
       |false=>cases h
       |true=>
        cases h;simp only[XP]at hc;obtain⟨c1,p,s,G,w⟩:=hc;obtain⟨_,F⟩:=r.ty.agg _ (Qap B);exact Qia (by simp_all) j f (OpU.store g (QC u) hH F (QC e) p rfl (by simp_all) G w rfl) k
     .cases h
    .cases h
   .cases h
  .rename_i d f;cases q:Nat.blt d N with
   |false=>grind
   |true=>
    rw[q]at h;simp only[Vh]at h;split at h
    .rename_i t g;split at h
     .rename_i v R;cases c:Nat.ble h0 H.length with
      |false=>grind
      |true=>
       rw[c]at h;simp only[Qbt,Qgh,QhN,Vh,Xs]at h;cases h;obtain⟨⟨z,E,V⟩,O,L⟩:=r.al _ (Qap R);exact QfN (by simp_all) j f q (QbL E V g O rfl L) k
     .cases h
    .rename_i t x g;cases e:opB env x with
     |mk a=>
      rw[e]at h;simp only[Qbt,Qgh,QhN,Xs]at h;generalize hc:(Nat.ble h0 H.length&&(Q4 a&&(QW a).all Yd))=c at h;cases c with
      |false=>cases h
      |true=>
       cases h;simp only[XP]at hc;obtain⟨c1,p,s⟩:=hc;exact QfN (by simp_all) j f q (OpH.box g (QC e) p rfl s) k
    .split at h
     .rename_i a M;cases h;exact Yq j f q (Qao r M) k
     .cases h
end
theorem FA{P:Program}{T f off n:Nat}{fs:Array Field}{a:Field}(h:∀w,(underlying T).run P w=.ok (.struct fs) w)(g:fs[f]?=some a)(d:∀w,(sizeOf a.type).run P w=.ok n w)(e:a.offset=off:=by exact rfl)(h5:n≠0:=by decide):Ym P T f off n:=⟨_,_,h,g,e,d,h5⟩
theorem Qco:∀(π:List Nat) (H:Qc) (xs:List Blk),π.map (λp=>H[p]?)=xs.map some->QJ H π xs=H
 |[],H,xs,h=>by
  simp_all[QJ]
 |p::π,H,[],h=>by simp at h
 |p::π,H,x::xs,h=>by
  simp only[Vc,List.cons.injEq]at h;have e:H.set p x=H:=by
   apply List.ext_getElem?
   grind
  unfold QJ;rw[e];exact Qco π H xs h.2
def Qgy:A->Option Bx
 |.bool b=>some (.mk (.bool b))
 |.int k n=>some (.mk (.int k n))
 |.str s=>some (.mk (.str s))
 |.rsl k es=>some (.mk (.rsl k es))
 |_=>none
theorem QiB{v a:A}(h:Qgy v=some (.mk a))(ρ:Nat->Nat):Yw ρ v=a:=by
 cases v<;>first|(cases h;rfl)|cases h
theorem Pc{P:Program}{h0 N:Nat}{all:Array Oper}{o:Oper}{l:List Oper}{env:Env}{H:Qc}{Q:Qx}{d:Nat}{f:FuncId}{args e:List A}{Hc:Qc}{v h:A}(π:List Nat)(j:o.dst=some d)(g:OpC P o env H f args)(i:C P f e Hc (λa H1=>a=v/\H1=Hc))(m:Qgy v=some (.mk h))
  (k:WO P h0 N all l (up env d h) H Q)
  (hargs:args=Qag (rho π H.length) e:=by exact rfl)(hH:π.map (λp=>H[p]?)=(Hc.map (QK (rho π H.length))).map some:=by exact rfl)(hπ:π.Nodup:=by decide)
  (hg:Qt all o env true:=by exact rfl)(hN:Nat.blt d N=true:=by exact rfl)(hh:Nat.ble h0 H.length=true:=by exact rfl):WO P h0 N all (o::l) env H Q:=by
 refine Qi π g i ?_ hargs hH hπ hg j hN hh
 simp_all[QiB,Qco]
theorem QX{i k:Nat}{es:List (List A)}:∀H:Qc,FzH i k es H H
 |[]=>.nil
 |_::r=>.keep (QX r)
def foN:Nat->FN
 |0=>.mk 0
 |1=>.mk 1
 |2=>.mk 2
 |3=>.mk 3
 |4=>.mk 4
 |5=>.mk 5
 |6=>.mk 6
 |7=>.mk 7
 |8=>.mk 8
 |9=>.mk 9
 |10=>.mk 10
 |11=>.mk 11
 |12=>.mk 12
 |13=>.mk 13
 |14=>.mk 14
 |15=>.mk 15
 |16=>.mk 16
 |17=>.mk 17
 |18=>.mk 18
 |19=>.mk 19
 |20=>.mk 20
 |21=>.mk 21
 |22=>.mk 22
 |23=>.mk 23
 |24=>.mk 24
 |25=>.mk 25
 |26=>.mk 26
 |27=>.mk 27
 |28=>.mk 28
 |29=>.mk 29
 |30=>.mk 30
 |31=>.mk 31
 |32=>.mk 32
 |33=>.mk 33
 |34=>.mk 34
 |35=>.mk 35
 |36=>.mk 36
 |37=>.mk 37
 |38=>.mk 38
 |39=>.mk 39
 |40=>.mk 40
 |41=>.mk 41
 |42=>.mk 42
 |43=>.mk 43
 |44=>.mk 44
 |45=>.mk 45
 |46=>.mk 46
 |47=>.mk 47
 |n=>.mk n
theorem Qel(n:Nat):foN n=.mk n:=by unfold foN;split<;>rfl
mutual
def foA:A->Bx
 |.agg cs=>match foL cs with
  |.mk l=>.mk (.agg l)
 |.tup cs=>match foL cs with
  |.mk l=>.mk (.tup l)
 |.fn f a c=>match foL a,foL c with
  |.mk l,.mk l'=>.mk (.fn f l l')
 |.iface t v=>match foA v with
  |.mk v'=>.mk (.iface t v')
 |.ptr i off=>match foN i with
  |.mk i'=>.mk (.ptr i' off)
 |.osl i o n k=>match foN i with
  |.mk i'=>.mk (.osl i' o n k)
 |.map i=>match foN i with
  |.mk i'=>.mk (.map i')
 |a=>.mk a
def foL:List A->FL
 |[]=>.mk []
 |a::r=>match foA a,foL r with
  |.mk a',.mk r'=>.mk (a'::r')
end
mutual
theorem QfH:∀a:A,foA a=.mk a
 |.agg cs=>by unfold foA;rw[QbG cs]
 |.tup cs=>by unfold foA;rw[QbG cs]
 |.fn f a c=>by unfold foA;rw[QbG a,QbG c]
 |.iface t v=>by unfold foA;rw[QfH v]
 |.ptr i off=>by unfold foA;rw[Qel]
 |.osl i o n k=>by unfold foA;rw[Qel]
 |.map i=>by unfold foA;rw[Qel]
 |.any|.bool _|.int _ _|.str _|.nilp|.rp _|.nils|.rsl _ _|.nilf|.nilif|.nilm=>by rfl
theorem QbG:∀l:List A,foL l=.mk l
 |[]=>by rfl
 |a::r=>by unfold foL;rw[QfH a,QbG r]
end
inductive FE2 where
 |mk (l:List (List A))
def foE:List (List A)->FE2
 |[]=>.mk []
 |a::r=>match foL a,foE r with
  |.mk a',.mk r'=>.mk (a'::r')
theorem QhM:∀l,foE l=.mk l
 |[]=>rfl
 |a::r=>by unfold foE;rw[QbG,QhM r]
def foH:List Blk->FB
 |[]=>.mk []
 |b::r=>match foH r with
  |.mk r'=>match b with
   |.cells t cs=>match foL cs with
    |.mk l=>.mk (.cells t l::r')
   |.rowr t k es=>match foE es with
    |.mk l=>.mk (.rowr t k l::r')
   |.dead=>.mk (.dead::r')
   |.row t k es=>.mk (.row t k es::r')
   |.map es=>.mk (.map es::r')
   |.iter c es=>.mk (.iter c es::r')
   |.fmap es=>.mk (.fmap es::r')
   |.mapO fz t k es=>.mk (.mapO fz t k es::r')
   |.mapP es=>.mk (.mapP es::r')
   |.frow t k es=>.mk (.frow t k es::r')
   |.wins t a n c=>match foN a with
    |.mk a'=>.mk (.wins t a' n c::r')
   |.ents t a b es=>match foN a,foN b with
    |.mk a',.mk b'=>.mk (.ents t a' b' es::r')
theorem QhL:∀l,foH l=.mk l
 |[]=>rfl
 |b::r=>by
  unfold foH;rw[QhL r];cases b<;>simp only[QbG,QhM,Qel]
def foS(env:Env)(H:Qc):Option (Env×Qc):=
 match foH H with
 |.mk H'=>match env with
  |[]=>some ([],H')
  |(d,a)::e=>match foA a with
   |.mk a'=>some ((d,a')::e,H')
theorem Qjx(env:Env)(H:Qc):foS env H=some (env,H):=by
 unfold foS;rw[QhL];cases env with
 |nil=>rfl
 |cons p e=>obtain⟨d,a⟩:=p;simp only[QfH]
theorem FE{P:Program}{h0 N:Nat}{all:Array Oper}{l:List Oper}{env a:Env}{H H':Qc}{Q:Qx}(h:foS env H=some (a,H'))(k:WO P h0 N all l a H' Q):WO P h0 N all l env H Q:=by
 rw[Qjx]at h
 grind
theorem R1{P:Program}{h0:Nat}{fn:Func}{env:Env}{H Hc:Qc}{v:A}(s:Nat)(hr:fn.results= #[.tmp s])(hle:Le h0 env H [(s,v)] Hc):YK P h0 fn (λa H=>a=v/\H=Hc) .ret env H:=
 ⟨[(s,v)],Hc,v,hle,Qa6.one hr (by simp_all[lk]),rfl,rfl⟩
theorem R2{P:Program}{h0:Nat}{fn:Func}{env:Env}{H Hc:Qc}{v v':A}(s t:Nat)(hr:fn.results= #[.tmp s,.tmp t])(hn:Nat.beq t s=false)(hle:Le h0 env H [(s,v),(t,v')] Hc):YK P h0 fn (λa H=>a=.tup [v,v']/\H=Hc) .ret env H:=
 ⟨[(s,v),(t,v')],Hc,_,hle,Qg0 hr (by simp_all[lk]) (by simp_all[lk]),rfl,rfl⟩
theorem FzA.o{i k n:Nat}{es:List (List A)}(a:n=es.length:=by first|exact(XU ..).symm|exact rfl):FzA i k es (.osl i 0 n k) (.rsl k es):=FzA.own a
theorem Le.env{e:Nat}{env d:Env}{H:Qc}(h:∀s,lk d s=.any\/lk d s=lk env s):Le e env H d H:=by
 intro g f σ N a w r;refine⟨f,σ,⟨r.sim,λs=>?_,r.size,r.defers⟩,λ_ q=>q,rfl⟩;rcases h s with h|h
 .rw[h];trivial
 .rw[h];exact r.env s
def Qir(env:Env):Env->Prop
 |[]=>True
 |(s,a)::r=>lk env s=a/\Qir env r
theorem Qir.ok{env:Env}:∀{f:Env},Qir env f->∀s,lk f s=.any\/lk f s=lk env s
 |[],_,s=>.inl rfl
 |(d,a)::e,⟨h1,h2⟩,s=>by
  by_cases q:s=d
  .simp_all[lk]
  .have:Nat.beq s d=false:=by
    simp_all[Vx]
   simp only[lk,this,Vi];exact Qir.ok h2 s
theorem Lw{h0:Nat}{env env':Env}{H:Qc}(h:Qir env env'):Le h0 env H env' H:=Le.env h.ok
def ixO(d:Nat)(op:Op)(t:Nat)(pos:String)(af:Array Edge):Oper:={dst:=some d,op:=op,type:=t,pos:=pos,after:=af,guard:=none}
inductive Kf where
 |seq (c:Code)
 |blo (id:Nat)
 |unr (c:Code)
inductive Cf where
 |code (c:Code)
 |ops (all:Array Oper) (l:List Oper)
 |out (x:AEx)
def kq(P:Program)(h0 N:Nat):List Kf->Qx->Qx
 |[],Q=>Q
 |.seq c::k,Q=>Seq P h0 N c (kq P h0 N k Q)
 |.blo id::k,Q=>Blo id (kq P h0 N k Q)
 |.unr c::k,Q=>QfP P h0 N c (kq P h0 N k Q)
@[reducible] def Hd(P:Program)(h0 N:Nat):Cf->List Kf->Env->Qc->Qx->Prop
 |.code c,k,env,H,Q=>TC P h0 N c env H (kq P h0 N k Q)
 |.ops all l,k,env,H,Q=>WO P h0 N all l env H (kq P h0 N k Q)
 |.out x,k,env,H,Q=>kq P h0 N k Q x env H
def QdJ(T:TyX)(h0 N:Nat):Cf->List Kf->Env->Qc->Option (Cf×List Kf×Env×Qc)
 |.code (.seq a b),k,env,H=>some (.code a,.seq b::k,env,H)
 |.code (.block id c),k,env,H=>some (.code c,.blo id::k,env,H)
 |.code (.loop c),k,env,H=>some (.code c,.unr c::k,env,H)
 |.code .skip,k,env,H=>some (.out .normal,k,env,H)
 |.code .ret,k,env,H=>some (.out .ret,k,env,H)
 |.code (.exit id),k,env,H=>some (.out (.exit id),k,env,H)
 |.code (.region id ⟨l⟩ false),k,env,H=>some (.ops ⟨l⟩ l,k,env,H)
 |.code (.cond x a b),k,env,H=>match opB env x with
  |.mk (.bool true)=>some (.code a,k,env,H)
  |.mk (.bool false)=>some (.code b,k,env,H)
  |_=>none
 |.ops all [],k,env,H=>some (.out .normal,k,env,H)
 |.ops all (o::l),k,env,H=>match stX T h0 N all o env H with
  |some (env',H')=>some (.ops all l,k,env',H')
  |none=>none
 |.out .normal,.seq c::k,env,H=>some (.code c,k,env,H)
 |.out (.exit i),.seq _::k,env,H=>some (.out (.exit i),k,env,H)
 |.out .ret,.seq _::k,env,H=>some (.out .ret,k,env,H)
 |.out .normal,.blo _::k,env,H=>some (.out .normal,k,env,H)
 |.out (.exit i),.blo id::k,env,H=>match Nat.beq i id with
  |true=>some (.out .normal,k,env,H)
  |false=>some (.out (.exit i),k,env,H)
 |.out .ret,.blo _::k,env,H=>some (.out .ret,k,env,H)
 |.out .normal,.unr c::k,env,H=>some (.code c,.unr c::k,env,H)
 |.out (.exit i),.unr _::k,env,H=>some (.out (.exit i),k,env,H)
 |.out .ret,.unr _::k,env,H=>some (.out .ret,k,env,H)
 |_,_,_,_=>none
def QbQ(T:TyX)(h0 N:Nat):Nat->Cf->List Kf->Env->Qc->Option (Cf×List Kf×Env×Qc)
 |0,c,k,env,H=>some (c,k,env,H)
 |n+1,c,k,env,H=>match QdJ T h0 N c k env H with
  |some (c',k',env',H')=>QbQ T h0 N n c' k' env' H'
  |none=>none
section
variable {P:Program} {T:TyX} {h0 N:Nat} {Q:Qx}
theorem Qhq(f:QaM P T){c e:Cf}{k d:List Kf}{env a:Env}{H H':Qc}(h:QdJ T h0 N c k env H=some (e,d,a,H'))(g:Hd P h0 N e d a H' Q):Hd P h0 N c k env H Q:=by
 unfold QdJ at h;split at h
 .cases h;exact TC.seq g
 .cases h;exact TC.block g
 .cases h;exact QgX g
 .cases h;exact TC.skip g
 .cases h;exact TC.ret g
 .cases h;exact TC.exit g
 .cases h;exact TC.region g
 .split at h
  .rename_i q;cases h;exact Qii (QC q) rfl g
  .rename_i q;cases h;exact Qij (QC q) rfl g
  .cases h
 .cases h;exact WO.nil g
 .grind[Qht]
 .cases h;exact seqN g
 .cases h;exact seqX g
 .cases h;exact seqR g
 .cases h;exact bloN g
 .split at h
  .rename_i q;cases h;have:=XK q;subst this;exact bloE g
  .rename_i q;cases h;exact bloX q g
 .cases h;exact bloR g
 .cases h;exact unrN g
 .cases h;exact unrX g
 .cases h;exact unrR g
 .cases h
theorem QbP(hT:QaM P T):∀(n:Nat) {c c':Cf} {k k':List Kf} {env env':Env} {H H':Qc},QbQ T h0 N n c k env H=some (c',k',env',H')->Hd P h0 N c' k' env' H' Q->Hd P h0 N c k env H Q
 |0,c,c',k,k',env,env',H,H',h,g=>by cases h;exact g
 |n+1,c,c',k,k',env,env',H,H',h,g=>by
  unfold QbQ at h;split at h
  .rename_i e;exact Qhq hT e (QbP hT n h g)
  .cases h
theorem Qf3{env:Env}{s:Nat}{a:A}(h:lk env s=a):∀t,lk (up env s a) t=lk env t:=by
 intro t;simp[lk];cases q:Nat.beq t s with
 |true=>simp_all
 |false=>rfl
theorem Is{α:Type}{all:Array Oper}{l:List Oper}{env:Env}{H:Qc}{b:Bool}{x y:Option α}{r:α}(s:Nat)(h:(bif b then x else y)=some r)(d:lkB env s=.mk (.bool b))
  (t:b=true->x=some r->WO P h0 N all l (up env s (.bool true)) H Q)(e:b=false->y=some r->WO P h0 N all l (up env s (.bool false)) H Q):WO P h0 N all l env H Q:=by
 have a:=QfD d;cases b with
 |true=>exact Qq (Le.env λt=>.inr (Qf3 a t)) (t rfl h)
 |false=>exact Qq (Le.env λt=>.inr (Qf3 a t)) (e rfl h)
end
def dstN(o:Oper)(i:Nat):Nat:=match o.dst with|some d=>d|none=>1000000+i
def QaI:Nat->Nat->List Oper->List Nat
 |0,_,_=>[]
 |_+1,_,[]=>[]
 |m+1,i,o::l=>dstN o i::QaI m (i+1) l
def QV(af:List Nat):Nat->List Nat->List A->Env->Env
 |j,d::ds,x::xs,e=>(d,bif Qcb af j then x else .any)::QV af (j+1) ds xs e
 |j,d::ds,[],e=>(d,.any)::QV af (j+1) ds [] e
 |_,[],_,e=>e
theorem QdD{l:List Nat}{t:Nat}:Qcb l t=l.contains t:=by
 induction l with
 |nil=>rfl
 |cons a r d=>
  grind[Qcb,Nat.eq_of_beq_eq_true,Nat.beq_refl]
theorem Qgl{af:List Nat}{env0:Env}{s:Nat}:∀(a:List Nat) (xs f:List A) (b:Nat),
  (∃(j:Nat) (x:A),af.contains (b+j)=true/\a[j]?=some s/\(xs++f)[j]?=some x/\lk (QV af b a xs env0) s=x)\/lk (QV af b a xs env0) s=.any\/(a.contains s=false/\lk (QV af b a xs env0) s=lk env0 s):=by
 intro a
 induction a with
 |nil=>intro xs f b;right;right;exact⟨rfl,by rfl⟩
 |cons d a p=>
  intro xs f b;have next:∀(e:List A),(∃(j:Nat) (x:A),af.contains (b+1+j)=true/\a[j]?=some s/\(e++f)[j]?=some x/\lk (QV af (b+1) a e env0) s=x)->∀m,(∃(j:Nat) (x:A),af.contains (b+j)=true/\(d::a)[j]?=some s/\(m::e++f)[j]?=some x/\lk (QV af (b+1) a e env0) s=x):=by
   rintro e ⟨j,x,g,k,n,l⟩ m;exact⟨j+1,x,by grind,by grind,by grind,l⟩
  cases xs with
  |nil=>
   cases q:Nat.beq s d with
   |true=>simp_all[QV,lk]
   |false=>
    have i:s≠d:=λz=>by simp_all
    simp only[QV,lk,q,Vi];rcases p [] [] (b+1)with⟨j,x,g,k,n,l⟩|h|⟨g,k⟩
    .simp at n
    .grind
    grind
  |cons x xs=>
   cases q:Nat.beq s d with
   |true=>
    have:=XK q;subst this;simp only[QV,lk,q,Vh];cases c:Qcb af b with
    |true=>left;exact⟨0,x,by rw[<- QdD];exact c,rfl,rfl,rfl⟩
    |false=>simp
   |false=>
    have i:s≠d:=λz=>by simp_all
    simp only[QV,lk,q,Vi];rcases p xs f (b+1)with h|h|⟨g,k⟩
    .exact .inl (next xs h x)
    .grind
    grind
section
variable {P:Program} {T:TyX} {h0 N m:Nat} {l:List Oper} {ds:List Nat} {env:Env} {H:Qc} {Q:Qx} {K:List Oper->Env->Qc->Prop}
def DS(P:Program)(N m:Nat)(l:List Oper)(ds:List Nat)(env:Env)(H:Qc)(K:List Oper->Env->Qc->Prop)(r:List Oper)(xs:List A):Prop:=
 r=l.drop xs.length->∃ys,xs.length+ys.length=m/\(∀j,xs.length<=j->j<m->YQ P N l ds (xs++ys) env H.length H.length j H H)/\K (l.drop m) (Qam ds (xs++ys) env) H
theorem oqOf{xs:List A}:∀(c i:Nat),(∀j,i<=j->j<i+c->YQ P N l ds xs env H.length H.length j H H)->Oq P N l ds xs env H i c
 |0,i,_=>.n
 |c+1,i,h=>.c (by grind) (oqOf c (i+1) (by grind))
theorem Qiw{id:Nat}{k:List Kf}(m:Nat)(d:P.follows .mixedOrders=true)(i:Go.Sw.draw0 l m N (QaI m 0 l)=true)(a:Nat.ble h0 H.length=true)
  (h:DS P N m l (QaI m 0 l) env H (λr e H=>WO P h0 N l.toArray r e H Q) l []):TC P h0 N (.region id l.toArray true) env H Q:=by
 obtain⟨f,n,j,g⟩:=h rfl;exact TC.draw0 m _ f d i (by simp_all) a (oqOf m 0 (by grind)) g
theorem DS.done{xs:List A}{r:List Oper}(a:Nat.beq xs.length m=true)(h:K r (Qam ds xs env) H):DS P N m l ds env H K r xs:=by
 intro d;have e:=XK a;refine⟨[],by simpa using e,λj g f=>by omega,?_⟩
 grind
theorem DS.add{xs:List A}{o:Oper}{r:List Oper}{x:A}(e:Nat.blt xs.length m=true)(i:∀ys,l[xs.length]?=some o->YQ P N l ds (xs++x::ys) env H.length H.length xs.length H H)(k:DS P N m l ds env H K r (xs++[x])):DS P N m l ds env H K (o::r) xs:=by
 intro d;have a:xs.length<l.length:=by
  grind[List.drop_eq_nil_of_le]
 rw[Xm a]at d;cases d;obtain⟨ys,g,h,f⟩:=k (by simp)
 grind
theorem Qe1{xs a:List A}{x:A}:(xs++x::a)[xs.length]?=some x:=by simp
theorem DS.wo{xs:List A}{o:Oper}{r:List Oper}{x:A}{d:Nat}(h:WO P H.length N l.toArray [o] (QV (Qk o) 0 ds xs env) H (YB (up (QV (Qk o) 0 ds xs env) d x) H))(k:DS P N m l ds env H K r (xs++[x]))
  (e:o.dst=some d:=by exact rfl)(hx:Nat.blt xs.length m=true:=by exact rfl):DS P N m l ds env H K (o::r) xs:=
 .add hx (λa f=>.woE o _ d x f e Qe1 (he:=by
  intro s;rcases Qgl (af:=Qk o) (env0:=env) (s:=s) ds xs (x::a) 0 with⟨j,y,n,p,g,i⟩|q|q
  .grind
  .grind
  grind) (hdd:=Qcz H) (h:=h)) k
theorem DS.v{xs:List A}{o:Oper}{r:List Oper}{x:A}{d:Nat}(h:OpV P o (QV (Qk o) 0 ds xs env) H x)(k:DS P N m l ds env H K r (xs++[x]))(hg:Qt l.toArray o (QV (Qk o) 0 ds xs env) true:=by exact rfl)
  (hd:o.dst=some d:=by exact rfl)(hN:Nat.blt d N=true:=by exact rfl)(hx:Nat.blt xs.length m=true:=by exact rfl):DS P N m l ds env H K (o::r) xs:=
 .wo (Yq hg hd hN h (WO.nil YB.mk)) k hd hx
def QbX:List A->A->FL
 |[],x=>.mk [x]
 |a::r,x=>match QbX r x with
  |.mk r'=>.mk (a::r')
theorem YJ:∀(l:List A) (x:A),QbX l x=.mk (l++[x])
 |[],x=>rfl
 |a::r,x=>by unfold QbX;rw[YJ r];rfl
def QeP(T:TyX)(N m:Nat)(l:List Oper)(ds:List Nat)(env:Env)(H:Qc):Nat->Nat->List Oper->List A->Option (List Oper×List A)
 |0,_,r,xs=>some (r,xs)
 |_+1,_,[],_=>none
 |n+1,i,o::r,xs=>match Nat.blt i m with
  |false=>none
  |true=>match o.dst with
   |none=>none
   |some d=>match Nat.blt d N with
    |false=>none
    |true=>match Yv ⟨l⟩ o (QV (Qk o) 0 ds xs env)with
     |none=>none
     |some false=>match QbX xs (.tup [])with
      |.mk xs'=>QeP T N m l ds env H n (i+1) r xs'
     |some true=>match Qb5 T o (QV (Qk o) 0 ds xs env) H with
      |none=>none
      |some x=>match QbX xs x with
       |.mk xs'=>QeP T N m l ds env H n (i+1) r xs'
theorem Qc3(hT:QaM P T):∀(n i:Nat) {r r':List Oper} {xs xs':List A},i=xs.length->QeP T N m l ds env H n i r xs=some (r',xs')->DS P N m l ds env H K r' xs'->DS P N m l ds env H K r xs
 |0,i,r,r',xs,xs',_,h,k=>by cases h;exact k
 |n+1,i,[],r',xs,xs',_,h,k=>by cases h
 |n+1,i,o::r,r',xs,xs',hi,h,k=>by
  subst hi;unfold QeP at h;split at h
  .cases h
  .rename_i q1;split at h
   .cases h
   .rename_i d hd;split at h
    .cases h
    .rename_i q2;split at h
     .cases h
     .rename_i hw;simp[YJ]at h;exact .wo (WO.skip (QE hw) hd q2 (WO.nil YB.mk)) (Qc3 hT n _ (by simp) h k) hd q1
     .rename_i hw;split at h
      .cases h
      .rename_i x hv;simp[YJ]at h;exact .v (Qao hT hv) (Qc3 hT n _ (by simp) h k) (QE hw) hd q2 q1
def Qfy:List A->Nat->A->FL
 |[],_,_=>.mk []
 |_::r,0,x=>.mk (x::r)
 |a::r,n+1,x=>match Qfy r n x with
  |.mk r'=>.mk (a::r')
theorem QaG:∀{l:List A} {n:Nat} {x:A},Yu l n=some x->Qfy l n x=.mk l
 |[],n,x,h=>by cases h
 |a::r,0,x,h=>by cases h;rfl
 |a::r,n+1,x,h=>by unfold Qfy;rw[QaG (l:=r) h]
theorem Q7{α:Type}{b:Bool}{x y:Option α}{v:α}{xs d a:List A}{r:List Oper}(j:Nat)(h:(bif b then x else y)=some v)(g:Yu xs j=some (.bool b))(f:Qfy xs j (.bool true)=.mk d)(i:Qfy xs j (.bool false)=.mk a)
  (t:b=true->x=some v->DS P N m l ds env H K r d)(e:b=false->y=some v->DS P N m l ds env H K r a):DS P N m l ds env H K r xs:=by
 cases b with
 |true=>simp_all[QaG]
 |false=>simp_all[QaG]
end
@[reducible] def RQ{β:Type}(w:β->A)(Hc:β->Qc)(r:β):A->Qc->Prop:=λa H=>a=w r/\H=Hc r
@[reducible] def Csm{β:Type}(P:Program)(f:FuncId)(args:List A)(H:Qc)(w:β->A)(r:β):Prop:=C P f args H (RQ w (λ_=>H) r)
structure TyZ where
 sl:List (Nat×Nat×Nat)
 fn:List Nat
structure Qbu (P:Program) (Z:TyZ):Prop where
 sl:∀e∈Z.sl,(∀w,(underlying e.1).run P w=.ok (.slice e.2.1) w)/\ ∀w,(sizeOf e.2.1).run P w=.ok e.2.2 w
 fn:∀f∈Z.fn,∀(a:Array Value) (w:World),(callFunc f a).run P w=.ok (.enter f a) w
section
variable {P:Program} {Z:TyZ} {h0 N:Nat} {all:Array Oper} {o:Oper} {l:List Oper} {env:Env} {H:Qc} {Q:Qx} {d:Nat}
theorem Izz(a:Qbu P Z){α:Type}{e:α->List A}{t p k:Nat}{L:List α}{r:IntKind}{i:Int}{v:α}(h:idx L i=some v)(q:ixB o env=some (d,t,k,L.map e,r,i))(g:WO P h0 N all l (up env d (.rp (e v))) H Q)
  (f:Qa9 Z.sl t=some (p,k))(hg:Yv all o env=some true)(m:Nat.blt d N=true):WO P h0 N all (o::l) env H Q:=by
 obtain⟨n,j⟩:=a.sl _ (Qap f);exact Ix h n j q g (QE hg) m
theorem Ize(f:Qbu P Z){α:Type}{e:α->List A}{t n k:Nat}{L:List α}{p:IntKind}{i:Int}{v:α}{a:List A}(h:idx L i=some v)(he:e v=a)(q:ixB o env=some (d,t,k,L.map e,p,i))(g:WO P h0 N all l (up env d (.rp a)) H Q)
  (j:Qa9 Z.sl t=some (n,k))(hg:Yv all o env=some true)(m:Nat.blt d N=true):WO P h0 N all (o::l) env H Q:=by
 subst he;exact Izz f h q g j hg m
theorem Lmz(f:Qbu P Z){α:Type}{e:α->List A}{t m k a:Nat}{L:List α}(q:lnB o env=some (d,t,.mk (.rsl k (L.map e))))(g:WO P h0 N all l (up env d (.int .i64 L.length)) H Q)
  (h:Qa9 Z.sl t=some (m,a))(hg:Yv all o env=some true)(i:Nat.blt d N=true):WO P h0 N all (o::l) env H Q:=by
 obtain⟨j,n⟩:=f.sl _ (Qap h);exact LnM j q g (QE hg) i
def QdE(Z:TyZ)(o:Oper)(env:Env):Option (Nat×Nat×List A):=
 match o.dst with
 |none=>none
 |some d=>match o.op with
  |.call {callee:=.value (.func f),args:=⟨xs⟩,argTypes:=_}=>bif Qcb Z.fn f then(match fl (QeW env xs)with|.mk ax=>some (d,f,ax))else none
  |.call {callee:=.value (.tmp x),args:=⟨xs⟩,argTypes:=_}=>match opB env (.tmp x)with
   |.mk (.fn (.func f) vf vc)=>bif Qcb Z.fn f then(match fl (vf++(QeW env xs++vc))with|.mk ax=>some (d,f,ax))else none
   |_=>none
  |_=>none
theorem QcS(g:Qbu P Z){f:Nat}{args:List A}(h:QdE Z o env=some (d,f,args)):o.dst=some d/\OpC P o env H f args:=by
 unfold QdE at h;split at h
 .cases h
 .rename_i n j;split at h
  .rename_i a i l e;cases q:Qcb Z.fn a with
   |false=>grind
   |true=>
    rw[q]at h;simp only[Qbt]at h;cases h;exact⟨j,OpC.fn (g.fn _ (Qee q)) e rfl (QbU i).symm⟩
  .rename_i x i l e;split at h
   .rename_i a p m k;cases q:Qcb Z.fn a with
    |false=>grind
    |true=>
     rw[q]at h;simp only[Qbt]at h;cases h;exact⟨j,YW (g.fn _ (Qee q)) e rfl (QC k) (by rw[QbU])⟩
   .cases h
  .cases h
theorem Czz(i:Qbu P Z){β γ:Type}{F:Option β}{F':β->Option γ}{r:γ}{f:Nat}{args a:List A}{Hc:Qc}{w:β->A}(π:List Nat)(h:F.bind F'=some r)(n:∀v,F=some v->C P f a Hc (RQ w (λ_=>Hc) v))
  (e:QdE Z o env=some (d,f,args))(g:∀v,F=some v->F' v=some r->WO P h0 N all l (up env d (w v)) H Q)(m:∀v,Qgy (w v)=some (.mk (w v)))
  (hargs:args=Qag (rho π H.length) a)(u:π.map (λp=>H[p]?)=(Hc.map (QK (rho π H.length))).map some)(hπ:π.Nodup)(hg:Yv all o env=some true)(t:Nat.blt d N=true)(j:Nat.ble h0 H.length=true):WO P h0 N all (o::l) env H Q:=by
 obtain⟨v,k,q⟩:=Q3 h;obtain⟨s,x⟩:=QcS (H:=H) i e
 grind[Pc,QE]
theorem DzZ(s:Qbu P Z){K:List Oper->Env->Qc->Prop}{m:Nat}{i:List Oper}{e:List Nat}{xs:List A}{β γ:Type}{F:Option β}{F':β->Option γ}{r:γ}{f:Nat}{args a:List A}{Hc:Qc}{w:β->A}(π:List Nat)(h:F.bind F'=some r)(u:∀v,F=some v->C P f a Hc (RQ w (λ_=>Hc) v))
  (j:QdE Z o (QV (Qk o) 0 e xs env)=some (d,f,args))(g:∀v,F=some v->F' v=some r->DS P N m i e env H K l (xs++[w v]))(t:∀v,Qgy (w v)=some (.mk (w v)))
  (hargs:args=Qag (rho π H.length) a)(z:π.map (λp=>H[p]?)=(Hc.map (QK (rho π H.length))).map some)(hπ:π.Nodup)(hg:Yv i.toArray o (QV (Qk o) 0 e xs env)=some true)(y:Nat.blt d N=true)(q:Nat.blt xs.length m=true):DS P N m i e env H K (o::l) xs:=by
 obtain⟨v,k,x⟩:=Q3 h;obtain⟨n,B⟩:=QcS s j;exact .wo (Pc π n B (u v k) (t v) (WO.nil YB.mk) hargs z hπ (QE hg) y (by simp)) (g v k x) n q
theorem ln:QaP H [] []:=trivial
theorem ls{ax d:List A}{a:A}(k:QaP H ax d)(h:Yc a=true:=by exact rfl):QaP H (a::ax) (a::d):=⟨.inl ⟨rfl,h⟩,k⟩
theorem lo{ax a:List A}{i n k t:Nat}{es:List (List A)}(d:QaP H ax a)(e:H[i]?=some (.row t k es):=by exact rfl)(hn:es.length=n:=by exact XU ..):QaP H (.osl i 0 n k::ax) (.rsl k es::a):=
 ⟨.inr (by grind),d⟩
theorem Cbz(i:Qbu P Z){β γ:Type}{F:Option β}{F':β->Option γ}{r:γ}{f:Nat}{args a:List A}{w:β->A}(h:F.bind F'=some r)(m:∀v,F=some v->C P f a [] (RQ w (λ_=>[]) v))
  (e:QdE Z o env=some (d,f,args))(k:QaP H args a)(g:∀v,F=some v->F' v=some r->WO P h0 N all l (up env d (w v)) H Q)(s:∀v,QT (w v)=true)
  (hg:Yv all o env=some true)(p:Nat.blt d N=true):WO P h0 N all (o::l) env H Q:=by
 obtain⟨v,j,t⟩:=Q3 h;obtain⟨n,q⟩:=QcS i e;refine QbY q k (m v j) ?_ ?_ (QE hg) n p
 .grind
 grind
end
def ixL:List Nat:=[0,1,2,3,4,5,6,7,8,9,10,11,12,13,14,15,16,17,18,19,20,21,22,23,24,25,26,27,28,29,30,31,32,33,34,35,36,37,38,39,40,41,42,43,44,45,46,47,48,49,50,51,52,53,54,55,56,57,58,59,60,61,62,63]
def QfC:List Nat->List Nat->Nat->FN
 |a::r,b::s,j=>bif Nat.beq a j then .mk b else QfC r s j
 |_,_,j=>.mk j
mutual
def cpA(sel:List Nat):A->Bx
 |.ptr i off=>match QfC sel ixL i with
  |.mk j=>.mk (.ptr j off)
 |.osl i o n k=>match QfC sel ixL i with
  |.mk j=>.mk (.osl j o n k)
 |.map i=>match QfC sel ixL i with
  |.mk j=>.mk (.map j)
 |.fn f a c=>match cpL sel a,cpL sel c with
  |.mk a',.mk c'=>.mk (.fn f a' c')
 |a=>.mk a
def cpL(sel:List Nat):List A->FL
 |[]=>.mk []
 |a::r=>match cpA sel a,cpL sel r with
  |.mk a',.mk r'=>.mk (a'::r')
end
inductive FV where
 |mk (e:Env)
def QhE(sel:List Nat)(env:Env):List Nat->Env->FV
 |[],nE=>.mk nE
 |s::r,nE=>match lkB env s with
  |.mk a=>match cpA sel a,QhE sel env r nE with
   |.mk a',.mk e=>.mk ((s,a')::e)
def selH(H:Qc):List Nat->List Nat->List (Nat×Blk)->FB
 |a::r,p::ps,[]=>match Yu H a,selH H r ps []with
  |some b,.mk l=>.mk (b::l)
  |none,.mk l=>.mk l
 |a::r,p::ps,(q,b)::n=>bif Nat.beq p q then(match selH H r ps n with|.mk l=>.mk (b::l))else(match Yu H a,selH H r ps ((q,b)::n)with
  |some b,.mk l=>.mk (b::l)
  |none,.mk l=>.mk l)
 |_,_,_=>.mk []
def QfK(sel keep:List Nat)(nE:Env)(nH:List (Nat×Blk))(env:Env)(H:Qc):Option (Env×Qc):=
 match QhE sel env keep nE,selH H sel ixL nH with
 |.mk e,.mk h=>some (e,h)
section
variable {P:Program} {h0 N:Nat} {c:Code} {env:Env} {H:Qc} {Q:Qx}
def Qf0{β:Type}(h0:Nat)(b:β)(E':β->Env)(H':β->Qc)(Q:Qx):Qx
 |.normal,env,H=>Le h0 env H (E' b) (H' b)
 |.exit id,env,H=>Q (.exit id) env H
 |.ret,env,H=>Q .ret env H
theorem Qa5{h0:Nat}{env:Env}{H:Qc}{Q:Qx}{β:Type}{b:β}{E':β->Env}{H':β->Qc}(h:Le h0 env H (E' b) (H' b)):Qf0 h0 b E' H' Q .normal env H:=h
theorem Ct{β:Type}{E':β->Env}{H':β->Qc}(b:β)(sel keep:List Nat)(nE:β->Env)(nH:β->List (Nat×Blk))(_:∀b,QfK sel keep (nE b) (nH b) env H=some (E' b,H' b))(h:TC P h0 N c env H (Qf0 h0 b E' H' Q))(k:∀env H,Le h0 env H (E' b) (H' b)->Q .normal env H):TC P h0 N c env H Q:=
 h.mono λx env' H' q=>by
  cases x with
  |normal=>exact k _ _ q
  |exit id=>exact q
  |ret=>exact q
theorem CtE{S B:Type}{b:Ctl S B}{E':S->Env}{H':S->Qc}(sel keep:List Nat)(nE:S->Env)(nH:S->List (Nat×Blk))(_:∀s,QfK sel keep (nE s) (nH s) env H=some (E' s,H' s))(h:TC P h0 N c env H (Qd8 h0 b E' H' Q))(k:∀s env H,b=.cont s->Le h0 env H (E' s) (H' s)->Q .normal env H):TC P h0 N c env H Q:=Qi2 E' H' h k
theorem Lp{S B:Type}{step:S->Option (Ctl S B)}{E':S->Env}{H':S->Qc}{m:Nat}{s0:S}{b0:B}(sel keep:List Nat)(nE:S->Env)(nH:S->List (Nat×Blk))(h:iter step m s0=some b0)(_:∀s,QfK sel keep (nE s) (nH s) env H=some (E' s,H' s))(hI:Le h0 env H (E' s0) (H' s0))
  (body:∀s d,step s=some d->(∀b,d=.done b->b=b0)->TC P h0 N c (E' s) (H' s) (QaO (λs env H=>Le h0 env H (E' s) (H' s)) d Q)):TC P h0 N (.loop c) env H Q:=TC.loop E' H' h hI body
end
theorem Oj{S B:Type}{d:Ctl S B}{x b0:B}(hb:∀b,d=.done b->b=b0)(h:some (Ctl.done x)=some d):x=b0:=hb x (Oi h).symm
theorem Rt{P:Program}{a:Nat}{fn:Func}{env:Env}{H:Qc}{β:Type}{e r:β}{w:β->A}{Hc:β->Qc}(h:some e=some r)(s:Nat)(π:List Nat)(d:fn.results= #[.tmp s]:=by exact rfl)(hpre:π.take a=List.range a:=by exact rfl)
  (hH:π.map (λp=>H[p]?)=((Hc e).map (QK (rho π H.length))).map some:=by exact rfl)(hπ:π.Nodup:=by decide)(hE:Qbj (rho π H.length) env [(s,w e)]:=by exact⟨rfl,trivial⟩):YK P a fn (RQ w Hc r) .ret env H:=by
 cases h;exact R1 s d (Lr π hpre hH hπ hE)
theorem Cl{d:Nat}{env:Env}{H:Qc}{Q:Qx}{β:Type}{e b:β}{E':β->Env}{H':β->Qc}(h:some e=some b)(π:List Nat)(a:π.take d=List.range d:=by exact rfl)
  (hH:π.map (λp=>H[p]?)=((H' e).map (QK (rho π H.length))).map some:=by exact rfl)(hπ:π.Nodup:=by decide)(hE:Qbj (rho π H.length) env (E' e):=by(repeat' (first|exact trivial|refine⟨rfl,?_⟩))):Qf0 d b E' H' Q .normal env H:=by
 cases h;exact Lr π a hH hπ hE
def plC(cat:List Nat):List (List (Nat×Nat)):=cat.map λc=>match c with|0=>[(0,0)]|1=>[(0,1)]|2=>[(1,1)]|_=>[(0,0),(1,1)]
def rqC(b:Nat)(cat:List Nat):List (List Nat):=cat.map λc=>match c with|2=>[b]|_=>[]
def hsC(cat:List Nat):List Bool:=cat.map λc=>match c with|1=>true|_=>false
section
variable {P:Program} {T:TyX} {h0 N m b:Nat} {cat:List Nat} {l:List Oper} {ds:List Nat} {env:Env} {H H1:Qc} {Q:Qx} {K:List Oper->Env->Qc->Prop}
theorem QeC{P:Program}{N:Nat}{l:List Oper}{ds:List Nat}{xs:List A}{env0:Env}{hB hE:Nat}:∀(ss:List (List (Qc×Qc))) (b:Nat),(∀i s,ss[i]?=some s->∀p∈s,YQ P N l ds xs env0 hB hE (b+i) p.1 p.2)->QeD P N l ds xs env0 hB hE b ss
 |[],b,h=>.nil
 |s::ss,b,h=>.cons (h 0 s rfl) (QeC ss (b+1) λi s' hs=>by rw[show b+1+i=b+(i+1)by omega];simp_all)
def Dob(P:Program)(N:Nat)(cat:List Nat)(l:List Oper)(ds:List Nat)(env:Env)(H H1:Qc)(zs:List A)(j:Nat):Prop:=
 ∀p∈(plC cat).getD j [],YQ P N l ds zs env H.length H.length j ([H,H1].getD p.1 []) ([H,H1].getD p.2 [])
def DB(P:Program)(N m:Nat)(cat:List Nat)(l:List Oper)(ds:List Nat)(env:Env)(H H1:Qc)(K:List Oper->Env->Qc->Prop)(r:List Oper)(xs:List A):Prop:=
 r=l.drop xs.length->∃ys,xs.length+ys.length=m/\(∀j,xs.length<=j->j<m->Dob P N cat l ds env H H1 (xs++ys) j)/\K (l.drop m) (Qam ds (xs++ys) env) H1
def DA(P:Program)(N m:Nat)(cat:List Nat)(l:List Oper)(ds:List Nat)(env:Env)(H:Qc)(K:List Oper->Env->Qc->Prop)(r:List Oper)(xs:List A):Prop:=
 r=l.drop xs.length->∃ys H1,xs.length+ys.length=m/\H.length<=H1.length/\(∀j,xs.length<=j->j<m->Dob P N cat l ds env H H1 (xs++ys) j)/\K (l.drop m) (Qam ds (xs++ys) env) H1
theorem QjN{d:List A}(f:cat.length=m)(k:∀j,0<=j->j<m->Dob P N cat l ds env H H1 d j):QeD P N l ds d env H.length (H.length+0) 0 ((plC cat).map λq=>q.map λp=>([H,H1].getD p.1 [],[H,H1].getD p.2 [])):=by
 refine QeC _ 0 λi s a p r=>?_;rw[Xl]at a;cases e:(plC cat)[i]? with
 |none=>grind
 |some q=>
  rw[e]at a;cases a;obtain⟨h,g,rfl⟩:=Xe.1 r;have n:i<m:=by
   grind[plC]
  have:=k i (XN _) n h (by grind)
  grind
theorem DA.len(a:H.length<=H1.length):[H,H1].all (λX=>Nat.ble (H.length+0) X.length)=true:=by
 simp_all
theorem Qiy{id:Nat}(m b:Nat)(cat:List Nat)(i:P.follows .mixedOrders=true)(p:Qcy l m N (QaI m 0 l) (hsC cat) (rqC b cat) [[],[b]] (plC cat)=true)(f:Nat.beq cat.length m=true)(d:Nat.ble h0 H.length=true)
  (h:DA P N m cat l (QaI m 0 l) env H (λr e H=>WO P h0 N l.toArray r e H Q) l []):TC P h0 N (.region id l.toArray true) env H Q:=by
 obtain⟨j,H1,q,n,k,g⟩:=h rfl;have a:=XK f;exact QF m 0 _ _ _ _ _ j [H,H1] H1 i p (by grind) rfl d (DA.len n) (by simp) rfl (QjN a k) (by simp[plC,a]) g
theorem QaJ{xs:List A}{o:Oper}{r:List Oper}(d:o::r=l.drop xs.length):l[xs.length]?=some o/\r=l.drop (xs.length+1):=by
 have a:xs.length<l.length:=by
  grind[List.drop_eq_nil_of_le]
 rw[Xm a]at d
 grind
theorem QeI{zs:List A}{j c:Nat}(d:Yu cat j=some c)(h:∀p∈match c with|0=>[(0,0)]|1=>[(0,1)]|2=>[(1,1)]|_=>[(0,0),(1,1)],YQ P N l ds zs env H.length H.length j ([H,H1].getD p.1 []) ([H,H1].getD p.2 [])):Dob P N cat l ds env H H1 zs j:=by
 intro p a
 grind[Qat,plC]
theorem Qas{hB hE:Nat}{xs a:List A}{o:Oper}{x:A}{d:Nat}{X X':Qc}(f:l[xs.length]?=some o)(hdd:Qal hB hE X X'=true)(h:WO P X.length N l.toArray [o] (QV (Qk o) 0 ds xs env) X (YB (up (QV (Qk o) 0 ds xs env) d x) X'))(e:o.dst=some d):
  YQ P N l ds (xs++x::a) env hB hE xs.length X X':=
 .woE o _ d x f e Qe1 (he:=by
  intro s;rcases Qgl (af:=Qk o) (env0:=env) (s:=s) ds xs (x::a) 0 with⟨j,y,i,m,k,g⟩|q|q
  .grind
  .grind
  grind) (hdd:=hdd) (h:=h)
theorem YG{n:Nat}{X X':Qc}:Qal n n X X'=true:=by unfold Qal;simp
theorem DA.wo{xs:List A}{o:Oper}{r:List Oper}{x:A}{d:Nat}(h:WO P H.length N l.toArray [o] (QV (Qk o) 0 ds xs env) H (YB (up (QV (Qk o) 0 ds xs env) d x) H))(k:DA P N m cat l ds env H K r (xs++[x]))
  (w:Yu cat xs.length=some 0:=by exact rfl)(hd:o.dst=some d:=by exact rfl)(hx:Nat.blt xs.length m=true:=by exact rfl):DA P N m cat l ds env H K (o::r) xs:=by
 intro n;obtain⟨u,e⟩:=QaJ n;obtain⟨f,H1,i,s,g,a⟩:=k (by grind);simp[Vb,Va]at i g a;refine⟨x::f,H1,by grind,s,λj y z=>?_,a⟩;rcases Vn xs.length j with q|q
 .grind
 .obtain rfl:j=xs.length:=by omega
  refine QeI w λp t=>?_;obtain rfl:=Vm.1 t;exact Qas u YG h hd
theorem DA.op{xs:List A}{o:Oper}{r:List Oper}{x:A}{d:Nat}(h:WO P H.length N l.toArray [o] (QV (Qk o) 0 ds xs env) H (YB (up (QV (Qk o) 0 ds xs env) d x) H1))(k:DB P N m cat l ds env H H1 K r (xs++[x]))(u:Nat.ble H.length H1.length=true:=by exact rfl)
  (hc:Yu cat xs.length=some 1:=by exact rfl)(hd:o.dst=some d:=by exact rfl)(hx:Nat.blt xs.length m=true:=by exact rfl):DA P N m cat l ds env H K (o::r) xs:=by
 intro n;obtain⟨t,e⟩:=QaJ n;obtain⟨f,i,g,a⟩:=k (by grind);simp[Vb,Va]at i g a;refine⟨x::f,H1,by grind,(by simp_all),λj w y=>?_,a⟩;rcases Vn xs.length j with q|q
 .grind
 .obtain rfl:j=xs.length:=by omega
  refine QeI hc λp s=>?_;obtain rfl:=Vm.1 s;exact Qas t YG h hd
theorem DB.done{xs:List A}{r:List Oper}(a:Nat.beq xs.length m=true)(h:K r (Qam ds xs env) H1):DB P N m cat l ds env H H1 K r xs:=by
 intro d;have e:=XK a;refine⟨[],by simpa using e,λj g f=>by omega,?_⟩
 grind
theorem DB.add{xs:List A}{o:Oper}{r:List Oper}{x:A}(i:∀ys,l[xs.length]?=some o->Dob P N cat l ds env H H1 (xs++x::ys) xs.length)(k:DB P N m cat l ds env H H1 K r (xs++[x])):DB P N m cat l ds env H H1 K (o::r) xs:=by
 intro d;obtain⟨h,a⟩:=QaJ d;obtain⟨ys,g,f,e⟩:=k (by grind)
 grind
theorem DB.wo1{xs:List A}{o:Oper}{r:List Oper}{x:A}{d:Nat}(h:WO P H1.length N l.toArray [o] (QV (Qk o) 0 ds xs env) H1 (YB (up (QV (Qk o) 0 ds xs env) d x) H1))(k:DB P N m cat l ds env H H1 K r (xs++[x]))
  (f:Yu cat xs.length=some 2:=by exact rfl)(hd:o.dst=some d:=by exact rfl):DB P N m cat l ds env H H1 K (o::r) xs:=
 .add (λg e=>QeI f λp a=>by
  obtain rfl:=Vm.1 a;exact Qas e YG h hd) k
theorem DB.wo2{xs:List A}{o:Oper}{r:List Oper}{x:A}{d:Nat}(h:WO P H.length N l.toArray [o] (QV (Qk o) 0 ds xs env) H (YB (up (QV (Qk o) 0 ds xs env) d x) H))(f:WO P H1.length N l.toArray [o] (QV (Qk o) 0 ds xs env) H1 (YB (up (QV (Qk o) 0 ds xs env) d x) H1))(k:DB P N m cat l ds env H H1 K r (xs++[x]))
  (g:Yu cat xs.length=some 3:=by exact rfl)(hd:o.dst=some d:=by exact rfl):DB P N m cat l ds env H H1 K (o::r) xs:=
 .add (λi e=>QeI g λp a=>by
  rcases XY.1 a with rfl|a
  .exact Qas e YG h hd
  .obtain rfl:=Vm.1 a;exact Qas e YG f hd) k
def QeQ(T:TyX)(N m:Nat)(cat:List Nat)(l:List Oper)(ds:List Nat)(env:Env)(H:Qc):Nat->Nat->List Oper->List A->Option (List Oper×List A)
 |0,_,r,xs=>some (r,xs)
 |_+1,_,[],_=>none
 |n+1,i,o::r,xs=>match Nat.blt i m,Yu cat i with
  |true,some 0=>match o.dst with
   |none=>none
   |some d=>match Nat.blt d N with
    |false=>none
    |true=>match Yv ⟨l⟩ o (QV (Qk o) 0 ds xs env)with
     |none=>none
     |some false=>match QbX xs (.tup [])with
      |.mk xs'=>QeQ T N m cat l ds env H n (i+1) r xs'
     |some true=>match Qb5 T o (QV (Qk o) 0 ds xs env) H with
      |none=>none
      |some x=>match QbX xs x with
       |.mk xs'=>QeQ T N m cat l ds env H n (i+1) r xs'
  |_,_=>none
theorem Qc6(hT:QaM P T):∀(n i:Nat) {r r':List Oper} {xs xs':List A},i=xs.length->QeQ T N m cat l ds env H n i r xs=some (r',xs')->DA P N m cat l ds env H K r' xs'->DA P N m cat l ds env H K r xs
 |0,i,r,r',xs,xs',_,h,k=>by cases h;exact k
 |n+1,i,[],r',xs,xs',_,h,k=>by cases h
 |n+1,i,o::r,r',xs,xs',hi,h,k=>by
  subst hi;unfold QeQ at h;split at h
  .rename_i q1 q0;split at h
   .cases h
   .rename_i d hd;split at h
    .cases h
    .rename_i q2;split at h
     .cases h
     .rename_i hw;simp[YJ]at h;exact .wo (WO.skip (QE hw) hd q2 (WO.nil YB.mk)) (Qc6 hT n _ (by simp) h k) q0 hd q1
     .rename_i hw;split at h
      .cases h
      .rename_i x hv;simp[YJ]at h;exact .wo (Yq (QE hw) hd q2 (Qao hT hv) (WO.nil YB.mk)) (Qc6 hT n _ (by simp) h k) q0 hd q1
  .cases h
theorem QiE{H:Qc}{p:Bx}{r:Lx}(h:ptX [] p=some r):ptX H p=some r:=by
 unfold ptX at h⊢
 grind[Yu]
theorem QcW{o:Oper}{e:Env}{H:Qc}{x:A}(h:Qb5 T o e []=some x):Qb5 T o e H=some x:=by
 unfold Qb5 at h⊢;split at h<;>first|exact h|skip
 split at h
 .cases h
 grind[QiE]
def Qc5(T:TyX)(N:Nat)(cat:List Nat)(l:List Oper)(ds:List Nat)(env:Env)(H1:Qc):Nat->Nat->List Oper->List A->Option (List Oper×List A)
 |0,_,r,xs=>some (r,xs)
 |_+1,_,[],_=>none
 |n+1,i,o::r,xs=>match o.dst with
  |none=>none
  |some d=>match Nat.blt d N with
   |false=>none
   |true=>match Yv ⟨l⟩ o (QV (Qk o) 0 ds xs env)with
    |none=>none
    |some false=>match Yu cat i with
     |some 2=>(match QbX xs (.tup [])with
      |.mk xs'=>Qc5 T N cat l ds env H1 n (i+1) r xs')
     |some 3=>(match QbX xs (.tup [])with
      |.mk xs'=>Qc5 T N cat l ds env H1 n (i+1) r xs')
     |_=>none
    |some true=>match Yu cat i with
     |some 2=>(match Qb5 T o (QV (Qk o) 0 ds xs env) H1 with
      |none=>none
      |some x=>match QbX xs x with
       |.mk xs'=>Qc5 T N cat l ds env H1 n (i+1) r xs')
     |some 3=>(match Qb5 T o (QV (Qk o) 0 ds xs env) []with
      |none=>none
      |some x=>match QbX xs x with
       |.mk xs'=>Qc5 T N cat l ds env H1 n (i+1) r xs')
     |_=>none
theorem Qbd(hT:QaM P T):∀(n i:Nat) {r r':List Oper} {xs xs':List A},i=xs.length->Qc5 T N cat l ds env H1 n i r xs=some (r',xs')->DB P N m cat l ds env H H1 K r' xs'->DB P N m cat l ds env H H1 K r xs
 |0,i,r,r',xs,xs',_,h,k=>by cases h;exact k
 |n+1,i,[],r',xs,xs',_,h,k=>by cases h
 |n+1,i,o::r,r',xs,xs',hi,h,k=>by
  subst hi;unfold Qc5 at h;split at h
  .cases h
  .rename_i d hd;split at h
   .cases h
   .rename_i q2;split at h
    .cases h
    .rename_i hw;split at h
     .rename_i q0;simp[YJ]at h;exact .wo1 (WO.skip (QE hw) hd q2 (WO.nil YB.mk)) (Qbd hT n _ (by simp) h k) q0 hd
     .rename_i q0;simp[YJ]at h;exact .wo2 (WO.skip (QE hw) hd q2 (WO.nil YB.mk)) (WO.skip (QE hw) hd q2 (WO.nil YB.mk)) (Qbd hT n _ (by simp) h k) q0 hd
     .cases h
    .rename_i hw;split at h
     .rename_i q0;split at h
      .cases h
      .rename_i x hv;simp[YJ]at h;exact .wo1 (Yq (QE hw) hd q2 (Qao hT hv) (WO.nil YB.mk)) (Qbd hT n _ (by simp) h k) q0 hd
     .rename_i q0;split at h
      .cases h
      .rename_i x hv;simp[YJ]at h;exact .wo2 (Yq (QE hw) hd q2 (Qao hT (QcW hv)) (WO.nil YB.mk)) (Yq (QE hw) hd q2 (Qao hT (QcW hv)) (WO.nil YB.mk)) (Qbd hT n _ (by simp) h k) q0 hd
     .cases h
end
def chkF(L:List (Nat×List (Nat×Nat)))(fs:List (Nat×Nat×Nat)):Bool:=
 fs.all λe=>match Qa9 L e.1 with
  |some pl=>(match Yu pl e.2.1 with
   |some q=>Nat.beq q.1 e.2.2&& !(Nat.beq q.2 0)
   |none=>false)
  |none=>false
theorem PL.get{P:Program}{fs:List Field}{d:List (Nat×Nat)}(h:PL P fs d):∀{f a n:Nat},Yu d f=some (a,n)->∃fd,fs[f]?=some fd/\fd.offset=a/\ ∀w,(sizeOf fd.type).run P w=.ok n w:=by
 induction h with
 |nil=>intro f a n h;cases h
 |cons h k g=>
  intro f a n e;cases f with
  |zero=>cases e;grind
  |succ f=>grind[Yu]
theorem Qjy{P:Program}{L:List (Nat×List (Nat×Nat))}{fs:List (Nat×Nat×Nat)}(j:∀e∈L,Qdq P e.1 e.2)(h:chkF L fs=true):∀e∈fs,∃n,Ym P e.1 e.2.1 e.2.2 n:=by
 intro e l;have:=Xo.1 h e l;split at this
 .rename_i u a;split at this
  .rename_i q s;obtain⟨d,n⟩:=q;simp only[XP,Bool.not_eq_true']at this;have m:=XK this.1;obtain⟨k,f,p⟩:=j _ (Qap a);obtain⟨g,t,r,i⟩:=PL.get p s;refine⟨n,⟨⟨_,g,f,by grind,r.trans m,i,?_⟩⟩⟩
   grind[Nat.beq_refl]
  .cases this
 .cases this
section
variable {P:Program} {Z:TyZ} {h0 N:Nat} {all:Array Oper} {o:Oper} {l:List Oper} {env:Env} {H:Qc} {Q:Qx} {d:Nat}
theorem Cdz(i:Qbu P Z){β γ:Type}{F:Option β}{F':β->Option γ}{r:γ}{f:Nat}{args a:List A}{Hc:Qc}{w:β->A}{Hr:β->Qc}(π:List Nat)(h:F.bind F'=some r)(m:∀v,F=some v->C P f a Hc (RQ w Hr v))
  (e:QdE Z o env=some (d,f,args))(g:∀v,F=some v->F' v=some r->WO P h0 N all l (up env d (Yw (rho π H.length) (w v))) (QJ H π ((Hr v).map (QK (rho π H.length)))) Q)
  (hargs:args=Qag (rho π H.length) a)(s:π.map (λp=>H[p]?)=(Hc.map (QK (rho π H.length))).map some)(hπ:π.Nodup)(hg:Yv all o env=some true)(q:Nat.blt d N=true)(j:Nat.ble h0 H.length=true):WO P h0 N all (o::l) env H Q:=by
 obtain⟨v,k,u⟩:=Q3 h;obtain⟨n,t⟩:=QcS (H:=H) i e;refine Qi π t (m v k) ?_ hargs s hπ (QE hg) n q j
 grind
end
inductive FLL where
 |mk (l:List (List A))
def cpLL(sel:List Nat):List (List A)->FLL
 |[]=>.mk []
 |a::r=>match cpL sel a,cpLL sel r with
  |.mk a',.mk r'=>.mk (a'::r')
inductive FBk where
 |mk (b:Blk)
def cpBk(sel:List Nat):Blk->FBk
 |.cells t cs=>match cpL sel cs with
  |.mk l=>.mk (.cells t l)
 |.rowr t k es=>match cpLL sel es with
  |.mk l=>.mk (.rowr t k l)
 |.wins t a n c=>match QfC sel ixL a with
  |.mk a'=>.mk (.wins t a' n c)
 |.ents t a b es=>match QfC sel ixL a,QfC sel ixL b with
  |.mk a',.mk b'=>.mk (.ents t a' b' es)
 |b=>.mk b
def selD(H:Qc)(sel:List Nat):List Nat->FB
 |[]=>.mk []
 |a::r=>match Yu H a with
  |some b=>(match cpBk sel b,selD H sel r with
   |.mk b',.mk l=>.mk (b'::l))
  |none=>.mk []
def retC(sel sl:List Nat)(env:Env)(H:Qc):Option (Env×Qc):=
 match QhE sel env sl [],selD H sel sel with
 |.mk e,.mk h=>some (e,h)
theorem Rx{P:Program}{f:Nat}{fn:Func}{env E':Env}{H H':Qc}{Qr:A->Qc->Prop}{e:A}(π sl:List Nat)(_:retC π sl env H=some (E',H'))(d:Qa6 P fn E' H' e)(g:Qr e H')(a:π.take f=List.range f:=by exact rfl)
  (hH:π.map (λp=>H[p]?)=(H'.map (QK (rho π H.length))).map some:=by exact rfl)(hπ:π.Nodup:=by decide)(hE:Qbj (rho π H.length) env E':=by(repeat' (first|exact trivial|refine⟨rfl,?_⟩))):YK P f fn Qr .ret env H:=
 ⟨E',H',e,Lr π a hH hπ hE,d,g⟩
end Go.Sw
