/- The rules by which the code is walked, with what they rest on (part 2). -/
import Derived.Test.YtgjcbknjiemdgaaGreatDoorL1
import Derived.Below
import GoSem.ClaimChange
import Derived.Shelf.Strings.Search3
import Derived.Lib.LazyBuf
import Derived.Shelf.Sort.Plain
import Derived.Shelf.Slices.In.SortNone
import Derived.Shelf.Slices.CompactI
import Derived.RangeFuncIn
import Derived.RangeFuncSeq
import Derived.RangeFuncNested
import Derived.Lib.Bytealg
import Derived.Laws.Externs
import Derived.LaidLaws
import Derived.Lib.LaidTab
import Derived.ChangeArms
import Derived.ChangeSame
import Derived.Laws.BytesString
set_option linter.unusedVariables false
set_option linter.unusedSectionVars false
set_option linter.unusedSimpArgs false
namespace Go.Sw
open Go.Sort Go.Proofs Go.Shelf
theorem Qei{α:Type}{k:Nat}:∀(vs:List (List α)) (j:Nat),(∀v∈vs,v.length=k)->j<vs.length*k->vs.flatten[j]?=(vs[j/k]?).bind λv=>v[j%k]?
 |[],j,_,h=>by simp at h
 |v::vs,j,hk,h=>by
  have hv:=hk v (by simp);have k0:0<k:=by
   rcases Nat.eq_zero_or_pos k with q|q
   .subst q;simp at h
   .exact q
  rw[Vi];by_cases q:j<k
  .rw[XL (by omega),Nat.div_eq_of_lt q,Nat.mod_eq_of_lt q];simp
  .rw[XM (by omega),hv,Qei vs (j-k) (λv hv=>hk v (by simp[hv])) (by simp[Xm]at h;omega)];have d:j/k=(j-k)/k+1:=by rw[Nat.div_eq_sub_div k0 (by omega)]
   have a:j%k=(j-k)%k:=Nat.mod_eq_sub_mod (by omega);rw[d,a,XE]
theorem Qaj{α:Type}{k:Nat}:∀(vs:List (List α)),(∀v∈vs,v.length=k)->vs.flatten.length=vs.length*k
 |[],_=>by simp
 |v::vs,h=>by rw[Vi,X0,Qaj vs (λv hv=>h v (by simp[hv])),h v (by simp),XY,Xm];omega
theorem QdE{α:Type}(F:List α)(j:Nat):F.toArray[j]?=F[j]? :=by simp
theorem QiC{α:Type}[Inhabited α](F:List α)(j:Nat)(h:j<F.length):F[j]?=some (F.toArray[j]!):=by simp[h]
theorem QiI{β:Type}[Inhabited β]{enc:β->List Value}{k:Nat}(g:∀x,(enc x).length=k)(d:Array β):flatK enc k d=((d.toList.map enc).flatten).toArray:=by
 have f:∀v∈d.toList.map enc,v.length=k:=by
  intro v m;obtain⟨x,_,rfl⟩:=Xf.1 m;exact g x
 apply Array.ext_getElem?;intro t;rw[QdE ((d.toList.map enc).flatten) t];by_cases h:t<d.size*k
 .rw[Qei _ t f (by simpa using h)];have l:0<k:=by
   rcases Nat.eq_zero_or_pos k with q|q
   .subst q;simp at h
   .exact q
  have j:t/k<d.size:=Nat.div_lt_of_lt_mul (by rw[Nat.mul_comm];exact h);have i:t%k<k:=Nat.mod_lt _ l;have a:t<(flatK enc k d).size:=by simpa using h
  have e:=get_flatK enc k d t h;rw[getElem!_pos (flatK enc k d) t a]at e;rw[Array.getElem?_eq_getElem a,e];simp[j];rw[XJ (by rw[g];exact i)];rfl
 .have e:(d.toList.map enc).flatten.length=d.size*k:=by rw[Qaj _ f];simp
  rw[Array.getElem?_eq_none (by simpa using h),XN (by rw[e];omega)]
section
variable {ro:Nat->Prop} {σ:Sig} {w:World} {T:Type} {enc:T->List A} {k:Nat}
theorem RL.parts:∀{l:List T} {lv:List Value},RL ro σ w k (l.map enc) lv->
  ∃(ps:List (T×List Value)) (rest:List Value),ps.map (·.1)=l/\lv=(ps.map (·.2)).flatten++rest/\ ∀p∈ps,p.2.length=k/\LR ro σ w (enc p.1) p.2/\ ∀v∈p.2,QA v
 |[],lv,_=>⟨[],lv,rfl,rfl,by simp⟩
 |x::l,lv,h=>by
  obtain⟨l1,l2,rfl,h1,⟨h2,h3⟩,h4⟩:=h;obtain⟨ps,rest,e1,rfl,h5⟩:=RL.parts (l:=l) h4;refine⟨(x,l1)::ps,rest,by simp[e1],by simp,?_⟩;intro p hp;rcases X4.1 hp with rfl|hp
  .exact⟨by rw[h2.length];exact h1,h2,h3⟩
  .exact h5 p hp
theorem Qew(hk:∀x:T,(enc x).length=k):∀{ps:List (T×List Value)} {rest:List Value},(∀p∈ps,LR ro σ w (enc p.1) p.2/\ ∀v∈p.2,QA v)->RL ro σ w k ((ps.map (·.1)).map enc) ((ps.map (·.2)).flatten++rest)
 |[],_,_=>trivial
 |p::ps,rest,h=>by
  refine⟨p.2,(ps.map (·.2)).flatten++rest,by simp,hk _,h p (by simp),Qew hk λq hq=>h q (by simp[hq])⟩
end
structure Elt (ro:Nat->Prop) (w:World) {T:Type} (enc:T->List A) (k:Nat) (l:List T) where
 x:T
 vs:List Value
 mem:x∈l
 len:vs.length=k
 rel:LR ro [] w (enc x) vs
 plain:∀v∈vs,QA v
theorem Qlm{v:Value}(h:QA v):v.oneCell'=true:=by cases v<;>first|rfl|exact h.elim
theorem Qlc{P:Program}{ρ:Ren}(L:SlLaysF0.n6 P ρ){T:Type}[DecidableEq T]{enc:T->List A}{k t g:Nat}{cap:List A}{l l':List T}{cf:T->T->Option Int}(hs:QbP cf l=some l')
  (a8:∀x y c,cf x y=some c->C P g ([.agg (enc x),.agg (enc y)]++cap) [] (λa H=>a=.int .i64 c/\H=[]))
  (aE:∀w,(isAgg (ρ.t 24)).run P w=.ok true w)(zE:∀w,(Go.sizeOf (ρ.t 24)).run P w=.ok k w)(eg:∀args w,(callFunc g args).run P w=.ok (.enter g args) w)
  (hk:∀x,(enc x).length=k)(hd:YK cap=true):
  C P (ρ.f 6) [.osl 0 0 l.length k,.fn (.func g) [] cap] [.row t k (l.map enc)] (λa H=>a=.tup []/\H=[.row t k (l'.map enc)]):=by
 intro fr J σ vals w s hv;obtain⟨vs,r1,rfl,bq,vf,r2,rfl,bf,hr⟩:=hv;cases(show r2=[]from hr);obtain⟨lf,lc,rfl,h1,a9⟩:=bf;cases(show lf=[]from h1);have au:LR J [] w cap lc:=LR.data hd a9;obtain⟨bc,aj,R,ao,a6⟩:=Qfc hs;have E:∀(ad:Option Addr) (c:Nat),vs=.slice ad 0 c->l=[]->
   Calls P (ρ.f 6) [vs,.func (.func g) #[] lc.toArray].toArray w λe w'=>∃v r H' ah τ,e=.returned v/\(r=.tup []/\H'=[.row t k (l'.map enc)])/\Sim fr ah (σ++τ) H' w'/\VR ah (σ++τ) w' r v/\Qi fr J w ah w':=by
  rintro ad c rfl rfl;have af:l'=[]:=by rw[<- a6];rfl
  subst af;refine(AnyF.slices_SortFunc_none L ad c (.func (.func g) #[] lc.toArray) w).mono ?_;rintro e w' ⟨rfl,rfl⟩;exact⟨_,_,_,J,[],rfl,⟨rfl,rfl⟩,by simpa using s,⟨[],rfl,rfl⟩,Qi.refl _ _ _⟩
 rcases bq with⟨h0,rfl⟩|⟨b,p,cp,t',m,q1,rfl,q2,⟨q3,br⟩,q4,q5⟩
 .exact E none 0 rfl (VG.1 h0)
 .by_cases af:l=[]
  .subst af;exact E _ cp rfl rfl
  .have bi:0<l.length:=List.length_pos_iff.2 af;obtain rfl:=q2 (Vc bi q3);obtain⟨lv,e1,e2⟩:=s.blk 0 _ _ q1 rfl;obtain⟨hb,al,a7⟩:=s.own 0 b _ q1 rfl rfl;obtain⟨V,G,a3,rfl,ac⟩:=RL.parts e2
   let α:=Elt J w enc k l
   have a1:∀p∈V,p.1∈l:=λp hp=>by rw[<- a3];exact VD hp
   let ds:List α:=V.attach.map λp=>⟨p.1.1,p.1.2,a1 _ p.2,(ac _ p.2).1,(ac _ p.2).2.1,(ac _ p.2).2.2⟩
   have bb:∀{γ:Type} (f:T×List Value->γ),V.attach.map (λp=>f p.1)=V.map f:=λf=>by simp
   have N:ds.map (·.x)=l:=by
    show(V.attach.map _).map _=_;rw[List.map_map];exact(bb (·.1)).trans a3
   have am:ds.map (·.vs)=V.map (·.2):=by
    show(V.attach.map _).map _=_;rw[List.map_map];exact bb (·.2)
   have an:ds.length=l.length:=by rw[<- N];simp
   have a2:ds≠[]:=by intro q;rw[q]at an;simp at an;omega
   let inh:Inhabited α:=⟨ds.head a2⟩
   let enc':α->List Value:=λa=>a.vs
   let cf':α->α->Int:=λx y=>(cf x.x y.x).getD 0
   have ae:∀x y:α,ltOf cf' x y=ltO cf x.x y.x:=by
    intro x y;obtain⟨c,B⟩:=aj x.x x.mem y.x y.mem;simp only[ltOf,ltO,cf',B,Option.getD_some]
   have hO:SWO (ltOf cf'):=⟨λx=>by rw[ae];exact R.irrefl _ x.mem,λx y z a b=>by rw[ae]at*;exact R.trans _ x.mem _ y.mem _ z.mem a b,
    λx y z a b=>by rw[ae]at*;exact R.ntrans _ x.mem _ y.mem _ z.mem a b⟩
   have X:∀x:α,(enc' x).length=k:=λx=>x.len;have av:flatK enc' k ds.toArray=((V.map (·.2)).flatten).toArray:=by
    rw[QiI X];show((ds.map λa=>a.vs).flatten).toArray=_;rw[am]
   have bo:∀v∈V.map (·.2),v.length=k:=by
    intro v hv;obtain⟨p,hp,rfl⟩:=Xf.1 hv;exact(ac p hp).1
   have Y:(V.map (·.2)).flatten.length=ds.length*k:=by rw[Qaj _ bo, <- am];simp
   have hH:HoldsK enc' k w b (0*k) ds.toArray:=by
    intro j hj;rw[av]at hj⊢;simp only[List.size_toArray]at hj;constructor
    .unfold World.cell?;simp only[e1,Option.isSome_none,Xj,if_false,Nat.zero_mul,Xv];rw[QdE,XL hj];exact QiC _ _ hj
    .unfold World.frozen?;simp only[e1];simp
   have aw:∀(d:Array α),d.size=ds.toArray.size->(putRowK enc' k w b (0*k) d).heap=w.heap.setIfInBounds b (.cells (((d.toList.map enc').flatten++G)).toArray t (0,0)):=by
    intro d u;have ag:(d.toList.map enc').flatten.length=(V.map (·.2)).flatten.length:=by
     rw[Qaj _ (k:=k) (by intro v hv;obtain⟨x,_,rfl⟩:=Xf.1 hv;exact X x),Y];simp at u⊢;rw[u]
    unfold putRowK putRow mapBlock;show w.heap.modify b _=_;rw[QdO e1];simp only[onCells];congr 2;rw[QiI X];unfold putCells;apply Array.ext_getElem?;intro i;simp only[Array.getElem?_mapIdx,QdE,Nat.zero_mul,XT,true_and,Xv,Nat.sub_zero,List.size_toArray,id_eq];by_cases hi:i<(d.toList.map enc').flatten.length
    .rw[XL hi,XL (by rw[<- ag];exact hi),XJ (by rw[<- ag];exact hi),QiC _ _ hi];exact congrArg some (Vq hi)
    .rw[XM (by omega),XM (by omega),ag];cases(G[i-(V.map (·.2)).flatten.length]?)with
     |none=>rfl
     |some v=>
      rw[<- ag];exact congrArg some (Vp hi)
   have M:∀(m:Nat) (os:Array Obj) (d:Array α),d.size=ds.toArray.size->
     (∀c,c<w.heap.size->c≠b->(sortWorldK enc' k w b (0*k) m d os).heap[c]?=w.heap[c]?)/\(sortWorldK enc' k w b (0*k) m d os).heap[b]?=some (.cells (((d.toList.map enc').flatten++G)).toArray t (0,0))/\
     w.heap.size<=(sortWorldK enc' k w b (0*k) m d os).heap.size:=by
    intro m os d u;have e:(sortWorldK enc' k w b (0*k) m d os).heap=w.heap.setIfInBounds b (.cells (((d.toList.map enc').flatten++G)).toArray t (0,0))++os:=by
     rw[<- aw d u];rfl
    rw[e];refine⟨λc B bl=>?_,?_,by simp⟩
    .rw[Array.getElem?_append_left (by simpa using B),Vb,Vp (λq=>bl q.symm)]
    .rw[Array.getElem?_append_left (by simpa using hb),Vb,Vq rfl,Vq hb]
   have O:∀(m:Nat) (os:Array Obj) (d:Array α),d.size=ds.toArray.size->∀c y,w.shape? c=some y->(sortWorldK enc' k w b (0*k) m d os).shape? c=some y:=by
    intro m os d u c y hy;obtain⟨g1,g2,g3⟩:=M m os d u;by_cases B:c=b
    .subst B;unfold World.shape? at hy⊢;rw[e1]at hy;rw[g2];simp only[Option.some.injEq]at hy⊢;rw[<- hy];congr 1;simp only[List.size_toArray,X0];rw[Qaj _ (k:=k) (by intro v hv;obtain⟨x,_,rfl⟩:=Xf.1 hv;exact X x),Y];simp at u⊢;rw[u]
    .unfold World.shape? at hy⊢;rw[g1 c (Qms hy) B];exact hy
   have ak:∀(m:Nat) (os:Array Obj) (d:Array α),d.size=ds.toArray.size->∀τ,Ext J τ w J τ (sortWorldK enc' k w b (0*k) m d os):=by
    intro m os d u τ;obtain⟨g1,g2,g3⟩:=M m os d u;exact⟨λ_ q=>q,λc B=>g1 c (s.roLt c B) (λq=>al (q▸B)),O m os d u,λ_ _ q=>q⟩
   have bj:CmpLays P g lc.toArray enc' k cf' b (0*k) ds.toArray.size w:=by
    intro m os dk a0 x y;obtain⟨c,B⟩:=aj x.x x.mem y.x y.mem;have F:=ak m os dk a0 [];have bk:=a8 _ _ _ B;generalize hW:sortWorldK enc' k w b (0*k) m dk os=W at*;have bd:w.heap.size<=W.heap.size:=by rw[<- hW];exact(M m os dk a0).2.2
    have sW:Sim (λc=>c<W.heap.size/\ ¬J c) J [] [] W:=
     ⟨rfl,s.roOk.to (λ_ q=>q) F.keep (λc B=>Vc (s.roLt c B) bd),λc B=>B.1,λc B hf=>hf.2 B,λi b x h=>by simp at h,λi j b x y h=>by simp at h,λi y x h=>by simp at h,λi b x c h=>by simp at h⟩
    have ay:LR J [] W ([.agg (enc x.x),.agg (enc y.x)]++cap) ([.agg x.vs.toArray,.agg y.vs.toArray]++lc):=
     LR.append (show LR J [] W [A.agg (enc x.x),A.agg (enc y.x)] [Value.agg x.vs.toArray,Value.agg y.vs.toArray]from⟨_,_,rfl,⟨x.vs,rfl,x.rel.mono F⟩,_,_,rfl,⟨y.vs,rfl,y.rel.mono F⟩,rfl⟩) (au.mono F)
    have Q:=bk _ J [] _ W sW ay;have bp:(([Value.agg x.vs.toArray,Value.agg y.vs.toArray]++lc).toArray:Array Value)= #[Value.agg (enc' x).toArray,Value.agg (enc' y).toArray]++lc.toArray:=by simp[enc']
    rw[bp]at Q;refine Q.mono ?_;rintro e w' ⟨v,r,H',ah,τ,rfl,⟨rfl,rfl⟩,s',be,ev⟩;refine⟨?_,?_⟩
    .rw[show v=.int .i64 c from be];simp only[cf',B,Option.getD_some]
    .refine Qon (λc B=>?_) ev.size ev.os ev.tape ev.output ev.drawn;by_cases a5:J c
     .exact ev.keepRo c a5
     .exact ev.keepFr c ⟨B,a5⟩
   have aa:ds.toArray.size=l.length:=by simpa using an
   have ai:=AnyQ.slices_SortFunc L k aE zE enc' X (λx v hv=>Qlm (x.plain v hv)) cf' hO g lc.toArray b (0*k) cp ds.toArray w eg bj hH hb (by rw[aa];unfold Yn at bc;omega);rw[aa]at ai;refine ai.mono ?_;rintro e w' ⟨rfl,d,n,os,ab,ax,rfl⟩;have u:d.size=ds.toArray.size:=ab.1;obtain⟨g1,g2,g3⟩:=M n os d u;have ar:d.toList.Perm ds:=by
    have h:=ab.2.2;have x1:d.extract 0 l.length=d:=by rw[<- aa, <- u];exact Array.extract_size
    have x2:ds.toArray.extract 0 l.length=ds.toArray:=by rw[<- aa];exact Array.extract_size
    rw[x1,x2]at h;simpa using h
   have ba:d.toList.map (·.x)=l':=by
    rw[<- a6];refine Qbm (lt:=ltO cf) ?_ ?_ ?_ (YI R)
    .exact((ar.map (·.x)).trans (by rw[N])).trans (QQ _ _).symm
    .intro x hx y hy;have bm:x∈l:=by rw[<- N];exact(ar.map (·.x)).mem_iff.1 hx
     have bh:y∈l:=by rw[<- N];exact(ar.map (·.x)).mem_iff.1 hy
     exact ao x bm y bh
    .rw[VB];intro i j hi hj bg;simp only[XZ]at hi hj;simp only[List.getElem_map];rw[<- ae];have:=ax i j (XT _) bg (by rw[<- aa, <- u];simpa using hj);rw[getElem!_pos d j (by simpa using hj),getElem!_pos d i (by simpa using hi)]at this;simpa using this
   have bn:RL J [] (sortWorldK enc' k w b (0*k) n d os) k (l'.map enc) ((d.toList.map enc').flatten++G):=by
    have e3:d.toList.map enc'=(d.toList.map λa=>(a.x,a.vs)).map (·.2):=by simp[enc']
    have e4:l'=(d.toList.map λa=>(a.x,a.vs)).map (·.1):=by rw[<- ba];simp
    rw[e3,e4];refine Qew hk ?_;intro p hp;obtain⟨a,_,rfl⟩:=Xf.1 hp;exact⟨a.rel.mono (ak n os d u []),a.plain⟩
   have az:Qi fr J w J (sortWorldK enc' k w b (0*k) n d os):=
    ⟨λ_ q=>q,λc B=>g1 c (s.roLt c B) (λq=>al (q▸B)),λc B=>g1 c (s.frLt c B) (λq=>a7 (q▸B)),g3,O n os d u,rfl,rfl,rfl,Nat.le_add_right _ _⟩
   have aq:σ.length=1:=s.len;have a4:Sim fr J σ [.row t k (l'.map enc)] (sortWorldK enc' k w b (0*k) n d os):=by
    have i0:∀{i:Nat} {x:Blk},([.row t k (l'.map enc)]:Qe)[i]?=some x->i=0/\x=.row t k (l'.map enc):=by
     intro i x h;cases i with
     |zero=>simp at h;exact⟨rfl,h.symm⟩
     |succ i=>simp at h
    refine⟨aq,s.roOk.to (λ_ q=>q) az.keepRo (λc B=>Vc (s.roLt c B) g3),λc B=>Vc (s.frLt c B) g3,s.roFr,λi c x h1 h2 h3=>?_,λi j c x y h1 h2 h3 h4 _ _=>?_,λi y x h1 h2=>?_,λi b x c h1 h2 h3=>by obtain⟨rfl,rfl⟩:=i0 h2;exact h3.elim⟩
    .obtain⟨rfl,rfl⟩:=i0 h2;obtain⟨p1,p2⟩:=s.own 0 c _ h1 rfl rfl;exact⟨Vc p1 g3,p2⟩
    .rw[(i0 h3).1,(i0 h4).1]
    .obtain⟨rfl,rfl⟩:=i0 h2;rw[q1]at h1;cases h1;exact⟨_,g2,bn⟩
   exact⟨_,_,_,J,[],rfl,⟨rfl,rfl⟩,by simpa using a4,⟨[],rfl,rfl⟩,az⟩
end Go.Sw
namespace Go.Sw
section
variable {P:Program} {o:Oper} {env:Env} {H:Qe} {fr ro:Nat->Prop} {σ:Sig} {w:World}
theorem Sim.addRo(s:Sim fr ro σ H w){b:Nat}(h:b<w.heap.size)(g:¬fr b)(n:∀(i:Nat) (x:Blk),σ[i]?=some (some b)->H[i]?=some x->x.live=true->False)
  (j:∀(i d:Nat) (x:Blk),σ[i]?=some (some d)->H[i]?=some x->Hid w x d b->False):Sim fr (λc=>ro c\/c=b) σ H w:=by
 refine⟨s.len,s.roOk.to (λ_ q=>.inl q) (λ_ _=>rfl) ?_,s.frLt,?_,?_,s.inj,?_,s.hidTo (· = ·) Yg (XS _) (by grind) (by simp) (by grind)⟩
 .rintro c (q|rfl)
  .exact s.roLt c q
  .exact h
 .rintro c (q|rfl)
  .exact s.roFr c q
  .exact g
 .intro i c x e a f;obtain⟨m,k,l⟩:=s.own i c x e a f
  grind
 .intro i y x e a;exact(s.blk i y x e a).keep ⟨λ_ q=>.inl q,λ_ _=>rfl,λ_ _ q=>q,λ_ _ q=>q⟩ (λ_ _ _=>rfl) (λ_ _ _ _=>rfl)
theorem YE{T e k n:Nat}{xs:List Operand}{es:List (List A)}(E:Ye P T e k)(Y:o.op=.buildSlice T n (Qay 0 xs).toArray)(L:xs.length=n)(y:Nat.ble (n*k) 16777216=true)
  (W:(xs.all λx=>Ys (opA env x))=true)(F:Ym env xs=es)(M:allK k es)(V:es.flatten.all YA=true)(Q:YK es.flatten=true):
  OpH P o env H (.rsl k es) H:=by
 intro R t σ N a w r;subst F;obtain⟨l,X,J⟩:=QaI r E L y W M;have G:LR t [] w (Ym env xs).flatten l:=J.data Q;have f:∀b,b<w.heap.size->(w.alloc (.cells l.toArray e)).heap[b]?=w.heap[b]? :=λb hb=>YD _ _ b hb;have p:w.heap.size<=(w.alloc (.cells l.toArray e)).heap.size:=by simp
 have O:=r.sim.grown f p;have m:Qi R t w t (w.alloc (.cells l.toArray e)):=Qi.alloc _ r.sim.roLt r.sim.frLt;have s2:=O.addRo (b:=w.heap.size) (by simp) (λq=>Nat.lt_irrefl _ (r.sim.frLt _ q)) (λi x s g u=>Nat.lt_irrefl _ (r.sim.own i _ x s g u).1)
  (λi d x s g u=>Nat.lt_irrefl _ (r.sim.hid i d x _ s g (r.sim.hidKeep s g (λz=>f d (r.sim.own i d x s g z).1) (λb q=>f b (r.sim.roLt b q)) u)).lt)
 have B:RL t [] (w.alloc (.cells l.toArray e)) k (Ym env xs) l:=by
  have:=Y1 (rest:=[]) M (G.mono (m.ext0 [])) (J.plain V)
  grind
 have h:(Ym env xs).length=n:=by simp[Ym,L]
 refine⟨_,_,λc=>t c\/c=w.heap.size,[],Qan Y a.eval X,?_,by grind,m.trans (YO λ_ q=>.inl q)⟩;refine⟨some ⟨w.heap.size,0,none⟩,n,by rw[h],by omega,.inr ⟨w.heap.size,0,rfl,.inr rfl,?_⟩⟩;have j:(w.alloc (.cells l.toArray e)).heap[w.heap.size]?=some (.cells (([]:List Value)++l).toArray e (0,0)):=Q9 _ _;have:=YF (pre:=[]) j B;exact this.keep ⟨λ_ q=>.inl q,λ_ _=>rfl,λ_ _ q=>q,λ_ _ q=>q⟩ rfl
end
inductive Qke:List A->List A->Prop
 |nil:Qke [] []
 |eq {a:A} {l m:List A} (h:Qke l m):Qke (a::l) (a::m)
 |nl {k:Nat} {l m:List A} (h:Qke l m):Qke (.nils::l) (.rsl k []::m)
theorem LR.nils{ro:Nat->Prop}{σ:Sig}{w:World}{i g:List A}(h:Qke i g):∀{l:List Value},LR ro σ w i l->LR ro σ w g l:=by
 induction h with
 |nil=>simp
 |eq _ ih=>rintro l ⟨v,d,e,a,f⟩;exact⟨v,d,e,a,ih f⟩
 |nl _ ih=>rintro l ⟨v,d,e,a,f⟩;exact⟨v,d,e,⟨none,0,a,XS _,.inl rfl⟩,ih f⟩
theorem C.nils{P:Program}{f:FuncId}{l1 bs:List A}{H:Qe}{Q:A->Qe->Prop}(hl:Qke l1 bs)(h:C P f bs H Q):C P f l1 H Q:=
 λfr ro σ vals w s l=>h fr ro σ vals w s (LR.nils hl l)
def Qs(k:IntKind)(n:Int):Prop:=k.min<=n/\n<=k.max
def Qet(w:World):Nat->Prop:=λb=>b<w.heap.size
structure QnP {H:Type} (μ:DataW H->Nat):Prop where
 str:∀bytes,bytes.length<=μ (.lit (.string bytes))
 sl:∀e s,e.length<=μ (.slice e s)
 sle:∀e s,∀d∈e,μ d<=μ (.slice e s)
 ag:∀ps,∀d∈ps,μ d<=μ (.agg ps)
def RB(P:Program)(n:Nat)(t:TypeId)(T:Type)(e:T->List A)(wf:T->Prop):Prop:=
 ∀(H:Type) (enc:TypeId×Value->H) (w:World) (base:Nat) (spare:Nat->Bool) (held:Bool) (m:Nat) (cs:List Value) d,m<n->DataW.trod enc P w base spare held m t cs=some d->
  ∀μ:DataW H->Nat,QnP μ->μ d.1<=1048576->∃x:T,wf x/\LR (Qet w) [] w (e x) cs/\ ∀v∈cs,QA v
section
variable {P:Program} {n:Nat} {t:TypeId} {T:Type} {e:T->List A} {wf:T->Prop}
theorem RB.down(h:RB P (n+1) t T e wf):RB P n t T e wf:=λH enc w base spare held m cs d hm=>h H enc w base spare held m cs d (Nat.lt_succ_of_lt hm)
theorem Qe3(h:∀n,RB P n t T e wf->RB P (n+1) t T e wf):∀n,RB P n t T e wf
 |0=>λH enc w base spare held m cs d hm=>(by omega)
 |n+1=>h n (Qe3 h n)
theorem Q4{T':Type}{f:T'->List A}{a:T'->Prop}(h:RB P n t T e wf)(g:T->T')(he:∀x,f (g x)=e x)(k:∀x,wf x->a (g x)):RB P n t T' f a:=by
 intro H enc w base spare held m cs d hm hd μ hμ hwt;obtain⟨x,i,l,j⟩:=h H enc w base spare held m cs d hm hd μ hμ hwt
 grind
theorem RB.int{k:IntKind}(a:P.underlying t=some (.int k)):RB P n t Int (Qf k) (Qs k):=by
 intro H enc w base spare held m cs d hm hd μ hμ hwt;cases m with
 |zero=>simp[DataW.trod]at hd
 |succ m=>
  rcases cs with _|⟨v,_|⟨h,r⟩⟩
  .simp[DataW.trod,a]at hd
  .cases v<;>simp[DataW.trod,a]at hd;rename_i g f;obtain⟨⟨rfl,e⟩,_⟩:=hd;refine⟨f,?_,⟨_,_,rfl,rfl,rfl⟩,by simp[QA]⟩;simpa[Lit.wf,Qs]using e
  .simp[DataW.trod,a]at hd
theorem RB.bool(a:P.underlying t=some .bool):RB P n t Bool Qa6 (λ_=>True):=by
 intro H enc w base spare held m cs d hm hd μ hμ hwt;cases m with
 |zero=>simp[DataW.trod]at hd
 |succ m=>
  rcases cs with _|⟨v,_|⟨e,r⟩⟩
  .simp[DataW.trod,a]at hd
  .cases v<;>simp[DataW.trod,a]at hd;rename_i b;exact⟨b,trivial,⟨_,_,rfl,rfl,rfl⟩,by simp[QA]⟩
  .simp[DataW.trod,a]at hd
theorem RB.string(a:P.underlying t=some .string):RB P n t (List UInt8) JC (λs=>s.length<=1048576):=by
 intro H enc w base spare held m cs d hm hd μ hμ hwt;cases m with
 |zero=>simp[DataW.trod]at hd
 |succ m=>
  rcases cs with _|⟨v,_|⟨e,r⟩⟩
  .simp[DataW.trod,a]at hd
  .cases v<;>simp[DataW.trod,a]at hd;rename_i s;obtain⟨_,rfl⟩:=hd;exact⟨s.data.toList,XU (hμ.str _) hwt,⟨_,_,rfl,rfl,rfl⟩,by simp[QA]⟩
  .simp[DataW.trod,a]at hd
theorem QcR{α:Type}{f:Nat->Option α}:∀{n:Nat} {l:List α},(List.range n).mapM f=some l->l.length=n/\ ∀i,i<n->∃y,f i=some y/\l[i]?=some y
 |0,l,h=>by grind
 |n+1,l,h=>by
  rw[List.range_succ,List.mapM_append]at h;cases h1:(List.range n).mapM f with
  |none=>grind
  |some l1=>
   cases h2:f n with
   |none=>grind
   |some y=>
    simp[h1,h2]at h;subst h;obtain⟨e1,e2⟩:=QcR h1
    grind
theorem Qez{w:World}{ro:Nat->Prop}{b:Nat}:∀{cs:List A} {l:List Value} {off:Nat},LR ro [] w cs l->(∀v∈l,QA v)->(∀i,i<l.length->w.cell? ⟨b,off+i,none⟩=l[i]?)->CR ro [] w b cs off
 |[],_,_,_,_,_=>trivial
 |a::cs,l,off,h,hp,hc=>by
  obtain⟨v,l',rfl,h1,h2⟩:=h;refine⟨(by grind),Qez h2 (by grind) λi hi=>?_⟩;have:=hc (i+1) (by grind)
  grind
theorem RB.slice{E:TypeId}{k:Nat}{s:TypeId}(G:P.underlying s=some (.slice E))(hk:P.cellsOf E=k)(h0:Nat.blt 0 k=true)(hl:∀x,(e x).length=k)(h:RB P n E T e wf):
  RB P (n+1) s (List T) (Qx k e) (λl=>l.length<=1048576/\ ∀x∈l,wf x):=by
 intro H enc w base spare held m cs d hm hd μ hμ hwt;have k0:0<k:=by simp_all
 cases m with
 |zero=>simp[DataW.trod]at hd
 |succ m=>
  rcases cs with _|⟨v,_|⟨v2,r⟩⟩
  .simp[DataW.trod,G]at hd
  .cases v<;>try (simp[DataW.trod,G]at hd;done)
   rename_i a len g;cases a with
   |none=>
    rcases len with _|len
    .rcases g with _|g
     .refine⟨[],⟨by simp,by simp⟩,⟨_,_,rfl,⟨none,0,rfl,XS _,.inl rfl⟩,rfl⟩,by simp[QA]⟩
     .simp[DataW.trod,G]at hd
    .simp[DataW.trod,G]at hd
   |some a=>
    simp only[DataW.trod,G]at hd;split at hd
    .rename_i hc;obtain⟨c1,c2,c3⟩:=hc;cases M:(List.range len).mapM (λi=>(w.cells? base (a.add (i*P.cellsOf E)) (P.cellsOf E)).bind (DataW.trod enc P w base spare held m E))with
     |none=>grind
     |some f=>
      rw[M]at hd;simp only[XI,Option.map_eq_some_iff]at hd;obtain⟨t,_,rfl⟩:=hd;have B:f.length<=1048576:=by
       have h1:=hμ.sl (f.map (·.1)) (t.map (·.1))
       grind
      have V:∀y∈f,μ y.1<=1048576:=λy O=>XU (hμ.sle _ (t.map (·.1)) _ (VD O)) hwt;obtain⟨e1,e2⟩:=QcR M;have L:∀i,i<len->∃(x:T) (l:List Value),wf x/\LR (Qet w) [] w (e x) l/\(∀v∈l,QA v)/\l.length=k/\ ∀j,j<k->w.cell? ((a.add (i*k)).add j)=l[j]? :=by
       intro i W;obtain⟨y,y1,y2⟩:=e2 i W;rw[hk]at y1;cases Y:w.cells? base (a.add (i*k)) k with
       |none=>grind
       |some l=>
        rw[Y]at y1;obtain⟨x,x1,x2,x3⟩:=h H enc w base spare held m l y (by omega) y1 μ hμ (V y (VE y2))
        grind[World.cells?,QcR]
      by_cases J:len=0
      .subst J;exact⟨[],⟨by simp,by simp⟩,⟨_,_,rfl,⟨some a,g,rfl,XT _,.inl rfl⟩,rfl⟩,by simp[QA]⟩
      .have first:a.spot=none/\a.block<w.heap.size:=by
        obtain⟨x',l,p1,p2,p3,p4,p5⟩:=L 0 (by omega);have p:=p5 0 k0;have X:l[0]?=some l[0]:=XJ (by omega);have ea:(a.add (0*k)).add 0=a:=by simp[Addr.add]
        rw[X,ea]at p;unfold World.cell? at p;split at p
        .rename_i hh;constructor
         .cases q:a.spot with
          |none=>rfl
          |some z=>simp[q]at p
         .exact(Va.1 hh).1
        .cases p
       obtain⟨R,hb⟩:=first
       have Q:∀n,a.add n=⟨a.block,a.off+n,none⟩:=by
        intro n;cases a;simp only at R;subst R;unfold Addr.add;split
        .rename_i q;subst q;rfl
        .rfl
       have u:∀(b o n:Nat),(⟨b,o,none⟩:Addr).add n=⟨b,o+n,none⟩:=by
        intro b o n;unfold Addr.add;split
        .rename_i q;subst q;rfl
        .rfl
       have pick:∀q i,len-i=q->i<=len->∃F:List T,F.length=len-i/\(∀x∈F,wf x)/\RR (Qet w) [] w a.block k (F.map e) (a.off+i*k):=by
        intro q
        induction q with
        |zero=>intro i hq W;exact⟨[],by simp[hq],by simp,trivial⟩
        |succ q ih=>
         intro i hq W;obtain⟨F,w1,w2,N⟩:=ih (i+1) (by omega) (by omega);obtain⟨x,l,p1,p2,p3,p4,p5⟩:=L i (by omega);refine⟨x::F,by simp[w1];omega,by intro y O;rcases X4.1 O with rfl|O;exact p1;exact w2 y O,hl x,?_,?_⟩
         .refine Qez p2 p3 λj hj=>?_;have p:=p5 j (by omega);rw[Q,u]at p;exact p
         .rw[Xm, <- Nat.add_assoc]at N;exact N
       obtain⟨F,w1,w2,N⟩:=pick len 0 (by omega) (XT _);rw[Nat.zero_mul,Xw]at N;rw[Nat.sub_zero]at w1;refine⟨F,⟨by rw[w1, <- e1];exact B,w2⟩,⟨_,_,rfl,⟨some a,g,by simp[w1],by simp[w1];exact c2,.inr ⟨a.block,a.off,?_,hb,N⟩⟩,rfl⟩,by simp[QA]⟩;cases a
       grind
    .cases hd
  .simp[DataW.trod,G]at hd
def RF(P:Program)(n:Nat)(fs:List Field)(off L:Nat)(T:Type)(e:T->List A)(wf:T->Prop):Prop:=
 ∀(H:Type) (enc:TypeId×Value->H) (w:World) (base:Nat) (spare:Nat->Bool) (held:Bool) (m:Nat) (cs:List Value) ds,m<n->cs.length=L->
  fs.mapM (λf=>DataW.trod enc P w base spare held m f.type ((cs.drop f.offset).take (P.cellsOf f.type)))=some ds->
  ∀μ:DataW H->Nat,QnP μ->(∀y∈ds,μ y.1<=1048576)->∃x:T,wf x/\LR (Qet w) [] w (e x) (cs.drop off)/\ ∀v∈cs.drop off,QA v
theorem RF.nil{L:Nat}:RF P n [] L L Unit (λ_=>[]) (λ_=>True):=by
 intro H enc w base spare held m cs ds hm hl hd μ hμ hwt;have:cs.drop L=[]:=(by grind);rw[this];exact⟨(),trivial,rfl,by simp⟩
theorem RF.cons{f:Field}{fs:List Field}{off L k:Nat}{T2:Type}{q:T2->List A}{g:T2->Prop}(B:f.offset=off)(t:P.cellsOf f.type=k)(h:RB P n f.type T e wf)(r:RF P n fs (off+k) L T2 q g):
  RF P n (f::fs) off L (T×T2) (λp=>e p.1++q p.2) (λp=>wf p.1/\g p.2):=by
 intro H enc w base spare held m cs ds hm hl hd μ hμ hwt;rw[List.mapM_cons]at hd;cases l:DataW.trod enc P w base spare held m f.type ((cs.drop f.offset).take (P.cellsOf f.type))with
 |none=>grind
 |some d=>
  cases s:fs.mapM (λf=>DataW.trod enc P w base spare held m f.type ((cs.drop f.offset).take (P.cellsOf f.type)))with
  |none=>grind
  |some a=>
   have j:ds=d::a:=by
    grind
   subst j;rw[B,t]at l;obtain⟨x,u,z,F⟩:=h H enc w base spare held m _ d hm l μ hμ (hwt d (by simp));obtain⟨y,y1,y2,E⟩:=r H enc w base spare held m cs a hm hl s μ hμ (by grind);have i:cs.drop off=(cs.drop off).take k++cs.drop (off+k):=by rw[<- List.drop_drop,Xy]
   refine⟨(x,y),⟨u,y1⟩,by rw[i];exact z.append y2,?_⟩
   grind
theorem RB.struct{fs:Array Field}{L:Nat}(i:P.underlying t=some (.struct fs))(k:P.cellsOf t=L)(h:RF P n fs.toList 0 L T e wf):RB P (n+1) t T e wf:=by
 intro H enc w base spare held m cs d hm hd μ hμ hwt;cases m with
 |zero=>simp[DataW.trod]at hd
 |succ m=>
  unfold DataW.trod at hd;simp only[i]at hd;split at hd
  .rename_i g;cases a:fs.toList.mapM (λf=>DataW.trod enc P w base spare held m f.type ((cs.drop f.offset).take (P.cellsOf f.type)))with
   |none=>grind
   |some j=>
    rw[a]at hd;simp only[Xk,Option.some.injEq]at hd;subst hd;have:=h H enc w base spare held m cs j (by omega) (by rw[g,k]) a μ hμ (λy l=>XU (hμ.ag _ _ (by grind)) hwt)
    grind
  .cases hd
end
theorem C.law{P:Program}{f:FuncId}{args:List A}{W:World}{vals:List Value}(h:C P f args [] (λa H=>a=.bool true/\H=[]))(i:LR (Qet W) [] W args vals)(d:GP W):
  Calls P f vals.toArray W λe W'=>e=.returned (.bool true)/\Go.RowKit.Below W.heap.size W W':=by
 have s:Sim (λ_=>False) (Qet W) [] [] W:=
  ⟨rfl,⟨λ_ h=>h,λb j=>d.size b j,d⟩,λ_ h=>h.elim,λ_ _ h=>h,(by simp),(by simp),(by simp),(by simp)⟩
 refine(h _ _ _ _ W s i).mono ?_;rintro e W' ⟨v,r,H',m,τ,rfl,⟨rfl,rfl⟩,_,g,ev⟩;exact⟨by rw[show v=.bool true from g],⟨ev.os,ev.tape,ev.output,ev.size,λk l=>ev.keepRo k l⟩⟩
theorem QmB{P:Program}{W:World}{a:Nat}{t:TypeId}{v:Value}{fs:Array Field}(d:P.underlying t=some (.struct fs))(h:Value.okWide P W .any a t v):∃cs,v=.agg cs:=by
 unfold Value.okWide at h
 grind
theorem QjA{P:Program}{W:World}{t:TypeId}{cs:Array Value}{T:Type}{e:T->List A}{wf:T->Prop}{H:Type}{enc:TypeId×Value->H}{f:Nat}{a:Nat->Bool}{held:Bool}{d:DataW H}{ps:List MemPlace}
  (h:∀n,RB P n t T e wf)(i:DataW.Trod enc P W f a held t (.agg cs) d ps){μ:DataW H->Nat}(hμ:QnP μ)(g:μ d<=1048576):∃x:T,wf x/\VR (Qet W) [] W (.agg (e x)) (.agg cs):=by
 obtain⟨m,l⟩:=i;obtain⟨x,j,k,_⟩:=h (m+1) H enc W f a held m _ _ (Xn _) l μ hμ g;exact⟨x,j,cs.toList,by simp,k⟩
theorem Qlk{P:Program}{W:World}{t:TypeId}{a:Option Addr}{len cap:Nat}{T:Type}{e:T->List A}{k:Nat}{wf:List T->Prop}{H:Type}{enc:TypeId×Value->H}{g:Nat}{f:Nat->Bool}{held:Bool}{d:DataW H}{ps:List MemPlace}
  (h:∀n,RB P n t (List T) (Qx k e) wf)(j:DataW.Trod enc P W g f held t (.slice a len cap) d ps){μ:DataW H->Nat}(hμ:QnP μ)(i:μ d<=1048576):∃x:List T,wf x/\VR (Qet W) [] W (.rsl k (x.map e)) (.slice a len cap):=by
 obtain⟨m,p⟩:=j;obtain⟨x,l,⟨v,r,s,q,u⟩,_⟩:=h (m+1) H enc W g f held m _ _ (Xn _) p μ hμ i;refine⟨x,l,?_⟩;have:(Value.slice a len cap).cells.toList=[.slice a len cap]:=rfl
 grind
theorem Qju{P:Program}{W:World}(h:W.ShapedOpen P){g t u:Nat}{z:Value}(hg:Nat.blt g P.globals.size=true)(p:(((begin P (λ_ _=>0) default).world.heap[g]?).bind Obj.row?)=some (#[z],t))
  (r:P.buildable t=true)(q:P.cellTypes P.depth t=some [u])(s:P.underlying u=some (.int .i64)):∃m:Int,W.cell? ⟨g,0,none⟩=some (.int .i64 m):=by
 obtain⟨a,B,k,j⟩:=h.1 g _ _ (by simp_all) p;obtain⟨y,f,_,l⟩:=j r;rw[q]at f;cases f;have x:a.size=1:=k;have e:a[0]?=some a[0]:=(by simp);obtain⟨w,i,d⟩:=l 0 _ e;simp at i;subst i;unfold Cell.ok at d;rw[s]at d;cases n:a[0]<;>rw[n]at d<;>simp at d
 simp_all[World.cell?]
theorem QjJ{S B:Type}{step:S->Option (Ctl S B)}(a:Nat->S)(b:B)(k:Nat)(p:∀i,i<k->step (a i)=some (.cont (a (i+1))))(e:step (a k)=some (.done b)):∀n,k<n->iter step n (a 0)=some b:=by
 have h:∀m i n,k-i=m->i<=k->m<n->iter step n (a i)=some b:=by
  intro m
  induction m with
  |zero=>
   intro i n j g f;have:i=k:=by omega
   subst this;obtain⟨d,rfl⟩:∃d,n=d+1:=⟨n-1,by omega⟩;simp[iter,e]
  |succ m l=>
   intro i n j g f;obtain⟨d,rfl⟩:∃d,n=d+1:=⟨n-1,by omega⟩
   grind[iter]
 grind
theorem QmS{S B:Type}{step:S->Option (Ctl S B)}(d:S)(a:Nat->S)(b:B)(k:Nat)(g:a 0=d)(f:∀i,i<k->step (a i)=some (.cont (a (i+1))))(e:step (a k)=some (.done b))(n:Nat)(h:k<n):iter step n d=some b:=by
 rw[<- g];exact QjJ a b k f e n h
theorem Q8{α:Type}{l:List α}{i:Nat}{x:α}(h:l[i]?=some x):idx l (i:Int)=some x:=by
 grind[idx]
theorem Qby{α:Type}(l:List α)(x:α)(h:l.length<4294967296):app l [x]=some (l++[x]):=by
 unfold app;have:Nat.ble (l.length+[x].length) Yn=true:=by
  grind[Nat.ble_eq_true_of_le,Yn]
 grind
theorem Qdq{α:Type}(l m:List α)(h:l.length+m.length<=4294967296):app l m=some (l++m):=by
 simp_all[app,Yn,XR]
theorem Qn{n:Int}(d: -9223372036854775808<=n)(a:n<=9223372036854775807):IntKind.i64.wrap n=n:=by
 grind[IntKind.wrap,IntKind.bits,IntKind.signed]
theorem Q2{i:Nat}(h:i<9223372036854775807):IntKind.i64.wrap ((i:Int)+1)=((i+1:Nat):Int):=by
 rw[Qn (by omega) (by omega)];omega
theorem QX{p:Prop}[Decidable p](h:p):decide p=true:=Vr h
theorem QW{p:Prop}[Decidable p](h:¬p):decide p=false:=Vu h
open Go.Proofs Go.Shelf
def cat(a b:List UInt8):Option (List UInt8):=bif Nat.ble (a.length+b.length) 4294967296 then some (a++b)else none
theorem QpB{a b r:List UInt8}(h:cat a b=some r):a.length+b.length<=4294967296/\a++b=r:=by
 unfold cat at h;cases q:Nat.ble (a.length+b.length) 4294967296 with
 |true=>simp_all
 |false=>grind
def QfC(s t:List UInt8):Option Bool:=bif Nat.blt s.length 4294967281 then some (Lib.contains s t)else none
section
variable {P:Program} {o:Oper} {env:Env} {H:Qe}
theorem Qga{t u:TypeId}{x y:Operand}{p q r:List UInt8}(i:cat p q=some r)(s:o.op=.binOp .add t x y u:=by exact rfl)(hx:opA env x=.str p:=by exact rfl)(hy:opA env y=.str q:=by exact rfl):OpV P o env H (.str r):=by
 intro k m σ N a w rr;obtain⟨n,g⟩:=QpB i;have f:=Ql rr x;rw[hx]at f;have e:=Ql rr y;rw[hy]at e;have h:a.eval x=.string ⟨p.toArray⟩:=f;have j:a.eval y=.string ⟨q.toArray⟩:=e;have l:(⟨p.toArray⟩:ByteArray)++⟨q.toArray⟩=⟨r.toArray⟩:=by
  rw[<- g];rfl
 refine⟨.string ⟨r.toArray⟩,?_,rfl⟩;have d:¬((((⟨p.toArray⟩:ByteArray).size+(⟨q.toArray⟩:ByteArray).size:Nat):Int)>IntKind.i64.max):=by
  have:IntKind.i64.max=9223372036854775807:=by decide
  grind[ByteArray.size]
 simp_all[eqGuard,execOp,binOp_string_add,Op.stringOp,Vp]
def QeD{α:Type}(n:Nat)(l:List α)(i:Int):Option α:=bif Nat.beq l.length n then idx l i else none
theorem QaW{α:Type}{n:Nat}{l:List α}{i:Int}{x:α}(h:QeD n l i=some x):l.length=n/\idx l i=some x:=by
 grind[QeD,Nat.eq_of_beq_eq_true]
def arr{α:Type}(n:Nat)(l:List α):Option (List α):=bif Nat.beq l.length n then some l else none
theorem Jz{α:Type}{n:Nat}{l l':List α}(h:arr n l=some l'):l.length=n/\l=l':=by
 grind[arr,Nat.eq_of_beq_eq_true]
theorem Qbw{α:Type}{n:Nat}{l l':List α}(h:arr n l=some l'):l'.length=n:=(Jz h).2▸(Jz h).1
section
variable {α:Type} {e:α->List A} {t et k n b:Nat} {x y:Operand} {l:List α}
theorem Qaf{i:Int}{v:α}{j:IntKind}(h:QeD n l i=some v)(p:∀w,(underlying t).run P w=.ok (.array n et) w)(z:∀w,(sizeOf et).run P w=.ok k w)(u:Nat.ble 2 n=true)
  (F:o.op=.indexAddr t x y:=by exact rfl)(hx:opA env x=.ptr b 0:=by exact rfl)(hy:opA env y=.int j i:=by exact rfl):OpV P o env H (.ptr b (i.toNat*k)):=by
 intro L O σ N a w r;obtain⟨M,E⟩:=QaW h;obtain⟨G,J⟩:=Qam E;have q:i.toNat<l.length:=(by grind);have f:=Ql r x;rw[hx]at f;obtain⟨e,f,s⟩:=f;have m:=Ql r y;rw[hy]at m;have g:a.eval y=.int j i:=m;refine⟨.pointer (some ⟨e,i.toNat*k,none⟩),?_,e,f,rfl⟩;have B:0<=i/\i<(n:Int):=by omega
 have d:(⟨e,0,none⟩:Addr).add (i.toNat*k)=⟨e,i.toNat*k,none⟩:=by
  grind[Addr.add]
 generalize a.eval=ρ at*;simp[execOp,F,s,g,Instr.indexAt,asIntOf,p,z,Instr.sureAddr,B,d,go_sem,Result.andThen]
theorem Qk3{cs:List A}(f:H[b]?=some (.row t k (l.map e)):=by exact rfl)(hcs:(l.map e).flatten=cs:=by exact rfl):Pts H (.ptr b 0) cs:=by
 intro m p σ w v s h;obtain⟨j,g,d⟩:=h;obtain⟨n,a,i⟩:=s.blk b _ _ g f;refine⟨j,0,d,?_⟩;have:=(RR.flat (YF (pre:=[]) (by simpa using a) i)).1;subst hcs;exact this.lift
theorem QiH(a:∀x,(e x).length=k)(L:List α):(L.map e).flatten.length=L.length*k:=by
 induction L with
 |nil=>simp
 |cons c L ih=>grind
theorem Qjd{f:Nat}{l':List α}(h:arr n l=some l')(g:∀x,(e x).length=k)(a:n*k=f)(j:∀w,(isAgg t).run P w=.ok true w)(i:∀w,(sizeOf t).run P w=.ok f w){T:Nat}
  (p:o.op=.load t x:=by exact rfl)(hx:opA env x=.ptr b 0:=by exact rfl)(hH:H[b]?=some (.row T k (l.map e)):=by exact rfl):OpV P o env H (.agg (l'.map e).flatten):=by
 obtain⟨m,rfl⟩:=Jz h;have d:=QiH g l;rw[m,a]at d;exact QD p j i hx (Qk3 hH rfl) (by grind) d
theorem QlW{r:Nat}{n2 T:Nat}(h:l.length=n)(i:∀x,(e x).length=k)(a:n*k=n2)(d:∀w,(isAgg t).run P w=.ok true w)(j:∀w,(sizeOf t).run P w=.ok n2 w)
  (g:lk env r=.ptr b 0:=by exact rfl)(hH:H[b]?=some (.row T k (l.map e)):=by exact rfl):Qev P env H (.cell r t) (.agg (l.map e).flatten):=by
 have f:=QiH i l;rw[h,a]at f;have:=Qeu (b:=r) (p:=.ptr b 0) (n:=n2) d j (Qk3 hH rfl) g (by grind)
 grind
theorem Qja{c:List A}{k:Nat}(h:c.length=k):∀n,allK k (List.replicate n c)
 |0=>trivial
 |n+1=>⟨h,Qja h n⟩
theorem Jj{vs:Array Value}{z:α}(p:∀w,(zeroValue t).run P w=.ok (.agg vs) w)(q:(YZ (List.replicate n (e z)).flatten).toArray=vs)(i:Qhk (List.replicate n (e z)).flatten=true)(l:(List.replicate n (e z)).flatten.all YA=true)(h:Nat.beq (e z).length k=true)
  (s:o.op=.alloc t:=by exact rfl):OpH P o env H (.ptr H.length 0) (H++[.row t k ((List.replicate n z).map e)]):=by
 intro m g σ N a w r;have f:LR g [] w (List.replicate n (e z)).flatten (YZ (List.replicate n (e z)).flatten):=Qgj i;have d:=r.sim.allocRow (t:=t) (rest:=[]) (Qja (XP h) n) f (f.plain l);rw[Vd]at d;have j:(List.replicate n z).map e=List.replicate n (e z):=List.map_replicate;refine⟨.pointer (some ⟨w.heap.size,0,none⟩),w.alloc (.cells (YZ (List.replicate n (e z)).flatten).toArray t),g,[some w.heap.size],?_,⟨w.heap.size,?_,rfl⟩,j▸d,Qi.alloc _ r.sim.roLt r.sim.frLt⟩
 .generalize a.eval=ρ at*;have u:(newVar t (.agg vs)).run P w=.ok ⟨w.heap.size,0,none⟩ (w.alloc (.cells vs t)):=rfl
  simp_all[execOp,Instr.alloc]
 .rw[<- r.sim.len];simp
theorem Ji{T n2:Nat}{l':List α}{vs:List A}(h:l.length=n)(h':l'.length=n)(hk:∀x,(e x).length=k)(G:n*k=n2)(hs:∀w,(sizeOf t).run P w=.ok n2 w)
  (hp:∀x,(e x).all YA=true)(X:∀x,YK (e x)=true)(M:(l'.map e).flatten=vs)
  (ho:o.op=.store t x y:=by exact rfl)(s:opA env x=.ptr b 0:=by exact rfl)(hH:H[b]?=some (.row T k (l.map e)):=by exact rfl)(B:opA env y=.agg vs:=by exact rfl):
  OpU P o env H (H.set b (.row T k (l'.map e))):=by
 intro fr ro σ N a w r;subst M;have g:=Ql r x;rw[s]at g;obtain⟨bb,g,h2⟩:=g;have V:=Ql r y;rw[B]at V;obtain⟨m,h4,q⟩:=V;obtain⟨z,R,Y⟩:=r.sim.blk b _ _ g hH;have E:∀(L:List α),allK k (L.map e):=by
  intro L
  induction L with
  |nil=>trivial
  |cons c L u=>exact⟨hk c,u⟩
 have O:(l'.map e).flatten.length=n2:=by grind[Yt]
 have hm:m.length=n2:=by rw[q.length,O]
 have i:∀L:List α,(L.map e).flatten.all YA=true:=by
  grind
 have F:∀f ds:List A,YK f=true->YK ds=true->YK (f++ds)=true:=by
  intro f
  induction f with
  |nil=>simp
  |cons c f u=>
   simp_all[YK]
 have J:∀L:List α,YK (L.map e).flatten=true:=by
  intro L
  induction L with
  |nil=>rfl
  |cons c L u=>simp only[Vg,Vi];exact F _ _ (X c) u
 have Q:n2<=z.length:=by
  have:=Y.length;rw[XZ,h,G]at this;exact this
 have W:=Yh (P:=P) (vs:=m) 0 0 R (by omega) (q.plain (i l'));have p:splice z 0 m=m++z.drop n2:=by unfold splice;simp[hm]
 have d:=r.sim.set (x':=.row T k (l'.map e)) (obj:=.cells (splice z 0 m).toArray T (0,0)) g hH rfl
  (λy B=>JA R (Yf (by omega)) y B)
  (λex j=>by
   have s:=(q.data (J l')).mono ex.nil;rw[p]at s j⊢;exact⟨_,j,Y1 (E l') s (q.plain (i l'))⟩)
 refine⟨_,ro,[],?_,by simpa using d.1,d.2⟩
 simp_all[Value.cells,storeVar,execOp,Instr.storeAt,Instr.sureAddr]
end
end
theorem C.contains{P:Program}{ρ:Ren}(L:Lays.n144 P ρ)(hg:ρ.g 1=Qly){s t:List UInt8}{r:Bool}(h:QfC s t=some r):C P (ρ.f 144) [.str s,.str t] [] (λa H=>a=.bool r/\H=[]):=by
 unfold QfC at h;cases q:Nat.blt s.length 4294967281 with
 |false=>grind
 |true=>
  rw[q]at h;obtain rfl:=XX h;intro z p σ vals w sim hv;obtain⟨l,F,rfl,u,i,k,rfl,j,d⟩:=hv;cases(show k=[]from d);obtain⟨m,E⟩:=sim.roOk.gp.max;have y:l=.string ⟨s.toArray⟩:=u;have x:i=.string ⟨t.toArray⟩:=j;subst y x;have n:s.length<4294967281:=by simpa using q
  refine(Any.strings_Contains L ⟨s.toArray⟩ ⟨t.toArray⟩ m w (by simpa[ByteArray.size]using n) (by grind)).mono ?_;rintro e B ⟨rfl,rfl⟩;exact⟨_,_,_,p,[],rfl,⟨rfl,rfl⟩,by grind,rfl,Qi.refl _ _ _⟩
section
variable {P:Program} {o:Oper} {env:Env} {H:Qe} {fr ro:Nat->Prop} {σ:Sig} {w:World}
theorem Sim.touch(s:Sim fr ro σ H w){b:Nat}{obj:Obj}(r:¬ro b)(n:¬fr b)(z:∀(i:Nat) (x:Blk),σ[i]?=some (some b)->H[i]?=some x->x.live=true->False)
  (g:∀(i d:Nat) (x:Blk),σ[i]?=some (some d)->H[i]?=some x->Hid w x d b->False)
  (m:∀y,w.shape? b=some y->({w with heap:=w.heap.setIfInBounds b obj}:World).shape? b=some y):
  Sim fr ro σ H {w with heap:=w.heap.setIfInBounds b obj}/\Qi fr ro w ro {w with heap:=w.heap.setIfInBounds b obj}:=by
 have t:∀c,c≠b->({w with heap:=w.heap.setIfInBounds b obj}:World).heap[c]?=w.heap[c]? :=by
  grind
 have a:({w with heap:=w.heap.setIfInBounds b obj}:World).heap.size=w.heap.size:=by simp
 have ev:Qi fr ro w ro {w with heap:=w.heap.setIfInBounds b obj}:=
  ⟨λ_ h=>h,(by grind),(by grind),by omega,by
   grind[World.shape?],rfl,rfl,rfl,XS _⟩
 refine⟨⟨s.len,s.roOk.to (λ_ q=>q) ev.keepRo (λc h=>by rw[a];exact s.roLt c h),λc h=>by rw[a];exact s.frLt c h,s.roFr,?_,s.inj,?_,s.hidTo (· = ·) Yg (by omega) (by simp) (by simp) λj d y k l u=>.inl ⟨j,y,rfl,k,l,id,λc q=>s.hidKeep k l (by grind) ev.keepRo q⟩⟩,ev⟩
 .intro i c x f e p;rw[a];exact s.own i c x f e p
 .intro i y x f e;refine(s.blk i y x f e).keep (ev.ext0 σ) ?_ ?_
  .grind
  grind
theorem Ql6{T E i n t:Nat}{x:Operand}{es:List (List A)}(X:P.underlying T=some (.slice E))(hE:P.underlying E=some (.int .u8))(Y:es.length=n)(h0:Nat.blt 0 n=true)
  (ho:o.op=.convert T T x:=by exact rfl)(hx:opA env x=.osl i 0 n 1:=by exact rfl)(hH:H[i]?=some (.row t 1 es):=by exact rfl):
  OpH P o env H (.rsl 1 es) (H.set i .dead):=by
 intro fr M σ N a w r;subst Y;have h:=Ql r x;rw[hx]at h;rcases h with⟨hz,_⟩|⟨b,p,J,t',m,h,h2,h6,⟨h3,aa⟩,h4,h5⟩
 .simp_all
 .have W:0<es.length:=by simp_all
  obtain rfl:=h6 (by omega);obtain⟨hb,L,g⟩:=r.sim.own i b _ h hH rfl;obtain⟨l,q1,q2⟩:=r.sim.blk i _ _ h hH;have V:=r.sim.kill i;have f:∀(j:Nat) (y:Blk),σ[j]?=some (some b)->(H.set i .dead)[j]?=some y->y.live=true->False:=by
   intro j y u e B;by_cases q:j=i
   .subst q;rw[Xb]at e;simp only[if_true]at e
    grind[Blk.live]
   .rw[XO (λz=>q z.symm)]at e;exact q (r.sim.inj j i b y _ u h e hH B rfl)
  have G:∀(j d:Nat) (y:Blk),σ[j]?=some (some d)->(H.set i .dead)[j]?=some y->Hid w y d b->False:=by
   intro j d y u e B;by_cases q:j=i
   .subst q;rw[Xb]at e;simp only[if_true]at e;split at e
    .cases e;exact B.elim
    .simp at e
   .rw[XO (λz=>q z.symm)]at e;exact(r.sim.hid j d y b u e B).ne i b _ h hH rfl rfl
  let fz:Nat×Nat:=(l.length,l.length+1)
  have R:∀y,w.shape? b=some y->({w with heap:=w.heap.setIfInBounds b (.cells l.toArray t fz)}:World).shape? b=some y:=by
   simp_all[World.shape?]
  obtain⟨s2,k⟩:=V.touch (obj:=.cells l.toArray t fz) L g f G R;have s3:=s2.addRo (b:=b) (by grind) g f (λj d y u e B=>G j d y u e (V.hidKeep u e (by grind) k.keepRo B));have s:({w with heap:=w.heap.setIfInBounds b (.cells l.toArray t fz)}:World).heap[b]?=some (.cells (([]:List Value)++l).toArray t fz):=by
   grind
  have F:Ext M [] w M [] {w with heap:=w.heap.setIfInBounds b (.cells l.toArray t fz)}:=k.ext0 [];refine⟨.slice (some ⟨b,0*1,none⟩) es.length J,_,λc=>M c\/c=b,[],?_,?_,by grind,k.trans (YO λ_ q=>.inl q)⟩
  .have hf:w.freeze ⟨b,l.length,none⟩ 1={w with heap:=w.heap.setIfInBounds b (.cells l.toArray t fz)}:=by
    unfold World.freeze;simp only[Nat.one_ne_zero,if_false];rw[QdO q1];rfl
   have O:(markStringish ⟨b,0*1,none⟩).run P w=.ok () {w with heap:=w.heap.setIfInBounds b (.cells l.toArray t fz)}:=by
    simp_all[markStringish,World.shape?]
   have hu:∀w,(underlying T).run P w=.ok (.slice E) w:=run_underlying X;have Q:∀w,(underlying E).run P w=.ok (.int .u8) w:=run_underlying hE;generalize a.eval=ρ at*;simp only[execOp,ho,h2,convert,Vj,hu,Q,Result.andThen,beq_self_eq_true,O,Vk]
  .refine⟨some ⟨b,0*1,none⟩,J,rfl,h3,.inr ⟨b,0*1,rfl,.inr rfl,?_⟩⟩;have:=YF (pre:=[]) s (q2.mono F);exact(by omega:RR M [] _ b 1 es (0*1)).keep ⟨λ_ q=>.inl q,λ_ _=>rfl,λ_ _ q=>q,λ_ _ q=>q⟩ rfl
end
mutual
theorem QdI(ρ:Nat->Nat):∀{a:A},YC a=true->Y4 ρ a=a
 |.any,_=>rfl
 |.bool _,_=>rfl
 |.int _ _,_=>rfl
 |.str _,_=>rfl
 |.nilp,_=>rfl
 |.ptr _ _,h=>by simp[YC]at h
 |.rp _,_=>rfl
 |.nils,_=>rfl
 |.rsl _ _,_=>rfl
 |.osl _ _ _ _,h=>by simp[YC]at h
 |.agg cs,h=>by simp only[YC]at h;simp only[Y4,Qad ρ h]
 |.fn f a c,h=>by simp only[YC,XV]at h;simp only[Y4,Qad ρ h.1,Qad ρ h.2]
 |.nilf,_=>rfl
 |.iface t a,h=>by simp only[YC]at h;simp only[Y4,QdI ρ h]
 |.nilif,_=>rfl
 |.map _,h=>by simp[YC]at h
 |.nilm,_=>rfl
 |.tup vs,h=>by simp only[YC]at h;simp only[Y4,Qad ρ h]
theorem Qad(ρ:Nat->Nat):∀{l:List A},YK l=true->Qag ρ l=l
 |[],_=>rfl
 |a::l,h=>by simp only[YK,XV]at h;simp only[Qag,QdI ρ h.1,Qad ρ h.2]
end
theorem QgS{α:Type}{e:α->List A}(a:∀x,YK (e x)=true):∀L:List α,YK (L.map e).flatten=true
 |[]=>rfl
 |c::L=>by
  have hdt:∀cs ds:List A,YK cs=true->YK ds=true->YK (cs++ds)=true:=by
   intro cs
   induction cs with
   |nil=>simp
   |cons c cs d=>
    simp_all[YK]
  simp only[Vg,Vi];exact hdt _ _ (a c) (QgS a L)
theorem Qob{α:Type}{e:α->List A}(hd:∀x,YK (e x)=true)(ρ:Nat->Nat)(l:List α):Y4 ρ (.agg (l.map e).flatten)=.agg (l.map e).flatten:=
 QdI ρ (by simp only[YC];exact QgS hd l)
end Go.Sw
namespace Go.Sw
section
variable {P:Program} {o:Oper} {env:Env} {H:Qe}
theorem Qe4{c:Call}{f T:Nat}{x:Operand}{xs:List Operand}{i:Array TypeId}{name:String}{v:A}{args:List A}(d:∀(a:Array Value) (w:World),(callFunc f a).run P w=.ok (.enter f a) w)(n:o.op=.call c)
  (k:c={callee:=.invoke x name,args:=xs.toArray,argTypes:=i})(h:opA env x=.iface T v)(hargs:v::xs.map (opA env)=args)
  (m:∀(u:Value) (w:World),(method (P.types.size+Made.depth) T u name).run P w=.ok (f,u) w):OpC P o env H f args:=by
 intro j l σ N a w r;have e:=Ql r x;rw[h]at e;obtain⟨u,e,g⟩:=e;refine⟨u::xs.map a.eval,?_,hargs▸⟨u,xs.map a.eval,rfl,g,Qbg r xs⟩⟩
 simp_all[VF,callMethod,execOp,resolve,invoke]
theorem QbB{T I:Nat}{x:Operand}{v:A}{d:TypeDesc}(g:∀w,(underlying T).run P w=.ok d w)(j:∀m,d≠ .interface m)(k:o.op=.typeAssert x I T true:=by exact rfl)(hx:opA env x=.iface T v:=by exact rfl):
  OpV P o env H (.tup [v,.bool true]):=by
 intro i h σ N a w r;have e:=Ql r x;rw[hx]at e;obtain⟨u,e,f⟩:=e;refine⟨.tuple #[u,.bool true],?_,[u,.bool true],rfl,_,_,rfl,f,_,_,rfl,rfl,rfl⟩
 simp_all[execOp,Instr.typeAssert]
theorem Qh0{T T' I:Nat}{x:Operand}{v z:A}{zv:Value}{d:TypeDesc}(h:∀w,(underlying T).run P w=.ok d w)(i:∀m,d≠ .interface m)(g:Nat.beq T' T=false)(k:∀w,(zeroValue T).run P w=.ok zv w)(e:ZR z zv)
  (s:o.op=.typeAssert x I T true:=by exact rfl)(hx:opA env x=.iface T' v:=by exact rfl):
  OpV P o env H (.tup [z,.bool false]):=by
 intro j p σ N a w r;have f:=Ql r x;rw[hx]at f;obtain⟨u,f,l⟩:=f;have n:T'≠T:=λq=>by simp_all
 refine⟨.tuple #[zv,.bool false],?_,[zv,.bool false],rfl,_,_,rfl,e _ _ _,_,_,rfl,rfl,rfl⟩
 simp_all[execOp,Instr.typeAssert]
end
def TL(P:Program)(h0 N:Nat)(c:Code)(env:Env)(H:Qe)(Q:QR):Prop:=
 ∀rd fr ro σ a w,Rel fr ro σ H env N a w->QdZ rd fr w->∀(b:Frame) (k:List Item) (cs:List Frame),b.roundOf=(WF rd).round->(WF rd).fn b.fn->(WF rd).room (cs.length+1+0)->∃e a' w',QaM h0 fr ro σ w N a.defers Q e a' w'/\ArrivesIn (Machine.fenced P (WF rd)) P (lone (b.atR a (.code c::.inLoop c::k)) cs w) b k cs e a' w'
def Qj7(P:Program)(h0 N:Nat)(c:Code)(Q:QR):QR
 |.normal,env,H=>TL P h0 N c env H Q
 |.exit id,env,H=>Q (.exit id) env H
 |.ret,env,H=>Q .ret env H
section
variable {P:Program} {h0 N:Nat} {c:Code} {env:Env} {H:Qe} {Q:QR}
theorem Qnz(h:TL P h0 N c env H Q):TC P h0 N (.loop c) env H Q:=by
 intro i f l σ a w r hrd b k cs hro hb hr;obtain⟨e,g,m,j,d⟩:=h i f l σ a w r hrd b k cs hro hb hr;exact⟨e,g,m,j,.of_steps (.one (fenced_calm hb hr rfl) stepR_loop) d⟩
theorem TL.round(h:TC P h0 N c env H (Qj7 P h0 N c Q)):TL P h0 N c env H Q:=by
 intro B z F σ a w r hrd b k cs hro hb hr;obtain⟨e,n,l,J,d⟩:=h B z F σ a w r hrd b (.inLoop c::k) cs hro hb hr;obtain⟨x,f,H',j,σ',i,m,t,E,s,y,p⟩:=J;have G:∀x,Q x f H'->ExR e x->QaM h0 z F σ w N a.defers Q e n l:=λx q M=>⟨x,f,H',j,σ',i,M,q,E,s,y,p⟩;cases e with
 |normal=>
  obtain rfl:x=.normal:=m;obtain⟨O,L,w2,u,g⟩:=t B i j σ' n l E (hrd.to s p.sub) b k cs hro hb hr;exact⟨O,L,w2,u.grow s y p,.of_steps (StepsIn.trans d (.one (fenced_calm hb hr rfl) stepR_inLoop)) g⟩
 |exit id=>
  obtain rfl:x=.exit id:=m;exact⟨_,n,l,G _ t rfl,.pass (x:=.inLoop c) rfl (by simp) d⟩
 |ret=>
  obtain rfl:x=.ret:=m;exact⟨_,n,l,G _ t rfl,.pass (x:=.inLoop c) rfl (by simp) d⟩
 |_=>exact m.elim
theorem unrN(h:TC P h0 N c env H (Qj7 P h0 N c Q)):Qj7 P h0 N c Q .normal env H:=TL.round h
theorem unrX{id:Nat}(h:Q (.exit id) env H):Qj7 P h0 N c Q (.exit id) env H:=h
theorem unrR(h:Q .ret env H):Qj7 P h0 N c Q .ret env H:=h
theorem QlT(h:TC P h0 N c env H (Qj7 P h0 N c Q)):TC P h0 N (.loop c) env H Q:=Qnz (TL.round h)
end
section
variable {P:Program} {o:Oper} {env:Env} {H:Qe}
theorem OpV.ixL{t a k b n j:Nat}{x y:Operand}{e:IntKind}{i:Int}(l:Nat.blt j n=true)(hi:i=(j:Int))(d:∀w,(underlying t).run P w=.ok (.slice a) w)(g:∀w,(sizeOf a).run P w=.ok k w)
  (f:o.op=.indexAddr t x y:=by exact rfl)(hx:opA env x=.osl b 0 n k:=by exact rfl)(hy:opA env y=.int e i:=by exact rfl):OpV P o env H (.ptr b (j*k)):=by
 subst hi;have h:=Qh1 (H:=H) f d g hx hy (by omega) (by simp_all)
 grind
end
theorem Qf9{ro:Nat->Prop}{σ:Sig}{w:World}{k:Nat}:∀{es:List (List A)} {l l':List Value},RL ro σ w k es l->l.take (es.length*k)=l'.take (es.length*k)->RL ro σ w k es l'
 |[],_,_,_,_=>trivial
 |c::es,l,l',h,hp=>by
  obtain⟨l1,l2,rfl,h1,h2,h3⟩:=h;have hl1:l1.length=k:=by rw[h2.1.length];exact h1
  have a:l'.take k=l1:=by
   have:=congrArg (List.take k) hp
   grind[Nat.succ_mul]
  refine⟨l1,l'.drop k,by rw[<- a,Xy],h1,h2,Qf9 h3 ?_⟩;have:=congrArg (List.drop k) hp
  grind[Nat.succ_mul]
section
variable {P:Program} {o:Oper} {env:Env} {H:Qe}
theorem Qgx{c:Call}{T et k b s n t:Nat}{x:Operand}{es f:List (List A)}{z:Value}(ht:P.underlying T=some (.slice et))(hz:∀w,(zeroValue et).run P w=.ok z w)(E:z.cells.size=k)(ab:∀v∈z.cells,QA v)
  (O:es.take s=f)(hb:s+n=es.length)(ho:o.op=.call c:=by exact rfl)(hc:c={callee:=.builtin .clear,args:= #[x],argTypes:= #[T]}:=by exact rfl)
  (hx:opA env x=.osl b s n k:=by exact rfl)(hH:H[b]?=some (.row t k es):=by exact rfl):OpH P o env H (.tup []) (H.set b (.row t k f)):=by
 intro B j σ N a w r;subst O hc;have hu:∀w,(underlying T).run P w=.ok (.slice et) w:=run_underlying ht;have e:=Ql r x;rw[hx]at e;have G:Sim B j σ (H.set b (.row t k (es.take s))) w:=by
  refine r.sim.weaken hH rfl ?_;intro y h;cases y with
  |none=>rw[show es=[]from h];simp[BR]
  |some u=>obtain⟨l,g1,g2⟩:=h;exact⟨l,g1,RL.take s g2⟩
 have F:∀v,a.eval x=v->(Builtin.clear_ #[T] o.type #[v]).run P w=.ok (.tuple #[]) w->
   ∃v w' ro' τ,(execOp a.eval o).run P w=.ok (.value v) w'/\VR ro' (σ++τ) w' (.tup []) v/\Sim B ro' (σ++τ) (H.set b (.row t k (es.take s))) w'/\Qi B j w ro' w':=by
  intro v Q d;refine⟨.tuple #[],w,j,[],?_,⟨[],rfl,rfl⟩,by grind,Qi.refl _ _ _⟩
  simp_all[execOp,resolve,invoke,builtin]
 rcases e with⟨hn,e⟩|⟨u,p,J,t',m,e,h2,h3,⟨h4,ad⟩,h5,h6⟩
 .simp_all[Builtin.clear_]
 .by_cases hn:n=0
  .simp_all[Builtin.clear_]
  .obtain rfl:=h3 (by omega);obtain⟨l,V,W⟩:=r.sim.blk b _ _ e hH;have R:=W.length
   let vs:=(Builtin.zeroCells z.cells n).toList
   have aa:vs.length=n*k:=by simp[vs,Builtin.zeroCells,E]
   have M:∀v∈vs,QA v:=by
    intro v Q;simp only[vs,Builtin.zeroCells,Array.toList_map,Xf,Array.toList_range,List.mem_range]at Q;obtain⟨i,hi,rfl⟩:=Q;have Y:0<z.cells.size:=by
     grind
    grind[Nat.mod_lt]
   have ac:s*k+n*k=es.length*k:=by grind
   have d:=Yh (P:=P) (vs:=vs) (s*k) 0 V (by omega) M;have g:=r.sim.set (x':=.row t k (es.take s)) (obj:=.cells (splice l (s*k) vs).toArray t (0,0)) e hH rfl
    (λy h=>JA V (Yf (by omega)) y h)
    (λex L=>⟨_,L,by
     refine(Qf9 (RL.take s W) ?_).mono ex.nil
     grind[splice]⟩)
   refine⟨.tuple #[],_,j,[],?_,⟨[],rfl,rfl⟩,by grind,g.2⟩;have q:(Builtin.clear_ #[T] o.type #[.slice (some ⟨u,s*k,none⟩) n J]).run P w=.ok (.tuple #[]) {w with heap:=w.heap.setIfInBounds u (.cells (splice l (s*k) vs).toArray t (0,0))}:=by
    obtain⟨X,rfl⟩:∃X,n=X+1:=⟨n-1,by omega⟩;simp only[Xw]at d;simp only[Builtin.clear_,XF,XD,Vj,hu,hz,Result.andThen,d,Vk,vs]
   generalize a.eval=ρ at*;simp only[execOp,ho,resolve,Vj,Vk,Result.andThen,invoke,builtin,XH,Vg,Vh,h2,q]
end
def isNil{α R:Type}[DecidableEq R](l:List α)(x y:Option R):Option R:=bif l.isEmpty then(bif decide (x=y)then x else none)else y
theorem QmT{α R:Type}[DecidableEq R]{l:List α}{x y:Option R}{r:R}(h:isNil l x y=some r)(b:Bool)(a:l≠[]->b=false):(b=true->x=some r)/\(b=false->y=some r):=by
 unfold isNil at h
 grind
section
variable {P:Program} {o:Oper} {env:Env} {H:Qe} {h0 N:Nat} {Q:QR}
theorem Ql7{α:Type}{e:α->List A}{T E k:Nat}{u:TypeId}{x:Operand}{l:List α}(j:P.underlying T=some (.slice E))(s:o.op=.binOp .eql T x (.const (.slice none 0 0)) u)(h:opA env x=.rsl k (l.map e)):
  OpE P o env H (λv H'=>∃b:Bool,v=.bool b/\(l≠[]->b=false)/\H'=H):=by
 intro m i σ N a w r;have f:=Ql r x;rw[h]at f;obtain⟨d,g,f,p,n⟩:=f;refine⟨.bool d.isNone,H,.bool d.isNone,w,i,[],⟨d.isNone,rfl,λq=>?_,rfl⟩,?_,rfl,by simpa using r.sim,Qi.refl _ _ _⟩
 .grind
 .have t:a.eval (.const (.slice none 0 0))=.slice none 0 0:=rfl
  grind[eqGuard,execOp,Sem.run_bind,Result.andThen,Go.run_eql_slice_nil,Sem.run_pure]
theorem Qnv{α:Type}{e:α->List A}{T E k d:Nat}{u:TypeId}{x:Operand}{l:List α}{all:Array Oper}{L:List Oper}(a:P.underlying T=some (.slice E))(g:opA env x=.rsl k (l.map e))
  (h:∀b:Bool,(l≠[]->b=false)->WO P h0 N all L (up env d (.bool b)) H Q)
  (f:o.op=.binOp .eql T x (.const (.slice none 0 0)) u:=by exact rfl)(hg:QE all o env true:=by exact rfl)(hd:o.dst=some d:=by exact rfl)(hN:Nat.blt d N=true:=by exact rfl)(hh:Nat.ble h0 H.length=true:=by exact rfl):WO P h0 N all (o::L) env H Q:=by
 refine Qnu (by simp_all) hg hd hN (Ql7 a f g) ?_
 grind
end
theorem slc0{α:Type}{l x:List α}{i:Int}(h:slc l 0 i=some x):0<=i/\i.toNat<=l.length/\l.take i.toNat=x/\x.length=i.toNat:=by
 obtain⟨_,a,e,d⟩:=QbQ h
 grind
section
variable {P:Program} {o:Oper} {env:Env} {H:Qe} {α:Type} {e:α->List A} {T et k b t:Nat} {x y:Operand} {l l':List α} {i:Int}
theorem Qgd(h:slc l 0 i=some l')(E1:∀w,(underlying T).run P w=.ok (.slice et) w)(E2:∀w,(sizeOf et).run P w=.ok k w)(a:o.op=.slice T x (some y) none none:=by exact rfl)
  (hx:opA env x=.osl b 0 l.length k:=by exact rfl)(hy:opA env y=.int .i64 i:=by exact rfl):OpV P o env H (.osl b (0+i.toNat) (l.length-i.toNat) k):=by
 obtain⟨e,d,_,_⟩:=slc0 h;exact Qgf E1 E2 a hx (by grind) (.inl ⟨rfl,rfl⟩) d (XS _)
theorem Qge(h:slc l 0 i=some l')(E1:∀w,(underlying T).run P w=.ok (.slice et) w)(E2:∀w,(sizeOf et).run P w=.ok k w)(a:o.op=.slice T x none (some y) none:=by exact rfl)
  (hx:opA env x=.osl b 0 l.length k:=by exact rfl)(hy:opA env y=.int .i64 i:=by exact rfl):OpV P o env H (.osl b 0 l'.length k):=by
 obtain⟨e,d,_,f⟩:=slc0 h;have:=Qgf (H:=H) E1 E2 a hx (.inl ⟨rfl,rfl⟩) (by grind) (XT _) d
 grind
theorem Qgh{c:Call}{z:Value}(h:slc l 0 i=some l')(f:P.underlying T=some (.slice et))(j:∀w,(zeroValue et).run P w=.ok z w)(d:z.cells.size=k)(a:∀v∈z.cells,QA v)(m:o.op=.call c:=by exact rfl)(hc:c={callee:=.builtin .clear,args:= #[x],argTypes:= #[T]}:=by exact rfl)
  (hx:opA env x=.osl b (0+i.toNat) (l.length-i.toNat) k:=by exact rfl)(hH:H[b]?=some (.row t k (l.map e)):=by exact rfl):OpH P o env H (.tup []) (H.set b (.row t k (l'.map e))):=by
 obtain⟨p,n,g,q⟩:=slc0 h;refine Qgx f j d a ?_ ?_ m hc hx hH
 .rw[Xv, <- g,List.map_take]
 grind
end
open Go.Sort Go.Proofs Go.Shelf
section
variable {P:Program} {o:Oper} {env:Env} {H:Qe} {α:Type} {e:α->List A} {T et k b t:Nat} {x y:Operand}
theorem YU{lo hi:Option Operand}{l r:List α}{a c:Int}(h:slc l a c=some r)(E1:∀w,(underlying T).run P w=.ok (.slice et) w)(E2:∀w,(sizeOf et).run P w=.ok k w)
  (d:lo=none/\a=0\/ ∃y,lo=some y/\opA env y=.int .i64 a)(e:hi=none/\c=l.length\/ ∃y,hi=some y/\opA env y=.int .i64 c)
  (f:o.op=.slice T x lo hi none:=by exact rfl)(hx:opA env x=.osl b 0 l.length k:=by exact rfl):OpV P o env H (.osl b (0+a.toNat) (c.toNat-a.toNat) k):=by
 obtain⟨j,g,i,_⟩:=QbQ h;refine Qgf (l:=a.toNat) (h:=c.toNat) E1 E2 f hx ?_ ?_ (by omega) (by omega)
 .grind
 grind
theorem Qj9{l r:List α}{a c:Int}(h:slc l a c=some r)(f:H[b]?=some (.row t k (l.map e)):=by exact rfl):Src P H (.osl b (0+a.toNat) (c.toNat-a.toNat) k) k (r.map e):=by
 obtain⟨j,g,i,d⟩:=QbQ h;refine Src.osl f ?_ (by grind);rw[<- d, <- List.map_drop, <- List.map_take,Xv,List.drop_take]
theorem QnN{c:Call}{T T' et et' k i:Nat}{x y:Operand}{a:A}{l l' m r:List α}{z:Int}(f:slc l 0 z=some l')(h:app l' m=some r)(E:Ye P T et k)(d:∀w,(underlying T').run P w=.ok (.slice et') w)(g:Src P H a k (m.map e))
  (p:o.op=.call c:=by exact rfl)(hc:c={callee:=.builtin .append,args:= #[x,y],argTypes:= #[T,T']}:=by exact rfl)(hx:opA env x=.osl i (0+Int.toNat 0) (z.toNat-Int.toNat 0) k:=by exact rfl)
  (hH:H[i]?=some (.row et k (l.map e)):=by exact rfl)(hy:opA env y=a:=by exact rfl):
  OpH P o env H (.osl H.length 0 r.length k) (H.set i .dead++[.row et k (r.map e)]):=by
 obtain⟨u,rfl⟩:=QhW h;obtain⟨t,q,j,s⟩:=slc0 f;have:=Qex (n:=z.toNat) (gs:=(l'++m).map e) E d p hc hx hH (by grind) hy g (by grind) (by rw[<- List.map_take,j,Xg])
 grind
end
end Go.Sw
namespace Go.Sw
inductive Bx where
 |mk (a:A)
def lkB:Env->Nat->Bx
 |[],_=>.mk .any
 |(d,a)::r,s=>bif Nat.beq s d then .mk a else lkB r s
theorem QjH:∀{env:Env} {s:Nat} {a:A},lkB env s=.mk a->lk env s=a
 |[],s,a,h=>by cases h;rfl
 |(d,b)::r,s,a,h=>by
  unfold lkB at h;unfold lk;cases q:Nat.beq s d with
  |true=>grind
  |false=>rw[q]at h;exact QjH h
inductive FBy where
 |mk (l:List UInt8)
def fby:List UInt8->FBy
 |[]=>.mk []
 |a::r=>match fby r with
  |.mk r'=>.mk (a::r')
theorem Qm5:∀l:List UInt8,fby l=.mk l
 |[]=>rfl
 |a::r=>by unfold fby;rw[Qm5 r]
def opB(env:Env):Operand->Bx
 |.tmp t=>lkB env t
 |.const (.bool b)=>.mk (.bool b)
 |.const (.int k n)=>.mk (.int k n)
 |.const (.string s)=>match fby s.data.toList with
  |.mk l=>.mk (.str l)
 |.const (.pointer none)=>.mk .nilp
 |.const (.slice none 0 0)=>.mk .nils
 |.const (.map none)=>.mk .nilm
 |.const .nilFunc=>.mk .nilf
 |.const .nilIface=>.mk .nilif
 |.func f=>.mk (.fn (.func f) [] [])
 |_=>.mk .any
theorem QV{env:Env}{x:Operand}{a:A}(h:opB env x=.mk a):opA env x=a:=by
 cases x with
 |tmp t=>exact QjH h
 |const v=>
  cases v with
  |slice b n k=>cases b with
   |none=>cases n with
    |zero=>cases k<;>(cases h;rfl)
    |succ n=>cases h;rfl
   |some b=>cases h;rfl
  |pointer p=>cases p<;>(cases h;rfl)
  |map p=>cases p<;>(cases h;rfl)
  |string s=>
   have d:(match fby s.data.toList with|.mk l=>Bx.mk (.str l))=.mk a:=h;rw[Qm5]at d;cases d;rfl
  |_=>cases h;rfl
 |global g=>cases h;rfl
 |func f=>cases h;rfl
def Y5{α:Type}:List α->Nat->Option α
 |[],_=>none
 |a::_,0=>some a
 |_::r,n+1=>Y5 r n
theorem QaA{α:Type}:∀(l:List α) (n:Nat),Y5 l n=l[n]?
 |[],n=>by simp[Y5]
 |a::r,0=>rfl
 |a::r,n+1=>by simp[Y5,QaA r n]
def arB:BinOp->IntKind->Int->Int->Option A
 |.add,k,m,n=>some (.int k (k.wrap (m+n)))
 |.sub,k,m,n=>some (.int k (k.wrap (m-n)))
 |.mul,k,m,n=>some (.int k (k.wrap (m*n)))
 |.eql,_,m,n=>some (.bool (m==n))
 |.neq,_,m,n=>some (.bool (m != n))
 |.lss,_,m,n=>some (.bool (decide (m<n)))
 |.leq,_,m,n=>some (.bool (decide (m<=n)))
 |.gtr,_,m,n=>some (.bool (decide (n<m)))
 |.geq,_,m,n=>some (.bool (decide (n<=m)))
 |_,_,_,_=>none
def srB:BinOp->List UInt8->List UInt8->Option A
 |.eql,p,q=>some (.bool (p==q))
 |.neq,p,q=>some (.bool (p != q))
 |.lss,p,q=>some (.bool (Op.bytesLess p q))
 |_,_,_=>none
def biB(b:BinOp):Bx->Bx->Option A
 |.mk (.int k m),.mk (.int k' n)=>if k=k' then arB b k m n else none
 |.mk (.str p),.mk (.str q)=>srB b p q
 |_,_=>none
def unB:UnOp->Bx->Option A
 |.not,.mk (.bool b)=>some (.bool !b)
 |.neg,.mk (.int k n)=>some (.int k (k.wrap (0-n)))
 |_,_=>none
def exB:Bx->Nat->Option A
 |.mk (.tup vs),i=>Y5 vs i
 |_,_=>none
def nlB:Bx->Option A
 |.mk (.ptr i j)=>some (.ptr i j)
 |.mk (.rp cs)=>some (.rp cs)
 |_=>none
def piB:Bx->Bx->Bx->Option A
 |.mk (.bool true),.mk a,_=>some a
 |.mk (.bool false),_,.mk a=>some a
 |_,_,_=>none
def svB(env:Env):Op->Option A
 |.move x=>match opB env x with|.mk a=>some a
 |.assign x=>match opB env x with|.mk a=>some a
 |.nilCheck x=>nlB (opB env x)
 |.extract x i=>exB (opB env x) i
 |.unOp u _ x=>unB u (opB env x)
 |.pick c x y=>piB (opB env c) (opB env x) (opB env y)
 |.binOp b _ x y _=>biB b (opB env x) (opB env y)
 |_=>none
def pr(d:Nat):Option A->Option (Nat×A)
 |some a=>some (d,a)
 |none=>none
def stB(o:Oper)(env:Env):Option (Nat×A):=
 match o.dst with
 |some d=>pr d (svB env o.op)
 |none=>none
section
variable {P:Program} {h0 N:Nat} {all:Array Oper} {o:Oper} {l:List Oper} {env:Env} {H H':Qe} {Q:QR} {d:Nat} {x:A}
theorem QbO{p:Op}(g:o.op=p)(h:svB env p=some x):OpV P o env H x:=by
 unfold svB at h;split at h
 .rename_i y;cases q:opB env y with|mk a=>simp_all[OpV.move,QV]
 .rename_i y;cases q:opB env y with|mk a=>simp_all[OpV.assign,QV]
 .rename_i y;unfold nlB at h;split at h
  .rename_i i j q;cases h;exact Qgb g (QV q) rfl
  .rename_i s q;cases h;exact Qgb g (QV q) rfl
  .cases h
 .rename_i y i;unfold exB at h
  grind[QaA,OpV.extract,QV]
 .rename_i u t y;unfold unB at h
  grind[OpV.not,QV,OpV.neg]
 .rename_i c y z;unfold piB at h;split at h
  .rename_i a _ d f;cases h;exact OpV.pick g (QV d) (by rw[Vq rfl];exact QV f)
  .rename_i a d f;cases h;exact OpV.pick g (QV d) (by rw[Vp (by decide)];exact QV f)
  .cases h
 .rename_i b t y z u;unfold biB at h;split at h
  .rename_i k m w n d f;split at h
   .rename_i e;subst e;have r:=QV d;have l:=QV f;unfold arB at h
    grind[OpV.add,OpV.sub,OpV.mul,OpV.eql,OpV.neq,OpV.lss,OpV.leq,OpV.gtr,OpV.geq]
   .cases h
  .rename_i p q d f;have r:=QV d;have l:=QV f;unfold srB at h
   grind[Qd1,QlY,QlZ]
  .cases h
 .cases h
theorem Qhi(h:stB o env=some (d,x)):o.dst=some d/\OpV P o env H x:=by
 unfold stB at h;split at h
 .rename_i f q;cases e:svB env o.op with
  |none=>rw[e]at h;cases h
  |some a=>rw[e]at h;cases h;exact⟨q,QbO rfl e⟩
 .cases h
theorem S(e:stB o env=some (d,x))(k:WO P h0 N all l (up env d x) H Q)(hg:QE all o env true:=by exact rfl)(hN:Nat.blt d N=true:=by exact rfl):WO P h0 N all (o::l) env H Q:=
 YQ hg (Qhi (P:=P) (H:=H) e).1 hN (Qhi e).2 k
theorem Sg(hg:QE all o env true)(e:stB o env=some (d,x))(k:WO P h0 N all l (up env d x) H Q)(a:Nat.blt d N=true:=by exact rfl):WO P h0 N all (o::l) env H Q:=
 YQ hg (Qhi (P:=P) (H:=H) e).1 a (Qhi e).2 k
theorem K(hg:QE all o env false)(a:o.dst=some d)(k:WO P h0 N all l (up env d (.tup [])) H Q)(e:Nat.blt d N=true:=by exact rfl):WO P h0 N all (o::l) env H Q:=
 WO.skip hg a e k
theorem KF{j s:Nat}{c y:Bool}(f:y= !c)(a:o.dst=some d)(k:WO P h0 N all l (up env d (.tup [])) H Q)(e:Nat.blt d N=true:=by exact rfl)(hg:o.guard=some (j,c):=by exact rfl)(hs:(all[j]?).bind (·.dst)=some s:=by exact rfl)(hl:lk env s=.bool y:=by exact rfl):WO P h0 N all (o::l) env H Q:=
 WO.skip (gF f hg hs hl) a e k
def p2B(v:Bool):Bx->Bx->Bx->Option (Bool×A)
 |.mk (.bool b),.mk a,.mk a'=>match v with|true=>some (b,a)|false=>some (b,a')
 |_,_,_=>none
def pr2(d:Nat):Option (Bool×A)->Option (Nat×Bool×A)
 |some a=>some (d,a)
 |none=>none
def pkB(v:Bool)(o:Oper)(env:Env):Option (Nat×Bool×A):=
 match o.dst,o.op with
 |some d,.pick c x y=>pr2 d (p2B v (opB env c) (opB env x) (opB env y))
 |_,_=>none
theorem Qpj{v b:Bool}{p q r:Bx}(h:p2B v p q r=some (b,x)):∃a a',p=.mk (.bool b)/\q=.mk a/\r=.mk a'/\(bif v then a else a')=x:=by
 obtain⟨p⟩:=p;obtain⟨q⟩:=q;obtain⟨r⟩:=r;cases p<;>first|(cases h;done)|skip
 cases v<;>cases h<;>exact(by simp)
theorem QmA{v b:Bool}(h:pkB v o env=some (d,b,x))(p:b=v):o.dst=some d/\OpV P o env H x:=by
 unfold pkB at h;split at h
 .rename_i k c y z f l;cases e:p2B v (opB env c) (opB env y) (opB env z)with
  |none=>rw[e]at h;cases h
  |some s=>
   rw[e]at h;cases h;obtain⟨a,j,n,m,i,g⟩:=Qpj e
   grind[OpV.pick,QV]
 .cases h
theorem Pk{v b:Bool}(a:b=v)(e:pkB v o env=some (d,b,x))(k:WO P h0 N all l (up env d x) H Q)(hg:QE all o env true:=by exact rfl)(hN:Nat.blt d N=true:=by exact rfl):WO P h0 N all (o::l) env H Q:=
 YQ hg (QmA (P:=P) (H:=H) e a).1 hN (QmA e a).2 k
def fpB(o:Oper)(env:Env):Option (Nat×Nat×Nat×Nat×Nat):=
 match o.dst,o.op with
 |some d,.fieldAddr T x f=>match opB env x with
  |.mk (.ptr i p)=>some (d,T,f,i,p)
  |_=>none
 |_,_=>none
theorem Qhz{T f off n i p:Nat}(a:QK P T f off n)(h:fpB o env=some (d,T,f,i,p)):o.dst=some d/\OpV P o env H (.ptr i (p+off)):=by
 grind[fpB,QcZ,QV]
theorem Fp{T f off n i p:Nat}(a:QK P T f off n)(e:fpB o env=some (d,T,f,i,p))(k:WO P h0 N all l (up env d (.ptr i (p+off))) H Q)(hg:QE all o env true:=by exact rfl)(hN:Nat.blt d N=true:=by exact rfl):WO P h0 N all (o::l) env H Q:=
 YQ hg (Qhz (H:=H) a e).1 hN (Qhz a e).2 k
theorem Fpg{T f off n i p:Nat}(hg:QE all o env true)(a:QK P T f off n)(e:fpB o env=some (d,T,f,i,p))(k:WO P h0 N all l (up env d (.ptr i (p+off))) H Q)(g:Nat.blt d N=true:=by exact rfl):WO P h0 N all (o::l) env H Q:=
 YQ hg (Qhz (H:=H) a e).1 g (Qhz a e).2 k
inductive Lx where
 |mk (l:List A)
def Qi3:Nat->List A->Lx
 |0,l=>.mk l
 |n+1,_::r=>Qi3 n r
 |_+1,[]=>.mk []
theorem Qf2:∀{n:Nat} {l r:List A},Qi3 n l=.mk r->l.drop n=r
 |0,l,r,h=>by cases h;rfl
 |n+1,a::l,r,h=>by rw[List.drop_succ_cons];exact Qf2 h
 |n+1,[],r,h=>by cases h;rfl
def ctB:Option Blk->Nat->Option A
 |some (.cells _ cs),off=>Y5 cs off
 |_,_=>none
def lvB(H:Qe):Bx->Option A
 |.mk (.ptr i off)=>ctB (Y5 H i) off
 |.mk (.rp (a::_))=>some a
 |_=>none
def pr3(d t:Nat):Option A->Option (Nat×Nat×A)
 |some a=>some (d,t,a)
 |none=>none
def ldB(o:Oper)(env:Env)(H:Qe):Option (Nat×Nat×A):=
 match o.dst,o.op with
 |some d,.load t x=>pr3 d t (lvB H (opB env x))
 |_,_=>none
theorem Qhv{t:Nat}(k:∀w,(isAgg t).run P w=.ok false w)(h:ldB o env H=some (d,t,x)):o.dst=some d/\OpV P o env H x:=by
 unfold ldB at h;split at h
 .rename_i u q y n l;cases e:lvB H (opB env y)with
  |none=>rw[e]at h;cases h
  |some a=>
   rw[e]at h;cases h;refine⟨n,?_⟩;unfold lvB at e;split at e
   .rename_i i g j;unfold ctB at e;split at e
    .rename_i g s T0 T cs q4;rw[QaA]at e q4;obtain⟨f,p⟩:∃f,cs.drop g=x::f:=by
      have m:=(XK.1 e).1
      simp_all[Xp]
     exact OpV.load l k (QV j) (Pts.cells q4 p)
    .cases e
   .rename_i a r j;cases e;exact OpV.load l k (QV j) Pts.rp
   .cases e
 .cases h
theorem Ld{t:Nat}(a:∀w,(isAgg t).run P w=.ok false w)(e:ldB o env H=some (d,t,x))(k:WO P h0 N all l (up env d x) H Q)(hg:QE all o env true:=by exact rfl)(hN:Nat.blt d N=true:=by exact rfl):WO P h0 N all (o::l) env H Q:=
 YQ hg (Qhv a e).1 hN (Qhv a e).2 k
theorem Ldg{t:Nat}(hg:QE all o env true)(a:∀w,(isAgg t).run P w=.ok false w)(e:ldB o env H=some (d,t,x))(k:WO P h0 N all l (up env d x) H Q)(f:Nat.blt d N=true:=by exact rfl):WO P h0 N all (o::l) env H Q:=
 YQ hg (Qhv a e).1 f (Qhv a e).2 k
def ixB(o:Oper)(env:Env):Option (Nat×Nat×Nat×List (List A)×IntKind×Int):=
 match o.dst,o.op with
 |some d,.indexAddr t x y=>match opB env x,opB env y with
  |.mk (.rsl k es),.mk (.int kk i)=>some (d,t,k,es,kk,i)
  |_,_=>none
 |_,_=>none
theorem Ix{α:Type}{e:α->List A}{t a k:Nat}{L:List α}{j:IntKind}{i:Int}{v:α}(h:idx L i=some v)(f:∀w,(underlying t).run P w=.ok (.slice a) w)(p:∀w,(sizeOf a).run P w=.ok k w)
  (q:ixB o env=some (d,t,k,L.map e,j,i))(k:WO P h0 N all l (up env d (.rp (e v))) H Q)(hg:QE all o env true:=by exact rfl)(hN:Nat.blt d N=true:=by exact rfl):WO P h0 N all (o::l) env H Q:=by
 unfold ixB at q;split at q
 .rename_i g r;split at q
  .rename_i m n;simp only[Option.some.injEq,Prod.mk.injEq]at q;obtain⟨rfl,rfl,rfl,s,rfl,rfl⟩:=q;exact YQ hg g hN (Qdz h f p r (by rw[QV m,s]) (QV n)) k
  .cases q
 .cases q
def lnB(o:Oper)(env:Env):Option (Nat×Nat×Bx):=
 match o.dst,o.op with
 |some d,.call c=>match c with
  |{callee:=.builtin .len,args:=⟨[x]⟩,argTypes:=⟨[t]⟩}=>some (d,t,opB env x)
  |_=>none
 |_,_=>none
theorem Qps{t:Nat}{b:Bx}(q:lnB o env=some (d,t,b)):∃x,o.dst=some d/\o.op=.call {callee:=.builtin .len,args:= #[x],argTypes:= #[t]}/\opB env x=b:=by
 unfold lnB at q
 grind
theorem LnM{α:Type}{e:α->List A}{t h k:Nat}{L:List α}(a:∀w,(underlying t).run P w=.ok (.slice h) w)(q:lnB o env=some (d,t,.mk (.rsl k (L.map e))))
  (k:WO P h0 N all l (up env d (.int .i64 L.length)) H Q)(hg:QE all o env true:=by exact rfl)(hN:Nat.blt d N=true:=by exact rfl):WO P h0 N all (o::l) env H Q:=by
 obtain⟨x,g,f,i⟩:=Qps q;exact YQ hg g hN (QnK a f rfl (QV i)) k
end
section
variable {P:Program} {h0 N:Nat} {all:Array Oper} {env env':Env} {H H':Qe} {Q:QR} {c c':Code}
theorem Oi{α:Type}{x y:α}(h:some x=some y):x=y:=XX h
theorem Bd{α β:Type}{x:Option α}{f:α->Option β}{r:β}{G:Prop}(h:x.bind f=some r)(k:∀a,x=some a->f a=some r->G):G:=by
 obtain⟨a,d,e⟩:=Yl h
 grind
theorem If{α:Type}{c:Bool}{x y:Option α}{r:α}{G:Prop}(h:(bif c then x else y)=some r)(t:c=true->x=some r->G)(e:c=false->y=some r->G):G:=by
 grind
theorem Cn{α:Type}{x:Operand}{t:Bool}{p q:Option α}{r:α}(hx:opB env x=.mk (.bool t))(h:(bif t then p else q)=some r)(ht:t=true->p=some r->TC P h0 N c env H Q)(hf:t=false->q=some r->TC P h0 N c' env H Q):TC P h0 N (.cond x c c') env H Q:=
 TC.cond (QV hx) (by grind) (by grind)
theorem Yk{α:Type}{x:Operand}{t:Bool}{p q:Option α}{r:α}(hx:opB env x=.mk (.bool t))(h:(bif t then p else q)=some r)(hf:t=false->q=some r->TC P h0 N c' env H Q)(ht:t=true->p=some r->TC P h0 N c env H Q):TC P h0 N (.cond x c c') env H Q:=
 TC.cond (QV hx) (by grind) (by grind)
theorem Lr(π:List Nat)(a:π.take h0=List.range h0:=by exact rfl)(hH:π.map (λp=>H[p]?)=(H'.map (Yc (rho π H.length))).map some:=by exact rfl)(hπ:π.Nodup:=by decide)
  (hE:Qgk (rho π H.length) env env':=by(repeat' (first|exact trivial|refine⟨rfl,?_⟩))):Le h0 env H env' H':=QpK π a hH hπ hE
end
def Ev{α:Type}(f:Nat->Option α)(v:α):Prop:=∃N,∀n,N<=n->f n=some v
section
variable {α β:Type} {f g:Nat->Option α} {v w:α}
theorem Qa(v:α):Ev (λ_=>some v) v:=⟨0,λ_ _=>rfl⟩
theorem Ev.const{o:Option α}(h:o=some v):Ev (λ_=>o) v:=⟨0,λ_ _=>h⟩
theorem Ev.bind{k:Nat->α->Option β}{b:β}(h:Ev f v)(a:Ev (λn=>k n v) b):Ev (λn=>(f n).bind (k n)) b:=by
 obtain⟨N,h⟩:=h;obtain⟨M,a⟩:=a;exact⟨max N M,λn d=>by grind⟩
theorem JL{o:Option α}{k:Nat->α->Option β}{b:β}(h:o=some v)(hk:Ev (λn=>k n v) b):Ev (λn=>o.bind (k n)) b:=Ev.bind (Ev.const h) hk
theorem QbG{c:Bool}(a:c=true->Ev f v)(d:c=false->Ev g w):Ev (λn=>bif c then f n else g n) (bif c then v else w):=by
 cases c with
 |true=>exact a rfl
 |false=>exact d rfl
theorem Qla(h:Ev f v):Ev (λn=>bif true then f n else g n) v:=h
theorem Q1(h:Ev g v):Ev (λn=>bif false then f n else g n) v:=h
theorem Ev.and{c d:Bool}{h:Nat->Option Bool}(a:c=true->Ev h d):Ev (λn=>bif c then h n else some false) (c&&d):=by
 cases c with
 |true=>exact a rfl
 |false=>exact Qa _
theorem Ev.or{c d:Bool}{h:Nat->Option Bool}(a:c=false->Ev h d):Ev (λn=>bif c then some true else h n) (c||d):=by
 cases c with
 |true=>exact Qa _
 |false=>exact a rfl
theorem Ev.eq(h:Ev f v)(e:v=w):Ev f w:=e▸h
theorem Qbk(h:Ev f v)(e:∀n,g n=f n):Ev g v:=by
 obtain⟨N,h⟩:=h;exact⟨N,λn a=>by grind⟩
theorem QY(h:Ev (λn=>f (n+1)) v):Ev f v:=by
 obtain⟨N,h⟩:=h;refine⟨N+1,λn a=>?_⟩;obtain⟨m,rfl⟩:∃m,n=m+1:=⟨n-1,by omega⟩
 grind
theorem Ev.ex(h:Ev f v):∃n,f n=some v:=let⟨N,h⟩:=h;⟨N,h N (XS _)⟩
theorem Ev.all{k:Nat}{F:Nat->Nat->Option α}{V:Nat->α}(h:∀i,i<k->Ev (F i) (V i)):∃N,∀n,N<=n->∀i,i<k->F i n=some (V i):=by
 induction k with
 |zero=>simp
 |succ k a=>
  obtain⟨N,e⟩:=a (by grind);obtain⟨M,f⟩:=h k (by omega);refine⟨max N M,λn d i g=>?_⟩
  grind
end
section
variable {S B α:Type} {step:Nat->S->Option (Ctl S B)}
theorem Ev.iter{d:S}(a:Nat->S)(k:Nat){b:B}(h:a 0=d)(g:∀i,i<k->Ev (λn=>step n (a i)) (.cont (a (i+1))))(e:Ev (λn=>step n (a k)) (.done b)):
  Ev (λn=>Go.Sw.iter (step n) n d) b:=by
 obtain⟨N,l⟩:=Ev.all g;obtain⟨M,f⟩:=e;exact⟨max (max N M) (k+1),λn j=>QmS d a b k h (by grind) (f n (by omega)) n (by omega)⟩
theorem Qcx{step:S->Option (Ctl S B)}{s:S}{b:B}(m:Nat)(h:Go.Sw.iter step m s=some b):Ev (λn=>Go.Sw.iter step n s) b:=by
 have mono:∀m s,Go.Sw.iter step m s=some b->∀n,m<=n->Go.Sw.iter step n s=some b:=by
  intro m
  induction m with
  |zero=>intro s h;cases h
  |succ m d=>
   intro s h n e;obtain⟨a,rfl⟩:∃a,n=a+1:=⟨n-1,by omega⟩
   grind[Go.Sw.iter]
 exact⟨m,(by grind)⟩
structure At (l:List α) (i:Nat) (x:α):Prop where
 get:l[i]?=some x
 lt:decide ((i:Int)<(l.length:Int))=true
 ix:idx l (i:Int)=some x
 nx:IntKind.i64.wrap ((i:Int)+1)=((i+1:Nat):Int)
theorem Jm{l:List α}{i:Nat}{x:α}(a:l.length<=4611686018427387904)(h:l[i]?=some x):At l i x:=by
 have d:=(XK.1 h).1;exact⟨h,(by grind),Q8 h,Q2 (by omega)⟩
theorem At.mem{l:List α}{i:Nat}{x:α}(h:At l i x):x∈l:=VE h.get
theorem At.lt'{l:List α}{i:Nat}{x:α}(h:At l i x):i<l.length:=(XK.1 h.get).1
theorem At.take{l:List α}{i:Nat}{x:α}(h:At l i x):l.take (i+1)=l.take i++[x]:=by
 rw[List.take_add_one,h.get];rfl
theorem Jl(l:List α):decide ((l.length:Int)<(l.length:Int))=false:=(by simp)
theorem Jf{r:S}(l:List α)(q:α->Bool)(a:Nat->S)(p b:B)(g:l.length<=4611686018427387904)(s:a 0=r)
  (w:∀i x,At l i x->q x=false->Ev (λn=>step n (a i)) (.cont (a (i+1))))
  (d:∀i x,At l i x->q x=true->Ev (λn=>step n (a i)) (.done p))
  (t:Ev (λn=>step n (a l.length)) (.done b)):Ev (λn=>Go.Sw.iter (step n) n r) (bif l.any q then p else b):=by
 have f:∀k,k<=l.length->(∀i x,l[i]?=some x->i<k->q x=false)\/ ∃i x,l[i]?=some x/\i<k/\q x=true/\ ∀j y,l[j]?=some y->j<i->q y=false:=by
  intro k
  induction k with
  |zero=>simp
  |succ k G=>
   grind
 rcases f l.length (XS _)with h|⟨i,x,z,E,u,H⟩
 .have:l.any q=false:=by
   rw[VJ];intro e;obtain⟨x,d,e⟩:=Xu.1 e;obtain⟨i,m,rfl⟩:=List.getElem_of_mem d
   grind
  rw[this];exact Ev.iter a l.length s (λi m=>w i _ (Jm g (XJ m)) (by grind)) t
 .have:l.any q=true:=(by grind);rw[this];refine Ev.iter a i s (λj F=>?_) (d i x (Jm g z) u)
  grind[Jm]
theorem Y3{β:Type}{j:S}(l:List α)(g:β->α->β)(d:β)(e:β->Nat->S)(f:β->B)(k:l.length<=4611686018427387904)(r:e d 0=j)
  (p:∀i x a,At l i x->a=(l.take i).foldl g d->Ev (λn=>step n (e a i)) (.cont (e (g a x) (i+1))))
  (q:Ev (λn=>step n (e (l.foldl g d) l.length)) (.done (f (l.foldl g d)))):Ev (λn=>Go.Sw.iter (step n) n j) (f (l.foldl g d)):=by
 refine Ev.iter (λi=>e ((l.take i).foldl g d) i) l.length (by grind) (λi m=>?_) (by grind);have h:=Jm (x:=l[i]) k (XJ m);have:=p i _ _ h rfl;rw[h.take,List.foldl_append];exact this
theorem Ev.contains(l:List α)(q:α->Bool)(g:Nat->α->Option Bool)(d:l.length<=4611686018427387904)(hg:∀x∈l,Ev (λn=>g n x) (q x)):
  Ev (λn=>(((Go.Sw.iter (λs:Int=>bif decide (s<(l.length:Int))then(idx l s).bind λx=>(g n x).bind λr=>(bif r then some (Ctl.done (Ctl.done s))else some (Ctl.cont (IntKind.i64.wrap (s+1))))else some (Ctl.done (Ctl.cont ()))) n (0:Int):Option (Ctl Unit Int)).bind λb=>
   match b with
   |.cont _=>some (-1)
   |.done s=>some s):Option Int).bind λr=>some (decide (0<=r))) (l.any q):=by
 cases e:l.any q with
 |false=>
  refine Ev.bind (v:=(-1:Int)) (Ev.bind (v:=Ctl.cont ()) (Ev.iter (λi=>(i:Int)) l.length rfl (λi B=>?_) ?_) (Qa _)) (Qa _)
  .have a:=Jm (x:=l[i]) d (XJ B);simp only[a.lt,Vl,a.ix,XI];have u:q l[i]=false:=by
    grind
   refine Ev.bind ((hg _ a.mem).eq u) ?_;simp only[Vm,a.nx];exact Qa _
  simp_all[Qa]
 |true=>
  obtain⟨x,t,h⟩:=Xu.1 e;have f:∀k,k<=l.length->(∀(i:Nat) (x:α),l[i]?=some x->i<k->q x=false)\/ ∃(i:Nat) (x:α),l[i]?=some x/\i<k/\q x=true/\ ∀(j:Nat) (y:α),l[j]?=some y->j<i->q y=false:=by
   intro k
   induction k with
   |zero=>simp
   |succ k F=>
    grind
  rcases f l.length (XS _)with G|⟨i,x,w,E,p,z⟩
  .obtain⟨j,m,rfl⟩:=List.getElem_of_mem t
   grind
  .refine Ev.bind (v:=(i:Int)) (Ev.bind (v:=Ctl.done (i:Int)) (Ev.iter (λi=>(i:Int)) i rfl (λj m=>?_) ?_) (Qa _)) ?_
   .have a:=Jm (x:=l[j]) d (XJ (by omega));simp only[a.lt,Vl,a.ix,XI];refine Ev.bind ((hg _ a.mem).eq (z j _ a.get m)) ?_;simp only[Vm,a.nx];exact Qa _
   .have a:=Jm d w;simp only[a.lt,Vl,a.ix,XI];refine Ev.bind ((hg _ a.mem).eq p) ?_;exact Qa _
   simp_all[Qa]
end
section
variable {S B α:Type} {step:Nat->S->Option (Ctl S B)}
theorem Qh6{f:S}(a:Nat->S)(k:Nat)(R:Nat->B)(g:a 0=f)(t:∀i,i<k->(Ev (λn=>step n (a i)) (.cont (a (i+1)))/\R i=R (i+1))\/Ev (λn=>step n (a i)) (.done (R i)))
  (l:Ev (λn=>step n (a k)) (.done (R k))):Ev (λn=>Go.Sw.iter (step n) n f) (R 0):=by
 have d:∀m,m<=k->(∀i,i<m->Ev (λn=>step n (a i)) (.cont (a (i+1)))/\R i=R (i+1))\/ ∃j,j<m/\(∀i,i<j->Ev (λn=>step n (a i)) (.cont (a (i+1)))/\R i=R (i+1))/\Ev (λn=>step n (a j)) (.done (R j)):=by
  intro m
  induction m with
  |zero=>simp
  |succ m r=>
   grind
 have same:∀m,(∀i,i<m->R i=R (i+1))->R 0=R m:=by
  intro m
  induction m with
  |zero=>intro _;rfl
  |succ m r=>grind
 rcases d k (XS _)with h|⟨j,s,q,p⟩
 .rw[same k λi e=>(h i e).2];exact Ev.iter a k g (by grind) l
 .rw[same j λi e=>(q i e).2];exact Ev.iter a j g (by grind) p
theorem At.drop{l:List α}{i:Nat}{x:α}(h:At l i x):l.drop i=x::l.drop (i+1):=by
 have:=h.lt';rw[Xp this,(XK.1 h.get).2]
theorem QbE{s0:S}(l:List α)(st:Nat->S)(R:Nat->B)(hl:l.length<=4611686018427387904)(h0:st 0=s0)
  (hc:∀i x,At l i x->(Ev (λn=>step n (st i)) (.cont (st (i+1)))/\R i=R (i+1))\/Ev (λn=>step n (st i)) (.done (R i)))
  (hd:Ev (λn=>step n (st l.length)) (.done (R l.length))):Ev (λn=>Go.Sw.iter (step n) n s0) (R 0):=
 Qh6 st l.length R h0 (λi hi=>hc i _ (Jm hl (XJ hi))) hd
end
section
variable {α β:Type} [DecidableEq α]
theorem QaD(p:α×β)(l:List (α×β))(k:α):YX (p::l) k=if p.1=k then some p.2 else YX l k:=by
 grind[YX]
theorem Qlp(p:α×β)(l:List (α×β))(k:α)(v:β):Yp (p::l) k v=if p.1=k then(p.1,v)::l.map (λq=>bif decide (q.1=k)then(q.1,v)else q)else p::Yp l k v:=by
 unfold Yp
 grind
theorem QmI(l:List (α×β))(k a:α)(v:β)(h:a≠k):YX (l.map λq=>bif decide (q.1=k)then(q.1,v)else q) a=YX l a:=by
 induction l with
 |nil=>rfl
 |cons p l d=>
  grind[QaD]
theorem Qbb(l:List (α×β))(k a:α)(v:β):YX (Yp l k v) a=if a=k then some v else YX l a:=by
 induction l with
 |nil=>
  show YX ([]++[(k,v)]) a=_;rw[Ve,QaD]
  grind
 |cons p l d=>
  rw[Qlp];by_cases e:p.1=k
  .rw[Vq e,QaD,QaD];by_cases h:a=k
   .grind
   .have:p.1≠a:=(by grind)
    simp_all[QmI]
  .rw[Vp e,QaD,QaD,d]
   grind
theorem Qlq(k:α)(z:β):QL ([]:List (α×β)) k z=z:=rfl
theorem Qfu(l:List (α×β))(k a:α)(v z:β):QL (Yp l k v) a z=if a=k then v else QL l a z:=by
 grind[QL,Qbb]
theorem QdN(l:List (α×β))(k:α)(v:β):(Yp l k v).map (·.1)=if k∈l.map (·.1)then l.map (·.1)else l.map (·.1)++[k]:=by
 unfold Yp;have e:(l.any λp=>decide (p.1=k))=decide (k∈l.map (·.1)):=by
  grind
 rw[e];by_cases h:k∈l.map (·.1)
 .rw[Vr h,Vq h,Vl,List.map_map];apply List.map_congr_left
  grind
 grind
def Yw{γ:Type}(key:γ->α)(v:β)(l:List γ):List (α×β):=l.foldl (λm x=>Yp m (key x) v) []
theorem Qht{γ:Type}(a:γ->α)(v:β)(l:List γ)(x:γ):Yw a v (l++[x])=Yp (Yw a v l) (a x) v:=by
 unfold Yw;simp
theorem Qee{γ:Type}(a:γ->α)(v z:β)(l:List γ)(k:α):QL (Yw a v l) k z=if k∈l.map a then v else z:=by
 have d:∀(l:List γ) (m:List (α×β)),QL (l.foldl (λm x=>Yp m (a x) v) m) k z=if k∈l.map a then v else QL m k z:=by
  intro l
  induction l with
  |nil=>intro m;simp
  |cons x l e=>
   intro m;rw[XC,e,Qfu]
   grind
 exact d l []
theorem QcC{γ:Type}(a:γ->α)(v:β)(l:List γ):(Yw a v l).length<=l.length/\((Yw a v l).length=l.length↔(l.map a).Nodup):=by
 have e:∀(l:List γ) (m:List (α×β)),(m.map (·.1)).Nodup->(l.foldl (λm x=>Yp m (a x) v) m).length<=m.length+l.length/\((l.foldl (λm x=>Yp m (a x) v) m).length=m.length+l.length↔(m.map (·.1)++l.map a).Nodup):=by
  intro l
  induction l with
  |nil=>simp
  |cons x l g=>
   intro m j;have f:=QdN m (a x) v;have d:(Yp m (a x) v).length=((Yp m (a x) v).map (·.1)).length:=by simp
   by_cases h:a x∈m.map (·.1)
   .grind
   .rw[Vp h]at f;have i:((Yp m (a x) v).map (·.1)).Nodup:=by
     grind
    grind
 grind[Yw]
end
theorem Jr{α:Type}(l:List α)(p:α->Bool)(g:Nat->α->Option Bool)(a:l.length<=4611686018427387904)(hg:∀x∈l,Ev (λn=>g n x) (p x)):
  Ev (λn=>((((Go.Sw.iter (λs:Int=>bif decide (s<(l.length:Int))then(idx l s).bind λx=>((g n x).bind λr1=>some (!r1)).bind λr=>(bif r then some (Ctl.done (Ctl.done s))else some (Ctl.cont (IntKind.i64.wrap (s+1))))else some (Ctl.done (Ctl.cont ()))) n (0:Int):Option (Ctl Unit Int)).bind λb=>
   match b with
   |.cont _=>some (-1)
   |.done s=>some s):Option Int).bind λr=>some (decide (0<=r)):Option Bool).bind λr=>some (!r)) (l.all p):=by
 refine Ev.bind (Ev.contains l (λx=> !p x) (λn x=>(g n x).bind λr1=>some (!r1)) a λx d=>Ev.bind (hg x d) (Qa _)) ((Qa _).eq ?_)
 grind
def QlP{α κ:Type}[DecidableEq κ](ok:α->Bool)(key:α->κ):List κ->List α->Bool
 |_,[]=>true
 |seen,x::r=>ok x&& !seen.contains (key x)&&QlP ok key (seen++[key x]) r
theorem QkX{α κ:Type}[DecidableEq κ](ok:α->Bool)(d:α->κ):∀(l:List α) (a:List κ),a.Nodup->QlP ok d a l=(l.all ok&&decide ((a++l.map d).Nodup))
 |[],a,h=>by simp[QlP,h]
 |x::r,a,h=>by
  simp only[QlP,List.all_cons,Vg];by_cases hk:d x∈a
  .grind
  .have hn:(a++[d x]).Nodup:=by
    grind
   rw[QkX ok d r _ hn]
   grind
theorem QnT{α κ B:Type}[DecidableEq κ]{step:Nat->Int->Option (Ctl Int B)}(l:List α)(ok:α->Bool)(a:α->κ)(d b:B)(h:l.length<=4611686018427387904)
  (m:∀i x,At l i x->ok x=true->((l.take i).map a).contains (a x)=false->Ev (λn=>step n (i:Int)) (.cont ((i+1:Nat):Int)))
  (k:∀i x,At l i x->ok x=false->Ev (λn=>step n (i:Int)) (.done d))
  (j:∀i x,At l i x->ok x=true->((l.take i).map a).contains (a x)=true->Ev (λn=>step n (i:Int)) (.done d))
  (g:Ev (λn=>step n (l.length:Int)) (.done b)):Ev (λn=>Go.Sw.iter (step n) n 0) (bif l.all ok&&decide ((l.map a).Nodup)then b else d):=by
 have e:=QkX ok a l [] (by simp);rw[Ve]at e;rw[<- e];refine QbE l (λi=>(i:Int)) (λi=>bif QlP ok a ((l.take i).map a) (l.drop i)then b else d) h rfl (λi x f=>?_) ?_
 .rw[f.drop];simp only[QlP];rw[show(l.take i).map a++[a x]=(l.take (i+1)).map a by rw[f.take];simp]
  grind
 .rw[Xr];exact g
theorem Qjj{α κ B:Type}[DecidableEq κ]{step:Nat->Int->Option (Ctl Int B)}(l:List α)(i:Nat)(a:α->κ)(k:κ)(f b:B)(t:l.length<=4611686018427387904)(hi:i<=l.length)
  (u:∀j y,j<i->At l j y->decide (a y=k)=false->Ev (λn=>step n (j:Int)) (.cont ((j+1:Nat):Int)))
  (s:∀j y,j<i->At l j y->decide (a y=k)=true->Ev (λn=>step n (j:Int)) (.done f))
  (r:Ev (λn=>step n (i:Int)) (.done b)):Ev (λn=>Go.Sw.iter (step n) n 0) (bif ((l.take i).map a).contains k then f else b):=by
 have e:((l.take i).map a).contains k=(l.take i).any λy=>decide (a y=k):=by
  grind
 rw[e];have g:(l.take i).length=i:=by simp;omega
 have p:∀j y,At (l.take i) j y->j<i/\At l j y:=by
  intro j y d;have q:=d.lt';have m:=d.get
  grind[Jm]
 refine Jf (l.take i) (λy=>decide (a y=k)) (λi=>(i:Int)) _ _ (by omega) rfl (λj y d h=>?_) (λj y d h=>?_) ?_
 .grind
 .grind
 grind
theorem QbF{α κ β:Type}[DecidableEq κ]{step:Nat->List (κ×β)×Int->Option (Ctl (List (κ×β)×Int) (List (κ×β)))}(l:List α)(key:α->κ)(v:β)(hl:l.length<=4611686018427387904)
  (hc:∀i x m,At l i x->Ev (λn=>step n (m,(i:Int))) (.cont (Yp m (key x) v,((i+1:Nat):Int))))
  (hd:∀m,Ev (λn=>step n (m,(l.length:Int))) (.done m)):Ev (λn=>Go.Sw.iter (step n) n ([],0)) (Yw key v l):=
 Y3 l (λm x=>Yp m (key x) v) [] (λm i=>(m,(i:Int))) (λm=>m) hl rfl (by grind) (hd _)
theorem Ev.shift{α:Type}{f:Nat->Option α}{v:α}(h:Ev f v):Ev (λn=>f (n+1)) v:=by
 obtain⟨N,h⟩:=h;exact⟨N,(by grind)⟩
def EvI{S B:Type}(step:Nat->S->Option (Ctl S B))(s:S)(b:B):Prop:=∃N,∀n k,N<=n->N<=k->Go.Sw.iter (step n) k s=some b
section
variable {S B:Type} {step:Nat->S->Option (Ctl S B)} {s s':S} {b:B}
theorem EvI.done(h:Ev (λn=>step n s) (.done b)):EvI step s b:=by
 obtain⟨N,h⟩:=h;refine⟨N+1,λn k e d=>?_⟩;obtain⟨a,rfl⟩:∃a,k=a+1:=⟨k-1,by omega⟩
 grind[Go.Sw.iter]
theorem EvI.cont(h:Ev (λn=>step n s) (.cont s'))(q:EvI step s' b):EvI step s b:=by
 obtain⟨N,h⟩:=h;obtain⟨M,q⟩:=q;refine⟨max N M+1,λn k e d=>?_⟩;obtain⟨a,rfl⟩:∃a,k=a+1:=⟨k-1,by omega⟩
 grind[Go.Sw.iter]
theorem EvI.ev(h:EvI step s b):Ev (λn=>Go.Sw.iter (step n) n s) b:=by
 obtain⟨N,h⟩:=h;exact⟨N,λn a=>h n n a a⟩
theorem EvI.eq{b':B}(h:EvI step s b)(e:b=b'):EvI step s b':=e▸h
end
theorem Qw{α:Type}{l r:List α}{i:Nat}{x:α}(d:l.length<=4611686018427387904)(h:l.drop i=x::r):At l i x/\l.drop (i+1)=r:=by
 have a:l[i]?=some x:=by
  have:=congrArg (λl=>l[0]?) h
  grind
 refine⟨Jm d a,?_⟩;have:=(Jm d a).drop
 grind
theorem QM{α:Type}{l:List α}{i:Nat}(h:l.drop i=[])(hi:i<=l.length):decide ((i:Int)<(l.length:Int))=false:=by
 simp_all
theorem Z.{u}{α:Sort u}{a:α}:a=a:=rfl
section
variable {P:Program} {h0 N:Nat} {all:Array Oper} {env:Env} {H H':Qe} {Q:QR} {l:List Oper} {o:Oper} {d:Nat}
theorem aV(x:A)(H:Qe){x':A}{H':Qe}(e:x'=x)(a:H'=H)(k:WO P h0 N all l (up env d x) H Q):WO P h0 N all l (up env d x') H' Q:=by subst e;subst a;exact k
theorem vX(x:A)(a:OpV P o env H x)(k:WO P h0 N all l (up env d x) H Q)(hg:QE all o env true:=by exact rfl)(hd:o.dst=some d:=by exact rfl)(hN:Nat.blt d N=true:=by exact rfl):WO P h0 N all (o::l) env H Q:=
 YQ hg hd hN a k
theorem Wp:WO P h0 N all [] env H (Jb env H):=WO.nil Jb.mk
end
section
variable {P:Program} {o:Oper} {env:Env} {H:Qe}
theorem QoR{ro:Nat->Prop}{σ:Sig}{w:World}(g:GP w){b:Nat}{zs:List Int}(h:QjK[b]?=some zs):∀(i:Nat),CR ro σ w b ((zs.drop i).map (A.int .i64)) i:=by
 intro i;generalize hl:zs.drop i=l
 induction l generalizing i with
 |nil=>trivial
 |cons z l d=>
  have e:zs[i]?=some z:=by
   have:=congrArg (·[0]?) hl
   grind
  have a:zs.drop (i+1)=l:=by
   rw[<- List.drop_drop,hl];rfl
  exact⟨⟨_,g.tab b zs h i z e,by simp[QA],rfl⟩,d (i+1) a⟩
theorem Qg8{t n g:Nat}{zs:List Int}(k:∀w,(isAgg t).run P w=.ok true w)(j:∀w,(sizeOf t).run P w=.ok n w)(hg:QjK[g]?=some zs)(f:zs.length=n)(m:o.op=.load t (.global g):=by exact rfl):
  OpV P o env H (.agg (zs.map (A.int .i64))):=by
 intro h ro σ N a w r;obtain⟨l,e,_,d⟩:=Yv (P:=P) (b:=g) (cs:=zs.map (A.int .i64)) (off:=0) 0 (by simpa using QoR (ro:=ro) (σ:=σ) r.sim.roOk.gp hg 0);have d:=d w #[] rfl;rw[XZ,f]at d;refine⟨.agg l.toArray,?_,l,rfl,e⟩;have i:a.eval (.global g)=.pointer (some ⟨g,0,none⟩):=rfl
 simp_all[execOp,Instr.loadAt,Instr.sureAddr,loadVar,loadCells]
end
open Go.Proofs
section
variable {P:Program}
def toV(agg:Bool)(l:List Value):Value:=bif agg then .agg l.toArray else l.headD .nilFunc
structure Qh7 (P:Program) (t:TypeId) (h k:Nat) (agg:Bool) (ok:List Value->Prop):Prop where
 len:∀l,ok l->l.length=k
 ia:∀w,(isAgg t).run P w=.ok agg w
 so:∀w,(sizeOf t).run P w=.ok k w
 eq:∀(w:World) (d:Nat) (l m:List Value),ok l->ok m->∃b:Bool,(Op.equalIn (d+h) t (toV agg l) (toV agg m)).run P w=.ok b w/\(b=true↔l=m)
structure Qkh (P:Program) (fs:List Field) (h off k:Nat) (ok:List Value->Prop):Prop where
 len:∀l,ok l->l.length=k
 eq:∀(w:World) (d:Nat) (p q l m:List Value),p.length=off->q.length=off->ok l->ok m->∃b:Bool,(Op.eqFields (d+h) (p++l).toArray (q++m).toArray fs).run P w=.ok b w/\(b=true↔l=m)
theorem Qh7.int{t:TypeId}{k:IntKind}(a:P.underlying t=some (.int k))(e:∀w,(isAgg t).run P w=.ok false w)(f:∀w,(sizeOf t).run P w=.ok 1 w)(h:Nat):Qh7 P t (h+1) 1 false (λl=>∃n:Int,l=[.int k n]):=by
 refine⟨?_,e,f,?_⟩
 .simp
 .rintro w d _ _ ⟨n,rfl⟩ ⟨m,rfl⟩;exact⟨_,run_equalIn_int w (d+h) t k k n m a,by simp⟩
theorem Qh7.bool{t:TypeId}(a:P.underlying t=some .bool)(e:∀w,(isAgg t).run P w=.ok false w)(f:∀w,(sizeOf t).run P w=.ok 1 w)(h:Nat):Qh7 P t (h+1) 1 false (λl=>∃n:Bool,l=[.bool n]):=by
 refine⟨?_,e,f,?_⟩
 .simp
 .rintro w d _ _ ⟨n,rfl⟩ ⟨m,rfl⟩;exact⟨_,run_equalIn_bool' w (d+h) t n m a,by simp⟩
theorem Qkh.nil(h off:Nat):Qkh P [] h off 0 (λl=>l=[]):=by
 refine⟨?_,?_⟩
 .simp
 simp_all[Op.eqFields]
theorem Qip{t:TypeId}{k:Nat}{agg:Bool}{w:World}(e:∀w,(isAgg t).run P w=.ok agg w)(h:∀w,(sizeOf t).run P w=.ok k w)(p a g:List Value)(f:a.length=k)(d:agg=false->k=1):
  (part t (p++(a++g)).toArray p.length).run P w=.ok (toV agg a) w:=by
 unfold part;cases agg with
 |true=>
  simp_all[toV]
 |false=>
  have:=d rfl;subst this
  match a,f with
  |[v],_=>simp[e,go_sem,toV]
theorem Qkh.cons{f:Field}{fs:List Field}{h off n z:Nat}{agg:Bool}{k i:List Value->Prop}(V:Nat.beq f.offset off=true)(L:f.name≠"_")(g:Qh7 P f.type h n agg k)(F:agg=false->n=1)(u:Qkh P fs h (off+n) z i):
  Qkh P (f::fs) h off (n+z) (λl=>∃l1 l2,l=l1++l2/\k l1/\i l2):=by
 have s:f.offset=off:=(by simp_all);refine⟨?_,?_⟩
 .rintro _ ⟨l1,l2,rfl,a,b⟩;rw[X0,g.len _ a,u.len _ b]
 .rintro w d p q _ _ H x ⟨l1,l2,rfl,r,N⟩ ⟨j,t,rfl,m,M⟩;have B:=Qip (P:=P) (w:=w) g.ia g.so p l1 l2 (g.len _ r) F;have y:=Qip (P:=P) (w:=w) g.ia g.so q j t (g.len _ m) F;rw[H]at B;rw[x]at y;obtain⟨G,J,Q⟩:=g.eq w d l1 j r m;obtain⟨R,E,T⟩:=u.eq w d (p++l1) (q++j) l2 t (by rw[X0,H,g.len _ r]) (by rw[X0,x,g.len _ m]) N M;rw[Vf,Vf]at E;have O:l1.length=j.length:=by rw[g.len _ r,g.len _ m]
  refine⟨G&&R,?_,?_⟩
  .generalize(p++(l1++l2)).toArray=X at*;generalize(q++(j++t)).toArray=Y at*;cases G<;>simp[Op.eqFields,L,s,Vj,Result.andThen,B,y,J,E]
  .rw[XV,Q,T];constructor
   .grind
   .intro e;exact List.append_inj e O
theorem Qh7.struct{t:TypeId}{h k:Nat}{ok:List Value->Prop}(p:P.underlying t=some (.struct (P.fieldsOf t)))(n:P.stoodInHeld t=false)(g:∀w,(isAgg t).run P w=.ok true w)(i:∀w,(sizeOf t).run P w=.ok k w)(e:Qkh P (P.fieldsOf t).toList h 0 k ok):Qh7 P t (h+1) k true ok:=by
 refine⟨e.len,g,i,λw d l m a b=>?_⟩;obtain⟨r,j,f⟩:=e.eq w d [] [] l m rfl rfl a b;refine⟨r,?_,f⟩;show(Op.equalIn (d+h+1) t (.agg l.toArray) (.agg m.toArray)).run P w=_
 grind[run_equalIn_agg]
theorem QS{t:TypeId}{h k:Nat}{fs:Array Field}{ok:List Value->Prop}(g:P.underlying t=some (.struct fs))(f:P.stoodInHeld t=false)(a:∀w,(isAgg t).run P w=.ok true w)(e:∀w,(sizeOf t).run P w=.ok k w)(d:Qkh P fs.toList h 0 k ok):Qh7 P t (h+1) k true ok:=by
 grind[Program.fieldsOf,Qh7.struct]
structure EqD (P:Program) (t:TypeId) {α:Type} (cells:α->List A):Prop where
 scl:∀x,Qhk (cells x)=true
 inj:∀x y,YZ (cells x)=YZ (cells y)->x=y
 guard:P.eqGuardType P.depth t=false
 eq:∀(w:World) x y,∃b:Bool,(Op.equalIn 10000 t (.agg (YZ (cells x)).toArray) (.agg (YZ (cells y)).toArray)).run P w=.ok b w/\(b=true↔YZ (cells x)=YZ (cells y))
theorem Qh8{α:Type}{cells:α->List A}{t h k:Nat}{ok:List Value->Prop}(E:Qh7 P t h k true ok)(e:Nat.ble h 10000=true)(a:∀x,ok (YZ (cells x)))(d:∀x,Qhk (cells x)=true)(hi:∀x y,YZ (cells x)=YZ (cells y)->x=y)(hg:P.eqGuardType P.depth t=false):EqD P t cells:=by
 refine⟨d,hi,hg,λw x y=>?_⟩;have:=E.eq w (10000-h) (YZ (cells x)) (YZ (cells y)) (a x) (a y)
 rwa [show 10000-h+h=10000 by simp_all]at this
variable {o:Oper} {env:Env} {H:Qe}
theorem Qd2{α:Type}[DecidableEq α]{cells:α->List A}{t u:TypeId}{x y:Operand}{p q:α}(E:EqD P t cells)(l:opA env x=.agg (cells p))(j:opA env y=.agg (cells q))(s:o.op=.binOp .eql t x y u:=by exact rfl):OpV P o env H (.bool (p==q)):=by
 intro B F σ N a w r;have h:=Ql r x;have g:=Ql r y;rw[l]at h;rw[j]at g;have z:=VR.val (a:=.agg (cells p)) (E.scl p) h;have n:=VR.val (a:=.agg (cells q)) (E.scl q) g;obtain⟨b,k,i⟩:=E.eq w p q;have m:b=(p==q):=by
  rw[XW,i,Vv];exact⟨E.inj p q,λe=>by rw[e]⟩
 refine⟨.bool (p==q),?_,rfl⟩;rw[<- m];generalize a.eval=ρ at*;have d:ρ x=.agg (YZ (cells p)).toArray:=z;have f:ρ y=.agg (YZ (cells q)).toArray:=n;simp[execOp,s,d,f,go_sem,run_eqGuard_agg _ _ _ _ _ _ _ E.guard,run_eql_struct,k]
theorem Qcu{α:Type}[DecidableEq α]{cells:α->List A}{t u:TypeId}{x y:Operand}{p q:α}(E:EqD P t cells)(l:opA env x=.agg (cells p))(j:opA env y=.agg (cells q))(s:o.op=.binOp .neq t x y u:=by exact rfl):OpV P o env H (.bool (p != q)):=by
 intro B F σ N a w r;have h:=Ql r x;have g:=Ql r y;rw[l]at h;rw[j]at g;have z:=VR.val (a:=.agg (cells p)) (E.scl p) h;have n:=VR.val (a:=.agg (cells q)) (E.scl q) g;obtain⟨b,k,i⟩:=E.eq w p q;have m:b=(p==q):=by
  rw[XW,i,Vv];exact⟨E.inj p q,λe=>by rw[e]⟩
 refine⟨.bool (p != q),?_,rfl⟩;rw[bne, <- m];generalize a.eval=ρ at*;have d:ρ x=.agg (YZ (cells p)).toArray:=z;have f:ρ y=.agg (YZ (cells q)).toArray:=n;simp[execOp,s,d,f,go_sem,run_eqGuard_agg _ _ _ _ _ _ _ E.guard,run_neq_struct,k]
end
end Go.Sw
namespace Go.Sw
structure Qf8 (g g':Nat->Prop) (W W':World):Prop where
 sub:∀b,g b->g' b
 new:∀b,g' b->g b\/W.heap.size<=b
 lt:∀b,g' b->b<W'.heap.size
 all:∀b,W.heap.size<=b->b<W'.heap.size->g' b
 keep:∀b,b<W.heap.size->¬g b->W'.heap[b]?=W.heap[b]?
 size:W.heap.size<=W'.heap.size
 shape:∀b x,W.shape? b=some x->W'.shape? b=some x
 os:W'.os=W.os
 tape:W'.tape=W.tape
 output:W'.output=W.output
 drawn:W.drawn<=W'.drawn
abbrev Jv(T:Type):=List T->(Nat->Prop)->(Nat->Prop)->World->Prop
structure Qo3 {T:Type} (J:Jv T):Prop where
 ev:∀rem q g W W' ro',J rem q g W->Qi g q W ro' W'->J rem q g W'
 up:∀rem q g g' W,J rem q g W->(∀b,g b->g' b)->(∀b,g' b->b<W.heap.size)->J rem q g' W
theorem Sim.round{fr g g' ro:Nat->Prop}{σ:Sig}{H:Qe}{W W':World}(s:Sim fr ro σ H W)(a:∀b,g b->fr b)(k:Qf8 g g' W W'):Sim (λb=>fr b\/g' b) ro σ H W'/\Qi (λb=>b<W.heap.size/\ ¬g b) ro W ro W':=by
 have e:∀b,ro b->W'.heap[b]?=W.heap[b]? :=λb q=>k.keep b (s.roLt b q) (λr=>s.roFr b q (a b r));have m:Ext ro σ W ro σ W':=by
  have ev:Qi (λ_=>False) ro W ro W':=⟨λ_ q=>q,e,λ_ q=>q.elim,k.size,k.shape,k.os,k.tape,k.output,k.drawn⟩;have:=ev.ext σ []
  grind
 refine⟨⟨s.len,s.roOk.to (λ_ q=>q) e (λb q=>Vc (s.roLt b q) k.size),λb q=>q.elim (λq=>Vc (s.frLt b q) k.size) (k.lt b),λb q r=>?_,λi b x f h B=>?_,s.inj,λi y x f h=>?_,
  s.hidTo (· = ·) Yg k.size (by simp) (λi b x c f h B F=>F.elim id λq=>(k.new c q).elim (a c) λl=>(by have:=(s.hid i b x c f h B).lt;omega)) λj d y n p G=>.inl ⟨j,y,rfl,n,p,id,λc q=>s.hidKeep n p (λz=>k.keep d (s.own j d y n p z).1 λr=>(s.own j d y n p z).2.2 (a d r)) e q⟩⟩,
  ⟨λ_ q=>q,e,λb q=>k.keep b q.1 q.2,k.size,k.shape,k.os,k.tape,k.output,k.drawn⟩⟩
 .rcases r with r|r
  .exact s.roFr b q r
  .rcases k.new b r with l|l
   .exact s.roFr b q (a b l)
   .have:=s.roLt b q;omega
 .obtain⟨w,E,t⟩:=s.own i b x f h B;refine⟨Vc w k.size,E,λr=>?_⟩;rcases r with r|r
  .exact t r
  .rcases k.new b r with l|l
   .grind
   .omega
 .refine(s.blk i y x f h).keep m ?_ ?_
  .rintro b rfl u;obtain⟨w,E,t⟩:=s.own i b x f h u;exact k.keep b w (λr=>t (a b r))
  .rintro b c rfl u;have q:=s.hid i b x c f h u;exact k.keep c q.lt (λr=>q.fr (a c r))
def QpI{T:Type}(J Jx:Jv T)(g ri:Nat->Prop)(W1:World)(rem:List T):Ending->World->Prop:=λe W'=>
 ∃g' q',(∀b,q' b->ri b)/\Qf8 g g' W1 W'/\((e=.returned (.bool true)/\J rem q' g' W')\/(e=.returned (.bool false)/\Jx rem q' g' W'))
structure Ctx (T:Type) where
 l:Nat
 J:Jv T
 Jx:Jv T
 enc:T->List A
 nx:List T->T->List T->Prop
structure Ctx.ok {T:Type} (X:Ctx T) (P:Program):Prop where
 b:Qo3 X.J
 bx:Qo3 X.Jx
 round:∀l x rem q g ri W1 vs,X.nx l x rem->X.J l q g W1->(∀b,q b->ri b)->(∀b,ri b->b<W1.heap.size/\ ¬g b)->LR ri [] W1 (X.enc x) vs->YieldAt Fence.wide 0 P X.l vs.toArray W1 (QpI X.J X.Jx g ri W1 rem)
def QnG{T:Type}(P:Program)(f:FuncId)(caps:List A)(H:Qe)(enc:T->List A)(nx:List T->T->List T->Prop)(xs:List T):Prop:=
 ∀(X:Ctx T),X.enc=enc->X.nx=nx->X.ok P->∀fr ro σ w capv q,Sim fr ro σ H w->(∀b,q b->ro b)->LR ro σ w caps capv->X.J xs q fr w->
  Calls P f ((Value.func (.yield X.l) #[] #[]::capv)).toArray w λe W'=>(∃v,e=.returned v)/\ ∃g q',(∀b,fr b->g b)/\((X.J [] q' g W')\/(∃rem,X.Jx rem q' g W'))
inductive YSt (T:Type) where
 |on (rem:List T)
 |off (rem:List T)
def Ctx.J'{T:Type}(X:Ctx T):YSt T->(Nat->Prop)->(Nat->Prop)->World->Prop
 |.on rem=>X.J rem
 |.off rem=>X.Jx rem
def Ctx.at{T:Type}(X:Ctx T)(st:YSt T)(g ro:Nat->Prop)(W:World):Prop:=∃q,(∀b,q b->ro b)/\X.J' st q g W
theorem Qi.roMono{fr ro ro0 ro':Nat->Prop}{w w':World}(h:Qi fr ro w ro' w')(s:∀b,ro0 b->ro b):Qi fr ro0 w ro' w':=
 ⟨λb q=>h.sub b (s b q),λb q=>h.keepRo b (s b q),h.keepFr,h.size,h.shape,h.os,h.tape,h.output,h.drawn⟩
theorem Ctx.ok.ev{T:Type}{X:Ctx T}{P:Program}(h:X.ok P){d:YSt T}{g ro ro':Nat->Prop}{W W':World}(a:X.at d g ro W)(he:Qi g ro W ro' W'):X.at d g ro' W':=by
 obtain⟨q,e,a⟩:=a;refine⟨q,λb z=>he.sub b (e b z),?_⟩;cases d with
 |on rem=>exact h.b.ev rem q g W W' ro' a (he.roMono e)
 |off rem=>exact h.bx.ev rem q g W W' ro' a (he.roMono e)
theorem Ctx.ok.up{T:Type}{X:Ctx T}{P:Program}(h:X.ok P){d:YSt T}{g g' ro:Nat->Prop}{W:World}(a:X.at d g ro W)(hg:∀b,g b->g' b)(e:∀b,g' b->b<W.heap.size):X.at d g' ro W:=by
 obtain⟨q,f,a⟩:=a;refine⟨q,f,?_⟩;cases d with
 |on rem=>exact h.b.up rem q g g' W a hg e
 |off rem=>exact h.bx.up rem q g g' W a hg e
abbrev YS(T:Type):=AEx->Env->Qe->YSt T->Prop
structure In (g fr:Nat->Prop) (ds:List Deferred):Prop where
 sub:∀b,g b->fr b
 beside:∀D,({target:=.collected D,args:= #[]}:Deferred)∈ds->¬g D
def Qdv{T:Type}(X:Ctx T)(h0:Nat)(fr ro:Nat->Prop)(σ:Sig)(w:World)(N:Nat)(ds:List Deferred)(Q:YS T):Exit->Act->World->Prop:=
 λe a' w'=>∃x env' H' st ro' σ' fr' g',ExR e x/\Q x env' H' st/\Rel fr' ro' σ' H' env' N a' w'/\(X.at st g' ro' w'/\In g' fr' a'.defers)/\(∀b,ro b->ro' b)/\w.heap.size<=w'.heap.size/\σ'.take h0=σ.take h0/\Grow fr w ds fr' a'.defers
theorem Qdv.grow{T:Type}{X:Ctx T}{i:Nat}{fr f ro d:Nat->Prop}{σ σ1:Sig}{w w1:World}{N:Nat}{l a:List Deferred}{Q:YS T}{e:Exit}{a':Act}{w':World}
  (h:Qdv X i f d σ1 w1 N a Q e a' w')(F:∀b,ro b->d b)(m:w.heap.size<=w1.heap.size)(y:σ1.take i=σ.take i)(hg:Grow fr w l f a):Qdv X i fr ro σ w N l Q e a' w':=by
 obtain⟨x,g,H',q,k,σ',j,u,z,p,s,r,E,B,n,t⟩:=h;exact⟨x,g,H',q,k,σ',j,u,z,p,s,r,(by grind),XU m B,n.trans y,hg.trans m t⟩
def TCy{T:Type}(X:Ctx T)(P:Program)(h0 N:Nat)(c:Code)(env:Env)(H:Qe)(st:YSt T)(Q:YS T):Prop:=
 X.ok P->∀rd fr ro σ a w g,Rel fr ro σ H env N a w->X.at st g ro w/\In g fr a.defers->rd=none->c.wpIn (WF rd) 0 P (Qdv X h0 fr ro σ w N a.defers Q) a w
def WOy{T:Type}(X:Ctx T)(P:Program)(h0 N:Nat)(all:Array Oper)(l:List Oper)(env:Env)(H:Qe)(st:YSt T)(Q:YS T):Prop:=
 X.ok P->∀rd fr ro σ a w g,Rel fr ro σ H env N a w->X.at st g ro w/\In g fr a.defers->rd=none->wpL P rd all (Qdv X h0 fr ro σ w N a.defers Q) l a w
theorem In.later{fr d g:Nat->Prop}{w:World}{ds a:List Deferred}(h:In g fr ds)(f:∀b,fr b->b<w.heap.size)(hg:Grow fr w ds d a):In g d a:=by
 refine⟨λb q=>hg.sub b (h.sub b q),λD hD q=>?_⟩;rcases hg.ds _ hD with r|⟨D',e,r⟩
 .exact h.beside D r q
 .have:D=D':=by simpa using e
  subst this;have:=f D (h.sub D q);omega
section
variable {T:Type} {X:Ctx T} {P:Program} {h0 N:Nat} {c c':Code} {env:Env} {H:Qe} {st:YSt T} {Q:YS T}
theorem QlX{fr ro:Nat->Prop}{σ:Sig}{w:World}{k:List Deferred}{e:Exit}{a':Act}{w':World}(s:X.ok P)(h:QaM h0 fr ro σ w N k (λx env H=>Q x env H st) e a' w'){g:Nat->Prop}(q:∀b,fr b->b<w.heap.size)(f:X.at st g ro w/\In g fr k):
  Qdv X h0 fr ro σ w N k Q e a' w':=by
 obtain⟨x,a,H',d,σ',i,r,p,m,j,n,l⟩:=h;exact⟨x,a,H',st,d,σ',i,g,r,p,m,⟨s.ev f.1 (j.frMono f.2.sub),f.2.later q l⟩,j.sub,j.size,n,l⟩
theorem TCy.lift(h:TC P h0 N c env H (λx env H=>Q x env H st)):TCy X P h0 N c env H st Q:=
 λhX rd fr ro σ a w g r hj hrd=>Code.wpIn_mono (λe a' w' q=>QlX hX q r.sim.frLt hj) (h rd fr ro σ a w r (hrd▸QdY))
def SeqY(X:Ctx T)(P:Program)(h0 N:Nat)(c:Code)(Q:YS T):YS T
 |.normal,env,H,st=>TCy X P h0 N c env H st Q
 |.exit id,env,H,st=>Q (.exit id) env H st
 |.ret,env,H,st=>Q .ret env H st
theorem TCy.seq(h:TCy X P h0 N c env H st (SeqY X P h0 N c' Q)):TCy X P h0 N (.seq c c') env H st Q:=by
 intro B z F J σ a w g r hj hrd;refine wpIn_seq (Code.wpIn_mono ?_ (h B z F J σ a w g r hj hrd));rintro e G E ⟨x,d,H',j,i,σ',f,s,k,u,n,m,l,y,t,p⟩;cases e with
 |normal=>
  obtain rfl:x=.normal:=k;exact Code.wpIn_mono (λe a w q=>q.grow l y t p) (u B z f i σ' G E s n m hrd)
 |exit id=>
  obtain rfl:x=.exit id:=k;exact⟨_,d,H',j,i,σ',f,s,rfl,u,n,m,l,y,t,p⟩
 |ret=>
  obtain rfl:x=.ret:=k;exact⟨_,d,H',j,i,σ',f,s,rfl,u,n,m,l,y,t,p⟩
 |_=>exact k.elim
theorem TCy.region{id:Nat}{l:List Oper}(h:WOy X P h0 N l.toArray l env H st Q):TCy X P h0 N (.region id l.toArray false) env H st Q:=
 λhX rd fr ro σ a w g r hj hrd=>wpIn_region_lit (h hX rd fr ro σ a w g r hj hrd)
theorem TCy.cond{x:Operand}{t:Bool}(m:opA env x=.bool t)(k:t=true->TCy X P h0 N c env H st Q)(l:t=false->TCy X P h0 N c' env H st Q):TCy X P h0 N (.cond x c c') env H st Q:=by
 intro i f d h σ a w g r hj hrd;have j:=Ql r x;rw[m]at j;exact wpIn_cond_split j (λe=>k e i f d h σ a w g r hj hrd) (λe=>l e i f d h σ a w g r hj hrd)
theorem WOy.nil{all:Array Oper}(h:Q .normal env H st):WOy X P h0 N all [] env H st Q:=
 λhX rd fr ro σ a w g r hj hrd=>⟨_,env,H,st,ro,σ,fr,g,rfl,h,r,hj,λ_ q=>q,XS _,rfl,Grow.refl _ _ _⟩
end
theorem Qjr{P:Program}{rd:Option Nat}{o:Oper}{a:Act}{K K':Act->World->Prop}{Q Q':Exit->Act->World->Prop}(i:∀a w,K a w->K' a w)(p:∀ch a w,Q (.panic ch) a w->Q' (.panic ch) a w)(m:∀a w,Q .outgrown a w->Q' .outgrown a w)
  {r:Result Next}(h:o.uponIn (WF rd) 0 P a K Q r):o.uponIn (WF rd) 0 P a K' Q' r:=by
 cases r with
 |ok x w=>
  cases x with
  |value v=>exact i _ _ h
  |skip=>exact i _ _ h
  |defer d=>exact i _ _ h
  |enter f g=>
   refine⟨h.1,CallsIn.mono h.2 ?_⟩;intro e n q;cases e with
   |returned v=>grind
   |panicked c=>grind
   |outgrown=>obtain⟨a,w,q⟩:=q;exact⟨a,w,m _ _ q⟩
  |row r g=>exact⟨h.1,RowsIn.mono h.2 λv n q=>i _ _ q⟩
  |round l f k assign j=>
   refine⟨h.1,RoundIn.mono h.2 ?_⟩;intro e n q;cases e with
   |returned v=>grind
   |panicked c=>grind
   |outgrown=>obtain⟨a,w,q⟩:=q;exact⟨a,w,m _ _ q⟩
  |_=>exact h
 |halt x w=>
  cases x with
  |panic v=>exact p _ _ _ h
  |_=>exact h
section
variable {T:Type} {X:Ctx T} {P:Program} {h0 N:Nat} {env:Env} {H:Qe} {st:YSt T} {Q:YS T}
theorem WOy.step{all:Array Oper}{o:Oper}{rest:List Oper}(h:WO P h0 N all [o] env H (λx env' H'=>x=.normal/\WOy X P h0 N all rest env' H' st Q)):WOy X P h0 N all (o::rest) env H st Q:=by
 intro u p n t σ a w g r hj hrd;have M:∀f d,QbJ h0 n t σ w N a.defers (λx env' H'=>x=.normal/\WOy X P h0 N all rest env' H' st Q) .normal f d->wpL P p all (Qdv X h0 n t σ w N a.defers Q) rest f d:=by
  rintro f d ⟨x,env',H',j,σ',i,J,⟨_,F⟩,B,l,y,G,E⟩;have s:X.at st g j d/\In g i f.defers:=⟨u.ev hj.1 (l.frMono hj.2.sub),by rw[G];exact hj.2.later r.sim.frLt E⟩;have:=F u p i j σ' f d g B s hrd;refine YB (λe m w2 q=>?_) _ _ _ this;exact q.grow l.sub l.size y (by grind)
 have k:=h p n t σ a w r (hrd▸QdY);unfold wpL wpListIn at k⊢;split
 .rename_i z;rw[Vq z]at k;refine⟨k.1,Qjr (λm w2 q=>?_) (λL m w2 q=>?_) (λm w2 q=>?_) k.2⟩
  .unfold wpListIn at q
   grind
  .obtain⟨x,_,_,_,_,_,q,_⟩:=q;exact q.elim
  .obtain⟨x,_,_,_,_,_,q,_⟩:=q;exact q.elim
 simp_all[wpListIn]
theorem WOy.yield{all:Array Oper}{o:Oper}{rest:List Oper}{d:Nat}{x:T}{M rem:List T}(O:X.nx M x rem)(hg:QE all o env true)(B:o.dst=some d)(hN:Nat.blt d N=true)
  (E:∀fr ro σ a w,Rel fr ro σ H env N a w->∃vs:List Value,LR ro [] w (X.enc x) vs/\(execOp a.eval o).run P w=(Instr.yield X.l vs.toArray).run P w)
  (k:∀b:Bool,WOy X P h0 N all rest (up env d (.bool b)) H (bif b then .on rem else .off rem) Q):WOy X P h0 N all (o::rest) env H (.on M) Q:=by
 intro V L fr ro σ a w g r hj hrd;obtain⟨vs,hv,he⟩:=E fr ro σ a w r;obtain⟨q,Y,R⟩:=hj.1;obtain⟨fn,tmps,assign,W,h1,h2⟩:=V.round M x rem q g ro w vs O R Y (λb z=>⟨r.sim.roLt b z,λy=>r.sim.roFr b z (hj.2.sub b y)⟩) hv;have h3:=he.trans h1;unfold wpL wpListIn;rw[Vq (Jg hg r)];refine⟨λ_ _=>trivial,?_⟩;rw[Qc4 h3 (λd e=>by cases e)];refine⟨λh=>by simp[WF,Fence.wide]at h,?_⟩;refine RoundIn.mono (F:=WF L) (n:=0) h2 ?_;rintro e i ⟨j,m,p,u,f⟩;obtain⟨s',ev⟩:=r.sim.round hj.2.sub u;have G:d<N:=by simp_all
 have t:Ext ro σ w ro σ i:=by have:=ev.ext σ [];grind
 have fin:∀b:Bool,X.at (bif b then .on rem else .off rem) j ro i->wpL P L all (Qdv X h0 fr ro σ w N a.defers Q) rest (a.put o.dst (.bool b)) i:=by
  intro b f;have hm:QcK (λb=>fr b\/j b) a.defers i:=by
   refine⟨r.defers.1,λd B=>?_⟩;obtain⟨D,rfl,J,q2⟩:=r.defers.2 d B;exact⟨D,rfl,.inl J,(u.keep D (r.sim.frLt D J) (hj.2.beside D B)).trans q2⟩
  have hi:In j (λb=>fr b\/j b) a.defers:=by
   refine⟨λb q=>.inr q,λD hD q=>?_⟩;rcases u.new D q with m|m
   .exact hj.2.beside D hD m
   .obtain⟨D',e,J,_⟩:=r.defers.2 _ hD
    grind
  have r':Rel (λb=>fr b\/j b) ro σ H (up env d (.bool b)) N {a with tmps:=a.tmps.setIfInBounds d (.bool b)} i:=
   ⟨s',VR.up (fr:=fr) (λs=>(r.env s).mono t) (by rw[r.size];exact G) rfl,by simpa using r.size,hm⟩
  have:=k b V L _ ro σ _ i j r' ⟨f,hi⟩ hrd;simp only[B,Act.put];refine YB (λe a2 w2 q=>q.grow (λ_ q=>q) u.size rfl ⟨λ_ q=>.inl q,λb q=>?_,λ_ q=>.inl q⟩) _ _ _ this;rcases q with q|q
  .exact .inl q
  .rcases u.new b q with q|q
   .exact .inl (hj.2.sub b q)
   omega
 rcases f with⟨rfl,f⟩|⟨rfl,f⟩
 .exact fin true ⟨m,p,f⟩
 .exact fin false ⟨m,p,f⟩
end
def EndY{T:Type}:YS T:=λx env H st=>(x=.normal\/x=.ret)/\(st=.on []\/ ∃rem,st=.off rem)
theorem QhY{T:Type}{P:Program}{f:FuncId}{fn:Func}{c:Code}{N:Nat}{a:List A}{H:Qe}{enc:T->List A}{nx:List T->T->List T->Prop}{xs:List T}
  (hf:P.funcs[f]?=some fn)(hb:fn.body=some c)(hN:fn.ntmps=N)(hA:Nat.ble (a.length+1) N=true)(hR:fn.results= #[])
  (h:∀X:Ctx T,X.enc=enc->X.nx=nx->TCy X P H.length N c (Qep 0 (.fn (.yield X.l) [] []::a)) H (.on xs) EndY):QnG P f a H enc nx xs:=by
 intro X hE hNx hX fr ro0 σ w capv q0 hs hq0 hl hj;have p:LR ro0 σ w (.fn (.yield X.l) [] []::a) (Value.func (.yield X.l) #[] #[]::capv):=⟨_,_,rfl,⟨[],[],rfl,rfl,rfl⟩,hl⟩;have Q:=p.length;have ab:a.length+1<=N:=by simp_all
 refine(callsIn_wide (n:=0)).1 (callsIn_of_wp_marks hf hb trivial (Code.wpIn_mono ?_ (h X hE hNx hX none fr ro0 σ _ w fr ⟨hs,?_,?_,List.nodup_nil,λd u=>by cases u⟩ ⟨⟨q0,hq0,hj⟩,λ_ q=>q,λD hD=>by cases hD⟩ rfl)))
 .rintro e E R ⟨x,O,H1,st,y,σ1,aa,M,V,⟨h2,G⟩,j,⟨Y,k⟩,h5,h6,h7,h8⟩;have m:LeavesInM Fence.wide 0 P fn E.tmps (λe W'=>(∃v,e=.returned v)/\ ∃g q',(∀b,fr b->g b)/\((X.J [] q' g W')\/(∃rem,X.Jx rem q' g W'))) E.defers .returning R:=by
   refine Qbq (ro:=y) (fr:=M) (σ:=σ1) (H:=H1) E.defers R j.defers.1 (λd u=>?_) (j.sim.frMono k.sub) (λw2 s2 r=>?_)
   .obtain⟨D,rfl,B,q2⟩:=j.defers.2 d u;exact⟨D,rfl,λq=>j.sim.roFr D q B,k.beside D u,λi x L z F=>(j.sim.own i D x L z F).2.2 B,λi d x L z F=>(j.sim.hid i d x D L z F).fr B,q2⟩
   .have t:=hX.up (hX.ev Y r) (g':=λb=>M b\/fr b) (λb q=>.inl q) (λb q=>Vc (j.sim.frLt b (q.elim (k.sub b) (h8.sub b))) r.size);obtain⟨W,_,t⟩:=t;refine⟨.tuple #[],by simp[results,hR,go_sem],⟨_,rfl⟩,λb=>M b\/fr b,W,λb q=>.inr q,?_⟩;rcases G with rfl|⟨rem,rfl⟩
    .exact .inl t
    .exact .inr ⟨rem,t⟩
  cases e with
  |normal=>exact m
  |ret=>exact m
  |exit id=>
   obtain rfl:x=.exit id:=V
   grind
  |_=>exact V.elim
 .intro s;have:=Qfw (i:=0) [] rfl p (Array.replicate (fn.ntmps-(Value.func (.yield X.l) #[] #[]::capv).toArray.size) undef) s
  grind
 grind
section
variable {T:Type} {X:Ctx T} {P:Program} {h0 N:Nat} {c c':Code} {env:Env} {H:Qe} {st:YSt T} {Q Q':YS T}
theorem TCy.mono(h:TCy X P h0 N c env H st Q)(q:∀x env H st,Q x env H st->Q' x env H st):TCy X P h0 N c env H st Q':=by
 intro t p l s σ a w g r hj hrd;refine Code.wpIn_mono ?_ (h t p l s σ a w g r hj hrd);rintro e y z ⟨x,d,H',f,j,σ',i,n,u,m,k⟩;exact⟨x,d,H',f,j,σ',i,n,u,q _ _ _ _ m,k⟩
theorem TCy.skip(h:Q .normal env H st):TCy X P h0 N .skip env H st Q:=TCy.lift (TC.skip h)
theorem TCy.ret(h:Q .ret env H st):TCy X P h0 N .ret env H st Q:=TCy.lift (TC.ret h)
theorem TCy.exit{id:Nat}(h:Q (.exit id) env H st):TCy X P h0 N (.exit id) env H st Q:=TCy.lift (TC.exit h)
def BloY(id:Nat)(Q:YS T):YS T
 |.normal,env,H,st=>Q .normal env H st
 |.exit id',env,H,st=>bif Nat.beq id' id then Q .normal env H st else Q (.exit id') env H st
 |.ret,env,H,st=>Q .ret env H st
theorem TCy.block{id:Nat}(h:TCy X P h0 N c env H st (BloY id Q)):TCy X P h0 N (.block id c) env H st Q:=by
 intro y t s z σ a w g r hj hrd;refine wpIn_block (Code.wpIn_mono ?_ (h y t s z σ a w g r hj hrd));rintro e B E ⟨x,d,H',j,i,σ',k,n,p,l,m⟩;cases e with
 |normal=>
  obtain rfl:x=.normal:=p;exact⟨_,d,H',j,i,σ',k,n,rfl,l,m⟩
 |exit f=>
  obtain rfl:x=.exit f:=p;show Exit.inBlock id _ _ _ _;unfold Exit.inBlock;simp only[BloY]at l;by_cases q:f=id
  .subst q;rw[VC,Vl]at l;simp only[if_true];exact⟨.normal,d,H',j,i,σ',k,n,rfl,l,m⟩
  .have u:Nat.beq f id=false:=by
    cases e:Nat.beq f id with
    |false=>rfl
    |true=>simp_all
   rw[u,Vm]at l;simp only[q,if_false];exact⟨.exit f,d,H',j,i,σ',k,n,rfl,l,m⟩
 |ret=>
  obtain rfl:x=.ret:=p;exact⟨_,d,H',j,i,σ',k,n,rfl,l,m⟩
 |_=>exact p.elim
end
section
variable {T:Type} {X:Ctx T} {P:Program} {h0 N:Nat} {c:Code} {env:Env} {H:Qe} {st:YSt T} {Q:YS T}
def Ql8(I:Env->Qe->YSt T->Prop)(Q:YS T):YS T
 |.normal,env,H,st=>I env H st
 |.exit id,env,H,st=>Q (.exit id) env H st
 |.ret,env,H,st=>Q .ret env H st
theorem QlS{I:Nat->Env->Qe->YSt T->Prop}(body:∀n env H st,I n env H st->TCy X P h0 N c env H st (Ql8 (λenv H st=>∃n',n'<n/\I n' env H st) Q)){n:Nat}(J:I n env H st):TCy X P h0 N (.loop c) env H st Q:=by
 intro hX O y B σ a w g r hj hrd b k cs hro hb hr;have F:∀m n env H st fr1 ro1 σ1 a1 w1 g1,n<m->I n env H st->Rel fr1 ro1 σ1 H env N a1 w1->(∀b,B b->ro1 b)->w.heap.size<=w1.heap.size->σ1.take h0=σ.take h0->Grow y w a.defers fr1 a1.defers->X.at st g1 ro1 w1/\In g1 fr1 a1.defers->
   ∃e i h,Qdv X h0 y B σ w N a.defers Q e i h/\ArrivesIn (Machine.fenced P (WF O)) P (lone (b.atR a1 (.code c::.inLoop c::k)) cs w1) b k cs e i h:=by
  intro m
  induction m with
  |zero=>omega
  |succ m ih=>
   intro n env H st fr1 ro1 σ1 a1 w1 g1 hn J r1 s1 z1 t1 gr1 j1;obtain⟨e,i,h,E,d⟩:=body n env H st J hX O fr1 ro1 σ1 a1 w1 g1 r1 j1 hrd b (.inLoop c::k) cs hro hb hr;obtain⟨x,f,H',j,u,σ',p,M,z,s,W,R,q5,L,V,q8⟩:=E;have s2:=λb q=>q5 b (s1 b q);have t:=gr1.trans z1 q8;have Y:∀x,Q x f H' j->ExR e x->Qdv X h0 y B σ w N a.defers Q e i h:=λx q q'=>⟨x,f,H',j,u,σ',p,M,q',q,W,R,s2,XU z1 L,V.trans t1,t⟩;cases e with
   |normal=>
    obtain rfl:x=.normal:=z;obtain⟨n',aa,s⟩:=s;obtain⟨e2,a2,w2,G,l⟩:=ih n' f H' j p u σ' i h M (by omega) s W s2 (XU z1 L) (V.trans t1) t R;exact⟨e2,a2,w2,G,.of_steps (StepsIn.trans d (.one (fenced_calm hb hr rfl) stepR_inLoop)) l⟩
   |exit id=>
    obtain rfl:x=.exit id:=z;exact⟨_,i,h,Y _ s rfl,.pass (x:=.inLoop c) rfl (λ_ _=>.inl (by simp)) d⟩
   |ret=>
    obtain rfl:x=.ret:=z;exact⟨_,i,h,Y _ s rfl,.pass (x:=.inLoop c) rfl (λ_ _=>.inl (by simp)) d⟩
   |_=>exact z.elim
 obtain⟨e,i,h,E,d⟩:=F (n+1) n env H st y B σ a w g (Xn _) J r (λ_ q=>q) (XS _) rfl (Grow.refl _ _ _) hj;exact⟨e,i,h,E,.of_steps (.one (fenced_calm hb hr rfl) stepR_loop) d⟩
end
theorem Sim.part{fr ro:Nat->Prop}{σ:Sig}{H:Qe}{w:World}(h:Sim fr ro σ H w){π:List Nat}{Hc:Qe}(R:π.map (λp=>H[p]?)=(Hc.map (Yc (rho π H.length))).map some)(hπ:π.Nodup):
  Sim (λb=>fr b\/(∃i x,σ[i]?=some (some b)/\H[i]?=some x/\x.live=true/\i∉π)\/ ∃i x d,σ[i]?=some (some d)/\H[i]?=some x/\Hid w x d b/\i∉π) ro (Yy σ π) Hc w/\ ∀j:Nat,σ[rho π H.length j]?=(Yy σ π)[j]? :=by
 have hp:∀p∈π,p<H.length:=λp q=>Jp R q;have hσl:=h.len;have m:∀(j p:Nat),π[j]?=some p->H[p]?=(Hc[j]?).map (Yc (rho π H.length)):=by
  intro j p n;have:=congrArg (λl=>l[j]?) R
  grind
 have L:π.length=Hc.length:=by simpa using congrArg List.length R
 have hσc:∀j:Nat,σ[rho π H.length j]?=(Yy σ π)[j]? :=by
  intro j;have:=QeI (τ:=[]) hσl hp j
  grind
 have hπj:∀(j b:Nat),(Yy σ π)[j]?=some (some b)->∃p,π[j]?=some p/\σ[p]?=some (some b):=by
  intro j b n;simp only[Yy,Xo]at n
  grind
 refine⟨?_,hσc⟩
 .refine⟨by simp[Yy,L],h.roOk,?_,?_,?_,?_,?_,?_⟩
  .rintro b (P|⟨i,x,a,g,f,O⟩|⟨i,x,d,a,g,f,O⟩)
   .exact h.frLt b P
   .exact(h.own i b x a g f).1
   .exact(h.hid i d x b a g f).lt
  .rintro b P (M|⟨i,x,a,g,f,O⟩|⟨i,x,d,a,g,f,O⟩)
   .exact h.roFr b P M
   .exact(h.own i b x a g f).2.1 P
   .exact(h.hid i d x b a g f).ro P
  .intro j b x a g f;obtain⟨p,e,E⟩:=hπj j b a;have z:H[p]?=some (Yc (rho π H.length) x):=by grind
   obtain⟨o1,o2,o3⟩:=h.own p b _ E z (by rw[QN];exact f);refine⟨o1,o2,?_⟩;rintro(M|⟨i,y,y1,y2,F,Q⟩|⟨i,y,d,y1,y2,F,Q⟩)
   .exact o3 M
   .have:=h.inj i p b _ _ y1 E y2 z F (by rw[QN];exact f)
    grind
   .exact(h.hid i d y b y1 y2 F).ne p b _ E z (by rw[QN];exact f) rfl
  .intro i j b x y a g f O q5 q6;obtain⟨p,e,E⟩:=hπj i b a;obtain⟨u,r,V⟩:=hπj j b g;have z:H[p]?=some (Yc (rho π H.length) x):=by rw[m i p e,f];rfl
   have aa:H[u]?=some (Yc (rho π H.length) y):=by rw[m j u r,O];rfl
   have:=h.inj p u b _ _ E V z aa (by rw[QN];exact q5) (by rw[QN];exact q6);subst this;have G:i<π.length:=by
    rcases Vz i π.length with q|q
    .exact q
    .rw[XN q]at e;simp at e
   have n:j<π.length:=by
    rcases Vz j π.length with q|q
    .exact q
    .rw[XN q]at r;simp at r
   rw[XJ G]at e;rw[XJ n]at r;have t:=(XX e).trans (XX r).symm;rcases Nat.lt_trichotomy i j with q|q|q
   .exact(VB.1 hπ i j G n q t).elim
   .exact q
   .exact(VB.1 hπ j i n G q t.symm).elim
  .intro j s x a g;have n:j<π.length:=by
    rcases Vz j π.length with q|q
    .exact q
    .rw[XN (by simpa[Yy]using q)]at a;simp at a
   have e:π[j]?=some π[j]:=XJ n;have z:H[π[j]]?=some (Yc (rho π H.length) x):=by rw[m j _ e,g];rfl
   have E:σ[π[j]]?=some s:=by
    have:=hσc j;rw[a]at this;simpa[rho,e]using this
   exact(Qib hσc).1 (h.blk _ s _ E z)
  .intro j b x c a g f;obtain⟨p,e,E⟩:=hπj j b a;have z:H[p]?=some (Yc (rho π H.length) x):=by rw[m j p e,g];rfl
   have k:=h.hid p b _ c E z ((Qah _ _ _ _ _).2 f);refine⟨k.lt,k.ro,?_,?_,?_⟩
   .rintro(M|⟨i,y,y1,y2,F,Q⟩|⟨i,y,d,y1,y2,F,Q⟩)
    .exact k.fr M
    .exact k.ne i c y y1 y2 F rfl
    .obtain⟨rfl,rfl⟩:=k.one i d y y1 y2 F;exact Q (VE e)
   .intro B N y X T W;obtain⟨u,J,Y⟩:=hπj B N X;exact k.ne u N _ Y (show H[u]?=some (Yc (rho π H.length) y)by rw[m B u J,T];rfl) (by rw[QN];exact W)
   .intro B N y X T W;obtain⟨u,J,Y⟩:=hπj B N X;obtain⟨z4,z5⟩:=k.one u N _ Y (show H[u]?=some (Yc (rho π H.length) y)by rw[m B u J,T];rfl) ((Qah _ _ _ _ _).2 W);subst z5;have G:B<π.length:=(XK.1 J).1;have n:j<π.length:=(XK.1 e).1;rw[XJ G]at J;rw[XJ n]at e;have t:=(XX J).trans (XX e).symm;refine⟨z4,?_⟩;rcases Nat.lt_trichotomy B j with q|q|q
    .exact(VB.1 hπ B j G n q t).elim
    .exact q
    .exact(VB.1 hπ j B n G q t.symm).elim
theorem Sim.frames{fr fr' ro:Nat->Prop}{σ:Sig}{H:Qe}{w:World}(s:Sim fr ro σ H w)(lt:∀b,fr' b->b<w.heap.size)(hro:∀b,ro b->¬fr' b)(own:∀(i b:Nat) (x:Blk),σ[i]?=some (some b)->H[i]?=some x->x.live=true->¬fr' b)
  (hd:∀(i b:Nat) (x:Blk) (c:Nat),σ[i]?=some (some b)->H[i]?=some x->Hid w x b c->¬fr' c):Sim fr' ro σ H w:=
 ⟨s.len,s.roOk,lt,hro,λi b x q1 q2 q3=>⟨(s.own i b x q1 q2 q3).1,(s.own i b x q1 q2 q3).2.1,own i b x q1 q2 q3⟩,s.inj,s.blk,
  s.hidTo (· = ·) Yg (XS _) (by simp) (by grind) (by grind)⟩
def QkB(H:Qe)(p:Nat):Qe:=match H[p]? with
 |some x=>bif x.holds then H.set p .dead else H
 |none=>H
def Qeg:Qe->List Nat->Qe
 |H,[]=>H
 |H,p::π=>Qeg (QkB H p) π
theorem Qeh(H:Qe)(p:Nat):(QkB H p=H/\ ∀x,H[p]?=some x->x.holds=false)\/QkB H p=H.set p .dead:=by
 unfold QkB
 grind
theorem Qfx:∀(π:List Nat) (H:Qe) (i:Nat) (x:Blk),(Qeg H π)[i]?=some x->x=.dead\/(H[i]?=some x/\(x.holds=true->i∉π))
 |[],H,i,x,h=>.inr ⟨h,λ_=>by simp⟩
 |p::π,H,i,x,h=>by
  rcases Qfx π _ i x h with h|⟨h1,h2⟩
  .exact .inl h
  .rcases Qeh H p with⟨e,hl⟩|e
   .grind
   grind
theorem QdX{fr ro:Nat->Prop}{σ:Sig}{w:World}:∀(π:List Nat) {H:Qe} (s:Sim fr ro σ H w),Sim fr ro σ (Qeg H π) w
 |[],_,s=>s
 |p::π,H,s=>by
  rw[Qeg];rcases Qeh H p with h|h
  .rw[h.1];exact QdX π s
  .rw[h];exact QdX π (s.kill p)
theorem Sim.put{fr ro:Nat->Prop}{σ:Sig}{H:Qe}{w:World}(s:Sim fr ro σ H w){b:Nat}{obj:Obj}(l:fr b)(r:w.shape? b=none):
  Sim fr ro σ H (w.putObj b obj)/\Qi (λc=>c≠b) ro w ro (w.putObj b obj):=by
 have a:∀c,c≠b->(w.putObj b obj).heap[c]?=w.heap[c]? :=λc u=>World.putObj_heap_other u;have g:(w.putObj b obj).heap.size=w.heap.size:=by simp
 have t:∀c,ro c->c≠b:=λc q e=>s.roFr c q (e▸l);have ev:Qi (λc=>c≠b) ro w ro (w.putObj b obj):=by
  refine⟨λ_ q=>q,(by grind),λc q=>a c q,by omega,λc x q=>?_,rfl,rfl,rfl,XS _⟩
  grind[World.shape?]
 have k:Ext ro σ w ro σ (w.putObj b obj):=by have:=ev.ext σ [];grind
 refine⟨⟨s.len,s.roOk.to (λ_ q=>q) ev.keepRo (λc q=>by rw[g];exact s.roLt c q),λc q=>by rw[g];exact s.frLt c q,s.roFr,λi c x f h B=>?_,s.inj,λi y x f h=>?_,
  s.hidTo (· = ·) Yg (by omega) (by simp) (by simp) λj d y n p E=>.inl ⟨j,y,rfl,n,p,id,λc q=>s.hidKeep n p (λz=>a d (λe=>(s.own j d y n p z).2.2 (e▸l))) ev.keepRo q⟩⟩,ev⟩
 .obtain⟨J,G,F⟩:=s.own i c x f h B
  grind
 .refine(s.blk i y x f h).keep k ?_ ?_
  .rintro c rfl m;exact a c (λe=>(s.own i c x f h m).2.2 (e▸l))
  .rintro d c rfl m;exact a c (λe=>(s.hid i d x c f h m).fr (e▸l))
theorem Qbn{w:World}{l:Nat}{r:Loop}(h:w.heap[l]?=some (.loop r)):w.shape? l=none:=by
 unfold World.shape?;rw[h]
structure Fix where
 fr:Nat->Prop
 ro:Nat->Prop
 σ:Sig
 w:World
 h1:Nat
 env:Env
 tmps:Array Value
 ds1:List Deferred
 l:Nat
 rc:LoopState->Option Code->Loop
 fr1:Nat->Prop
structure Fix.Ok (D:Fix):Prop where
 sub:∀b,D.fr b->D.fr1 b
 l1:D.fr1 D.l
 lf:¬D.fr D.l
 len:D.σ.length=D.h1
structure RJ (D:Fix) (ro1:Nat->Prop) (σ1:Sig) (H:Qe) (st:LoopState) (pe:Option Code) (q g:Nat->Prop) (W:World):Prop where
 sim:Sim D.fr1 ro1 σ1 H W
 env:∀t,VR ro1 D.σ W (lk D.env t) (D.tmps.getD t undef)
 sig:σ1.take D.h1=D.σ
 ev:Qi D.fr D.ro D.w ro1 W
 marks:QcK D.fr1 D.ds1 W
 rc:W.heap[D.l]?=some (.loop (D.rc st pe))
 roG:∀b,ro1 b->q b\/g b
 frG:∀b,D.fr1 b->g b
 own:∀(i b:Nat) (x:Blk),σ1[i]?=some (some b)->H[i]?=some x->x.live=true->g b
 hidG:∀(i b:Nat) (x:Blk) (c:Nat),σ1[i]?=some (some b)->H[i]?=some x->Hid W x b c->g c
 lt:∀b,g b->b<W.heap.size
theorem Qd7{σ σ1:Sig}{a:Nat}(h:σ1.take a=σ){i b:Nat}(q:σ[i]?=some (some b)):σ1[i]?=some (some b):=by
 grind
section
variable {D:Fix} {ro1:Nat->Prop} {σ1:Sig} {H:Qe} {st:LoopState} {pe:Option Code} {qR g:Nat->Prop} {W:World}
theorem RJ.step(r:D.Ok)(j:RJ D ro1 σ1 H st pe qR g W){ro':Nat->Prop}{W':World}(e:Qi g qR W ro' W'):RJ D ro1 σ1 H st pe qR g W':=by
 have h:∀b,ro1 b->W'.heap[b]?=W.heap[b]? :=λb q=>(j.roG b q).elim (e.keepRo b) (e.keepFr b);have ev:Qi D.fr1 ro1 W ro1 W':=⟨λ_ q=>q,h,λb q=>e.keepFr b (j.frG b q),e.size,e.shape,e.os,e.tape,e.output,e.drawn⟩;have k:∀σ,Ext ro1 σ W ro1 σ W':=λ σ=>by have:=ev.ext σ [];grind
 refine⟨⟨j.sim.len,j.sim.roOk.to (λ_ q=>q) h (λb q=>Vc (j.sim.roLt b q) e.size),λb q=>Vc (j.sim.frLt b q) e.size,j.sim.roFr,λi b x a f p=>?_,j.sim.inj,λi z x a f=>?_,
  j.sim.hidTo (· = ·) Yg e.size (by simp) (by simp) λi d y m n w=>.inl ⟨i,y,rfl,m,n,id,λc q=>j.sim.hidKeep m n (λz=>e.keepFr d (j.own i d y m n z)) h q⟩⟩,
  λt=>(j.env t).mono (k _),j.sig,j.ev.trans (ev.frMono r.sub),j.marks.keep ev,(ev.keepFr _ r.l1).trans j.rc,j.roG,j.frG,j.own,λi b x c a f p=>j.hidG i b x c a f (j.sim.hidKeep a f (λz=>e.keepFr b (j.own i b x a f z)) h p),λb q=>Vc (j.lt b q) e.size⟩
 .obtain⟨u,s⟩:=j.sim.own i b x a f p;exact⟨Vc u e.size,s⟩
 .refine(j.sim.blk i z x a f).keep (k _) ?_ ?_
  .rintro b rfl l;exact e.keepFr b (j.own i b x a f l)
  .rintro b c rfl l;exact e.keepFr c (j.hidG i b x c a f l)
theorem RJ.up{g':Nat->Prop}(j:RJ D ro1 σ1 H st pe qR g W)(h:∀b,g b->g' b)(hl:∀b,g' b->b<W.heap.size):RJ D ro1 σ1 H st pe qR g' W:=
 {j with roG:=λb q=>(j.roG b q).imp id (h b),frG:=λb q=>h b (j.frG b q),own:=λi b x q1 q2 q3=>h b (j.own i b x q1 q2 q3),hidG:=λi b x c q1 q2 q3=>h c (j.hidG i b x c q1 q2 q3),lt:=hl}
def FrB(D:Fix)(ro1 g:Nat->Prop)(W:World):Nat->Prop:=λb=>(D.fr1 b\/(¬g b/\ ¬ro1 b))/\b<W.heap.size
theorem RJ.simB(j:RJ D ro1 σ1 H st pe qR g W):Sim (FrB D ro1 g W) ro1 σ1 H W:=by
 refine j.sim.frames (λb q=>q.2) (λb q r=>?_) (λi b x d a e r=>?_) (λi b x c d a e r=>r.1.elim (j.sim.hid i b x c d a e).fr λr=>r.1 (j.hidG i b x c d a e))
 .rcases r.1 with r|r
  .exact j.sim.roFr b q r
  grind
 .rcases r.1 with r|r
  .exact(j.sim.own i b x d a e).2.2 r
  .exact r.1 (j.own i b x d a e)
theorem RJ.fin(G:D.Ok)(j:RJ D ro1 σ1 H st pe qR g W){w ro':Nat->Prop}{σ':Sig}{H':Qe}{W':World}{st':LoopState}{pe':Option Code}
  (ev:Qi (λb=>FrB D ro1 g W b/\b≠D.l) ro1 W ro' W')(s:Sim w ro' σ' H' W')(u:∀b,FrB D ro1 g W b->w b)(hσ:σ'.take D.h1=σ1.take D.h1)(R:W'.heap[D.l]?=some (.loop (D.rc st' pe'))):
  RJ D ro' σ' H' st' pe' qR (λb=>g b\/(W.heap.size<=b/\b<W'.heap.size)) W'/\Qf8 g (λb=>g b\/(W.heap.size<=b/\b<W'.heap.size)) W W':=by
 have n:∀b,D.fr1 b->FrB D ro1 g W b:=λb q=>⟨.inl q,j.sim.frLt b q⟩;have Q:W.shape? D.l=none:=Qbn j.rc;have E:Qi D.fr ro1 W ro' W':=ev.frMono λb q=>⟨n b (G.sub b q),λe=>G.lf (e▸q)⟩;have y:Ext ro1 D.σ W ro' D.σ W':=ev.ext0 D.σ;have F:∀b,b<W.heap.size->b<W'.heap.size:=λb q=>Vc q ev.size;have m:∀b,b<W.heap.size->¬FrB D ro1 g W b->g b\/ro1 b:=by
  intro b f M;by_cases h:g b
  .exact .inl h
  .by_cases a:ro1 b
   .exact .inr a
   .exact absurd ⟨.inr ⟨h,a⟩,f⟩ M
 refine⟨⟨s.frames (λb q=>F b (j.sim.frLt b q)) (λb q r=>s.roFr b q (u b (n b r))) (λi b x h a p r=>(s.own i b x h a p).2.2 (u b (n b r))) (λi b x c h a p r=>(s.hid i b x c h a p).fr (u c (n c r))),
  λt=>(j.env t).mono y,hσ.trans j.sig,j.ev.trans E,⟨j.marks.1,λd P=>?_⟩,R,λb q=>?_,λb q=>.inl (j.frG b q),λi b x h a p=>?_,λi b x c h a p=>?_,λb q=>q.elim (λq=>F b (j.lt b q)) (λq=>q.2)⟩,
  ⟨λb q=>.inl q,(by grind),λb q=>q.elim (λq=>F b (j.lt b q)) (λq=>q.2),(by omega),λb h a=>?_,ev.size,ev.shape,ev.os,ev.tape,ev.output,ev.drawn⟩⟩
 .obtain⟨B,O,J,z⟩:=j.marks.2 d P;refine⟨B,O,J,(ev.keepFr B ⟨n B J,λe=>?_⟩).trans z⟩;subst e;rw[j.rc]at z;cases z
 .rcases Vz b W.heap.size with f|f
  .rcases m b f (λr=>s.roFr b q (u b r))with r|r
   .grind
   .exact(j.roG b r).imp id .inl
  .exact .inr (.inr ⟨f,s.roLt b q⟩)
 .obtain⟨T,N,L⟩:=s.own i b x h a p;rcases Vz b W.heap.size with f|f
  .rcases m b f (λr=>L (u b r))with r|r
   .exact .inl r
   .exact absurd (ev.sub b r) N
  omega
 .have k:=s.hid i b x c h a p;rcases Vz c W.heap.size with f|f
  .rcases m c f (λr=>k.fr (u c r))with r|r
   .exact .inl r
   .exact absurd (ev.sub c r) k.ro
  .exact .inr ⟨f,k.lt⟩
 .by_cases r:ro1 b
  .exact ev.keepRo b r
  .exact ev.keepFr b ⟨(by grind),λe=>a (j.frG b (e▸G.l1))⟩
end
theorem Sim.roAdd{fr ro a:Nat->Prop}{σ:Sig}{H:Qe}{w:World}(s:Sim fr ro σ H w)(f:∀b,a b->b<w.heap.size)(e:∀b,a b->¬fr b)(h:∀(i b:Nat) (x:Blk),σ[i]?=some (some b)->H[i]?=some x->x.live=true->¬a b)
  (j:∀(i b:Nat) (x:Blk) (c:Nat),σ[i]?=some (some b)->H[i]?=some x->Hid w x b c->¬a c):Sim fr (λb=>ro b\/a b) σ H w:=by
 have ext:Ext ro σ w (λb=>ro b\/a b) σ w:=⟨λ_ q=>.inl q,λ_ _=>rfl,λ_ _ q=>q,λ_ _ q=>q⟩;refine⟨s.len,s.roOk.to (λ_ q=>.inl q) (λ_ _=>rfl) (λb q=>q.elim (s.roLt b) (f b)),s.frLt,λb q=>q.elim (s.roFr b) (e b),λi b x d g k=>?_,s.inj,λi y x d g=>(s.blk i y x d g).keep ext (λ_ _ _=>rfl) (λ_ _ _ _=>rfl),
  s.hidTo (· = ·) Yg (XS _) (by grind) (by simp) (by grind)⟩
 obtain⟨n,m,l⟩:=s.own i b x d g k
 grind
theorem RJ.roAdd{D:Fix}{ro1:Nat->Prop}{σ1:Sig}{H:Qe}{st:LoopState}{pe:Option Code}{qR ri g:Nat->Prop}{W:World}(j:RJ D ro1 σ1 H st pe qR g W)(hq:∀b,qR b->ri b)(hI:∀b,ri b->b<W.heap.size/\ ¬g b):RJ D (λb=>ro1 b\/ri b) σ1 H st pe ri g W:=
 {j with
  sim:=j.sim.roAdd (λb q=>(hI b q).1) (λb q z=>(hI b q).2 (j.frG b z)) (λi b x q1 q2 q3 z=>(hI b z).2 (j.own i b x q1 q2 q3)) (λi b x c q1 q2 q3 z=>(hI c z).2 (j.hidG i b x c q1 q2 q3))
  env:=λt=>(j.env t).mono ⟨λ_ q=>.inl q,λ_ _=>rfl,λ_ _ q=>q,λ_ _ q=>q⟩
  ev:=j.ev.trans (YO λ_ q=>.inl q)
  roG:=λb q=>q.elim (λq=>(j.roG b q).imp (hq b) id) .inl}
def Qml:List Nat->List A->Env->Env
 |p::ps,a::zs,env=>Qml ps zs (up env p a)
 |_,_,env=>env
def Qjv:List Nat->List Value->Array Value->Array Value
 |p::ps,v::vs,t=>Qjv ps vs (t.setIfInBounds p v)
 |_,_,t=>t
theorem QgC:∀(ps:List Nat) (vs:List Value) (t:Array Value),(Qjv ps vs t).size=t.size
 |[],_,_=>rfl
 |_::_,[],_=>rfl
 |p::ps,v::vs,t=>by simp[Qjv,QgC ps]
theorem QgD:∀(ps:List Nat) (vs:List Value) (t:Array Value),(ps.toArray.zip vs.toArray).foldl (λt (p,v)=>t.setIfInBounds p v) t=Qjv ps vs t
 |[],vs,t=>by rw[<- Array.foldl_toList,Array.toList_zip];rfl
 |p::ps,[],t=>by rw[<- Array.foldl_toList,Array.toList_zip];rfl
 |p::ps,v::vs,t=>by
  have:=QgD ps vs (t.setIfInBounds p v);rw[<- Array.foldl_toList,Array.toList_zip]at this⊢;exact this
theorem Qkn{ro:Nat->Prop}{σ:Sig}{w:World}:∀(ps:List Nat) (zs:List A) (vs:List Value) (env:Env) (t:Array Value),LR ro σ w zs vs->(∀p∈ps,p<t.size)->(∀s,VR ro σ w (lk env s) (t.getD s undef))->
  ∀s,VR ro σ w (lk (Qml ps zs env) s) ((Qjv ps vs t).getD s undef)
 |[],_,_,_,_,_,_,h=>h
 |p::ps,[],vs,_,_,hv,_,h=>by
  obtain rfl:vs=[]:=hv;exact h
 |p::ps,a::zs,vs,env,t,hv,hp,h=>by
  obtain⟨v,vs',rfl,h0,hv'⟩:=hv;have h1:=VR.up (fr:=λ_=>False) (a:={tmps:=t,defers:=[]}) h (hp p (by simp)) h0;exact Qkn ps zs vs' (up env p a) (t.setIfInBounds p v) hv' (λq hq=>by grind) h1
def QnH(h1:Nat)(env:Env)(Q:QR)(K:Qe->Prop):QR
 |.normal,env',H'=>∃H2,Le h1 env' H' [] H2/\K H2
 |.exit id,env',H'=>∃H2,Le h1 env' H' [] H2/\Q (.exit id) env H2
 |.ret,env',H'=>∃H2,Le h1 env' H' [] H2/\Q .ret env H2
def Jump(Q:QR)(env:Env)(c:Code)(H:Qe):Prop:=(∃id,c=.exit id/\Q (.exit id) env H)\/(c=.ret/\Q .ret env H)
section
variable {D:Fix} {ro0:Nat->Prop} {σ1:Sig} {H:Qe} {qR ri g:Nat->Prop} {W:World} {P:Program} {N:Nat} {Q:QR} {K:Qe->Prop}
theorem RJ.round{fn:FuncId}{ps:List Nat}{assign body:Code}{df:Nat}{cs:List A}{vs:List Value}(hD:D.Ok)(X:D.rc=λst pe=>{state:=st,pending:=pe,fn:=fn,tmps:=D.tmps,params:=ps.toArray,assign:=assign,body:=body,defers:=df})
  (hN:D.tmps.size=N)(am:∀p∈ps,p<N)(ak:cs.length=ps.length)(hq:∀b,qR b->ri b)(hI:∀b,ri b->b<W.heap.size/\ ¬g b)(ac:LR ri [] W cs vs)(j0:RJ D ro0 σ1 H .ready none qR g W)
  (h:TC P D.h1 N assign (Qml ps cs D.env) H λe env1 H1=>e=.normal/\TC P D.h1 N body env1 H1 (QnH D.h1 D.env Q K)):
  YieldAt Fence.wide 0 P D.l vs.toArray W λe W'=>∃g',Qf8 g g' W W'/\((e=.returned (.bool true)/\ ∃H2 ro2 σ2,K H2/\RJ D ro2 σ2 H2 .ready none ri g' W')\/
   (e=.returned (.bool false)/\ ∃H2 c ro2 σ2,Jump Q D.env c H2/\RJ D ro2 σ2 H2 .done (some c) ri g' W')):=by
 have al:vs.length=cs.length:=ac.length;have j:=j0.roAdd hq hI;have t:LR (λb=>ro0 b\/ri b) σ1 W cs vs:=ac.mono ⟨λ_ q=>.inr q,λ_ _=>rfl,λ_ _ q=>q,λi b q=>by simp at q⟩;clear j0;generalize(λb=>ro0 b\/ri b)=ro1 at j t;have af:∀b,D.fr1 b->FrB D ro1 g W b:=λb q=>⟨.inl q,j.sim.frLt b q⟩;have y:=af _ hD.l1;have G:=j.rc;have hy:=run_yield (P:=P) (r:=D.rc .ready none) (args:=vs.toArray) G (by grind);refine⟨fn,Qjv ps vs D.tmps,assign,body,?_,?_⟩
 .grind[QgD]
 .refine roundIn_of_wpIn trivial ?_;show Code.wpIn (WF (some D.l)) 0 P _ _ _ _;have F:∀s,VR ro1 σ1 W (lk D.env s) (D.tmps.getD s undef):=λs=>(j.env s).mono ⟨λ_ q=>q,λ_ _=>rfl,λ_ _ q=>q,λi b q=>Qd7 j.sig q⟩;have aj:QdZ (some D.l) (FrB D ro1 g W) W:=λl e=>by grind
  have w1:=h (some D.l) (FrB D ro1 g W) ro1 σ1 {tmps:=Qjv ps vs D.tmps,defers:=[]} W ⟨j.simB,Qkn ps cs vs D.env D.tmps t (by grind) F,by simp[QgC,hN],List.nodup_nil,λd hd=>by cases hd⟩ aj;refine Code.wpIn_mono ?_ w1;rintro e a1 w1 ⟨x1,env1,H1,ro2,σ2,m,h1,⟨rfl,h2⟩,T,h4,h5,h6⟩;cases e with
  |normal=>
   have ab:w1.heap[D.l]?=some (.loop (D.rc .ready none)):=(h4.keepFr _ y).trans G;refine⟨_,run_beginRound ab (by rw[X]),?_⟩;obtain⟨s2,z⟩:=T.sim.put (obj:=.loop {D.rc .ready none with state:=.busy}) (h6.sub _ y) (Qbn ab);have aa:D.l<w1.heap.size:=by grind
   have ag:(w1.putObj D.l (.loop {D.rc .ready none with state:=.busy})).heap[D.l]?=some (.loop {D.rc .ready none with state:=.busy}):=World.putObj_heap_same aa;generalize hw2:w1.putObj D.l (.loop {D.rc .ready none with state:=.busy})=w2 at*;have ae:QcK m a1.defers w2:=by
    refine⟨T.defers.1,λd hd=>?_⟩;obtain⟨B,e1,e2,e3⟩:=T.defers.2 d hd;refine⟨B,e1,e2,(z.keepFr B (λe=>?_)).trans e3⟩
    grind
   have r2:Rel m ro2 σ2 H1 env1 N a1 w2:=⟨s2,λs=>(T.env s).mono (z.ext0 σ2),T.size,ae⟩;have V:m D.l:=h6.sub _ y;refine Code.wpIn_mono ?_ (h2 (some D.l) m ro2 σ2 a1 w2 r2 (λl e=>by grind));rintro e a3 w3 ⟨x3,L,H3,u,σ3,R,g1,g2,g3,g4,g5,g6⟩;have n:w3.heap[D.l]?=some (.loop {D.rc .ready none with state:=.busy}):=(g4.keepFr _ V).trans ag;have x:∀(H2:Qe) (jump:Option Code),Le D.h1 L H3 [] H2->∃v k,(Instr.endRound D.l jump).run P w3=.ok v k/\v=.bool jump.isNone/\ ∃g',Qf8 g g' W k/\ ∃a σ4,RJ D a σ4 H2 (if jump.isNone then .ready else .done) jump ri g' k:=by
    intro H2 jump f;obtain⟨a,σ4,r4,s4,t4⟩:=f R u σ3 N a3 w3 g3;refine⟨_,_,run_endRound jump n,rfl,?_⟩;have ah:R D.l:=g6.sub _ V;obtain⟨s5,ai⟩:=r4.sim.put (obj:=.loop {{D.rc .ready none with state:=.busy}with state:=if jump.isNone then .ready else .done,pending:=jump}) ah (Qbn n);have M:D.l<w3.heap.size:=by rw[Va]at n;exact n.1
    have ad:=World.putObj_heap_same (w:=w3) (r:=D.l) (o:=.loop {{D.rc .ready none with state:=.busy}with state:=if jump.isNone then .ready else .done,pending:=jump}) M;have e1:Qi (λb=>FrB D ro1 g W b/\b≠D.l) ro1 W ro2 w1:=h4.frMono λb q=>q.1;have e2:Qi (λb=>FrB D ro1 g W b/\b≠D.l) ro2 w1 ro2 w2:=z.frMono λb q=>q.2;have e3:Qi (λb=>FrB D ro1 g W b/\b≠D.l) ro2 w2 u w3:=g4.frMono λb q=>h6.sub b q.1;have e4:Qi (λb=>FrB D ro1 g W b/\b≠D.l) u w3 a w3:=YO s4;have e5:=(((e1.trans e2).trans e3).trans e4).trans (ai.frMono λb (q:FrB D ro1 g W b/\b≠D.l)=>q.2);obtain⟨q1,q2⟩:=j.fin hD e5 s5 (λb q=>g6.sub b (h6.sub b q)) (by rw[t4,g5,h5]) (st':=if jump.isNone then .ready else .done) (pe':=jump) (by rw[ad,X]);exact⟨_,q2,a,σ4,q1⟩
   cases e with
   |normal=>
    obtain rfl:x3=.normal:=g1;obtain⟨H2,f,J⟩:=g2;obtain⟨v,k,Y,rfl,g',O,a,σ4,E⟩:=x H2 none f;exact⟨_,k,Y,g',O,.inl ⟨rfl,H2,a,σ4,J,E⟩⟩
   |exit id=>
    obtain rfl:x3=.exit id:=g1;obtain⟨H2,f,J⟩:=g2;obtain⟨v,k,Y,rfl,g',O,a,σ4,E⟩:=x H2 (some (.exit id)) f;exact⟨_,k,Y,g',O,.inr ⟨rfl,H2,_,a,σ4,.inl ⟨id,rfl,J⟩,E⟩⟩
   |ret=>
    obtain rfl:x3=.ret:=g1;obtain⟨H2,f,J⟩:=g2;obtain⟨v,k,Y,rfl,g',O,a,σ4,E⟩:=x H2 (some .ret) f;exact⟨_,k,Y,g',O,.inr ⟨rfl,H2,_,a,σ4,.inr ⟨rfl,J⟩,E⟩⟩
   |_=>exact g1.elim
  |exit id=>cases h1
  |ret=>cases h1
  |_=>exact h1.elim
end
theorem Sim.beside{fr ro:Nat->Prop}{σ:Sig}{H:Qe}{w w1:World}(s:Sim fr ro σ H w)(ev:Qi fr ro w ro w1)(a:∀b,b<w.heap.size->w1.heap[b]?=w.heap[b]?):Sim (λb=>fr b\/(w.heap.size<=b/\b<w1.heap.size)) ro σ H w1:=by
 have g:Ext ro σ w ro σ w1:=ev.ext0 σ;refine⟨s.len,s.roOk.to (λ_ q=>q) ev.keepRo (λb q=>Vc (s.roLt b q) ev.size),λb q=>q.elim (λq=>Vc (s.frLt b q) ev.size) (λq=>q.2),λb q r=>?_,λi b x e f m=>?_,s.inj,λi z x e f=>?_,
  s.hidTo (· = ·) Yg ev.size (by simp) (λi b x c e f m n=>n.elim id λq=>(by have:=(s.hid i b x c e f m).lt;omega)) λj d y k l p=>.inl ⟨j,y,rfl,k,l,id,λc q=>s.hidKeep k l (λz=>a d (s.own j d y k l z).1) ev.keepRo q⟩⟩
 .rcases r with r|r
  .exact s.roFr b q r
  .have:=s.roLt b q;omega
 .obtain⟨B,u,t⟩:=s.own i b x e f m
  grind
 .refine(s.blk i z x e f).keep g ?_ ?_
  .rintro b rfl h;exact a b (s.own i b x e f h).1
  .rintro b c rfl h;exact a c (s.hid i b x c e f h).lt
theorem Qcq{w:World}{o:Obj}{b:Nat}(a:b<w.heap.size):(w.alloc o).heap[b]?=w.heap[b]? :=by
 show(w.heap.push o)[b]?=_
 grind
theorem Qnh{P:Program}{fn:FuncId}{tmps:Array Value}{ps:Array Tmp}{assign body:Code}{rd:Option Nat}{fr ro:Nat->Prop}{w:World}(f:QdZ rd fr w)(r:∀b,ro b->b<w.heap.size)(j:∀b,fr b->b<w.heap.size):
  ∃l mark w1 df,(Instr.enterLoop fn tmps ps assign body rd).run P w=.ok (l,mark) w1/\w.heap.size<=l/\l<w1.heap.size/\w1.heap[l]?=some (.loop {state:=.ready,pending:=none,fn:=fn,tmps:=tmps,params:=ps,assign:=assign,body:=body,defers:=df})/\
   (∀b,b<w.heap.size->w1.heap[b]?=w.heap[b]?)/\mark.Nodup/\(∀d∈mark,∃D,d={target:=.collected D,args:= #[]}/\w.heap.size<=D/\D<w1.heap.size/\w1.heap[D]?=some (.deferred (some [])))/\Qi fr ro w ro w1:=by
 have e:∀w1:World,(∀b,b<w.heap.size->w1.heap[b]?=w.heap[b]?)->w.heap.size<=w1.heap.size->w1.os=w.os->w1.tape=w.tape->w1.output=w.output->w1.drawn=w.drawn->Qi fr ro w ro w1:=by
  intro w1 u p k s m y;refine⟨λ_ q=>q,(by grind),(by grind),p,λb x q=>?_,k,s,m,by omega⟩
  grind[World.shape?]
 cases rd with
 |none=>
  have a:∀b,b<w.heap.size->((w.alloc (.deferred (some []))).alloc (.loop {state:=.ready,pending:=none,fn:=fn,tmps:=tmps,params:=ps,assign:=assign,body:=body,defers:=w.heap.size})).heap[b]?=w.heap[b]? :=λb g=>
   (Qcq (by simp;omega)).trans (Qcq g)
  refine⟨_,_,_,w.heap.size,run_enterLoop_outer fn tmps ps assign body,by omega,by simp,?_,a,by simp,?_,e _ a (by simp;omega) rfl rfl rfl rfl⟩
  .grind[World.alloc_heap_new,World.size_alloc]
  .intro d i;obtain rfl:=Vy.1 i;exact⟨_,rfl,XS _,by simp;omega,(Qcq (by simp)).trans (World.alloc_heap_new w _)⟩
 |some t=>
  obtain⟨_,h,n⟩:=f t rfl;have a:∀b,b<w.heap.size->(w.alloc (.loop {state:=.ready,pending:=none,fn:=fn,tmps:=tmps,params:=ps,assign:=assign,body:=body,defers:=h.defers})).heap[b]?=w.heap[b]? :=λb g=>Qcq g;exact⟨_,_,_,h.defers,run_enterLoop_inner n fn tmps ps assign body,XS _,by simp,World.alloc_heap_new w _,a,List.nodup_nil,(by simp),e _ a (by simp) rfl rfl rfl rfl⟩
theorem TC.rangeFunc{P:Program}{h0 N:Nat}{ac:Operand}{ps:List Nat}{assign body:Code}{env:Env}{H:Qe}{Q:QR}{f:FuncId}{af ad:List A}{Hc:Qe}{T S:Type}{enc:T->List A}{nx:List T->T->List T->Prop}{xs:List T}
  (π:List Nat)(Hp:S->Qe)(V:S->List T->Prop)(s0:S)(hh:h0<=H.length)(hg:opA env ac=.fn (.func f) [] af)(hargs:af=Qag (rho π H.length) ad)(hH:π.map (λp=>H[p]?)=(Hc.map (Yc (rho π H.length))).map some)(hπ:π.Nodup)
  (a7:(ps.all λp=>Nat.blt p N)=true)(eg:∀args w,(callFunc f args).run P w=.ok (.enter f args) w)(aw:QnG P f ad Hc enc nx xs)(ax:∀x,(enc x).length=ps.length)
  (bb:Le H.length env (Qeg H π) env (Hp s0))(hV:V s0 xs)
  (ak:∀s l x rem,V s l->nx l x rem->TC P H.length N assign (Qml ps (enc x) env) (Hp s) λe env1 H1=>e=.normal/\TC P H.length N body env1 H1 (QnH H.length env Q λH2=>∃s',V s' rem/\H2=Hp s'))
  (ai:∀s,V s []->Q .normal env (Hp s)):TC P h0 N (.rangeFunc ac ps.toArray assign body) env H Q:=by
 intro rd fr ro σ a w r hrd;have hv:=Ql r ac;rw[hg]at hv;obtain⟨l1,E,hv,a3,a0⟩:=hv;obtain rfl:l1=[]:=a3;refine wpIn_rangeFunc ?_;intro fn bh;obtain⟨l,G,w1,df,he,hl,bd,aq,az,a5,an,aa⟩:=Qnh (P:=P) (fn:=fn) (tmps:=a.tmps) (ps:=ps.toArray) (assign:=assign) (body:=body) (ro:=ro) hrd r.sim.roLt r.sim.frLt;have s1:=r.sim.beside aa az
 let D:Fix:=⟨fr,ro,σ,w,H.length,env,a.tmps,G++a.defers,l,(λst pe=>{state:=st,pending:=pe,fn:=fn,tmps:=a.tmps,params:=ps.toArray,assign:=assign,body:=body,defers:=df}),(λb=>fr b\/(w.heap.size<=b/\b<w1.heap.size))⟩
 have ag:¬fr l:=λq=>by have:=r.sim.frLt l q;omega
 have hD:D.Ok:=⟨λb q=>.inl q,.inr ⟨hl,bd⟩,ag,r.sim.len⟩;have M:QcK D.fr1 (G++a.defers) w1:=by
  refine⟨List.nodup_append.2 ⟨a5,r.defers.1,λd R d' bc e=>?_⟩,λd R=>?_⟩
  .subst e;obtain⟨B,e1,e2,_⟩:=an d R;obtain⟨B',au,a2,_⟩:=r.defers.2 d bc;rw[e1]at au;have:B=B':=by simpa using au
   subst this;have:=r.sim.frLt B a2;omega
  .rcases VA.1 R with R|R
   .obtain⟨B,e1,e2,e3,e4⟩:=an d R;exact⟨B,e1,.inr ⟨e2,e3⟩,e4⟩
   .obtain⟨B,e1,e2,e3⟩:=(r.defers.keep aa).2 d R;exact⟨B,e1,.inl e2,e3⟩
 obtain⟨sp,hσc⟩:=s1.part hH hπ;have am:LR ro (Yy σ π) w1 ad E:=(QbD hσc).1 (hargs▸a0.mono (aa.ext0 σ))
 let frX:Nat->Prop:=λb=>D.fr1 b\/(∃(j:Nat) (x:Blk),(Yy σ π)[j]?=some (some b)/\Hc[j]?=some x/\x.live=true)\/ ∃(j:Nat) (x:Blk) (d:Nat),(Yy σ π)[j]?=some (some d)/\Hc[j]?=some x/\Hid w1 x d b
 have sX:Sim frX ro σ (Qeg H π) w1:=by
  refine(QdX π s1).frames (λb q=>?_) (λb q r=>?_) (λi b x n m k r=>?_) (λi b x c n m k r=>?_)
  .rcases q with q|⟨j,x,n,m,k⟩|⟨j,x,d,n,m,k⟩
   .exact s1.frLt b q
   .exact(sp.own j b x n m k).1
   .exact(sp.hid j d x b n m k).lt
  .rcases r with r|⟨j,x,n,m,k⟩|⟨j,x,d,n,m,k⟩
   .exact s1.roFr b q r
   .exact(sp.own j b x n m k).2.1 q
   .exact(sp.hid j d x b n m k).ro q
  .rcases Qfx _ _ _ _ m with rfl|⟨m,hi⟩
   .cases k
   .rcases r with r|⟨j,y,p1,Y,p3⟩|⟨j,y,d,p1,Y,p3⟩
    .exact(s1.own i b x n m k).2.2 r
    .exact(sp.own j b y p1 Y p3).2.2 (.inr (.inl ⟨i,x,n,m,k,hi (QbI k)⟩))
    .exact(sp.hid j d y b p1 Y p3).fr (.inr (.inl ⟨i,x,n,m,k,hi (QbI k)⟩))
  .rcases Qfx _ _ _ _ m with rfl|⟨m,hi⟩
   .exact k.elim
   .rcases r with r|⟨j,y,p1,Y,p3⟩|⟨j,y,d,p1,Y,p3⟩
    .exact(s1.hid i b x c n m k).fr r
    .exact(sp.own j c y p1 Y p3).2.2 (.inr (.inr ⟨i,x,b,n,m,k,hi k.holds⟩))
    .exact(sp.hid j d y c p1 Y p3).fr (.inr (.inr ⟨i,x,b,n,m,k,hi k.holds⟩))
 have rX:Rel frX ro σ (Qeg H π) env N {a with defers:=G++a.defers} w1:=
  ⟨sX,λs=>(r.env s).mono (aa.ext0 σ),r.size,M.1,λd R=>let⟨B,e1,e2,e3⟩:=M.2 d R;⟨B,e1,.inl e2,e3⟩⟩
 obtain⟨ae,σ',r',ab,a8⟩:=bb frX ro σ N _ w1 rX;have hσt:σ.take H.length=σ:=by rw[<- r.sim.len,X7]
 let g0:Nat->Prop:=λb=>D.fr1 b\/(ae b/\ ¬ro b)\/(∃(i:Nat) (x:Blk),σ'[i]?=some (some b)/\(Hp s0)[i]?=some x/\x.live=true)\/ ∃(i:Nat) (x:Blk) (d:Nat),σ'[i]?=some (some d)/\(Hp s0)[i]?=some x/\Hid w1 x d b
 have j0:RJ D ae σ' (Hp s0) .ready none ro g0 w1:=by
  refine⟨r'.sim.frMono λb q=>.inl q,λt=>(r.env t).mono ⟨ab,aa.keepRo,aa.shape,λ_ _ q=>q⟩,a8.trans hσt,aa.trans (YO ab),M,aq,λb q=>?_,λb q=>.inl q,λi b x n m k=>.inr (.inr (.inl ⟨i,x,n,m,k⟩)),λi b x c n m k=>.inr (.inr (.inr ⟨i,x,b,n,m,k⟩)),λb q=>?_⟩
  .by_cases z:ro b
   .exact .inl z
   .exact .inr (.inr (.inl ⟨q,z⟩))
  .rcases q with q|q|⟨i,x,n,m,k⟩|⟨i,x,d,n,m,k⟩
   .exact s1.frLt b q
   .exact r'.sim.roLt b q.1
   .exact(r'.sim.own i b x n m k).1
   .exact(r'.sim.hid i d x b n m k).lt
 have sI:Sim g0 ro (Yy σ π) Hc w1:=by
  refine sp.frames (λb q=>j0.lt b q) (λb q z=>?_) (λj b x n m k z=>?_) (λj b x c n m k z=>?_)
  .rcases z with z|z|⟨i,x,n,m,k⟩|⟨i,x,d,n,m,k⟩
   .exact s1.roFr b q z
   .exact z.2 q
   .exact(r'.sim.own i b x n m k).2.1 (ab b q)
   .exact(r'.sim.hid i d x b n m k).ro (ab b q)
  .have hX:frX b:=.inr (.inl ⟨j,x,n,m,k⟩);rcases z with z|z|⟨i,y,p1,Y,p3⟩|⟨i,y,d,p1,Y,p3⟩
   .exact(sp.own j b x n m k).2.2 (.inl z)
   .exact r'.sim.roFr b z.1 hX
   .exact(r'.sim.own i b y p1 Y p3).2.2 hX
   .exact(r'.sim.hid i d y b p1 Y p3).fr hX
  .have hX:frX c:=.inr (.inr ⟨j,x,b,n,m,k⟩);rcases z with z|z|⟨i,y,p1,Y,p3⟩|⟨i,y,d,p1,Y,p3⟩
   .exact(sp.hid j b x c n m k).fr (.inl z)
   .exact r'.sim.roFr c z.1 hX
   .exact(r'.sim.own i c y p1 Y p3).2.2 hX
   .exact(r'.sim.hid i d y c p1 Y p3).fr hX
 let X:Ctx T:={l:=l,J:=λrem q g W=>∃s F σ1,V s rem/\RJ D F σ1 (Hp s) .ready none q g W,Jx:=λ_ q g W=>∃H2 c F σ1,Jump Q env c H2/\RJ D F σ1 H2 .done (some c) q g W,enc:=enc,nx:=nx}
 have av:∀p∈ps,p<N:=λp hp=>by simpa using Xt.1 a7 p hp
 have hX:X.ok P:=by
  refine⟨⟨λrem q g W W' ae ⟨s,F,σ1,L,O⟩ he=>⟨s,F,σ1,L,O.step hD he⟩,λrem q g g' W ⟨s,F,σ1,L,O⟩ hg hl=>⟨s,F,σ1,L,O.up hg hl⟩⟩,
   ⟨λrem q g W W' ae ⟨H2,c,F,σ1,L,O⟩ he=>⟨H2,c,F,σ1,L,O.step hD he⟩,λrem q g g' W ⟨H2,c,F,σ1,L,O⟩ hg hl=>⟨H2,c,F,σ1,L,O.up hg hl⟩⟩,?_⟩
  rintro lr x rem q g ri W vs a4 ⟨s,F,σ1,L,O⟩ hq hI bf;obtain⟨a9,tm,a6,ba,y1,y2⟩:=RJ.round (D:=D) (Q:=Q) (K:=λH2=>∃s',V s' rem/\H2=Hp s') hD rfl r.size av (ax x) hq hI bf O (ak s lr x rem L a4);refine⟨a9,tm,a6,ba,y1,RoundIn.mono y2 ?_⟩;rintro e W' ⟨g',k1,k2⟩;refine⟨g',ri,λ_ z=>z,k1,?_⟩;rcases k2 with⟨rfl,H2,u,σ2,⟨s',be,rfl⟩,k3⟩|⟨rfl,H2,c,u,σ2,k3,k4⟩
  .exact .inl ⟨rfl,s',u,σ2,be,k3⟩
  .exact .inr ⟨rfl,H2,c,u,σ2,k3,k4⟩
 have a1:∀(ev:Operand->Value),ev ac=.func (.func f) #[] E.toArray->ev (.const (.func (.yield l) #[] #[]))=.func (.yield l) #[] #[]->(resolve ev (rangeCall ac l) 0).run P w1=.ok {target:=.fn (.func f) E.toArray,args:= #[.func (.yield l) #[] #[]]} w1:=by
  intro ev L O;simp[resolve,go_sem,L,O]
 refine⟨l,G,w1,{target:=.fn (.func f) E.toArray,args:= #[.func (.yield l) #[] #[]]},w1,f, #[.func (.yield l) #[] #[]]++E.toArray,w1,he,a1 a.eval hv rfl,λ_ _=>trivial,by simp[invoke,go_sem,eg],λh=>by simp[WF,Fence.wide]at h,?_⟩;refine WF.calls.2 ?_;have aj:=aw X rfl rfl hX g0 ro (Yy σ π) w1 E ro sI (λ_ z=>z) am ⟨s0,ae,σ',hV,j0⟩;have al:(#[.func (.yield l) #[] #[]]++E.toArray:Array Value)=((Value.func (.yield X.l) #[] #[]::E)).toArray:=by simp[X]
 rw[al];refine Calls.mono aj ?_;rintro e W' ⟨⟨v,rfl⟩,g2,qz,bg,ay⟩;have fin:∀(H2:Qe) (st:LoopState) (pe:Option Code) (u:Nat->Prop) (σ2:Sig),st≠ .busy->RJ D u σ2 H2 st pe qz g2 W'->∃w4,(Instr.endLoop l).run P W'=.ok pe w4/\Rel D.fr1 u σ2 H2 env N {a with defers:=G++a.defers} w4/\Qi fr ro w u w4:=by
  intro H2 st pe u σ2 hst j;refine⟨_,run_endLoop j.rc (by exact hst),?_⟩;obtain⟨s5,ah⟩:=j.sim.put (obj:=.loop {(D.rc st pe)with state:=.exhausted}) hD.l1 (Qbn j.rc);have hr:=j.rc;refine⟨⟨s5,λt=>((j.env t).mono ⟨λ_ q=>q,λ_ _=>rfl,λ_ _ q=>q,λi b q=>Qd7 j.sig q⟩).mono (ah.ext0 σ2),r.size,j.marks.1,λd R=>?_⟩,j.ev.trans (ah.frMono λb q e=>ag (by have e':b=l:=e;rw[<- e'];exact q))⟩;obtain⟨B,e1,e2,e3⟩:=j.marks.2 d R;refine⟨B,e1,e2,(ah.keepFr B (λe=>?_)).trans e3⟩;subst e;rw[hr]at e3;cases e3
 have ar:Grow fr w a.defers D.fr1 (G++a.defers):=by
  refine⟨λb q=>.inl q,λb q=>q.imp id (λq=>q.1),λd R=>?_⟩;rcases VA.1 R with R|R
  .obtain⟨B,e1,e2,_⟩:=an d R;exact .inr ⟨B,e1,e2⟩
  .exact .inl R
 have ao:∀{σ2:Sig},σ2.take H.length=σ->σ2.take h0=σ.take h0:=by
  intro σ2 h;have:=congrArg (List.take h0) h
  rwa [List.take_take,XA hh]at this
 rcases ay with⟨s,u,σ2,L,O⟩|⟨rem,H2,c,u,σ2,L,O⟩
 .obtain⟨w4,f1,f2,f3⟩:=fin _ _ _ u σ2 (by intro e;cases e) O;exact⟨none,w4,f1,.normal,env,_,u,σ2,_,rfl,ai s L,f2,f3,ao O.sig,ar⟩
 .obtain⟨w4,f1,f2,f3⟩:=fin _ _ _ u σ2 (by intro e;cases e) O;refine⟨some c,w4,f1,?_⟩;have hc:TC P h0 N c env H2 Q:=by
   rcases L with⟨id,rfl,L⟩|⟨rfl,L⟩
   .exact TC.exit L
   .exact TC.ret L
  exact Code.wpIn_mono (λe a w q=>q.grow f3 (ao O.sig) ar) (hc rd D.fr1 u σ2 _ w4 f2 (hrd.to f3 λb q=>.inl q))
section
variable {P:Program} {T:Type} {ts tq te k tm:Nat} {g:FuncId} {es:List (A×A)} {e:T->List A} {ea:T->A} {xs:List T}
end
theorem QpH{T:Type}{X:Ctx T}{P:Program}{h0 N:Nat}{c:Code}{env env':Env}{H H':Qe}{l:YSt T}{Q:YS T}(j:Le h0 env H env' H')(h:TCy X P h0 N c env' H' l Q):TCy X P h0 N c env H l Q:=by
 intro x n k u σ a w g r hj hrd;obtain⟨d,σ',y,s,t⟩:=j k u σ N a w r;obtain⟨⟨p,m,f⟩,i⟩:=hj;exact Code.wpIn_mono (λe a w q=>q.grow s (XS _) t (Grow.refl _ _ _)) (h x n k d σ' a w g y ⟨⟨p,(by grind),f⟩,i⟩ hrd)
theorem Qmf{P:Program}{o:Oper}{env:Env}{H:Qe}{y z:Operand}{l:Nat}{a:A}{j:Array TypeId}(m:o.op=.call {callee:=.value y,args:= #[z],argTypes:=j})(g:opA env y=.fn (.yield l) [] [])(f:opA env z=a)(i:YC a=true){N:Nat}:
  ∀fr ro σ act w,Rel fr ro σ H env N act w->∃vs:List Value,LR ro [] w [a] vs/\(execOp act.eval o).run P w=(Instr.yield l vs.toArray).run P w:=by
 intro fr ro σ act w r;have d:=Ql r y;rw[g]at d;obtain⟨n,h,d,p,k⟩:=d;obtain rfl:n=[]:=p;obtain rfl:h=[]:=k;have e:=Ql r z;rw[f]at e;refine⟨[act.eval z],⟨_,_,rfl,VR.data i e,rfl⟩,?_⟩;generalize act.eval=ev at*;simp[execOp,m,resolve,invoke,go_sem,d]
theorem Qle{P:Program}{o:Oper}{env:Env}{H:Qe}{y a e:Operand}{l:Nat}{f k:A}{s:Array TypeId}(u:o.op=.call {callee:=.value y,args:= #[a,e],argTypes:=s})(p:opA env y=.fn (.yield l) [] [])(j:opA env a=f)(h:opA env e=k)(i:YC f=true)(g:YC k=true){N:Nat}:
  ∀fr ro σ act w,Rel fr ro σ H env N act w->∃vs:List Value,LR ro [] w [f,k] vs/\(execOp act.eval o).run P w=(Instr.yield l vs.toArray).run P w:=by
 intro fr ro σ act w r;have d:=Ql r y;rw[p]at d;obtain⟨x,q,d,z,t⟩:=d;obtain rfl:x=[]:=z;obtain rfl:q=[]:=t;have n:=Ql r a;rw[j]at n;have m:=Ql r e;rw[h]at m;refine⟨[act.eval a,act.eval e],⟨_,_,rfl,VR.data i n,_,_,rfl,VR.data g m,rfl⟩,?_⟩;generalize act.eval=ev at*;simp[execOp,u,resolve,invoke,go_sem,d]
section
variable {P:Program} {K V:Type} {tm tb ty tk kt et:Nat} {ek:K->A} {ev:V->A} {m:List (K×V)} {T:Type}
end
section
variable {P:Program} {o:Oper} {env:Env} {H:Qe} {fr ro:Nat->Prop} {σ:Sig} {w:World}
theorem Ql9{f i t b1 b2:Nat}{es:List (List A)}{l:List Ent}(e:H[i]?=some (.rowr t 3 es))(he:l.map (eC b1 b2)=es):Le f env H env (H.set i (.ents t b1 b2 l)):=by
 subst he;intro g d σ N a w r;refine⟨d,σ,⟨r.sim.weaken (x':=.ents t b1 b2 l) e rfl ?_,r.env,r.size,r.defers⟩,λ_ q=>q,rfl⟩;intro y h;cases y with
 |none=>exact h.elim
 |some b=>exact h
theorem Qdp{b1 b2:Nat}:∀(l:List Ent),allK 3 (l.map (eC b1 b2))
 |[]=>trivial
 |e::l=>⟨rfl,Qdp l⟩
theorem Sim.phantomE(s:Sim fr ro σ H w)(t b1 b2:Nat):Sim fr ro (σ++[none]) (H++[.ents t b1 b2 []]) w:=by
 have ext:Ext ro σ w ro (σ++[none]) w:=⟨λ_ q=>q,λ_ _=>rfl,λ_ _ q=>q,λ_ _ h=>Qac h⟩;have u:=s.len;have a:∀(j:Nat) (v:Blk),(H++[Blk.ents t b1 b2 []])[j]?=some v->(j<H.length/\H[j]?=some v)\/(j=H.length/\v=.ents t b1 b2 []):=by
  intro j v h;rcases Nat.lt_trichotomy j H.length with q|q|q
  .rw[XL q]at h;exact .inl ⟨q,h⟩
  .subst q;simp at h;exact .inr ⟨rfl,h.symm⟩
  .rw[XN (by simp;omega)]at h;cases h
 have hσ:∀(j:Nat) (z:Option Nat),(σ++[none])[j]?=some z->(j<σ.length/\σ[j]?=some z)\/(j=σ.length/\z=none):=by
  intro j z h;rcases Nat.lt_trichotomy j σ.length with q|q|q
  .rw[XL q]at h;exact .inl ⟨q,h⟩
  .subst q;simp at h;exact .inr ⟨rfl,h.symm⟩
  .rw[XN (by simp;omega)]at h;cases h
 refine⟨by simp[u],s.roOk,s.frLt,s.roFr,λi b x k g n=>?_,λi j b x y k g n B G L=>?_,λi z x k g=>?_,
  s.hidTo (· = ·) Yg (XS _) (λ_ _ _ _ _ _ _ q=>q) (λ_ _ _ _ _ _ _ q=>q) λj d y F J M=>.inl ?_⟩
 rotate_left 3
 .rcases hσ j _ F with⟨l,f⟩|⟨_,r⟩
  .rcases a j y J with⟨_,e⟩|⟨e,_⟩
   .exact⟨j,y,rfl,f,e,id,λ_ q=>q⟩
   .omega
  .cases r
 .rcases hσ i _ k with⟨l,f⟩|⟨_,r⟩
  .rcases a i x g with⟨_,e⟩|⟨e,_⟩
   .exact s.own i b x f e n
   .omega
  .cases r
 .rcases hσ i _ k with⟨l,f⟩|⟨_,r⟩
  .rcases hσ j _ g with⟨E,m⟩|⟨_,r⟩
   .rcases a i x n with⟨_,e⟩|⟨e,_⟩
    .rcases a j y B with⟨_,p⟩|⟨p,_⟩
     .exact s.inj i j b x y f m e p G L
     .omega
    .omega
   .cases r
  .cases r
 .rcases hσ i _ k with⟨l,f⟩|⟨l,rfl⟩
  .rcases a i x g with⟨_,e⟩|⟨e,_⟩
   .exact(s.blk i z x f e).keep ext (λ_ _ _=>rfl) (λ_ _ _ _=>rfl)
   .omega
  .rcases a i x g with⟨e,_⟩|⟨_,rfl⟩
   .omega
   .rfl
theorem Le.phantomE{h0 i m t T b1 b2:Nat}{cs:List A}(E:Nat.ble h0 H.length=true)(g:H[i]?=some (.cells T cs))(e:cs[m]?=some .nils):
  Le h0 env H env (H.set i (.cells T (cs.set m (.osl H.length 0 0 3)))++[.ents t b1 b2 []]):=by
 intro J j σ N a w r;have k:h0<=H.length:=XQ E;have x:i<H.length:=(XK.1 g).1;have ext:Ext j σ w j (σ++[none]) w:=⟨λ_ q=>q,λ_ _=>rfl,λ_ _ q=>q,λ_ _ h=>Qac h⟩;have s:=r.sim.phantomE t b1 b2;have d:(H++[Blk.ents t b1 b2 []])[i]?=some (.cells T cs):=by rw[XL x];exact g
 have B:H.set i (.cells T (cs.set m (.osl H.length 0 0 3)))++[.ents t b1 b2 []]=(H++[Blk.ents t b1 b2 []]).set i (.cells T (cs.set m (.osl H.length 0 0 3))):=by
  rw[List.set_append_left _ _ x]
 rw[B];refine⟨j,σ++[none],⟨s.weaken d rfl ?_,λq=>(r.env q).mono ext,r.size,r.defers⟩,λ_ q=>q,QH (by rw[r.sim.len];exact k)⟩;intro y h;cases y with
 |none=>exact h
 |some b=>
  obtain⟨l,u,G,z⟩:=h;refine⟨l,u,?_,z⟩;clear u z d B g
  induction cs generalizing m l with
  |nil=>cases e
  |cons c cs F=>
   obtain⟨v,f,rfl,n,p⟩:=G;cases m with
   |zero=>
    simp at e;subst e;exact⟨v,f,rfl,.inl ⟨rfl,n⟩,p⟩
   |succ m=>exact⟨v,f,rfl,n,F (by simpa using e) f p⟩
theorem QZ{h0 i m T:Nat}{cs:List A}(e:H[i]?=some (.cells T cs)):Le h0 env H env (H.set i (.cells T (cs.set m .any))):=by
 intro t s σ N a w r;refine⟨s,σ,⟨r.sim.weaken e rfl ?_,r.env,r.size,r.defers⟩,λ_ q=>q,rfl⟩;intro y h;cases y with
 |none=>exact h
 |some b=>
  obtain⟨l,f,g,k⟩:=h;refine⟨l,f,?_,k⟩;clear f k e
  induction cs generalizing m l with
  |nil=>exact g
  |cons c cs p=>
   obtain⟨v,d,rfl,n,j⟩:=g;cases m with
   |zero=>exact⟨v,d,rfl,trivial,j⟩
   |succ m=>exact⟨v,d,rfl,n,p d j⟩
theorem srcE{j m t b1 b2:Nat}{l:List Ent}{v:Value}(s:Sim fr ro σ H w)(g:H[j]?=some (.ents t b1 b2 l))(e:l.length=m)(h:VR ro σ w (.osl j 0 m 3) v):
  (∃a c,v=.slice a m c)/\ ∃vs:List Value,(∀w':World,w'.heap=w.heap->(Builtin.firstCells 3 m v).run P w'=.ok vs.toArray w')/\LR ro σ w (l.map (eC b1 b2)).flatten vs/\ ∀v∈vs,QA v:=by
 rcases h with⟨rfl,rfl⟩|⟨b,p,d,L,M,u,rfl,f,⟨J,z⟩,F,E⟩
 .have:l=[]:=VG.1 e;subst this;exact⟨⟨none,0,rfl⟩,[],λ_ _=>YP,rfl,by simp⟩
 .refine⟨⟨_,d,rfl⟩,?_⟩;obtain⟨N,q,x⟩:=s.blk j _ _ u g;have y:=YF (pre:=[]) (by simpa using q) x;by_cases B:0<d
  .obtain rfl:=f B;obtain⟨i,G,r⟩:=y.flat;have:=Qa8 (P:=P) (k:=3) (n:=m) (c:=d) i (by rw[r];simp[e]);simpa using this
  .obtain rfl:m=0:=by omega
   have:l=[]:=VG.1 e;subst this;exact⟨[],λ_ _=>YP,rfl,by simp⟩
theorem QnO{c:Call}{T T' t e' i j n m b1 b2:Nat}{x y:Operand}{l k:List Ent}(E:Ye P T t 3)(hd:∀w,(underlying T').run P w=.ok (.slice e') w)(G:Nat.ble (l.length+k.length) Yn=true)(ac:Nat.blt 0 n=true)
  (ho:o.op=.call c:=by exact rfl)(hc:c={callee:=.builtin .append,args:= #[x,y],argTypes:= #[T,T']}:=by exact rfl)(hx:opA env x=.osl i 0 n 3:=by exact rfl)(hH:H[i]?=some (.ents t b1 b2 l):=by exact rfl)(hn:l.length=n:=by exact rfl)
  (hy:opA env y=.osl j 0 m 3:=by exact rfl)(hHj:H[j]?=some (.ents t b1 b2 k):=by exact rfl)(hm:k.length=m:=by exact rfl):
  OpH P o env H (.osl H.length 0 (l++k).length 3) (H.set i .dead++[.ents t b1 b2 (l++k)]):=by
 intro fr s σ N a w r;have Y:=XQ G;have ah:0<n:=by simpa using ac
 have B:=Ql r x;rw[hx]at B;have h2:=Ql r y;rw[hy]at h2;obtain⟨⟨ay,cy,R⟩,vs,q3,q4,Q⟩:=srcE (P:=P) r.sim hHj hm h2;rw[R]at q3;obtain⟨_,d,o1,o2,o3⟩:=srcE (P:=P) r.sim hH hn B;have L:i<H.length:=(XK.1 hH).1;have ai:(H.set i .dead).length=H.length:=X2;rw[X0,hn,hm];rcases B with⟨q,_⟩|⟨b,p,cap,t',mm,V,B,h4,⟨h5,af⟩,h6,h7⟩
 .omega
 have J:=r.sim.blk i _ _ V hH;obtain⟨lb,g1,g2⟩:=J;have z:vs.length=m*3:=by rw[q4.length,Yt (Qdp k)];simp[hm]
 have O:d.length=n*3:=by rw[o2.length,Yt (Qdp l)];simp[hn]
 rw[B]at o1;by_cases f:n+m<=cap
 .obtain rfl:p=0*3:=h4 (by omega);have g:=QbR (t:=o.type) E hd (ad:=some ⟨b,0*3,none⟩) (n:=n) (m:=m) (cap:=cap) (c:=cy) (ax:=ay) f (q3 w rfl);have u:(n+m)*3<=lb.length:=by
   have:w.shape? b=some (t,lb.length):=by unfold World.shape?;rw[g1];simp
   rw[this]at h6;cases h6;exact XU (XB 3 f) (by simpa using h7)
  rw[Xz]at u;have M:=Yh (P:=P) (vs:=vs) (n*3) 0 g1 (by rw[z];simpa using u) Q;have h:=r.sim.set (x':=.ents t b1 b2 (l++k)) (obj:=.cells (splice lb (n*3) vs).toArray t (0,0)) V hH rfl
   (λy hy=>JA g1 (Yf (by rw[z];exact u)) y hy)
   (λex ae=>⟨_,ae,by
    have:=(g2.app (n:=n) (by simp[hn]) (Qdp k) q4 Q).mono ex;rw[VF (by simp[hn])]at this;rw[Xg];exact this⟩)
  have sm:=h.1.moved (i:=i) (Xa L) V;rw[List.set_set]at sm;refine⟨.slice (some ⟨b,0*3,none⟩) (n+m) cap,_,s,[some b],?_,.inr ⟨b,0*3,cap,t',mm,?_,rfl,h4,⟨f,af⟩,?_,h7⟩,sm,h.2⟩
  .refine YJ ho hc _ ?_;rw[B,R,g];simp only[Y6,Nat.zero_mul,Xv,Vj,M,Result.andThen,Vk];simp
  .rw[<- r.sim.len];simp
  .exact h.2.shape _ _ h6
 .obtain⟨e,nc,ab,W,g⟩:=Qfj (t:=o.type) E hd rfl (by omega) (by omega) q3 o1
  let w0:World:={w with drawn:=w.drawn+1}
  have F:Sim fr s σ (H.set i .dead) w0:=(r.sim.kill i).heap rfl;have e0:Qi fr s w s w0:=Qi.heap rfl rfl rfl rfl (Nat.le_succ _);have ag:LR s σ w0 ((l++k).map (eC b1 b2)).flatten (d++vs):=by
   rw[Xg,Xs];exact(o2.append q4).mono (Ext.heap (w:=w) (w':=w0) rfl)
  have aa:∀v∈d++vs,QA v:=λv hv=>by rcases VA.1 hv with q|q;exact o3 v q;exact Q v q
  have s1:=F.alloc (x:=.ents t b1 b2 (l++k)) (obj:=.cells ((d++vs)++e).toArray t) ⟨(d++vs)++e,Q9 _ _,(Y1 (Qdp _) ag aa).mono ((Qi.alloc (fr:=fr) _ F.roLt F.frLt).ext σ _)⟩;have X:Qi fr s w0 s (w0.alloc (.cells ((d++vs)++e).toArray t)):=Qi.alloc _ F.roLt F.frLt;refine⟨_,_,s,[some w.heap.size],YJ ho hc a.eval (by rw[B,R];exact g),.inr ⟨w.heap.size,0,nc,t,(d++vs++e).length,?_,rfl,λ_=>by simp,ab,?_,?_⟩,s1,e0.trans X⟩
  .rw[<- r.sim.len];simp
  .have:=Q9 w0 (.cells ((d++vs)++e).toArray t);unfold World.shape?;rw[show w.heap.size=w0.heap.size from rfl,this];simp
  .simp only[X0,W,O,z,Xv];omega
theorem Qha{c:Call}{T T' t e' i j n m b1 b2:Nat}{x y:Operand}{e d r:List Ent}(h:app e d=some r)(E:Ye P T t 3)(f:∀w,(underlying T').run P w=.ok (.slice e') w)(a:Nat.blt 0 n=true)
  (k:o.op=.call c:=by exact rfl)(hc:c={callee:=.builtin .append,args:= #[x,y],argTypes:= #[T,T']}:=by exact rfl)(hx:opA env x=.osl i 0 n 3:=by exact rfl)(hH:H[i]?=some (.ents t b1 b2 e):=by exact rfl)(hn:e.length=n:=by exact rfl)
  (hy:opA env y=.osl j 0 m 3:=by exact rfl)(hHj:H[j]?=some (.ents t b1 b2 d):=by exact rfl)(hm:d.length=m:=by exact rfl):
  OpH P o env H (.osl H.length 0 r.length 3) (H.set i .dead++[.ents t b1 b2 r]):=by
 obtain⟨g,rfl⟩:=QhW h;exact QnO E f (XR g) a k hc hx hH hn hy hHj hm
theorem Pts.ents{i off t e f b1 b2:Nat}{l:List Ent}{x:Ent}{cs':List A}(he:l[e]?=some x)(j:H[i]?=some (.ents t b1 b2 l):=by exact rfl)(ho:off=e*3+f:=by exact rfl)(hcs:(eC b1 b2 x).drop f=cs':=by exact rfl):Pts H (.ptr i off) cs':=by
 intro n p σ w v s h;obtain⟨b,k,g⟩:=h;obtain⟨q,d,m⟩:=s.blk i _ _ k j;have a:(l.map (eC b1 b2))[e]?=some (eC b1 b2 x):=by rw[Xo,he];rfl
 have:=((YF (pre:=[]) (by simpa using d) m).get e a).2.drop f;refine⟨b,off,g,?_⟩;rw[<- hcs,ho];simpa using this
def Qgp(cs:List A)(s:Int)(e:Ent):Option Int:=bif e.fl then(bif e.off==0 then some s else none)else match cs[e.off]? with
 |some (.int .i64 v)=>some v
 |_=>none
def QjC{F:Type}(put:F->Nat->Int->Option F)(x:F)(s:Int)(e:Ent)(v:Int):Option (F×Int):=
 bif e.fl then(bif e.off==0 then some (x,v)else none)else(put x e.off v).map λy=>(y,s)
abbrev QhQ(b1 b2:Nat)(e:Ent):A:=.ptr (bif e.fl then b2 else b1) e.off
theorem Qni{l:List A}{i:Nat}{a:A}(h:l[i]?=some a):∃r,l.drop i=a::r:=by
 obtain⟨d,rfl⟩:=XK.1 h;exact⟨_,Xp d⟩
theorem Qcs{t b1 b2 T1 T2:Nat}{x:Operand}{e:Ent}{cs:List A}{s v:Int}(h:Qgp cs s e=some v)(i:∀w,(isAgg t).run P w=.ok false w)(j:o.op=.load t x:=by exact rfl)(hx:opA env x=QhQ b1 b2 e:=by exact rfl)
  (h1:H[b1]?=some (.cells T1 cs):=by exact rfl)(h2:H[b2]?=some (.cells T2 [.int .i64 s]):=by exact rfl):OpV P o env H (.int .i64 v):=by
 unfold Qgp at h;unfold QhQ at hx;cases g:e.fl with
 |true=>
  rw[g]at h hx;simp only[Vl]at h hx;cases f:e.off==0 with
  |false=>rw[f]at h;cases h
  |true=>
   rw[f]at h;have p:e.off=0:=by simpa using f
   rw[p]at hx;have m:s=v:=by simpa using h
   subst m;exact OpV.load j i hx (Pts.cells (cs':=[.int .i64 s]) h2 rfl)
 |false=>
  rw[g]at h hx;simp only[Vm]at h hx;cases d:cs[e.off]? with
  |none=>rw[d]at h;cases h
  |some a=>
   rw[d]at h;obtain⟨r,l⟩:=Qni d;cases a with
   |int k n=>
    cases k<;>first|(cases h;exact OpV.load j i hx (Pts.cells h1 l))|cases h
   |_=>cases h
theorem Qjt{l:List A}{i:Nat}{a:A}(h:i<l.length):splice l i [a]=l.set i a:=by
 unfold splice;rw[List.set_eq_take_append_cons_drop,Vq h];simp
theorem Qie{i:Nat}{b:Blk}(h:H[i]?=some b):H.set i b=H:=by
 apply List.ext_getElem?;intro j;rw[Xb];by_cases e:i=j
 .subst e;rw[Vq rfl,Vq (XK.1 h).1,h]
 .rw[Vp e]
theorem Qkd{F:Type}{c:F->List A}{put:F->Nat->Int->Option F}{t b1 b2 T1 T2:Nat}{x y:Operand}{e:Ent}{f f':F}{s s' v:Int}(h:QjC put f s e v=some (f',s'))(a:∀x o v y,put x o v=some y->c y=(c x).set o (.int .i64 v)/\o<(c x).length)
  (l:∀w,(sizeOf t).run P w=.ok 1 w)(n:o.op=.store t x y:=by exact rfl)(hx:opA env x=QhQ b1 b2 e:=by exact rfl)(h1:H[b1]?=some (.cells T1 (c f)):=by exact rfl)(h2:H[b2]?=some (.cells T2 [.int .i64 s]):=by exact rfl)(hy:opA env y=.int .i64 v:=by exact rfl)
  (hb:Nat.beq b1 b2=false:=by exact rfl):OpU P o env H ((H.set b1 (.cells T1 (c f'))).set b2 (.cells T2 [.int .i64 s'])):=by
 have i:b1≠b2:=λq=>by subst q;rw[VC]at hb;cases hb
 unfold QjC at h;unfold QhQ at hx;cases k:e.fl with
 |true=>
  rw[k]at h hx;simp only[Vl]at h hx;cases d:e.off==0 with
  |false=>rw[d]at h;cases h
  |true=>
   rw[d]at h;have u:e.off=0:=by simpa using d
   rw[u]at hx;obtain⟨rfl,rfl⟩:f=f'/\v=s':=by simpa using h
   rw[Qie h1];exact OpU.store (cs:=[.int .i64 s]) (vs:=[.int .i64 v]) (cs':=[.int .i64 v]) (v:=.int .i64 v) n hx h2 l hy rfl rfl rfl rfl rfl rfl
 |false=>
  rw[k]at h hx;simp only[Vm]at h hx;cases j:put f e.off v with
  |none=>rw[j]at h;cases h
  |some g=>
   rw[j]at h;obtain⟨rfl,rfl⟩:g=f'/\s=s':=by simpa using h
   obtain⟨p,m⟩:=a _ _ _ _ j;have r:(H.set b1 (.cells T1 (c g)))[b2]?=some (.cells T2 [.int .i64 s]):=by rw[XO i];exact h2
   rw[Qie r];exact OpU.store (cs:=c f) (vs:=[.int .i64 v]) (cs':=c g) (v:=.int .i64 v) n hx h1 l hy rfl rfl rfl rfl (XR m) (by rw[Qjt m,p])
end
section
variable {P:Program} {h0 N:Nat} {A B C:Code} {env:Env} {H:Qe} {Q:QR}
theorem QnD{S B1:Type}{b:Ctl S B1}(Eb:S->Env)(Hb:S->Qe)(h:TC P h0 N A env H (Seq P h0 N B (Qhc h0 b Eb Hb (Seq P h0 N C Q))))(k:∀s env H,b=.cont s->Le h0 env H (Eb s) (Hb s)->Seq P h0 N C Q .normal env H):TC P h0 N (.seq A (.seq B C)) env H Q:=by
 refine TC.seq (h.mono λx env' H' q=>?_);cases x with
 |normal=>exact TC.seq (Qk1 Eb Hb q k)
 |exit id=>exact q
 |ret=>exact q
end
section
variable {P:Program} {o:Oper} {env:Env} {H:Qe}
theorem QfG{f g:Nat->Option (Nat×Nat)}:∀(parts:List (Nat×Value)) (cs:Array Value),(∀p∈parts,f p.1=g p.1)->Instr.fill f cs parts=Instr.fill g cs parts
 |[],cs,_=>rfl
 |(i,v)::rest,cs,h=>by
  unfold Instr.fill;rw[h (i,v) (by simp)];have ih:=λcs=>QfG rest cs (λp hp=>h p (by simp[hp]));cases g i with
  |none=>rfl
  |some p=>
   obtain⟨off,size⟩:=p;simp only;split
   .rfl
   .exact ih _
theorem JK{t e n k:Nat}{z:Value}{zs cs:List A}{parts:List (Nat×Operand)}(j:∀w,(zeroValue t).run P w=.ok z w)(B:ZR (.agg zs) z)(g:∀w,(underlying t).run P w=.ok (.array n e) w)(s:∀w,(sizeOf e).run P w=.ok k w)
  (G:(parts.all λp=>Nat.blt p.1 n)=true)(E:o.op=.build t parts.toArray:=by exact rfl)(hf:Qek env ((List.range n).map λi=>(i*k,k)) zs parts=some cs:=by exact rfl):OpV P o env H (.agg cs):=by
 intro L u σ N a w r;obtain⟨l,rfl,x⟩:=B u σ w;obtain⟨f,F,y⟩:=QfH r parts zs l cs x hf;refine⟨.agg f.toArray,?_,f,rfl,y⟩;have h:Instr.fill (λi=>some (i*k,k)) l.toArray (parts.map λp=>(p.1,a.eval p.2))=some f.toArray:=by
  rw[<- F];refine QfG _ _ ?_;intro p J;obtain⟨q,m,rfl⟩:=Xf.1 J;have d:q.1<n:=by simpa using Xt.1 G q m
  simp[d]
 generalize hρ:a.eval=ρ at*;simp only[execOp,E,Instr.build,Vj,j,Result.andThen,g,s,XH,Vk,Value.cells,h]
def YT(k:IntKind)(m n:Int):Int:=k.wrap (BitVec.ofInt k.bits m&&& BitVec.ofInt k.bits n).toNat
def orI(k:IntKind)(m n:Int):Int:=k.wrap (BitVec.ofInt k.bits m|||BitVec.ofInt k.bits n).toNat
def Qgl(k:IntKind)(m n:Int):Int:=k.wrap (BitVec.ofInt k.bits m^^^BitVec.ofInt k.bits n).toNat
def Qfe(k:IntKind)(m n:Int):Int:=k.wrap (m*2^(min n.toNat k.bits))
def Yo(k:IntKind)(m n:Int):Int:=m.fdiv (2^(min n.toNat k.bits))
theorem OpV.and{t u:TypeId}{x y:Operand}{k:IntKind}{m n:Int}(g:o.op=.binOp .and t x y u)(h:opA env x=.int k m)(e:opA env y=.int k n):OpV P o env H (.int k (YT k m n)):=by
 intro j i σ N a w r;have d:=QB r h;have f:=QB r e;refine⟨_,?_,rfl⟩;generalize a.eval=ρ at*;simp[execOp,g,d,f,Go.binOp,eqGuard,Op.intBits,go_sem,YT]
theorem OpV.or{t u:TypeId}{x y:Operand}{k:IntKind}{m n:Int}(g:o.op=.binOp .or t x y u)(h:opA env x=.int k m)(e:opA env y=.int k n):OpV P o env H (.int k (orI k m n)):=by
 intro j i σ N a w r;have d:=QB r h;have f:=QB r e;refine⟨_,?_,rfl⟩;generalize a.eval=ρ at*;simp[execOp,g,d,f,Go.binOp,eqGuard,Op.intBits,go_sem,orI]
theorem OpV.xor{t u:TypeId}{x y:Operand}{k:IntKind}{m n:Int}(g:o.op=.binOp .xor t x y u)(h:opA env x=.int k m)(e:opA env y=.int k n):OpV P o env H (.int k (Qgl k m n)):=by
 intro j i σ N a w r;have d:=QB r h;have f:=QB r e;refine⟨_,?_,rfl⟩;generalize a.eval=ρ at*;simp[execOp,g,d,f,Go.binOp,eqGuard,Op.intBits,go_sem,Qgl]
theorem OpV.shl{t u:TypeId}{x y:Operand}{k i:IntKind}{m n:Int}(j:o.op=.binOp .shl t x y u)(f:opA env x=.int k m)(d:opA env y=.int i n)(g:0<=n):OpV P o env H (.int k (Qfe k m n)):=by
 intro l p σ N a w r;have h:=QB r f;have e:=QB r d;refine⟨_,?_,rfl⟩;generalize a.eval=ρ at*;simp[execOp,j,h,e,Go.binOp,eqGuard,Op.shift,go_sem,Qfe,Int.not_lt.2 g]
theorem OpV.shr{t u:TypeId}{x y:Operand}{k i:IntKind}{m n:Int}(j:o.op=.binOp .shr t x y u)(f:opA env x=.int k m)(d:opA env y=.int i n)(g:0<=n):OpV P o env H (.int k (Yo k m n)):=by
 intro l p σ N a w r;have h:=QB r f;have e:=QB r d;refine⟨_,?_,rfl⟩;generalize a.eval=ρ at*;simp[execOp,j,h,e,Go.binOp,eqGuard,Op.shift,go_sem,Yo,Int.not_lt.2 g]
theorem QaZ{h0 i m t k T:Nat}{cs:List A}(F:Nat.ble h0 H.length=true)(g:H[i]?=some (.cells T cs))(e:cs[m]?=some .nils):
  Le h0 env H env (H.set i (.cells T (cs.set m (.osl H.length 0 0 k)))++[.row t k []]):=by
 intro L j σ N a w r;have n:h0<=H.length:=XQ F;have z:i<H.length:=(XK.1 g).1;have ext:Ext j σ w j (σ++[none]) w:=⟨λ_ q=>q,λ_ _=>rfl,λ_ _ q=>q,λ_ _ h=>Qac h⟩;have s:=r.sim.phantom t k;have d:(H++[Blk.row t k []])[i]?=some (.cells T cs):=by rw[XL z];exact g
 have E:H.set i (.cells T (cs.set m (.osl H.length 0 0 k)))++[.row t k []]=(H++[Blk.row t k []]).set i (.cells T (cs.set m (.osl H.length 0 0 k))):=by
  rw[List.set_append_left _ _ z]
 rw[E];refine⟨j,σ++[none],⟨s.weaken d rfl ?_,λq=>(r.env q).mono ext,r.size,r.defers⟩,λ_ q=>q,QH (by rw[r.sim.len];exact n)⟩;intro y h;cases y with
 |none=>exact h
 |some b=>
  obtain⟨l,x,J,B⟩:=h;refine⟨l,x,?_,B⟩;clear x B d E g
  induction cs generalizing m l with
  |nil=>cases e
  |cons c cs G=>
   obtain⟨v,f,rfl,p,u⟩:=J;cases m with
   |zero=>
    simp at e;subst e;exact⟨v,f,rfl,.inl ⟨rfl,p⟩,u⟩
   |succ m=>exact⟨v,f,rfl,p,G (by simpa using e) f u⟩
theorem Qd3{l i s j n k:Nat}{x:Blk}(B:lk env s=.osl i j n k)(g:H[i]?=some x)(z:Nat.ble l H.length=true):Le l env H (up env s (.osl H.length j n k)) (H.set i .dead++[x]):=by
 intro G f σ N a w r;have F:i<σ.length:=by rw[r.sim.len];exact(XK.1 g).1
 have hσ:σ[i]?=some σ[i]:=XJ F;have ext:Ext f σ w f (σ++[σ[i]]) w:=⟨λ_ q=>q,λ_ _=>rfl,λ_ _ q=>q,λ_ _ h=>Qac h⟩;refine⟨f,σ++[σ[i]],⟨r.sim.moved g hσ,?_,r.size,r.defers⟩,λ_ q=>q,QH (by rw[r.sim.len];exact XQ z)⟩;intro d;simp only[lk];by_cases q:d=s
 .subst q;rw[VC];have:=r.env d;rw[B]at this;rcases this with h|⟨b,p,e,t,m,E,u⟩
  .exact .inl h
  .refine .inr ⟨b,p,e,t,m,?_,u⟩;rw[E]at hσ;rw[<- r.sim.len];simpa using hσ.symm
 .have:Nat.beq d s=false:=by
   rw[VJ];intro y;exact q (XP y)
  rw[this];exact(r.env d).mono ext
def Q6(n:Int):UInt8:=n.toNat.toUInt8
def Qj8(P:Program)(H:Qe)(x:A)(l:List Int):Prop:=
 ∀fr ro σ w v,Sim fr ro σ H w->VR ro σ w x v->(∃a c,v=.slice a 0 c/\l=[])\/ ∃b off c,v=.slice (some ⟨b,off,none⟩) l.length c/\(l=[]\/CR ro σ w b (l.map λn=>A.int .u8 n) off)
theorem QhB:∀(l:List Int),(l.map (λn=>[A.int .u8 n])).flatten=l.map λn=>A.int .u8 n
 |[]=>rfl
 |n::l=>by simp[QhB l]
theorem Qj8.nils:Qj8 P H .nils []:=λfr ro σ w v s h=>.inl ⟨none,0,h,rfl⟩
theorem Qj8.row{i t n:Nat}{l:List Int}(j:H[i]?=some (.row t 1 (l.map λn=>[A.int .u8 n])):=by exact rfl)(hn:l.length=n:=by exact rfl):Qj8 P H (.osl i 0 n 1) l:=by
 intro u E σ w v s h;rcases h with⟨rfl,rfl⟩|⟨b,p,a,x,m,k,rfl,g,⟨z,r⟩,B,y⟩
 .exact .inl ⟨none,0,rfl,VG.1 hn⟩
 .refine .inr ⟨b,p,a,by rw[hn],?_⟩;by_cases d:l=[]
  .exact .inl d
  .have:0<a:=by have:=List.length_pos_iff.2 d;omega
   obtain rfl:=g this;obtain⟨F,f,q⟩:=s.blk i _ _ k j;have e:=(YF (pre:=[]) (by simpa using f) q).flat.1;rw[QhB]at e;exact .inr (by simpa using e.lift)
theorem Qj8.rsl{l:List Int}:Qj8 P H (.rsl 1 (l.map λn=>[A.int .u8 n])) l:=by
 intro h i σ w v s ⟨a,c,h1,h2,d⟩;subst h1;rw[XZ]at*;rcases d with d|⟨b,e,rfl,j,g⟩
 .have:l=[]:=List.map_eq_nil_iff.1 d;subst this;exact .inl ⟨a,c,by simp,rfl⟩
 .have f:=g.flat.1;rw[QhB]at f;exact .inr ⟨b,e,c,rfl,.inr f.lift⟩
theorem QcB{ro:Nat->Prop}{σ:Sig}{w:World}{b:Nat}:∀(l:List Int) (off:Nat) (a:ByteArray),CR ro σ w b (l.map λn=>A.int .u8 n) off->(Extern.Bytes.loadBytes ⟨b,off,none⟩ l.length a).run P w=.ok ⟨a.data++(l.map Q6).toArray⟩ w
 |[],off,a,_=>by simp[Extern.Bytes.loadBytes,go_sem]
 |n::l,off,a,⟨⟨v,h1,hp,h2⟩,h3⟩=>by
  have h2':v=.int .u8 n:=h2;subst h2';have ih:=QcB l (off+1) (a.push n.toNat.toUInt8) h3;have hl:(Go.load ⟨b,off,none⟩).run P w=.ok (.int .u8 n) w:=by simp[Go.load,Sem.run,h1]
  simp only[XY,Extern.Bytes.loadBytes,Vj,hl,Result.andThen];have d:(⟨b,off,none⟩:Addr).add 1=⟨b,off+1,none⟩:=by simp[Y6]
  rw[d,ih];simp[Q6,ByteArray.push]
theorem Qea{fr ro:Nat->Prop}{σ:Sig}{w:World}{x:A}{l:List Int}{v:Value}(h:Qj8 P H x l)(s:Sim fr ro σ H w)(f:VR ro σ w x v):(Extern.Bytes.bytesOf v).run P w=.ok ⟨(l.map Q6).toArray⟩ w:=by
 rcases h fr ro σ w v s f with⟨a,c,rfl,rfl⟩|⟨b,d,c,rfl,e⟩
 .cases a with
  |none=>simp[Extern.Bytes.bytesOf,go_sem];rfl
  |some a=>simp[Extern.Bytes.bytesOf,Extern.Bytes.loadBytes,go_sem];rfl
 .rcases e with rfl|e
  .simp[Extern.Bytes.bytesOf,Extern.Bytes.loadBytes,go_sem];rfl
  .have:=QcB (P:=P) l d .empty e;simp only[Extern.Bytes.bytesOf,this];congr 2;simp[ByteArray.empty,ByteArray.emptyWithCapacity];rfl
def cmpB(l m:List Int):Int:=Lib.compareBytes (l.map Q6) (m.map Q6)
theorem OpV.cmpB{c:Call}{f:FuncId}{fn:Func}{x y:Operand}{u:Array TypeId}{ax i:A}{l m:List Int}(n:P.funcs[f]?=some fn)(d:(fn.name=="runtime.NumGoroutine")=false)(B:fn.body.isNone=true)(q:Extern.findNext fn=none)(he:Extern.find fn=some Extern.BytealgCompare.compare)
  (t:Qj8 P H ax l)(p:Qj8 P H i m)(E:o.op=.call c:=by exact rfl)(hc:c={callee:=.value (.func f),args:= #[x,y],argTypes:=u}:=by exact rfl)(hx:opA env x=ax:=by exact rfl)(hy:opA env y=i:=by exact rfl):OpV P o env H (.int .i64 (cmpB l m)):=by
 intro F G σ N a w r;have h:=Ql r x;rw[hx]at h;have g:=Ql r y;rw[hy]at g;have z:=Qea t r.sim h;have s:=Qea p r.sim g;refine⟨.int .i64 (Sw.cmpB l m),?_,rfl⟩;subst hc;have e:a.eval (.func f)=.func (.func f) #[] #[]:=rfl;have j:(callFunc f #[a.eval x,a.eval y]).run P w=.ok (.value (.int .i64 (Sw.cmpB l m))) w:=by
  rw[run_callFunc_extern n d B q he];have k:Sem.run P (Extern.BytealgCompare.compare #[a.eval x,a.eval y]) w=.ok (.int .i64 (Sw.cmpB l m)) w:=by
   change Sem.run P (do pure (goInt (Extern.BytealgCompare.cmp (<- Extern.Bytes.bytesOf (a.eval x)) (<- Extern.Bytes.bytesOf (a.eval y))))) w=_;simp only[Vj,z,s,Result.andThen,Vk,Lib.cmp_eq];rfl
  rw[k];rfl
 generalize a.eval=ρ at*;simp only[execOp,E,resolve,e,Deferred.ofValue,invoke,Vj,Vk,Result.andThen];simpa using j
theorem Y2{t u n k b off j:Nat}{x y:Operand}{i:Int}{p:IntKind}(h:(i==(j:Int))=true)(E:Nat.blt j n=true)(z:∀w,(underlying t).run P w=.ok (.array n u) w)(G:∀w,(sizeOf u).run P w=.ok k w)(l:Nat.ble 2 n=true)
  (M:o.op=.indexAddr t x y:=by exact rfl)(hx:opA env x=.ptr b off:=by exact rfl)(hy:opA env y=.int p i:=by exact rfl):OpV P o env H (.ptr b (off+j*k)):=by
 intro O Q σ N a w r;have f:=Ql r x;rw[hx]at f;obtain⟨e,f,B⟩:=f;have s:=Ql r y;rw[hy]at s;have m:a.eval y=.int p i:=s;have L:i=(j:Int):=by simpa using h
 have g:j<n:=by simpa using E
 have F:2<=n:=XQ l;subst L;refine⟨.pointer (some ⟨e,off+j*k,none⟩),?_,e,f,rfl⟩;have J:0<=(j:Int)/\(j:Int)<(n:Int):=by omega
 have d:(⟨e,off,none⟩:Addr).add ((j:Int).toNat*k)=⟨e,off+j*k,none⟩:=by
  unfold Addr.add;split
  .rename_i q;simp at q;simp[q]
  .simp
 generalize a.eval=ρ at*;simp[execOp,M,B,m,Instr.indexAt,asIntOf,z,G,Instr.sureAddr,J,d,go_sem,Result.andThen,g]
end
theorem QmL{P:Program}{W:World}{name:String}{d:DataW Unit}:∀{a:List (String×DataW Unit)} {ps:List MemPlace},DataW.LaidVars P W a ps->(name,d)∈a->
  ∃(g:Nat) (t:TypeId) (cs:Array Value) (e:Nat) (p:List MemPlace),P.globalNamed name=some g/\(P.globals[g]?).map (·.type)=some t/\W.var? P name=some cs/\DataW.trod (λ_=>()) P W 0 (λ_=>true) false e t cs.toList=some (d,p):=by
 intro a
 induction a with
 |nil=>simp
 |cons x a k=>
  intro ps h r;obtain⟨g,t,cs,e,p,q,l,j,f,m,i,n⟩:=h
  grind
theorem Yr{P:Program}{W:World}{name:String}{a b:Int}{g t e:Nat}{k m:Field}{d:List (String×DataW Unit)}{ps:List MemPlace}(h:DataW.LaidVars P W d ps)(Q:(name,DataW.agg [.lit (.int .i64 a),.lit (.int .i64 b)])∈d)
  (hg:P.globalNamed name=some g)(j:(P.globals[g]?).map (·.type)=some t)(w:P.underlying t=some (.struct #[k,m]))(R:k.type=e)(B:m.type=e)(O:k.offset=0)(L:m.offset=1)(he:P.underlying e=some (.int .i64))(f:P.cellsOf e=1)(l:P.cellsOf t=2):
  W.cell? ⟨g,0,none⟩=some (.int .i64 a)/\W.cell? ⟨g,1,none⟩=some (.int .i64 b):=by
 obtain⟨g',Y,T,q,p,G,M,r,x⟩:=QmL h Q;obtain rfl:=XX (hg.symm.trans G);obtain rfl:=XX (j.symm.trans M);obtain⟨V,y1,n,X,H,u,s⟩:=Go.ChangeShapes.trod_struct2 w x;rw[R,O,f]at u;rw[B,L,f]at s;obtain⟨z,J,E,_⟩:=DataW.trod_int he u;obtain⟨y,F,N,_⟩:=DataW.trod_int he s;subst E N;have i:a=z/\b=y:=by grind
 obtain⟨rfl,rfl⟩:=i;rw[World.var?_cell hg r,World.var?_cell hg r];rw[l]at H;constructor
 .have:=congrArg (·[0]?) J
  grind
 .have:=congrArg (·[0]?) F
  grind
theorem JF{w:World}{g:Nat}{a b:Int}(s:w.cell? ⟨g,0,none⟩=some (.int .i64 a)/\w.cell? ⟨g,1,none⟩=some (.int .i64 b)):∀(zs:List Int),some [a,b]=some zs->∀(i:Nat) (z:Int),zs[i]?=some z->w.cell? ⟨g,i,none⟩=some (.int .i64 z)
 |zs,h,0,z,hi=>by grind
 |zs,h,1,z,hi=>by grind
 |zs,h,i+2,z,hi=>by grind
def Qbr:Option Blk->Bool
 |some .dead=>true
 |_=>false
def Qao(hB hE:Nat)(H H':Qe):Bool:=(List.range (hE-hB)).all λp=> !Qbr H'[hB+p]? ||Qbr H[hB+p]?
def Qk9(hB hE:Nat)(σ:Sig)(H:Qe):Prop:=∀p,hB<=p->p<hE->Qbr H[p]?=true->σ[p]?=some none
theorem QlK{hB hE:Nat}{H H':Qe}(h:Qao hB hE H H'=true){p:Nat}(d:hB<=p)(e:p<hE)(a:Qbr H'[p]?=true):Qbr H[p]?=true:=by
 have:=Xt.1 h (p-hB) (List.mem_range.2 (by omega));rw[show hB+(p-hB)=p by omega,a]at this;simpa using this
theorem Sim.allocAt{fr ro:Nat->Prop}{σ:Sig}{H:Qe}{w:World}(s:Sim fr ro σ H w){p:Nat}(M:σ[p]?=some none){obj:Obj}{x:Blk}
  (P:BR ro (σ.set p (some w.heap.size)) (w.alloc obj) x (some w.heap.size))
  (F:∀c,Hid (w.alloc obj) x w.heap.size c->False:=by exact λ_ h=>h.elim):Sim fr ro (σ.set p (some w.heap.size)) (H.set p x) (w.alloc obj):=by
 have ev:Qi fr ro w ro (w.alloc obj):=Qi.alloc obj s.roLt s.frLt;have u:=s.len;have E:p<σ.length:=(XK.1 M).1;have t:Ext ro σ w ro (σ.set p (some w.heap.size)) (w.alloc obj):=⟨ev.sub,ev.keepRo,ev.shape,λi b q=>by
  rw[XO (λz=>by subst z;rw[M]at q;cases q)];exact q⟩
 have e:∀(i:Nat) (y:Option Nat),(σ.set p (some w.heap.size))[i]?=some y->(i≠p/\σ[i]?=some y)\/(i=p/\y=some w.heap.size):=by
  intro i y h;by_cases q:i=p
  .subst q;rw[Xa E]at h;exact .inr ⟨rfl,(XX h).symm⟩
  .rw[XO (λz=>q z.symm)]at h;exact .inl ⟨q,h⟩
 have m:∀i:Nat,i≠p->(H.set p x)[i]?=H[i]? :=λi O=>XO (λz=>O z.symm);have J:(H.set p x)[p]?=some x:=Xa (by omega);refine⟨by simp[u],s.roOk.to (λ_ q=>q) ev.keepRo (λb h=>?_),λb h=>?_,s.roFr,?_,?_,?_,s.hidTo (· = ·) Yg (by rw[Jd];omega) (λ_ _ _ _ _ _ _ q=>q) (λ_ _ _ _ _ _ _ q=>q) λj d y l k Q=>?_⟩
 rotate_left 5
 .rcases e j _ l with⟨q,l⟩|⟨rfl,n⟩
  .rw[m j q]at k;exact .inl ⟨j,y,rfl,l,k,id,λc q=>s.hidKeep l k (λz=>YD w obj d (s.own j d y l k z).1) ev.keepRo q⟩
  .rw[J]at k;cases k;cases n;exact .inr ⟨XS _,F⟩
 .rw[Jd];have:=s.roLt b h;omega
 .rw[Jd];have:=s.frLt b h;omega
 .intro i b y g f r;rw[Jd];rcases e i _ g with⟨q,g⟩|⟨rfl,n⟩
  .rw[m i q]at f;obtain⟨a,b,c⟩:=s.own i b y g f r;exact⟨by omega,b,c⟩
  .cases n;exact⟨by omega,λq=>by have:=s.roLt _ q;omega,λq=>by have:=s.frLt _ q;omega⟩
 .intro i j b y z g f r B G L;rcases e i _ g with⟨q,l⟩|⟨N,n⟩<;>rcases e j _ f with⟨q',k⟩|⟨ej,e2⟩
  .rw[m i q]at r;rw[m j q']at B;exact s.inj i j b y z l k r B G L
  .cases e2;rw[m i q]at r;have:=(s.own i _ y l r G).1;omega
  .cases n;rw[m j q']at B;have:=(s.own j _ z k B L).1;omega
  .rw[N,ej]
 .intro i y z g f;rcases e i _ g with⟨q,g⟩|⟨rfl,n⟩
  .rw[m i q]at f;refine(s.blk i y z g f).keep t ?_ ?_
   .rintro b rfl u;exact YD w obj b (s.own i b z g f u).1
   .rintro b c rfl u;exact YD w obj c (s.hid i b z c g f u).lt
  .rw[J]at f;cases f;subst n;exact P
def OpZ(P:Program)(o:Oper)(t:Nat)(cs:List A):Prop:=
 ∀(ro:Nat->Prop) (σ:Sig) (w:World) (a:Act),∃l:List Value,(execOp a.eval o).run P w=.ok (.value (.pointer (some ⟨w.heap.size,0,none⟩))) (w.alloc (.cells l.toArray t))/\LR ro σ w cs l/\ ∀v∈l,QA v
theorem OpZ.alloc{P:Program}{o:Oper}{t:Nat}{z:Value}{v:A}{cs:List A}(h:∀w,(zeroValue t).run P w=.ok z w)(g:ZR v z)(j:o.op=.alloc t:=by exact rfl)(hk:Ys v=true:=by exact rfl)(hcs:Yj v=cs:=by exact rfl)(hpl:cs.all YA=true:=by exact rfl):
  OpZ P o t cs:=by
 intro f σ w a;obtain⟨l,i,d⟩:=(g f σ w).cells hk;subst hcs;refine⟨l,?_,d,d.plain hpl⟩;generalize a.eval=ρ at*;have e:(newVar t z).run P w=.ok ⟨w.heap.size,0,none⟩ (w.alloc (.cells l.toArray t)):=by
  unfold newVar;rw[i];rfl
 simp only[execOp,j,Instr.alloc,Vj,h,Result.andThen,e];rfl
def OpZR(P:Program)(o:Oper)(e:Env)(H:Qe)(p:Nat)(x:A)(B:Blk):Prop:=
 ∀fr ro σ N a w,Rel fr ro σ H e N a w->∃v obj,(execOp a.eval o).run P w=.ok (.value v) (w.alloc obj)/\(∀c,Hid (w.alloc obj) B w.heap.size c->False)/\
  ∀σ',σ'[p]?=some (some w.heap.size)->Ext ro σ w ro σ' (w.alloc obj)->VR ro σ' (w.alloc obj) x v/\BR ro σ' (w.alloc obj) B (some w.heap.size)
theorem Qcf{P:Program}{l:List Oper}{i:Nat}{o:Oper}{rd:Option Nat}{R:Exit->Act->World->Prop}{Q:Exit->Act->World->Prop}{K:Act->World->Prop}{a:Act}{w:World}
  (E:l[i]?=some o)(h:wpL P rd l.toArray R [o] a w)(j:∀e a' w',R e a' w'->e=.normal/\a'.defers=a.defers)(m:∀v w',R .normal (a.put o.dst v) w'->K (a.put o.dst v) w'):
  wpOpIn (WF rd) 0 P l.toArray Q i K a w:=by
 unfold wpOpIn;have t:l.toArray[i]?=some o:=by simpa using E
 rw[t];simp only;unfold wpL wpListIn at h;split at h
 .rename_i s;rw[Vq s];obtain⟨k,h⟩:=h;refine⟨k,?_⟩;have g:=Qic (by
   intro a' w' q;unfold wpListIn at q;exact(j _ _ _ q).2) h
  generalize(o.semAt (WF rd).round a.eval).run P w=res at*;cases res with
  |ok n w'=>
   cases n with
   |value v=>exact m _ _ g.1
   |skip=>exact m _ _ g.1
   |defer F=>
    exfalso;have:=(j _ _ _ g.1).2;have:=congrArg List.length this
    revert this
    cases o.dst<;>simp[Act.put]
   |enter f p=>
    refine⟨g.1,CallsIn.mono g.2 (λe u d=>?_)⟩;cases e with
    |returned v=>exact m _ _ d.1
    |panicked c=>have:=(j _ _ _ d).1;cases this
    |outgrown=>obtain⟨B,w1,d⟩:=d;have:=(j _ _ _ d).1;cases this
   |row r p=>
    exact⟨g.1,RowsIn.mono g.2 (λ_ _ d=>m _ _ d.1)⟩
   |round l f z assign y=>
    refine⟨g.1,RoundIn.mono g.2 (λe u d=>?_)⟩;cases e with
    |returned v=>exact m _ _ d.1
    |panicked c=>have:=(j _ _ _ d).1;cases this
    |outgrown=>obtain⟨B,w1,d⟩:=d;have:=(j _ _ _ d).1;cases this
   |_=>exact g.elim
  |halt x w'=>
   cases x with
   |panic v=>have:=(j _ _ _ g).1;cases this
   |_=>exact g.elim
 .rename_i s;rw[Vp s];obtain⟨k,h⟩:=h;refine⟨k,?_⟩;unfold wpListIn at h;exact m _ _ h
theorem QlJ{P:Program}{l:List Oper}{m:Nat}(p:∀i o,l[i]?=some o->∀j∈Qh o,j<i)(n:∀i o,m<i->l[i]?=some o->i-1∈Qh o){Q:Exit->Act->World->Prop}{rd:Option Nat}:
  ∀(d t:Nat) (L:Array Bool) (a:Act) (w:World),L.size=l.length->(∀i,i<l.length->(onL L i↔i<t))->unl L<=d->m<=t->t<=l.length->
   wpL P rd l.toArray Q (l.drop t) a w->wpAnyIn (WF rd) 0 P .any l.toArray Q d L a w:=by
 intro d
 induction d with
 |zero=>
  intro t L a w hsz hL hf hm ht h;have:t=l.length:=by
   rcases Vz t l.length with q|q
   .have:=Qko (L:=L) (i:=t) (by omega) (λz=>by have:=(hL t q).1 z;omega);omega
   .omega
  subst this;refine⟨List.eq_nil_iff_forall_not_mem.2 λi r=>?_,?_⟩
  .obtain⟨o,g,k,_⟩:=(QaE hsz).1 r;have e:=(XK.1 g).1;exact k ((hL i e).2 e)
  .rw[Xr]at h;exact h
 |succ d J=>
  intro t L a w hsz hL hf hm ht h;have x:∀i o,l[i]?=some o->¬onL L i->(∀j∈Qh o,onL L j)->i=t:=by
   intro i o g k y;have e:=(XK.1 g).1;have H:t<=i:=by
    rcases Vz i t with q|q
    .exact absurd ((hL i e).2 q) k
    .exact q
   rcases Vz t i with q|q
   .have:=(hL (i-1) (by omega)).1 (y _ (n i o (by omega) g));omega
   .omega
  rcases Vz t l.length with f|f
  .have G:l[t]?=some l[t]:=XJ f;have s:¬onL L t:=λq=>by have:=(hL t f).1 q;omega
   have F:t∈Region.ready .any l.toArray L:=by
    refine(QaE hsz).2 ⟨_,G,s,λj u=>?_⟩;have:=p t _ G j u;exact(hL j (by omega)).2 this
   refine⟨λq=>(by rw[q]at F;cases F),λi r=>?_⟩;obtain⟨o,g,k,y⟩:=(QaE hsz).1 r;obtain rfl:=x i o g k y;rw[Xp f]at h;obtain rfl:l[i]=o:=by rw[XJ f]at g;exact XX g
   unfold wpOpIn;rw[show l.toArray[i]?=some l[i]by rw[XF];exact g];simp only;unfold wpL wpListIn at h;have E:∀a w,wpL P rd l.toArray Q (l.drop (i+1)) a w->wpAnyIn (WF rd) 0 P .any l.toArray Q d (L.setIfInBounds i true) a w:=by
    intro a w q;have M:=Qhh (L:=L) (i:=i) (by omega) s;refine J (i+1) _ a w (by simpa using hsz) (λj u=>?_) (by omega) (by omega) (by omega) q;rw[JH (by omega),hL j u];omega
   split at h
   .rename_i B;rw[Vq B];exact Oper.wpIn_mono E h
   .rename_i B;rw[Vp B];exact⟨h.1,E _ _ h.2⟩
  .have:t=l.length:=by omega
   subst this;rw[Xr]at h;refine⟨λ_=>h,λi r=>?_⟩;obtain⟨o,g,k,_⟩:=(QaE hsz).1 r;have e:=(XK.1 g).1;exact absurd ((hL i e).2 e) k
def QnU(af ds:List Nat)(xs:List A)(env0 e:Env):Prop:=
 ∀s,(∃j x,af.contains j=true/\ds[j]?=some s/\xs[j]?=some x/\lk e s=x)\/lk e s=.any\/(ds.contains s=false/\lk e s=lk env0 s)
inductive JD (P:Program) (N:Nat) (l:List Oper) (ds:List Nat) (xs:List A) (env0:Env) (hB hE:Nat) (i:Nat) (H H':Qe):Prop
 |mk (o:Oper) (e:Env) (d:Nat) (x:A) (ho:l[i]?=some o) (hd:o.dst=some d) (hx:xs[i]?=some x) (hdd:Qao hB hE H H'=true) (hs:Sb (Qh o) (QhV l i) ds xs env0 e)
   (h:WO P H.length N l.toArray [o] e H (Jb (up e d x) H')):JD P N l ds xs env0 hB hE i H H'
 |unit (o:Oper) (e:Env) (ho:l[i]?=some o) (hd:o.dst=none) (hx:xs[i]?=some .any) (hdd:Qao hB hE H H'=true) (hs:Sb (Qh o) (QhV l i) ds xs env0 e)
   (h:WO P H.length N l.toArray [o] e H (Jb e H')):JD P N l ds xs env0 hB hE i H H'
 |alloc (o:Oper) (d t p:Nat) (cs:List A) (ho:l[i]?=some o) (hd:o.dst=some d) (hg:o.guard=none) (hx:xs[i]?=some (.ptr p 0)) (hp:(Nat.ble hB p&&Nat.blt p hE)=true) (hdead:Qbr H[p]?=true)
   (hH:H.set p (.cells t cs)=H') (h:OpZ P o t cs) (hN:Nat.blt d N=true):JD P N l ds xs env0 hB hE i H H'
 |row (o:Oper) (e:Env) (d p:Nat) (x:A) (B:Blk) (ho:l[i]?=some o) (hd:o.dst=some d) (hg:o.guard=none) (hx:xs[i]?=some x) (hp:(Nat.ble hB p&&Nat.blt p hE)=true) (hdead:Qbr H[p]?=true) (hlive:Qbr (some B)=false)
   (hH:H.set p B=H') (hs:Sb (Qh o) (QhV l i) ds xs env0 e) (h:OpZR P o e H p x B) (hN:Nat.blt d N=true):JD P N l ds xs env0 hB hE i H H'
 |val (o:Oper) (e:Env) (d:Nat) (x:A) (ho:l[i]?=some o) (hd:o.dst=some d) (hg:o.guard=none) (hx:xs[i]?=some x) (hN:Nat.blt d N=true) (he:QnU (Qh o) ds xs env0 e) (h:OpV P o e H x)
   (hH:H=H':=by rfl):JD P N l ds xs env0 hB hE i H H'
 |woE (o:Oper) (e:Env) (d:Nat) (x:A) (ho:l[i]?=some o) (hd:o.dst=some d) (hx:xs[i]?=some x) (he:QnU (Qh o) ds xs env0 e) (hdd:Qao hB hE H H'=true) (h:WO P H.length N l.toArray [o] e H (Jb (up e d x) H')):JD P N l ds xs env0 hB hE i H H'
theorem Sb.rel{af g f:List Nat}{xs:List A}{env0 e:Env}{ro:Nat->Prop}{σ:Sig}{w:World}{a:Act}(k:Sb af g f xs env0 e)
  (h:∀j∈af,∀s x,f[j]?=some s->xs[j]?=some x->VR ro σ w x (a.tmps.getD s undef))
  (i:∀s,f.contains s=false->VR ro σ w (lk env0 s) (a.tmps.getD s undef))(hP:∀j s,g.contains j=true->f[j]?=some s->VR ro σ w (lk env0 s) (a.tmps.getD s undef)):
  ∀s,VR ro σ w (lk e s) (a.tmps.getD s undef):=by
 intro s
 induction k with
 |nil=>exact trivial
 | @dep j s1 x1 r h1 h2 h3 _ ih=>
  unfold lk;cases d:Nat.beq s s1 with
  |false=>exact ih
  |true=>
   obtain rfl:=XP d;exact h j (by simpa using h1) _ _ h2 h3
 | @old s1 x1 r h1 h2 _ ih=>
  unfold lk;cases d:Nat.beq s s1 with
  |false=>exact ih
  |true=>
   obtain rfl:=XP d;subst h2;exact i _ h1
 | @pre j s1 x1 r h1 h2 h3 _ ih=>
  unfold lk;cases d:Nat.beq s s1 with
  |false=>exact ih
  |true=>
   obtain rfl:=XP d;subst h3;exact hP j _ h1 h2
structure After (fr ro:Nat->Prop) (σ:Sig) (w:World) (hB hE:Nat) (H':Qe) (xs:List A) (i:Nat) (o:Oper) (a':Act) (w':World) (ro':Nat->Prop) (σ':Sig):Prop where
 val:∀x,xs[i]?=some x->match o.dst with
  |some d=>VR ro' σ' w' x (a'.tmps.getD d undef)
  |none=>x=.any
 sim:Sim fr ro' σ' H' w'
 ev:Qi fr ro w ro' w'
 ext:Ext ro σ w ro' σ' w'
 holes:Qk9 hB hE σ' H'
 take:σ'.take hB=σ.take hB
theorem JD.use{P:Program}{N:Nat}{l:List Oper}{ds:List Nat}{xs:List A}{env0:Env}{hB hE i:Nat}{H H':Qe}(hb:JD P N l ds xs env0 hB hE i H H')
  {Q:Exit->Act->World->Prop}{K:Act->World->Prop}{fr ro:Nat->Prop}{σ:Sig}{a:Act}{w:World}{o:Oper}{rd:Option Nat}(O:l[i]?=some o)
  (f:Sim fr ro σ H w)(hN:a.tmps.size=N)(m:QcK fr a.defers w)(ag:QdZ rd fr w)(hh:Qk9 hB hE σ H)(hl:hE<=H.length)(al:hB<=hE)
  (hD:∀j∈Qh o,∀s x,ds[j]?=some s->xs[j]?=some x->VR ro σ w x (a.tmps.getD s undef))
  (hO:∀s,ds.contains s=false->VR ro σ w (lk env0 s) (a.tmps.getD s undef))(hP:∀j s,(QhV l i).contains j=true->ds[j]?=some s->VR ro σ w (lk env0 s) (a.tmps.getD s undef))
  (hK:∀v w' ro' σ',After fr ro σ w hB hE H' xs i o (a.put o.dst v) w' ro' σ'->K (a.put o.dst v) w'):
  wpOpIn (WF rd) 0 P l.toArray Q i K a w:=by
 have ab:∀{e:Env} {H2:Qe} {E:Exit} {u:Act} {w':World},QbJ H.length fr ro σ w N a.defers (Jb e H2) E u w'->E=.normal/\u.defers=a.defers:=by
  rintro e H2 E u w' ⟨x,_,_,_,_,_,k,⟨rfl,_⟩,_,_,_,M,_⟩;refine⟨?_,M⟩;cases E<;>first|rfl|exact k.elim|cases k
 have ai:∀{σ':Sig} {w':World},Qi fr ro w ro w'->σ'.take H.length=σ.take H.length->True:=λ_ _=>trivial;have V:∀{e:Env} {u:Act} {w':World},QbJ H.length fr ro σ w N a.defers (Jb e H') .normal u w'->Qao hB hE H H'=true->
   ∃ro' σ',Sim fr ro' σ' H' w'/\Qi fr ro w ro' w'/\Ext ro σ w ro' σ' w'/\Qk9 hB hE σ' H'/\σ'.take hB=σ.take hB/\ ∀s,VR ro' σ' w' (lk e s) (u.tmps.getD s undef):=by
  rintro e u w' ⟨_,aj,H2,ro',σ',ak,_,⟨_,rfl,rfl⟩,r',he,ht,_,ah⟩ F;have hσ:σ'=σ++σ'.drop H.length:=by
   conv=>lhs;rw[<- Xy H.length σ']
   rw[ht, <- f.len,X7]
  refine⟨ro',σ',r'.sim.frMono ah.sub,he,?_,?_,?_,r'.env⟩
  .rw[hσ];exact he.ext σ _
  .intro p k M h3;have:=hh p k M (QlK F k M h3);rw[hσ,XL (by rw[f.len];omega)];exact this
  .rw[hσ];exact QH (by rw[f.len];omega)
 cases hb with
 |woE n e d x g L T he F h=>
  obtain rfl:n=o:=XX (g.symm.trans O);have hr:∀s,VR ro σ w (lk e s) (a.tmps.getD s undef):=λs=>by
   rcases he s with⟨j,x,k,M,h3,W⟩|W|⟨k,W⟩
   .rw[W];exact hD j (by simpa using k) s x M h3
   .rw[W];exact trivial
   .rw[W];exact hO s k
  refine Qcf O (h rd fr ro σ a w ⟨f,hr,hN,m⟩ ag) (λ_ _ _ q=>ab q) (λv w' q=>?_);obtain⟨ro',σ',g1,g2,J,g4,g5,g6⟩:=V q F;refine hK v w' ro' σ' ⟨λy Y=>?_,g1,g2,J,g4,g5⟩;obtain rfl:=XX (T.symm.trans Y);have:=g6 d;unfold lk at this;rw[VC]at this;rw[L]at this⊢;exact this
 |mk n e d x g L T F hs h=>
  obtain rfl:n=o:=XX (g.symm.trans O);refine Qcf O (h rd fr ro σ a w ⟨f,hs.rel hD hO hP,hN,m⟩ ag) (λ_ _ _ q=>ab q) (λv w' q=>?_);obtain⟨ro',σ',g1,g2,J,g4,g5,g6⟩:=V q F;refine hK v w' ro' σ' ⟨λy Y=>?_,g1,g2,J,g4,g5⟩;obtain rfl:=XX (T.symm.trans Y);have:=g6 d;unfold lk at this;rw[VC]at this;rw[L]at this⊢;exact this
 |unit n e g L T F hs h=>
  obtain rfl:n=o:=XX (g.symm.trans O);refine Qcf O (h rd fr ro σ a w ⟨f,hs.rel hD hO hP,hN,m⟩ ag) (λ_ _ _ q=>ab q) (λv w' q=>?_);obtain⟨ro',σ',g1,g2,J,g4,g5,g6⟩:=V q F;refine hK v w' ro' σ' ⟨λy Y=>?_,g1,g2,J,g4,g5⟩;obtain rfl:=XX (T.symm.trans Y);rw[L]
 |val n e d x g L hg T aa he h hH=>
  obtain rfl:n=o:=XX (g.symm.trans O);subst hH;have hr:Rel fr ro σ H e N a w:=by
   refine⟨f,λs=>?_,hN,m⟩;rcases he s with⟨j,x,k,M,h3,W⟩|W|⟨k,W⟩
   .rw[W];exact hD j (by simpa using k) s x M h3
   .rw[W];exact trivial
   .rw[W];exact hO s k
  obtain⟨v0,k,M⟩:=h fr ro σ N a w hr;have hw:Region.wanted n (yielded l.toArray a.tmps)=true:=by unfold Region.wanted;rw[hg]
  refine Qcf (R:=λE u w'=>E=.normal/\u.defers=a.defers/\u=a.put n.dst v0/\w'=w) O (Qab hw k ?_) (λ_ _ _ q=>⟨q.1,q.2.1⟩) (λv w' q=>?_)
  .unfold wpL wpListIn;refine⟨rfl,?_,rfl,rfl⟩;rw[L];rfl
  .obtain⟨_,_,q1,rfl⟩:=q;refine hK v _ ro σ ⟨λy Y=>?_,f,Qi.refl _ _ _,⟨λ_ q=>q,λ_ _=>rfl,λ_ _ q=>q,λ_ _ q=>q⟩,hh,rfl⟩;obtain rfl:=XX (T.symm.trans Y);rw[q1,L];have X:d<a.tmps.size:=by rw[hN];simpa using aa
   show VR ro σ w' x _;simpa[Act.put,Array.getD_eq_getD_getElem?,X]using M
 |row n e d p x B g L hg T hp G hlive hH hs h aa=>
  obtain rfl:n=o:=XX (g.symm.trans O);subst hH;simp only[XV]at hp;have ac:=XQ hp.1;have ae:p<hE:=by simpa using hp.2
  have hσp:=hh p ac ae G;have hr:Rel fr ro σ H e N a w:=⟨f,hs.rel hD hO hP,hN,m⟩;obtain⟨v0,af,k,M,h3⟩:=h fr ro σ N a w hr;have hw:Region.wanted n (yielded l.toArray a.tmps)=true:=by unfold Region.wanted;rw[hg]
  have ev:Qi fr ro w ro (w.alloc af):=Qi.alloc _ f.roLt f.frLt;have ad:p<σ.length:=by rw[f.len];omega
  have r:Ext ro σ w ro (σ.set p (some w.heap.size)) (w.alloc af):=⟨ev.sub,ev.keepRo,ev.shape,λj b q=>by
   rw[XO (λz=>by subst z;rw[hσp]at q;cases q)];exact q⟩
  obtain⟨g8,g9⟩:=h3 _ (Xa ad) r;refine Qcf (R:=λE u w'=>E=.normal/\u.defers=a.defers/\u=a.put n.dst v0/\w'=w.alloc af) O (Qab hw k ?_) (λ_ _ _ q=>⟨q.1,q.2.1⟩) (λv w' q=>?_)
  .unfold wpL wpListIn;refine⟨rfl,?_,rfl,rfl⟩;rw[L];rfl
  .obtain⟨_,_,q1,rfl⟩:=q;refine hK v _ ro (σ.set p (some w.heap.size)) ⟨λy Y=>?_,f.allocAt hσp g9 M,ev,r,λp' g1 g2 J=>?_,?_⟩
   .obtain rfl:=XX (T.symm.trans Y);rw[q1,L];have X:d<a.tmps.size:=by rw[hN];simpa using aa
    show VR ro _ _ x _;simpa[Act.put,Array.getD_eq_getD_getElem?,X]using g8
   .by_cases q:p'=p
    .subst q;rw[Xa (by omega),hlive]at J;cases J
    .rw[XO (λz=>q z.symm)]at J⊢;exact hh p' g1 g2 J
   .rw[List.take_set,List.set_eq_of_length_le];rw[Xx];omega
 |alloc n d t p cs g L hg T hp G hH h aa=>
  obtain rfl:n=o:=XX (g.symm.trans O);subst hH;simp only[XV]at hp;have ac:=XQ hp.1;have ae:p<hE:=by simpa using hp.2
  have hσp:=hh p ac ae G;obtain⟨lv,k,M,h3⟩:=h ro σ w a;have hw:Region.wanted n (yielded l.toArray a.tmps)=true:=by unfold Region.wanted;rw[hg]
  have ev:Qi fr ro w ro (w.alloc (.cells lv.toArray t)):=Qi.alloc _ f.roLt f.frLt;have ad:p<σ.length:=by rw[f.len];omega
  have r:Ext ro σ w ro (σ.set p (some w.heap.size)) (w.alloc (.cells lv.toArray t)):=⟨ev.sub,ev.keepRo,ev.shape,λj b q=>by
   rw[XO (λz=>by subst z;rw[hσp]at q;cases q)];exact q⟩
  refine Qcf (R:=λE u w'=>E=.normal/\u.defers=a.defers/\u=a.put n.dst (.pointer (some ⟨w.heap.size,0,none⟩))/\w'=w.alloc (.cells lv.toArray t)) O (Qab hw k ?_) (λ_ _ _ q=>⟨q.1,q.2.1⟩) (λv w' q=>?_)
  .unfold wpL wpListIn;refine⟨rfl,?_,rfl,rfl⟩;rw[L];rfl
  .obtain⟨_,_,q1,rfl⟩:=q;refine hK v _ ro (σ.set p (some w.heap.size)) ⟨λy Y=>?_,f.allocAt hσp ⟨lv,Q9 _ _,M.mono r,h3⟩,ev,r,λp' g1 g2 J=>?_,?_⟩
   .obtain rfl:=XX (T.symm.trans Y);rw[q1,L];have X:d<a.tmps.size:=by rw[hN];simpa using aa
    refine⟨w.heap.size,Xa ad,?_⟩;simp[Act.put,Array.getD_eq_getD_getElem?,X]
   .by_cases q:p'=p
    .subst q;rw[Xa (by omega)]at J;cases J
    .rw[XO (λz=>q z.symm)]at J⊢;exact hh p' g1 g2 J
   .rw[List.take_set,List.set_eq_of_length_le];rw[Xx];omega
def same(a b:List Nat):Bool:=a.all (b.contains ·)&&b.all (a.contains ·)
theorem Qoa{a b:List Nat}(h:same a b=true)(i:Nat):i∈a↔i∈b:=by
 unfold same at h;simp only[XV,Xt,List.contains_iff_mem]at h;exact⟨h.1 i,h.2 i⟩
structure QnX (l:List Oper) (m:Nat) (ds:List Nat) (hs:List Bool) (rq ms:List (List Nat)) (pl:List (List (Nat×Nat))) (N:Nat):Prop where
 len:m<=l.length
 dst:∀i o,i<m->l[i]?=some o->(∃d,o.dst=some d/\ds[i]?=some d/\d<N)\/o.dst=none
 dsl:ds.length=m
 nodup:∀(i j d:Nat),ds[i]?=some d->ds[j]?=some d->i=j
 back:∀i o,l[i]?=some o->∀j∈Qh o,j<i
 mid:∀o,l[m]?=some o->∀j,j<m->QcJ l m j
 chain:∀i o,m<i->l[i]?=some o->i-1∈Qh o
 rqs:∀i o,i<m->l[i]?=some o->∀h∈rq.getD i [],h<m/\hs.getD h false=true/\(h∈Qh o\/ ∃j∈Qh o,j<m/\h∈rq.getD j [])
 ms0:ms.getD 0 []=[]
 full:∀st,st<ms.length->st+1=ms.length\/ ∃i,i<m/\hs.getD i false=true/\i∉ms.getD st []
 msh:∀st h,h∈ms.getD st []->h<m/\hs.getD h false=true
 pls:∀i st,i<m->st<ms.length->(∀h∈rq.getD i [],h∈ms.getD st [])->(hs.getD i false=true->i∉ms.getD st [])->(∀h∈ms.getD st [],¬QcJ l h i)->
  ∃st',(st,st')∈pl.getD i []/\st'<ms.length/\if hs.getD i false then∀j,j∈ms.getD st' []↔j=i\/j∈ms.getD st []else st'=st
theorem QoX{α:Type}{l:List α}{i:Nat}{d x:α}(h:l[i]?=some x):l.getD i d=x:=by rw[VI,h];rfl
theorem Qi4{P:Program}{l:List Oper}{m:Nat}{ds:List Nat}{hs:List Bool}{rq ms:List (List Nat)}{pl:List (List (Nat×Nat))}{N h0 hB hE:Nat}{xs:List A}{env0:Env}{Hs:List Qe}{Hk:Qe}
  (ok:QnX l m ds hs rq ms pl N)(an:xs.length=m)(ba:Hs.length=ms.length)(ao:h0<=hB)(ax:hB<=hE)(aq:∀H∈Hs,hE<=H.length)
  (ay:∀i p,i<m->p∈pl.getD i []->JD P N l ds xs env0 hB hE i (Hs.getD p.1 []) (Hs.getD p.2 []))(a5:Hs.getD (ms.length-1) []=Hk)
  {fr ro0:Nat->Prop}{σ0:Sig}{w0:World}{rd:Option Nat}{ds0:List Deferred}{R:Exit->Act->World->Prop}
  (hk:∀ro σ a w,Rel fr ro σ Hk (Qar ds xs env0) N a w->Qi fr ro0 w0 ro w->σ.take h0=σ0.take h0->a.defers=ds0->wpL P rd l.toArray R (l.drop m) a w)(ae:QcK fr ds0 w0)(aw:QdZ rd fr w0):
  ∀(f:Nat) (L:Array Bool) (a:Act) (w:World) (ro:Nat->Prop) (σ:Sig) (u:Nat),
   L.size=l.length->unl L<=f->(∀i,m<=i->¬onL L i)->u<ms.length->Sim fr ro σ (Hs.getD u []) w->a.tmps.size=N->a.defers=ds0->
   (∀(i d:Nat) (x:A),onL L i->ds[i]?=some d->xs[i]?=some x->VR ro σ w x (a.tmps.getD d undef))->(∀s,(∀j,ds[j]?=some s->¬onL L j)->VR ro σ w (lk env0 s) (a.tmps.getD s undef))->
   Qi fr ro0 w0 ro w->σ.take h0=σ0.take h0->Qk9 hB hE σ (Hs.getD u [])->
   (∀i,i<m->onL L i->∀h∈rq.getD i [],onL L h)->(∀i,i<m->hs.getD i false=true->(onL L i↔i∈ms.getD u []))->
   (∀i o,onL L i->l[i]?=some o->∀j∈Qh o,onL L j)->
   wpAnyIn (WF rd) 0 P .any l.toArray R f L a w:=by
 have ar:∀u,u<ms.length->hE<=(Hs.getD u []).length:=by
  intro u h;have e:Hs[u]?=some Hs[u]:=XJ (by omega);rw[QoX e];exact aq _ (List.getElem_mem _)
 have fin:∀(f:Nat) (L:Array Bool) (a:Act) (w:World) (ro:Nat->Prop) (σ:Sig) (u:Nat),
   L.size=l.length->unl L<=f->(∀i,m<=i->¬onL L i)->u<ms.length->Sim fr ro σ (Hs.getD u []) w->a.tmps.size=N->a.defers=ds0->
   (∀(i d:Nat) (x:A),onL L i->ds[i]?=some d->xs[i]?=some x->VR ro σ w x (a.tmps.getD d undef))->(∀s,(∀j,ds[j]?=some s->¬onL L j)->VR ro σ w (lk env0 s) (a.tmps.getD s undef))->
   Qi fr ro0 w0 ro w->σ.take h0=σ0.take h0->
   (∀i,i<m->hs.getD i false=true->(onL L i↔i∈ms.getD u []))->(∀i,i<m->onL L i)->
   wpAnyIn (WF rd) 0 P .any l.toArray R f L a w:=by
  intro f L a w ro σ u hsz hu hsuf hst hsim hN hdef hD hE' hev htk hI2 r;have aj:u=ms.length-1:=by
   rcases ok.full u hst with q|⟨i,Q,X,h3⟩
   .omega
   .exact absurd ((hI2 i Q X).1 (r i Q)) h3
  rw[aj,a5]at hsim;refine QlJ ok.back ok.chain f m L a w hsz (λi hi=>⟨λq=>?_,λq=>r i q⟩) hu (XS _) ok.len ?_
  .rcases Vz i m with z|z
   .exact z
   .exact absurd q (hsuf i z)
  .have hr:Rel fr ro σ Hk (Qar ds xs env0) N a w:=by
    refine⟨hsim,λs=>?_,hN,by rw[hdef];exact ae.keep hev⟩;rcases Qok (env0:=env0) (by rw[ok.dsl,an]) s with⟨j,x,Q,X,h3⟩|⟨Q,X⟩
    .rw[h3];have g:j<m:=by have:=(XK.1 Q).1;rw[ok.dsl]at this;exact this
     exact hD j s x (r j g) Q X
    .rw[X];exact hE' s (λj q=>absurd (VE q) (by simpa using Q))
   exact hk ro σ a w hr hev htk hdef
 intro f
 induction f with
 |zero=>
  intro L a w ro σ u hsz hu hsuf hst hsim hN hdef hD hE' hev htk hho hI1 hI2 hcl;refine fin 0 L a w ro σ u hsz hu hsuf hst hsim hN hdef hD hE' hev htk hI2 (λi hi=>?_);by_cases q:onL L i
  .exact q
  .have:=Qko (L:=L) (i:=i) (by have:=ok.len;omega) q;omega
 |succ f ih=>
  intro L a w ro σ u hsz hu hsuf hst hsim hN hdef hD hE' hev htk hho hI1 hI2 hcl;by_cases r:∀i,i<m->onL L i
  .exact fin (f+1) L a w ro σ u hsz hu hsuf hst hsim hN hdef hD hE' hev htk hI2 r
  .have a4:∃i,i<m/\ ¬onL L i:=by
    refine Classical.byContradiction λq=>r λi hi=>Classical.byContradiction λz=>q ⟨i,hi,z⟩
   obtain⟨n,hn,ak⟩:=a4;obtain⟨i0,Q,X,h3⟩:=least (p:=λi=>¬onL L i) (λi=>Classical.em _) n ak;have a9:=ok.len;have ah:l[i0]?=some l[i0]:=XJ (by omega);have hr:i0∈Region.ready .any l.toArray L:=(QaE hsz).2 ⟨_,ah,X,λj g=>Classical.byContradiction λz=>h3 j (ok.back i0 _ ah j g) z⟩;refine⟨λq=>(by rw[q]at hr;cases hr),λi hi=>?_⟩;obtain⟨o,V,Y,J⟩:=(QaE hsz).1 hi;have E:i<m:=by
    rcases Vz i m with q|q
    .exact q
    .exfalso;rcases Vz m i with z|z
     .exact hsuf (i-1) (by omega) (J _ (ok.chain i o z V))
     .have:i=m:=by omega
      subst this;have a6:∀j,QcJ l i j->onL L j:=by
       intro j g
       induction g with
       |one t g=>rw[V]at t;cases t;exact J _ g
       |step _ t g ihr=>exact hcl _ _ ihr t _ g
      exact ak (a6 n (ok.mid o V n hn))
   have al:∀h∈rq.getD i [],onL L h:=by
    intro h W;obtain⟨_,_,q|⟨j,q1,q2,q3⟩⟩:=ok.rqs i o E V h W
    .exact J h q
    .exact hI1 j q2 (J j q1) h q3
   obtain⟨az,a0,a8,M⟩:=ok.pls i u E hst (λh W=>by
    obtain⟨q1,q2,_⟩:=ok.rqs i o E V h W;exact(hI2 h q1 q2).1 (al h W)) (λq z=>Y ((hI2 i E q).2 z)) (λh W hR=>by
    obtain⟨q1,q2⟩:=ok.msh u h W;have av:onL L h:=(hI2 h q1 q2).2 W;have ai:∀j,QcJ l h j->onL L j:=by
     intro j g
     induction g with
     |one t g=>exact hcl _ _ av t _ g
     |step _ t g ihr=>exact hcl _ _ ihr t _ g
    exact Y (ai i hR))
   have hb:=ay i _ E a0;refine hb.use V hsim hN (by rw[hdef];exact ae.keep hev) (aw.to hev λ_ q=>q) hho (ar u hst) ax (λj g s x q1 q2=>hD j s x (J j g) q1 q2) (λs Q=>hE' s (λj q=>absurd (VE q) (by simpa using Q))) (λj s Q X=>hE' s (λj' q q'=>?_)) ?_
   .obtain rfl:=ok.nodup j' j s q X;have g:=Xe.1 (List.contains_iff_mem.1 Q);cases ad:l[j']? with
    |none=>rw[ad]at g;simp at g
    |some oj=>
     rw[ad]at g;exact Y (hcl j' oj q' ad i (by simpa using g.2))
   intro v w' a7 σ' af;have aa:=af.ext;have ab:∀s,(∀d,o.dst=some d->s≠d)->(a.put o.dst v).tmps.getD s undef=a.tmps.getD s undef:=by
    intro s a2;cases hd:o.dst with
    |none=>rfl
    |some d=>
     simp only[Act.put,Array.getD_eq_getD_getElem?,Vb];rw[Vp (λq=>a2 d hd q.symm)]
   have ac:(a.put o.dst v).tmps.size=N:=by
    cases hd:o.dst with
    |none=>simpa[Act.put]using hN
    |some d=>simpa[Act.put]using hN
   have au:(a.put o.dst v).defers=ds0:=by
    cases hd:o.dst with
    |none=>simpa[Act.put]using hdef
    |some d=>simpa[Act.put]using hdef
   have bb:=Qhh (L:=L) (i:=i) (by omega) Y;have B:i<L.size:=by omega
   have a1:∀s j,ds[j]?=some s->j≠i->∀d,o.dst=some d->s≠d:=by
    intro s j g F d hd q;subst q;rcases ok.dst i o E V with⟨d',k,T,ag⟩|k
    .rw[hd]at k;cases k;exact F (ok.nodup j i _ g T)
    .rw[hd]at k;cases k
   refine ih _ _ w' a7 σ' az (by simpa using hsz) (by omega) (λj g q=>?_) a8 af.sim ac au ?_ ?_ (hev.trans af.ev) ?_ af.holes ?_ ?_ ?_
   .rcases(JH B).1 q with z|z
    .omega
    .exact hsuf j g z
   .intro j s y g G hy;by_cases F:j=i
    .subst F;have hv:=af.val y hy;rcases ok.dst j o E V with⟨d',k,T,ag⟩|k
     .obtain rfl:s=d':=XX (G.symm.trans T);simp only[k]at hv⊢;exact hv
     .simp only[k]at hv;subst hv;exact trivial
    .rw[ab s (a1 s j G F)];rcases(JH B).1 g with z|z
     .exact absurd z F
     .exact(hD j s y z G hy).mono aa
   .intro s G;have a3:∀d,o.dst=some d->s≠d:=by
     rintro d hd rfl;rcases ok.dst i o E V with⟨d',k,T,ag⟩|k
     .rw[hd]at k;cases k;exact G i T ((JH B).2 (.inl rfl))
     .rw[hd]at k;cases k
    rw[ab s a3];exact(hE' s (λj q z=>G j q ((JH B).2 (.inr z)))).mono aa
   .rw[<- htk];have:=congrArg (List.take h0) af.take;rw[List.take_take,List.take_take,XA ao]at this;exact this
   .intro j g O h W;refine(JH B).2 (.inr ?_);rcases(JH B).1 O with z|z
    .subst z;exact al h W
    .exact hI1 j g z h W
   .intro j g O;rw[JH B];cases q:hs.getD i false with
    |false=>
     have F:j≠i:=by rintro rfl;rw[q]at O;cases O
     rw[q]at M;simp only[Xj,if_false]at M;simp only[F,false_or];rw[M];exact hI2 j g O
    |true=>
     rw[q]at M;simp only[if_true]at M;rw[M j,hI2 j g O]
   .intro j o' g t j' am;rcases(JH B).1 g with z|z
    .subst z;rw[V]at t;cases t;exact(JH B).2 (.inr (J _ am))
    .exact(JH B).2 (.inr (hcl j o' z t j' am))
def Qer.dstB(N:Nat):Nat->List Oper->List Nat->Bool
 |_,_,[]=>true
 |i,o::r,d::ds=>(match o.dst with|some d'=>Nat.beq d' d&&Nat.blt d N|none=>true)&&Qer.dstB N (i+1) r ds
 |_,[],_::_=>false
def Qer.rqB(m:Nat)(hs:List Bool)(rq:List (List Nat)):Nat->List Oper->Bool
 |_,[]=>true
 |i,o::r=>(rq.getD i []).all (λh=>Nat.blt h m&&hs.getD h false&&((Qh o).contains h||(Qh o).any λj=>Nat.blt j m&&(rq.getD j []).contains h))&&Qer.rqB m hs rq (i+1) r
def QjB(l:List Oper)(h:Nat):List Nat:=match l[h]? with
 |some o=>Qfp l h (Qh o)
 |none=>[]
theorem Qll{l:List Oper}{h j:Nat}(q:j∈QjB l h):QcJ l h j:=by
 unfold QjB at q;cases a:l[h]? with
 |none=>rw[a]at q;cases q
 |some o=>rw[a]at q;exact Qce h (Qh o) (λi d=>.one a d) j q
def Qer.plB(l:List Oper)(m:Nat)(hs:List Bool)(rq ms:List (List Nat))(pl:List (List (Nat×Nat))):Bool:=
 (List.range m).all λi=>(List.range ms.length).all λst=>((ms.getD st []).any λh=>(QjB l h).contains i)|| !(rq.getD i []).all ((ms.getD st []).contains ·)||(hs.getD i false&&(ms.getD st []).contains i)||
  (pl.getD i []).any λp=>Nat.beq p.1 st&&Nat.blt p.2 ms.length&&(bif hs.getD i false then same (ms.getD p.2 []) (i::ms.getD st [])else Nat.beq p.2 st)
def Qer(l:List Oper)(m N:Nat)(ds:List Nat)(hs:List Bool)(rq ms:List (List Nat))(pl:List (List (Nat×Nat))):Bool:=
 Nat.ble m l.length&&(ds.length==m)&&Qer.dstB N 0 l ds&&drawChk.nodupB ds&&drawChk.goB l m 0 l&&Qer.rqB m hs rq 0 l&&(ms.getD 0 []).isEmpty&&Nat.blt 0 ms.length
 &&((List.range ms.length).all λst=>Nat.beq (st+1) ms.length||(List.range m).any λi=>hs.getD i false&& !(ms.getD st []).contains i)&&Qer.plB l m hs rq ms pl&&(List.range ms.length).all λst=>(ms.getD st []).all λh=>Nat.blt h m&&hs.getD h false
theorem Qg3{N:Nat}:∀(l:List Oper) (a:List Nat) (b:Nat),Qer.dstB N b l a=true->∀(i d:Nat) (o:Oper),l[i]?=some o->a[i]?=some d->
  (o.dst=some d/\d<N)\/o.dst=none:=by
 intro l
 induction l with
 |nil=>intro a b h i d o f;simp at f
 |cons x r k=>
  intro a b h i d o f g;cases a with
  |nil=>simp at g
  |cons y a=>
   simp only[Qer.dstB,XV]at h;cases i with
   |zero=>
    simp at f g;subst f;subst g;have h:=h.1;split at h
    .rename_i m j;simp only[XV]at h;have e:=XP h.1;subst e;exact .inl ⟨j,by simpa using h.2⟩
    .rename_i j;exact .inr j
   |succ i=>
    have:=k a (b+1) h.2 i d o (by simpa using f) (by simpa using g);exact this
theorem Qmw{m:Nat}{e:List Bool}{d:List (List Nat)}:∀(l:List Oper) (b:Nat),Qer.rqB m e d b l=true->∀(i:Nat) (o:Oper),l[i]?=some o->
  ∀h∈d.getD (b+i) [],h<m/\e.getD h false=true/\(h∈Qh o\/ ∃j∈Qh o,j<m/\h∈d.getD j []):=by
 intro l
 induction l with
 |nil=>intro b h i o a;simp at a
 |cons x r n=>
  intro b h i o a;simp only[Qer.rqB,XV]at h;cases i with
  |zero=>
   simp at a;subst a;intro k g;have:=Xt.1 h.1 k (by simpa using g);simp only[XV,Bool.or_eq_true,List.contains_iff_mem,Xu]at this;obtain⟨⟨f,t⟩,w⟩:=this;refine⟨by simpa using f,t,?_⟩;rcases w with q|⟨j,p,s,u⟩
   .exact .inl q
   .exact .inr ⟨j,p,by simpa using s,u⟩
  |succ i=>
   have:=n (b+1) h.2 i o (by simpa using a);rw[show b+1+i=b+(i+1)by omega]at this;exact this
theorem Qnj{l:List Oper}{m N:Nat}{t:List Nat}{H:List Bool}{E u:List (List Nat)}{J:List (List (Nat×Nat))}(h:Qer l m N t H E u J=true):
  QnX l m t H E u J N/\0<u.length:=by
 unfold Qer at h;simp only[XV]at h;obtain⟨⟨⟨⟨⟨⟨⟨⟨⟨⟨V,Y⟩,R⟩,P⟩,L⟩,h6⟩,X⟩,T⟩,Q⟩,y⟩,G⟩:=h;have B:m<=l.length:=XQ V;have F:t.length=m:=by simpa using Y
 have g:=QiB l 0 L;refine⟨⟨B,λi o s d=>?_,F,Qed P,λi o d=>by have:=(g i o d).1;simpa using this,λo d j hj=>Qce m (Qh o) (λi s=>.one d s) j ((g m o d).2.1 (by omega) j hj),
  λi o s d=>by have:=(g i o d).2.2 (by omega);simpa using this,λi o s d h k=>by have:=Qmw l 0 h6 i o d h (by simpa using k);exact this,
  by simpa using X,λn a=>?_,λn h k=>?_,λi n s a W O M=>?_⟩,by simpa using T⟩
 .have x:t[i]?=some t[i]:=XJ (by omega);rcases Qg3 l t 0 R i _ o d x with⟨r,w⟩|r
  .exact .inl ⟨_,r,x,w⟩
  .exact .inr r
 .have:=Xt.1 Q n (List.mem_range.2 a);simp only[Bool.or_eq_true,Xu,XV,Bool.not_eq_true']at this;rcases this with q|⟨i,r,w,f⟩
  .exact .inl (XP q)
  .exact .inr ⟨i,List.mem_range.1 r,w,λz=>by rw[List.contains_iff_mem.2 z]at f;cases f⟩
 .have a:n<u.length:=by
   rcases Vz n u.length with q|q
   .exact q
   .rw[VI,XN q]at k;cases k
  have:=Xt.1 (Xt.1 G n (List.mem_range.2 a)) h k;simp only[XV]at this;exact⟨by simpa using this.1,this.2⟩
 .have:=Xt.1 (Xt.1 y i (List.mem_range.2 s)) n (List.mem_range.2 a);simp only[Bool.or_eq_true,Bool.not_eq_true']at this;rcases this with((q|q)|q)|q
  .exfalso;obtain⟨h,k,q⟩:=Xu.1 q;exact M h k (Qll (List.contains_iff_mem.1 q))
  .exfalso;have:((E.getD i []).all ((u.getD n []).contains ·))=true:=Xt.2 λh k=>List.contains_iff_mem.2 (W h k);rw[this]at q;cases q
  .simp only[XV]at q;exact absurd (List.contains_iff_mem.1 q.2) (O q.1)
  .obtain⟨p,hp,q⟩:=Xu.1 q;simp only[XV]at q;obtain⟨⟨r,w⟩,f⟩:=q;have e:=XP r;refine⟨p.2,by rw[<- e];exact hp,by simpa using w,?_⟩;cases z:H.getD i false with
   |true=>
    rw[z]at f;simp only[Vl]at f;simp only[if_true];intro j;rw[Qoa f j,X4]
   |false=>
    rw[z]at f;simp only[Vm]at f;simp only[Xj,if_false];exact XP f
inductive Qh4 (P:Program) (N:Nat) (l:List Oper) (ds:List Nat) (xs:List A) (env0:Env) (hB hE:Nat):Nat->List (List (Qe×Qe))->Prop
 |nil {i:Nat}:Qh4 P N l ds xs env0 hB hE i []
 |cons {i:Nat} {s:List (Qe×Qe)} {r:List (List (Qe×Qe))} (h:∀p∈s,JD P N l ds xs env0 hB hE i p.1 p.2) (k:Qh4 P N l ds xs env0 hB hE (i+1) r):Qh4 P N l ds xs env0 hB hE i (s::r)
theorem Qh4.get{P:Program}{N:Nat}{l:List Oper}{e:List Nat}{xs:List A}{env0:Env}{hB hE b:Nat}{d:List (List (Qe×Qe))}(h:Qh4 P N l e xs env0 hB hE b d):
  ∀(i:Nat) (s:List (Qe×Qe)),d[i]?=some s->∀p∈s,JD P N l e xs env0 hB hE (b+i) p.1 p.2:=by
 induction h with
 |nil=>intro i s h;simp at h
 | @cons b s0 r h _ ih=>
  intro i s a;cases i with
  |zero=>simp at a;subst a;exact h
  |succ i=>
   have:=ih i s (by simpa using a);rw[show b+1+i=b+(i+1)by omega]at this;exact this
theorem Qc{P:Program}{N:Nat}{l:List Oper}{a:List Nat}{xs:List A}{env0:Env}{hB hE i:Nat}:∀p∈([]:List (Qe×Qe)),JD P N l a xs env0 hB hE i p.1 p.2:=by
 intro p d;cases d
theorem Qb{P:Program}{N:Nat}{l:List Oper}{a:List Nat}{xs:List A}{env0:Env}{hB hE i:Nat}{H H':Qe}{r:List (Qe×Qe)}(h:JD P N l a xs env0 hB hE i H H')
  (k:∀p∈r,JD P N l a xs env0 hB hE i p.1 p.2):∀p∈(H,H')::r,JD P N l a xs env0 hB hE i p.1 p.2:=by
 intro p d;rcases X4.1 d with rfl|q
 .exact h
 .exact k p q
theorem Qhl{P:Program}{h0 N:Nat}{id:Nat}{l:List Oper}{env:Env}{H:Qe}{fr ro:Nat->Prop}{σ:Sig}{a:Act}{w:World}{rd:Option Nat}{R:Exit->Act->World->Prop}(m c:Nat)(ds:List Nat)(hs:List Bool)(rq ms:List (List Nat))(G:List (List (Nat×Nat)))(xs:List A)(Hs:List Qe)(Hk:Qe)
  (hm:P.follows .mixedOrders=true)(hc:Qer l m N ds hs rq ms G=true)(T:Nat.beq xs.length m=true)(aa:Nat.beq Hs.length ms.length=true)(Y:Nat.ble h0 H.length=true)
  (hh:Hs.all (λX=>Nat.ble (H.length+c) X.length)=true)(ac:Hs[0]?=some (H++List.replicate c .dead))(V:Hs.getD (ms.length-1) []=Hk)
  (ae:Qh4 P N l ds xs env H.length (H.length+c) 0 (G.map λq=>q.map λp=>(Hs.getD p.1 [],Hs.getD p.2 [])))(ab:Nat.beq G.length m=true)
  (r:Rel fr ro σ H env N a w)(ad:QdZ rd fr w)
  (hk:∀ro' σ' a' w',Rel fr ro' σ' Hk (Qar ds xs env) N a' w'->Qi fr ro w ro' w'->σ'.take h0=σ.take h0->a'.defers=a.defers->wpL P rd l.toArray R (l.drop m) a' w'):(Code.region id l.toArray true).wpIn (WF rd) 0 P R a w:=by
 obtain⟨ok,L⟩:=Qnj hc;have M:=XP T;have O:=XP aa;have af:=XP ab;have B:Qi fr ro w ro {w with drawn:=w.drawn+1}:=⟨λ_ q=>q,λ_ _=>rfl,λ_ _=>rfl,XS _,λ_ _ q=>q,rfl,rfl,rfl,Nat.le_succ _⟩;have u:Ext ro σ w ro (σ++List.replicate c none) {w with drawn:=w.drawn+1}:=B.ext σ _;have W:=r.sim.len;have F:Hs.getD 0 []=H++List.replicate c .dead:=QoX ac;have h:∀(i:Nat) (s:Option Nat) (x:Blk),(σ++List.replicate c none)[i]?=some s->(H++List.replicate c Blk.dead)[i]?=some x->(σ[i]?=some s/\H[i]?=some x)\/(s=none/\x=.dead):=by
  intro i s x k n;rcases Vz i σ.length with q|q
  .rw[XL q]at k;rw[XL (by omega)]at n;exact .inl ⟨k,n⟩
  .rw[XM q]at k;rw[XM (by omega)]at n;have a1:=VE k;have a2:=VE n;exact .inr ⟨(List.mem_replicate.1 a1).2,(List.mem_replicate.1 a2).2⟩
 have J:Sim fr ro (σ++List.replicate c none) (H++List.replicate c .dead) {w with drawn:=w.drawn+1}:=by
  refine⟨by simp[W],r.sim.roOk.to (λ_ q=>q) (λ_ _=>rfl) r.sim.roLt,r.sim.frLt,r.sim.roFr,?_,?_,?_,
   r.sim.hidTo (· = ·) Yg (XS _) (λ_ _ _ _ _ _ _ q=>q) (λ_ _ _ _ _ _ _ q=>q) λj d y g1 g2 g3=>.inl ?_⟩
  rotate_left 3
  .rcases h j _ _ g1 g2 with⟨g,t⟩|⟨g,_⟩
   .exact⟨j,y,rfl,g,t,(λz=>z),λc q=>q⟩
   .cases g
  .intro i b blk k n Q;rcases h i _ _ k n with⟨g,t⟩|⟨g,_⟩
   .exact r.sim.own i b blk g t Q
   .cases g
  .intro i j b x y k n Q h4 h5 h6;rcases h i _ _ k Q with⟨g,t⟩|⟨g,_⟩
   .rcases h j _ _ n h4 with⟨q3,q4⟩|⟨q3,_⟩
    .exact r.sim.inj i j b x y g q3 t q4 h5 h6
    .cases q3
   .cases g
  .intro i s x k n;rcases h i _ _ k n with⟨g,t⟩|⟨g,t⟩
   .exact BR.keep u (λb hb _=>rfl) (r.sim.blk i s x g t) (λ_ _ _ _=>rfl)
   .subst t;exact trivial
 have f:∀i,¬onL (Array.replicate l.length false) i:=by
  intro i q;unfold onL at q;rw[Array.getElem?_replicate]at q;split at q<;>simp at q
 have E:=XQ Y;refine wpIn_region_any hm ?_;rw[List.size_toArray];refine Qi4 ok M O E (Nat.le_add_right _ _) (λX hX=>XQ (Xt.1 hh X hX)) ?_ V (ro0:=ro) (σ0:=σ) (w0:=w) (ds0:=a.defers) hk r.defers ad
  l.length _ a _ ro (σ++List.replicate c none) 0 (by simp) ?_ (λi _=>f i) L (by rw[F];exact J) r.size rfl (λi d x q=>absurd q (f i)) (λs _=>(r.env s).mono u) B (QH (by omega)) ?_
  (λi _ q=>absurd q (f i)) (λi _ _=>⟨λq=>absurd q (f i),λq=>by rw[ok.ms0]at q;cases q⟩) (λi o q=>absurd q (f i))
 .intro i p hi hp;have e:(G.map λq=>q.map λp=>(Hs.getD p.1 [],Hs.getD p.2 []))[i]?=some ((G.getD i []).map λp=>(Hs.getD p.1 [],Hs.getD p.2 [])):=by
   rw[Xo,XJ (by omega),VI,XJ (by omega)];rfl
  have:=ae.get i _ e _ (Xf.2 ⟨p,hp,rfl⟩);simpa using this
 .unfold unl;simp[List.countP_replicate]
 .intro p k n Q;rw[XM (by omega),List.getElem?_replicate,Vq (by omega)]
theorem YL{P:Program}{h0 N:Nat}{id:Nat}{l:List Oper}{env:Env}{H:Qe}{Q:QR}(m c:Nat)(f:List Nat)(y:List Bool)(x g:List (List Nat))(h:List (List (Nat×Nat)))(xs:List A)(Hs:List Qe)(Hk:Qe)
  (J:P.follows .mixedOrders=true)(z:Qer l m N f y x g h=true)(t:Nat.beq xs.length m=true)(j:Nat.beq Hs.length g.length=true)(i:Nat.ble h0 H.length=true)
  (E:Hs.all (λX=>Nat.ble (H.length+c) X.length)=true)(s:Hs[0]?=some (H++List.replicate c .dead))(n:Hs.getD (g.length-1) []=Hk)
  (u:Qh4 P N l f xs env H.length (H.length+c) 0 (h.map λq=>q.map λp=>(Hs.getD p.1 [],Hs.getD p.2 [])))(k:Nat.beq h.length m=true)
  (G:WO P h0 N l.toArray (l.drop m) (Qar f xs env) Hk Q):TC P h0 N (.region id l.toArray true) env H Q:=by
 intro F B L σ a w r hrd;refine Code.wpIn_mono (λe a w q=>QbJ.postW q) (Qhl m c f y x g h xs Hs Hk J z t j i E s n u k r hrd λro' σ' a' w' hr hev htk hdf=>?_);have d:=G F B ro' σ' a' w' hr (hrd.to hev λ_ q=>q);rw[hdf]at d;exact YB (λe a w q=>q.step hev htk) _ _ _ d
def draw0(l:List Oper)(m N:Nat)(ds:List Nat):Bool:=Nat.ble m l.length&&(ds.length==m)&&Qer.dstB N 0 l ds&&drawChk.nodupB ds&&drawChk.goB l m 0 l
inductive Oq (P:Program) (N:Nat) (l:List Oper) (ds:List Nat) (xs:List A) (env0:Env) (H:Qe):Nat->Nat->Prop
 |n {i:Nat}:Oq P N l ds xs env0 H i 0
 |c {i c:Nat} (h:JD P N l ds xs env0 H.length H.length i H H) (k:Oq P N l ds xs env0 H (i+1) c):Oq P N l ds xs env0 H i (c+1)
theorem Oq.get{P:Program}{N:Nat}{l:List Oper}{a:List Nat}{xs:List A}{env0:Env}{H:Qe}{b c:Nat}(h:Oq P N l a xs env0 H b c):∀i,i<c->JD P N l a xs env0 H.length H.length (b+i) H H:=by
 induction h with
 |n=>intro i d;omega
 | @c b c h _ ih=>
  intro i d;cases i with
  |zero=>exact h
  |succ i=>
   have:=ih i (by omega);rw[show b+1+i=b+(i+1)by omega]at this;exact this
theorem Qnk{l:List Oper}{m N:Nat}{f:List Nat}(h:draw0 l m N f=true):QnX l m f [] [] [[]] (List.replicate m [(0,0)]) N:=by
 unfold draw0 at h;simp only[XV]at h;obtain⟨⟨⟨⟨y,w⟩,t⟩,z⟩,u⟩:=h;have s:m<=l.length:=XQ y;have r:f.length=m:=by simpa using w
 have g:=QiB l 0 u;refine⟨s,λi o e d=>?_,r,Qed z,λi o d=>by have:=(g i o d).1;simpa using this,λo d j x=>Qce m (Qh o) (λi e=>.one d e) j ((g m o d).2.1 (by omega) j x),
  λi o e d=>by have:=(g i o d).2.2 (by omega);simpa using this,λi o e d h q=>by simp at q,rfl,λn a=>.inl (by simp at a;simp[a]),λn h q=>by cases n<;>simp at q,λi n e a _ _ _=>?_⟩
 .have k:f[i]?=some f[i]:=XJ (by omega);rcases Qg3 l f 0 t i _ o d k with⟨p,B⟩|p
  .exact .inl ⟨_,p,k,B⟩
  .exact .inr p
 .have:n=0:=by simp at a;exact a
  subst this;refine⟨0,?_,by simp,by simp⟩;rw[VI,List.getElem?_replicate,Vq e];exact Vy.2 rfl
theorem Qhm{P:Program}{h0 N:Nat}{id:Nat}{l:List Oper}{env:Env}{H:Qe}{fr ro:Nat->Prop}{σ:Sig}{a:Act}{w:World}{rd:Option Nat}{R:Exit->Act->World->Prop}(m:Nat)(u:List Nat)(xs:List A)
  (G:P.follows .mixedOrders=true)(E:Go.Sw.draw0 l m N u=true)(y:Nat.beq xs.length m=true)(k:Nat.ble h0 H.length=true)
  (t:Oq P N l u xs env H 0 m)(r:Rel fr ro σ H env N a w)(n:QdZ rd fr w)
  (F:∀ro' σ' a' w',Rel fr ro' σ' H (Qar u xs env) N a' w'->Qi fr ro w ro' w'->σ'.take h0=σ.take h0->a'.defers=a.defers->wpL P rd l.toArray R (l.drop m) a' w'):(Code.region id l.toArray true).wpIn (WF rd) 0 P R a w:=by
 have ok:=Qnk E;have h:=XP y;have f:Qi fr ro w ro {w with drawn:=w.drawn+1}:=⟨λ_ q=>q,λ_ _=>rfl,λ_ _=>rfl,XS _,λ_ _ q=>q,rfl,rfl,rfl,Nat.le_succ _⟩;have j:Ext ro σ w ro σ {w with drawn:=w.drawn+1}:=f.ext0 σ;have g:Sim fr ro σ H {w with drawn:=w.drawn+1}:=r.sim.heap rfl;have e:∀i,¬onL (Array.replicate l.length false) i:=by
  intro i q;unfold onL at q;rw[Array.getElem?_replicate]at q;split at q<;>simp at q
 refine wpIn_region_any G ?_;rw[List.size_toArray];refine Qi4 (hB:=H.length) (hE:=H.length) (Hs:=[H]) (Hk:=H) ok h rfl (XQ k) (XS _) (λX hX=>by rw[Vy.1 hX];exact XS _) ?_ rfl (ro0:=ro) (σ0:=σ) (w0:=w) (ds0:=a.defers) F r.defers n
  l.length _ a _ ro σ 0 (by simp) ?_ (λi _=>e i) (by simp) g r.size rfl (λi d x q=>absurd q (e i)) (λs _=>(r.env s).mono j) f rfl (λp L J=>by omega)
  (λi _ q=>absurd q (e i)) (λi _ _=>⟨λq=>absurd q (e i),λq=>by cases q⟩) (λi o q=>absurd q (e i))
 .intro i p z B;rw[VI,List.getElem?_replicate,Vq z]at B;obtain rfl:=Vy.1 B;have:=t.get i z;rw[Xv]at this;exact this
 .unfold unl;simp[List.countP_replicate]
theorem TC.draw0{P:Program}{h0 N:Nat}{id:Nat}{l:List Oper}{env:Env}{H:Qe}{Q:QR}(m:Nat)(f:List Nat)(xs:List A)
  (k:P.follows .mixedOrders=true)(s:Go.Sw.draw0 l m N f=true)(i:Nat.beq xs.length m=true)(g:Nat.ble h0 H.length=true)
  (h:Oq P N l f xs env H 0 m)(p:WO P h0 N l.toArray (l.drop m) (Qar f xs env) H Q):TC P h0 N (.region id l.toArray true) env H Q:=by
 intro n j t σ a w r hrd;refine Code.wpIn_mono (λe a w q=>QbJ.postW q) (Qhm m f xs k s i g h r hrd λro' σ' a' w' hr hev htk hdf=>?_);have d:=p n j ro' σ' a' w' hr (hrd.to hev λ_ q=>q);rw[hdf]at d;exact YB (λe a w q=>q.step hev htk) _ _ _ d
section
variable {P:Program} {N:Nat} {l:List Oper} {ds af bf:List Nat} {xs:List A} {env0 e r:Env} {H H':Qe} {i hB hE:Nat} {o:Oper} {d s:Nat} {x a:A}
theorem sN:Sb af bf ds xs env0 []:=.nil
theorem sD(j:Nat)(k:Sb af bf ds xs env0 r)(d:af.contains j=true:=by exact rfl)(h2:ds[j]?=some s:=by exact rfl)(h3:xs[j]?=some a:=by exact rfl):Sb af bf ds xs env0 ((s,a)::r):=.dep j d h2 h3 k
theorem sP(j:Nat)(k:Sb af bf ds xs env0 r)(d:bf.contains j=true:=by exact rfl)(h2:ds[j]?=some s:=by exact rfl)(h3:lk env0 s=a:=by exact rfl):Sb af bf ds xs env0 ((s,a)::r):=.pre j d h2 h3 k
theorem sO(s:Nat)(k:Sb af bf ds xs env0 r)(d:ds.contains s=false:=by exact rfl)(h2:lk env0 s=a:=by exact rfl):Sb af bf ds xs env0 ((s,a)::r):=.old d h2 k
theorem Qes(H:Qe):Qao hB hE H H=true:=by
 unfold Qao;refine Xt.2 λp _=>?_;cases Qbr H[hB+p]? <;>rfl
theorem Om(f:l[i]?=some o)(g:Sb (Qh o) (QhV l i) ds xs env0 e)(h:WO P H.length N l.toArray [o] e H (Jb (up e d x) H))(a:o.dst=some d:=by exact rfl)(hx:xs[i]?=some x:=by exact rfl):JD P N l ds xs env0 hB hE i H H:=
 .mk o e d x f a hx (Qes H) g h
theorem Om1(f:l[i]?=some o)(g:Sb (Qh o) (QhV l i) ds xs env0 e)(h:WO P H.length N l.toArray [o] e H (Jb (up e d x) H'))(a:o.dst=some d:=by exact rfl)(hx:xs[i]?=some x:=by exact rfl)(hdd:Qao hB hE H H'=true:=by exact rfl):JD P N l ds xs env0 hB hE i H H':=
 .mk o e d x f a hx hdd g h
theorem Om2(d:l[i]?=some o)(f:Sb (Qh o) (QhV l i) ds xs env0 e)(h:WO P H.length N l.toArray [o] e H (Jb e H'))(a:o.dst=none:=by exact rfl)(hx:xs[i]?=some .any:=by exact rfl)(hdd:Qao hB hE H H'=true:=by exact rfl):JD P N l ds xs env0 hB hE i H H':=
 .unit o e d a hx hdd f h
end
structure TyI where
 fld:List (Nat×Nat×Nat)
 agg:List (Nat×Bool×Nat)
 zer:List (Nat×List A×List (Nat×Nat))
structure TyOK (P:Program) (T:TyI):Prop where
 fld:∀e∈T.fld,∃n,QK P e.1 e.2.1 e.2.2 n
 agg:∀e∈T.agg,(∀w,(isAgg e.1).run P w=.ok e.2.1 w)/\ ∀w,(sizeOf e.1).run P w=.ok e.2.2 w
 zer:∀e∈T.zer,(∃z,(∀w,(zeroValue e.1).run P w=.ok z w)/\ZR (.agg e.2.1) z)/\Qd0 P e.1 e.2.2
def QiG:List (Nat×Nat×Nat)->Nat->Nat->Option Nat
 |[],_,_=>none
 |(a,b,c)::r,t,f=>bif Nat.beq a t&&Nat.beq b f then some c else QiG r t f
def Qcz{β:Type}:List (Nat×β)->Nat->Option β
 |[],_=>none
 |(a,b)::r,t=>bif Nat.beq a t then some b else Qcz r t
theorem QiF{l:List (Nat×Nat×Nat)}{t f c:Nat}(h:QiG l t f=some c):(t,f,c)∈l:=by
 induction l with
 |nil=>cases h
 |cons x r e=>
  obtain⟨a,b,d⟩:=x;unfold QiG at h;cases q:(Nat.beq a t&&Nat.beq b f)with
  |true=>
   simp_all
  |false=>grind
theorem Qau{β:Type}{l:List (Nat×β)}{t:Nat}{c:β}(h:Qcz l t=some c):(t,c)∈l:=by
 induction l with
 |nil=>cases h
 |cons x r d=>
  obtain⟨a,b⟩:=x;unfold Qcz at h;cases q:Nat.beq a t with
  |true=>
   simp_all
  |false=>grind
def QhT(H:Qe):A->Option (List A)
 |.rp cs=>some cs
 |.ptr i off=>match H[i]? with
  |some (.cells _ cs)=>some (cs.drop off)
  |_=>none
 |_=>none
theorem Qj3{H:Qe}{p:A}{cs:List A}(h:QhT H p=some cs):Pts H p cs:=by
 unfold QhT at h;split at h
 .cases h;exact Pts.rp
 .split at h
  .rename_i a;cases h;exact Pts.cells a rfl
  .cases h
 .cases h
def Qmp(T:TyI)(o:Oper)(env:Env)(H:Qe):Option A:=
 match o.op with
 |.move x=>some (opA env x)
 |.assign x=>some (opA env x)
 |.fieldAddr t x f=>match QiG T.fld t f with
  |none=>none
  |some off=>match opA env x with
   |.ptr i p=>some (.ptr i (p+off))
   |.rp cs=>some (.rp (cs.drop off))
   |_=>none
 |.load t x=>match Qcz T.agg t with
  |none=>none
  |some (b,n)=>match x with
   |.global g=>match QjK[g]? with
    |some zs=>bif b&&Nat.beq zs.length n then some (.agg (zs.map (A.int .i64)))else none
    |none=>none
   |x=>match QhT H (opA env x)with
    |none=>none
    |some cs=>bif b then(bif Nat.beq (cs.take n).length n then some (.agg (cs.take n))else none)else cs.head?
 |.build t parts=>match Qcz T.zer t with
  |none=>none
  |some (zs,pl)=>match Qek env pl zs parts.toList with
   |some cs=>some (.agg cs)
   |none=>none
 |.extract x i=>match opA env x with
  |.tup vs=>vs[i]?
  |_=>none
 |.makeFunc f first cap=>some (.fn f (first.toList.map (opA env)) (cap.toList.map (opA env)))
 |_=>none
theorem Qmo{P:Program}{T:TyI}(j:TyOK P T){o:Oper}{env:Env}{H:Qe}{x:A}(h:Qmp T o env H=some x):OpV P o env H x:=by
 unfold Qmp at h;split at h
 .simp_all[OpV.move]
 .simp_all[OpV.assign]
 .rename_i t y f a;split at h
  .cases h
  .rename_i B k;obtain⟨n,E⟩:=j.fld _ (QiF k);split at h
   .grind[QcZ]
   .rename_i d u;cases h;exact Qgc E a u rfl
   .cases h
 .rename_i t y a;split at h
  .cases h
  .rename_i b n p;obtain⟨e,i⟩:=j.agg _ (Qau p);split at h
   .rename_i g;split at h
    .rename_i l s;cases q:(b&&Nat.beq l.length n)with
     |false=>grind
     |true=>
      rw[q]at h;cases h;simp only[XV]at q;obtain⟨rfl,J⟩:=q;exact Qg8 e i s (by simp_all) a
    .cases h
   .split at h
    .cases h
    .rename_i d F;have m:=Qj3 F;cases b with
     |true=>
      simp only[Vl]at h;cases q:Nat.beq (d.take n).length n with
      |false=>grind
      |true=>
       rw[q]at h;cases h;exact QD a e i rfl m rfl (by simp_all)
     |false=>
      simp only[Vm]at h;cases d with
      |nil=>cases h
      |cons v d=>cases h;exact OpV.load a e rfl m
 .rename_i t parts a;split at h
  .cases h
  .rename_i l G w;obtain⟨⟨z,e,i⟩,r⟩:=j.zer _ (Qau w);split at h
   .rename_i d k;cases h;exact OpV.build e i r (by rw[a]) k
   .cases h
 .grind[OpV.extract]
 .rename_i f first cap a
  cases h;exact OpV.makeFunc (first:=first.toList) (cap:=cap.toList) (by rw[a]) rfl rfl
 .cases h
def Qi2(af:List Nat):Nat->List Nat->List A->Env->Env
 |j,d::ds,x::xs,e=>(d,bif af.contains j then x else .any)::Qi2 af (j+1) ds xs e
 |_,_,_,e=>e
theorem QoF{af:List Nat}{env0:Env}(s:Nat):∀(a:List Nat) (xs:List A) (b:Nat),a.length=xs.length->
  (∃(j:Nat) (x:A),a[j]?=some s/\xs[j]?=some x/\lk (Qi2 af b a xs env0) s=bif af.contains (b+j)then x else .any)\/(a.contains s=false/\lk (Qi2 af b a xs env0) s=lk env0 s):=by
 intro a
 induction a with
 |nil=>simp_all[Qi2]
 |cons d a h=>
  intro xs b g;cases xs with
  |nil=>cases g
  |cons x xs=>
   cases q:Nat.beq s d with
   |true=>
    have e:=XP q;subst e;left;refine⟨0,x,rfl,rfl,?_⟩
    simp_all[Qi2,lk]
   |false=>
    have k:s≠d:=λz=>by simp_all
    simp only[Qi2,lk,q,Vm];rcases h xs (b+1) (by grind)with⟨j,y,i,f,l⟩|⟨i,f⟩
    .left;refine⟨j+1,y,by grind,by grind,?_⟩
     grind
    grind
def Qkq(T:TyI)(N:Nat)(l:List Oper)(ds:List Nat)(xs:List A)(env0:Env)(H:Qe)(i:Nat):Option A:=
 match l[i]? with
 |none=>none
 |some o=>match o.guard,o.dst with
  |none,some d=>bif Nat.blt d N&&Nat.beq ds.length xs.length then Qmp T o (Qi2 (Qh o) 0 ds xs env0) H else none
  |_,_=>none
theorem QoE{af a:List Nat}{xs:List A}{env0:Env}(d:a.length=xs.length):QnU af a xs env0 (Qi2 af 0 a xs env0):=by
 intro s;rcases QoF (af:=af) (env0:=env0) s a xs 0 d with⟨j,x,e,g,f⟩|h
 .grind
 grind
theorem vQ{P:Program}{T:TyI}(f:TyOK P T){N:Nat}{l:List Oper}{a:List Nat}{xs:List A}{env0:Env}{hB hE i:Nat}{H:Qe}{x:A}(j:xs[i]?=some x)(h:Qkq T N l a xs env0 H i=some x):JD P N l a xs env0 hB hE i H H:=by
 unfold Qkq at h;split at h
 .cases h
 .rename_i o k;split at h
  .rename_i d g e;cases q:(Nat.blt d N&&Nat.beq a.length xs.length)with
   |false=>grind
   |true=>
    rw[q]at h;simp only[XV]at q;exact .val o _ d x k e g j q.1 (QoE (by simp_all)) (Qmo f h)
  .cases h
abbrev I(n:Int):A:=.int .i64 n
theorem zc{a:A}{v:Value}{al:List A}{vl:List Value}(h:ZR a v)(k:ZL al vl):ZL (a::al) (v::vl):=ZL.cons h k
def zr1:A->Value->Bool
 |.int k n,.int k' n'=>decide (k=k')&&decide (n=n')
 |.bool b,.bool b'=>b==b'
 |.str s,.string s'=>s.isEmpty&&s'.data.toList.isEmpty
 |.rsl _ es,.slice none 0 0=>es.isEmpty
 |.nils,.slice none 0 0=>true
 |.nilp,.pointer none=>true
 |.nilf,.nilFunc=>true
 |.nilm,.map none=>true
 |.nilif,.nilIface=>true
 |_,_=>false
def zrL:List A->List Value->Bool
 |[],[]=>true
 |a::r,v::s=>zr1 a v&&zrL r s
 |_,_=>false
def zrB:A->Value->Bool
 |.agg r,.agg s=>zrL r s.toList
 |a,v=>zr1 a v
theorem Qme{a:A}{v:Value}(h:zr1 a v=true):ZR a v:=by
 unfold zr1 at h;split at h
 .simp_all[ZR.int]
 .simp_all[ZR.bool]
 .rename_i s f;simp only[XV,List.isEmpty_iff]at h;obtain⟨rfl,i⟩:=h;obtain⟨d⟩:=f
  simp_all[ZR.str]
 .rename_i k g;have h:g=[]:=List.isEmpty_iff.1 h;subst h;exact ZR.rsl (α:=A) (e:=λx=>[x])
 .exact ZR.nils
 .exact ZR.nilp
 .exact ZR.nilf
 .exact ZR.nilm
 .exact QoJ
 .cases h
theorem Qmd:∀{r:List A} {s:List Value},zrL r s=true->ZL r s
 |[],[],_=>ZL.nil
 |a::r,v::s,h=>by
  simp only[zrL,XV]at h;exact ZL.cons (Qme h.1) (Qmd h.2)
 |[],_::_,h=>by cases h
 |_::_,[],h=>by cases h
theorem zrC{a:A}{v:Value}(h:zrB a v=true):ZR a v:=by
 unfold zrB at h;split at h
 .rename_i r s;have:=ZR.agg (Qmd h);omega
 .exact Qme h
section
variable {P:Program} {o:Oper} {env:Env} {H:Qe}
theorem Qjy{ro:Nat->Prop}{σ:Sig}{w:World}{b:Nat}{l:List Int}{off:Nat}(h:CR ro σ w b (l.map λn=>A.int .u8 n) off):(loadCells ⟨b,off,none⟩ l.length).run P w=.ok (l.map λn=>Value.int .u8 n).toArray w:=by
 obtain⟨vs,i,_,f⟩:=Yv (P:=P) (cs:=l.map λn=>A.int .u8 n) 0 (by simpa using h);have e:∀(l:List Int) (vs:List Value),LR ro σ w (l.map λn=>A.int .u8 n) vs->vs=l.map λn=>Value.int .u8 n:=by
  intro l
  induction l with
  |nil=>intro vs h;exact h
  |cons n l k=>
   rintro vs ⟨v,g,rfl,d,j⟩;have a:v=.int .u8 n:=d
   grind
 have:=f w #[] rfl
 grind[loadCells]
theorem Qio:∀(l:List Int) (acc:ByteArray),l.foldl (λr n=>r.push (UInt8.ofNat n.toNat)) acc=⟨acc.data++(l.map Q6).toArray⟩
 |[],acc=>by simp
 |n::l,acc=>by
  rw[XC,Qio l];simp[ByteArray.push,Q6]
theorem Qct{t u e:TypeId}{x:Operand}{ax:A}{l:List Int}(z:Qj8 P H ax l)(g:∀w,(underlying t).run P w=.ok (.slice e) w)(he:∀w,(underlying e).run P w=.ok (.int .u8) w)(i:∀w,(underlying u).run P w=.ok .string w)
  (B:o.op=.convert t u x:=by exact rfl)(hx:opA env x=ax:=by exact rfl):OpV P o env H (.str (l.map Q6)):=by
 intro m y σ N a w r;have k:=Ql r x;rw[hx]at k;refine⟨.string ⟨(l.map Q6).toArray⟩,?_,rfl⟩;have s:(convert t u (a.eval x)).run P w=.ok (.string ⟨(l.map Q6).toArray⟩) w:=by
  rcases z m y σ w _ r.sim k with⟨j,c,f,rfl⟩|⟨b,d,c,f,h⟩
  .rw[f];cases j with
   |none=>simp[convert,g,i,he,Conv.bytesToString,go_sem];rfl
   |some j=>simp[convert,g,i,he,Conv.bytesToString,loadCells,loadCellsFrom,go_sem];rfl
  .rw[f];have q:(loadCells ⟨b,d,none⟩ l.length).run P w=.ok (l.map λn=>Value.int .u8 n).toArray w:=by
    rcases h with rfl|h
    .rfl
    .exact Qjy h
   have p:(convert t u (.slice (some ⟨b,d,none⟩) l.length c)).run P w=(Conv.bytesToString (.slice (some ⟨b,d,none⟩) l.length c)).run P w:=by
    simp[convert,g,i,he,go_sem]
   rw[p,run_bytesToString w ⟨b,d,none⟩ l.length c l q,Qio];simp
 simp_all[execOp]
theorem Ql1{t u:TypeId}{x y:Operand}{p q:List UInt8}(ho:o.op=.binOp .gtr t x y u)(hx:opA env x=.str p)(hy:opA env y=.str q):OpV P o env H (.bool (!(Op.bytesLess p q||p==q))):=
 Qcr (f:=λa b=> !(Op.bytesLess a b||a==b)) ho hx hy (by simp)
end
structure TyX where
 ty:TyI
 al:List (Nat×A)
 sl:List Nat
structure QaY (P:Program) (T:TyX):Prop where
 ty:TyOK P T.ty
 al:∀e∈T.al,(∃z,(∀w,(zeroValue e.1).run P w=.ok z w)/\ZR e.2 z)/\Ys e.2=true/\(Yj e.2).all YA=true
 sl:∀t∈T.sl,∃et,∀w,(underlying t).run P w=.ok (.slice et) w
def Y9(all:Array Oper)(o:Oper)(env:Env):Option Bool:=
 match o.guard with
 |none=>some true
 |some (j,c)=>match(all[j]?).bind (·.dst)with
  |none=>none
  |some d=>match lk env d with
   |.bool true=>some c
   |.bool false=>some (!c)
   |.tup []=>some false
   |_=>none
theorem QT{all:Array Oper}{o:Oper}{env:Env}{b:Bool}(h:Y9 all o env=some b):QE all o env b:=by
 unfold Y9 at h;unfold QE;split at h
 .grind
 .rename_i j c q;rw[q];split at h
  .cases h
  .rename_i d a;refine⟨d,a,?_⟩;split at h
   .simp_all
   .simp_all
   .grind
   .cases h
def QdP:List Nat->Nat->Bool
 |[],_=>false
 |a::r,t=>bif Nat.beq a t then true else QdP r t
theorem Qhu{l:List Nat}{t:Nat}(h:QdP l t=true):t∈l:=by
 induction l with
 |nil=>cases h
 |cons a r d=>
  grind[QdP,Nat.eq_of_beq_eq_true]
inductive FL where
 |mk (l:List A)
def fl:List A->FL
 |[]=>.mk []
 |a::r=>match fl r with
  |.mk r'=>.mk (a::r')
theorem QcE:∀l:List A,fl l=.mk l
 |[]=>rfl
 |a::r=>by unfold fl;rw[QcE r]
inductive FB where
 |mk (l:List Blk)
def fb:List Blk->FB
 |[]=>.mk []
 |a::r=>match fb r with
  |.mk r'=>.mk (a::r')
theorem QkK:∀l:List Blk,fb l=.mk l
 |[]=>rfl
 |a::r=>by unfold fb;rw[QkK r]
inductive FN where
 |mk (n:Nat)
def fn:List Blk->Nat->FN
 |[],n=>.mk n
 |_::r,n=>fn r (n+1)
theorem Qm3:∀(l:List Blk) (n:Nat),fn l n=.mk (l.length+n)
 |[],n=>by simp[fn]
 |a::r,n=>by unfold fn;rw[Qm3 r];simp;omega
def QkI(env:Env)(pl:List (Nat×Nat)):List A->List (Nat×Operand)->Option (List A)
 |cs,[]=>some cs
 |cs,(i,x)::r=>match Y5 pl i with
  |none=>none
  |some (off,size)=>match opB env x with
   |.mk a=>match fl (Yj a)with
    |.mk vs=>bif Ys a&&Nat.beq vs.length size&&Nat.ble (off+size) cs.length then(match fl (splice cs off vs)with
     |.mk cs'=>QkI env pl cs' r)else none
theorem QiJ{env:Env}{pl:List (Nat×Nat)}:∀(parts:List (Nat×Operand)) (cs:List A),QkI env pl cs parts=Qek env pl cs parts
 |[],cs=>rfl
 |(i,x)::r,cs=>by
  unfold QkI Qek;rw[QaA];cases pl[i]? with
  |none=>rfl
  |some q=>
   obtain⟨off,size⟩:=q;cases h:opB env x with
   |mk a=>
    rw[QV h];simp only[QcE];cases(Ys a&&Nat.beq (Yj a).length size&&Nat.ble (off+size) cs.length)with
    |false=>rfl
    |true=>exact QiJ r _
def Qiv(env:Env):List Operand->List A
 |[]=>[]
 |x::r=>match opB env x with
  |.mk a=>a::Qiv env r
theorem Qdg{env:Env}:∀l:List Operand,Qiv env l=l.map (opA env)
 |[]=>rfl
 |x::r=>by
  unfold Qiv;cases h:opB env x with
  |mk a=>rw[Vg,QV h];show a::Qiv env r=_;rw[Qdg r]
def ptX(H:Qe):Bx->Option Lx
 |.mk (.rp cs)=>some (.mk cs)
 |.mk (.ptr i off)=>match Y5 H i with
  |some (.cells _ cs)=>some (Qi3 off cs)
  |_=>none
 |_=>none
theorem Qpi{H:Qe}{p:A}{cs:List A}(h:ptX H (.mk p)=some (.mk cs)):Pts H p cs:=by
 unfold ptX at h
 grind[Pts.rp,QaA,Pts.cells,Qf2]
def QdD(T:TyX)(o:Oper)(env:Env)(H:Qe):Option A:=
 match o.op with
 |.move x=>match opB env x with|.mk a=>some a
 |.assign x=>match opB env x with|.mk a=>some a
 |.nilCheck x=>nlB (opB env x)
 |.extract x i=>exB (opB env x) i
 |.unOp u _ x=>unB u (opB env x)
 |.pick c x y=>piB (opB env c) (opB env x) (opB env y)
 |.binOp b _ x y _=>biB b (opB env x) (opB env y)
 |.fieldAddr t x f=>match QiG T.ty.fld t f with
  |none=>none
  |some off=>match opB env x with
   |.mk (.ptr i p)=>some (.ptr i (p+off))
   |.mk (.rp cs)=>match Qi3 off cs with
    |.mk r=>some (.rp r)
   |_=>none
 |.load t x=>match Qcz T.ty.agg t with
  |none=>none
  |some (b,n)=>match x with
   |.global g=>match Y5 QjK g with
    |some zs=>bif b&&Nat.beq zs.length n then(match fl (zs.map (A.int .i64))with|.mk l=>some (.agg l))else none
    |none=>none
   |x=>match ptX H (opB env x)with
    |none=>none
    |some (.mk cs)=>match b with
     |true=>(match fl (cs.take n)with|.mk l=>bif Nat.beq l.length n then some (.agg l)else none)
     |false=>(match cs with|[]=>none|a::_=>some a)
 |.build t parts=>match Qcz T.ty.zer t with
  |none=>none
  |some (zs,pl)=>match QkI env pl zs parts.toList with
   |some cs=>some (.agg cs)
   |none=>none
 |.makeFunc f first cap=>match fl (Qiv env first.toList),fl (Qiv env cap.toList)with
  |.mk l,.mk l'=>some (.fn f l l')
 |.call c=>match c with
  |{callee:=.builtin .len,args:=⟨[x]⟩,argTypes:=⟨[t]⟩}=>bif QdP T.sl t then(match opB env x with
   |.mk (.osl _ 0 n _)=>some (.int .i64 n)
   |_=>none)else none
  |_=>none
 |_=>none
theorem Qat{P:Program}{T:TyX}(d:QaY P T){o:Oper}{env:Env}{H:Qe}{x:A}(h:QdD T o env H=some x):OpV P o env H x:=by
 unfold QdD at h;split at h
 .simp_all[QbO,svB]
 .simp_all[QbO,svB]
 .simp_all[QbO,svB]
 .simp_all[QbO,svB]
 .simp_all[QbO,svB]
 .simp_all[QbO,svB]
 .simp_all[QbO,svB]
 .rename_i t y f a;split at h
  .cases h
  .rename_i u l;obtain⟨n,O⟩:=d.ty.fld _ (QiF l);split at h
   .grind[QcZ,QV]
   .rename_i j V;cases q:Qi3 u j with
    |mk r=>rw[q]at h;grind[Qgc,QV,Qf2]
   .cases h
 .rename_i t y a;split at h
  .cases h
  .rename_i b n F;obtain⟨m,s⟩:=d.ty.agg _ (Qau F);split at h
   .rename_i g;split at h
    .rename_i B E;rw[QaA]at E;cases q:(b&&Nat.beq B.length n)with
     |false=>grind
     |true=>
      rw[q,QcE]at h;cases h;simp only[XV]at q;obtain⟨rfl,w⟩:=q;exact Qg8 m s E (by simp_all) a
    .cases h
   .cases e:opB env y with
    |mk p=>
     rw[e]at h;split at h
     .cases h
     .rename_i j J;have N:=Qpi J;cases b with
      |true=>
       simp only[QcE]at h;cases q:Nat.beq (j.take n).length n with
       |false=>grind
       |true=>
        rw[q]at h;cases h;exact QD a m s (QV e) N rfl (by simp_all)
      |false=>
       grind[OpV.load,QV]
 .rename_i t parts a;split at h
  .cases h
  .rename_i B Q M;obtain⟨⟨z,m,s⟩,G⟩:=d.ty.zer _ (Qau M);split at h
   .rename_i j l;cases h;rw[QiJ]at l;exact OpV.build m s G (by rw[a]) l
   .cases h
 .rename_i f first cap a
  simp only[QcE]at h;cases h;rw[Qdg,Qdg];exact OpV.makeFunc (first:=first.toList) (cap:=cap.toList) (by rw[a]) rfl rfl
 .rename_i c a;split at h
  .rename_i y t;cases q:QdP T.sl t with
   |false=>grind
   |true=>
    rw[q]at h;simp only[Vl]at h;obtain⟨R,L⟩:=d.sl t (Qhu q);split at h
    .rename_i i n k w;cases h;exact Ql2 L a rfl (QV w)
    .cases h
  .cases h
 .cases h
def stX(T:TyX)(h0 N:Nat)(all:Array Oper)(o:Oper)(env:Env)(H:Qe):Option (Env×Qe):=
 match Y9 all o env with
 |none=>none
 |some false=>match o.dst with
  |none=>none
  |some d=>bif Nat.blt d N then some (up env d (.tup []),H)else none
 |some true=>match o.dst with
  |none=>match o.op with
   |.store t x y=>match opB env x,Qcz T.ty.agg t with
    |.mk (.ptr i off),some (_,n)=>match Y5 H i with
     |some (.cells S cs)=>match opB env y with
      |.mk a=>match fl (Yj a)with
       |.mk vs=>bif Nat.ble h0 H.length&&(Ys a&&(Nat.beq vs.length n&&(vs.all YA&&Nat.ble (off+n) cs.length)))then(match fl (splice cs off vs)with
        |.mk cs'=>match fb (H.set i (.cells S cs'))with
         |.mk H'=>some (env,H'))else none
     |_=>none
    |_,_=>none
   |_=>none
  |some d=>bif Nat.blt d N then(match o.op with
   |.alloc t=>match Qcz T.al t with
    |some v=>bif Nat.ble h0 H.length then(match fn H 0,fl (Yj v)with
     |.mk n,.mk cs=>match fb (H++[.cells t cs])with
      |.mk H'=>some (up env d (.ptr n 0),H'))else none
    |none=>none
   |.box t x=>match opB env x with
    |.mk a=>bif Nat.ble h0 H.length&&(Ys a&&(Yj a).all YA)then(match fn H 0,fl (Yj a)with
     |.mk n,.mk cs=>match fb (H++[.cells t cs])with
      |.mk H'=>some (up env d (.ptr n 0),H'))else none
   |_=>match QdD T o env H with
    |some a=>some (up env d a,H)
    |none=>none)else none
def runX(T:TyX)(h0 N:Nat)(all:Array Oper):Nat->List Oper->Env->Qe->Option (List Oper×Env×Qe)
 |0,l,env,H=>some (l,env,H)
 |_+1,[],_,_=>none
 |n+1,o::l,env,H=>match stX T h0 N all o env H with
  |some (env',H')=>runX T h0 N all n l env' H'
  |none=>none
section
variable {P:Program} {T:TyX} {h0 N:Nat} {all:Array Oper} {l l':List Oper} {env env':Env} {H H':Qe} {Q:QR}
theorem Qjs(m:QaY P T){o:Oper}(h:stX T h0 N all o env H=some (env',H'))(k:WO P h0 N all l env' H' Q):WO P h0 N all (o::l) env H Q:=by
 unfold stX at h;split at h
 .cases h
 .grind[QT,WO.skip]
 .rename_i O;have j:=QT O;split at h
  .rename_i f;split at h
   .rename_i t x y g;split at h
    .rename_i i r b n B u;split at h
     .rename_i S cs hH;rw[QaA]at hH;cases e:opB env y with
      |mk a=>
       rw[e]at h;simp only[QcE,QkK]at h;generalize hc:(Nat.ble h0 H.length&&(Ys a&&(Nat.beq (Yj a).length n&&((Yj a).all YA&&Nat.ble (r+n) cs.length))))=c at h;cases c with
       |false=>cases h
       |true=>
        cases h;simp only[XV]at hc;obtain⟨c1,p,s,E,M⟩:=hc;obtain⟨_,R⟩:=m.ty.agg _ (Qau u);exact Qnt (by simp_all) j f (OpU.store g (QV B) hH R (QV e) p rfl (by simp_all) E M rfl) k
     .cases h
    .cases h
   .cases h
  .rename_i d f;cases q:Nat.blt d N with
   |false=>grind
   |true=>
    rw[q]at h;simp only[Vl]at h;split at h
    .rename_i t g;split at h
     .rename_i v V;cases c:Nat.ble h0 H.length with
      |false=>grind
      |true=>
       rw[c]at h;simp only[QcE,QkK,Qm3,Vl,Xw]at h;cases h;obtain⟨⟨z,w,J⟩,L,G⟩:=m.al _ (Qau V);exact QhX (by simp_all) j f q (QbC w J g L rfl G) k
     .cases h
    .rename_i t x g;cases e:opB env x with
     |mk a=>
      rw[e]at h;simp only[QcE,QkK,Qm3,Xw]at h;generalize hc:(Nat.ble h0 H.length&&(Ys a&&(Yj a).all YA))=c at h;cases c with
      |false=>cases h
      |true=>
       cases h;simp only[XV]at hc;obtain⟨c1,p,s⟩:=hc;exact QhX (by simp_all) j f q (OpH.box g (QV e) p rfl s) k
    .split at h
     .rename_i a F;cases h;exact YQ j f q (Qat m F) k
     .cases h
theorem AU(hT:QaY P T):∀(n:Nat) {l l':List Oper} {env env':Env} {H H':Qe},runX T h0 N all n l env H=some (l',env',H')->WO P h0 N all l' env' H' Q->WO P h0 N all l env H Q
 |0,l,l',env,env',H,H',h,k=>by cases h;exact k
 |n+1,[],l',env,env',H,H',h,k=>by cases h
 |n+1,o::l,l',env,env',H,H',h,k=>by
  unfold runX at h;split at h
  .rename_i e1 H1 hs;exact Qjs hT hs (AU hT n h k)
  .cases h
end
theorem FA{P:Program}{T f off n:Nat}{fs:Array Field}{a:Field}(d:∀w,(underlying T).run P w=.ok (.struct fs) w)(h:fs[f]?=some a)(e:∀w,(sizeOf a.type).run P w=.ok n w)(g:a.offset=off:=by exact rfl)(h5:n≠0:=by decide):QK P T f off n:=⟨_,_,d,h,g,e,h5⟩
theorem Qd8:∀(π:List Nat) (H:Qe) (xs:List Blk),π.map (λp=>H[p]?)=xs.map some->Yx H π xs=H
 |[],H,xs,h=>by
  simp_all[Yx]
 |p::π,H,[],h=>by simp at h
 |p::π,H,x::xs,h=>by
  simp only[Vg,List.cons.injEq]at h;have e:H.set p x=H:=by
   apply List.ext_getElem?
   grind
  unfold Yx;rw[e];exact Qd8 π H xs h.2
def Qlf:A->Option Bx
 |.bool b=>some (.mk (.bool b))
 |.int k n=>some (.mk (.int k n))
 |.str s=>some (.mk (.str s))
 |.rsl k es=>some (.mk (.rsl k es))
 |_=>none
theorem Qn9{v a:A}(h:Qlf v=some (.mk a))(ρ:Nat->Nat):Y4 ρ v=a:=by
 cases v<;>first|(cases h;rfl)|cases h
theorem Pc{P:Program}{h0 N:Nat}{all:Array Oper}{o:Oper}{l:List Oper}{env:Env}{H:Qe}{Q:QR}{d:Nat}{f:FuncId}{args e:List A}{Hc:Qe}{v h:A}(π:List Nat)(i:o.dst=some d)(g:OpC P o env H f args)(j:C P f e Hc (λa H1=>a=v/\H1=Hc))(m:Qlf v=some (.mk h))
  (k:WO P h0 N all l (up env d h) H Q)
  (hargs:args=Qag (rho π H.length) e:=by exact rfl)(hH:π.map (λp=>H[p]?)=(Hc.map (Yc (rho π H.length))).map some:=by exact rfl)(hπ:π.Nodup:=by decide)
  (hg:QE all o env true:=by exact rfl)(hN:Nat.blt d N=true:=by exact rfl)(hh:Nat.ble h0 H.length=true:=by exact rfl):WO P h0 N all (o::l) env H Q:=by
 refine Qo π g j ?_ hargs hH hπ hg i hN hh
 simp_all[Qn9,Qd8]
theorem Qap{i k:Nat}{es:List (List A)}:∀H:Qe,FzH i k es H H
 |[]=>.nil
 |_::r=>.keep (Qap r)
def foN:Nat->FN
 |0=>.mk 0
 |n+1=>match foN n with
  |.mk m=>.mk (m+1)
theorem QfD:∀n,foN n=.mk n
 |0=>rfl
 |n+1=>by unfold foN;rw[QfD n]
mutual
def foA:A->Bx
 |.agg cs=>match foL cs with
  |.mk l=>.mk (.agg l)
 |.tup cs=>match foL cs with
  |.mk l=>.mk (.tup l)
 |.fn f a c=>match foL a,foL c with
  |.mk l,.mk l'=>.mk (.fn f l l')
 |.iface t v=>match foA v with
  |.mk v'=>.mk (.iface t v')
 |.ptr i off=>match foN i with
  |.mk i'=>.mk (.ptr i' off)
 |.osl i o n k=>match foN i with
  |.mk i'=>.mk (.osl i' o n k)
 |.map i=>match foN i with
  |.mk i'=>.mk (.map i')
 |a=>.mk a
def foL:List A->FL
 |[]=>.mk []
 |a::r=>match foA a,foL r with
  |.mk a',.mk r'=>.mk (a'::r')
end
mutual
theorem QhA:∀a:A,foA a=.mk a
 |.agg cs=>by unfold foA;rw[QcU cs]
 |.tup cs=>by unfold foA;rw[QcU cs]
 |.fn f a c=>by unfold foA;rw[QcU a,QcU c]
 |.iface t v=>by unfold foA;rw[QhA v]
 |.ptr i off=>by unfold foA;rw[QfD]
 |.osl i o n k=>by unfold foA;rw[QfD]
 |.map i=>by unfold foA;rw[QfD]
 |.any|.bool _|.int _ _|.str _|.nilp|.rp _|.nils|.rsl _ _|.nilf|.nilif|.nilm=>by rfl
theorem QcU:∀l:List A,foL l=.mk l
 |[]=>by rfl
 |a::r=>by unfold foL;rw[QhA a,QcU r]
end
inductive FE2 where
 |mk (l:List (List A))
def foE:List (List A)->FE2
 |[]=>.mk []
 |a::r=>match foL a,foE r with
  |.mk a',.mk r'=>.mk (a'::r')
theorem Qm2:∀l,foE l=.mk l
 |[]=>rfl
 |a::r=>by unfold foE;rw[QcU,Qm2 r]
def foH:List Blk->FB
 |[]=>.mk []
 |b::r=>match foH r with
  |.mk r'=>match b with
   |.cells t cs=>match foL cs with
    |.mk l=>.mk (.cells t l::r')
   |.rowr t k es=>match foE es with
    |.mk l=>.mk (.rowr t k l::r')
   |.dead=>.mk (.dead::r')
   |.row t k es=>.mk (.row t k es::r')
   |.map es=>.mk (.map es::r')
   |.iter c es=>.mk (.iter c es::r')
   |.fmap es=>.mk (.fmap es::r')
   |.mapO fz t k es=>.mk (.mapO fz t k es::r')
   |.mapP es=>.mk (.mapP es::r')
   |.frow t k es=>.mk (.frow t k es::r')
   |.wins t a n c=>match foN a with
    |.mk a'=>.mk (.wins t a' n c::r')
   |.ents t a b es=>match foN a,foN b with
    |.mk a',.mk b'=>.mk (.ents t a' b' es::r')
theorem QjM:∀l,foH l=.mk l
 |[]=>rfl
 |b::r=>by
  unfold foH;rw[QjM r];cases b<;>simp only[QcU,Qm2,QfD]
def foS(env:Env)(H:Qe):Option (Env×Qe):=
 match foH H with
 |.mk H'=>match env with
  |[]=>some ([],H')
  |(d,a)::e=>match foA a with
   |.mk a'=>some ((d,a')::e,H')
theorem Qpw(env:Env)(H:Qe):foS env H=some (env,H):=by
 unfold foS;rw[QjM];cases env with
 |nil=>rfl
 |cons p e=>obtain⟨d,a⟩:=p;simp only[QhA]
theorem FE{P:Program}{h0 N:Nat}{all:Array Oper}{l:List Oper}{env env':Env}{H H':Qe}{Q:QR}(h:foS env H=some (env',H'))(k:WO P h0 N all l env' H' Q):WO P h0 N all l env H Q:=by
 rw[Qpw]at h
 grind
def entB(b1 b2:Nat):List (List A)->Option (List Ent)
 |[]=>some []
 |[.ptr b off,.int .i64 lo,.int .i64 hi]::r=>match entB b1 b2 r with
  |none=>none
  |some l=>match Nat.beq b b2 with
   |true=>some (⟨true,off,lo,hi⟩::l)
   |false=>match Nat.beq b b1 with
    |true=>some (⟨false,off,lo,hi⟩::l)
    |false=>none
 |_=>none
theorem QoG{b1 b2:Nat}:∀{es:List (List A)} {l:List Ent},entB b1 b2 es=some l->l.map (eC b1 b2)=es:=by
 intro es
 induction es with
 |nil=>intro l h;cases h;rfl
 |cons e r f=>
  intro l h;unfold entB at h;split at h
  .grind
  .rename_i b d lo i j q;cases q;split at h
   .cases h
   .rename_i g a;have e:=f a;split at h
    .rename_i q;cases h;have:=XP q;subst this;rw[Vg,e];rfl
    .split at h
     .rename_i q;cases h;have:=XP q;subst this;rw[Vg,e];rfl
     .cases h
  .cases h
theorem TE{P:Program}{h0 N:Nat}{all:Array Oper}{l:List Oper}{env:Env}{H:Qe}{Q:QR}{t:Nat}{es:List (List A)}{L:List Ent}(i b1 b2:Nat)(hH:H[i]?=some (.rowr t 3 es))(h:entB b1 b2 es=some L)
  (k:WO P h0 N all l env (H.set i (.ents t b1 b2 L)) Q):WO P h0 N all l env H Q:=QG (Ql9 hH (QoG h)) k
theorem R1{P:Program}{h0:Nat}{fn:Func}{env:Env}{H Hc:Qe}{v:A}(s:Nat)(hr:fn.results= #[.tmp s])(hle:Le h0 env H [(s,v)] Hc):QbA P h0 fn (λa H=>a=v/\H=Hc) .ret env H:=
 ⟨[(s,v)],Hc,v,hle,QcI.one hr (by simp_all[lk]),rfl,rfl⟩
theorem R2{P:Program}{h0:Nat}{fn:Func}{env:Env}{H Hc:Qe}{v v':A}(s t:Nat)(hr:fn.results= #[.tmp s,.tmp t])(hn:Nat.beq t s=false)(hle:Le h0 env H [(s,v),(t,v')] Hc):QbA P h0 fn (λa H=>a=.tup [v,v']/\H=Hc) .ret env H:=
 ⟨[(s,v),(t,v')],Hc,_,hle,QlV hr (by simp_all[lk]) (by simp_all[lk]),rfl,rfl⟩
theorem FzA.o{i k n:Nat}{es:List (List A)}(a:n=es.length:=by first|exact(XZ ..).symm|exact rfl):FzA i k es (.osl i 0 n k) (.rsl k es):=FzA.own a
end Go.Sw
