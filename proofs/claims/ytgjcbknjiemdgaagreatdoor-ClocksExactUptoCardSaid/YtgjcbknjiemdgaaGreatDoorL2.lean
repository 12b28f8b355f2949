/- The rules by which the code is walked, with what they rest on (part 2). -/
import Derived.Test.YtgjcbknjiemdgaaGreatDoorL1
import Derived.Below
import GoSem.ClaimChange
import Derived.Shelf.Strings.Search3
import Derived.Lib.LazyBuf
import Derived.Shelf.Sort.Plain
import Derived.Shelf.Slices.In.SortNone
import Derived.Shelf.Slices.CompactI
import Derived.RangeFuncIn
import Derived.RangeFuncSeq
import Derived.RangeFuncNested
import Derived.Lib.Bytealg
import Derived.Laws.Externs
import Derived.LaidLaws
import Derived.Lib.LaidTab
import Derived.ChangeArms
import Derived.ChangeSame
import Derived.Laws.BytesString
set_option linter.unusedVariables false
set_option linter.unusedSectionVars false
set_option linter.unusedSimpArgs false
namespace Go.Sw
open Go.Sort Go.Proofs Go.Shelf
theorem QdP{α:Type}{k:Nat}:∀(vs:List (List α)) (j:Nat),(∀v∈vs,v.length=k)->j<vs.length*k->vs.flatten[j]?=(vs[j/k]?).bind λv=>v[j%k]?
 |[],j,_,h=>by simp at h
 |v::vs,j,hk,h=>by
  have hv:=hk v (by simp);have k0:0<k:=by
   rcases Nat.eq_zero_or_pos k with q|q
   .subst q;simp at h
   .exact q
  rw[Vl];by_cases q:j<k
  .rw[XM (by omega),Nat.div_eq_of_lt q,Nat.mod_eq_of_lt q];simp
  .rw[XN (by omega),hv,QdP vs (j-k) (λv hv=>hk v (by simp[hv])) (by simp[Xl]at h;omega)];have b:j/k=(j-k)/k+1:=by rw[Nat.div_eq_sub_div k0 (by omega)]
   have a:j%k=(j-k)%k:=Nat.mod_eq_sub_mod (by omega);rw[b,a,XF]
theorem Qam{α:Type}{k:Nat}:∀(vs:List (List α)),(∀v∈vs,v.length=k)->vs.flatten.length=vs.length*k
 |[],_=>by simp
 |v::vs,h=>by rw[Vl,X3,Qam vs (λv hv=>h v (by simp[hv])),h v (by simp),X0,Xl];omega
theorem Qc8{α:Type}(F:List α)(j:Nat):F.toArray[j]?=F[j]? :=by simp
theorem QhI{α:Type}[Inhabited α](F:List α)(j:Nat)(h:j<F.length):F[j]?=some (F.toArray[j]!):=by simp[h]
theorem QhO{β:Type}[Inhabited β]{enc:β->List Value}{k:Nat}(f:∀x,(enc x).length=k)(d:Array β):flatK enc k d=((d.toList.map enc).flatten).toArray:=by
 have b:∀v∈d.toList.map enc,v.length=k:=by
  intro v g;obtain⟨x,_,rfl⟩:=Xe.1 g;exact f x
 apply Array.ext_getElem?;intro t;rw[Qc8 ((d.toList.map enc).flatten) t];by_cases h:t<d.size*k
 .rw[QdP _ t b (by simpa using h)];have l:0<k:=by
   rcases Nat.eq_zero_or_pos k with q|q
   .subst q;simp at h
   .exact q
  have i:t/k<d.size:=Nat.div_lt_of_lt_mul (by rw[Nat.mul_comm];exact h);have j:t%k<k:=Nat.mod_lt _ l;have a:t<(flatK enc k d).size:=by simpa using h
  have e:=get_flatK enc k d t h;rw[getElem!_pos (flatK enc k d) t a]at e;rw[Array.getElem?_eq_getElem a,e];simp[i];rw[XK (by rw[f];exact j)];rfl
 .have e:(d.toList.map enc).flatten.length=d.size*k:=by rw[Qam _ b];simp
  rw[Array.getElem?_eq_none (by simpa using h),XO (by rw[e];omega)]
section
variable {ro:Nat->Prop} {σ:Sig} {w:World} {T:Type} {enc:T->List A} {k:Nat}
theorem RL.parts:∀{l:List T} {lv:List Value},RL ro σ w k (l.map enc) lv->
  ∃(ps:List (T×List Value)) (rest:List Value),ps.map (·.1)=l/\lv=(ps.map (·.2)).flatten++rest/\ ∀p∈ps,p.2.length=k/\LR ro σ w (enc p.1) p.2/\ ∀v∈p.2,Qp v
 |[],lv,_=>⟨[],lv,rfl,rfl,by simp⟩
 |x::l,lv,h=>by
  obtain⟨l1,l2,rfl,h1,⟨h2,h3⟩,h4⟩:=h;obtain⟨ps,rest,e1,rfl,h5⟩:=RL.parts (l:=l) h4;refine⟨(x,l1)::ps,rest,by simp[e1],by simp,?_⟩;intro p hp;rcases X6.1 hp with rfl|hp
  .exact⟨by rw[h2.length];exact h1,h2,h3⟩
  .exact h5 p hp
theorem Qd1(hk:∀x:T,(enc x).length=k):∀{ps:List (T×List Value)} {rest:List Value},(∀p∈ps,LR ro σ w (enc p.1) p.2/\ ∀v∈p.2,Qp v)->RL ro σ w k ((ps.map (·.1)).map enc) ((ps.map (·.2)).flatten++rest)
 |[],_,_=>trivial
 |p::ps,rest,h=>by
  refine⟨p.2,(ps.map (·.2)).flatten++rest,by simp,hk _,h p (by simp),Qd1 hk λq hq=>h q (by simp[hq])⟩
end
structure Elt (ro:Nat->Prop) (w:World) {T:Type} (enc:T->List A) (k:Nat) (l:List T) where
 x:T
 vs:List Value
 mem:x∈l
 len:vs.length=k
 rel:LR ro [] w (enc x) vs
 plain:∀v∈vs,Qp v
theorem Qkh{v:Value}(h:Qp v):v.oneCell'=true:=by cases v<;>first|rfl|exact h.elim
theorem Qj8{P:Program}{ρ:Ren}(L:SlLaysF0.n6 P ρ){T:Type}[DecidableEq T]{enc:T->List A}{k t g:Nat}{cap:List A}{l l':List T}{cf:T->T->Option Int}(hs:QbC cf l=some l')
  (bb:∀x y c,cf x y=some c->C P g ([.agg (enc x),.agg (enc y)]++cap) [] (λa H=>a=.int .i64 c/\H=[]))
  (aE:∀w,(isAgg (ρ.t 24)).run P w=.ok true w)(zE:∀w,(Go.sizeOf (ρ.t 24)).run P w=.ok k w)(eg:∀args w,(callFunc g args).run P w=.ok (.enter g args) w)
  (hk:∀x,(enc x).length=k)(hd:Yy cap=true):
  C P (ρ.f 6) [.osl 0 0 l.length k,.fn (.func g) [] cap] [.row t k (l.map enc)] (λa H=>a=.tup []/\H=[.row t k (l'.map enc)]):=by
 intro fr J σ vals w s hv;obtain⟨vs,r1,rfl,bd,vf,r2,rfl,bm,hr⟩:=hv;cases(show r2=[]from hr);obtain⟨lf,lc,rfl,h1,bc⟩:=bm;cases(show lf=[]from h1);have ay:LR J [] w cap lc:=LR.data hd bc;obtain⟨a7,aj,M,ar,a5⟩:=Qez hs;have E:∀(ad:Option Addr) (c:Nat),vs=.slice ad 0 c->l=[]->
   Calls P (ρ.f 6) [vs,.func (.func g) #[] lc.toArray].toArray w λe w'=>∃v r H' ae τ,e=.returned v/\(r=.tup []/\H'=[.row t k (l'.map enc)])/\Sim fr ae (σ++τ) H' w'/\VR ae (σ++τ) w' r v/\Qh fr J w ae w':=by
  rintro ad c rfl rfl;have ac:l'=[]:=by rw[<- a5];rfl
  subst ac;refine(AnyF.slices_SortFunc_none L ad c (.func (.func g) #[] lc.toArray) w).mono ?_;rintro e w' ⟨rfl,rfl⟩;exact⟨_,_,_,J,[],rfl,⟨rfl,rfl⟩,by simpa using s,⟨[],rfl,rfl⟩,Qh.refl _ _ _⟩
 rcases bd with⟨h0,rfl⟩|⟨b,p,cp,t',m,q1,rfl,q2,⟨q3,bt⟩,q4,q5⟩
 .exact E none 0 rfl (VJ.1 h0)
 .by_cases ac:l=[]
  .subst ac;exact E _ cp rfl rfl
  .have bl:0<l.length:=List.length_pos_iff.2 ac;obtain rfl:=q2 (Vf bl q3);obtain⟨lv,e1,e2⟩:=s.blk 0 _ _ q1 rfl;obtain⟨hb,al,a0⟩:=s.own 0 b _ q1 rfl rfl;obtain⟨V,G,ba,rfl,ah⟩:=RL.parts e2
   let α:=Elt J w enc k l
   have a3:∀p∈V,p.1∈l:=λp hp=>by rw[<- ba];exact VG hp
   let ds:List α:=V.attach.map λp=>⟨p.1.1,p.1.2,a3 _ p.2,(ah _ p.2).1,(ah _ p.2).2.1,(ah _ p.2).2.2⟩
   have a8:∀{γ:Type} (f:T×List Value->γ),V.attach.map (λp=>f p.1)=V.map f:=λf=>by simp
   have Q:ds.map (·.x)=l:=by
    show(V.attach.map _).map _=_;rw[List.map_map];exact(a8 (·.1)).trans ba
   have ai:ds.map (·.vs)=V.map (·.2):=by
    show(V.attach.map _).map _=_;rw[List.map_map];exact a8 (·.2)
   have aq:ds.length=l.length:=by rw[<- Q];simp
   have a6:ds≠[]:=by intro q;rw[q]at aq;simp at aq;omega
   let inh:Inhabited α:=⟨ds.head a6⟩
   let enc':α->List Value:=λa=>a.vs
   let cf':α->α->Int:=λx y=>(cf x.x y.x).getD 0
   have ag:∀x y:α,ltOf cf' x y=ltO cf x.x y.x:=by
    intro x y;obtain⟨c,B⟩:=aj x.x x.mem y.x y.mem;simp only[ltOf,ltO,cf',B,Option.getD_some]
   have hO:SWO (ltOf cf'):=⟨λx=>by rw[ag];exact M.irrefl _ x.mem,λx y z a b=>by rw[ag]at*;exact M.trans _ x.mem _ y.mem _ z.mem a b,
    λx y z a b=>by rw[ag]at*;exact M.ntrans _ x.mem _ y.mem _ z.mem a b⟩
   have Y:∀x:α,(enc' x).length=k:=λx=>x.len;have an:flatK enc' k ds.toArray=((V.map (·.2)).flatten).toArray:=by
    rw[QhO Y];show((ds.map λa=>a.vs).flatten).toArray=_;rw[ai]
   have bo:∀v∈V.map (·.2),v.length=k:=by
    intro v hv;obtain⟨p,hp,rfl⟩:=Xe.1 hv;exact(ah p hp).1
   have ab:(V.map (·.2)).flatten.length=ds.length*k:=by rw[Qam _ bo, <- ai];simp
   have hH:HoldsK enc' k w b (0*k) ds.toArray:=by
    intro j hj;rw[an]at hj⊢;simp only[List.size_toArray]at hj;constructor
    .unfold World.cell?;simp only[e1,Option.isSome_none,Xi,if_false,Nat.zero_mul,Xv];rw[Qc8,XM hj];exact QhI _ _ hj
    .unfold World.frozen?;simp only[e1];simp
   have ao:∀(d:Array α),d.size=ds.toArray.size->(putRowK enc' k w b (0*k) d).heap=w.heap.setIfInBounds b (.cells (((d.toList.map enc').flatten++G)).toArray t (0,0)):=by
    intro d u;have af:(d.toList.map enc').flatten.length=(V.map (·.2)).flatten.length:=by
     rw[Qam _ (k:=k) (by intro v hv;obtain⟨x,_,rfl⟩:=Xe.1 hv;exact Y x),ab];simp at u⊢;rw[u]
    unfold putRowK putRow mapBlock;show w.heap.modify b _=_;rw[Qdk e1];simp only[onCells];congr 2;rw[QhO Y];unfold putCells;apply Array.ext_getElem?;intro i;simp only[Array.getElem?_mapIdx,Qc8,Nat.zero_mul,XU,true_and,Xv,Nat.sub_zero,List.size_toArray,id_eq];by_cases hi:i<(d.toList.map enc').flatten.length
    .rw[XM hi,XM (by rw[<- af];exact hi),XK (by rw[<- af];exact hi),QhI _ _ hi];exact congrArg some (Vt hi)
    .rw[XN (by omega),XN (by omega),af];cases(G[i-(V.map (·.2)).flatten.length]?)with
     |none=>rfl
     |some v=>
      rw[<- af];exact congrArg some (Vs hi)
   have R:∀(m:Nat) (os:Array Obj) (d:Array α),d.size=ds.toArray.size->
     (∀c,c<w.heap.size->c≠b->(sortWorldK enc' k w b (0*k) m d os).heap[c]?=w.heap[c]?)/\(sortWorldK enc' k w b (0*k) m d os).heap[b]?=some (.cells (((d.toList.map enc').flatten++G)).toArray t (0,0))/\
     w.heap.size<=(sortWorldK enc' k w b (0*k) m d os).heap.size:=by
    intro m os d u;have e:(sortWorldK enc' k w b (0*k) m d os).heap=w.heap.setIfInBounds b (.cells (((d.toList.map enc').flatten++G)).toArray t (0,0))++os:=by
     rw[<- ao d u];rfl
    rw[e];refine⟨λc B bh=>?_,?_,by simp⟩
    .rw[Array.getElem?_append_left (by simpa using B),Ve,Vs (λq=>bh q.symm)]
    .rw[Array.getElem?_append_left (by simpa using hb),Ve,Vt rfl,Vt hb]
   have N:∀(m:Nat) (os:Array Obj) (d:Array α),d.size=ds.toArray.size->∀c y,w.shape? c=some y->(sortWorldK enc' k w b (0*k) m d os).shape? c=some y:=by
    intro m os d u c y hy;obtain⟨g1,g2,g3⟩:=R m os d u;by_cases B:c=b
    .subst B;unfold World.shape? at hy⊢;rw[e1]at hy;rw[g2];simp only[Option.some.injEq]at hy⊢;rw[<- hy];congr 1;simp only[List.size_toArray,X3];rw[Qam _ (k:=k) (by intro v hv;obtain⟨x,_,rfl⟩:=Xe.1 hv;exact Y x),ab];simp at u⊢;rw[u]
    .unfold World.shape? at hy⊢;rw[g1 c (Qlo hy) B];exact hy
   have am:∀(m:Nat) (os:Array Obj) (d:Array α),d.size=ds.toArray.size->∀τ,Ext J τ w J τ (sortWorldK enc' k w b (0*k) m d os):=by
    intro m os d u τ;obtain⟨g1,g2,g3⟩:=R m os d u;exact⟨λ_ q=>q,λc B=>g1 c (s.roLt c B) (λq=>al (q▸B)),N m os d u,λ_ _ q=>q⟩
   have bj:CmpLays P g lc.toArray enc' k cf' b (0*k) ds.toArray.size w:=by
    intro m os dk a4 x y;obtain⟨c,B⟩:=aj x.x x.mem y.x y.mem;have F:=am m os dk a4 [];have bi:=bb _ _ _ B;generalize hW:sortWorldK enc' k w b (0*k) m dk os=W at*;have bn:w.heap.size<=W.heap.size:=by rw[<- hW];exact(R m os dk a4).2.2
    have sW:Sim (λc=>c<W.heap.size/\ ¬J c) J [] [] W:=
     ⟨rfl,s.roOk.to (λ_ q=>q) F.keep (λc B=>Vf (s.roLt c B) bn),λc B=>B.1,λc B hf=>hf.2 B,λi b x h=>by simp at h,λi j b x y h=>by simp at h,λi y x h=>by simp at h,λi b x c h=>by simp at h⟩
    have au:LR J [] W ([.agg (enc x.x),.agg (enc y.x)]++cap) ([.agg x.vs.toArray,.agg y.vs.toArray]++lc):=
     LR.append (show LR J [] W [A.agg (enc x.x),A.agg (enc y.x)] [Value.agg x.vs.toArray,Value.agg y.vs.toArray]from⟨_,_,rfl,⟨x.vs,rfl,x.rel.mono F⟩,_,_,rfl,⟨y.vs,rfl,y.rel.mono F⟩,rfl⟩) (ay.mono F)
    have O:=bi _ J [] _ W sW au;have be:(([Value.agg x.vs.toArray,Value.agg y.vs.toArray]++lc).toArray:Array Value)= #[Value.agg (enc' x).toArray,Value.agg (enc' y).toArray]++lc.toArray:=by simp[enc']
    rw[be]at O;refine O.mono ?_;rintro e w' ⟨v,r,H',ae,τ,rfl,⟨rfl,rfl⟩,s',br,ev⟩;refine⟨?_,?_⟩
    .rw[show v=.int .i64 c from br];simp only[cf',B,Option.getD_some]
    .refine QnA (λc B=>?_) ev.size ev.os ev.tape ev.output ev.drawn;by_cases a1:J c
     .exact ev.keepRo c a1
     .exact ev.keepFr c ⟨B,a1⟩
   have aa:ds.toArray.size=l.length:=by simpa using aq
   have ak:=AnyQ.slices_SortFunc L k aE zE enc' Y (λx v hv=>Qkh (x.plain v hv)) cf' hO g lc.toArray b (0*k) cp ds.toArray w eg bj hH hb (by rw[aa];unfold Q9 at a7;omega);rw[aa]at ak;refine ak.mono ?_;rintro e w' ⟨rfl,d,n,os,X,ax,rfl⟩;have u:d.size=ds.toArray.size:=X.1;obtain⟨g1,g2,g3⟩:=R n os d u;have av:d.toList.Perm ds:=by
    have h:=X.2.2;have x1:d.extract 0 l.length=d:=by rw[<- aa, <- u];exact Array.extract_size
    have x2:ds.toArray.extract 0 l.length=ds.toArray:=by rw[<- aa];exact Array.extract_size
    rw[x1,x2]at h;simpa using h
   have az:d.toList.map (·.x)=l':=by
    rw[<- a5];refine Qbh (lt:=ltO cf) ?_ ?_ ?_ (Yv M)
    .exact((av.map (·.x)).trans (by rw[Q])).trans (QK _ _).symm
    .intro x hx y hy;have bs:x∈l:=by rw[<- Q];exact(av.map (·.x)).mem_iff.1 hx
     have bq:y∈l:=by rw[<- Q];exact(av.map (·.x)).mem_iff.1 hy
     exact ar x bs y bq
    .rw[VE];intro i j hi hj bk;simp only[X2]at hi hj;simp only[List.getElem_map];rw[<- ag];have:=ax i j (XU _) bk (by rw[<- aa, <- u];simpa using hj);rw[getElem!_pos d j (by simpa using hj),getElem!_pos d i (by simpa using hi)]at this;simpa using this
   have bg:RL J [] (sortWorldK enc' k w b (0*k) n d os) k (l'.map enc) ((d.toList.map enc').flatten++G):=by
    have e3:d.toList.map enc'=(d.toList.map λa=>(a.x,a.vs)).map (·.2):=by simp[enc']
    have e4:l'=(d.toList.map λa=>(a.x,a.vs)).map (·.1):=by rw[<- az];simp
    rw[e3,e4];refine Qd1 hk ?_;intro p hp;obtain⟨a,_,rfl⟩:=Xe.1 hp;exact⟨a.rel.mono (am n os d u []),a.plain⟩
   have a9:Qh fr J w J (sortWorldK enc' k w b (0*k) n d os):=
    ⟨λ_ q=>q,λc B=>g1 c (s.roLt c B) (λq=>al (q▸B)),λc B=>g1 c (s.frLt c B) (λq=>a0 (q▸B)),g3,N n os d u,rfl,rfl,rfl,Nat.le_add_right _ _⟩
   have aw:σ.length=1:=s.len;have a2:Sim fr J σ [.row t k (l'.map enc)] (sortWorldK enc' k w b (0*k) n d os):=by
    have i0:∀{i:Nat} {x:Blk},([.row t k (l'.map enc)]:Qd)[i]?=some x->i=0/\x=.row t k (l'.map enc):=by
     intro i x h;cases i with
     |zero=>simp at h;exact⟨rfl,h.symm⟩
     |succ i=>simp at h
    refine⟨aw,s.roOk.to (λ_ q=>q) a9.keepRo (λc B=>Vf (s.roLt c B) g3),λc B=>Vf (s.frLt c B) g3,s.roFr,λi c x h1 h2 h3=>?_,λi j c x y h1 h2 h3 h4 _ _=>?_,λi y x h1 h2=>?_,λi b x c h1 h2 h3=>by obtain⟨rfl,rfl⟩:=i0 h2;exact h3.elim⟩
    .obtain⟨rfl,rfl⟩:=i0 h2;obtain⟨p1,p2⟩:=s.own 0 c _ h1 rfl rfl;exact⟨Vf p1 g3,p2⟩
    .rw[(i0 h3).1,(i0 h4).1]
    .obtain⟨rfl,rfl⟩:=i0 h2;rw[q1]at h1;cases h1;exact⟨_,g2,bg⟩
   exact⟨_,_,_,J,[],rfl,⟨rfl,rfl⟩,by simpa using a2,⟨[],rfl,rfl⟩,a9⟩
end Go.Sw
namespace Go.Sw
section
variable {P:Program} {o:Oper} {env:Env} {H:Qd} {fr ro:Nat->Prop} {σ:Sig} {w:World}
theorem Sim.addRo(s:Sim fr ro σ H w){b:Nat}(h:b<w.heap.size)(g:¬fr b)(n:∀(i:Nat) (x:Blk),σ[i]?=some (some b)->H[i]?=some x->x.live=true->False)
  (k:∀(i d:Nat) (x:Blk),σ[i]?=some (some d)->H[i]?=some x->Hid w x d b->False):Sim fr (λc=>ro c\/c=b) σ H w:=by
 refine⟨s.len,s.roOk.to (λ_ q=>.inl q) (λ_ _=>rfl) ?_,s.frLt,?_,?_,s.inj,?_,s.hidTo (· = ·) Q2 (XT _) (by grind) (by simp) (by grind)⟩
 .rintro c (q|rfl)
  .exact s.roLt c q
  .exact h
 .rintro c (q|rfl)
  .exact s.roFr c q
  .exact g
 .intro i c x a e f;obtain⟨l,m,j⟩:=s.own i c x a e f
  grind
 .intro i y x a e;exact(s.blk i y x a e).keep ⟨λ_ q=>.inl q,λ_ _=>rfl,λ_ _ q=>q,λ_ _ q=>q⟩ (λ_ _ _=>rfl) (λ_ _ _ _=>rfl)
theorem YR{T e k n:Nat}{xs:List Operand}{es:List (List A)}(E:Q6 P T e k)(ho:o.op=.buildSlice T n (Qay 0 xs).toArray)(J:xs.length=n)(B:Nat.ble (n*k) 16777216=true)
  (V:(xs.all λx=>Yg (opA env x))=true)(G:Q8 env xs=es)(M:allK k es)(Q:es.flatten.all Ym=true)(O:Yy es.flatten=true):
  OpH P o env H (.rsl k es) H:=by
 intro X m σ N a w r;subst G;obtain⟨l,Y,L⟩:=QaH r E J B V M;have y:LR m [] w (Q8 env xs).flatten l:=L.data O;have f:∀b,b<w.heap.size->(w.alloc (.cells l.toArray e)).heap[b]?=w.heap[b]? :=λb W=>Yo _ _ b W;have s:w.heap.size<=(w.alloc (.cells l.toArray e)).heap.size:=by simp
 have R:=r.sim.grown f s;have t:Qh X m w m (w.alloc (.cells l.toArray e)):=Qh.alloc _ r.sim.roLt r.sim.frLt;have s2:=R.addRo (b:=w.heap.size) (by simp) (λq=>Nat.lt_irrefl _ (r.sim.frLt _ q)) (λi x h j F=>Nat.lt_irrefl _ (r.sim.own i _ x h j F).1)
  (λi d x h j F=>Nat.lt_irrefl _ (r.sim.hid i d x _ h j (r.sim.hidKeep h j (λz=>f d (r.sim.own i d x h j z).1) (λb q=>f b (r.sim.roLt b q)) F)).lt)
 have u:RL m [] (w.alloc (.cells l.toArray e)) k (Q8 env xs) l:=by
  have:=YI (rest:=[]) M (y.mono (t.ext0 [])) (L.plain Q)
  grind
 have p:(Q8 env xs).length=n:=by simp[Q8,J]
 refine⟨_,_,λc=>m c\/c=w.heap.size,[],Qao ho a.eval Y,?_,by grind,t.trans (YA λ_ q=>.inl q)⟩;refine⟨some ⟨w.heap.size,0,none⟩,n,by rw[p],by omega,.inr ⟨w.heap.size,0,rfl,.inr rfl,?_⟩⟩;have g:(w.alloc (.cells l.toArray e)).heap[w.heap.size]?=some (.cells (([]:List Value)++l).toArray e (0,0)):=QY _ _;have:=Yq (pre:=[]) g u;exact this.keep ⟨λ_ q=>.inl q,λ_ _=>rfl,λ_ _ q=>q,λ_ _ q=>q⟩ rfl
end
inductive Qjf:List A->List A->Prop
 |nil:Qjf [] []
 |eq {a:A} {l m:List A} (h:Qjf l m):Qjf (a::l) (a::m)
 |nl {k:Nat} {l m:List A} (h:Qjf l m):Qjf (.nils::l) (.rsl k []::m)
theorem LR.nils{ro:Nat->Prop}{σ:Sig}{w:World}{g f:List A}(h:Qjf g f):∀{l:List Value},LR ro σ w g l->LR ro σ w f l:=by
 induction h with
 |nil=>simp
 |eq _ ih=>rintro l ⟨v,a,e,b,d⟩;exact⟨v,a,e,b,ih d⟩
 |nl _ ih=>rintro l ⟨v,a,e,b,d⟩;exact⟨v,a,e,⟨none,0,b,XT _,.inl rfl⟩,ih d⟩
theorem C.nils{P:Program}{f:FuncId}{l1 bs:List A}{H:Qd}{Q:A->Qd->Prop}(hl:Qjf l1 bs)(h:C P f bs H Q):C P f l1 H Q:=
 λfr ro σ vals w s l=>h fr ro σ vals w s (LR.nils hl l)
def Qk(k:IntKind)(n:Int):Prop:=k.min<=n/\n<=k.max
def QdY(w:World):Nat->Prop:=λb=>b<w.heap.size
structure Qm0 {H:Type} (μ:DataW H->Nat):Prop where
 str:∀bytes,bytes.length<=μ (.lit (.string bytes))
 sl:∀e s,e.length<=μ (.slice e s)
 sle:∀e s,∀d∈e,μ d<=μ (.slice e s)
 ag:∀ps,∀d∈ps,μ d<=μ (.agg ps)
def RB(P:Program)(n:Nat)(t:TypeId)(T:Type)(e:T->List A)(wf:T->Prop):Prop:=
 ∀(H:Type) (enc:TypeId×Value->H) (w:World) (base:Nat) (spare:Nat->Bool) (held:Bool) (m:Nat) (cs:List Value) d,m<n->DataW.trod enc P w base spare held m t cs=some d->
  ∀μ:DataW H->Nat,Qm0 μ->μ d.1<=1048576->∃x:T,wf x/\LR (QdY w) [] w (e x) cs/\ ∀v∈cs,Qp v
section
variable {P:Program} {n:Nat} {t:TypeId} {T:Type} {e:T->List A} {wf:T->Prop}
theorem RB.down(h:RB P (n+1) t T e wf):RB P n t T e wf:=λH enc w base spare held m cs d hm=>h H enc w base spare held m cs d (Nat.lt_succ_of_lt hm)
theorem Qeo(h:∀n,RB P n t T e wf->RB P (n+1) t T e wf):∀n,RB P n t T e wf
 |0=>λH enc w base spare held m cs d hm=>(by omega)
 |n+1=>h n (Qeo h n)
theorem QT{T':Type}{b:T'->List A}{a:T'->Prop}(h:RB P n t T e wf)(g:T->T')(he:∀x,b (g x)=e x)(j:∀x,wf x->a (g x)):RB P n t T' b a:=by
 intro H enc w base spare held m cs d hm hd μ hμ hwt;obtain⟨x,f,k,i⟩:=h H enc w base spare held m cs d hm hd μ hμ hwt
 grind
theorem RB.int{k:IntKind}(a:P.underlying t=some (.int k)):RB P n t Int (Qe k) (Qk k):=by
 intro H enc w base spare held m cs d hm hd μ hμ hwt;cases m with
 |zero=>simp[DataW.trod]at hd
 |succ m=>
  rcases cs with _|⟨v,_|⟨g,r⟩⟩
  .simp[DataW.trod,a]at hd
  .cases v<;>simp[DataW.trod,a]at hd;rename_i f e;obtain⟨⟨rfl,b⟩,_⟩:=hd;refine⟨e,?_,⟨_,_,rfl,rfl,rfl⟩,by simp[Qp]⟩;simpa[Lit.wf,Qk]using b
  .simp[DataW.trod,a]at hd
theorem RB.bool(a:P.underlying t=some .bool):RB P n t Bool Qa1 (λ_=>True):=by
 intro H enc w base spare held m cs d hm hd μ hμ hwt;cases m with
 |zero=>simp[DataW.trod]at hd
 |succ m=>
  rcases cs with _|⟨v,_|⟨e,r⟩⟩
  .simp[DataW.trod,a]at hd
  .cases v<;>simp[DataW.trod,a]at hd;rename_i b;exact⟨b,trivial,⟨_,_,rfl,rfl,rfl⟩,by simp[Qp]⟩
  .simp[DataW.trod,a]at hd
theorem RB.string(a:P.underlying t=some .string):RB P n t (List UInt8) encS (λs=>s.length<=1048576):=by
 intro H enc w base spare held m cs d hm hd μ hμ hwt;cases m with
 |zero=>simp[DataW.trod]at hd
 |succ m=>
  rcases cs with _|⟨v,_|⟨b,r⟩⟩
  .simp[DataW.trod,a]at hd
  .cases v<;>simp[DataW.trod,a]at hd;rename_i s;obtain⟨_,rfl⟩:=hd;exact⟨s.data.toList,XV (hμ.str _) hwt,⟨_,_,rfl,rfl,rfl⟩,by simp[Qp]⟩
  .simp[DataW.trod,a]at hd
theorem Qcl{α:Type}{f:Nat->Option α}:∀{n:Nat} {l:List α},(List.range n).mapM f=some l->l.length=n/\ ∀i,i<n->∃y,f i=some y/\l[i]?=some y
 |0,l,h=>by grind
 |n+1,l,h=>by
  rw[Xu,List.mapM_append]at h;cases h1:(List.range n).mapM f with
  |none=>grind
  |some l1=>
   cases h2:f n with
   |none=>grind
   |some y=>
    simp[h1,h2]at h;subst h;obtain⟨e1,e2⟩:=Qcl h1
    grind
theorem Qd4{w:World}{ro:Nat->Prop}{b:Nat}:∀{cs:List A} {l:List Value} {off:Nat},LR ro [] w cs l->(∀v∈l,Qp v)->(∀i,i<l.length->w.cell? ⟨b,off+i,none⟩=l[i]?)->CR ro [] w b cs off
 |[],_,_,_,_,_=>trivial
 |a::cs,l,off,h,hp,hc=>by
  obtain⟨v,l',rfl,h1,h2⟩:=h;refine⟨(by grind),Qd4 h2 (by grind) λi hi=>?_⟩;have:=hc (i+1) (by grind)
  grind
theorem RB.slice{E:TypeId}{k:Nat}{s:TypeId}(G:P.underlying s=some (.slice E))(hk:P.cellsOf E=k)(h0:Nat.blt 0 k=true)(hl:∀x,(e x).length=k)(h:RB P n E T e wf):
  RB P (n+1) s (List T) (Qn k e) (λl=>l.length<=1048576/\ ∀x∈l,wf x):=by
 intro H enc w base spare held m cs d hm hd μ hμ hwt;have k0:0<k:=by simp_all
 cases m with
 |zero=>simp[DataW.trod]at hd
 |succ m=>
  rcases cs with _|⟨v,_|⟨v2,r⟩⟩
  .simp[DataW.trod,G]at hd
  .cases v<;>try (simp[DataW.trod,G]at hd;done)
   rename_i a len g;cases a with
   |none=>
    rcases len with _|len
    .rcases g with _|g
     .refine⟨[],⟨by simp,by simp⟩,⟨_,_,rfl,⟨none,0,rfl,XT _,.inl rfl⟩,rfl⟩,by simp[Qp]⟩
     .simp[DataW.trod,G]at hd
    .simp[DataW.trod,G]at hd
   |some a=>
    simp only[DataW.trod,G]at hd;split at hd
    .rename_i hc;obtain⟨c1,c2,c3⟩:=hc;cases L:(List.range len).mapM (λi=>(w.cells? base (a.add (i*P.cellsOf E)) (P.cellsOf E)).bind (DataW.trod enc P w base spare held m E))with
     |none=>grind
     |some f=>
      rw[L]at hd;simp only[XJ,Option.map_eq_some_iff]at hd;obtain⟨p,_,rfl⟩:=hd;have B:f.length<=1048576:=by
       have h1:=hμ.sl (f.map (·.1)) (p.map (·.1))
       grind
      have V:∀y∈f,μ y.1<=1048576:=λy Q=>XV (hμ.sle _ (p.map (·.1)) _ (VG Q)) hwt;obtain⟨e1,e2⟩:=Qcl L;have J:∀i,i<len->∃(x:T) (l:List Value),wf x/\LR (QdY w) [] w (e x) l/\(∀v∈l,Qp v)/\l.length=k/\ ∀j,j<k->w.cell? ((a.add (i*k)).add j)=l[j]? :=by
       intro i hi;obtain⟨y,y1,y2⟩:=e2 i hi;rw[hk]at y1;cases X:w.cells? base (a.add (i*k)) k with
       |none=>grind
       |some l=>
        rw[X]at y1;obtain⟨x,x1,x2,x3⟩:=h H enc w base spare held m l y (by omega) y1 μ hμ (V y (VH y2))
        grind[World.cells?,Qcl]
      by_cases R:len=0
      .subst R;exact⟨[],⟨by simp,by simp⟩,⟨_,_,rfl,⟨some a,g,rfl,XU _,.inl rfl⟩,rfl⟩,by simp[Qp]⟩
      .have first:a.spot=none/\a.block<w.heap.size:=by
        obtain⟨x',l,p1,p2,p3,p4,W⟩:=J 0 (by omega);have t:=W 0 k0;have Y:l[0]?=some l[0]:=XK (by omega);have ea:(a.add (0*k)).add 0=a:=by simp[Addr.add]
        rw[Y,ea]at t;unfold World.cell? at t;split at t
        .rename_i hh;constructor
         .cases q:a.spot with
          |none=>rfl
          |some z=>simp[q]at t
         .exact(Vc.1 hh).1
        .cases t
       obtain⟨N,hb⟩:=first
       have O:∀n,a.add n=⟨a.block,a.off+n,none⟩:=by
        intro n;cases a;simp only at N;subst N;unfold Addr.add;split
        .rename_i q;subst q;rfl
        .rfl
       have u:∀(b o n:Nat),(⟨b,o,none⟩:Addr).add n=⟨b,o+n,none⟩:=by
        intro b o n;unfold Addr.add;split
        .rename_i q;subst q;rfl
        .rfl
       have pick:∀q i,len-i=q->i<=len->∃F:List T,F.length=len-i/\(∀x∈F,wf x)/\RR (QdY w) [] w a.block k (F.map e) (a.off+i*k):=by
        intro q
        induction q with
        |zero=>intro i hq hi;exact⟨[],by simp[hq],by simp,trivial⟩
        |succ q ih=>
         intro i hq hi;obtain⟨F,w1,w2,M⟩:=ih (i+1) (by omega) (by omega);obtain⟨x,l,p1,p2,p3,p4,W⟩:=J i (by omega);refine⟨x::F,by simp[w1];omega,by intro y Q;rcases X6.1 Q with rfl|Q;exact p1;exact w2 y Q,hl x,?_,?_⟩
         .refine Qd4 p2 p3 λj hj=>?_;have t:=W j (by omega);rw[O,u]at t;exact t
         .rw[Xl, <- Nat.add_assoc]at M;exact M
       obtain⟨F,w1,w2,M⟩:=pick len 0 (by omega) (XU _);rw[Nat.zero_mul,Xw]at M;rw[Nat.sub_zero]at w1;refine⟨F,⟨by rw[w1, <- e1];exact B,w2⟩,⟨_,_,rfl,⟨some a,g,by simp[w1],by simp[w1];exact c2,.inr ⟨a.block,a.off,?_,hb,M⟩⟩,rfl⟩,by simp[Qp]⟩;cases a
       grind
    .cases hd
  .simp[DataW.trod,G]at hd
def RF(P:Program)(n:Nat)(fs:List Field)(off L:Nat)(T:Type)(e:T->List A)(wf:T->Prop):Prop:=
 ∀(H:Type) (enc:TypeId×Value->H) (w:World) (base:Nat) (spare:Nat->Bool) (held:Bool) (m:Nat) (cs:List Value) ds,m<n->cs.length=L->
  fs.mapM (λf=>DataW.trod enc P w base spare held m f.type ((cs.drop f.offset).take (P.cellsOf f.type)))=some ds->
  ∀μ:DataW H->Nat,Qm0 μ->(∀y∈ds,μ y.1<=1048576)->∃x:T,wf x/\LR (QdY w) [] w (e x) (cs.drop off)/\ ∀v∈cs.drop off,Qp v
theorem RF.nil{L:Nat}:RF P n [] L L Unit (λ_=>[]) (λ_=>True):=by
 intro H enc w base spare held m cs ds hm hl hd μ hμ hwt;have:cs.drop L=[]:=(by grind);rw[this];exact⟨(),trivial,rfl,by simp⟩
theorem RF.cons{f:Field}{fs:List Field}{off L k:Nat}{T2:Type}{l:T2->List A}{a:T2->Prop}(q:f.offset=off)(t:P.cellsOf f.type=k)(h:RB P n f.type T e wf)(r:RF P n fs (off+k) L T2 l a):
  RF P n (f::fs) off L (T×T2) (λp=>e p.1++l p.2) (λp=>wf p.1/\a p.2):=by
 intro H enc w base spare held m cs ds hm hl hd μ hμ hwt;rw[List.mapM_cons]at hd;cases j:DataW.trod enc P w base spare held m f.type ((cs.drop f.offset).take (P.cellsOf f.type))with
 |none=>grind
 |some d=>
  cases u:fs.mapM (λf=>DataW.trod enc P w base spare held m f.type ((cs.drop f.offset).take (P.cellsOf f.type)))with
  |none=>grind
  |some b=>
   have g:ds=d::b:=by
    grind
   subst g;rw[q,t]at j;obtain⟨x,s,z,B⟩:=h H enc w base spare held m _ d hm j μ hμ (hwt d (by simp));obtain⟨y,y1,y2,E⟩:=r H enc w base spare held m cs b hm hl u μ hμ (by grind);have i:cs.drop off=(cs.drop off).take k++cs.drop (off+k):=by rw[<- List.drop_drop,Xz]
   refine⟨(x,y),⟨s,y1⟩,by rw[i];exact z.append y2,?_⟩
   grind
theorem RB.struct{fs:Array Field}{L:Nat}(j:P.underlying t=some (.struct fs))(i:P.cellsOf t=L)(h:RF P n fs.toList 0 L T e wf):RB P (n+1) t T e wf:=by
 intro H enc w base spare held m cs d hm hd μ hμ hwt;cases m with
 |zero=>simp[DataW.trod]at hd
 |succ m=>
  unfold DataW.trod at hd;simp only[j]at hd;split at hd
  .rename_i g;cases a:fs.toList.mapM (λf=>DataW.trod enc P w base spare held m f.type ((cs.drop f.offset).take (P.cellsOf f.type)))with
   |none=>grind
   |some b=>
    rw[a]at hd;simp only[Xj,Option.some.injEq]at hd;subst hd;have:=h H enc w base spare held m cs b (by omega) (by rw[g,i]) a μ hμ (λy k=>XV (hμ.ag _ _ (by grind)) hwt)
    grind
  .cases hd
end
theorem C.law{P:Program}{f:FuncId}{args:List A}{W:World}{vals:List Value}(h:C P f args [] (λa H=>a=.bool true/\H=[]))(g:LR (QdY W) [] W args vals)(d:GP W):
  Calls P f vals.toArray W λe W'=>e=.returned (.bool true)/\Go.RowKit.Below W.heap.size W W':=by
 have s:Sim (λ_=>False) (QdY W) [] [] W:=
  ⟨rfl,⟨λ_ h=>h,λb m=>d.size b m,d⟩,λ_ h=>h.elim,λ_ _ h=>h,(by simp),(by simp),(by simp),(by simp)⟩
 refine(h _ _ _ _ W s g).mono ?_;rintro e W' ⟨v,r,H',i,τ,rfl,⟨rfl,rfl⟩,_,l,ev⟩;exact⟨by rw[show v=.bool true from l],⟨ev.os,ev.tape,ev.output,ev.size,λk j=>ev.keepRo k j⟩⟩
theorem QlK{P:Program}{W:World}{a:Nat}{t:TypeId}{v:Value}{fs:Array Field}(b:P.underlying t=some (.struct fs))(h:Value.okWide P W .any a t v):∃cs,v=.agg cs:=by
 unfold Value.okWide at h
 grind
theorem QiE{P:Program}{W:World}{t:TypeId}{cs:Array Value}{T:Type}{e:T->List A}{wf:T->Prop}{H:Type}{enc:TypeId×Value->H}{b:Nat}{a:Nat->Bool}{held:Bool}{d:DataW H}{ps:List MemPlace}
  (h:∀n,RB P n t T e wf)(i:DataW.Trod enc P W b a held t (.agg cs) d ps){μ:DataW H->Nat}(hμ:Qm0 μ)(f:μ d<=1048576):∃x:T,wf x/\VR (QdY W) [] W (.agg (e x)) (.agg cs):=by
 obtain⟨m,k⟩:=i;obtain⟨x,g,j,_⟩:=h (m+1) H enc W b a held m _ _ (Xn _) k μ hμ f;exact⟨x,g,cs.toList,by simp,j⟩
theorem QfY{P:Program}{W:World}{t:TypeId}{a:Option Addr}{len cap:Nat}{T:Type}{e:T->List A}{k:Nat}{wf:List T->Prop}{H:Type}{enc:TypeId×Value->H}{f:Nat}{b:Nat->Bool}{held:Bool}{d:DataW H}{ps:List MemPlace}
  (h:∀n,RB P n t (List T) (Qn k e) wf)(i:DataW.Trod enc P W f b held t (.slice a len cap) d ps){μ:DataW H->Nat}(hμ:Qm0 μ)(g:μ d<=1048576):∃x:List T,wf x/\VR (QdY W) [] W (.rsl k (x.map e)) (.slice a len cap):=by
 obtain⟨m,l⟩:=i;obtain⟨x,j,⟨v,q,s,r,p⟩,_⟩:=h (m+1) H enc W f b held m _ _ (Xn _) l μ hμ g;refine⟨x,j,?_⟩;have:(Value.slice a len cap).cells.toList=[.slice a len cap]:=rfl
 grind
theorem Qiz{P:Program}{W:World}(h:W.ShapedOpen P){g t u:Nat}{z:Value}(hg:Nat.blt g P.globals.size=true)(l:(((begin P (λ_ _=>0) default).world.heap[g]?).bind Obj.row?)=some (#[z],t))
  (j:P.buildable t=true)(n:P.cellTypes P.depth t=some [u])(r:P.underlying u=some (.int .i64)):∃m:Int,W.cell? ⟨g,0,none⟩=some (.int .i64 m):=by
 obtain⟨a,x,q,p⟩:=h.1 g _ _ (by simp_all) l;obtain⟨y,f,_,k⟩:=p j;rw[n]at f;cases f;have s:a.size=1:=q;have d:a[0]?=some a[0]:=(by simp);obtain⟨w,e,b⟩:=k 0 _ d;simp at e;subst e;unfold Cell.ok at b;rw[r]at b;cases i:a[0]<;>rw[i]at b<;>simp at b
 simp_all[World.cell?]
theorem QiP{S B:Type}{step:S->Option (Ctl S B)}(d:Nat->S)(b:B)(k:Nat)(l:∀i,i<k->step (d i)=some (.cont (d (i+1))))(f:step (d k)=some (.done b)):∀n,k<n->iter step n (d 0)=some b:=by
 have e:∀m i n,k-i=m->i<=k->m<n->iter step n (d i)=some b:=by
  intro m
  induction m with
  |zero=>
   intro i n g j h;have:i=k:=by omega
   subst this;obtain⟨a,rfl⟩:∃a,n=a+1:=⟨n-1,by omega⟩;simp[iter,f]
  |succ m p=>
   intro i n g j h;obtain⟨a,rfl⟩:∃a,n=a+1:=⟨n-1,by omega⟩
   grind[iter]
 grind
theorem QlX{S B:Type}{step:S->Option (Ctl S B)}(s0:S)(a:Nat->S)(b:B)(k:Nat)(f:a 0=s0)(d:∀i,i<k->step (a i)=some (.cont (a (i+1))))(g:step (a k)=some (.done b))(n:Nat)(e:k<n):iter step n s0=some b:=by
 rw[<- f];exact QiP a b k d g n e
theorem Ql{α:Type}{l:List α}{i:Nat}{x:α}(h:l[i]?=some x):idx l (i:Int)=some x:=by
 grind[idx]
theorem Qbp{α:Type}(l:List α)(x:α)(h:l.length<4294967296):app l [x]=some (l++[x]):=by
 unfold app;have:Nat.ble (l.length+[x].length) Q9=true:=by
  grind[Nat.ble_eq_true_of_le,Q9]
 grind
theorem Qie{α:Type}(l m:List α)(h:l.length+m.length<=4294967296):app l m=some (l++m):=by
 simp_all[app,Q9,XS]
theorem Qo{n:Int}(b: -9223372036854775808<=n)(a:n<=9223372036854775807):IntKind.i64.wrap n=n:=by
 grind[IntKind.wrap,IntKind.bits,IntKind.signed]
theorem QC{i:Nat}(h:i<9223372036854775807):IntKind.i64.wrap ((i:Int)+1)=((i+1:Nat):Int):=by
 rw[Qo (by omega) (by omega)];omega
theorem QO{p:Prop}[Decidable p](h:p):decide p=true:=Vu h
theorem QG{p:Prop}[Decidable p](h:¬p):decide p=false:=Vx h
open Go.Proofs Go.Shelf
def cat(a b:List UInt8):Option (List UInt8):=bif Nat.ble (a.length+b.length) 4294967296 then some (a++b)else none
theorem Qpj{a b r:List UInt8}(h:cat a b=some r):a.length+b.length<=4294967296/\a++b=r:=by
 unfold cat at h;cases q:Nat.ble (a.length+b.length) 4294967296 with
 |true=>simp_all
 |false=>grind
def QeZ(s t:List UInt8):Option Bool:=bif Nat.blt s.length 4294967281 then some (Lib.contains s t)else none
section
variable {P:Program} {o:Oper} {env:Env} {H:Qd}
theorem Qfr{t u:TypeId}{x y:Operand}{p q r:List UInt8}(h:cat p q=some r)(n:o.op=.binOp .add t x y u:=by exact rfl)(hx:opA env x=.str p:=by exact rfl)(hy:opA env y=.str q:=by exact rfl):OpV P o env H (.str r):=by
 intro l k σ N a w rr;obtain⟨m,i⟩:=Qpj h;have d:=Qi rr x;rw[hx]at d;have e:=Qi rr y;rw[hy]at e;have f:a.eval x=.string ⟨p.toArray⟩:=d;have g:a.eval y=.string ⟨q.toArray⟩:=e;have j:(⟨p.toArray⟩:ByteArray)++⟨q.toArray⟩=⟨r.toArray⟩:=by
  rw[<- i];rfl
 refine⟨.string ⟨r.toArray⟩,?_,rfl⟩;have b:¬((((⟨p.toArray⟩:ByteArray).size+(⟨q.toArray⟩:ByteArray).size:Nat):Int)>IntKind.i64.max):=by
  have:IntKind.i64.max=9223372036854775807:=by decide
  grind[ByteArray.size]
 simp_all[eqGuard,execOp,binOp_string_add,Op.stringOp,Vs]
def Qd8{α:Type}(n:Nat)(l:List α)(i:Int):Option α:=bif Nat.beq l.length n then idx l i else none
theorem QaU{α:Type}{n:Nat}{l:List α}{i:Int}{x:α}(h:Qd8 n l i=some x):l.length=n/\idx l i=some x:=by
 grind[Qd8,Nat.eq_of_beq_eq_true]
def arr{α:Type}(n:Nat)(l:List α):Option (List α):=bif Nat.beq l.length n then some l else none
theorem Y9{α:Type}{n:Nat}{l l':List α}(h:arr n l=some l'):l.length=n/\l=l':=by
 grind[arr,Nat.eq_of_beq_eq_true]
theorem Qbo{α:Type}{n:Nat}{l l':List α}(h:arr n l=some l'):l'.length=n:=(Y9 h).2▸(Y9 h).1
section
variable {α:Type} {e:α->List A} {t et k n b:Nat} {x y:Operand} {l:List α}
theorem Qah{i:Int}{v:α}{j:IntKind}(h:Qd8 n l i=some v)(s:∀w,(underlying t).run P w=.ok (.array n et) w)(z:∀w,(sizeOf et).run P w=.ok k w)(F:Nat.ble 2 n=true)
  (B:o.op=.indexAddr t x y:=by exact rfl)(hx:opA env x=.ptr b 0:=by exact rfl)(hy:opA env y=.int j i:=by exact rfl):OpV P o env H (.ptr b (i.toNat*k)):=by
 intro M J σ N a w r;obtain⟨O,E⟩:=QaU h;obtain⟨G,L⟩:=Qa0 E;have p:i.toNat<l.length:=(by grind);have e:=Qi r x;rw[hx]at e;obtain⟨f,e,q⟩:=e;have m:=Qi r y;rw[hy]at m;have g:a.eval y=.int j i:=m;refine⟨.pointer (some ⟨f,i.toNat*k,none⟩),?_,f,e,rfl⟩;have u:0<=i/\i<(n:Int):=by omega
 have d:(⟨f,0,none⟩:Addr).add (i.toNat*k)=⟨f,i.toNat*k,none⟩:=by
  grind[Addr.add]
 generalize a.eval=ρ at*;simp[execOp,B,q,g,Instr.indexAt,asIntOf,s,z,Instr.sureAddr,u,d,go_sem,Result.andThen]
theorem Qj0{cs:List A}(g:H[b]?=some (.row t k (l.map e)):=by exact rfl)(hcs:(l.map e).flatten=cs:=by exact rfl):Pts H (.ptr b 0) cs:=by
 intro n m σ w v s h;obtain⟨i,d,j⟩:=h;obtain⟨p,a,f⟩:=s.blk b _ _ d g;refine⟨i,0,j,?_⟩;have:=(RR.flat (Yq (pre:=[]) (by simpa using a) f)).1;subst hcs;exact this.lift
theorem QhN(a:∀x,(e x).length=k)(L:List α):(L.map e).flatten.length=L.length*k:=by
 induction L with
 |nil=>simp
 |cons c L ih=>grind
theorem Qii{d:Nat}{l':List α}(h:arr n l=some l')(p:∀x,(e x).length=k)(a:n*k=d)(i:∀w,(isAgg t).run P w=.ok true w)(g:∀w,(sizeOf t).run P w=.ok d w){T:Nat}
  (m:o.op=.load t x:=by exact rfl)(hx:opA env x=.ptr b 0:=by exact rfl)(hH:H[b]?=some (.row T k (l.map e)):=by exact rfl):OpV P o env H (.agg (l'.map e).flatten):=by
 obtain⟨j,rfl⟩:=Y9 h;have f:=QhN p l;rw[j,a]at f;exact Qu m i g hx (Qj0 hH rfl) (by grind) f
theorem QkQ{r:Nat}{n2 T:Nat}(f:l.length=n)(h:∀x,(e x).length=k)(a:n*k=n2)(g:∀w,(isAgg t).run P w=.ok true w)(d:∀w,(sizeOf t).run P w=.ok n2 w)
  (i:lk env r=.ptr b 0:=by exact rfl)(hH:H[b]?=some (.row T k (l.map e)):=by exact rfl):Qd0 P env H (.cell r t) (.agg (l.map e).flatten):=by
 have j:=QhN h l;rw[f,a]at j;have:=QdZ (b:=r) (p:=.ptr b 0) (n:=n2) g d (Qj0 hH rfl) i (by grind)
 grind
theorem Qif{c:List A}{k:Nat}(h:c.length=k):∀n,allK k (List.replicate n c)
 |0=>trivial
 |n+1=>⟨h,Qif h n⟩
theorem Y0{vs:Array Value}{z:α}(l:∀w,(zeroValue t).run P w=.ok (.agg vs) w)(m:(YL (List.replicate n (e z)).flatten).toArray=vs)(g:QgD (List.replicate n (e z)).flatten=true)(h:(List.replicate n (e z)).flatten.all Ym=true)(i:Nat.beq (e z).length k=true)
  (s:o.op=.alloc t:=by exact rfl):OpH P o env H (.ptr H.length 0) (H++[.row t k ((List.replicate n z).map e)]):=by
 intro p d σ N a w r;have f:LR d [] w (List.replicate n (e z)).flatten (YL (List.replicate n (e z)).flatten):=QfC g;have b:=r.sim.allocRow (t:=t) (rest:=[]) (Qif (XQ i) n) f (f.plain h);rw[Vg]at b;have j:(List.replicate n z).map e=List.replicate n (e z):=List.map_replicate;refine⟨.pointer (some ⟨w.heap.size,0,none⟩),w.alloc (.cells (YL (List.replicate n (e z)).flatten).toArray t),d,[some w.heap.size],?_,⟨w.heap.size,?_,rfl⟩,j▸b,Qh.alloc _ r.sim.roLt r.sim.frLt⟩
 .generalize a.eval=ρ at*;have q:(newVar t (.agg vs)).run P w=.ok ⟨w.heap.size,0,none⟩ (w.alloc (.cells vs t)):=rfl
  simp_all[execOp,Instr.alloc]
 .rw[<- r.sim.len];simp
theorem YZ{T n2:Nat}{l':List α}{vs:List A}(h:l.length=n)(h':l'.length=n)(hk:∀x,(e x).length=k)(F:n*k=n2)(hs:∀w,(sizeOf t).run P w=.ok n2 w)
  (hp:∀x,(e x).all Ym=true)(Y:∀x,Yy (e x)=true)(B:(l'.map e).flatten=vs)
  (ho:o.op=.store t x y:=by exact rfl)(z:opA env x=.ptr b 0:=by exact rfl)(hH:H[b]?=some (.row T k (l.map e)):=by exact rfl)(G:opA env y=.agg vs:=by exact rfl):
  OpU P o env H (H.set b (.row T k (l'.map e))):=by
 intro fr ro σ N a w r;subst B;have f:=Qi r x;rw[z]at f;obtain⟨bb,f,h2⟩:=f;have Q:=Qi r y;rw[G]at Q;obtain⟨m,h4,q⟩:=Q;obtain⟨s,V,q2⟩:=r.sim.blk b _ _ f hH;have E:∀(L:List α),allK k (L.map e):=by
  intro L
  induction L with
  |nil=>trivial
  |cons c L u=>exact⟨hk c,u⟩
 have J:(l'.map e).flatten.length=n2:=by grind[Yc]
 have X:m.length=n2:=by rw[q.length,J]
 have p:∀L:List α,(L.map e).flatten.all Ym=true:=by
  grind
 have M:∀j ds:List A,Yy j=true->Yy ds=true->Yy (j++ds)=true:=by
  intro j
  induction j with
  |nil=>simp
  |cons c j u=>
   simp_all[Yy]
 have O:∀L:List α,Yy (L.map e).flatten=true:=by
  intro L
  induction L with
  |nil=>rfl
  |cons c L u=>simp only[Vj,Vl];exact M _ _ (Y c) u
 have W:n2<=s.length:=by
  have:=q2.length;rw[X2,h,F]at this;exact this
 have R:=Q3 (P:=P) (vs:=m) 0 0 V (by omega) (q.plain (p l'));have i:splice s 0 m=m++s.drop n2:=by unfold splice;simp[X]
 have d:=r.sim.set (x':=.row T k (l'.map e)) (obj:=.cells (splice s 0 m).toArray T (0,0)) f hH rfl
  (λy G=>Jc V (Q0 (by omega)) y G)
  (λex g=>by
   have z:=(q.data (O l')).mono ex.nil;rw[i]at z g⊢;exact⟨_,g,YI (E l') z (q.plain (p l'))⟩)
 refine⟨_,ro,[],?_,by simpa using d.1,d.2⟩
 simp_all[Value.cells,storeVar,execOp,Instr.storeAt,Instr.sureAddr]
end
end
theorem C.contains{P:Program}{ρ:Ren}(L:Lays.n144 P ρ)(hg:ρ.g 1=Qkr){s t:List UInt8}{r:Bool}(h:QeZ s t=some r):C P (ρ.f 144) [.str s,.str t] [] (λa H=>a=.bool r/\H=[]):=by
 unfold QeZ at h;cases q:Nat.blt s.length 4294967281 with
 |false=>grind
 |true=>
  rw[q]at h;obtain rfl:=XZ h;intro B i σ vals w sim hv;obtain⟨j,y,rfl,k,l,b,rfl,x,n⟩:=hv;cases(show b=[]from n);obtain⟨m,E⟩:=sim.roOk.gp.max;have p:j=.string ⟨s.toArray⟩:=k;have u:l=.string ⟨t.toArray⟩:=x;subst p u;have d:s.length<4294967281:=by simpa using q
  refine(Any.strings_Contains L ⟨s.toArray⟩ ⟨t.toArray⟩ m w (by simpa[ByteArray.size]using d) (by grind)).mono ?_;rintro e z ⟨rfl,rfl⟩;exact⟨_,_,_,i,[],rfl,⟨rfl,rfl⟩,by grind,rfl,Qh.refl _ _ _⟩
section
variable {P:Program} {o:Oper} {env:Env} {H:Qd} {fr ro:Nat->Prop} {σ:Sig} {w:World}
theorem Sim.touch(s:Sim fr ro σ H w){b:Nat}{obj:Obj}(m:¬ro b)(r:¬fr b)(z:∀(i:Nat) (x:Blk),σ[i]?=some (some b)->H[i]?=some x->x.live=true->False)
  (g:∀(i d:Nat) (x:Blk),σ[i]?=some (some d)->H[i]?=some x->Hid w x d b->False)
  (n:∀y,w.shape? b=some y->({w with heap:=w.heap.setIfInBounds b obj}:World).shape? b=some y):
  Sim fr ro σ H {w with heap:=w.heap.setIfInBounds b obj}/\Qh fr ro w ro {w with heap:=w.heap.setIfInBounds b obj}:=by
 have t:∀c,c≠b->({w with heap:=w.heap.setIfInBounds b obj}:World).heap[c]?=w.heap[c]? :=by
  grind
 have a:({w with heap:=w.heap.setIfInBounds b obj}:World).heap.size=w.heap.size:=by simp
 have ev:Qh fr ro w ro {w with heap:=w.heap.setIfInBounds b obj}:=
  ⟨λ_ h=>h,(by grind),(by grind),by omega,by
   grind[World.shape?],rfl,rfl,rfl,XT _⟩
 refine⟨⟨s.len,s.roOk.to (λ_ q=>q) ev.keepRo (λc h=>by rw[a];exact s.roLt c h),λc h=>by rw[a];exact s.frLt c h,s.roFr,?_,s.inj,?_,s.hidTo (· = ·) Q2 (by omega) (by simp) (by simp) λj d y k l u=>.inl ⟨j,y,rfl,k,l,id,λc q=>s.hidKeep k l (by grind) ev.keepRo q⟩⟩,ev⟩
 .intro i c x e f p;rw[a];exact s.own i c x e f p
 .intro i y x e f;refine(s.blk i y x e f).keep (ev.ext0 σ) ?_ ?_
  .grind
  grind
theorem QkZ{T E i n t:Nat}{x:Operand}{es:List (List A)}(ht:P.underlying T=some (.slice E))(hE:P.underlying E=some (.int .u8))(hn:es.length=n)(h0:Nat.blt 0 n=true)
  (ho:o.op=.convert T T x:=by exact rfl)(hx:opA env x=.osl i 0 n 1:=by exact rfl)(hH:H[i]?=some (.row t 1 es):=by exact rfl):
  OpH P o env H (.rsl 1 es) (H.set i .dead):=by
 intro fr M σ N a w r;subst hn;have h:=Qi r x;rw[hx]at h;rcases h with⟨hz,_⟩|⟨b,p,G,t',m,h,Y,h6,⟨h3,aa⟩,h4,h5⟩
 .simp_all
 .have W:0<es.length:=by simp_all
  obtain rfl:=h6 (by omega);obtain⟨hb,J,g⟩:=r.sim.own i b _ h hH rfl;obtain⟨l,q1,q2⟩:=r.sim.blk i _ _ h hH;have V:=r.sim.kill i;have f:∀(j:Nat) (y:Blk),σ[j]?=some (some b)->(H.set i .dead)[j]?=some y->y.live=true->False:=by
   intro j y B e u;by_cases q:j=i
   .subst q;rw[Xb]at e;simp only[if_true]at e
    grind[Blk.live]
   .rw[XP (λz=>q z.symm)]at e;exact q (r.sim.inj j i b y _ B h e hH u rfl)
  have F:∀(j d:Nat) (y:Blk),σ[j]?=some (some d)->(H.set i .dead)[j]?=some y->Hid w y d b->False:=by
   intro j d y B e u;by_cases q:j=i
   .subst q;rw[Xb]at e;simp only[if_true]at e;split at e
    .cases e;exact u.elim
    .simp at e
   .rw[XP (λz=>q z.symm)]at e;exact(r.sim.hid j d y b B e u).ne i b _ h hH rfl rfl
  let fz:Nat×Nat:=(l.length,l.length+1)
  have Q:∀y,w.shape? b=some y->({w with heap:=w.heap.setIfInBounds b (.cells l.toArray t fz)}:World).shape? b=some y:=by
   simp_all[World.shape?]
  obtain⟨X,s⟩:=V.touch (obj:=.cells l.toArray t fz) J g f F Q;have s3:=X.addRo (b:=b) (by grind) g f (λj d y B e u=>F j d y B e (V.hidKeep B e (by grind) s.keepRo u));have k:({w with heap:=w.heap.setIfInBounds b (.cells l.toArray t fz)}:World).heap[b]?=some (.cells (([]:List Value)++l).toArray t fz):=by
   grind
  have L:Ext M [] w M [] {w with heap:=w.heap.setIfInBounds b (.cells l.toArray t fz)}:=s.ext0 [];refine⟨.slice (some ⟨b,0*1,none⟩) es.length G,_,λc=>M c\/c=b,[],?_,?_,by grind,s.trans (YA λ_ q=>.inl q)⟩
  .have hf:w.freeze ⟨b,l.length,none⟩ 1={w with heap:=w.heap.setIfInBounds b (.cells l.toArray t fz)}:=by
    unfold World.freeze;simp only[Nat.one_ne_zero,if_false];rw[Qdk q1];rfl
   have O:(markStringish ⟨b,0*1,none⟩).run P w=.ok () {w with heap:=w.heap.setIfInBounds b (.cells l.toArray t fz)}:=by
    simp_all[markStringish,World.shape?]
   have hu:∀w,(underlying T).run P w=.ok (.slice E) w:=run_underlying ht;have R:∀w,(underlying E).run P w=.ok (.int .u8) w:=run_underlying hE;generalize a.eval=ρ at*;simp only[execOp,ho,Y,convert,Vm,hu,R,Result.andThen,beq_self_eq_true,O,Vn]
  .refine⟨some ⟨b,0*1,none⟩,G,rfl,h3,.inr ⟨b,0*1,rfl,.inr rfl,?_⟩⟩;have:=Yq (pre:=[]) k (q2.mono L);exact(by omega:RR M [] _ b 1 es (0*1)).keep ⟨λ_ q=>.inl q,λ_ _=>rfl,λ_ _ q=>q,λ_ _ q=>q⟩ rfl
end
mutual
theorem Qdd(ρ:Nat->Nat):∀{a:A},Yn a=true->Yr ρ a=a
 |.any,_=>rfl
 |.bool _,_=>rfl
 |.int _ _,_=>rfl
 |.str _,_=>rfl
 |.nilp,_=>rfl
 |.ptr _ _,h=>by simp[Yn]at h
 |.rp _,_=>rfl
 |.nils,_=>rfl
 |.rsl _ _,_=>rfl
 |.osl _ _ _ _,h=>by simp[Yn]at h
 |.agg cs,h=>by simp only[Yn]at h;simp only[Yr,Qaf ρ h]
 |.fn f a c,h=>by simp only[Yn,XW]at h;simp only[Yr,Qaf ρ h.1,Qaf ρ h.2]
 |.nilf,_=>rfl
 |.iface t a,h=>by simp only[Yn]at h;simp only[Yr,Qdd ρ h]
 |.nilif,_=>rfl
 |.map _,h=>by simp[Yn]at h
 |.nilm,_=>rfl
 |.tup vs,h=>by simp only[Yn]at h;simp only[Yr,Qaf ρ h]
theorem Qaf(ρ:Nat->Nat):∀{l:List A},Yy l=true->Qaa ρ l=l
 |[],_=>rfl
 |a::l,h=>by simp only[Yy,XW]at h;simp only[Qaa,Qdd ρ h.1,Qaf ρ h.2]
end
theorem Qf4{α:Type}{e:α->List A}(a:∀x,Yy (e x)=true):∀L:List α,Yy (L.map e).flatten=true
 |[]=>rfl
 |c::L=>by
  have hdt:∀cs ds:List A,Yy cs=true->Yy ds=true->Yy (cs++ds)=true:=by
   intro cs
   induction cs with
   |nil=>simp
   |cons c cs b=>
    simp_all[Yy]
  simp only[Vj,Vl];exact hdt _ _ (a c) (Qf4 a L)
theorem Qnp{α:Type}{e:α->List A}(hd:∀x,Yy (e x)=true)(ρ:Nat->Nat)(l:List α):Yr ρ (.agg (l.map e).flatten)=.agg (l.map e).flatten:=
 Qdd ρ (by simp only[Yn];exact Qf4 hd l)
end Go.Sw
namespace Go.Sw
section
variable {P:Program} {o:Oper} {env:Env} {H:Qd}
theorem Qep{c:Call}{f T:Nat}{x:Operand}{xs:List Operand}{e:Array TypeId}{name:String}{v:A}{args:List A}(d:∀(a:Array Value) (w:World),(callFunc f a).run P w=.ok (.enter f a) w)(l:o.op=.call c)
  (k:c={callee:=.invoke x name,args:=xs.toArray,argTypes:=e})(g:opA env x=.iface T v)(hargs:v::xs.map (opA env)=args)
  (m:∀(u:Value) (w:World),(method (P.types.size+Made.depth) T u name).run P w=.ok (f,u) w):OpC P o env H f args:=by
 intro j i σ N a w r;have b:=Qi r x;rw[g]at b;obtain⟨u,b,h⟩:=b;refine⟨u::xs.map a.eval,?_,hargs▸⟨u,xs.map a.eval,rfl,h,Qbc r xs⟩⟩
 simp_all[VI,callMethod,execOp,resolve,invoke]
theorem Qbr{T I:Nat}{x:Operand}{v:A}{d:TypeDesc}(f:∀w,(underlying T).run P w=.ok d w)(i:∀m,d≠ .interface m)(g:o.op=.typeAssert x I T true:=by exact rfl)(hx:opA env x=.iface T v:=by exact rfl):
  OpV P o env H (.tup [v,.bool true]):=by
 intro j h σ N a w r;have b:=Qi r x;rw[hx]at b;obtain⟨u,b,e⟩:=b;refine⟨.tuple #[u,.bool true],?_,[u,.bool true],rfl,_,_,rfl,e,_,_,rfl,rfl,rfl⟩
 simp_all[execOp,Instr.typeAssert]
theorem Qhc{T T' I:Nat}{x:Operand}{v z:A}{zv:Value}{d:TypeDesc}(g:∀w,(underlying T).run P w=.ok d w)(l:∀m,d≠ .interface m)(f:Nat.beq T' T=false)(h:∀w,(zeroValue T).run P w=.ok zv w)(e:ZR z zv)
  (n:o.op=.typeAssert x I T true:=by exact rfl)(hx:opA env x=.iface T' v:=by exact rfl):
  OpV P o env H (.tup [z,.bool false]):=by
 intro k i σ N a w r;have b:=Qi r x;rw[hx]at b;obtain⟨u,b,p⟩:=b;have j:T'≠T:=λq=>by simp_all
 refine⟨.tuple #[zv,.bool false],?_,[zv,.bool false],rfl,_,_,rfl,e _ _ _,_,_,rfl,rfl,rfl⟩
 simp_all[execOp,Instr.typeAssert]
end
def TL(P:Program)(h0 N:Nat)(c:Code)(env:Env)(H:Qd)(Q:QA):Prop:=
 ∀rd fr ro σ a w,Rel fr ro σ H env N a w->Qdy rd fr w->∀(b:Frame) (k:List Item) (cs:List Frame),b.roundOf=(WF rd).round->(WF rd).fn b.fn->(WF rd).room (cs.length+1+0)->∃e a' w',QaL h0 fr ro σ w N a.defers Q e a' w'/\ArrivesIn (Machine.fenced P (WF rd)) P (lone (b.atR a (.code c::.inLoop c::k)) cs w) b k cs e a' w'
def Qja(P:Program)(h0 N:Nat)(c:Code)(Q:QA):QA
 |.normal,env,H=>TL P h0 N c env H Q
 |.exit id,env,H=>Q (.exit id) env H
 |.ret,env,H=>Q .ret env H
section
variable {P:Program} {h0 N:Nat} {c:Code} {env:Env} {H:Qd} {Q:QA}
theorem QmL(h:TL P h0 N c env H Q):TC P h0 N (.loop c) env H Q:=by
 intro l j f σ a w r hrd b k cs hro hb hr;obtain⟨e,g,i,m,d⟩:=h l j f σ a w r hrd b k cs hro hb hr;exact⟨e,g,i,m,.of_steps (.one (fenced_calm hb hr rfl) stepR_loop) d⟩
theorem TL.round(h:TC P h0 N c env H (Qja P h0 N c Q)):TL P h0 N c env H Q:=by
 intro E z F σ a w r hrd b k cs hro hb hr;obtain⟨e,m,l,O,d⟩:=h E z F σ a w r hrd b (.inLoop c::k) cs hro hb hr;obtain⟨x,f,H',i,σ',j,n,u,y,s,G,t⟩:=O;have B:∀x,Q x f H'->ExR e x->QaL h0 z F σ w N a.defers Q e m l:=λx q M=>⟨x,f,H',i,σ',j,M,q,y,s,G,t⟩;cases e with
 |normal=>
  obtain rfl:x=.normal:=n;obtain⟨L,J,w2,p,g⟩:=u E j i σ' m l y (hrd.to s t.sub) b k cs hro hb hr;exact⟨L,J,w2,p.grow s G t,.of_steps (StepsIn.trans d (.one (fenced_calm hb hr rfl) stepR_inLoop)) g⟩
 |exit id=>
  obtain rfl:x=.exit id:=n;exact⟨_,m,l,B _ u rfl,.pass (x:=.inLoop c) rfl (by simp) d⟩
 |ret=>
  obtain rfl:x=.ret:=n;exact⟨_,m,l,B _ u rfl,.pass (x:=.inLoop c) rfl (by simp) d⟩
 |_=>exact n.elim
theorem unrN(h:TC P h0 N c env H (Qja P h0 N c Q)):Qja P h0 N c Q .normal env H:=TL.round h
theorem unrX{id:Nat}(h:Q (.exit id) env H):Qja P h0 N c Q (.exit id) env H:=h
theorem unrR(h:Q .ret env H):Qja P h0 N c Q .ret env H:=h
theorem QkM(h:TC P h0 N c env H (Qja P h0 N c Q)):TC P h0 N (.loop c) env H Q:=QmL (TL.round h)
end
section
variable {P:Program} {o:Oper} {env:Env} {H:Qd}
theorem OpV.ixL{t a k b n j:Nat}{x y:Operand}{f:IntKind}{i:Int}(h:Nat.blt j n=true)(hi:i=(j:Int))(d:∀w,(underlying t).run P w=.ok (.slice a) w)(e:∀w,(sizeOf a).run P w=.ok k w)
  (g:o.op=.indexAddr t x y:=by exact rfl)(hx:opA env x=.osl b 0 n k:=by exact rfl)(hy:opA env y=.int f i:=by exact rfl):OpV P o env H (.ptr b (j*k)):=by
 subst hi;have l:=Qhd (H:=H) g d e hx hy (by omega) (by simp_all)
 grind
end
theorem Qfq{ro:Nat->Prop}{σ:Sig}{w:World}{k:Nat}:∀{es:List (List A)} {l l':List Value},RL ro σ w k es l->l.take (es.length*k)=l'.take (es.length*k)->RL ro σ w k es l'
 |[],_,_,_,_=>trivial
 |c::es,l,l',h,hp=>by
  obtain⟨l1,l2,rfl,h1,h2,h3⟩:=h;have hl1:l1.length=k:=by rw[h2.1.length];exact h1
  have a:l'.take k=l1:=by
   have:=congrArg (List.take k) hp
   grind[Nat.succ_mul]
  refine⟨l1,l'.drop k,by rw[<- a,Xz],h1,h2,Qfq h3 ?_⟩;have:=congrArg (List.drop k) hp
  grind[Nat.succ_mul]
section
variable {P:Program} {o:Oper} {env:Env} {H:Qd}
theorem QfN{c:Call}{T et k b s n t:Nat}{x:Operand}{es f:List (List A)}{z:Value}(ht:P.underlying T=some (.slice et))(hz:∀w,(zeroValue et).run P w=.ok z w)(G:z.cells.size=k)(ac:∀v∈z.cells,Qp v)
  (J:es.take s=f)(hb:s+n=es.length)(ho:o.op=.call c:=by exact rfl)(hc:c={callee:=.builtin .clear,args:= #[x],argTypes:= #[T]}:=by exact rfl)
  (hx:opA env x=.osl b s n k:=by exact rfl)(hH:H[b]?=some (.row t k es):=by exact rfl):OpH P o env H (.tup []) (H.set b (.row t k f)):=by
 intro F j σ N a w r;subst J hc;have hu:∀w,(underlying T).run P w=.ok (.slice et) w:=run_underlying ht;have e:=Qi r x;rw[hx]at e;have q:Sim F j σ (H.set b (.row t k (es.take s))) w:=by
  refine r.sim.weaken hH rfl ?_;intro y h;cases y with
  |none=>rw[show es=[]from h];simp[BR]
  |some L=>obtain⟨l,g1,g2⟩:=h;exact⟨l,g1,RL.take s g2⟩
 have u:∀v,a.eval x=v->(Builtin.clear_ #[T] o.type #[v]).run P w=.ok (.tuple #[]) w->
   ∃v w' ro' τ,(execOp a.eval o).run P w=.ok (.value v) w'/\VR ro' (σ++τ) w' (.tup []) v/\Sim F ro' (σ++τ) (H.set b (.row t k (es.take s))) w'/\Qh F j w ro' w':=by
  intro v M d;refine⟨.tuple #[],w,j,[],?_,⟨[],rfl,rfl⟩,by grind,Qh.refl _ _ _⟩
  simp_all[execOp,resolve,invoke,builtin]
 rcases e with⟨hn,e⟩|⟨L,p,E,t',m,e,h2,h3,⟨h4,ad⟩,h5,h6⟩
 .simp_all[Builtin.clear_]
 .by_cases hn:n=0
  .simp_all[Builtin.clear_]
  .obtain rfl:=h3 (by omega);obtain⟨l,W,R⟩:=r.sim.blk b _ _ e hH;have X:=R.length
   let vs:=(Builtin.zeroCells z.cells n).toList
   have aa:vs.length=n*k:=by simp[vs,Builtin.zeroCells,G]
   have B:∀v∈vs,Qp v:=by
    intro v M;simp only[vs,Builtin.zeroCells,Array.toList_map,Xe,Array.toList_range,List.mem_range]at M;obtain⟨i,hi,rfl⟩:=M;have Y:0<z.cells.size:=by
     grind
    grind[Nat.mod_lt]
   have ab:s*k+n*k=es.length*k:=by grind
   have d:=Q3 (P:=P) (vs:=vs) (s*k) 0 W (by omega) B;have g:=r.sim.set (x':=.row t k (es.take s)) (obj:=.cells (splice l (s*k) vs).toArray t (0,0)) e hH rfl
    (λy h=>Jc W (Q0 (by omega)) y h)
    (λex O=>⟨_,O,by
     refine(Qfq (RL.take s R) ?_).mono ex.nil
     grind[splice]⟩)
   refine⟨.tuple #[],_,j,[],?_,⟨[],rfl,rfl⟩,by grind,g.2⟩;have Q:(Builtin.clear_ #[T] o.type #[.slice (some ⟨L,s*k,none⟩) n E]).run P w=.ok (.tuple #[]) {w with heap:=w.heap.setIfInBounds L (.cells (splice l (s*k) vs).toArray t (0,0))}:=by
    obtain⟨V,rfl⟩:∃V,n=V+1:=⟨n-1,by omega⟩;simp only[Xw]at d;simp only[Builtin.clear_,XG,XE,Vm,hu,hz,Result.andThen,d,Vn,vs]
   generalize a.eval=ρ at*;simp only[execOp,ho,resolve,Vm,Vn,Result.andThen,invoke,builtin,XI,Vj,Vk,h2,Q]
end
def isNil{α R:Type}[DecidableEq R](l:List α)(x y:Option R):Option R:=bif l.isEmpty then(bif decide (x=y)then x else none)else y
theorem QlY{α R:Type}[DecidableEq R]{l:List α}{x y:Option R}{r:R}(h:isNil l x y=some r)(b:Bool)(a:l≠[]->b=false):(b=true->x=some r)/\(b=false->y=some r):=by
 unfold isNil at h
 grind
section
variable {P:Program} {o:Oper} {env:Env} {H:Qd} {h0 N:Nat} {Q:QA}
theorem Qk0{α:Type}{e:α->List A}{T E k:Nat}{u:TypeId}{x:Operand}{l:List α}(j:P.underlying T=some (.slice E))(s:o.op=.binOp .eql T x (.const (.slice none 0 0)) u)(i:opA env x=.rsl k (l.map e)):
  OpE P o env H (λv H'=>∃b:Bool,v=.bool b/\(l≠[]->b=false)/\H'=H):=by
 intro m g σ N a w r;have d:=Qi r x;rw[i]at d;obtain⟨f,h,d,t,p⟩:=d;refine⟨.bool f.isNone,H,.bool f.isNone,w,g,[],⟨f.isNone,rfl,λq=>?_,rfl⟩,?_,rfl,by simpa using r.sim,Qh.refl _ _ _⟩
 .grind
 .have n:a.eval (.const (.slice none 0 0))=.slice none 0 0:=rfl
  grind[eqGuard,execOp,Sem.run_bind,Result.andThen,Go.run_eql_slice_nil,Sem.run_pure]
theorem QmI{α:Type}{e:α->List A}{T E k d:Nat}{u:TypeId}{x:Operand}{l:List α}{all:Array Oper}{L:List Oper}(a:P.underlying T=some (.slice E))(g:opA env x=.rsl k (l.map e))
  (h:∀b:Bool,(l≠[]->b=false)->WO P h0 N all L (up env d (.bool b)) H Q)
  (f:o.op=.binOp .eql T x (.const (.slice none 0 0)) u:=by exact rfl)(hg:Qt all o env true:=by exact rfl)(hd:o.dst=some d:=by exact rfl)(hN:Nat.blt d N=true:=by exact rfl)(hh:Nat.ble h0 H.length=true:=by exact rfl):WO P h0 N all (o::L) env H Q:=by
 refine QmH (by simp_all) hg hd hN (Qk0 a f g) ?_
 grind
end
theorem slc0{α:Type}{l x:List α}{i:Int}(h:slc l 0 i=some x):0<=i/\i.toNat<=l.length/\l.take i.toNat=x/\x.length=i.toNat:=by
 obtain⟨_,a,d,b⟩:=Qc9 h
 grind
section
variable {P:Program} {o:Oper} {env:Env} {H:Qd} {α:Type} {e:α->List A} {T et k b t:Nat} {x y:Operand} {l l':List α} {i:Int}
theorem Qfu(h:slc l 0 i=some l')(E1:∀w,(underlying T).run P w=.ok (.slice et) w)(E2:∀w,(sizeOf et).run P w=.ok k w)(a:o.op=.slice T x (some y) none none:=by exact rfl)
  (hx:opA env x=.osl b 0 l.length k:=by exact rfl)(hy:opA env y=.int .i64 i:=by exact rfl):OpV P o env H (.osl b (0+i.toNat) (l.length-i.toNat) k):=by
 obtain⟨e,d,_,_⟩:=slc0 h;exact Qfw E1 E2 a hx (by grind) (.inl ⟨rfl,rfl⟩) d (XT _)
theorem Qfv(h:slc l 0 i=some l')(E1:∀w,(underlying T).run P w=.ok (.slice et) w)(E2:∀w,(sizeOf et).run P w=.ok k w)(a:o.op=.slice T x none (some y) none:=by exact rfl)
  (hx:opA env x=.osl b 0 l.length k:=by exact rfl)(hy:opA env y=.int .i64 i:=by exact rfl):OpV P o env H (.osl b 0 l'.length k):=by
 obtain⟨e,d,_,f⟩:=slc0 h;have:=Qfw (H:=H) E1 E2 a hx (.inl ⟨rfl,rfl⟩) (by grind) (XU _) d
 grind
theorem Qfy{c:Call}{z:Value}(h:slc l 0 i=some l')(f:P.underlying T=some (.slice et))(g:∀w,(zeroValue et).run P w=.ok z w)(a:z.cells.size=k)(d:∀v∈z.cells,Qp v)(m:o.op=.call c:=by exact rfl)(hc:c={callee:=.builtin .clear,args:= #[x],argTypes:= #[T]}:=by exact rfl)
  (hx:opA env x=.osl b (0+i.toNat) (l.length-i.toNat) k:=by exact rfl)(hH:H[b]?=some (.row t k (l.map e)):=by exact rfl):OpH P o env H (.tup []) (H.set b (.row t k (l'.map e))):=by
 obtain⟨p,q,j,n⟩:=slc0 h;refine QfN f g a d ?_ ?_ m hc hx hH
 .rw[Xv, <- j,List.map_take]
 grind
end
open Go.Sort Go.Proofs Go.Shelf
section
variable {P:Program} {o:Oper} {env:Env} {H:Qd} {α:Type} {e:α->List A} {T et k b t:Nat} {x y:Operand}
theorem QdB{lo hi:Option Operand}{l r:List α}{a c:Int}(h:slc l a c=some r)(E1:∀w,(underlying T).run P w=.ok (.slice et) w)(E2:∀w,(sizeOf et).run P w=.ok k w)
  (f:lo=none/\a=0\/ ∃y,lo=some y/\opA env y=.int .i64 a)(d:hi=none/\c=l.length\/ ∃y,hi=some y/\opA env y=.int .i64 c)
  (e:o.op=.slice T x lo hi none:=by exact rfl)(hx:opA env x=.osl b 0 l.length k:=by exact rfl):OpV P o env H (.osl b (0+a.toNat) (c.toNat-a.toNat) k):=by
 obtain⟨j,g,i,_⟩:=Qc9 h;refine Qfw (l:=a.toNat) (h:=c.toNat) E1 E2 e hx ?_ ?_ (by omega) (by omega)
 .grind
 grind
end
end Go.Sw
namespace Go.Sw
inductive Bx where
 |mk (a:A)
def lkB:Env->Nat->Bx
 |[],_=>.mk .any
 |(d,a)::r,s=>bif Nat.beq s d then .mk a else lkB r s
theorem QiN:∀{env:Env} {s:Nat} {a:A},lkB env s=.mk a->lk env s=a
 |[],s,a,h=>by cases h;rfl
 |(d,b)::r,s,a,h=>by
  unfold lkB at h;unfold lk;cases q:Nat.beq s d with
  |true=>grind
  |false=>rw[q]at h;exact QiN h
inductive FBy where
 |mk (l:List UInt8)
def fby:List UInt8->FBy
 |[]=>.mk []
 |a::r=>match fby r with
  |.mk r'=>.mk (a::r')
theorem Qmb:∀l:List UInt8,fby l=.mk l
 |[]=>rfl
 |a::r=>by unfold fby;rw[Qmb r]
def opB(env:Env):Operand->Bx
 |.tmp t=>lkB env t
 |.const (.bool b)=>.mk (.bool b)
 |.const (.int k n)=>.mk (.int k n)
 |.const (.string s)=>match fby s.data.toList with
  |.mk l=>.mk (.str l)
 |.const (.pointer none)=>.mk .nilp
 |.const (.slice none 0 0)=>.mk .nils
 |.const (.map none)=>.mk .nilm
 |.const .nilFunc=>.mk .nilf
 |.const .nilIface=>.mk .nilif
 |.func f=>.mk (.fn (.func f) [] [])
 |_=>.mk .any
theorem QJ{env:Env}{x:Operand}{a:A}(h:opB env x=.mk a):opA env x=a:=by
 cases x with
 |tmp t=>exact QiN h
 |const v=>
  cases v with
  |slice b n k=>cases b with
   |none=>cases n with
    |zero=>cases k<;>(cases h;rfl)
    |succ n=>cases h;rfl
   |some b=>cases h;rfl
  |pointer p=>cases p<;>(cases h;rfl)
  |map p=>cases p<;>(cases h;rfl)
  |string s=>
   have d:(match fby s.data.toList with|.mk l=>Bx.mk (.str l))=.mk a:=h;rw[Qmb]at d;cases d;rfl
  |_=>cases h;rfl
 |global g=>cases h;rfl
 |func f=>cases h;rfl
def YM{α:Type}:List α->Nat->Option α
 |[],_=>none
 |a::_,0=>some a
 |_::r,n+1=>YM r n
theorem QaA{α:Type}:∀(l:List α) (n:Nat),YM l n=l[n]?
 |[],n=>by simp[YM]
 |a::r,0=>rfl
 |a::r,n+1=>by simp[YM,QaA r n]
def arB:BinOp->IntKind->Int->Int->Option A
 |.add,k,m,n=>some (.int k (k.wrap (m+n)))
 |.sub,k,m,n=>some (.int k (k.wrap (m-n)))
 |.mul,k,m,n=>some (.int k (k.wrap (m*n)))
 |.eql,_,m,n=>some (.bool (m==n))
 |.neq,_,m,n=>some (.bool (m != n))
 |.lss,_,m,n=>some (.bool (decide (m<n)))
 |.leq,_,m,n=>some (.bool (decide (m<=n)))
 |.gtr,_,m,n=>some (.bool (decide (n<m)))
 |.geq,_,m,n=>some (.bool (decide (n<=m)))
 |_,_,_,_=>none
def srB:BinOp->List UInt8->List UInt8->Option A
 |.eql,p,q=>some (.bool (p==q))
 |.neq,p,q=>some (.bool (p != q))
 |.lss,p,q=>some (.bool (Op.bytesLess p q))
 |_,_,_=>none
def biB(b:BinOp):Bx->Bx->Option A
 |.mk (.int k m),.mk (.int k' n)=>if k=k' then arB b k m n else none
 |.mk (.str p),.mk (.str q)=>srB b p q
 |_,_=>none
def unB:UnOp->Bx->Option A
 |.not,.mk (.bool b)=>some (.bool !b)
 |.neg,.mk (.int k n)=>some (.int k (k.wrap (0-n)))
 |_,_=>none
def exB:Bx->Nat->Option A
 |.mk (.tup vs),i=>YM vs i
 |_,_=>none
def nlB:Bx->Option A
 |.mk (.ptr i j)=>some (.ptr i j)
 |.mk (.rp cs)=>some (.rp cs)
 |_=>none
def piB:Bx->Bx->Bx->Option A
 |.mk (.bool true),.mk a,_=>some a
 |.mk (.bool false),_,.mk a=>some a
 |_,_,_=>none
def svB(env:Env):Op->Option A
 |.move x=>match opB env x with|.mk a=>some a
 |.assign x=>match opB env x with|.mk a=>some a
 |.nilCheck x=>nlB (opB env x)
 |.extract x i=>exB (opB env x) i
 |.unOp u _ x=>unB u (opB env x)
 |.pick c x y=>piB (opB env c) (opB env x) (opB env y)
 |.binOp b _ x y _=>biB b (opB env x) (opB env y)
 |_=>none
def pr(d:Nat):Option A->Option (Nat×A)
 |some a=>some (d,a)
 |none=>none
def stB(o:Oper)(env:Env):Option (Nat×A):=
 match o.dst with
 |some d=>pr d (svB env o.op)
 |none=>none
section
variable {P:Program} {h0 N:Nat} {all:Array Oper} {o:Oper} {l:List Oper} {env:Env} {H H':Qd} {Q:QA} {d:Nat} {x:A}
theorem QbB{p:Op}(g:o.op=p)(h:svB env p=some x):OpV P o env H x:=by
 unfold svB at h;split at h
 .rename_i y;cases q:opB env y with|mk a=>simp_all[OpV.move,QJ]
 .rename_i y;cases q:opB env y with|mk a=>simp_all[OpV.assign,QJ]
 .rename_i y;unfold nlB at h;split at h
  .rename_i i j q;cases h;exact Qfs g (QJ q) rfl
  .rename_i w q;cases h;exact Qfs g (QJ q) rfl
  .cases h
 .rename_i y i;unfold exB at h
  grind[QaA,OpV.extract,QJ]
 .rename_i u t y;unfold unB at h
  grind[OpV.not,QJ,OpV.neg]
 .rename_i c y z;unfold piB at h;split at h
  .rename_i a _ d f;cases h;exact OpV.pick g (QJ d) (by rw[Vt rfl];exact QJ f)
  .rename_i a d f;cases h;exact OpV.pick g (QJ d) (by rw[Vs (by decide)];exact QJ f)
  .cases h
 .rename_i b t y z u;unfold biB at h;split at h
  .rename_i k m s n d f;split at h
   .rename_i e;subst e;have l:=QJ d;have r:=QJ f;unfold arB at h
    grind[OpV.add,OpV.sub,OpV.mul,OpV.eql,OpV.neq,OpV.lss,OpV.leq,OpV.gtr,OpV.geq]
   .cases h
  .rename_i p q d f;have l:=QJ d;have r:=QJ f;unfold srB at h
   grind[QdA,QkS,QkT]
  .cases h
 .cases h
theorem QgC(h:stB o env=some (d,x)):o.dst=some d/\OpV P o env H x:=by
 unfold stB at h;split at h
 .rename_i b q;cases e:svB env o.op with
  |none=>rw[e]at h;cases h
  |some a=>rw[e]at h;cases h;exact⟨q,QbB rfl e⟩
 .cases h
theorem S(e:stB o env=some (d,x))(k:WO P h0 N all l (up env d x) H Q)(hg:Qt all o env true:=by exact rfl)(hN:Nat.blt d N=true:=by exact rfl):WO P h0 N all (o::l) env H Q:=
 Ys hg (QgC (P:=P) (H:=H) e).1 hN (QgC e).2 k
theorem Sg(hg:Qt all o env true)(e:stB o env=some (d,x))(k:WO P h0 N all l (up env d x) H Q)(a:Nat.blt d N=true:=by exact rfl):WO P h0 N all (o::l) env H Q:=
 Ys hg (QgC (P:=P) (H:=H) e).1 a (QgC e).2 k
theorem K(hg:Qt all o env false)(a:o.dst=some d)(k:WO P h0 N all l (up env d (.tup [])) H Q)(b:Nat.blt d N=true:=by exact rfl):WO P h0 N all (o::l) env H Q:=
 WO.skip hg a b k
theorem KF{j s:Nat}{c y:Bool}(a:y= !c)(b:o.dst=some d)(k:WO P h0 N all l (up env d (.tup [])) H Q)(e:Nat.blt d N=true:=by exact rfl)(hg:o.guard=some (j,c):=by exact rfl)(hs:(all[j]?).bind (·.dst)=some s:=by exact rfl)(hl:lk env s=.bool y:=by exact rfl):WO P h0 N all (o::l) env H Q:=
 WO.skip (gF a hg hs hl) b e k
def p2B(v:Bool):Bx->Bx->Bx->Option (Bool×A)
 |.mk (.bool b),.mk a,.mk a'=>match v with|true=>some (b,a)|false=>some (b,a')
 |_,_,_=>none
def pr2(d:Nat):Option (Bool×A)->Option (Nat×Bool×A)
 |some a=>some (d,a)
 |none=>none
def pkB(v:Bool)(o:Oper)(env:Env):Option (Nat×Bool×A):=
 match o.dst,o.op with
 |some d,.pick c x y=>pr2 d (p2B v (opB env c) (opB env x) (opB env y))
 |_,_=>none
theorem QoV{v b:Bool}{p q r:Bx}(h:p2B v p q r=some (b,x)):∃a a',p=.mk (.bool b)/\q=.mk a/\r=.mk a'/\(bif v then a else a')=x:=by
 obtain⟨p⟩:=p;obtain⟨q⟩:=q;obtain⟨r⟩:=r;cases p<;>first|(cases h;done)|skip
 cases v<;>cases h<;>exact(by simp)
theorem QlI{v b:Bool}(h:pkB v o env=some (d,b,x))(l:b=v):o.dst=some d/\OpV P o env H x:=by
 unfold pkB at h;split at h
 .rename_i p c y z i g;cases e:p2B v (opB env c) (opB env y) (opB env z)with
  |none=>rw[e]at h;cases h
  |some s=>
   rw[e]at h;cases h;obtain⟨a,f,j,n,k,m⟩:=QoV e
   grind[OpV.pick,QJ]
 .cases h
theorem Pk{v b:Bool}(a:b=v)(e:pkB v o env=some (d,b,x))(k:WO P h0 N all l (up env d x) H Q)(hg:Qt all o env true:=by exact rfl)(hN:Nat.blt d N=true:=by exact rfl):WO P h0 N all (o::l) env H Q:=
 Ys hg (QlI (P:=P) (H:=H) e a).1 hN (QlI e a).2 k
def fpB(o:Oper)(env:Env):Option (Nat×Nat×Nat×Nat×Nat):=
 match o.dst,o.op with
 |some d,.fieldAddr T x f=>match opB env x with
  |.mk (.ptr i p)=>some (d,T,f,i,p)
  |_=>none
 |_,_=>none
theorem QgR{T f off n i p:Nat}(a:YK P T f off n)(h:fpB o env=some (d,T,f,i,p)):o.dst=some d/\OpV P o env H (.ptr i (p+off)):=by
 grind[fpB,Qcu,QJ]
theorem Fp{T f off n i p:Nat}(a:YK P T f off n)(e:fpB o env=some (d,T,f,i,p))(k:WO P h0 N all l (up env d (.ptr i (p+off))) H Q)(hg:Qt all o env true:=by exact rfl)(hN:Nat.blt d N=true:=by exact rfl):WO P h0 N all (o::l) env H Q:=
 Ys hg (QgR (H:=H) a e).1 hN (QgR a e).2 k
theorem Fpg{T f off n i p:Nat}(hg:Qt all o env true)(a:YK P T f off n)(e:fpB o env=some (d,T,f,i,p))(k:WO P h0 N all l (up env d (.ptr i (p+off))) H Q)(b:Nat.blt d N=true:=by exact rfl):WO P h0 N all (o::l) env H Q:=
 Ys hg (QgR (H:=H) a e).1 b (QgR a e).2 k
inductive Lx where
 |mk (l:List A)
def Qh7:Nat->List A->Lx
 |0,l=>.mk l
 |n+1,_::r=>Qh7 n r
 |_+1,[]=>.mk []
theorem Qfh:∀{n:Nat} {l r:List A},Qh7 n l=.mk r->l.drop n=r
 |0,l,r,h=>by cases h;rfl
 |n+1,a::l,r,h=>by rw[List.drop_succ_cons];exact Qfh h
 |n+1,[],r,h=>by cases h;rfl
def ctB:Option Blk->Nat->Option A
 |some (.cells _ cs),off=>YM cs off
 |_,_=>none
def lvB(H:Qd):Bx->Option A
 |.mk (.ptr i off)=>ctB (YM H i) off
 |.mk (.rp (a::_))=>some a
 |_=>none
def pr3(d t:Nat):Option A->Option (Nat×Nat×A)
 |some a=>some (d,t,a)
 |none=>none
def ldB(o:Oper)(env:Env)(H:Qd):Option (Nat×Nat×A):=
 match o.dst,o.op with
 |some d,.load t x=>pr3 d t (lvB H (opB env x))
 |_,_=>none
theorem QgO{t:Nat}(j:∀w,(isAgg t).run P w=.ok false w)(h:ldB o env H=some (d,t,x)):o.dst=some d/\OpV P o env H x:=by
 unfold ldB at h;split at h
 .rename_i s p y l k;cases e:lvB H (opB env y)with
  |none=>rw[e]at h;cases h
  |some a=>
   rw[e]at h;cases h;refine⟨l,?_⟩;unfold lvB at e;split at e
   .rename_i i b g;unfold ctB at e;split at e
    .rename_i b q T0 T cs q4;rw[QaA]at e q4;obtain⟨f,m⟩:∃f,cs.drop b=x::f:=by
      have n:=(XL.1 e).1
      simp_all[Xp]
     exact OpV.load k j (QJ g) (Pts.cells q4 m)
    .cases e
   .rename_i a r g;cases e;exact OpV.load k j (QJ g) Pts.rp
   .cases e
 .cases h
theorem Ld{t:Nat}(a:∀w,(isAgg t).run P w=.ok false w)(e:ldB o env H=some (d,t,x))(k:WO P h0 N all l (up env d x) H Q)(hg:Qt all o env true:=by exact rfl)(hN:Nat.blt d N=true:=by exact rfl):WO P h0 N all (o::l) env H Q:=
 Ys hg (QgO a e).1 hN (QgO a e).2 k
theorem Ldg{t:Nat}(hg:Qt all o env true)(a:∀w,(isAgg t).run P w=.ok false w)(e:ldB o env H=some (d,t,x))(k:WO P h0 N all l (up env d x) H Q)(b:Nat.blt d N=true:=by exact rfl):WO P h0 N all (o::l) env H Q:=
 Ys hg (QgO a e).1 b (QgO a e).2 k
def ixB(o:Oper)(env:Env):Option (Nat×Nat×Nat×List (List A)×IntKind×Int):=
 match o.dst,o.op with
 |some d,.indexAddr t x y=>match opB env x,opB env y with
  |.mk (.rsl k es),.mk (.int kk i)=>some (d,t,k,es,kk,i)
  |_,_=>none
 |_,_=>none
theorem Ix{α:Type}{e:α->List A}{t a k:Nat}{L:List α}{g:IntKind}{i:Int}{v:α}(h:idx L i=some v)(b:∀w,(underlying t).run P w=.ok (.slice a) w)(f:∀w,(sizeOf a).run P w=.ok k w)
  (q:ixB o env=some (d,t,k,L.map e,g,i))(k:WO P h0 N all l (up env d (.rp (e v))) H Q)(hg:Qt all o env true:=by exact rfl)(hN:Nat.blt d N=true:=by exact rfl):WO P h0 N all (o::l) env H Q:=by
 unfold ixB at q;split at q
 .rename_i m r;split at q
  .rename_i p j;simp only[Option.some.injEq,Prod.mk.injEq]at q;obtain⟨rfl,rfl,rfl,n,rfl,rfl⟩:=q;exact Ys hg m hN (Qb0 h b f r (by rw[QJ p,n]) (QJ j)) k
  .cases q
 .cases q
def lnB(o:Oper)(env:Env):Option (Nat×Nat×Bx):=
 match o.dst,o.op with
 |some d,.call c=>match c with
  |{callee:=.builtin .len,args:=⟨[x]⟩,argTypes:=⟨[t]⟩}=>some (d,t,opB env x)
  |_=>none
 |_,_=>none
theorem Qo4{t:Nat}{b:Bx}(q:lnB o env=some (d,t,b)):∃x,o.dst=some d/\o.op=.call {callee:=.builtin .len,args:= #[x],argTypes:= #[t]}/\opB env x=b:=by
 unfold lnB at q
 grind
theorem LnM{α:Type}{e:α->List A}{t h k:Nat}{L:List α}(a:∀w,(underlying t).run P w=.ok (.slice h) w)(q:lnB o env=some (d,t,.mk (.rsl k (L.map e))))
  (k:WO P h0 N all l (up env d (.int .i64 L.length)) H Q)(hg:Qt all o env true:=by exact rfl)(hN:Nat.blt d N=true:=by exact rfl):WO P h0 N all (o::l) env H Q:=by
 obtain⟨x,g,f,b⟩:=Qo4 q;exact Ys hg g hN (QmW a f rfl (QJ b)) k
end
section
variable {P:Program} {h0 N:Nat} {all:Array Oper} {env env':Env} {H H':Qd} {Q:QA} {c c':Code}
theorem Nx(h:TC P h0 N c env H Q):WO P h0 N all [] env H (Seq P h0 N c Q):=WO.nil (Qlq h)
theorem Rg{id:Nat}{l:List Oper}(h:WO P h0 N l.toArray l env H (Seq P h0 N c Q)):TC P h0 N (.seq (.region id l.toArray false) c) env H Q:=TC.seq (TC.region h)
theorem SkN(h:TC P h0 N c env H Q):TC P h0 N .skip env H (Seq P h0 N c Q):=TC.skip (Qlq h)
theorem ExX{id:Nat}(h:Q (.exit id) env H):TC P h0 N (.exit id) env H (Seq P h0 N c Q):=TC.exit (seqX h)
theorem Oi{α:Type}{x y:α}(h:some x=some y):x=y:=XZ h
theorem Bd{α β:Type}{x:Option α}{f:α->Option β}{r:β}{G:Prop}(h:x.bind f=some r)(k:∀a,x=some a->f a=some r->G):G:=by
 obtain⟨a,b,d⟩:=YN h
 grind
theorem If{α:Type}{c:Bool}{x y:Option α}{r:α}{G:Prop}(h:(bif c then x else y)=some r)(t:c=true->x=some r->G)(e:c=false->y=some r->G):G:=by
 grind
theorem Cn{α:Type}{x:Operand}{t:Bool}{p q:Option α}{r:α}(hx:opB env x=.mk (.bool t))(h:(bif t then p else q)=some r)(ht:t=true->p=some r->TC P h0 N c env H Q)(hf:t=false->q=some r->TC P h0 N c' env H Q):TC P h0 N (.cond x c c') env H Q:=
 TC.cond (QJ hx) (by grind) (by grind)
theorem Ja{α:Type}{x:Operand}{t:Bool}{p q:Option α}{r:α}(hx:opB env x=.mk (.bool t))(h:(bif t then p else q)=some r)(hf:t=false->q=some r->TC P h0 N c' env H Q)(ht:t=true->p=some r->TC P h0 N c env H Q):TC P h0 N (.cond x c c') env H Q:=
 TC.cond (QJ hx) (by grind) (by grind)
theorem Lr(π:List Nat)(a:π.take h0=List.range h0:=by exact rfl)(hH:π.map (λp=>H[p]?)=(H'.map (QQ (rho π H.length))).map some:=by exact rfl)(hπ:π.Nodup:=by decide)
  (hE:QfD (rho π H.length) env env':=by(repeat' (first|exact trivial|refine⟨rfl,?_⟩))):Le h0 env H env' H':=Qps π a hH hπ hE
end
def Ev{α:Type}(f:Nat->Option α)(v:α):Prop:=∃N,∀n,N<=n->f n=some v
section
variable {α β:Type} {f g:Nat->Option α} {v w:α}
theorem Qa(v:α):Ev (λ_=>some v) v:=⟨0,λ_ _=>rfl⟩
theorem Ev.const{o:Option α}(h:o=some v):Ev (λ_=>o) v:=⟨0,λ_ _=>h⟩
theorem Ev.bind{k:Nat->α->Option β}{b:β}(h:Ev f v)(a:Ev (λn=>k n v) b):Ev (λn=>(f n).bind (k n)) b:=by
 obtain⟨N,h⟩:=h;obtain⟨M,a⟩:=a;exact⟨max N M,λn d=>by grind⟩
theorem QaP{o:Option α}{k:Nat->α->Option β}{b:β}(h:o=some v)(hk:Ev (λn=>k n v) b):Ev (λn=>o.bind (k n)) b:=Ev.bind (Ev.const h) hk
theorem QbR{c:Bool}(a:c=true->Ev f v)(b:c=false->Ev g w):Ev (λn=>bif c then f n else g n) (bif c then v else w):=by
 cases c with
 |true=>exact a rfl
 |false=>exact b rfl
theorem Qj5(h:Ev f v):Ev (λn=>bif true then f n else g n) v:=h
theorem Q7(h:Ev g v):Ev (λn=>bif false then f n else g n) v:=h
theorem Ev.and{c d:Bool}{h:Nat->Option Bool}(a:c=true->Ev h d):Ev (λn=>bif c then h n else some false) (c&&d):=by
 cases c with
 |true=>exact a rfl
 |false=>exact Qa _
theorem Ev.or{c d:Bool}{h:Nat->Option Bool}(a:c=false->Ev h d):Ev (λn=>bif c then some true else h n) (c||d):=by
 cases c with
 |true=>exact Qa _
 |false=>exact a rfl
theorem Ev.eq(h:Ev f v)(e:v=w):Ev f w:=e▸h
theorem Qm4(h:Ev f v)(e:∀n,g n=f n):Ev g v:=by
 obtain⟨N,h⟩:=h;exact⟨N,λn a=>by grind⟩
theorem Y4(h:Ev (λn=>f (n+1)) v):Ev f v:=by
 obtain⟨N,h⟩:=h;refine⟨N+1,λn a=>?_⟩;obtain⟨m,rfl⟩:∃m,n=m+1:=⟨n-1,by omega⟩
 grind
theorem Ev.ex(h:Ev f v):∃n,f n=some v:=let⟨N,h⟩:=h;⟨N,h N (XT _)⟩
theorem Ev.all{k:Nat}{F:Nat->Nat->Option α}{V:Nat->α}(h:∀i,i<k->Ev (F i) (V i)):∃N,∀n,N<=n->∀i,i<k->F i n=some (V i):=by
 induction k with
 |zero=>simp
 |succ k a=>
  obtain⟨N,b⟩:=a (by grind);obtain⟨M,f⟩:=h k (by omega);refine⟨max N M,λn d i e=>?_⟩
  grind
end
section
variable {S B α:Type} {step:Nat->S->Option (Ctl S B)}
theorem Ev.iter{s0:S}(a:Nat->S)(k:Nat){b:B}(g:a 0=s0)(d:∀i,i<k->Ev (λn=>step n (a i)) (.cont (a (i+1))))(e:Ev (λn=>step n (a k)) (.done b)):
  Ev (λn=>Go.Sw.iter (step n) n s0) b:=by
 obtain⟨N,h⟩:=Ev.all d;obtain⟨M,f⟩:=e;exact⟨max (max N M) (k+1),λn j=>QlX s0 a b k g (by grind) (f n (by omega)) n (by omega)⟩
theorem Qb4{step:S->Option (Ctl S B)}{s:S}{b:B}(m:Nat)(h:Go.Sw.iter step m s=some b):Ev (λn=>Go.Sw.iter step n s) b:=by
 have mono:∀m s,Go.Sw.iter step m s=some b->∀n,m<=n->Go.Sw.iter step n s=some b:=by
  intro m
  induction m with
  |zero=>intro s h;cases h
  |succ m e=>
   intro s h n d;obtain⟨a,rfl⟩:∃a,n=a+1:=⟨n-1,by omega⟩
   grind[Go.Sw.iter]
 exact⟨m,(by grind)⟩
structure At (l:List α) (i:Nat) (x:α):Prop where
 get:l[i]?=some x
 lt:decide ((i:Int)<(l.length:Int))=true
 ix:idx l (i:Int)=some x
 nx:IntKind.i64.wrap ((i:Int)+1)=((i+1:Nat):Int)
theorem Jb{l:List α}{i:Nat}{x:α}(a:l.length<=4611686018427387904)(h:l[i]?=some x):At l i x:=by
 have b:=(XL.1 h).1;exact⟨h,(by grind),Ql h,QC (by omega)⟩
theorem At.mem{l:List α}{i:Nat}{x:α}(h:At l i x):x∈l:=VH h.get
theorem At.lt'{l:List α}{i:Nat}{x:α}(h:At l i x):i<l.length:=(XL.1 h.get).1
theorem At.take{l:List α}{i:Nat}{x:α}(h:At l i x):l.take (i+1)=l.take i++[x]:=by
 rw[List.take_add_one,h.get];rfl
theorem Qco(l:List α):decide ((l.length:Int)<(l.length:Int))=false:=(by simp)
theorem QbQ{s0:S}(l:List α)(q:α->Bool)(a:Nat->S)(m b:B)(p:l.length<=4611686018427387904)(g:a 0=s0)
  (u:∀i x,At l i x->q x=false->Ev (λn=>step n (a i)) (.cont (a (i+1))))
  (f:∀i x,At l i x->q x=true->Ev (λn=>step n (a i)) (.done m))
  (s:Ev (λn=>step n (a l.length)) (.done b)):Ev (λn=>Go.Sw.iter (step n) n s0) (bif l.any q then m else b):=by
 have d:∀k,k<=l.length->(∀i x,l[i]?=some x->i<k->q x=false)\/ ∃i x,l[i]?=some x/\i<k/\q x=true/\ ∀j y,l[j]?=some y->j<i->q y=false:=by
  intro k
  induction k with
  |zero=>simp
  |succ k F=>
   grind
 rcases d l.length (XT _)with h|⟨i,x,t,G,w,z⟩
 .have:l.any q=false:=by
   rw[VM];intro e;obtain⟨x,f,e⟩:=Xt.1 e;obtain⟨i,r,rfl⟩:=List.getElem_of_mem f
   grind
  rw[this];exact Ev.iter a l.length g (λi r=>u i _ (Jb p (XK r)) (by grind)) s
 .have:l.any q=true:=(by grind);rw[this];refine Ev.iter a i g (λj E=>?_) (f i x (Jb p t) w)
  grind[Jb]
theorem QaC{β:Type}{s0:S}(l:List α)(g:β->α->β)(b:β)(e:β->Nat->S)(d:β->B)(j:l.length<=4611686018427387904)(p:e b 0=s0)
  (h:∀i x a,At l i x->a=(l.take i).foldl g b->Ev (λn=>step n (e a i)) (.cont (e (g a x) (i+1))))
  (m:Ev (λn=>step n (e (l.foldl g b) l.length)) (.done (d (l.foldl g b)))):Ev (λn=>Go.Sw.iter (step n) n s0) (d (l.foldl g b)):=by
 refine Ev.iter (λi=>e ((l.take i).foldl g b) i) l.length (by grind) (λi k=>?_) (by grind);have f:=Jb (x:=l[i]) j (XK k);have:=h i _ _ f rfl;rw[f.take,List.foldl_append];exact this
theorem Ev.contains(l:List α)(q:α->Bool)(g:Nat->α->Option Bool)(f:l.length<=4611686018427387904)(hg:∀x∈l,Ev (λn=>g n x) (q x)):
  Ev (λn=>(((Go.Sw.iter (λs:Int=>bif decide (s<(l.length:Int))then(idx l s).bind λx=>(g n x).bind λr=>(bif r then some (Ctl.done (Ctl.done s))else some (Ctl.cont (IntKind.i64.wrap (s+1))))else some (Ctl.done (Ctl.cont ()))) n (0:Int):Option (Ctl Unit Int)).bind λb=>
   match b with
   |.cont _=>some (-1)
   |.done s=>some s):Option Int).bind λr=>some (decide (0<=r))) (l.any q):=by
 cases e:l.any q with
 |false=>
  refine Ev.bind (v:=(-1:Int)) (Ev.bind (v:=Ctl.cont ()) (Ev.iter (λi=>(i:Int)) l.length rfl (λi z=>?_) ?_) (Qa _)) (Qa _)
  .have a:=Jb (x:=l[i]) f (XK z);simp only[a.lt,Vp,a.ix,XJ];have w:q l[i]=false:=by
    grind
   refine Ev.bind ((hg _ a.mem).eq w) ?_;simp only[Vq,a.nx];exact Qa _
  simp_all[Qa]
 |true=>
  obtain⟨x,B,h⟩:=Xt.1 e;have d:∀k,k<=l.length->(∀(i:Nat) (x:α),l[i]?=some x->i<k->q x=false)\/ ∃(i:Nat) (x:α),l[i]?=some x/\i<k/\q x=true/\ ∀(j:Nat) (y:α),l[j]?=some y->j<i->q y=false:=by
   intro k
   induction k with
   |zero=>simp
   |succ k F=>
    grind
  rcases d l.length (XT _)with E|⟨i,x,t,G,u,p⟩
  .obtain⟨j,m,rfl⟩:=List.getElem_of_mem B
   grind
  .refine Ev.bind (v:=(i:Int)) (Ev.bind (v:=Ctl.done (i:Int)) (Ev.iter (λi=>(i:Int)) i rfl (λj m=>?_) ?_) (Qa _)) ?_
   .have a:=Jb (x:=l[j]) f (XK (by omega));simp only[a.lt,Vp,a.ix,XJ];refine Ev.bind ((hg _ a.mem).eq (p j _ a.get m)) ?_;simp only[Vq,a.nx];exact Qa _
   .have a:=Jb f t;simp only[a.lt,Vp,a.ix,XJ];refine Ev.bind ((hg _ a.mem).eq u) ?_;exact Qa _
   simp_all[Qa]
end
section
variable {S B α:Type} {step:Nat->S->Option (Ctl S B)}
theorem Qhk{s0:S}(a:Nat->S)(k:Nat)(R:Nat->B)(e:a 0=s0)(r:∀i,i<k->(Ev (λn=>step n (a i)) (.cont (a (i+1)))/\R i=R (i+1))\/Ev (λn=>step n (a i)) (.done (R i)))
  (f:Ev (λn=>step n (a k)) (.done (R k))):Ev (λn=>Go.Sw.iter (step n) n s0) (R 0):=by
 have b:∀m,m<=k->(∀i,i<m->Ev (λn=>step n (a i)) (.cont (a (i+1)))/\R i=R (i+1))\/ ∃j,j<m/\(∀i,i<j->Ev (λn=>step n (a i)) (.cont (a (i+1)))/\R i=R (i+1))/\Ev (λn=>step n (a j)) (.done (R j)):=by
  intro m
  induction m with
  |zero=>simp
  |succ m l=>
   grind
 have same:∀m,(∀i,i<m->R i=R (i+1))->R 0=R m:=by
  intro m
  induction m with
  |zero=>intro _;rfl
  |succ m l=>grind
 rcases b k (XT _)with h|⟨j,q,p,g⟩
 .rw[same k λi d=>(h i d).2];exact Ev.iter a k e (by grind) f
 .rw[same j λi d=>(p i d).2];exact Ev.iter a j e (by grind) g
theorem At.drop{l:List α}{i:Nat}{x:α}(h:At l i x):l.drop i=x::l.drop (i+1):=by
 have:=h.lt';rw[Xp this,(XL.1 h.get).2]
theorem Qhj{s0:S}(l:List α)(st:Nat->S)(R:Nat->B)(hl:l.length<=4611686018427387904)(h0:st 0=s0)
  (hc:∀i x,At l i x->(Ev (λn=>step n (st i)) (.cont (st (i+1)))/\R i=R (i+1))\/Ev (λn=>step n (st i)) (.done (R i)))
  (hd:Ev (λn=>step n (st l.length)) (.done (R l.length))):Ev (λn=>Go.Sw.iter (step n) n s0) (R 0):=
 Qhk st l.length R h0 (λi hi=>hc i _ (Jb hl (XK hi))) hd
end
section
variable {α β:Type} [DecidableEq α]
theorem QaD(p:α×β)(l:List (α×β))(k:α):Qag (p::l) k=if p.1=k then some p.2 else Qag l k:=by
 grind[Qag]
theorem Qkl(p:α×β)(l:List (α×β))(k:α)(v:β):Yj (p::l) k v=if p.1=k then(p.1,v)::l.map (λq=>bif decide (q.1=k)then(q.1,v)else q)else p::Yj l k v:=by
 unfold Yj
 grind
theorem QlS(l:List (α×β))(k a:α)(v:β)(h:a≠k):Qag (l.map λq=>bif decide (q.1=k)then(q.1,v)else q) a=Qag l a:=by
 induction l with
 |nil=>rfl
 |cons p l b=>
  grind[QaD]
theorem Qdl(l:List (α×β))(k a:α)(v:β):Qag (Yj l k v) a=if a=k then some v else Qag l a:=by
 induction l with
 |nil=>
  show Qag ([]++[(k,v)]) a=_;rw[Vh,QaD]
  grind
 |cons p l b=>
  rw[Qkl];by_cases e:p.1=k
  .rw[Vt e,QaD,QaD];by_cases h:a=k
   .grind
   .have:p.1≠a:=(by grind)
    simp_all[QlS]
  .rw[Vs e,QaD,QaD,b]
   grind
theorem Qkm(k:α)(z:β):QP ([]:List (α×β)) k z=z:=rfl
theorem QeR(l:List (α×β))(k a:α)(v z:β):QP (Yj l k v) a z=if a=k then v else QP l a z:=by
 grind[QP,Qdl]
theorem Qf1(l:List (α×β))(k:α)(v:β):(Yj l k v).map (·.1)=if k∈l.map (·.1)then l.map (·.1)else l.map (·.1)++[k]:=by
 unfold Yj;have e:(l.any λp=>decide (p.1=k))=decide (k∈l.map (·.1)):=by
  grind
 rw[e];by_cases h:k∈l.map (·.1)
 .rw[Vu h,Vt h,Vp,List.map_map];apply List.map_congr_left
  grind
 grind
def Ye{γ:Type}(key:γ->α)(v:β)(l:List γ):List (α×β):=l.foldl (λm x=>Yj m (key x) v) []
theorem QgL{γ:Type}(a:γ->α)(v:β)(l:List γ)(x:γ):Ye a v (l++[x])=Yj (Ye a v l) (a x) v:=by
 unfold Ye;simp
theorem QdL{γ:Type}(a:γ->α)(v z:β)(l:List γ)(k:α):QP (Ye a v l) k z=if k∈l.map a then v else z:=by
 have b:∀(l:List γ) (m:List (α×β)),QP (l.foldl (λm x=>Yj m (a x) v) m) k z=if k∈l.map a then v else QP m k z:=by
  intro l
  induction l with
  |nil=>intro m;simp
  |cons x l d=>
   intro m;rw[XD,d,QeR]
   grind
 exact b l []
theorem Qca{γ:Type}(a:γ->α)(v:β)(l:List γ):(Ye a v l).length<=l.length/\((Ye a v l).length=l.length↔(l.map a).Nodup):=by
 have e:∀(l:List γ) (m:List (α×β)),(m.map (·.1)).Nodup->(l.foldl (λm x=>Yj m (a x) v) m).length<=m.length+l.length/\((l.foldl (λm x=>Yj m (a x) v) m).length=m.length+l.length↔(m.map (·.1)++l.map a).Nodup):=by
  intro l
  induction l with
  |nil=>simp
  |cons x l g=>
   intro m i;have d:=Qf1 m (a x) v;have b:(Yj m (a x) v).length=((Yj m (a x) v).map (·.1)).length:=by simp
   by_cases h:a x∈m.map (·.1)
   .grind
   .rw[Vs h]at d;have f:((Yj m (a x) v).map (·.1)).Nodup:=by
     grind
    grind
 grind[Ye]
end
theorem Y5{α:Type}(l:List α)(p:α->Bool)(g:Nat->α->Option Bool)(a:l.length<=4611686018427387904)(hg:∀x∈l,Ev (λn=>g n x) (p x)):
  Ev (λn=>((((Go.Sw.iter (λs:Int=>bif decide (s<(l.length:Int))then(idx l s).bind λx=>((g n x).bind λr1=>some (!r1)).bind λr=>(bif r then some (Ctl.done (Ctl.done s))else some (Ctl.cont (IntKind.i64.wrap (s+1))))else some (Ctl.done (Ctl.cont ()))) n (0:Int):Option (Ctl Unit Int)).bind λb=>
   match b with
   |.cont _=>some (-1)
   |.done s=>some s):Option Int).bind λr=>some (decide (0<=r)):Option Bool).bind λr=>some (!r)) (l.all p):=by
 refine Ev.bind (Ev.contains l (λx=> !p x) (λn x=>(g n x).bind λr1=>some (!r1)) a λx d=>Ev.bind (hg x d) (Qa _)) ((Qa _).eq ?_)
 grind
theorem Ev.inner{α κ B:Type}[DecidableEq κ]{step:Nat->Int->Option (Ctl Int B)}(l:List α)(i:Nat)(a:α->κ)(k:κ)(f b:B)(t:l.length<=4611686018427387904)(hi:i<=l.length)
  (s:∀j y,j<i->At l j y->decide (a y=k)=false->Ev (λn=>step n (j:Int)) (.cont ((j+1:Nat):Int)))
  (u:∀j y,j<i->At l j y->decide (a y=k)=true->Ev (λn=>step n (j:Int)) (.done f))
  (r:Ev (λn=>step n (i:Int)) (.done b)):Ev (λn=>Go.Sw.iter (step n) n 0) (bif ((l.take i).map a).contains k then f else b):=by
 have e:((l.take i).map a).contains k=(l.take i).any λy=>decide (a y=k):=by
  grind
 rw[e];have g:(l.take i).length=i:=by simp;omega
 have p:∀j y,At (l.take i) j y->j<i/\At l j y:=by
  intro j y d;have m:=d.lt';have h:=d.get
  grind[Jb]
 refine QbQ (l.take i) (λy=>decide (a y=k)) (λi=>(i:Int)) _ _ (by omega) rfl (λj y d q=>?_) (λj y d q=>?_) ?_
 .grind
 .grind
 grind
theorem Qbt{α κ β:Type}[DecidableEq κ]{step:Nat->List (κ×β)×Int->Option (Ctl (List (κ×β)×Int) (List (κ×β)))}(l:List α)(key:α->κ)(v:β)(hl:l.length<=4611686018427387904)
  (hc:∀i x m,At l i x->Ev (λn=>step n (m,(i:Int))) (.cont (Yj m (key x) v,((i+1:Nat):Int))))
  (hd:∀m,Ev (λn=>step n (m,(l.length:Int))) (.done m)):Ev (λn=>Go.Sw.iter (step n) n ([],0)) (Ye key v l):=
 QaC l (λm x=>Yj m (key x) v) [] (λm i=>(m,(i:Int))) (λm=>m) hl rfl (by grind) (hd _)
theorem Ev.shift{α:Type}{f:Nat->Option α}{v:α}(h:Ev f v):Ev (λn=>f (n+1)) v:=by
 obtain⟨N,h⟩:=h;exact⟨N,(by grind)⟩
def EvI{S B:Type}(step:Nat->S->Option (Ctl S B))(s:S)(b:B):Prop:=∃N,∀n k,N<=n->N<=k->Go.Sw.iter (step n) k s=some b
section
variable {S B:Type} {step:Nat->S->Option (Ctl S B)} {s s':S} {b:B}
theorem EvI.done(h:Ev (λn=>step n s) (.done b)):EvI step s b:=by
 obtain⟨N,h⟩:=h;refine⟨N+1,λn k d e=>?_⟩;obtain⟨a,rfl⟩:∃a,k=a+1:=⟨k-1,by omega⟩
 grind[Go.Sw.iter]
theorem EvI.cont(h:Ev (λn=>step n s) (.cont s'))(q:EvI step s' b):EvI step s b:=by
 obtain⟨N,h⟩:=h;obtain⟨M,q⟩:=q;refine⟨max N M+1,λn k d e=>?_⟩;obtain⟨a,rfl⟩:∃a,k=a+1:=⟨k-1,by omega⟩
 grind[Go.Sw.iter]
theorem EvI.ev(h:EvI step s b):Ev (λn=>Go.Sw.iter (step n) n s) b:=by
 obtain⟨N,h⟩:=h;exact⟨N,λn a=>h n n a a⟩
theorem EvI.eq{b':B}(h:EvI step s b)(e:b=b'):EvI step s b':=e▸h
end
theorem QN{α:Type}{l r:List α}{i:Nat}{x:α}(b:l.length<=4611686018427387904)(h:l.drop i=x::r):At l i x/\l.drop (i+1)=r:=by
 have a:l[i]?=some x:=by
  have:=congrArg (λl=>l[0]?) h
  grind
 refine⟨Jb b a,?_⟩;have:=(Jb b a).drop
 grind
theorem Yx{α:Type}{l:List α}{i:Nat}(h:l.drop i=[])(hi:i<=l.length):decide ((i:Int)<(l.length:Int))=false:=by
 simp_all
theorem Z.{u}{α:Sort u}{a:α}:a=a:=rfl
section
variable {P:Program} {h0 N:Nat} {all:Array Oper} {env:Env} {H H':Qd} {Q:QA} {l:List Oper} {o:Oper} {d:Nat}
theorem aV(x:A)(H:Qd){x':A}{H':Qd}(b:x'=x)(a:H'=H)(k:WO P h0 N all l (up env d x) H Q):WO P h0 N all l (up env d x') H' Q:=by subst b;subst a;exact k
theorem vX(x:A)(a:OpV P o env H x)(k:WO P h0 N all l (up env d x) H Q)(hg:Qt all o env true:=by exact rfl)(hd:o.dst=some d:=by exact rfl)(hN:Nat.blt d N=true:=by exact rfl):WO P h0 N all (o::l) env H Q:=
 Ys hg hd hN a k
theorem Wp:WO P h0 N all [] env H (YT env H):=WO.nil YT.mk
end
section
variable {P:Program} {o:Oper} {env:Env} {H:Qd}
theorem Qn1{ro:Nat->Prop}{σ:Sig}{w:World}(g:GP w){b:Nat}{zs:List Int}(h:QiQ[b]?=some zs):∀(i:Nat),CR ro σ w b ((zs.drop i).map (A.int .i64)) i:=by
 intro i;generalize hl:zs.drop i=l
 induction l generalizing i with
 |nil=>trivial
 |cons z l e=>
  have d:zs[i]?=some z:=by
   have:=congrArg (·[0]?) hl
   grind
  have a:zs.drop (i+1)=l:=by
   rw[<- List.drop_drop,hl];rfl
  exact⟨⟨_,g.tab b zs h i z d,by simp[Qp],rfl⟩,e (i+1) a⟩
theorem Qgp{t n g:Nat}{zs:List Int}(i:∀w,(isAgg t).run P w=.ok true w)(h:∀w,(sizeOf t).run P w=.ok n w)(hg:QiQ[g]?=some zs)(f:zs.length=n)(k:o.op=.load t (.global g):=by exact rfl):
  OpV P o env H (.agg (zs.map (A.int .i64))):=by
 intro j ro σ N a w r;obtain⟨l,e,_,d⟩:=Yu (P:=P) (b:=g) (cs:=zs.map (A.int .i64)) (off:=0) 0 (by simpa using Qn1 (ro:=ro) (σ:=σ) r.sim.roOk.gp hg 0);have d:=d w #[] rfl;rw[X2,f]at d;refine⟨.agg l.toArray,?_,l,rfl,e⟩;have m:a.eval (.global g)=.pointer (some ⟨g,0,none⟩):=rfl
 simp_all[execOp,Instr.loadAt,Instr.sureAddr,loadVar,loadCells]
end
open Go.Proofs
section
variable {P:Program}
def toV(agg:Bool)(l:List Value):Value:=bif agg then .agg l.toArray else l.headD .nilFunc
structure Qk8 (P:Program) (t:TypeId) (h k:Nat) (agg:Bool) (ok:List Value->Prop):Prop where
 len:∀l,ok l->l.length=k
 ia:∀w,(isAgg t).run P w=.ok agg w
 so:∀w,(sizeOf t).run P w=.ok k w
 eq:∀(w:World) (d:Nat) (l m:List Value),ok l->ok m->∃b:Bool,(Op.equalIn (d+h) t (toV agg l) (toV agg m)).run P w=.ok b w/\(b=true↔l=m)
structure Qm5 (P:Program) (fs:List Field) (h off k:Nat) (ok:List Value->Prop):Prop where
 len:∀l,ok l->l.length=k
 eq:∀(w:World) (d:Nat) (p q l m:List Value),p.length=off->q.length=off->ok l->ok m->∃b:Bool,(Op.eqFields (d+h) (p++l).toArray (q++m).toArray fs).run P w=.ok b w/\(b=true↔l=m)
theorem Qk8.int{t:TypeId}{k:IntKind}(a:P.underlying t=some (.int k))(b:∀w,(isAgg t).run P w=.ok false w)(e:∀w,(sizeOf t).run P w=.ok 1 w)(h:Nat):Qk8 P t (h+1) 1 false (λl=>∃n:Int,l=[.int k n]):=by
 refine⟨?_,b,e,?_⟩
 .simp
 .rintro w d _ _ ⟨n,rfl⟩ ⟨m,rfl⟩;exact⟨_,run_equalIn_int w (d+h) t k k n m a,by simp⟩
theorem Qk8.bool{t:TypeId}(a:P.underlying t=some .bool)(b:∀w,(isAgg t).run P w=.ok false w)(e:∀w,(sizeOf t).run P w=.ok 1 w)(h:Nat):Qk8 P t (h+1) 1 false (λl=>∃n:Bool,l=[.bool n]):=by
 refine⟨?_,b,e,?_⟩
 .simp
 .rintro w d _ _ ⟨n,rfl⟩ ⟨m,rfl⟩;exact⟨_,run_equalIn_bool' w (d+h) t n m a,by simp⟩
theorem Qm5.nil(h off:Nat):Qm5 P [] h off 0 (λl=>l=[]):=by
 refine⟨?_,?_⟩
 .simp
 simp_all[Op.eqFields]
theorem Qhw{t:TypeId}{k:Nat}{agg:Bool}{w:World}(f:∀w,(isAgg t).run P w=.ok agg w)(g:∀w,(sizeOf t).run P w=.ok k w)(p a d:List Value)(e:a.length=k)(b:agg=false->k=1):
  (part t (p++(a++d)).toArray p.length).run P w=.ok (toV agg a) w:=by
 unfold part;cases agg with
 |true=>
  simp_all[toV]
 |false=>
  have:=b rfl;subst this
  match a,e with
  |[v],_=>simp[f,go_sem,toV]
theorem Qm5.cons{f:Field}{fs:List Field}{h off n u:Nat}{agg:Bool}{k i:List Value->Prop}(V:Nat.beq f.offset off=true)(M:f.name≠"_")(g:Qk8 P f.type h n agg k)(z:agg=false->n=1)(E:Qm5 P fs h (off+n) u i):
  Qm5 P (f::fs) h off (n+u) (λl=>∃l1 l2,l=l1++l2/\k l1/\i l2):=by
 have t:f.offset=off:=(by simp_all);refine⟨?_,?_⟩
 .rintro _ ⟨l1,l2,rfl,a,b⟩;rw[X3,g.len _ a,E.len _ b]
 .rintro w d p q _ _ x F ⟨l1,l2,rfl,r,J⟩ ⟨j,s,rfl,m,O⟩;have y:=Qhw (P:=P) (w:=w) g.ia g.so p l1 l2 (g.len _ r) z;have B:=Qhw (P:=P) (w:=w) g.ia g.so q j s (g.len _ m) z;rw[x]at y;rw[F]at B;obtain⟨H,N,L⟩:=g.eq w d l1 j r m;obtain⟨T,G,Q⟩:=E.eq w d (p++l1) (q++j) l2 s (by rw[X3,x,g.len _ r]) (by rw[X3,F,g.len _ m]) J O;rw[Vi,Vi]at G;have R:l1.length=j.length:=by rw[g.len _ r,g.len _ m]
  refine⟨H&&T,?_,?_⟩
  .generalize(p++(l1++l2)).toArray=X at*;generalize(q++(j++s)).toArray=Y at*;cases H<;>simp[Op.eqFields,M,t,Vm,Result.andThen,y,B,N,G]
  .rw[XW,L,Q];constructor
   .grind
   .intro e;exact List.append_inj e R
theorem Qk8.struct{t:TypeId}{h k:Nat}{ok:List Value->Prop}(p:P.underlying t=some (.struct (P.fieldsOf t)))(n:P.stoodInHeld t=false)(f:∀w,(isAgg t).run P w=.ok true w)(i:∀w,(sizeOf t).run P w=.ok k w)(e:Qm5 P (P.fieldsOf t).toList h 0 k ok):Qk8 P t (h+1) k true ok:=by
 refine⟨e.len,f,i,λw d l m a b=>?_⟩;obtain⟨r,j,g⟩:=e.eq w d [] [] l m rfl rfl a b;refine⟨r,?_,g⟩;show(Op.equalIn (d+h+1) t (.agg l.toArray) (.agg m.toArray)).run P w=_
 grind[run_equalIn_agg]
theorem QL{t:TypeId}{h k:Nat}{fs:Array Field}{ok:List Value->Prop}(d:P.underlying t=some (.struct fs))(a:P.stoodInHeld t=false)(b:∀w,(isAgg t).run P w=.ok true w)(e:∀w,(sizeOf t).run P w=.ok k w)(f:Qm5 P fs.toList h 0 k ok):Qk8 P t (h+1) k true ok:=by
 grind[Program.fieldsOf,Qk8.struct]
structure EqD (P:Program) (t:TypeId) {α:Type} (cells:α->List A):Prop where
 scl:∀x,QgD (cells x)=true
 inj:∀x y,YL (cells x)=YL (cells y)->x=y
 guard:P.eqGuardType P.depth t=false
 eq:∀(w:World) x y,∃b:Bool,(Op.equalIn 10000 t (.agg (YL (cells x)).toArray) (.agg (YL (cells y)).toArray)).run P w=.ok b w/\(b=true↔YL (cells x)=YL (cells y))
theorem Qj7{α:Type}{cells:α->List A}{t h k:Nat}{ok:List Value->Prop}(E:Qk8 P t h k true ok)(d:Nat.ble h 10000=true)(a:∀x,ok (YL (cells x)))(b:∀x,QgD (cells x)=true)(hi:∀x y,YL (cells x)=YL (cells y)->x=y)(hg:P.eqGuardType P.depth t=false):EqD P t cells:=by
 refine⟨b,hi,hg,λw x y=>?_⟩;have:=E.eq w (10000-h) (YL (cells x)) (YL (cells y)) (a x) (a y)
 rwa [show 10000-h+h=10000 by simp_all]at this
variable {o:Oper} {env:Env} {H:Qd}
theorem Qgr{α:Type}[DecidableEq α]{cells:α->List A}{t u:TypeId}{x y:Operand}{p q:α}(E:EqD P t cells)(z:opA env x=.agg (cells p))(m:opA env y=.agg (cells q))(l:o.op=.binOp .eql t x y u:=by exact rfl):OpV P o env H (.bool (p==q)):=by
 intro F B σ N a w r;have g:=Qi r x;have h:=Qi r y;rw[z]at g;rw[m]at h;have j:=VR.val (a:=.agg (cells p)) (E.scl p) g;have s:=VR.val (a:=.agg (cells q)) (E.scl q) h;obtain⟨b,k,i⟩:=E.eq w p q;have n:b=(p==q):=by
  rw[XY,i,Vy];exact⟨E.inj p q,λe=>by rw[e]⟩
 refine⟨.bool (p==q),?_,rfl⟩;rw[<- n];generalize a.eval=ρ at*;have d:ρ x=.agg (YL (cells p)).toArray:=j;have f:ρ y=.agg (YL (cells q)).toArray:=s;simp[execOp,l,d,f,go_sem,run_eqGuard_agg _ _ _ _ _ _ _ E.guard,run_eql_struct,k]
theorem Qgq{α:Type}[DecidableEq α]{cells:α->List A}{t u:TypeId}{x y:Operand}{p q:α}(E:EqD P t cells)(z:opA env x=.agg (cells p))(m:opA env y=.agg (cells q))(l:o.op=.binOp .neq t x y u:=by exact rfl):OpV P o env H (.bool (p != q)):=by
 intro F B σ N a w r;have g:=Qi r x;have h:=Qi r y;rw[z]at g;rw[m]at h;have j:=VR.val (a:=.agg (cells p)) (E.scl p) g;have s:=VR.val (a:=.agg (cells q)) (E.scl q) h;obtain⟨b,k,i⟩:=E.eq w p q;have n:b=(p==q):=by
  rw[XY,i,Vy];exact⟨E.inj p q,λe=>by rw[e]⟩
 refine⟨.bool (p != q),?_,rfl⟩;rw[bne, <- n];generalize a.eval=ρ at*;have d:ρ x=.agg (YL (cells p)).toArray:=j;have f:ρ y=.agg (YL (cells q)).toArray:=s;simp[execOp,l,d,f,go_sem,run_eqGuard_agg _ _ _ _ _ _ _ E.guard,run_neq_struct,k]
end
end Go.Sw
namespace Go.Sw
structure Qfp (g g':Nat->Prop) (W W':World):Prop where
 sub:∀b,g b->g' b
 new:∀b,g' b->g b\/W.heap.size<=b
 lt:∀b,g' b->b<W'.heap.size
 all:∀b,W.heap.size<=b->b<W'.heap.size->g' b
 keep:∀b,b<W.heap.size->¬g b->W'.heap[b]?=W.heap[b]?
 size:W.heap.size<=W'.heap.size
 shape:∀b x,W.shape? b=some x->W'.shape? b=some x
 os:W'.os=W.os
 tape:W'.tape=W.tape
 output:W'.output=W.output
 drawn:W.drawn<=W'.drawn
abbrev Jv(T:Type):=List T->(Nat->Prop)->(Nat->Prop)->World->Prop
structure Qoo {T:Type} (J:Jv T):Prop where
 ev:∀rem q g W W' ro',J rem q g W->Qh g q W ro' W'->J rem q g W'
 up:∀rem q g g' W,J rem q g W->(∀b,g b->g' b)->(∀b,g' b->b<W.heap.size)->J rem q g' W
theorem Sim.round{fr g g' ro:Nat->Prop}{σ:Sig}{H:Qd}{W W':World}(s:Sim fr ro σ H W)(a:∀b,g b->fr b)(k:Qfp g g' W W'):Sim (λb=>fr b\/g' b) ro σ H W'/\Qh (λb=>b<W.heap.size/\ ¬g b) ro W ro W':=by
 have e:∀b,ro b->W'.heap[b]?=W.heap[b]? :=λb q=>k.keep b (s.roLt b q) (λr=>s.roFr b q (a b r));have l:Ext ro σ W ro σ W':=by
  have ev:Qh (λ_=>False) ro W ro W':=⟨λ_ q=>q,e,λ_ q=>q.elim,k.size,k.shape,k.os,k.tape,k.output,k.drawn⟩;have:=ev.ext σ []
  grind
 refine⟨⟨s.len,s.roOk.to (λ_ q=>q) e (λb q=>Vf (s.roLt b q) k.size),λb q=>q.elim (λq=>Vf (s.frLt b q) k.size) (k.lt b),λb q r=>?_,λi b x h f B=>?_,s.inj,λi y x h f=>?_,
  s.hidTo (· = ·) Q2 k.size (by simp) (λi b x c h f B F=>F.elim id λq=>(k.new c q).elim (a c) λm=>(by have:=(s.hid i b x c h f B).lt;omega)) λj d y n p G=>.inl ⟨j,y,rfl,n,p,id,λc q=>s.hidKeep n p (λz=>k.keep d (s.own j d y n p z).1 λr=>(s.own j d y n p z).2.2 (a d r)) e q⟩⟩,
  ⟨λ_ q=>q,e,λb q=>k.keep b q.1 q.2,k.size,k.shape,k.os,k.tape,k.output,k.drawn⟩⟩
 .rcases r with r|r
  .exact s.roFr b q r
  .rcases k.new b r with m|m
   .exact s.roFr b q (a b m)
   .have:=s.roLt b q;omega
 .obtain⟨u,E,t⟩:=s.own i b x h f B;refine⟨Vf u k.size,E,λr=>?_⟩;rcases r with r|r
  .exact t r
  .rcases k.new b r with m|m
   .grind
   .omega
 .refine(s.blk i y x h f).keep l ?_ ?_
  .rintro b rfl w;obtain⟨u,E,t⟩:=s.own i b x h f w;exact k.keep b u (λr=>t (a b r))
  .rintro b c rfl w;have q:=s.hid i b x c h f w;exact k.keep c q.lt (λr=>q.fr (a c r))
def Qpq{T:Type}(J Jx:Jv T)(g ri:Nat->Prop)(W1:World)(rem:List T):Ending->World->Prop:=λe W'=>
 ∃g' q',(∀b,q' b->ri b)/\Qfp g g' W1 W'/\((e=.returned (.bool true)/\J rem q' g' W')\/(e=.returned (.bool false)/\Jx rem q' g' W'))
structure Ctx (T:Type) where
 l:Nat
 J:Jv T
 Jx:Jv T
 enc:T->List A
 nx:List T->T->List T->Prop
structure Ctx.ok {T:Type} (X:Ctx T) (P:Program):Prop where
 b:Qoo X.J
 bx:Qoo X.Jx
 round:∀l x rem q g ri W1 vs,X.nx l x rem->X.J l q g W1->(∀b,q b->ri b)->(∀b,ri b->b<W1.heap.size/\ ¬g b)->LR ri [] W1 (X.enc x) vs->YieldAt Fence.wide 0 P X.l vs.toArray W1 (Qpq X.J X.Jx g ri W1 rem)
def QmS{T:Type}(P:Program)(f:FuncId)(caps:List A)(H:Qd)(enc:T->List A)(nx:List T->T->List T->Prop)(xs:List T):Prop:=
 ∀(X:Ctx T),X.enc=enc->X.nx=nx->X.ok P->∀fr ro σ w capv q,Sim fr ro σ H w->(∀b,q b->ro b)->LR ro σ w caps capv->X.J xs q fr w->
  Calls P f ((Value.func (.yield X.l) #[] #[]::capv)).toArray w λe W'=>(∃v,e=.returned v)/\ ∃g q',(∀b,fr b->g b)/\((X.J [] q' g W')\/(∃rem,X.Jx rem q' g W'))
inductive YSt (T:Type) where
 |on (rem:List T)
 |off (rem:List T)
def Ctx.J'{T:Type}(X:Ctx T):YSt T->(Nat->Prop)->(Nat->Prop)->World->Prop
 |.on rem=>X.J rem
 |.off rem=>X.Jx rem
def Ctx.at{T:Type}(X:Ctx T)(st:YSt T)(g ro:Nat->Prop)(W:World):Prop:=∃q,(∀b,q b->ro b)/\X.J' st q g W
theorem Qh.roMono{fr ro ro0 ro':Nat->Prop}{w w':World}(h:Qh fr ro w ro' w')(s:∀b,ro0 b->ro b):Qh fr ro0 w ro' w':=
 ⟨λb q=>h.sub b (s b q),λb q=>h.keepRo b (s b q),h.keepFr,h.size,h.shape,h.os,h.tape,h.output,h.drawn⟩
theorem Ctx.ok.ev{T:Type}{X:Ctx T}{P:Program}(h:X.ok P){d:YSt T}{g ro ro':Nat->Prop}{W W':World}(a:X.at d g ro W)(he:Qh g ro W ro' W'):X.at d g ro' W':=by
 obtain⟨q,e,a⟩:=a;refine⟨q,λb z=>he.sub b (e b z),?_⟩;cases d with
 |on rem=>exact h.b.ev rem q g W W' ro' a (he.roMono e)
 |off rem=>exact h.bx.ev rem q g W W' ro' a (he.roMono e)
theorem Ctx.ok.up{T:Type}{X:Ctx T}{P:Program}(h:X.ok P){d:YSt T}{g g' ro:Nat->Prop}{W:World}(a:X.at d g ro W)(hg:∀b,g b->g' b)(e:∀b,g' b->b<W.heap.size):X.at d g' ro W:=by
 obtain⟨q,f,a⟩:=a;refine⟨q,f,?_⟩;cases d with
 |on rem=>exact h.b.up rem q g g' W a hg e
 |off rem=>exact h.bx.up rem q g g' W a hg e
abbrev YC(T:Type):=AEx->Env->Qd->YSt T->Prop
structure In (g fr:Nat->Prop) (ds:List Deferred):Prop where
 sub:∀b,g b->fr b
 beside:∀D,({target:=.collected D,args:= #[]}:Deferred)∈ds->¬g D
def QcX{T:Type}(X:Ctx T)(h0:Nat)(fr ro:Nat->Prop)(σ:Sig)(w:World)(N:Nat)(ds:List Deferred)(Q:YC T):Exit->Act->World->Prop:=
 λe a' w'=>∃x env' H' st ro' σ' fr' g',ExR e x/\Q x env' H' st/\Rel fr' ro' σ' H' env' N a' w'/\(X.at st g' ro' w'/\In g' fr' a'.defers)/\(∀b,ro b->ro' b)/\w.heap.size<=w'.heap.size/\σ'.take h0=σ.take h0/\Grow fr w ds fr' a'.defers
theorem QcX.grow{T:Type}{X:Ctx T}{i:Nat}{fr g ro d:Nat->Prop}{σ σ1:Sig}{w w1:World}{N:Nat}{m f:List Deferred}{Q:YC T}{e:Exit}{a':Act}{w':World}
  (h:QcX X i g d σ1 w1 N f Q e a' w')(E:∀b,ro b->d b)(l:w.heap.size<=w1.heap.size)(s:σ1.take i=σ.take i)(hg:Grow fr w m g f):QcX X i fr ro σ w N m Q e a' w':=by
 obtain⟨x,a,H',y,j,σ',k,r,u,q,z,t,F,B,n,p⟩:=h;exact⟨x,a,H',y,j,σ',k,r,u,q,z,t,(by grind),XV l B,n.trans s,hg.trans l p⟩
def TCy{T:Type}(X:Ctx T)(P:Program)(h0 N:Nat)(c:Code)(env:Env)(H:Qd)(st:YSt T)(Q:YC T):Prop:=
 X.ok P->∀rd fr ro σ a w g,Rel fr ro σ H env N a w->X.at st g ro w/\In g fr a.defers->rd=none->c.wpIn (WF rd) 0 P (QcX X h0 fr ro σ w N a.defers Q) a w
def WOy{T:Type}(X:Ctx T)(P:Program)(h0 N:Nat)(all:Array Oper)(l:List Oper)(env:Env)(H:Qd)(st:YSt T)(Q:YC T):Prop:=
 X.ok P->∀rd fr ro σ a w g,Rel fr ro σ H env N a w->X.at st g ro w/\In g fr a.defers->rd=none->wpL P rd all (QcX X h0 fr ro σ w N a.defers Q) l a w
theorem In.later{fr a g:Nat->Prop}{w:World}{ds d:List Deferred}(h:In g fr ds)(f:∀b,fr b->b<w.heap.size)(hg:Grow fr w ds a d):In g a d:=by
 refine⟨λb q=>hg.sub b (h.sub b q),λD hD q=>?_⟩;rcases hg.ds _ hD with r|⟨D',e,r⟩
 .exact h.beside D r q
 .have:D=D':=by simpa using e
  subst this;have:=f D (h.sub D q);omega
section
variable {T:Type} {X:Ctx T} {P:Program} {h0 N:Nat} {c c':Code} {env:Env} {H:Qd} {st:YSt T} {Q:YC T}
theorem QkR{fr ro:Nat->Prop}{σ:Sig}{w:World}{f:List Deferred}{e:Exit}{a':Act}{w':World}(m:X.ok P)(h:QaL h0 fr ro σ w N f (λx env H=>Q x env H st) e a' w'){g:Nat->Prop}(q:∀b,fr b->b<w.heap.size)(j:X.at st g ro w/\In g fr f):
  QcX X h0 fr ro σ w N f Q e a' w':=by
 obtain⟨x,a,H',i,σ',k,n,s,p,d,r,l⟩:=h;exact⟨x,a,H',st,i,σ',k,g,n,s,p,⟨m.ev j.1 (d.frMono j.2.sub),j.2.later q l⟩,d.sub,d.size,r,l⟩
theorem TCy.lift(h:TC P h0 N c env H (λx env H=>Q x env H st)):TCy X P h0 N c env H st Q:=
 λhX rd fr ro σ a w g r hj hrd=>Code.wpIn_mono (λe a' w' q=>QkR hX q r.sim.frLt hj) (h rd fr ro σ a w r (hrd▸Qdx))
def SeqY(X:Ctx T)(P:Program)(h0 N:Nat)(c:Code)(Q:YC T):YC T
 |.normal,env,H,st=>TCy X P h0 N c env H st Q
 |.exit id,env,H,st=>Q (.exit id) env H st
 |.ret,env,H,st=>Q .ret env H st
theorem TCy.seq(h:TCy X P h0 N c env H st (SeqY X P h0 N c' Q)):TCy X P h0 N (.seq c c') env H st Q:=by
 intro z y F G σ a w g r hj hrd;refine wpIn_seq (Code.wpIn_mono ?_ (h z y F G σ a w g r hj hrd));rintro e E B ⟨x,b,H',i,d,σ',f,m,j,l,p,n,s,t,u,k⟩;cases e with
 |normal=>
  obtain rfl:x=.normal:=j;exact Code.wpIn_mono (λe a w q=>q.grow s t u k) (l z y f d σ' E B m p n hrd)
 |exit id=>
  obtain rfl:x=.exit id:=j;exact⟨_,b,H',i,d,σ',f,m,rfl,l,p,n,s,t,u,k⟩
 |ret=>
  obtain rfl:x=.ret:=j;exact⟨_,b,H',i,d,σ',f,m,rfl,l,p,n,s,t,u,k⟩
 |_=>exact j.elim
theorem TCy.region{id:Nat}{l:List Oper}(h:WOy X P h0 N l.toArray l env H st Q):TCy X P h0 N (.region id l.toArray false) env H st Q:=
 λhX rd fr ro σ a w g r hj hrd=>wpIn_region_lit (h hX rd fr ro σ a w g r hj hrd)
theorem TCy.cond{x:Operand}{t:Bool}(l:opA env x=.bool t)(j:t=true->TCy X P h0 N c env H st Q)(k:t=false->TCy X P h0 N c' env H st Q):TCy X P h0 N (.cond x c c') env H st Q:=by
 intro i h f b σ a w g r hj hrd;have d:=Qi r x;rw[l]at d;exact wpIn_cond_split d (λe=>j e i h f b σ a w g r hj hrd) (λe=>k e i h f b σ a w g r hj hrd)
theorem WOy.nil{all:Array Oper}(h:Q .normal env H st):WOy X P h0 N all [] env H st Q:=
 λhX rd fr ro σ a w g r hj hrd=>⟨_,env,H,st,ro,σ,fr,g,rfl,h,r,hj,λ_ q=>q,XT _,rfl,Grow.refl _ _ _⟩
end
theorem Qiv{P:Program}{rd:Option Nat}{o:Oper}{a:Act}{K K':Act->World->Prop}{Q Q':Exit->Act->World->Prop}(g:∀a w,K a w->K' a w)(n:∀ch a w,Q (.panic ch) a w->Q' (.panic ch) a w)(j:∀a w,Q .outgrown a w->Q' .outgrown a w)
  {r:Result Next}(h:o.uponIn (WF rd) 0 P a K Q r):o.uponIn (WF rd) 0 P a K' Q' r:=by
 cases r with
 |ok x w=>
  cases x with
  |value v=>exact g _ _ h
  |skip=>exact g _ _ h
  |defer d=>exact g _ _ h
  |enter f b=>
   refine⟨h.1,CallsIn.mono h.2 ?_⟩;intro e m q;cases e with
   |returned v=>grind
   |panicked c=>grind
   |outgrown=>obtain⟨a,w,q⟩:=q;exact⟨a,w,j _ _ q⟩
  |row r b=>exact⟨h.1,RowsIn.mono h.2 λv m q=>g _ _ q⟩
  |round l f i assign k=>
   refine⟨h.1,RoundIn.mono h.2 ?_⟩;intro e m q;cases e with
   |returned v=>grind
   |panicked c=>grind
   |outgrown=>obtain⟨a,w,q⟩:=q;exact⟨a,w,j _ _ q⟩
  |_=>exact h
 |halt x w=>
  cases x with
  |panic v=>exact n _ _ _ h
  |_=>exact h
section
variable {T:Type} {X:Ctx T} {P:Program} {h0 N:Nat} {env:Env} {H:Qd} {st:YSt T} {Q:YC T}
theorem WOy.step{all:Array Oper}{o:Oper}{rest:List Oper}(h:WO P h0 N all [o] env H (λx env' H'=>x=.normal/\WOy X P h0 N all rest env' H' st Q)):WOy X P h0 N all (o::rest) env H st Q:=by
 intro t p m s σ a w g r hj hrd;have L:∀f b,Qbv h0 m s σ w N a.defers (λx env' H'=>x=.normal/\WOy X P h0 N all rest env' H' st Q) .normal f b->wpL P p all (QcX X h0 m s σ w N a.defers Q) rest f b:=by
  rintro f b ⟨x,env',H',d,σ',i,J,⟨_,u⟩,y,n,z,B,F⟩;have l:X.at st g d b/\In g i f.defers:=⟨t.ev hj.1 (n.frMono hj.2.sub),by rw[B];exact hj.2.later r.sim.frLt F⟩;have:=u t p i d σ' f b g y l hrd;refine Yk (λe k w2 q=>?_) _ _ _ this;exact q.grow n.sub n.size z (by grind)
 have j:=h p m s σ a w r (hrd▸Qdx);unfold wpL wpListIn at j⊢;split
 .rename_i E;rw[Vt E]at j;refine⟨j.1,Qiv (λk w2 q=>?_) (λG k w2 q=>?_) (λk w2 q=>?_) j.2⟩
  .unfold wpListIn at q
   grind
  .obtain⟨x,_,_,_,_,_,q,_⟩:=q;exact q.elim
  .obtain⟨x,_,_,_,_,_,q,_⟩:=q;exact q.elim
 simp_all[wpListIn]
theorem WOy.yield{all:Array Oper}{o:Oper}{rest:List Oper}{d:Nat}{x:T}{G rem:List T}(J:X.nx G x rem)(hg:Qt all o env true)(B:o.dst=some d)(hN:Nat.blt d N=true)
  (O:∀fr ro σ a w,Rel fr ro σ H env N a w->∃vs:List Value,LR ro [] w (X.enc x) vs/\(execOp a.eval o).run P w=(Instr.yield X.l vs.toArray).run P w)
  (k:∀b:Bool,WOy X P h0 N all rest (up env d (.bool b)) H (bif b then .on rem else .off rem) Q):WOy X P h0 N all (o::rest) env H (.on G) Q:=by
 intro W L fr ro σ a w g r hj hrd;obtain⟨vs,hv,he⟩:=O fr ro σ a w r;obtain⟨q,hq,E⟩:=hj.1;obtain⟨fn,tmps,assign,V,h1,h2⟩:=W.round G x rem q g ro w vs J E hq (λb z=>⟨r.sim.roLt b z,λy=>r.sim.roFr b z (hj.2.sub b y)⟩) hv;have h3:=he.trans h1;unfold wpL wpListIn;rw[Vt (YW hg r)];refine⟨λ_ _=>trivial,?_⟩;rw[Qcy h3 (λd e=>by cases e)];refine⟨λh=>by simp[WF,Fence.wide]at h,?_⟩;refine RoundIn.mono (F:=WF L) (n:=0) h2 ?_;rintro e i ⟨j,t,p,u,f⟩;obtain⟨Y,ev⟩:=r.sim.round hj.2.sub u;have M:d<N:=by simp_all
 have m:Ext ro σ w ro σ i:=by have:=ev.ext σ [];grind
 have fin:∀b:Bool,X.at (bif b then .on rem else .off rem) j ro i->wpL P L all (QcX X h0 fr ro σ w N a.defers Q) rest (a.put o.dst (.bool b)) i:=by
  intro b f;have hm:Qcf (λb=>fr b\/j b) a.defers i:=by
   refine⟨r.defers.1,λd B=>?_⟩;obtain⟨D,rfl,R,q2⟩:=r.defers.2 d B;exact⟨D,rfl,.inl R,(u.keep D (r.sim.frLt D R) (hj.2.beside D B)).trans q2⟩
  have hi:In j (λb=>fr b\/j b) a.defers:=by
   refine⟨λb q=>.inr q,λD hD q=>?_⟩;rcases u.new D q with t|t
   .exact hj.2.beside D hD t
   .obtain⟨D',e,R,_⟩:=r.defers.2 _ hD
    grind
  have r':Rel (λb=>fr b\/j b) ro σ H (up env d (.bool b)) N {a with tmps:=a.tmps.setIfInBounds d (.bool b)} i:=
   ⟨Y,VR.up (fr:=fr) (λs=>(r.env s).mono m) (by rw[r.size];exact M) rfl,by simpa using r.size,hm⟩
  have:=k b W L _ ro σ _ i j r' ⟨f,hi⟩ hrd;simp only[B,Act.put];refine Yk (λe a2 w2 q=>q.grow (λ_ q=>q) u.size rfl ⟨λ_ q=>.inl q,λb q=>?_,λ_ q=>.inl q⟩) _ _ _ this;rcases q with q|q
  .exact .inl q
  .rcases u.new b q with q|q
   .exact .inl (hj.2.sub b q)
   omega
 rcases f with⟨rfl,f⟩|⟨rfl,f⟩
 .exact fin true ⟨t,p,f⟩
 .exact fin false ⟨t,p,f⟩
end
def EndY{T:Type}:YC T:=λx env H st=>(x=.normal\/x=.ret)/\(st=.on []\/ ∃rem,st=.off rem)
theorem Qha{T:Type}{P:Program}{f:FuncId}{fn:Func}{c:Code}{N:Nat}{a:List A}{H:Qd}{enc:T->List A}{nx:List T->T->List T->Prop}{xs:List T}
  (hf:P.funcs[f]?=some fn)(hb:fn.body=some c)(hN:fn.ntmps=N)(hA:Nat.ble (a.length+1) N=true)(hR:fn.results= #[])
  (h:∀X:Ctx T,X.enc=enc->X.nx=nx->TCy X P H.length N c (Qgd 0 (.fn (.yield X.l) [] []::a)) H (.on xs) EndY):QmS P f a H enc nx xs:=by
 intro X hE hNx hX fr ro0 σ w capv q0 hs hq0 hl hj;have m:LR ro0 σ w (.fn (.yield X.l) [] []::a) (Value.func (.yield X.l) #[] #[]::capv):=⟨_,_,rfl,⟨[],[],rfl,rfl,rfl⟩,hl⟩;have V:=m.length;have W:a.length+1<=N:=by simp_all
 refine(callsIn_wide (n:=0)).1 (callsIn_of_wp_marks hf hb trivial (Code.wpIn_mono ?_ (h X hE hNx hX none fr ro0 σ _ w fr ⟨hs,?_,?_,List.nodup_nil,λd t=>by cases t⟩ ⟨⟨q0,hq0,hj⟩,λ_ q=>q,λD hD=>by cases hD⟩ rfl)))
 .rintro e y O ⟨x,R,H1,st,F,σ1,aa,z,Q,⟨h2,E⟩,j,⟨h4,k⟩,h5,h6,h7,Y⟩;have p:LeavesInM Fence.wide 0 P fn y.tmps (λe W'=>(∃v,e=.returned v)/\ ∃g q',(∀b,fr b->g b)/\((X.J [] q' g W')\/(∃rem,X.Jx rem q' g W'))) y.defers .returning O:=by
   refine Qbj (ro:=F) (fr:=z) (σ:=σ1) (H:=H1) y.defers O j.defers.1 (λd t=>?_) (j.sim.frMono k.sub) (λw2 s2 r=>?_)
   .obtain⟨D,rfl,G,q2⟩:=j.defers.2 d t;exact⟨D,rfl,λq=>j.sim.roFr D q G,k.beside D t,λi x L B M=>(j.sim.own i D x L B M).2.2 G,λi d x L B M=>(j.sim.hid i d x D L B M).fr G,q2⟩
   .have u:=hX.up (hX.ev h4 r) (g':=λb=>z b\/fr b) (λb q=>.inl q) (λb q=>Vf (j.sim.frLt b (q.elim (k.sub b) (Y.sub b))) r.size);obtain⟨q9,_,u⟩:=u;refine⟨.tuple #[],by simp[results,hR,go_sem],⟨_,rfl⟩,λb=>z b\/fr b,q9,λb q=>.inr q,?_⟩;rcases E with rfl|⟨rem,rfl⟩
    .exact .inl u
    .exact .inr ⟨rem,u⟩
  cases e with
  |normal=>exact p
  |ret=>exact p
  |exit id=>
   obtain rfl:x=.exit id:=Q
   grind
  |_=>exact Q.elim
 .intro s;have:=QeT (i:=0) [] rfl m (Array.replicate (fn.ntmps-(Value.func (.yield X.l) #[] #[]::capv).toArray.size) undef) s
  grind
 grind
section
variable {T:Type} {X:Ctx T} {P:Program} {h0 N:Nat} {c c':Code} {env:Env} {H:Qd} {st:YSt T} {Q Q':YC T}
theorem TCy.mono(h:TCy X P h0 N c env H st Q)(s:∀x env H st,Q x env H st->Q' x env H st):TCy X P h0 N c env H st Q':=by
 intro m q l k σ a w g r hj hrd;refine Code.wpIn_mono ?_ (h m q l k σ a w g r hj hrd);rintro e u y ⟨x,b,H',d,f,σ',i,j,n,t,p⟩;exact⟨x,b,H',d,f,σ',i,j,n,s _ _ _ _ t,p⟩
theorem TCy.skip(h:Q .normal env H st):TCy X P h0 N .skip env H st Q:=TCy.lift (TC.skip h)
theorem TCy.ret(h:Q .ret env H st):TCy X P h0 N .ret env H st Q:=TCy.lift (TC.ret h)
theorem TCy.exit{id:Nat}(h:Q (.exit id) env H st):TCy X P h0 N (.exit id) env H st Q:=TCy.lift (TC.exit h)
def BloY(id:Nat)(Q:YC T):YC T
 |.normal,env,H,st=>Q .normal env H st
 |.exit id',env,H,st=>bif Nat.beq id' id then Q .normal env H st else Q (.exit id') env H st
 |.ret,env,H,st=>Q .ret env H st
theorem TCy.block{id:Nat}(h:TCy X P h0 N c env H st (BloY id Q)):TCy X P h0 N (.block id c) env H st Q:=by
 intro t u s p σ a w g r hj hrd;refine wpIn_block (Code.wpIn_mono ?_ (h t u s p σ a w g r hj hrd));rintro e z B ⟨x,b,H',f,i,σ',j,l,m,k,n⟩;cases e with
 |normal=>
  obtain rfl:x=.normal:=m;exact⟨_,b,H',f,i,σ',j,l,rfl,k,n⟩
 |exit d=>
  obtain rfl:x=.exit d:=m;show Exit.inBlock id _ _ _ _;unfold Exit.inBlock;simp only[BloY]at k;by_cases q:d=id
  .subst q;rw[VF,Vp]at k;simp only[if_true];exact⟨.normal,b,H',f,i,σ',j,l,rfl,k,n⟩
  .have y:Nat.beq d id=false:=by
    cases e:Nat.beq d id with
    |false=>rfl
    |true=>simp_all
   rw[y,Vq]at k;simp only[q,if_false];exact⟨.exit d,b,H',f,i,σ',j,l,rfl,k,n⟩
 |ret=>
  obtain rfl:x=.ret:=m;exact⟨_,b,H',f,i,σ',j,l,rfl,k,n⟩
 |_=>exact m.elim
end
section
variable {T:Type} {X:Ctx T} {P:Program} {h0 N:Nat} {c:Code} {env:Env} {H:Qd} {st:YSt T} {Q:YC T}
def Qk1(I:Env->Qd->YSt T->Prop)(Q:YC T):YC T
 |.normal,env,H,st=>I env H st
 |.exit id,env,H,st=>Q (.exit id) env H st
 |.ret,env,H,st=>Q .ret env H st
theorem QkL{I:Nat->Env->Qd->YSt T->Prop}(body:∀n env H st,I n env H st->TCy X P h0 N c env H st (Qk1 (λenv H st=>∃n',n'<n/\I n' env H st) Q)){n:Nat}(F:I n env H st):TCy X P h0 N (.loop c) env H st Q:=by
 intro hX W y z σ a w g r hj hrd b k cs hro hb hr;have G:∀m n env H st fr1 ro1 σ1 a1 w1 g1,n<m->I n env H st->Rel fr1 ro1 σ1 H env N a1 w1->(∀b,z b->ro1 b)->w.heap.size<=w1.heap.size->σ1.take h0=σ.take h0->Grow y w a.defers fr1 a1.defers->X.at st g1 ro1 w1/\In g1 fr1 a1.defers->
   ∃e i h,QcX X h0 y z σ w N a.defers Q e i h/\ArrivesIn (Machine.fenced P (WF W)) P (lone (b.atR a1 (.code c::.inLoop c::k)) cs w1) b k cs e i h:=by
  intro m
  induction m with
  |zero=>omega
  |succ m ih=>
   intro n env H st fr1 ro1 σ1 a1 w1 g1 hn F r1 s1 z1 t1 gr1 j1;obtain⟨e,i,h,J,d⟩:=body n env H st F hX W fr1 ro1 σ1 a1 w1 g1 r1 j1 hrd b (.inLoop c::k) cs hro hb hr;obtain⟨x,f,H',l,s,σ',u,M,B,t,q3,O,q5,V,Y,q8⟩:=J;have L:=λb q=>q5 b (s1 b q);have p:=gr1.trans z1 q8;have R:∀x,Q x f H' l->ExR e x->QcX X h0 y z σ w N a.defers Q e i h:=λx q q'=>⟨x,f,H',l,s,σ',u,M,q',q,q3,O,L,XV z1 V,Y.trans t1,p⟩;cases e with
   |normal=>
    obtain rfl:x=.normal:=B;obtain⟨n',aa,t⟩:=t;obtain⟨e2,a2,w2,E,j⟩:=ih n' f H' l u s σ' i h M (by omega) t q3 L (XV z1 V) (Y.trans t1) p O;exact⟨e2,a2,w2,E,.of_steps (StepsIn.trans d (.one (fenced_calm hb hr rfl) stepR_inLoop)) j⟩
   |exit id=>
    obtain rfl:x=.exit id:=B;exact⟨_,i,h,R _ t rfl,.pass (x:=.inLoop c) rfl (λ_ _=>.inl (by simp)) d⟩
   |ret=>
    obtain rfl:x=.ret:=B;exact⟨_,i,h,R _ t rfl,.pass (x:=.inLoop c) rfl (λ_ _=>.inl (by simp)) d⟩
   |_=>exact B.elim
 obtain⟨e,i,h,J,d⟩:=G (n+1) n env H st y z σ a w g (Xn _) F r (λ_ q=>q) (XT _) rfl (Grow.refl _ _ _) hj;exact⟨e,i,h,J,.of_steps (.one (fenced_calm hb hr rfl) stepR_loop) d⟩
end
theorem Sim.part{fr ro:Nat->Prop}{σ:Sig}{H:Qd}{w:World}(s0:Sim fr ro σ H w){π:List Nat}{Hc:Qd}(W:π.map (λp=>H[p]?)=(Hc.map (QQ (rho π H.length))).map some)(hπ:π.Nodup):
  Sim (λb=>fr b\/(∃i x,σ[i]?=some (some b)/\H[i]?=some x/\x.live=true/\i∉π)\/ ∃i x d,σ[i]?=some (some d)/\H[i]?=some x/\Hid w x d b/\i∉π) ro (Yh σ π) Hc w/\ ∀j:Nat,σ[rho π H.length j]?=(Yh σ π)[j]? :=by
 have hp:∀p∈π,p<H.length:=λp q=>Y2 W q;have hσl:=s0.len;have h:∀(j p:Nat),π[j]?=some p->H[p]?=(Hc[j]?).map (QQ (rho π H.length)):=by
  intro j p m;have:=congrArg (λl=>l[j]?) W
  grind
 have O:π.length=Hc.length:=by simpa using congrArg List.length W
 have hσc:∀j:Nat,σ[rho π H.length j]?=(Yh σ π)[j]? :=by
  intro j;have:=Qea (τ:=[]) hσl hp j
  grind
 have hπj:∀(j b:Nat),(Yh σ π)[j]?=some (some b)->∃p,π[j]?=some p/\σ[p]?=some (some b):=by
  intro j b m;simp only[Yh,Xo]at m
  grind
 refine⟨?_,hσc⟩
 .refine⟨by simp[Yh,O],s0.roOk,?_,?_,?_,?_,?_,?_⟩
  .rintro b (N|⟨i,x,a,g,f,M⟩|⟨i,x,d,a,g,f,M⟩)
   .exact s0.frLt b N
   .exact(s0.own i b x a g f).1
   .exact(s0.hid i d x b a g f).lt
  .rintro b N (L|⟨i,x,a,g,f,M⟩|⟨i,x,d,a,g,f,M⟩)
   .exact s0.roFr b N L
   .exact(s0.own i b x a g f).2.1 N
   .exact(s0.hid i d x b a g f).ro N
  .intro j b x a g f;obtain⟨p,e,z⟩:=hπj j b a;have B:H[p]?=some (QQ (rho π H.length) x):=by grind
   obtain⟨o1,o2,o3⟩:=s0.own p b _ z B (by rw[QF];exact f);refine⟨o1,o2,?_⟩;rintro(L|⟨i,y,y1,y2,E,P⟩|⟨i,y,d,y1,y2,E,P⟩)
   .exact o3 L
   .have:=s0.inj i p b _ _ y1 z y2 B E (by rw[QF];exact f)
    grind
   .exact(s0.hid i d y b y1 y2 E).ne p b _ z B (by rw[QF];exact f) rfl
  .intro i j b x y a g f M q5 q6;obtain⟨p,e,z⟩:=hπj i b a;obtain⟨r,n,Q⟩:=hπj j b g;have B:H[p]?=some (QQ (rho π H.length) x):=by rw[h i p e,f];rfl
   have V:H[r]?=some (QQ (rho π H.length) y):=by rw[h j r n,M];rfl
   have:=s0.inj p r b _ _ z Q B V (by rw[QF];exact q5) (by rw[QF];exact q6);subst this;have F:i<π.length:=by
    rcases VC i π.length with q|q
    .exact q
    .rw[XO q]at e;simp at e
   have m:j<π.length:=by
    rcases VC j π.length with q|q
    .exact q
    .rw[XO q]at n;simp at n
   rw[XK F]at e;rw[XK m]at n;have t:=(XZ e).trans (XZ n).symm;rcases Nat.lt_trichotomy i j with q|q|q
   .exact(VE.1 hπ i j F m q t).elim
   .exact q
   .exact(VE.1 hπ j i m F q t.symm).elim
  .intro j s x a g;have m:j<π.length:=by
    rcases VC j π.length with q|q
    .exact q
    .rw[XO (by simpa[Yh]using q)]at a;simp at a
   have e:π[j]?=some π[j]:=XK m;have B:H[π[j]]?=some (QQ (rho π H.length) x):=by rw[h j _ e,g];rfl
   have z:σ[π[j]]?=some s:=by
    have:=hσc j;rw[a]at this;simpa[rho,e]using this
   exact(Qhn hσc).1 (s0.blk _ s _ z B)
  .intro j b x c a g f;obtain⟨p,e,z⟩:=hπj j b a;have B:H[p]?=some (QQ (rho π H.length) x):=by rw[h j p e,g];rfl
   have k:=s0.hid p b _ c z B ((Qak _ _ _ _ _).2 f);refine⟨k.lt,k.ro,?_,?_,?_⟩
   .rintro(L|⟨i,y,y1,y2,E,P⟩|⟨i,y,d,y1,y2,E,P⟩)
    .exact k.fr L
    .exact k.ne i c y y1 y2 E rfl
    .obtain⟨rfl,rfl⟩:=k.one i d y y1 y2 E;exact P (VH e)
   .intro u J y R T Y;obtain⟨r,G,X⟩:=hπj u J R;exact k.ne r J _ X (show H[r]?=some (QQ (rho π H.length) y)by rw[h u r G,T];rfl) (by rw[QF];exact Y)
   .intro u J y R T Y;obtain⟨r,G,X⟩:=hπj u J R;obtain⟨z4,z5⟩:=k.one r J _ X (show H[r]?=some (QQ (rho π H.length) y)by rw[h u r G,T];rfl) ((Qak _ _ _ _ _).2 Y);subst z5;have F:u<π.length:=(XL.1 G).1;have m:j<π.length:=(XL.1 e).1;rw[XK F]at G;rw[XK m]at e;have t:=(XZ G).trans (XZ e).symm;refine⟨z4,?_⟩;rcases Nat.lt_trichotomy u j with q|q|q
    .exact(VE.1 hπ u j F m q t).elim
    .exact q
    .exact(VE.1 hπ j u m F q t.symm).elim
theorem Sim.frames{fr fr' ro:Nat->Prop}{σ:Sig}{H:Qd}{w:World}(s:Sim fr ro σ H w)(lt:∀b,fr' b->b<w.heap.size)(hro:∀b,ro b->¬fr' b)(own:∀(i b:Nat) (x:Blk),σ[i]?=some (some b)->H[i]?=some x->x.live=true->¬fr' b)
  (hd:∀(i b:Nat) (x:Blk) (c:Nat),σ[i]?=some (some b)->H[i]?=some x->Hid w x b c->¬fr' c):Sim fr' ro σ H w:=
 ⟨s.len,s.roOk,lt,hro,λi b x q1 q2 q3=>⟨(s.own i b x q1 q2 q3).1,(s.own i b x q1 q2 q3).2.1,own i b x q1 q2 q3⟩,s.inj,s.blk,
  s.hidTo (· = ·) Q2 (XT _) (by simp) (by grind) (by grind)⟩
def QjE(H:Qd)(p:Nat):Qd:=match H[p]? with
 |some x=>bif x.holds then H.set p .dead else H
 |none=>H
def QdN:Qd->List Nat->Qd
 |H,[]=>H
 |H,p::π=>QdN (QjE H p) π
theorem QdO(H:Qd)(p:Nat):(QjE H p=H/\ ∀x,H[p]?=some x->x.holds=false)\/QjE H p=H.set p .dead:=by
 unfold QjE
 grind
theorem QeU:∀(π:List Nat) (H:Qd) (i:Nat) (x:Blk),(QdN H π)[i]?=some x->x=.dead\/(H[i]?=some x/\(x.holds=true->i∉π))
 |[],H,i,x,h=>.inr ⟨h,λ_=>by simp⟩
 |p::π,H,i,x,h=>by
  rcases QeU π _ i x h with h|⟨h1,h2⟩
  .exact .inl h
  .rcases QdO H p with⟨e,hl⟩|e
   .grind
   grind
theorem Qdw{fr ro:Nat->Prop}{σ:Sig}{w:World}:∀(π:List Nat) {H:Qd} (s:Sim fr ro σ H w),Sim fr ro σ (QdN H π) w
 |[],_,s=>s
 |p::π,H,s=>by
  rw[QdN];rcases QdO H p with h|h
  .rw[h.1];exact Qdw π s
  .rw[h];exact Qdw π (s.kill p)
theorem Sim.put{fr ro:Nat->Prop}{σ:Sig}{H:Qd}{w:World}(s:Sim fr ro σ H w){b:Nat}{obj:Obj}(l:fr b)(t:w.shape? b=none):
  Sim fr ro σ H (w.putObj b obj)/\Qh (λc=>c≠b) ro w ro (w.putObj b obj):=by
 have a:∀c,c≠b->(w.putObj b obj).heap[c]?=w.heap[c]? :=λc u=>World.putObj_heap_other u;have k:(w.putObj b obj).heap.size=w.heap.size:=by simp
 have r:∀c,ro c->c≠b:=λc q e=>s.roFr c q (e▸l);have ev:Qh (λc=>c≠b) ro w ro (w.putObj b obj):=by
  refine⟨λ_ q=>q,(by grind),λc q=>a c q,by omega,λc x q=>?_,rfl,rfl,rfl,XT _⟩
  grind[World.shape?]
 have f:Ext ro σ w ro σ (w.putObj b obj):=by have:=ev.ext σ [];grind
 refine⟨⟨s.len,s.roOk.to (λ_ q=>q) ev.keepRo (λc q=>by rw[k];exact s.roLt c q),λc q=>by rw[k];exact s.frLt c q,s.roFr,λi c x g h B=>?_,s.inj,λi y x g h=>?_,
  s.hidTo (· = ·) Q2 (by omega) (by simp) (by simp) λj d y m p G=>.inl ⟨j,y,rfl,m,p,id,λc q=>s.hidKeep m p (λz=>a d (λe=>(s.own j d y m p z).2.2 (e▸l))) ev.keepRo q⟩⟩,ev⟩
 .obtain⟨F,J,E⟩:=s.own i c x g h B
  grind
 .refine(s.blk i y x g h).keep f ?_ ?_
  .rintro c rfl n;exact a c (λe=>(s.own i c x g h n).2.2 (e▸l))
  .rintro d c rfl n;exact a c (λe=>(s.hid i d x c g h n).fr (e▸l))
theorem Qbi{w:World}{l:Nat}{r:Loop}(h:w.heap[l]?=some (.loop r)):w.shape? l=none:=by
 unfold World.shape?;rw[h]
structure Fix where
 fr:Nat->Prop
 ro:Nat->Prop
 σ:Sig
 w:World
 h1:Nat
 env:Env
 tmps:Array Value
 ds1:List Deferred
 l:Nat
 rc:LoopState->Option Code->Loop
 fr1:Nat->Prop
structure Fix.Ok (D:Fix):Prop where
 sub:∀b,D.fr b->D.fr1 b
 l1:D.fr1 D.l
 lf:¬D.fr D.l
 len:D.σ.length=D.h1
structure RJ (D:Fix) (ro1:Nat->Prop) (σ1:Sig) (H:Qd) (st:LoopState) (pe:Option Code) (q g:Nat->Prop) (W:World):Prop where
 sim:Sim D.fr1 ro1 σ1 H W
 env:∀t,VR ro1 D.σ W (lk D.env t) (D.tmps.getD t undef)
 sig:σ1.take D.h1=D.σ
 ev:Qh D.fr D.ro D.w ro1 W
 marks:Qcf D.fr1 D.ds1 W
 rc:W.heap[D.l]?=some (.loop (D.rc st pe))
 roG:∀b,ro1 b->q b\/g b
 frG:∀b,D.fr1 b->g b
 own:∀(i b:Nat) (x:Blk),σ1[i]?=some (some b)->H[i]?=some x->x.live=true->g b
 hidG:∀(i b:Nat) (x:Blk) (c:Nat),σ1[i]?=some (some b)->H[i]?=some x->Hid W x b c->g c
 lt:∀b,g b->b<W.heap.size
theorem QdF{σ σ1:Sig}{a:Nat}(h:σ1.take a=σ){i b:Nat}(q:σ[i]?=some (some b)):σ1[i]?=some (some b):=by
 grind
section
variable {D:Fix} {ro1:Nat->Prop} {σ1:Sig} {H:Qd} {st:LoopState} {pe:Option Code} {qR g:Nat->Prop} {W:World}
theorem RJ.step(r:D.Ok)(j:RJ D ro1 σ1 H st pe qR g W){ro':Nat->Prop}{W':World}(e:Qh g qR W ro' W'):RJ D ro1 σ1 H st pe qR g W':=by
 have a:∀b,ro1 b->W'.heap[b]?=W.heap[b]? :=λb q=>(j.roG b q).elim (e.keepRo b) (e.keepFr b);have ev:Qh D.fr1 ro1 W ro1 W':=⟨λ_ q=>q,a,λb q=>e.keepFr b (j.frG b q),e.size,e.shape,e.os,e.tape,e.output,e.drawn⟩;have k:∀σ,Ext ro1 σ W ro1 σ W':=λ σ=>by have:=ev.ext σ [];grind
 refine⟨⟨j.sim.len,j.sim.roOk.to (λ_ q=>q) a (λb q=>Vf (j.sim.roLt b q) e.size),λb q=>Vf (j.sim.frLt b q) e.size,j.sim.roFr,λi b x f h p=>?_,j.sim.inj,λi z x f h=>?_,
  j.sim.hidTo (· = ·) Q2 e.size (by simp) (by simp) λi d y l n w=>.inl ⟨i,y,rfl,l,n,id,λc q=>j.sim.hidKeep l n (λz=>e.keepFr d (j.own i d y l n z)) a q⟩⟩,
  λt=>(j.env t).mono (k _),j.sig,j.ev.trans (ev.frMono r.sub),j.marks.keep ev,(ev.keepFr _ r.l1).trans j.rc,j.roG,j.frG,j.own,λi b x c f h p=>j.hidG i b x c f h (j.sim.hidKeep f h (λz=>e.keepFr b (j.own i b x f h z)) a p),λb q=>Vf (j.lt b q) e.size⟩
 .obtain⟨s,u⟩:=j.sim.own i b x f h p;exact⟨Vf s e.size,u⟩
 .refine(j.sim.blk i z x f h).keep (k _) ?_ ?_
  .rintro b rfl m;exact e.keepFr b (j.own i b x f h m)
  .rintro b c rfl m;exact e.keepFr c (j.hidG i b x c f h m)
theorem RJ.up{g':Nat->Prop}(j:RJ D ro1 σ1 H st pe qR g W)(h:∀b,g b->g' b)(hl:∀b,g' b->b<W.heap.size):RJ D ro1 σ1 H st pe qR g' W:=
 {j with roG:=λb q=>(j.roG b q).imp id (h b),frG:=λb q=>h b (j.frG b q),own:=λi b x q1 q2 q3=>h b (j.own i b x q1 q2 q3),hidG:=λi b x c q1 q2 q3=>h c (j.hidG i b x c q1 q2 q3),lt:=hl}
def FrB(D:Fix)(ro1 g:Nat->Prop)(W:World):Nat->Prop:=λb=>(D.fr1 b\/(¬g b/\ ¬ro1 b))/\b<W.heap.size
theorem RJ.simB(j:RJ D ro1 σ1 H st pe qR g W):Sim (FrB D ro1 g W) ro1 σ1 H W:=by
 refine j.sim.frames (λb q=>q.2) (λb q r=>?_) (λi b x d a e r=>?_) (λi b x c d a e r=>r.1.elim (j.sim.hid i b x c d a e).fr λr=>r.1 (j.hidG i b x c d a e))
 .rcases r.1 with r|r
  .exact j.sim.roFr b q r
  grind
 .rcases r.1 with r|r
  .exact(j.sim.own i b x d a e).2.2 r
  .exact r.1 (j.own i b x d a e)
theorem RJ.fin(F:D.Ok)(j:RJ D ro1 σ1 H st pe qR g W){y ro':Nat->Prop}{σ':Sig}{H':Qd}{W':World}{st':LoopState}{pe':Option Code}
  (ev:Qh (λb=>FrB D ro1 g W b/\b≠D.l) ro1 W ro' W')(s:Sim y ro' σ' H' W')(u:∀b,FrB D ro1 g W b->y b)(hσ:σ'.take D.h1=σ1.take D.h1)(Q:W'.heap[D.l]?=some (.loop (D.rc st' pe'))):
  RJ D ro' σ' H' st' pe' qR (λb=>g b\/(W.heap.size<=b/\b<W'.heap.size)) W'/\Qfp g (λb=>g b\/(W.heap.size<=b/\b<W'.heap.size)) W W':=by
 have h:∀b,D.fr1 b->FrB D ro1 g W b:=λb q=>⟨.inl q,j.sim.frLt b q⟩;have R:W.shape? D.l=none:=Qbi j.rc;have E:Qh D.fr ro1 W ro' W':=ev.frMono λb q=>⟨h b (F.sub b q),λe=>F.lf (e▸q)⟩;have w:Ext ro1 D.σ W ro' D.σ W':=ev.ext0 D.σ;have G:∀b,b<W.heap.size->b<W'.heap.size:=λb q=>Vf q ev.size;have m:∀b,b<W.heap.size->¬FrB D ro1 g W b->g b\/ro1 b:=by
  intro b f M;by_cases n:g b
  .exact .inl n
  .by_cases a:ro1 b
   .exact .inr a
   .exact absurd ⟨.inr ⟨n,a⟩,f⟩ M
 refine⟨⟨s.frames (λb q=>G b (j.sim.frLt b q)) (λb q r=>s.roFr b q (u b (h b r))) (λi b x n a p r=>(s.own i b x n a p).2.2 (u b (h b r))) (λi b x c n a p r=>(s.hid i b x c n a p).fr (u c (h c r))),
  λt=>(j.env t).mono w,hσ.trans j.sig,j.ev.trans E,⟨j.marks.1,λd N=>?_⟩,Q,λb q=>?_,λb q=>.inl (j.frG b q),λi b x n a p=>?_,λi b x c n a p=>?_,λb q=>q.elim (λq=>G b (j.lt b q)) (λq=>q.2)⟩,
  ⟨λb q=>.inl q,(by grind),λb q=>q.elim (λq=>G b (j.lt b q)) (λq=>q.2),(by omega),λb n a=>?_,ev.size,ev.shape,ev.os,ev.tape,ev.output,ev.drawn⟩⟩
 .obtain⟨B,O,J,z⟩:=j.marks.2 d N;refine⟨B,O,J,(ev.keepFr B ⟨h B J,λe=>?_⟩).trans z⟩;subst e;rw[j.rc]at z;cases z
 .rcases VC b W.heap.size with f|f
  .rcases m b f (λr=>s.roFr b q (u b r))with r|r
   .grind
   .exact(j.roG b r).imp id .inl
  .exact .inr (.inr ⟨f,s.roLt b q⟩)
 .obtain⟨T,L,P⟩:=s.own i b x n a p;rcases VC b W.heap.size with f|f
  .rcases m b f (λr=>P (u b r))with r|r
   .exact .inl r
   .exact absurd (ev.sub b r) L
  omega
 .have k:=s.hid i b x c n a p;rcases VC c W.heap.size with f|f
  .rcases m c f (λr=>k.fr (u c r))with r|r
   .exact .inl r
   .exact absurd (ev.sub c r) k.ro
  .exact .inr ⟨f,k.lt⟩
 .by_cases r:ro1 b
  .exact ev.keepRo b r
  .exact ev.keepFr b ⟨(by grind),λe=>a (j.frG b (e▸F.l1))⟩
end
theorem Sim.roAdd{fr ro a:Nat->Prop}{σ:Sig}{H:Qd}{w:World}(s:Sim fr ro σ H w)(g:∀b,a b->b<w.heap.size)(e:∀b,a b->¬fr b)(j:∀(i b:Nat) (x:Blk),σ[i]?=some (some b)->H[i]?=some x->x.live=true->¬a b)
  (h:∀(i b:Nat) (x:Blk) (c:Nat),σ[i]?=some (some b)->H[i]?=some x->Hid w x b c->¬a c):Sim fr (λb=>ro b\/a b) σ H w:=by
 have ext:Ext ro σ w (λb=>ro b\/a b) σ w:=⟨λ_ q=>.inl q,λ_ _=>rfl,λ_ _ q=>q,λ_ _ q=>q⟩;refine⟨s.len,s.roOk.to (λ_ q=>.inl q) (λ_ _=>rfl) (λb q=>q.elim (s.roLt b) (g b)),s.frLt,λb q=>q.elim (s.roFr b) (e b),λi b x d f k=>?_,s.inj,λi y x d f=>(s.blk i y x d f).keep ext (λ_ _ _=>rfl) (λ_ _ _ _=>rfl),
  s.hidTo (· = ·) Q2 (XT _) (by grind) (by simp) (by grind)⟩
 obtain⟨m,n,l⟩:=s.own i b x d f k
 grind
theorem RJ.roAdd{D:Fix}{ro1:Nat->Prop}{σ1:Sig}{H:Qd}{st:LoopState}{pe:Option Code}{qR ri g:Nat->Prop}{W:World}(j:RJ D ro1 σ1 H st pe qR g W)(hq:∀b,qR b->ri b)(hI:∀b,ri b->b<W.heap.size/\ ¬g b):RJ D (λb=>ro1 b\/ri b) σ1 H st pe ri g W:=
 {j with
  sim:=j.sim.roAdd (λb q=>(hI b q).1) (λb q z=>(hI b q).2 (j.frG b z)) (λi b x q1 q2 q3 z=>(hI b z).2 (j.own i b x q1 q2 q3)) (λi b x c q1 q2 q3 z=>(hI c z).2 (j.hidG i b x c q1 q2 q3))
  env:=λt=>(j.env t).mono ⟨λ_ q=>.inl q,λ_ _=>rfl,λ_ _ q=>q,λ_ _ q=>q⟩
  ev:=j.ev.trans (YA λ_ q=>.inl q)
  roG:=λb q=>q.elim (λq=>(j.roG b q).imp (hq b) id) .inl}
def Qlg:List Nat->List A->Env->Env
 |p::ps,a::zs,env=>Qlg ps zs (up env p a)
 |_,_,env=>env
def QiA:List Nat->List Value->Array Value->Array Value
 |p::ps,v::vs,t=>QiA ps vs (t.setIfInBounds p v)
 |_,_,t=>t
theorem QfR:∀(ps:List Nat) (vs:List Value) (t:Array Value),(QiA ps vs t).size=t.size
 |[],_,_=>rfl
 |_::_,[],_=>rfl
 |p::ps,v::vs,t=>by simp[QiA,QfR ps]
theorem QfS:∀(ps:List Nat) (vs:List Value) (t:Array Value),(ps.toArray.zip vs.toArray).foldl (λt (p,v)=>t.setIfInBounds p v) t=QiA ps vs t
 |[],vs,t=>by rw[<- Array.foldl_toList,Array.toList_zip];rfl
 |p::ps,[],t=>by rw[<- Array.foldl_toList,Array.toList_zip];rfl
 |p::ps,v::vs,t=>by
  have:=QfS ps vs (t.setIfInBounds p v);rw[<- Array.foldl_toList,Array.toList_zip]at this⊢;exact this
theorem Qjp{ro:Nat->Prop}{σ:Sig}{w:World}:∀(ps:List Nat) (zs:List A) (vs:List Value) (env:Env) (t:Array Value),LR ro σ w zs vs->(∀p∈ps,p<t.size)->(∀s,VR ro σ w (lk env s) (t.getD s undef))->
  ∀s,VR ro σ w (lk (Qlg ps zs env) s) ((QiA ps vs t).getD s undef)
 |[],_,_,_,_,_,_,h=>h
 |p::ps,[],vs,_,_,hv,_,h=>by
  obtain rfl:vs=[]:=hv;exact h
 |p::ps,a::zs,vs,env,t,hv,hp,h=>by
  obtain⟨v,vs',rfl,h0,hv'⟩:=hv;have h1:=VR.up (fr:=λ_=>False) (a:={tmps:=t,defers:=[]}) h (hp p (by simp)) h0;exact Qjp ps zs vs' (up env p a) (t.setIfInBounds p v) hv' (λq hq=>by grind) h1
def QmT(h1:Nat)(env:Env)(Q:QA)(K:Qd->Prop):QA
 |.normal,env',H'=>∃H2,Le h1 env' H' [] H2/\K H2
 |.exit id,env',H'=>∃H2,Le h1 env' H' [] H2/\Q (.exit id) env H2
 |.ret,env',H'=>∃H2,Le h1 env' H' [] H2/\Q .ret env H2
def Jump(Q:QA)(env:Env)(c:Code)(H:Qd):Prop:=(∃id,c=.exit id/\Q (.exit id) env H)\/(c=.ret/\Q .ret env H)
section
variable {D:Fix} {ro0:Nat->Prop} {σ1:Sig} {H:Qd} {qR ri g:Nat->Prop} {W:World} {P:Program} {N:Nat} {Q:QA} {K:Qd->Prop}
theorem RJ.round{fn:FuncId}{ps:List Nat}{assign body:Code}{df:Nat}{cs:List A}{vs:List Value}(hD:D.Ok)(M:D.rc=λst pe=>{state:=st,pending:=pe,fn:=fn,tmps:=D.tmps,params:=ps.toArray,assign:=assign,body:=body,defers:=df})
  (hN:D.tmps.size=N)(al:∀p∈ps,p<N)(aj:cs.length=ps.length)(hq:∀b,qR b->ri b)(hI:∀b,ri b->b<W.heap.size/\ ¬g b)(L:LR ri [] W cs vs)(j0:RJ D ro0 σ1 H .ready none qR g W)
  (h:TC P D.h1 N assign (Qlg ps cs D.env) H λe env1 H1=>e=.normal/\TC P D.h1 N body env1 H1 (QmT D.h1 D.env Q K)):
  YieldAt Fence.wide 0 P D.l vs.toArray W λe W'=>∃g',Qfp g g' W W'/\((e=.returned (.bool true)/\ ∃H2 ro2 σ2,K H2/\RJ D ro2 σ2 H2 .ready none ri g' W')\/
   (e=.returned (.bool false)/\ ∃H2 c ro2 σ2,Jump Q D.env c H2/\RJ D ro2 σ2 H2 .done (some c) ri g' W')):=by
 have ak:vs.length=cs.length:=L.length;have j:=j0.roAdd hq hI;have t:LR (λb=>ro0 b\/ri b) σ1 W cs vs:=L.mono ⟨λ_ q=>.inr q,λ_ _=>rfl,λ_ _ q=>q,λi b q=>by simp at q⟩;clear j0;generalize(λb=>ro0 b\/ri b)=ro1 at j t;have ae:∀b,D.fr1 b->FrB D ro1 g W b:=λb q=>⟨.inl q,j.sim.frLt b q⟩;have u:=ae _ hD.l1;have ab:=j.rc;have hy:=run_yield (P:=P) (r:=D.rc .ready none) (args:=vs.toArray) ab (by grind);refine⟨fn,QiA ps vs D.tmps,assign,body,?_,?_⟩
 .grind[QfS]
 .refine roundIn_of_wpIn trivial ?_;show Code.wpIn (WF (some D.l)) 0 P _ _ _ _;have F:∀s,VR ro1 σ1 W (lk D.env s) (D.tmps.getD s undef):=λs=>(j.env s).mono ⟨λ_ q=>q,λ_ _=>rfl,λ_ _ q=>q,λi b q=>QdF j.sig q⟩;have ac:Qdy (some D.l) (FrB D ro1 g W) W:=λl e=>by grind
  have w1:=h (some D.l) (FrB D ro1 g W) ro1 σ1 {tmps:=QiA ps vs D.tmps,defers:=[]} W ⟨j.simB,Qjp ps cs vs D.env D.tmps t (by grind) F,by simp[QfR,hN],List.nodup_nil,λd hd=>by cases hd⟩ ac;refine Code.wpIn_mono ?_ w1;rintro e a1 w1 ⟨x1,env1,H1,ro2,σ2,n,h1,⟨rfl,h2⟩,V,h4,h5,h6⟩;cases e with
  |normal=>
   have X:w1.heap[D.l]?=some (.loop (D.rc .ready none)):=(h4.keepFr _ u).trans ab;refine⟨_,run_beginRound X (by rw[M]),?_⟩;obtain⟨s2,z⟩:=V.sim.put (obj:=.loop {D.rc .ready none with state:=.busy}) (h6.sub _ u) (Qbi X);have Y:D.l<w1.heap.size:=by grind
   have af:(w1.putObj D.l (.loop {D.rc .ready none with state:=.busy})).heap[D.l]?=some (.loop {D.rc .ready none with state:=.busy}):=World.putObj_heap_same Y;generalize hw2:w1.putObj D.l (.loop {D.rc .ready none with state:=.busy})=w2 at*;have ag:Qcf n a1.defers w2:=by
    refine⟨V.defers.1,λd hd=>?_⟩;obtain⟨B,e1,e2,e3⟩:=V.defers.2 d hd;refine⟨B,e1,e2,(z.keepFr B (λe=>?_)).trans e3⟩
    grind
   have r2:Rel n ro2 σ2 H1 env1 N a1 w2:=⟨s2,λs=>(V.env s).mono (z.ext0 σ2),V.size,ag⟩;have R:n D.l:=h6.sub _ u;refine Code.wpIn_mono ?_ (h2 (some D.l) n ro2 σ2 a1 w2 r2 (λl e=>by grind));rintro e a3 w3 ⟨x3,O,H3,x,σ3,aa,g1,g2,g3,g4,g5,g6⟩;have m:w3.heap[D.l]?=some (.loop {D.rc .ready none with state:=.busy}):=(g4.keepFr _ R).trans af;have y:∀(H2:Qd) (jump:Option Code),Le D.h1 O H3 [] H2->∃v k,(Instr.endRound D.l jump).run P w3=.ok v k/\v=.bool jump.isNone/\ ∃g',Qfp g g' W k/\ ∃a σ4,RJ D a σ4 H2 (if jump.isNone then .ready else .done) jump ri g' k:=by
    intro H2 jump f;obtain⟨a,σ4,r4,s4,t4⟩:=f aa x σ3 N a3 w3 g3;refine⟨_,_,run_endRound jump m,rfl,?_⟩;have ah:aa D.l:=g6.sub _ R;obtain⟨s5,ai⟩:=r4.sim.put (obj:=.loop {{D.rc .ready none with state:=.busy}with state:=if jump.isNone then .ready else .done,pending:=jump}) ah (Qbi m);have T:D.l<w3.heap.size:=by rw[Vc]at m;exact m.1
    have ad:=World.putObj_heap_same (w:=w3) (r:=D.l) (o:=.loop {{D.rc .ready none with state:=.busy}with state:=if jump.isNone then .ready else .done,pending:=jump}) T;have e1:Qh (λb=>FrB D ro1 g W b/\b≠D.l) ro1 W ro2 w1:=h4.frMono λb q=>q.1;have e2:Qh (λb=>FrB D ro1 g W b/\b≠D.l) ro2 w1 ro2 w2:=z.frMono λb q=>q.2;have e3:Qh (λb=>FrB D ro1 g W b/\b≠D.l) ro2 w2 x w3:=g4.frMono λb q=>h6.sub b q.1;have e4:Qh (λb=>FrB D ro1 g W b/\b≠D.l) x w3 a w3:=YA s4;have e5:=(((e1.trans e2).trans e3).trans e4).trans (ai.frMono λb (q:FrB D ro1 g W b/\b≠D.l)=>q.2);obtain⟨q1,q2⟩:=j.fin hD e5 s5 (λb q=>g6.sub b (h6.sub b q)) (by rw[t4,g5,h5]) (st':=if jump.isNone then .ready else .done) (pe':=jump) (by rw[ad,M]);exact⟨_,q2,a,σ4,q1⟩
   cases e with
   |normal=>
    obtain rfl:x3=.normal:=g1;obtain⟨H2,f,G⟩:=g2;obtain⟨v,k,J,rfl,g',E,a,σ4,k3⟩:=y H2 none f;exact⟨_,k,J,g',E,.inl ⟨rfl,H2,a,σ4,G,k3⟩⟩
   |exit id=>
    obtain rfl:x3=.exit id:=g1;obtain⟨H2,f,G⟩:=g2;obtain⟨v,k,J,rfl,g',E,a,σ4,k3⟩:=y H2 (some (.exit id)) f;exact⟨_,k,J,g',E,.inr ⟨rfl,H2,_,a,σ4,.inl ⟨id,rfl,G⟩,k3⟩⟩
   |ret=>
    obtain rfl:x3=.ret:=g1;obtain⟨H2,f,G⟩:=g2;obtain⟨v,k,J,rfl,g',E,a,σ4,k3⟩:=y H2 (some .ret) f;exact⟨_,k,J,g',E,.inr ⟨rfl,H2,_,a,σ4,.inr ⟨rfl,G⟩,k3⟩⟩
   |_=>exact g1.elim
  |exit id=>cases h1
  |ret=>cases h1
  |_=>exact h1.elim
end
theorem Sim.beside{fr ro:Nat->Prop}{σ:Sig}{H:Qd}{w w1:World}(s:Sim fr ro σ H w)(ev:Qh fr ro w ro w1)(a:∀b,b<w.heap.size->w1.heap[b]?=w.heap[b]?):Sim (λb=>fr b\/(w.heap.size<=b/\b<w1.heap.size)) ro σ H w1:=by
 have g:Ext ro σ w ro σ w1:=ev.ext0 σ;refine⟨s.len,s.roOk.to (λ_ q=>q) ev.keepRo (λb q=>Vf (s.roLt b q) ev.size),λb q=>q.elim (λq=>Vf (s.frLt b q) ev.size) (λq=>q.2),λb q r=>?_,λi b x e f m=>?_,s.inj,λi z x e f=>?_,
  s.hidTo (· = ·) Q2 ev.size (by simp) (λi b x c e f m n=>n.elim id λq=>(by have:=(s.hid i b x c e f m).lt;omega)) λj d y h l t=>.inl ⟨j,y,rfl,h,l,id,λc q=>s.hidKeep h l (λz=>a d (s.own j d y h l z).1) ev.keepRo q⟩⟩
 .rcases r with r|r
  .exact s.roFr b q r
  .have:=s.roLt b q;omega
 .obtain⟨u,B,p⟩:=s.own i b x e f m
  grind
 .refine(s.blk i z x e f).keep g ?_ ?_
  .rintro b rfl k;exact a b (s.own i b x e f k).1
  .rintro b c rfl k;exact a c (s.hid i b x c e f k).lt
theorem QbY{w:World}{o:Obj}{b:Nat}(a:b<w.heap.size):(w.alloc o).heap[b]?=w.heap[b]? :=by
 show(w.heap.push o)[b]?=_
 grind
theorem Qmq{P:Program}{fn:FuncId}{tmps:Array Value}{ps:Array Tmp}{assign body:Code}{rd:Option Nat}{fr ro:Nat->Prop}{w:World}(f:Qdy rd fr w)(i:∀b,ro b->b<w.heap.size)(p:∀b,fr b->b<w.heap.size):
  ∃l mark w1 df,(Instr.enterLoop fn tmps ps assign body rd).run P w=.ok (l,mark) w1/\w.heap.size<=l/\l<w1.heap.size/\w1.heap[l]?=some (.loop {state:=.ready,pending:=none,fn:=fn,tmps:=tmps,params:=ps,assign:=assign,body:=body,defers:=df})/\
   (∀b,b<w.heap.size->w1.heap[b]?=w.heap[b]?)/\mark.Nodup/\(∀d∈mark,∃D,d={target:=.collected D,args:= #[]}/\w.heap.size<=D/\D<w1.heap.size/\w1.heap[D]?=some (.deferred (some [])))/\Qh fr ro w ro w1:=by
 have e:∀w1:World,(∀b,b<w.heap.size->w1.heap[b]?=w.heap[b]?)->w.heap.size<=w1.heap.size->w1.os=w.os->w1.tape=w.tape->w1.output=w.output->w1.drawn=w.drawn->Qh fr ro w ro w1:=by
  intro w1 y r n k s u;refine⟨λ_ q=>q,(by grind),(by grind),r,λb x q=>?_,n,k,s,by omega⟩
  grind[World.shape?]
 cases rd with
 |none=>
  have a:∀b,b<w.heap.size->((w.alloc (.deferred (some []))).alloc (.loop {state:=.ready,pending:=none,fn:=fn,tmps:=tmps,params:=ps,assign:=assign,body:=body,defers:=w.heap.size})).heap[b]?=w.heap[b]? :=λb g=>
   (QbY (by simp;omega)).trans (QbY g)
  refine⟨_,_,_,w.heap.size,run_enterLoop_outer fn tmps ps assign body,by omega,by simp,?_,a,by simp,?_,e _ a (by simp;omega) rfl rfl rfl rfl⟩
  .grind[World.alloc_heap_new,World.size_alloc]
  .intro d m;obtain rfl:=VB.1 m;exact⟨_,rfl,XT _,by simp;omega,(QbY (by simp)).trans (World.alloc_heap_new w _)⟩
 |some j=>
  obtain⟨_,h,t⟩:=f j rfl;have a:∀b,b<w.heap.size->(w.alloc (.loop {state:=.ready,pending:=none,fn:=fn,tmps:=tmps,params:=ps,assign:=assign,body:=body,defers:=h.defers})).heap[b]?=w.heap[b]? :=λb g=>QbY g;exact⟨_,_,_,h.defers,run_enterLoop_inner t fn tmps ps assign body,XT _,by simp,World.alloc_heap_new w _,a,List.nodup_nil,(by simp),e _ a (by simp) rfl rfl rfl rfl⟩
theorem TC.rangeFunc{P:Program}{h0 N:Nat}{ae:Operand}{ps:List Nat}{assign body:Code}{env:Env}{H:Qd}{Q:QA}{f:FuncId}{ag ac:List A}{Hc:Qd}{T S:Type}{enc:T->List A}{nx:List T->T->List T->Prop}{xs:List T}
  (π:List Nat)(Hp:S->Qd)(V:S->List T->Prop)(s0:S)(hh:h0<=H.length)(hg:opA env ae=.fn (.func f) [] ag)(hargs:ag=Qaa (rho π H.length) ac)(hH:π.map (λp=>H[p]?)=(Hc.map (QQ (rho π H.length))).map some)(hπ:π.Nodup)
  (bd:(ps.all λp=>Nat.blt p N)=true)(eg:∀args w,(callFunc f args).run P w=.ok (.enter f args) w)(a0:QmS P f ac Hc enc nx xs)(ay:∀x,(enc x).length=ps.length)
  (a4:Le H.length env (QdN H π) env (Hp s0))(hV:V s0 xs)
  (an:∀s l x rem,V s l->nx l x rem->TC P H.length N assign (Qlg ps (enc x) env) (Hp s) λe env1 H1=>e=.normal/\TC P H.length N body env1 H1 (QmT H.length env Q λH2=>∃s',V s' rem/\H2=Hp s'))
  (al:∀s,V s []->Q .normal env (Hp s)):TC P h0 N (.rangeFunc ae ps.toArray assign body) env H Q:=by
 intro rd fr ro σ a w r hrd;have hv:=Qi r ae;rw[hg]at hv;obtain⟨l1,E,hv,a7,az⟩:=hv;obtain rfl:l1=[]:=a7;refine wpIn_rangeFunc ?_;intro fn bh;obtain⟨l,G,w1,df,he,hl,ba,av,a1,be,ai,aa⟩:=Qmq (P:=P) (fn:=fn) (tmps:=a.tmps) (ps:=ps.toArray) (assign:=assign) (body:=body) (ro:=ro) hrd r.sim.roLt r.sim.frLt;have s1:=r.sim.beside aa a1
 let D:Fix:=⟨fr,ro,σ,w,H.length,env,a.tmps,G++a.defers,l,(λst pe=>{state:=st,pending:=pe,fn:=fn,tmps:=a.tmps,params:=ps.toArray,assign:=assign,body:=body,defers:=df}),(λb=>fr b\/(w.heap.size<=b/\b<w1.heap.size))⟩
 have af:¬fr l:=λq=>by have:=r.sim.frLt l q;omega
 have hD:D.Ok:=⟨λb q=>.inl q,.inr ⟨hl,ba⟩,af,r.sim.len⟩;have M:Qcf D.fr1 (G++a.defers) w1:=by
  refine⟨List.nodup_append.2 ⟨be,r.defers.1,λd R d' bc e=>?_⟩,λd R=>?_⟩
  .subst e;obtain⟨B,e1,e2,_⟩:=ai d R;obtain⟨B',aq,a6,_⟩:=r.defers.2 d bc;rw[e1]at aq;have:B=B':=by simpa using aq
   subst this;have:=r.sim.frLt B a6;omega
  .rcases VD.1 R with R|R
   .obtain⟨B,e1,e2,e3,e4⟩:=ai d R;exact⟨B,e1,.inr ⟨e2,e3⟩,e4⟩
   .obtain⟨B,e1,e2,e3⟩:=(r.defers.keep aa).2 d R;exact⟨B,e1,.inl e2,e3⟩
 obtain⟨sp,hσc⟩:=s1.part hH hπ;have aj:LR ro (Yh σ π) w1 ac E:=(Qbs hσc).1 (hargs▸az.mono (aa.ext0 σ))
 let frX:Nat->Prop:=λb=>D.fr1 b\/(∃(j:Nat) (x:Blk),(Yh σ π)[j]?=some (some b)/\Hc[j]?=some x/\x.live=true)\/ ∃(j:Nat) (x:Blk) (d:Nat),(Yh σ π)[j]?=some (some d)/\Hc[j]?=some x/\Hid w1 x d b
 have sX:Sim frX ro σ (QdN H π) w1:=by
  refine(Qdw π s1).frames (λb q=>?_) (λb q r=>?_) (λi b x n m k r=>?_) (λi b x c n m k r=>?_)
  .rcases q with q|⟨j,x,n,m,k⟩|⟨j,x,d,n,m,k⟩
   .exact s1.frLt b q
   .exact(sp.own j b x n m k).1
   .exact(sp.hid j d x b n m k).lt
  .rcases r with r|⟨j,x,n,m,k⟩|⟨j,x,d,n,m,k⟩
   .exact s1.roFr b q r
   .exact(sp.own j b x n m k).2.1 q
   .exact(sp.hid j d x b n m k).ro q
  .rcases QeU _ _ _ _ m with rfl|⟨m,hi⟩
   .cases k
   .rcases r with r|⟨j,y,Y,p2,p3⟩|⟨j,y,d,Y,p2,p3⟩
    .exact(s1.own i b x n m k).2.2 r
    .exact(sp.own j b y Y p2 p3).2.2 (.inr (.inl ⟨i,x,n,m,k,hi (Qbu k)⟩))
    .exact(sp.hid j d y b Y p2 p3).fr (.inr (.inl ⟨i,x,n,m,k,hi (Qbu k)⟩))
  .rcases QeU _ _ _ _ m with rfl|⟨m,hi⟩
   .exact k.elim
   .rcases r with r|⟨j,y,Y,p2,p3⟩|⟨j,y,d,Y,p2,p3⟩
    .exact(s1.hid i b x c n m k).fr r
    .exact(sp.own j c y Y p2 p3).2.2 (.inr (.inr ⟨i,x,b,n,m,k,hi k.holds⟩))
    .exact(sp.hid j d y c Y p2 p3).fr (.inr (.inr ⟨i,x,b,n,m,k,hi k.holds⟩))
 have rX:Rel frX ro σ (QdN H π) env N {a with defers:=G++a.defers} w1:=
  ⟨sX,λs=>(r.env s).mono (aa.ext0 σ),r.size,M.1,λd R=>let⟨B,e1,e2,e3⟩:=M.2 d R;⟨B,e1,.inl e2,e3⟩⟩
 obtain⟨ad,σ',r',ab,a9⟩:=a4 frX ro σ N _ w1 rX;have hσt:σ.take H.length=σ:=by rw[<- r.sim.len,X9]
 let g0:Nat->Prop:=λb=>D.fr1 b\/(ad b/\ ¬ro b)\/(∃(i:Nat) (x:Blk),σ'[i]?=some (some b)/\(Hp s0)[i]?=some x/\x.live=true)\/ ∃(i:Nat) (x:Blk) (d:Nat),σ'[i]?=some (some d)/\(Hp s0)[i]?=some x/\Hid w1 x d b
 have j0:RJ D ad σ' (Hp s0) .ready none ro g0 w1:=by
  refine⟨r'.sim.frMono λb q=>.inl q,λt=>(r.env t).mono ⟨ab,aa.keepRo,aa.shape,λ_ _ q=>q⟩,a9.trans hσt,aa.trans (YA ab),M,av,λb q=>?_,λb q=>.inl q,λi b x n m k=>.inr (.inr (.inl ⟨i,x,n,m,k⟩)),λi b x c n m k=>.inr (.inr (.inr ⟨i,x,b,n,m,k⟩)),λb q=>?_⟩
  .by_cases z:ro b
   .exact .inl z
   .exact .inr (.inr (.inl ⟨q,z⟩))
  .rcases q with q|q|⟨i,x,n,m,k⟩|⟨i,x,d,n,m,k⟩
   .exact s1.frLt b q
   .exact r'.sim.roLt b q.1
   .exact(r'.sim.own i b x n m k).1
   .exact(r'.sim.hid i d x b n m k).lt
 have sI:Sim g0 ro (Yh σ π) Hc w1:=by
  refine sp.frames (λb q=>j0.lt b q) (λb q z=>?_) (λj b x n m k z=>?_) (λj b x c n m k z=>?_)
  .rcases z with z|z|⟨i,x,n,m,k⟩|⟨i,x,d,n,m,k⟩
   .exact s1.roFr b q z
   .exact z.2 q
   .exact(r'.sim.own i b x n m k).2.1 (ab b q)
   .exact(r'.sim.hid i d x b n m k).ro (ab b q)
  .have hX:frX b:=.inr (.inl ⟨j,x,n,m,k⟩);rcases z with z|z|⟨i,y,Y,p2,p3⟩|⟨i,y,d,Y,p2,p3⟩
   .exact(sp.own j b x n m k).2.2 (.inl z)
   .exact r'.sim.roFr b z.1 hX
   .exact(r'.sim.own i b y Y p2 p3).2.2 hX
   .exact(r'.sim.hid i d y b Y p2 p3).fr hX
  .have hX:frX c:=.inr (.inr ⟨j,x,b,n,m,k⟩);rcases z with z|z|⟨i,y,Y,p2,p3⟩|⟨i,y,d,Y,p2,p3⟩
   .exact(sp.hid j b x c n m k).fr (.inl z)
   .exact r'.sim.roFr c z.1 hX
   .exact(r'.sim.own i c y Y p2 p3).2.2 hX
   .exact(r'.sim.hid i d y c Y p2 p3).fr hX
 let X:Ctx T:={l:=l,J:=λrem q g W=>∃s F σ1,V s rem/\RJ D F σ1 (Hp s) .ready none q g W,Jx:=λ_ q g W=>∃H2 c F σ1,Jump Q env c H2/\RJ D F σ1 H2 .done (some c) q g W,enc:=enc,nx:=nx}
 have ar:∀p∈ps,p<N:=λp hp=>by simpa using Xs.1 bd p hp
 have hX:X.ok P:=by
  refine⟨⟨λrem q g W W' ad ⟨s,F,σ1,L,O⟩ he=>⟨s,F,σ1,L,O.step hD he⟩,λrem q g g' W ⟨s,F,σ1,L,O⟩ hg hl=>⟨s,F,σ1,L,O.up hg hl⟩⟩,
   ⟨λrem q g W W' ad ⟨H2,c,F,σ1,L,O⟩ he=>⟨H2,c,F,σ1,L,O.step hD he⟩,λrem q g g' W ⟨H2,c,F,σ1,L,O⟩ hg hl=>⟨H2,c,F,σ1,L,O.up hg hl⟩⟩,?_⟩
  rintro lr x rem q g ri W vs bb ⟨s,F,σ1,L,O⟩ hq hI a2;obtain⟨a5,tm,a3,a8,y1,y2⟩:=RJ.round (D:=D) (Q:=Q) (K:=λH2=>∃s',V s' rem/\H2=Hp s') hD rfl r.size ar (ay x) hq hI a2 O (an s lr x rem L bb);refine⟨a5,tm,a3,a8,y1,RoundIn.mono y2 ?_⟩;rintro e W' ⟨g',k1,k2⟩;refine⟨g',ri,λ_ z=>z,k1,?_⟩;rcases k2 with⟨rfl,H2,u,σ2,⟨s',bg,rfl⟩,k3⟩|⟨rfl,H2,c,u,σ2,k3,k4⟩
  .exact .inl ⟨rfl,s',u,σ2,bg,k3⟩
  .exact .inr ⟨rfl,H2,c,u,σ2,k3,k4⟩
 have ao:∀(ev:Operand->Value),ev ae=.func (.func f) #[] E.toArray->ev (.const (.func (.yield l) #[] #[]))=.func (.yield l) #[] #[]->(resolve ev (rangeCall ae l) 0).run P w1=.ok {target:=.fn (.func f) E.toArray,args:= #[.func (.yield l) #[] #[]]} w1:=by
  intro ev L O;simp[resolve,go_sem,L,O]
 refine⟨l,G,w1,{target:=.fn (.func f) E.toArray,args:= #[.func (.yield l) #[] #[]]},w1,f, #[.func (.yield l) #[] #[]]++E.toArray,w1,he,ao a.eval hv rfl,λ_ _=>trivial,by simp[invoke,go_sem,eg],λh=>by simp[WF,Fence.wide]at h,?_⟩;refine WF.calls.2 ?_;have am:=a0 X rfl rfl hX g0 ro (Yh σ π) w1 E ro sI (λ_ z=>z) aj ⟨s0,ad,σ',hV,j0⟩;have ah:(#[.func (.yield l) #[] #[]]++E.toArray:Array Value)=((Value.func (.yield X.l) #[] #[]::E)).toArray:=by simp[X]
 rw[ah];refine Calls.mono am ?_;rintro e W' ⟨⟨v,rfl⟩,g2,qz,bi,aw⟩;have fin:∀(H2:Qd) (st:LoopState) (pe:Option Code) (u:Nat->Prop) (σ2:Sig),st≠ .busy->RJ D u σ2 H2 st pe qz g2 W'->∃w4,(Instr.endLoop l).run P W'=.ok pe w4/\Rel D.fr1 u σ2 H2 env N {a with defers:=G++a.defers} w4/\Qh fr ro w u w4:=by
  intro H2 st pe u σ2 hst j;refine⟨_,run_endLoop j.rc (by exact hst),?_⟩;obtain⟨s5,ak⟩:=j.sim.put (obj:=.loop {(D.rc st pe)with state:=.exhausted}) hD.l1 (Qbi j.rc);have hr:=j.rc;refine⟨⟨s5,λt=>((j.env t).mono ⟨λ_ q=>q,λ_ _=>rfl,λ_ _ q=>q,λi b q=>QdF j.sig q⟩).mono (ak.ext0 σ2),r.size,j.marks.1,λd R=>?_⟩,j.ev.trans (ak.frMono λb q e=>af (by have e':b=l:=e;rw[<- e'];exact q))⟩;obtain⟨B,e1,e2,e3⟩:=j.marks.2 d R;refine⟨B,e1,e2,(ak.keepFr B (λe=>?_)).trans e3⟩;subst e;rw[hr]at e3;cases e3
 have ax:Grow fr w a.defers D.fr1 (G++a.defers):=by
  refine⟨λb q=>.inl q,λb q=>q.imp id (λq=>q.1),λd R=>?_⟩;rcases VD.1 R with R|R
  .obtain⟨B,e1,e2,_⟩:=ai d R;exact .inr ⟨B,e1,e2⟩
  .exact .inl R
 have au:∀{σ2:Sig},σ2.take H.length=σ->σ2.take h0=σ.take h0:=by
  intro σ2 h;have:=congrArg (List.take h0) h
  rwa [List.take_take,XB hh]at this
 rcases aw with⟨s,u,σ2,L,O⟩|⟨rem,H2,c,u,σ2,L,O⟩
 .obtain⟨w4,f1,f2,f3⟩:=fin _ _ _ u σ2 (by intro e;cases e) O;exact⟨none,w4,f1,.normal,env,_,u,σ2,_,rfl,al s L,f2,f3,au O.sig,ax⟩
 .obtain⟨w4,f1,f2,f3⟩:=fin _ _ _ u σ2 (by intro e;cases e) O;refine⟨some c,w4,f1,?_⟩;have hc:TC P h0 N c env H2 Q:=by
   rcases L with⟨id,rfl,L⟩|⟨rfl,L⟩
   .exact TC.exit L
   .exact TC.ret L
  exact Code.wpIn_mono (λe a w q=>q.grow f3 (au O.sig) ax) (hc rd D.fr1 u σ2 _ w4 f2 (hrd.to f3 λb q=>.inl q))
section
variable {P:Program} {T:Type} {ts tq te k tm:Nat} {g:FuncId} {es:List (A×A)} {e:T->List A} {ea:T->A} {xs:List T}
end
theorem TCy.le{T:Type}{X:Ctx T}{P:Program}{h0 N:Nat}{c:Code}{env env':Env}{H H':Qd}{k:YSt T}{Q:YC T}(f:Le h0 env H env' H')(h:TCy X P h0 N c env' H' k Q):TCy X P h0 N c env H k Q:=by
 intro u m j l σ a w g r hj hrd;obtain⟨i,σ',x,s,t⟩:=f j l σ N a w r;obtain⟨⟨p,n,b⟩,d⟩:=hj;exact Code.wpIn_mono (λe a w q=>q.grow s (XT _) t (Grow.refl _ _ _)) (h u m j i σ' a w g x ⟨⟨p,(by grind),b⟩,d⟩ hrd)
theorem Qlc{P:Program}{o:Oper}{env:Env}{H:Qd}{y z:Operand}{l:Nat}{a:A}{n:Array TypeId}(j:o.op=.call {callee:=.value y,args:= #[z],argTypes:=n})(k:opA env y=.fn (.yield l) [] [])(f:opA env z=a)(g:Yn a=true){N:Nat}:
  ∀fr ro σ act w,Rel fr ro σ H env N act w->∃vs:List Value,LR ro [] w [a] vs/\(execOp act.eval o).run P w=(Instr.yield l vs.toArray).run P w:=by
 intro fr ro σ act w r;have b:=Qi r y;rw[k]at b;obtain⟨h,e,b,i,m⟩:=b;obtain rfl:h=[]:=i;obtain rfl:e=[]:=m;have d:=Qi r z;rw[f]at d;refine⟨[act.eval z],⟨_,_,rfl,VR.data g d,rfl⟩,?_⟩;generalize act.eval=ev at*;simp[execOp,j,resolve,invoke,go_sem,b]
theorem Qj9{P:Program}{o:Oper}{env:Env}{H:Qd}{y b a:Operand}{l:Nat}{j e:A}{x:Array TypeId}(s:o.op=.call {callee:=.value y,args:= #[b,a],argTypes:=x})(t:opA env y=.fn (.yield l) [] [])(f:opA env b=j)(g:opA env a=e)(i:Yn j=true)(h:Yn e=true){N:Nat}:
  ∀fr ro σ act w,Rel fr ro σ H env N act w->∃vs:List Value,LR ro [] w [j,e] vs/\(execOp act.eval o).run P w=(Instr.yield l vs.toArray).run P w:=by
 intro fr ro σ act w r;have d:=Qi r y;rw[t]at d;obtain⟨p,n,d,q,u⟩:=d;obtain rfl:p=[]:=q;obtain rfl:n=[]:=u;have m:=Qi r b;rw[f]at m;have k:=Qi r a;rw[g]at k;refine⟨[act.eval b,act.eval a],⟨_,_,rfl,VR.data i m,_,_,rfl,VR.data h k,rfl⟩,?_⟩;generalize act.eval=ev at*;simp[execOp,s,resolve,invoke,go_sem,d]
section
variable {P:Program} {K V:Type} {tm tb ty tk kt et:Nat} {ek:K->A} {ev:V->A} {m:List (K×V)} {T:Type}
end
section
variable {P:Program} {o:Oper} {env:Env} {H:Qd} {fr ro:Nat->Prop} {σ:Sig} {w:World}
theorem Qk2{e i t b1 b2:Nat}{es:List (List A)}{l:List Ent}(d:H[i]?=some (.rowr t 3 es))(he:l.map (eC b1 b2)=es):Le e env H env (H.set i (.ents t b1 b2 l)):=by
 subst he;intro g f σ N a w r;refine⟨f,σ,⟨r.sim.weaken (x':=.ents t b1 b2 l) d rfl ?_,r.env,r.size,r.defers⟩,λ_ q=>q,rfl⟩;intro y h;cases y with
 |none=>exact h.elim
 |some b=>exact h
theorem QcL{b1 b2:Nat}:∀(l:List Ent),allK 3 (l.map (eC b1 b2))
 |[]=>trivial
 |e::l=>⟨rfl,QcL l⟩
theorem Sim.phantomE(s:Sim fr ro σ H w)(t b1 b2:Nat):Sim fr ro (σ++[none]) (H++[.ents t b1 b2 []]) w:=by
 have ext:Ext ro σ w ro (σ++[none]) w:=⟨λ_ q=>q,λ_ _=>rfl,λ_ _ q=>q,λ_ _ h=>Qae h⟩;have E:=s.len;have a:∀(j:Nat) (v:Blk),(H++[Blk.ents t b1 b2 []])[j]?=some v->(j<H.length/\H[j]?=some v)\/(j=H.length/\v=.ents t b1 b2 []):=by
  intro j v h;rcases Nat.lt_trichotomy j H.length with q|q|q
  .rw[XM q]at h;exact .inl ⟨q,h⟩
  .subst q;simp at h;exact .inr ⟨rfl,h.symm⟩
  .rw[XO (by simp;omega)]at h;cases h
 have hσ:∀(j:Nat) (z:Option Nat),(σ++[none])[j]?=some z->(j<σ.length/\σ[j]?=some z)\/(j=σ.length/\z=none):=by
  intro j z h;rcases Nat.lt_trichotomy j σ.length with q|q|q
  .rw[XM q]at h;exact .inl ⟨q,h⟩
  .subst q;simp at h;exact .inr ⟨rfl,h.symm⟩
  .rw[XO (by simp;omega)]at h;cases h
 refine⟨by simp[E],s.roOk,s.frLt,s.roFr,λi b x k g n=>?_,λi j b x y k g n u L G=>?_,λi z x k g=>?_,
  s.hidTo (· = ·) Q2 (XT _) (λ_ _ _ _ _ _ _ q=>q) (λ_ _ _ _ _ _ _ q=>q) λj d y F J M=>.inl ?_⟩
 rotate_left 3
 .rcases hσ j _ F with⟨l,f⟩|⟨_,r⟩
  .rcases a j y J with⟨_,e⟩|⟨e,_⟩
   .exact⟨j,y,rfl,f,e,id,λ_ q=>q⟩
   .omega
  .cases r
 .rcases hσ i _ k with⟨l,f⟩|⟨_,r⟩
  .rcases a i x g with⟨_,e⟩|⟨e,_⟩
   .exact s.own i b x f e n
   .omega
  .cases r
 .rcases hσ i _ k with⟨l,f⟩|⟨_,r⟩
  .rcases hσ j _ g with⟨B,m⟩|⟨_,r⟩
   .rcases a i x n with⟨_,e⟩|⟨e,_⟩
    .rcases a j y u with⟨_,p⟩|⟨p,_⟩
     .exact s.inj i j b x y f m e p L G
     .omega
    .omega
   .cases r
  .cases r
 .rcases hσ i _ k with⟨l,f⟩|⟨l,rfl⟩
  .rcases a i x g with⟨_,e⟩|⟨e,_⟩
   .exact(s.blk i z x f e).keep ext (λ_ _ _=>rfl) (λ_ _ _ _=>rfl)
   .omega
  .rcases a i x g with⟨e,_⟩|⟨_,rfl⟩
   .omega
   .rfl
theorem Le.phantomE{h0 i m t T b1 b2:Nat}{cs:List A}(E:Nat.ble h0 H.length=true)(k:H[i]?=some (.cells T cs))(e:cs[m]?=some .nils):
  Le h0 env H env (H.set i (.cells T (cs.set m (.osl H.length 0 0 3)))++[.ents t b1 b2 []]):=by
 intro J g σ N a w r;have f:h0<=H.length:=XR E;have B:i<H.length:=(XL.1 k).1;have ext:Ext g σ w g (σ++[none]) w:=⟨λ_ q=>q,λ_ _=>rfl,λ_ _ q=>q,λ_ _ h=>Qae h⟩;have s:=r.sim.phantomE t b1 b2;have d:(H++[Blk.ents t b1 b2 []])[i]?=some (.cells T cs):=by rw[XM B];exact k
 have p:H.set i (.cells T (cs.set m (.osl H.length 0 0 3)))++[.ents t b1 b2 []]=(H++[Blk.ents t b1 b2 []]).set i (.cells T (cs.set m (.osl H.length 0 0 3))):=by
  rw[List.set_append_left _ _ B]
 rw[p];refine⟨g,σ++[none],⟨s.weaken d rfl ?_,λq=>(r.env q).mono ext,r.size,r.defers⟩,λ_ q=>q,QB (by rw[r.sim.len];exact f)⟩;intro y h;cases y with
 |none=>exact h
 |some b=>
  obtain⟨l,z,F,x⟩:=h;refine⟨l,z,?_,x⟩;clear z x d p k
  induction cs generalizing m l with
  |nil=>cases e
  |cons c cs G=>
   obtain⟨v,j,rfl,u,n⟩:=F;cases m with
   |zero=>
    simp at e;subst e;exact⟨v,j,rfl,.inl ⟨rfl,u⟩,n⟩
   |succ m=>exact⟨v,j,rfl,u,G (by simpa using e) j n⟩
theorem QM{h0 i m T:Nat}{cs:List A}(f:H[i]?=some (.cells T cs)):Le h0 env H env (H.set i (.cells T (cs.set m .any))):=by
 intro t n σ N a w r;refine⟨n,σ,⟨r.sim.weaken f rfl ?_,r.env,r.size,r.defers⟩,λ_ q=>q,rfl⟩;intro y h;cases y with
 |none=>exact h
 |some b=>
  obtain⟨l,g,j,e⟩:=h;refine⟨l,g,?_,e⟩;clear g e f
  induction cs generalizing m l with
  |nil=>exact j
  |cons c cs s=>
   obtain⟨v,d,rfl,p,k⟩:=j;cases m with
   |zero=>exact⟨v,d,rfl,trivial,k⟩
   |succ m=>exact⟨v,d,rfl,p,s d k⟩
theorem srcE{j m t b1 b2:Nat}{l:List Ent}{v:Value}(s:Sim fr ro σ H w)(z:H[j]?=some (.ents t b1 b2 l))(e:l.length=m)(h:VR ro σ w (.osl j 0 m 3) v):
  (∃a c,v=.slice a m c)/\ ∃vs:List Value,(∀w':World,w'.heap=w.heap->(Builtin.firstCells 3 m v).run P w'=.ok vs.toArray w')/\LR ro σ w (l.map (eC b1 b2)).flatten vs/\ ∀v∈vs,Qp v:=by
 rcases h with⟨rfl,rfl⟩|⟨b,p,d,N,E,x,rfl,i,⟨J,B⟩,G,M⟩
 .have:l=[]:=VJ.1 e;subst this;exact⟨⟨none,0,rfl⟩,[],λ_ _=>YB,rfl,by simp⟩
 .refine⟨⟨_,d,rfl⟩,?_⟩;obtain⟨F,u,g⟩:=s.blk j _ _ x z;have q:=Yq (pre:=[]) (by simpa using u) g;by_cases f:0<d
  .obtain rfl:=i f;obtain⟨r,L,y⟩:=q.flat;have:=Qa5 (P:=P) (k:=3) (n:=m) (c:=d) r (by rw[y];simp[e]);simpa using this
  .obtain rfl:m=0:=by omega
   have:l=[]:=VJ.1 e;subst this;exact⟨[],λ_ _=>YB,rfl,by simp⟩
theorem QmY{c:Call}{T T' t e' i j n m b1 b2:Nat}{x y:Operand}{l k:List Ent}(E:Q6 P T t 3)(hd:∀w,(underlying T').run P w=.ok (.slice e') w)(F:Nat.ble (l.length+k.length) Q9=true)(ab:Nat.blt 0 n=true)
  (ho:o.op=.call c:=by exact rfl)(hc:c={callee:=.builtin .append,args:= #[x,y],argTypes:= #[T,T']}:=by exact rfl)(hx:opA env x=.osl i 0 n 3:=by exact rfl)(hH:H[i]?=some (.ents t b1 b2 l):=by exact rfl)(hn:l.length=n:=by exact rfl)
  (hy:opA env y=.osl j 0 m 3:=by exact rfl)(hHj:H[j]?=some (.ents t b1 b2 k):=by exact rfl)(hm:k.length=m:=by exact rfl):
  OpH P o env H (.osl H.length 0 (l++k).length 3) (H.set i .dead++[.ents t b1 b2 (l++k)]):=by
 intro fr s σ N a w r;have Y:=XR F;have aj:0<n:=by simpa using ab
 have u:=Qi r x;rw[hx]at u;have h2:=Qi r y;rw[hy]at h2;obtain⟨⟨ay,cy,M⟩,vs,O,q4,q5⟩:=srcE (P:=P) r.sim hHj hm h2;rw[M]at O;obtain⟨_,e,o1,o2,o3⟩:=srcE (P:=P) r.sim hH hn u;have af:i<H.length:=(XL.1 hH).1;have ak:(H.set i .dead).length=H.length:=X4;rw[X3,hn,hm];rcases u with⟨q,_⟩|⟨b,p,cap,t',mm,W,u,h4,⟨h5,aa⟩,X,h7⟩
 .omega
 have J:=r.sim.blk i _ _ W hH;obtain⟨lb,V,g2⟩:=J;have z:vs.length=m*3:=by rw[q4.length,Yc (QcL k)];simp[hm]
 have ae:e.length=n*3:=by rw[o2.length,Yc (QcL l)];simp[hn]
 rw[u]at o1;by_cases f:n+m<=cap
 .obtain rfl:p=0*3:=h4 (by omega);have g:=QbE (t:=o.type) E hd (ad:=some ⟨b,0*3,none⟩) (n:=n) (m:=m) (cap:=cap) (c:=cy) (ax:=ay) f (O w rfl);have B:(n+m)*3<=lb.length:=by
   have:w.shape? b=some (t,lb.length):=by unfold World.shape?;rw[V];simp
   rw[this]at X;cases X;exact XV (XC 3 f) (by simpa using h7)
  rw[XA]at B;have R:=Q3 (P:=P) (vs:=vs) (n*3) 0 V (by rw[z];simpa using B) q5;have h:=r.sim.set (x':=.ents t b1 b2 (l++k)) (obj:=.cells (splice lb (n*3) vs).toArray t (0,0)) W hH rfl
   (λy hy=>Jc V (Q0 (by rw[z];exact B)) y hy)
   (λex ac=>⟨_,ac,by
    have:=(g2.app (n:=n) (by simp[hn]) (QcL k) q4 q5).mono ex;rw[VI (by simp[hn])]at this;rw[Xf];exact this⟩)
  have sm:=h.1.moved (i:=i) (Xa af) W;rw[List.set_set]at sm;refine⟨.slice (some ⟨b,0*3,none⟩) (n+m) cap,_,s,[some b],?_,.inr ⟨b,0*3,cap,t',mm,?_,rfl,h4,⟨f,aa⟩,?_,h7⟩,sm,h.2⟩
  .refine Yw ho hc _ ?_;rw[u,M,g];simp only[YV,Nat.zero_mul,Xv,Vm,R,Result.andThen,Vn];simp
  .rw[<- r.sim.len];simp
  .exact h.2.shape _ _ X
 .obtain⟨d,nc,ah,L,g⟩:=QeD (t:=o.type) E hd rfl (by omega) (by omega) O o1
  let w0:World:={w with drawn:=w.drawn+1}
  have G:Sim fr s σ (H.set i .dead) w0:=(r.sim.kill i).heap rfl;have e0:Qh fr s w s w0:=Qh.heap rfl rfl rfl rfl (Nat.le_succ _);have ag:LR s σ w0 ((l++k).map (eC b1 b2)).flatten (e++vs):=by
   rw[Xf,Xr];exact(o2.append q4).mono (Ext.heap (w:=w) (w':=w0) rfl)
  have ai:∀v∈e++vs,Qp v:=λv hv=>by rcases VD.1 hv with q|q;exact o3 v q;exact q5 v q
  have s1:=G.alloc (x:=.ents t b1 b2 (l++k)) (obj:=.cells ((e++vs)++d).toArray t) ⟨(e++vs)++d,QY _ _,(YI (QcL _) ag ai).mono ((Qh.alloc (fr:=fr) _ G.roLt G.frLt).ext σ _)⟩;have Q:Qh fr s w0 s (w0.alloc (.cells ((e++vs)++d).toArray t)):=Qh.alloc _ G.roLt G.frLt;refine⟨_,_,s,[some w.heap.size],Yw ho hc a.eval (by rw[u,M];exact g),.inr ⟨w.heap.size,0,nc,t,(e++vs++d).length,?_,rfl,λ_=>by simp,ah,?_,?_⟩,s1,e0.trans Q⟩
  .rw[<- r.sim.len];simp
  .have:=QY w0 (.cells ((e++vs)++d).toArray t);unfold World.shape?;rw[show w.heap.size=w0.heap.size from rfl,this];simp
  .simp only[X3,L,ae,z,Xv];omega
theorem Qgt{c:Call}{T T' t e' i j n m b1 b2:Nat}{x y:Operand}{d a r:List Ent}(h:app d a=some r)(E:Q6 P T t 3)(g:∀w,(underlying T').run P w=.ok (.slice e') w)(b:Nat.blt 0 n=true)
  (f:o.op=.call c:=by exact rfl)(hc:c={callee:=.builtin .append,args:= #[x,y],argTypes:= #[T,T']}:=by exact rfl)(hx:opA env x=.osl i 0 n 3:=by exact rfl)(hH:H[i]?=some (.ents t b1 b2 d):=by exact rfl)(hn:d.length=n:=by exact rfl)
  (hy:opA env y=.osl j 0 m 3:=by exact rfl)(hHj:H[j]?=some (.ents t b1 b2 a):=by exact rfl)(hm:a.length=m:=by exact rfl):
  OpH P o env H (.osl H.length 0 r.length 3) (H.set i .dead++[.ents t b1 b2 r]):=by
 obtain⟨e,rfl⟩:=Qi8 h;exact QmY E g (XS e) b f hc hx hH hn hy hHj hm
theorem Pts.ents{i off t e f b1 b2:Nat}{l:List Ent}{x:Ent}{cs':List A}(he:l[e]?=some x)(k:H[i]?=some (.ents t b1 b2 l):=by exact rfl)(ho:off=e*3+f:=by exact rfl)(hcs:(eC b1 b2 x).drop f=cs':=by exact rfl):Pts H (.ptr i off) cs':=by
 intro p n σ w v s h;obtain⟨b,g,m⟩:=h;obtain⟨q,d,j⟩:=s.blk i _ _ g k;have a:(l.map (eC b1 b2))[e]?=some (eC b1 b2 x):=by rw[Xo,he];rfl
 have:=((Yq (pre:=[]) (by simpa using d) j).get e a).2.drop f;refine⟨b,off,m,?_⟩;rw[<- hcs,ho];simpa using this
def QfH(cs:List A)(s:Int)(e:Ent):Option Int:=bif e.fl then(bif e.off==0 then some s else none)else match cs[e.off]? with
 |some (.int .i64 v)=>some v
 |_=>none
def QiG{F:Type}(put:F->Nat->Int->Option F)(x:F)(s:Int)(e:Ent)(v:Int):Option (F×Int):=
 bif e.fl then(bif e.off==0 then some (x,v)else none)else(put x e.off v).map λy=>(y,s)
abbrev Qg0(b1 b2:Nat)(e:Ent):A:=.ptr (bif e.fl then b2 else b1) e.off
theorem Qms{l:List A}{i:Nat}{a:A}(h:l[i]?=some a):∃r,l.drop i=a::r:=by
 obtain⟨b,rfl⟩:=XL.1 h;exact⟨_,Xp b⟩
theorem QbZ{t b1 b2 T1 T2:Nat}{x:Operand}{e:Ent}{cs:List A}{s v:Int}(h:QfH cs s e=some v)(f:∀w,(isAgg t).run P w=.ok false w)(g:o.op=.load t x:=by exact rfl)(hx:opA env x=Qg0 b1 b2 e:=by exact rfl)
  (h1:H[b1]?=some (.cells T1 cs):=by exact rfl)(h2:H[b2]?=some (.cells T2 [.int .i64 s]):=by exact rfl):OpV P o env H (.int .i64 v):=by
 unfold QfH at h;unfold Qg0 at hx;cases i:e.fl with
 |true=>
  rw[i]at h hx;simp only[Vp]at h hx;cases d:e.off==0 with
  |false=>rw[d]at h;cases h
  |true=>
   rw[d]at h;have m:e.off=0:=by simpa using d
   rw[m]at hx;have l:s=v:=by simpa using h
   subst l;exact OpV.load g f hx (Pts.cells (cs':=[.int .i64 s]) h2 rfl)
 |false=>
  rw[i]at h hx;simp only[Vq]at h hx;cases b:cs[e.off]? with
  |none=>rw[b]at h;cases h
  |some a=>
   rw[b]at h;obtain⟨r,j⟩:=Qms b;cases a with
   |int k n=>
    cases k<;>first|(cases h;exact OpV.load g f hx (Pts.cells h1 j))|cases h
   |_=>cases h
theorem Qix{l:List A}{i:Nat}{a:A}(h:i<l.length):splice l i [a]=l.set i a:=by
 unfold splice;rw[List.set_eq_take_append_cons_drop,Vt h];simp
theorem Qhs{i:Nat}{b:Blk}(h:H[i]?=some b):H.set i b=H:=by
 apply List.ext_getElem?;intro j;rw[Xb];by_cases e:i=j
 .subst e;rw[Vt rfl,Vt (XL.1 h).1,h]
 .rw[Vs e]
theorem Qje{F:Type}{c:F->List A}{put:F->Nat->Int->Option F}{t b1 b2 T1 T2:Nat}{x y:Operand}{e:Ent}{f f':F}{s s' v:Int}(h:QiG put f s e v=some (f',s'))(a:∀x o v y,put x o v=some y->c y=(c x).set o (.int .i64 v)/\o<(c x).length)
  (j:∀w,(sizeOf t).run P w=.ok 1 w)(l:o.op=.store t x y:=by exact rfl)(hx:opA env x=Qg0 b1 b2 e:=by exact rfl)(h1:H[b1]?=some (.cells T1 (c f)):=by exact rfl)(h2:H[b2]?=some (.cells T2 [.int .i64 s]):=by exact rfl)(hy:opA env y=.int .i64 v:=by exact rfl)
  (hb:Nat.beq b1 b2=false:=by exact rfl):OpU P o env H ((H.set b1 (.cells T1 (c f'))).set b2 (.cells T2 [.int .i64 s'])):=by
 have i:b1≠b2:=λq=>by subst q;rw[VF]at hb;cases hb
 unfold QiG at h;unfold Qg0 at hx;cases m:e.fl with
 |true=>
  rw[m]at h hx;simp only[Vp]at h hx;cases d:e.off==0 with
  |false=>rw[d]at h;cases h
  |true=>
   rw[d]at h;have n:e.off=0:=by simpa using d
   rw[n]at hx;obtain⟨rfl,rfl⟩:f=f'/\v=s':=by simpa using h
   rw[Qhs h1];exact OpU.store (cs:=[.int .i64 s]) (vs:=[.int .i64 v]) (cs':=[.int .i64 v]) (v:=.int .i64 v) l hx h2 j hy rfl rfl rfl rfl rfl rfl
 |false=>
  rw[m]at h hx;simp only[Vq]at h hx;cases b:put f e.off v with
  |none=>rw[b]at h;cases h
  |some g=>
   rw[b]at h;obtain⟨rfl,rfl⟩:g=f'/\s=s':=by simpa using h
   obtain⟨p,k⟩:=a _ _ _ _ b;have r:(H.set b1 (.cells T1 (c g)))[b2]?=some (.cells T2 [.int .i64 s]):=by rw[XP i];exact h2
   rw[Qhs r];exact OpU.store (cs:=c f) (vs:=[.int .i64 v]) (cs':=c g) (v:=.int .i64 v) l hx h1 j hy rfl rfl rfl rfl (XS k) (by rw[Qix k,p])
end
section
variable {P:Program} {h0 N:Nat} {A B C:Code} {env:Env} {H:Qd} {Q:QA}
theorem QmP{S B1:Type}{b:Ctl S B1}(Eb:S->Env)(Hb:S->Qd)(h:TC P h0 N A env H (Seq P h0 N B (Qgv h0 b Eb Hb (Seq P h0 N C Q))))(k:∀s env H,b=.cont s->Le h0 env H (Eb s) (Hb s)->Seq P h0 N C Q .normal env H):TC P h0 N (.seq A (.seq B C)) env H Q:=by
 refine TC.seq (h.mono λx env' H' q=>?_);cases x with
 |normal=>exact TC.seq (Qg9 Eb Hb q k)
 |exit id=>exact q
 |ret=>exact q
end
section
variable {P:Program} {o:Oper} {env:Env} {H:Qd}
theorem Qe3{f g:Nat->Option (Nat×Nat)}:∀(parts:List (Nat×Value)) (cs:Array Value),(∀p∈parts,f p.1=g p.1)->Instr.fill f cs parts=Instr.fill g cs parts
 |[],cs,_=>rfl
 |(i,v)::rest,cs,h=>by
  unfold Instr.fill;rw[h (i,v) (by simp)];have ih:=λcs=>Qe3 rest cs (λp hp=>h p (by simp[hp]));cases g i with
  |none=>rfl
  |some p=>
   obtain⟨off,size⟩:=p;simp only;split
   .rfl
   .exact ih _
theorem Jl{t e n k:Nat}{z:Value}{zs cs:List A}{parts:List (Nat×Operand)}(g:∀w,(zeroValue t).run P w=.ok z w)(m:ZR (.agg zs) z)(f:∀w,(underlying t).run P w=.ok (.array n e) w)(h:∀w,(sizeOf e).run P w=.ok k w)
  (G:(parts.all λp=>Nat.blt p.1 n)=true)(B:o.op=.build t parts.toArray:=by exact rfl)(hf:QdR env ((List.range n).map λi=>(i*k,k)) zs parts=some cs:=by exact rfl):OpV P o env H (.agg cs):=by
 intro J j σ N a w r;obtain⟨l,rfl,s⟩:=m j σ w;obtain⟨b,x,F⟩:=Qe4 r parts zs l cs s hf;refine⟨.agg b.toArray,?_,b,rfl,F⟩;have y:Instr.fill (λi=>some (i*k,k)) l.toArray (parts.map λp=>(p.1,a.eval p.2))=some b.toArray:=by
  rw[<- x];refine Qe3 _ _ ?_;intro p u;obtain⟨q,E,rfl⟩:=Xe.1 u;have d:q.1<n:=by simpa using Xs.1 G q E
  simp[d]
 generalize hρ:a.eval=ρ at*;simp only[execOp,B,Instr.build,Vm,g,Result.andThen,f,h,XI,Vn,Value.cells,y]
def Yi(k:IntKind)(m n:Int):Int:=k.wrap (BitVec.ofInt k.bits m&&& BitVec.ofInt k.bits n).toNat
def orI(k:IntKind)(m n:Int):Int:=k.wrap (BitVec.ofInt k.bits m|||BitVec.ofInt k.bits n).toNat
def Qes(k:IntKind)(m n:Int):Int:=k.wrap (BitVec.ofInt k.bits m^^^BitVec.ofInt k.bits n).toNat
def QeA(k:IntKind)(m n:Int):Int:=k.wrap (m*2^(min n.toNat k.bits))
def QX(k:IntKind)(m n:Int):Int:=m.fdiv (2^(min n.toNat k.bits))
theorem OpV.and{t u:TypeId}{x y:Operand}{k:IntKind}{m n:Int}(d:o.op=.binOp .and t x y u)(f:opA env x=.int k m)(e:opA env y=.int k n):OpV P o env H (.int k (Yi k m n)):=by
 intro i h σ N a w r;have b:=Qx r f;have g:=Qx r e;refine⟨_,?_,rfl⟩;generalize a.eval=ρ at*;simp[execOp,d,b,g,Go.binOp,eqGuard,Op.intBits,go_sem,Yi]
theorem OpV.or{t u:TypeId}{x y:Operand}{k:IntKind}{m n:Int}(d:o.op=.binOp .or t x y u)(f:opA env x=.int k m)(e:opA env y=.int k n):OpV P o env H (.int k (orI k m n)):=by
 intro i h σ N a w r;have b:=Qx r f;have g:=Qx r e;refine⟨_,?_,rfl⟩;generalize a.eval=ρ at*;simp[execOp,d,b,g,Go.binOp,eqGuard,Op.intBits,go_sem,orI]
theorem OpV.xor{t u:TypeId}{x y:Operand}{k:IntKind}{m n:Int}(d:o.op=.binOp .xor t x y u)(f:opA env x=.int k m)(e:opA env y=.int k n):OpV P o env H (.int k (Qes k m n)):=by
 intro i h σ N a w r;have b:=Qx r f;have g:=Qx r e;refine⟨_,?_,rfl⟩;generalize a.eval=ρ at*;simp[execOp,d,b,g,Go.binOp,eqGuard,Op.intBits,go_sem,Qes]
theorem OpV.shl{t u:TypeId}{x y:Operand}{k b:IntKind}{m n:Int}(f:o.op=.binOp .shl t x y u)(h:opA env x=.int k m)(g:opA env y=.int b n)(d:0<=n):OpV P o env H (.int k (QeA k m n)):=by
 intro l j σ N a w r;have e:=Qx r h;have i:=Qx r g;refine⟨_,?_,rfl⟩;generalize a.eval=ρ at*;simp[execOp,f,e,i,Go.binOp,eqGuard,Op.shift,go_sem,QeA,Int.not_lt.2 d]
theorem OpV.shr{t u:TypeId}{x y:Operand}{k b:IntKind}{m n:Int}(f:o.op=.binOp .shr t x y u)(h:opA env x=.int k m)(g:opA env y=.int b n)(d:0<=n):OpV P o env H (.int k (QX k m n)):=by
 intro l j σ N a w r;have e:=Qx r h;have i:=Qx r g;refine⟨_,?_,rfl⟩;generalize a.eval=ρ at*;simp[execOp,f,e,i,Go.binOp,eqGuard,Op.shift,go_sem,QX,Int.not_lt.2 d]
theorem Qd3{h0 i m t k T:Nat}{cs:List A}(F:Nat.ble h0 H.length=true)(n:H[i]?=some (.cells T cs))(e:cs[m]?=some .nils):
  Le h0 env H env (H.set i (.cells T (cs.set m (.osl H.length 0 0 k)))++[.row t k []]):=by
 intro L g σ N a w r;have f:h0<=H.length:=XR F;have E:i<H.length:=(XL.1 n).1;have ext:Ext g σ w g (σ++[none]) w:=⟨λ_ q=>q,λ_ _=>rfl,λ_ _ q=>q,λ_ _ h=>Qae h⟩;have s:=r.sim.phantom t k;have d:(H++[Blk.row t k []])[i]?=some (.cells T cs):=by rw[XM E];exact n
 have u:H.set i (.cells T (cs.set m (.osl H.length 0 0 k)))++[.row t k []]=(H++[Blk.row t k []]).set i (.cells T (cs.set m (.osl H.length 0 0 k))):=by
  rw[List.set_append_left _ _ E]
 rw[u];refine⟨g,σ++[none],⟨s.weaken d rfl ?_,λq=>(r.env q).mono ext,r.size,r.defers⟩,λ_ q=>q,QB (by rw[r.sim.len];exact f)⟩;intro y h;cases y with
 |none=>exact h
 |some b=>
  obtain⟨l,B,G,z⟩:=h;refine⟨l,B,?_,z⟩;clear B z d u n
  induction cs generalizing m l with
  |nil=>cases e
  |cons c cs J=>
   obtain⟨v,j,rfl,x,p⟩:=G;cases m with
   |zero=>
    simp at e;subst e;exact⟨v,j,rfl,.inl ⟨rfl,x⟩,p⟩
   |succ m=>exact⟨v,j,rfl,x,J (by simpa using e) j p⟩
theorem Qk3{j i s g n k:Nat}{x:Blk}(y:lk env s=.osl i g n k)(l:H[i]?=some x)(u:Nat.ble j H.length=true):Le j env H (up env s (.osl H.length g n k)) (H.set i .dead++[x]):=by
 intro G f σ N a w r;have B:i<σ.length:=by rw[r.sim.len];exact(XL.1 l).1
 have hσ:σ[i]?=some σ[i]:=XK B;have ext:Ext f σ w f (σ++[σ[i]]) w:=⟨λ_ q=>q,λ_ _=>rfl,λ_ _ q=>q,λ_ _ h=>Qae h⟩;refine⟨f,σ++[σ[i]],⟨r.sim.moved l hσ,?_,r.size,r.defers⟩,λ_ q=>q,QB (by rw[r.sim.len];exact XR u)⟩;intro d;simp only[lk];by_cases q:d=s
 .subst q;rw[VF];have:=r.env d;rw[y]at this;rcases this with h|⟨b,p,e,t,m,z,F⟩
  .exact .inl h
  .refine .inr ⟨b,p,e,t,m,?_,F⟩;rw[z]at hσ;rw[<- r.sim.len];simpa using hσ.symm
 .have:Nat.beq d s=false:=by
   rw[VM];intro E;exact q (XQ E)
  rw[this];exact(r.env d).mono ext
def Qbn(n:Int):UInt8:=n.toNat.toUInt8
def QkO(P:Program)(H:Qd)(x:A)(l:List Int):Prop:=
 ∀fr ro σ w v,Sim fr ro σ H w->VR ro σ w x v->(∃a c,v=.slice a 0 c/\l=[])\/ ∃b off c,v=.slice (some ⟨b,off,none⟩) l.length c/\(l=[]\/CR ro σ w b (l.map λn=>A.int .u8 n) off)
theorem QgT:∀(l:List Int),(l.map (λn=>[A.int .u8 n])).flatten=l.map λn=>A.int .u8 n
 |[]=>rfl
 |n::l=>by simp[QgT l]
theorem QkO.nils:QkO P H .nils []:=λfr ro σ w v s h=>.inl ⟨none,0,h,rfl⟩
theorem QkO.row{i t n:Nat}{l:List Int}(k:H[i]?=some (.row t 1 (l.map λn=>[A.int .u8 n])):=by exact rfl)(hn:l.length=n:=by exact rfl):QkO P H (.osl i 0 n 1) l:=by
 intro y x σ w v s h;rcases h with⟨rfl,rfl⟩|⟨b,p,a,u,m,g,rfl,q,⟨B,r⟩,z,E⟩
 .exact .inl ⟨none,0,rfl,VJ.1 hn⟩
 .refine .inr ⟨b,p,a,by rw[hn],?_⟩;by_cases e:l=[]
  .exact .inl e
  .have:0<a:=by have:=List.length_pos_iff.2 e;omega
   obtain rfl:=q this;obtain⟨F,f,j⟩:=s.blk i _ _ g k;have d:=(Yq (pre:=[]) (by simpa using f) j).flat.1;rw[QgT]at d;exact .inr (by simpa using d.lift)
theorem QkO.rsl{l:List Int}:QkO P H (.rsl 1 (l.map λn=>[A.int .u8 n])) l:=by
 intro i h σ w v s ⟨a,c,h1,h2,d⟩;subst h1;rw[X2]at*;rcases d with d|⟨b,e,rfl,j,g⟩
 .have:l=[]:=List.map_eq_nil_iff.1 d;subst this;exact .inl ⟨a,c,by simp,rfl⟩
 .have f:=g.flat.1;rw[QgT]at f;exact .inr ⟨b,e,c,rfl,.inr f.lift⟩
theorem Qb9{ro:Nat->Prop}{σ:Sig}{w:World}{b:Nat}:∀(l:List Int) (off:Nat) (a:ByteArray),CR ro σ w b (l.map λn=>A.int .u8 n) off->(Extern.Bytes.loadBytes ⟨b,off,none⟩ l.length a).run P w=.ok ⟨a.data++(l.map Qbn).toArray⟩ w
 |[],off,a,_=>by simp[Extern.Bytes.loadBytes,go_sem]
 |n::l,off,a,⟨⟨v,h1,hp,h2⟩,h3⟩=>by
  have h2':v=.int .u8 n:=h2;subst h2';have ih:=Qb9 l (off+1) (a.push n.toNat.toUInt8) h3;have hl:(Go.load ⟨b,off,none⟩).run P w=.ok (.int .u8 n) w:=by simp[Go.load,Sem.run,h1]
  simp only[X0,Extern.Bytes.loadBytes,Vm,hl,Result.andThen];have d:(⟨b,off,none⟩:Addr).add 1=⟨b,off+1,none⟩:=by simp[YV]
  rw[d,ih];simp[Qbn,ByteArray.push]
theorem QdH{fr ro:Nat->Prop}{σ:Sig}{w:World}{x:A}{l:List Int}{v:Value}(h:QkO P H x l)(s:Sim fr ro σ H w)(f:VR ro σ w x v):(Extern.Bytes.bytesOf v).run P w=.ok ⟨(l.map Qbn).toArray⟩ w:=by
 rcases h fr ro σ w v s f with⟨a,c,rfl,rfl⟩|⟨b,d,c,rfl,e⟩
 .cases a with
  |none=>simp[Extern.Bytes.bytesOf,go_sem];rfl
  |some a=>simp[Extern.Bytes.bytesOf,Extern.Bytes.loadBytes,go_sem];rfl
 .rcases e with rfl|e
  .simp[Extern.Bytes.bytesOf,Extern.Bytes.loadBytes,go_sem];rfl
  .have:=Qb9 (P:=P) l d .empty e;simp only[Extern.Bytes.bytesOf,this];congr 2;simp[ByteArray.empty,ByteArray.emptyWithCapacity];rfl
def cmpB(l m:List Int):Int:=Lib.compareBytes (l.map Qbn) (m.map Qbn)
theorem OpV.cmpB{c:Call}{f:FuncId}{fn:Func}{x y:Operand}{s:Array TypeId}{ax h:A}{l m:List Int}(z:P.funcs[f]?=some fn)(b:(fn.name=="runtime.NumGoroutine")=false)(i:fn.body.isNone=true)(j:Extern.findNext fn=none)(he:Extern.find fn=some Extern.BytealgCompare.compare)
  (n:QkO P H ax l)(B:QkO P H h m)(u:o.op=.call c:=by exact rfl)(hc:c={callee:=.value (.func f),args:= #[x,y],argTypes:=s}:=by exact rfl)(hx:opA env x=ax:=by exact rfl)(hy:opA env y=h:=by exact rfl):OpV P o env H (.int .i64 (cmpB l m)):=by
 intro F E σ N a w r;have d:=Qi r x;rw[hx]at d;have g:=Qi r y;rw[hy]at g;have k:=QdH n r.sim d;have t:=QdH B r.sim g;refine⟨.int .i64 (Sw.cmpB l m),?_,rfl⟩;subst hc;have e:a.eval (.func f)=.func (.func f) #[] #[]:=rfl;have p:(callFunc f #[a.eval x,a.eval y]).run P w=.ok (.value (.int .i64 (Sw.cmpB l m))) w:=by
  rw[run_callFunc_extern z b i j he];have q:Sem.run P (Extern.BytealgCompare.compare #[a.eval x,a.eval y]) w=.ok (.int .i64 (Sw.cmpB l m)) w:=by
   change Sem.run P (do pure (goInt (Extern.BytealgCompare.cmp (<- Extern.Bytes.bytesOf (a.eval x)) (<- Extern.Bytes.bytesOf (a.eval y))))) w=_;simp only[Vm,k,t,Result.andThen,Vn,Lib.cmp_eq];rfl
  rw[q];rfl
 generalize a.eval=ρ at*;simp only[execOp,u,resolve,e,Deferred.ofValue,invoke,Vm,Vn,Result.andThen];simpa using p
theorem YJ{t s n k b off j:Nat}{x y:Operand}{i:Int}{p:IntKind}(g:(i==(j:Int))=true)(z:Nat.blt j n=true)(E:∀w,(underlying t).run P w=.ok (.array n s) w)(G:∀w,(sizeOf s).run P w=.ok k w)(l:Nat.ble 2 n=true)
  (L:o.op=.indexAddr t x y:=by exact rfl)(hx:opA env x=.ptr b off:=by exact rfl)(hy:opA env y=.int p i:=by exact rfl):OpV P o env H (.ptr b (off+j*k)):=by
 intro Q O σ N a w r;have e:=Qi r x;rw[hx]at e;obtain⟨f,e,B⟩:=e;have u:=Qi r y;rw[hy]at u;have h:a.eval y=.int p i:=u;have M:i=(j:Int):=by simpa using g
 have m:j<n:=by simpa using z
 have J:2<=n:=XR l;subst M;refine⟨.pointer (some ⟨f,off+j*k,none⟩),?_,f,e,rfl⟩;have F:0<=(j:Int)/\(j:Int)<(n:Int):=by omega
 have d:(⟨f,off,none⟩:Addr).add ((j:Int).toNat*k)=⟨f,off+j*k,none⟩:=by
  unfold Addr.add;split
  .rename_i q;simp at q;simp[q]
  .simp
 generalize a.eval=ρ at*;simp[execOp,L,B,h,Instr.indexAt,asIntOf,E,G,Instr.sureAddr,F,d,go_sem,Result.andThen,m]
end
theorem QlU{P:Program}{W:World}{name:String}{d:DataW Unit}:∀{a:List (String×DataW Unit)} {ps:List MemPlace},DataW.LaidVars P W a ps->(name,d)∈a->
  ∃(g:Nat) (t:TypeId) (cs:Array Value) (b:Nat) (p:List MemPlace),P.globalNamed name=some g/\(P.globals[g]?).map (·.type)=some t/\W.var? P name=some cs/\DataW.trod (λ_=>()) P W 0 (λ_=>true) false b t cs.toList=some (d,p):=by
 intro a
 induction a with
 |nil=>simp
 |cons x a l=>
  intro ps h n;obtain⟨g,t,cs,b,p,q,f,m,i,e,j,k⟩:=h
  grind
theorem Yb{P:Program}{W:World}{name:String}{a b:Int}{g t e:Nat}{i j:Field}{d:List (String×DataW Unit)}{ps:List MemPlace}(h:DataW.LaidVars P W d ps)(y:(name,DataW.agg [.lit (.int .i64 a),.lit (.int .i64 b)])∈d)
  (hg:P.globalNamed name=some g)(m:(P.globals[g]?).map (·.type)=some t)(z:P.underlying t=some (.struct #[i,j]))(N:i.type=e)(w:j.type=e)(Q:i.offset=0)(H:j.offset=1)(he:P.underlying e=some (.int .i64))(f:P.cellsOf e=1)(l:P.cellsOf t=2):
  W.cell? ⟨g,0,none⟩=some (.int .i64 a)/\W.cell? ⟨g,1,none⟩=some (.int .i64 b):=by
 obtain⟨T,t',Y,r,p,E,x,q,B⟩:=QlU h y;obtain rfl:=XZ (hg.symm.trans E);obtain rfl:=XZ (m.symm.trans x);obtain⟨X,y1,n,V,M,u,s⟩:=Go.ChangeShapes.trod_struct2 z B;rw[N,Q,f]at u;rw[w,H,f]at s;obtain⟨L,O,F,_⟩:=DataW.trod_int he u;obtain⟨J,R,G,_⟩:=DataW.trod_int he s;subst F G;have k:a=L/\b=J:=by grind
 obtain⟨rfl,rfl⟩:=k;rw[World.var?_cell hg q,World.var?_cell hg q];rw[l]at M;constructor
 .have:=congrArg (·[0]?) O
  grind
 .have:=congrArg (·[0]?) R
  grind
theorem Jf{w:World}{g:Nat}{a b:Int}(s:w.cell? ⟨g,0,none⟩=some (.int .i64 a)/\w.cell? ⟨g,1,none⟩=some (.int .i64 b)):∀(zs:List Int),some [a,b]=some zs->∀(i:Nat) (z:Int),zs[i]?=some z->w.cell? ⟨g,i,none⟩=some (.int .i64 z)
 |zs,h,0,z,hi=>by grind
 |zs,h,1,z,hi=>by grind
 |zs,h,i+2,z,hi=>by grind
def Qbk:Option Blk->Bool
 |some .dead=>true
 |_=>false
def Qap(hB hE:Nat)(H H':Qd):Bool:=(List.range (hE-hB)).all λp=> !Qbk H'[hB+p]? ||Qbk H[hB+p]?
def Qj4(hB hE:Nat)(σ:Sig)(H:Qd):Prop:=∀p,hB<=p->p<hE->Qbk H[p]?=true->σ[p]?=some none
theorem QkE{hB hE:Nat}{H H':Qd}(h:Qap hB hE H H'=true){p:Nat}(b:hB<=p)(d:p<hE)(a:Qbk H'[p]?=true):Qbk H[p]?=true:=by
 have:=Xs.1 h (p-hB) (List.mem_range.2 (by omega));rw[show hB+(p-hB)=p by omega,a]at this;simpa using this
theorem Sim.allocAt{fr ro:Nat->Prop}{σ:Sig}{H:Qd}{w:World}(s:Sim fr ro σ H w){p:Nat}(G:σ[p]?=some none){obj:Obj}{x:Blk}
  (O:BR ro (σ.set p (some w.heap.size)) (w.alloc obj) x (some w.heap.size))
  (E:∀c,Hid (w.alloc obj) x w.heap.size c->False:=by exact λ_ h=>h.elim):Sim fr ro (σ.set p (some w.heap.size)) (H.set p x) (w.alloc obj):=by
 have ev:Qh fr ro w ro (w.alloc obj):=Qh.alloc obj s.roLt s.frLt;have u:=s.len;have F:p<σ.length:=(XL.1 G).1;have t:Ext ro σ w ro (σ.set p (some w.heap.size)) (w.alloc obj):=⟨ev.sub,ev.keepRo,ev.shape,λi b q=>by
  rw[XP (λz=>by subst z;rw[G]at q;cases q)];exact q⟩
 have e:∀(i:Nat) (y:Option Nat),(σ.set p (some w.heap.size))[i]?=some y->(i≠p/\σ[i]?=some y)\/(i=p/\y=some w.heap.size):=by
  intro i y h;by_cases q:i=p
  .subst q;rw[Xa F]at h;exact .inr ⟨rfl,(XZ h).symm⟩
  .rw[XP (λz=>q z.symm)]at h;exact .inl ⟨q,h⟩
 have n:∀i:Nat,i≠p->(H.set p x)[i]?=H[i]? :=λi P=>XP (λz=>P z.symm);have M:(H.set p x)[p]?=some x:=Xa (by omega);refine⟨by simp[u],s.roOk.to (λ_ q=>q) ev.keepRo (λb h=>?_),λb h=>?_,s.roFr,?_,?_,?_,s.hidTo (· = ·) Q2 (by rw[YU];omega) (λ_ _ _ _ _ _ _ q=>q) (λ_ _ _ _ _ _ _ q=>q) λj d y l k Q=>?_⟩
 rotate_left 5
 .rcases e j _ l with⟨q,l⟩|⟨rfl,m⟩
  .rw[n j q]at k;exact .inl ⟨j,y,rfl,l,k,id,λc q=>s.hidKeep l k (λz=>Yo w obj d (s.own j d y l k z).1) ev.keepRo q⟩
  .rw[M]at k;cases k;cases m;exact .inr ⟨XT _,E⟩
 .rw[YU];have:=s.roLt b h;omega
 .rw[YU];have:=s.frLt b h;omega
 .intro i b y g f r;rw[YU];rcases e i _ g with⟨q,g⟩|⟨rfl,m⟩
  .rw[n i q]at f;obtain⟨a,b,c⟩:=s.own i b y g f r;exact⟨by omega,b,c⟩
  .cases m;exact⟨by omega,λq=>by have:=s.roLt _ q;omega,λq=>by have:=s.frLt _ q;omega⟩
 .intro i j b y z g f r B J L;rcases e i _ g with⟨q,l⟩|⟨N,m⟩<;>rcases e j _ f with⟨q',k⟩|⟨ej,e2⟩
  .rw[n i q]at r;rw[n j q']at B;exact s.inj i j b y z l k r B J L
  .cases e2;rw[n i q]at r;have:=(s.own i _ y l r J).1;omega
  .cases m;rw[n j q']at B;have:=(s.own j _ z k B L).1;omega
  .rw[N,ej]
 .intro i y z g f;rcases e i _ g with⟨q,g⟩|⟨rfl,m⟩
  .rw[n i q]at f;refine(s.blk i y z g f).keep t ?_ ?_
   .rintro b rfl u;exact Yo w obj b (s.own i b z g f u).1
   .rintro b c rfl u;exact Yo w obj c (s.hid i b z c g f u).lt
  .rw[M]at f;cases f;subst m;exact O
def OpZ(P:Program)(o:Oper)(t:Nat)(cs:List A):Prop:=
 ∀(ro:Nat->Prop) (σ:Sig) (w:World) (a:Act),∃l:List Value,(execOp a.eval o).run P w=.ok (.value (.pointer (some ⟨w.heap.size,0,none⟩))) (w.alloc (.cells l.toArray t))/\LR ro σ w cs l/\ ∀v∈l,Qp v
theorem OpZ.alloc{P:Program}{o:Oper}{t:Nat}{z:Value}{v:A}{cs:List A}(d:∀w,(zeroValue t).run P w=.ok z w)(h:ZR v z)(f:o.op=.alloc t:=by exact rfl)(hk:Yg v=true:=by exact rfl)(hcs:Q5 v=cs:=by exact rfl)(hpl:cs.all Ym=true:=by exact rfl):
  OpZ P o t cs:=by
 intro g σ w a;obtain⟨l,i,b⟩:=(h g σ w).cells hk;subst hcs;refine⟨l,?_,b,b.plain hpl⟩;generalize a.eval=ρ at*;have e:(newVar t z).run P w=.ok ⟨w.heap.size,0,none⟩ (w.alloc (.cells l.toArray t)):=by
  unfold newVar;rw[i];rfl
 simp only[execOp,f,Instr.alloc,Vm,d,Result.andThen,e];rfl
def OpZR(P:Program)(o:Oper)(e:Env)(H:Qd)(p:Nat)(x:A)(B:Blk):Prop:=
 ∀fr ro σ N a w,Rel fr ro σ H e N a w->∃v obj,(execOp a.eval o).run P w=.ok (.value v) (w.alloc obj)/\(∀c,Hid (w.alloc obj) B w.heap.size c->False)/\
  ∀σ',σ'[p]?=some (some w.heap.size)->Ext ro σ w ro σ' (w.alloc obj)->VR ro σ' (w.alloc obj) x v/\BR ro σ' (w.alloc obj) B (some w.heap.size)
theorem QbU{P:Program}{l:List Oper}{i:Nat}{o:Oper}{rd:Option Nat}{R:Exit->Act->World->Prop}{Q:Exit->Act->World->Prop}{K:Act->World->Prop}{a:Act}{w:World}
  (z:l[i]?=some o)(g:wpL P rd l.toArray R [o] a w)(h:∀e a' w',R e a' w'->e=.normal/\a'.defers=a.defers)(k:∀v w',R .normal (a.put o.dst v) w'->K (a.put o.dst v) w'):
  wpOpIn (WF rd) 0 P l.toArray Q i K a w:=by
 unfold wpOpIn;have t:l.toArray[i]?=some o:=by simpa using z
 rw[t];simp only;unfold wpL wpListIn at g;split at g
 .rename_i s;rw[Vt s];obtain⟨j,g⟩:=g;refine⟨j,?_⟩;have d:=Qhp (by
   intro a' w' q;unfold wpListIn at q;exact(h _ _ _ q).2) g
  generalize(o.semAt (WF rd).round a.eval).run P w=res at*;cases res with
  |ok n w'=>
   cases n with
   |value v=>exact k _ _ d.1
   |skip=>exact k _ _ d.1
   |defer E=>
    exfalso;have:=(h _ _ _ d.1).2;have:=congrArg List.length this
    revert this
    cases o.dst<;>simp[Act.put]
   |enter f m=>
    refine⟨d.1,CallsIn.mono d.2 (λe p b=>?_)⟩;cases e with
    |returned v=>exact k _ _ b.1
    |panicked c=>have:=(h _ _ _ b).1;cases this
    |outgrown=>obtain⟨B,w1,b⟩:=b;have:=(h _ _ _ b).1;cases this
   |row r m=>
    exact⟨d.1,RowsIn.mono d.2 (λ_ _ b=>k _ _ b.1)⟩
   |round l f y assign u=>
    refine⟨d.1,RoundIn.mono d.2 (λe p b=>?_)⟩;cases e with
    |returned v=>exact k _ _ b.1
    |panicked c=>have:=(h _ _ _ b).1;cases this
    |outgrown=>obtain⟨B,w1,b⟩:=b;have:=(h _ _ _ b).1;cases this
   |_=>exact d.elim
  |halt x w'=>
   cases x with
   |panic v=>have:=(h _ _ _ d).1;cases this
   |_=>exact d.elim
 .rename_i s;rw[Vs s];obtain⟨j,g⟩:=g;refine⟨j,?_⟩;unfold wpListIn at g;exact k _ _ g
theorem QkD{P:Program}{l:List Oper}{m:Nat}(back:∀i o,l[i]?=some o->∀j∈Qg o,j<i)(g:∀i o,m<i->l[i]?=some o->i-1∈Qg o){Q:Exit->Act->World->Prop}{rd:Option Nat}:
  ∀(b t:Nat) (L:Array Bool) (a:Act) (w:World),L.size=l.length->(∀i,i<l.length->(onL L i↔i<t))->unl L<=b->m<=t->t<=l.length->
   wpL P rd l.toArray Q (l.drop t) a w->wpAnyIn (WF rd) 0 P .any l.toArray Q b L a w:=by
 intro b
 induction b with
 |zero=>
  intro t L a w hsz hL hf hm ht h;have:t=l.length:=by
   rcases VC t l.length with q|q
   .have:=Qjq (L:=L) (i:=t) (by omega) (λz=>by have:=(hL t q).1 z;omega);omega
   .omega
  subst this;refine⟨List.eq_nil_iff_forall_not_mem.2 λi p=>?_,?_⟩
  .obtain⟨o,e,k,_⟩:=(QaE hsz).1 p;have d:=(XL.1 e).1;exact k ((hL i d).2 d)
  .rw[List.drop_length]at h;exact h
 |succ b G=>
  intro t L a w hsz hL hf hm ht h;have s:∀i o,l[i]?=some o->¬onL L i->(∀j∈Qg o,onL L j)->i=t:=by
   intro i o e k u;have d:=(XL.1 e).1;have F:t<=i:=by
    rcases VC i t with q|q
    .exact absurd ((hL i d).2 q) k
    .exact q
   rcases VC t i with q|q
   .have:=(hL (i-1) (by omega)).1 (u _ (g i o (by omega) e));omega
   .omega
  rcases VC t l.length with f|f
  .have B:l[t]?=some l[t]:=XK f;have n:¬onL L t:=λq=>by have:=(hL t f).1 q;omega
   have y:t∈Region.ready .any l.toArray L:=by
    refine(QaE hsz).2 ⟨_,B,n,λj x=>?_⟩;have:=back t _ B j x;exact(hL j (by omega)).2 this
   refine⟨λq=>(by rw[q]at y;cases y),λi p=>?_⟩;obtain⟨o,e,k,u⟩:=(QaE hsz).1 p;obtain rfl:=s i o e k u;rw[Xp f]at h;obtain rfl:l[i]=o:=by rw[XK f]at e;exact XZ e
   unfold wpOpIn;rw[show l.toArray[i]?=some l[i]by rw[XG];exact e];simp only;unfold wpL wpListIn at h;have E:∀a w,wpL P rd l.toArray Q (l.drop (i+1)) a w->wpAnyIn (WF rd) 0 P .any l.toArray Q b (L.setIfInBounds i true) a w:=by
    intro a w q;have H:=QgB (L:=L) (i:=i) (by omega) n;refine G (i+1) _ a w (by simpa using hsz) (λj x=>?_) (by omega) (by omega) (by omega) q;rw[Jg (by omega),hL j x];omega
   split at h
   .rename_i r;rw[Vt r];exact Oper.wpIn_mono E h
   .rename_i r;rw[Vs r];exact⟨h.1,E _ _ h.2⟩
  .have:t=l.length:=by omega
   subst this;rw[List.drop_length]at h;refine⟨λ_=>h,λi p=>?_⟩;obtain⟨o,e,k,_⟩:=(QaE hsz).1 p;have d:=(XL.1 e).1;exact absurd ((hL i d).2 d) k
def Qm7(af ds:List Nat)(xs:List A)(env0 e:Env):Prop:=
 ∀s,(∃j x,af.contains j=true/\ds[j]?=some s/\xs[j]?=some x/\lk e s=x)\/lk e s=.any\/(ds.contains s=false/\lk e s=lk env0 s)
inductive Jd (P:Program) (N:Nat) (l:List Oper) (ds:List Nat) (xs:List A) (env0:Env) (hB hE:Nat) (i:Nat) (H H':Qd):Prop
 |mk (o:Oper) (e:Env) (d:Nat) (x:A) (ho:l[i]?=some o) (hd:o.dst=some d) (hx:xs[i]?=some x) (hdd:Qap hB hE H H'=true) (hs:Sb (Qg o) (Qg5 l i) ds xs env0 e)
   (h:WO P H.length N l.toArray [o] e H (YT (up e d x) H')):Jd P N l ds xs env0 hB hE i H H'
 |unit (o:Oper) (e:Env) (ho:l[i]?=some o) (hd:o.dst=none) (hx:xs[i]?=some .any) (hdd:Qap hB hE H H'=true) (hs:Sb (Qg o) (Qg5 l i) ds xs env0 e)
   (h:WO P H.length N l.toArray [o] e H (YT e H')):Jd P N l ds xs env0 hB hE i H H'
 |alloc (o:Oper) (d t p:Nat) (cs:List A) (ho:l[i]?=some o) (hd:o.dst=some d) (hg:o.guard=none) (hx:xs[i]?=some (.ptr p 0)) (hp:(Nat.ble hB p&&Nat.blt p hE)=true) (hdead:Qbk H[p]?=true)
   (hH:H.set p (.cells t cs)=H') (h:OpZ P o t cs) (hN:Nat.blt d N=true):Jd P N l ds xs env0 hB hE i H H'
 |row (o:Oper) (e:Env) (d p:Nat) (x:A) (B:Blk) (ho:l[i]?=some o) (hd:o.dst=some d) (hg:o.guard=none) (hx:xs[i]?=some x) (hp:(Nat.ble hB p&&Nat.blt p hE)=true) (hdead:Qbk H[p]?=true) (hlive:Qbk (some B)=false)
   (hH:H.set p B=H') (hs:Sb (Qg o) (Qg5 l i) ds xs env0 e) (h:OpZR P o e H p x B) (hN:Nat.blt d N=true):Jd P N l ds xs env0 hB hE i H H'
 |val (o:Oper) (e:Env) (d:Nat) (x:A) (ho:l[i]?=some o) (hd:o.dst=some d) (hg:o.guard=none) (hx:xs[i]?=some x) (hN:Nat.blt d N=true) (he:Qm7 (Qg o) ds xs env0 e) (h:OpV P o e H x)
   (hH:H=H':=by rfl):Jd P N l ds xs env0 hB hE i H H'
 |woE (o:Oper) (e:Env) (d:Nat) (x:A) (ho:l[i]?=some o) (hd:o.dst=some d) (hx:xs[i]?=some x) (he:Qm7 (Qg o) ds xs env0 e) (hdd:Qap hB hE H H'=true) (h:WO P H.length N l.toArray [o] e H (YT (up e d x) H')):Jd P N l ds xs env0 hB hE i H H'
theorem Sb.rel{af bf d:List Nat}{xs:List A}{env0 e:Env}{ro:Nat->Prop}{σ:Sig}{w:World}{a:Act}(g:Sb af bf d xs env0 e)
  (h:∀j∈af,∀s x,d[j]?=some s->xs[j]?=some x->VR ro σ w x (a.tmps.getD s undef))
  (f:∀s,d.contains s=false->VR ro σ w (lk env0 s) (a.tmps.getD s undef))(hP:∀j s,bf.contains j=true->d[j]?=some s->VR ro σ w (lk env0 s) (a.tmps.getD s undef)):
  ∀s,VR ro σ w (lk e s) (a.tmps.getD s undef):=by
 intro s
 induction g with
 |nil=>exact trivial
 | @dep j s1 x1 r h1 h2 h3 _ ih=>
  unfold lk;cases b:Nat.beq s s1 with
  |false=>exact ih
  |true=>
   obtain rfl:=XQ b;exact h j (by simpa using h1) _ _ h2 h3
 | @old s1 x1 r h1 h2 _ ih=>
  unfold lk;cases b:Nat.beq s s1 with
  |false=>exact ih
  |true=>
   obtain rfl:=XQ b;subst h2;exact f _ h1
 | @pre j s1 x1 r h1 h2 h3 _ ih=>
  unfold lk;cases b:Nat.beq s s1 with
  |false=>exact ih
  |true=>
   obtain rfl:=XQ b;subst h3;exact hP j _ h1 h2
structure After (fr ro:Nat->Prop) (σ:Sig) (w:World) (hB hE:Nat) (H':Qd) (xs:List A) (i:Nat) (o:Oper) (a':Act) (w':World) (ro':Nat->Prop) (σ':Sig):Prop where
 val:∀x,xs[i]?=some x->match o.dst with
  |some d=>VR ro' σ' w' x (a'.tmps.getD d undef)
  |none=>x=.any
 sim:Sim fr ro' σ' H' w'
 ev:Qh fr ro w ro' w'
 ext:Ext ro σ w ro' σ' w'
 holes:Qj4 hB hE σ' H'
 take:σ'.take hB=σ.take hB
theorem Jd.use{P:Program}{N:Nat}{l:List Oper}{ds:List Nat}{xs:List A}{env0:Env}{hB hE i:Nat}{H H':Qd}(hb:Jd P N l ds xs env0 hB hE i H H')
  {Q:Exit->Act->World->Prop}{K:Act->World->Prop}{fr ro:Nat->Prop}{σ:Sig}{a:Act}{w:World}{o:Oper}{rd:Option Nat}(O:l[i]?=some o)
  (f:Sim fr ro σ H w)(hN:a.tmps.size=N)(r:Qcf fr a.defers w)(ae:Qdy rd fr w)(hh:Qj4 hB hE σ H)(hl:hE<=H.length)(ak:hB<=hE)
  (hD:∀j∈Qg o,∀s x,ds[j]?=some s->xs[j]?=some x->VR ro σ w x (a.tmps.getD s undef))
  (hO:∀s,ds.contains s=false->VR ro σ w (lk env0 s) (a.tmps.getD s undef))(hP:∀j s,(Qg5 l i).contains j=true->ds[j]?=some s->VR ro σ w (lk env0 s) (a.tmps.getD s undef))
  (hK:∀v w' ro' σ',After fr ro σ w hB hE H' xs i o (a.put o.dst v) w' ro' σ'->K (a.put o.dst v) w'):
  wpOpIn (WF rd) 0 P l.toArray Q i K a w:=by
 have T:∀{e:Env} {H2:Qd} {E:Exit} {u:Act} {w':World},Qbv H.length fr ro σ w N a.defers (YT e H2) E u w'->E=.normal/\u.defers=a.defers:=by
  rintro e H2 E u w' ⟨x,_,_,_,_,_,k,⟨rfl,_⟩,_,_,_,L,_⟩;refine⟨?_,L⟩;cases E<;>first|rfl|exact k.elim|cases k
 have ah:∀{σ':Sig} {w':World},Qh fr ro w ro w'->σ'.take H.length=σ.take H.length->True:=λ_ _=>trivial;have X:∀{e:Env} {u:Act} {w':World},Qbv H.length fr ro σ w N a.defers (YT e H') .normal u w'->Qap hB hE H H'=true->
   ∃ro' σ',Sim fr ro' σ' H' w'/\Qh fr ro w ro' w'/\Ext ro σ w ro' σ' w'/\Qj4 hB hE σ' H'/\σ'.take hB=σ.take hB/\ ∀s,VR ro' σ' w' (lk e s) (u.tmps.getD s undef):=by
  rintro e u w' ⟨_,ai,H2,ro',σ',aj,_,⟨_,rfl,rfl⟩,r',he,ht,_,ag⟩ J;have hσ:σ'=σ++σ'.drop H.length:=by
   conv=>lhs;rw[<- Xz H.length σ']
   rw[ht, <- f.len,X9]
  refine⟨ro',σ',r'.sim.frMono ag.sub,he,?_,?_,?_,r'.env⟩
  .rw[hσ];exact he.ext σ _
  .intro p k L h3;have:=hh p k L (QkE J k L h3);rw[hσ,XM (by rw[f.len];omega)];exact this
  .rw[hσ];exact QB (by rw[f.len];omega)
 cases hb with
 |woE n e d x g M hx he J h=>
  obtain rfl:n=o:=XZ (g.symm.trans O);have hr:∀s,VR ro σ w (lk e s) (a.tmps.getD s undef):=λs=>by
   rcases he s with⟨j,x,k,L,h3,V⟩|V|⟨k,V⟩
   .rw[V];exact hD j (by simpa using k) s x L h3
   .rw[V];exact trivial
   .rw[V];exact hO s k
  refine QbU O (h rd fr ro σ a w ⟨f,hr,hN,r⟩ ae) (λ_ _ _ q=>T q) (λv w' q=>?_);obtain⟨ro',σ',g1,g2,G,g4,g5,g6⟩:=X q J;refine hK v w' ro' σ' ⟨λy Y=>?_,g1,g2,G,g4,g5⟩;obtain rfl:=XZ (hx.symm.trans Y);have:=g6 d;unfold lk at this;rw[VF]at this;rw[M]at this⊢;exact this
 |mk n e d x g M hx J hs h=>
  obtain rfl:n=o:=XZ (g.symm.trans O);refine QbU O (h rd fr ro σ a w ⟨f,hs.rel hD hO hP,hN,r⟩ ae) (λ_ _ _ q=>T q) (λv w' q=>?_);obtain⟨ro',σ',g1,g2,G,g4,g5,g6⟩:=X q J;refine hK v w' ro' σ' ⟨λy Y=>?_,g1,g2,G,g4,g5⟩;obtain rfl:=XZ (hx.symm.trans Y);have:=g6 d;unfold lk at this;rw[VF]at this;rw[M]at this⊢;exact this
 |unit n e g M hx J hs h=>
  obtain rfl:n=o:=XZ (g.symm.trans O);refine QbU O (h rd fr ro σ a w ⟨f,hs.rel hD hO hP,hN,r⟩ ae) (λ_ _ _ q=>T q) (λv w' q=>?_);obtain⟨ro',σ',g1,g2,G,g4,g5,g6⟩:=X q J;refine hK v w' ro' σ' ⟨λy Y=>?_,g1,g2,G,g4,g5⟩;obtain rfl:=XZ (hx.symm.trans Y);rw[M]
 |val n e d x g M hg hx W he h hH=>
  obtain rfl:n=o:=XZ (g.symm.trans O);subst hH;have hr:Rel fr ro σ H e N a w:=by
   refine⟨f,λs=>?_,hN,r⟩;rcases he s with⟨j,x,k,L,h3,V⟩|V|⟨k,V⟩
   .rw[V];exact hD j (by simpa using k) s x L h3
   .rw[V];exact trivial
   .rw[V];exact hO s k
  obtain⟨v0,k,L⟩:=h fr ro σ N a w hr;have hw:Region.wanted n (yielded l.toArray a.tmps)=true:=by unfold Region.wanted;rw[hg]
  refine QbU (R:=λE u w'=>E=.normal/\u.defers=a.defers/\u=a.put n.dst v0/\w'=w) O (Qac hw k ?_) (λ_ _ _ q=>⟨q.1,q.2.1⟩) (λv w' q=>?_)
  .unfold wpL wpListIn;refine⟨rfl,?_,rfl,rfl⟩;rw[M];rfl
  .obtain⟨_,_,q1,rfl⟩:=q;refine hK v _ ro σ ⟨λy Y=>?_,f,Qh.refl _ _ _,⟨λ_ q=>q,λ_ _=>rfl,λ_ _ q=>q,λ_ _ q=>q⟩,hh,rfl⟩;obtain rfl:=XZ (hx.symm.trans Y);rw[q1,M];have aa:d<a.tmps.size:=by rw[hN];simpa using W
   show VR ro σ w' x _;simpa[Act.put,Array.getD_eq_getD_getElem?,aa]using L
 |row n e d p x B g M hg hx hp F hlive hH hs h W=>
  obtain rfl:n=o:=XZ (g.symm.trans O);subst hH;simp only[XW]at hp;have ab:=XR hp.1;have ad:p<hE:=by simpa using hp.2
  have hσp:=hh p ab ad F;have hr:Rel fr ro σ H e N a w:=⟨f,hs.rel hD hO hP,hN,r⟩;obtain⟨v0,ac,k,L,h3⟩:=h fr ro σ N a w hr;have hw:Region.wanted n (yielded l.toArray a.tmps)=true:=by unfold Region.wanted;rw[hg]
  have ev:Qh fr ro w ro (w.alloc ac):=Qh.alloc _ f.roLt f.frLt;have af:p<σ.length:=by rw[f.len];omega
  have m:Ext ro σ w ro (σ.set p (some w.heap.size)) (w.alloc ac):=⟨ev.sub,ev.keepRo,ev.shape,λj b q=>by
   rw[XP (λz=>by subst z;rw[hσp]at q;cases q)];exact q⟩
  obtain⟨g8,g9⟩:=h3 _ (Xa af) m;refine QbU (R:=λE u w'=>E=.normal/\u.defers=a.defers/\u=a.put n.dst v0/\w'=w.alloc ac) O (Qac hw k ?_) (λ_ _ _ q=>⟨q.1,q.2.1⟩) (λv w' q=>?_)
  .unfold wpL wpListIn;refine⟨rfl,?_,rfl,rfl⟩;rw[M];rfl
  .obtain⟨_,_,q1,rfl⟩:=q;refine hK v _ ro (σ.set p (some w.heap.size)) ⟨λy Y=>?_,f.allocAt hσp g9 L,ev,m,λp' g1 g2 G=>?_,?_⟩
   .obtain rfl:=XZ (hx.symm.trans Y);rw[q1,M];have aa:d<a.tmps.size:=by rw[hN];simpa using W
    show VR ro _ _ x _;simpa[Act.put,Array.getD_eq_getD_getElem?,aa]using g8
   .by_cases q:p'=p
    .subst q;rw[Xa (by omega),hlive]at G;cases G
    .rw[XP (λz=>q z.symm)]at G⊢;exact hh p' g1 g2 G
   .rw[List.take_set,List.set_eq_of_length_le];rw[Xy];omega
 |alloc n d t p cs g M hg hx hp F hH h W=>
  obtain rfl:n=o:=XZ (g.symm.trans O);subst hH;simp only[XW]at hp;have ab:=XR hp.1;have ad:p<hE:=by simpa using hp.2
  have hσp:=hh p ab ad F;obtain⟨lv,k,L,h3⟩:=h ro σ w a;have hw:Region.wanted n (yielded l.toArray a.tmps)=true:=by unfold Region.wanted;rw[hg]
  have ev:Qh fr ro w ro (w.alloc (.cells lv.toArray t)):=Qh.alloc _ f.roLt f.frLt;have af:p<σ.length:=by rw[f.len];omega
  have m:Ext ro σ w ro (σ.set p (some w.heap.size)) (w.alloc (.cells lv.toArray t)):=⟨ev.sub,ev.keepRo,ev.shape,λj b q=>by
   rw[XP (λz=>by subst z;rw[hσp]at q;cases q)];exact q⟩
  refine QbU (R:=λE u w'=>E=.normal/\u.defers=a.defers/\u=a.put n.dst (.pointer (some ⟨w.heap.size,0,none⟩))/\w'=w.alloc (.cells lv.toArray t)) O (Qac hw k ?_) (λ_ _ _ q=>⟨q.1,q.2.1⟩) (λv w' q=>?_)
  .unfold wpL wpListIn;refine⟨rfl,?_,rfl,rfl⟩;rw[M];rfl
  .obtain⟨_,_,q1,rfl⟩:=q;refine hK v _ ro (σ.set p (some w.heap.size)) ⟨λy Y=>?_,f.allocAt hσp ⟨lv,QY _ _,L.mono m,h3⟩,ev,m,λp' g1 g2 G=>?_,?_⟩
   .obtain rfl:=XZ (hx.symm.trans Y);rw[q1,M];have aa:d<a.tmps.size:=by rw[hN];simpa using W
    refine⟨w.heap.size,Xa af,?_⟩;simp[Act.put,Array.getD_eq_getD_getElem?,aa]
   .by_cases q:p'=p
    .subst q;rw[Xa (by omega)]at G;cases G
    .rw[XP (λz=>q z.symm)]at G⊢;exact hh p' g1 g2 G
   .rw[List.take_set,List.set_eq_of_length_le];rw[Xy];omega
def same(a b:List Nat):Bool:=a.all (b.contains ·)&&b.all (a.contains ·)
theorem Qnm{a b:List Nat}(h:same a b=true)(i:Nat):i∈a↔i∈b:=by
 unfold same at h;simp only[XW,Xs,List.contains_iff_mem]at h;exact⟨h.1 i,h.2 i⟩
structure Qna (l:List Oper) (m:Nat) (ds:List Nat) (hs:List Bool) (rq ms:List (List Nat)) (pl:List (List (Nat×Nat))) (N:Nat):Prop where
 len:m<=l.length
 dst:∀i o,i<m->l[i]?=some o->(∃d,o.dst=some d/\ds[i]?=some d/\d<N)\/o.dst=none
 dsl:ds.length=m
 nodup:∀(i j d:Nat),ds[i]?=some d->ds[j]?=some d->i=j
 back:∀i o,l[i]?=some o->∀j∈Qg o,j<i
 mid:∀o,l[m]?=some o->∀j,j<m->Qce l m j
 chain:∀i o,m<i->l[i]?=some o->i-1∈Qg o
 rqs:∀i o,i<m->l[i]?=some o->∀h∈rq.getD i [],h<m/\hs.getD h false=true/\(h∈Qg o\/ ∃j∈Qg o,j<m/\h∈rq.getD j [])
 ms0:ms.getD 0 []=[]
 full:∀st,st<ms.length->st+1=ms.length\/ ∃i,i<m/\hs.getD i false=true/\i∉ms.getD st []
 msh:∀st h,h∈ms.getD st []->h<m/\hs.getD h false=true
 pls:∀i st,i<m->st<ms.length->(∀h∈rq.getD i [],h∈ms.getD st [])->(hs.getD i false=true->i∉ms.getD st [])->(∀h∈ms.getD st [],¬Qce l h i)->
  ∃st',(st,st')∈pl.getD i []/\st'<ms.length/\if hs.getD i false then∀j,j∈ms.getD st' []↔j=i\/j∈ms.getD st []else st'=st
theorem Qof{α:Type}{l:List α}{i:Nat}{d x:α}(h:l[i]?=some x):l.getD i d=x:=by rw[VL,h];rfl
theorem Qh8{P:Program}{l:List Oper}{m:Nat}{ds:List Nat}{hs:List Bool}{rq W:List (List Nat)}{pl:List (List (Nat×Nat))}{N h0 hB hE:Nat}{xs:List A}{env0:Env}{Hs:List Qd}{Hk:Qd}
  (ok:Qna l m ds hs rq W pl N)(a2:xs.length=m)(bc:Hs.length=W.length)(aw:h0<=hB)(a3:hB<=hE)(a5:∀H∈Hs,hE<=H.length)
  (a0:∀i p,i<m->p∈pl.getD i []->Jd P N l ds xs env0 hB hE i (Hs.getD p.1 []) (Hs.getD p.2 []))(ay:Hs.getD (W.length-1) []=Hk)
  {fr ro0:Nat->Prop}{σ0:Sig}{w0:World}{rd:Option Nat}{ds0:List Deferred}{R:Exit->Act->World->Prop}
  (hk:∀ro σ a w,Rel fr ro σ Hk (Qar ds xs env0) N a w->Qh fr ro0 w0 ro w->σ.take h0=σ0.take h0->a.defers=ds0->wpL P rd l.toArray R (l.drop m) a w)(ai:Qcf fr ds0 w0)(a8:Qdy rd fr w0):
  ∀(b:Nat) (L:Array Bool) (a:Act) (w:World) (ro:Nat->Prop) (σ:Sig) (t:Nat),
   L.size=l.length->unl L<=b->(∀i,m<=i->¬onL L i)->t<W.length->Sim fr ro σ (Hs.getD t []) w->a.tmps.size=N->a.defers=ds0->
   (∀(i d:Nat) (x:A),onL L i->ds[i]?=some d->xs[i]?=some x->VR ro σ w x (a.tmps.getD d undef))->(∀s,(∀j,ds[j]?=some s->¬onL L j)->VR ro σ w (lk env0 s) (a.tmps.getD s undef))->
   Qh fr ro0 w0 ro w->σ.take h0=σ0.take h0->Qj4 hB hE σ (Hs.getD t [])->
   (∀i,i<m->onL L i->∀h∈rq.getD i [],onL L h)->(∀i,i<m->hs.getD i false=true->(onL L i↔i∈W.getD t []))->
   (∀i o,onL L i->l[i]?=some o->∀j∈Qg o,onL L j)->
   wpAnyIn (WF rd) 0 P .any l.toArray R b L a w:=by
 have aq:∀t,t<W.length->hE<=(Hs.getD t []).length:=by
  intro t h;have e:Hs[t]?=some Hs[t]:=XK (by omega);rw[Qof e];exact a5 _ (Vd _)
 have fin:∀(b:Nat) (L:Array Bool) (a:Act) (w:World) (ro:Nat->Prop) (σ:Sig) (t:Nat),
   L.size=l.length->unl L<=b->(∀i,m<=i->¬onL L i)->t<W.length->Sim fr ro σ (Hs.getD t []) w->a.tmps.size=N->a.defers=ds0->
   (∀(i d:Nat) (x:A),onL L i->ds[i]?=some d->xs[i]?=some x->VR ro σ w x (a.tmps.getD d undef))->(∀s,(∀j,ds[j]?=some s->¬onL L j)->VR ro σ w (lk env0 s) (a.tmps.getD s undef))->
   Qh fr ro0 w0 ro w->σ.take h0=σ0.take h0->
   (∀i,i<m->hs.getD i false=true->(onL L i↔i∈W.getD t []))->(∀i,i<m->onL L i)->
   wpAnyIn (WF rd) 0 P .any l.toArray R b L a w:=by
  intro b L a w ro σ t hsz hu hsuf hst hsim hN hdef hD hE' hev htk hI2 k;have ak:t=W.length-1:=by
   rcases ok.full t hst with q|⟨i,O,X,h3⟩
   .omega
   .exact absurd ((hI2 i O X).1 (k i O)) h3
  rw[ak,ay]at hsim;refine QkD ok.back ok.chain b m L a w hsz (λi hi=>⟨λq=>?_,λq=>k i q⟩) hu (XT _) ok.len ?_
  .rcases VC i m with z|z
   .exact z
   .exact absurd q (hsuf i z)
  .have hr:Rel fr ro σ Hk (Qar ds xs env0) N a w:=by
    refine⟨hsim,λs=>?_,hN,by rw[hdef];exact ai.keep hev⟩;rcases Qnw (env0:=env0) (by rw[ok.dsl,a2]) s with⟨j,x,O,X,h3⟩|⟨O,X⟩
    .rw[h3];have f:j<m:=by have:=(XL.1 O).1;rw[ok.dsl]at this;exact this
     exact hD j s x (k j f) O X
    .rw[X];exact hE' s (λj q=>absurd (VH q) (by simpa using O))
   exact hk ro σ a w hr hev htk hdef
 intro b
 induction b with
 |zero=>
  intro L a w ro σ t hsz hu hsuf hst hsim hN hdef hD hE' hev htk hho hI1 hI2 hcl;refine fin 0 L a w ro σ t hsz hu hsuf hst hsim hN hdef hD hE' hev htk hI2 (λi hi=>?_);by_cases q:onL L i
  .exact q
  .have:=Qjq (L:=L) (i:=i) (by have:=ok.len;omega) q;omega
 |succ b ih=>
  intro L a w ro σ t hsz hu hsuf hst hsim hN hdef hD hE' hev htk hho hI1 hI2 hcl;by_cases k:∀i,i<m->onL L i
  .exact fin (b+1) L a w ro σ t hsz hu hsuf hst hsim hN hdef hD hE' hev htk hI2 k
  .have av:∃i,i<m/\ ¬onL L i:=by
    refine Classical.byContradiction λq=>k λi hi=>Classical.byContradiction λz=>q ⟨i,hi,z⟩
   obtain⟨n,hn,an⟩:=av;obtain⟨i0,O,X,h3⟩:=least (p:=λi=>¬onL L i) (λi=>Classical.em _) n an;have ba:=ok.len;have am:l[i0]?=some l[i0]:=XK (by omega);have hr:i0∈Region.ready .any l.toArray L:=(QaE hsz).2 ⟨_,am,X,λj f=>Classical.byContradiction λz=>h3 j (ok.back i0 _ am j f) z⟩;refine⟨λq=>(by rw[q]at hr;cases hr),λi hi=>?_⟩;obtain⟨o,T,aa,G⟩:=(QaE hsz).1 hi;have B:i<m:=by
    rcases VC i m with q|q
    .exact q
    .exfalso;rcases VC m i with z|z
     .exact hsuf (i-1) (by omega) (G _ (ok.chain i o z T))
     .have:i=m:=by omega
      subst this;have a4:∀j,Qce l i j->onL L j:=by
       intro j f
       induction f with
       |one r f=>rw[T]at r;cases r;exact G _ f
       |step _ r f ihr=>exact hcl _ _ ihr r _ f
      exact an (a4 n (ok.mid o T n hn))
   have aj:∀h∈rq.getD i [],onL L h:=by
    intro h V;obtain⟨_,_,q|⟨j,q1,q2,q3⟩⟩:=ok.rqs i o B T h V
    .exact G h q
    .exact hI1 j q2 (G j q1) h q3
   obtain⟨ax,ao,a7,J⟩:=ok.pls i t B hst (λh V=>by
    obtain⟨q1,q2,_⟩:=ok.rqs i o B T h V;exact(hI2 h q1 q2).1 (aj h V)) (λq z=>aa ((hI2 i B q).2 z)) (λh V hR=>by
    obtain⟨q1,q2⟩:=ok.msh t h V;have a1:onL L h:=(hI2 h q1 q2).2 V;have ag:∀j,Qce l h j->onL L j:=by
     intro j f
     induction f with
     |one r f=>exact hcl _ _ a1 r _ f
     |step _ r f ihr=>exact hcl _ _ ihr r _ f
    exact aa (ag i hR))
   have hb:=a0 i _ B ao;refine hb.use T hsim hN (by rw[hdef];exact ai.keep hev) (a8.to hev λ_ q=>q) hho (aq t hst) a3 (λj f s x q1 q2=>hD j s x (G j f) q1 q2) (λs O=>hE' s (λj q=>absurd (VH q) (by simpa using O))) (λj s O X=>hE' s (λj' q q'=>?_)) ?_
   .obtain rfl:=ok.nodup j' j s q X;have f:=Xd.1 (List.contains_iff_mem.1 O);cases ae:l[j']? with
    |none=>rw[ae]at f;simp at f
    |some oj=>
     rw[ae]at f;exact aa (hcl j' oj q' ae i (by simpa using f.2))
   intro v w' az σ' af;have ab:=af.ext;have ac:∀s,(∀d,o.dst=some d->s≠d)->(a.put o.dst v).tmps.getD s undef=a.tmps.getD s undef:=by
    intro s a9;cases Y:o.dst with
    |none=>rfl
    |some d=>
     simp only[Act.put,Array.getD_eq_getD_getElem?,Ve];rw[Vs (λq=>a9 d Y q.symm)]
   have ad:(a.put o.dst v).tmps.size=N:=by
    cases Y:o.dst with
    |none=>simpa[Act.put]using hN
    |some d=>simpa[Act.put]using hN
   have a6:(a.put o.dst v).defers=ds0:=by
    cases Y:o.dst with
    |none=>simpa[Act.put]using hdef
    |some d=>simpa[Act.put]using hdef
   have bb:=QgB (L:=L) (i:=i) (by omega) aa;have u:i<L.size:=by omega
   have ar:∀s j,ds[j]?=some s->j≠i->∀d,o.dst=some d->s≠d:=by
    intro s j f E d Y q;subst q;rcases ok.dst i o B T with⟨d',g,Q,al⟩|g
    .rw[Y]at g;cases g;exact E (ok.nodup j i _ f Q)
    .rw[Y]at g;cases g
   refine ih _ _ w' az σ' ax (by simpa using hsz) (by omega) (λj f q=>?_) a7 af.sim ad a6 ?_ ?_ (hev.trans af.ev) ?_ af.holes ?_ ?_ ?_
   .rcases(Jg u).1 q with z|z
    .omega
    .exact hsuf j f z
   .intro j s y f M hy;by_cases E:j=i
    .subst E;have hv:=af.val y hy;rcases ok.dst j o B T with⟨d',g,Q,al⟩|g
     .obtain rfl:s=d':=XZ (M.symm.trans Q);simp only[g]at hv⊢;exact hv
     .simp only[g]at hv;subst hv;exact trivial
    .rw[ac s (ar s j M E)];rcases(Jg u).1 f with z|z
     .exact absurd z E
     .exact(hD j s y z M hy).mono ab
   .intro s M;have au:∀d,o.dst=some d->s≠d:=by
     rintro d Y rfl;rcases ok.dst i o B T with⟨d',g,Q,al⟩|g
     .rw[Y]at g;cases g;exact M i Q ((Jg u).2 (.inl rfl))
     .rw[Y]at g;cases g
    rw[ac s au];exact(hE' s (λj q z=>M j q ((Jg u).2 (.inr z)))).mono ab
   .rw[<- htk];have:=congrArg (List.take h0) af.take;rw[List.take_take,List.take_take,XB aw]at this;exact this
   .intro j f F h V;refine(Jg u).2 (.inr ?_);rcases(Jg u).1 F with z|z
    .subst z;exact aj h V
    .exact hI1 j f z h V
   .intro j f F;rw[Jg u];cases q:hs.getD i false with
    |false=>
     have E:j≠i:=by rintro rfl;rw[q]at F;cases F
     rw[q]at J;simp only[Xi,if_false]at J;simp only[E,false_or];rw[J];exact hI2 j f F
    |true=>
     rw[q]at J;simp only[if_true]at J;rw[J j,hI2 j f F]
   .intro j o' f r j' ah;rcases(Jg u).1 f with z|z
    .subst z;rw[T]at r;cases r;exact(Jg u).2 (.inr (G _ ah))
    .exact(Jg u).2 (.inr (hcl j o' z r j' ah))
def QdV.dstB(N:Nat):Nat->List Oper->List Nat->Bool
 |_,_,[]=>true
 |i,o::r,d::ds=>(match o.dst with|some d'=>Nat.beq d' d&&Nat.blt d N|none=>true)&&QdV.dstB N (i+1) r ds
 |_,[],_::_=>false
def QdV.rqB(m:Nat)(hs:List Bool)(rq:List (List Nat)):Nat->List Oper->Bool
 |_,[]=>true
 |i,o::r=>(rq.getD i []).all (λh=>Nat.blt h m&&hs.getD h false&&((Qg o).contains h||(Qg o).any λj=>Nat.blt j m&&(rq.getD j []).contains h))&&QdV.rqB m hs rq (i+1) r
def QiF(l:List Oper)(h:Nat):List Nat:=match l[h]? with
 |some o=>QeL l h (Qg o)
 |none=>[]
theorem Qkg{l:List Oper}{h j:Nat}(q:j∈QiF l h):Qce l h j:=by
 unfold QiF at q;cases a:l[h]? with
 |none=>rw[a]at q;cases q
 |some o=>rw[a]at q;exact QbT h (Qg o) (λi b=>.one a b) j q
def QdV.plB(l:List Oper)(m:Nat)(hs:List Bool)(rq ms:List (List Nat))(pl:List (List (Nat×Nat))):Bool:=
 (List.range m).all λi=>(List.range ms.length).all λst=>((ms.getD st []).any λh=>(QiF l h).contains i)|| !(rq.getD i []).all ((ms.getD st []).contains ·)||(hs.getD i false&&(ms.getD st []).contains i)||
  (pl.getD i []).any λp=>Nat.beq p.1 st&&Nat.blt p.2 ms.length&&(bif hs.getD i false then same (ms.getD p.2 []) (i::ms.getD st [])else Nat.beq p.2 st)
def QdV(l:List Oper)(m N:Nat)(ds:List Nat)(hs:List Bool)(rq ms:List (List Nat))(pl:List (List (Nat×Nat))):Bool:=
 Nat.ble m l.length&&(ds.length==m)&&QdV.dstB N 0 l ds&&drawChk.nodupB ds&&drawChk.goB l m 0 l&&QdV.rqB m hs rq 0 l&&(ms.getD 0 []).isEmpty&&Nat.blt 0 ms.length
 &&((List.range ms.length).all λst=>Nat.beq (st+1) ms.length||(List.range m).any λi=>hs.getD i false&& !(ms.getD st []).contains i)&&QdV.plB l m hs rq ms pl&&(List.range ms.length).all λst=>(ms.getD st []).all λh=>Nat.blt h m&&hs.getD h false
theorem Qgg{N:Nat}:∀(l:List Oper) (a:List Nat) (b:Nat),QdV.dstB N b l a=true->∀(i d:Nat) (o:Oper),l[i]?=some o->a[i]?=some d->
  (o.dst=some d/\d<N)\/o.dst=none:=by
 intro l
 induction l with
 |nil=>intro a b h i d o f;simp at f
 |cons x r k=>
  intro a b h i d o f g;cases a with
  |nil=>simp at g
  |cons y a=>
   simp only[QdV.dstB,XW]at h;cases i with
   |zero=>
    simp at f g;subst f;subst g;have h:=h.1;split at h
    .rename_i m j;simp only[XW]at h;have e:=XQ h.1;subst e;exact .inl ⟨j,by simpa using h.2⟩
    .rename_i j;exact .inr j
   |succ i=>
    have:=k a (b+1) h.2 i d o (by simpa using f) (by simpa using g);exact this
theorem Qlt{m:Nat}{e:List Bool}{d:List (List Nat)}:∀(l:List Oper) (b:Nat),QdV.rqB m e d b l=true->∀(i:Nat) (o:Oper),l[i]?=some o->
  ∀h∈d.getD (b+i) [],h<m/\e.getD h false=true/\(h∈Qg o\/ ∃j∈Qg o,j<m/\h∈d.getD j []):=by
 intro l
 induction l with
 |nil=>intro b h i o a;simp at a
 |cons x r w=>
  intro b h i o a;simp only[QdV.rqB,XW]at h;cases i with
  |zero=>
   simp at a;subst a;intro k s;have:=Xs.1 h.1 k (by simpa using s);simp only[XW,Bool.or_eq_true,List.contains_iff_mem,Xt]at this;obtain⟨⟨g,u⟩,t⟩:=this;refine⟨by simpa using g,u,?_⟩;rcases t with q|⟨j,f,p,n⟩
   .exact .inl q
   .exact .inr ⟨j,f,by simpa using p,n⟩
  |succ i=>
   have:=w (b+1) h.2 i o (by simpa using a);rw[show b+1+i=b+(i+1)by omega]at this;exact this
theorem Qmt{l:List Oper}{m N:Nat}{s:List Nat}{B:List Bool}{F r:List (List Nat)}{H:List (List (Nat×Nat))}(h:QdV l m N s B F r H=true):
  Qna l m s B F r H N/\0<r.length:=by
 unfold QdV at h;simp only[XW]at h;obtain⟨⟨⟨⟨⟨⟨⟨⟨⟨⟨P,L⟩,Q⟩,O⟩,R⟩,T⟩,V⟩,J⟩,h9⟩,x⟩,y⟩:=h;have E:m<=l.length:=XR P;have G:s.length=m:=by simpa using L
 have g:=QhH l 0 R;refine⟨⟨E,λi o t b=>?_,G,QdK O,λi o b=>by have:=(g i o b).1;simpa using this,λo b j Y=>QbT m (Qg o) (λi t=>.one b t) j ((g m o b).2.1 (by omega) j Y),
  λi o t b=>by have:=(g i o b).2.2 (by omega);simpa using this,λi o t b h f=>by have:=Qlt l 0 T i o b h (by simpa using f);exact this,
  by simpa using V,λk a=>?_,λk h f=>?_,λi k t a M W hx=>?_⟩,by simpa using J⟩
 .have u:s[i]?=some s[i]:=XK (by omega);rcases Qgg l s 0 Q i _ o b u with⟨n,w⟩|n
  .exact .inl ⟨_,n,u,w⟩
  .exact .inr n
 .have:=Xs.1 h9 k (List.mem_range.2 a);simp only[Bool.or_eq_true,Xt,XW,Bool.not_eq_true']at this;rcases this with q|⟨i,n,w,d⟩
  .exact .inl (XQ q)
  .exact .inr ⟨i,List.mem_range.1 n,w,λz=>by rw[List.contains_iff_mem.2 z]at d;cases d⟩
 .have a:k<r.length:=by
   rcases VC k r.length with q|q
   .exact q
   .rw[VL,XO q]at f;cases f
  have:=Xs.1 (Xs.1 y k (List.mem_range.2 a)) h f;simp only[XW]at this;exact⟨by simpa using this.1,this.2⟩
 .have:=Xs.1 (Xs.1 x i (List.mem_range.2 t)) k (List.mem_range.2 a);simp only[Bool.or_eq_true,Bool.not_eq_true']at this;rcases this with((q|q)|q)|q
  .exfalso;obtain⟨h,f,q⟩:=Xt.1 q;exact hx h f (Qkg (List.contains_iff_mem.1 q))
  .exfalso;have:((F.getD i []).all ((r.getD k []).contains ·))=true:=Xs.2 λh f=>List.contains_iff_mem.2 (M h f);rw[this]at q;cases q
  .simp only[XW]at q;exact absurd (List.contains_iff_mem.1 q.2) (W q.1)
  .obtain⟨p,X,q⟩:=Xt.1 q;simp only[XW]at q;obtain⟨⟨n,w⟩,d⟩:=q;have e:=XQ n;refine⟨p.2,by rw[<- e];exact X,by simpa using w,?_⟩;cases z:B.getD i false with
   |true=>
    rw[z]at d;simp only[Vp]at d;simp only[if_true];intro j;rw[Qnm d j,X6]
   |false=>
    rw[z]at d;simp only[Vq]at d;simp only[Xi,if_false];exact XQ d
inductive Qhh (P:Program) (N:Nat) (l:List Oper) (ds:List Nat) (xs:List A) (env0:Env) (hB hE:Nat):Nat->List (List (Qd×Qd))->Prop
 |nil {i:Nat}:Qhh P N l ds xs env0 hB hE i []
 |cons {i:Nat} {s:List (Qd×Qd)} {r:List (List (Qd×Qd))} (h:∀p∈s,Jd P N l ds xs env0 hB hE i p.1 p.2) (k:Qhh P N l ds xs env0 hB hE (i+1) r):Qhh P N l ds xs env0 hB hE i (s::r)
theorem Qhh.get{P:Program}{N:Nat}{l:List Oper}{d:List Nat}{xs:List A}{env0:Env}{hB hE b:Nat}{e:List (List (Qd×Qd))}(h:Qhh P N l d xs env0 hB hE b e):
  ∀(i:Nat) (s:List (Qd×Qd)),e[i]?=some s->∀p∈s,Jd P N l d xs env0 hB hE (b+i) p.1 p.2:=by
 induction h with
 |nil=>intro i s h;simp at h
 | @cons b s0 r h _ ih=>
  intro i s a;cases i with
  |zero=>simp at a;subst a;exact h
  |succ i=>
   have:=ih i s (by simpa using a);rw[show b+1+i=b+(i+1)by omega]at this;exact this
theorem Qf{P:Program}{N:Nat}{l:List Oper}{a:List Nat}{xs:List A}{env0:Env}{hB hE i:Nat}:∀p∈([]:List (Qd×Qd)),Jd P N l a xs env0 hB hE i p.1 p.2:=by
 intro p b;cases b
theorem Qb{P:Program}{N:Nat}{l:List Oper}{a:List Nat}{xs:List A}{env0:Env}{hB hE i:Nat}{H H':Qd}{r:List (Qd×Qd)}(h:Jd P N l a xs env0 hB hE i H H')
  (k:∀p∈r,Jd P N l a xs env0 hB hE i p.1 p.2):∀p∈(H,H')::r,Jd P N l a xs env0 hB hE i p.1 p.2:=by
 intro p b;rcases X6.1 b with rfl|q
 .exact h
 .exact k p q
theorem QgF{P:Program}{h0 N:Nat}{id:Nat}{l:List Oper}{env:Env}{H:Qd}{fr ro:Nat->Prop}{σ:Sig}{a:Act}{w:World}{rd:Option Nat}{R:Exit->Act->World->Prop}(m c:Nat)(ds:List Nat)(hs:List Bool)(rq Y:List (List Nat))(F:List (List (Nat×Nat)))(xs:List A)(Hs:List Qd)(Hk:Qd)
  (hm:P.follows .mixedOrders=true)(hc:QdV l m N ds hs rq Y F=true)(aa:Nat.beq xs.length m=true)(ab:Nat.beq Hs.length Y.length=true)(ad:Nat.ble h0 H.length=true)
  (hh:Hs.all (λX=>Nat.ble (H.length+c) X.length)=true)(T:Hs[0]?=some (H++List.replicate c .dead))(V:Hs.getD (Y.length-1) []=Hk)
  (W:Qhh P N l ds xs env H.length (H.length+c) 0 (F.map λq=>q.map λp=>(Hs.getD p.1 [],Hs.getD p.2 [])))(af:Nat.beq F.length m=true)
  (r:Rel fr ro σ H env N a w)(ae:Qdy rd fr w)
  (hk:∀ro' σ' a' w',Rel fr ro' σ' Hk (Qar ds xs env) N a' w'->Qh fr ro w ro' w'->σ'.take h0=σ.take h0->a'.defers=a.defers->wpL P rd l.toArray R (l.drop m) a' w'):(Code.region id l.toArray true).wpIn (WF rd) 0 P R a w:=by
 obtain⟨ok,O⟩:=Qmt hc;have B:=XQ aa;have J:=XQ ab;have ag:=XQ af;have L:Qh fr ro w ro {w with drawn:=w.drawn+1}:=⟨λ_ q=>q,λ_ _=>rfl,λ_ _=>rfl,XT _,λ_ _ q=>q,rfl,rfl,rfl,Nat.le_succ _⟩;have u:Ext ro σ w ro (σ++List.replicate c none) {w with drawn:=w.drawn+1}:=L.ext σ _;have ac:=r.sim.len;have M:Hs.getD 0 []=H++List.replicate c .dead:=Qof T;have h:∀(i:Nat) (s:Option Nat) (x:Blk),(σ++List.replicate c none)[i]?=some s->(H++List.replicate c Blk.dead)[i]?=some x->(σ[i]?=some s/\H[i]?=some x)\/(s=none/\x=.dead):=by
  intro i s x n k;rcases VC i σ.length with q|q
  .rw[XM q]at n;rw[XM (by omega)]at k;exact .inl ⟨n,k⟩
  .rw[XN q]at n;rw[XN (by omega)]at k;have a1:=VH n;have a2:=VH k;exact .inr ⟨(List.mem_replicate.1 a1).2,(List.mem_replicate.1 a2).2⟩
 have G:Sim fr ro (σ++List.replicate c none) (H++List.replicate c .dead) {w with drawn:=w.drawn+1}:=by
  refine⟨by simp[ac],r.sim.roOk.to (λ_ q=>q) (λ_ _=>rfl) r.sim.roLt,r.sim.frLt,r.sim.roFr,?_,?_,?_,
   r.sim.hidTo (· = ·) Q2 (XT _) (λ_ _ _ _ _ _ _ q=>q) (λ_ _ _ _ _ _ _ q=>q) λj d y g1 g2 g3=>.inl ?_⟩
  rotate_left 3
  .rcases h j _ _ g1 g2 with⟨g,t⟩|⟨g,_⟩
   .exact⟨j,y,rfl,g,t,(λz=>z),λc q=>q⟩
   .cases g
  .intro i b blk n k Q;rcases h i _ _ n k with⟨g,t⟩|⟨g,_⟩
   .exact r.sim.own i b blk g t Q
   .cases g
  .intro i j b x y n k Q h4 h5 h6;rcases h i _ _ n Q with⟨g,t⟩|⟨g,_⟩
   .rcases h j _ _ k h4 with⟨q3,q4⟩|⟨q3,_⟩
    .exact r.sim.inj i j b x y g q3 t q4 h5 h6
    .cases q3
   .cases g
  .intro i s x n k;rcases h i _ _ n k with⟨g,t⟩|⟨g,t⟩
   .exact BR.keep u (λb hb _=>rfl) (r.sim.blk i s x g t) (λ_ _ _ _=>rfl)
   .subst t;exact trivial
 have f:∀i,¬onL (Array.replicate l.length false) i:=by
  intro i q;unfold onL at q;rw[Array.getElem?_replicate]at q;split at q<;>simp at q
 have E:=XR ad;refine wpIn_region_any hm ?_;rw[List.size_toArray];refine Qh8 ok B J E (Nat.le_add_right _ _) (λX hX=>XR (Xs.1 hh X hX)) ?_ V (ro0:=ro) (σ0:=σ) (w0:=w) (ds0:=a.defers) hk r.defers ae
  l.length _ a _ ro (σ++List.replicate c none) 0 (by simp) ?_ (λi _=>f i) O (by rw[M];exact G) r.size rfl (λi d x q=>absurd q (f i)) (λs _=>(r.env s).mono u) L (QB (by omega)) ?_
  (λi _ q=>absurd q (f i)) (λi _ _=>⟨λq=>absurd q (f i),λq=>by rw[ok.ms0]at q;cases q⟩) (λi o q=>absurd q (f i))
 .intro i p hi hp;have e:(F.map λq=>q.map λp=>(Hs.getD p.1 [],Hs.getD p.2 []))[i]?=some ((F.getD i []).map λp=>(Hs.getD p.1 [],Hs.getD p.2 [])):=by
   rw[Xo,XK (by omega),VL,XK (by omega)];rfl
  have:=W.get i _ e _ (Xe.2 ⟨p,hp,rfl⟩);simpa using this
 .unfold unl;simp[List.countP_replicate]
 .intro p n k Q;rw[XN (by omega),List.getElem?_replicate,Vt (by omega)]
theorem Jj{P:Program}{h0 N:Nat}{id:Nat}{l:List Oper}{env:Env}{H:Qd}{Q:QA}(m c:Nat)(g:List Nat)(x:List Bool)(u d:List (List Nat))(f:List (List (Nat×Nat)))(xs:List A)(Hs:List Qd)(Hk:Qd)
  (E:P.follows .mixedOrders=true)(y:QdV l m N g x u d f=true)(n:Nat.beq xs.length m=true)(s:Nat.beq Hs.length d.length=true)(i:Nat.ble h0 H.length=true)
  (F:Hs.all (λX=>Nat.ble (H.length+c) X.length)=true)(h:Hs[0]?=some (H++List.replicate c .dead))(j:Hs.getD (d.length-1) []=Hk)
  (k:Qhh P N l g xs env H.length (H.length+c) 0 (f.map λq=>q.map λp=>(Hs.getD p.1 [],Hs.getD p.2 [])))(t:Nat.beq f.length m=true)
  (B:WO P h0 N l.toArray (l.drop m) (Qar g xs env) Hk Q):TC P h0 N (.region id l.toArray true) env H Q:=by
 intro z G J σ a w r hrd;refine Code.wpIn_mono (λe a w q=>Qbv.postW q) (QgF m c g x u d f xs Hs Hk E y n s i F h j k t r hrd λro' σ' a' w' hr hev htk hdf=>?_);have b:=B z G ro' σ' a' w' hr (hrd.to hev λ_ q=>q);rw[hdf]at b;exact Yk (λe a w q=>q.step hev htk) _ _ _ b
def draw0(l:List Oper)(m N:Nat)(ds:List Nat):Bool:=Nat.ble m l.length&&(ds.length==m)&&QdV.dstB N 0 l ds&&drawChk.nodupB ds&&drawChk.goB l m 0 l
inductive Oq (P:Program) (N:Nat) (l:List Oper) (ds:List Nat) (xs:List A) (env0:Env) (H:Qd):Nat->Nat->Prop
 |n {i:Nat}:Oq P N l ds xs env0 H i 0
 |c {i c:Nat} (h:Jd P N l ds xs env0 H.length H.length i H H) (k:Oq P N l ds xs env0 H (i+1) c):Oq P N l ds xs env0 H i (c+1)
theorem Oq.get{P:Program}{N:Nat}{l:List Oper}{a:List Nat}{xs:List A}{env0:Env}{H:Qd}{b c:Nat}(h:Oq P N l a xs env0 H b c):∀i,i<c->Jd P N l a xs env0 H.length H.length (b+i) H H:=by
 induction h with
 |n=>intro i d;omega
 | @c b c h _ ih=>
  intro i d;cases i with
  |zero=>exact h
  |succ i=>
   have:=ih i (by omega);rw[show b+1+i=b+(i+1)by omega]at this;exact this
theorem Qmu{l:List Oper}{m N:Nat}{d:List Nat}(h:draw0 l m N d=true):Qna l m d [] [] [[]] (List.replicate m [(0,0)]) N:=by
 unfold draw0 at h;simp only[XW]at h;obtain⟨⟨⟨⟨t,z⟩,u⟩,s⟩,x⟩:=h;have q:m<=l.length:=XR t;have p:d.length=m:=by simpa using z
 have g:=QhH l 0 x;refine⟨q,λi o e b=>?_,p,QdK s,λi o b=>by have:=(g i o b).1;simpa using this,λo b j w=>QbT m (Qg o) (λi e=>.one b e) j ((g m o b).2.1 (by omega) j w),
  λi o e b=>by have:=(g i o b).2.2 (by omega);simpa using this,λi o e b h n=>by simp at n,rfl,λk a=>.inl (by simp at a;simp[a]),λk h n=>by cases k<;>simp at n,λi k e a _ _ _=>?_⟩
 .have f:d[i]?=some d[i]:=XK (by omega);rcases Qgg l d 0 u i _ o b f with⟨r,y⟩|r
  .exact .inl ⟨_,r,f,y⟩
  .exact .inr r
 .have:k=0:=by simp at a;exact a
  subst this;refine⟨0,?_,by simp,by simp⟩;rw[VL,List.getElem?_replicate,Vt e];exact VB.2 rfl
theorem QgG{P:Program}{h0 N:Nat}{id:Nat}{l:List Oper}{env:Env}{H:Qd}{fr ro:Nat->Prop}{σ:Sig}{a:Act}{w:World}{rd:Option Nat}{R:Exit->Act->World->Prop}(m:Nat)(t:List Nat)(xs:List A)
  (F:P.follows .mixedOrders=true)(B:Go.Sw.draw0 l m N t=true)(j:Nat.beq xs.length m=true)(k:Nat.ble h0 H.length=true)
  (u:Oq P N l t xs env H 0 m)(r:Rel fr ro σ H env N a w)(n:Qdy rd fr w)
  (E:∀ro' σ' a' w',Rel fr ro' σ' H (Qar t xs env) N a' w'->Qh fr ro w ro' w'->σ'.take h0=σ.take h0->a'.defers=a.defers->wpL P rd l.toArray R (l.drop m) a' w'):(Code.region id l.toArray true).wpIn (WF rd) 0 P R a w:=by
 have ok:=Qmu B;have h:=XQ j;have f:Qh fr ro w ro {w with drawn:=w.drawn+1}:=⟨λ_ q=>q,λ_ _=>rfl,λ_ _=>rfl,XT _,λ_ _ q=>q,rfl,rfl,rfl,Nat.le_succ _⟩;have e:Ext ro σ w ro σ {w with drawn:=w.drawn+1}:=f.ext0 σ;have g:Sim fr ro σ H {w with drawn:=w.drawn+1}:=r.sim.heap rfl;have b:∀i,¬onL (Array.replicate l.length false) i:=by
  intro i q;unfold onL at q;rw[Array.getElem?_replicate]at q;split at q<;>simp at q
 refine wpIn_region_any F ?_;rw[List.size_toArray];refine Qh8 (hB:=H.length) (hE:=H.length) (Hs:=[H]) (Hk:=H) ok h rfl (XR k) (XT _) (λX hX=>by rw[VB.1 hX];exact XT _) ?_ rfl (ro0:=ro) (σ0:=σ) (w0:=w) (ds0:=a.defers) E r.defers n
  l.length _ a _ ro σ 0 (by simp) ?_ (λi _=>b i) (by simp) g r.size rfl (λi d x q=>absurd q (b i)) (λs _=>(r.env s).mono e) f rfl (λp G J=>by omega)
  (λi _ q=>absurd q (b i)) (λi _ _=>⟨λq=>absurd q (b i),λq=>by cases q⟩) (λi o q=>absurd q (b i))
 .intro i p z y;rw[VL,List.getElem?_replicate,Vt z]at y;obtain rfl:=VB.1 y;have:=u.get i z;rw[Xv]at this;exact this
 .unfold unl;simp[List.countP_replicate]
theorem TC.draw0{P:Program}{h0 N:Nat}{id:Nat}{l:List Oper}{env:Env}{H:Qd}{Q:QA}(m:Nat)(d:List Nat)(xs:List A)
  (p:P.follows .mixedOrders=true)(j:Go.Sw.draw0 l m N d=true)(f:Nat.beq xs.length m=true)(g:Nat.ble h0 H.length=true)
  (h:Oq P N l d xs env H 0 m)(n:WO P h0 N l.toArray (l.drop m) (Qar d xs env) H Q):TC P h0 N (.region id l.toArray true) env H Q:=by
 intro k i s σ a w r hrd;refine Code.wpIn_mono (λe a w q=>Qbv.postW q) (QgG m d xs p j f g h r hrd λro' σ' a' w' hr hev htk hdf=>?_);have b:=n k i ro' σ' a' w' hr (hrd.to hev λ_ q=>q);rw[hdf]at b;exact Yk (λe a w q=>q.step hev htk) _ _ _ b
section
variable {P:Program} {N:Nat} {l:List Oper} {ds af bf:List Nat} {xs:List A} {env0 e r:Env} {H H':Qd} {i hB hE:Nat} {o:Oper} {d s:Nat} {x a:A}
theorem sN:Sb af bf ds xs env0 []:=.nil
theorem sD(j:Nat)(k:Sb af bf ds xs env0 r)(b:af.contains j=true:=by exact rfl)(h2:ds[j]?=some s:=by exact rfl)(h3:xs[j]?=some a:=by exact rfl):Sb af bf ds xs env0 ((s,a)::r):=.dep j b h2 h3 k
theorem sP(j:Nat)(k:Sb af bf ds xs env0 r)(b:bf.contains j=true:=by exact rfl)(h2:ds[j]?=some s:=by exact rfl)(h3:lk env0 s=a:=by exact rfl):Sb af bf ds xs env0 ((s,a)::r):=.pre j b h2 h3 k
theorem QdW(H:Qd):Qap hB hE H H=true:=by
 unfold Qap;refine Xs.2 λp _=>?_;cases Qbk H[hB+p]? <;>rfl
theorem Om(b:l[i]?=some o)(a:Sb (Qg o) (Qg5 l i) ds xs env0 e)(h:WO P H.length N l.toArray [o] e H (YT (up e d x) H))(f:o.dst=some d:=by exact rfl)(hx:xs[i]?=some x:=by exact rfl):Jd P N l ds xs env0 hB hE i H H:=
 .mk o e d x b f hx (QdW H) a h
theorem Om1(b:l[i]?=some o)(a:Sb (Qg o) (Qg5 l i) ds xs env0 e)(h:WO P H.length N l.toArray [o] e H (YT (up e d x) H'))(f:o.dst=some d:=by exact rfl)(hx:xs[i]?=some x:=by exact rfl)(hdd:Qap hB hE H H'=true:=by exact rfl):Jd P N l ds xs env0 hB hE i H H':=
 .mk o e d x b f hx hdd a h
theorem Om2(b:l[i]?=some o)(a:Sb (Qg o) (Qg5 l i) ds xs env0 e)(h:WO P H.length N l.toArray [o] e H (YT e H'))(d:o.dst=none:=by exact rfl)(hx:xs[i]?=some .any:=by exact rfl)(hdd:Qap hB hE H H'=true:=by exact rfl):Jd P N l ds xs env0 hB hE i H H':=
 .unit o e b d hx hdd a h
end
structure TyI where
 fld:List (Nat×Nat×Nat)
 agg:List (Nat×Bool×Nat)
 zer:List (Nat×List A×List (Nat×Nat))
structure TyOK (P:Program) (T:TyI):Prop where
 fld:∀e∈T.fld,∃n,YK P e.1 e.2.1 e.2.2 n
 agg:∀e∈T.agg,(∀w,(isAgg e.1).run P w=.ok e.2.1 w)/\ ∀w,(sizeOf e.1).run P w=.ok e.2.2 w
 zer:∀e∈T.zer,(∃z,(∀w,(zeroValue e.1).run P w=.ok z w)/\ZR (.agg e.2.1) z)/\Qy P e.1 e.2.2
def QhM:List (Nat×Nat×Nat)->Nat->Nat->Option Nat
 |[],_,_=>none
 |(a,b,c)::r,t,f=>bif Nat.beq a t&&Nat.beq b f then some c else QhM r t f
def Qb6{β:Type}:List (Nat×β)->Nat->Option β
 |[],_=>none
 |(a,b)::r,t=>bif Nat.beq a t then some b else Qb6 r t
theorem QhL{l:List (Nat×Nat×Nat)}{t f c:Nat}(h:QhM l t f=some c):(t,f,c)∈l:=by
 induction l with
 |nil=>cases h
 |cons x r e=>
  obtain⟨a,b,d⟩:=x;unfold QhM at h;cases q:(Nat.beq a t&&Nat.beq b f)with
  |true=>
   simp_all
  |false=>grind
theorem Qau{β:Type}{l:List (Nat×β)}{t:Nat}{c:β}(h:Qb6 l t=some c):(t,c)∈l:=by
 induction l with
 |nil=>cases h
 |cons x r d=>
  obtain⟨a,b⟩:=x;unfold Qb6 at h;cases q:Nat.beq a t with
  |true=>
   simp_all
  |false=>grind
def Qg4(H:Qd):A->Option (List A)
 |.rp cs=>some cs
 |.ptr i off=>match H[i]? with
  |some (.cells _ cs)=>some (cs.drop off)
  |_=>none
 |_=>none
theorem Qi4{H:Qd}{p:A}{cs:List A}(h:Qg4 H p=some cs):Pts H p cs:=by
 unfold Qg4 at h;split at h
 .cases h;exact Pts.rp
 .split at h
  .rename_i a;cases h;exact Pts.cells a rfl
  .cases h
 .cases h
def Qll(T:TyI)(o:Oper)(env:Env)(H:Qd):Option A:=
 match o.op with
 |.move x=>some (opA env x)
 |.assign x=>some (opA env x)
 |.fieldAddr t x f=>match QhM T.fld t f with
  |none=>none
  |some off=>match opA env x with
   |.ptr i p=>some (.ptr i (p+off))
   |.rp cs=>some (.rp (cs.drop off))
   |_=>none
 |.load t x=>match Qb6 T.agg t with
  |none=>none
  |some (b,n)=>match x with
   |.global g=>match QiQ[g]? with
    |some zs=>bif b&&Nat.beq zs.length n then some (.agg (zs.map (A.int .i64)))else none
    |none=>none
   |x=>match Qg4 H (opA env x)with
    |none=>none
    |some cs=>bif b then(bif Nat.beq (cs.take n).length n then some (.agg (cs.take n))else none)else cs.head?
 |.build t parts=>match Qb6 T.zer t with
  |none=>none
  |some (zs,pl)=>match QdR env pl zs parts.toList with
   |some cs=>some (.agg cs)
   |none=>none
 |.extract x i=>match opA env x with
  |.tup vs=>vs[i]?
  |_=>none
 |.makeFunc f first cap=>some (.fn f (first.toList.map (opA env)) (cap.toList.map (opA env)))
 |_=>none
theorem Qlk{P:Program}{T:TyI}(j:TyOK P T){o:Oper}{env:Env}{H:Qd}{x:A}(h:Qll T o env H=some x):OpV P o env H x:=by
 unfold Qll at h;split at h
 .simp_all[OpV.move]
 .simp_all[OpV.assign]
 .rename_i t y f a;split at h
  .cases h
  .rename_i F k;obtain⟨n,s⟩:=j.fld _ (QhL k);split at h
   .grind[Qcu]
   .rename_i e E;cases h;exact Qft s a E rfl
   .cases h
 .rename_i t y a;split at h
  .cases h
  .rename_i b n p;obtain⟨d,i⟩:=j.agg _ (Qau p);split at h
   .rename_i g;split at h
    .rename_i l u;cases q:(b&&Nat.beq l.length n)with
     |false=>grind
     |true=>
      rw[q]at h;cases h;simp only[XW]at q;obtain⟨rfl,G⟩:=q;exact Qgp d i u (by simp_all) a
    .cases h
   .split at h
    .cases h
    .rename_i e w;have m:=Qi4 w;cases b with
     |true=>
      simp only[Vp]at h;cases q:Nat.beq (e.take n).length n with
      |false=>grind
      |true=>
       rw[q]at h;cases h;exact Qu a d i rfl m rfl (by simp_all)
     |false=>
      simp only[Vq]at h;cases e with
      |nil=>cases h
      |cons v e=>cases h;exact OpV.load a d rfl m
 .rename_i t parts a;split at h
  .cases h
  .rename_i l J r;obtain⟨⟨z,d,i⟩,B⟩:=j.zer _ (Qau r);split at h
   .rename_i e k;cases h;exact OpV.build d i B (by rw[a]) k
   .cases h
 .grind[OpV.extract]
 .rename_i f first cap a
  cases h;exact OpV.makeFunc (first:=first.toList) (cap:=cap.toList) (by rw[a]) rfl rfl
 .cases h
def Qh6(af:List Nat):Nat->List Nat->List A->Env->Env
 |j,d::ds,x::xs,e=>(d,bif af.contains j then x else .any)::Qh6 af (j+1) ds xs e
 |_,_,_,e=>e
theorem QnM{af:List Nat}{env0:Env}(s:Nat):∀(a:List Nat) (xs:List A) (b:Nat),a.length=xs.length->
  (∃(j:Nat) (x:A),a[j]?=some s/\xs[j]?=some x/\lk (Qh6 af b a xs env0) s=bif af.contains (b+j)then x else .any)\/(a.contains s=false/\lk (Qh6 af b a xs env0) s=lk env0 s):=by
 intro a
 induction a with
 |nil=>simp_all[Qh6]
 |cons d a h=>
  intro xs b g;cases xs with
  |nil=>cases g
  |cons x xs=>
   cases q:Nat.beq s d with
   |true=>
    have e:=XQ q;subst e;left;refine⟨0,x,rfl,rfl,?_⟩
    simp_all[Qh6,lk]
   |false=>
    have i:s≠d:=λz=>by simp_all
    simp only[Qh6,lk,q,Vq];rcases h xs (b+1) (by grind)with⟨j,y,f,k,l⟩|⟨f,k⟩
    .left;refine⟨j+1,y,by grind,by grind,?_⟩
     grind
    grind
def Qjr(T:TyI)(N:Nat)(l:List Oper)(ds:List Nat)(xs:List A)(env0:Env)(H:Qd)(i:Nat):Option A:=
 match l[i]? with
 |none=>none
 |some o=>match o.guard,o.dst with
  |none,some d=>bif Nat.blt d N&&Nat.beq ds.length xs.length then Qll T o (Qh6 (Qg o) 0 ds xs env0) H else none
  |_,_=>none
theorem QnL{af a:List Nat}{xs:List A}{env0:Env}(b:a.length=xs.length):Qm7 af a xs env0 (Qh6 af 0 a xs env0):=by
 intro s;rcases QnM (af:=af) (env0:=env0) s a xs 0 b with⟨j,x,d,f,e⟩|h
 .grind
 grind
theorem vQ{P:Program}{T:TyI}(g:TyOK P T){N:Nat}{l:List Oper}{a:List Nat}{xs:List A}{env0:Env}{hB hE i:Nat}{H:Qd}{x:A}(b:xs[i]?=some x)(h:Qjr T N l a xs env0 H i=some x):Jd P N l a xs env0 hB hE i H H:=by
 unfold Qjr at h;split at h
 .cases h
 .rename_i o e;split at h
  .rename_i d f j;cases q:(Nat.blt d N&&Nat.beq a.length xs.length)with
   |false=>grind
   |true=>
    rw[q]at h;simp only[XW]at q;exact .val o _ d x e j f b q.1 (QnL (by simp_all)) (Qlk g h)
  .cases h
abbrev I(n:Int):A:=.int .i64 n
theorem zc{a:A}{v:Value}{al:List A}{vl:List Value}(h:ZR a v)(k:ZL al vl):ZL (a::al) (v::vl):=ZL.cons h k
def zr1:A->Value->Bool
 |.int k n,.int k' n'=>decide (k=k')&&decide (n=n')
 |.bool b,.bool b'=>b==b'
 |.str s,.string s'=>s.isEmpty&&s'.data.toList.isEmpty
 |.rsl _ es,.slice none 0 0=>es.isEmpty
 |.nils,.slice none 0 0=>true
 |.nilp,.pointer none=>true
 |.nilf,.nilFunc=>true
 |.nilm,.map none=>true
 |.nilif,.nilIface=>true
 |_,_=>false
def zrL:List A->List Value->Bool
 |[],[]=>true
 |a::r,v::s=>zr1 a v&&zrL r s
 |_,_=>false
def zrB:A->Value->Bool
 |.agg r,.agg s=>zrL r s.toList
 |a,v=>zr1 a v
theorem Qla{a:A}{v:Value}(h:zr1 a v=true):ZR a v:=by
 unfold zr1 at h;split at h
 .simp_all[ZR.int]
 .simp_all[ZR.bool]
 .rename_i s b;simp only[XW,List.isEmpty_iff]at h;obtain⟨rfl,g⟩:=h;obtain⟨d⟩:=b
  simp_all[ZR.str]
 .rename_i k f;have h:f=[]:=List.isEmpty_iff.1 h;subst h;exact ZR.rsl (α:=A) (e:=λx=>[x])
 .exact ZR.nils
 .exact ZR.nilp
 .exact ZR.nilf
 .exact ZR.nilm
 .exact QnU
 .cases h
theorem Qk9:∀{r:List A} {s:List Value},zrL r s=true->ZL r s
 |[],[],_=>ZL.nil
 |a::r,v::s,h=>by
  simp only[zrL,XW]at h;exact ZL.cons (Qla h.1) (Qk9 h.2)
 |[],_::_,h=>by cases h
 |_::_,[],h=>by cases h
theorem zrC{a:A}{v:Value}(h:zrB a v=true):ZR a v:=by
 unfold zrB at h;split at h
 .rename_i r s;have:=ZR.agg (Qk9 h);omega
 .exact Qla h
section
variable {P:Program} {o:Oper} {env:Env} {H:Qd}
end
structure TyX where
 ty:TyI
 al:List (Nat×A)
 sl:List Nat
structure Qbd (P:Program) (T:TyX):Prop where
 ty:TyOK P T.ty
 al:∀e∈T.al,(∃z,(∀w,(zeroValue e.1).run P w=.ok z w)/\ZR e.2 z)/\Yg e.2=true/\(Q5 e.2).all Ym=true
 sl:∀t∈T.sl,∃et,∀w,(underlying t).run P w=.ok (.slice et) w
def YS(all:Array Oper)(o:Oper)(env:Env):Option Bool:=
 match o.guard with
 |none=>some true
 |some (j,c)=>match(all[j]?).bind (·.dst)with
  |none=>none
  |some d=>match lk env d with
   |.bool true=>some c
   |.bool false=>some (!c)
   |.tup []=>some false
   |_=>none
theorem QI{all:Array Oper}{o:Oper}{env:Env}{b:Bool}(h:YS all o env=some b):Qt all o env b:=by
 unfold YS at h;unfold Qt;split at h
 .grind
 .rename_i j c q;rw[q];split at h
  .cases h
  .rename_i d a;refine⟨d,a,?_⟩;split at h
   .simp_all
   .simp_all
   .grind
   .cases h
def Qdm:List Nat->Nat->Bool
 |[],_=>false
 |a::r,t=>bif Nat.beq a t then true else Qdm r t
theorem QgM{l:List Nat}{t:Nat}(h:Qdm l t=true):t∈l:=by
 induction l with
 |nil=>cases h
 |cons a r b=>
  grind[Qdm,Nat.eq_of_beq_eq_true]
inductive FL where
 |mk (l:List A)
def fl:List A->FL
 |[]=>.mk []
 |a::r=>match fl r with
  |.mk r'=>.mk (a::r')
theorem Qcc:∀l:List A,fl l=.mk l
 |[]=>rfl
 |a::r=>by unfold fl;rw[Qcc r]
inductive FB where
 |mk (l:List Blk)
def fb:List Blk->FB
 |[]=>.mk []
 |a::r=>match fb r with
  |.mk r'=>.mk (a::r')
theorem QjN:∀l:List Blk,fb l=.mk l
 |[]=>rfl
 |a::r=>by unfold fb;rw[QjN r]
inductive FN where
 |mk (n:Nat)
def fn:List Blk->Nat->FN
 |[],n=>.mk n
 |_::r,n=>fn r (n+1)
theorem Ql9:∀(l:List Blk) (n:Nat),fn l n=.mk (l.length+n)
 |[],n=>by simp[fn]
 |a::r,n=>by unfold fn;rw[Ql9 r];simp;omega
def QjL(env:Env)(pl:List (Nat×Nat)):List A->List (Nat×Operand)->Option (List A)
 |cs,[]=>some cs
 |cs,(i,x)::r=>match YM pl i with
  |none=>none
  |some (off,size)=>match opB env x with
   |.mk a=>match fl (Q5 a)with
    |.mk vs=>bif Yg a&&Nat.beq vs.length size&&Nat.ble (off+size) cs.length then(match fl (splice cs off vs)with
     |.mk cs'=>QjL env pl cs' r)else none
theorem QhP{env:Env}{pl:List (Nat×Nat)}:∀(parts:List (Nat×Operand)) (cs:List A),QjL env pl cs parts=QdR env pl cs parts
 |[],cs=>rfl
 |(i,x)::r,cs=>by
  unfold QjL QdR;rw[QaA];cases pl[i]? with
  |none=>rfl
  |some q=>
   obtain⟨off,size⟩:=q;cases h:opB env x with
   |mk a=>
    rw[QJ h];simp only[Qcc];cases(Yg a&&Nat.beq (Q5 a).length size&&Nat.ble (off+size) cs.length)with
    |false=>rfl
    |true=>exact QhP r _
def QhA(env:Env):List Operand->List A
 |[]=>[]
 |x::r=>match opB env x with
  |.mk a=>a::QhA env r
theorem QcE{env:Env}:∀l:List Operand,QhA env l=l.map (opA env)
 |[]=>rfl
 |x::r=>by
  unfold QhA;cases h:opB env x with
  |mk a=>rw[Vj,QJ h];show a::QhA env r=_;rw[QcE r]
def ptX(H:Qd):Bx->Option Lx
 |.mk (.rp cs)=>some (.mk cs)
 |.mk (.ptr i off)=>match YM H i with
  |some (.cells _ cs)=>some (Qh7 off cs)
  |_=>none
 |_=>none
theorem QoI{H:Qd}{p:A}{cs:List A}(h:ptX H (.mk p)=some (.mk cs)):Pts H p cs:=by
 unfold ptX at h
 grind[Pts.rp,QaA,Pts.cells,Qfh]
def Qc7(T:TyX)(o:Oper)(env:Env)(H:Qd):Option A:=
 match o.op with
 |.move x=>match opB env x with|.mk a=>some a
 |.assign x=>match opB env x with|.mk a=>some a
 |.nilCheck x=>nlB (opB env x)
 |.extract x i=>exB (opB env x) i
 |.unOp u _ x=>unB u (opB env x)
 |.pick c x y=>piB (opB env c) (opB env x) (opB env y)
 |.binOp b _ x y _=>biB b (opB env x) (opB env y)
 |.fieldAddr t x f=>match QhM T.ty.fld t f with
  |none=>none
  |some off=>match opB env x with
   |.mk (.ptr i p)=>some (.ptr i (p+off))
   |.mk (.rp cs)=>match Qh7 off cs with
    |.mk r=>some (.rp r)
   |_=>none
 |.load t x=>match Qb6 T.ty.agg t with
  |none=>none
  |some (b,n)=>match x with
   |.global g=>match YM QiQ g with
    |some zs=>bif b&&Nat.beq zs.length n then(match fl (zs.map (A.int .i64))with|.mk l=>some (.agg l))else none
    |none=>none
   |x=>match ptX H (opB env x)with
    |none=>none
    |some (.mk cs)=>match b with
     |true=>(match fl (cs.take n)with|.mk l=>bif Nat.beq l.length n then some (.agg l)else none)
     |false=>(match cs with|[]=>none|a::_=>some a)
 |.build t parts=>match Qb6 T.ty.zer t with
  |none=>none
  |some (zs,pl)=>match QjL env pl zs parts.toList with
   |some cs=>some (.agg cs)
   |none=>none
 |.makeFunc f first cap=>match fl (QhA env first.toList),fl (QhA env cap.toList)with
  |.mk l,.mk l'=>some (.fn f l l')
 |.call c=>match c with
  |{callee:=.builtin .len,args:=⟨[x]⟩,argTypes:=⟨[t]⟩}=>bif Qdm T.sl t then(match opB env x with
   |.mk (.osl _ 0 n _)=>some (.int .i64 n)
   |_=>none)else none
  |_=>none
 |_=>none
theorem Qat{P:Program}{T:TyX}(m:Qbd P T){o:Oper}{env:Env}{H:Qd}{x:A}(h:Qc7 T o env H=some x):OpV P o env H x:=by
 unfold Qc7 at h;split at h
 .simp_all[QbB,svB]
 .simp_all[QbB,svB]
 .simp_all[QbB,svB]
 .simp_all[QbB,svB]
 .simp_all[QbB,svB]
 .simp_all[QbB,svB]
 .simp_all[QbB,svB]
 .rename_i t y f a;split at h
  .cases h
  .rename_i u j;obtain⟨n,R⟩:=m.ty.fld _ (QhL j);split at h
   .grind[Qcu,QJ]
   .rename_i s V;cases q:Qh7 u s with
    |mk r=>rw[q]at h;grind[Qft,QJ,Qfh]
   .cases h
 .rename_i t y a;split at h
  .cases h
  .rename_i b n G;obtain⟨l,d⟩:=m.ty.agg _ (Qau G);split at h
   .rename_i g;split at h
    .rename_i B w;rw[QaA]at w;cases q:(b&&Nat.beq B.length n)with
     |false=>grind
     |true=>
      rw[q,Qcc]at h;cases h;simp only[XW]at q;obtain⟨rfl,E⟩:=q;exact Qgp l d w (by simp_all) a
    .cases h
   .cases e:opB env y with
    |mk p=>
     rw[e]at h;split at h
     .cases h
     .rename_i s F;have L:=QoI F;cases b with
      |true=>
       simp only[Qcc]at h;cases q:Nat.beq (s.take n).length n with
       |false=>grind
       |true=>
        rw[q]at h;cases h;exact Qu a l d (QJ e) L rfl (by simp_all)
      |false=>
       grind[OpV.load,QJ]
 .rename_i t parts a;split at h
  .cases h
  .rename_i B Q M;obtain⟨⟨z,l,d⟩,J⟩:=m.ty.zer _ (Qau M);split at h
   .rename_i s j;cases h;rw[QhP]at j;exact OpV.build l d J (by rw[a]) j
   .cases h
 .rename_i f first cap a
  simp only[Qcc]at h;cases h;rw[QcE,QcE];exact OpV.makeFunc (first:=first.toList) (cap:=cap.toList) (by rw[a]) rfl rfl
 .rename_i c a;split at h
  .rename_i y t;cases q:Qdm T.sl t with
   |false=>grind
   |true=>
    rw[q]at h;simp only[Vp]at h;obtain⟨O,N⟩:=m.sl t (QgM q);split at h
    .rename_i i n k E;cases h;exact QkV N a rfl (QJ E)
    .cases h
  .cases h
 .cases h
def stX(T:TyX)(h0 N:Nat)(all:Array Oper)(o:Oper)(env:Env)(H:Qd):Option (Env×Qd):=
 match YS all o env with
 |none=>none
 |some false=>match o.dst with
  |none=>none
  |some d=>bif Nat.blt d N then some (up env d (.tup []),H)else none
 |some true=>match o.dst with
  |none=>match o.op with
   |.store t x y=>match opB env x,Qb6 T.ty.agg t with
    |.mk (.ptr i off),some (_,n)=>match YM H i with
     |some (.cells S cs)=>match opB env y with
      |.mk a=>match fl (Q5 a)with
       |.mk vs=>bif Nat.ble h0 H.length&&(Yg a&&(Nat.beq vs.length n&&(vs.all Ym&&Nat.ble (off+n) cs.length)))then(match fl (splice cs off vs)with
        |.mk cs'=>match fb (H.set i (.cells S cs'))with
         |.mk H'=>some (env,H'))else none
     |_=>none
    |_,_=>none
   |_=>none
  |some d=>bif Nat.blt d N then(match o.op with
   |.alloc t=>match Qb6 T.al t with
    |some v=>bif Nat.ble h0 H.length then(match fn H 0,fl (Q5 v)with
     |.mk n,.mk cs=>match fb (H++[.cells t cs])with
      |.mk H'=>some (up env d (.ptr n 0),H'))else none
    |none=>none
   |.box t x=>match opB env x with
    |.mk a=>bif Nat.ble h0 H.length&&(Yg a&&(Q5 a).all Ym)then(match fn H 0,fl (Q5 a)with
     |.mk n,.mk cs=>match fb (H++[.cells t cs])with
      |.mk H'=>some (up env d (.ptr n 0),H'))else none
   |_=>match Qc7 T o env H with
    |some a=>some (up env d a,H)
    |none=>none)else none
def runX(T:TyX)(h0 N:Nat)(all:Array Oper):Nat->List Oper->Env->Qd->Option (List Oper×Env×Qd)
 |0,l,env,H=>some (l,env,H)
 |_+1,[],_,_=>none
 |n+1,o::l,env,H=>match stX T h0 N all o env H with
  |some (env',H')=>runX T h0 N all n l env' H'
  |none=>none
section
variable {P:Program} {T:TyX} {h0 N:Nat} {all:Array Oper} {l l':List Oper} {env env':Env} {H H':Qd} {Q:QA}
theorem Qiw(m:Qbd P T){o:Oper}(h:stX T h0 N all o env H=some (env',H'))(k:WO P h0 N all l env' H' Q):WO P h0 N all (o::l) env H Q:=by
 unfold stX at h;split at h
 .cases h
 .grind[QI,WO.skip]
 .rename_i M;have j:=QI M;split at h
  .rename_i f;split at h
   .rename_i t x y g;split at h
    .rename_i i p b n w E;split at h
     .rename_i S cs hH;rw[QaA]at hH;cases e:opB env y with
      |mk a=>
       rw[e]at h;simp only[Qcc,QjN]at h;generalize hc:(Nat.ble h0 H.length&&(Yg a&&(Nat.beq (Q5 a).length n&&((Q5 a).all Ym&&Nat.ble (p+n) cs.length))))=c at h;cases c with
       |false=>cases h
       |true=>
        cases h;simp only[XW]at hc;obtain⟨L,r,s,G,B⟩:=hc;obtain⟨_,F⟩:=m.ty.agg _ (Qau E);exact QmG (by simp_all) j f (OpU.store g (QJ w) hH F (QJ e) r rfl (by simp_all) G B rfl) k
     .cases h
    .cases h
   .cases h
  .rename_i d f;cases q:Nat.blt d N with
   |false=>grind
   |true=>
    rw[q]at h;simp only[Vp]at h;split at h
    .rename_i t g;split at h
     .rename_i v R;cases c:Nat.ble h0 H.length with
      |false=>grind
      |true=>
       rw[c]at h;simp only[Qcc,QjN,Ql9,Vp,Xw]at h;cases h;obtain⟨⟨z,u,J⟩,W,V⟩:=m.al _ (Qau R);exact Qg8 (by simp_all) j f q (Qfz u J g W rfl V) k
     .cases h
    .rename_i t x g;cases e:opB env x with
     |mk a=>
      rw[e]at h;simp only[Qcc,QjN,Ql9,Xw]at h;generalize hc:(Nat.ble h0 H.length&&(Yg a&&(Q5 a).all Ym))=c at h;cases c with
      |false=>cases h
      |true=>
       cases h;simp only[XW]at hc;obtain⟨L,r,s⟩:=hc;exact Qg8 (by simp_all) j f q (OpH.box g (QJ e) r rfl s) k
    .split at h
     .rename_i a O;cases h;exact Ys j f q (Qat m O) k
     .cases h
theorem AU(hT:Qbd P T):∀(n:Nat) {l l':List Oper} {env env':Env} {H H':Qd},runX T h0 N all n l env H=some (l',env',H')->WO P h0 N all l' env' H' Q->WO P h0 N all l env H Q
 |0,l,l',env,env',H,H',h,k=>by cases h;exact k
 |n+1,[],l',env,env',H,H',h,k=>by cases h
 |n+1,o::l,l',env,env',H,H',h,k=>by
  unfold runX at h;split at h
  .rename_i e1 H1 hs;exact Qiw hT hs (AU hT n h k)
  .cases h
end
theorem yc{α:Type}{p:α->Prop}{a:α}{l:List α}(h:p a)(k:∀x∈l,p x):∀x∈a::l,p x:=(by grind)
theorem FA{P:Program}{T f off n:Nat}{fs:Array Field}{a:Field}(b:∀w,(underlying T).run P w=.ok (.struct fs) w)(e:fs[f]?=some a)(g:∀w,(sizeOf a.type).run P w=.ok n w)(d:a.offset=off:=by exact rfl)(h5:n≠0:=by decide):YK P T f off n:=⟨_,_,b,e,d,g,h5⟩
theorem QbD:∀(π:List Nat) (H:Qd) (xs:List Blk),π.map (λp=>H[p]?)=xs.map some->Yf H π xs=H
 |[],H,xs,h=>by
  simp_all[Yf]
 |p::π,H,[],h=>by simp at h
 |p::π,H,x::xs,h=>by
  simp only[Vj,List.cons.injEq]at h;have e:H.set p x=H:=by
   apply List.ext_getElem?
   grind
  unfold Yf;rw[e];exact QbD π H xs h.2
def QiC:A->Option Bx
 |.bool b=>some (.mk (.bool b))
 |.int k n=>some (.mk (.int k n))
 |.str s=>some (.mk (.str s))
 |.rsl k es=>some (.mk (.rsl k es))
 |_=>none
theorem Qjt{v a:A}(h:QiC v=some (.mk a))(ρ:Nat->Nat):Yr ρ v=a:=by
 cases v<;>first|(cases h;rfl)|cases h
theorem Pc{P:Program}{h0 N:Nat}{all:Array Oper}{o:Oper}{l:List Oper}{env:Env}{H:Qd}{Q:QA}{d:Nat}{f:FuncId}{args b:List A}{Hc:Qd}{v g:A}(π:List Nat)(i:o.dst=some d)(e:OpC P o env H f args)(h:C P f b Hc (λa H1=>a=v/\H1=Hc))(j:QiC v=some (.mk g))
  (k:WO P h0 N all l (up env d g) H Q)
  (hargs:args=Qaa (rho π H.length) b:=by exact rfl)(hH:π.map (λp=>H[p]?)=(Hc.map (QQ (rho π H.length))).map some:=by exact rfl)(hπ:π.Nodup:=by decide)
  (hg:Qt all o env true:=by exact rfl)(hN:Nat.blt d N=true:=by exact rfl)(hh:Nat.ble h0 H.length=true:=by exact rfl):WO P h0 N all (o::l) env H Q:=by
 refine Qs π e h ?_ hargs hH hπ hg i hN hh
 simp_all[Qjt,QbD]
theorem QbP{i k:Nat}{es:List (List A)}:∀H:Qd,FzH i k es H H
 |[]=>.nil
 |_::r=>.keep (QbP r)
def foN:Nat->FN
 |0=>.mk 0
 |n+1=>match foN n with
  |.mk m=>.mk (m+1)
theorem Qe0:∀n,foN n=.mk n
 |0=>rfl
 |n+1=>by unfold foN;rw[Qe0 n]
mutual
def foA:A->Bx
 |.agg cs=>match foL cs with
  |.mk l=>.mk (.agg l)
 |.tup cs=>match foL cs with
  |.mk l=>.mk (.tup l)
 |.fn f a c=>match foL a,foL c with
  |.mk l,.mk l'=>.mk (.fn f l l')
 |.iface t v=>match foA v with
  |.mk v'=>.mk (.iface t v')
 |.ptr i off=>match foN i with
  |.mk i'=>.mk (.ptr i' off)
 |.osl i o n k=>match foN i with
  |.mk i'=>.mk (.osl i' o n k)
 |.map i=>match foN i with
  |.mk i'=>.mk (.map i')
 |a=>.mk a
def foL:List A->FL
 |[]=>.mk []
 |a::r=>match foA a,foL r with
  |.mk a',.mk r'=>.mk (a'::r')
end
mutual
theorem QgS:∀a:A,foA a=.mk a
 |.agg cs=>by unfold foA;rw[Qcn cs]
 |.tup cs=>by unfold foA;rw[Qcn cs]
 |.fn f a c=>by unfold foA;rw[Qcn a,Qcn c]
 |.iface t v=>by unfold foA;rw[QgS v]
 |.ptr i off=>by unfold foA;rw[Qe0]
 |.osl i o n k=>by unfold foA;rw[Qe0]
 |.map i=>by unfold foA;rw[Qe0]
 |.any|.bool _|.int _ _|.str _|.nilp|.rp _|.nils|.rsl _ _|.nilf|.nilif|.nilm=>by rfl
theorem Qcn:∀l:List A,foL l=.mk l
 |[]=>by rfl
 |a::r=>by unfold foL;rw[QgS a,Qcn r]
end
inductive FE2 where
 |mk (l:List (List A))
def foE:List (List A)->FE2
 |[]=>.mk []
 |a::r=>match foL a,foE r with
  |.mk a',.mk r'=>.mk (a'::r')
theorem Ql8:∀l,foE l=.mk l
 |[]=>rfl
 |a::r=>by unfold foE;rw[Qcn,Ql8 r]
def foH:List Blk->FB
 |[]=>.mk []
 |b::r=>match foH r with
  |.mk r'=>match b with
   |.cells t cs=>match foL cs with
    |.mk l=>.mk (.cells t l::r')
   |.rowr t k es=>match foE es with
    |.mk l=>.mk (.rowr t k l::r')
   |.dead=>.mk (.dead::r')
   |.row t k es=>.mk (.row t k es::r')
   |.map es=>.mk (.map es::r')
   |.iter c es=>.mk (.iter c es::r')
   |.fmap es=>.mk (.fmap es::r')
   |.mapO fz t k es=>.mk (.mapO fz t k es::r')
   |.mapP es=>.mk (.mapP es::r')
   |.frow t k es=>.mk (.frow t k es::r')
   |.wins t a n c=>match foN a with
    |.mk a'=>.mk (.wins t a' n c::r')
   |.ents t a b es=>match foN a,foN b with
    |.mk a',.mk b'=>.mk (.ents t a' b' es::r')
theorem QiS:∀l,foH l=.mk l
 |[]=>rfl
 |b::r=>by
  unfold foH;rw[QiS r];cases b<;>simp only[Qcn,Ql8,Qe0]
def foS(env:Env)(H:Qd):Option (Env×Qd):=
 match foH H with
 |.mk H'=>match env with
  |[]=>some ([],H')
  |(d,a)::e=>match foA a with
   |.mk a'=>some ((d,a')::e,H')
theorem Qo9(env:Env)(H:Qd):foS env H=some (env,H):=by
 unfold foS;rw[QiS];cases env with
 |nil=>rfl
 |cons p e=>obtain⟨d,a⟩:=p;simp only[QgS]
theorem FE{P:Program}{h0 N:Nat}{all:Array Oper}{l:List Oper}{env env':Env}{H H':Qd}{Q:QA}(h:foS env H=some (env',H'))(k:WO P h0 N all l env' H' Q):WO P h0 N all l env H Q:=by
 rw[Qo9]at h
 grind
def entB(b1 b2:Nat):List (List A)->Option (List Ent)
 |[]=>some []
 |[.ptr b off,.int .i64 lo,.int .i64 hi]::r=>match entB b1 b2 r with
  |none=>none
  |some l=>match Nat.beq b b2 with
   |true=>some (⟨true,off,lo,hi⟩::l)
   |false=>match Nat.beq b b1 with
    |true=>some (⟨false,off,lo,hi⟩::l)
    |false=>none
 |_=>none
theorem QnN{b1 b2:Nat}:∀{es:List (List A)} {l:List Ent},entB b1 b2 es=some l->l.map (eC b1 b2)=es:=by
 intro es
 induction es with
 |nil=>intro l h;cases h;rfl
 |cons e r f=>
  intro l h;unfold entB at h;split at h
  .grind
  .rename_i b d lo i j q;cases q;split at h
   .cases h
   .rename_i g a;have e:=f a;split at h
    .rename_i q;cases h;have:=XQ q;subst this;rw[Vj,e];rfl
    .split at h
     .rename_i q;cases h;have:=XQ q;subst this;rw[Vj,e];rfl
     .cases h
  .cases h
theorem TE{P:Program}{h0 N:Nat}{all:Array Oper}{l:List Oper}{env:Env}{H:Qd}{Q:QA}{t:Nat}{es:List (List A)}{L:List Ent}(i b1 b2:Nat)(hH:H[i]?=some (.rowr t 3 es))(h:entB b1 b2 es=some L)
  (k:WO P h0 N all l env (H.set i (.ents t b1 b2 L)) Q):WO P h0 N all l env H Q:=WO.le (Qk2 hH (QnN h)) k
theorem R1{P:Program}{h0:Nat}{fn:Func}{env:Env}{H Hc:Qd}{v:A}(s:Nat)(hr:fn.results= #[.tmp s])(hle:Le h0 env H [(s,v)] Hc):QcW P h0 fn (λa H=>a=v/\H=Hc) .ret env H:=
 ⟨[(s,v)],Hc,v,hle,Qcd.one hr (by simp_all[lk]),rfl,rfl⟩
theorem R2{P:Program}{h0:Nat}{fn:Func}{env:Env}{H Hc:Qd}{v v':A}(s t:Nat)(hr:fn.results= #[.tmp s,.tmp t])(hn:Nat.beq t s=false)(hle:Le h0 env H [(s,v),(t,v')] Hc):QcW P h0 fn (λa H=>a=.tup [v,v']/\H=Hc) .ret env H:=
 ⟨[(s,v),(t,v')],Hc,_,hle,QkP hr (by simp_all[lk]) (by simp_all[lk]),rfl,rfl⟩
theorem FzA.o{i k n:Nat}{es:List (List A)}(a:n=es.length:=by first|exact(X2 ..).symm|exact rfl):FzA i k es (.osl i 0 n k) (.rsl k es):=FzA.own a
end Go.Sw
