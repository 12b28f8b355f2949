/- The rules by which the code is walked, with what they rest on (part 2). -/
import Derived.Test.YthnmbndffmhalaaGreatDoorL1
import Derived.Below
import GoSem.ClaimChange
import Derived.Shelf.Strings.Search3
import Derived.Lib.LazyBuf
import Derived.Shelf.Sort.Plain
import Derived.Shelf.Slices.In.SortNone
import Derived.Shelf.Slices.CompactI
import Derived.RangeFuncIn
import Derived.RangeFuncSeq
import Derived.RangeFuncNested
import Derived.Lib.Bytealg
import Derived.Laws.Externs
import Derived.LaidLaws
import Derived.Lib.LaidTab
import Derived.ChangeArms
import Derived.ChangeSame
import Derived.Laws.BytesString
set_option linter.unusedVariables false
set_option linter.unusedSectionVars false
set_option linter.unusedSimpArgs false
namespace Go.Sw
open Option renaming some→AC,none→AF
open Bool renaming false→AD,true→AE
open Decidable renaming decide→AG
open Go renaming World→AJ,Program→AK,Value→AL,Oper→AM
open Go.Sort Go.Proofs Go.Shelf
theorem t2{α:Type}{k:Nat}:∀(vs:AA (AA α)) (j:Nat),(∀v∈vs,v.length=k)->j<vs.length*k->vs.flatten[j]?=(vs[j/k]?).bind λv=>v[j%k]?
 |[],j,_,h=>by simp at h
 |v::vs,j,hk,h=>by
  have hv:=hk v (by simp);have k0:0<k:=by
   rcases Nat.eq_zero_or_pos k with q|q
   .subst q;simp at h
   .exact q
  rw[Vm];by_cases q:j<k
  .rw[XN (by omega),Nat.div_eq_of_lt q,Nat.mod_eq_of_lt q];simp
  .rw[XO (by omega),hv,t2 vs (j-k) (λv hv=>hk v (by simp[hv])) (by simp[Xm]at h;omega)];have d:j/k=(j-k)/k+1:=by rw[Nat.div_eq_sub_div k0 (by omega)]
   have a:j%k=(j-k)%k:=Nat.mod_eq_sub_mod (by omega);rw[d,a,XG]
theorem aZ{α:Type}{k:Nat}:∀(vs:AA (AA α)),(∀v∈vs,v.length=k)->vs.flatten.length=vs.length*k
 |[],_=>by simp
 |v::vs,h=>by rw[Vm,X4,aZ vs (λv hv=>h v (by simp[hv])),h v (by simp),X2,Xm];omega
theorem m8{α:Type}(F:AA α)(j:Nat):F.toArray[j]?=F[j]? :=by simp
theorem qk{α:Type}[Inhabited α](F:AA α)(j:Nat)(h:j<F.length):F[j]?=AC (F.toArray[j]!):=by simp[h]
theorem qh{β:Type}[Inhabited β]{enc:β->AA AL}{k:Nat}(a:∀x,(enc x).length=k)(d:Array β):flatK enc k d=((d.toList.map enc).flatten).toArray:=by
 have g:∀v∈d.toList.map enc,v.length=k:=by
  intro v j;obtain⟨x,_,rfl⟩:=Xe.1 j;exact a x
 apply Array.ext_getElem?;intro t;rw[m8 ((d.toList.map enc).flatten) t];by_cases h:t<d.size*k
 .rw[t2 _ t g (by simpa using h)];have l:0<k:=by
   rcases Nat.eq_zero_or_pos k with q|q
   .subst q;simp at h
   .exact q
  have h1:=Nat.div_lt_of_lt_mul (by rw[Nat.mul_comm];exact h);have i:t%k<k:=Nat.mod_lt _ l;have f:t<(flatK enc k d).size:=by simpa using h
  have e:=get_flatK enc k d t h;rw[getElem!_pos (flatK enc k d) t f]at e;rw[Array.getElem?_eq_getElem f,e];simp[h1];rw[XL (by rw[a];exact i)];rfl
 .have e:(d.toList.map enc).flatten.length=d.size*k:=by rw[aZ _ g];simp
  rw[Array.getElem?_eq_none (by simpa using h),XP (by omega)]
section
variable {ro:Nat->Prop} {σ:CD} {w:AJ} {T:Type} {enc:T->AA A} {k:Nat}
theorem RL.parts:∀{l:AA T} {lv:AA AL},RL ro σ w k (l.map enc) lv->
  ∃(ps:AA (T×AA AL)) (rest:AA AL),ps.map (·.1)=l/\lv=(ps.map (·.2)).flatten++rest/\ ∀p∈ps,p.2.length=k/\LR ro σ w (enc p.1) p.2/\ ∀v∈p.2,QB v
 |[],lv,_=>⟨[],lv,rfl,rfl,by simp⟩
 |x::l,lv,h=>by
  obtain⟨l1,l2,rfl,h1,⟨h2,h3⟩,h4⟩:=h;obtain⟨ps,rest,e1,rfl,h5⟩:=RL.parts h4;refine⟨(x,l1)::ps,rest,by simp[e1],by simp,?_⟩;intro p hp;rcases X7.1 hp with rfl|hp
  .exact⟨by rw[h2.length];exact h1,h2,h3⟩
  .exact h5 p hp
theorem tj(hk:∀x,(enc x).length=k):∀{ps:AA (T×AA AL)} {rest:AA AL},(∀p∈ps,LR ro σ w (enc p.1) p.2/\ ∀v∈p.2,QB v)->RL ro σ w k ((ps.map (·.1)).map enc) ((ps.map (·.2)).flatten++rest)
 |[],_,_=>trivial
 |p::ps,rest,h=>by
  refine⟨p.2,(ps.map (·.2)).flatten++rest,by simp,hk _,h p (by simp),tj hk λq hq=>h q (by simp[hq])⟩
end
structure Elt (ro:Nat->Prop) (w:AJ) {T:Type} (enc:T->List A) (k:Nat) (l:List T) where
 x:T
 vs:List AL
 mem:x∈l
 len:vs.length=k
 rel:LR ro [] w (enc x) vs
 plain:∀v∈vs,QB v
theorem yu{v:AL}(h:QB v):v.oneCell'=true:=by cases v<;>first|rfl|exact h.elim
theorem pd{P:AK}{ρ:Ren}(L:SlLaysF0.n6 P ρ){T:Type}[DecidableEq T]{enc:T->AA A}{k t g:Nat}{cap:AA A}{l l':AA T}{cf:T->T->AB Int}(hs:Ky cf l=AC l')
  (a4:∀x y c,cf x y=AC c->C P g ([.agg (enc x),.agg (enc y)]++cap) [] (λa H=>a=.int .i64 c/\H=[]))
  (aE:∀w,(isAgg (ρ.t 24)).run P w=.ok AE w)(zE:∀w,(Go.sizeOf (ρ.t 24)).run P w=.ok k w)(eg:∀args w,(callFunc g args).run P w=.ok (.enter g args) w)
  (hk:∀x,(enc x).length=k)(hd:YO cap=AE):
  C P (ρ.f 6) [.osl 0 0 l.length k,.fn (.func g) [] cap] [.row t k (l.map enc)] (λa H=>a=.tup []/\H=[.row t k (l'.map enc)]):=by
 intro fr J σ vals w s hv;obtain⟨vs,r1,rfl,bo,vf,r2,rfl,bm,hr⟩:=hv;cases(show r2=[]from hr);obtain⟨lf,lc,rfl,h1,a5⟩:=bm;cases(show lf=[]from h1);have ax:LR J [] w cap lc:=LR.data hd a5;obtain⟨a8,aj,R,ay,a9⟩:=mj hs;have E:∀(ad:AB Addr) (c:Nat),vs=.slice ad 0 c->l=[]->
   Calls P (ρ.f 6) [vs,.func (.func g) #[] lc.toArray].toArray w λe w'=>∃v r H' ae τ,e=.returned v/\(r=.tup []/\H'=[.row t k (l'.map enc)])/\B9 fr ae (σ++τ) H' w'/\VR ae (σ++τ) w' r v/\Qm fr J w ae w':=by
  rintro ad c rfl rfl;have af:l'=[]:=by rw[<- a9];rfl
  subst af;refine(AnyF.slices_SortFunc_none L ad c (.func (.func g) #[] lc.toArray) w).mono ?_;rintro e w' ⟨rfl,rfl⟩;exact⟨_,_,_,J,[],rfl,⟨rfl,rfl⟩,by simpa using s,⟨[],rfl,rfl⟩,Qm.refl _ _ _⟩
 rcases bo with⟨h0,rfl⟩|⟨b,p,cp,t',m,q1,rfl,q2,⟨q3,bt⟩,q4,q5⟩
 .exact E AF 0 rfl (VJ.1 h0)
 .by_cases af:l=[]
  .subst af;exact E _ cp rfl rfl
  .have bi:0<l.length:=List.length_pos_iff.2 af;obtain rfl:=q2 (Vg bi q3);obtain⟨lv,e1,e2⟩:=s.blk 0 _ _ q1 rfl;obtain⟨hb,am,a0⟩:=s.own 0 b _ q1 rfl rfl;obtain⟨V,G,ba,rfl,ag⟩:=RL.parts e2
   let α:=Elt J w enc k l
   have a6:∀p∈V,p.1∈l:=λp hp=>by rw[<- ba];exact VG hp
   let ds:AA α:=V.attach.map λp=>⟨p.1.1,p.1.2,a6 _ p.2,(ag _ p.2).1,(ag _ p.2).2.1,(ag _ p.2).2.2⟩
   have a3:∀{γ:Type} (f:T×AA AL->γ),V.attach.map (λp=>f p.1)=V.map f:=λf=>by simp
   have Q:ds.map (·.x)=l:=by
    show(V.attach.map _).map _=_;rw[List.map_map];exact(a3 (·.1)).trans ba
   have al:ds.map (·.vs)=V.map (·.2):=by
    show(V.attach.map _).map _=_;rw[List.map_map];exact a3 (·.2)
   have av:ds.length=l.length:=by rw[<- Q];simp
   have bb:ds≠[]:=by intro q;rw[q]at av;simp at av;omega
   let inh:Inhabited α:=⟨ds.head bb⟩
   let enc':α->AA AL:=λa=>a.vs
   let cf':α->α->Int:=λx y=>(cf x.x y.x).getD 0
   have ac:∀x y:α,ltOf cf' x y=GW cf x.x y.x:=by
    intro x y;obtain⟨c,B⟩:=aj x.x x.mem y.x y.mem;simp only[ltOf,GW,cf',B,Option.getD_some]
   have hO:SWO (ltOf cf'):=⟨λx=>by rw[ac];exact R.irrefl _ x.mem,λx y z a b=>by rw[ac]at*;exact R.trans _ x.mem _ y.mem _ z.mem a b,
    λx y z a b=>by rw[ac]at*;exact R.ntrans _ x.mem _ y.mem _ z.mem a b⟩
   have X:∀x:α,(enc' x).length=k:=λx=>x.len;have aq:flatK enc' k ds.toArray=((V.map (·.2)).flatten).toArray:=by
    rw[qh X];show((ds.map λa=>a.vs).flatten).toArray=_;rw[al]
   have bn:∀v∈V.map (·.2),v.length=k:=by
    intro v hv;obtain⟨p,hp,rfl⟩:=Xe.1 hv;exact(ag p hp).1
   have aa:(V.map (·.2)).flatten.length=ds.length*k:=by rw[aZ _ bn, <- al];simp
   have hH:HoldsK enc' k w b (0*k) ds.toArray:=by
    intro j hj;rw[aq]at hj⊢;simp only[List.size_toArray]at hj;constructor
    .unfold World.cell?;simp only[e1,Option.isSome_none,Xi,if_false,Nat.zero_mul,Xx];rw[m8,XN hj];exact qk _ _ hj
    .unfold World.frozen?;simp only[e1];simp
   have ar:∀(d:Array α),d.size=ds.toArray.size->(putRowK enc' k w b (0*k) d).heap=w.heap.setIfInBounds b (.cells (((d.toList.map enc').flatten++G)).toArray t (0,0)):=by
    intro d u;have ah:(d.toList.map enc').flatten.length=(V.map (·.2)).flatten.length:=by
     rw[aZ _ (k:=k) (by intro v hv;obtain⟨x,_,rfl⟩:=Xe.1 hv;exact X x),aa];simp at u⊢;rw[u]
    unfold putRowK putRow mapBlock;show w.heap.modify b _=_;rw[m_ e1];simp only[onCells];congr 2;rw[qh X];unfold putCells;apply Array.ext_getElem?;intro i;simp only[Array.getElem?_mapIdx,m8,Nat.zero_mul,XV,true_and,Xx,Nat.sub_zero,List.size_toArray,id_eq];by_cases hi:i<(d.toList.map enc').flatten.length
    .rw[XN hi,XN (by rw[<- ah];exact hi),XL (by rw[<- ah];exact hi),qk _ _ hi];exact congrArg AC (Vu hi)
    .rw[XO (by omega),XO (by omega),ah];cases(G[i-(V.map (·.2)).flatten.length]?)with
     |none=>rfl
     |some v=>
      rw[<- ah];exact congrArg AC (Vt hi)
   have M:∀(m:Nat) (os:Array Obj) (d:Array α),d.size=ds.toArray.size->
     (∀c,c<w.heap.size->c≠b->(sortWorldK enc' k w b (0*k) m d os).heap[c]?=w.heap[c]?)/\(sortWorldK enc' k w b (0*k) m d os).heap[b]?=AC (.cells (((d.toList.map enc').flatten++G)).toArray t (0,0))/\
     w.heap.size<=(sortWorldK enc' k w b (0*k) m d os).heap.size:=by
    intro m os d u;have e:(sortWorldK enc' k w b (0*k) m d os).heap=w.heap.setIfInBounds b (.cells (((d.toList.map enc').flatten++G)).toArray t (0,0))++os:=by
     rw[<- ar d u];rfl
    rw[e];refine⟨λc B br=>?_,?_,by simp⟩
    .rw[Array.getElem?_append_left (by simpa using B),Vf,Vt (λq=>br q.symm)]
    .rw[Array.getElem?_append_left (by simpa using hb),Vf,Vu rfl,Vu hb]
   have N:∀(m:Nat) (os:Array Obj) (d:Array α),d.size=ds.toArray.size->∀c y,w.shape? c=AC y->(sortWorldK enc' k w b (0*k) m d os).shape? c=AC y:=by
    intro m os d u c y hy;obtain⟨g1,g2,g3⟩:=M m os d u;by_cases B:c=b
    .subst B;unfold World.shape? at hy⊢;rw[e1]at hy;rw[g2];simp only[Option.some.injEq]at hy⊢;rw[<- hy];congr 1;simp only[List.size_toArray,X4];rw[aZ _ (k:=k) (by intro v hv;obtain⟨x,_,rfl⟩:=Xe.1 hv;exact X x),aa];simp at u⊢;rw[u]
    .unfold World.shape? at hy⊢;rw[g1 c (yY hy) B];exact hy
   have ak:∀(m:Nat) (os:Array Obj) (d:Array α),d.size=ds.toArray.size->∀τ,Cx J τ w J τ (sortWorldK enc' k w b (0*k) m d os):=by
    intro m os d u τ;obtain⟨g1,g2,g3⟩:=M m os d u;exact⟨λ_ q=>q,λc B=>g1 c (s.roLt c B) (λq=>am (q▸B)),N m os d u,λ_ _ q=>q⟩
   have bd:CmpLays P g lc.toArray enc' k cf' b (0*k) ds.toArray.size w:=by
    intro m os dk bc x y;obtain⟨c,B⟩:=aj x.x x.mem y.x y.mem;have F:=ak m os dk bc [];have bh:=a4 _ _ _ B;generalize hW:sortWorldK enc' k w b (0*k) m dk os=W at*;have bg:w.heap.size<=W.heap.size:=by rw[<- hW];exact(M m os dk bc).2.2
    have sW:B9 (λc=>c<W.heap.size/\ ¬J c) J [] [] W:=
     ⟨rfl,s.roOk.to (λ_ q=>q) F.keep (λc B=>Vg (s.roLt c B) bg),λc B=>B.1,λc B hf=>hf.2 B,λi b x h=>by simp at h,λi j b x y h=>by simp at h,λi y x h=>by simp at h,λi b x c h=>by simp at h⟩
    have an:LR J [] W ([.agg (enc x.x),.agg (enc y.x)]++cap) ([.agg x.vs.toArray,.agg y.vs.toArray]++lc):=
     LR.append (show LR J [] W [A.agg (enc x.x),A.agg (enc y.x)] [Value.agg x.vs.toArray,Value.agg y.vs.toArray]from⟨_,_,rfl,⟨x.vs,rfl,x.rel.mono F⟩,_,_,rfl,⟨y.vs,rfl,y.rel.mono F⟩,rfl⟩) (ax.mono F)
    have O:=bh _ J [] _ W sW an;have be:(([Value.agg x.vs.toArray,Value.agg y.vs.toArray]++lc).toArray:Array AL)= #[Value.agg (enc' x).toArray,Value.agg (enc' y).toArray]++lc.toArray:=by simp[enc']
    rw[be]at O;refine O.mono ?_;rintro e w' ⟨v,r,H',ae,τ,rfl,⟨rfl,rfl⟩,s',bk,ev⟩;refine⟨?_,?_⟩
    .rw[show v=.int .i64 c from bk];simp only[cf',B,Option.getD_some]
    .refine vz (λc B=>?_) ev.size ev.os ev.tape ev.output ev.drawn;by_cases a2:J c
     .exact ev.keepRo c a2
     .exact ev.keepFr c ⟨B,a2⟩
   have ab:ds.toArray.size=l.length:=by simpa using av
   have ai:=AnyQ.slices_SortFunc L k aE zE enc' X (λx v hv=>yu (x.plain v hv)) cf' hO g lc.toArray b (0*k) cp ds.toArray w eg bd hH hb (by rw[ab];unfold Yn at a8;omega);rw[ab]at ai;refine ai.mono ?_;rintro e w' ⟨rfl,d,n,os,Y,au,rfl⟩;have u:d.size=ds.toArray.size:=Y.1;obtain⟨g1,g2,g3⟩:=M n os d u;have aw:d.toList.Perm ds:=by
    have h:=Y.2.2;have x1:d.extract 0 l.length=d:=by rw[<- ab, <- u];exact Array.extract_size
    have x2:ds.toArray.extract 0 l.length=ds.toArray:=by rw[<- ab];exact Array.extract_size
    rw[x1,x2]at h;simpa using h
   have a7:d.toList.map (·.x)=l':=by
    rw[<- a9];refine f5 (lt:=GW cf) ?_ ?_ ?_ (YM R)
    .exact((aw.map (·.x)).trans (by rw[Q])).trans (Q2 _ _).symm
    .intro x hx y hy;have bl:x∈l:=by rw[<- Q];exact(aw.map (·.x)).mem_iff.1 hx
     have bs:y∈l:=by rw[<- Q];exact(aw.map (·.x)).mem_iff.1 hy
     exact ay x bl y bs
    .rw[VE];intro i j hi hj bj;simp only[X3]at hi hj;simp only[List.getElem_map];rw[<- ac];have:=au i j (XV _) bj (by rw[<- ab, <- u];simpa using hj);rw[getElem!_pos d j (by simpa using hj),getElem!_pos d i (by simpa using hi)]at this;simpa using this
   have bq:RL J [] (sortWorldK enc' k w b (0*k) n d os) k (l'.map enc) ((d.toList.map enc').flatten++G):=by
    have e3:d.toList.map enc'=(d.toList.map λa=>(a.x,a.vs)).map (·.2):=by simp[enc']
    have e4:l'=(d.toList.map λa=>(a.x,a.vs)).map (·.1):=by rw[<- a7];simp
    rw[e3,e4];refine tj hk ?_;intro p hp;obtain⟨a,_,rfl⟩:=Xe.1 hp;exact⟨a.rel.mono (ak n os d u []),a.plain⟩
   have a1:Qm fr J w J (sortWorldK enc' k w b (0*k) n d os):=
    ⟨λ_ q=>q,λc B=>g1 c (s.roLt c B) (λq=>am (q▸B)),λc B=>g1 c (s.frLt c B) (λq=>a0 (q▸B)),g3,N n os d u,rfl,rfl,rfl,Nat.le_add_right _ _⟩
   have ao:σ.length=1:=s.len;have az:B9 fr J σ [.row t k (l'.map enc)] (sortWorldK enc' k w b (0*k) n d os):=by
    have i0:∀{i:Nat} {x:B8},([.row t k (l'.map enc)]:Qc)[i]?=AC x->i=0/\x=.row t k (l'.map enc):=by
     intro i x h;cases i with
     |zero=>simp at h;exact⟨rfl,h.symm⟩
     |succ i=>simp at h
    refine⟨ao,s.roOk.to (λ_ q=>q) a1.keepRo (λc B=>Vg (s.roLt c B) g3),λc B=>Vg (s.frLt c B) g3,s.roFr,λi c x h1 h2 h3=>?_,λi j c x y h1 h2 h3 h4 _ _=>?_,λi y x h1 h2=>?_,λi b x c h1 h2 h3=>by obtain⟨rfl,rfl⟩:=i0 h2;exact h3.elim⟩
    .obtain⟨rfl,rfl⟩:=i0 h2;obtain⟨p1,p2⟩:=s.own 0 c _ h1 rfl rfl;exact⟨Vg p1 g3,p2⟩
    .rw[(i0 h3).1,(i0 h4).1]
    .obtain⟨rfl,rfl⟩:=i0 h2;rw[q1]at h1;cases h1;exact⟨_,g2,bq⟩
   exact⟨_,_,_,J,[],rfl,⟨rfl,rfl⟩,by simpa using az,⟨[],rfl,rfl⟩,a1⟩
end Go.Sw
namespace Go.Sw
open Option renaming some→AC,none→AF
open Bool renaming false→AD,true→AE
open Decidable renaming decide→AG
open Go renaming World→AJ,Program→AK,Value→AL,Oper→AM
variable {T k:Nat}
section
variable {P:AK} {o:AM} {env:Env} {H:Qc} {fr ro:Nat->Prop} {σ:CD} {w:AJ}
theorem B9.addRo(s:B9 fr ro σ H w){b:Nat}(f:b<w.heap.size)(g:¬fr b)(n:∀(i:Nat) (x:B8),σ[i]?=AC (AC b)->H[i]?=AC x->x.live=AE->False)
  (k:∀(i d:Nat) (x:B8),σ[i]?=AC (AC d)->H[i]?=AC x->De w x d b->False):B9 fr (λc=>ro c\/c=b) σ H w:=by
 refine⟨s.len,s.roOk.to (λ_ q=>.inl q) (λ_ _=>rfl) ?_,s.frLt,?_,?_,s.inj,?_,s.hidTo (· = ·) Yl (XU _) (by grind) (by simp) (by grind)⟩
 .rintro c (q|rfl)
  .exact s.roLt c q
  .exact f
 .rintro c (q|rfl)
  .exact s.roFr c q
  .exact g
 .intro i c x e a h;obtain⟨l,m,j⟩:=s.own i c x e a h
  grind
 .intro i y x e a;exact(s.blk i y x e a).keep ⟨λ_ q=>.inl q,λ_ _=>rfl,λ_ _ q=>q,λ_ _ q=>q⟩ (λ_ _ _=>rfl) (λ_ _ _ _=>rfl)
theorem YG{e n:Nat}{xs:AA Operand}{es:AA (AA A)}(E:Yg P T e k)(ho:o.op=.buildSlice T n (M0 0 xs).toArray)(J:xs.length=n)(B:Nat.ble (n*k) 16777216=AE)
  (W:(xs.all λx=>Yo (Bu env x))=AE)(y:Yw env xs=es)(L:allK k es)(V:es.flatten.all Yr=AE)(Y:YO es.flatten=AE):
  Do P o env H (.rsl k es) H:=by
 intro Q t σ N a w r;subst y;obtain⟨l,R,M⟩:=nh r E J B W L;have G:LR t [] w (Yw env xs).flatten l:=M.data Y;have f:∀b,b<w.heap.size->(w.alloc (.cells l.toArray e)).heap[b]?=w.heap[b]? :=λb O=>YF _ _ b O;have h:w.heap.size<=(w.alloc (.cells l.toArray e)).heap.size:=by simp
 have X:=r.sim.grown f h;have s:Qm Q t w t (w.alloc (.cells l.toArray e)):=Qm.alloc _ r.sim.roLt r.sim.frLt;have s2:=X.addRo (by simp) (λq=>Nat.lt_irrefl _ (r.sim.frLt _ q)) (λi x j p F=>Nat.lt_irrefl _ (r.sim.own i _ x j p F).1)
  (λi d x j p F=>Nat.lt_irrefl _ (r.sim.hid i d x _ j p (r.sim.hidKeep j p (λz=>f d (r.sim.own i d x j p z).1) (λb q=>f b (r.sim.roLt b q)) F)).lt)
 have u:RL t [] (w.alloc (.cells l.toArray e)) k (Yw env xs) l:=by
  have:=Y9 (rest:=[]) L (G.mono (s.ext0 [])) (M.plain V)
  grind
 have g:(Yw env xs).length=n:=by simp[Yw,J]
 refine⟨_,_,λc=>t c\/c=w.heap.size,[],na ho a.eval R,(⟨AC ⟨w.heap.size,0,AF⟩,n,by rw[g],by omega,.inr ⟨w.heap.size,0,rfl,.inr rfl,?_⟩⟩),by grind,s.trans (YR λ_ q=>.inl q)⟩;have m:(w.alloc (.cells l.toArray e)).heap[w.heap.size]?=AC (.cells ([]++l).toArray e (0,0)):=Q9 _ _;have:=YD m u;exact this.keep ⟨λ_ q=>.inl q,λ_ _=>rfl,λ_ _ q=>q,λ_ _ q=>q⟩ rfl
end
inductive H7:List A->List A->Prop
 |nil:H7 [] []
 |eq {a:A} {l m:List A} (h:H7 l m):H7 (a::l) (a::m)
 |nl {k:Nat} {l m:List A} (h:H7 l m):H7 (.nils::l) (.rsl k []::m)
theorem LR.nils{ro:Nat->Prop}{σ:CD}{w:AJ}{i g:AA A}(h:H7 i g):∀{l:AA AL},LR ro σ w i l->LR ro σ w g l:=by
 induction h with
 |nil=>simp
 |eq _ ih=>rintro l ⟨v,d,e,f,a⟩;exact⟨v,d,e,f,ih a⟩
 |nl _ ih=>rintro l ⟨v,d,e,f,a⟩;exact⟨v,d,e,⟨AF,0,f,XU _,.inl rfl⟩,ih a⟩
theorem C.nils{P:AK}{f:FuncId}{l1 bs:AA A}{H:Qc}{Q:A->Qc->Prop}(hl:H7 l1 bs)(h:C P f bs H Q):C P f l1 H Q:=
 λfr ro σ vals w s l=>h fr ro σ vals w s (LR.nils hl l)
def Qp(k:IntKind)(n:Int):Prop:=k.min<=n/\n<=k.max
def PQ(w:AJ):Nat->Prop:=λb=>b<w.heap.size
structure Zd {H:Type} (μ:DataW H->Nat):Prop where
 str:∀bytes,bytes.length<=μ (.lit (.string bytes))
 sl:∀e s,e.length<=μ (.slice e s)
 sle:∀e s,∀d∈e,μ d<=μ (.slice e s)
 ag:∀ps,∀d∈ps,μ d<=μ (.agg ps)
def RB(P:AK)(n:Nat)(t:TypeId)(T:Type)(e:T->AA A)(wf:T->Prop):Prop:=
 ∀(H:Type) (enc:TypeId×AL->H) (w:AJ) (base:Nat) (spare:Nat->Bool) (held:Bool) (m:Nat) (cs:AA AL) d,m<n->DataW.trod enc P w base spare held m t cs=AC d->
  ∀μ:DataW H->Nat,Zd μ->μ d.1<=1048576->∃x:T,wf x/\LR (PQ w) [] w (e x) cs/\ ∀v∈cs,QB v
section
variable {P:AK} {n:Nat} {t:TypeId} {T:Type} {e:T->AA A} {wf:T->Prop}
theorem RB.down(h:RB P (n+1) t T e wf):RB P n t T e wf:=λH enc w base spare held m cs d hm=>h H enc w base spare held m cs d (Nat.lt_succ_of_lt hm)
theorem eP(h:∀n,RB P n t T e wf->RB P (n+1) t T e wf):∀n,RB P n t T e wf
 |0=>λH enc w base spare held m cs d hm=>(by omega)
 |n+1=>h n (eP h n)
theorem QW{T':Type}{f:T'->AA A}{a:T'->Prop}(h:RB P n t T e wf)(g:T->T')(he:∀x,f (g x)=e x)(l:∀x,wf x->a (g x)):RB P n t T' f a:=by
 intro H enc w base spare held m cs d hm hd μ hμ hwt;obtain⟨x,j,i,k⟩:=h H enc w base spare held m cs d hm hd μ hμ hwt
 grind
theorem RB.int{k:IntKind}(a:P.underlying t=AC (.int k)):RB P n t Int (Qe k) (Qp k):=by
 intro H enc w base spare held m cs d hm hd μ hμ hwt;cases m with
 |zero=>simp[DataW.trod]at hd
 |succ m=>
  rcases cs with _|⟨v,_|⟨h,r⟩⟩
  .simp[DataW.trod,a]at hd
  .cases v<;>simp[DataW.trod,a]at hd;rename_i g e;obtain⟨⟨rfl,f⟩,_⟩:=hd;refine⟨e,?_,⟨_,_,rfl,rfl,rfl⟩,by simp[QB]⟩;simpa[Lit.wf,Qp]using f
  .simp[DataW.trod,a]at hd
theorem RB.bool(a:P.underlying t=AC .bool):RB P n t Bool G5 (λ_=>True):=by
 intro H enc w base spare held m cs d hm hd μ hμ hwt;cases m with
 |zero=>simp[DataW.trod]at hd
 |succ m=>
  rcases cs with _|⟨v,_|⟨e,r⟩⟩
  .simp[DataW.trod,a]at hd
  .cases v<;>simp[DataW.trod,a]at hd;rename_i b;exact⟨b,trivial,⟨_,_,rfl,rfl,rfl⟩,by simp[QB]⟩
  .simp[DataW.trod,a]at hd
theorem RB.string(a:P.underlying t=AC .string):RB P n t (AA UInt8) JM (λs=>s.length<=1048576):=by
 intro H enc w base spare held m cs d hm hd μ hμ hwt;cases m with
 |zero=>simp[DataW.trod]at hd
 |succ m=>
  rcases cs with _|⟨v,_|⟨e,r⟩⟩
  .simp[DataW.trod,a]at hd
  .cases v<;>simp[DataW.trod,a]at hd;rename_i s;obtain⟨_,rfl⟩:=hd;exact⟨s.data.toList,XW (hμ.str _) hwt,⟨_,_,rfl,rfl,rfl⟩,by simp[QB]⟩
  .simp[DataW.trod,a]at hd
theorem nO{α:Type}{f:Nat->AB α}:∀{n:Nat} {l:AA α},(List.range n).mapM f=AC l->l.length=n/\ ∀i,i<n->∃y,f i=AC y/\l[i]?=AC y
 |0,l,h=>by grind
 |n+1,l,h=>by
  rw[Xw,List.mapM_append]at h;cases h1:(List.range n).mapM f with
  |none=>grind
  |some l1=>
   cases h2:f n with
   |none=>grind
   |some y=>
    simp[h1,h2]at h;subst h;obtain⟨e1,e2⟩:=nO h1
    grind
theorem th{w:AJ}{ro:Nat->Prop}{b:Nat}:∀{cs:AA A} {l:AA AL} {off:Nat},LR ro [] w cs l->(∀v∈l,QB v)->(∀i,i<l.length->w.cell? ⟨b,off+i,AF⟩=l[i]?)->CR ro [] w b cs off
 |[],_,_,_,_,_=>trivial
 |a::cs,l,off,h,hp,hc=>by
  obtain⟨v,l',rfl,h1,h2⟩:=h;refine⟨(by grind),th h2 (by grind) λi hi=>?_⟩;have:=hc (i+1) (by grind)
  grind
theorem RB.slice{E:TypeId}{k:Nat}{s:TypeId}(G:P.underlying s=AC (.slice E))(hk:P.cellsOf E=k)(h0:Nat.blt 0 k=AE)(hl:∀x,(e x).length=k)(h:RB P n E T e wf):
  RB P (n+1) s (AA T) (Qw k e) (λl=>l.length<=1048576/\ ∀x∈l,wf x):=by
 intro H enc w base spare held m cs d hm hd μ hμ hwt;have k0:0<k:=by simp_all
 cases m with
 |zero=>simp[DataW.trod]at hd
 |succ m=>
  rcases cs with _|⟨v,_|⟨v2,r⟩⟩
  .simp[DataW.trod,G]at hd
  .cases v<;>try (simp[DataW.trod,G]at hd;done)
   rename_i a len g;cases a with
   |none=>
    rcases len with _|len
    .rcases g with _|g
     .refine⟨[],⟨by simp,by simp⟩,⟨_,_,rfl,⟨AF,0,rfl,XU _,.inl rfl⟩,rfl⟩,by simp[QB]⟩
     .simp[DataW.trod,G]at hd
    .simp[DataW.trod,G]at hd
   |some a=>
    simp only[DataW.trod,G]at hd;split at hd
    .rename_i hc;obtain⟨c1,c2,c3⟩:=hc;cases J:(List.range len).mapM (λi=>(w.cells? base (a.add (i*P.cellsOf E)) (P.cellsOf E)).bind (DataW.trod enc P w base spare held m E))with
     |none=>grind
     |some f=>
      rw[J]at hd;simp only[XK,Option.map_eq_some_iff]at hd;obtain⟨p,_,rfl⟩:=hd;have u:f.length<=1048576:=by
       have h1:=hμ.sl (f.map (·.1)) (p.map (·.1))
       grind
      have Y:∀y∈f,μ y.1<=1048576:=λy O=>XW (hμ.sle _ (p.map (·.1)) _ (VG O)) hwt;obtain⟨e1,e2⟩:=nO J;have R:∀i,i<len->∃(x:T) (l:AA AL),wf x/\LR (PQ w) [] w (e x) l/\(∀v∈l,QB v)/\l.length=k/\ ∀j,j<k->w.cell? ((a.add (i*k)).add j)=l[j]? :=by
       intro i hi;obtain⟨y,y1,y2⟩:=e2 i hi;rw[hk]at y1;cases W:w.cells? base (a.add (i*k)) k with
       |none=>grind
       |some l=>
        rw[W]at y1;obtain⟨x,x1,x2,x3⟩:=h H enc w base spare held m l y (by omega) y1 μ hμ (Y y (VH y2))
        grind[World.cells?,nO]
      by_cases Q:len=0
      .subst Q;exact⟨[],⟨by simp,by simp⟩,⟨_,_,rfl,⟨AC a,g,rfl,XV _,.inl rfl⟩,rfl⟩,by simp[QB]⟩
      .have first:a.spot=AF/\a.block<w.heap.size:=by
        obtain⟨x',l,p1,p2,p3,p4,V⟩:=R 0 (by omega);have t:=V 0 k0;have X:l[0]?=AC l[0]:=XL (by omega);have ea:(a.add (0*k)).add 0=a:=by simp[Addr.add]
        rw[X,ea]at t;unfold World.cell? at t;split at t
        .rename_i hh;constructor
         .cases q:a.spot with
          |none=>rfl
          |some z=>simp[q]at t
         .exact(Vd.1 hh).1
        .cases t
       obtain⟨M,hb⟩:=first
       have L:∀n,a.add n=⟨a.block,a.off+n,AF⟩:=by
        intro n;cases a;simp only at M;subst M;unfold Addr.add;split
        .rename_i q;subst q;rfl
        .rfl
       have F:∀(b o n:Nat),(⟨b,o,AF⟩:Addr).add n=⟨b,o+n,AF⟩:=by
        intro b o n;unfold Addr.add;split
        .rename_i q;subst q;rfl
        .rfl
       have pick:∀q i,len-i=q->i<=len->∃B:AA T,B.length=len-i/\(∀x∈B,wf x)/\RR (PQ w) [] w a.block k (B.map e) (a.off+i*k):=by
        intro q
        induction q with
        |zero=>intro i hq hi;exact⟨[],by simp[hq],by simp,trivial⟩
        |succ q ih=>
         intro i hq hi;obtain⟨B,w1,w2,N⟩:=ih (i+1) (by omega) (by omega);obtain⟨x,l,p1,p2,p3,p4,V⟩:=R i (by omega);refine⟨x::B,by simp[w1];omega,by intro y O;rcases X7.1 O with rfl|O;exact p1;exact w2 y O,hl x,?_,?_⟩
         .refine th p2 p3 λj hj=>?_;have t:=V j (by omega);rw[L,F]at t;exact t
         .rw[Xm, <- Nat.add_assoc]at N;exact N
       obtain⟨B,w1,w2,N⟩:=pick len 0 (by omega) (XV _);rw[Nat.zero_mul,Xy]at N;rw[Nat.sub_zero]at w1;refine⟨B,⟨by rw[w1, <- e1];exact u,w2⟩,⟨_,_,rfl,⟨AC a,g,by simp[w1],by simp[w1];exact c2,.inr ⟨a.block,a.off,?_,hb,N⟩⟩,rfl⟩,by simp[QB]⟩;cases a
       grind
    .cases hd
  .simp[DataW.trod,G]at hd
def RF(P:AK)(n:Nat)(fs:AA Field)(off L:Nat)(T:Type)(e:T->AA A)(wf:T->Prop):Prop:=
 ∀(H:Type) (enc:TypeId×AL->H) (w:AJ) (base:Nat) (spare:Nat->Bool) (held:Bool) (m:Nat) (cs:AA AL) ds,m<n->cs.length=L->
  fs.mapM (λf=>DataW.trod enc P w base spare held m f.type ((cs.drop f.offset).take (P.cellsOf f.type)))=AC ds->
  ∀μ:DataW H->Nat,Zd μ->(∀y∈ds,μ y.1<=1048576)->∃x:T,wf x/\LR (PQ w) [] w (e x) (cs.drop off)/\ ∀v∈cs.drop off,QB v
theorem RF.nil{L:Nat}:RF P n [] L L Unit (λ_=>[]) (λ_=>True):=by
 intro H enc w base spare held m cs ds hm hl hd μ hμ hwt;have:cs.drop L=[]:=(by grind);rw[this];exact⟨(),trivial,rfl,by simp⟩
theorem RF.cons{f:Field}{fs:AA Field}{off L:Nat}{T2:Type}{l:T2->AA A}{g:T2->Prop}(u:f.offset=off)(s:P.cellsOf f.type=k)(h:RB P n f.type T e wf)(r:RF P n fs (off+k) L T2 l g):
  RF P n (f::fs) off L (T×T2) (λp=>e p.1++l p.2) (λp=>wf p.1/\g p.2):=by
 intro H enc w base spare held m cs ds hm hl hd μ hμ hwt;rw[List.mapM_cons]at hd;cases q:DataW.trod enc P w base spare held m f.type ((cs.drop f.offset).take (P.cellsOf f.type))with
 |none=>grind
 |some d=>
  cases B:fs.mapM (λf=>DataW.trod enc P w base spare held m f.type ((cs.drop f.offset).take (P.cellsOf f.type)))with
  |none=>grind
  |some a=>
   have i:ds=d::a:=by
    grind
   subst i;rw[u,s]at q;obtain⟨x,z,t,F⟩:=h H enc w base spare held m _ d hm q μ hμ (hwt d (by simp));obtain⟨y,y1,y2,E⟩:=r H enc w base spare held m cs a hm hl B μ hμ (by grind);have j:cs.drop off=(cs.drop off).take k++cs.drop (off+k):=by rw[<- List.drop_drop,XA]
   refine⟨(x,y),⟨z,y1⟩,by rw[j];exact t.append y2,?_⟩
   grind
theorem RB.struct{fs:Array Field}{L:Nat}(g:P.underlying t=AC (.struct fs))(i:P.cellsOf t=L)(h:RF P n fs.toList 0 L T e wf):RB P (n+1) t T e wf:=by
 intro H enc w base spare held m cs d hm hd μ hμ hwt;cases m with
 |zero=>simp[DataW.trod]at hd
 |succ m=>
  unfold DataW.trod at hd;simp only[g]at hd;split at hd
  .rename_i j;cases a:fs.toList.mapM (λf=>DataW.trod enc P w base spare held m f.type ((cs.drop f.offset).take (P.cellsOf f.type)))with
   |none=>grind
   |some k=>
    rw[a]at hd;simp only[Xj,Option.some.injEq]at hd;subst hd;have:=h H enc w base spare held m cs k (by omega) (by rw[j,i]) a μ hμ (λy l=>XW (hμ.ag _ _ (by grind)) hwt)
    grind
  .cases hd
end
variable {P:AK}{W:AJ}
theorem C.law{f:FuncId}{args:AA A}{vals:AA AL}(h:C P f args [] (λa H=>a=.bool AE/\H=[]))(j:LR (PQ W) [] W args vals)(d:GP W):
  Calls P f vals.toArray W λe W'=>e=.returned (.bool AE)/\Go.RowKit.Below W.heap.size W W':=by
 have s:B9 (λ_=>False) (PQ W) [] [] W:=
  ⟨rfl,⟨λ_ h=>h,λb g=>d.size b g,d⟩,λ_ h=>h.elim,λ_ _ h=>h,(by simp),(by simp),(by simp),(by simp)⟩
 refine(h _ _ _ _ W s j).mono ?_;rintro e W' ⟨v,r,H',m,τ,rfl,⟨rfl,rfl⟩,_,l,ev⟩;exact⟨by rw[show v=.bool AE from l],⟨ev.os,ev.tape,ev.output,ev.size,λk i=>ev.keepRo k i⟩⟩
variable {t:TypeId}
theorem mb{a:Nat}{v:AL}{fs:Array Field}(d:P.underlying t=AC (.struct fs))(h:Value.okWide P W .any a t v):∃cs,v=.agg cs:=by
 unfold Value.okWide at h
 grind
theorem nQ{i:Array AL}{T:Type}{e:T->AA A}{wf:T->Prop}{H:Type}{enc:TypeId×AL->H}{f:Nat}{a:Nat->Bool}{held:Bool}{d:DataW H}{ps:AA MemPlace}
  (h:∀n,RB P n t T e wf)(j:DataW.Trod enc P W f a held t (.agg i) d ps){μ:DataW H->Nat}(hμ:Zd μ)(g:μ d<=1048576):∃x:T,wf x/\VR (PQ W) [] W (.agg (e x)) (.agg i):=by
 obtain⟨m,k⟩:=j;obtain⟨x,p,l,_⟩:=h (m+1) H enc W f a held m _ _ (Xo _) k μ hμ g;exact⟨x,p,i.toList,by simp,l⟩
theorem yw{a:AB Addr}{len cap:Nat}{T:Type}{e:T->AA A}{wf:AA T->Prop}{H:Type}{enc:TypeId×AL->H}{g:Nat}{f:Nat->Bool}{held:Bool}{d:DataW H}{ps:AA MemPlace}
  (h:∀n,RB P n t (AA T) (Qw k e) wf)(j:DataW.Trod enc P W g f held t (.slice a len cap) d ps){μ:DataW H->Nat}(hμ:Zd μ)(i:μ d<=1048576):∃x:AA T,wf x/\VR (PQ W) [] W (.rsl k (x.map e)) (.slice a len cap):=by
 obtain⟨m,l⟩:=j;obtain⟨x,p,⟨v,q,u,s,r⟩,_⟩:=h (m+1) H enc W g f held m _ _ (Xo _) l μ hμ i;refine⟨x,p,?_⟩;have:(Value.slice a len cap).cells.toList=[.slice a len cap]:=rfl
 grind
theorem z8(h:W.ShapedOpen P){g t u:Nat}{z:AL}(hg:Nat.blt g P.globals.size=AE)(n:(((begin P (λ_ _=>0) default).world.heap[g]?).bind Obj.row?)=AC (#[z],t))
  (j:P.buildable t=AE)(p:P.cellTypes P.depth t=AC [u])(q:P.underlying u=AC (.int .i64)):∃m:Int,W.cell? ⟨g,0,AF⟩=AC (.int .i64 m):=by
 obtain⟨a,y,l,s⟩:=h.1 g _ _ (by simp_all) n;obtain⟨B,i,_,k⟩:=s j;rw[p]at i;cases i;have w:a.size=1:=l;have e:a[0]?=AC a[0]:=(by simp);obtain⟨x,f,d⟩:=k 0 _ e;simp at f;subst f;unfold Cell.ok at d;rw[q]at d;cases r:a[0]<;>rw[r]at d<;>simp at d
 simp_all[World.cell?]
theorem zu{S B:Type}{step:S->AB (Bn S B)}(d:Nat->S)(b:B)(k:Nat)(p:∀i,i<k->step (d i)=AC (.k (d (i+1))))(f:step (d k)=AC (.d b)):∀n,k<n->iter step n (d 0)=AC b:=by
 have g:∀m i n,k-i=m->i<=k->m<n->iter step n (d i)=AC b:=by
  intro m
  induction m with
  |zero=>
   intro i n j h e;have:i=k:=by omega
   subst this;obtain⟨a,rfl⟩:∃a,n=a+1:=⟨n-1,by omega⟩;simp[iter,f]
  |succ m l=>
   intro i n j h e;obtain⟨a,rfl⟩:∃a,n=a+1:=⟨n-1,by omega⟩
   grind[iter]
 grind
theorem xX{S B:Type}{step:S->AB (Bn S B)}(d:S)(a:Nat->S)(b:B)(k:Nat)(g:a 0=d)(f:∀i,i<k->step (a i)=AC (.k (a (i+1))))(h:step (a k)=AC (.d b))(n:Nat)(e:k<n):iter step n d=AC b:=by
 rw[<- g];exact zu a b k f h n e
variable {α:Type}
variable {l:AA α}
theorem Qi{i:Nat}{x:α}(h:l[i]?=AC x):Bt l i=AC x:=by
 grind[Bt]
theorem Rv(l:AA α)(x:α)(h:l.length<4294967296):app l [x]=AC (l++[x]):=by
 unfold app;have:Nat.ble (l.length+[x].length) Yn=true:=by
  grind[Nat.ble_eq_true_of_le,Yn]
 grind
theorem fR(l m:AA α)(h:l.length+m.length<=4294967296):app l m=AC (l++m):=by
 simp_all[app,Yn,XT]
theorem Qt{n:Int}(d: -9223372036854775808<=n)(a:n<=9223372036854775807):IntKind.i64.wrap n=n:=by
 grind[IntKind.wrap,IntKind.bits,IntKind.signed]
theorem Qz{i:Nat}(h:i<9223372036854775807):IntKind.i64.wrap (i+1)=(i+1:Nat):=by
 rw[Qt (by omega) (by omega)];omega
theorem QV{p:Prop}[Decidable p](h:p):AG p=true:=Vv h
theorem Q4{p:Prop}[Decidable p](h:¬p):AG p=false:=Vx h
open Go.Proofs Go.Shelf
def cat(a b:AA UInt8):AB (AA UInt8):=bif Nat.ble (a.length+b.length) 4294967296 then AC (a++b)else AF
theorem vO{a b r:AA UInt8}(h:cat a b=AC r):a.length+b.length<=4294967296/\a++b=r:=by
 unfold cat at h;cases q:Nat.ble (a.length+b.length) 4294967296 with
 |true=>simp_all
 |false=>grind
def Z5(s t:AA UInt8):AB Bool:=bif Nat.blt s.length 4294967281 then AC (Lib.contains s t)else AF
variable {l':AA α}
section
variable {P:AK} {o:AM} {env:Env} {H:Qc}
theorem tD{u:TypeId}{x y:Operand}{p q r:AA UInt8}(j:cat p q=AC r)(s:o.op=.binOp .add t x y u:=by rfl)(hx:Bu env x=.str p:=by rfl)(hy:Bu env y=.str q:=by rfl):Bz P o env H (.str r):=by
 intro m k σ N a w rr;obtain⟨n,h⟩:=vO j;have e:=Qn rr x;rw[hx]at e;have f:=Qn rr y;rw[hy]at f;have i:a.eval x=.string ⟨p.toArray⟩:=e;have g:a.eval y=.string ⟨q.toArray⟩:=f;have l:(⟨p.toArray⟩:ByteArray)++⟨q.toArray⟩=⟨r.toArray⟩:=by
  rw[<- h];rfl
 refine⟨.string ⟨r.toArray⟩,?_,rfl⟩;have d:¬((⟨p.toArray⟩:ByteArray).size+(⟨q.toArray⟩:ByteArray).size>IntKind.i64.max):=by
  have:IntKind.i64.max=9223372036854775807:=by decide
  grind[ByteArray.size]
 simp_all[eqGuard,execOp,binOp_string_add,Op.stringOp]
def KU(n:Nat)(l:AA α)(i:Int):AB α:=bif Nat.beq l.length n then Bt l i else AF
theorem Pf{n:Nat}{i:Int}{x:α}(h:KU n l i=AC x):l.length=n/\Bt l i=AC x:=by
 grind[KU,Nat.eq_of_beq_eq_true]
def Hu(n:Nat)(l:AA α):AB (AA α):=bif Nat.beq l.length n then AC l else AF
theorem JK{n:Nat}(h:Hu n l=AC l'):l.length=n/\l=l':=by
 grind[Hu,Nat.eq_of_beq_eq_true]
theorem Rw{n:Nat}(h:Hu n l=AC l'):l'.length=n:=(JK h).2▸(JK h).1
section
variable {α:Type} {e:α->AA A} {t et k n b:Nat} {x y:Operand} {l:AA α}
theorem Ry{i:Int}{v:α}{j:IntKind}(h:KU n l i=AC v)(q:∀w,(underlying t).run P w=.ok (.array n et) w)(z:∀w,(sizeOf et).run P w=.ok k w)(B:Nat.ble 2 n=AE)
  (F:o.op=.indexAddr t x y:=by rfl)(hx:Bu env x=.ptr b 0:=by rfl)(hy:Bu env y=.int j i:=by rfl):Bz P o env H (.ptr b (i.toNat*k)):=by
 intro J M σ N a w r;obtain⟨O,E⟩:=Pf h;obtain⟨L,G⟩:=Jw E;have p:i.toNat<l.length:=(by grind);have d:=Qn r x;rw[hx]at d;obtain⟨e,d,s⟩:=d;have m:=Qn r y;rw[hy]at m;have f:a.eval y=.int j i:=m;refine⟨.pointer (AC ⟨e,i.toNat*k,AF⟩),?_,e,d,rfl⟩;have u:0<=i/\i<n:=by omega
 have g:(⟨e,0,AF⟩:Addr).add (i.toNat*k)=⟨e,i.toNat*k,AF⟩:=by
  grind[Addr.add]
 generalize a.eval=ρ at*;simp[F,s,f,Instr.indexAt,q,z,u,go_sem]
theorem pk{a:AA A}(hH:H[b]?=AC (.row t k (l.map e)):=by rfl)(hcs:(l.map e).flatten=a:=by rfl):DP H (.ptr b 0) a:=by
 intro n m σ w v s h;obtain⟨i,j,g⟩:=h;obtain⟨p,d,f⟩:=s.blk b _ _ j hH;refine⟨i,0,g,?_⟩;have:=(RR.flat (YD (pre:=[]) (by simpa using d) f)).1;subst hcs;exact this.lift
theorem qi(a:∀x,(e x).length=k)(L:AA α):(L.map e).flatten.length=L.length*k:=by
 induction L with
 |nil=>simp
 |cons c L ih=>grind
theorem Qj0{d:Nat}{l':AA α}(h:Hu n l=AC l')(g:∀x,(e x).length=k)(a:n*k=d)(p:∀w,(isAgg t).run P w=.ok AE w)(i:∀w,(sizeOf t).run P w=.ok d w)
  (j:o.op=.load t x:=by rfl)(hx:Bu env x=.ptr b 0:=by rfl)(hH:H[b]?=AC (.row T k (l.map e)):=by rfl):Bz P o env H (.agg (l'.map e).flatten):=by
 obtain⟨m,rfl⟩:=JK h;have f:=qi g l;rw[m,a]at f;exact QI j p i hx (pk hH rfl) (by grind) f
theorem yN{r:Nat}{n2:Nat}(i:l.length=n)(d:∀x,(e x).length=k)(f:n*k=n2)(h:∀w,(isAgg t).run P w=.ok AE w)(g:∀w,(sizeOf t).run P w=.ok n2 w)
  (a:lk env r=.ptr b 0:=by rfl)(hH:H[b]?=AC (.row T k (l.map e)):=by rfl):C_ P env H (.cell r t) (.agg (l.map e).flatten):=by
 have j:=qi d l;have:=tl h g (pk hH rfl) a (by grind)
 grind
theorem q_{c:AA A}{k:Nat}(h:c.length=k):∀n,allK k (List.replicate n c)
 |0=>trivial
 |n+1=>⟨h,q_ h n⟩
theorem Js{vs:Array AL}{z:α}(m:∀w,(zeroValue t).run P w=.ok (.agg vs) w)(u:(Y5 (List.replicate n (e z)).flatten).toArray=vs)(j:Mq (List.replicate n (e z)).flatten=AE)(h:(List.replicate n (e z)).flatten.all Yr=AE)(i:Nat.beq (e z).length k=AE)
  (s:o.op=.alloc t:=by rfl):Do P o env H (.ptr H.length 0) (H++[.row t k ((List.replicate n z).map e)]):=by
 intro p f σ N a w r;have g:LR f [] w (List.replicate n (e z)).flatten (Y5 (List.replicate n (e z)).flatten):=mT j;have d:=r.sim.allocRow (t:=t) (rest:=[]) (q_ (XR i) n) g (g.plain h);rw[Vh]at d;have l:(List.replicate n z).map e=List.replicate n (e z):=List.map_replicate;refine⟨.pointer (AC ⟨w.heap.size,0,AF⟩),w.alloc (.cells (Y5 (List.replicate n (e z)).flatten).toArray t),f,[AC w.heap.size],?_,⟨w.heap.size,?_,rfl⟩,l▸d,Qm.alloc _ r.sim.roLt r.sim.frLt⟩
 .have q:(newVar t (.agg vs)).run P w=.ok ⟨w.heap.size,0,AF⟩ (w.alloc (.cells vs t)):=rfl
  simp_all[execOp,Instr.alloc]
 .rw[<- r.sim.len];simp
theorem Jr{n2:Nat}{l':AA α}{vs:AA A}(h:l.length=n)(h':l'.length=n)(hk:∀x,(e x).length=k)(G:n*k=n2)(hs:∀w,(sizeOf t).run P w=.ok n2 w)
  (hp:∀x,(e x).all Yr=AE)(hd:∀x,YO (e x)=AE)(F:(l'.map e).flatten=vs)
  (ho:o.op=.store t x y:=by rfl)(s:Bu env x=.ptr b 0:=by rfl)(hH:H[b]?=AC (.row T k (l.map e)):=by rfl)(u:Bu env y=.agg vs:=by rfl):
  Hx P o env H (H.set b (.row T k (l'.map e))):=by
 intro fr W σ N a w r;subst F;have f:=Qn r x;rw[s]at f;obtain⟨bb,f,h2⟩:=f;have R:=Qn r y;rw[u]at R;obtain⟨m,h4,p⟩:=R;obtain⟨B,O,Y⟩:=r.sim.blk b _ _ f hH;have E:∀(L:AA α),allK k (L.map e):=by
  intro L
  induction L with
  |nil=>trivial
  |cons c L j=>exact⟨hk c,j⟩
 have M:(l'.map e).flatten.length=n2:=by grind[Ys]
 have X:m.length=n2:=by rw[p.length,M]
 have g:∀L:AA α,(L.map e).flatten.all Yr=true:=by
  grind
 have q:∀i ds:AA A,YO i=AE->YO ds=AE->YO (i++ds)=true:=by
  intro i
  induction i with
  |nil=>simp
  |cons c i j=>
   simp_all[YO]
 have J:∀L:AA α,YO (L.map e).flatten=true:=by
  intro L
  induction L with
  |nil=>rfl
  |cons c L j=>exact q _ _ (hd c) j
 have hlen:=by
  have:=Y.length;rw[X3,h,G]at this;exact this
 have Q:=Yb (P:=P) (vs:=m) 0 0 O (by omega) (p.plain (g l'));have V:splice B 0 m=m++B.drop n2:=by unfold splice;simp[X]
 have d:=r.sim.set (x':=.row T k (l'.map e)) (obj:=.cells (splice B 0 m).toArray T (0,0)) f hH rfl
  (λy u=>Jq O (Ya (by omega)) y u)
  (λex z=>by
   have s:=(p.data (J l')).mono ex.nil;exact⟨_,z,Y9 (E l') s (p.plain (g l'))⟩)
 refine⟨_,W,[],?_,by simpa using d.1,d.2⟩
 simp_all[Value.cells,storeVar,execOp,Instr.storeAt,Instr.sureAddr]
end
end
theorem C.contains{ρ:Ren}(L:Lays.n144 P ρ)(hg:ρ.g 1=Tw){s t:AA UInt8}{r:Bool}(h:Z5 s t=AC r):C P (ρ.f 144) [.str s,.str t] [] (λa H=>a=.bool r/\H=[]):=by
 unfold Z5 at h;cases q:Nat.blt s.length 4294967281 with
 |false=>grind
 |true=>
  rw[q]at h;obtain rfl:=X0 h;intro u d σ vals w sim hv;obtain⟨n,y,rfl,k,p,l,rfl,j,i⟩:=hv;cases(show l=[]from i);obtain⟨m,x⟩:=sim.roOk.gp.max;have e1:=k;have e2:=j;subst e1 e2;have hs:=by simpa using q
  refine(Any.strings_Contains L ⟨s.toArray⟩ ⟨t.toArray⟩ m w (by simpa[ByteArray.size]using hs) (by grind)).mono ?_;rintro e z ⟨rfl,rfl⟩;exact⟨_,_,_,d,[],rfl,⟨rfl,rfl⟩,by grind,rfl,Qm.refl _ _ _⟩
section
variable {P:AK} {o:AM} {env:Env} {H:Qc} {fr ro:Nat->Prop} {σ:CD} {w:AJ}
theorem B9.touch(s:B9 fr ro σ H w){b:Nat}{obj:Obj}(p:¬ro b)(m:¬fr b)(u:∀(i:Nat) (x:B8),σ[i]?=AC (AC b)->H[i]?=AC x->x.live=AE->False)
  (k:∀(i d:Nat) (x:B8),σ[i]?=AC (AC d)->H[i]?=AC x->De w x d b->False)
  (r:∀y,w.shape? b=AC y->{w with heap:=w.heap.setIfInBounds b obj}.shape? b=AC y):
  B9 fr ro σ H {w with heap:=w.heap.setIfInBounds b obj}/\Qm fr ro w ro {w with heap:=w.heap.setIfInBounds b obj}:=by
 have a:{w with heap:=w.heap.setIfInBounds b obj}.heap.size=w.heap.size:=by simp
 have ev:Qm fr ro w ro {w with heap:=w.heap.setIfInBounds b obj}:=
  ⟨λ_ h=>h,(by grind),(by grind),by omega,by
   grind[World.shape?],rfl,rfl,rfl,XU _⟩
 refine⟨⟨s.len,s.roOk.to (λ_ q=>q) ev.keepRo (λc h=>by rw[a];exact s.roLt c h),λc h=>by rw[a];exact s.frLt c h,s.roFr,?_,s.inj,?_,s.hidTo (· = ·) Yl (by omega) (by simp) (by simp) λj d y g l t=>.inl ⟨j,y,rfl,g,l,id,λc q=>s.hidKeep g l (by grind) ev.keepRo q⟩⟩,ev⟩
 .intro i c x f e n;rw[a];exact s.own i c x f e n
 .intro i y x f e;refine(s.blk i y x f e).keep (ev.ext0 σ) ?_ ?_
  .grind
  grind
theorem yD{E i n t:Nat}{x:Operand}{es:AA (AA A)}(ht:P.underlying T=AC (.slice E))(hE:P.underlying E=AC (.int .u8))(X:es.length=n)(h0:Nat.blt 0 n=AE)
  (ho:o.op=.convert T T x:=by rfl)(hx:Bu env x=.osl i 0 n 1:=by rfl)(hH:H[i]?=AC (.row t 1 es):=by rfl):
  Do P o env H (.rsl 1 es) (H.set i .dead):=by
 intro fr M σ N a w r;subst X;have h:=Qn r x;rw[hx]at h;rcases h with⟨hz,_⟩|⟨b,p,L,t',m,h,h2,h6,⟨h3,aa⟩,h4,h5⟩
 .simp_all
 .have V:0<es.length:=by simp_all
  obtain rfl:=h6 (by omega);obtain⟨hb,F,g⟩:=r.sim.own i b _ h hH rfl;obtain⟨l,Y,q2⟩:=r.sim.blk i _ _ h hH;have W:=r.sim.kill i;have f:∀(j:Nat) (y:B8),σ[j]?=AC (AC b)->(H.set i .dead)[j]?=AC y->y.live=AE->False:=by
   intro j y B e u;by_cases q:j=i
   .subst q;rw[Xb]at e;simp only[if_true]at e
    grind[B8.live]
   .rw[XQ (λz=>q z.symm)]at e;exact q (r.sim.inj j i b y _ B h e hH u rfl)
  have J:∀(j d:Nat) (y:B8),σ[j]?=AC (AC d)->(H.set i .dead)[j]?=AC y->De w y d b->False:=by
   intro j d y B e u;by_cases q:j=i
   .subst q;rw[Xb]at e;simp only[if_true]at e;split at e
    .cases e;exact u.elim
    .simp at e
   .rw[XQ (λz=>q z.symm)]at e;exact(r.sim.hid j d y b B e u).ne i b _ h hH rfl rfl
  let fz:Nat×Nat:=(l.length,l.length+1)
  have Q:∀y,w.shape? b=AC y->({w with heap:=w.heap.setIfInBounds b (.cells l.toArray t fz)}:AJ).shape? b=AC y:=by
   simp_all[World.shape?]
  obtain⟨s2,k⟩:=W.touch (obj:=.cells l.toArray t fz) F g f J Q;have s3:=s2.addRo (b:=b) (by grind) g f (λj d y B e u=>J j d y B e (W.hidKeep B e (by grind) k.keepRo u));have s:({w with heap:=w.heap.setIfInBounds b (.cells l.toArray t fz)}:AJ).heap[b]?=AC (.cells (([]:AA AL)++l).toArray t fz):=by
   grind
  have G:Cx M [] w M [] {w with heap:=w.heap.setIfInBounds b (.cells l.toArray t fz)}:=k.ext0 [];refine⟨.slice (AC ⟨b,0*1,AF⟩) es.length L,_,λc=>M c\/c=b,[],?_,?_,by grind,k.trans (YR λ_ q=>.inl q)⟩
  .have hf:w.freeze ⟨b,l.length,AF⟩ 1={w with heap:=w.heap.setIfInBounds b (.cells l.toArray t fz)}:=by
    unfold World.freeze;simp only[Nat.one_ne_zero,if_false];rw[m_ Y];rfl
   have O:(markStringish ⟨b,0*1,AF⟩).run P w=.ok () {w with heap:=w.heap.setIfInBounds b (.cells l.toArray t fz)}:=by
    simp_all[markStringish,World.shape?]
   have hu:∀w,(underlying T).run P w=.ok (.slice E) w:=run_underlying ht;have R:∀w,(underlying E).run P w=.ok (.int .u8) w:=run_underlying hE;generalize a.eval=ρ at*;simp only[execOp,ho,h2,convert,Vn,hu,R,Result.andThen,beq_self_eq_true,O,Vp]
  .refine⟨AC ⟨b,0*1,AF⟩,L,rfl,h3,.inr ⟨b,0*1,rfl,.inr rfl,?_⟩⟩;have:=YD (pre:=[]) s (q2.mono G);exact(by omega:RR M [] _ b 1 es (0*1)).keep ⟨λ_ q=>.inl q,λ_ _=>rfl,λ_ _ q=>q,λ_ _ q=>q⟩ rfl
end
mutual
theorem nD(ρ:Nat->Nat):∀{a:A},YH a=AE->Y6 ρ a=a
 |.any,_=>rfl
 |.bool _,_=>rfl
 |.int _ _,_=>rfl
 |.str _,_=>rfl
 |.nilp,_=>rfl
 |.ptr _ _,h=>by simp[YH]at h
 |.rp _,_=>rfl
 |.nils,_=>rfl
 |.rsl _ _,_=>rfl
 |.osl _ _ _ _,h=>by simp[YH]at h
 |.agg cs,h=>by simp only[YH]at h;simp only[Y6,R0 ρ h]
 |.fn f a c,h=>by simp only[YH,XX]at h;simp only[Y6,R0 ρ h.1,R0 ρ h.2]
 |.nilf,_=>rfl
 |.iface t a,h=>by simp only[YH]at h;simp only[Y6,nD ρ h]
 |.nilif,_=>rfl
 |.map _,h=>by simp[YH]at h
 |.nilm,_=>rfl
 |.tup vs,h=>by simp only[YH]at h;simp only[Y6,R0 ρ h]
theorem R0(ρ:Nat->Nat):∀{l:AA A},YO l=AE->Fd ρ l=l
 |[],_=>rfl
 |a::l,h=>by simp only[YO,XX]at h;simp only[Fd,nD ρ h.1,R0 ρ h.2]
end
theorem r7{α:Type}{e:α->AA A}(a:∀x,YO (e x)=AE):∀L:AA α,YO (L.map e).flatten=AE
 |[]=>rfl
 |c::L=>by
  have hdt:∀cs ds,YO cs=AE->YO ds=AE->YO (cs++ds)=true:=by
   intro cs
   induction cs with
   |nil=>simp
   |cons c cs d=>
    simp_all[YO]
  exact hdt _ _ (a c) (r7 a L)
theorem wt{e:α->AA A}(hd:∀x,YO (e x)=AE)(ρ:Nat->Nat)(l:AA α):Y6 ρ (.agg (l.map e).flatten)=.agg (l.map e).flatten:=
 nD ρ (by exact r7 hd l)
end Go.Sw
namespace Go.Sw
open Option renaming some→AC,none→AF
open Bool renaming false→AD,true→AE
open Decidable renaming decide→AG
open Go renaming World→AJ,Program→AK,Value→AL,Oper→AM
variable {T:Nat}
section
variable {P:AK} {o:AM} {env:Env} {H:Qc}
theorem eO{c:Call}{f:Nat}{x:Operand}{xs:AA Operand}{i:Array TypeId}{name:String}{v:A}{args:AA A}(d:∀(a:Array AL) (w:AJ),(callFunc f a).run P w=.ok (.enter f a) w)(n:o.op=.call c)
  (m:c={callee:=.invoke x name,args:=xs.toArray,argTypes:=i})(g:Bu env x=.iface T v)(hargs:v::xs.map (Bu env)=args)
  (l:∀(u:AL) (w:AJ),(method (P.types.size+Made.depth) T u name).run P w=.ok (f,u) w):DN P o env H f args:=by
 intro k j σ N a w r;have e:=Qn r x;rw[g]at e;obtain⟨u,e,h⟩:=e;refine⟨u::xs.map a.eval,?_,hargs▸⟨u,xs.map a.eval,rfl,h,UP r xs⟩⟩
 simp_all[VI,callMethod,execOp,resolve,invoke]
theorem Rr{I:Nat}{x:Operand}{v:A}{d:TypeDesc}(h:∀w,(underlying T).run P w=.ok d w)(k:∀m,d≠ .interface m)(j:o.op=.typeAssert x I T true:=by rfl)(hx:Bu env x=.iface T v:=by rfl):
  Bz P o env H (.tup [v,.bool AE]):=by
 intro i g σ N a w r;have e:=Qn r x;rw[hx]at e;obtain⟨u,e,f⟩:=e;refine⟨.tuple #[u,.bool AE],?_,[u,.bool AE],rfl,_,_,rfl,f,_,_,rfl,rfl,rfl⟩
 simp_all[execOp,Instr.typeAssert]
theorem lz{T' I:Nat}{x:Operand}{v z:A}{zv:AL}{d:TypeDesc}(k:∀w,(underlying T).run P w=.ok d w)(n:∀m,d≠ .interface m)(g:Nat.beq T' T=AD)(i:∀w,(zeroValue T).run P w=.ok zv w)(f:ZR z zv)
  (s:o.op=.typeAssert x I T true:=by rfl)(hx:Bu env x=.iface T' v:=by rfl):
  Bz P o env H (.tup [z,.bool AD]):=by
 intro l h σ N a w r;have e:=Qn r x;rw[hx]at e;obtain⟨u,e,p⟩:=e;have j:T'≠T:=λq=>by simp_all
 refine⟨.tuple #[zv,.bool AD],?_,[zv,.bool AD],rfl,_,_,rfl,f _ _ _,_,_,rfl,rfl,rfl⟩
 simp_all[execOp,Instr.typeAssert]
end
def TL(P:AK)(h0 N:Nat)(c:Code)(env:Env)(H:Qc)(Q:QP):Prop:=
 ∀rd fr ro σ a w,C0 fr ro σ H env N a w->Iu rd fr w->∀(b:Frame) (k:AA Item) (cs:AA Frame),b.roundOf=(WF rd).round->(WF rd).fn b.fn->(WF rd).room (cs.length+1+0)->∃e a' w',Hf h0 fr ro σ w N a.defers Q e a' w'/\ArrivesIn (Machine.fenced P (WF rd)) P (lone (b.atR a (.code c::.inLoop c::k)) cs w) b k cs e a' w'
def Rg(P:AK)(h0 N:Nat)(c:Code)(Q:QP):QP
 |.normal,env,H=>TL P h0 N c env H Q
 |.exit id,env,H=>Q (.exit id) env H
 |.ret,env,H=>Q .ret env H
section
variable {P:AK} {h0 N:Nat} {c:Code} {env:Env} {H:Qc} {Q:QP}
theorem wn(h:TL P h0 N c env H Q):TC P h0 N (.loop c) env H Q:=by
 intro m g f σ a w r hrd b k cs hro hb hr;obtain⟨e,i,l,j,d⟩:=h m g f σ a w r hrd b k cs hro hb hr;exact⟨e,i,l,j,.of_steps (.one (fenced_calm hb hr rfl) stepR_loop) d⟩
theorem TL.round(h:TC P h0 N c env H (Rg P h0 N c Q)):TL P h0 N c env H Q:=by
 intro G F z σ a w r hrd b k cs hro hb hr;obtain⟨e,m,n,J,d⟩:=h G F z σ a w r hrd b (.inLoop c::k) cs hro hb hr;obtain⟨x,f,H',i,σ',j,l,s,E,u,y,t⟩:=J;have B:∀x,Q x f H'->Tc e x->Hf h0 F z σ w N a.defers Q e m n:=λx q M=>⟨x,f,H',i,σ',j,M,q,E,u,y,t⟩;cases e with
 |normal=>
  obtain rfl:x=.normal:=l;obtain⟨L,O,w2,p,g⟩:=s G j i σ' m n E (hrd.to u t.sub) b k cs hro hb hr;exact⟨L,O,w2,p.grow u y t,.of_steps (StepsIn.trans d (.one (fenced_calm hb hr rfl) stepR_inLoop)) g⟩
 |exit id=>
  obtain rfl:x=.exit id:=l;exact⟨_,m,n,B _ s rfl,.pass rfl (by simp) d⟩
 |ret=>
  obtain rfl:x=.ret:=l;exact⟨_,m,n,B _ s rfl,.pass rfl (by simp) d⟩
 |_=>exact l.elim
theorem gK(h:TC P h0 N c env H (Rg P h0 N c Q)):Rg P h0 N c Q .normal env H:=TL.round h
theorem gI{id:Nat}(h:Q (.exit id) env H):Rg P h0 N c Q (.exit id) env H:=h
theorem gJ(h:Q .ret env H):Rg P h0 N c Q .ret env H:=h
theorem yP(h:TC P h0 N c env H (Rg P h0 N c Q)):TC P h0 N (.loop c) env H Q:=wn (TL.round h)
end
variable {k:Nat}
section
variable {P:AK} {o:AM} {env:Env} {H:Qc}
theorem Bz.ixL{t a b n j:Nat}{x y:Operand}{f:IntKind}{i:Int}(h:Nat.blt j n=AE)(hi:i=j)(e:∀w,(underlying t).run P w=.ok (.slice a) w)(d:∀w,(sizeOf a).run P w=.ok k w)
  (g:o.op=.indexAddr t x y:=by rfl)(hx:Bu env x=.osl b 0 n k:=by rfl)(hy:Bu env y=.int f i:=by rfl):Bz P o env H (.ptr b (j*k)):=by
 have l:=ly (H:=H) g e d hx hy (by omega) (by simp_all)
 grind
end
theorem tE{ro:Nat->Prop}{σ:CD}{w:AJ}{k:Nat}:∀{es:AA (AA A)} {l l':AA AL},RL ro σ w k es l->l.take (es.length*k)=l'.take (es.length*k)->RL ro σ w k es l'
 |[],_,_,_,_=>trivial
 |c::es,l,l',h,hp=>by
  obtain⟨l1,l2,rfl,h1,h2,h3⟩:=h;have hl1:l1.length=k:=by rw[h2.1.length];exact h1
  have a:l'.take k=l1:=by
   have:=congrArg (List.take k) hp
   grind[Nat.succ_mul]
  refine⟨l1,l'.drop k,by rw[<- a,XA],h1,h2,tE h3 ?_⟩;have:=congrArg (List.drop k) hp
  grind[Nat.succ_mul]
section
variable {P:AK} {o:AM} {env:Env} {H:Qc}
theorem Qg0{c:Call}{et b s n t:Nat}{x:Operand}{es f:AA (AA A)}{z:AL}(ht:P.underlying T=AC (.slice et))(hz:∀w,(zeroValue et).run P w=.ok z w)(q:z.cells.size=k)(ad:∀v∈z.cells,QB v)
  (F:es.take s=f)(hb:s+n=es.length)(ho:o.op=.call c:=by rfl)(hc:c={callee:=.builtin .clear,args:= #[x],argTypes:= #[T]}:=by rfl)
  (hx:Bu env x=.osl b s n k:=by rfl)(hH:H[b]?=AC (.row t k es):=by rfl):Do P o env H (.tup []) (H.set b (.row t k f)):=by
 intro M h σ N a w r;subst F hc;have hu:∀w,(underlying T).run P w=.ok (.slice et) w:=run_underlying ht;have e:=Qn r x;rw[hx]at e;have E:B9 M h σ (H.set b (.row t k (es.take s))) w:=by
  refine r.sim.weaken hH rfl ?_;intro y j;cases y with
  |none=>rw[show es=[]from j];simp[BR]
  |some G=>obtain⟨l,g1,g2⟩:=j;exact⟨l,g1,RL.take s g2⟩
 have O:∀v,a.eval x=v->(Builtin.clear_ #[T] o.type #[v]).run P w=.ok (.tuple #[]) w->
   ∃v w' ro' τ,(execOp a.eval o).run P w=.ok (.value v) w'/\VR ro' (σ++τ) w' (.tup []) v/\B9 M ro' (σ++τ) (H.set b (.row t k (es.take s))) w'/\Qm M h w ro' w':=by
  intro v B d;refine⟨.tuple #[],w,h,[],?_,⟨[],rfl,rfl⟩,by grind,Qm.refl _ _ _⟩
  simp_all[execOp,resolve,invoke,builtin]
 rcases e with⟨hn,e⟩|⟨G,p,Q,t',m,e,h2,h3,⟨h4,aa⟩,h5,h6⟩
 .simp_all[Builtin.clear_]
 .by_cases hn:n=0
  .simp_all[Builtin.clear_]
  .obtain rfl:=h3 (by omega);obtain⟨l,R,W⟩:=r.sim.blk b _ _ e hH;have X:=W.length
   let vs:=(Builtin.zeroCells z.cells n).toList
   have ac:vs.length=n*k:=by simp[vs,Builtin.zeroCells,q]
   have L:∀v∈vs,QB v:=by
    intro v B;simp only[vs,Builtin.zeroCells,Array.toList_map,Xe,Array.toList_range,List.mem_range]at B;obtain⟨i,hi,rfl⟩:=B;have Y:0<z.cells.size:=by
     grind
    grind[Nat.mod_lt]
   have ab:s*k+n*k=es.length*k:=by grind
   have d:=Yb (P:=P) (vs:=vs) (s*k) 0 R (by omega) L;have g:=r.sim.set (x':=.row t k (es.take s)) (obj:=.cells (splice l (s*k) vs).toArray t (0,0)) e hH rfl
    (λy j=>Jq R (Ya (by omega)) y j)
    (λex J=>⟨_,J,by
     refine(tE (RL.take s W) ?_).mono ex.nil
     grind[splice]⟩)
   refine⟨.tuple #[],_,h,[],?_,⟨[],rfl,rfl⟩,by grind,g.2⟩;have u:(Builtin.clear_ #[T] o.type #[.slice (AC ⟨G,s*k,AF⟩) n Q]).run P w=.ok (.tuple #[]) {w with heap:=w.heap.setIfInBounds G (.cells (splice l (s*k) vs).toArray t (0,0))}:=by
    obtain⟨V,rfl⟩:∃V,n=V+1:=⟨n-1,by omega⟩;simp only[Xy]at d;simp only[Builtin.clear_,XH,XF,Vn,hu,hz,Result.andThen,d,Vp,vs]
   generalize a.eval=ρ at*;simp only[execOp,ho,resolve,Vn,Vp,Result.andThen,invoke,builtin,XJ,Vk,Vl,h2,u]
end
variable {α:Type}
def isNil{R:Type}[DecidableEq R](l:AA α)(x y:AB R):AB R:=bif l.isEmpty then(bif x=y then x else AF)else y
variable {l:AA α}
theorem xW{R:Type}[DecidableEq R]{x y:AB R}{r:R}(h:isNil l x y=AC r)(b:Bool)(a:l≠[]->b=AD):(b=AE->x=AC r)/\(b=AD->y=AC r):=by
 unfold isNil at h
 grind
section
variable {P:AK} {o:AM} {env:Env} {H:Qc} {h0 N:Nat} {Q:QP}
theorem yC{e:α->AA A}{E:Nat}{u:TypeId}{x:Operand}(j:P.underlying T=AC (.slice E))(t:o.op=.binOp .eql T x (.const (.slice AF 0 0)) u)(h:Bu env x=.rsl k (l.map e)):
  bD P o env H (λv H'=>∃b:Bool,v=.bool b/\(l≠[]->b=AD)/\H'=H):=by
 intro m g σ N a w r;have f:=Qn r x;rw[h]at f;obtain⟨d,i,f,s,n⟩:=f;refine⟨.bool d.isNone,H,.bool d.isNone,w,g,[],⟨d.isNone,rfl,λq=>?_,rfl⟩,?_,rfl,by simpa using r.sim,Qm.refl _ _ _⟩
 .grind
 .have p:a.eval (.const (.slice AF 0 0))=.slice AF 0 0:=rfl
  grind[eqGuard,execOp,Sem.run_bind,Result.andThen,Go.run_eql_slice_nil,Sem.run_pure]
theorem wr{e:α->AA A}{E d:Nat}{u:TypeId}{x:Operand}{all:Array AM}{L:AA AM}(g:P.underlying T=AC (.slice E))(a:Bu env x=.rsl k (l.map e))
  (h:∀b,(l≠[]->b=AD)->WO P h0 N all L (up env d (.bool b)) H Q)
  (f:o.op=.binOp .eql T x (.const (.slice AF 0 0)) u:=by rfl)(hg:QE all o env true:=by rfl)(hd:o.dst=AC d:=by rfl)(hN:Nat.blt d N=true:=by rfl)(hh:Nat.ble h0 H.length=true:=by rfl):WO P h0 N all (o::L) env H Q:=by
 refine o7 (by simp_all) hg hd hN (yC g f a) ?_
 grind
end
theorem MT{x:AA α}{i:Int}(h:E_ l 0 i=AC x):0<=i/\i.toNat<=l.length/\l.take i.toNat=x/\x.length=i.toNat:=by
 obtain⟨_,a,e,d⟩:=Pb h
 grind
section
variable {P:AK} {o:AM} {env:Env} {H:Qc} {α:Type} {e:α->AA A} {T et k b t:Nat} {x y:Operand} {l l':AA α} {i:Int}
theorem tA(h:E_ l 0 i=AC l')(E1:∀w,(underlying T).run P w=.ok (.slice et) w)(E2:∀w,(sizeOf et).run P w=.ok k w)(a:o.op=.slice T x (AC y) AF none:=by rfl)
  (hx:Bu env x=.osl b 0 l.length k:=by rfl)(hy:Bu env y=.int .i64 i:=by rfl):Bz P o env H (.osl b (0+i.toNat) (l.length-i.toNat) k):=by
 obtain⟨e,d,_,_⟩:=MT h;exact mU E1 E2 a hx (by grind) (.inl ⟨rfl,rfl⟩) d (XU _)
theorem s_(h:E_ l 0 i=AC l')(E1:∀w,(underlying T).run P w=.ok (.slice et) w)(E2:∀w,(sizeOf et).run P w=.ok k w)(a:o.op=.slice T x AF (AC y) none:=by rfl)
  (hx:Bu env x=.osl b 0 l.length k:=by rfl)(hy:Bu env y=.int .i64 i:=by rfl):Bz P o env H (.osl b 0 l'.length k):=by
 obtain⟨e,d,_,f⟩:=MT h;have:=mU (H:=H) E1 E2 a hx (.inl ⟨rfl,rfl⟩) (by grind) (XV _) d
 grind
theorem sz{c:Call}{z:AL}(h:E_ l 0 i=AC l')(g:P.underlying T=AC (.slice et))(f:∀w,(zeroValue et).run P w=.ok z w)(a:z.cells.size=k)(d:∀v∈z.cells,QB v)(m:o.op=.call c:=by rfl)(hc:c={callee:=.builtin .clear,args:= #[x],argTypes:= #[T]}:=by rfl)
  (hx:Bu env x=.osl b (0+i.toNat) (l.length-i.toNat) k:=by rfl)(hH:H[b]?=AC (.row t k (l.map e)):=by rfl):Do P o env H (.tup []) (H.set b (.row t k (l'.map e))):=by
 obtain⟨q,p,j,n⟩:=MT h;refine Qg0 g f a d ?_ ?_ m hc hx hH
 .rw[Xx, <- j,List.map_take]
 grind
end
open Go.Sort Go.Proofs Go.Shelf
section
variable {P:AK} {o:AM} {env:Env} {H:Qc} {α:Type} {e:α->AA A} {T et k b t:Nat} {x y:Operand}
theorem Y1{lo hi:AB Operand}{l r:AA α}{a c:Int}(h:E_ l a c=AC r)(E1:∀w,(underlying T).run P w=.ok (.slice et) w)(E2:∀w,(sizeOf et).run P w=.ok k w)
  (e:lo=AF/\a=0\/ ∃y,lo=AC y/\Bu env y=.int .i64 a)(d:hi=AF/\c=l.length\/ ∃y,hi=AC y/\Bu env y=.int .i64 c)
  (f:o.op=.slice T x lo hi none:=by rfl)(hx:Bu env x=.osl b 0 l.length k:=by rfl):Bz P o env H (.osl b (0+a.toNat) (c.toNat-a.toNat) k):=by
 obtain⟨j,i,g,_⟩:=Pb h;refine mU E1 E2 f hx ?_ ?_ (by omega) (by omega)
 .grind
 grind
theorem lU{l r:AA α}{a c:Int}(h:E_ l a c=AC r)(hH:H[b]?=AC (.row t k (l.map e)):=by rfl):HQ P H (.osl b (0+a.toNat) (c.toNat-a.toNat) k) k (r.map e):=by
 obtain⟨g,f,i,d⟩:=Pb h;refine HQ.osl hH ?_ (by grind);rw[<- d, <- List.map_drop, <- List.map_take,Xx,List.drop_take]
theorem wX{c:Call}{T' et et' i:Nat}{x y:Operand}{a:A}{l l' m r:AA α}{z:Int}(j:E_ l 0 z=AC l')(h:app l' m=AC r)(E:Yg P T et k)(g:∀w,(underlying T').run P w=.ok (.slice et') w)(d:HQ P H a k (m.map e))
  (p:o.op=.call c:=by rfl)(hc:c={callee:=.builtin .append,args:= #[x,y],argTypes:= #[T,T']}:=by rfl)(hx:Bu env x=.osl i (0+Int.toNat 0) (z.toNat-Int.toNat 0) k:=by rfl)
  (hH:H[i]?=AC (.row et k (l.map e)):=by rfl)(hy:Bu env y=a:=by rfl):
  Do P o env H (.osl H.length 0 r.length k) (H.set i .dead++[.row et k (r.map e)]):=by
 obtain⟨u,rfl⟩:=eH h;obtain⟨t,q,f,s⟩:=MT j;have:=ti (n:=z.toNat) (gs:=(l'++m).map e) E g p hc hx hH (by grind) hy d (by grind) (by rw[<- List.map_take,f,Xf])
 grind
end
end Go.Sw
namespace Go.Sw
open Option renaming some→AC,none→AF
open Bool renaming false→AD,true→AE
open Decidable renaming decide→AG
open Go renaming World→AJ,Program→AK,Value→AL,Oper→AM
inductive Bx where
 |mk (a:A)
def Tk:Env->Nat->Bx
 |[],_=>.mk .any
 |(d,a)::r,s=>bif Nat.beq s d then .mk a else Tk r s
theorem lG:∀{env:Env} {s:Nat} {a:A},Tk env s=.mk a->lk env s=a
 |[],s,a,h=>by cases h;rfl
 |(d,b)::r,s,a,h=>by
  unfold Tk at h;unfold lk;cases q:Nat.beq s d with
  |true=>grind
  |false=>rw[q]at h;exact lG h
inductive FBy where
 |mk (l:List UInt8)
def Y_:AA UInt8->FBy
 |[]=>.mk []
 |a::r=>match Y_ r with
  |.mk r'=>.mk (a::r')
theorem pB:∀l,Y_ l=.mk l
 |[]=>rfl
 |a::r=>by unfold Y_;rw[pB r]
def Cy(env:Env):Operand->Bx
 |.tmp t=>Tk env t
 |.const (.bool b)=>.mk (.bool b)
 |.const (.int k n)=>.mk (.int k n)
 |.const (.string s)=>match Y_ s.data.toList with
  |.mk l=>.mk (.str l)
 |.const (.pointer AF)=>.mk .nilp
 |.const (.slice AF 0 0)=>.mk .nils
 |.const (.map AF)=>.mk .nilm
 |.const .nilFunc=>.mk .nilf
 |.const .nilIface=>.mk .nilif
 |.func f=>.mk (.fn (.func f) [] [])
 |_=>.mk .any
theorem QU{env:Env}{x:Operand}{a:A}(h:Cy env x=.mk a):Bu env x=a:=by
 cases x with
 |tmp t=>exact lG h
 |const v=>
  cases v with
  |slice b n k=>cases b with
   |none=>cases n with
    |zero=>cases k<;>(cases h;rfl)
    |succ n=>cases h;rfl
   |some b=>cases h;rfl
  |pointer p=>cases p<;>(cases h;rfl)
  |map p=>cases p<;>(cases h;rfl)
  |string s=>
   have d:(match Y_ s.data.toList with|.mk l=>Bx.mk (.str l))=.mk a:=h;rw[pB]at d;cases d;rfl
  |_=>cases h;rfl
 |global g=>cases h;rfl
 |func f=>cases h;rfl
def YW{α:Type}:AA α->Nat->AB α
 |[],_=>AF
 |a::_,0=>AC a
 |_::r,n+1=>YW r n
theorem MG{α:Type}:∀(l:AA α) (n:Nat),YW l n=l[n]?
 |[],n=>by simp[YW]
 |a::r,0=>rfl
 |a::r,n+1=>by simp[YW,MG r n]
def oe:BinOp->IntKind->Int->Int->AB A
 |.add,k,m,n=>AC (.int k (k.wrap (m+n)))
 |.sub,k,m,n=>AC (.int k (k.wrap (m-n)))
 |.mul,k,m,n=>AC (.int k (k.wrap (m*n)))
 |.eql,_,m,n=>AC (.bool (m==n))
 |.neq,_,m,n=>AC (.bool (m != n))
 |.lss,_,m,n=>AC (.bool (AG (m<n)))
 |.leq,_,m,n=>AC (.bool (AG (m<=n)))
 |.gtr,_,m,n=>AC (.bool (AG (n<m)))
 |.geq,_,m,n=>AC (.bool (AG (n<=m)))
 |_,_,_,_=>AF
def oQ:BinOp->AA UInt8->AA UInt8->AB A
 |.eql,p,q=>AC (.bool (p==q))
 |.neq,p,q=>AC (.bool (p != q))
 |.lss,p,q=>AC (.bool (Op.bytesLess p q))
 |_,_,_=>AF
def ku(b:BinOp):Bx->Bx->AB A
 |.mk (.int k m),.mk (.int k' n)=>if k=k' then oe b k m n else AF
 |.mk (.str p),.mk (.str q)=>oQ b p q
 |_,_=>AF
def gL:UnOp->Bx->AB A
 |.not,.mk (.bool b)=>AC (.bool !b)
 |.neg,.mk (.int k n)=>AC (.int k (k.wrap (0-n)))
 |_,_=>AF
def kj:Bx->Nat->AB A
 |.mk (.tup vs),i=>YW vs i
 |_,_=>AF
def gY:Bx->AB A
 |.mk (.ptr i j)=>AC (.ptr i j)
 |.mk (.rp cs)=>AC (.rp cs)
 |_=>AF
def gW:Bx->Bx->Bx->AB A
 |.mk (.bool AE),.mk a,_=>AC a
 |.mk (.bool AD),_,.mk a=>AC a
 |_,_,_=>AF
def Ke(env:Env):Op->AB A
 |.move x=>match Cy env x with|.mk a=>AC a
 |.assign x=>match Cy env x with|.mk a=>AC a
 |.nilCheck x=>gY (Cy env x)
 |.extract x i=>kj (Cy env x) i
 |.unOp u _ x=>gL u (Cy env x)
 |.pick c x y=>gW (Cy env c) (Cy env x) (Cy env y)
 |.binOp b _ x y _=>ku b (Cy env x) (Cy env y)
 |_=>AF
def pr(d:Nat):AB A->AB (Nat×A)
 |some a=>AC (d,a)
 |none=>AF
def dH(o:AM)(env:Env):AB (Nat×A):=
 match o.dst with
 |some d=>pr d (Ke env o.op)
 |none=>AF
variable {T f h t:Nat}
section
variable {P:AK} {h0 N:Nat} {all:Array AM} {o:AM} {l:AA AM} {env:Env} {H H':Qc} {Q:QP} {d:Nat} {x:A}
theorem PX{p:Op}(g:o.op=p)(h:Ke env p=AC x):Bz P o env H x:=by
 unfold Ke at h;split at h
 .rename_i y;cases q:Cy env y with|mk a=>simp_all[Bz.move,QU]
 .rename_i y;cases q:Cy env y with|mk a=>simp_all[Bz.assign,QU]
 .rename_i y;unfold gY at h;split at h
  .rename_i i j q;cases h;exact tC g (QU q) rfl
  .rename_i w q;cases h;exact tC g (QU q) rfl
  .cases h
 .rename_i y i;unfold kj at h
  grind[MG,Bz.extract,QU]
 .rename_i u t y;unfold gL at h
  grind[Bz.not,QU,Bz.neg]
 .rename_i c y z;unfold gW at h;split at h
  .rename_i a _ d f;cases h;exact Bz.pick g (QU d) (by rw[Vu rfl];exact QU f)
  .rename_i a d f;cases h;exact Bz.pick g (QU d) (by exact QU f)
  .cases h
 .rename_i b t y z u;unfold ku at h;split at h
  .rename_i k m s n d f;split at h
   .rename_i e;subst e;have r:=QU d;have l:=QU f;unfold oe at h
    grind[Bz.add,Bz.sub,Bz.mul,Bz.eql,Bz.neq,Bz.lss,Bz.leq,Bz.gtr,Bz.geq]
   .cases h
  .rename_i p q d f;have r:=QU d;have l:=QU f;unfold oQ at h
   grind[mu,yL,yK]
  .cases h
 .cases h
theorem eJ(h:dH o env=AC (d,x)):o.dst=AC d/\Bz P o env H x:=by
 unfold dH at h;split at h
 .rename_i f q;cases e:Ke env o.op with
  |none=>rw[e]at h;cases h
  |some a=>rw[e]at h;cases h;exact⟨q,PX rfl e⟩
 .cases h
theorem S(e:dH o env=AC (d,x))(k:WO P h0 N all l (up env d x) H Q)(hg:QE all o env true:=by rfl)(hN:Nat.blt d N=true:=by rfl):WO P h0 N all (o::l) env H Q:=
 YJ hg (eJ (P:=P) (H:=H) e).1 hN (eJ e).2 k
theorem Sg(hg:QE all o env AE)(e:dH o env=AC (d,x))(k:WO P h0 N all l (up env d x) H Q)(a:Nat.blt d N=true:=by rfl):WO P h0 N all (o::l) env H Q:=
 YJ hg (eJ (P:=P) (H:=H) e).1 a (eJ e).2 k
theorem K(hg:QE all o env AD)(e:o.dst=AC d)(k:WO P h0 N all l (up env d (.tup [])) H Q)(a:Nat.blt d N=true:=by rfl):WO P h0 N all (o::l) env H Q:=
 WO.skip hg e a k
theorem KF{j s:Nat}{c y:Bool}(a:y= !c)(f:o.dst=AC d)(k:WO P h0 N all l (up env d (.tup [])) H Q)(e:Nat.blt d N=true:=by rfl)(hg:o.guard=AC (j,c):=by rfl)(hs:(all[j]?).bind (·.dst)=AC s:=by rfl)(hl:lk env s=.bool y:=by rfl):WO P h0 N all (o::l) env H Q:=
 WO.skip (gF a hg hs hl) f e k
def gX(v:Bool):Bx->Bx->Bx->AB (Bool×A)
 |.mk (.bool b),.mk a,.mk a'=>match v with|true=>AC (b,a)|false=>AC (b,a')
 |_,_,_=>AF
def uW(d:Nat):AB (Bool×A)->AB (Nat×Bool×A)
 |some a=>AC (d,a)
 |none=>AF
def gV(v:Bool)(o:AM)(env:Env):AB (Nat×Bool×A):=
 match o.dst,o.op with
 |some d,.pick c x y=>uW d (gX v (Cy env c) (Cy env x) (Cy env y))
 |_,_=>AF
theorem uu{v b:Bool}{p q r:Bx}(h:gX v p q r=AC (b,x)):∃a a',p=.mk (.bool b)/\q=.mk a/\r=.mk a'/\(bif v then a else a')=x:=by
 obtain⟨p⟩:=p;obtain⟨q⟩:=q;obtain⟨r⟩:=r;cases p<;>first|(cases h)|skip
 cases v<;>cases h<;>exact(by simp)
theorem pZ{v b:Bool}(h:gV v o env=AC (d,b,x))(i:b=v):o.dst=AC d/\Bz P o env H x:=by
 unfold gV at h;split at h
 .rename_i g c y z j k;cases e:gX v (Cy env c) (Cy env y) (Cy env z)with
  |none=>rw[e]at h;cases h
  |some s=>
   rw[e]at h;cases h;obtain⟨a,m,l,n,p,f⟩:=uu e
   grind[Bz.pick,QU]
 .cases h
theorem Pk{v b:Bool}(a:b=v)(e:gV v o env=AC (d,b,x))(k:WO P h0 N all l (up env d x) H Q)(hg:QE all o env true:=by rfl)(hN:Nat.blt d N=true:=by rfl):WO P h0 N all (o::l) env H Q:=
 YJ hg (pZ (P:=P) (H:=H) e a).1 hN (pZ e a).2 k
def dN(o:AM)(env:Env):AB (Nat×Nat×Nat×Nat×Nat):=
 match o.dst,o.op with
 |some d,.fieldAddr T x f=>match Cy env x with
  |.mk (.ptr i p)=>AC (d,T,f,i,p)
  |_=>AF
 |_,_=>AF
theorem eA{off n i p:Nat}(a:QT P T f off n)(h:dN o env=AC (d,T,f,i,p)):o.dst=AC d/\Bz P o env H (.ptr i (p+off)):=by
 grind[dN,m3,QU]
theorem Fp{off n i p:Nat}(a:QT P T f off n)(e:dN o env=AC (d,T,f,i,p))(k:WO P h0 N all l (up env d (.ptr i (p+off))) H Q)(hg:QE all o env true:=by rfl)(hN:Nat.blt d N=true:=by rfl):WO P h0 N all (o::l) env H Q:=
 YJ hg (eA (H:=H) a e).1 hN (eA a e).2 k
theorem Uz{off n i p:Nat}(hg:QE all o env AE)(a:QT P T f off n)(e:dN o env=AC (d,T,f,i,p))(k:WO P h0 N all l (up env d (.ptr i (p+off))) H Q)(g:Nat.blt d N=true:=by rfl):WO P h0 N all (o::l) env H Q:=
 YJ hg (eA (H:=H) a e).1 g (eA a e).2 k
inductive Lx where
 |mk (l:List A)
def Zt:Nat->AA A->Lx
 |0,l=>.mk l
 |n+1,_::r=>Zt n r
 |_+1,[]=>.mk []
theorem mK:∀{n:Nat} {l r:AA A},Zt n l=.mk r->l.drop n=r
 |0,l,r,h=>by cases h;rfl
 |n+1,a::l,r,h=>by rw[List.drop_succ_cons];exact mK h
 |n+1,[],r,h=>by cases h;rfl
def oc:AB B8->Nat->AB A
 |some (.cells _ cs),off=>YW cs off
 |_,_=>AF
def gZ(H:Qc):Bx->AB A
 |.mk (.ptr i off)=>oc (YW H i) off
 |.mk (.rp (a::_))=>AC a
 |_=>AF
def uV(d t:Nat):AB A->AB (Nat×Nat×A)
 |some a=>AC (d,t,a)
 |none=>AF
def dL(o:AM)(env:Env)(H:Qc):AB (Nat×Nat×A):=
 match o.dst,o.op with
 |some d,.load t x=>uV d t (gZ H (Cy env x))
 |_,_=>AF
theorem eK(l:∀w,(isAgg t).run P w=.ok AD w)(h:dL o env H=AC (d,t,x)):o.dst=AC d/\Bz P o env H x:=by
 unfold dL at h;split at h
 .rename_i q u y n k;cases e:gZ H (Cy env y)with
  |none=>rw[e]at h;cases h
  |some a=>
   rw[e]at h;cases h;refine⟨n,?_⟩;unfold gZ at e;split at e
   .rename_i i f j;unfold oc at e;split at e
    .rename_i f s T0 T cs q4;rw[MG]at e q4;obtain⟨g,p⟩:∃g,cs.drop f=x::g:=by
      have m:=(XM.1 e).1
      simp_all[Xq]
     exact Bz.load k l (QU j) (DP.cells q4 p)
    .cases e
   .rename_i a r j;cases e;exact Bz.load k l (QU j) DP.rp
   .cases e
 .cases h
theorem Ld(a:∀w,(isAgg t).run P w=.ok AD w)(e:dL o env H=AC (d,t,x))(k:WO P h0 N all l (up env d x) H Q)(hg:QE all o env true:=by rfl)(hN:Nat.blt d N=true:=by rfl):WO P h0 N all (o::l) env H Q:=
 YJ hg (eK a e).1 hN (eK a e).2 k
theorem uO(hg:QE all o env AE)(a:∀w,(isAgg t).run P w=.ok AD w)(e:dL o env H=AC (d,t,x))(k:WO P h0 N all l (up env d x) H Q)(f:Nat.blt d N=true:=by rfl):WO P h0 N all (o::l) env H Q:=
 YJ hg (eK a e).1 f (eK a e).2 k
def Tp(o:AM)(env:Env):AB (Nat×Nat×Nat×AA (AA A)×IntKind×Int):=
 match o.dst,o.op with
 |some d,.indexAddr t x y=>match Cy env x,Cy env y with
  |.mk (.rsl k es),.mk (.int kk i)=>AC (d,t,k,es,kk,i)
  |_,_=>AF
 |_,_=>AF
theorem Ix{α:Type}{e:α->AA A}{a k:Nat}{L:AA α}{s:IntKind}{i:Int}{v:α}(h:Bt L i=AC v)(j:∀w,(underlying t).run P w=.ok (.slice a) w)(g:∀w,(sizeOf a).run P w=.ok k w)
  (q:Tp o env=AC (d,t,k,L.map e,s,i))(k:WO P h0 N all l (up env d (.rp (e v))) H Q)(hg:QE all o env true:=by rfl)(hN:Nat.blt d N=true:=by rfl):WO P h0 N all (o::l) env H Q:=by
 unfold Tp at q;split at q
 .rename_i m n;split at q
  .rename_i f p;simp[Option.some.injEq,Prod.mk.injEq]at q;obtain⟨rfl,rfl,rfl,r,rfl,rfl⟩:=q;exact YJ hg m hN (UN h j g n (by rw[QU f,r]) (QU p)) k
  .cases q
 .cases q
def Tj(o:AM)(env:Env):AB (Nat×Nat×Bx):=
 match o.dst,o.op with
 |some d,.call c=>match c with
  |{callee:=.builtin .len,args:=⟨[x]⟩,argTypes:=⟨[t]⟩}=>AC (d,t,Cy env x)
  |_=>AF
 |_,_=>AF
theorem uj{b:Bx}(q:Tj o env=AC (d,t,b)):∃x,o.dst=AC d/\o.op=.call {callee:=.builtin .len,args:= #[x],argTypes:= #[t]}/\Cy env x=b:=by
 unfold Tj at q
 grind
theorem Uy{α:Type}{e:α->AA A}{k:Nat}{L:AA α}(f:∀w,(underlying t).run P w=.ok (.slice h) w)(q:Tj o env=AC (d,t,.mk (.rsl k (L.map e))))
  (k:WO P h0 N all l (up env d (.int .i64 L.length)) H Q)(hg:QE all o env true:=by rfl)(hN:Nat.blt d N=true:=by rfl):WO P h0 N all (o::l) env H Q:=by
 obtain⟨x,g,i,a⟩:=uj q;exact YJ hg g hN (wb f i rfl (QU a)) k
end
variable {α:Type}
variable {r:α}
section
variable {P:AK} {h0 N:Nat} {all:Array AM} {env env':Env} {H H':Qc} {Q:QP} {c c':Code}
theorem Oi{α:Type}{x y:α}(h:AC x=AC y):x=y:=X0 h
theorem Bd{α β:Type}{x:AB α}{f:α->AB β}{r:β}{G:Prop}(h:x.bind f=AC r)(k:∀a,x=AC a->f a=AC r->G):G:=by
 obtain⟨a,d,e⟩:=Q7 h
 grind
theorem If{c:Bool}{x y:AB α}{G:Prop}(h:(bif c then x else y)=AC r)(t:c=AE->x=AC r->G)(e:c=AD->y=AC r->G):G:=by
 grind
theorem Cn{x:Operand}{t:Bool}{p q:AB α}(hx:Cy env x=.mk (.bool t))(h:(bif t then p else q)=AC r)(ht:t=AE->p=AC r->TC P h0 N c env H Q)(hf:t=AD->q=AC r->TC P h0 N c' env H Q):TC P h0 N (.cond x c c') env H Q:=
 TC.cond (QU hx) (by grind) (by grind)
theorem Q8{x:Operand}{t:Bool}{p q:AB α}(hx:Cy env x=.mk (.bool t))(h:(bif t then p else q)=AC r)(hf:t=AD->q=AC r->TC P h0 N c' env H Q)(ht:t=AE->p=AC r->TC P h0 N c env H Q):TC P h0 N (.cond x c c') env H Q:=
 TC.cond (QU hx) (by grind) (by grind)
theorem Lr(π:AA Nat)(a:π.take h0=List.range h0:=by rfl)(hH:π.map (λp=>H[p]?)=(H'.map (Q1 (CF π H.length))).map some:=by rfl)(hπ:π.Nodup:=by decide)
  (hE:H9 (CF π H.length) env env':=by(repeat' (first|exact trivial|refine⟨rfl,?_⟩))):Le h0 env H env' H':=lE π a hH hπ hE
end
def Ev(f:Nat->AB α)(v:α):Prop:=∃N,∀n,N<=n->f n=AC v
variable {k:Nat}
section
variable {α β:Type} {f g:Nat->AB α} {v w:α}
theorem Qa(v:α):Ev (λ_=>AC v) v:=⟨0,λ_ _=>rfl⟩
theorem Ev.const{o:AB α}(h:o=AC v):Ev (λ_=>o) v:=⟨0,λ_ _=>h⟩
theorem Ev.bind{k:Nat->α->AB β}{b:β}(h:Ev f v)(a:Ev (λn=>k n v) b):Ev (λn=>(f n).bind (k n)) b:=by
 obtain⟨N,h⟩:=h;obtain⟨M,a⟩:=a;exact⟨max N M,λn d=>by grind⟩
theorem JW{o:AB α}{k:Nat->α->AB β}{b:β}(h:o=AC v)(hk:Ev (λn=>k n v) b):Ev (λn=>o.bind (k n)) b:=Ev.bind (Ev.const h) hk
theorem Mw{c:Bool}(d:c=AE->Ev f v)(a:c=AD->Ev g w):Ev (λn=>bif c then f n else g n) (bif c then v else w):=by
 cases c with
 |true=>exact d rfl
 |false=>exact a rfl
theorem JZ(h:Ev f v):Ev (λn=>bif AE then f n else g n) v:=h
theorem Qy(h:Ev g v):Ev (λn=>bif AD then f n else g n) v:=h
theorem Ev.and{c d:Bool}{h:Nat->AB Bool}(a:c=AE->Ev h d):Ev (λn=>bif c then h n else AC AD) (c&&d):=by
 cases c with
 |true=>exact a rfl
 |false=>exact Qa _
theorem Ev.or{c d:Bool}{h:Nat->AB Bool}(a:c=AD->Ev h d):Ev (λn=>bif c then AC AE else h n) (c||d):=by
 cases c with
 |true=>exact Qa _
 |false=>exact a rfl
theorem Ev.eq(h:Ev f v)(e:v=w):Ev f w:=e▸h
theorem aH(h:Ev f v)(e:∀n,g n=f n):Ev g v:=by
 obtain⟨N,h⟩:=h;exact⟨N,λn a=>by grind⟩
theorem QX(h:Ev (λn=>f (n+1)) v):Ev f v:=by
 obtain⟨N,h⟩:=h;refine⟨N+1,λn a=>?_⟩;obtain⟨m,rfl⟩:∃m,n=m+1:=⟨n-1,by omega⟩
 grind
theorem Ev.ex(h:Ev f v):∃n,f n=AC v:=let⟨N,h⟩:=h;⟨N,h N (XU _)⟩
theorem Ev.all{F:Nat->Nat->AB α}{V:Nat->α}(h:∀i,i<k->Ev (F i) (V i)):∃N,∀n,N<=n->∀i,i<k->F i n=AC (V i):=by
 induction k with
 |zero=>simp
 |succ k a=>
  obtain⟨N,g⟩:=a (by grind);obtain⟨M,e⟩:=h k (by omega);refine⟨max N M,λn d i f=>?_⟩
  grind
end
variable {β:Type}
section
variable {S B α:Type} {step:Nat->S->AB (Bn S B)}
theorem Ev.iter{d:S}(a:Nat->S)(k:Nat){b:B}(e:a 0=d)(h:∀i,i<k->Ev (λn=>step n (a i)) (.k (a (i+1))))(g:Ev (λn=>step n (a k)) (.d b)):
  Ev (λn=>Go.Sw.iter (step n) n d) b:=by
 obtain⟨N,l⟩:=Ev.all h;obtain⟨M,f⟩:=g;exact⟨max (max N M) (k+1),λn j=>xX d a b k e (by grind) (f n (by omega)) n (by omega)⟩
theorem fi{step:S->AB (Bn S B)}{s:S}{b:B}(m:Nat)(h:Go.Sw.iter step m s=AC b):Ev (λn=>Go.Sw.iter step n s) b:=by
 have mono:∀m s,Go.Sw.iter step m s=AC b->∀n,m<=n->Go.Sw.iter step n s=AC b:=by
  intro m
  induction m with
  |zero=>intro s h;cases h
  |succ m d=>
   intro s h n e;obtain⟨a,rfl⟩:∃a,n=a+1:=⟨n-1,by omega⟩
   grind[Go.Sw.iter]
 exact⟨m,(by grind)⟩
structure At (l:List α) (i:Nat) (x:α):Prop where
 get:l[i]?=AC x
 lt:AG ((i:Int)<(l.length:Int))=AE
 ix:Bt l (i:Int)=AC x
 nx:IntKind.i64.wrap ((i:Int)+1)=((i+1:Nat):Int)
theorem Jo{l:AA α}{i:Nat}{x:α}(d:l.length<=4611686018427387904)(h:l[i]?=AC x):At l i x:=by
 have a:=(XM.1 h).1;exact⟨h,(by grind),Qi h,Qz (by omega)⟩
theorem At.mem{l:AA α}{i:Nat}{x:α}(h:At l i x):x∈l:=VH h.get
theorem At.lt'{l:AA α}{i:Nat}{x:α}(h:At l i x):i<l.length:=(XM.1 h.get).1
theorem At.take{l:AA α}{i:Nat}{x:α}(h:At l i x):l.take (i+1)=l.take i++[x]:=by
 rw[List.take_add_one,h.get];rfl
theorem KT(l:AA α):AG ((l.length:Int)<(l.length:Int))=false:=(by simp)
theorem Jn{s:S}(l:AA α)(q:α->Bool)(a:Nat->S)(m b:B)(p:l.length<=4611686018427387904)(g:a 0=s)
  (z:∀i x,At l i x->q x=AD->Ev (λn=>step n (a i)) (.k (a (i+1))))
  (f:∀i x,At l i x->q x=AE->Ev (λn=>step n (a i)) (.d m))
  (u:Ev (λn=>step n (a l.length)) (.d b)):Ev (λn=>Go.Sw.iter (step n) n s) (bif l.any q then m else b):=by
 have d:∀k,k<=l.length->(∀i x,l[i]?=AC x->i<k->q x=AD)\/ ∃i x,l[i]?=AC x/\i<k/\q x=AE/\ ∀j y,l[j]?=AC y->j<i->q y=false:=by
  intro k
  induction k with
  |zero=>simp
  |succ k F=>
   grind
 rcases d l.length (XU _)with h|⟨i,x,w,H,t,E⟩
 .have:l.any q=false:=by
   rw[VM];intro e;obtain⟨x,f,e⟩:=Xv.1 e;obtain⟨i,r,rfl⟩:=List.getElem_of_mem f
   grind
  rw[this];exact Ev.iter a l.length g (λi r=>z i _ (Jo p (XL r)) (by grind)) u
 .have:l.any q=true:=(by grind);rw[this];refine Ev.iter a i g (λj G=>?_) (f i x (Jo p w) t)
  grind[Jo]
theorem Jc{h:S}(l:AA α)(g:β->α->β)(d:β)(e:β->Nat->S)(f:β->B)(k:l.length<=4611686018427387904)(q:e d 0=h)
  (m:∀i x a,At l i x->a=(l.take i).foldl g d->Ev (λn=>step n (e a i)) (.k (e (g a x) (i+1))))
  (r:Ev (λn=>step n (e (l.foldl g d) l.length)) (.d (f (l.foldl g d)))):Ev (λn=>Go.Sw.iter (step n) n h) (f (l.foldl g d)):=by
 refine Ev.iter (λi=>e ((l.take i).foldl g d) i) l.length (by grind) (λi p=>?_) (by grind);have j:=Jo k (XL p);have:=m i _ _ j rfl;rw[j.take,List.foldl_append];exact this
theorem Ev.contains(l:AA α)(q:α->Bool)(g:Nat->α->AB Bool)(f:l.length<=4611686018427387904)(hg:∀x∈l,Ev (λn=>g n x) (q x)):
  Ev (λn=>(((Go.Sw.iter (λs:Int=>bif s<(l.length:Int) then(Bt l s).bind λx=>(g n x).bind λr=>(bif r then AC (Bn.d (Bn.d s))else AC (Bn.k (IntKind.i64.wrap (s+1))))else AC (Bn.d (Bn.k ()))) n (0:Int):AB (Bn Unit Int)).bind λb=>
   match b with
   |.k _=>AC (-1)
   |.d s=>AC s):AB Int).bind λr=>AC (AG (0<=r))) (l.any q):=by
 cases e:l.any q with
 |false=>
  refine Ev.bind (v:=(-1:Int)) (Ev.bind (v:=Bn.k ()) (Ev.iter (λi=>(i:Int)) l.length rfl (λi B=>?_) ?_) (Qa _)) (Qa _)
  .have a:=Jo (x:=l[i]) f (XL B);simp only[a.lt,Vq,a.ix,XK];have w:q l[i]=false:=by
    grind
   refine Ev.bind ((hg _ a.mem).eq w) ?_;simp only[Vr,a.nx];exact Qa _
  simp_all[Qa]
 |true=>
  obtain⟨x,u,h⟩:=Xv.1 e;have d:∀k,k<=l.length->(∀(i:Nat) (x:α),l[i]?=AC x->i<k->q x=AD)\/ ∃(i:Nat) (x:α),l[i]?=AC x/\i<k/\q x=AE/\ ∀(j:Nat) (y:α),l[j]?=AC y->j<i->q y=false:=by
   intro k
   induction k with
   |zero=>simp
   |succ k E=>
    grind
  rcases d l.length (XU _)with F|⟨i,x,z,G,t,p⟩
  .obtain⟨j,m,rfl⟩:=List.getElem_of_mem u
   grind
  .refine Ev.bind (v:=(i:Int)) (Ev.bind (v:=Bn.d (i:Int)) (Ev.iter (λi=>(i:Int)) i rfl (λj m=>?_) ?_) (Qa _)) ?_
   .have a:=Jo (x:=l[j]) f (XL (by omega));simp only[a.lt,Vq,a.ix,XK];refine Ev.bind ((hg _ a.mem).eq (p j _ a.get m)) ?_;simp only[Vr,a.nx];exact Qa _
   .have a:=Jo f z;simp only[a.lt,Vq,a.ix,XK];refine Ev.bind ((hg _ a.mem).eq t) ?_;exact Qa _
   simp_all[Qa]
end
section
variable {S B α:Type} {step:Nat->S->AB (Bn S B)}
theorem QiM{g:S}(a:Nat->S)(k:Nat)(R:Nat->B)(f:a 0=g)(t:∀i,i<k->(Ev (λn=>step n (a i)) (.k (a (i+1)))/\R i=R (i+1))\/Ev (λn=>step n (a i)) (.d (R i)))
  (q:Ev (λn=>step n (a k)) (.d (R k))):Ev (λn=>Go.Sw.iter (step n) n g) (R 0):=by
 have d:∀m,m<=k->(∀i,i<m->Ev (λn=>step n (a i)) (.k (a (i+1)))/\R i=R (i+1))\/ ∃j,j<m/\(∀i,i<j->Ev (λn=>step n (a i)) (.k (a (i+1)))/\R i=R (i+1))/\Ev (λn=>step n (a j)) (.d (R j)):=by
  intro m
  induction m with
  |zero=>simp
  |succ m p=>
   grind
 have G3:∀m,(∀i,i<m->R i=R (i+1))->R 0=R m:=by
  intro m
  induction m with
  |zero=>intro _;rfl
  |succ m p=>grind
 rcases d k (XU _)with h|⟨j,s,r,l⟩
 .rw[G3 k λi e=>(h i e).2];exact Ev.iter a k f (by grind) q
 .rw[G3 j λi e=>(r i e).2];exact Ev.iter a j f (by grind) l
theorem At.drop{l:AA α}{i:Nat}{x:α}(h:At l i x):l.drop i=x::l.drop (i+1):=by
 have:=h.lt';rw[Xq this,(XM.1 h.get).2]
theorem nX{s0:S}(l:AA α)(st:Nat->S)(R:Nat->B)(hl:l.length<=4611686018427387904)(h0:st 0=s0)
  (hc:∀i x,At l i x->(Ev (λn=>step n (st i)) (.k (st (i+1)))/\R i=R (i+1))\/Ev (λn=>step n (st i)) (.d (R i)))
  (hd:Ev (λn=>step n (st l.length)) (.d (R l.length))):Ev (λn=>Go.Sw.iter (step n) n s0) (R 0):=
 QiM st l.length R h0 (λi hi=>hc i _ (Jo hl (XL hi))) hd
end
variable {γ:Type}
section
variable {α β:Type} [DecidableEq α]
theorem UZ(p:α×β)(l:AA (α×β))(k:α):Je (p::l) k=if p.1=k then AC p.2 else Je l k:=by
 grind[Je]
theorem ze(p:α×β)(l:AA (α×β))(k:α)(v:β):Yp (p::l) k v=if p.1=k then(p.1,v)::l.map (λq=>bif q.1=k then(q.1,v)else q)else p::Yp l k v:=by
 unfold Yp
 grind
theorem xc(l:AA (α×β))(k a:α)(v:β)(h:a≠k):Je (l.map λq=>bif q.1=k then(q.1,v)else q) a=Je l a:=by
 induction l with
 |nil=>rfl
 |cons p l d=>
  grind[UZ]
theorem aM(l:AA (α×β))(k a:α)(v:β):Je (Yp l k v) a=if a=k then AC v else Je l a:=by
 induction l with
 |nil=>
  show Je ([]++[(k,v)]) a=_;rw[Vi,UZ]
  grind
 |cons p l d=>
  rw[ze];by_cases e:p.1=k
  .rw[Vu e,UZ,UZ];by_cases h:a=k
   .grind
   .have:p.1≠a:=(by grind)
    simp_all[xc]
  .rw[Vt e,UZ,UZ,d]
   grind
theorem zd(k:α)(z:β):QM ([]:AA (α×β)) k z=z:=rfl
theorem tO(l:AA (α×β))(k a:α)(v z:β):QM (Yp l k v) a z=if a=k then v else QM l a z:=by
 grind[QM,aM]
theorem nA(l:AA (α×β))(k:α)(v:β):(Yp l k v).map (·.1)=if k∈l.map (·.1)then l.map (·.1)else l.map (·.1)++[k]:=by
 unfold Yp;have e:(l.any λp=>AG (p.1=k))=AG (k∈l.map (·.1)):=by
  grind
 rw[e];by_cases h:k∈l.map (·.1)
 .rw[Vv h,Vu h,Vq,List.map_map];apply List.map_congr_left
  grind
 grind
def Yx(key:γ->α)(v:β)(l:AA γ):AA (α×β):=l.foldl (λm x=>Yp m (key x) v) []
theorem Qh1(a:γ->α)(v:β)(l:AA γ)(x:γ):Yx a v (l++[x])=Yp (Yx a v l) (a x) v:=by
 unfold Yx;simp
theorem t6(a:γ->α)(v z:β)(l:AA γ)(k:α):QM (Yx a v l) k z=if k∈l.map a then v else z:=by
 have d:∀(l:AA γ) (m:AA (α×β)),QM (l.foldl (λm x=>Yp m (a x) v) m) k z=if k∈l.map a then v else QM m k z:=by
  intro l
  induction l with
  |nil=>simp
  |cons x l e=>
   intro m;rw[XE,e,tO]
   grind
 exact d l []
theorem uL(a:γ->α)(v:β)(l:AA γ):(Yx a v l).length<=l.length/\((Yx a v l).length=l.length↔(l.map a).Nodup):=by
 have f:∀(l:AA γ) (m:AA (α×β)),(m.map (·.1)).Nodup->(l.foldl (λm x=>Yp m (a x) v) m).length<=m.length+l.length/\((l.foldl (λm x=>Yp m (a x) v) m).length=m.length+l.length↔(m.map (·.1)++l.map a).Nodup):=by
  intro l
  induction l with
  |nil=>simp
  |cons x l j=>
   intro m i;have e:=nA m (a x) v;have d:(Yp m (a x) v).length=((Yp m (a x) v).map (·.1)).length:=by simp
   by_cases h:a x∈m.map (·.1)
   .grind
   .rw[Vt h]at e;have g:((Yp m (a x) v).map (·.1)).Nodup:=by
     grind
    grind
 grind[Yx]
end
theorem JF(l:AA α)(p:α->Bool)(g:Nat->α->AB Bool)(d:l.length<=4611686018427387904)(hg:∀x∈l,Ev (λn=>g n x) (p x)):
  Ev (λn=>(((Go.Sw.iter (λs:Int=>bif s<l.length then(Bt l s).bind λx=>((g n x).bind λr1=>AC (!r1)).bind λr=>(bif r then AC (Bn.d (Bn.d s))else AC (Bn.k (IntKind.i64.wrap (s+1))))else AC (Bn.d (Bn.k ()))) n 0).bind λb=>
   match b with
   |.k _=>AC (-1)
   |.d s=>AC s).bind λr=>AC (AG (0<=r))).bind λr=>AC (!r)) (l.all p):=by
 refine Ev.bind (Ev.contains l (λx=> !p x) (λn x=>(g n x).bind λr1=>AC (!r1)) d λx a=>Ev.bind (hg x a) (Qa _)) ((Qa _).eq ?_)
 grind
def Ty{α κ:Type}[DecidableEq κ](ok:α->Bool)(key:α->κ):AA κ->AA α->Bool
 |_,[]=>AE
 |seen,x::r=>ok x&& !seen.contains (key x)&&Ty ok key (seen++[key x]) r
theorem qa{α κ:Type}[DecidableEq κ](ok:α->Bool)(d:α->κ):∀(l:AA α) (a:AA κ),a.Nodup->Ty ok d a l=(l.all ok&&AG ((a++l.map d).Nodup))
 |[],a,h=>by simp[Ty,h]
 |x::r,a,h=>by
  simp[Ty,Vk];by_cases hk:d x∈a
  .grind
  .have hn:(a++[d x]).Nodup:=by
    grind
   rw[qa ok d r _ hn]
   grind
variable {B:Type}
theorem pA{κ:Type}[DecidableEq κ]{step:Nat->Int->AB (Bn Int B)}(l:AA α)(ok:α->Bool)(a:α->κ)(d b:B)(h:l.length<=4611686018427387904)
  (m:∀i x,At l i x->ok x=AE->((l.take i).map a).contains (a x)=AD->Ev (λn=>step n (i:Int)) (.k ((i+1:Nat):Int)))
  (k:∀i x,At l i x->ok x=AD->Ev (λn=>step n (i:Int)) (.d d))
  (j:∀i x,At l i x->ok x=AE->((l.take i).map a).contains (a x)=AE->Ev (λn=>step n (i:Int)) (.d d))
  (g:Ev (λn=>step n (l.length:Int)) (.d b)):Ev (λn=>Go.Sw.iter (step n) n 0) (bif l.all ok&&AG ((l.map a).Nodup)then b else d):=by
 have e:=qa ok a l [] (by simp);rw[Vi]at e;rw[<- e];refine nX l (λi=>(i:Int)) (λi=>bif Ty ok a ((l.take i).map a) (l.drop i)then b else d) h rfl (λi x f=>?_) ?_
 .rw[f.drop];simp only[Ty];rw[show(l.take i).map a++[a x]=(l.take (i+1)).map a by rw[f.take];simp]
  grind
 .rw[Xs];exact g
theorem rM{κ:Type}[DecidableEq κ]{step:Nat->Int->AB (Bn Int B)}(l:AA α)(i:Nat)(a:α->κ)(k:κ)(g b:B)(t:l.length<=4611686018427387904)(hi:i<=l.length)
  (u:∀j y,j<i->At l j y->AG (a y=k)=AD->Ev (λn=>step n (j:Int)) (.k ((j+1:Nat):Int)))
  (s:∀j y,j<i->At l j y->AG (a y=k)=AE->Ev (λn=>step n (j:Int)) (.d g))
  (r:Ev (λn=>step n (i:Int)) (.d b)):Ev (λn=>Go.Sw.iter (step n) n 0) (bif ((l.take i).map a).contains k then g else b):=by
 have e:((l.take i).map a).contains k=(l.take i).any λy=>AG (a y=k):=by
  grind
 rw[e];have f:(l.take i).length=i:=by simp;omega
 have q:∀j y,At (l.take i) j y->j<i/\At l j y:=by
  intro j y d;have h:=d.lt';have m:=d.get
  grind[Jo]
 refine Jn (l.take i) (λy=>AG (a y=k)) (λi=>(i:Int)) _ _ (by omega) rfl (λj y d p=>?_) (λj y d p=>?_) ?_
 .grind
 .grind
 grind
theorem nW{κ:Type}[DecidableEq κ]{step:Nat->AA (κ×β)×Int->AB (Bn (AA (κ×β)×Int) (AA (κ×β)))}(l:AA α)(key:α->κ)(v:β)(hl:l.length<=4611686018427387904)
  (hc:∀i x m,At l i x->Ev (λn=>step n (m,(i:Int))) (.k (Yp m (key x) v,((i+1:Nat):Int))))
  (hd:∀m,Ev (λn=>step n (m,(l.length:Int))) (.d m)):Ev (λn=>Go.Sw.iter (step n) n ([],0)) (Yx key v l):=
 Jc l (λm x=>Yp m (key x) v) [] (λm i=>(m,(i:Int))) (λm=>m) hl rfl (by grind) (hd _)
theorem Ev.shift{α:Type}{f:Nat->AB α}{v:α}(h:Ev f v):Ev (λn=>f (n+1)) v:=by
 obtain⟨N,h⟩:=h;exact⟨N,(by grind)⟩
def Cc{S:Type}(step:Nat->S->AB (Bn S B))(s:S)(b:B):Prop:=∃N,∀n k,N<=n->N<=k->Go.Sw.iter (step n) k s=AC b
section
variable {S B:Type} {step:Nat->S->AB (Bn S B)} {s s':S} {b:B}
theorem Cc.done(h:Ev (λn=>step n s) (.d b)):Cc step s b:=by
 obtain⟨N,h⟩:=h;refine⟨N+1,λn k e d=>?_⟩;obtain⟨a,rfl⟩:∃a,k=a+1:=⟨k-1,by omega⟩
 grind[Go.Sw.iter]
theorem Cc.cont(h:Ev (λn=>step n s) (.k s'))(q:Cc step s' b):Cc step s b:=by
 obtain⟨N,h⟩:=h;obtain⟨M,q⟩:=q;refine⟨max N M+1,λn k e d=>?_⟩;obtain⟨a,rfl⟩:∃a,k=a+1:=⟨k-1,by omega⟩
 grind[Go.Sw.iter]
theorem Cc.ev(h:Cc step s b):Ev (λn=>Go.Sw.iter (step n) n s) b:=by
 obtain⟨N,h⟩:=h;exact⟨N,λn a=>h n n a a⟩
theorem Cc.eq{b':B}(h:Cc step s b)(e:b=b'):Cc step s b':=e▸h
end
variable {l:AA α}
theorem Qx{r:AA α}{i:Nat}{x:α}(d:l.length<=4611686018427387904)(h:l.drop i=x::r):At l i x/\l.drop (i+1)=r:=by
 have a:l[i]?=AC x:=by
  have:=congrArg (λl=>l[0]?) h
  grind
 refine⟨Jo d a,?_⟩;have:=(Jo d a).drop
 grind
theorem QN{i:Nat}(h:l.drop i=[])(hi:i<=l.length):AG ((i:Int)<(l.length:Int))=false:=by
 simp_all
theorem Z.{u}{α:Sort u}{a:α}:a=a:=rfl
section
variable {P:AK} {h0 N:Nat} {all:Array AM} {env:Env} {H H':Qc} {Q:QP} {l:AA AM} {o:AM} {d:Nat}
theorem aV(x:A)(H:Qc){x':A}{H':Qc}(a:x'=x)(hH:H'=H)(k:WO P h0 N all l (up env d x) H Q):WO P h0 N all l (up env d x') H' Q:=by subst a;subst hH;exact k
theorem vX(x:A)(a:Bz P o env H x)(k:WO P h0 N all l (up env d x) H Q)(hg:QE all o env true:=by rfl)(hd:o.dst=AC d:=by rfl)(hN:Nat.blt d N=true:=by rfl):WO P h0 N all (o::l) env H Q:=
 YJ hg hd hN a k
theorem Wp:WO P h0 N all [] env H (Y0 env H):=WO.nil Y0.mk
end
section
variable {P:AK} {o:AM} {env:Env} {H:Qc}
theorem v9{ro:Nat->Prop}{σ:CD}{w:AJ}(g:GP w){b:Nat}{zs:AA Int}(h:L9[b]?=AC zs):∀(i:Nat),CR ro σ w b ((zs.drop i).map (A.int .i64)) i:=by
 intro i;generalize hl:zs.drop i=l
 induction l generalizing i with
 |nil=>trivial
 |cons z l e=>
  have d:zs[i]?=AC z:=by
   have:=congrArg (·[0]?) hl
   grind
  have a:zs.drop (i+1)=l:=by
   rw[<- List.drop_drop,hl];rfl
  exact⟨⟨_,g.tab b zs h i z d,by simp[QB],rfl⟩,e (i+1) a⟩
theorem sT{n g:Nat}{zs:AA Int}(e:∀w,(isAgg t).run P w=.ok AE w)(f:∀w,(sizeOf t).run P w=.ok n w)(hg:L9[g]?=AC zs)(j:zs.length=n)(m:o.op=.load t (.global g):=by rfl):
  Bz P o env H (.agg (zs.map (A.int .i64))):=by
 intro h ro σ N a w r;obtain⟨l,d,_,i⟩:=Yv (P:=P) 0 (by simpa using v9 (ro:=ro) (σ:=σ) r.sim.roOk.gp hg 0);refine⟨.agg l.toArray,?_,l,rfl,d⟩;have k:a.eval (.global g)=.pointer (AC ⟨g,0,AF⟩):=rfl
 simp_all[execOp,Instr.loadAt,Instr.sureAddr,loadVar,loadCells]
end
open Go.Proofs
variable {cells:α->AA A}
section
variable {P:AK}
def U7(agg:Bool)(l:AA AL):AL:=bif agg then .agg l.toArray else l.headD .nilFunc
structure IK (P:AK) (t:TypeId) (h k:Nat) (agg:Bool) (ok:List AL->Prop):Prop where
 len:∀l,ok l->l.length=k
 ia:∀w,(isAgg t).run P w=.ok agg w
 so:∀w,(sizeOf t).run P w=.ok k w
 eq:∀(w:AJ) (d:Nat) (l m:List AL),ok l->ok m->∃b:Bool,(Op.equalIn (d+h) t (U7 agg l) (U7 agg m)).run P w=.ok b w/\(b=AE↔l=m)
structure CN (P:AK) (fs:List Field) (h off k:Nat) (ok:List AL->Prop):Prop where
 len:∀l,ok l->l.length=k
 eq:∀(w:AJ) (d:Nat) (p q l m:List AL),p.length=off->q.length=off->ok l->ok m->∃b:Bool,(Op.eqFields (d+h) (p++l).toArray (q++m).toArray fs).run P w=.ok b w/\(b=AE↔l=m)
theorem IK.int{t:TypeId}{k:IntKind}(e:P.underlying t=AC (.int k))(f:∀w,(isAgg t).run P w=.ok AD w)(a:∀w,(sizeOf t).run P w=.ok 1 w)(h:Nat):IK P t (h+1) 1 AD (λl=>∃n:Int,l=[.int k n]):=by
 refine⟨?_,f,a,?_⟩
 .simp
 .rintro w d _ _ ⟨n,rfl⟩ ⟨m,rfl⟩;exact⟨_,run_equalIn_int w (d+h) t k k n m e,by simp⟩
theorem IK.bool{t:TypeId}(e:P.underlying t=AC .bool)(f:∀w,(isAgg t).run P w=.ok AD w)(a:∀w,(sizeOf t).run P w=.ok 1 w)(h:Nat):IK P t (h+1) 1 AD (λl=>∃n:Bool,l=[.bool n]):=by
 refine⟨?_,f,a,?_⟩
 .simp
 .rintro w d _ _ ⟨n,rfl⟩ ⟨m,rfl⟩;exact⟨_,run_equalIn_bool' w (d+h) t n m e,by simp⟩
theorem CN.nil(h a:Nat):CN P [] h a 0 (λl=>l=[]):=by
 refine⟨?_,?_⟩
 .simp
 simp_all[Op.eqFields]
theorem rZ{t:TypeId}{agg:Bool}{w:AJ}(g:∀w,(isAgg t).run P w=.ok agg w)(h:∀w,(sizeOf t).run P w=.ok k w)(p a f:AA AL)(d:a.length=k)(e:agg=AD->k=1):
  (part t (p++(a++f)).toArray p.length).run P w=.ok (U7 agg a) w:=by
 unfold part;cases agg with
 |true=>
  simp_all[U7]
 |false=>
  have:=e rfl;subst this
  match a,d with
  |[v],_=>simp[g,U7]
theorem CN.cons{f:Field}{fs:AA Field}{i r x:Nat}{agg:Bool}{j k:AA AL->Prop}(W:Nat.beq f.offset i=AE)(L:f.name≠"_")(g:IK P f.type h r agg j)(F:agg=AD->r=1)(z:CN P fs h (i+r) x k):
  CN P (f::fs) h i (r+x) (λl=>∃l1 l2,l=l1++l2/\j l1/\k l2):=by
 have t:f.offset=i:=(by simp_all);refine⟨?_,?_⟩
 .rintro _ ⟨l1,l2,rfl,a,b⟩;rw[X4,g.len _ a,z.len _ b]
 .rintro w d p q _ _ B H ⟨l1,l2,rfl,n,Q⟩ ⟨s,u,rfl,m,N⟩;have G:=rZ (w:=w) g.ia g.so p l1 l2 (g.len _ n) F;have y:=rZ (w:=w) g.ia g.so q s u (g.len _ m) F;rw[B]at G;rw[H]at y;obtain⟨J,V,T⟩:=g.eq w d l1 s n m;obtain⟨M,E,O⟩:=z.eq w d (p++l1) (q++s) l2 u (by rw[X4,B,g.len _ n]) (by rw[X4,H,g.len _ m]) Q N;rw[Vj,Vj]at E;have R:l1.length=s.length:=by rw[g.len _ n,g.len _ m]
  refine⟨J&&M,?_,?_⟩
  .cases J<;>simp[Op.eqFields,L,t,G,y,V,E]
  .rw[XX,T,O];constructor
   .grind
   .intro e;exact List.append_inj e R
theorem IK.struct{t:TypeId}{h k:Nat}{ok:AA AL->Prop}(j:P.underlying t=AC (.struct (P.fieldsOf t)))(n:P.stoodInHeld t=AD)(i:∀w,(isAgg t).run P w=.ok AE w)(g:∀w,(sizeOf t).run P w=.ok k w)(e:CN P (P.fieldsOf t).toList h 0 k ok):IK P t (h+1) k AE ok:=by
 refine⟨e.len,i,g,λw d l m a b=>?_⟩;obtain⟨r,p,f⟩:=e.eq w d [] [] l m rfl rfl a b;refine⟨r,?_,f⟩;show(Op.equalIn (d+h+1) t (.agg l.toArray) (.agg m.toArray)).run P w=_
 grind[run_equalIn_agg]
theorem QQ{t:TypeId}{fs:Array Field}{ok:AA AL->Prop}(a:P.underlying t=AC (.struct fs))(d:P.stoodInHeld t=AD)(g:∀w,(isAgg t).run P w=.ok AE w)(e:∀w,(sizeOf t).run P w=.ok k w)(f:CN P fs.toList h 0 k ok):IK P t (h+1) k AE ok:=by
 grind[Program.fieldsOf,IK.struct]
structure U0 (P:AK) (t:TypeId) {α:Type} (cells:α->List A):Prop where
 scl:∀x,Mq (cells x)=AE
 inj:∀x y,Y5 (cells x)=Y5 (cells y)->x=y
 guard:P.eqGuardType P.depth t=AD
 eq:∀(w:AJ) x y,∃b:Bool,(Op.equalIn 10000 t (.agg (Y5 (cells x)).toArray) (.agg (Y5 (cells y)).toArray)).run P w=.ok b w/\(b=AE↔Y5 (cells x)=Y5 (cells y))
theorem lu{ok:AA AL->Prop}(E:IK P t h k AE ok)(e:Nat.ble h 10000=AE)(a:∀x,ok (Y5 (cells x)))(d:∀x,Mq (cells x)=AE)(hi:∀x y,Y5 (cells x)=Y5 (cells y)->x=y)(hg:P.eqGuardType P.depth t=AD):U0 P t cells:=by
 refine⟨d,hi,hg,λw x y=>?_⟩;have:=E.eq w (10000-h) (Y5 (cells x)) (Y5 (cells y)) (a x) (a y)
 rwa [show 10000-h+h=10000 by simp_all]at this
variable {o:AM} {env:Env} {H:Qc}
theorem fp{α:Type}[DecidableEq α]{cells:α->AA A}{t u:TypeId}{x y:Operand}{p q:α}(E:U0 P t cells)(m:Bu env x=.agg (cells p))(k:Bu env y=.agg (cells q))(s:o.op=.binOp .eql t x y u:=by rfl):Bz P o env H (.bool (p==q)):=by
 intro F B σ N a w r;have h:=Qn r x;have g:=Qn r y;rw[m]at h;rw[k]at g;have l:=VR.val (a:=.agg (cells p)) (E.scl p) h;have n:=VR.val (a:=.agg (cells q)) (E.scl q) g;obtain⟨b,z,i⟩:=E.eq w p q;have j:b=(p==q):=by
  rw[XZ,i,Vy];exact⟨E.inj p q,λe=>by rw[e]⟩
 refine⟨.bool (p==q),?_,rfl⟩;rw[<- j];generalize a.eval=ρ at*;have f:ρ x=.agg (Y5 (cells p)).toArray:=l;have d:ρ y=.agg (Y5 (cells q)).toArray:=n;simp[s,f,d,go_sem,run_eqGuard_agg _ _ _ _ _ _ _ E.guard,z]
theorem fq{α:Type}[DecidableEq α]{cells:α->AA A}{t u:TypeId}{x y:Operand}{p q:α}(E:U0 P t cells)(m:Bu env x=.agg (cells p))(k:Bu env y=.agg (cells q))(s:o.op=.binOp .neq t x y u:=by rfl):Bz P o env H (.bool (p != q)):=by
 intro F B σ N a w r;have h:=Qn r x;have g:=Qn r y;rw[m]at h;rw[k]at g;have l:=VR.val (a:=.agg (cells p)) (E.scl p) h;have n:=VR.val (a:=.agg (cells q)) (E.scl q) g;obtain⟨b,z,i⟩:=E.eq w p q;have j:b=(p==q):=by
  rw[XZ,i,Vy];exact⟨E.inj p q,λe=>by rw[e]⟩
 refine⟨.bool (p != q),?_,rfl⟩;rw[bne, <- j];generalize a.eval=ρ at*;have f:ρ x=.agg (Y5 (cells p)).toArray:=l;have d:ρ y=.agg (Y5 (cells q)).toArray:=n;simp[s,f,d,go_sem,run_eqGuard_agg _ _ _ _ _ _ _ E.guard,z]
end
end Go.Sw
namespace Go.Sw
open Option renaming some→AC,none→AF
open Bool renaming false→AD,true→AE
open Decidable renaming decide→AG
open Go renaming World→AJ,Program→AK,Value→AL,Oper→AM
structure Z0 (g g':Nat->Prop) (W W':AJ):Prop where
 sub:∀b,g b->g' b
 new:∀b,g' b->g b\/W.heap.size<=b
 lt:∀b,g' b->b<W'.heap.size
 all:∀b,W.heap.size<=b->b<W'.heap.size->g' b
 keep:∀b,b<W.heap.size->¬g b->W'.heap[b]?=W.heap[b]?
 size:W.heap.size<=W'.heap.size
 shape:∀b x,W.shape? b=AC x->W'.shape? b=AC x
 os:W'.os=W.os
 tape:W'.tape=W.tape
 output:W'.output=W.output
 drawn:W.drawn<=W'.drawn
abbrev Jv(T:Type):=AA T->(Nat->Prop)->(Nat->Prop)->AJ->Prop
structure ou {T:Type} (J:Jv T):Prop where
 ev:∀rem q g W W' ro',J rem q g W->Qm g q W ro' W'->J rem q g W'
 up:∀rem q g g' W,J rem q g W->(∀b,g b->g' b)->(∀b,g' b->b<W.heap.size)->J rem q g' W
variable {W W':AJ}{fr g ro:Nat->Prop}{σ:CD}
theorem B9.round{g':Nat->Prop}{H:Qc}(s:B9 fr ro σ H W)(a:∀b,g b->fr b)(k:Z0 g g' W W'):B9 (λb=>fr b\/g' b) ro σ H W'/\Qm (λb=>b<W.heap.size/\ ¬g b) ro W ro W':=by
 have hro:=λb q=>k.keep b (s.roLt b q) (λr=>s.roFr b q (a b r));have l:Cx ro σ W ro σ W':=by
  have ev:Qm (λ_=>False) ro W ro W':=⟨λ_ q=>q,hro,λ_ q=>q.elim,k.size,k.shape,k.os,k.tape,k.output,k.drawn⟩;have:=ev.ext σ []
  grind
 refine⟨⟨s.len,s.roOk.to (λ_ q=>q) hro (λb q=>Vg (s.roLt b q) k.size),λb q=>q.elim (λq=>Vg (s.frLt b q) k.size) (k.lt b),λb q r=>?_,λi b x e f p=>?_,s.inj,λi y x e f=>?_,
  s.hidTo (· = ·) Yl k.size (by simp) (λi b x c e f p E=>E.elim id λq=>(k.new c q).elim (a c) λh=>(by have:=(s.hid i b x c e f p).lt;omega)) λj d y m n F=>.inl ⟨j,y,rfl,m,n,id,λc q=>s.hidKeep m n (λz=>k.keep d (s.own j d y m n z).1 λr=>(s.own j d y m n z).2.2 (a d r)) hro q⟩⟩,
  ⟨λ_ q=>q,hro,λb q=>k.keep b q.1 q.2,k.size,k.shape,k.os,k.tape,k.output,k.drawn⟩⟩
 .rcases r with r|r
  .exact s.roFr b q r
  .rcases k.new b r with h|h
   .exact s.roFr b q (a b h)
   .have:=s.roLt b q;omega
 .obtain⟨u,B,t⟩:=s.own i b x e f p;refine⟨Vg u k.size,B,λr=>?_⟩;rcases r with r|r
  .exact t r
  .rcases k.new b r with h|h
   .grind
   .omega
 .refine(s.blk i y x e f).keep l ?_ ?_
  .rintro b rfl w;obtain⟨u,B,t⟩:=s.own i b x e f w;exact k.keep b u (λr=>t (a b r))
  .rintro b c rfl w;have q:=s.hid i b x c e f w;exact k.keep c q.lt (λr=>q.fr (a c r))
variable {T:Type}
def vF(J Jx:Jv T)(g ri:Nat->Prop)(W1:AJ)(rem:AA T):Ending->AJ->Prop:=λe W'=>
 ∃g' q',(∀b,q' b->ri b)/\Z0 g g' W1 W'/\((e=.returned (.bool AE)/\J rem q' g' W')\/(e=.returned (.bool AD)/\Jx rem q' g' W'))
structure FS (T:Type) where
 l:Nat
 J:Jv T
 Jx:Jv T
 enc:T->List A
 nx:List T->T->List T->Prop
structure FS.ok {T:Type} (X:FS T) (P:AK):Prop where
 b:ou X.J
 bx:ou X.Jx
 round:∀l x rem q g ri W1 vs,X.nx l x rem->X.J l q g W1->(∀b,q b->ri b)->(∀b,ri b->b<W1.heap.size/\ ¬g b)->LR ri [] W1 (X.enc x) vs->YieldAt Fence.wide 0 P X.l vs.toArray W1 (vF X.J X.Jx g ri W1 rem)
def Zg(P:AK)(f:FuncId)(caps:AA A)(H:Qc)(enc:T->AA A)(nx:AA T->T->AA T->Prop)(xs:AA T):Prop:=
 ∀(X:FS T),X.enc=enc->X.nx=nx->X.ok P->∀fr ro σ w capv q,B9 fr ro σ H w->(∀b,q b->ro b)->LR ro σ w caps capv->X.J xs q fr w->
  Calls P f ((Value.func (.yield X.l) #[] #[]::capv)).toArray w λe W'=>(∃v,e=.returned v)/\ ∃g q',(∀b,fr b->g b)/\((X.J [] q' g W')\/(∃rem,X.Jx rem q' g W'))
inductive HE (T:Type) where
 |on (rem:List T)
 |off (rem:List T)
def FS.J'(X:FS T):HE T->(Nat->Prop)->(Nat->Prop)->AJ->Prop
 |.on rem=>X.J rem
 |.off rem=>X.Jx rem
def FS.at(X:FS T)(st:HE T)(g ro:Nat->Prop)(W:AJ):Prop:=∃q,(∀b,q b->ro b)/\X.J' st q g W
variable {ro':Nat->Prop}{w w':AJ}
theorem Qm.roMono{ro0:Nat->Prop}(h:Qm fr ro w ro' w')(s:∀b,ro0 b->ro b):Qm fr ro0 w ro' w':=
 ⟨λb q=>h.sub b (s b q),λb q=>h.keepRo b (s b q),h.keepFr,h.size,h.shape,h.os,h.tape,h.output,h.drawn⟩
theorem FS.ok.ev{T:Type}{X:FS T}{P:AK}(h:X.ok P){e:HE T}{g ro ro':Nat->Prop}{W W':AJ}(a:X.at e g ro W)(he:Qm g ro W ro' W'):X.at e g ro' W':=by
 obtain⟨q,d,a⟩:=a;refine⟨q,λb z=>he.sub b (d b z),?_⟩;cases e with
 |on rem=>exact h.b.ev rem q g W W' ro' a (he.roMono d)
 |off rem=>exact h.bx.ev rem q g W W' ro' a (he.roMono d)
theorem FS.ok.up{T:Type}{X:FS T}{P:AK}(h:X.ok P){d:HE T}{g g' ro:Nat->Prop}{W:AJ}(a:X.at d g ro W)(hg:∀b,g b->g' b)(e:∀b,g' b->b<W.heap.size):X.at d g' ro W:=by
 obtain⟨q,f,a⟩:=a;refine⟨q,f,?_⟩;cases d with
 |on rem=>exact h.b.up rem q g g' W a hg e
 |off rem=>exact h.bx.up rem q g g' W a hg e
abbrev YV(T:Type):=U4->Env->Qc->HE T->Prop
structure In (g fr:Nat->Prop) (ds:List Deferred):Prop where
 sub:∀b,g b->fr b
 beside:∀D,({target:=.collected D,args:= #[]}:Deferred)∈ds->¬g D
def MB(X:FS T)(h0:Nat)(fr ro:Nat->Prop)(σ:CD)(w:AJ)(N:Nat)(ds:AA Deferred)(Q:YV T):Exit->Act->AJ->Prop:=
 λe a' w'=>∃x env' H' st ro' σ' fr' g',Tc e x/\Q x env' H' st/\C0 fr' ro' σ' H' env' N a' w'/\(X.at st g' ro' w'/\In g' fr' a'.defers)/\(∀b,ro b->ro' b)/\w.heap.size<=w'.heap.size/\σ'.take h0=σ.take h0/\Cw fr w ds fr' a'.defers
variable {N:Nat}
theorem MB.grow{T:Type}{X:FS T}{i:Nat}{a:Nat->Prop}{σ1:CD}{w1:AJ}{l f:AA Deferred}{Q:YV T}{e:Exit}{a':Act}
  (h:MB X i a g σ1 w1 N f Q e a' w')(E:∀b,ro b->g b)(m:w.heap.size<=w1.heap.size)(u:σ1.take i=σ.take i)(hg:Cw fr w l a f):MB X i fr ro σ w N l Q e a' w':=by
 obtain⟨x,d,H',B,j,σ',k,p,r,q,y,n,F,s,z,t⟩:=h;exact⟨x,d,H',B,j,σ',k,p,r,q,y,n,(by grind),XW m s,z.trans u,hg.trans m t⟩
def Cs(X:FS T)(P:AK)(h0 N:Nat)(c:Code)(env:Env)(H:Qc)(st:HE T)(Q:YV T):Prop:=
 X.ok P->∀rd fr ro σ a w g,C0 fr ro σ H env N a w->X.at st g ro w/\In g fr a.defers->rd=AF->c.wpIn (WF rd) 0 P (MB X h0 fr ro σ w N a.defers Q) a w
def F8(X:FS T)(P:AK)(h0 N:Nat)(all:Array AM)(l:AA AM)(env:Env)(H:Qc)(st:HE T)(Q:YV T):Prop:=
 X.ok P->∀rd fr ro σ a w g,C0 fr ro σ H env N a w->X.at st g ro w/\In g fr a.defers->rd=AF->D_ P rd all (MB X h0 fr ro σ w N a.defers Q) l a w
theorem In.later{d:Nat->Prop}{ds a:AA Deferred}(h:In g fr ds)(f:∀b,fr b->b<w.heap.size)(hg:Cw fr w ds d a):In g d a:=by
 refine⟨λb q=>hg.sub b (h.sub b q),λD hD q=>?_⟩;rcases hg.ds _ hD with r|⟨D',e,r⟩
 .exact h.beside D r q
 .have:=by simpa using e
  have:=f D (h.sub D q);omega
section
variable {T:Type} {X:FS T} {P:AK} {h0 N:Nat} {c c':Code} {env:Env} {H:Qc} {st:HE T} {Q:YV T}
theorem yM{f:AA Deferred}{e:Exit}{a':Act}(s:X.ok P)(h:Hf h0 fr ro σ w N f (λx env H=>Q x env H st) e a' w')(p:∀b,fr b->b<w.heap.size)(k:X.at st g ro w/\In g fr f):
  MB X h0 fr ro σ w N f Q e a' w':=by
 obtain⟨x,a,H',i,σ',j,r,q,m,d,n,l⟩:=h;exact⟨x,a,H',st,i,σ',j,g,r,q,m,⟨s.ev k.1 (d.frMono k.2.sub),k.2.later p l⟩,d.sub,d.size,n,l⟩
theorem Cs.lift(h:TC P h0 N c env H (λx env H=>Q x env H st)):Cs X P h0 N c env H st Q:=
 λhX rd fr ro σ a w g r hj hrd=>Code.wpIn_mono (λe a' w' q=>yM hX q r.sim.frLt hj) (h rd fr ro σ a w r (hrd▸mv))
def Zc(X:FS T)(P:AK)(h0 N:Nat)(c:Code)(Q:YV T):YV T
 |.normal,env,H,st=>Cs X P h0 N c env H st Q
 |.exit id,env,H,st=>Q (.exit id) env H st
 |.ret,env,H,st=>Q .ret env H st
theorem Cs.seq(h:Cs X P h0 N c env H st (Zc X P h0 N c' Q)):Cs X P h0 N (.seq c c') env H st Q:=by
 intro z B G F σ a w g r hj hrd;refine wpIn_seq (Code.wpIn_mono ?_ (h z B G F σ a w g r hj hrd));rintro e E J ⟨x,d,H',j,f,σ',i,n,k,l,t,m,u,p,y,s⟩;cases e with
 |normal=>
  obtain rfl:x=.normal:=k;exact Code.wpIn_mono (λe a w q=>q.grow u p y s) (l z B i f σ' E J n t m hrd)
 |exit id=>
  obtain rfl:x=.exit id:=k;exact⟨_,d,H',j,f,σ',i,n,rfl,l,t,m,u,p,y,s⟩
 |ret=>
  obtain rfl:x=.ret:=k;exact⟨_,d,H',j,f,σ',i,n,rfl,l,t,m,u,p,y,s⟩
 |_=>exact k.elim
theorem Cs.region{id:Nat}{l:AA AM}(h:F8 X P h0 N l.toArray l env H st Q):Cs X P h0 N (.region id l.toArray AD) env H st Q:=
 λhX rd fr ro σ a w g r hj hrd=>wpIn_region_lit (h hX rd fr ro σ a w g r hj hrd)
theorem Cs.cond{x:Operand}{t:Bool}(m:Bu env x=.bool t)(k:t=AE->Cs X P h0 N c env H st Q)(l:t=AD->Cs X P h0 N c' env H st Q):Cs X P h0 N (.cond x c c') env H st Q:=by
 intro j h f d σ a w g r hj hrd;have i:=Qn r x;rw[m]at i;exact wpIn_cond_split i (λe=>k e j h f d σ a w g r hj hrd) (λe=>l e j h f d σ a w g r hj hrd)
theorem F8.nil{all:Array AM}(h:Q .normal env H st):F8 X P h0 N all [] env H st Q:=
 λhX rd fr ro σ a w g r hj hrd=>⟨_,env,H,st,ro,σ,fr,g,rfl,h,r,hj,λ_ q=>q,XU _,rfl,Cw.refl _ _ _⟩
end
variable {P:AK}{Q:Exit->Act->AJ->Prop}{rd:AB Nat}
theorem Qkf{o:AM}{a:Act}{K K':Act->AJ->Prop}{Q':Exit->Act->AJ->Prop}(i:∀a w,K a w->K' a w)(p:∀ch a w,Q (.panic ch) a w->Q' (.panic ch) a w)(m:∀a w,Q .outgrown a w->Q' .outgrown a w)
  {r:Result Next}(h:o.uponIn (WF rd) 0 P a K Q r):o.uponIn (WF rd) 0 P a K' Q' r:=by
 cases r with
 |ok x w=>
  cases x with
  |value v=>exact i _ _ h
  |skip=>exact i _ _ h
  |defer d=>exact i _ _ h
  |enter f g=>
   refine⟨h.1,CallsIn.mono h.2 ?_⟩;intro e j q;cases e with
   |returned v=>grind
   |panicked c=>grind
   |outgrown=>obtain⟨a,w,q⟩:=q;exact⟨a,w,m _ _ q⟩
  |row r g=>exact⟨h.1,RowsIn.mono h.2 λv j q=>i _ _ q⟩
  |round l f k assign n=>
   refine⟨h.1,RoundIn.mono h.2 ?_⟩;intro e j q;cases e with
   |returned v=>grind
   |panicked c=>grind
   |outgrown=>obtain⟨a,w,q⟩:=q;exact⟨a,w,m _ _ q⟩
  |_=>exact h
 |halt x w=>
  cases x with
  |panic v=>exact p _ _ _ h
  |_=>exact h
section
variable {T:Type} {X:FS T} {P:AK} {h0 N:Nat} {env:Env} {H:Qc} {st:HE T} {Q:YV T}
theorem F8.step{all:Array AM}{o:AM}{rest:AA AM}(h:WO P h0 N all [o] env H (λx env' H'=>x=.normal/\F8 X P h0 N all rest env' H' st Q)):F8 X P h0 N all (o::rest) env H st Q:=by
 intro u s p l σ a w g r hj hrd;have L:∀d j,He h0 p l σ w N a.defers (λx env' H'=>x=.normal/\F8 X P h0 N all rest env' H' st Q) .normal d j->D_ P s all (MB X h0 p l σ w N a.defers Q) rest d j:=by
  rintro d j ⟨x,env',H',f,σ',i,J,⟨_,y⟩,E,n,F,B,G⟩;have m:X.at st g f j/\In g i d.defers:=⟨u.ev hj.1 (n.frMono hj.2.sub),by rw[B];exact hj.2.later r.sim.frLt G⟩;have:=y u s i f σ' d j g E m hrd;exact YE (λe t w2 q=>(q.grow n.sub n.size F (by grind))) _ _ _ this
 have k:=h s p l σ a w r (hrd▸mv);unfold D_ wpListIn at k⊢;split
 .rename_i z;rw[Vu z]at k;refine⟨k.1,Qkf (λt w2 q=>?_) (λM t w2 q=>?_) (λt w2 q=>?_) k.2⟩
  .unfold wpListIn at q
   grind
  .obtain⟨x,_,_,_,_,_,q,_⟩:=q;exact q.elim
  .obtain⟨x,_,_,_,_,_,q,_⟩:=q;exact q.elim
 simp_all[wpListIn]
theorem F8.yield{all:Array AM}{o:AM}{rest:AA AM}{d:Nat}{x:T}{J rem:AA T}(G:X.nx J x rem)(hg:QE all o env AE)(u:o.dst=AC d)(hN:Nat.blt d N=AE)
  (L:∀fr ro σ a w,C0 fr ro σ H env N a w->∃vs:AA AL,LR ro [] w (X.enc x) vs/\(execOp a.eval o).run P w=(Instr.yield X.l vs.toArray).run P w)
  (k:∀b,F8 X P h0 N all rest (up env d (.bool b)) H (bif b then .on rem else .off rem) Q):F8 X P h0 N all (o::rest) env H (.on J) Q:=by
 intro O R fr ro σ a w g r hj hrd;obtain⟨vs,hv,he⟩:=L fr ro σ a w r;obtain⟨q,hq,F⟩:=hj.1;obtain⟨fn,tmps,assign,M,Y,W⟩:=O.round J x rem q g ro w vs G F hq (λb z=>⟨r.sim.roLt b z,λy=>r.sim.roFr b z (hj.2.sub b y)⟩) hv;have h3:=he.trans Y;unfold D_ wpListIn;rw[Vu (Jp hg r)];refine⟨λ_ _=>trivial,?_⟩;rw[fO h3 (λd e=>by cases e)];refine⟨λh=>by simp[WF,Fence.wide]at h,(RoundIn.mono W ?_)⟩;rintro e j ⟨i,t,n,p,f⟩;obtain⟨V,ev⟩:=r.sim.round hj.2.sub p;have E:d<N:=by simp_all
 have m:Cx ro σ w ro σ j:=by have:=ev.ext σ [];grind
 have fin:∀b,X.at (bif b then .on rem else .off rem) i ro j->D_ P R all (MB X h0 fr ro σ w N a.defers Q) rest (a.put o.dst (.bool b)) j:=by
  intro b f;have hm:Kw (λb=>fr b\/i b) a.defers j:=by
   refine⟨r.defers.1,λd u=>?_⟩;obtain⟨D,rfl,B,q2⟩:=r.defers.2 d u;exact⟨D,rfl,.inl B,(p.keep D (r.sim.frLt D B) (hj.2.beside D u)).trans q2⟩
  have hi:In i (λb=>fr b\/i b) a.defers:=by
   refine⟨λb q=>.inr q,λD hD q=>?_⟩;rcases p.new D q with t|t
   .exact hj.2.beside D hD t
   .obtain⟨D',e,B,_⟩:=r.defers.2 _ hD
    grind
  have r':C0 (λb=>fr b\/i b) ro σ H (up env d (.bool b)) N {a with tmps:=a.tmps.setIfInBounds d (.bool b)} j:=
   ⟨V,VR.up (fr:=fr) (λs=>(r.env s).mono m) (by rw[r.size];exact E) rfl,by simpa using r.size,hm⟩
  have:=k b O R _ ro σ _ j i r' ⟨f,hi⟩ hrd;simp[u];refine YE (λe a2 w2 q=>q.grow (λ_ q=>q) p.size rfl ⟨λ_ q=>.inl q,λb q=>?_,λ_ q=>.inl q⟩) _ _ _ this;rcases q with q|q
  .exact .inl q
  .rcases p.new b q with q|q
   .exact .inl (hj.2.sub b q)
   omega
 rcases f with⟨rfl,f⟩|⟨rfl,f⟩
 .exact fin AE ⟨t,n,f⟩
 .exact fin AD ⟨t,n,f⟩
end
def cm:YV T:=λx env H st=>(x=.normal\/x=.ret)/\(st=.on []\/ ∃rem,st=.off rem)
theorem QiE{T:Type}{f:FuncId}{fn:Func}{c:Code}{a:AA A}{H:Qc}{enc:T->AA A}{nx:AA T->T->AA T->Prop}{xs:AA T}
  (hf:P.funcs[f]?=AC fn)(W:fn.body=AC c)(hN:fn.ntmps=N)(hA:Nat.ble (a.length+1) N=AE)(hR:fn.results= #[])
  (h:∀X,X.enc=enc->X.nx=nx->Cs X P H.length N c (PS 0 (.fn (.yield X.l) [] []::a)) H (.on xs) cm):Zg P f a H enc nx xs:=by
 intro X hE hNx hX fr ro0 σ w capv q0 hs hq0 hl hj;have n:LR ro0 σ w (.fn (.yield X.l) [] []::a) (Value.func (.yield X.l) #[] #[]::capv):=⟨_,_,rfl,⟨[],[],rfl,rfl,rfl⟩,hl⟩;have M:=n.length;have R:a.length+1<=N:=by simp_all
 refine(callsIn_wide).1 (callsIn_of_wp_marks hf W trivial (Code.wpIn_mono ?_ (h X hE hNx hX AF fr ro0 σ _ w fr ⟨hs,?_,?_,List.nodup_nil,λd t=>by cases t⟩ ⟨⟨q0,hq0,hj⟩,λ_ q=>q,λD hD=>by cases hD⟩ rfl)))
 .rintro e z Q ⟨x,O,H1,st,aa,σ1,V,L,G,⟨h2,F⟩,j,⟨Y,k⟩,h5,h6,h7,h8⟩;have p:LeavesInM Fence.wide 0 P fn z.tmps (λe W'=>(∃v,e=.returned v)/\ ∃g q',(∀b,fr b->g b)/\((X.J [] q' g W')\/(∃rem,X.Jx rem q' g W'))) z.defers .returning Q:=by
   refine nT z.defers Q j.defers.1 (λd t=>?_) (j.sim.frMono k.sub) (λw2 s2 m=>?_)
   .obtain⟨D,rfl,y,q2⟩:=j.defers.2 d t;exact⟨D,rfl,λq=>j.sim.roFr D q y,k.beside D t,λi x B E u=>(j.sim.own i D x B E u).2.2 y,λi d x B E u=>(j.sim.hid i d x D B E u).fr y,q2⟩
   .have r:=hX.up (hX.ev Y m) (g':=λb=>L b\/fr b) (λb q=>.inl q) (λb q=>Vg (j.sim.frLt b (q.elim (k.sub b) (h8.sub b))) m.size);obtain⟨q9,_,r⟩:=r;refine⟨.tuple #[],by simp[results,hR],⟨_,rfl⟩,λb=>L b\/fr b,q9,λb q=>.inr q,?_⟩;rcases F with rfl|⟨rem,rfl⟩
    .exact .inl r
    .exact .inr ⟨rem,r⟩
  cases e with
  |normal=>exact p
  |ret=>exact p
  |exit id=>
   obtain rfl:x=.exit id:=G
   grind
  |_=>exact G.elim
 .intro s;have:=mX [] rfl n (Array.replicate (fn.ntmps-(Value.func (.yield X.l) #[] #[]::capv).toArray.size) undef) s
  grind
 grind
section
variable {T:Type} {X:FS T} {P:AK} {h0 N:Nat} {c c':Code} {env:Env} {H:Qc} {st:HE T} {Q Q':YV T}
theorem Cs.mono(h:Cs X P h0 N c env H st Q)(q:∀x env H st,Q x env H st->Q' x env H st):Cs X P h0 N c env H st Q':=by
 intro l u m k σ a w g r hj hrd;refine Code.wpIn_mono ?_ (h l u m k σ a w g r hj hrd);rintro e y z ⟨x,d,H',j,f,σ',i,n,t,s,p⟩;exact⟨x,d,H',j,f,σ',i,n,t,q _ _ _ _ s,p⟩
theorem Cs.skip(h:Q .normal env H st):Cs X P h0 N .skip env H st Q:=Cs.lift (TC.skip h)
theorem Cs.ret(h:Q .ret env H st):Cs X P h0 N .ret env H st Q:=Cs.lift (TC.ret h)
theorem Cs.exit{id:Nat}(h:Q (.exit id) env H st):Cs X P h0 N (.exit id) env H st Q:=Cs.lift (TC.exit h)
def Td(id:Nat)(Q:YV T):YV T
 |.normal,env,H,st=>Q .normal env H st
 |.exit id',env,H,st=>bif Nat.beq id' id then Q .normal env H st else Q (.exit id') env H st
 |.ret,env,H,st=>Q .ret env H st
theorem Cs.block{id:Nat}(h:Cs X P h0 N c env H st (Td id Q)):Cs X P h0 N (.block id c) env H st Q:=by
 intro z y u s σ a w g r hj hrd;refine wpIn_block (Code.wpIn_mono ?_ (h z y u s σ a w g r hj hrd));rintro e E B ⟨x,d,H',k,i,σ',j,m,p,l,n⟩;cases e with
 |normal=>
  obtain rfl:x=.normal:=p;exact⟨_,d,H',k,i,σ',j,m,rfl,l,n⟩
 |exit f=>
  obtain rfl:x=.exit f:=p;unfold Exit.inBlock;simp only[Td]at l;by_cases q:f=id
  .subst q;rw[VF,Vq]at l;simp;exact⟨.normal,d,H',k,i,σ',j,m,rfl,l,n⟩
  .have t:Nat.beq f id=false:=by
    cases e:Nat.beq f id with
    |false=>rfl
    |true=>simp_all
   rw[t,Vr]at l;simp[q];exact⟨.exit f,d,H',k,i,σ',j,m,rfl,l,n⟩
 |ret=>
  obtain rfl:x=.ret:=p;exact⟨_,d,H',k,i,σ',j,m,rfl,l,n⟩
 |_=>exact p.elim
end
section
variable {T:Type} {X:FS T} {P:AK} {h0 N:Nat} {c:Code} {env:Env} {H:Qc} {st:HE T} {Q:YV T}
def yB(I:Env->Qc->HE T->Prop)(Q:YV T):YV T
 |.normal,env,H,st=>I env H st
 |.exit id,env,H,st=>Q (.exit id) env H st
 |.ret,env,H,st=>Q .ret env H st
theorem yQ{I:Nat->Env->Qc->HE T->Prop}(body:∀n env H st,I n env H st->Cs X P h0 N c env H st (yB (λenv H st=>∃n',n'<n/\I n' env H st) Q)){n:Nat}(F:I n env H st):Cs X P h0 N (.loop c) env H st Q:=by
 intro hX V B z σ a w g r hj hrd b k cs hro hb hr;have J:∀m n env H st fr1 ro1 σ1 a1 w1 g1,n<m->I n env H st->C0 fr1 ro1 σ1 H env N a1 w1->(∀b,z b->ro1 b)->w.heap.size<=w1.heap.size->σ1.take h0=σ.take h0->Cw B w a.defers fr1 a1.defers->X.at st g1 ro1 w1/\In g1 fr1 a1.defers->
   ∃e h i,MB X h0 B z σ w N a.defers Q e h i/\ArrivesIn (Machine.fenced P (WF V)) P (lone (b.atR a1 (.code c::.inLoop c::k)) cs w1) b k cs e h i:=by
  intro m
  induction m with
  |zero=>omega
  |succ m ih=>
   intro n env H st fr1 ro1 σ1 a1 w1 g1 hn F r1 s1 z1 t1 gr1 j1;obtain⟨e,h,i,E,d⟩:=body n env H st F hX V fr1 ro1 σ1 a1 w1 g1 r1 j1 hrd b (.inLoop c::k) cs hro hb hr;obtain⟨x,f,H',j,s,σ',u,R,y,t,O,Y,q5,W,L,q8⟩:=E;have s2:=λb q=>q5 b (s1 b q);have p:=gr1.trans z1 q8;have M:∀x,Q x f H' j->Tc e x->MB X h0 B z σ w N a.defers Q e h i:=λx q q'=>⟨x,f,H',j,s,σ',u,R,q',q,O,Y,s2,XW z1 W,L.trans t1,p⟩;cases e with
   |normal=>
    obtain rfl:x=.normal:=y;obtain⟨n',aa,t⟩:=t;obtain⟨e2,a2,w2,G,l⟩:=ih n' f H' j u s σ' h i R (by omega) t O s2 (XW z1 W) (L.trans t1) p Y;exact⟨e2,a2,w2,G,.of_steps (StepsIn.trans d (.one (fenced_calm hb hr rfl) stepR_inLoop)) l⟩
   |exit id=>
    obtain rfl:x=.exit id:=y;exact⟨_,h,i,M _ t rfl,.pass rfl (λ_ _=>.inl (by simp)) d⟩
   |ret=>
    obtain rfl:x=.ret:=y;exact⟨_,h,i,M _ t rfl,.pass rfl (λ_ _=>.inl (by simp)) d⟩
   |_=>exact y.elim
 obtain⟨e,h,i,E,d⟩:=J (n+1) n env H st B z σ a w g (Xo _) F r (λ_ q=>q) (XU _) rfl (Cw.refl _ _ _) hj;exact⟨e,h,i,E,.of_steps (.one (fenced_calm hb hr rfl) stepR_loop) d⟩
end
variable {Hc:Qc}
theorem B9.part{H:Qc}(h:B9 fr ro σ H w){π:AA Nat}(hH:π.map (λp=>H[p]?)=(Hc.map (Q1 (CF π H.length))).map AC)(hπ:π.Nodup):
  B9 (λb=>fr b\/(∃i x,σ[i]?=AC (AC b)/\H[i]?=AC x/\x.live=AE/\i∉π)\/ ∃i x d,σ[i]?=AC (AC d)/\H[i]?=AC x/\De w x d b/\i∉π) ro (Yz σ π) Hc w/\ ∀j:Nat,σ[CF π H.length j]?=(Yz σ π)[j]? :=by
 have hp:∀p∈π,p<H.length:=λp q=>JD hH q;have hσl:=h.len;have m:∀(j p:Nat),π[j]?=AC p->H[p]?=(Hc[j]?).map (Q1 (CF π H.length)):=by
  intro j p n;have:=congrArg (λl=>l[j]?) hH
  grind
 have O:π.length=Hc.length:=by simpa using congrArg List.length hH
 have hσc:∀j:Nat,σ[CF π H.length j]?=(Yz σ π)[j]? :=by
  intro j;have:=fE (τ:=[]) hσl hp j
  grind
 have hπj:∀(j b:Nat),(Yz σ π)[j]?=AC (AC b)->∃p,π[j]?=AC p/\σ[p]?=AC (AC b):=by
  intro j b n;simp only[Yz,Xp]at n
  grind
 refine⟨?_,hσc⟩
 .refine⟨by simp[Yz,O],h.roOk,?_,?_,?_,?_,?_,?_⟩
  .rintro b (M|⟨i,x,a,g,f,P⟩|⟨i,x,d,a,g,f,P⟩)
   .exact h.frLt b M
   .exact(h.own i b x a g f).1
   .exact(h.hid i d x b a g f).lt
  .rintro b M (N|⟨i,x,a,g,f,P⟩|⟨i,x,d,a,g,f,P⟩)
   .exact h.roFr b M N
   .exact(h.own i b x a g f).2.1 M
   .exact(h.hid i d x b a g f).ro M
  .intro j b x a g f;obtain⟨p,e,B⟩:=hπj j b a;have E:H[p]?=AC (Q1 (CF π H.length) x):=by grind
   obtain⟨o1,o2,o3⟩:=h.own p b _ B E (by rw[QO];exact f);refine⟨o1,o2,?_⟩;rintro(N|⟨i,y,y1,y2,F,Q⟩|⟨i,y,d,y1,y2,F,Q⟩)
   .exact o3 N
   .have:=h.inj i p b _ _ y1 B y2 E F (by rw[QO];exact f)
    grind
   .exact(h.hid i d y b y1 y2 F).ne p b _ B E (by rw[QO];exact f) rfl
  .intro i j b x y a g f P q5 q6;obtain⟨p,e,B⟩:=hπj i b a;obtain⟨r,u,T⟩:=hπj j b g;have E:H[p]?=AC (Q1 (CF π H.length) x):=by rw[m i p e,f];rfl
   have W:H[r]?=AC (Q1 (CF π H.length) y):=by rw[m j r u,P];rfl
   have:=h.inj p r b _ _ B T E W (by rw[QO];exact q5) (by rw[QO];exact q6);subst this;have G:i<π.length:=by
    rcases VC i π.length with q|q
    .exact q
    .rw[XP q]at e;simp at e
   have n:j<π.length:=by
    rcases VC j π.length with q|q
    .exact q
    .rw[XP q]at u;simp at u
   rw[XL G]at e;rw[XL n]at u;have t:=(X0 e).trans (X0 u).symm;rcases Nat.lt_trichotomy i j with q|q|q
   .exact(VE.1 hπ i j G n q t).elim
   .exact q
   .exact(VE.1 hπ j i n G q t.symm).elim
  .intro j s x a g;have n:j<π.length:=by
    rcases VC j π.length with q|q
    .exact q
    .rw[XP (by simpa[Yz]using q)]at a;simp at a
   have e:π[j]?=AC π[j]:=XL n;have E:H[π[j]]?=AC (Q1 (CF π H.length) x):=by rw[m j _ e,g];rfl
   have B:σ[π[j]]?=AC s:=by
    have:=hσc j;rw[a]at this;simpa[CF,e]using this
   exact(eB hσc).1 (h.blk _ s _ B E)
  .intro j b x c a g f;obtain⟨p,e,B⟩:=hπj j b a;have E:H[p]?=AC (Q1 (CF π H.length) x):=by rw[m j p e,g];rfl
   have k:=h.hid p b _ c B E ((Pd _ _ _ _ _).2 f);refine⟨k.lt,k.ro,?_,?_,?_⟩
   .rintro(N|⟨i,y,y1,y2,F,Q⟩|⟨i,y,d,y1,y2,F,Q⟩)
    .exact k.fr N
    .exact k.ne i c y y1 y2 F rfl
    .obtain⟨rfl,rfl⟩:=k.one i d y y1 y2 F;exact Q (VH e)
   .intro z L y R X Y;obtain⟨r,J,V⟩:=hπj z L R;exact k.ne r L _ V (show H[r]?=AC (Q1 (CF π H.length) y)by rw[m z r J,X];rfl) (by rw[QO];exact Y)
   .intro z L y R X Y;obtain⟨r,J,V⟩:=hπj z L R;obtain⟨z4,z5⟩:=k.one r L _ V (show H[r]?=AC (Q1 (CF π H.length) y)by rw[m z r J,X];rfl) ((Pd _ _ _ _ _).2 Y);subst z5;have G:z<π.length:=(XM.1 J).1;have n:j<π.length:=(XM.1 e).1;rw[XL G]at J;rw[XL n]at e;have t:=(X0 J).trans (X0 e).symm;refine⟨z4,?_⟩;rcases Nat.lt_trichotomy z j with q|q|q
    .exact(VE.1 hπ z j G n q t).elim
    .exact q
    .exact(VE.1 hπ j z n G q t.symm).elim
theorem B9.frames{fr':Nat->Prop}{H:Qc}(s:B9 fr ro σ H w)(lt:∀b,fr' b->b<w.heap.size)(hro:∀b,ro b->¬fr' b)(own:∀(i b:Nat) (x:B8),σ[i]?=AC (AC b)->H[i]?=AC x->x.live=AE->¬fr' b)
  (hd:∀(i b:Nat) (x:B8) (c:Nat),σ[i]?=AC (AC b)->H[i]?=AC x->De w x b c->¬fr' c):B9 fr' ro σ H w:=
 ⟨s.len,s.roOk,lt,hro,λi b x q1 q2 q3=>⟨(s.own i b x q1 q2 q3).1,(s.own i b x q1 q2 q3).2.1,own i b x q1 q2 q3⟩,s.inj,s.blk,
  s.hidTo (· = ·) Yl (XU _) (by simp) (by grind) (by grind)⟩
def da(H:Qc)(p:Nat):Qc:=match H[p]? with
 |some x=>bif x.holds then H.set p .dead else H
 |none=>H
def PU:Qc->AA Nat->Qc
 |H,[]=>H
 |H,p::π=>PU (da H p) π
theorem t3(H:Qc)(p:Nat):(da H p=H/\ ∀x,H[p]?=AC x->x.holds=AD)\/da H p=H.set p .dead:=by
 unfold da
 grind
theorem mW:∀(π:AA Nat) (H:Qc) (i:Nat) (x:B8),(PU H π)[i]?=AC x->x=.dead\/(H[i]?=AC x/\(x.holds=AE->i∉π))
 |[],H,i,x,h=>.inr ⟨h,λ_=>by simp⟩
 |p::π,H,i,x,h=>by
  rcases mW π _ i x h with h|⟨h1,h2⟩
  .exact .inl h
  .rcases t3 H p with⟨e,hl⟩|e
   .grind
   grind
theorem mw{fr ro:Nat->Prop}{σ:CD}{w:AJ}:∀(π:AA Nat) {H:Qc} (s:B9 fr ro σ H w),B9 fr ro σ (PU H π) w
 |[],_,s=>s
 |p::π,H,s=>by
  rw[PU];rcases t3 H p with h|h
  .rw[h.1];exact mw π s
  .rw[h];exact mw π (s.kill p)
theorem B9.put{H:Qc}(s:B9 fr ro σ H w){b:Nat}{obj:Obj}(l:fr b)(u:w.shape? b=AF):
  B9 fr ro σ H (w.putObj b obj)/\Qm (λc=>c≠b) ro w ro (w.putObj b obj):=by
 have a:∀c,c≠b->(w.putObj b obj).heap[c]?=w.heap[c]? :=λc B=>World.putObj_heap_other B;have h:(w.putObj b obj).heap.size=w.heap.size:=by simp
 have t:∀c,ro c->c≠b:=λc q e=>s.roFr c q (e▸l);have ev:Qm (λc=>c≠b) ro w ro (w.putObj b obj):=by
  refine⟨λ_ q=>q,(by grind),λc q=>a c q,by omega,λc x q=>?_,rfl,rfl,rfl,XU _⟩
  grind[World.shape?]
 have f:Cx ro σ w ro σ (w.putObj b obj):=by have:=ev.ext σ [];grind
 refine⟨⟨s.len,s.roOk.to (λ_ q=>q) ev.keepRo (λc q=>by rw[h];exact s.roLt c q),λc q=>by rw[h];exact s.frLt c q,s.roFr,λi c x g k r=>?_,s.inj,λi y x g k=>?_,
  s.hidTo (· = ·) Yl (by omega) (by simp) (by simp) λj d y m p F=>.inl ⟨j,y,rfl,m,p,id,λc q=>s.hidKeep m p (λz=>a d (λe=>(s.own j d y m p z).2.2 (e▸l))) ev.keepRo q⟩⟩,ev⟩
 .obtain⟨G,J,E⟩:=s.own i c x g k r
  grind
 .refine(s.blk i y x g k).keep f ?_ ?_
  .rintro c rfl n;exact a c (λe=>(s.own i c x g k n).2.2 (e▸l))
  .rintro d c rfl n;exact a c (λe=>(s.hid i d x c g k n).fr (e▸l))
theorem nL{l:Nat}{r:Loop}(h:w.heap[l]?=AC (.loop r)):w.shape? l=none:=by
 unfold World.shape?;rw[h]
structure Pg where
 fr:Nat->Prop
 ro:Nat->Prop
 σ:CD
 w:AJ
 h1:Nat
 env:Env
 tmps:Array AL
 ds1:List Deferred
 l:Nat
 rc:LoopState->Option Code->Loop
 fr1:Nat->Prop
structure Pg.Ok (D:Pg):Prop where
 sub:∀b,D.fr b->D.fr1 b
 l1:D.fr1 D.l
 lf:¬D.fr D.l
 len:D.σ.length=D.h1
structure RJ (D:Pg) (ro1:Nat->Prop) (σ1:CD) (H:Qc) (st:LoopState) (pe:Option Code) (q g:Nat->Prop) (W:AJ):Prop where
 sim:B9 D.fr1 ro1 σ1 H W
 env:∀t,VR ro1 D.σ W (lk D.env t) (D.tmps.getD t undef)
 sig:σ1.take D.h1=D.σ
 ev:Qm D.fr D.ro D.w ro1 W
 marks:Kw D.fr1 D.ds1 W
 rc:W.heap[D.l]?=AC (.loop (D.rc st pe))
 roG:∀b,ro1 b->q b\/g b
 frG:∀b,D.fr1 b->g b
 own:∀(i b:Nat) (x:B8),σ1[i]?=AC (AC b)->H[i]?=AC x->x.live=AE->g b
 hidG:∀(i b:Nat) (x:B8) (c:Nat),σ1[i]?=AC (AC b)->H[i]?=AC x->De W x b c->g c
 lt:∀b,g b->b<W.heap.size
theorem tf{σ1:CD}{a:Nat}(h:σ1.take a=σ){i b:Nat}(q:σ[i]?=AC (AC b)):σ1[i]?=AC (AC b):=by
 grind
variable {H':Qc}
section
variable {D:Pg} {ro1:Nat->Prop} {σ1:CD} {H:Qc} {st:LoopState} {pe:AB Code} {qR g:Nat->Prop} {W:AJ}
theorem RJ.step(p:D.Ok)(j:RJ D ro1 σ1 H st pe qR g W)(e:Qm g qR W ro' W'):RJ D ro1 σ1 H st pe qR g W':=by
 have hro:=λb q=>(j.roG b q).elim (e.keepRo b) (e.keepFr b);have ev:Qm D.fr1 ro1 W ro1 W':=⟨λ_ q=>q,hro,λb q=>e.keepFr b (j.frG b q),e.size,e.shape,e.os,e.tape,e.output,e.drawn⟩;have h:∀σ,Cx ro1 σ W ro1 σ W':=λ σ=>by have:=ev.ext σ [];grind
 refine⟨⟨j.sim.len,j.sim.roOk.to (λ_ q=>q) hro (λb q=>Vg (j.sim.roLt b q) e.size),λb q=>Vg (j.sim.frLt b q) e.size,j.sim.roFr,λi b x a f k=>?_,j.sim.inj,λi z x a f=>?_,
  j.sim.hidTo (· = ·) Yl e.size (by simp) (by simp) λi d y l n u=>.inl ⟨i,y,rfl,l,n,id,λc q=>j.sim.hidKeep l n (λz=>e.keepFr d (j.own i d y l n z)) hro q⟩⟩,
  λt=>(j.env t).mono (h _),j.sig,j.ev.trans (ev.frMono p.sub),j.marks.keep ev,(ev.keepFr _ p.l1).trans j.rc,j.roG,j.frG,j.own,λi b x c a f k=>j.hidG i b x c a f (j.sim.hidKeep a f (λz=>e.keepFr b (j.own i b x a f z)) hro k),λb q=>Vg (j.lt b q) e.size⟩
 .obtain⟨r,s⟩:=j.sim.own i b x a f k;exact⟨Vg r e.size,s⟩
 .refine(j.sim.blk i z x a f).keep (h _) ?_ ?_
  .rintro b rfl m;exact e.keepFr b (j.own i b x a f m)
  .rintro b c rfl m;exact e.keepFr c (j.hidG i b x c a f m)
theorem RJ.up{g':Nat->Prop}(j:RJ D ro1 σ1 H st pe qR g W)(h:∀b,g b->g' b)(hl:∀b,g' b->b<W.heap.size):RJ D ro1 σ1 H st pe qR g' W:=
 {j with roG:=λb q=>(j.roG b q).imp id (h b),frG:=λb q=>h b (j.frG b q),own:=λi b x q1 q2 q3=>h b (j.own i b x q1 q2 q3),hidG:=λi b x c q1 q2 q3=>h c (j.hidG i b x c q1 q2 q3),lt:=hl}
def J1(D:Pg)(ro1 g:Nat->Prop)(W:AJ):Nat->Prop:=λb=>(D.fr1 b\/(¬g b/\ ¬ro1 b))/\b<W.heap.size
theorem RJ.simB(j:RJ D ro1 σ1 H st pe qR g W):B9 (J1 D ro1 g W) ro1 σ1 H W:=by
 refine j.sim.frames (λb q=>q.2) (λb q r=>?_) (λi b x a e d r=>?_) (λi b x c a e d r=>r.1.elim (j.sim.hid i b x c a e d).fr λr=>r.1 (j.hidG i b x c a e d))
 .rcases r.1 with r|r
  .exact j.sim.roFr b q r
  grind
 .rcases r.1 with r|r
  .exact(j.sim.own i b x a e d).2.2 r
  .exact r.1 (j.own i b x a e d)
theorem RJ.fin(z:D.Ok)(j:RJ D ro1 σ1 H st pe qR g W){w:Nat->Prop}{σ':CD}{st':LoopState}{pe':AB Code}
  (ev:Qm (λb=>J1 D ro1 g W b/\b≠D.l) ro1 W ro' W')(s:B9 w ro' σ' H' W')(u:∀b,J1 D ro1 g W b->w b)(hσ:σ'.take D.h1=σ1.take D.h1)(L:W'.heap[D.l]?=AC (.loop (D.rc st' pe'))):
  RJ D ro' σ' H' st' pe' qR (λb=>g b\/(W.heap.size<=b/\b<W'.heap.size)) W'/\Z0 g (λb=>g b\/(W.heap.size<=b/\b<W'.heap.size)) W W':=by
 have n:∀b,D.fr1 b->J1 D ro1 g W b:=λb q=>⟨.inl q,j.sim.frLt b q⟩;have evf:=ev.frMono λb q=>⟨n b (z.sub b q),λe=>z.lf (e▸q)⟩;have hext:=ev.ext0 D.σ;have y:∀b,b<W.heap.size->b<W'.heap.size:=λb q=>Vg q ev.size;have m:∀b,b<W.heap.size->¬J1 D ro1 g W b->g b\/ro1 b:=by
  intro b a G;by_cases h:g b
  .exact .inl h
  .by_cases f:ro1 b
   .exact .inr f
   .exact absurd ⟨.inr ⟨h,f⟩,a⟩ G
 refine⟨⟨s.frames (λb q=>y b (j.sim.frLt b q)) (λb q r=>s.roFr b q (u b (n b r))) (λi b x h f p r=>(s.own i b x h f p).2.2 (u b (n b r))) (λi b x c h f p r=>(s.hid i b x c h f p).fr (u c (n c r))),
  λt=>(j.env t).mono hext,hσ.trans j.sig,j.ev.trans evf,⟨j.marks.1,λd N=>?_⟩,L,λb q=>?_,λb q=>.inl (j.frG b q),λi b x h f p=>?_,λi b x c h f p=>?_,λb q=>q.elim (λq=>y b (j.lt b q)) (λq=>q.2)⟩,
  ⟨λb q=>.inl q,(by grind),λb q=>q.elim (λq=>y b (j.lt b q)) (λq=>q.2),(by omega),λb h f=>?_,ev.size,ev.shape,ev.os,ev.tape,ev.output,ev.drawn⟩⟩
 .obtain⟨B,M,F,E⟩:=j.marks.2 d N;refine⟨B,M,F,(ev.keepFr B ⟨n B F,λe=>?_⟩).trans E⟩;subst e;rw[j.rc]at E;cases E
 .rcases VC b W.heap.size with a|a
  .rcases m b a (λr=>s.roFr b q (u b r))with r|r
   .grind
   .exact(j.roG b r).imp id .inl
  .exact .inr (.inr ⟨a,s.roLt b q⟩)
 .obtain⟨P,O,J⟩:=s.own i b x h f p;rcases VC b W.heap.size with a|a
  .rcases m b a (λr=>J (u b r))with r|r
   .exact .inl r
   .exact absurd (ev.sub b r) O
  omega
 .have k:=s.hid i b x c h f p;rcases VC c W.heap.size with a|a
  .rcases m c a (λr=>k.fr (u c r))with r|r
   .exact .inl r
   .exact absurd (ev.sub c r) k.ro
  .exact .inr ⟨a,k.lt⟩
 .by_cases r:ro1 b
  .exact ev.keepRo b r
  .exact ev.keepFr b ⟨(by grind),λe=>f (j.frG b (e▸z.l1))⟩
end
theorem B9.roAdd{a:Nat->Prop}{H:Qc}(s:B9 fr ro σ H w)(d:∀b,a b->b<w.heap.size)(g:∀b,a b->¬fr b)(j:∀(i b:Nat) (x:B8),σ[i]?=AC (AC b)->H[i]?=AC x->x.live=AE->¬a b)
  (h:∀(i b:Nat) (x:B8) (c:Nat),σ[i]?=AC (AC b)->H[i]?=AC x->De w x b c->¬a c):B9 fr (λb=>ro b\/a b) σ H w:=by
 have ext:Cx ro σ w (λb=>ro b\/a b) σ w:=⟨λ_ q=>.inl q,λ_ _=>rfl,λ_ _ q=>q,λ_ _ q=>q⟩;refine⟨s.len,s.roOk.to (λ_ q=>.inl q) (λ_ _=>rfl) (λb q=>q.elim (s.roLt b) (d b)),s.frLt,λb q=>q.elim (s.roFr b) (g b),λi b x e f k=>?_,s.inj,λi y x e f=>(s.blk i y x e f).keep ext (λ_ _ _=>rfl) (λ_ _ _ _=>rfl),
  s.hidTo (· = ·) Yl (XU _) (by grind) (by simp) (by grind)⟩
 obtain⟨m,n,l⟩:=s.own i b x e f k
 grind
theorem RJ.roAdd{D:Pg}{ro1:Nat->Prop}{σ1:CD}{H:Qc}{st:LoopState}{pe:AB Code}{qR ri g:Nat->Prop}{W:AJ}(j:RJ D ro1 σ1 H st pe qR g W)(hq:∀b,qR b->ri b)(hI:∀b,ri b->b<W.heap.size/\ ¬g b):RJ D (λb=>ro1 b\/ri b) σ1 H st pe ri g W:=
 {j with
  sim:=j.sim.roAdd (λb q=>(hI b q).1) (λb q z=>(hI b q).2 (j.frG b z)) (λi b x q1 q2 q3 z=>(hI b z).2 (j.own i b x q1 q2 q3)) (λi b x c q1 q2 q3 z=>(hI c z).2 (j.hidG i b x c q1 q2 q3))
  env:=λt=>(j.env t).mono ⟨λ_ q=>.inl q,λ_ _=>rfl,λ_ _ q=>q,λ_ _ q=>q⟩
  ev:=j.ev.trans (YR λ_ q=>.inl q)
  roG:=λb q=>q.elim (λq=>(j.roG b q).imp (hq b) id) .inl}
def Zm:AA Nat->AA A->Env->Env
 |p::ps,a::zs,env=>Zm ps zs (up env p a)
 |_,_,env=>env
def Rc:AA Nat->AA AL->Array AL->Array AL
 |p::ps,v::vs,t=>Rc ps vs (t.setIfInBounds p v)
 |_,_,t=>t
theorem tI:∀(ps:AA Nat) (vs:AA AL) (t:Array AL),(Rc ps vs t).size=t.size
 |[],_,_=>rfl
 |_::_,[],_=>rfl
 |p::ps,v::vs,t=>by simp[Rc,tI ps]
theorem tH:∀(ps:AA Nat) (vs:AA AL) (t:Array AL),(ps.toArray.zip vs.toArray).foldl (λt (p,v)=>t.setIfInBounds p v) t=Rc ps vs t
 |[],vs,t=>by rw[<- Array.foldl_toList,Array.toList_zip];rfl
 |p::ps,[],t=>by rw[<- Array.foldl_toList,Array.toList_zip];rfl
 |p::ps,v::vs,t=>by
  have:=tH ps vs (t.setIfInBounds p v);rw[<- Array.foldl_toList,Array.toList_zip]at this⊢;exact this
theorem pv{ro:Nat->Prop}{σ:CD}{w:AJ}:∀(ps:AA Nat) (zs:AA A) (vs:AA AL) (env:Env) (t:Array AL),LR ro σ w zs vs->(∀p∈ps,p<t.size)->(∀s,VR ro σ w (lk env s) (t.getD s undef))->
  ∀s,VR ro σ w (lk (Zm ps zs env) s) ((Rc ps vs t).getD s undef)
 |[],_,_,_,_,_,_,h=>h
 |p::ps,[],vs,_,_,hv,_,h=>by
  obtain rfl:vs=[]:=hv;exact h
 |p::ps,a::zs,vs,env,t,hv,hp,h=>by
  obtain⟨v,vs',rfl,h0,hv'⟩:=hv;have h1:=VR.up (fr:=λ_=>False) (a:={tmps:=t,defers:=[]}) h (hp p (by simp)) h0;exact pv ps zs vs' (up env p a) (t.setIfInBounds p v) hv' (λq hq=>by grind) h1
def o6(h1:Nat)(env:Env)(Q:QP)(K:Qc->Prop):QP
 |.normal,env',H'=>∃H2,Le h1 env' H' [] H2/\K H2
 |.exit id,env',H'=>∃H2,Le h1 env' H' [] H2/\Q (.exit id) env H2
 |.ret,env',H'=>∃H2,Le h1 env' H' [] H2/\Q .ret env H2
def bG(Q:QP)(env:Env)(c:Code)(H:Qc):Prop:=(∃id,c=.exit id/\Q (.exit id) env H)\/(c=.ret/\Q .ret env H)
section
variable {D:Pg} {ro0:Nat->Prop} {σ1:CD} {H:Qc} {qR ri g:Nat->Prop} {W:AJ} {P:AK} {N:Nat} {Q:QP} {K:Qc->Prop}
theorem RJ.round{fn:FuncId}{ps:AA Nat}{assign body:Code}{df:Nat}{E:AA A}{vs:AA AL}(hD:D.Ok)(X:D.rc=λst pe=>{state:=st,pending:=pe,fn:=fn,tmps:=D.tmps,params:=ps.toArray,assign:=assign,body:=body,defers:=df})
  (hN:D.tmps.size=N)(al:∀p∈ps,p<N)(aj:E.length=ps.length)(hq:∀b,qR b->ri b)(hI:∀b,ri b->b<W.heap.size/\ ¬g b)(Y:LR ri [] W E vs)(j0:RJ D ro0 σ1 H .ready AF qR g W)
  (h:TC P D.h1 N assign (Zm ps E D.env) H λe env1 H1=>e=.normal/\TC P D.h1 N body env1 H1 (o6 D.h1 D.env Q K)):
  YieldAt Fence.wide 0 P D.l vs.toArray W λe W'=>∃g',Z0 g g' W W'/\((e=.returned (.bool AE)/\ ∃H2 ro2 σ2,K H2/\RJ D ro2 σ2 H2 .ready AF ri g' W')\/
   (e=.returned (.bool AD)/\ ∃H2 c ro2 σ2,bG Q D.env c H2/\RJ D ro2 σ2 H2 .done (AC c) ri g' W')):=by
 have ak:vs.length=E.length:=Y.length;have j:=j0.roAdd hq hI;have t:LR (λb=>ro0 b\/ri b) σ1 W E vs:=Y.mono ⟨λ_ q=>.inr q,λ_ _=>rfl,λ_ _ q=>q,λi b q=>by simp at q⟩;clear j0;generalize(λb=>ro0 b\/ri b)=ro1 at j t;have ah:∀b,D.fr1 b->J1 D ro1 g W b:=λb q=>⟨.inl q,j.sim.frLt b q⟩;have x:=ah _ hD.l1;have aa:=j.rc;have hy:=run_yield (P:=P) (r:=D.rc .ready AF) (args:=vs.toArray) aa (by grind);refine⟨fn,Rc ps vs D.tmps,assign,body,?_,?_⟩
 .grind[tH]
 .refine roundIn_of_wpIn trivial ?_;show Code.wpIn (WF (AC D.l)) 0 P _ _ _ _;have L:∀s,VR ro1 σ1 W (lk D.env s) (D.tmps.getD s undef):=λs=>(j.env s).mono ⟨λ_ q=>q,λ_ _=>rfl,λ_ _ q=>q,λi b q=>tf j.sig q⟩;have ag:Iu (AC D.l) (J1 D ro1 g W) W:=λl e=>by grind
  have w1:=h (AC D.l) (J1 D ro1 g W) ro1 σ1 {tmps:=Rc ps vs D.tmps,defers:=[]} W ⟨j.simB,pv ps E vs D.env D.tmps t (by grind) L,by simp[tI,hN],List.nodup_nil,λd hd=>by cases hd⟩ ag;refine Code.wpIn_mono ?_ w1;rintro e a1 w1 ⟨x1,env1,H1,ro2,σ2,n,h1,⟨rfl,h2⟩,h3,h4,h5,h6⟩;cases e with
  |normal=>
   have O:w1.heap[D.l]?=AC (.loop (D.rc .ready AF)):=(h4.keepFr _ x).trans aa;refine⟨_,run_beginRound O (by rw[X]),?_⟩;obtain⟨s2,y⟩:=h3.sim.put (obj:=.loop {D.rc .ready AF with state:=.busy}) (h6.sub _ x) (nL O);have G:D.l<w1.heap.size:=by grind
   have ac:(w1.putObj D.l (.loop {D.rc .ready AF with state:=.busy})).heap[D.l]?=AC (.loop {D.rc .ready AF with state:=.busy}):=World.putObj_heap_same G;generalize hw2:w1.putObj D.l (.loop {D.rc .ready AF with state:=.busy})=w2 at*;have ae:Kw n a1.defers w2:=by
    refine⟨h3.defers.1,λd hd=>?_⟩;obtain⟨B,e1,e2,e3⟩:=h3.defers.2 d hd;refine⟨B,e1,e2,(y.keepFr B (λe=>?_)).trans e3⟩
    grind
   have r2:C0 n ro2 σ2 H1 env1 N a1 w2:=⟨s2,λs=>(h3.env s).mono (y.ext0 σ2),h3.size,ae⟩;have ab:n D.l:=h6.sub _ x;refine Code.wpIn_mono ?_ (h2 (AC D.l) n ro2 σ2 a1 w2 r2 (λl e=>by grind));rintro e a3 w3 ⟨x3,J,H3,u,σ3,T,g1,g2,g3,g4,g5,g6⟩;have m:w3.heap[D.l]?=AC (.loop {D.rc .ready AF with state:=.busy}):=(g4.keepFr _ ab).trans ac;have z:∀(H2:Qc) (jump:AB Code),Le D.h1 J H3 [] H2->∃v k,(Instr.endRound D.l jump).run P w3=.ok v k/\v=.bool jump.isNone/\ ∃g',Z0 g g' W k/\ ∃a σ4,RJ D a σ4 H2 (if jump.isNone then .ready else .done) jump ri g' k:=by
    intro H2 jump f;obtain⟨a,σ4,r4,s4,t4⟩:=f T u σ3 N a3 w3 g3;refine⟨_,_,run_endRound jump m,rfl,?_⟩;have af:T D.l:=g6.sub _ ab;obtain⟨s5,ad⟩:=r4.sim.put af (nL m);have M:D.l<w3.heap.size:=by rw[Vd]at m;exact m.1
    have ai:=World.putObj_heap_same (w:=w3) (r:=D.l) (o:=.loop {{D.rc .ready AF with state:=.busy}with state:=if jump.isNone then .ready else .done,pending:=jump}) M;have e1:Qm (λb=>J1 D ro1 g W b/\b≠D.l) ro1 W ro2 w1:=h4.frMono λb q=>q.1;have e2:Qm (λb=>J1 D ro1 g W b/\b≠D.l) ro2 w1 ro2 w2:=y.frMono λb q=>q.2;have e3:Qm (λb=>J1 D ro1 g W b/\b≠D.l) ro2 w2 u w3:=g4.frMono λb q=>h6.sub b q.1;have e4:Qm (λb=>J1 D ro1 g W b/\b≠D.l) u w3 a w3:=YR s4;have e5:=(((e1.trans e2).trans e3).trans e4).trans (ad.frMono λb (q:J1 D ro1 g W b/\b≠D.l)=>q.2);obtain⟨q1,q2⟩:=j.fin hD e5 s5 (λb q=>g6.sub b (h6.sub b q)) (by rw[t4,g5,h5]) (st':=if jump.isNone then .ready else .done) (pe':=jump) (by rw[ai,X]);exact⟨_,q2,a,σ4,q1⟩
   cases e with
   |normal=>
    obtain rfl:x3=.normal:=g1;obtain⟨H2,f,hK⟩:=g2;obtain⟨v,k,V,rfl,g',F,a,σ4,R⟩:=z H2 AF f;exact⟨_,k,V,g',F,.inl ⟨rfl,H2,a,σ4,hK,R⟩⟩
   |exit id=>
    obtain rfl:x3=.exit id:=g1;obtain⟨H2,f,hK⟩:=g2;obtain⟨v,k,V,rfl,g',F,a,σ4,R⟩:=z H2 (AC (.exit id)) f;exact⟨_,k,V,g',F,.inr ⟨rfl,H2,_,a,σ4,.inl ⟨id,rfl,hK⟩,R⟩⟩
   |ret=>
    obtain rfl:x3=.ret:=g1;obtain⟨H2,f,hK⟩:=g2;obtain⟨v,k,V,rfl,g',F,a,σ4,R⟩:=z H2 (AC .ret) f;exact⟨_,k,V,g',F,.inr ⟨rfl,H2,_,a,σ4,.inr ⟨rfl,hK⟩,R⟩⟩
   |_=>exact g1.elim
  |exit id=>cases h1
  |ret=>cases h1
  |_=>exact h1.elim
end
theorem B9.beside{H:Qc}{w1:AJ}(s:B9 fr ro σ H w)(ev:Qm fr ro w ro w1)(a:∀b,b<w.heap.size->w1.heap[b]?=w.heap[b]?):B9 (λb=>fr b\/(w.heap.size<=b/\b<w1.heap.size)) ro σ H w1:=by
 have hext:=ev.ext0 σ;refine⟨s.len,s.roOk.to (λ_ q=>q) ev.keepRo (λb q=>Vg (s.roLt b q) ev.size),λb q=>q.elim (λq=>Vg (s.frLt b q) ev.size) (λq=>q.2),λb q r=>?_,λi b x e f g=>?_,s.inj,λi z x e f=>?_,
  s.hidTo (· = ·) Yl ev.size (by simp) (λi b x c e f g m=>m.elim id λq=>(by have:=(s.hid i b x c e f g).lt;omega)) λj d y h l p=>.inl ⟨j,y,rfl,h,l,id,λc q=>s.hidKeep h l (λz=>a d (s.own j d y h l z).1) ev.keepRo q⟩⟩
 .rcases r with r|r
  .exact s.roFr b q r
  .have:=s.roLt b q;omega
 .obtain⟨t,u,n⟩:=s.own i b x e f g
  grind
 .refine(s.blk i z x e f).keep hext ?_ ?_
  .rintro b rfl k;exact a b (s.own i b x e f k).1
  .rintro b c rfl k;exact a c (s.hid i b x c e f k).lt
theorem fx{o:Obj}{b:Nat}(a:b<w.heap.size):(w.alloc o).heap[b]?=w.heap[b]? :=by
 show(w.heap.push o)[b]?=_
 grind
theorem xh{fn:FuncId}{tmps:Array AL}{ps:Array Tmp}{assign body:Code}(g:Iu rd fr w)(n:∀b,ro b->b<w.heap.size)(i:∀b,fr b->b<w.heap.size):
  ∃l mark w1 df,(Instr.enterLoop fn tmps ps assign body rd).run P w=.ok (l,mark) w1/\w.heap.size<=l/\l<w1.heap.size/\w1.heap[l]?=AC (.loop {state:=.ready,pending:=AF,fn:=fn,tmps:=tmps,params:=ps,assign:=assign,body:=body,defers:=df})/\
   (∀b,b<w.heap.size->w1.heap[b]?=w.heap[b]?)/\mark.Nodup/\(∀d∈mark,∃D,d={target:=.collected D,args:= #[]}/\w.heap.size<=D/\D<w1.heap.size/\w1.heap[D]?=AC (.deferred (AC [])))/\Qm fr ro w ro w1:=by
 have e:∀w1,(∀b,b<w.heap.size->w1.heap[b]?=w.heap[b]?)->w.heap.size<=w1.heap.size->w1.os=w.os->w1.tape=w.tape->w1.output=w.output->w1.drawn=w.drawn->Qm fr ro w ro w1:=by
  intro w1 u s m j r y;refine⟨λ_ q=>q,(by grind),(by grind),s,λb x q=>?_,m,j,r,by omega⟩
  grind[World.shape?]
 cases rd with
 |none=>
  have a:∀b,b<w.heap.size->((w.alloc (.deferred (AC []))).alloc (.loop {state:=.ready,pending:=AF,fn:=fn,tmps:=tmps,params:=ps,assign:=assign,body:=body,defers:=w.heap.size})).heap[b]?=w.heap[b]? :=λb f=>
   (fx (by simp;omega)).trans (fx f)
  refine⟨_,_,_,w.heap.size,run_enterLoop_outer fn tmps ps assign body,by omega,by simp,?_,a,by simp,?_,e _ a (by simp;omega) rfl rfl rfl rfl⟩
  .grind[World.alloc_heap_new,World.size_alloc]
  .intro d p;obtain rfl:=VB.1 p;exact⟨_,rfl,XU _,by simp;omega,(fx (by simp)).trans (World.alloc_heap_new w _)⟩
 |some t=>
  obtain⟨_,h,k⟩:=g t rfl;have a:∀b,b<w.heap.size->(w.alloc (.loop {state:=.ready,pending:=AF,fn:=fn,tmps:=tmps,params:=ps,assign:=assign,body:=body,defers:=h.defers})).heap[b]?=w.heap[b]? :=λb f=>fx f;exact⟨_,_,_,h.defers,run_enterLoop_inner k fn tmps ps assign body,XU _,by simp,World.alloc_heap_new w _,a,List.nodup_nil,(by simp),e _ a (by simp) rfl rfl rfl rfl⟩
theorem TC.rangeFunc{P:AK}{h0 N:Nat}{ae:Operand}{ps:AA Nat}{assign body:Code}{env:Env}{H:Qc}{Q:QP}{f:FuncId}{af ad:AA A}{Hc:Qc}{T S:Type}{enc:T->AA A}{nx:AA T->T->AA T->Prop}{xs:AA T}
  (π:AA Nat)(Hp:S->Qc)(V:S->AA T->Prop)(s0:S)(hh:h0<=H.length)(hg:Bu env ae=.fn (.func f) [] af)(hargs:af=Fd (CF π H.length) ad)(hH:π.map (λp=>H[p]?)=(Hc.map (Q1 (CF π H.length))).map AC)(hπ:π.Nodup)
  (bg:(ps.all λp=>Nat.blt p N)=AE)(eg:∀args w,(callFunc f args).run P w=.ok (.enter f args) w)(aw:Zg P f ad Hc enc nx xs)(ar:∀x,(enc x).length=ps.length)
  (a4:Le H.length env (PU H π) env (Hp s0))(hV:V s0 xs)
  (al:∀s l x rem,V s l->nx l x rem->TC P H.length N assign (Zm ps (enc x) env) (Hp s) λe env1 H1=>e=.normal/\TC P H.length N body env1 H1 (o6 H.length env Q λH2=>∃s',V s' rem/\H2=Hp s'))
  (an:∀s,V s []->Q .normal env (Hp s)):TC P h0 N (.rangeFunc ae ps.toArray assign body) env H Q:=by
 intro rd fr ro σ a w r hrd;have hv:=Qn r ae;rw[hg]at hv;obtain⟨l1,E,hv,a6,av⟩:=hv;obtain rfl:l1=[]:=a6;refine wpIn_rangeFunc ?_;intro fn bh;obtain⟨l,G,w1,df,he,hl,be,ax,a1,a3,ah,aa⟩:=xh (P:=P) (fn:=fn) (tmps:=a.tmps) (ps:=ps.toArray) (assign:=assign) (body:=body) (ro:=ro) hrd r.sim.roLt r.sim.frLt;have s1:=r.sim.beside aa a1
 let D:Pg:=⟨fr,ro,σ,w,H.length,env,a.tmps,G++a.defers,l,(λst pe=>{state:=st,pending:=pe,fn:=fn,tmps:=a.tmps,params:=ps.toArray,assign:=assign,body:=body,defers:=df}),(λb=>fr b\/(w.heap.size<=b/\b<w1.heap.size))⟩
 have ag:¬fr l:=λq=>by have:=r.sim.frLt l q;omega
 have hD:D.Ok:=⟨λb q=>.inl q,.inr ⟨hl,be⟩,ag,r.sim.len⟩;have M:Kw D.fr1 (G++a.defers) w1:=by
  refine⟨List.nodup_append.2 ⟨a3,r.defers.1,λd R d' bb e=>?_⟩,λd R=>?_⟩
  .subst e;obtain⟨B,e1,e2,_⟩:=ah d R;obtain⟨B',aq,a8,_⟩:=r.defers.2 d bb;rw[e1]at aq;have:B=B':=by simpa using aq
   subst this;have:=r.sim.frLt B a8;omega
  .rcases VD.1 R with R|R
   .obtain⟨B,e1,e2,e3,e4⟩:=ah d R;exact⟨B,e1,.inr ⟨e2,e3⟩,e4⟩
   .obtain⟨B,e1,e2,e3⟩:=(r.defers.keep aa).2 d R;exact⟨B,e1,.inl e2,e3⟩
 obtain⟨sp,hσc⟩:=s1.part hH hπ;have ai:LR ro (Yz σ π) w1 ad E:=(Mx hσc).1 (hargs▸av.mono (aa.ext0 σ))
 let frX:Nat->Prop:=λb=>D.fr1 b\/(∃(j:Nat) (x:B8),(Yz σ π)[j]?=AC (AC b)/\Hc[j]?=AC x/\x.live=AE)\/ ∃(j:Nat) (x:B8) (d:Nat),(Yz σ π)[j]?=AC (AC d)/\Hc[j]?=AC x/\De w1 x d b
 have sX:B9 frX ro σ (PU H π) w1:=by
  refine(mw π s1).frames (λb q=>?_) (λb q r=>?_) (λi b x n m k r=>?_) (λi b x c n m k r=>?_)
  .rcases q with q|⟨j,x,n,m,k⟩|⟨j,x,d,n,m,k⟩
   .exact s1.frLt b q
   .exact(sp.own j b x n m k).1
   .exact(sp.hid j d x b n m k).lt
  .rcases r with r|⟨j,x,n,m,k⟩|⟨j,x,d,n,m,k⟩
   .exact s1.roFr b q r
   .exact(sp.own j b x n m k).2.1 q
   .exact(sp.hid j d x b n m k).ro q
  .rcases mW _ _ _ _ m with rfl|⟨m,hi⟩
   .cases k
   .rcases r with r|⟨j,y,p1,Y,p3⟩|⟨j,y,d,p1,Y,p3⟩
    .exact(s1.own i b x n m k).2.2 r
    .exact(sp.own j b y p1 Y p3).2.2 (.inr (.inl ⟨i,x,n,m,k,hi (nV k)⟩))
    .exact(sp.hid j d y b p1 Y p3).fr (.inr (.inl ⟨i,x,n,m,k,hi (nV k)⟩))
  .rcases mW _ _ _ _ m with rfl|⟨m,hi⟩
   .exact k.elim
   .rcases r with r|⟨j,y,p1,Y,p3⟩|⟨j,y,d,p1,Y,p3⟩
    .exact(s1.hid i b x c n m k).fr r
    .exact(sp.own j c y p1 Y p3).2.2 (.inr (.inr ⟨i,x,b,n,m,k,hi k.holds⟩))
    .exact(sp.hid j d y c p1 Y p3).fr (.inr (.inr ⟨i,x,b,n,m,k,hi k.holds⟩))
 have rX:C0 frX ro σ (PU H π) env N {a with defers:=G++a.defers} w1:=
  ⟨sX,λs=>(r.env s).mono (aa.ext0 σ),r.size,M.1,λd R=>let⟨B,e1,e2,e3⟩:=M.2 d R;⟨B,e1,.inl e2,e3⟩⟩
 obtain⟨ac,σ',r',ab,a9⟩:=a4 frX ro σ N _ w1 rX;have hσt:σ.take H.length=σ:=by rw[<- r.sim.len,Va]
 let g0:Nat->Prop:=λb=>D.fr1 b\/(ac b/\ ¬ro b)\/(∃(i:Nat) (x:B8),σ'[i]?=AC (AC b)/\(Hp s0)[i]?=AC x/\x.live=AE)\/ ∃(i:Nat) (x:B8) (d:Nat),σ'[i]?=AC (AC d)/\(Hp s0)[i]?=AC x/\De w1 x d b
 have j0:RJ D ac σ' (Hp s0) .ready AF ro g0 w1:=by
  refine⟨r'.sim.frMono λb q=>.inl q,λt=>(r.env t).mono ⟨ab,aa.keepRo,aa.shape,λ_ _ q=>q⟩,a9.trans hσt,aa.trans (YR ab),M,ax,λb q=>?_,λb q=>.inl q,λi b x n m k=>.inr (.inr (.inl ⟨i,x,n,m,k⟩)),λi b x c n m k=>.inr (.inr (.inr ⟨i,x,b,n,m,k⟩)),λb q=>?_⟩
  .by_cases z:ro b
   .exact .inl z
   .exact .inr (.inr (.inl ⟨q,z⟩))
  .rcases q with q|q|⟨i,x,n,m,k⟩|⟨i,x,d,n,m,k⟩
   .exact s1.frLt b q
   .exact r'.sim.roLt b q.1
   .exact(r'.sim.own i b x n m k).1
   .exact(r'.sim.hid i d x b n m k).lt
 have sI:B9 g0 ro (Yz σ π) Hc w1:=by
  refine sp.frames (λb q=>j0.lt b q) (λb q z=>?_) (λj b x n m k z=>?_) (λj b x c n m k z=>?_)
  .rcases z with z|z|⟨i,x,n,m,k⟩|⟨i,x,d,n,m,k⟩
   .exact s1.roFr b q z
   .exact z.2 q
   .exact(r'.sim.own i b x n m k).2.1 (ab b q)
   .exact(r'.sim.hid i d x b n m k).ro (ab b q)
  .have hX:frX b:=.inr (.inl ⟨j,x,n,m,k⟩);rcases z with z|z|⟨i,y,p1,Y,p3⟩|⟨i,y,d,p1,Y,p3⟩
   .exact(sp.own j b x n m k).2.2 (.inl z)
   .exact r'.sim.roFr b z.1 hX
   .exact(r'.sim.own i b y p1 Y p3).2.2 hX
   .exact(r'.sim.hid i d y b p1 Y p3).fr hX
  .have hX:frX c:=.inr (.inr ⟨j,x,b,n,m,k⟩);rcases z with z|z|⟨i,y,p1,Y,p3⟩|⟨i,y,d,p1,Y,p3⟩
   .exact(sp.hid j b x c n m k).fr (.inl z)
   .exact r'.sim.roFr c z.1 hX
   .exact(r'.sim.own i c y p1 Y p3).2.2 hX
   .exact(r'.sim.hid i d y c p1 Y p3).fr hX
 let X:FS T:={l:=l,J:=λrem q g W=>∃s F σ1,V s rem/\RJ D F σ1 (Hp s) .ready AF q g W,Jx:=λ_ q g W=>∃H2 c F σ1,bG Q env c H2/\RJ D F σ1 H2 .done (AC c) q g W,enc:=enc,nx:=nx}
 have au:∀p∈ps,p<N:=λp hp=>by simpa using Xu.1 bg p hp
 have hX:X.ok P:=by
  refine⟨⟨λrem q g W W' ac ⟨s,F,σ1,L,O⟩ he=>⟨s,F,σ1,L,O.step hD he⟩,λrem q g g' W ⟨s,F,σ1,L,O⟩ hg hl=>⟨s,F,σ1,L,O.up hg hl⟩⟩,
   ⟨λrem q g W W' ac ⟨H2,c,F,σ1,L,O⟩ he=>⟨H2,c,F,σ1,L,O.step hD he⟩,λrem q g g' W ⟨H2,c,F,σ1,L,O⟩ hg hl=>⟨H2,c,F,σ1,L,O.up hg hl⟩⟩,?_⟩
  rintro lr x rem q g ri W vs bc ⟨s,F,σ1,L,O⟩ hq hI bd;obtain⟨ba,tm,a2,a7,y1,y2⟩:=RJ.round (D:=D) (Q:=Q) (K:=λH2=>∃s',V s' rem/\H2=Hp s') hD rfl r.size au (ar x) hq hI bd O (al s lr x rem L bc);refine⟨ba,tm,a2,a7,y1,RoundIn.mono y2 ?_⟩;rintro e W' ⟨g',k1,k2⟩;refine⟨g',ri,λ_ z=>z,k1,?_⟩;rcases k2 with⟨rfl,H2,u,σ2,⟨s',a5,rfl⟩,k3⟩|⟨rfl,H2,c,u,σ2,k3,k4⟩
  .exact .inl ⟨rfl,s',u,σ2,a5,k3⟩
  .exact .inr ⟨rfl,H2,c,u,σ2,k3,k4⟩
 have az:∀(ev:Operand->AL),ev ae=.func (.func f) #[] E.toArray->ev (.const (.func (.yield l) #[] #[]))=.func (.yield l) #[] #[]->(resolve ev (rangeCall ae l) 0).run P w1=.ok {target:=.fn (.func f) E.toArray,args:= #[.func (.yield l) #[] #[]]} w1:=by
  intro ev L O;simp[resolve,go_sem,L,O]
 refine⟨l,G,w1,{target:=.fn (.func f) E.toArray,args:= #[.func (.yield l) #[] #[]]},w1,f, #[.func (.yield l) #[] #[]]++E.toArray,w1,he,az a.eval hv rfl,λ_ _=>trivial,by simp[invoke,go_sem,eg],λh=>by simp[WF,Fence.wide]at h,?_⟩;refine WF.calls.2 ?_;have aj:=aw X rfl rfl hX g0 ro (Yz σ π) w1 E ro sI (λ_ z=>z) ai ⟨s0,ac,σ',hV,j0⟩;have ak:(#[.func (.yield l) #[] #[]]++E.toArray:Array AL)=((Value.func (.yield X.l) #[] #[]::E)).toArray:=by simp[X]
 rw[ak];refine Calls.mono aj ?_;rintro e W' ⟨⟨v,rfl⟩,g2,qz,bi,a0⟩;have fin:∀(H2:Qc) (st:LoopState) (pe:AB Code) (u:Nat->Prop) (σ2:CD),st≠ .busy->RJ D u σ2 H2 st pe qz g2 W'->∃w4,(Instr.endLoop l).run P W'=.ok pe w4/\C0 D.fr1 u σ2 H2 env N {a with defers:=G++a.defers} w4/\Qm fr ro w u w4:=by
  intro H2 st pe u σ2 hst j;refine⟨_,run_endLoop j.rc (by exact hst),?_⟩;obtain⟨s5,am⟩:=j.sim.put (obj:=.loop {(D.rc st pe)with state:=.exhausted}) hD.l1 (nL j.rc);have hr:=j.rc;refine⟨⟨s5,λt=>((j.env t).mono ⟨λ_ q=>q,λ_ _=>rfl,λ_ _ q=>q,λi b q=>tf j.sig q⟩).mono (am.ext0 σ2),r.size,j.marks.1,λd R=>?_⟩,j.ev.trans (am.frMono λb q e=>ag (by have e':b=l:=e;rw[<- e'];exact q))⟩;obtain⟨B,e1,e2,e3⟩:=j.marks.2 d R;refine⟨B,e1,e2,(am.keepFr B (λe=>?_)).trans e3⟩;subst e;rw[hr]at e3;cases e3
 have ay:Cw fr w a.defers D.fr1 (G++a.defers):=by
  refine⟨λb q=>.inl q,λb q=>q.imp id (λq=>q.1),λd R=>?_⟩;rcases VD.1 R with R|R
  .obtain⟨B,e1,e2,_⟩:=ah d R;exact .inr ⟨B,e1,e2⟩
  .exact .inl R
 have ao:∀{σ2:CD},σ2.take H.length=σ->σ2.take h0=σ.take h0:=by
  intro σ2 h;have:=congrArg (List.take h0) h
  rwa [List.take_take,XC hh]at this
 rcases a0 with⟨s,u,σ2,L,O⟩|⟨rem,H2,c,u,σ2,L,O⟩
 .obtain⟨w4,f1,f2,f3⟩:=fin _ _ _ u σ2 (by intro e;cases e) O;exact⟨AF,w4,f1,.normal,env,_,u,σ2,_,rfl,an s L,f2,f3,ao O.sig,ay⟩
 .obtain⟨w4,f1,f2,f3⟩:=fin _ _ _ u σ2 (by intro e;cases e) O;refine⟨AC c,w4,f1,?_⟩;have hc:TC P h0 N c env H2 Q:=by
   rcases L with⟨id,rfl,L⟩|⟨rfl,L⟩
   .exact TC.exit L
   .exact TC.ret L
  exact Code.wpIn_mono (λe a w q=>q.grow f3 (ao O.sig) ay) (hc rd D.fr1 u σ2 _ w4 f2 (hrd.to f3 λb q=>.inl q))
section
variable {P:AK} {T:Type} {ts tq te k tm:Nat} {g:FuncId} {es:AA (A×A)} {e:T->AA A} {ea:T->A} {xs:AA T}
end
variable {h0:Nat}
theorem Cs.le{T:Type}{X:FS T}{c:Code}{env env':Env}{H:Qc}{l:HE T}{Q:YV T}(i:Le h0 env H env' H')(h:Cs X P h0 N c env' H' l Q):Cs X P h0 N c env H l Q:=by
 intro n y k m σ a w g r hj hrd;obtain⟨f,σ',x,s,t⟩:=i k m σ N a w r;obtain⟨⟨p,u,j⟩,d⟩:=hj;exact Code.wpIn_mono (λe a w q=>q.grow s (XU _) t (Cw.refl _ _ _)) (h n y k f σ' a w g x ⟨⟨p,(by grind),j⟩,d⟩ hrd)
variable {y:Operand}
theorem ym{o:AM}{env:Env}{H:Qc}{z:Operand}{l:Nat}{a:A}{m:Array TypeId}(k:o.op=.call {callee:=.value y,args:= #[z],argTypes:=m})(f:Bu env y=.fn (.yield l) [] [])(g:Bu env z=a)(h:YH a=AE):
  ∀fr ro σ act w,C0 fr ro σ H env N act w->∃vs:AA AL,LR ro [] w [a] vs/\(execOp act.eval o).run P w=(Instr.yield l vs.toArray).run P w:=by
 intro fr ro σ act w r;have d:=Qn r y;rw[f]at d;obtain⟨i,p,d,j,n⟩:=d;obtain rfl:i=[]:=j;have e:=Qn r z;rw[g]at e;refine⟨[act.eval z],⟨_,_,rfl,VR.data h e,rfl⟩,?_⟩;generalize act.eval=ev at*;simp[execOp,k,invoke,go_sem,d]
theorem zD{o:AM}{env:Env}{H:Qc}{a d:Operand}{l:Nat}{k g:A}{u:Array TypeId}(s:o.op=.call {callee:=.value y,args:= #[a,d],argTypes:=u})(p:Bu env y=.fn (.yield l) [] [])(j:Bu env a=k)(h:Bu env d=g)(i:YH k=AE)(f:YH g=AE):
  ∀fr ro σ act w,C0 fr ro σ H env N act w->∃vs:AA AL,LR ro [] w [k,g] vs/\(execOp act.eval o).run P w=(Instr.yield l vs.toArray).run P w:=by
 intro fr ro σ act w r;have e:=Qn r y;rw[p]at e;obtain⟨t,z,e,q,x⟩:=e;obtain rfl:t=[]:=q;have n:=Qn r a;rw[j]at n;have m:=Qn r d;rw[h]at m;refine⟨[act.eval a,act.eval d],⟨_,_,rfl,VR.data i n,_,_,rfl,VR.data f m,rfl⟩,?_⟩;generalize act.eval=ev at*;simp[s,invoke,go_sem,e]
section
variable {P:AK} {K V:Type} {tm tb ty tk kt et:Nat} {ek:K->A} {ev:V->A} {m:AA (K×V)} {T:Type}
end
variable {b1 b2 m t:Nat}{es:AA (AA A)}
section
variable {P:AK} {o:AM} {env:Env} {H:Qc} {fr ro:Nat->Prop} {σ:CD} {w:AJ}
theorem yA{e i:Nat}{l:AA Ce}(hH:H[i]?=AC (.rowr t 3 es))(he:l.map (eC b1 b2)=es):Le e env H env (H.set i (.ents t b1 b2 l)):=by
 subst he;intro f d σ N a w r;refine⟨d,σ,⟨r.sim.weaken hH rfl ?_,r.env,r.size,r.defers⟩,λ_ q=>q,rfl⟩;intro y h;cases y with
 |none=>exact h.elim
 |some b=>exact h
theorem aF{b1 b2:Nat}:∀(l:AA Ce),allK 3 (l.map (eC b1 b2))
 |[]=>trivial
 |e::l=>⟨rfl,aF l⟩
theorem B9.phantomE(s:B9 fr ro σ H w)(t b1 b2:Nat):B9 fr ro (σ++[AF]) (H++[.ents t b1 b2 []]) w:=by
 have ext:Cx ro σ w ro (σ++[AF]) w:=⟨λ_ q=>q,λ_ _=>rfl,λ_ _ q=>q,λ_ _ h=>UV h⟩;have G:=s.len;have a:∀(j:Nat) (v:B8),(H++[B8.ents t b1 b2 []])[j]?=AC v->(j<H.length/\H[j]?=AC v)\/(j=H.length/\v=.ents t b1 b2 []):=by
  intro j v h;rcases Nat.lt_trichotomy j H.length with q|q|q
  .rw[XN q]at h;exact .inl ⟨q,h⟩
  .subst q;simp at h;exact .inr ⟨rfl,h.symm⟩
  .rw[XP (by simp;omega)]at h;cases h
 have hσ:∀(j:Nat) (z:AB Nat),(σ++[AF])[j]?=AC z->(j<σ.length/\σ[j]?=AC z)\/(j=σ.length/\z=AF):=by
  intro j z h;rcases Nat.lt_trichotomy j σ.length with q|q|q
  .rw[XN q]at h;exact .inl ⟨q,h⟩
  .subst q;simp at h;exact .inr ⟨rfl,h.symm⟩
  .rw[XP (by simp;omega)]at h;cases h
 refine⟨by simp[G],s.roOk,s.frLt,s.roFr,λi b x k g m=>?_,λi j b x y k g m E F B=>?_,λi z x k g=>?_,
  s.hidTo (· = ·) Yl (XU _) (λ_ _ _ _ _ _ _ q=>q) (λ_ _ _ _ _ _ _ q=>q) λj d y u L M=>.inl ?_⟩
 rotate_left 3
 .rcases hσ j _ u with⟨l,f⟩|⟨_,r⟩
  .rcases a j y L with⟨_,e⟩|⟨e,_⟩
   .exact⟨j,y,rfl,f,e,id,λ_ q=>q⟩
   .omega
  .cases r
 .rcases hσ i _ k with⟨l,f⟩|⟨_,r⟩
  .rcases a i x g with⟨_,e⟩|⟨e,_⟩
   .exact s.own i b x f e m
   .omega
  .cases r
 .rcases hσ i _ k with⟨l,f⟩|⟨_,r⟩
  .rcases hσ j _ g with⟨J,n⟩|⟨_,r⟩
   .rcases a i x m with⟨_,e⟩|⟨e,_⟩
    .rcases a j y E with⟨_,p⟩|⟨p,_⟩
     .exact s.inj i j b x y f n e p F B
     .omega
    .omega
   .cases r
  .cases r
 .rcases hσ i _ k with⟨l,f⟩|⟨l,rfl⟩
  .rcases a i x g with⟨_,e⟩|⟨e,_⟩
   .exact(s.blk i z x f e).keep ext (λ_ _ _=>rfl) (λ_ _ _ _=>rfl)
   .omega
  .rcases a i x g with⟨e,_⟩|⟨_,rfl⟩
   .omega
   .rfl
theorem Le.phantomE{h0 i m t T b1 b2:Nat}{d:AA A}(B:Nat.ble h0 H.length=AE)(hH:H[i]?=AC (.cells T d))(f:d[m]?=AC .nils):
  Le h0 env H env (H.set i (.cells T (d.set m (.osl H.length 0 0 3)))++[.ents t b1 b2 []]):=by
 intro F g σ N a w r;have hh':=XS B;have hi:=(XM.1 hH).1;have ext:Cx g σ w g (σ++[AF]) w:=⟨λ_ q=>q,λ_ _=>rfl,λ_ _ q=>q,λ_ _ h=>UV h⟩;have s:=r.sim.phantomE t b1 b2;have e:(H++[B8.ents t b1 b2 []])[i]?=AC (.cells T d):=by rw[XN hi];exact hH
 have x:H.set i (.cells T (d.set m (.osl H.length 0 0 3)))++[.ents t b1 b2 []]=(H++[B8.ents t b1 b2 []]).set i (.cells T (d.set m (.osl H.length 0 0 3))):=by
  rw[List.set_append_left _ _ hi]
 rw[x];refine⟨g,σ++[AF],⟨s.weaken e rfl ?_,λq=>(r.env q).mono ext,r.size,r.defers⟩,λ_ q=>q,QH (by rw[r.sim.len];exact hh')⟩;intro y h;cases y with
 |none=>exact h
 |some b=>
  obtain⟨l,n,E,u⟩:=h;refine⟨l,n,?_,u⟩;clear n u e x hH
  induction d generalizing m l with
  |nil=>cases f
  |cons c d z=>
   obtain⟨v,j,rfl,k,p⟩:=E;cases m with
   |zero=>
    simp at f;subst f;exact⟨v,j,rfl,.inl ⟨rfl,k⟩,p⟩
   |succ m=>exact⟨v,j,rfl,k,z (by simpa using f) j p⟩
theorem QZ{i T:Nat}{d:AA A}(hH:H[i]?=AC (.cells T d)):Le h0 env H env (H.set i (.cells T (d.set m .any))):=by
 intro t n σ N a w r;refine⟨n,σ,⟨r.sim.weaken hH rfl ?_,r.env,r.size,r.defers⟩,λ_ q=>q,rfl⟩;intro y h;cases y with
 |none=>exact h
 |some b=>
  obtain⟨l,f,k,j⟩:=h;refine⟨l,f,?_,j⟩;clear f j hH
  induction d generalizing m l with
  |nil=>exact k
  |cons c d s=>
   obtain⟨v,e,rfl,p,g⟩:=k;cases m with
   |zero=>exact⟨v,e,rfl,trivial,g⟩
   |succ m=>exact⟨v,e,rfl,p,s e g⟩
theorem U9{j:Nat}{l:AA Ce}{v:AL}(s:B9 fr ro σ H w)(hH:H[j]?=AC (.ents t b1 b2 l))(e:l.length=m)(h:VR ro σ w (.osl j 0 m 3) v):
  (∃a c,v=.slice a m c)/\ ∃vs:AA AL,(∀w',w'.heap=w.heap->(Builtin.firstCells 3 m v).run P w'=.ok vs.toArray w')/\LR ro σ w (l.map (eC b1 b2)).flatten vs/\ ∀v∈vs,QB v:=by
 rcases h with⟨rfl,rfl⟩|⟨b,p,d,L,J,u,rfl,q,⟨F,y⟩,E,G⟩
 .have:=VJ.1 e;subst this;exact⟨⟨AF,0,rfl⟩,[],λ_ _=>YS,rfl,by simp⟩
 .refine⟨⟨_,d,rfl⟩,?_⟩;obtain⟨M,g,i⟩:=s.blk j _ _ u hH;have z:=YD (pre:=[]) (by simpa using g) i;by_cases x:0<d
  .obtain rfl:=q x;obtain⟨r,B,f⟩:=z.flat;have:=aO (P:=P) (k:=3) (n:=m) (c:=d) r (by rw[f];simp[e]);simpa using this
  .obtain rfl:m=0:=by omega
   have:=VJ.1 e;subst this;exact⟨[],λ_ _=>YS,rfl,by simp⟩
theorem wW{c:Call}{T T' e' i j n:Nat}{x:Operand}{l k:AA Ce}(E:Yg P T t 3)(hd:∀w,(underlying T').run P w=.ok (.slice e') w)(G:Nat.ble (l.length+k.length) Yn=AE)(ab:Nat.blt 0 n=AE)
  (ho:o.op=.call c:=by rfl)(hc:c={callee:=.builtin .append,args:= #[x,y],argTypes:= #[T,T']}:=by rfl)(hx:Bu env x=.osl i 0 n 3:=by rfl)(hH:H[i]?=AC (.ents t b1 b2 l):=by rfl)(hn:l.length=n:=by rfl)
  (Q:Bu env y=.osl j 0 m 3:=by rfl)(hHj:H[j]?=AC (.ents t b1 b2 k):=by rfl)(hm:k.length=m:=by rfl):
  Do P o env H (.osl H.length 0 (l++k).length 3) (H.set i .dead++[.ents t b1 b2 (l++k)]):=by
 intro fr s σ N a w r;have M:=XS G;have ai:0<n:=by simpa using ab
 have z:=Qn r x;rw[hx]at z;have h2:=Qn r y;rw[Q]at h2;obtain⟨⟨ay,cy,V⟩,vs,q3,q4,L⟩:=U9 (P:=P) r.sim hHj hm h2;rw[V]at q3;obtain⟨_,d,o1,o2,o3⟩:=U9 (P:=P) r.sim hH hn z;have ae:i<H.length:=(XM.1 hH).1;rw[X4,hn,hm];rcases z with⟨q,_⟩|⟨b,p,cap,t',mm,h3,z,h4,⟨h5,X⟩,h6,h7⟩
 .omega
 have F:=r.sim.blk i _ _ h3 hH;obtain⟨lb,R,g2⟩:=F;have u:vs.length=m*3:=by rw[q4.length,Ys (aF k)];simp[hm]
 have aa:d.length=n*3:=by rw[o2.length,Ys (aF l)];simp[hn]
 rw[z]at o1;by_cases f:n+m<=cap
 .obtain rfl:p=0*3:=h4 (by omega);have g:=aU (t:=o.type) E hd (ad:=AC ⟨b,0*3,AF⟩) (n:=n) (m:=m) (cap:=cap) (c:=cy) (ax:=ay) f (q3 w rfl);have B:(n+m)*3<=lb.length:=by
   have:w.shape? b=AC (t,lb.length):=by unfold World.shape?;rw[R];simp
   rw[this]at h6;cases h6;exact XW (XD 3 f) (by simpa using h7)
  rw[XB]at B;have ah:=Yb (P:=P) (vs:=vs) (n*3) 0 R (by rw[u];simpa using B) L;have h:=r.sim.set (x':=.ents t b1 b2 (l++k)) h3 hH rfl
   (λy Q=>Jq R (Ya (by rw[u];exact B)) y Q)
   (λex Y=>⟨_,Y,by
    have:=(g2.app (n:=n) (by simp[hn]) (aF k) q4 L).mono ex;rw[VI (by simp[hn])]at this;rw[Xf];exact this⟩)
  have sm:=h.1.moved (i:=i) (Xa ae) h3;rw[List.set_set]at sm;refine⟨.slice (AC ⟨b,0*3,AF⟩) (n+m) cap,_,s,[AC b],?_,.inr ⟨b,0*3,cap,t',mm,?_,rfl,h4,⟨f,X⟩,?_,h7⟩,sm,h.2⟩
  .refine YN ho hc _ ?_;rw[z,V,g];simp only[Jz,Nat.zero_mul,Xx,Vn,ah,Result.andThen,Vp];simp
  .rw[<- r.sim.len];simp
  .exact h.2.shape _ _ h6
 .obtain⟨e,nc,W,ac,g⟩:=mh (t:=o.type) E hd rfl (by omega) (by omega) q3 o1
  let w0:AJ:={w with drawn:=w.drawn+1}
  have J:B9 fr s σ (H.set i .dead) w0:=(r.sim.kill i).heap rfl;have e0:Qm fr s w s w0:=Qm.heap rfl rfl rfl rfl (Nat.le_succ _);have ag:LR s σ w0 ((l++k).map (eC b1 b2)).flatten (d++vs):=by
   rw[Xf,Xt];exact(o2.append q4).mono (Cx.heap (w:=w) (w':=w0) rfl)
  have O:∀v∈d++vs,QB v:=λv hv=>by rcases VD.1 hv with q|q;exact o3 v q;exact L v q
  have s1:=J.alloc (x:=.ents t b1 b2 (l++k)) (obj:=.cells ((d++vs)++e).toArray t) ⟨(d++vs)++e,Q9 _ _,(Y9 (aF _) ag O).mono ((Qm.alloc (fr:=fr) _ J.roLt J.frLt).ext σ _)⟩;have af:Qm fr s w0 s (w0.alloc (.cells ((d++vs)++e).toArray t)):=Qm.alloc _ J.roLt J.frLt;refine⟨_,_,s,[AC w.heap.size],YN ho hc a.eval (by rw[z,V];exact g),.inr ⟨w.heap.size,0,nc,t,(d++vs++e).length,?_,rfl,λ_=>by simp,W,?_,?_⟩,s1,e0.trans af⟩
  .rw[<- r.sim.len];simp
  .have:=Q9 w0 (.cells ((d++vs)++e).toArray t);unfold World.shape?;rw[show w.heap.size=w0.heap.size from rfl,this];simp
  .simp only[X4,ac,aa,u,Xx];omega
theorem sR{c:Call}{T T' e' i j n:Nat}{x:Operand}{d e r:AA Ce}(h:app d e=AC r)(E:Yg P T t 3)(k:∀w,(underlying T').run P w=.ok (.slice e') w)(a:Nat.blt 0 n=AE)
  (g:o.op=.call c:=by rfl)(hc:c={callee:=.builtin .append,args:= #[x,y],argTypes:= #[T,T']}:=by rfl)(hx:Bu env x=.osl i 0 n 3:=by rfl)(hH:H[i]?=AC (.ents t b1 b2 d):=by rfl)(hn:d.length=n:=by rfl)
  (hy:Bu env y=.osl j 0 m 3:=by rfl)(hHj:H[j]?=AC (.ents t b1 b2 e):=by rfl)(hm:e.length=m:=by rfl):
  Do P o env H (.osl H.length 0 r.length 3) (H.set i .dead++[.ents t b1 b2 r]):=by
 obtain⟨f,rfl⟩:=eH h;exact wW E k (XT f) a g hc hx hH hn hy hHj hm
theorem DP.ents{i a t e f b1 b2:Nat}{l:AA Ce}{x:Ce}{d:AA A}(he:l[e]?=AC x)(hH:H[i]?=AC (.ents t b1 b2 l):=by rfl)(ho:a=e*3+f:=by rfl)(hcs:(eC b1 b2 x).drop f=d:=by rfl):DP H (.ptr i a) d:=by
 intro q p σ w v s h;obtain⟨b,n,m⟩:=h;obtain⟨r,j,k⟩:=s.blk i _ _ n hH;have g:(l.map (eC b1 b2))[e]?=AC (eC b1 b2 x):=by rw[Xp,he];rfl
 have:=((YD (pre:=[]) (by simpa using j) k).get e g).2.drop f;refine⟨b,a,m,?_⟩;rw[<- hcs,ho];simpa using this
def MA(cs:AA A)(s:Int)(e:Ce):AB Int:=bif e.fl then(bif e.off==0 then AC s else AF)else match cs[e.off]? with
 |some (.int .i64 v)=>AC v
 |_=>AF
def Ra{F:Type}(put:F->Nat->Int->AB F)(x:F)(s:Int)(e:Ce)(v:Int):AB (F×Int):=
 bif e.fl then(bif e.off==0 then AC (x,v)else AF)else(put x e.off v).map λy=>(y,s)
abbrev Mp(b1 b2:Nat)(e:Ce):A:=.ptr (bif e.fl then b2 else b1) e.off
theorem xg{l:AA A}{i:Nat}{a:A}(h:l[i]?=AC a):∃r,l.drop i=a::r:=by
 obtain⟨d,rfl⟩:=XM.1 h;exact⟨_,Xq d⟩
theorem fv{T1 T2:Nat}{x:Operand}{e:Ce}{g:AA A}{s v:Int}(h:MA g s e=AC v)(j:∀w,(isAgg t).run P w=.ok AD w)(i:o.op=.load t x:=by rfl)(hx:Bu env x=Mp b1 b2 e:=by rfl)
  (h1:H[b1]?=AC (.cells T1 g):=by rfl)(h2:H[b2]?=AC (.cells T2 [.int .i64 s]):=by rfl):Bz P o env H (.int .i64 v):=by
 unfold MA at h;unfold Mp at hx;cases l:e.fl with
 |true=>
  rw[l]at h hx;cases d:e.off==0 with
  |false=>rw[d]at h;cases h
  |true=>
   rw[d]at h;have e0:=by simpa using d
   rw[e0]at hx;have hv:=by simpa using h
   subst hv;exact Bz.load i j hx (DP.cells h2 rfl)
 |false=>
  rw[l]at h hx;cases f:g[e.off]? with
  |none=>rw[f]at h;cases h
  |some a=>
   rw[f]at h;obtain⟨r,m⟩:=xg f;cases a with
   |int k n=>
    cases k<;>first|(cases h;exact Bz.load i j hx (DP.cells h1 m))|cases h
   |_=>cases h
theorem z9{l:AA A}{i:Nat}{a:A}(h:i<l.length):splice l i [a]=l.set i a:=by
 unfold splice;rw[List.set_eq_take_append_cons_drop,Vu h];simp
theorem rS{i:Nat}{b:B8}(h:H[i]?=AC b):H.set i b=H:=by
 apply List.ext_getElem?;intro j;rw[Xb];by_cases e:i=j
 .subst e;rw[Vu rfl,Vu (XM.1 h).1,h]
 .rw[Vt e]
theorem zq{F:Type}{c:F->AA A}{put:F->Nat->Int->AB F}{T1 T2:Nat}{x:Operand}{e:Ce}{f f':F}{s s' v:Int}(h:Ra put f s e v=AC (f',s'))(a:∀x o v y,put x o v=AC y->c y=(c x).set o (.int .i64 v)/\o<(c x).length)
  (k:∀w,(sizeOf t).run P w=.ok 1 w)(n:o.op=.store t x y:=by rfl)(hx:Bu env x=Mp b1 b2 e:=by rfl)(h1:H[b1]?=AC (.cells T1 (c f)):=by rfl)(h2:H[b2]?=AC (.cells T2 [.int .i64 s]):=by rfl)(hy:Bu env y=.int .i64 v:=by rfl)
  (hb:Nat.beq b1 b2=false:=by rfl):Hx P o env H ((H.set b1 (.cells T1 (c f'))).set b2 (.cells T2 [.int .i64 s'])):=by
 have i:b1≠b2:=λq=>by subst q;rw[VF]at hb;cases hb
 unfold Ra at h;unfold Mp at hx;cases l:e.fl with
 |true=>
  rw[l]at h hx;cases j:e.off==0 with
  |false=>rw[j]at h;cases h
  |true=>
   rw[j]at h;have e0:=by simpa using j
   rw[e0]at hx;obtain⟨rfl,rfl⟩:f=f'/\v=s':=by simpa using h
   rw[rS h1];exact Hx.store n hx h2 k hy rfl rfl rfl rfl rfl rfl
 |false=>
  rw[l]at h hx;cases d:put f e.off v with
  |none=>rw[d]at h;cases h
  |some g=>
   rw[d]at h;obtain⟨rfl,rfl⟩:g=f'/\s=s':=by simpa using h
   obtain⟨p,m⟩:=a _ _ _ _ d;have r:(H.set b1 (.cells T1 (c g)))[b2]?=AC (.cells T2 [.int .i64 s]):=by rw[XQ i];exact h2
   rw[rS r];exact Hx.store (vs:=[.int .i64 v]) n hx h1 k hy rfl rfl rfl rfl (XT m) (by rw[z9 m,p])
end
section
variable {P:AK} {h0 N:Nat} {A B C:Code} {env:Env} {H:Qc} {Q:QP}
theorem wh{S B1:Type}{b:Bn S B1}(Eb:S->Env)(Hb:S->Qc)(h:TC P h0 N A env H (PF P h0 N B (PP h0 b Eb Hb (PF P h0 N C Q))))(k:∀s env H,b=.k s->Le h0 env H (Eb s) (Hb s)->PF P h0 N C Q .normal env H):TC P h0 N (.seq A (.seq B C)) env H Q:=by
 refine TC.seq (h.mono λx env' H' q=>?_);cases x with
 |normal=>exact TC.seq (qV Eb Hb q k)
 |exit id=>exact q
 |ret=>exact q
end
variable {k:Nat}
section
variable {P:AK} {o:AM} {env:Env} {H:Qc}
theorem sy{f g:Nat->AB (Nat×Nat)}:∀(parts:AA (Nat×AL)) (cs:Array AL),(∀p∈parts,f p.1=g p.1)->Instr.fill f cs parts=Instr.fill g cs parts
 |[],cs,_=>rfl
 |(i,v)::rest,cs,h=>by
  unfold Instr.fill;rw[h (i,v) (by simp)];have ih:=λcs=>sy rest cs (λp hp=>h p (by simp[hp]));cases g i with
  |none=>rfl
  |some p=>
   simp;split
   .rfl
   .exact ih _
theorem JV{e n:Nat}{z:AL}{zs f:AA A}{parts:AA (Nat×Operand)}(m:∀w,(zeroValue t).run P w=.ok z w)(G:ZR (.agg zs) z)(x:∀w,(underlying t).run P w=.ok (.array n e) w)(s:∀w,(sizeOf e).run P w=.ok k w)
  (j:(parts.all λp=>Nat.blt p.1 n)=AE)(B:o.op=.build t parts.toArray:=by rfl)(hf:PT env ((List.range n).map λi=>(i*k,k)) zs parts=AC f:=by rfl):Bz P o env H (.agg f):=by
 intro L g σ N a w r;obtain⟨l,rfl,u⟩:=G g σ w;obtain⟨d,y,F⟩:=mS r parts zs l f u hf;refine⟨.agg d.toArray,?_,d,rfl,F⟩;have J:Instr.fill (λi=>AC (i*k,k)) l.toArray (parts.map λp=>(p.1,a.eval p.2))=AC d.toArray:=by
  rw[<- y];refine sy _ _ ?_;intro p h;obtain⟨q,E,rfl⟩:=Xe.1 h;have hlt:=by simpa using Xu.1 j q E
  simp[hlt]
 simp[execOp,B,Instr.build,Vn,m,Result.andThen,x,s,XJ,Vp,Value.cells,J]
def YA(k:IntKind)(m n:Int):Int:=k.wrap (BitVec.ofInt k.bits m&&& BitVec.ofInt k.bits n).toNat
def L7(k:IntKind)(m n:Int):Int:=k.wrap (BitVec.ofInt k.bits m|||BitVec.ofInt k.bits n).toNat
def Mr(k:IntKind)(m n:Int):Int:=k.wrap (BitVec.ofInt k.bits m^^^BitVec.ofInt k.bits n).toNat
def Kr(k:IntKind)(m n:Int):Int:=k.wrap (m*2^(min n.toNat k.bits))
def Ye(k:IntKind)(m n:Int):Int:=m.fdiv (2^(min n.toNat k.bits))
theorem Bz.and{t u:TypeId}{x y:Operand}{k:IntKind}{m n:Int}(h:o.op=.binOp .and t x y u)(d:Bu env x=.int k m)(e:Bu env y=.int k n):Bz P o env H (.int k (YA k m n)):=by
 intro j i σ N a w r;have g:=QC r d;have f:=QC r e;refine⟨_,?_,rfl⟩;generalize a.eval=ρ at*;simp[h,g,f,Op.intBits,go_sem,YA]
theorem Bz.or{t u:TypeId}{x y:Operand}{k:IntKind}{m n:Int}(h:o.op=.binOp .or t x y u)(d:Bu env x=.int k m)(e:Bu env y=.int k n):Bz P o env H (.int k (L7 k m n)):=by
 intro j i σ N a w r;have g:=QC r d;have f:=QC r e;refine⟨_,?_,rfl⟩;generalize a.eval=ρ at*;simp[h,g,f,Op.intBits,go_sem,L7]
theorem Bz.xor{t u:TypeId}{x y:Operand}{k:IntKind}{m n:Int}(h:o.op=.binOp .xor t x y u)(d:Bu env x=.int k m)(e:Bu env y=.int k n):Bz P o env H (.int k (Mr k m n)):=by
 intro j i σ N a w r;have g:=QC r d;have f:=QC r e;refine⟨_,?_,rfl⟩;generalize a.eval=ρ at*;simp[h,g,f,Op.intBits,go_sem,Mr]
theorem Bz.shl{t u:TypeId}{x y:Operand}{k e:IntKind}{m n:Int}(j:o.op=.binOp .shl t x y u)(g:Bu env x=.int k m)(d:Bu env y=.int e n)(f:0<=n):Bz P o env H (.int k (Kr k m n)):=by
 intro p l σ N a w r;have i:=QC r g;have h:=QC r d;refine⟨_,?_,rfl⟩;generalize a.eval=ρ at*;simp[j,i,h,Op.shift,go_sem,Kr,Int.not_lt.2 f]
theorem Bz.shr{t u:TypeId}{x y:Operand}{k e:IntKind}{m n:Int}(j:o.op=.binOp .shr t x y u)(g:Bu env x=.int k m)(d:Bu env y=.int e n)(f:0<=n):Bz P o env H (.int k (Ye k m n)):=by
 intro p l σ N a w r;have i:=QC r g;have h:=QC r d;refine⟨_,?_,rfl⟩;generalize a.eval=ρ at*;simp[j,i,h,Op.shift,go_sem,Ye,Int.not_lt.2 f]
theorem f_{i T:Nat}{d:AA A}(E:Nat.ble h0 H.length=AE)(hH:H[i]?=AC (.cells T d))(f:d[m]?=AC .nils):
  Le h0 env H env (H.set i (.cells T (d.set m (.osl H.length 0 0 k)))++[.row t k []]):=by
 intro G g σ N a w r;have hh':=XS E;have hi:=(XM.1 hH).1;have ext:Cx g σ w g (σ++[AF]) w:=⟨λ_ q=>q,λ_ _=>rfl,λ_ _ q=>q,λ_ _ h=>UV h⟩;have s:=r.sim.phantom t k;have e:(H++[B8.row t k []])[i]?=AC (.cells T d):=by rw[XN hi];exact hH
 have z:H.set i (.cells T (d.set m (.osl H.length 0 0 k)))++[.row t k []]=(H++[B8.row t k []]).set i (.cells T (d.set m (.osl H.length 0 0 k))):=by
  rw[List.set_append_left _ _ hi]
 rw[z];refine⟨g,σ++[AF],⟨s.weaken e rfl ?_,λq=>(r.env q).mono ext,r.size,r.defers⟩,λ_ q=>q,QH (by rw[r.sim.len];exact hh')⟩;intro y h;cases y with
 |none=>exact h
 |some b=>
  obtain⟨l,p,F,x⟩:=h;refine⟨l,p,?_,x⟩;clear p x e z hH
  induction d generalizing m l with
  |nil=>cases f
  |cons c d B=>
   obtain⟨v,j,rfl,n,u⟩:=F;cases m with
   |zero=>
    simp at f;subst f;exact⟨v,j,rfl,.inl ⟨rfl,n⟩,u⟩
   |succ m=>exact⟨v,j,rfl,n,B (by simpa using f) j u⟩
theorem mt{j i s g n:Nat}{x:B8}(u:lk env s=.osl i g n k)(hH:H[i]?=AC x)(z:Nat.ble j H.length=AE):Le j env H (up env s (.osl H.length g n k)) (H.set i .dead++[x]):=by
 intro F e σ N a w r;have E:i<σ.length:=by rw[r.sim.len];exact(XM.1 hH).1
 have hσ:=XL E;have ext:Cx e σ w e (σ++[σ[i]]) w:=⟨λ_ q=>q,λ_ _=>rfl,λ_ _ q=>q,λ_ _ h=>UV h⟩;refine⟨e,σ++[σ[i]],⟨r.sim.moved hH hσ,?_,r.size,r.defers⟩,λ_ q=>q,QH (by rw[r.sim.len];exact XS z)⟩;intro d;simp only[lk];by_cases q:d=s
 .subst q;rw[VF];have:=r.env d;rw[u]at this;rcases this with h|⟨b,p,f,t,m,B,y⟩
  .exact .inl h
  .refine .inr ⟨b,p,f,t,m,?_,y⟩;rw[B]at hσ;rw[<- r.sim.len];simpa using hσ.symm
 .have:Nat.beq d s=false:=by
   rw[VM];intro l;exact q (XR l)
  rw[this];exact(r.env d).mono ext
def Yd(n:Int):UInt8:=n.toNat.toUInt8
def H8(P:AK)(H:Qc)(x:A)(l:AA Int):Prop:=
 ∀fr ro σ w v,B9 fr ro σ H w->VR ro σ w x v->(∃a c,v=.slice a 0 c/\l=[])\/ ∃b off c,v=.slice (AC ⟨b,off,AF⟩) l.length c/\(l=[]\/CR ro σ w b (l.map λn=>A.int .u8 n) off)
theorem lj:∀(l:AA Int),(l.map (λn=>[A.int .u8 n])).flatten=l.map λn=>A.int .u8 n
 |[]=>rfl
 |n::l=>by simp[lj l]
theorem H8.nils:H8 P H .nils []:=λfr ro σ w v s h=>.inl ⟨AF,0,h,rfl⟩
theorem H8.row{i t n:Nat}{l:AA Int}(hH:H[i]?=AC (.row t 1 (l.map λn=>[A.int .u8 n])):=by rfl)(hn:l.length=n:=by rfl):H8 P H (.osl i 0 n 1) l:=by
 intro x r σ w v s h;rcases h with⟨rfl,rfl⟩|⟨b,p,a,B,m,q,rfl,j,⟨y,k⟩,u,z⟩
 .exact .inl ⟨AF,0,rfl,VJ.1 hn⟩
 .refine .inr ⟨b,p,a,by rw[hn],?_⟩;by_cases d:l=[]
  .exact .inl d
  .have:0<a:=by have:=List.length_pos_iff.2 d;omega
   obtain rfl:=j this;obtain⟨E,f,g⟩:=s.blk i _ _ q hH;have e:=(YD (pre:=[]) (by simpa using f) g).flat.1;rw[lj]at e;exact .inr (by simpa using e.lift)
theorem H8.rsl{l:AA Int}:H8 P H (.rsl 1 (l.map λn=>[A.int .u8 n])) l:=by
 intro j h σ w v s ⟨a,c,h1,h2,d⟩;subst h1;rw[X3]at*;rcases d with d|⟨b,e,rfl,i,g⟩
 .have:=List.map_eq_nil_iff.1 d;subst this;exact .inl ⟨a,c,by simp,rfl⟩
 .have f:=g.flat.1;rw[lj]at f;exact .inr ⟨b,e,c,rfl,.inr f.lift⟩
theorem uM{ro:Nat->Prop}{σ:CD}{w:AJ}{b:Nat}:∀(l:AA Int) (a:Nat) (d:ByteArray),CR ro σ w b (l.map λn=>A.int .u8 n) a->(Extern.Bytes.loadBytes ⟨b,a,AF⟩ l.length d).run P w=.ok ⟨d.data++(l.map Yd).toArray⟩ w
 |[],a,d,_=>by simp[Extern.Bytes.loadBytes]
 |n::l,a,d,⟨⟨v,h1,hp,h2⟩,h3⟩=>by
  have h2':=h2;subst h2';have ih:=uM l (a+1) (d.push n.toNat.toUInt8) h3;have hl:(Go.load ⟨b,a,AF⟩).run P w=.ok (.int .u8 n) w:=by simp[h1]
  simp[X2,Extern.Bytes.loadBytes,Vn,hl,Result.andThen];have e:(⟨b,a,AF⟩:Addr).add 1=⟨b,a+1,AF⟩:=by simp[Jz]
  rw[e,ih];simp[Yd]
theorem ta{x:A}{l:AA Int}{v:AL}(h:H8 P H x l)(s:B9 fr ro σ H w)(f:VR ro σ w x v):(Extern.Bytes.bytesOf v).run P w=.ok ⟨(l.map Yd).toArray⟩ w:=by
 rcases h fr ro σ w v s f with⟨a,c,rfl,rfl⟩|⟨b,e,c,rfl,d⟩
 .cases a with
  |none=>rfl
  |some a=>rfl
 .rcases d with rfl|d
  .rfl
  .have:=uM (P:=P) l e .empty d;simp only[Extern.Bytes.bytesOf,this];simp[ByteArray.empty,ByteArray.emptyWithCapacity];rfl
def cmpB(l m:AA Int):Int:=Lib.compareBytes (l.map Yd) (m.map Yd)
theorem Bz.cmpB{c:Call}{f:FuncId}{fn:Func}{x y:Operand}{z:Array TypeId}{ax i:A}{l m:AA Int}(n:P.funcs[f]?=AC fn)(d:(fn.name=="runtime.NumGoroutine")=AD)(j:fn.body.isNone=AE)(k:Extern.findNext fn=AF)(he:Extern.find fn=AC Extern.BytealgCompare.compare)
  (u:H8 P H ax l)(t:H8 P H i m)(B:o.op=.call c:=by rfl)(hc:c={callee:=.value (.func f),args:= #[x,y],argTypes:=z}:=by rfl)(hx:Bu env x=ax:=by rfl)(hy:Bu env y=i:=by rfl):Bz P o env H (.int .i64 (cmpB l m)):=by
 intro G F σ N a w r;have g:=Qn r x;rw[hx]at g;have h:=Qn r y;rw[hy]at h;have p:=ta u r.sim g;have s:=ta t r.sim h;refine⟨.int .i64 (Sw.cmpB l m),?_,rfl⟩;subst hc;have e:a.eval (.func f)=.func (.func f) #[] #[]:=rfl;have E:(callFunc f #[a.eval x,a.eval y]).run P w=.ok (.value (.int .i64 (Sw.cmpB l m))) w:=by
  rw[run_callFunc_extern n d j k he];have q:Sem.run P (Extern.BytealgCompare.compare #[a.eval x,a.eval y]) w=.ok (.int .i64 (Sw.cmpB l m)) w:=by
   change Sem.run P (do pure (goInt (Extern.BytealgCompare.cmp (<- Extern.Bytes.bytesOf (a.eval x)) (<- Extern.Bytes.bytesOf (a.eval y))))) w=_;simp[Vn,p,s,Result.andThen,Lib.cmp_eq];rfl
  rw[q];rfl
 simp[execOp,B,resolve,e,Deferred.ofValue,invoke,Vp];simpa using E
theorem Ja{p n b d j:Nat}{x:Operand}{i:Int}{m:IntKind}(g:(i==j)=AE)(B:Nat.blt j n=AE)(u:∀w,(underlying t).run P w=.ok (.array n p) w)(s:∀w,(sizeOf p).run P w=.ok k w)(z:Nat.ble 2 n=AE)
  (F:o.op=.indexAddr t x y:=by rfl)(hx:Bu env x=.ptr b d:=by rfl)(hy:Bu env y=.int m i:=by rfl):Bz P o env H (.ptr b (d+j*k)):=by
 intro L J σ N a w r;have f:=Qn r x;rw[hx]at f;obtain⟨e,f,E⟩:=f;have h:=Qn r y;rw[hy]at h;have G:a.eval y=.int m i:=h;have hi:=by simpa using g
 have hjn:=by simpa using B
 subst hi;refine⟨.pointer (AC ⟨e,d+j*k,AF⟩),?_,e,f,rfl⟩;have hr:=by omega
 have l:(⟨e,d,AF⟩:Addr).add ((j:Int).toNat*k)=⟨e,d+j*k,AF⟩:=by
  unfold Addr.add;split
  .rename_i q;simp at q;simp[q]
  .simp
 generalize a.eval=ρ at*;simp[F,E,Instr.indexAt,u,s,hr,go_sem,hjn]
end
theorem xZ{name:String}{d:DataW Unit}:∀{a:AA (String×DataW Unit)} {ps:AA MemPlace},DataW.LaidVars P W a ps->(name,d)∈a->
  ∃(g:Nat) (t:TypeId) (f:Array AL) (e:Nat) (p:AA MemPlace),P.globalNamed name=AC g/\(P.globals[g]?).map (·.type)=AC t/\W.var? P name=AC f/\DataW.trod (λ_=>()) P W 0 (λ_=>AE) AD e t f.toList=AC (d,p):=by
 intro a
 induction a with
 |nil=>simp
 |cons x a l=>
  intro ps h j;obtain⟨g,t,f,e,p,q,r,n,k,i,m,s⟩:=h
  grind
theorem Yq{name:String}{a b:Int}{g e:Nat}{k i:Field}{d:AA (String×DataW Unit)}{ps:AA MemPlace}(h:DataW.LaidVars P W d ps)(J:(name,DataW.agg [.lit (.int .i64 a),.lit (.int .i64 b)])∈d)
  (hg:P.globalNamed name=AC g)(j:(P.globals[g]?).map (·.type)=AC t)(G:P.underlying t=AC (.struct #[k,i]))(B:k.type=e)(z:i.type=e)(L:k.offset=0)(E:i.offset=1)(he:P.underlying e=AC (.int .i64))(f:P.cellsOf e=1)(u:P.cellsOf t=2):
  W.cell? ⟨g,0,AF⟩=AC (.int .i64 a)/\W.cell? ⟨g,1,AF⟩=AC (.int .i64 b):=by
 obtain⟨X,T,V,m,p,y,w,q,H⟩:=xZ h J;obtain rfl:=X0 (hg.symm.trans y);obtain rfl:=X0 (j.symm.trans w);obtain⟨Q,y1,n,O,Y,l,r⟩:=Go.ChangeShapes.trod_struct2 G H;rw[B,L,f]at l;rw[z,E,f]at r;obtain⟨N,x,R,_⟩:=DataW.trod_int he l;obtain⟨F,s,r4,_⟩:=DataW.trod_int he r;have M:a=N/\b=F:=by grind
 rw[World.var?_cell hg q,World.var?_cell hg q];constructor
 .have:=congrArg (·[0]?) x
  grind
 .have:=congrArg (·[0]?) s
  grind
theorem JO{g:Nat}{a b:Int}(s:w.cell? ⟨g,0,AF⟩=AC (.int .i64 a)/\w.cell? ⟨g,1,AF⟩=AC (.int .i64 b)):∀(zs:AA Int),AC [a,b]=AC zs->∀(i:Nat) (z:Int),zs[i]?=AC z->w.cell? ⟨g,i,AF⟩=AC (.int .i64 z)
 |zs,h,0,z,hi=>by grind
 |zs,h,1,z,hi=>by grind
 |zs,h,i+2,z,hi=>by grind
def Mz:AB B8->Bool
 |some .dead=>AE
 |_=>AD
def JS(hB hE:Nat)(H H':Qc):Bool:=(List.range (hE-hB)).all λp=> !Mz H'[hB+p]? ||Mz H[hB+p]?
def dU(hB hE:Nat)(σ:CD)(H:Qc):Prop:=∀p,hB<=p->p<hE->Mz H[p]?=AE->σ[p]?=AC AF
variable {hB hE:Nat}
theorem zn{H:Qc}(h:JS hB hE H H'=AE){p:Nat}(d:hB<=p)(e:p<hE)(a:Mz H'[p]?=AE):Mz H[p]?=true:=by
 have:=Xu.1 h (p-hB) (List.mem_range.2 (by omega));rw[show hB+(p-hB)=p by omega,a]at this;simpa using this
theorem B9.allocAt{H:Qc}(s:B9 fr ro σ H w){p:Nat}(L:σ[p]?=AC AF){obj:Obj}{x:B8}
  (N:BR ro (σ.set p (AC w.heap.size)) (w.alloc obj) x (AC w.heap.size))
  (F:∀c,De (w.alloc obj) x w.heap.size c->False:=by exact λ_ h=>h.elim):B9 fr ro (σ.set p (AC w.heap.size)) (H.set p x) (w.alloc obj):=by
 have ev:Qm fr ro w ro (w.alloc obj):=Qm.alloc obj s.roLt s.frLt;have u:=s.len;have E:p<σ.length:=(XM.1 L).1;have t:Cx ro σ w ro (σ.set p (AC w.heap.size)) (w.alloc obj):=⟨ev.sub,ev.keepRo,ev.shape,λi b q=>by
  rw[XQ (λz=>by subst z;rw[L]at q;cases q)];exact q⟩
 have e:∀(i:Nat) (y:AB Nat),(σ.set p (AC w.heap.size))[i]?=AC y->(i≠p/\σ[i]?=AC y)\/(i=p/\y=AC w.heap.size):=by
  intro i y h;by_cases q:i=p
  .subst q;rw[Xa E]at h;exact .inr ⟨rfl,(X0 h).symm⟩
  .rw[XQ (λz=>q z.symm)]at h;exact .inl ⟨q,h⟩
 have m:∀i:Nat,i≠p->(H.set p x)[i]?=H[i]? :=λi P=>XQ (λz=>P z.symm);have G:(H.set p x)[p]?=AC x:=Xa (by omega);refine⟨by simp[u],s.roOk.to (λ_ q=>q) ev.keepRo (λb h=>?_),λb h=>?_,s.roFr,?_,?_,?_,s.hidTo (· = ·) Yl (by rw[Jl];omega) (λ_ _ _ _ _ _ _ q=>q) (λ_ _ _ _ _ _ _ q=>q) λj d y l k Q=>?_⟩
 rotate_left 5
 .rcases e j _ l with⟨q,l⟩|⟨rfl,n⟩
  .rw[m j q]at k;exact .inl ⟨j,y,rfl,l,k,id,λc q=>s.hidKeep l k (λz=>YF w obj d (s.own j d y l k z).1) ev.keepRo q⟩
  .rw[G]at k;cases k;cases n;exact .inr ⟨XU _,F⟩
 .rw[Jl];have:=s.roLt b h;omega
 .rw[Jl];have:=s.frLt b h;omega
 .intro i b y g f r;rw[Jl];rcases e i _ g with⟨q,g⟩|⟨rfl,n⟩
  .rw[m i q]at f;obtain⟨a,b,c⟩:=s.own i b y g f r;exact⟨by omega,b,c⟩
  .cases n;exact⟨by omega,λq=>by have:=s.roLt _ q;omega,λq=>by have:=s.frLt _ q;omega⟩
 .intro i j b y z g f r B M J;rcases e i _ g with⟨q,l⟩|⟨O,n⟩<;>rcases e j _ f with⟨q',k⟩|⟨ej,e2⟩
  .rw[m i q]at r;rw[m j q']at B;exact s.inj i j b y z l k r B M J
  .cases e2;rw[m i q]at r;have:=(s.own i _ y l r M).1;omega
  .cases n;rw[m j q']at B;have:=(s.own j _ z k B J).1;omega
  .rw[O,ej]
 .intro i y z g f;rcases e i _ g with⟨q,g⟩|⟨rfl,n⟩
  .rw[m i q]at f;refine(s.blk i y z g f).keep t ?_ ?_
   .rintro b rfl u;exact YF w obj b (s.own i b z g f u).1
   .rintro b c rfl u;exact YF w obj c (s.hid i b z c g f u).lt
  .rw[G]at f;cases f;subst n;exact N
def K0(P:AK)(o:AM)(t:Nat)(cs:AA A):Prop:=
 ∀(ro:Nat->Prop) (σ:CD) (w:AJ) (a:Act),∃l:AA AL,(execOp a.eval o).run P w=.ok (.value (.pointer (AC ⟨w.heap.size,0,AF⟩))) (w.alloc (.cells l.toArray t))/\LR ro σ w cs l/\ ∀v∈l,QB v
theorem K0.alloc{P:AK}{o:AM}{t:Nat}{z:AL}{v:A}{d:AA A}(i:∀w,(zeroValue t).run P w=.ok z w)(k:ZR v z)(h:o.op=.alloc t:=by rfl)(hk:Yo v=true:=by rfl)(hcs:Yf v=d:=by rfl)(hpl:d.all Yr=true:=by rfl):
  K0 P o t d:=by
 intro g σ w a;obtain⟨l,j,f⟩:=(k g σ w).cells hk;subst hcs;refine⟨l,?_,f,f.plain hpl⟩;generalize a.eval=ρ at*;have e:(newVar t z).run P w=.ok ⟨w.heap.size,0,AF⟩ (w.alloc (.cells l.toArray t)):=by
  unfold newVar;rw[j];rfl
 simp only[execOp,h,Instr.alloc,Vn,i,Result.andThen,e];rfl
def bC(P:AK)(o:AM)(e:Env)(H:Qc)(p:Nat)(x:A)(B:B8):Prop:=
 ∀fr ro σ N a w,C0 fr ro σ H e N a w->∃v obj,(execOp a.eval o).run P w=.ok (.value v) (w.alloc obj)/\(∀c,De (w.alloc obj) B w.heap.size c->False)/\
  ∀σ',σ'[p]?=AC (AC w.heap.size)->Cx ro σ w ro σ' (w.alloc obj)->VR ro σ' (w.alloc obj) x v/\BR ro σ' (w.alloc obj) B (AC w.heap.size)
variable {R:Exit->Act->AJ->Prop}{l:AA AM}
theorem Rq{i:Nat}{o:AM}{K:Act->AJ->Prop}{a:Act}
  (B:l[i]?=AC o)(h:D_ P rd l.toArray R [o] a w)(j:∀e a' w',R e a' w'->e=.normal/\a'.defers=a.defers)(m:∀v w',R .normal (a.put o.dst v) w'->K (a.put o.dst v) w'):
  wpOpIn (WF rd) 0 P l.toArray Q i K a w:=by
 unfold wpOpIn;have u:l.toArray[i]?=AC o:=by simpa using B
 rw[u];simp only;unfold D_ wpListIn at h;split at h
 .rename_i t;rw[Vu t];obtain⟨k,h⟩:=h;refine⟨k,?_⟩;have g:=rY (by
   intro a' w' q;unfold wpListIn at q;exact(j _ _ _ q).2) h
  generalize(o.semAt (WF rd).round a.eval).run P w=res at*;cases res with
  |ok n w'=>
   cases n with
   |value v=>exact m _ _ g.1
   |skip=>exact m _ _ g.1
   |defer F=>
    exfalso;have:=(j _ _ _ g.1).2;have:=congrArg List.length this
    revert this
    cases o.dst<;>simp[Act.put]
   |enter f p=>
    refine⟨g.1,CallsIn.mono g.2 (λe s d=>?_)⟩;cases e with
    |returned v=>exact m _ _ d.1
    |panicked c=>have:=(j _ _ _ d).1;cases this
    |outgrown=>obtain⟨E,w1,d⟩:=d;have:=(j _ _ _ d).1;cases this
   |row r p=>
    exact⟨g.1,RowsIn.mono g.2 (λ_ _ d=>m _ _ d.1)⟩
   |round l f z assign y=>
    refine⟨g.1,RoundIn.mono g.2 (λe s d=>?_)⟩;cases e with
    |returned v=>exact m _ _ d.1
    |panicked c=>have:=(j _ _ _ d).1;cases this
    |outgrown=>obtain⟨E,w1,d⟩:=d;have:=(j _ _ _ d).1;cases this
   |_=>exact g.elim
  |halt x w'=>
   cases x with
   |panic v=>have:=(j _ _ _ g).1;cases this
   |_=>exact g.elim
 .rename_i t;rw[Vt t];obtain⟨k,h⟩:=h;refine⟨k,?_⟩;unfold wpListIn at h;exact m _ _ h
theorem zo(back:∀i o,l[i]?=AC o->∀j∈Qh o,j<i)(k:∀i o,m<i->l[i]?=AC o->i-1∈Qh o):
  ∀(d t:Nat) (L:Array Bool) (a:Act) (w:AJ),L.size=l.length->(∀i,i<l.length->(Dg L i↔i<t))->MS L<=d->m<=t->t<=l.length->
   D_ P rd l.toArray Q (l.drop t) a w->wpAnyIn (WF rd) 0 P .any l.toArray Q d L a w:=by
 intro d
 induction d with
 |zero=>
  intro t L a w hsz hL hf hm ht h;have:t=l.length:=by
   rcases VC t l.length with q|q
   .have:=pu (L:=L) (i:=t) (by omega) (λz=>by have:=(hL t q).1 z;omega);omega
   .omega
  subst this;refine⟨List.eq_nil_iff_forall_not_mem.2 λi r=>?_,?_⟩
  .obtain⟨o,g,n,_⟩:=(UY hsz).1 r;have e:=(XM.1 g).1;exact n ((hL i e).2 e)
  .rw[Xs]at h;exact h
 |succ d H=>
  intro t L a w hsz hL hf hm ht h;have x:∀i o,l[i]?=AC o->¬Dg L i->(∀j∈Qh o,Dg L j)->i=t:=by
   intro i o g n s;have e:=(XM.1 g).1;have G:t<=i:=by
    rcases VC i t with q|q
    .exact absurd ((hL i e).2 q) n
    .exact q
   rcases VC t i with q|q
   .have:=(hL (i-1) (by omega)).1 (s _ (k i o (by omega) g));omega
   .omega
  rcases VC t l.length with f|f
  .have E:l[t]?=AC l[t]:=XL f;have p:¬Dg L t:=λq=>by have:=(hL t f).1 q;omega
   have F:t∈Region.ready .any l.toArray L:=by
    refine(UY hsz).2 ⟨_,E,p,λj y=>?_⟩;have:=back t _ E j y;exact(hL j (by omega)).2 this
   refine⟨λq=>(by rw[q]at F;cases F),λi r=>?_⟩;obtain⟨o,g,n,s⟩:=(UY hsz).1 r;obtain rfl:=x i o g n s;rw[Xq f]at h;obtain rfl:l[i]=o:=by rw[XL f]at g;exact X0 g
   unfold wpOpIn;rw[show l.toArray[i]?=AC l[i]by rw[XH];exact g];simp only;unfold D_ wpListIn at h;have B:∀a w,D_ P rd l.toArray Q (l.drop (i+1)) a w->wpAnyIn (WF rd) 0 P .any l.toArray Q d (L.setIfInBounds i AE) a w:=by
    intro a w q;have J:=l_ (L:=L) (i:=i) (by omega) p;refine H (i+1) _ a w (by simpa using hsz) (λj y=>?_) (by omega) (by omega) (by omega) q;rw[JQ (by omega),hL j y];omega
   split at h
   .rename_i u;rw[Vu u];exact Oper.wpIn_mono B h
   .rename_i u;rw[Vt u];exact⟨h.1,B _ _ h.2⟩
  .have:t=l.length:=by omega
   subst this;rw[Xs]at h;refine⟨λ_=>h,λi r=>?_⟩;obtain⟨o,g,n,_⟩:=(UY hsz).1 r;have e:=(XM.1 g).1;exact absurd ((hL i e).2 e) n
def dT(af ds:AA Nat)(xs:AA A)(env0 e:Env):Prop:=
 ∀s,(∃j x,af.contains j=AE/\ds[j]?=AC s/\xs[j]?=AC x/\lk e s=x)\/lk e s=.any\/(ds.contains s=AD/\lk e s=lk env0 s)
inductive JB (P:AK) (N:Nat) (l:List AM) (ds:List Nat) (xs:List A) (env0:Env) (hB hE:Nat) (i:Nat) (H H':Qc):Prop
 |mk (o:AM) (e:Env) (d:Nat) (x:A) (ho:l[i]?=AC o) (hd:o.dst=AC d) (hx:xs[i]?=AC x) (hdd:JS hB hE H H'=AE) (hs:Sb (Qh o) (Mo l i) ds xs env0 e)
   (h:WO P H.length N l.toArray [o] e H (Y0 (up e d x) H')):JB P N l ds xs env0 hB hE i H H'
 |unit (o:AM) (e:Env) (ho:l[i]?=AC o) (hd:o.dst=AF) (hx:xs[i]?=AC .any) (hdd:JS hB hE H H'=AE) (hs:Sb (Qh o) (Mo l i) ds xs env0 e)
   (h:WO P H.length N l.toArray [o] e H (Y0 e H')):JB P N l ds xs env0 hB hE i H H'
 |unitE (o:AM) (e:Env) (ho:l[i]?=AC o) (hd:o.dst=AF) (hx:xs[i]?=AC .any) (hdd:JS hB hE H H'=AE) (he:dT (Qh o) ds xs env0 e)
   (h:WO P H.length N l.toArray [o] e H (Y0 e H')):JB P N l ds xs env0 hB hE i H H'
 |alloc (o:AM) (d t p:Nat) (cs:List A) (ho:l[i]?=AC o) (hd:o.dst=AC d) (hg:o.guard=AF) (hx:xs[i]?=AC (.ptr p 0)) (hp:(Nat.ble hB p&&Nat.blt p hE)=AE) (hdead:Mz H[p]?=AE)
   (hH:H.set p (.cells t cs)=H') (h:K0 P o t cs) (hN:Nat.blt d N=AE):JB P N l ds xs env0 hB hE i H H'
 |row (o:AM) (e:Env) (d p:Nat) (x:A) (B:B8) (ho:l[i]?=AC o) (hd:o.dst=AC d) (hg:o.guard=AF) (hx:xs[i]?=AC x) (hp:(Nat.ble hB p&&Nat.blt p hE)=AE) (hdead:Mz H[p]?=AE) (hlive:Mz (AC B)=AD)
   (hH:H.set p B=H') (hs:Sb (Qh o) (Mo l i) ds xs env0 e) (h:bC P o e H p x B) (hN:Nat.blt d N=AE):JB P N l ds xs env0 hB hE i H H'
 |val (o:AM) (e:Env) (d:Nat) (x:A) (ho:l[i]?=AC o) (hd:o.dst=AC d) (hg:o.guard=AF) (hx:xs[i]?=AC x) (hN:Nat.blt d N=AE) (he:dT (Qh o) ds xs env0 e) (h:Bz P o e H x)
   (hH:H=H':=by rfl):JB P N l ds xs env0 hB hE i H H'
 |woE (o:AM) (e:Env) (d:Nat) (x:A) (ho:l[i]?=AC o) (hd:o.dst=AC d) (hx:xs[i]?=AC x) (he:dT (Qh o) ds xs env0 e) (hdd:JS hB hE H H'=AE) (h:WO P H.length N l.toArray [o] e H (Y0 (up e d x) H')):JB P N l ds xs env0 hB hE i H H'
variable {af:AA Nat}{env0:Env}{xs:AA A}
theorem Sb.rel{bf f:AA Nat}{e:Env}{a:Act}(h:Sb af bf f xs env0 e)
  (g:∀j∈af,∀s x,f[j]?=AC s->xs[j]?=AC x->VR ro σ w x (a.tmps.getD s undef))
  (i:∀s,f.contains s=AD->VR ro σ w (lk env0 s) (a.tmps.getD s undef))(hP:∀j s,bf.contains j=AE->f[j]?=AC s->VR ro σ w (lk env0 s) (a.tmps.getD s undef)):
  ∀s,VR ro σ w (lk e s) (a.tmps.getD s undef):=by
 intro s
 induction h with
 |nil=>exact trivial
 | @dep j s1 x1 r h1 h2 h3 _ ih=>
  unfold lk;cases d:Nat.beq s s1 with
  |false=>exact ih
  |true=>
   obtain rfl:=XR d;exact g j (by simpa using h1) _ _ h2 h3
 | @old s1 x1 r h1 h2 _ ih=>
  unfold lk;cases d:Nat.beq s s1 with
  |false=>exact ih
  |true=>
   obtain rfl:=XR d;subst h2;exact i _ h1
 | @pre j s1 x1 r h1 h2 h3 _ ih=>
  unfold lk;cases d:Nat.beq s s1 with
  |false=>exact ih
  |true=>
   obtain rfl:=XR d;subst h3;exact hP j _ h1 h2
structure dC (fr ro:Nat->Prop) (σ:CD) (w:AJ) (hB hE:Nat) (H':Qc) (xs:List A) (i:Nat) (o:AM) (a':Act) (w':AJ) (ro':Nat->Prop) (σ':CD):Prop where
 val:∀x,xs[i]?=AC x->match o.dst with
  |some d=>VR ro' σ' w' x (a'.tmps.getD d undef)
  |none=>x=.any
 sim:B9 fr ro' σ' H' w'
 ev:Qm fr ro w ro' w'
 ext:Cx ro σ w ro' σ' w'
 holes:dU hB hE σ' H'
 take:σ'.take hB=σ.take hB
theorem JB.use{ds:AA Nat}{i:Nat}{H:Qc}(hb:JB P N l ds xs env0 hB hE i H H'){K:Act->AJ->Prop}{a:Act}{o:AM}(T:l[i]?=AC o)
  (f:B9 fr ro σ H w)(hN:a.tmps.size=N)(m:Kw fr a.defers w)(ac:Iu rd fr w)(hh:dU hB hE σ H)(hl:hE<=H.length)(ak:hB<=hE)
  (hD:∀j∈Qh o,∀s x,ds[j]?=AC s->xs[j]?=AC x->VR ro σ w x (a.tmps.getD s undef))
  (hO:∀s,ds.contains s=AD->VR ro σ w (lk env0 s) (a.tmps.getD s undef))(hP:∀j s,(Mo l i).contains j=AE->ds[j]?=AC s->VR ro σ w (lk env0 s) (a.tmps.getD s undef))
  (hK:∀v w' ro' σ',dC fr ro σ w hB hE H' xs i o (a.put o.dst v) w' ro' σ'->K (a.put o.dst v) w'):
  wpOpIn (WF rd) 0 P l.toArray Q i K a w:=by
 have W:∀{e:Env} {H2:Qc} {E:Exit} {J:Act} {w':AJ},He H.length fr ro σ w N a.defers (Y0 e H2) E J w'->E=.normal/\J.defers=a.defers:=by
  rintro e H2 E J w' ⟨x,_,_,_,_,_,k,⟨rfl,_⟩,_,_,_,L,_⟩;refine⟨?_,L⟩;cases E<;>first|rfl|exact k.elim|cases k
 have aj:∀{σ':CD} {w':AJ},Qm fr ro w ro w'->σ'.take H.length=σ.take H.length->True:=λ_ _=>trivial;have V:∀{e:Env} {J:Act} {w':AJ},He H.length fr ro σ w N a.defers (Y0 e H') .normal J w'->JS hB hE H H'=AE->
   ∃ro' σ',B9 fr ro' σ' H' w'/\Qm fr ro w ro' w'/\Cx ro σ w ro' σ' w'/\dU hB hE σ' H'/\σ'.take hB=σ.take hB/\ ∀s,VR ro' σ' w' (lk e s) (J.tmps.getD s undef):=by
  rintro e J w' ⟨_,ai,H2,ro',σ',al,_,⟨_,rfl,rfl⟩,r',he,ht,_,ah⟩ r;have hσ:σ'=σ++σ'.drop H.length:=by
   conv=>lhs;rw[<- XA H.length σ']
   rw[ht, <- f.len,Va]
  refine⟨ro',σ',r'.sim.frMono ah.sub,he,?_,?_,?_,r'.env⟩
  .rw[hσ];exact he.ext σ _
  .intro p k L h3;have:=hh p k L (zn r k L h3);rw[hσ,XN (by rw[f.len];omega)];exact this
  .rw[hσ];exact QH (by rw[f.len];omega)
 cases hb with
 |woE n e d x g M X he r h=>
  obtain rfl:n=o:=X0 (g.symm.trans T);have hr:∀s,VR ro σ w (lk e s) (a.tmps.getD s undef):=λs=>by
   rcases he s with⟨j,x,k,L,h3,G⟩|G|⟨k,G⟩
   .rw[G];exact hD j (by simpa using k) s x L h3
   .rw[G];exact trivial
   .rw[G];exact hO s k
  refine Rq T (h rd fr ro σ a w ⟨f,hr,hN,m⟩ ac) (λ_ _ _ q=>W q) (λv w' q=>?_);obtain⟨ro',σ',g1,g2,F,g4,g5,g6⟩:=V q r;refine hK v w' ro' σ' ⟨λy Y=>?_,g1,g2,F,g4,g5⟩;obtain rfl:=X0 (X.symm.trans Y);have:=g6 d;unfold lk at this;rw[VF]at this;rw[M]at this⊢;exact this
 |unitE n e g M X r he h=>
  obtain rfl:n=o:=X0 (g.symm.trans T);have hr:∀s,VR ro σ w (lk e s) (a.tmps.getD s undef):=λs=>by
   rcases he s with⟨j,x,k,L,h3,G⟩|G|⟨k,G⟩
   .rw[G];exact hD j (by simpa using k) s x L h3
   .rw[G];exact trivial
   .rw[G];exact hO s k
  refine Rq T (h rd fr ro σ a w ⟨f,hr,hN,m⟩ ac) (λ_ _ _ q=>W q) (λv w' q=>?_);obtain⟨ro',σ',g1,g2,F,g4,g5,g6⟩:=V q r;refine hK v w' ro' σ' ⟨λy Y=>?_,g1,g2,F,g4,g5⟩;obtain rfl:=X0 (X.symm.trans Y);rw[M]
 |mk n e d x g M X r hs h=>
  obtain rfl:n=o:=X0 (g.symm.trans T);refine Rq T (h rd fr ro σ a w ⟨f,hs.rel hD hO hP,hN,m⟩ ac) (λ_ _ _ q=>W q) (λv w' q=>?_);obtain⟨ro',σ',g1,g2,F,g4,g5,g6⟩:=V q r;refine hK v w' ro' σ' ⟨λy Y=>?_,g1,g2,F,g4,g5⟩;obtain rfl:=X0 (X.symm.trans Y);have:=g6 d;unfold lk at this;rw[VF]at this;rw[M]at this⊢;exact this
 |unit n e g M X r hs h=>
  obtain rfl:n=o:=X0 (g.symm.trans T);refine Rq T (h rd fr ro σ a w ⟨f,hs.rel hD hO hP,hN,m⟩ ac) (λ_ _ _ q=>W q) (λv w' q=>?_);obtain⟨ro',σ',g1,g2,F,g4,g5,g6⟩:=V q r;refine hK v w' ro' σ' ⟨λy Y=>?_,g1,g2,F,g4,g5⟩;obtain rfl:=X0 (X.symm.trans Y);rw[M]
 |val n e d x g M hg X ab he h hH=>
  obtain rfl:n=o:=X0 (g.symm.trans T);subst hH;have hr:C0 fr ro σ H e N a w:=by
   refine⟨f,λs=>?_,hN,m⟩;rcases he s with⟨j,x,k,L,h3,G⟩|G|⟨k,G⟩
   .rw[G];exact hD j (by simpa using k) s x L h3
   .rw[G];exact trivial
   .rw[G];exact hO s k
  obtain⟨v0,k,L⟩:=h fr ro σ N a w hr;have hw:Region.wanted n (yielded l.toArray a.tmps)=true:=by unfold Region.wanted;rw[hg]
  refine Rq (R:=λE J w'=>E=.normal/\J.defers=a.defers/\J=a.put n.dst v0/\w'=w) T (R3 hw k ?_) (λ_ _ _ q=>⟨q.1,q.2.1⟩) (λv w' q=>?_)
  .unfold D_ wpListIn;refine⟨rfl,?_,rfl,rfl⟩;rw[M];rfl
  .obtain⟨_,_,q1,rfl⟩:=q;refine hK v _ ro σ ⟨λy Y=>?_,f,Qm.refl _ _ _,⟨λ_ q=>q,λ_ _=>rfl,λ_ _ q=>q,λ_ _ q=>q⟩,hh,rfl⟩;obtain rfl:=X0 (X.symm.trans Y);rw[q1,M];have aa:d<a.tmps.size:=by rw[hN];simpa using ab
   show VR ro σ w' x _;simpa[Act.put,Array.getD_eq_getD_getElem?,aa]using L
 |row n e d p x B g M hg X hp O hlive hH hs h ab=>
  obtain rfl:n=o:=X0 (g.symm.trans T);subst hH;simp only[XX]at hp;have ag:=XS hp.1;have ae:p<hE:=by simpa using hp.2
  have hσp:=hh p ag ae O;have hr:C0 fr ro σ H e N a w:=⟨f,hs.rel hD hO hP,hN,m⟩;obtain⟨v0,ad,k,L,h3⟩:=h fr ro σ N a w hr;have hw:Region.wanted n (yielded l.toArray a.tmps)=true:=by unfold Region.wanted;rw[hg]
  have ev:Qm fr ro w ro (w.alloc ad):=Qm.alloc _ f.roLt f.frLt;have af:p<σ.length:=by rw[f.len];omega
  have u:Cx ro σ w ro (σ.set p (AC w.heap.size)) (w.alloc ad):=⟨ev.sub,ev.keepRo,ev.shape,λj b q=>by
   rw[XQ (λz=>by subst z;rw[hσp]at q;cases q)];exact q⟩
  obtain⟨g8,g9⟩:=h3 _ (Xa af) u;refine Rq (R:=λE J w'=>E=.normal/\J.defers=a.defers/\J=a.put n.dst v0/\w'=w.alloc ad) T (R3 hw k ?_) (λ_ _ _ q=>⟨q.1,q.2.1⟩) (λv w' q=>?_)
  .unfold D_ wpListIn;refine⟨rfl,?_,rfl,rfl⟩;rw[M];rfl
  .obtain⟨_,_,q1,rfl⟩:=q;refine hK v _ ro (σ.set p (AC w.heap.size)) ⟨λy Y=>?_,f.allocAt hσp g9 L,ev,u,λp' g1 g2 F=>?_,?_⟩
   .obtain rfl:=X0 (X.symm.trans Y);rw[q1,M];have aa:d<a.tmps.size:=by rw[hN];simpa using ab
    show VR ro _ _ x _;simpa[Act.put,Array.getD_eq_getD_getElem?,aa]using g8
   .by_cases q:p'=p
    .subst q;rw[Xa (by omega),hlive]at F;cases F
    .rw[XQ (λz=>q z.symm)]at F⊢;exact hh p' g1 g2 F
   .rw[List.take_set,List.set_eq_of_length_le];rw[Xz];omega
 |alloc n d t p cs g M hg X hp O hH h ab=>
  obtain rfl:n=o:=X0 (g.symm.trans T);subst hH;simp only[XX]at hp;have ag:=XS hp.1;have ae:p<hE:=by simpa using hp.2
  have hσp:=hh p ag ae O;obtain⟨lv,k,L,h3⟩:=h ro σ w a;have hw:Region.wanted n (yielded l.toArray a.tmps)=true:=by unfold Region.wanted;rw[hg]
  have ev:Qm fr ro w ro (w.alloc (.cells lv.toArray t)):=Qm.alloc _ f.roLt f.frLt;have af:p<σ.length:=by rw[f.len];omega
  have u:Cx ro σ w ro (σ.set p (AC w.heap.size)) (w.alloc (.cells lv.toArray t)):=⟨ev.sub,ev.keepRo,ev.shape,λj b q=>by
   rw[XQ (λz=>by subst z;rw[hσp]at q;cases q)];exact q⟩
  refine Rq (R:=λE J w'=>E=.normal/\J.defers=a.defers/\J=a.put n.dst (.pointer (AC ⟨w.heap.size,0,AF⟩))/\w'=w.alloc (.cells lv.toArray t)) T (R3 hw k ?_) (λ_ _ _ q=>⟨q.1,q.2.1⟩) (λv w' q=>?_)
  .unfold D_ wpListIn;refine⟨rfl,?_,rfl,rfl⟩;rw[M];rfl
  .obtain⟨_,_,q1,rfl⟩:=q;refine hK v _ ro (σ.set p (AC w.heap.size)) ⟨λy Y=>?_,f.allocAt hσp ⟨lv,Q9 _ _,L.mono u,h3⟩,ev,u,λp' g1 g2 F=>?_,?_⟩
   .obtain rfl:=X0 (X.symm.trans Y);rw[q1,M];have aa:d<a.tmps.size:=by rw[hN];simpa using ab
    refine⟨w.heap.size,Xa af,?_⟩;simp[Act.put,Array.getD_eq_getD_getElem?,aa]
   .by_cases q:p'=p
    .subst q;rw[Xa (by omega)]at F;cases F
    .rw[XQ (λz=>q z.symm)]at F⊢;exact hh p' g1 g2 F
   .rw[List.take_set,List.set_eq_of_length_le];rw[Xz];omega
def G3(a b:AA Nat):Bool:=a.all (b.contains ·)&&b.all (a.contains ·)
theorem ww{a b:AA Nat}(h:G3 a b=AE)(i:Nat):i∈a↔i∈b:=by
 unfold G3 at h;simp only[XX,Xu,List.contains_iff_mem]at h;exact⟨h.1 i,h.2 i⟩
structure kw (l:List AM) (m:Nat) (ds:List Nat) (hs:List Bool) (rq ms:List (List Nat)) (pl:List (List (Nat×Nat))) (N:Nat):Prop where
 len:m<=l.length
 dst:∀i o,i<m->l[i]?=AC o->(∃d,o.dst=AC d/\ds[i]?=AC d/\d<N)\/o.dst=AF
 dsl:ds.length=m
 nodup:∀(i j d:Nat),ds[i]?=AC d->ds[j]?=AC d->i=j
 back:∀i o,l[i]?=AC o->∀j∈Qh o,j<i
 mid:∀o,l[m]?=AC o->∀j,j<m->MC l m j
 chain:∀i o,m<i->l[i]?=AC o->i-1∈Qh o
 rqs:∀i o,i<m->l[i]?=AC o->∀h∈rq.getD i [],h<m/\hs.getD h AD=AE/\(h∈Qh o\/ ∃j∈Qh o,j<m/\h∈rq.getD j [])
 ms0:ms.getD 0 []=[]
 full:∀st,st<ms.length->st+1=ms.length\/ ∃i,i<m/\hs.getD i AD=AE/\i∉ms.getD st []
 msh:∀st h,h∈ms.getD st []->h<m/\hs.getD h AD=AE
 pls:∀i st,i<m->st<ms.length->(∀h∈rq.getD i [],h∈ms.getD st [])->(hs.getD i AD=AE->i∉ms.getD st [])->(∀h∈ms.getD st [],¬MC l h i)->
  ∃st',(st,st')∈pl.getD i []/\st'<ms.length/\if hs.getD i AD then∀j,j∈ms.getD st' []↔j=i\/j∈ms.getD st []else st'=st
theorem oi{α:Type}{l:AA α}{i:Nat}{d x:α}(h:l[i]?=AC x):l.getD i d=x:=by rw[VL,h];rfl
theorem rF{ds:AA Nat}{hs:AA Bool}{rq ms:AA (AA Nat)}{pl:AA (AA (Nat×Nat))}{Hs:AA Qc}{Hk:Qc}
  (ok:kw l m ds hs rq ms pl N)(aq:xs.length=m)(a9:Hs.length=ms.length)(a0:h0<=hB)(aw:hB<=hE)(a1:∀H∈Hs,hE<=H.length)
  (a4:∀i p,i<m->p∈pl.getD i []->JB P N l ds xs env0 hB hE i (Hs.getD p.1 []) (Hs.getD p.2 []))(au:Hs.getD (ms.length-1) []=Hk)
  {ro0:Nat->Prop}{σ0:CD}{w0:AJ}{ds0:AA Deferred}
  (hk:∀ro σ a w,C0 fr ro σ Hk (H_ ds xs env0) N a w->Qm fr ro0 w0 ro w->σ.take h0=σ0.take h0->a.defers=ds0->D_ P rd l.toArray R (l.drop m) a w)(ai:Kw fr ds0 w0)(a7:Iu rd fr w0):
  ∀(g:Nat) (L:Array Bool) (a:Act) (w:AJ) (ro:Nat->Prop) (σ:CD) (u:Nat),
   L.size=l.length->MS L<=g->(∀i,m<=i->¬Dg L i)->u<ms.length->B9 fr ro σ (Hs.getD u []) w->a.tmps.size=N->a.defers=ds0->
   (∀(i d:Nat) (x:A),Dg L i->ds[i]?=AC d->xs[i]?=AC x->VR ro σ w x (a.tmps.getD d undef))->(∀s,(∀j,ds[j]?=AC s->¬Dg L j)->VR ro σ w (lk env0 s) (a.tmps.getD s undef))->
   Qm fr ro0 w0 ro w->σ.take h0=σ0.take h0->dU hB hE σ (Hs.getD u [])->
   (∀i,i<m->Dg L i->∀h∈rq.getD i [],Dg L h)->(∀i,i<m->hs.getD i AD=AE->(Dg L i↔i∈ms.getD u []))->
   (∀i o,Dg L i->l[i]?=AC o->∀j∈Qh o,Dg L j)->
   wpAnyIn (WF rd) 0 P .any l.toArray R g L a w:=by
 have ar:∀u,u<ms.length->hE<=(Hs.getD u []).length:=by
  intro u h;have e:Hs[u]?=AC Hs[u]:=XL (by omega);rw[oi e];exact a1 _ (Ve _)
 have fin:∀(g:Nat) (L:Array Bool) (a:Act) (w:AJ) (ro:Nat->Prop) (σ:CD) (u:Nat),
   L.size=l.length->MS L<=g->(∀i,m<=i->¬Dg L i)->u<ms.length->B9 fr ro σ (Hs.getD u []) w->a.tmps.size=N->a.defers=ds0->
   (∀(i d:Nat) (x:A),Dg L i->ds[i]?=AC d->xs[i]?=AC x->VR ro σ w x (a.tmps.getD d undef))->(∀s,(∀j,ds[j]?=AC s->¬Dg L j)->VR ro σ w (lk env0 s) (a.tmps.getD s undef))->
   Qm fr ro0 w0 ro w->σ.take h0=σ0.take h0->
   (∀i,i<m->hs.getD i AD=AE->(Dg L i↔i∈ms.getD u []))->(∀i,i<m->Dg L i)->
   wpAnyIn (WF rd) 0 P .any l.toArray R g L a w:=by
  intro g L a w ro σ u hsz hu hsuf hst hsim hN hdef hD hE' hev htk hI2 r;have al:u=ms.length-1:=by
   rcases ok.full u hst with q|⟨i,Q,X,h3⟩
   .omega
   .exact absurd ((hI2 i Q X).1 (r i Q)) h3
  rw[al,au]at hsim;refine zo ok.back ok.chain g m L a w hsz (λi hi=>⟨λq=>?_,λq=>r i q⟩) hu (XU _) ok.len ?_
  .rcases VC i m with z|z
   .exact z
   .exact absurd q (hsuf i z)
  .have hr:C0 fr ro σ Hk (H_ ds xs env0) N a w:=by
    refine⟨hsim,λs=>?_,hN,by rw[hdef];exact ai.keep hev⟩;rcases xG (env0:=env0) (by rw[ok.dsl,aq]) s with⟨j,x,Q,X,h3⟩|⟨Q,X⟩
    .rw[h3];have f:j<m:=by have:=(XM.1 Q).1;rw[ok.dsl]at this;exact this
     exact hD j s x (r j f) Q X
    .rw[X];exact hE' s (λj q=>absurd (VH q) (by simpa using Q))
   exact hk ro σ a w hr hev htk hdef
 intro g
 induction g with
 |zero=>
  intro L a w ro σ u hsz hu hsuf hst hsim hN hdef hD hE' hev htk hho hI1 hI2 hcl;refine fin 0 L a w ro σ u hsz hu hsuf hst hsim hN hdef hD hE' hev htk hI2 (λi hi=>?_);by_cases q:Dg L i
  .exact q
  .have:=pu (L:=L) (i:=i) (by have:=ok.len;omega) q;omega
 |succ g ih=>
  intro L a w ro σ u hsz hu hsuf hst hsim hN hdef hD hE' hev htk hho hI1 hI2 hcl;by_cases r:∀i,i<m->Dg L i
  .exact fin (g+1) L a w ro σ u hsz hu hsuf hst hsim hN hdef hD hE' hev htk hI2 r
  .have ax:∃i,i<m/\ ¬Dg L i:=by
    refine Classical.byContradiction λq=>r λi hi=>Classical.byContradiction λz=>q ⟨i,hi,z⟩
   obtain⟨n,hn,ag⟩:=ax;obtain⟨i0,Q,X,h3⟩:=least (p:=λi=>¬Dg L i) (λi=>Classical.em _) n ag;have ba:=ok.len;have ae:l[i0]?=AC l[i0]:=XL (by omega);have hr:i0∈Region.ready .any l.toArray L:=(UY hsz).2 ⟨_,ae,X,λj f=>Classical.byContradiction λz=>h3 j (ok.back i0 _ ae j f) z⟩;refine⟨λq=>(by rw[q]at hr;cases hr),λi hi=>?_⟩;obtain⟨o,V,Y,M⟩:=(UY hsz).1 hi;have E:i<m:=by
    rcases VC i m with q|q
    .exact q
    .exfalso;rcases VC m i with z|z
     .exact hsuf (i-1) (by omega) (M _ (ok.chain i o z V))
     .have:i=m:=by omega
      subst this;have a5:∀j,MC l i j->Dg L j:=by
       intro j f
       induction f with
       |one t f=>rw[V]at t;cases t;exact M _ f
       |step _ t f ihr=>exact hcl _ _ ihr t _ f
      exact ag (a5 n (ok.mid o V n hn))
   have aj:∀h∈rq.getD i [],Dg L h:=by
    intro h W;obtain⟨_,_,q|⟨j,q1,q2,q3⟩⟩:=ok.rqs i o E V h W
    .exact M h q
    .exact hI1 j q2 (M j q1) h q3
   obtain⟨ay,az,ao,O⟩:=ok.pls i u E hst (λh W=>by
    obtain⟨q1,q2,_⟩:=ok.rqs i o E V h W;exact(hI2 h q1 q2).1 (aj h W)) (λq z=>Y ((hI2 i E q).2 z)) (λh W hR=>by
    obtain⟨q1,q2⟩:=ok.msh u h W;have a8:Dg L h:=(hI2 h q1 q2).2 W;have am:∀j,MC l h j->Dg L j:=by
     intro j f
     induction f with
     |one t f=>exact hcl _ _ a8 t _ f
     |step _ t f ihr=>exact hcl _ _ ihr t _ f
    exact Y (am i hR))
   have hb:=a4 i _ E az;refine hb.use V hsim hN (by rw[hdef];exact ai.keep hev) (a7.to hev λ_ q=>q) hho (ar u hst) aw (λj f s x q1 q2=>hD j s x (M j f) q1 q2) (λs Q=>hE' s (λj q=>absurd (VH q) (by simpa using Q))) (λj s Q X=>hE' s (λj' q q'=>?_)) ?_
   .obtain rfl:=ok.nodup j' j s q X;have f:=Xd.1 (List.contains_iff_mem.1 Q);cases ad:l[j']? with
    |none=>rw[ad]at f;simp at f
    |some oj=>
     rw[ad]at f;exact Y (hcl j' oj q' ad i (by simpa using f.2))
   intro v w' a3 σ' af;have ab:=af.ext;have aa:∀s,(∀d,o.dst=AC d->s≠d)->(a.put o.dst v).tmps.getD s undef=a.tmps.getD s undef:=by
    intro s a6;cases hd:o.dst with
    |none=>rfl
    |some d=>
     simp only[Act.put,Array.getD_eq_getD_getElem?,Vf];rw[Vt (λq=>a6 d hd q.symm)]
   have ac:(a.put o.dst v).tmps.size=N:=by
    cases hd:o.dst with
    |none=>simpa[Act.put]using hN
    |some d=>simpa[Act.put]using hN
   have an:(a.put o.dst v).defers=ds0:=by
    cases hd:o.dst with
    |none=>simpa[Act.put]using hdef
    |some d=>simpa[Act.put]using hdef
   have bb:=l_ (L:=L) (i:=i) (by omega) Y;have B:i<L.size:=by omega
   have a2:∀s j,ds[j]?=AC s->j≠i->∀d,o.dst=AC d->s≠d:=by
    intro s j f F d hd q;subst q;rcases ok.dst i o E V with⟨d',k,T,ak⟩|k
    .rw[hd]at k;cases k;exact F (ok.nodup j i _ f T)
    .rw[hd]at k;cases k
   refine ih _ _ w' a3 σ' ay (by simpa using hsz) (by omega) (λj f q=>?_) ao af.sim ac an ?_ ?_ (hev.trans af.ev) ?_ af.holes ?_ ?_ ?_
   .rcases(JQ B).1 q with z|z
    .omega
    .exact hsuf j f z
   .intro j s y f G hy;by_cases F:j=i
    .subst F;have hv:=af.val y hy;rcases ok.dst j o E V with⟨d',k,T,ak⟩|k
     .obtain rfl:s=d':=X0 (G.symm.trans T);simp only[k]at hv⊢;exact hv
     .simp only[k]at hv;subst hv;exact trivial
    .rw[aa s (a2 s j G F)];rcases(JQ B).1 f with z|z
     .exact absurd z F
     .exact(hD j s y z G hy).mono ab
   .intro s G;have av:∀d,o.dst=AC d->s≠d:=by
     rintro d hd rfl;rcases ok.dst i o E V with⟨d',k,T,ak⟩|k
     .rw[hd]at k;cases k;exact G i T ((JQ B).2 (.inl rfl))
     .rw[hd]at k;cases k
    rw[aa s av];exact(hE' s (λj q z=>G j q ((JQ B).2 (.inr z)))).mono ab
   .rw[<- htk];have:=congrArg (List.take h0) af.take;rw[List.take_take,List.take_take,XC a0]at this;exact this
   .intro j f J h W;refine(JQ B).2 (.inr ?_);rcases(JQ B).1 J with z|z
    .subst z;exact aj h W
    .exact hI1 j f z h W
   .intro j f J;rw[JQ B];cases q:hs.getD i AD with
    |false=>
     have F:j≠i:=by rintro rfl;rw[q]at J;cases J
     rw[q]at O;simp only[Xi,if_false]at O;simp only[F,false_or];rw[O];exact hI2 j f J
    |true=>
     rw[q]at O;simp only[if_true]at O;rw[O j,hI2 j f J]
   .intro j o' f t j' ah;rcases(JQ B).1 f with z|z
    .subst z;rw[V]at t;cases t;exact(JQ B).2 (.inr (M _ ah))
    .exact(JQ B).2 (.inr (hcl j o' z t j' ah))
def G4.dstB(N:Nat):Nat->AA AM->AA Nat->Bool
 |_,_,[]=>AE
 |i,o::r,d::ds=>(match o.dst with|some d'=>Nat.beq d' d&&Nat.blt d N|none=>AE)&&G4.dstB N (i+1) r ds
 |_,[],_::_=>AD
def G4.rqB(m:Nat)(hs:AA Bool)(rq:AA (AA Nat)):Nat->AA AM->Bool
 |_,[]=>AE
 |i,o::r=>(rq.getD i []).all (λh=>Nat.blt h m&&hs.getD h AD&&((Qh o).contains h||(Qh o).any λj=>Nat.blt j m&&(rq.getD j []).contains h))&&G4.rqB m hs rq (i+1) r
def lK(l:AA AM)(h:Nat):AA Nat:=match l[h]? with
 |some o=>Z3 l h (Qh o)
 |none=>[]
theorem yv{h j:Nat}(q:j∈lK l h):MC l h j:=by
 unfold lK at q;cases a:l[h]? with
 |none=>rw[a]at q;cases q
 |some o=>rw[a]at q;exact fc h (Qh o) (λi d=>.one a d) j q
def G4.plB(l:AA AM)(m:Nat)(hs:AA Bool)(rq ms:AA (AA Nat))(pl:AA (AA (Nat×Nat))):Bool:=
 (List.range m).all λi=>(List.range ms.length).all λst=>((ms.getD st []).any λh=>(lK l h).contains i)|| !(rq.getD i []).all ((ms.getD st []).contains ·)||(hs.getD i AD&&(ms.getD st []).contains i)||
  (pl.getD i []).any λp=>Nat.beq p.1 st&&Nat.blt p.2 ms.length&&(bif hs.getD i AD then G3 (ms.getD p.2 []) (i::ms.getD st [])else Nat.beq p.2 st)
def G4(l:AA AM)(m N:Nat)(ds:AA Nat)(hs:AA Bool)(rq ms:AA (AA Nat))(pl:AA (AA (Nat×Nat))):Bool:=
 Nat.ble m l.length&&(ds.length==m)&&G4.dstB N 0 l ds&&CQ.nodupB ds&&CQ.goB l m 0 l&&G4.rqB m hs rq 0 l&&(ms.getD 0 []).isEmpty&&Nat.blt 0 ms.length
 &&((List.range ms.length).all λst=>Nat.beq (st+1) ms.length||(List.range m).any λi=>hs.getD i AD&& !(ms.getD st []).contains i)&&G4.plB l m hs rq ms pl&&(List.range ms.length).all λst=>(ms.getD st []).all λh=>Nat.blt h m&&hs.getD h AD
theorem sh:∀(l:AA AM) (a:AA Nat) (b:Nat),G4.dstB N b l a=AE->∀(i d:Nat) (o:AM),l[i]?=AC o->a[i]?=AC d->
  (o.dst=AC d/\d<N)\/o.dst=none:=by
 intro l
 induction l with
 |nil=>intro a b h i d o f;simp at f
 |cons x r k=>
  intro a b h i d o f g;cases a with
  |nil=>simp at g
  |cons y a=>
   simp only[G4.dstB,XX]at h;cases i with
   |zero=>
    simp at f g;subst f;subst g;have h:=h.1;split at h
    .rename_i m j;simp only[XX]at h;have e:=XR h.1;subst e;exact .inl ⟨j,by simpa using h.2⟩
    .rename_i j;exact .inr j
   |succ i=>
    have:=k a (b+1) h.2 i d o (by simpa using f) (by simpa using g);exact this
theorem yW{e:AA Bool}{d:AA (AA Nat)}:∀(l:AA AM) (b:Nat),G4.rqB m e d b l=AE->∀(i:Nat) (o:AM),l[i]?=AC o->
  ∀h∈d.getD (b+i) [],h<m/\e.getD h AD=AE/\(h∈Qh o\/ ∃j∈Qh o,j<m/\h∈d.getD j []):=by
 intro l
 induction l with
 |nil=>intro b h i o a;simp at a
 |cons x r s=>
  intro b h i o a;simp only[G4.rqB,XX]at h;cases i with
  |zero=>
   simp at a;subst a;intro k g;have:=Xu.1 h.1 k (by simpa using g);simp only[XX,Bool.or_eq_true,List.contains_iff_mem,Xv]at this;obtain⟨⟨n,t⟩,f⟩:=this;refine⟨by simpa using n,t,?_⟩;rcases f with q|⟨j,u,w,p⟩
   .exact .inl q
   .exact .inr ⟨j,u,by simpa using w,p⟩
  |succ i=>
   have:=s (b+1) h.2 i o (by simpa using a);rw[show b+1+i=b+(i+1)by omega]at this;exact this
theorem xf{s:AA Nat}{E:AA Bool}{G t:AA (AA Nat)}{J:AA (AA (Nat×Nat))}(h:G4 l m N s E G t J=AE):
  kw l m s E G t J N/\0<t.length:=by
 unfold G4 at h;simp only[XX]at h;obtain⟨⟨⟨⟨⟨⟨⟨⟨⟨⟨P,O⟩,h3⟩,V⟩,h5⟩,X⟩,h7⟩,Y⟩,T⟩,B⟩,H⟩:=h;have F:m<=l.length:=XS P;have y:s.length=m:=by simpa using O
 have g:=ql l 0 h5;refine⟨⟨F,λi o u d=>?_,y,t7 V,λi o d=>by have:=(g i o d).1;simpa using this,λo d j R=>fc m (Qh o) (λi u=>.one d u) j ((g m o d).2.1 (by omega) j R),
  λi o u d=>by have:=(g i o d).2.2 (by omega);simpa using this,λi o u d h k=>by have:=yW l 0 X i o d h (by simpa using k);exact this,
  by simpa using h7,λn a=>?_,λn h k=>?_,λi n u a W L M=>?_⟩,by simpa using Y⟩
 .have w:s[i]?=AC s[i]:=XL (by omega);rcases sh l s 0 h3 i _ o d w with⟨r,x⟩|r
  .exact .inl ⟨_,r,w,x⟩
  .exact .inr r
 .have:=Xu.1 T n (List.mem_range.2 a);simp only[Bool.or_eq_true,Xv,XX,Bool.not_eq_true']at this;rcases this with q|⟨i,r,x,f⟩
  .exact .inl (XR q)
  .exact .inr ⟨i,List.mem_range.1 r,x,λz=>by rw[List.contains_iff_mem.2 z]at f;cases f⟩
 .have a:n<t.length:=by
   rcases VC n t.length with q|q
   .exact q
   .rw[VL,XP q]at k;cases k
  have:=Xu.1 (Xu.1 H n (List.mem_range.2 a)) h k;simp only[XX]at this;exact⟨by simpa using this.1,this.2⟩
 .have:=Xu.1 (Xu.1 B i (List.mem_range.2 u)) n (List.mem_range.2 a);simp only[Bool.or_eq_true,Bool.not_eq_true']at this;rcases this with((q|q)|q)|q
  .exfalso;obtain⟨h,k,q⟩:=Xv.1 q;exact M h k (yv (List.contains_iff_mem.1 q))
  .exfalso;have:((G.getD i []).all ((t.getD n []).contains ·))=true:=Xu.2 λh k=>List.contains_iff_mem.2 (W h k);rw[this]at q;cases q
  .simp only[XX]at q;exact absurd (List.contains_iff_mem.1 q.2) (L q.1)
  .obtain⟨p,Q,q⟩:=Xv.1 q;simp only[XX]at q;obtain⟨⟨r,x⟩,f⟩:=q;have e:=XR r;refine⟨p.2,by rw[<- e];exact Q,by simpa using x,?_⟩;cases z:E.getD i AD with
   |true=>
    rw[z]at f;simp only[Vq]at f;simp only[if_true];intro j;rw[ww f j,X7]
   |false=>
    rw[z]at f;simp only[Vr]at f;simp only[Xi,if_false];exact XR f
inductive B7 (P:AK) (N:Nat) (l:List AM) (ds:List Nat) (xs:List A) (env0:Env) (hB hE:Nat):Nat->List (List (Qc×Qc))->Prop
 |nil {i:Nat}:B7 P N l ds xs env0 hB hE i []
 |cons {i:Nat} {s:List (Qc×Qc)} {r:List (List (Qc×Qc))} (h:∀p∈s,JB P N l ds xs env0 hB hE i p.1 p.2) (k:B7 P N l ds xs env0 hB hE (i+1) r):B7 P N l ds xs env0 hB hE i (s::r)
theorem B7.get{e:AA Nat}{b:Nat}{d:AA (AA (Qc×Qc))}(h:B7 P N l e xs env0 hB hE b d):
  ∀(i:Nat) (s:AA (Qc×Qc)),d[i]?=AC s->∀p∈s,JB P N l e xs env0 hB hE (b+i) p.1 p.2:=by
 induction h with
 |nil=>intro i s h;simp at h
 | @cons b s0 r h _ ih=>
  intro i s a;cases i with
  |zero=>simp at a;subst a;exact h
  |succ i=>
   have:=ih i s (by simpa using a);rw[show b+1+i=b+(i+1)by omega]at this;exact this
theorem Qd{d:AA Nat}{i:Nat}:∀p∈([]:AA (Qc×Qc)),JB P N l d xs env0 hB hE i p.1 p.2:=by
 intro p a;cases a
theorem Qb{a:AA Nat}{i:Nat}{H:Qc}{r:AA (Qc×Qc)}(h:JB P N l a xs env0 hB hE i H H')
  (k:∀p∈r,JB P N l a xs env0 hB hE i p.1 p.2):∀p∈(H,H')::r,JB P N l a xs env0 hB hE i p.1 p.2:=by
 intro p d;rcases X7.1 d with rfl|q
 .exact h
 .exact k p q
variable {id:Nat}
theorem QhT{env:Env}{H:Qc}{a:Act}(m c:Nat)(ds:AA Nat)(hs:AA Bool)(rq ms:AA (AA Nat))(J:AA (AA (Nat×Nat)))(xs:AA A)(Hs:AA Qc)(Hk:Qc)
  (hm:P.follows .mixedOrders=AE)(hc:G4 l m N ds hs rq ms J=AE)(Y:Nat.beq xs.length m=AE)(ad:Nat.beq Hs.length ms.length=AE)(W:Nat.ble h0 H.length=AE)
  (hh:Hs.all (λX=>Nat.ble (H.length+c) X.length)=AE)(T:Hs[0]?=AC (H++List.replicate c .dead))(ac:Hs.getD (ms.length-1) []=Hk)
  (ab:B7 P N l ds xs env H.length (H.length+c) 0 (J.map λq=>q.map λp=>(Hs.getD p.1 [],Hs.getD p.2 [])))(aa:Nat.beq J.length m=AE)
  (r:C0 fr ro σ H env N a w)(ae:Iu rd fr w)
  (hk:∀ro' σ' a' w',C0 fr ro' σ' Hk (H_ ds xs env) N a' w'->Qm fr ro w ro' w'->σ'.take h0=σ.take h0->a'.defers=a.defers->D_ P rd l.toArray R (l.drop m) a' w'):(Code.region id l.toArray AE).wpIn (WF rd) 0 P R a w:=by
 obtain⟨ok,O⟩:=xf hc;have G:=XR Y;have L:=XR ad;have af:=XR aa;have M:Qm fr ro w ro {w with drawn:=w.drawn+1}:=⟨λ_ q=>q,λ_ _=>rfl,λ_ _=>rfl,XU _,λ_ _ q=>q,rfl,rfl,rfl,Nat.le_succ _⟩;have u:Cx ro σ w ro (σ++List.replicate c AF) {w with drawn:=w.drawn+1}:=M.ext σ _;have V:=r.sim.len;have E:Hs.getD 0 []=H++List.replicate c .dead:=oi T;have n:∀(i:Nat) (s:AB Nat) (x:B8),(σ++List.replicate c AF)[i]?=AC s->(H++List.replicate c B8.dead)[i]?=AC x->(σ[i]?=AC s/\H[i]?=AC x)\/(s=AF/\x=.dead):=by
  intro i s x k h;rcases VC i σ.length with q|q
  .rw[XN q]at k;rw[XN (by omega)]at h;exact .inl ⟨k,h⟩
  .rw[XO q]at k;rw[XO (by omega)]at h;have a1:=VH k;have a2:=VH h;exact .inr ⟨(List.mem_replicate.1 a1).2,(List.mem_replicate.1 a2).2⟩
 have B:B9 fr ro (σ++List.replicate c AF) (H++List.replicate c .dead) {w with drawn:=w.drawn+1}:=by
  refine⟨by simp[V],r.sim.roOk.to (λ_ q=>q) (λ_ _=>rfl) r.sim.roLt,r.sim.frLt,r.sim.roFr,?_,?_,?_,
   r.sim.hidTo (· = ·) Yl (XU _) (λ_ _ _ _ _ _ _ q=>q) (λ_ _ _ _ _ _ _ q=>q) λj d y g1 g2 g3=>.inl ?_⟩
  rotate_left 3
  .rcases n j _ _ g1 g2 with⟨g,t⟩|⟨g,_⟩
   .exact⟨j,y,rfl,g,t,(λz=>z),λc q=>q⟩
   .cases g
  .intro i b blk k h Q;rcases n i _ _ k h with⟨g,t⟩|⟨g,_⟩
   .exact r.sim.own i b blk g t Q
   .cases g
  .intro i j b x y k h Q h4 h5 h6;rcases n i _ _ k Q with⟨g,t⟩|⟨g,_⟩
   .rcases n j _ _ h h4 with⟨q3,q4⟩|⟨q3,_⟩
    .exact r.sim.inj i j b x y g q3 t q4 h5 h6
    .cases q3
   .cases g
  .intro i s x k h;rcases n i _ _ k h with⟨g,t⟩|⟨g,t⟩
   .exact BR.keep u (λb hb _=>rfl) (r.sim.blk i s x g t) (λ_ _ _ _=>rfl)
   .subst t;exact trivial
 have f:∀i,¬Dg (Array.replicate l.length AD) i:=by
  intro i q;unfold Dg at q;rw[Array.getElem?_replicate]at q;split at q<;>simp at q
 have F:=XS W;refine wpIn_region_any hm ?_;rw[List.size_toArray];refine rF ok G L F (Nat.le_add_right _ _) (λX hX=>XS (Xu.1 hh X hX)) ?_ ac (ro0:=ro) (σ0:=σ) (w0:=w) (ds0:=a.defers) hk r.defers ae
  l.length _ a _ ro (σ++List.replicate c AF) 0 (by simp) ?_ (λi _=>f i) O (by rw[E];exact B) r.size rfl (λi d x q=>absurd q (f i)) (λs _=>(r.env s).mono u) M (QH (by omega)) ?_
  (λi _ q=>absurd q (f i)) (λi _ _=>⟨λq=>absurd q (f i),λq=>by rw[ok.ms0]at q;cases q⟩) (λi o q=>absurd q (f i))
 .intro i p hi hp;have e:(J.map λq=>q.map λp=>(Hs.getD p.1 [],Hs.getD p.2 []))[i]?=AC ((J.getD i []).map λp=>(Hs.getD p.1 [],Hs.getD p.2 [])):=by
   rw[Xp,XL (by omega),VL,XL (by omega)];rfl
  have:=ab.get i _ e _ (Xe.2 ⟨p,hp,rfl⟩);simpa using this
 .unfold MS;simp[List.countP_replicate]
 .intro p k h Q;rw[XO (by omega),List.getElem?_replicate,Vu (by omega)]
theorem Jf{env:Env}{H:Qc}{Q:QP}(m c:Nat)(f:AA Nat)(x:AA Bool)(y h:AA (AA Nat))(g:AA (AA (Nat×Nat)))(xs:AA A)(Hs:AA Qc)(Hk:Qc)
  (B:P.follows .mixedOrders=AE)(F:G4 l m N f x y h g=AE)(k:Nat.beq xs.length m=AE)(n:Nat.beq Hs.length h.length=AE)(j:Nat.ble h0 H.length=AE)
  (E:Hs.all (λX=>Nat.ble (H.length+c) X.length)=AE)(i:Hs[0]?=AC (H++List.replicate c .dead))(u:Hs.getD (h.length-1) []=Hk)
  (t:B7 P N l f xs env H.length (H.length+c) 0 (g.map λq=>q.map λp=>(Hs.getD p.1 [],Hs.getD p.2 [])))(s:Nat.beq g.length m=AE)
  (J:WO P h0 N l.toArray (l.drop m) (H_ f xs env) Hk Q):TC P h0 N (.region id l.toArray AE) env H Q:=by
 intro G z L σ a w r hrd;refine Code.wpIn_mono (λe a w q=>He.postW q) (QhT m c f x y h g xs Hs Hk B F k n j E i u t s r hrd λro' σ' a' w' hr hev htk hdf=>?_);have d:=J G z ro' σ' a' w' hr (hrd.to hev λ_ q=>q);rw[hdf]at d;exact YE (λe a w q=>q.step hev htk) _ _ _ d
def draw0(l:AA AM)(m N:Nat)(ds:AA Nat):Bool:=Nat.ble m l.length&&(ds.length==m)&&G4.dstB N 0 l ds&&CQ.nodupB ds&&CQ.goB l m 0 l
inductive Oq (P:AK) (N:Nat) (l:List AM) (ds:List Nat) (xs:List A) (env0:Env) (H:Qc):Nat->Nat->Prop
 |n {i:Nat}:Oq P N l ds xs env0 H i 0
 |c {i c:Nat} (h:JB P N l ds xs env0 H.length H.length i H H) (k:Oq P N l ds xs env0 H (i+1) c):Oq P N l ds xs env0 H i (c+1)
theorem Oq.get{a:AA Nat}{H:Qc}{b c:Nat}(h:Oq P N l a xs env0 H b c):∀i,i<c->JB P N l a xs env0 H.length H.length (b+i) H H:=by
 induction h with
 |n=>intro i d;omega
 | @c b c h _ ih=>
  intro i d;cases i with
  |zero=>exact h
  |succ i=>
   have:=ih i (by omega);rw[show b+1+i=b+(i+1)by omega]at this;exact this
theorem xe{e:AA Nat}(h:draw0 l m N e=AE):kw l m e [] [] [[]] (List.replicate m [(0,0)]) N:=by
 unfold draw0 at h;simp only[XX]at h;obtain⟨⟨⟨⟨B,z⟩,w⟩,t⟩,y⟩:=h;have r:m<=l.length:=XS B;have p:e.length=m:=by simpa using z
 have g:=ql l 0 y;refine⟨r,λi o f d=>?_,p,t7 t,λi o d=>by have:=(g i o d).1;simpa using this,λo d j x=>fc m (Qh o) (λi f=>.one d f) j ((g m o d).2.1 (by omega) j x),
  λi o f d=>by have:=(g i o d).2.2 (by omega);simpa using this,λi o f d h s=>by simp at s,rfl,λn a=>.inl (by simp at a;simp[a]),λn h s=>by cases n<;>simp at s,λi n f a _ _ _=>?_⟩
 .have k:e[i]?=AC e[i]:=XL (by omega);rcases sh l e 0 w i _ o d k with⟨q,u⟩|q
  .exact .inl ⟨_,q,k,u⟩
  .exact .inr q
 .have:n=0:=by simp at a;exact a
  subst this;refine⟨0,?_,by simp,by simp⟩;rw[VL,List.getElem?_replicate,Vu f];exact VB.2 rfl
theorem QhU{env:Env}{H:Qc}{a:Act}(m:Nat)(n:AA Nat)(xs:AA A)
  (F:P.follows .mixedOrders=AE)(G:Go.Sw.draw0 l m N n=AE)(y:Nat.beq xs.length m=AE)(t:Nat.ble h0 H.length=AE)
  (u:Oq P N l n xs env H 0 m)(r:C0 fr ro σ H env N a w)(k:Iu rd fr w)
  (E:∀ro' σ' a' w',C0 fr ro' σ' H (H_ n xs env) N a' w'->Qm fr ro w ro' w'->σ'.take h0=σ.take h0->a'.defers=a.defers->D_ P rd l.toArray R (l.drop m) a' w'):(Code.region id l.toArray AE).wpIn (WF rd) 0 P R a w:=by
 have ok:=xe G;have h:=XR y;have j:Qm fr ro w ro {w with drawn:=w.drawn+1}:=⟨λ_ q=>q,λ_ _=>rfl,λ_ _=>rfl,XU _,λ_ _ q=>q,rfl,rfl,rfl,Nat.le_succ _⟩;have f:Cx ro σ w ro σ {w with drawn:=w.drawn+1}:=j.ext0 σ;have g:B9 fr ro σ H {w with drawn:=w.drawn+1}:=r.sim.heap rfl;have e:∀i,¬Dg (Array.replicate l.length AD) i:=by
  intro i q;unfold Dg at q;rw[Array.getElem?_replicate]at q;split at q<;>simp at q
 refine wpIn_region_any F ?_;rw[List.size_toArray];refine rF (hB:=H.length) (hE:=H.length) (Hs:=[H]) (Hk:=H) ok h rfl (XS t) (XU _) (λX hX=>by rw[VB.1 hX];exact XU _) ?_ rfl (ro0:=ro) (σ0:=σ) (w0:=w) (ds0:=a.defers) E r.defers k
  l.length _ a _ ro σ 0 (by simp) ?_ (λi _=>e i) (by simp) g r.size rfl (λi d x q=>absurd q (e i)) (λs _=>(r.env s).mono f) j rfl (λp L J=>by omega)
  (λi _ q=>absurd q (e i)) (λi _ _=>⟨λq=>absurd q (e i),λq=>by cases q⟩) (λi o q=>absurd q (e i))
 .intro i p B z;rw[VL,List.getElem?_replicate,Vu B]at z;obtain rfl:=VB.1 z;have:=u.get i B;rw[Xx]at this;exact this
 .unfold MS;simp[List.countP_replicate]
theorem TC.draw0{P:AK}{h0 N:Nat}{id:Nat}{l:AA AM}{env:Env}{H:Qc}{Q:QP}(m:Nat)(f:AA Nat)(xs:AA A)
  (n:P.follows .mixedOrders=AE)(p:Go.Sw.draw0 l m N f=AE)(i:Nat.beq xs.length m=AE)(g:Nat.ble h0 H.length=AE)
  (h:Oq P N l f xs env H 0 m)(j:WO P h0 N l.toArray (l.drop m) (H_ f xs env) H Q):TC P h0 N (.region id l.toArray AE) env H Q:=by
 intro s k t σ a w r hrd;refine Code.wpIn_mono (λe a w q=>He.postW q) (QhU m f xs n p i g h r hrd λro' σ' a' w' hr hev htk hdf=>?_);have d:=j s k ro' σ' a' w' hr (hrd.to hev λ_ q=>q);rw[hdf]at d;exact YE (λe a w q=>q.step hev htk) _ _ _ d
section
variable {P:AK} {N:Nat} {l:AA AM} {ds af bf:AA Nat} {xs:AA A} {env0 e r:Env} {H H':Qc} {i hB hE:Nat} {o:AM} {d s:Nat} {x a:A}
theorem sN:Sb af bf ds xs env0 []:=.nil
theorem sD(j:Nat)(k:Sb af bf ds xs env0 r)(d:af.contains j=true:=by rfl)(h2:ds[j]?=AC s:=by rfl)(h3:xs[j]?=AC a:=by rfl):Sb af bf ds xs env0 ((s,a)::r):=.dep j d h2 h3 k
theorem sP(j:Nat)(k:Sb af bf ds xs env0 r)(d:bf.contains j=true:=by rfl)(h2:ds[j]?=AC s:=by rfl)(h3:lk env0 s=a:=by rfl):Sb af bf ds xs env0 ((s,a)::r):=.pre j d h2 h3 k
theorem tn(H:Qc):JS hB hE H H=true:=by
 unfold JS;refine Xu.2 λp _=>?_;cases Mz H[hB+p]? <;>rfl
theorem Om(a:l[i]?=AC o)(f:Sb (Qh o) (Mo l i) ds xs env0 e)(h:WO P H.length N l.toArray [o] e H (Y0 (up e d x) H))(g:o.dst=AC d:=by rfl)(hx:xs[i]?=AC x:=by rfl):JB P N l ds xs env0 hB hE i H H:=
 .mk o e d x a g hx (tn H) f h
theorem IB(a:l[i]?=AC o)(f:Sb (Qh o) (Mo l i) ds xs env0 e)(h:WO P H.length N l.toArray [o] e H (Y0 (up e d x) H'))(g:o.dst=AC d:=by rfl)(hx:xs[i]?=AC x:=by rfl)(hdd:JS hB hE H H'=true:=by rfl):JB P N l ds xs env0 hB hE i H H':=
 .mk o e d x a g hx hdd f h
theorem gB(a:l[i]?=AC o)(d:Sb (Qh o) (Mo l i) ds xs env0 e)(h:WO P H.length N l.toArray [o] e H (Y0 e H'))(f:o.dst=none:=by rfl)(hx:xs[i]?=AC .any:=by rfl)(hdd:JS hB hE H H'=true:=by rfl):JB P N l ds xs env0 hB hE i H H':=
 .unit o e a f hx hdd d h
end
structure RV where
 fld:List (Nat×Nat×Nat)
 agg:List (Nat×Bool×Nat)
 zer:List (Nat×List A×List (Nat×Nat))
structure RU (P:AK) (T:RV):Prop where
 fld:∀e∈T.fld,∃n,QT P e.1 e.2.1 e.2.2 n
 agg:∀e∈T.agg,(∀w,(isAgg e.1).run P w=.ok e.2.1 w)/\ ∀w,(sizeOf e.1).run P w=.ok e.2.2 w
 zer:∀e∈T.zer,(∃z,(∀w,(zeroValue e.1).run P w=.ok z w)/\ZR (.agg e.2.1) z)/\T9 P e.1 e.2.2
def Zo:AA (Nat×Nat×Nat)->Nat->Nat->AB Nat
 |[],_,_=>AF
 |(a,b,c)::r,t,f=>bif Nat.beq a t&&Nat.beq b f then AC c else Zo r t f
def Hw{β:Type}:AA (Nat×β)->Nat->AB β
 |[],_=>AF
 |(a,b)::r,t=>bif Nat.beq a t then AC b else Hw r t
theorem qj{l:AA (Nat×Nat×Nat)}{f c:Nat}(h:Zo l t f=AC c):(t,f,c)∈l:=by
 induction l with
 |nil=>cases h
 |cons x r e=>
  obtain⟨a,b,d⟩:=x;unfold Zo at h;cases q:(Nat.beq a t&&Nat.beq b f)with
  |true=>
   simp_all
  |false=>grind
theorem M1{β:Type}{l:AA (Nat×β)}{c:β}(h:Hw l t=AC c):(t,c)∈l:=by
 induction l with
 |nil=>cases h
 |cons x r d=>
  obtain⟨a,b⟩:=x;unfold Hw at h;cases q:Nat.beq a t with
  |true=>
   simp_all
  |false=>grind
def lY(H:Qc):A->AB (AA A)
 |.rp cs=>AC cs
 |.ptr i off=>match H[i]? with
  |some (.cells _ cs)=>AC (cs.drop off)
  |_=>AF
 |_=>AF
theorem Qk1{H:Qc}{p:A}{a:AA A}(h:lY H p=AC a):DP H p a:=by
 unfold lY at h;split at h
 .cases h;exact DP.rp
 .split at h
  .rename_i d;cases h;exact DP.cells d rfl
  .cases h
 .cases h
def lA(T:RV)(o:AM)(env:Env)(H:Qc):AB A:=
 match o.op with
 |.move x=>AC (Bu env x)
 |.assign x=>AC (Bu env x)
 |.fieldAddr t x f=>match Zo T.fld t f with
  |none=>AF
  |some off=>match Bu env x with
   |.ptr i p=>AC (.ptr i (p+off))
   |.rp cs=>AC (.rp (cs.drop off))
   |_=>AF
 |.load t x=>match Hw T.agg t with
  |none=>AF
  |some (b,n)=>match x with
   |.global g=>match L9[g]? with
    |some zs=>bif b&&Nat.beq zs.length n then AC (.agg (zs.map (A.int .i64)))else AF
    |none=>AF
   |x=>match lY H (Bu env x)with
    |none=>AF
    |some cs=>bif b then(bif Nat.beq (cs.take n).length n then AC (.agg (cs.take n))else AF)else cs.head?
 |.build t parts=>match Hw T.zer t with
  |none=>AF
  |some (zs,pl)=>match PT env pl zs parts.toList with
   |some cs=>AC (.agg cs)
   |none=>AF
 |.extract x i=>match Bu env x with
  |.tup vs=>vs[i]?
  |_=>AF
 |.makeFunc f first cap=>AC (.fn f (first.toList.map (Bu env)) (cap.toList.map (Bu env)))
 |_=>AF
theorem yc{T:RV}(j:RU P T){o:AM}{env:Env}{H:Qc}{x:A}(h:lA T o env H=AC x):Bz P o env H x:=by
 unfold lA at h;split at h
 .simp_all[Bz.move]
 .simp_all[Bz.assign]
 .rename_i t y f a;split at h
  .cases h
  .rename_i s i;obtain⟨n,m⟩:=j.fld _ (qj i);split at h
   .grind[m3]
   .rename_i e w;cases h;exact tB m a w rfl
   .cases h
 .rename_i t y a;split at h
  .cases h
  .rename_i b n p;obtain⟨d,g⟩:=j.agg _ (M1 p);split at h
   .split at h
    .rename_i l r;cases q:(b&&Nat.beq l.length n)with
     |false=>grind
     |true=>
      rw[q]at h;cases h;simp[XX]at q;obtain⟨rfl,J⟩:=q;exact sT d g r (by simp_all) a
    .cases h
   .split at h
    .cases h
    .rename_i e u;have k:=Qk1 u;cases b with
     |true=>
      cases q:Nat.beq (e.take n).length n with
      |false=>grind
      |true=>
       rw[q]at h;cases h;exact QI a d g rfl k rfl (by simp_all)
     |false=>
      cases e with
      |nil=>cases h
      |cons v e=>cases h;exact Bz.load a d rfl k
 .rename_i t parts a;split at h
  .cases h
  .rename_i l G B;obtain⟨⟨z,d,g⟩,E⟩:=j.zer _ (M1 B);split at h
   .rename_i e i;cases h;exact Bz.build d g E (by rw[a]) i
   .cases h
 .grind[Bz.extract]
 .rename_i f first F a
  cases h;exact Bz.makeFunc (by rw[a]) rfl rfl
 .cases h
def PJ(af:AA Nat):Nat->AA Nat->AA A->Env->Env
 |j,d::ds,x::xs,e=>(d,bif af.contains j then x else .any)::PJ af (j+1) ds xs e
 |_,_,_,e=>e
theorem vY(s:Nat):∀(a:AA Nat) (xs:AA A) (b:Nat),a.length=xs.length->
  (∃(j:Nat) (x:A),a[j]?=AC s/\xs[j]?=AC x/\lk (PJ af b a xs env0) s=bif af.contains (b+j)then x else .any)\/(a.contains s=AD/\lk (PJ af b a xs env0) s=lk env0 s):=by
 intro a
 induction a with
 |nil=>simp_all[PJ]
 |cons d a f=>
  intro xs b h;cases xs with
  |nil=>cases h
  |cons x xs=>
   cases q:Nat.beq s d with
   |true=>
    have e:=XR q;subst e;left;refine⟨0,x,rfl,rfl,?_⟩
    simp_all[PJ,lk]
   |false=>
    have g:s≠d:=λz=>by simp_all
    simp only[PJ,lk,q];rcases f xs (b+1) (by grind)with⟨j,y,k,i,l⟩|⟨k,i⟩
    .left;refine⟨j+1,y,by grind,by grind,?_⟩
     grind
    grind
def dV(T:RV)(N:Nat)(l:AA AM)(ds:AA Nat)(xs:AA A)(env0:Env)(H:Qc)(i:Nat):AB A:=
 match l[i]? with
 |none=>AF
 |some o=>match o.guard,o.dst with
  |none,AC d=>bif Nat.blt d N&&Nat.beq ds.length xs.length then lA T o (PJ (Qh o) 0 ds xs env0) H else AF
  |_,_=>AF
theorem vZ{a:AA Nat}(d:a.length=xs.length):dT af a xs env0 (PJ af 0 a xs env0):=by
 intro s;rcases vY (af:=af) (env0:=env0) s a xs 0 d with⟨j,x,f,e,g⟩|h
 .grind
 grind
theorem vQ{T:RV}(f:RU P T){a:AA Nat}{i:Nat}{H:Qc}{x:A}(e:xs[i]?=AC x)(h:dV T N l a xs env0 H i=AC x):JB P N l a xs env0 hB hE i H H:=by
 unfold dV at h;split at h
 .cases h
 .rename_i o j;split at h
  .rename_i d g k;cases q:(Nat.blt d N&&Nat.beq a.length xs.length)with
   |false=>grind
   |true=>
    rw[q]at h;simp only[XX]at q;exact .val o _ d x j k g e q.1 (vZ (by simp_all)) (yc f h)
  .cases h
abbrev I(n:Int):A:=.int .i64 n
theorem zc{a:A}{v:AL}{al:AA A}{vl:AA AL}(h:ZR a v)(k:ZL al vl):ZL (a::al) (v::vl):=ZL.cons h k
def dF:A->AL->Bool
 |.int k n,.int k' n'=>AG (k=k')&&AG (n=n')
 |.bool b,.bool b'=>b==b'
 |.str s,.string s'=>s.isEmpty&&s'.data.toList.isEmpty
 |.rsl _ es,.slice AF 0 0=>es.isEmpty
 |.nils,.slice AF 0 0=>AE
 |.nilp,.pointer AF=>AE
 |.nilf,.nilFunc=>AE
 |.nilm,.map AF=>AE
 |.nilif,.nilIface=>AE
 |_,_=>AD
def dD:AA A->AA AL->Bool
 |[],[]=>AE
 |a::r,v::s=>dF a v&&dD r s
 |_,_=>AD
def dE:A->AL->Bool
 |.agg r,.agg s=>dD r s.toList
 |a,v=>dF a v
theorem pX{a:A}{v:AL}(h:dF a v=AE):ZR a v:=by
 unfold dF at h;split at h
 .simp_all[ZR.int]
 .simp_all[ZR.bool]
 .rename_i s f;simp[XX]at h;obtain⟨d⟩:=f
  simp_all[ZR.str]
 .rename_i k g;have h:=List.isEmpty_iff.1 h;subst h;exact ZR.rsl (e:=λx=>[x])
 .exact ZR.nils
 .exact ZR.nilp
 .exact ZR.nilf
 .exact ZR.nilm
 .exact wI
 .cases h
theorem pT:∀{r:AA A} {s:AA AL},dD r s=AE->ZL r s
 |[],[],_=>ZL.nil
 |a::r,v::s,h=>by
  simp[dD,XX]at h;exact ZL.cons (pX h.1) (pT h.2)
 |[],_::_,h=>by cases h
 |_::_,[],h=>by cases h
theorem HI{a:A}{v:AL}(h:dE a v=AE):ZR a v:=by
 unfold dE at h;split at h
 .have:=ZR.agg (pT h);omega
 .exact pX h
section
variable {P:AK} {o:AM} {env:Env} {H:Qc}
theorem z7{b:Nat}{l:AA Int}{a:Nat}(h:CR ro σ w b (l.map λn=>A.int .u8 n) a):(loadCells ⟨b,a,AF⟩ l.length).run P w=.ok (l.map λn=>Value.int .u8 n).toArray w:=by
 obtain⟨vs,i,_,j⟩:=Yv (P:=P) 0 (by simpa using h);have e:∀(l:AA Int) (vs:AA AL),LR ro σ w (l.map λn=>A.int .u8 n) vs->vs=l.map λn=>Value.int .u8 n:=by
  intro l
  induction l with
  |nil=>intro vs h;exact h
  |cons n l k=>
   rintro vs ⟨v,f,rfl,g,m⟩;have d:v=.int .u8 n:=g
   grind
 grind[loadCells]
theorem rb:∀(l:AA Int) (acc:ByteArray),l.foldl (λr n=>r.push (UInt8.ofNat n.toNat)) acc=⟨acc.data++(l.map Yd).toArray⟩
 |[],acc=>by simp
 |n::l,acc=>by
  rw[XE,rb l];simp[Yd]
theorem ft{t u e:TypeId}{x:Operand}{ax:A}{l:AA Int}(z:H8 P H ax l)(g:∀w,(underlying t).run P w=.ok (.slice e) w)(he:∀w,(underlying e).run P w=.ok (.int .u8) w)(h:∀w,(underlying u).run P w=.ok .string w)
  (B:o.op=.convert t u x:=by rfl)(hx:Bu env x=ax:=by rfl):Bz P o env H (.str (l.map Yd)):=by
 intro p m σ N a w r;have k:=Qn r x;rw[hx]at k;refine⟨.string ⟨(l.map Yd).toArray⟩,?_,rfl⟩;have q:(convert t u (a.eval x)).run P w=.ok (.string ⟨(l.map Yd).toArray⟩) w:=by
  rcases z p m σ w _ r.sim k with⟨j,c,f,rfl⟩|⟨b,d,c,f,i⟩
  .rw[f];cases j with
   |none=>simp[convert,g,h,he,go_sem];rfl
   |some j=>simp[convert,g,h,he,loadCells,go_sem];rfl
  .rw[f];have s:(loadCells ⟨b,d,AF⟩ l.length).run P w=.ok (l.map λn=>Value.int .u8 n).toArray w:=by
    rcases i with rfl|i
    .rfl
    .exact z7 i
   have y:(convert t u (.slice (AC ⟨b,d,AF⟩) l.length c)).run P w=(Conv.bytesToString (.slice (AC ⟨b,d,AF⟩) l.length c)).run P w:=by
    simp[convert,g,h,he,go_sem]
   rw[y,run_bytesToString w ⟨b,d,AF⟩ l.length c l s,rb];simp
 simp_all[execOp]
theorem yI{t u:TypeId}{x:Operand}{p q:AA UInt8}(ho:o.op=.binOp .gtr t x y u)(hx:Bu env x=.str p)(hy:Bu env y=.str q):Bz P o env H (.bool (!(Op.bytesLess p q||p==q))):=
 fw (f:=λa b=> !(Op.bytesLess a b||a==b)) ho hx hy (by simp)
end
structure Fb where
 ty:RV
 al:List (Nat×A)
 sl:List Nat
structure IA (P:AK) (T:Fb):Prop where
 ty:RU P T.ty
 al:∀e∈T.al,(∃z,(∀w,(zeroValue e.1).run P w=.ok z w)/\ZR e.2 z)/\Yo e.2=AE/\(Yf e.2).all Yr=AE
 sl:∀t∈T.sl,∃et,∀w,(underlying t).run P w=.ok (.slice et) w
def YX(all:Array AM)(o:AM)(env:Env):AB Bool:=
 match o.guard with
 |none=>AC AE
 |some (j,c)=>match(all[j]?).bind (·.dst)with
  |none=>AF
  |some d=>match lk env d with
   |.bool AE=>AC c
   |.bool AD=>AC (!c)
   |.tup []=>AC AD
   |_=>AF
theorem QL{all:Array AM}{o:AM}{env:Env}{b:Bool}(h:YX all o env=AC b):QE all o env b:=by
 unfold YX at h;unfold QE;split at h
 .grind
 .rename_i j c q;rw[q];split at h
  .cases h
  .rename_i d a;refine⟨d,a,?_⟩;split at h
   .simp_all
   .simp_all
   .grind
   .cases h
def JX:AA Nat->Nat->Bool
 |[],_=>AD
 |a::r,t=>bif Nat.beq a t then AE else JX r t
theorem mE{l:AA Nat}(h:JX l t=AE):t∈l:=by
 induction l with
 |nil=>cases h
 |cons a r d=>
  grind[JX,Nat.eq_of_beq_eq_true]
inductive FL where
 |mk (l:List A)
def fl:AA A->FL
 |[]=>.mk []
 |a::r=>match fl r with
  |.mk r'=>.mk (a::r')
theorem MD:∀l:AA A,fl l=.mk l
 |[]=>rfl
 |a::r=>by unfold fl;rw[MD r]
inductive FB where
 |mk (l:List B8)
def fb:AA B8->FB
 |[]=>.mk []
 |a::r=>match fb r with
  |.mk r'=>.mk (a::r')
theorem T3:∀l:AA B8,fb l=.mk l
 |[]=>rfl
 |a::r=>by unfold fb;rw[T3 r]
inductive FN where
 |mk (n:Nat)
def fn:AA B8->Nat->FN
 |[],n=>.mk n
 |_::r,n=>fn r (n+1)
theorem dY:∀(l:AA B8) (n:Nat),fn l n=.mk (l.length+n)
 |[],n=>by simp[fn]
 |a::r,n=>by unfold fn;rw[dY r];simp;omega
def dX(env:Env)(pl:AA (Nat×Nat)):AA A->AA (Nat×Operand)->AB (AA A)
 |cs,[]=>AC cs
 |cs,(i,x)::r=>match YW pl i with
  |none=>AF
  |some (off,size)=>match Cy env x with
   |.mk a=>match fl (Yf a)with
    |.mk vs=>bif Yo a&&Nat.beq vs.length size&&Nat.ble (off+size) cs.length then(match fl (splice cs off vs)with
     |.mk cs'=>dX env pl cs' r)else AF
theorem qg{env:Env}{pl:AA (Nat×Nat)}:∀(parts:AA (Nat×Operand)) (cs:AA A),dX env pl cs parts=PT env pl cs parts
 |[],cs=>rfl
 |(i,x)::r,cs=>by
  unfold dX PT;rw[MG];cases pl[i]? with
  |none=>rfl
  |some q=>
   obtain⟨off,size⟩:=q;cases h:Cy env x with
   |mk a=>
    rw[QU h];simp only[MD];cases(Yo a&&Nat.beq (Yf a).length size&&Nat.ble (off+size) cs.length)with
    |false=>rfl
    |true=>exact qg r _
def PI(env:Env):AA Operand->AA A
 |[]=>[]
 |x::r=>match Cy env x with
  |.mk a=>a::PI env r
theorem Z6{env:Env}:∀l:AA Operand,PI env l=l.map (Bu env)
 |[]=>rfl
 |x::r=>by
  unfold PI;cases h:Cy env x with
  |mk a=>rw[Vk,QU h];show a::PI env r=_;rw[Z6 r]
def MW(H:Qc):Bx->AB Lx
 |.mk (.rp cs)=>AC (.mk cs)
 |.mk (.ptr i off)=>match YW H i with
  |some (.cells _ cs)=>AC (Zt off cs)
  |_=>AF
 |_=>AF
theorem uv{H:Qc}{p:A}{a:AA A}(h:MW H (.mk p)=AC (.mk a)):DP H p a:=by
 unfold MW at h
 grind[DP.rp,MG,DP.cells,mK]
def HZ(T:Fb)(o:AM)(env:Env)(H:Qc):AB A:=
 match o.op with
 |.move x=>match Cy env x with|.mk a=>AC a
 |.assign x=>match Cy env x with|.mk a=>AC a
 |.nilCheck x=>gY (Cy env x)
 |.extract x i=>kj (Cy env x) i
 |.unOp u _ x=>gL u (Cy env x)
 |.pick c x y=>gW (Cy env c) (Cy env x) (Cy env y)
 |.binOp b _ x y _=>ku b (Cy env x) (Cy env y)
 |.fieldAddr t x f=>match Zo T.ty.fld t f with
  |none=>AF
  |some off=>match Cy env x with
   |.mk (.ptr i p)=>AC (.ptr i (p+off))
   |.mk (.rp cs)=>match Zt off cs with
    |.mk r=>AC (.rp r)
   |_=>AF
 |.load t x=>match Hw T.ty.agg t with
  |none=>AF
  |some (b,n)=>match x with
   |.global g=>match YW L9 g with
    |some zs=>bif b&&Nat.beq zs.length n then(match fl (zs.map (A.int .i64))with|.mk l=>AC (.agg l))else AF
    |none=>AF
   |x=>match MW H (Cy env x)with
    |none=>AF
    |some (.mk cs)=>match b with
     |true=>(match fl (cs.take n)with|.mk l=>bif Nat.beq l.length n then AC (.agg l)else AF)
     |false=>(match cs with|[]=>AF|a::_=>AC a)
 |.build t parts=>match Hw T.ty.zer t with
  |none=>AF
  |some (zs,pl)=>match dX env pl zs parts.toList with
   |some cs=>AC (.agg cs)
   |none=>AF
 |.makeFunc f first cap=>match fl (PI env first.toList),fl (PI env cap.toList)with
  |.mk l,.mk l'=>AC (.fn f l l')
 |.call c=>match c with
  |{callee:=.builtin .len,args:=⟨[x]⟩,argTypes:=⟨[t]⟩}=>bif JX T.sl t then(match Cy env x with
   |.mk (.osl _ 0 n _)=>AC (.int .i64 n)
   |_=>AF)else AF
  |_=>AF
 |_=>AF
theorem MI{T:Fb}(l:IA P T){o:AM}{env:Env}{H:Qc}{x:A}(h:HZ T o env H=AC x):Bz P o env H x:=by
 unfold HZ at h;split at h
 .simp_all[PX,Ke]
 .simp_all[PX,Ke]
 .simp_all[PX,Ke]
 .simp_all[PX,Ke]
 .simp_all[PX,Ke]
 .simp_all[PX,Ke]
 .simp_all[PX,Ke]
 .rename_i t y f a;split at h
  .cases h
  .rename_i u s;obtain⟨n,O⟩:=l.ty.fld _ (qj s);split at h
   .grind[m3,QU]
   .rename_i m Q;cases q:Zt u m with
    |mk r=>rw[q]at h;grind[tB,QU,mK]
   .cases h
 .rename_i t y a;split at h
  .cases h
  .rename_i b n L;obtain⟨j,d⟩:=l.ty.agg _ (M1 L);split at h
   .rename_i g;split at h
    .rename_i w B;rw[MG]at B;cases q:(b&&Nat.beq w.length n)with
     |false=>grind
     |true=>
      rw[q,MD]at h;cases h;simp only[XX]at q;obtain⟨rfl,E⟩:=q;exact sT j d B (by simp_all) a
    .cases h
   .cases e:Cy env y with
    |mk p=>
     rw[e]at h;split at h
     .cases h
     .rename_i m F;have G:=uv F;cases b with
      |true=>
       simp only[MD]at h;cases q:Nat.beq (m.take n).length n with
       |false=>grind
       |true=>
        rw[q]at h;cases h;exact QI a j d (QU e) G rfl (by simp_all)
      |false=>
       grind[Bz.load,QU]
 .rename_i t parts a;split at h
  .cases h
  .rename_i w R M;obtain⟨⟨z,j,d⟩,N⟩:=l.ty.zer _ (M1 M);split at h
   .rename_i m s;cases h;rw[qg]at s;exact Bz.build j d N (by rw[a]) s
   .cases h
 .rename_i f first cap a
  simp only[MD]at h;cases h;rw[Z6,Z6];exact Bz.makeFunc (first:=first.toList) (cap:=cap.toList) (by rw[a]) rfl rfl
 .rename_i c a;split at h
  .rename_i y t;cases q:JX T.sl t with
   |false=>grind
   |true=>
    rw[q]at h;simp only[Vq]at h;obtain⟨V,J⟩:=l.sl t (mE q);split at h
    .rename_i i n k E;cases h;exact yH J a rfl (QU E)
    .cases h
  .cases h
 .cases h
def dG(T:Fb)(h0 N:Nat)(all:Array AM)(o:AM)(env:Env)(H:Qc):AB (Env×Qc):=
 match YX all o env with
 |none=>AF
 |some AD=>match o.dst with
  |none=>AF
  |some d=>bif Nat.blt d N then AC (up env d (.tup []),H)else AF
 |some AE=>match o.dst with
  |none=>match o.op with
   |.store t x y=>match Cy env x,Hw T.ty.agg t with
    |.mk (.ptr i off),AC (_,n)=>match YW H i with
     |some (.cells S cs)=>match Cy env y with
      |.mk a=>match fl (Yf a)with
       |.mk vs=>bif Nat.ble h0 H.length&&(Yo a&&(Nat.beq vs.length n&&(vs.all Yr&&Nat.ble (off+n) cs.length)))then(match fl (splice cs off vs)with
        |.mk cs'=>match fb (H.set i (.cells S cs'))with
         |.mk H'=>AC (env,H'))else AF
     |_=>AF
    |_,_=>AF
   |_=>AF
  |some d=>bif Nat.blt d N then(match o.op with
   |.alloc t=>match Hw T.al t with
    |some v=>bif Nat.ble h0 H.length then(match fn H 0,fl (Yf v)with
     |.mk n,.mk cs=>match fb (H++[.cells t cs])with
      |.mk H'=>AC (up env d (.ptr n 0),H'))else AF
    |none=>AF
   |.box t x=>match Cy env x with
    |.mk a=>bif Nat.ble h0 H.length&&(Yo a&&(Yf a).all Yr)then(match fn H 0,fl (Yf a)with
     |.mk n,.mk cs=>match fb (H++[.cells t cs])with
      |.mk H'=>AC (up env d (.ptr n 0),H'))else AF
   |_=>match HZ T o env H with
    |some a=>AC (up env d a,H)
    |none=>AF)else AF
def Pt(T:Fb)(h0 N:Nat)(all:Array AM):Nat->AA AM->Env->Qc->AB (AA AM×Env×Qc)
 |0,l,env,H=>AC (l,env,H)
 |_+1,[],_,_=>AF
 |n+1,o::l,env,H=>match dG T h0 N all o env H with
  |some (env',H')=>Pt T h0 N all n l env' H'
  |none=>AF
section
variable {P:AK} {T:Fb} {h0 N:Nat} {all:Array AM} {l l':AA AM} {env env':Env} {H H':Qc} {Q:QP}
theorem lN(p:IA P T){o:AM}(h:dG T h0 N all o env H=AC (env',H'))(k:WO P h0 N all l env' H' Q):WO P h0 N all (o::l) env H Q:=by
 unfold dG at h;split at h
 .cases h
 .grind[QL,WO.skip]
 .rename_i L;have j:=QL L;split at h
  .rename_i g;split at h
   .rename_i t x y f;split at h
    .rename_i i m b n B w;split at h
     .rename_i S cs hH;rw[MG]at hH;cases e:Cy env y with
      |mk a=>
       rw[e]at h;simp only[MD,T3]at h;generalize hc:(Nat.ble h0 H.length&&(Yo a&&(Nat.beq (Yf a).length n&&((Yf a).all Yr&&Nat.ble (m+n) cs.length))))=c at h;cases c with
       |false=>cases h
       |true=>
        cases h;simp only[XX]at hc;obtain⟨c1,r,s,E,V⟩:=hc;obtain⟨_,J⟩:=p.ty.agg _ (M1 w);exact o8 (by simp_all) j g (Hx.store f (QU B) hH J (QU e) r rfl (by simp_all) E V rfl) k
     .cases h
    .cases h
   .cases h
  .rename_i d g;cases q:Nat.blt d N with
   |false=>grind
   |true=>
    rw[q]at h;simp only[Vq]at h;split at h
    .rename_i t f;split at h
     .rename_i v G;cases c:Nat.ble h0 H.length with
      |false=>grind
      |true=>
       rw[c]at h;simp only[MD,T3,dY,Vq,Xy]at h;cases h;obtain⟨⟨z,u,F⟩,M,O⟩:=p.al _ (M1 G);exact eG (by simp_all) j g q (f6 u F f M rfl O) k
     .cases h
    .rename_i t x f;cases e:Cy env x with
     |mk a=>
      rw[e]at h;simp only[MD,T3,dY,Xy]at h;generalize hc:(Nat.ble h0 H.length&&(Yo a&&(Yf a).all Yr))=c at h;cases c with
      |false=>cases h
      |true=>
       cases h;simp only[XX]at hc;obtain⟨c1,r,s⟩:=hc;exact eG (by simp_all) j g q (Do.box f (QU e) r rfl s) k
    .split at h
     .rename_i a R;cases h;exact YJ j g q (MI p R) k
     .cases h
theorem AU(hT:IA P T):∀(n:Nat) {l l':AA AM} {env env':Env} {H H':Qc},Pt T h0 N all n l env H=AC (l',env',H')->WO P h0 N all l' env' H' Q->WO P h0 N all l env H Q
 |0,l,l',env,env',H,H',h,k=>by cases h;exact k
 |n+1,[],l',env,env',H,H',h,k=>by cases h
 |n+1,o::l,l',env,env',H,H',h,k=>by
  unfold Pt at h;split at h
  .rename_i e1 H1 hs;exact lN hT hs (AU hT n h k)
  .cases h
end
theorem FA{T f off n:Nat}{fs:Array Field}{a:Field}(g:∀w,(underlying T).run P w=.ok (.struct fs) w)(d:fs[f]?=AC a)(e:∀w,(sizeOf a.type).run P w=.ok n w)(h:a.offset=off:=by rfl)(h5:n≠0:=by decide):QT P T f off n:=⟨_,_,g,d,h,e,h5⟩
theorem td:∀(π:AA Nat) (H:Qc) (xs:AA B8),π.map (λp=>H[p]?)=xs.map AC->Yj H π xs=H
 |[],H,xs,h=>by
  simp_all[Yj]
 |p::π,H,[],h=>by simp at h
 |p::π,H,x::xs,h=>by
  simp only[Vk,List.cons.injEq]at h;have e:H.set p x=H:=by
   apply List.ext_getElem?
   grind
  unfold Yj;rw[e];exact td π H xs h.2
def Tv:A->AB Bx
 |.bool b=>AC (.mk (.bool b))
 |.int k n=>AC (.mk (.int k n))
 |.str s=>AC (.mk (.str s))
 |.rsl k es=>AC (.mk (.rsl k es))
 |_=>AF
theorem wx{v a:A}(h:Tv v=AC (.mk a))(ρ:Nat->Nat):Y6 ρ v=a:=by
 cases v<;>first|(cases h;rfl)|cases h
theorem Pc{all:Array AM}{o:AM}{env:Env}{H:Qc}{Q:QP}{d:Nat}{f:FuncId}{args e:AA A}{v h:A}(π:AA Nat)(j:o.dst=AC d)(g:DN P o env H f args)(i:C P f e Hc (λa H1=>a=v/\H1=Hc))(m:Tv v=AC (.mk h))
  (k:WO P h0 N all l (up env d h) H Q)
  (hargs:args=Fd (CF π H.length) e:=by rfl)(hH:π.map (λp=>H[p]?)=(Hc.map (Q1 (CF π H.length))).map some:=by rfl)(hπ:π.Nodup:=by decide)
  (hg:QE all o env true:=by rfl)(hN:Nat.blt d N=true:=by rfl)(hh:Nat.ble h0 H.length=true:=by rfl):WO P h0 N all (o::l) env H Q:=by
 refine Qs π g i ?_ hargs hH hπ hg j hN hh
 simp_all[wx,td]
theorem KZ{i k:Nat}{es:AA (AA A)}:∀H:Qc,FT i k es H H
 |[]=>.nil
 |_::r=>.keep (KZ r)
def Mi:Nat->FN
 |0=>.mk 0
 |n+1=>match Mi n with
  |.mk m=>.mk (m+1)
theorem Z4:∀n,Mi n=.mk n
 |0=>rfl
 |n+1=>by unfold Mi;rw[Z4 n]
mutual
def KQ:A->Bx
 |.agg cs=>match Mj cs with
  |.mk l=>.mk (.agg l)
 |.tup cs=>match Mj cs with
  |.mk l=>.mk (.tup l)
 |.fn f a c=>match Mj a,Mj c with
  |.mk l,.mk l'=>.mk (.fn f l l')
 |.iface t v=>match KQ v with
  |.mk v'=>.mk (.iface t v')
 |.ptr i off=>match Mi i with
  |.mk i'=>.mk (.ptr i' off)
 |.osl i o n k=>match Mi i with
  |.mk i'=>.mk (.osl i' o n k)
 |.map i=>match Mi i with
  |.mk i'=>.mk (.map i')
 |a=>.mk a
def Mj:AA A->FL
 |[]=>.mk []
 |a::r=>match KQ a,Mj r with
  |.mk a',.mk r'=>.mk (a'::r')
end
mutual
theorem d_:∀a:A,KQ a=.mk a
 |.agg cs=>by unfold KQ;rw[Ro cs]
 |.tup cs=>by unfold KQ;rw[Ro cs]
 |.fn f a c=>by unfold KQ;rw[Ro a,Ro c]
 |.iface t v=>by unfold KQ;rw[d_ v]
 |.ptr i off=>by unfold KQ;rw[Z4]
 |.osl i o n k=>by unfold KQ;rw[Z4]
 |.map i=>by unfold KQ;rw[Z4]
 |.any|.bool _|.int _ _|.str _|.nilp|.rp _|.nils|.rsl _ _|.nilf|.nilif|.nilm=>by rfl
theorem Ro:∀l:AA A,Mj l=.mk l
 |[]=>by rfl
 |a::r=>by unfold Mj;rw[d_ a,Ro r]
end
inductive FE2 where
 |mk (l:List (List A))
def dP:AA (AA A)->FE2
 |[]=>.mk []
 |a::r=>match Mj a,dP r with
  |.mk a',.mk r'=>.mk (a'::r')
theorem pC:∀l,dP l=.mk l
 |[]=>rfl
 |a::r=>by unfold dP;rw[Ro,pC r]
def W9:AA B8->FB
 |[]=>.mk []
 |b::r=>match W9 r with
  |.mk r'=>match b with
   |.cells t cs=>match Mj cs with
    |.mk l=>.mk (.cells t l::r')
   |.rowr t k es=>match dP es with
    |.mk l=>.mk (.rowr t k l::r')
   |.dead=>.mk (.dead::r')
   |.row t k es=>.mk (.row t k es::r')
   |.map es=>.mk (.map es::r')
   |.iter c es=>.mk (.iter c es::r')
   |.fmap es=>.mk (.fmap es::r')
   |.mapO fz t k es=>.mk (.mapO fz t k es::r')
   |.mapP es=>.mk (.mapP es::r')
   |.frow t k es=>.mk (.frow t k es::r')
   |.wins t a n c=>match Mi a with
    |.mk a'=>.mk (.wins t a' n c::r')
   |.ents t a b es=>match Mi a,Mi b with
    |.mk a',.mk b'=>.mk (.ents t a' b' es::r')
theorem lT:∀l,W9 l=.mk l
 |[]=>rfl
 |b::r=>by
  unfold W9;rw[lT r];cases b<;>simp only[Ro,pC,Z4]
def dO(env:Env)(H:Qc):AB (Env×Qc):=
 match W9 H with
 |.mk H'=>match env with
  |[]=>AC ([],H')
  |(d,a)::e=>match KQ a with
   |.mk a'=>AC ((d,a')::e,H')
theorem uf(env:Env)(H:Qc):dO env H=AC (env,H):=by
 unfold dO;rw[lT];cases env with
 |nil=>rfl
 |cons p e=>obtain⟨d,a⟩:=p;simp only[d_]
theorem FE{all:Array AM}{env env':Env}{H:Qc}{Q:QP}(h:dO env H=AC (env',H'))(k:WO P h0 N all l env' H' Q):WO P h0 N all l env H Q:=by
 rw[uf]at h
 grind
def Ml(b1 b2:Nat):AA (AA A)->AB (AA Ce)
 |[]=>AC []
 |[.ptr b off,.int .i64 lo,.int .i64 hi]::r=>match Ml b1 b2 r with
  |none=>AF
  |some l=>match Nat.beq b b2 with
   |true=>AC (⟨AE,off,lo,hi⟩::l)
   |false=>match Nat.beq b b1 with
    |true=>AC (⟨AD,off,lo,hi⟩::l)
    |false=>AF
 |_=>AF
theorem vW:∀{es:AA (AA A)} {l:AA Ce},Ml b1 b2 es=AC l->l.map (eC b1 b2)=es:=by
 intro es
 induction es with
 |nil=>intro l h;cases h;rfl
 |cons e r a=>
  intro l h;unfold Ml at h;split at h
  .grind
  .rename_i b d lo j i q;cases q;split at h
   .cases h
   .rename_i g f;have e:=a f;split at h
    .rename_i q;cases h;have:=XR q;subst this;rw[Vk,e];rfl
    .split at h
     .rename_i q;cases h;have:=XR q;subst this;rw[Vk,e];rfl
     .cases h
  .cases h
theorem TE{all:Array AM}{env:Env}{H:Qc}{Q:QP}{L:AA Ce}(i b1 b2:Nat)(hH:H[i]?=AC (.rowr t 3 es))(h:Ml b1 b2 es=AC L)
  (k:WO P h0 N all l env (H.set i (.ents t b1 b2 L)) Q):WO P h0 N all l env H Q:=WO.le (yA hH (vW h)) k
theorem R1{fn:Func}{env:Env}{H:Qc}{v:A}(s:Nat)(hr:fn.results= #[.tmp s])(hle:Le h0 env H [(s,v)] Hc):M2 P h0 fn (λa H=>a=v/\H=Hc) .ret env H:=
 ⟨[(s,v)],Hc,v,hle,Hv.one hr (by simp_all[lk]),rfl,rfl⟩
theorem R2{fn:Func}{env:Env}{H:Qc}{v v':A}(s t:Nat)(hr:fn.results= #[.tmp s,.tmp t])(hn:Nat.beq t s=AD)(hle:Le h0 env H [(s,v),(t,v')] Hc):M2 P h0 fn (λa H=>a=.tup [v,v']/\H=Hc) .ret env H:=
 ⟨[(s,v),(t,v')],Hc,_,hle,yO hr (by simp_all[lk]) (by simp_all[lk]),rfl,rfl⟩
theorem D9.o{i n:Nat}(a:n=es.length:=by first|exact(X3 ..).symm|exact rfl):D9 i k es (.osl i 0 n k) (.rsl k es):=D9.own a
theorem Le.env{e:Nat}{env env':Env}{H:Qc}(h:∀s,lk env' s=.any\/lk env' s=lk env s):Le e env H env' H:=by
 intro f d σ N a w r;refine⟨d,σ,⟨r.sim,λs=>?_,r.size,r.defers⟩,λ_ q=>q,rfl⟩;rcases h s with h|h
 .rw[h];trivial
 .rw[h];exact r.env s
def dR(env:Env):Env->Prop
 |[]=>True
 |(s,a)::r=>lk env s=a/\dR env r
theorem dR.ok{env:Env}:∀{env':Env},dR env env'->∀s,lk env' s=.any\/lk env' s=lk env s
 |[],_,s=>.inl rfl
 |(d,a)::e,⟨h1,h2⟩,s=>by
  by_cases q:s=d
  .simp_all[lk]
  .have:Nat.beq s d=false:=by
    simp_all[VM]
   simp only[lk,this,Vr];exact dR.ok h2 s
def ixO(d:Nat)(op:Op)(t:Nat)(pos:String)(af:Array Edge):AM:={dst:=AC d,op:=op,type:=t,pos:=pos,after:=af,guard:=AF}
end Go.Sw
