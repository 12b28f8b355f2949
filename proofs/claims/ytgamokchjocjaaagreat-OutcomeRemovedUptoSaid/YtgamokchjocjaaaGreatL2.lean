/- The rules by which the code is walked, with what they rest on (part 2). -/
import Derived.Test.YtgamokchjocjaaaGreatL1
import Derived.Below
import GoSem.ClaimChange
import Derived.Shelf.Strings.Search3
import Derived.Lib.LazyBuf
import Derived.Shelf.Sort.Plain
import Derived.Shelf.Slices.In.SortNone
import Derived.Shelf.Slices.CompactI
import Derived.RangeFuncIn
import Derived.RangeFuncSeq
import Derived.RangeFuncNested
import Derived.Lib.Bytealg
import Derived.Laws.Externs
import Derived.LaidLaws
import Derived.Lib.LaidTab
import Derived.ChangeArms
import Derived.ChangeSame
import Derived.Laws.BytesString
set_option linter.unusedVariables false
set_option linter.unusedSectionVars false
set_option linter.unusedSimpArgs false
namespace Go.Sw
open Option renaming some→AC,none→AF
open Bool renaming false→AD,true→AE
open Decidable renaming decide→AG
open Go renaming World→AJ,Program→AK,Value→AL,Oper→AM
open Go.Sort Go.Proofs Go.Shelf
theorem sn{α:Type}{k:Nat}:∀(vs:AA (AA α)) (j:Nat),(∀v∈vs,v.length=k)->j<vs.length*k->vs.flatten[j]?=(vs[j/k]?).bind λv=>v[j%k]?
 |[],j,_,h=>by simp at h
 |v::vs,j,hk,h=>by
  have hv:=hk v (by simp);have k0:0<k:=by
   rcases Nat.eq_zero_or_pos k with q|q
   .subst q;simp at h
   .exact q
  rw[Vm];by_cases q:j<k
  .rw[XM (by omega),Nat.div_eq_of_lt q,Nat.mod_eq_of_lt q];simp
  .rw[XN (by omega),hv,sn vs (j-k) (λv hv=>hk v (by simp[hv])) (by simp[Xm]at h;omega)];have d:j/k=(j-k)/k+1:=by rw[Nat.div_eq_sub_div k0 (by omega)]
   have f:j%k=(j-k)%k:=Nat.mod_eq_sub_mod (by omega);rw[d,f,XF]
theorem dY{α:Type}{k:Nat}:∀(vs:AA (AA α)),(∀v∈vs,v.length=k)->vs.flatten.length=vs.length*k
 |[],_=>by simp
 |v::vs,h=>by rw[Vm,X3,dY vs (λv hv=>h v (by simp[hv])),h v (by simp),X0,Xm];omega
theorem dR{α:Type}(F:AA α)(j:Nat):F.toArray[j]?=F[j]? :=by simp
theorem qU{α:Type}[Inhabited α](F:AA α)(j:Nat)(h:j<F.length):F[j]?=AC (F.toArray[j]!):=by simp[h]
theorem qQ{β:Type}[Inhabited β]{enc:β->AA AL}{k:Nat}(g:∀x,(enc x).length=k)(d:Array β):flatK enc k d=((d.toList.map enc).flatten).toArray:=by
 have j:∀v∈d.toList.map enc,v.length=k:=by
  intro v n;obtain⟨x,_,rfl⟩:=Xe.1 n;exact g x
 apply Array.ext_getElem?;intro t;rw[dR ((d.toList.map enc).flatten) t];by_cases h:t<d.size*k
 .rw[sn _ t j (by simpa using h)];have y:0<k:=by
   rcases Nat.eq_zero_or_pos k with q|q
   .subst q;simp at h
   .exact q
  have h1:=Nat.div_lt_of_lt_mul (by rw[Nat.mul_comm];exact h);have m:t%k<k:=Nat.mod_lt _ y;have f:t<(flatK enc k d).size:=by simpa using h
  have e:=get_flatK enc k d t h;rw[getElem!_pos (flatK enc k d) t f]at e;rw[Array.getElem?_eq_getElem f,e];simp[h1];rw[XK (by rw[g];exact m)];rfl
 .have e:(d.toList.map enc).flatten.length=d.size*k:=by rw[dY _ j];simp
  rw[Array.getElem?_eq_none (by simpa using h),XO (by omega)]
section
variable {ro:Nat->Prop} {σ:Ch} {w:AJ} {T:Type} {enc:T->AA A} {k:Nat}
theorem RL.parts:∀{l:AA T} {lv:AA AL},RL ro σ w k (l.map enc) lv->
  ∃(ps:AA (T×AA AL)) (rest:AA AL),ps.map (·.1)=l/\lv=(ps.map (·.2)).flatten++rest/\ ∀p∈ps,p.2.length=k/\LR ro σ w (enc p.1) p.2/\ ∀v∈p.2,QC v
 |[],lv,_=>⟨[],lv,rfl,rfl,by simp⟩
 |x::l,lv,h=>by
  obtain⟨l1,l2,rfl,h1,⟨h2,h3⟩,h4⟩:=h;obtain⟨ps,rest,e1,rfl,h5⟩:=RL.parts h4;refine⟨(x,l1)::ps,rest,by simp[e1],by simp,?_⟩;intro p hp;rcases X7.1 hp with rfl|hp
  .exact⟨by rw[h2.length];exact h1,h2,h3⟩
  .exact h5 p hp
theorem sa(hk:∀x,(enc x).length=k):∀{ps:AA (T×AA AL)} {rest:AA AL},(∀p∈ps,LR ro σ w (enc p.1) p.2/\ ∀v∈p.2,QC v)->RL ro σ w k ((ps.map (·.1)).map enc) ((ps.map (·.2)).flatten++rest)
 |[],_,_=>trivial
 |p::ps,rest,h=>by
  refine⟨p.2,(ps.map (·.2)).flatten++rest,by simp,hk _,h p (by simp),sa hk λq hq=>h q (by simp[hq])⟩
end
structure Elt (ro:Nat->Prop) (w:AJ) {T:Type} (enc:T->List A) (k:Nat) (l:List T) where
 x:T
 vs:List AL
 mem:x∈l
 len:vs.length=k
 rel:LR ro [] w (enc x) vs
 plain:∀v∈vs,QC v
theorem QlP{v:AL}(h:QC v):v.oneCell'=true:=by cases v<;>first|rfl|exact h.elim
theorem oh{P:AK}{ρ:Ren}(L:SlLaysF0.n6 P ρ){T:Type}[DecidableEq T]{enc:T->AA A}{k t g:Nat}{cap:AA A}{l l':AA T}{cf:T->T->AB Int}(hs:LV cf l=AC l')
  (a7:∀x y c,cf x y=AC c->C P g ([.agg (enc x),.agg (enc y)]++cap) [] (λa H=>a=.int .i64 c/\H=[]))
  (aE:∀w,(isAgg (ρ.t 24)).run P w=.ok AE w)(zE:∀w,(Go.sizeOf (ρ.t 24)).run P w=.ok k w)(eg:∀args w,(callFunc g args).run P w=.ok (.enter g args) w)
  (hk:∀x,(enc x).length=k)(hd:YI cap=AE):
  C P (ρ.f 6) [.osl 0 0 l.length k,.fn (.func g) [] cap] [.row t k (l.map enc)] (λa H=>a=.tup []/\H=[.row t k (l'.map enc)]):=by
 intro fr M σ vals w s hv;obtain⟨vs,r1,rfl,bu,vf,r2,rfl,bp,hr⟩:=hv;cases(show r2=[]from hr);obtain⟨lf,lc,rfl,h1,a8⟩:=bp;cases(show lf=[]from h1);have ar:LR M [] w cap lc:=LR.data hd a8;obtain⟨bc,al,O,ax,be⟩:=lQ hs;have F:∀(ad:AB Addr) (c:Nat),vs=.slice ad 0 c->l=[]->
   Calls P (ρ.f 6) [vs,.func (.func g) #[] lc.toArray].toArray w λe w'=>∃v r H' ai τ,e=.returned v/\(r=.tup []/\H'=[.row t k (l'.map enc)])/\Ca fr ai (σ++τ) H' w'/\VR ai (σ++τ) w' r v/\Qm fr M w ai w':=by
  rintro ad c rfl rfl;have ae:l'=[]:=by rw[<- be];rfl
  subst ae;refine(AnyF.slices_SortFunc_none L ad c (.func (.func g) #[] lc.toArray) w).mono ?_;rintro e w' ⟨rfl,rfl⟩;exact⟨_,_,_,M,[],rfl,⟨rfl,rfl⟩,by simpa using s,⟨[],rfl,rfl⟩,Qm.refl _ _ _⟩
 rcases bu with⟨h0,rfl⟩|⟨b,p,cp,t',m,q1,rfl,q2,⟨q3,bv⟩,q4,q5⟩
 .exact F AF 0 rfl (VJ.1 h0)
 .by_cases ae:l=[]
  .subst ae;exact F _ cp rfl rfl
  .have bk:0<l.length:=List.length_pos_iff.2 ae;obtain rfl:=q2 (Vg bk q3);obtain⟨lv,e1,e2⟩:=s.blk 0 _ _ q1 rfl;obtain⟨hb,aj,bd⟩:=s.own 0 b _ q1 rfl rfl;obtain⟨X,J,a2,rfl,ag⟩:=RL.parts e2
   let α:=Elt M w enc k l
   have a9:∀p∈X,p.1∈l:=λp hp=>by rw[<- a2];exact VG hp
   let ds:AA α:=X.attach.map λp=>⟨p.1.1,p.1.2,a9 _ p.2,(ag _ p.2).1,(ag _ p.2).2.1,(ag _ p.2).2.2⟩
   have a4:∀{γ:Type} (f:T×AA AL->γ),X.attach.map (λp=>f p.1)=X.map f:=λf=>by simp
   have N:ds.map (·.x)=l:=by
    show(X.attach.map _).map _=_;rw[List.map_map];exact(a4 (·.1)).trans a2
   have an:ds.map (·.vs)=X.map (·.2):=by
    show(X.attach.map _).map _=_;rw[List.map_map];exact a4 (·.2)
   have aq:ds.length=l.length:=by rw[<- N];simp
   have a1:ds≠[]:=by intro q;rw[q]at aq;simp at aq;omega
   let inh:Inhabited α:=⟨ds.head a1⟩
   let enc':α->AA AL:=λa=>a.vs
   let cf':α->α->Int:=λx y=>(cf x.x y.x).getD 0
   have ah:∀x y:α,ltOf cf' x y=G5 cf x.x y.x:=by
    intro x y;obtain⟨c,E⟩:=al x.x x.mem y.x y.mem;simp only[ltOf,G5,cf',E,Option.getD_some]
   have hO:SWO (ltOf cf'):=⟨λx=>by rw[ah];exact O.irrefl _ x.mem,λx y z a b=>by rw[ah]at*;exact O.trans _ x.mem _ y.mem _ z.mem a b,
    λx y z a b=>by rw[ah]at*;exact O.ntrans _ x.mem _ y.mem _ z.mem a b⟩
   have ac:∀x:α,(enc' x).length=k:=λx=>x.len;have az:flatK enc' k ds.toArray=((X.map (·.2)).flatten).toArray:=by
    rw[qQ ac];show((ds.map λa=>a.vs).flatten).toArray=_;rw[an]
   have bl:∀v∈X.map (·.2),v.length=k:=by
    intro v hv;obtain⟨p,hp,rfl⟩:=Xe.1 hv;exact(ag p hp).1
   have ab:(X.map (·.2)).flatten.length=ds.length*k:=by rw[dY _ bl, <- an];simp
   have hH:HoldsK enc' k w b (0*k) ds.toArray:=by
    intro j hj;rw[az]at hj⊢;simp only[List.size_toArray]at hj;constructor
    .unfold World.cell?;simp only[e1,Option.isSome_none,Xi,if_false,Nat.zero_mul,Xv];rw[dR,XM hj];exact qU _ _ hj
    .unfold World.frozen?;simp only[e1];simp
   have av:∀(d:Array α),d.size=ds.toArray.size->(putRowK enc' k w b (0*k) d).heap=w.heap.setIfInBounds b (.cells (((d.toList.map enc').flatten++J)).toArray t (0,0)):=by
    intro d B;have af:(d.toList.map enc').flatten.length=(X.map (·.2)).flatten.length:=by
     rw[dY _ (k:=k) (by intro v hv;obtain⟨x,_,rfl⟩:=Xe.1 hv;exact ac x),ab];simp at B⊢;rw[B]
    unfold putRowK putRow mapBlock;show w.heap.modify b _=_;rw[lq e1];simp only[onCells];congr 2;rw[qQ ac];unfold putCells;apply Array.ext_getElem?;intro i;simp only[Array.getElem?_mapIdx,dR,Nat.zero_mul,XU,true_and,Xv,Nat.sub_zero,List.size_toArray,id_eq];by_cases hi:i<(d.toList.map enc').flatten.length
    .rw[XM hi,XM (by rw[<- af];exact hi),XK (by rw[<- af];exact hi),qU _ _ hi];exact congrArg AC (Vt hi)
    .rw[XN (by omega),XN (by omega),af];cases(J[i-(X.map (·.2)).flatten.length]?)with
     |none=>rfl
     |some v=>
      rw[<- af];exact congrArg AC (Vs hi)
   have R:∀(m:Nat) (os:Array Obj) (d:Array α),d.size=ds.toArray.size->
     (∀c,c<w.heap.size->c≠b->(sortWorldK enc' k w b (0*k) m d os).heap[c]?=w.heap[c]?)/\(sortWorldK enc' k w b (0*k) m d os).heap[b]?=AC (.cells (((d.toList.map enc').flatten++J)).toArray t (0,0))/\
     w.heap.size<=(sortWorldK enc' k w b (0*k) m d os).heap.size:=by
    intro m os d B;have e:(sortWorldK enc' k w b (0*k) m d os).heap=w.heap.setIfInBounds b (.cells (((d.toList.map enc').flatten++J)).toArray t (0,0))++os:=by
     rw[<- av d B];rfl
    rw[e];refine⟨λc E bi=>?_,?_,by simp⟩
    .rw[Array.getElem?_append_left (by simpa using E),Vf,Vs (λq=>bi q.symm)]
    .rw[Array.getElem?_append_left (by simpa using hb),Vf,Vt rfl,Vt hb]
   have Q:∀(m:Nat) (os:Array Obj) (d:Array α),d.size=ds.toArray.size->∀c y,w.shape? c=AC y->(sortWorldK enc' k w b (0*k) m d os).shape? c=AC y:=by
    intro m os d B c y hy;obtain⟨g1,g2,g3⟩:=R m os d B;by_cases E:c=b
    .subst E;unfold World.shape? at hy⊢;rw[e1]at hy;rw[g2];simp only[Option.some.injEq]at hy⊢;rw[<- hy];congr 1;simp only[List.size_toArray,X3];rw[dY _ (k:=k) (by intro v hv;obtain⟨x,_,rfl⟩:=Xe.1 hv;exact ac x),ab];simp at B⊢;rw[B]
    .unfold World.shape? at hy⊢;rw[g1 c (Qnv hy) E];exact hy
   have am:∀(m:Nat) (os:Array Obj) (d:Array α),d.size=ds.toArray.size->∀τ,DL M τ w M τ (sortWorldK enc' k w b (0*k) m d os):=by
    intro m os d B τ;obtain⟨g1,g2,g3⟩:=R m os d B;exact⟨λ_ q=>q,λc E=>g1 c (s.roLt c E) (λq=>aj (q▸E)),Q m os d B,λ_ _ q=>q⟩
   have bj:CmpLays P g lc.toArray enc' k cf' b (0*k) ds.toArray.size w:=by
    intro m os dk a6 x y;obtain⟨c,E⟩:=al x.x x.mem y.x y.mem;have G:=am m os dk a6 [];have bn:=a7 _ _ _ E;generalize hW:sortWorldK enc' k w b (0*k) m dk os=W at*;have bg:w.heap.size<=W.heap.size:=by rw[<- hW];exact(R m os dk a6).2.2
    have sW:Ca (λc=>c<W.heap.size/\ ¬M c) M [] [] W:=
     ⟨rfl,s.roOk.to (λ_ q=>q) G.keep (λc E=>Vg (s.roLt c E) bg),λc E=>E.1,λc E hf=>hf.2 E,λi b x h=>by simp at h,λi j b x y h=>by simp at h,λi y x h=>by simp at h,λi b x c h=>by simp at h⟩
    have aw:LR M [] W ([.agg (enc x.x),.agg (enc y.x)]++cap) ([.agg x.vs.toArray,.agg y.vs.toArray]++lc):=
     LR.append (show LR M [] W [A.agg (enc x.x),A.agg (enc y.x)] [Value.agg x.vs.toArray,Value.agg y.vs.toArray]from⟨_,_,rfl,⟨x.vs,rfl,x.rel.mono G⟩,_,_,rfl,⟨y.vs,rfl,y.rel.mono G⟩,rfl⟩) (ar.mono G)
    have V:=bn _ M [] _ W sW aw;have bh:(([Value.agg x.vs.toArray,Value.agg y.vs.toArray]++lc).toArray:Array AL)= #[Value.agg (enc' x).toArray,Value.agg (enc' y).toArray]++lc.toArray:=by simp[enc']
    rw[bh]at V;refine V.mono ?_;rintro e w' ⟨v,r,H',ai,τ,rfl,⟨rfl,rfl⟩,s',bq,ev⟩;refine⟨?_,?_⟩
    .rw[show v=.int .i64 c from bq];simp only[cf',E,Option.getD_some]
    .refine m? (λc E=>?_) ev.size ev.os ev.tape ev.output ev.drawn;by_cases bb:M c
     .exact ev.keepRo c bb
     .exact ev.keepFr c ⟨E,bb⟩
   have aa:ds.toArray.size=l.length:=by simpa using aq
   have ak:=AnyQ.slices_SortFunc L k aE zE enc' ac (λx v hv=>QlP (x.plain v hv)) cf' hO g lc.toArray b (0*k) cp ds.toArray w eg bj hH hb (by rw[aa];unfold YE at bc;omega);rw[aa]at ak;refine ak.mono ?_;rintro e w' ⟨rfl,d,n,os,Y,ao,rfl⟩;have B:d.size=ds.toArray.size:=Y.1;obtain⟨g1,g2,g3⟩:=R n os d B;have ay:d.toList.Perm ds:=by
    have h:=Y.2.2;have x1:d.extract 0 l.length=d:=by rw[<- aa, <- B];exact Array.extract_size
    have x2:ds.toArray.extract 0 l.length=ds.toArray:=by rw[<- aa];exact Array.extract_size
    rw[x1,x2]at h;simpa using h
   have ba:d.toList.map (·.x)=l':=by
    rw[<- be];refine mA (lt:=G5 cf) ?_ ?_ ?_ (iA O)
    .exact((ay.map (·.x)).trans (by rw[N])).trans (YN _ _).symm
    .intro x hx y hy;have br:x∈l:=by rw[<- N];exact(ay.map (·.x)).mem_iff.1 hx
     have bs:y∈l:=by rw[<- N];exact(ay.map (·.x)).mem_iff.1 hy
     exact ax x br y bs
    .rw[VD];intro i j hi hj bo;simp only[X2]at hi hj;simp only[List.getElem_map];rw[<- ah];have:=ao i j (XU _) bo (by rw[<- aa, <- B];simpa using hj);rw[getElem!_pos d j (by simpa using hj),getElem!_pos d i (by simpa using hi)]at this;simpa using this
   have bm:RL M [] (sortWorldK enc' k w b (0*k) n d os) k (l'.map enc) ((d.toList.map enc').flatten++J):=by
    have e3:d.toList.map enc'=(d.toList.map λa=>(a.x,a.vs)).map (·.2):=by simp[enc']
    have e4:l'=(d.toList.map λa=>(a.x,a.vs)).map (·.1):=by rw[<- ba];simp
    rw[e3,e4];refine sa hk ?_;intro p hp;obtain⟨a,_,rfl⟩:=Xe.1 hp;exact⟨a.rel.mono (am n os d B []),a.plain⟩
   have a5:Qm fr M w M (sortWorldK enc' k w b (0*k) n d os):=
    ⟨λ_ q=>q,λc E=>g1 c (s.roLt c E) (λq=>aj (q▸E)),λc E=>g1 c (s.frLt c E) (λq=>bd (q▸E)),g3,Q n os d B,rfl,rfl,rfl,Nat.le_add_right _ _⟩
   have a0:σ.length=1:=s.len;have a3:Ca fr M σ [.row t k (l'.map enc)] (sortWorldK enc' k w b (0*k) n d os):=by
    have i0:∀{i:Nat} {x:CW},([.row t k (l'.map enc)]:Qd)[i]?=AC x->i=0/\x=.row t k (l'.map enc):=by
     intro i x h;cases i with
     |zero=>simp at h;exact⟨rfl,h.symm⟩
     |succ i=>simp at h
    refine⟨a0,s.roOk.to (λ_ q=>q) a5.keepRo (λc E=>Vg (s.roLt c E) g3),λc E=>Vg (s.frLt c E) g3,s.roFr,λi c x h1 h2 h3=>?_,λi j c x y h1 h2 h3 h4 _ _=>?_,λi y x h1 h2=>?_,λi b x c h1 h2 h3=>by obtain⟨rfl,rfl⟩:=i0 h2;exact h3.elim⟩
    .obtain⟨rfl,rfl⟩:=i0 h2;obtain⟨p1,p2⟩:=s.own 0 c _ h1 rfl rfl;exact⟨Vg p1 g3,p2⟩
    .rw[(i0 h3).1,(i0 h4).1]
    .obtain⟨rfl,rfl⟩:=i0 h2;rw[q1]at h1;cases h1;exact⟨_,g2,bm⟩
   exact⟨_,_,_,M,[],rfl,⟨rfl,rfl⟩,by simpa using a3,⟨[],rfl,rfl⟩,a5⟩
end Go.Sw
namespace Go.Sw
open Option renaming some→AC,none→AF
open Bool renaming false→AD,true→AE
open Decidable renaming decide→AG
open Go renaming World→AJ,Program→AK,Value→AL,Oper→AM
variable {T k:Nat}
section
variable {P:AK} {o:AM} {env:Env} {H:Qd} {fr ro:Nat->Prop} {σ:Ch} {w:AJ}
theorem Ca.addRo(s:Ca fr ro σ H w){b:Nat}(j:b<w.heap.size)(k:¬fr b)(n:∀(i:Nat) (x:CW),σ[i]?=AC (AC b)->H[i]?=AC x->x.live=AE->False)
  (B:∀(i d:Nat) (x:CW),σ[i]?=AC (AC d)->H[i]?=AC x->Di w x d b->False):Ca fr (λc=>ro c\/c=b) σ H w:=by
 refine⟨s.len,s.roOk.to (λ_ q=>.inl q) (λ_ _=>rfl) ?_,s.frLt,?_,?_,s.inj,?_,s.hidTo (· = ·) Ym (XT _) (by grind) (by simp) (by grind)⟩
 .rintro c (q|rfl)
  .exact s.roLt c q
  .exact j
 .rintro c (q|rfl)
  .exact s.roFr c q
  .exact k
 .intro i c x g f h;obtain⟨t,z,m⟩:=s.own i c x g f h
  grind
 .intro i y x g f;exact(s.blk i y x g f).keep ⟨λ_ q=>.inl q,λ_ _=>rfl,λ_ _ q=>q,λ_ _ q=>q⟩ (λ_ _ _=>rfl) (λ_ _ _ _=>rfl)
theorem QM{e n:Nat}{xs:AA Operand}{es:AA (AA A)}(E:ElemTy P T e k)(X:o.op=.buildSlice T n (Mi 0 xs).toArray)(R:xs.length=n)(G:Nat.ble (n*k) 16777216=AE)
  (Y:(xs.all λx=>Yi (CQ env x))=AE)(L:Q2 env xs=es)(Q:allK k es)(hp:es.flatten.all Yr=AE)(W:YI es.flatten=AE):
  D3 P o env H (.rsl k es) H:=by
 intro fr g σ N a w r;subst L;obtain⟨l,h1,O⟩:=mJ r E R G Y Q;have F:LR g [] w (Q2 env xs).flatten l:=O.data W;have f:∀b,b<w.heap.size->(w.alloc (.cells l.toArray e)).heap[b]?=w.heap[b]? :=λb V=>Yx _ _ b V;have y:w.heap.size<=(w.alloc (.cells l.toArray e)).heap.size:=by simp
 have s1:=r.sim.grown f y;have m:Qm fr g w g (w.alloc (.cells l.toArray e)):=Qm.alloc _ r.sim.roLt r.sim.frLt;have s2:=s1.addRo (by simp) (λq=>Nat.lt_irrefl _ (r.sim.frLt _ q)) (λi x t B M=>Nat.lt_irrefl _ (r.sim.own i _ x t B M).1)
  (λi d x t B M=>Nat.lt_irrefl _ (r.sim.hid i d x _ t B (r.sim.hidKeep t B (λz=>f d (r.sim.own i d x t B z).1) (λb q=>f b (r.sim.roLt b q)) M)).lt)
 have J:RL g [] (w.alloc (.cells l.toArray e)) k (Q2 env xs) l:=by
  have:=Je (rest:=[]) Q (F.mono (m.ext0 [])) (O.plain hp)
  grind
 have h:(Q2 env xs).length=n:=by simp[Q2,R]
 refine⟨_,_,λc=>g c\/c=w.heap.size,[],mH X a.eval h1,(⟨AC ⟨w.heap.size,0,AF⟩,n,by rw[h],by omega,.inr ⟨w.heap.size,0,rfl,.inr rfl,?_⟩⟩),by grind,m.trans (Yb λ_ q=>.inl q)⟩;have j:(w.alloc (.cells l.toArray e)).heap[w.heap.size]?=AC (.cells ([]++l).toArray e (0,0)):=Yw _ _;have:=YR j J;exact this.keep ⟨λ_ q=>.inl q,λ_ _=>rfl,λ_ _ q=>q,λ_ _ q=>q⟩ rfl
end
inductive FI:List A->List A->Prop
 |nil:FI [] []
 |eq {a:A} {l m:List A} (h:FI l m):FI (a::l) (a::m)
 |nl {k:Nat} {l m:List A} (h:FI l m):FI (.nils::l) (.rsl k []::m)
theorem LR.nils{ro:Nat->Prop}{σ:Ch}{w:AJ}{k j:AA A}(h:FI k j):∀{l:AA AL},LR ro σ w k l->LR ro σ w j l:=by
 induction h with
 |nil=>simp
 |eq _ ih=>rintro l ⟨v,d,e,g,f⟩;exact⟨v,d,e,g,ih f⟩
 |nl _ ih=>rintro l ⟨v,d,e,g,f⟩;exact⟨v,d,e,⟨AF,0,g,XT _,.inl rfl⟩,ih f⟩
theorem C.nils{P:AK}{f:FuncId}{l1 bs:AA A}{H:Qd}{Q:A->Qd->Prop}(hl:FI l1 bs)(h:C P f bs H Q):C P f l1 H Q:=
 λfr ro σ vals w s l=>h fr ro σ vals w s (LR.nils hl l)
def Qs(k:IntKind)(n:Int):Prop:=k.min<=n/\n<=k.max
def P7(w:AJ):Nat->Prop:=λb=>b<w.heap.size
structure cS {H:Type} (μ:DataW H->Nat):Prop where
 str:∀bytes,bytes.length<=μ (.lit (.string bytes))
 sl:∀e s,e.length<=μ (.slice e s)
 sle:∀e s,∀d∈e,μ d<=μ (.slice e s)
 ag:∀ps,∀d∈ps,μ d<=μ (.agg ps)
def RB(P:AK)(n:Nat)(t:TypeId)(T:Type)(e:T->AA A)(wf:T->Prop):Prop:=
 ∀(H:Type) (enc:TypeId×AL->H) (w:AJ) (base:Nat) (spare:Nat->Bool) (held:Bool) (m:Nat) (cs:AA AL) d,m<n->DataW.trod enc P w base spare held m t cs=AC d->
  ∀μ:DataW H->Nat,cS μ->μ d.1<=1048576->∃x:T,wf x/\LR (P7 w) [] w (e x) cs/\ ∀v∈cs,QC v
section
variable {P:AK} {n:Nat} {t:TypeId} {T:Type} {e:T->AA A} {wf:T->Prop}
theorem RB.down(h:RB P (n+1) t T e wf):RB P n t T e wf:=λH enc w base spare held m cs d hm=>h H enc w base spare held m cs d (Nat.lt_succ_of_lt hm)
theorem gQ(h:∀n,RB P n t T e wf->RB P (n+1) t T e wf):∀n,RB P n t T e wf
 |0=>λH enc w base spare held m cs d hm=>(by omega)
 |n+1=>h n (gQ h n)
theorem Q9{T':Type}{j:T'->AA A}{f:T'->Prop}(h:RB P n t T e wf)(g:T->T')(he:∀x,j (g x)=e x)(q:∀x,wf x->f (g x)):RB P n t T' j f:=by
 intro H enc w base spare held m cs d hm hd μ hμ hwt;obtain⟨x,z,y,k⟩:=h H enc w base spare held m cs d hm hd μ hμ hwt
 grind
theorem RB.int{k:IntKind}(f:P.underlying t=AC (.int k)):RB P n t Int (Qe k) (Qs k):=by
 intro H enc w base spare held m cs d hm hd μ hμ hwt;cases m with
 |zero=>simp[DataW.trod]at hd
 |succ m=>
  rcases cs with _|⟨v,_|⟨j,r⟩⟩
  .simp[DataW.trod,f]at hd
  .cases v<;>simp[DataW.trod,f]at hd;rename_i q g;obtain⟨⟨rfl,h⟩,_⟩:=hd;refine⟨g,?_,⟨_,_,rfl,rfl,rfl⟩,by simp[QC]⟩;simpa[Lit.wf,Qs]using h
  .simp[DataW.trod,f]at hd
theorem RB.bool(f:P.underlying t=AC .bool):RB P n t Bool JE (λ_=>True):=by
 intro H enc w base spare held m cs d hm hd μ hμ hwt;cases m with
 |zero=>simp[DataW.trod]at hd
 |succ m=>
  rcases cs with _|⟨v,_|⟨g,r⟩⟩
  .simp[DataW.trod,f]at hd
  .cases v<;>simp[DataW.trod,f]at hd;rename_i b;exact⟨b,trivial,⟨_,_,rfl,rfl,rfl⟩,by simp[QC]⟩
  .simp[DataW.trod,f]at hd
theorem RB.string(f:P.underlying t=AC .string):RB P n t (AA UInt8) JD (λs=>s.length<=1048576):=by
 intro H enc w base spare held m cs d hm hd μ hμ hwt;cases m with
 |zero=>simp[DataW.trod]at hd
 |succ m=>
  rcases cs with _|⟨v,_|⟨g,r⟩⟩
  .simp[DataW.trod,f]at hd
  .cases v<;>simp[DataW.trod,f]at hd;rename_i s;obtain⟨_,rfl⟩:=hd;exact⟨s.data.toList,XV (hμ.str _) hwt,⟨_,_,rfl,rfl,rfl⟩,by simp[QC]⟩
  .simp[DataW.trod,f]at hd
theorem l6{α:Type}{f:Nat->AB α}:∀{n:Nat} {l:AA α},(List.range n).mapM f=AC l->l.length=n/\ ∀i,i<n->∃y,f i=AC y/\l[i]?=AC y
 |0,l,h=>by grind
 |n+1,l,h=>by
  rw[List.range_succ,List.mapM_append]at h;cases h1:(List.range n).mapM f with
  |none=>grind
  |some l1=>
   cases h2:f n with
   |none=>grind
   |some y=>
    simp[h1,h2]at h;subst h;obtain⟨e1,e2⟩:=l6 h1
    grind
theorem sV{w:AJ}{ro:Nat->Prop}{b:Nat}:∀{cs:AA A} {l:AA AL} {off:Nat},LR ro [] w cs l->(∀v∈l,QC v)->(∀i,i<l.length->w.cell? ⟨b,off+i,AF⟩=l[i]?)->CR ro [] w b cs off
 |[],_,_,_,_,_=>trivial
 |a::cs,l,off,h,hp,hc=>by
  obtain⟨v,l',rfl,h1,h2⟩:=h;refine⟨(by grind),sV h2 (by grind) λi hi=>?_⟩;have:=hc (i+1) (by grind)
  grind
theorem RB.slice{E:TypeId}{k:Nat}{s:TypeId}(M:P.underlying s=AC (.slice E))(hk:P.cellsOf E=k)(h0:Nat.blt 0 k=AE)(hl:∀x,(e x).length=k)(h:RB P n E T e wf):
  RB P (n+1) s (AA T) (Qx k e) (λl=>l.length<=1048576/\ ∀x∈l,wf x):=by
 intro H enc w base spare held m cs d hm hd μ hμ hwt;have k0:0<k:=by simp_all
 cases m with
 |zero=>simp[DataW.trod]at hd
 |succ m=>
  rcases cs with _|⟨v,_|⟨v2,r⟩⟩
  .simp[DataW.trod,M]at hd
  .cases v<;>try (simp[DataW.trod,M]at hd;done)
   rename_i a len g;cases a with
   |none=>
    rcases len with _|len
    .rcases g with _|g
     .refine⟨[],⟨by simp,by simp⟩,⟨_,_,rfl,⟨AF,0,rfl,XT _,.inl rfl⟩,rfl⟩,by simp[QC]⟩
     .simp[DataW.trod,M]at hd
    .simp[DataW.trod,M]at hd
   |some a=>
    simp only[DataW.trod,M]at hd;split at hd
    .rename_i hc;obtain⟨c1,c2,c3⟩:=hc;cases V:(List.range len).mapM (λi=>(w.cells? base (a.add (i*P.cellsOf E)) (P.cellsOf E)).bind (DataW.trod enc P w base spare held m E))with
     |none=>grind
     |some f=>
      rw[V]at hd;simp only[XJ,Option.map_eq_some_iff]at hd;obtain⟨B,_,rfl⟩:=hd;have G:f.length<=1048576:=by
       have h1:=hμ.sl (f.map (·.1)) (B.map (·.1))
       grind
      have Y:∀y∈f,μ y.1<=1048576:=λy Q=>XV (hμ.sle _ (B.map (·.1)) _ (VG Q)) hwt;obtain⟨e1,e2⟩:=l6 V;have X:∀i,i<len->∃(x:T) (l:AA AL),wf x/\LR (P7 w) [] w (e x) l/\(∀v∈l,QC v)/\l.length=k/\ ∀j,j<k->w.cell? ((a.add (i*k)).add j)=l[j]? :=by
       intro i hi;obtain⟨y,y1,y2⟩:=e2 i hi;rw[hk]at y1;cases ab:w.cells? base (a.add (i*k)) k with
       |none=>grind
       |some l=>
        rw[ab]at y1;obtain⟨x,x1,x2,x3⟩:=h H enc w base spare held m l y (by omega) y1 μ hμ (Y y (VH y2))
        grind[World.cells?,l6]
      by_cases N:len=0
      .subst N;exact⟨[],⟨by simp,by simp⟩,⟨_,_,rfl,⟨AC a,g,rfl,XU _,.inl rfl⟩,rfl⟩,by simp[QC]⟩
      .have first:a.spot=AF/\a.block<w.heap.size:=by
        obtain⟨x',l,p1,p2,p3,p4,p5⟩:=X 0 (by omega);have t:=p5 0 k0;have aa:l[0]?=AC l[0]:=XK (by omega);have ea:(a.add (0*k)).add 0=a:=by simp[Addr.add]
        rw[aa,ea]at t;unfold World.cell? at t;split at t
        .rename_i hh;constructor
         .cases q:a.spot with
          |none=>rfl
          |some z=>simp[q]at t
         .exact(Vd.1 hh).1
        .cases t
       obtain⟨R,hb⟩:=first
       have O:∀n,a.add n=⟨a.block,a.off+n,AF⟩:=by
        intro n;cases a;simp only at R;subst R;unfold Addr.add;split
        .rename_i q;subst q;rfl
        .rfl
       have J:∀(b o n:Nat),(⟨b,o,AF⟩:Addr).add n=⟨b,o+n,AF⟩:=by
        intro b o n;unfold Addr.add;split
        .rename_i q;subst q;rfl
        .rfl
       have pick:∀q i,len-i=q->i<=len->∃F:AA T,F.length=len-i/\(∀x∈F,wf x)/\RR (P7 w) [] w a.block k (F.map e) (a.off+i*k):=by
        intro q
        induction q with
        |zero=>intro i hq hi;exact⟨[],by simp[hq],by simp,trivial⟩
        |succ q ih=>
         intro i hq hi;obtain⟨F,L,w2,W⟩:=ih (i+1) (by omega) (by omega);obtain⟨x,l,p1,p2,p3,p4,p5⟩:=X i (by omega);refine⟨x::F,by simp[L];omega,by intro y Q;rcases X7.1 Q with rfl|Q;exact p1;exact w2 y Q,hl x,?_,?_⟩
         .refine sV p2 p3 λj hj=>?_;have t:=p5 j (by omega);rw[O,J]at t;exact t
         .rw[Xm, <- Nat.add_assoc]at W;exact W
       obtain⟨F,L,w2,W⟩:=pick len 0 (by omega) (XU _);rw[Nat.zero_mul,Xw]at W;rw[Nat.sub_zero]at L;refine⟨F,⟨by rw[L, <- e1];exact G,w2⟩,⟨_,_,rfl,⟨AC a,g,by simp[L],by simp[L];exact c2,.inr ⟨a.block,a.off,?_,hb,W⟩⟩,rfl⟩,by simp[QC]⟩;cases a
       grind
    .cases hd
  .simp[DataW.trod,M]at hd
def RF(P:AK)(n:Nat)(fs:AA Field)(off L:Nat)(T:Type)(e:T->AA A)(wf:T->Prop):Prop:=
 ∀(H:Type) (enc:TypeId×AL->H) (w:AJ) (base:Nat) (spare:Nat->Bool) (held:Bool) (m:Nat) (cs:AA AL) ds,m<n->cs.length=L->
  fs.mapM (λf=>DataW.trod enc P w base spare held m f.type ((cs.drop f.offset).take (P.cellsOf f.type)))=AC ds->
  ∀μ:DataW H->Nat,cS μ->(∀y∈ds,μ y.1<=1048576)->∃x:T,wf x/\LR (P7 w) [] w (e x) (cs.drop off)/\ ∀v∈cs.drop off,QC v
theorem RF.nil{L:Nat}:RF P n [] L L Unit (λ_=>[]) (λ_=>True):=by
 intro H enc w base spare held m cs ds hm hl hd μ hμ hwt;have:cs.drop L=[]:=(by grind);rw[this];exact⟨(),trivial,rfl,by simp⟩
theorem RF.cons{f:Field}{fs:AA Field}{off L:Nat}{T2:Type}{z:T2->AA A}{g:T2->Prop}(E:f.offset=off)(J:P.cellsOf f.type=k)(h:RB P n f.type T e wf)(r:RF P n fs (off+k) L T2 z g):
  RF P n (f::fs) off L (T×T2) (λp=>e p.1++z p.2) (λp=>wf p.1/\g p.2):=by
 intro H enc w base spare held m cs ds hm hl hd μ hμ hwt;rw[List.mapM_cons]at hd;cases B:DataW.trod enc P w base spare held m f.type ((cs.drop f.offset).take (P.cellsOf f.type))with
 |none=>grind
 |some d=>
  cases F:fs.mapM (λf=>DataW.trod enc P w base spare held m f.type ((cs.drop f.offset).take (P.cellsOf f.type)))with
  |none=>grind
  |some j=>
   have q:ds=d::j:=by
    grind
   subst q;rw[E,J]at B;obtain⟨x,M,G,N⟩:=h H enc w base spare held m _ d hm B μ hμ (hwt d (by simp));obtain⟨y,y1,y2,O⟩:=r H enc w base spare held m cs j hm hl F μ hμ (by grind);have t:cs.drop off=(cs.drop off).take k++cs.drop (off+k):=by rw[<- List.drop_drop,Xy]
   refine⟨(x,y),⟨M,y1⟩,by rw[t];exact G.append y2,?_⟩
   grind
theorem RB.struct{fs:Array Field}{L:Nat}(q:P.underlying t=AC (.struct fs))(j:P.cellsOf t=L)(h:RF P n fs.toList 0 L T e wf):RB P (n+1) t T e wf:=by
 intro H enc w base spare held m cs d hm hd μ hμ hwt;cases m with
 |zero=>simp[DataW.trod]at hd
 |succ m=>
  unfold DataW.trod at hd;simp only[q]at hd;split at hd
  .rename_i k;cases g:fs.toList.mapM (λf=>DataW.trod enc P w base spare held m f.type ((cs.drop f.offset).take (P.cellsOf f.type)))with
   |none=>grind
   |some x=>
    rw[g]at hd;simp only[Xj,Option.some.injEq]at hd;subst hd;have:=h H enc w base spare held m cs x (by omega) (by rw[k,j]) g μ hμ (λy z=>XV (hμ.ag _ _ (by grind)) hwt)
    grind
  .cases hd
end
variable {P:AK}{W:AJ}
theorem C.law{f:FuncId}{args:AA A}{vals:AA AL}(h:C P f args [] (λa H=>a=.bool AE/\H=[]))(q:LR (P7 W) [] W args vals)(d:GP W):
  Calls P f vals.toArray W λe W'=>e=.returned (.bool AE)/\Go.RowKit.Below W.heap.size W W':=by
 have s:Ca (λ_=>False) (P7 W) [] [] W:=
  ⟨rfl,⟨λ_ h=>h,λb j=>d.size b j,d⟩,λ_ h=>h.elim,λ_ _ h=>h,(by simp),(by simp),(by simp),(by simp)⟩
 refine(h _ _ _ _ W s q).mono ?_;rintro e W' ⟨v,r,H',g,τ,rfl,⟨rfl,rfl⟩,_,m,ev⟩;exact⟨by rw[show v=.bool AE from m],⟨ev.os,ev.tape,ev.output,ev.size,λk n=>ev.keepRo k n⟩⟩
variable {t:TypeId}
theorem QnC{d:Nat}{v:AL}{fs:Array Field}(f:P.underlying t=AC (.struct fs))(h:Value.okWide P W .any d t v):∃cs,v=.agg cs:=by
 unfold Value.okWide at h
 grind
variable {g:Nat}
theorem Qjz{k:Array AL}{T:Type}{e:T->AA A}{wf:T->Prop}{H:Type}{enc:TypeId×AL->H}{f:Nat->Bool}{held:Bool}{d:DataW H}{ps:AA MemPlace}
  (h:∀n,RB P n t T e wf)(z:DataW.Trod enc P W g f held t (.agg k) d ps){μ:DataW H->Nat}(hμ:cS μ)(j:μ d<=1048576):∃x:T,wf x/\VR (P7 W) [] W (.agg (e x)) (.agg k):=by
 obtain⟨m,y⟩:=z;obtain⟨x,B,q,_⟩:=h (m+1) H enc W g f held m _ _ (Xn _) y μ hμ j;exact⟨x,B,k.toList,by simp,q⟩
theorem QlN{a:AB Addr}{len cap:Nat}{T:Type}{e:T->AA A}{wf:AA T->Prop}{H:Type}{enc:TypeId×AL->H}{f:Nat->Bool}{held:Bool}{d:DataW H}{ps:AA MemPlace}
  (h:∀n,RB P n t (AA T) (Qx k e) wf)(y:DataW.Trod enc P W g f held t (.slice a len cap) d ps){μ:DataW H->Nat}(hμ:cS μ)(j:μ d<=1048576):∃x:AA T,wf x/\VR (P7 W) [] W (.rsl k (x.map e)) (.slice a len cap):=by
 obtain⟨m,q⟩:=y;obtain⟨x,z,⟨v,G,F,E,B⟩,_⟩:=h (m+1) H enc W g f held m _ _ (Xn _) q μ hμ j;refine⟨x,z,?_⟩;have:(Value.slice a len cap).cells.toList=[.slice a len cap]:=rfl
 grind
theorem Qjw(h:W.ShapedOpen P){t u:Nat}{z:AL}(hg:Nat.blt g P.globals.size=AE)(H:(((begin P (λ_ _=>0) default).world.heap[g]?).bind Obj.row?)=AC (#[z],t))
  (x:P.buildable t=AE)(B:P.cellTypes P.depth t=AC [u])(F:P.underlying u=AC (.int .i64)):∃m:Int,W.cell? ⟨g,0,AF⟩=AC (.int .i64 m):=by
 obtain⟨d,M,E,q⟩:=h.1 g _ _ (by simp_all) H;obtain⟨N,k,_,G⟩:=q x;rw[B]at k;cases k;have J:d.size=1:=E;have j:d[0]?=AC d[0]:=(by simp);obtain⟨L,n,f⟩:=G 0 _ j;simp at n;subst n;unfold Cell.ok at f;rw[F]at f;cases y:d[0]<;>rw[y]at f<;>simp at f
 simp_all[World.cell?]
theorem QjF{S B:Type}{step:S->AB (CG S B)}(d:Nat->S)(b:B)(k:Nat)(x:∀i,i<k->step (d i)=AC (.k (d (i+1))))(j:step (d k)=AC (.d b)):∀n,k<n->iter step n (d 0)=AC b:=by
 have t:∀m i n,k-i=m->i<=k->m<n->iter step n (d i)=AC b:=by
  intro m
  induction m with
  |zero=>
   intro i n q h g;have:i=k:=by omega
   subst this;obtain⟨f,rfl⟩:∃f,n=f+1:=⟨n-1,by omega⟩;simp[iter,j]
  |succ m y=>
   intro i n q h g;obtain⟨f,rfl⟩:∃f,n=f+1:=⟨n-1,by omega⟩
   grind[iter]
 grind
theorem QnQ{S B:Type}{step:S->AB (CG S B)}(s0:S)(d:Nat->S)(b:B)(k:Nat)(h:d 0=s0)(g:∀i,i<k->step (d i)=AC (.k (d (i+1))))(j:step (d k)=AC (.d b))(n:Nat)(f:k<n):iter step n s0=AC b:=by
 rw[<- h];exact QjF d b k g j n f
variable {α:Type}
variable {l:AA α}
theorem QB{i:Nat}{x:α}(h:l[i]?=AC x):CJ l i=AC x:=by
 grind[CJ]
theorem kS(l:AA α)(x:α)(h:l.length<4294967296):app l [x]=AC (l++[x]):=by
 unfold app;have:Nat.ble (l.length+[x].length) YE=true:=by
  grind[Nat.ble_eq_true_of_le,YE]
 grind
theorem ZB(l m:AA α)(h:l.length+m.length<=4294967296):app l m=AC (l++m):=by
 simp_all[app,YE,XS]
theorem Qt{n:Int}(d: -9223372036854775808<=n)(f:n<=9223372036854775807):IntKind.i64.wrap n=n:=by
 grind[IntKind.wrap,IntKind.bits,IntKind.signed]
theorem YS{i:Nat}(h:i<9223372036854775807):IntKind.i64.wrap (i+1)=(i+1:Nat):=by
 rw[Qt (by omega) (by omega)];omega
theorem Yj{p:Prop}[Decidable p](h:p):AG p=true:=Vu h
theorem Yp{p:Prop}[Decidable p](h:¬p):AG p=false:=Vx h
open Go.Proofs Go.Shelf
def cat(a b:AA UInt8):AB (AA UInt8):=bif Nat.ble (a.length+b.length) 4294967296 then AC (a++b)else AF
theorem z8{a b r:AA UInt8}(h:cat a b=AC r):a.length+b.length<=4294967296/\a++b=r:=by
 unfold cat at h;cases q:Nat.ble (a.length+b.length) 4294967296 with
 |true=>simp_all
 |false=>grind
def c6(s t:AA UInt8):AB Bool:=bif Nat.blt s.length 4294967281 then AC (Lib.contains s t)else AF
variable {l':AA α}
section
variable {P:AK} {o:AM} {env:Env} {H:Qd}
theorem sE{u:TypeId}{x y:Operand}{p q r:AA UInt8}(k:cat p q=AC r)(z:o.op=.binOp .add t x y u:=by rfl)(hx:CQ env x=.str p:=by rfl)(hy:CQ env y=.str q:=by rfl):CU P o env H (.str r):=by
 intro E B σ N a w rr;obtain⟨F,j⟩:=z8 k;have f:=Qq rr x;rw[hx]at f;have g:=Qq rr y;rw[hy]at g;have m:a.eval x=.string ⟨p.toArray⟩:=f;have h:a.eval y=.string ⟨q.toArray⟩:=g;have n:(⟨p.toArray⟩:ByteArray)++⟨q.toArray⟩=⟨r.toArray⟩:=by
  rw[<- j];rfl
 refine⟨.string ⟨r.toArray⟩,?_,rfl⟩;have d:¬((⟨p.toArray⟩:ByteArray).size+(⟨q.toArray⟩:ByteArray).size>IntKind.i64.max):=by
  have:IntKind.i64.max=9223372036854775807:=by decide
  grind[ByteArray.size]
 simp_all[eqGuard,execOp,binOp_string_add,Op.stringOp]
def LN(n:Nat)(l:AA α)(i:Int):AB α:=bif Nat.beq l.length n then CJ l i else AF
theorem SX{n:Nat}{i:Int}{x:α}(h:LN n l i=AC x):l.length=n/\CJ l i=AC x:=by
 grind[LN,Nat.eq_of_beq_eq_true]
def NG(n:Nat)(l:AA α):AB (AA α):=bif Nat.beq l.length n then AC l else AF
theorem SS{n:Nat}(h:NG n l=AC l'):l.length=n/\l=l':=by
 grind[NG,Nat.eq_of_beq_eq_true]
theorem kU{n:Nat}(h:NG n l=AC l'):l'.length=n:=(SS h).2▸(SS h).1
section
variable {α:Type} {e:α->AA A} {t et k n b:Nat} {x y:Operand} {l:AA α}
theorem ZM{i:Int}{v:α}{j:IntKind}(h:LN n l i=AC v)(F:∀w,(underlying t).run P w=.ok (.array n et) w)(z:∀w,(sizeOf et).run P w=.ok k w)(M:Nat.ble 2 n=AE)
  (L:o.op=.indexAddr t x y:=by rfl)(hx:CQ env x=.ptr b 0:=by rfl)(hy:CQ env y=.int j i:=by rfl):CU P o env H (.ptr b (i.toNat*k)):=by
 intro R O σ N a w r;obtain⟨V,J⟩:=SX h;obtain⟨T,Q⟩:=KK J;have E:i.toNat<l.length:=(by grind);have f:=Qq r x;rw[hx]at f;obtain⟨d,f,B⟩:=f;have m:=Qq r y;rw[hy]at m;have g:a.eval y=.int j i:=m;refine⟨.pointer (AC ⟨d,i.toNat*k,AF⟩),?_,d,f,rfl⟩;have G:0<=i/\i<n:=by omega
 have q:(⟨d,0,AF⟩:Addr).add (i.toNat*k)=⟨d,i.toNat*k,AF⟩:=by
  grind[Addr.add]
 generalize a.eval=ρ at*;simp[L,B,g,Instr.indexAt,F,z,G,go_sem]
theorem pV{d:AA A}(hH:H[b]?=AC (.row t k (l.map e)):=by rfl)(hcs:(l.map e).flatten=d:=by rfl):DZ H (.ptr b 0) d:=by
 intro y q σ w v s h;obtain⟨f,n,g⟩:=h;obtain⟨x,j,m⟩:=s.blk b _ _ n hH;refine⟨f,0,g,?_⟩;have:=(RR.flat (YR (pre:=[]) (by simpa using j) m)).1;subst hcs;exact this.lift
theorem qS(d:∀x,(e x).length=k)(L:AA α):(L.map e).flatten.length=L.length*k:=by
 induction L with
 |nil=>simp
 |cons c L ih=>grind
theorem Qjf{f:Nat}{l':AA α}(h:NG n l=AC l')(y:∀x,(e x).length=k)(d:n*k=f)(m:∀w,(isAgg t).run P w=.ok AE w)(j:∀w,(sizeOf t).run P w=.ok f w)
  (q:o.op=.load t x:=by rfl)(hx:CQ env x=.ptr b 0:=by rfl)(hH:H[b]?=AC (.row T k (l.map e)):=by rfl):CU P o env H (.agg (l'.map e).flatten):=by
 obtain⟨z,rfl⟩:=SS h;have g:=qS y l;rw[z,d]at g;exact Qv q m j hx (pV hH rfl) (by grind) g
theorem Qmw{r:Nat}{n2:Nat}(q:l.length=n)(h:∀x,(e x).length=k)(j:n*k=n2)(g:∀w,(isAgg t).run P w=.ok AE w)(d:∀w,(sizeOf t).run P w=.ok n2 w)
  (f:lk env r=.ptr b 0:=by rfl)(hH:H[b]?=AC (.row T k (l.map e)):=by rfl):Dq P env H (.cell r t) (.agg (l.map e).flatten):=by
 have m:=qS h l;have:=sb g d (pV hH rfl) f (by grind)
 grind
theorem ph{c:AA A}{k:Nat}(h:c.length=k):∀n,allK k (List.replicate n c)
 |0=>trivial
 |n+1=>⟨h,ph h n⟩
theorem tE{vs:Array AL}{z:α}(E:∀w,(zeroValue t).run P w=.ok (.agg vs) w)(B:(YX (List.replicate n (e z)).flatten).toArray=vs)(h:LP (List.replicate n (e z)).flatten=AE)(q:(List.replicate n (e z)).flatten.all Yr=AE)(m:Nat.beq (e z).length k=AE)
  (x:o.op=.alloc t:=by rfl):D3 P o env H (.ptr H.length 0) (H++[.row t k ((List.replicate n z).map e)]):=by
 intro F f σ N a w r;have g:LR f [] w (List.replicate n (e z)).flatten (YX (List.replicate n (e z)).flatten):=lI h;have d:=r.sim.allocRow (t:=t) (rest:=[]) (ph (XQ m) n) g (g.plain q);rw[Vh]at d;have j:(List.replicate n z).map e=List.replicate n (e z):=List.map_replicate;refine⟨.pointer (AC ⟨w.heap.size,0,AF⟩),w.alloc (.cells (YX (List.replicate n (e z)).flatten).toArray t),f,[AC w.heap.size],?_,⟨w.heap.size,?_,rfl⟩,j▸d,Qm.alloc _ r.sim.roLt r.sim.frLt⟩
 .have y:(newVar t (.agg vs)).run P w=.ok ⟨w.heap.size,0,AF⟩ (w.alloc (.cells vs t)):=rfl
  simp_all[execOp,Instr.alloc]
 .rw[<- r.sim.len];simp
theorem tG{n2:Nat}{l':AA α}{vs:AA A}(h:l.length=n)(h':l'.length=n)(hk:∀x,(e x).length=k)(F:n*k=n2)(hs:∀w,(sizeOf t).run P w=.ok n2 w)
  (hp:∀x,(e x).all Yr=AE)(hd:∀x,YI (e x)=AE)(R:(l'.map e).flatten=vs)
  (ho:o.op=.store t x y:=by rfl)(J:CQ env x=.ptr b 0:=by rfl)(hH:H[b]?=AC (.row T k (l.map e)):=by rfl)(O:CQ env y=.agg vs:=by rfl):
  Io P o env H (H.set b (.row T k (l'.map e))):=by
 intro fr ro σ N a w r;subst R;have g:=Qq r x;rw[J]at g;obtain⟨bb,g,h2⟩:=g;have W:=Qq r y;rw[O]at W;obtain⟨m,h4,q⟩:=W;obtain⟨M,q1,q2⟩:=r.sim.blk b _ _ g hH;have B:∀(L:AA α),allK k (L.map e):=by
  intro L
  induction L with
  |nil=>trivial
  |cons c L z=>exact⟨hk c,z⟩
 have E:(l'.map e).flatten.length=n2:=by grind[YZ]
 have hm:m.length=n2:=by rw[q.length,E]
 have j:∀L:AA α,(L.map e).flatten.all Yr=true:=by
  grind
 have Q:∀f ds:AA A,YI f=AE->YI ds=AE->YI (f++ds)=true:=by
  intro f
  induction f with
  |nil=>simp
  |cons c f z=>
   simp_all[YI]
 have V:∀L:AA α,YI (L.map e).flatten=true:=by
  intro L
  induction L with
  |nil=>rfl
  |cons c L z=>exact Q _ _ (hd c) z
 have hlen:=by
  have:=q2.length;rw[X2,h,F]at this;exact this
 have Y:=Yz (P:=P) (vs:=m) 0 0 q1 (by omega) (q.plain (j l'));have X:splice M 0 m=m++M.drop n2:=by unfold splice;simp[hm]
 have d:=r.sim.set (x':=.row T k (l'.map e)) (obj:=.cells (splice M 0 m).toArray T (0,0)) g hH rfl
  (λy O=>Jw q1 (Yy (by omega)) y O)
  (λex G=>by
   have J:=(q.data (V l')).mono ex.nil;exact⟨_,G,Je (B l') J (q.plain (j l'))⟩)
 refine⟨_,ro,[],?_,by simpa using d.1,d.2⟩
 simp_all[Value.cells,storeVar,execOp,Instr.storeAt,Instr.sureAddr]
end
end
theorem C.contains{ρ:Ren}(L:Lays.n144 P ρ)(hg:ρ.g 1=Wu){s t:AA UInt8}{r:Bool}(h:c6 s t=AC r):C P (ρ.f 144) [.str s,.str t] [] (λa H=>a=.bool r/\H=[]):=by
 unfold c6 at h;cases q:Nat.blt s.length 4294967281 with
 |false=>grind
 |true=>
  rw[q]at h;obtain rfl:=XZ h;intro G k σ vals w sim hv;obtain⟨F,z,rfl,x,E,n,rfl,j,d⟩:=hv;cases(show n=[]from d);obtain⟨m,B⟩:=sim.roOk.gp.max;have e1:=x;have e2:=j;subst e1 e2;have hs:=by simpa using q
  refine(Any.strings_Contains L ⟨s.toArray⟩ ⟨t.toArray⟩ m w (by simpa[ByteArray.size]using hs) (by grind)).mono ?_;rintro e y ⟨rfl,rfl⟩;exact⟨_,_,_,k,[],rfl,⟨rfl,rfl⟩,by grind,rfl,Qm.refl _ _ _⟩
section
variable {P:AK} {o:AM} {env:Env} {H:Qd} {fr ro:Nat->Prop} {σ:Ch} {w:AJ}
theorem Ca.touch(s:Ca fr ro σ H w){b:Nat}{obj:Obj}(F:¬ro b)(E:¬fr b)(G:∀(i:Nat) (x:CW),σ[i]?=AC (AC b)->H[i]?=AC x->x.live=AE->False)
  (n:∀(i d:Nat) (x:CW),σ[i]?=AC (AC d)->H[i]?=AC x->Di w x d b->False)
  (z:∀y,w.shape? b=AC y->{w with heap:=w.heap.setIfInBounds b obj}.shape? b=AC y):
  Ca fr ro σ H {w with heap:=w.heap.setIfInBounds b obj}/\Qm fr ro w ro {w with heap:=w.heap.setIfInBounds b obj}:=by
 have f:{w with heap:=w.heap.setIfInBounds b obj}.heap.size=w.heap.size:=by simp
 have ev:Qm fr ro w ro {w with heap:=w.heap.setIfInBounds b obj}:=
  ⟨λ_ h=>h,(by grind),(by grind),by omega,by
   grind[World.shape?],rfl,rfl,rfl,XT _⟩
 refine⟨⟨s.len,s.roOk.to (λ_ q=>q) ev.keepRo (λc h=>by rw[f];exact s.roLt c h),λc h=>by rw[f];exact s.frLt c h,s.roFr,?_,s.inj,?_,s.hidTo (· = ·) Ym (by omega) (by simp) (by simp) λj d y m t J=>.inl ⟨j,y,rfl,m,t,id,λc q=>s.hidKeep m t (by grind) ev.keepRo q⟩⟩,ev⟩
 .intro i c x k g B;rw[f];exact s.own i c x k g B
 .intro i y x k g;refine(s.blk i y x k g).keep (ev.ext0 σ) ?_ ?_
  .grind
  grind
theorem QmH{E i n t:Nat}{x:Operand}{es:AA (AA A)}(ht:P.underlying T=AC (.slice E))(hE:P.underlying E=AC (.int .u8))(hn:es.length=n)(h0:Nat.blt 0 n=AE)
  (ho:o.op=.convert T T x:=by rfl)(hx:CQ env x=.osl i 0 n 1:=by rfl)(hH:H[i]?=AC (.row t 1 es):=by rfl):
  D3 P o env H (.rsl 1 es) (H.set i .dead):=by
 intro fr R σ N a w r;subst hn;have B:=Qq r x;rw[hx]at B;rcases B with⟨hz,_⟩|⟨b,p,M,t',m,B,h2,h6,⟨h3,ab⟩,h4,h5⟩
 .simp_all
 .have aa:0<es.length:=by simp_all
  obtain rfl:=h6 (by omega);obtain⟨hb,Q,h⟩:=r.sim.own i b _ B hH rfl;obtain⟨l,q1,q2⟩:=r.sim.blk i _ _ B hH;have Y:=r.sim.kill i;have g:∀(j:Nat) (y:CW),σ[j]?=AC (AC b)->(H.set i .dead)[j]?=AC y->y.live=AE->False:=by
   intro j y G f J;by_cases q:j=i
   .subst q;rw[Xb]at f;simp only[if_true]at f
    grind[CW.live]
   .rw[XP (λz=>q z.symm)]at f;exact q (r.sim.inj j i b y _ G B f hH J rfl)
  have O:∀(j d:Nat) (y:CW),σ[j]?=AC (AC d)->(H.set i .dead)[j]?=AC y->Di w y d b->False:=by
   intro j d y G f J;by_cases q:j=i
   .subst q;rw[Xb]at f;simp only[if_true]at f;split at f
    .cases f;exact J.elim
    .simp at f
   .rw[XP (λz=>q z.symm)]at f;exact(r.sim.hid j d y b G f J).ne i b _ B hH rfl rfl
  let fz:Nat×Nat:=(l.length,l.length+1)
  have X:∀y,w.shape? b=AC y->({w with heap:=w.heap.setIfInBounds b (.cells l.toArray t fz)}:AJ).shape? b=AC y:=by
   simp_all[World.shape?]
  obtain⟨s2,k⟩:=Y.touch (obj:=.cells l.toArray t fz) Q h g O X;have s3:=s2.addRo (b:=b) (by grind) h g (λj d y G f J=>O j d y G f (Y.hidKeep G f (by grind) k.keepRo J));have F:({w with heap:=w.heap.setIfInBounds b (.cells l.toArray t fz)}:AJ).heap[b]?=AC (.cells (([]:AA AL)++l).toArray t fz):=by
   grind
  have L:DL R [] w R [] {w with heap:=w.heap.setIfInBounds b (.cells l.toArray t fz)}:=k.ext0 [];refine⟨.slice (AC ⟨b,0*1,AF⟩) es.length M,_,λc=>R c\/c=b,[],?_,?_,by grind,k.trans (Yb λ_ q=>.inl q)⟩
  .have hf:w.freeze ⟨b,l.length,AF⟩ 1={w with heap:=w.heap.setIfInBounds b (.cells l.toArray t fz)}:=by
    unfold World.freeze;simp only[Nat.one_ne_zero,if_false];rw[lq q1];rfl
   have V:(markStringish ⟨b,0*1,AF⟩).run P w=.ok () {w with heap:=w.heap.setIfInBounds b (.cells l.toArray t fz)}:=by
    simp_all[markStringish,World.shape?]
   have hu:∀w,(underlying T).run P w=.ok (.slice E) w:=run_underlying ht;have W:∀w,(underlying E).run P w=.ok (.int .u8) w:=run_underlying hE;generalize a.eval=ρ at*;simp only[execOp,ho,h2,convert,Vn,hu,W,Result.andThen,beq_self_eq_true,V,Vo]
  .refine⟨AC ⟨b,0*1,AF⟩,M,rfl,h3,.inr ⟨b,0*1,rfl,.inr rfl,?_⟩⟩;have:=YR (pre:=[]) F (q2.mono L);exact(by omega:RR R [] _ b 1 es (0*1)).keep ⟨λ_ q=>.inl q,λ_ _=>rfl,λ_ _ q=>q,λ_ _ q=>q⟩ rfl
end
mutual
theorem lx(ρ:Nat->Nat):∀{a:A},YJ a=AE->YY ρ a=a
 |.any,_=>rfl
 |.bool _,_=>rfl
 |.int _ _,_=>rfl
 |.str _,_=>rfl
 |.nilp,_=>rfl
 |.ptr _ _,h=>by simp[YJ]at h
 |.rp _,_=>rfl
 |.nils,_=>rfl
 |.rsl _ _,_=>rfl
 |.osl _ _ _ _,h=>by simp[YJ]at h
 |.agg cs,h=>by simp only[YJ]at h;simp only[YY,Sc ρ h]
 |.fn f a c,h=>by simp only[YJ,XW]at h;simp only[YY,Sc ρ h.1,Sc ρ h.2]
 |.nilf,_=>rfl
 |.iface t a,h=>by simp only[YJ]at h;simp only[YY,lx ρ h]
 |.nilif,_=>rfl
 |.map _,h=>by simp[YJ]at h
 |.nilm,_=>rfl
 |.tup vs,h=>by simp only[YJ]at h;simp only[YY,Sc ρ h]
theorem Sc(ρ:Nat->Nat):∀{l:AA A},YI l=AE->JB ρ l=l
 |[],_=>rfl
 |a::l,h=>by simp only[YI,XW]at h;simp only[JB,lx ρ h.1,Sc ρ h.2]
end
theorem rf{α:Type}{e:α->AA A}(d:∀x,YI (e x)=AE):∀L:AA α,YI (L.map e).flatten=AE
 |[]=>rfl
 |c::L=>by
  have hdt:∀cs ds,YI cs=AE->YI ds=AE->YI (cs++ds)=true:=by
   intro cs
   induction cs with
   |nil=>simp
   |cons c cs f=>
    simp_all[YI]
  exact hdt _ _ (d c) (rf d L)
theorem _z{e:α->AA A}(hd:∀x,YI (e x)=AE)(ρ:Nat->Nat)(l:AA α):YY ρ (.agg (l.map e).flatten)=.agg (l.map e).flatten:=
 lx ρ (by exact rf hd l)
end Go.Sw
namespace Go.Sw
open Option renaming some→AC,none→AF
open Bool renaming false→AD,true→AE
open Decidable renaming decide→AG
open Go renaming World→AJ,Program→AK,Value→AL,Oper→AM
variable {T:Nat}
section
variable {P:AK} {o:AM} {env:Env} {H:Qd}
theorem gP{c:Call}{f:Nat}{x:Operand}{xs:AA Operand}{k:Array TypeId}{d:String}{v:A}{args:AA A}(g:∀(a:Array AL) (w:AJ),(callFunc f a).run P w=.ok (.enter f a) w)(n:o.op=.call c)
  (q:c={callee:=.invoke x d,args:=xs.toArray,argTypes:=k})(m:CQ env x=.iface T v)(hargs:v::xs.map (CQ env)=args)
  (y:∀(u:AL) (w:AJ),(method (P.types.size+Made.depth) T u d).run P w=.ok (f,u) w):C6 P o env H f args:=by
 intro z t σ N a w r;have h:=Qq r x;rw[m]at h;obtain⟨u,h,j⟩:=h;refine⟨u::xs.map a.eval,?_,hargs▸⟨u,xs.map a.eval,rfl,j,ZC r xs⟩⟩
 simp_all[VI,callMethod,execOp,resolve,invoke]
theorem SW{I:Nat}{x:Operand}{v:A}{d:TypeDesc}(j:∀w,(underlying T).run P w=.ok d w)(q:∀m,d≠ .interface m)(h:o.op=.typeAssert x I T true:=by rfl)(hx:CQ env x=.iface T v:=by rfl):
  CU P o env H (.tup [v,.bool AE]):=by
 intro n k σ N a w r;have f:=Qq r x;rw[hx]at f;obtain⟨u,f,g⟩:=f;refine⟨.tuple #[u,.bool AE],?_,[u,.bool AE],rfl,_,_,rfl,g,_,_,rfl,rfl,rfl⟩
 simp_all[execOp,Instr.typeAssert]
theorem kO{T' I:Nat}{x:Operand}{v z:A}{zv:AL}{d:TypeDesc}(B:∀w,(underlying T).run P w=.ok d w)(F:∀m,d≠ .interface m)(h:Nat.beq T' T=AD)(y:∀w,(zeroValue T).run P w=.ok zv w)(f:ZR z zv)
  (j:o.op=.typeAssert x I T true:=by rfl)(hx:CQ env x=.iface T' v:=by rfl):
  CU P o env H (.tup [z,.bool AD]):=by
 intro E t σ N a w r;have g:=Qq r x;rw[hx]at g;obtain⟨u,g,n⟩:=g;have k:T'≠T:=λq=>by simp_all
 refine⟨.tuple #[zv,.bool AD],?_,[zv,.bool AD],rfl,_,_,rfl,f _ _ _,_,_,rfl,rfl,rfl⟩
 simp_all[execOp,Instr.typeAssert]
end
def TL(P:AK)(h0 N:Nat)(c:Code)(env:Env)(H:Qd)(Q:Qz):Prop:=
 ∀rd fr ro σ a w,DH fr ro σ H env N a w->J2 rd fr w->∀(b:Frame) (k:AA Item) (cs:AA Frame),b.roundOf=(WF rd).round->(WF rd).fn b.fn->(WF rd).room (cs.length+1+0)->∃e a' w',Hj h0 fr ro σ w N a.defers Q e a' w'/\ArrivesIn (Machine.fenced P (WF rd)) P (lone (b.atR a (.code c::.inLoop c::k)) cs w) b k cs e a' w'
def SL(P:AK)(h0 N:Nat)(c:Code)(Q:Qz):Qz
 |.normal,env,H=>TL P h0 N c env H Q
 |.exit id,env,H=>Q (.exit id) env H
 |.ret,env,H=>Q .ret env H
section
variable {P:AK} {h0 N:Nat} {c:Code} {env:Env} {H:Qd} {Q:Qz}
theorem QoE(h:TL P h0 N c env H Q):TC P h0 N (.loop c) env H Q:=by
 intro n q m σ a w r hrd b k cs hro hb hr;obtain⟨e,j,f,g,d⟩:=h n q m σ a w r hrd b k cs hro hb hr;exact⟨e,j,f,g,.of_steps (.one (fenced_calm hb hr rfl) stepR_loop) d⟩
theorem TL.round(h:TC P h0 N c env H (SL P h0 N c Q)):TL P h0 N c env H Q:=by
 intro R L G σ a w r hrd b k cs hro hb hr;obtain⟨e,t,n,T,d⟩:=h R L G σ a w r hrd b (.inLoop c::k) cs hro hb hr;obtain⟨x,f,H',m,σ',j,y,z,M,B,J,E⟩:=T;have O:∀x,Q x f H'->RV e x->Hj h0 L G σ w N a.defers Q e t n:=λx q V=>⟨x,f,H',m,σ',j,V,q,M,B,J,E⟩;cases e with
 |normal=>
  obtain rfl:x=.normal:=y;obtain⟨Y,X,W,F,g⟩:=z R j m σ' t n M (hrd.to B E.sub) b k cs hro hb hr;exact⟨Y,X,W,F.grow B J E,.of_steps (StepsIn.trans d (.one (fenced_calm hb hr rfl) stepR_inLoop)) g⟩
 |exit id=>
  obtain rfl:x=.exit id:=y;exact⟨_,t,n,O _ z rfl,.pass rfl (by simp) d⟩
 |ret=>
  obtain rfl:x=.ret:=y;exact⟨_,t,n,O _ z rfl,.pass rfl (by simp) d⟩
 |_=>exact y.elim
theorem iP(h:TC P h0 N c env H (SL P h0 N c Q)):SL P h0 N c Q .normal env H:=TL.round h
theorem iN{id:Nat}(h:Q (.exit id) env H):SL P h0 N c Q (.exit id) env H:=h
theorem iO(h:Q .ret env H):SL P h0 N c Q .ret env H:=h
theorem Qmt(h:TC P h0 N c env H (SL P h0 N c Q)):TC P h0 N (.loop c) env H Q:=QoE (TL.round h)
end
variable {k:Nat}
section
variable {P:AK} {o:AM} {env:Env} {H:Qd}
theorem CU.ixL{t d b n j:Nat}{x y:Operand}{h:IntKind}{i:Int}(q:Nat.blt j n=AE)(hi:i=j)(m:∀w,(underlying t).run P w=.ok (.slice d) w)(f:∀w,(sizeOf d).run P w=.ok k w)
  (g:o.op=.indexAddr t x y:=by rfl)(hx:CQ env x=.osl b 0 n k:=by rfl)(hy:CQ env y=.int h i:=by rfl):CU P o env H (.ptr b (j*k)):=by
 have z:=pU (H:=H) g m f hx hy (by omega) (by simp_all)
 grind
end
theorem sH{ro:Nat->Prop}{σ:Ch}{w:AJ}{k:Nat}:∀{es:AA (AA A)} {l l':AA AL},RL ro σ w k es l->l.take (es.length*k)=l'.take (es.length*k)->RL ro σ w k es l'
 |[],_,_,_,_=>trivial
 |c::es,l,l',h,hp=>by
  obtain⟨l1,l2,rfl,h1,h2,h3⟩:=h;have hl1:l1.length=k:=by rw[h2.1.length];exact h1
  have d:l'.take k=l1:=by
   have:=congrArg (List.take k) hp
   grind[Nat.succ_mul]
  refine⟨l1,l'.drop k,by rw[<- d,Xy],h1,h2,sH h3 ?_⟩;have:=congrArg (List.drop k) hp
  grind[Nat.succ_mul]
section
variable {P:AK} {o:AM} {env:Env} {H:Qd}
theorem Qgf{c:Call}{et b s n t:Nat}{x:Operand}{es h:AA (AA A)}{z:AL}(ht:P.underlying T=AC (.slice et))(hz:∀w,(zeroValue et).run P w=.ok z w)(V:z.cells.size=k)(ac:∀v∈z.cells,QC v)
  (E:es.take s=h)(hb:s+n=es.length)(ho:o.op=.call c:=by rfl)(hc:c={callee:=.builtin .clear,args:= #[x],argTypes:= #[T]}:=by rfl)
  (hx:CQ env x=.osl b s n k:=by rfl)(hH:H[b]?=AC (.row t k es):=by rfl):D3 P o env H (.tup []) (H.set b (.row t k h)):=by
 intro M j σ N a w r;subst E hc;have hu:∀w,(underlying T).run P w=.ok (.slice et) w:=run_underlying ht;have f:=Qq r x;rw[hx]at f;have G:Ca M j σ (H.set b (.row t k (es.take s))) w:=by
  refine r.sim.weaken hH rfl ?_;intro y q;cases y with
  |none=>rw[show es=[]from q];simp[BR]
  |some B=>obtain⟨l,g1,g2⟩:=q;exact⟨l,g1,RL.take s g2⟩
 have R:∀v,a.eval x=v->(Builtin.clear_ #[T] o.type #[v]).run P w=.ok (.tuple #[]) w->
   ∃v w' ro' τ,(execOp a.eval o).run P w=.ok (.value v) w'/\VR ro' (σ++τ) w' (.tup []) v/\Ca M ro' (σ++τ) (H.set b (.row t k (es.take s))) w'/\Qm M j w ro' w':=by
  intro v F d;refine⟨.tuple #[],w,j,[],?_,⟨[],rfl,rfl⟩,by grind,Qm.refl _ _ _⟩
  simp_all[execOp,resolve,invoke,builtin]
 rcases f with⟨hn,f⟩|⟨B,p,Q,t',m,f,h2,h3,⟨h4,ad⟩,h5,h6⟩
 .simp_all[Builtin.clear_]
 .by_cases hn:n=0
  .simp_all[Builtin.clear_]
  .obtain rfl:=h3 (by omega);obtain⟨l,Y,W⟩:=r.sim.blk b _ _ f hH;have X:=W.length
   let vs:=(Builtin.zeroCells z.cells n).toList
   have ab:vs.length=n*k:=by simp[vs,Builtin.zeroCells,V]
   have J:∀v∈vs,QC v:=by
    intro v F;simp only[vs,Builtin.zeroCells,Array.toList_map,Xe,Array.toList_range,List.mem_range]at F;obtain⟨i,hi,rfl⟩:=F;have aa:0<z.cells.size:=by
     grind
    grind[Nat.mod_lt]
   have ae:s*k+n*k=es.length*k:=by grind
   have d:=Yz (P:=P) (vs:=vs) (s*k) 0 Y (by omega) J;have g:=r.sim.set (x':=.row t k (es.take s)) (obj:=.cells (splice l (s*k) vs).toArray t (0,0)) f hH rfl
    (λy q=>Jw Y (Yy (by omega)) y q)
    (λex O=>⟨_,O,by
     refine(sH (RL.take s W) ?_).mono ex.nil
     grind[splice]⟩)
   refine⟨.tuple #[],_,j,[],?_,⟨[],rfl,rfl⟩,by grind,g.2⟩;have L:(Builtin.clear_ #[T] o.type #[.slice (AC ⟨B,s*k,AF⟩) n Q]).run P w=.ok (.tuple #[]) {w with heap:=w.heap.setIfInBounds B (.cells (splice l (s*k) vs).toArray t (0,0))}:=by
    obtain⟨n',rfl⟩:∃n',n=n'+1:=⟨n-1,by omega⟩;simp only[Xw]at d;simp only[Builtin.clear_,XG,XE,Vn,hu,hz,Result.andThen,d,Vo,vs]
   generalize a.eval=ρ at*;simp only[execOp,ho,resolve,Vn,Vo,Result.andThen,invoke,builtin,XI,Vk,Vl,h2,L]
end
variable {α:Type}
def isNil{R:Type}[DecidableEq R](l:AA α)(x y:AB R):AB R:=bif l.isEmpty then(bif x=y then x else AF)else y
variable {l:AA α}
theorem qW{R:Type}[DecidableEq R]{x y:AB R}{r:R}(h:isNil l x y=AC r)(b:Bool)(d:l≠[]->b=AD):(b=AE->x=AC r)/\(b=AD->y=AC r):=by
 unfold isNil at h
 grind
section
variable {P:AK} {o:AM} {env:Env} {H:Qd} {h0 N:Nat} {Q:Qz}
theorem QmI{e:α->AA A}{E:Nat}{u:TypeId}{x:Operand}(y:P.underlying T=AC (.slice E))(m:o.op=.binOp .eql T x (.const (.slice AF 0 0)) u)(j:CQ env x=.rsl k (l.map e)):
  Sg P o env H (λv H'=>∃b:Bool,v=.bool b/\(l≠[]->b=AD)/\H'=H):=by
 intro z h σ N a w r;have f:=Qq r x;rw[j]at f;obtain⟨d,g,f,q,n⟩:=f;refine⟨.bool d.isNone,H,.bool d.isNone,w,h,[],⟨d.isNone,rfl,λB=>?_,rfl⟩,?_,rfl,by simpa using r.sim,Qm.refl _ _ _⟩
 .grind
 .have t:a.eval (.const (.slice AF 0 0))=.slice AF 0 0:=rfl
  grind[eqGuard,execOp,Sem.run_bind,Result.andThen,Go.run_eql_slice_nil,Sem.run_pure]
theorem QoB{e:α->AA A}{E d:Nat}{u:TypeId}{x:Operand}{all:Array AM}{L:AA AM}(f:P.underlying T=AC (.slice E))(g:CQ env x=.rsl k (l.map e))
  (j:∀b,(l≠[]->b=AD)->WO P h0 N all L (up env d (.bool b)) H Q)
  (h:o.op=.binOp .eql T x (.const (.slice AF 0 0)) u:=by rfl)(hg:QA all o env true:=by rfl)(hd:o.dst=AC d:=by rfl)(hN:Nat.blt d N=true:=by rfl)(hh:Nat.ble h0 H.length=true:=by rfl):WO P h0 N all (o::L) env H Q:=by
 refine gE (by simp_all) hg hd hN (QmI f h g) ?_
 grind
end
theorem Mv{x:AA α}{i:Int}(h:Dd l 0 i=AC x):0<=i/\i.toNat<=l.length/\l.take i.toNat=x/\x.length=i.toNat:=by
 obtain⟨_,d,g,f⟩:=SV h
 grind
section
variable {P:AK} {o:AM} {env:Env} {H:Qd} {α:Type} {e:α->AA A} {T et k b t:Nat} {x y:Operand} {l l':AA α} {i:Int}
theorem Qj4(h:Dd l 0 i=AC l')(E1:∀w,(underlying T).run P w=.ok (.slice et) w)(E2:∀w,(sizeOf et).run P w=.ok k w)(d:o.op=.slice T x (AC y) AF none:=by rfl)
  (hx:CQ env x=.osl b 0 l.length k:=by rfl)(hy:CQ env y=.int .i64 i:=by rfl):CU P o env H (.osl b (0+i.toNat) (l.length-i.toNat) k):=by
 obtain⟨g,f,_,_⟩:=Mv h;exact lJ E1 E2 d hx (by grind) (.inl ⟨rfl,rfl⟩) f (XT _)
theorem Qj5(h:Dd l 0 i=AC l')(E1:∀w,(underlying T).run P w=.ok (.slice et) w)(E2:∀w,(sizeOf et).run P w=.ok k w)(d:o.op=.slice T x AF (AC y) none:=by rfl)
  (hx:CQ env x=.osl b 0 l.length k:=by rfl)(hy:CQ env y=.int .i64 i:=by rfl):CU P o env H (.osl b 0 l'.length k):=by
 obtain⟨g,f,_,j⟩:=Mv h;have:=lJ (H:=H) E1 E2 d hx (.inl ⟨rfl,rfl⟩) (by grind) (XU _) f
 grind
theorem Qj6{c:Call}{z:AL}(h:Dd l 0 i=AC l')(n:P.underlying T=AC (.slice et))(m:∀w,(zeroValue et).run P w=.ok z w)(d:z.cells.size=k)(f:∀v∈z.cells,QC v)(g:o.op=.call c:=by rfl)(hc:c={callee:=.builtin .clear,args:= #[x],argTypes:= #[T]}:=by rfl)
  (hx:CQ env x=.osl b (0+i.toNat) (l.length-i.toNat) k:=by rfl)(hH:H[b]?=AC (.row t k (l.map e)):=by rfl):D3 P o env H (.tup []) (H.set b (.row t k (l'.map e))):=by
 obtain⟨B,y,j,q⟩:=Mv h;refine Qgf n m d f ?_ ?_ g hc hx hH
 .rw[Xv, <- j,List.map_take]
 grind
end
open Go.Sort Go.Proofs Go.Shelf
theorem kP{ro:Nat->Prop}{σ:Ch}{w:AJ}:∀{l:AA Int} {lv:AA AL},RL ro σ w 1 (l.map λx=>[A.int .i64 x]) lv->∃rest,lv=l.map (Value.int .i64)++rest
 |[],lv,_=>⟨lv,rfl⟩
 |x::l,lv,h=>by
  obtain⟨l1,l2,rfl,h1,⟨h2,h3⟩,h4⟩:=h;obtain⟨rest,rfl⟩:=kP h4;obtain⟨v,r,rfl,hv,hr⟩:=h2;cases(show r=[]from hr);exact⟨rest,by rw[show v=.int .i64 x from hv];simp⟩
section
variable {P:AK} {o:AM} {env:Env} {H:Qd} {α:Type} {e:α->AA A} {T et k b t:Nat} {x y:Operand}
theorem QO{lo hi:AB Operand}{l r:AA α}{a c:Int}(h:Dd l a c=AC r)(E1:∀w,(underlying T).run P w=.ok (.slice et) w)(E2:∀w,(sizeOf et).run P w=.ok k w)
  (g:lo=AF/\a=0\/ ∃y,lo=AC y/\CQ env y=.int .i64 a)(d:hi=AF/\c=l.length\/ ∃y,hi=AC y/\CQ env y=.int .i64 c)
  (f:o.op=.slice T x lo hi none:=by rfl)(hx:CQ env x=.osl b 0 l.length k:=by rfl):CU P o env H (.osl b (0+a.toNat) (c.toNat-a.toNat) k):=by
 obtain⟨m,n,j,_⟩:=SV h;refine lJ E1 E2 f hx ?_ ?_ (by omega) (by omega)
 .grind
 grind
theorem K0{l r:AA α}{a c:Int}(h:Dd l a c=AC r)(hH:H[b]?=AC (.row t k (l.map e)):=by rfl):HP P H (.osl b (0+a.toNat) (c.toNat-a.toNat) k) k (r.map e):=by
 obtain⟨j,f,g,d⟩:=SV h;refine HP.osl hH ?_ (by grind);rw[<- d, <- List.map_drop, <- List.map_take,Xv,List.drop_take]
theorem dC{c:Call}{T' et et' i:Nat}{x y:Operand}{d:A}{l l' m r:AA α}{z:Int}(t:Dd l 0 z=AC l')(h:app l' m=AC r)(E:ElemTy P T et k)(q:∀w,(underlying T').run P w=.ok (.slice et') w)(f:HP P H d k (m.map e))
  (g:o.op=.call c:=by rfl)(hc:c={callee:=.builtin .append,args:= #[x,y],argTypes:= #[T,T']}:=by rfl)(hx:CQ env x=.osl i (0+Int.toNat 0) (z.toNat-Int.toNat 0) k:=by rfl)
  (hH:H[i]?=AC (.row et k (l.map e)):=by rfl)(hy:CQ env y=d:=by rfl):
  D3 P o env H (.osl H.length 0 r.length k) (H.set i .dead++[.row et k (r.map e)]):=by
 obtain⟨J,rfl⟩:=jr h;obtain⟨G,F,j,B⟩:=Mv t;have:=sY (n:=z.toNat) (gs:=(l'++m).map e) E q g hc hx hH (by grind) hy f (by grind) (by rw[<- List.map_take,j,Xf])
 grind
end
end Go.Sw
namespace Go.Sw
open Option renaming some→AC,none→AF
open Bool renaming false→AD,true→AE
open Decidable renaming decide→AG
open Go renaming World→AJ,Program→AK,Value→AL,Oper→AM
inductive Bx where
 |mk (a:A)
def Rj:Env->Nat->Bx
 |[],_=>.mk .any
 |(d,a)::r,s=>bif Nat.beq s d then .mk a else Rj r s
theorem jy:∀{env:Env} {s:Nat} {a:A},Rj env s=.mk a->lk env s=a
 |[],s,a,h=>by cases h;rfl
 |(d,b)::r,s,a,h=>by
  unfold Rj at h;unfold lk;cases q:Nat.beq s d with
  |true=>grind
  |false=>rw[q]at h;exact jy h
inductive FBy where
 |mk (l:List UInt8)
def bA:AA UInt8->FBy
 |[]=>.mk []
 |a::r=>match bA r with
  |.mk r'=>.mk (a::r')
theorem oc:∀l,bA l=.mk l
 |[]=>rfl
 |a::r=>by unfold bA;rw[oc r]
def DJ(env:Env):Operand->Bx
 |.tmp t=>Rj env t
 |.const (.bool b)=>.mk (.bool b)
 |.const (.int k n)=>.mk (.int k n)
 |.const (.string s)=>match bA s.data.toList with
  |.mk l=>.mk (.str l)
 |.const (.pointer AF)=>.mk .nilp
 |.const (.slice AF 0 0)=>.mk .nils
 |.const (.map AF)=>.mk .nilm
 |.const .nilFunc=>.mk .nilf
 |.const .nilIface=>.mk .nilif
 |.func f=>.mk (.fn (.func f) [] [])
 |_=>.mk .any
theorem QX{env:Env}{x:Operand}{a:A}(h:DJ env x=.mk a):CQ env x=a:=by
 cases x with
 |tmp t=>exact jy h
 |const v=>
  cases v with
  |slice b n k=>cases b with
   |none=>cases n with
    |zero=>cases k<;>(cases h;rfl)
    |succ n=>cases h;rfl
   |some b=>cases h;rfl
  |pointer p=>cases p<;>(cases h;rfl)
  |map p=>cases p<;>(cases h;rfl)
  |string s=>
   have d:(match bA s.data.toList with|.mk l=>Bx.mk (.str l))=.mk a:=h;rw[oc]at d;cases d;rfl
  |_=>cases h;rfl
 |global g=>cases h;rfl
 |func f=>cases h;rfl
def YH{α:Type}:AA α->Nat->AB α
 |[],_=>AF
 |a::_,0=>AC a
 |_::r,n+1=>YH r n
theorem Mh{α:Type}:∀(l:AA α) (n:Nat),YH l n=l[n]?
 |[],n=>by simp[YH]
 |a::r,0=>rfl
 |a::r,n+1=>by simp[YH,Mh r n]
def nZ:BinOp->IntKind->Int->Int->AB A
 |.add,k,m,n=>AC (.int k (k.wrap (m+n)))
 |.sub,k,m,n=>AC (.int k (k.wrap (m-n)))
 |.mul,k,m,n=>AC (.int k (k.wrap (m*n)))
 |.eql,_,m,n=>AC (.bool (m==n))
 |.neq,_,m,n=>AC (.bool (m != n))
 |.lss,_,m,n=>AC (.bool (AG (m<n)))
 |.leq,_,m,n=>AC (.bool (AG (m<=n)))
 |.gtr,_,m,n=>AC (.bool (AG (n<m)))
 |.geq,_,m,n=>AC (.bool (AG (n<=m)))
 |_,_,_,_=>AF
def nA:BinOp->AA UInt8->AA UInt8->AB A
 |.eql,p,q=>AC (.bool (p==q))
 |.neq,p,q=>AC (.bool (p != q))
 |.lss,p,q=>AC (.bool (Op.bytesLess p q))
 |_,_,_=>AF
def jY(b:BinOp):Bx->Bx->AB A
 |.mk (.int k m),.mk (.int k' n)=>if k=k' then nZ b k m n else AF
 |.mk (.str p),.mk (.str q)=>nA b p q
 |_,_=>AF
def iQ:UnOp->Bx->AB A
 |.not,.mk (.bool b)=>AC (.bool !b)
 |.neg,.mk (.int k n)=>AC (.int k (k.wrap (0-n)))
 |_,_=>AF
def jV:Bx->Nat->AB A
 |.mk (.tup vs),i=>YH vs i
 |_,_=>AF
def ie:Bx->AB A
 |.mk (.ptr i j)=>AC (.ptr i j)
 |.mk (.rp cs)=>AC (.rp cs)
 |_=>AF
def iZ:Bx->Bx->Bx->AB A
 |.mk (.bool AE),.mk a,_=>AC a
 |.mk (.bool AD),_,.mk a=>AC a
 |_,_,_=>AF
def K9(env:Env):Op->AB A
 |.move x=>match DJ env x with|.mk a=>AC a
 |.assign x=>match DJ env x with|.mk a=>AC a
 |.nilCheck x=>ie (DJ env x)
 |.extract x i=>jV (DJ env x) i
 |.unOp u _ x=>iQ u (DJ env x)
 |.pick c x y=>iZ (DJ env c) (DJ env x) (DJ env y)
 |.binOp b _ x y _=>jY b (DJ env x) (DJ env y)
 |_=>AF
def pr(d:Nat):AB A->AB (Nat×A)
 |some a=>AC (d,a)
 |none=>AF
def iU(o:AM)(env:Env):AB (Nat×A):=
 match o.dst with
 |some d=>pr d (K9 env o.op)
 |none=>AF
variable {T f t:Nat}
section
variable {P:AK} {h0 N:Nat} {all:Array AM} {o:AM} {l:AA AM} {env:Env} {H H':Qd} {Q:Qz} {d:Nat} {x:A}
theorem RG{p:Op}(g:o.op=p)(h:K9 env p=AC x):CU P o env H x:=by
 unfold K9 at h;split at h
 .rename_i y;cases q:DJ env y with|mk a=>simp_all[CU.move,QX]
 .rename_i y;cases q:DJ env y with|mk a=>simp_all[CU.assign,QX]
 .rename_i y;unfold ie at h;split at h
  .rename_i i j q;cases h;exact sB g (QX q) rfl
  .rename_i G q;cases h;exact sB g (QX q) rfl
  .cases h
 .rename_i y i;unfold jV at h
  grind[Mh,CU.extract,QX]
 .rename_i u t y;unfold iQ at h
  grind[CU.not,QX,CU.neg]
 .rename_i c y z;unfold iZ at h;split at h
  .rename_i a _ d f;cases h;exact CU.pick g (QX d) (by rw[Vt rfl];exact QX f)
  .rename_i a d f;cases h;exact CU.pick g (QX d) (by exact QX f)
  .cases h
 .rename_i b t y z u;unfold jY at h;split at h
  .rename_i k m F n d f;split at h
   .rename_i e;subst e;have E:=QX d;have B:=QX f;unfold nZ at h
    grind[CU.add,CU.sub,CU.mul,CU.eql,CU.neq,CU.lss,CU.leq,CU.gtr,CU.geq]
   .cases h
  .rename_i p q d f;have E:=QX d;have B:=QX f;unfold nA at h
   grind[QmC,Qmy,Qmz]
  .cases h
 .cases h
theorem oP(h:iU o env=AC (d,x)):o.dst=AC d/\CU P o env H x:=by
 unfold iU at h;split at h
 .rename_i f q;cases e:K9 env o.op with
  |none=>rw[e]at h;cases h
  |some a=>rw[e]at h;cases h;exact⟨q,RG rfl e⟩
 .cases h
theorem S(e:iU o env=AC (d,x))(k:WO P h0 N all l (up env d x) H Q)(hg:QA all o env true:=by rfl)(hN:Nat.blt d N=true:=by rfl):WO P h0 N all (o::l) env H Q:=
 Yn hg (oP (P:=P) (H:=H) e).1 hN (oP e).2 k
theorem K(hg:QA all o env AD)(f:o.dst=AC d)(k:WO P h0 N all l (up env d (.tup [])) H Q)(g:Nat.blt d N=true:=by rfl):WO P h0 N all (o::l) env H Q:=
 WO.skip hg f g k
def ib(v:Bool):Bx->Bx->Bx->AB (Bool×A)
 |.mk (.bool b),.mk a,.mk a'=>match v with|true=>AC (b,a)|false=>AC (b,a')
 |_,_,_=>AF
def tx(d:Nat):AB (Bool×A)->AB (Nat×Bool×A)
 |some a=>AC (d,a)
 |none=>AF
def iX(v:Bool)(o:AM)(env:Env):AB (Nat×Bool×A):=
 match o.dst,o.op with
 |some d,.pick c x y=>tx d (ib v (DJ env c) (DJ env x) (DJ env y))
 |_,_=>AF
theorem zt{v b:Bool}{p q r:Bx}(h:ib v p q r=AC (b,x)):∃a a',p=.mk (.bool b)/\q=.mk a/\r=.mk a'/\(bif v then a else a')=x:=by
 obtain⟨p⟩:=p;obtain⟨q⟩:=q;obtain⟨r⟩:=r;cases p<;>first|(cases h)|skip
 cases v<;>cases h<;>exact(by simp)
theorem ob{v b:Bool}(h:iX v o env=AC (d,b,x))(g:b=v):o.dst=AC d/\CU P o env H x:=by
 unfold iX at h;split at h
 .rename_i B c y z n q;cases e:ib v (DJ env c) (DJ env y) (DJ env z)with
  |none=>rw[e]at h;cases h
  |some s=>
   rw[e]at h;cases h;obtain⟨a,j,k,t,f,m⟩:=zt e
   grind[CU.pick,QX]
 .cases h
theorem Pk{v b:Bool}(f:b=v)(e:iX v o env=AC (d,b,x))(k:WO P h0 N all l (up env d x) H Q)(hg:QA all o env true:=by rfl)(hN:Nat.blt d N=true:=by rfl):WO P h0 N all (o::l) env H Q:=
 Yn hg (ob (P:=P) (H:=H) e f).1 hN (ob e f).2 k
def fQ(o:AM)(env:Env):AB (Nat×Nat×Nat×Nat×Nat):=
 match o.dst,o.op with
 |some d,.fieldAddr T x f=>match DJ env x with
  |.mk (.ptr i p)=>AC (d,T,f,i,p)
  |_=>AF
 |_,_=>AF
theorem f_{off n i p:Nat}(g:Qw P T f off n)(h:fQ o env=AC (d,T,f,i,p)):o.dst=AC d/\CU P o env H (.ptr i (p+off)):=by
 grind[fQ,lz,QX]
theorem Fp{off n i p:Nat}(g:Qw P T f off n)(e:fQ o env=AC (d,T,f,i,p))(k:WO P h0 N all l (up env d (.ptr i (p+off))) H Q)(hg:QA all o env true:=by rfl)(hN:Nat.blt d N=true:=by rfl):WO P h0 N all (o::l) env H Q:=
 Yn hg (f_ (H:=H) g e).1 hN (f_ g e).2 k
theorem HR{off n i p:Nat}(hg:QA all o env AE)(g:Qw P T f off n)(e:fQ o env=AC (d,T,f,i,p))(k:WO P h0 N all l (up env d (.ptr i (p+off))) H Q)(h:Nat.blt d N=true:=by rfl):WO P h0 N all (o::l) env H Q:=
 Yn hg (f_ (H:=H) g e).1 h (f_ g e).2 k
inductive Lx where
 |mk (l:List A)
def c4:Nat->AA A->Lx
 |0,l=>.mk l
 |n+1,_::r=>c4 n r
 |_+1,[]=>.mk []
theorem lA:∀{n:Nat} {l r:AA A},c4 n l=.mk r->l.drop n=r
 |0,l,r,h=>by cases h;rfl
 |n+1,a::l,r,h=>by rw[List.drop_succ_cons];exact lA h
 |n+1,[],r,h=>by cases h;rfl
def nV:AB CW->Nat->AB A
 |some (.cells _ cs),off=>YH cs off
 |_,_=>AF
def ii(H:Qd):Bx->AB A
 |.mk (.ptr i off)=>nV (YH H i) off
 |.mk (.rp (a::_))=>AC a
 |_=>AF
def tw(d t:Nat):AB A->AB (Nat×Nat×A)
 |some a=>AC (d,t,a)
 |none=>AF
def fN(o:AM)(env:Env)(H:Qd):AB (Nat×Nat×A):=
 match o.dst,o.op with
 |some d,.load t x=>tw d t (ii H (DJ env x))
 |_,_=>AF
theorem f'(k:∀w,(isAgg t).run P w=.ok AD w)(h:fN o env H=AC (d,t,x)):o.dst=AC d/\CU P o env H x:=by
 unfold fN at h;split at h
 .rename_i B F y q m;cases e:ii H (DJ env y)with
  |none=>rw[e]at h;cases h
  |some a=>
   rw[e]at h;cases h;refine⟨q,?_⟩;unfold ii at e;split at e
   .rename_i i f j;unfold nV at e;split at e
    .rename_i f E T0 T cs q4;rw[Mh]at e q4;obtain⟨g,n⟩:∃g,cs.drop f=x::g:=by
      have z:=(XL.1 e).1
      simp_all[Xp]
     exact CU.load m k (QX j) (DZ.cells q4 n)
    .cases e
   .rename_i a r j;cases e;exact CU.load m k (QX j) DZ.rp
   .cases e
 .cases h
theorem Ld(f:∀w,(isAgg t).run P w=.ok AD w)(e:fN o env H=AC (d,t,x))(k:WO P h0 N all l (up env d x) H Q)(hg:QA all o env true:=by rfl)(hN:Nat.blt d N=true:=by rfl):WO P h0 N all (o::l) env H Q:=
 Yn hg (f' f e).1 hN (f' f e).2 k
theorem Ldg(hg:QA all o env AE)(f:∀w,(isAgg t).run P w=.ok AD w)(e:fN o env H=AC (d,t,x))(k:WO P h0 N all l (up env d x) H Q)(g:Nat.blt d N=true:=by rfl):WO P h0 N all (o::l) env H Q:=
 Yn hg (f' f e).1 g (f' f e).2 k
def Rl(o:AM)(env:Env):AB (Nat×Nat×Nat×AA (AA A)×IntKind×Int):=
 match o.dst,o.op with
 |some d,.indexAddr t x y=>match DJ env x,DJ env y with
  |.mk (.rsl k es),.mk (.int kk i)=>AC (d,t,k,es,kk,i)
  |_,_=>AF
 |_,_=>AF
theorem Ix{α:Type}{e:α->AA A}{k:Nat}{L:AA α}{m:IntKind}{i:Int}{v:α}(h:CJ L i=AC v)(z:∀w,(underlying t).run P w=.ok (.slice f) w)(g:∀w,(sizeOf f).run P w=.ok k w)
  (q:Rl o env=AC (d,t,k,L.map e,m,i))(k:WO P h0 N all l (up env d (.rp (e v))) H Q)(hg:QA all o env true:=by rfl)(hN:Nat.blt d N=true:=by rfl):WO P h0 N all (o::l) env H Q:=by
 unfold Rl at q;split at q
 .rename_i n x;split at q
  .rename_i B y;simp[Option.some.injEq,Prod.mk.injEq]at q;obtain⟨rfl,rfl,rfl,j,rfl,rfl⟩:=q;exact Yn hg n hN (Mg h z g x (by rw[QX B,j]) (QX y)) k
  .cases q
 .cases q
def Ri(o:AM)(env:Env):AB (Nat×Nat×Bx):=
 match o.dst,o.op with
 |some d,.call c=>match c with
  |{callee:=.builtin .len,args:=⟨[x]⟩,argTypes:=⟨[t]⟩}=>AC (d,t,DJ env x)
  |_=>AF
 |_,_=>AF
theorem oX{b:Bx}(q:Ri o env=AC (d,t,b)):∃x,o.dst=AC d/\o.op=.call {callee:=.builtin .len,args:= #[x],argTypes:= #[t]}/\DJ env x=b:=by
 unfold Ri at q
 grind
theorem mN{α:Type}{e:α->AA A}{g k:Nat}{L:AA α}(h:∀w,(underlying t).run P w=.ok (.slice g) w)(q:Ri o env=AC (d,t,.mk (.rsl k (L.map e))))
  (k:WO P h0 N all l (up env d (.int .i64 L.length)) H Q)(hg:QA all o env true:=by rfl)(hN:Nat.blt d N=true:=by rfl):WO P h0 N all (o::l) env H Q:=by
 obtain⟨x,j,f,m⟩:=oX q;exact Yn hg j hN (pf h f rfl (QX m)) k
end
variable {α:Type}
variable {r:α}
section
variable {P:AK} {h0 N:Nat} {all:Array AM} {env env':Env} {H H':Qd} {Q:Qz} {c c':Code}
theorem Oi{α:Type}{x y:α}(h:AC x=AC y):x=y:=XZ h
theorem Bd{α β:Type}{x:AB α}{f:α->AB β}{r:β}{G:Prop}(h:x.bind f=AC r)(k:∀a,x=AC a->f a=AC r->G):G:=by
 obtain⟨a,d,g⟩:=QF h
 grind
theorem If{c:Bool}{x y:AB α}{G:Prop}(h:(bif c then x else y)=AC r)(t:c=AE->x=AC r->G)(e:c=AD->y=AC r->G):G:=by
 grind
theorem Cn{x:Operand}{t:Bool}{p q:AB α}(hx:DJ env x=.mk (.bool t))(h:(bif t then p else q)=AC r)(ht:t=AE->p=AC r->TC P h0 N c env H Q)(hf:t=AD->q=AC r->TC P h0 N c' env H Q):TC P h0 N (.cond x c c') env H Q:=
 TC.cond (QX hx) (by grind) (by grind)
theorem Q7{x:Operand}{t:Bool}{p q:AB α}(hx:DJ env x=.mk (.bool t))(h:(bif t then p else q)=AC r)(hf:t=AD->q=AC r->TC P h0 N c' env H Q)(ht:t=AE->p=AC r->TC P h0 N c env H Q):TC P h0 N (.cond x c c') env H Q:=
 TC.cond (QX hx) (by grind) (by grind)
theorem Lr(π:AA Nat)(d:π.take h0=List.range h0:=by rfl)(hH:π.map (λp=>H[p]?)=(H'.map (QW (Ci π H.length))).map some:=by rfl)(hπ:π.Nodup:=by decide)
  (hE:Hw (Ci π H.length) env env':=by(repeat' (first|exact trivial|refine⟨rfl,?_⟩))):Le h0 env H env' H':=j4 π d hH hπ hE
end
def Ev(f:Nat->AB α)(v:α):Prop:=∃N,∀n,N<=n->f n=AC v
variable {k:Nat}
section
variable {α β:Type} {f g:Nat->AB α} {v w:α}
theorem Qb(v:α):Ev (λ_=>AC v) v:=⟨0,λ_ _=>rfl⟩
theorem Ev.const{o:AB α}(h:o=AC v):Ev (λ_=>o) v:=⟨0,λ_ _=>h⟩
theorem Ev.bind{k:Nat->α->AB β}{b:β}(h:Ev f v)(d:Ev (λn=>k n v) b):Ev (λn=>(f n).bind (k n)) b:=by
 obtain⟨N,h⟩:=h;obtain⟨M,d⟩:=d;exact⟨max N M,λn g=>by grind⟩
theorem YB{o:AB α}{k:Nat->α->AB β}{b:β}(h:o=AC v)(hk:Ev (λn=>k n v) b):Ev (λn=>o.bind (k n)) b:=Ev.bind (Ev.const h) hk
theorem JN{c:Bool}(d:c=AE->Ev f v)(h:c=AD->Ev g w):Ev (λn=>bif c then f n else g n) (bif c then v else w):=by
 cases c with
 |true=>exact d rfl
 |false=>exact h rfl
theorem P6(h:Ev f v):Ev (λn=>bif AE then f n else g n) v:=h
theorem QY(h:Ev g v):Ev (λn=>bif AD then f n else g n) v:=h
theorem Ev.and{c d:Bool}{h:Nat->AB Bool}(f:c=AE->Ev h d):Ev (λn=>bif c then h n else AC AD) (c&&d):=by
 cases c with
 |true=>exact f rfl
 |false=>exact Qb _
theorem QN{c d:Bool}{h:Nat->AB Bool}(f:c=AD->Ev h d):Ev (λn=>bif c then AC AE else h n) (c||d):=by
 cases c with
 |true=>exact Qb _
 |false=>exact f rfl
theorem Ev.eq(h:Ev f v)(e:v=w):Ev f w:=e▸h
theorem Ev.congr(h:Ev f v)(e:∀n,g n=f n):Ev g v:=by
 obtain⟨N,h⟩:=h;exact⟨N,λn d=>by grind⟩
theorem Jb(h:Ev (λn=>f (n+1)) v):Ev f v:=by
 obtain⟨N,h⟩:=h;refine⟨N+1,λn d=>?_⟩;obtain⟨m,rfl⟩:∃m,n=m+1:=⟨n-1,by omega⟩
 grind
theorem Ev.ex(h:Ev f v):∃n,f n=AC v:=let⟨N,h⟩:=h;⟨N,h N (XT _)⟩
theorem Ev.all{F:Nat->Nat->AB α}{V:Nat->α}(h:∀i,i<k->Ev (F i) (V i)):∃N,∀n,N<=n->∀i,i<k->F i n=AC (V i):=by
 induction k with
 |zero=>simp
 |succ k d=>
  obtain⟨N,j⟩:=d (by grind);obtain⟨M,g⟩:=h k (by omega);refine⟨max N M,λn f i m=>?_⟩
  grind
end
variable {β:Type}
section
variable {S B α:Type} {step:Nat->S->AB (CG S B)}
theorem Ev.iter{s0:S}(d:Nat->S)(k:Nat){b:B}(j:d 0=s0)(h:∀i,i<k->Ev (λn=>step n (d i)) (.k (d (i+1))))(f:Ev (λn=>step n (d k)) (.d b)):
  Ev (λn=>Go.Sw.iter (step n) n s0) b:=by
 obtain⟨N,q⟩:=Ev.all h;obtain⟨M,g⟩:=f;exact⟨max (max N M) (k+1),λn m=>QnQ s0 d b k j (by grind) (g n (by omega)) n (by omega)⟩
theorem gk{step:S->AB (CG S B)}{s:S}{b:B}(m:Nat)(h:Go.Sw.iter step m s=AC b):Ev (λn=>Go.Sw.iter step n s) b:=by
 have mono:∀m s,Go.Sw.iter step m s=AC b->∀n,m<=n->Go.Sw.iter step n s=AC b:=by
  intro m
  induction m with
  |zero=>intro s h;cases h
  |succ m g=>
   intro s h n f;obtain⟨d,rfl⟩:∃d,n=d+1:=⟨n-1,by omega⟩
   grind[Go.Sw.iter]
 exact⟨m,(by grind)⟩
structure At (l:List α) (i:Nat) (x:α):Prop where
 get:l[i]?=AC x
 lt:AG ((i:Int)<(l.length:Int))=AE
 ix:CJ l (i:Int)=AC x
 nx:IntKind.i64.wrap ((i:Int)+1)=((i+1:Nat):Int)
theorem Y3{l:AA α}{i:Nat}{x:α}(f:l.length<=4611686018427387904)(h:l[i]?=AC x):At l i x:=by
 have d:=(XL.1 h).1;exact⟨h,(by grind),QB h,YS (by omega)⟩
theorem At.mem{l:AA α}{i:Nat}{x:α}(h:At l i x):x∈l:=VH h.get
theorem At.lt'{l:AA α}{i:Nat}{x:α}(h:At l i x):i<l.length:=(XL.1 h.get).1
theorem At.take{l:AA α}{i:Nat}{x:α}(h:At l i x):l.take (i+1)=l.take i++[x]:=by
 rw[List.take_add_one,h.get];rfl
theorem Y9(l:AA α):AG ((l.length:Int)<(l.length:Int))=false:=(by simp)
theorem iB{s0:S}(l:AA α)(q:α->Bool)(d:Nat->S)(t b:B)(m:l.length<=4611686018427387904)(z:d 0=s0)
  (G:∀i x,At l i x->q x=AD->Ev (λn=>step n (d i)) (.k (d (i+1))))
  (f:∀i x,At l i x->q x=AE->Ev (λn=>step n (d i)) (.d t))
  (H:Ev (λn=>step n (d l.length)) (.d b)):Ev (λn=>Go.Sw.iter (step n) n s0) (bif l.any q then t else b):=by
 have g:∀k,k<=l.length->(∀i x,l[i]?=AC x->i<k->q x=AD)\/ ∃i x,l[i]?=AC x/\i<k/\q x=AE/\ ∀j y,l[j]?=AC y->j<i->q y=false:=by
  intro k
  induction k with
  |zero=>simp
  |succ k O=>
   grind
 rcases g l.length (XT _)with h|⟨i,x,J,M,F,L⟩
 .have:l.any q=false:=by
   rw[VM];intro e;obtain⟨x,f,e⟩:=Xt.1 e;obtain⟨i,E,rfl⟩:=List.getElem_of_mem f
   grind
  rw[this];exact Ev.iter d l.length z (λi E=>G i _ (Y3 m (XK E)) (by grind)) H
 .have:l.any q=true:=(by grind);rw[this];refine Ev.iter d i z (λj N=>?_) (f i x (Y3 m J) F)
  grind[Y3]
theorem YL{s0:S}(l:AA α)(g:β->α->β)(d:β)(f:β->Nat->S)(h:β->B)(q:l.length<=4611686018427387904)(y:f d 0=s0)
  (k:∀i x a,At l i x->a=(l.take i).foldl g d->Ev (λn=>step n (f a i)) (.k (f (g a x) (i+1))))
  (t:Ev (λn=>step n (f (l.foldl g d) l.length)) (.d (h (l.foldl g d)))):Ev (λn=>Go.Sw.iter (step n) n s0) (h (l.foldl g d)):=by
 refine Ev.iter (λi=>f ((l.take i).foldl g d) i) l.length (by grind) (λi m=>?_) (by grind);have j:=Y3 q (XK m);have:=k i _ _ j rfl;rw[j.take,XC];exact this
theorem Ev.contains(l:AA α)(q:α->Bool)(g:Nat->α->AB Bool)(f:l.length<=4611686018427387904)(hg:∀x∈l,Ev (λn=>g n x) (q x)):
  Ev (λn=>(((Go.Sw.iter (λs:Int=>bif s<(l.length:Int) then(CJ l s).bind λx=>(g n x).bind λr=>(bif r then AC (CG.d (CG.d s))else AC (CG.k (IntKind.i64.wrap (s+1))))else AC (CG.d (CG.k ()))) n (0:Int):AB (CG Unit Int)).bind λb=>
   match b with
   |.k _=>AC (-1)
   |.d s=>AC s):AB Int).bind λr=>AC (AG (0<=r))) (l.any q):=by
 cases e:l.any q with
 |false=>
  refine Ev.bind (v:=(-1:Int)) (Ev.bind (v:=CG.k ()) (Ev.iter (λi=>(i:Int)) l.length rfl (λi G=>?_) ?_) (Qb _)) (Qb _)
  .have d:=Y3 (x:=l[i]) f (XK G);simp only[d.lt,Vp,d.ix,XJ];have z:q l[i]=false:=by
    grind
   refine Ev.bind ((hg _ d.mem).eq z) ?_;simp only[Vq,d.nx];exact Qb _
  simp_all[Qb]
 |true=>
  obtain⟨x,F,h⟩:=Xt.1 e;have m:∀k,k<=l.length->(∀(i:Nat) (x:α),l[i]?=AC x->i<k->q x=AD)\/ ∃(i:Nat) (x:α),l[i]?=AC x/\i<k/\q x=AE/\ ∀(j:Nat) (y:α),l[j]?=AC y->j<i->q y=false:=by
   intro k
   induction k with
   |zero=>simp
   |succ k M=>
    grind
  rcases m l.length (XT _)with J|⟨i,x,H,L,B,E⟩
  .obtain⟨j,t,rfl⟩:=List.getElem_of_mem F
   grind
  .refine Ev.bind (v:=(i:Int)) (Ev.bind (v:=CG.d (i:Int)) (Ev.iter (λi=>(i:Int)) i rfl (λj t=>?_) ?_) (Qb _)) ?_
   .have d:=Y3 (x:=l[j]) f (XK (by omega));simp only[d.lt,Vp,d.ix,XJ];refine Ev.bind ((hg _ d.mem).eq (E j _ d.get t)) ?_;simp only[Vq,d.nx];exact Qb _
   .have d:=Y3 f H;simp only[d.lt,Vp,d.ix,XJ];refine Ev.bind ((hg _ d.mem).eq B) ?_;exact Qb _
   simp_all[Qb]
end
section
variable {S B α:Type} {step:Nat->S->AB (CG S B)}
theorem tC{s0:S}(d:Nat->S)(k:Nat)(R:Nat->B)(q:d 0=s0)(E:∀i,i<k->(Ev (λn=>step n (d i)) (.k (d (i+1)))/\R i=R (i+1))\/Ev (λn=>step n (d i)) (.d (R i)))
  (y:Ev (λn=>step n (d k)) (.d (R k))):Ev (λn=>Go.Sw.iter (step n) n s0) (R 0):=by
 have g:∀m,m<=k->(∀i,i<m->Ev (λn=>step n (d i)) (.k (d (i+1)))/\R i=R (i+1))\/ ∃j,j<m/\(∀i,i<j->Ev (λn=>step n (d i)) (.k (d (i+1)))/\R i=R (i+1))/\Ev (λn=>step n (d j)) (.d (R j)):=by
  intro m
  induction m with
  |zero=>simp
  |succ m z=>
   grind
 have G9:∀m,(∀i,i<m->R i=R (i+1))->R 0=R m:=by
  intro m
  induction m with
  |zero=>intro _;rfl
  |succ m z=>grind
 rcases g k (XT _)with h|⟨j,F,x,t⟩
 .rw[G9 k λi f=>(h i f).2];exact Ev.iter d k q (by grind) y
 .rw[G9 j λi f=>(x i f).2];exact Ev.iter d j q (by grind) t
theorem At.drop{l:AA α}{i:Nat}{x:α}(h:At l i x):l.drop i=x::l.drop (i+1):=by
 have:=h.lt';rw[Xp this,(XL.1 h.get).2]
theorem tD{s0:S}(l:AA α)(st:Nat->S)(R:Nat->B)(hl:l.length<=4611686018427387904)(h0:st 0=s0)
  (hc:∀i x,At l i x->(Ev (λn=>step n (st i)) (.k (st (i+1)))/\R i=R (i+1))\/Ev (λn=>step n (st i)) (.d (R i)))
  (hd:Ev (λn=>step n (st l.length)) (.d (R l.length))):Ev (λn=>Go.Sw.iter (step n) n s0) (R 0):=
 tC st l.length R h0 (λi hi=>hc i _ (Y3 hl (XK hi))) hd
end
variable {γ:Type}
section
variable {α β:Type} [DecidableEq α]
theorem Y6(p:α×β)(l:AA (α×β))(k:α):JC (p::l) k=if p.1=k then AC p.2 else JC l k:=by
 grind[JC]
theorem QlT(p:α×β)(l:AA (α×β))(k:α)(v:β):QJ (p::l) k v=if p.1=k then(p.1,v)::l.map (λq=>bif q.1=k then(q.1,v)else q)else p::QJ l k v:=by
 unfold QJ
 grind
theorem QnG(l:AA (α×β))(k d:α)(v:β)(h:d≠k):JC (l.map λq=>bif q.1=k then(q.1,v)else q) d=JC l d:=by
 induction l with
 |nil=>rfl
 |cons p l f=>
  grind[Y6]
theorem rj(l:AA (α×β))(k d:α)(v:β):JC (QJ l k v) d=if d=k then AC v else JC l d:=by
 induction l with
 |nil=>
  show JC ([]++[(k,v)]) d=_;rw[Vi,Y6]
  grind
 |cons p l f=>
  rw[QlT];by_cases e:p.1=k
  .rw[Vt e,Y6,Y6];by_cases h:d=k
   .grind
   .have:p.1≠d:=(by grind)
    simp_all[QnG]
  .rw[Vs e,Y6,Y6,f]
   grind
theorem QlW(k:α)(z:β):Qo ([]:AA (α×β)) k z=z:=rfl
theorem Y1(l:AA (α×β))(k d:α)(v z:β):Qo (QJ l k v) d z=if d=k then v else Qo l d z:=by
 grind[Qo,rj]
theorem QlS(l:AA (α×β))(k:α)(v:β):(QJ l k v).map (·.1)=if k∈l.map (·.1)then l.map (·.1)else l.map (·.1)++[k]:=by
 unfold QJ;have e:(l.any λp=>AG (p.1=k))=AG (k∈l.map (·.1)):=by
  grind
 rw[e];by_cases h:k∈l.map (·.1)
 .rw[Vu h,Vt h,Vp,List.map_map];apply List.map_congr_left
  grind
 grind
def YD(key:γ->α)(v:β)(l:AA γ):AA (α×β):=l.foldl (λm x=>QJ m (key x) v) []
theorem Qhf(d:γ->α)(v:β)(l:AA γ)(x:γ):YD d v (l++[x])=QJ (YD d v l) (d x) v:=by
 unfold YD;simp
theorem su(d:γ->α)(v z:β)(l:AA γ)(k:α):Qo (YD d v l) k z=if k∈l.map d then v else z:=by
 have f:∀(l:AA γ) (m:AA (α×β)),Qo (l.foldl (λm x=>QJ m (d x) v) m) k z=if k∈l.map d then v else Qo m k z:=by
  intro l
  induction l with
  |nil=>simp
  |cons x l g=>
   intro m;rw[XD,g,Y1]
   grind
 exact f l []
theorem td(d:γ->α)(v:β)(l:AA γ):(YD d v l).length<=l.length/\((YD d v l).length=l.length↔(l.map d).Nodup):=by
 have g:∀(l:AA γ) (m:AA (α×β)),(m.map (·.1)).Nodup->(l.foldl (λm x=>QJ m (d x) v) m).length<=m.length+l.length/\((l.foldl (λm x=>QJ m (d x) v) m).length=m.length+l.length↔(m.map (·.1)++l.map d).Nodup):=by
  intro l
  induction l with
  |nil=>simp
  |cons x l q=>
   intro m n;have j:=QlS m (d x) v;have f:(QJ m (d x) v).length=((QJ m (d x) v).map (·.1)).length:=by simp
   by_cases h:d x∈m.map (·.1)
   .grind
   .rw[Vs h]at j;have k:((QJ m (d x) v).map (·.1)).Nodup:=by
     grind
    grind
 grind[YD]
end
theorem Jo(l:AA α)(p:α->Bool)(g:Nat->α->AB Bool)(f:l.length<=4611686018427387904)(hg:∀x∈l,Ev (λn=>g n x) (p x)):
  Ev (λn=>(((Go.Sw.iter (λs:Int=>bif s<l.length then(CJ l s).bind λx=>((g n x).bind λr1=>AC (!r1)).bind λr=>(bif r then AC (CG.d (CG.d s))else AC (CG.k (IntKind.i64.wrap (s+1))))else AC (CG.d (CG.k ()))) n 0).bind λb=>
   match b with
   |.k _=>AC (-1)
   |.d s=>AC s).bind λr=>AC (AG (0<=r))).bind λr=>AC (!r)) (l.all p):=by
 refine Ev.bind (Ev.contains l (λx=> !p x) (λn x=>(g n x).bind λr1=>AC (!r1)) f λx d=>Ev.bind (hg x d) (Qb _)) ((Qb _).eq ?_)
 grind
def Wq{α κ:Type}[DecidableEq κ](ok:α->Bool)(key:α->κ):AA κ->AA α->Bool
 |_,[]=>AE
 |seen,x::r=>ok x&& !seen.contains (key x)&&Wq ok key (seen++[key x]) r
theorem pY{α κ:Type}[DecidableEq κ](ok:α->Bool)(f:α->κ):∀(l:AA α) (d:AA κ),d.Nodup->Wq ok f d l=(l.all ok&&AG ((d++l.map f).Nodup))
 |[],d,h=>by simp[Wq,h]
 |x::r,d,h=>by
  simp[Wq,Vk];by_cases hk:f x∈d
  .grind
  .have hn:(d++[f x]).Nodup:=by
    grind
   rw[pY ok f r _ hn]
   grind
variable {B:Type}
theorem Ev.chk{κ:Type}[DecidableEq κ]{step:Nat->Int->AB (CG Int B)}(l:AA α)(ok:α->Bool)(d:α->κ)(f b:B)(h:l.length<=4611686018427387904)
  (k:∀i x,At l i x->ok x=AE->((l.take i).map d).contains (d x)=AD->Ev (λn=>step n (i:Int)) (.k ((i+1:Nat):Int)))
  (q:∀i x,At l i x->ok x=AD->Ev (λn=>step n (i:Int)) (.d f))
  (m:∀i x,At l i x->ok x=AE->((l.take i).map d).contains (d x)=AE->Ev (λn=>step n (i:Int)) (.d f))
  (j:Ev (λn=>step n (l.length:Int)) (.d b)):Ev (λn=>Go.Sw.iter (step n) n 0) (bif l.all ok&&AG ((l.map d).Nodup)then b else f):=by
 have e:=pY ok d l [] (by simp);rw[Vi]at e;rw[<- e];refine tD l (λi=>(i:Int)) (λi=>bif Wq ok d ((l.take i).map d) (l.drop i)then b else f) h rfl (λi x g=>?_) ?_
 .rw[g.drop];simp only[Wq];rw[show(l.take i).map d++[d x]=(l.take (i+1)).map d by rw[g.take];simp]
  grind
 .rw[Xr];exact j
theorem Ev.inner{κ:Type}[DecidableEq κ]{step:Nat->Int->AB (CG Int B)}(l:AA α)(i:Nat)(d:α->κ)(k:κ)(h b:B)(F:l.length<=4611686018427387904)(hi:i<=l.length)
  (z:∀j y,j<i->At l j y->AG (d y=k)=AD->Ev (λn=>step n (j:Int)) (.k ((j+1:Nat):Int)))
  (E:∀j y,j<i->At l j y->AG (d y=k)=AE->Ev (λn=>step n (j:Int)) (.d h))
  (G:Ev (λn=>step n (i:Int)) (.d b)):Ev (λn=>Go.Sw.iter (step n) n 0) (bif ((l.take i).map d).contains k then h else b):=by
 have e:((l.take i).map d).contains k=(l.take i).any λy=>AG (d y=k):=by
  grind
 rw[e];have g:(l.take i).length=i:=by simp;omega
 have x:∀j y,At (l.take i) j y->j<i/\At l j y:=by
  intro j y f;have t:=f.lt';have q:=f.get
  grind[Y3]
 refine iB (l.take i) (λy=>AG (d y=k)) (λi=>(i:Int)) _ _ (by omega) rfl (λj y f m=>?_) (λj y f m=>?_) ?_
 .grind
 .grind
 grind
theorem mC{κ:Type}[DecidableEq κ]{step:Nat->AA (κ×β)×Int->AB (CG (AA (κ×β)×Int) (AA (κ×β)))}(l:AA α)(key:α->κ)(v:β)(hl:l.length<=4611686018427387904)
  (hc:∀i x m,At l i x->Ev (λn=>step n (m,(i:Int))) (.k (QJ m (key x) v,((i+1:Nat):Int))))
  (hd:∀m,Ev (λn=>step n (m,(l.length:Int))) (.d m)):Ev (λn=>Go.Sw.iter (step n) n ([],0)) (YD key v l):=
 YL l (λm x=>QJ m (key x) v) [] (λm i=>(m,(i:Int))) (λm=>m) hl rfl (by grind) (hd _)
theorem Ev.shift{α:Type}{f:Nat->AB α}{v:α}(h:Ev f v):Ev (λn=>f (n+1)) v:=by
 obtain⟨N,h⟩:=h;exact⟨N,(by grind)⟩
def DW{S:Type}(step:Nat->S->AB (CG S B))(s:S)(b:B):Prop:=∃N,∀n k,N<=n->N<=k->Go.Sw.iter (step n) k s=AC b
section
variable {S B:Type} {step:Nat->S->AB (CG S B)} {s s':S} {b:B}
theorem DW.done(h:Ev (λn=>step n s) (.d b)):DW step s b:=by
 obtain⟨N,h⟩:=h;refine⟨N+1,λn k g f=>?_⟩;obtain⟨d,rfl⟩:∃d,k=d+1:=⟨k-1,by omega⟩
 grind[Go.Sw.iter]
theorem DW.cont(h:Ev (λn=>step n s) (.k s'))(q:DW step s' b):DW step s b:=by
 obtain⟨N,h⟩:=h;obtain⟨M,q⟩:=q;refine⟨max N M+1,λn k g f=>?_⟩;obtain⟨d,rfl⟩:∃d,k=d+1:=⟨k-1,by omega⟩
 grind[Go.Sw.iter]
theorem DW.ev(h:DW step s b):Ev (λn=>Go.Sw.iter (step n) n s) b:=by
 obtain⟨N,h⟩:=h;exact⟨N,λn d=>h n n d d⟩
theorem DW.eq{b':B}(h:DW step s b)(e:b=b'):DW step s b':=e▸h
end
variable {l:AA α}
theorem QG{r:AA α}{i:Nat}{x:α}(f:l.length<=4611686018427387904)(h:l.drop i=x::r):At l i x/\l.drop (i+1)=r:=by
 have d:l[i]?=AC x:=by
  have:=congrArg (λl=>l[0]?) h
  grind
 refine⟨Y3 f d,?_⟩;have:=(Y3 f d).drop
 grind
theorem Yt{i:Nat}(h:l.drop i=[])(hi:i<=l.length):AG ((i:Int)<(l.length:Int))=false:=by
 simp_all
theorem Z.{u}{α:Sort u}{a:α}:a=a:=rfl
section
variable {P:AK} {h0 N:Nat} {all:Array AM} {env:Env} {H H':Qd} {Q:Qz} {l:AA AM} {o:AM} {d:Nat}
theorem aV(x:A)(H:Qd){x':A}{H':Qd}(f:x'=x)(hH:H'=H)(k:WO P h0 N all l (up env d x) H Q):WO P h0 N all l (up env d x') H' Q:=by subst f;subst hH;exact k
theorem vX(x:A)(f:CU P o env H x)(k:WO P h0 N all l (up env d x) H Q)(hg:QA all o env true:=by rfl)(hd:o.dst=AC d:=by rfl)(hN:Nat.blt d N=true:=by rfl):WO P h0 N all (o::l) env H Q:=
 Yn hg hd hN f k
theorem Wp:WO P h0 N all [] env H (YW env H):=WO.nil YW.mk
end
section
variable {P:AK} {o:AM} {env:Env} {H:Qd}
theorem _G{ro:Nat->Prop}{σ:Ch}{w:AJ}(g:GP w){b:Nat}{zs:AA Int}(h:Mb[b]?=AC zs):∀(i:Nat),CR ro σ w b ((zs.drop i).map (A.int .i64)) i:=by
 intro i;generalize hl:zs.drop i=l
 induction l generalizing i with
 |nil=>trivial
 |cons z l j=>
  have f:zs[i]?=AC z:=by
   have:=congrArg (·[0]?) hl
   grind
  have d:zs.drop (i+1)=l:=by
   rw[<- List.drop_drop,hl];rfl
  exact⟨⟨_,g.tab b zs h i z f,by simp[QC],rfl⟩,j (i+1) d⟩
theorem rL{n g:Nat}{zs:AA Int}(h:∀w,(isAgg t).run P w=.ok AE w)(f:∀w,(sizeOf t).run P w=.ok n w)(hg:Mb[g]?=AC zs)(x:zs.length=n)(j:o.op=.load t (.global g):=by rfl):
  CU P o env H (.agg (zs.map (A.int .i64))):=by
 intro q ro σ N a w r;obtain⟨l,d,_,m⟩:=YC (P:=P) 0 (by simpa using _G (ro:=ro) (σ:=σ) r.sim.roOk.gp hg 0);refine⟨.agg l.toArray,?_,l,rfl,d⟩;have k:a.eval (.global g)=.pointer (AC ⟨g,0,AF⟩):=rfl
 simp_all[execOp,Instr.loadAt,Instr.sureAddr,loadVar,loadCells]
end
open Go.Proofs
variable {cells:α->AA A}{h:Nat}
section
variable {P:AK}
def Zd(agg:Bool)(l:AA AL):AL:=bif agg then .agg l.toArray else l.headD .nilFunc
structure Ii (P:AK) (t:TypeId) (h k:Nat) (agg:Bool) (ok:List AL->Prop):Prop where
 len:∀l,ok l->l.length=k
 ia:∀w,(isAgg t).run P w=.ok agg w
 so:∀w,(sizeOf t).run P w=.ok k w
 eq:∀(w:AJ) (d:Nat) (l m:List AL),ok l->ok m->∃b:Bool,(Op.equalIn (d+h) t (Zd agg l) (Zd agg m)).run P w=.ok b w/\(b=AE↔l=m)
structure Cs (P:AK) (fs:List Field) (h off k:Nat) (ok:List AL->Prop):Prop where
 len:∀l,ok l->l.length=k
 eq:∀(w:AJ) (d:Nat) (p q l m:List AL),p.length=off->q.length=off->ok l->ok m->∃b:Bool,(Op.eqFields (d+h) (p++l).toArray (q++m).toArray fs).run P w=.ok b w/\(b=AE↔l=m)
theorem Ii.int{t:TypeId}{k:IntKind}(g:P.underlying t=AC (.int k))(f:∀w,(isAgg t).run P w=.ok AD w)(j:∀w,(sizeOf t).run P w=.ok 1 w)(h:Nat):Ii P t (h+1) 1 AD (λl=>∃n:Int,l=[.int k n]):=by
 refine⟨?_,f,j,?_⟩
 .simp
 .rintro w d _ _ ⟨n,rfl⟩ ⟨m,rfl⟩;exact⟨_,run_equalIn_int w (d+h) t k k n m g,by simp⟩
theorem Ii.bool{t:TypeId}(g:P.underlying t=AC .bool)(f:∀w,(isAgg t).run P w=.ok AD w)(j:∀w,(sizeOf t).run P w=.ok 1 w)(h:Nat):Ii P t (h+1) 1 AD (λl=>∃n:Bool,l=[.bool n]):=by
 refine⟨?_,f,j,?_⟩
 .simp
 .rintro w d _ _ ⟨n,rfl⟩ ⟨m,rfl⟩;exact⟨_,run_equalIn_bool' w (d+h) t n m g,by simp⟩
theorem Cs.nil(h d:Nat):Cs P [] h d 0 (λl=>l=[]):=by
 refine⟨?_,?_⟩
 .simp
 simp_all[Op.eqFields]
theorem pt{t:TypeId}{agg:Bool}{w:AJ}(f:∀w,(isAgg t).run P w=.ok agg w)(m:∀w,(sizeOf t).run P w=.ok k w)(p d g:AA AL)(j:d.length=k)(h:agg=AD->k=1):
  (part t (p++(d++g)).toArray p.length).run P w=.ok (Zd agg d) w:=by
 unfold part;cases agg with
 |true=>
  simp_all[Zd]
 |false=>
  have:=h rfl;subst this
  match d,j with
  |[v],_=>simp[f,Zd]
theorem Cs.cons{f:Field}{fs:AA Field}{j B:Nat}{agg:Bool}{m k:AA AL->Prop}(ho:Nat.beq f.offset j=AE)(W:f.name≠"_")(g:Ii P f.type h t agg m)(L:agg=AD->t=1)(F:Cs P fs h (j+t) B k):
  Cs P (f::fs) h j (t+B) (λl=>∃l1 l2,l=l1++l2/\m l1/\k l2):=by
 have z:f.offset=j:=(by simp_all);refine⟨?_,?_⟩
 .rintro _ ⟨l1,l2,rfl,a,b⟩;rw[X3,g.len _ a,F.len _ b]
 .rintro w d p q _ _ N E ⟨l1,l2,rfl,y,X⟩ ⟨x,M,rfl,n,V⟩;have J:=pt (w:=w) g.ia g.so p l1 l2 (g.len _ y) L;have O:=pt (w:=w) g.ia g.so q x M (g.len _ n) L;rw[N]at J;rw[E]at O;obtain⟨H,Q,Y⟩:=g.eq w d l1 x y n;obtain⟨R,G,T⟩:=F.eq w d (p++l1) (q++x) l2 M (by rw[X3,N,g.len _ y]) (by rw[X3,E,g.len _ n]) X V;rw[Vj,Vj]at G;have hl:l1.length=x.length:=by rw[g.len _ y,g.len _ n]
  refine⟨H&&R,?_,?_⟩
  .cases H<;>simp[Op.eqFields,W,z,J,O,Q,G]
  .rw[XW,Y,T];constructor
   .grind
   .intro e;exact List.append_inj e hl
theorem Ii.struct{t:TypeId}{h k:Nat}{ok:AA AL->Prop}(y:P.underlying t=AC (.struct (P.fieldsOf t)))(q:P.stoodInHeld t=AD)(g:∀w,(isAgg t).run P w=.ok AE w)(j:∀w,(sizeOf t).run P w=.ok k w)(f:Cs P (P.fieldsOf t).toList h 0 k ok):Ii P t (h+1) k AE ok:=by
 refine⟨f.len,g,j,λw d l m a b=>?_⟩;obtain⟨r,x,n⟩:=f.eq w d [] [] l m rfl rfl a b;refine⟨r,?_,n⟩;show(Op.equalIn (d+h+1) t (.agg l.toArray) (.agg m.toArray)).run P w=_
 grind[run_equalIn_agg]
theorem QQ{t:TypeId}{fs:Array Field}{ok:AA AL->Prop}(m:P.underlying t=AC (.struct fs))(d:P.stoodInHeld t=AD)(f:∀w,(isAgg t).run P w=.ok AE w)(g:∀w,(sizeOf t).run P w=.ok k w)(j:Cs P fs.toList h 0 k ok):Ii P t (h+1) k AE ok:=by
 grind[Program.fieldsOf,Ii.struct]
structure We (P:AK) (t:TypeId) {α:Type} (cells:α->List A):Prop where
 scl:∀x,LP (cells x)=AE
 inj:∀x y,YX (cells x)=YX (cells y)->x=y
 guard:P.eqGuardType P.depth t=AD
 eq:∀(w:AJ) x y,∃b:Bool,(Op.equalIn 10000 t (.agg (YX (cells x)).toArray) (.agg (YX (cells y)).toArray)).run P w=.ok b w/\(b=AE↔YX (cells x)=YX (cells y))
theorem gL{ok:AA AL->Prop}(E:Ii P t h k AE ok)(g:Nat.ble h 10000=AE)(d:∀x,ok (YX (cells x)))(f:∀x,LP (cells x)=AE)(hi:∀x y,YX (cells x)=YX (cells y)->x=y)(hg:P.eqGuardType P.depth t=AD):We P t cells:=by
 refine⟨f,hi,hg,λw x y=>?_⟩;have:=E.eq w (10000-h) (YX (cells x)) (YX (cells y)) (d x) (d y)
 rwa [show 10000-h+h=10000 by simp_all]at this
variable {o:AM} {env:Env} {H:Qd}
theorem gm{α:Type}[DecidableEq α]{cells:α->AA A}{t u:TypeId}{x y:Operand}{p q:α}(E:We P t cells)(F:CQ env x=.agg (cells p))(B:CQ env y=.agg (cells q))(z:o.op=.binOp .eql t x y u:=by rfl):CU P o env H (.bool (p==q)):=by
 intro L J σ N a w r;have h:=Qq r x;have g:=Qq r y;rw[F]at h;rw[B]at g;have m:=VR.val (a:=.agg (cells p)) (E.scl p) h;have G:=VR.val (a:=.agg (cells q)) (E.scl q) g;obtain⟨b,j,n⟩:=E.eq w p q;have k:b=(p==q):=by
  rw[XY,n,Vy];exact⟨E.inj p q,λe=>by rw[e]⟩
 refine⟨.bool (p==q),?_,rfl⟩;rw[<- k];generalize a.eval=ρ at*;have f:ρ x=.agg (YX (cells p)).toArray:=m;have d:ρ y=.agg (YX (cells q)).toArray:=G;simp[z,f,d,go_sem,run_eqGuard_agg _ _ _ _ _ _ _ E.guard,j]
theorem rK{α:Type}[DecidableEq α]{cells:α->AA A}{t u:TypeId}{x y:Operand}{p q:α}(E:We P t cells)(F:CQ env x=.agg (cells p))(B:CQ env y=.agg (cells q))(z:o.op=.binOp .neq t x y u:=by rfl):CU P o env H (.bool (p != q)):=by
 intro L J σ N a w r;have h:=Qq r x;have g:=Qq r y;rw[F]at h;rw[B]at g;have m:=VR.val (a:=.agg (cells p)) (E.scl p) h;have G:=VR.val (a:=.agg (cells q)) (E.scl q) g;obtain⟨b,j,n⟩:=E.eq w p q;have k:b=(p==q):=by
  rw[XY,n,Vy];exact⟨E.inj p q,λe=>by rw[e]⟩
 refine⟨.bool (p != q),?_,rfl⟩;rw[bne, <- k];generalize a.eval=ρ at*;have f:ρ x=.agg (YX (cells p)).toArray:=m;have d:ρ y=.agg (YX (cells q)).toArray:=G;simp[z,f,d,go_sem,run_eqGuard_agg _ _ _ _ _ _ _ E.guard,j]
end
end Go.Sw
namespace Go.Sw
open Option renaming some→AC,none→AF
open Bool renaming false→AD,true→AE
open Decidable renaming decide→AG
open Go renaming World→AJ,Program→AK,Value→AL,Oper→AM
structure c9 (g g':Nat->Prop) (W W':AJ):Prop where
 sub:∀b,g b->g' b
 new:∀b,g' b->g b\/W.heap.size<=b
 lt:∀b,g' b->b<W'.heap.size
 all:∀b,W.heap.size<=b->b<W'.heap.size->g' b
 keep:∀b,b<W.heap.size->¬g b->W'.heap[b]?=W.heap[b]?
 size:W.heap.size<=W'.heap.size
 shape:∀b x,W.shape? b=AC x->W'.shape? b=AC x
 os:W'.os=W.os
 tape:W'.tape=W.tape
 output:W'.output=W.output
 drawn:W.drawn<=W'.drawn
abbrev Jv(T:Type):=AA T->(Nat->Prop)->(Nat->Prop)->AJ->Prop
structure nh {T:Type} (J:Jv T):Prop where
 ev:∀rem q g W W' ro',J rem q g W->Qm g q W ro' W'->J rem q g W'
 up:∀rem q g g' W,J rem q g W->(∀b,g b->g' b)->(∀b,g' b->b<W.heap.size)->J rem q g' W
variable {W':AJ}{fr g ro:Nat->Prop}{σ:Ch}
theorem Ca.round{g':Nat->Prop}{H:Qd}{W:AJ}(s:Ca fr ro σ H W)(f:∀b,g b->fr b)(k:c9 g g' W W'):Ca (λb=>fr b\/g' b) ro σ H W'/\Qm (λb=>b<W.heap.size/\ ¬g b) ro W ro W':=by
 have hro:=λb q=>k.keep b (s.roLt b q) (λr=>s.roFr b q (f b r));have t:DL ro σ W ro σ W':=by
  have ev:Qm (λ_=>False) ro W ro W':=⟨λ_ q=>q,hro,λ_ q=>q.elim,k.size,k.shape,k.os,k.tape,k.output,k.drawn⟩;have:=ev.ext σ []
  grind
 refine⟨⟨s.len,s.roOk.to (λ_ q=>q) hro (λb q=>Vg (s.roLt b q) k.size),λb q=>q.elim (λq=>Vg (s.frLt b q) k.size) (k.lt b),λb q r=>?_,λi b x h m J=>?_,s.inj,λi y x h m=>?_,
  s.hidTo (· = ·) Ym k.size (by simp) (λi b x c h m J N=>N.elim id λq=>(k.new c q).elim (f c) λn=>(by have:=(s.hid i b x c h m J).lt;omega)) λj d y E B O=>.inl ⟨j,y,rfl,E,B,id,λc q=>s.hidKeep E B (λz=>k.keep d (s.own j d y E B z).1 λr=>(s.own j d y E B z).2.2 (f d r)) hro q⟩⟩,
  ⟨λ_ q=>q,hro,λb q=>k.keep b q.1 q.2,k.size,k.shape,k.os,k.tape,k.output,k.drawn⟩⟩
 .rcases r with r|r
  .exact s.roFr b q r
  .rcases k.new b r with n|n
   .exact s.roFr b q (f b n)
   .have:=s.roLt b q;omega
 .obtain⟨G,M,F⟩:=s.own i b x h m J;refine⟨Vg G k.size,M,λr=>?_⟩;rcases r with r|r
  .exact F r
  .rcases k.new b r with n|n
   .grind
   .omega
 .refine(s.blk i y x h m).keep t ?_ ?_
  .rintro b rfl L;obtain⟨G,M,F⟩:=s.own i b x h m L;exact k.keep b G (λr=>F (f b r))
  .rintro b c rfl L;have q:=s.hid i b x c h m L;exact k.keep c q.lt (λr=>q.fr (f c r))
variable {T:Type}
def yt(J Jx:Jv T)(g ri:Nat->Prop)(W1:AJ)(rem:AA T):Ending->AJ->Prop:=λe W'=>
 ∃g' q',(∀b,q' b->ri b)/\c9 g g' W1 W'/\((e=.returned (.bool AE)/\J rem q' g' W')\/(e=.returned (.bool AD)/\Jx rem q' g' W'))
structure FM (T:Type) where
 l:Nat
 J:Jv T
 Jx:Jv T
 enc:T->List A
 nx:List T->T->List T->Prop
structure FM.ok {T:Type} (X:FM T) (P:AK):Prop where
 b:nh X.J
 bx:nh X.Jx
 round:∀l x rem q g ri W1 vs,X.nx l x rem->X.J l q g W1->(∀b,q b->ri b)->(∀b,ri b->b<W1.heap.size/\ ¬g b)->LR ri [] W1 (X.enc x) vs->YieldAt Fence.wide 0 P X.l vs.toArray W1 (yt X.J X.Jx g ri W1 rem)
def Pz(P:AK)(f:FuncId)(caps:AA A)(H:Qd)(enc:T->AA A)(nx:AA T->T->AA T->Prop)(xs:AA T):Prop:=
 ∀(X:FM T),X.enc=enc->X.nx=nx->X.ok P->∀fr ro σ w capv q,Ca fr ro σ H w->(∀b,q b->ro b)->LR ro σ w caps capv->X.J xs q fr w->
  Calls P f ((Value.func (.yield X.l) #[] #[]::capv)).toArray w λe W'=>(∃v,e=.returned v)/\ ∃g q',(∀b,fr b->g b)/\((X.J [] q' g W')\/(∃rem,X.Jx rem q' g W'))
inductive G' (T:Type) where
 |on (rem:List T)
 |off (rem:List T)
def FM.J'(X:FM T):G' T->(Nat->Prop)->(Nat->Prop)->AJ->Prop
 |.on rem=>X.J rem
 |.off rem=>X.Jx rem
def FM.at(X:FM T)(st:G' T)(g ro:Nat->Prop)(W:AJ):Prop:=∃q,(∀b,q b->ro b)/\X.J' st q g W
variable {ro':Nat->Prop}{w w':AJ}
theorem Qm.roMono{ro0:Nat->Prop}(h:Qm fr ro w ro' w')(s:∀b,ro0 b->ro b):Qm fr ro0 w ro' w':=
 ⟨λb q=>h.sub b (s b q),λb q=>h.keepRo b (s b q),h.keepFr,h.size,h.shape,h.os,h.tape,h.output,h.drawn⟩
theorem FM.ok.ev{T:Type}{X:FM T}{P:AK}(h:X.ok P){j:G' T}{g ro ro':Nat->Prop}{W W':AJ}(d:X.at j g ro W)(he:Qm g ro W ro' W'):X.at j g ro' W':=by
 obtain⟨q,f,d⟩:=d;refine⟨q,λb z=>he.sub b (f b z),?_⟩;cases j with
 |on rem=>exact h.b.ev rem q g W W' ro' d (he.roMono f)
 |off rem=>exact h.bx.ev rem q g W W' ro' d (he.roMono f)
theorem FM.ok.up{T:Type}{X:FM T}{P:AK}(h:X.ok P){f:G' T}{g g' ro:Nat->Prop}{W:AJ}(d:X.at f g ro W)(hg:∀b,g b->g' b)(j:∀b,g' b->b<W.heap.size):X.at f g' ro W:=by
 obtain⟨q,k,d⟩:=d;refine⟨q,k,?_⟩;cases f with
 |on rem=>exact h.b.up rem q g g' W d hg j
 |off rem=>exact h.bx.up rem q g g' W d hg j
abbrev YP(T:Type):=K7->Env->Qd->G' T->Prop
structure In (g fr:Nat->Prop) (ds:List Deferred):Prop where
 sub:∀b,g b->fr b
 beside:∀D,({target:=.collected D,args:= #[]}:Deferred)∈ds->¬g D
def Md(X:FM T)(h0:Nat)(fr ro:Nat->Prop)(σ:Ch)(w:AJ)(N:Nat)(ds:AA Deferred)(Q:YP T):Exit->Act->AJ->Prop:=
 λe a' w'=>∃x env' H' st ro' σ' fr' g',RV e x/\Q x env' H' st/\DH fr' ro' σ' H' env' N a' w'/\(X.at st g' ro' w'/\In g' fr' a'.defers)/\(∀b,ro b->ro' b)/\w.heap.size<=w'.heap.size/\σ'.take h0=σ.take h0/\C8 fr w ds fr' a'.defers
variable {N k:Nat}
theorem Md.grow{T:Type}{X:FM T}{j:Nat->Prop}{σ1:Ch}{q:AJ}{t d:AA Deferred}{Q:YP T}{e:Exit}{a':Act}
  (h:Md X k g j σ1 q N d Q e a' w')(R:∀b,ro b->j b)(y:w.heap.size<=q.heap.size)(z:σ1.take k=σ.take k)(hg:C8 fr w t g d):Md X k fr ro σ w N t Q e a' w':=by
 obtain⟨x,f,H',H,m,σ',n,L,O,B,G,F,P,M,E,J⟩:=h;exact⟨x,f,H',H,m,σ',n,L,O,B,G,F,(by grind),XV y M,E.trans z,hg.trans y J⟩
def Cw(X:FM T)(P:AK)(h0 N:Nat)(c:Code)(env:Env)(H:Qd)(st:G' T)(Q:YP T):Prop:=
 X.ok P->∀rd fr ro σ a w g,DH fr ro σ H env N a w->X.at st g ro w/\In g fr a.defers->rd=AF->c.wpIn (WF rd) 0 P (Md X h0 fr ro σ w N a.defers Q) a w
def FH(X:FM T)(P:AK)(h0 N:Nat)(all:Array AM)(l:AA AM)(env:Env)(H:Qd)(st:G' T)(Q:YP T):Prop:=
 X.ok P->∀rd fr ro σ a w g,DH fr ro σ H env N a w->X.at st g ro w/\In g fr a.defers->rd=AF->D6 P rd all (Md X h0 fr ro σ w N a.defers Q) l a w
theorem In.later{fr':Nat->Prop}{ds d:AA Deferred}(h:In g fr ds)(f:∀b,fr b->b<w.heap.size)(hg:C8 fr w ds fr' d):In g fr' d:=by
 refine⟨λb q=>hg.sub b (h.sub b q),λD hD q=>?_⟩;rcases hg.ds _ hD with r|⟨D',e,r⟩
 .exact h.beside D r q
 .have:=by simpa using e
  have:=f D (h.sub D q);omega
section
variable {T:Type} {X:FM T} {P:AK} {h0 N:Nat} {c c':Code} {env:Env} {H:Qd} {st:G' T} {Q:YP T}
theorem Qmx{n:AA Deferred}{e:Exit}{a':Act}(B:X.ok P)(h:Hj h0 fr ro σ w N n (λx env H=>Q x env H st) e a' w')(F:∀b,fr b->b<w.heap.size)(m:X.at st g ro w/\In g fr n):
  Md X h0 fr ro σ w N n Q e a' w':=by
 obtain⟨x,d,H',f,σ',k,E,z,y,j,t,q⟩:=h;exact⟨x,d,H',st,f,σ',k,g,E,z,y,⟨B.ev m.1 (j.frMono m.2.sub),m.2.later F q⟩,j.sub,j.size,t,q⟩
theorem Cw.lift(h:TC P h0 N c env H (λx env H=>Q x env H st)):Cw X P h0 N c env H st Q:=
 λhX rd fr ro σ a w g r hj hrd=>Code.wpIn_mono (λe a' w' q=>Qmx hX q r.sim.frLt hj) (h rd fr ro σ a w r (hrd▸ZN))
def cM(X:FM T)(P:AK)(h0 N:Nat)(c:Code)(Q:YP T):YP T
 |.normal,env,H,st=>Cw X P h0 N c env H st Q
 |.exit id,env,H,st=>Q (.exit id) env H st
 |.ret,env,H,st=>Q .ret env H st
theorem Cw.seq(h:Cw X P h0 N c env H st (cM X P h0 N c' Q)):Cw X P h0 N (.seq c c') env H st Q:=by
 intro J L R M σ a w g r hj hrd;refine wpIn_seq (Code.wpIn_mono ?_ (h J L R M σ a w g r hj hrd));rintro e T O ⟨x,d,H',k,j,σ',f,G,m,t,y,z,n,E,F,B⟩;cases e with
 |normal=>
  obtain rfl:x=.normal:=m;exact Code.wpIn_mono (λe a w q=>q.grow n E F B) (t J L f j σ' T O G y z hrd)
 |exit id=>
  obtain rfl:x=.exit id:=m;exact⟨_,d,H',k,j,σ',f,G,rfl,t,y,z,n,E,F,B⟩
 |ret=>
  obtain rfl:x=.ret:=m;exact⟨_,d,H',k,j,σ',f,G,rfl,t,y,z,n,E,F,B⟩
 |_=>exact m.elim
theorem Cw.region{id:Nat}{l:AA AM}(h:FH X P h0 N l.toArray l env H st Q):Cw X P h0 N (.region id l.toArray AD) env H st Q:=
 λhX rd fr ro σ a w g r hj hrd=>wpIn_region_lit (h hX rd fr ro σ a w g r hj hrd)
theorem Cw.cond{x:Operand}{t:Bool}(m:CQ env x=.bool t)(n:t=AE->Cw X P h0 N c env H st Q)(q:t=AD->Cw X P h0 N c' env H st Q):Cw X P h0 N (.cond x c c') env H st Q:=by
 intro h j k f σ a w g r hj hrd;have d:=Qq r x;rw[m]at d;exact wpIn_cond_split d (λe=>n e h j k f σ a w g r hj hrd) (λe=>q e h j k f σ a w g r hj hrd)
theorem FH.nil{all:Array AM}(h:Q .normal env H st):FH X P h0 N all [] env H st Q:=
 λhX rd fr ro σ a w g r hj hrd=>⟨_,env,H,st,ro,σ,fr,g,rfl,h,r,hj,λ_ q=>q,XT _,rfl,C8.refl _ _ _⟩
end
variable {P:AK}{Q:Exit->Act->AJ->Prop}{rd:AB Nat}
theorem Qjk{o:AM}{a:Act}{K K':Act->AJ->Prop}{Q':Exit->Act->AJ->Prop}(j:∀a w,K a w->K' a w)(y:∀ch a w,Q (.panic ch) a w->Q' (.panic ch) a w)(m:∀a w,Q .outgrown a w->Q' .outgrown a w)
  {r:Result Next}(h:o.uponIn (WF rd) 0 P a K Q r):o.uponIn (WF rd) 0 P a K' Q' r:=by
 cases r with
 |ok x w=>
  cases x with
  |value v=>exact j _ _ h
  |skip=>exact j _ _ h
  |defer d=>exact j _ _ h
  |enter f g=>
   refine⟨h.1,CallsIn.mono h.2 ?_⟩;intro e k q;cases e with
   |returned v=>grind
   |panicked c=>grind
   |outgrown=>obtain⟨a,w,q⟩:=q;exact⟨a,w,m _ _ q⟩
  |row r g=>exact⟨h.1,RowsIn.mono h.2 λv k q=>j _ _ q⟩
  |round l f t assign n=>
   refine⟨h.1,RoundIn.mono h.2 ?_⟩;intro e k q;cases e with
   |returned v=>grind
   |panicked c=>grind
   |outgrown=>obtain⟨a,w,q⟩:=q;exact⟨a,w,m _ _ q⟩
  |_=>exact h
 |halt x w=>
  cases x with
  |panic v=>exact y _ _ _ h
  |_=>exact h
section
variable {T:Type} {X:FM T} {P:AK} {h0 N:Nat} {env:Env} {H:Qd} {st:G' T} {Q:YP T}
theorem FH.step{all:Array AM}{o:AM}{rest:AA AM}(h:WO P h0 N all [o] env H (λx env' H'=>x=.normal/\FH X P h0 N all rest env' H' st Q)):FH X P h0 N all (o::rest) env H st Q:=by
 intro G F B n σ a w g r hj hrd;have Y:∀j d,Hu h0 B n σ w N a.defers (λx env' H'=>x=.normal/\FH X P h0 N all rest env' H' st Q) .normal j d->D6 P F all (Md X h0 B n σ w N a.defers Q) rest j d:=by
  rintro j d ⟨x,env',H',k,σ',f,W,⟨_,L⟩,O,y,J,R,T⟩;have E:X.at st g k d/\In g f j.defers:=⟨G.ev hj.1 (y.frMono hj.2.sub),by rw[R];exact hj.2.later r.sim.frLt T⟩;have:=L G F f k σ' j d g O E hrd;exact YF (λe z t q=>(q.grow y.sub y.size J (by grind))) _ _ _ this
 have m:=h F B n σ a w r (hrd▸ZN);unfold D6 wpListIn at m⊢;split
 .rename_i M;rw[Vt M]at m;refine⟨m.1,Qjk (λz t q=>?_) (λV z t q=>?_) (λz t q=>?_) m.2⟩
  .unfold wpListIn at q
   grind
  .obtain⟨x,_,_,_,_,_,q,_⟩:=q;exact q.elim
  .obtain⟨x,_,_,_,_,_,q,_⟩:=q;exact q.elim
 simp_all[wpListIn]
theorem FH.yield{all:Array AM}{o:AM}{rest:AA AM}{d:Nat}{x:T}{J rem:AA T}(O:X.nx J x rem)(hg:QA all o env AE)(L:o.dst=AC d)(hN:Nat.blt d N=AE)
  (M:∀fr ro σ a w,DH fr ro σ H env N a w->∃vs:AA AL,LR ro [] w (X.enc x) vs/\(execOp a.eval o).run P w=(Instr.yield X.l vs.toArray).run P w)
  (k:∀b,FH X P h0 N all rest (up env d (.bool b)) H (bif b then .on rem else .off rem) Q):FH X P h0 N all (o::rest) env H (.on J) Q:=by
 intro R W fr ro σ a w g r hj hrd;obtain⟨vs,hv,he⟩:=M fr ro σ a w r;obtain⟨q,Y,F⟩:=hj.1;obtain⟨fn,tmps,assign,V,h1,h2⟩:=R.round J x rem q g ro w vs O F Y (λb z=>⟨r.sim.roLt b z,λy=>r.sim.roFr b z (hj.2.sub b y)⟩) hv;have h3:=he.trans h1;unfold D6 wpListIn;rw[Vt (YT hg r)];refine⟨λ_ _=>trivial,?_⟩;rw[g7 h3 (λd e=>by cases e)];refine⟨λh=>by simp[WF,Fence.wide]at h,(RoundIn.mono h2 ?_)⟩;rintro e j ⟨m,n,E,B,f⟩;obtain⟨s',ev⟩:=r.sim.round hj.2.sub B;have G:d<N:=by simp_all
 have t:DL ro σ w ro σ j:=by have:=ev.ext σ [];grind
 have fin:∀b,X.at (bif b then .on rem else .off rem) m ro j->D6 P W all (Md X h0 fr ro σ w N a.defers Q) rest (a.put o.dst (.bool b)) j:=by
  intro b f;have hm:IT (λb=>fr b\/m b) a.defers j:=r.defers.to λD L q1 q2=>⟨.inl q1,(B.keep D (r.sim.frLt D q1) (hj.2.beside D L)).trans q2⟩;have hi:In m (λb=>fr b\/m b) a.defers:=by
   refine⟨λb q=>.inr q,λD hD q=>?_⟩;rcases B.new D q with n|n
   .exact hj.2.beside D hD n
   .have:=r.sim.frLt D (r.defers.mark hD).1;omega
  have r':DH (λb=>fr b\/m b) ro σ H (up env d (.bool b)) N {a with tmps:=a.tmps.setIfInBounds d (.bool b)} j:=
   ⟨s',VR.up (fr:=fr) (λs=>(r.env s).mono t) (by rw[r.size];exact G) rfl,by simpa using r.size,hm⟩
  have:=k b R W _ ro σ _ j m r' ⟨f,hi⟩ hrd;simp[L];refine YF (λe a2 w2 q=>q.grow (λ_ q=>q) B.size rfl ⟨λ_ q=>.inl q,λb q=>?_,λ_ q=>q,λ_ q=>.inl q⟩) _ _ _ this;rcases q with q|q
  .exact .inl q
  .rcases B.new b q with q|q
   .exact .inl (hj.2.sub b q)
   omega
 rcases f with⟨rfl,f⟩|⟨rfl,f⟩
 .exact fin AE ⟨n,E,f⟩
 .exact fin AD ⟨n,E,f⟩
end
def fA:YP T:=λx env H st=>(x=.normal\/x=.ret)/\(st=.on []\/ ∃rem,st=.off rem)
theorem tJ{T:Type}{f:FuncId}{fn:Func}{c:Code}{caps:AA A}{H:Qd}{enc:T->AA A}{nx:AA T->T->AA T->Prop}{xs:AA T}
  (hf:P.funcs[f]?=AC fn)(hb:fn.body=AC c)(hN:fn.ntmps=N)(hA:Nat.ble (caps.length+1) N=AE)(hR:fn.results= #[])
  (h:∀X,X.enc=enc->X.nx=nx->Cw X P H.length N c (KJ 0 (.fn (.yield X.l) [] []::caps)) H (.on xs) fA):Pz P f caps H enc nx xs:=by
 intro X hE hNx hX fr ro0 σ w capv q0 hs hq0 hl hj;have m:LR ro0 σ w (.fn (.yield X.l) [] []::caps) (Value.func (.yield X.l) #[] #[]::capv):=⟨_,_,rfl,⟨[],[],rfl,rfl,rfl⟩,hl⟩;have V:=m.length;have aa:caps.length+1<=N:=by simp_all
 refine(callsIn_wide).1 (callsIn_of_wp_marks hf hb trivial (Code.wpIn_mono ?_ (h X hE hNx hX AF fr ro0 σ _ w fr ⟨hs,?_,?_,List.nodup_nil,λd t=>by cases t⟩ ⟨⟨q0,hq0,hj⟩,λ_ q=>q,λD hD=>by cases hD⟩ rfl)))
 .rintro e G R ⟨x,O,H1,st,ac,σ1,ab,Q,Y,⟨h2,B⟩,k,⟨h4,j⟩,h5,h6,h7,W⟩;have y:LeavesInM Fence.wide 0 P fn G.tmps (λe W'=>(∃v,e=.returned v)/\ ∃g q',(∀b,fr b->g b)/\((X.J [] q' g W')\/(∃rem,X.Jx rem q' g W'))) G.defers .returning R:=by
   refine JI G.defers R k.defers.1 (λd t=>?_) (k.sim.frMono j.sub) (λw2 s2 n=>?_)
   .obtain⟨D,rfl,_⟩:=(W.ds d t).resolve_left (by simp);obtain⟨M,q2⟩:=k.defers.mark t;exact⟨D,rfl,λq=>k.sim.roFr D q M,j.beside D t,λi x E F L=>(k.sim.own i D x E F L).2.2 M,λi d x E F L=>(k.sim.hid i d x D E F L).fr M,q2⟩
   .have z:=hX.up (hX.ev h4 n) (g':=λb=>Q b\/fr b) (λb q=>.inl q) (λb q=>Vg (k.sim.frLt b (q.elim (j.sub b) (W.sub b))) n.size);obtain⟨q9,_,z⟩:=z;refine⟨.tuple #[],by simp[results,hR],⟨_,rfl⟩,λb=>Q b\/fr b,q9,λb q=>.inr q,?_⟩;rcases B with rfl|⟨rem,rfl⟩
    .exact .inl z
    .exact .inr ⟨rem,z⟩
  cases e with
  |normal=>exact y
  |ret=>exact y
  |exit id=>
   obtain rfl:x=.exit id:=Y
   grind
  |_=>exact Y.elim
 .intro s;have:=dS [] rfl m (Array.replicate (fn.ntmps-(Value.func (.yield X.l) #[] #[]::capv).toArray.size) undef) s
  grind
 grind
section
variable {T:Type} {X:FM T} {P:AK} {h0 N:Nat} {c c':Code} {env:Env} {H:Qd} {st:G' T} {Q Q':YP T}
theorem Cw.mono(h:Cw X P h0 N c env H st Q)(m:∀x env H st,Q x env H st->Q' x env H st):Cw X P h0 N c env H st Q':=by
 intro z B E t σ a w g r hj hrd;refine Code.wpIn_mono ?_ (h z B E t σ a w g r hj hrd);rintro e J G ⟨x,d,H',k,f,σ',j,y,F,q,n⟩;exact⟨x,d,H',k,f,σ',j,y,F,m _ _ _ _ q,n⟩
theorem Cw.skip(h:Q .normal env H st):Cw X P h0 N .skip env H st Q:=Cw.lift (TC.skip h)
theorem Cw.ret(h:Q .ret env H st):Cw X P h0 N .ret env H st Q:=Cw.lift (TC.ret h)
theorem Cw.exit{id:Nat}(h:Q (.exit id) env H st):Cw X P h0 N (.exit id) env H st Q:=Cw.lift (TC.exit h)
def Wg(id:Nat)(Q:YP T):YP T
 |.normal,env,H,st=>Q .normal env H st
 |.exit id',env,H,st=>bif Nat.beq id' id then Q .normal env H st else Q (.exit id') env H st
 |.ret,env,H,st=>Q .ret env H st
theorem Cw.block{id:Nat}(h:Cw X P h0 N c env H st (Wg id Q)):Cw X P h0 N (.block id c) env H st Q:=by
 intro F G J E σ a w g r hj hrd;refine wpIn_block (Code.wpIn_mono ?_ (h F G J E σ a w g r hj hrd));rintro e M L ⟨x,d,H',m,j,σ',k,y,z,n,t⟩;cases e with
 |normal=>
  obtain rfl:x=.normal:=z;exact⟨_,d,H',m,j,σ',k,y,rfl,n,t⟩
 |exit f=>
  obtain rfl:x=.exit f:=z;unfold Exit.inBlock;simp only[Wg]at n;by_cases q:f=id
  .subst q;rw[VE,Vp]at n;simp;exact⟨.normal,d,H',m,j,σ',k,y,rfl,n,t⟩
  .have B:Nat.beq f id=false:=by
    cases e:Nat.beq f id with
    |false=>rfl
    |true=>simp_all
   rw[B,Vq]at n;simp[q];exact⟨.exit f,d,H',m,j,σ',k,y,rfl,n,t⟩
 |ret=>
  obtain rfl:x=.ret:=z;exact⟨_,d,H',m,j,σ',k,y,rfl,n,t⟩
 |_=>exact z.elim
end
section
variable {T:Type} {X:FM T} {P:AK} {h0 N:Nat} {c:Code} {env:Env} {H:Qd} {st:G' T} {Q:YP T}
def QmJ(I:Env->Qd->G' T->Prop)(Q:YP T):YP T
 |.normal,env,H,st=>I env H st
 |.exit id,env,H,st=>Q (.exit id) env H st
 |.ret,env,H,st=>Q .ret env H st
theorem rN{I:Nat->Env->Qd->G' T->Prop}(body:∀n env H st,I n env H st->Cw X P h0 N c env H st (QmJ (λenv H st=>∃n',n'<n/\I n' env H st) Q)){n:Nat}(O:I n env H st):Cw X P h0 N (.loop c) env H st Q:=by
 intro hX rd J G σ a w g r hj hrd b k cs hro hb hr;have V:∀m n env H st fr1 ro1 σ1 a1 w1 g1,n<m->I n env H st->DH fr1 ro1 σ1 H env N a1 w1->(∀b,G b->ro1 b)->w.heap.size<=w1.heap.size->σ1.take h0=σ.take h0->C8 J w a.defers fr1 a1.defers->X.at st g1 ro1 w1/\In g1 fr1 a1.defers->
   ∃e j h,Md X h0 J G σ w N a.defers Q e j h/\ArrivesIn (Machine.fenced P (WF rd)) P (lone (b.atR a1 (.code c::.inLoop c::k)) cs w1) b k cs e j h:=by
  intro m
  induction m with
  |zero=>omega
  |succ m ih=>
   intro n env H st fr1 ro1 σ1 a1 w1 g1 hn O r1 s1 z1 t1 gr1 j1;obtain⟨e,j,h,M,d⟩:=body n env H st O hX rd fr1 ro1 σ1 a1 w1 g1 r1 j1 hrd b (.inLoop c::k) cs hro hb hr;obtain⟨x,f,H',y,F,σ',E,g',L,B,q3,W,q5,q6,q7,q8⟩:=M;have Y:=λb q=>q5 b (s1 b q);have z:=gr1.trans z1 q8;have hp:∀x,Q x f H' y->RV e x->Md X h0 J G σ w N a.defers Q e j h:=λx q q'=>⟨x,f,H',y,F,σ',E,g',q',q,q3,W,Y,XV z1 q6,q7.trans t1,z⟩;cases e with
   |normal=>
    obtain rfl:x=.normal:=L;obtain⟨n',aa,B⟩:=B;obtain⟨e2,a2,w2,R,t⟩:=ih n' f H' y E F σ' j h g' (by omega) B q3 Y (XV z1 q6) (q7.trans t1) z W;exact⟨e2,a2,w2,R,.of_steps (StepsIn.trans d (.one (fenced_calm hb hr rfl) stepR_inLoop)) t⟩
   |exit id=>
    obtain rfl:x=.exit id:=L;exact⟨_,j,h,hp _ B rfl,.pass rfl (λ_ _=>.inl (by simp)) d⟩
   |ret=>
    obtain rfl:x=.ret:=L;exact⟨_,j,h,hp _ B rfl,.pass rfl (λ_ _=>.inl (by simp)) d⟩
   |_=>exact L.elim
 obtain⟨e,j,h,M,d⟩:=V (n+1) n env H st J G σ a w g (Xn _) O r (λ_ q=>q) (XT _) rfl (C8.refl _ _ _) hj;exact⟨e,j,h,M,.of_steps (.one (fenced_calm hb hr rfl) stepR_loop) d⟩
end
variable {Hc:Qd}
theorem Ca.part{H:Qd}(s0:Ca fr ro σ H w){π:AA Nat}(hH:π.map (λp=>H[p]?)=(Hc.map (QW (Ci π H.length))).map AC)(hπ:π.Nodup):
  Ca (λb=>fr b\/(∃i x,σ[i]?=AC (AC b)/\H[i]?=AC x/\x.live=AE/\i∉π)\/ ∃i x d,σ[i]?=AC (AC d)/\H[i]?=AC x/\Di w x d b/\i∉π) ro (YG σ π) Hc w/\ ∀j:Nat,σ[Ci π H.length j]?=(YG σ π)[j]? :=by
 have hp:∀p∈π,p<H.length:=λp q=>Jl hH q;have hσl:=s0.len;have n:∀(j p:Nat),π[j]?=AC p->H[p]?=(Hc[j]?).map (QW (Ci π H.length)):=by
  intro j p t;have:=congrArg (λl=>l[j]?) hH
  grind
 have P:π.length=Hc.length:=by simpa using congrArg List.length hH
 have hσc:∀j:Nat,σ[Ci π H.length j]?=(YG σ π)[j]? :=by
  intro j;have:=ge (τ:=[]) hσl hp j
  grind
 have hπj:∀(j b:Nat),(YG σ π)[j]?=AC (AC b)->∃p,π[j]?=AC p/\σ[p]?=AC (AC b):=by
  intro j b t;simp only[YG,Xo]at t
  grind
 refine⟨?_,hσc⟩
 .refine⟨by simp[YG,P],s0.roOk,?_,?_,?_,?_,?_,?_⟩
  .rintro b (R|⟨i,x,f,m,h,Q⟩|⟨i,x,d,f,m,h,Q⟩)
   .exact s0.frLt b R
   .exact(s0.own i b x f m h).1
   .exact(s0.hid i d x b f m h).lt
  .rintro b R (O|⟨i,x,f,m,h,Q⟩|⟨i,x,d,f,m,h,Q⟩)
   .exact s0.roFr b R O
   .exact(s0.own i b x f m h).2.1 R
   .exact(s0.hid i d x b f m h).ro R
  .intro j b x f m h;obtain⟨p,g,G⟩:=hπj j b f;have J:H[p]?=AC (QW (Ci π H.length) x):=by grind
   obtain⟨o1,o2,o3⟩:=s0.own p b _ G J (by rw[QU];exact h);refine⟨o1,o2,?_⟩;rintro(O|⟨i,y,y1,y2,L,V⟩|⟨i,y,d,y1,y2,L,V⟩)
   .exact o3 O
   .have:=s0.inj i p b _ _ y1 G y2 J L (by rw[QU];exact h)
    grind
   .exact(s0.hid i d y b y1 y2 L).ne p b _ G J (by rw[QU];exact h) rfl
  .intro i j b x y f m h Q q5 q6;obtain⟨p,g,G⟩:=hπj i b f;obtain⟨z,E,Y⟩:=hπj j b m;have J:H[p]?=AC (QW (Ci π H.length) x):=by rw[n i p g,h];rfl
   have W:H[z]?=AC (QW (Ci π H.length) y):=by rw[n j z E,Q];rfl
   have:=s0.inj p z b _ _ G Y J W (by rw[QU];exact q5) (by rw[QU];exact q6);subst this;have M:i<π.length:=by
    rcases VB i π.length with q|q
    .exact q
    .rw[XO q]at g;simp at g
   have t:j<π.length:=by
    rcases VB j π.length with q|q
    .exact q
    .rw[XO q]at E;simp at E
   rw[XK M]at g;rw[XK t]at E;have B:=(XZ g).trans (XZ E).symm;rcases Nat.lt_trichotomy i j with q|q|q
   .exact(VD.1 hπ i j M t q B).elim
   .exact q
   .exact(VD.1 hπ j i t M q B.symm).elim
  .intro j s x f m;have t:j<π.length:=by
    rcases VB j π.length with q|q
    .exact q
    .rw[XO (by simpa[YG]using q)]at f;simp at f
   have g:π[j]?=AC π[j]:=XK t;have J:H[π[j]]?=AC (QW (Ci π H.length) x):=by rw[n j _ g,m];rfl
   have G:σ[π[j]]?=AC s:=by
    have:=hσc j;rw[f]at this;simpa[Ci,g]using this
   exact(gB hσc).1 (s0.blk _ s _ G J)
  .intro j b x c f m h;obtain⟨p,g,G⟩:=hπj j b f;have J:H[p]?=AC (QW (Ci π H.length) x):=by rw[n j p g,m];rfl
   have k:=s0.hid p b _ c G J ((RI _ _ _ _ _).2 h);refine⟨k.lt,k.ro,?_,?_,?_⟩
   .rintro(O|⟨i,y,y1,y2,L,V⟩|⟨i,y,d,y1,y2,L,V⟩)
    .exact k.fr O
    .exact k.ne i c y y1 y2 L rfl
    .obtain⟨rfl,rfl⟩:=k.one i d y y1 y2 L;exact V (VH g)
   .intro F T y z1 z2 z3;obtain⟨z,N,X⟩:=hπj F T z1;exact k.ne z T _ X (show H[z]?=AC (QW (Ci π H.length) y)by rw[n F z N,z2];rfl) (by rw[QU];exact z3)
   .intro F T y z1 z2 z3;obtain⟨z,N,X⟩:=hπj F T z1;obtain⟨z4,z5⟩:=k.one z T _ X (show H[z]?=AC (QW (Ci π H.length) y)by rw[n F z N,z2];rfl) ((RI _ _ _ _ _).2 z3);subst z5;have M:F<π.length:=(XL.1 N).1;have t:j<π.length:=(XL.1 g).1;rw[XK M]at N;rw[XK t]at g;have B:=(XZ N).trans (XZ g).symm;refine⟨z4,?_⟩;rcases Nat.lt_trichotomy F j with q|q|q
    .exact(VD.1 hπ F j M t q B).elim
    .exact q
    .exact(VD.1 hπ j F t M q B.symm).elim
theorem Ca.frames{fr':Nat->Prop}{H:Qd}(s:Ca fr ro σ H w)(lt:∀b,fr' b->b<w.heap.size)(hro:∀b,ro b->¬fr' b)(own:∀(i b:Nat) (x:CW),σ[i]?=AC (AC b)->H[i]?=AC x->x.live=AE->¬fr' b)
  (hd:∀(i b:Nat) (x:CW) (c:Nat),σ[i]?=AC (AC b)->H[i]?=AC x->Di w x b c->¬fr' c):Ca fr' ro σ H w:=
 ⟨s.len,s.roOk,lt,hro,λi b x q1 q2 q3=>⟨(s.own i b x q1 q2 q3).1,(s.own i b x q1 q2 q3).2.1,own i b x q1 q2 q3⟩,s.inj,s.blk,
  s.hidTo (· = ·) Ym (XT _) (by simp) (by grind) (by grind)⟩
def fq(H:Qd)(p:Nat):Qd:=match H[p]? with
 |some x=>bif x.holds then H.set p .dead else H
 |none=>H
def P9:Qd->AA Nat->Qd
 |H,[]=>H
 |H,p::π=>P9 (fq H p) π
theorem sq(H:Qd)(p:Nat):(fq H p=H/\ ∀x,H[p]?=AC x->x.holds=AD)\/fq H p=H.set p .dead:=by
 unfold fq
 grind
theorem kn:∀(π:AA Nat) (H:Qd) (i:Nat) (x:CW),(P9 H π)[i]?=AC x->x=.dead\/(H[i]?=AC x/\(x.holds=AE->i∉π))
 |[],H,i,x,h=>.inr ⟨h,λ_=>by simp⟩
 |p::π,H,i,x,h=>by
  rcases kn π _ i x h with h|⟨h1,h2⟩
  .exact .inl h
  .rcases sq H p with⟨e,hl⟩|e
   .grind
   grind
theorem lX{fr ro:Nat->Prop}{σ:Ch}{w:AJ}:∀(π:AA Nat) {H:Qd} (s:Ca fr ro σ H w),Ca fr ro σ (P9 H π) w
 |[],_,s=>s
 |p::π,H,s=>by
  rw[P9];rcases sq H p with h|h
  .rw[h.1];exact lX π s
  .rw[h];exact lX π (s.kill p)
theorem Ca.put{H:Qd}(s:Ca fr ro σ H w){b:Nat}{obj:Obj}(n:fr b)(F:w.shape? b=AF):
  Ca fr ro σ H (w.putObj b obj)/\Qm (λc=>c≠b) ro w ro (w.putObj b obj):=by
 have f:∀c,c≠b->(w.putObj b obj).heap[c]?=w.heap[c]? :=λc J=>World.putObj_heap_other J;have g:(w.putObj b obj).heap.size=w.heap.size:=by simp
 have G:∀c,ro c->c≠b:=λc q e=>s.roFr c q (e▸n);have ev:Qm (λc=>c≠b) ro w ro (w.putObj b obj):=by
  refine⟨λ_ q=>q,(by grind),λc q=>f c q,by omega,λc x q=>?_,rfl,rfl,rfl,XT _⟩
  grind[World.shape?]
 have m:DL ro σ w ro σ (w.putObj b obj):=by have:=ev.ext σ [];grind
 refine⟨⟨s.len,s.roOk.to (λ_ q=>q) ev.keepRo (λc q=>by rw[g];exact s.roLt c q),λc q=>by rw[g];exact s.frLt c q,s.roFr,λi c x h k L=>?_,s.inj,λi y x h k=>?_,
  s.hidTo (· = ·) Ym (by omega) (by simp) (by simp) λj d y B t O=>.inl ⟨j,y,rfl,B,t,id,λc q=>s.hidKeep B t (λz=>f d (λe=>(s.own j d y B t z).2.2 (e▸n))) ev.keepRo q⟩⟩,ev⟩
 .obtain⟨N,P,M⟩:=s.own i c x h k L
  grind
 .refine(s.blk i y x h k).keep m ?_ ?_
  .rintro c rfl E;exact f c (λe=>(s.own i c x h k E).2.2 (e▸n))
  .rintro d c rfl E;exact f c (λe=>(s.hid i d x c h k E).fr (e▸n))
theorem l_{l:Nat}{r:Loop}(h:w.heap[l]?=AC (.loop r)):w.shape? l=none:=by
 unfold World.shape?;rw[h]
structure RN where
 fr:Nat->Prop
 ro:Nat->Prop
 σ:Ch
 w:AJ
 h1:Nat
 env:Env
 tmps:Array AL
 ds1:List Deferred
 l:Nat
 rc:LoopState->Option Code->Loop
 fr1:Nat->Prop
structure RN.Ok (D:RN):Prop where
 sub:∀b,D.fr b->D.fr1 b
 l1:D.fr1 D.l
 lf:¬D.fr D.l
 len:D.σ.length=D.h1
structure RJ (D:RN) (ro1:Nat->Prop) (σ1:Ch) (H:Qd) (st:LoopState) (pe:Option Code) (q g:Nat->Prop) (W:AJ):Prop where
 sim:Ca D.fr1 ro1 σ1 H W
 env:∀t,VR ro1 D.σ W (lk D.env t) (D.tmps.getD t undef)
 sig:σ1.take D.h1=D.σ
 ev:Qm D.fr D.ro D.w ro1 W
 marks:IT D.fr1 D.ds1 W
 rc:W.heap[D.l]?=AC (.loop (D.rc st pe))
 roG:∀b,ro1 b->q b\/g b
 frG:∀b,D.fr1 b->g b
 own:∀(i b:Nat) (x:CW),σ1[i]?=AC (AC b)->H[i]?=AC x->x.live=AE->g b
 hidG:∀(i b:Nat) (x:CW) (c:Nat),σ1[i]?=AC (AC b)->H[i]?=AC x->Di W x b c->g c
 lt:∀b,g b->b<W.heap.size
theorem tT{σ1:Ch}{d:Nat}(h:σ1.take d=σ){i b:Nat}(q:σ[i]?=AC (AC b)):σ1[i]?=AC (AC b):=by
 grind
variable {H':Qd}
section
variable {D:RN} {ro1:Nat->Prop} {σ1:Ch} {H:Qd} {st:LoopState} {pe:AB Code} {qR g:Nat->Prop} {W:AJ}
theorem RJ.step(F:D.Ok)(j:RJ D ro1 σ1 H st pe qR g W)(e:Qm g qR W ro' W'):RJ D ro1 σ1 H st pe qR g W':=by
 have hro:=λb q=>(j.roG b q).elim (e.keepRo b) (e.keepFr b);have ev:Qm D.fr1 ro1 W ro1 W':=⟨λ_ q=>q,hro,λb q=>e.keepFr b (j.frG b q),e.size,e.shape,e.os,e.tape,e.output,e.drawn⟩;have k:∀σ,DL ro1 σ W ro1 σ W':=λ σ=>by have:=ev.ext σ [];grind
 refine⟨⟨j.sim.len,j.sim.roOk.to (λ_ q=>q) hro (λb q=>Vg (j.sim.roLt b q) e.size),λb q=>Vg (j.sim.frLt b q) e.size,j.sim.roFr,λi b x f h B=>?_,j.sim.inj,λi z x f h=>?_,
  j.sim.hidTo (· = ·) Ym e.size (by simp) (by simp) λi d y n m L=>.inl ⟨i,y,rfl,n,m,id,λc q=>j.sim.hidKeep n m (λz=>e.keepFr d (j.own i d y n m z)) hro q⟩⟩,
  λt=>(j.env t).mono (k _),j.sig,j.ev.trans (ev.frMono F.sub),j.marks.keep ev,(ev.keepFr _ F.l1).trans j.rc,j.roG,j.frG,j.own,λi b x c f h B=>j.hidG i b x c f h (j.sim.hidKeep f h (λz=>e.keepFr b (j.own i b x f h z)) hro B),λb q=>Vg (j.lt b q) e.size⟩
 .obtain⟨G,J⟩:=j.sim.own i b x f h B;exact⟨Vg G e.size,J⟩
 .refine(j.sim.blk i z x f h).keep (k _) ?_ ?_
  .rintro b rfl E;exact e.keepFr b (j.own i b x f h E)
  .rintro b c rfl E;exact e.keepFr c (j.hidG i b x c f h E)
theorem RJ.up{g':Nat->Prop}(j:RJ D ro1 σ1 H st pe qR g W)(h:∀b,g b->g' b)(hl:∀b,g' b->b<W.heap.size):RJ D ro1 σ1 H st pe qR g' W:=
 {j with roG:=λb q=>(j.roG b q).imp id (h b),frG:=λb q=>h b (j.frG b q),own:=λi b x q1 q2 q3=>h b (j.own i b x q1 q2 q3),hidG:=λi b x c q1 q2 q3=>h c (j.hidG i b x c q1 q2 q3),lt:=hl}
def KL(D:RN)(ro1 g:Nat->Prop)(W:AJ):Nat->Prop:=λb=>(D.fr1 b\/(¬g b/\ ¬ro1 b))/\b<W.heap.size
theorem RJ.simB(j:RJ D ro1 σ1 H st pe qR g W):Ca (KL D ro1 g W) ro1 σ1 H W:=by
 refine j.sim.frames (λb q=>q.2) (λb q r=>?_) (λi b x f d h r=>?_) (λi b x c f d h r=>r.1.elim (j.sim.hid i b x c f d h).fr λr=>r.1 (j.hidG i b x c f d h))
 .rcases r.1 with r|r
  .exact j.sim.roFr b q r
  grind
 .rcases r.1 with r|r
  .exact(j.sim.own i b x f d h).2.2 r
  .exact r.1 (j.own i b x f d h)
theorem RJ.fin(G:D.Ok)(j:RJ D ro1 σ1 H st pe qR g W){E:Nat->Prop}{σ':Ch}{st':LoopState}{pe':AB Code}
  (ev:Qm (λb=>KL D ro1 g W b/\b≠D.l) ro1 W ro' W')(s:Ca E ro' σ' H' W')(z:∀b,KL D ro1 g W b->E b)(hσ:σ'.take D.h1=σ1.take D.h1)(N:W'.heap[D.l]?=AC (.loop (D.rc st' pe'))):
  RJ D ro' σ' H' st' pe' qR (λb=>g b\/(W.heap.size<=b/\b<W'.heap.size)) W'/\c9 g (λb=>g b\/(W.heap.size<=b/\b<W'.heap.size)) W W':=by
 have m:∀b,D.fr1 b->KL D ro1 g W b:=λb q=>⟨.inl q,j.sim.frLt b q⟩;have evf:=ev.frMono λb q=>⟨m b (G.sub b q),λe=>G.lf (e▸q)⟩;have hext:=ev.ext0 D.σ;have F:∀b,b<W.heap.size->b<W'.heap.size:=λb q=>Vg q ev.size;have n:∀b,b<W.heap.size->¬KL D ro1 g W b->g b\/ro1 b:=by
  intro b d L;by_cases h:g b
  .exact .inl h
  .by_cases f:ro1 b
   .exact .inr f
   .exact absurd ⟨.inr ⟨h,f⟩,d⟩ L
 refine⟨⟨s.frames (λb q=>F b (j.sim.frLt b q)) (λb q r=>s.roFr b q (z b (m b r))) (λi b x h f y r=>(s.own i b x h f y).2.2 (z b (m b r))) (λi b x c h f y r=>(s.hid i b x c h f y).fr (z c (m c r))),
  λt=>(j.env t).mono hext,hσ.trans j.sig,j.ev.trans evf,j.marks.to λB _ e2 e3=>⟨e2,(ev.keepFr B ⟨m B e2,λe=>?_⟩).trans e3⟩,N,λb q=>?_,λb q=>.inl (j.frG b q),λi b x h f y=>?_,λi b x c h f y=>?_,λb q=>q.elim (λq=>F b (j.lt b q)) (λq=>q.2)⟩,
  ⟨λb q=>.inl q,(by grind),λb q=>q.elim (λq=>F b (j.lt b q)) (λq=>q.2),(by omega),λb h f=>?_,ev.size,ev.shape,ev.os,ev.tape,ev.output,ev.drawn⟩⟩
 .subst e;rw[j.rc]at e3;cases e3
 .rcases VB b W.heap.size with d|d
  .rcases n b d (λr=>s.roFr b q (z b r))with r|r
   .grind
   .exact(j.roG b r).imp id .inl
  .exact .inr (.inr ⟨d,s.roLt b q⟩)
 .obtain⟨O,M,J⟩:=s.own i b x h f y;rcases VB b W.heap.size with d|d
  .rcases n b d (λr=>J (z b r))with r|r
   .exact .inl r
   .exact absurd (ev.sub b r) M
  omega
 .have k:=s.hid i b x c h f y;rcases VB c W.heap.size with d|d
  .rcases n c d (λr=>k.fr (z c r))with r|r
   .exact .inl r
   .exact absurd (ev.sub c r) k.ro
  .exact .inr ⟨d,k.lt⟩
 .by_cases r:ro1 b
  .exact ev.keepRo b r
  .exact ev.keepFr b ⟨(by grind),λe=>f (j.frG b (e▸G.l1))⟩
end
theorem Ca.roAdd{d:Nat->Prop}{H:Qd}(s:Ca fr ro σ H w)(j:∀b,d b->b<w.heap.size)(f:∀b,d b->¬fr b)(m:∀(i b:Nat) (x:CW),σ[i]?=AC (AC b)->H[i]?=AC x->x.live=AE->¬d b)
  (k:∀(i b:Nat) (x:CW) (c:Nat),σ[i]?=AC (AC b)->H[i]?=AC x->Di w x b c->¬d c):Ca fr (λb=>ro b\/d b) σ H w:=by
 have ext:DL ro σ w (λb=>ro b\/d b) σ w:=⟨λ_ q=>.inl q,λ_ _=>rfl,λ_ _ q=>q,λ_ _ q=>q⟩;refine⟨s.len,s.roOk.to (λ_ q=>.inl q) (λ_ _=>rfl) (λb q=>q.elim (s.roLt b) (j b)),s.frLt,λb q=>q.elim (s.roFr b) (f b),λi b x g h n=>?_,s.inj,λi y x g h=>(s.blk i y x g h).keep ext (λ_ _ _=>rfl) (λ_ _ _ _=>rfl),
  s.hidTo (· = ·) Ym (XT _) (by grind) (by simp) (by grind)⟩
 obtain⟨z,B,t⟩:=s.own i b x g h n
 grind
theorem RJ.roAdd{D:RN}{ro1:Nat->Prop}{σ1:Ch}{H:Qd}{st:LoopState}{pe:AB Code}{qR ri g:Nat->Prop}{W:AJ}(j:RJ D ro1 σ1 H st pe qR g W)(hq:∀b,qR b->ri b)(hI:∀b,ri b->b<W.heap.size/\ ¬g b):RJ D (λb=>ro1 b\/ri b) σ1 H st pe ri g W:=
 {j with
  sim:=j.sim.roAdd (λb q=>(hI b q).1) (λb q z=>(hI b q).2 (j.frG b z)) (λi b x q1 q2 q3 z=>(hI b z).2 (j.own i b x q1 q2 q3)) (λi b x c q1 q2 q3 z=>(hI c z).2 (j.hidG i b x c q1 q2 q3))
  env:=λt=>(j.env t).mono ⟨λ_ q=>.inl q,λ_ _=>rfl,λ_ _ q=>q,λ_ _ q=>q⟩
  ev:=j.ev.trans (Yb λ_ q=>.inl q)
  roG:=λb q=>q.elim (λq=>(j.roG b q).imp (hq b) id) .inl}
def cU:AA Nat->AA A->Env->Env
 |p::ps,a::zs,env=>cU ps zs (up env p a)
 |_,_,env=>env
def SJ:AA Nat->AA AL->Array AL->Array AL
 |p::ps,v::vs,t=>SJ ps vs (t.setIfInBounds p v)
 |_,_,t=>t
theorem qx:∀(ps:AA Nat) (vs:AA AL) (t:Array AL),(SJ ps vs t).size=t.size
 |[],_,_=>rfl
 |_::_,[],_=>rfl
 |p::ps,v::vs,t=>by simp[SJ,qx ps]
theorem qw:∀(ps:AA Nat) (vs:AA AL) (t:Array AL),(ps.toArray.zip vs.toArray).foldl (λt (p,v)=>t.setIfInBounds p v) t=SJ ps vs t
 |[],vs,t=>by rw[<- Array.foldl_toList,Array.toList_zip];rfl
 |p::ps,[],t=>by rw[<- Array.foldl_toList,Array.toList_zip];rfl
 |p::ps,v::vs,t=>by
  have:=qw ps vs (t.setIfInBounds p v);rw[<- Array.foldl_toList,Array.toList_zip]at this⊢;exact this
theorem o8{ro:Nat->Prop}{σ:Ch}{w:AJ}:∀(ps:AA Nat) (zs:AA A) (vs:AA AL) (env:Env) (t:Array AL),LR ro σ w zs vs->(∀p∈ps,p<t.size)->(∀s,VR ro σ w (lk env s) (t.getD s undef))->
  ∀s,VR ro σ w (lk (cU ps zs env) s) ((SJ ps vs t).getD s undef)
 |[],_,_,_,_,_,_,h=>h
 |p::ps,[],vs,_,_,hv,_,h=>by
  obtain rfl:vs=[]:=hv;exact h
 |p::ps,a::zs,vs,env,t,hv,hp,h=>by
  obtain⟨v,vs',rfl,h0,hv'⟩:=hv;have h1:=VR.up (fr:=λ_=>False) (a:={tmps:=t,defers:=[]}) h (hp p (by simp)) h0;exact o8 ps zs vs' (up env p a) (t.setIfInBounds p v) hv' (λq hq=>by grind) h1
def oK(h1:Nat)(env:Env)(Q:Qz)(K:Qd->Prop):Qz
 |.normal,env',H'=>∃H2,Le h1 env' H' [] H2/\K H2
 |.exit id,env',H'=>∃H2,Le h1 env' H' [] H2/\Q (.exit id) env H2
 |.ret,env',H'=>∃H2,Le h1 env' H' [] H2/\Q .ret env H2
def dt(Q:Qz)(env:Env)(c:Code)(H:Qd):Prop:=(∃id,c=.exit id/\Q (.exit id) env H)\/(c=.ret/\Q .ret env H)
section
variable {D:RN} {ro0:Nat->Prop} {σ1:Ch} {H:Qd} {qR ri g:Nat->Prop} {W:AJ} {P:AK} {N:Nat} {Q:Qz} {K:Qd->Prop}
theorem RJ.round{fn:FuncId}{ps:AA Nat}{assign body:Code}{df:Nat}{L:AA A}{vs:AA AL}(hD:D.Ok)(R:D.rc=λst pe=>{state:=st,pending:=pe,fn:=fn,tmps:=D.tmps,params:=ps.toArray,assign:=assign,body:=body,defers:=df})
  (hN:D.tmps.size=N)(aq:∀p∈ps,p<N)(an:L.length=ps.length)(hq:∀b,qR b->ri b)(hI:∀b,ri b->b<W.heap.size/\ ¬g b)(ac:LR ri [] W L vs)(j0:RJ D ro0 σ1 H .ready AF qR g W)
  (h:TC P D.h1 N assign (cU ps L D.env) H λe env1 H1=>e=.normal/\TC P D.h1 N body env1 H1 (oK D.h1 D.env Q K)):
  YieldAt Fence.wide 0 P D.l vs.toArray W λe W'=>∃g',c9 g g' W W'/\((e=.returned (.bool AE)/\ ∃H2 ro2 σ2,K H2/\RJ D ro2 σ2 H2 .ready AF ri g' W')\/
   (e=.returned (.bool AD)/\ ∃H2 c ro2 σ2,dt Q D.env c H2/\RJ D ro2 σ2 H2 .done (AC c) ri g' W')):=by
 have ao:vs.length=L.length:=ac.length;have j:=j0.roAdd hq hI;have x:LR (λb=>ro0 b\/ri b) σ1 W L vs:=ac.mono ⟨λ_ q=>.inr q,λ_ _=>rfl,λ_ _ q=>q,λi b q=>by simp at q⟩;clear j0;generalize(λb=>ro0 b\/ri b)=ro1 at j x;have ak:∀b,D.fr1 b->KL D ro1 g W b:=λb q=>⟨.inl q,j.sim.frLt b q⟩;have F:=ak _ hD.l1;have aa:=j.rc;have hy:=run_yield (P:=P) (r:=D.rc .ready AF) (args:=vs.toArray) aa (by grind);refine⟨fn,SJ ps vs D.tmps,assign,body,?_,?_⟩
 .grind[qw]
 .refine roundIn_of_wpIn trivial ?_;show Code.wpIn (WF (AC D.l)) 0 P _ _ _ _;have Y:∀s,VR ro1 σ1 W (lk D.env s) (D.tmps.getD s undef):=λs=>(j.env s).mono ⟨λ_ q=>q,λ_ _=>rfl,λ_ _ q=>q,λi b q=>tT j.sig q⟩;have am:J2 (AC D.l) (KL D ro1 g W) W:=λl e=>by grind
  have z:=h (AC D.l) (KL D ro1 g W) ro1 σ1 {tmps:=SJ ps vs D.tmps,defers:=[]} W ⟨j.simB,o8 ps L vs D.env D.tmps x (by grind) Y,by simp[qx,hN],List.nodup_nil,λd hd=>by cases hd⟩ am;refine Code.wpIn_mono ?_ z;rintro e a1 z ⟨x1,env1,H1,ro2,σ2,m,h1,⟨rfl,h2⟩,h3,h4,h5,h6⟩;cases e with
  |normal=>
   have T:z.heap[D.l]?=AC (.loop (D.rc .ready AF)):=(h4.keepFr _ F).trans aa;refine⟨_,run_beginRound T (by rw[R]),?_⟩;obtain⟨s2,E⟩:=h3.sim.put (obj:=.loop {D.rc .ready AF with state:=.busy}) (h6.sub _ F) (l_ T);have ab:D.l<z.heap.size:=by grind
   have ag:(z.putObj D.l (.loop {D.rc .ready AF with state:=.busy})).heap[D.l]?=AC (.loop {D.rc .ready AF with state:=.busy}):=World.putObj_heap_same ab;generalize hw2:z.putObj D.l (.loop {D.rc .ready AF with state:=.busy})=w2 at*;have aj:IT m a1.defers w2:=h3.defers.to λB _ e2 e3=>⟨e2,(E.keepFr B (λe=>by grind)).trans e3⟩;have r2:DH m ro2 σ2 H1 env1 N a1 w2:=⟨s2,λs=>(h3.env s).mono (E.ext0 σ2),h3.size,aj⟩;have O:m D.l:=h6.sub _ F;refine Code.wpIn_mono ?_ (h2 (AC D.l) m ro2 σ2 a1 w2 r2 (λl e=>by grind));rintro e a3 y ⟨x3,ae,H3,G,σ3,af,g1,g2,g3,g4,g5,g6⟩;have n:y.heap[D.l]?=AC (.loop {D.rc .ready AF with state:=.busy}):=(g4.keepFr _ O).trans ag;have J:∀(H2:Qd) (jump:AB Code),Le D.h1 ae H3 [] H2->∃v t,(Instr.endRound D.l jump).run P y=.ok v t/\v=.bool jump.isNone/\ ∃g',c9 g g' W t/\ ∃f σ4,RJ D f σ4 H2 (if jump.isNone then .ready else .done) jump ri g' t:=by
    intro H2 jump k;obtain⟨f,σ4,r4,s4,t4⟩:=k af G σ3 N a3 y g3;refine⟨_,_,run_endRound jump n,rfl,?_⟩;have ah:af D.l:=g6.sub _ O;obtain⟨s5,ai⟩:=r4.sim.put ah (l_ n);have ad:D.l<y.heap.size:=by rw[Vd]at n;exact n.1
    have al:=World.putObj_heap_same (w:=y) (r:=D.l) (o:=.loop {{D.rc .ready AF with state:=.busy}with state:=if jump.isNone then .ready else .done,pending:=jump}) ad;have e1:Qm (λb=>KL D ro1 g W b/\b≠D.l) ro1 W ro2 z:=h4.frMono λb q=>q.1;have e2:Qm (λb=>KL D ro1 g W b/\b≠D.l) ro2 z ro2 w2:=E.frMono λb q=>q.2;have e3:Qm (λb=>KL D ro1 g W b/\b≠D.l) ro2 w2 G y:=g4.frMono λb q=>h6.sub b q.1;have e4:Qm (λb=>KL D ro1 g W b/\b≠D.l) G y f y:=Yb s4;have e5:=(((e1.trans e2).trans e3).trans e4).trans (ai.frMono λb (q:KL D ro1 g W b/\b≠D.l)=>q.2);obtain⟨q1,q2⟩:=j.fin hD e5 s5 (λb q=>g6.sub b (h6.sub b q)) (by rw[t4,g5,h5]) (st':=if jump.isNone then .ready else .done) (pe':=jump) (by rw[al,R]);exact⟨_,q2,f,σ4,q1⟩
   cases e with
   |normal=>
    obtain rfl:x3=.normal:=g1;obtain⟨H2,k,M⟩:=g2;obtain⟨v,t,V,rfl,g',k2,f,σ4,X⟩:=J H2 AF k;exact⟨_,t,V,g',k2,.inl ⟨rfl,H2,f,σ4,M,X⟩⟩
   |exit id=>
    obtain rfl:x3=.exit id:=g1;obtain⟨H2,k,M⟩:=g2;obtain⟨v,t,V,rfl,g',k2,f,σ4,X⟩:=J H2 (AC (.exit id)) k;exact⟨_,t,V,g',k2,.inr ⟨rfl,H2,_,f,σ4,.inl ⟨id,rfl,M⟩,X⟩⟩
   |ret=>
    obtain rfl:x3=.ret:=g1;obtain⟨H2,k,M⟩:=g2;obtain⟨v,t,V,rfl,g',k2,f,σ4,X⟩:=J H2 (AC .ret) k;exact⟨_,t,V,g',k2,.inr ⟨rfl,H2,_,f,σ4,.inr ⟨rfl,M⟩,X⟩⟩
   |_=>exact g1.elim
  |exit id=>cases h1
  |ret=>cases h1
  |_=>exact h1.elim
end
theorem Ca.beside{H:Qd}{k:AJ}(s:Ca fr ro σ H w)(ev:Qm fr ro w ro k)(f:∀b,b<w.heap.size->k.heap[b]?=w.heap[b]?):Ca (λb=>fr b\/(w.heap.size<=b/\b<k.heap.size)) ro σ H k:=by
 have hext:=ev.ext0 σ;refine⟨s.len,s.roOk.to (λ_ q=>q) ev.keepRo (λb q=>Vg (s.roLt b q) ev.size),λb q=>q.elim (λq=>Vg (s.frLt b q) ev.size) (λq=>q.2),λb q r=>?_,λi b x g h t=>?_,s.inj,λi z x g h=>?_,
  s.hidTo (· = ·) Ym ev.size (by simp) (λi b x c g h t E=>E.elim id λq=>(by have:=(s.hid i b x c g h t).lt;omega)) λj d y n m J=>.inl ⟨j,y,rfl,n,m,id,λc q=>s.hidKeep n m (λz=>f d (s.own j d y n m z).1) ev.keepRo q⟩⟩
 .rcases r with r|r
  .exact s.roFr b q r
  .have:=s.roLt b q;omega
 .obtain⟨G,L,F⟩:=s.own i b x g h t
  grind
 .refine(s.blk i z x g h).keep hext ?_ ?_
  .rintro b rfl B;exact f b (s.own i b x g h B).1
  .rintro b c rfl B;exact f c (s.hid i b x c g h B).lt
theorem gr{o:Obj}{b:Nat}(d:b<w.heap.size):(w.alloc o).heap[b]?=w.heap[b]? :=by
 show(w.heap.push o)[b]?=_
 grind
theorem Qon{fn:FuncId}{tmps:Array AL}{ps:Array Tmp}{assign body:Code}(j:J2 rd fr w)(E:∀b,ro b->b<w.heap.size)(B:∀b,fr b->b<w.heap.size):
  ∃l mark w1 df,(Instr.enterLoop fn tmps ps assign body rd).run P w=.ok (l,mark) w1/\w.heap.size<=l/\l<w1.heap.size/\w1.heap[l]?=AC (.loop {state:=.ready,pending:=AF,fn:=fn,tmps:=tmps,params:=ps,assign:=assign,body:=body,defers:=df})/\
   (∀b,b<w.heap.size->w1.heap[b]?=w.heap[b]?)/\mark.Nodup/\(∀d∈mark,∃D,d={target:=.collected D,args:= #[]}/\w.heap.size<=D/\D<w1.heap.size/\w1.heap[D]?=AC (.deferred (AC [])))/\Qm fr ro w ro w1:=by
 have g:∀w1,(∀b,b<w.heap.size->w1.heap[b]?=w.heap[b]?)->w.heap.size<=w1.heap.size->w1.os=w.os->w1.tape=w.tape->w1.output=w.output->w1.drawn=w.drawn->Qm fr ro w ro w1:=by
  intro w1 J z t y m H;refine⟨λ_ q=>q,(by grind),(by grind),z,λb x q=>?_,t,y,m,by omega⟩
  grind[World.shape?]
 cases rd with
 |none=>
  have f:∀b,b<w.heap.size->((w.alloc (.deferred (AC []))).alloc (.loop {state:=.ready,pending:=AF,fn:=fn,tmps:=tmps,params:=ps,assign:=assign,body:=body,defers:=w.heap.size})).heap[b]?=w.heap[b]? :=λb h=>
   (gr (by simp;omega)).trans (gr h)
  refine⟨_,_,_,w.heap.size,run_enterLoop_outer fn tmps ps assign body,by omega,by simp,?_,f,by simp,?_,g _ f (by simp;omega) rfl rfl rfl rfl⟩
  .grind[World.alloc_heap_new,World.size_alloc]
  .intro d G;obtain rfl:=VA.1 G;exact⟨_,rfl,XT _,by simp;omega,(gr (by simp)).trans (World.alloc_heap_new w _)⟩
 |some n=>
  obtain⟨_,k,F⟩:=j n rfl;have f:∀b,b<w.heap.size->(w.alloc (.loop {state:=.ready,pending:=AF,fn:=fn,tmps:=tmps,params:=ps,assign:=assign,body:=body,defers:=k.defers})).heap[b]?=w.heap[b]? :=λb h=>gr h;exact⟨_,_,_,k.defers,run_enterLoop_inner F fn tmps ps assign body,XT _,by simp,World.alloc_heap_new w _,f,List.nodup_nil,(by simp),g _ f (by simp) rfl rfl rfl rfl⟩
theorem TC.rangeFunc{P:AK}{h0 N:Nat}{ad:Operand}{ps:AA Nat}{assign body:Code}{env:Env}{H:Qd}{Q:Qz}{f:FuncId}{caps ac:AA A}{Hc:Qd}{T S:Type}{enc:T->AA A}{nx:AA T->T->AA T->Prop}{xs:AA T}
  (π:AA Nat)(Hp:S->Qd)(V:S->AA T->Prop)(s0:S)(hh:h0<=H.length)(hg:CQ env ad=.fn (.func f) [] caps)(hargs:caps=JB (Ci π H.length) ac)(hH:π.map (λp=>H[p]?)=(Hc.map (QW (Ci π H.length))).map AC)(hπ:π.Nodup)
  (a1:(ps.all λp=>Nat.blt p N)=AE)(eg:∀args w,(callFunc f args).run P w=.ok (.enter f args) w)(an:Pz P f ac Hc enc nx xs)(aw:∀x,(enc x).length=ps.length)
  (a5:Le H.length env (P9 H π) env (Hp s0))(hV:V s0 xs)
  (ag:∀s l x rem,V s l->nx l x rem->TC P H.length N assign (cU ps (enc x) env) (Hp s) λe env1 H1=>e=.normal/\TC P H.length N body env1 H1 (oK H.length env Q λH2=>∃s',V s' rem/\H2=Hp s'))
  (am:∀s,V s []->Q .normal env (Hp s)):TC P h0 N (.rangeFunc ad ps.toArray assign body) env H Q:=by
 intro rd fr ro σ a w r hrd;have hv:=Qq r ad;rw[hg]at hv;obtain⟨l1,F,hv,bb,ax⟩:=hv;obtain rfl:l1=[]:=bb;refine wpIn_rangeFunc ?_;intro fn bg;obtain⟨l,mark,O,df,he,hl,bc,aq,ao,a6,ai,R⟩:=Qon (P:=P) (fn:=fn) (tmps:=a.tmps) (ps:=ps.toArray) (assign:=assign) (body:=body) (ro:=ro) hrd r.sim.roLt r.sim.frLt;have s1:=r.sim.beside R ao
 let D:RN:=⟨fr,ro,σ,w,H.length,env,a.tmps,mark++a.defers,l,(λst pe=>{state:=st,pending:=pe,fn:=fn,tmps:=a.tmps,params:=ps.toArray,assign:=assign,body:=body,defers:=df}),(λb=>fr b\/(w.heap.size<=b/\b<O.heap.size))⟩
 have af:¬fr l:=λq=>by have:=r.sim.frLt l q;omega
 have hD:D.Ok:=⟨λb q=>.inl q,.inr ⟨hl,bc⟩,af,r.sim.len⟩;have aa:IT D.fr1 (mark++a.defers) O:=by
  refine⟨List.nodup_append.2 ⟨a6,r.defers.1,λd hd d' a8 e=>?_⟩,λd hd=>?_⟩
  .subst e;obtain⟨B,e1,e2,_⟩:=ai d hd;have:=r.sim.frLt B (r.defers.mark (e1▸a8)).1;omega
  .rcases VC.1 hd with hd|hd
   .obtain⟨B,e1,e2,e3,e4⟩:=ai d hd;exact .inl ⟨B,e1,.inr ⟨e2,e3⟩,e4⟩
   .exact(((r.defers.keep R).to (fr':=D.fr1) λB _ e2 e3=>⟨.inl e2,e3⟩)).2 d hd
 obtain⟨sp,hσc⟩:=s1.part hH hπ;have aj:LR ro (YG σ π) O ac F:=(NT hσc).1 (hargs▸ax.mono (R.ext0 σ))
 let frX:Nat->Prop:=λb=>D.fr1 b\/(∃(j:Nat) (x:CW),(YG σ π)[j]?=AC (AC b)/\Hc[j]?=AC x/\x.live=AE)\/ ∃(j:Nat) (x:CW) (d:Nat),(YG σ π)[j]?=AC (AC d)/\Hc[j]?=AC x/\Di O x d b
 have sX:Ca frX ro σ (P9 H π) O:=by
  refine(lX π s1).frames (λb q=>?_) (λb q r=>?_) (λi b x n m k r=>?_) (λi b x c n m k r=>?_)
  .rcases q with q|⟨j,x,n,m,k⟩|⟨j,x,d,n,m,k⟩
   .exact s1.frLt b q
   .exact(sp.own j b x n m k).1
   .exact(sp.hid j d x b n m k).lt
  .rcases r with r|⟨j,x,n,m,k⟩|⟨j,x,d,n,m,k⟩
   .exact s1.roFr b q r
   .exact(sp.own j b x n m k).2.1 q
   .exact(sp.hid j d x b n m k).ro q
  .rcases kn _ _ _ _ m with rfl|⟨m,hi⟩
   .cases k
   .rcases r with r|⟨j,y,Y,p2,p3⟩|⟨j,y,d,Y,p2,p3⟩
    .exact(s1.own i b x n m k).2.2 r
    .exact(sp.own j b y Y p2 p3).2.2 (.inr (.inl ⟨i,x,n,m,k,hi (hY k)⟩))
    .exact(sp.hid j d y b Y p2 p3).fr (.inr (.inl ⟨i,x,n,m,k,hi (hY k)⟩))
  .rcases kn _ _ _ _ m with rfl|⟨m,hi⟩
   .exact k.elim
   .rcases r with r|⟨j,y,Y,p2,p3⟩|⟨j,y,d,Y,p2,p3⟩
    .exact(s1.hid i b x c n m k).fr r
    .exact(sp.own j c y Y p2 p3).2.2 (.inr (.inr ⟨i,x,b,n,m,k,hi k.holds⟩))
    .exact(sp.hid j d y c Y p2 p3).fr (.inr (.inr ⟨i,x,b,n,m,k,hi k.holds⟩))
 have rX:DH frX ro σ (P9 H π) env N {a with defers:=mark++a.defers} O:=
  ⟨sX,λs=>(r.env s).mono (R.ext0 σ),r.size,aa.to λB _ e2 e3=>⟨.inl e2,e3⟩⟩
 obtain⟨ae,σ',r',ab,ba⟩:=a5 frX ro σ N _ O rX;have hσt:σ.take H.length=σ:=by rw[<- r.sim.len,Va]
 let g0:Nat->Prop:=λb=>D.fr1 b\/(ae b/\ ¬ro b)\/(∃(i:Nat) (x:CW),σ'[i]?=AC (AC b)/\(Hp s0)[i]?=AC x/\x.live=AE)\/ ∃(i:Nat) (x:CW) (d:Nat),σ'[i]?=AC (AC d)/\(Hp s0)[i]?=AC x/\Di O x d b
 have j0:RJ D ae σ' (Hp s0) .ready AF ro g0 O:=by
  refine⟨r'.sim.frMono λb q=>.inl q,λt=>(r.env t).mono ⟨ab,R.keepRo,R.shape,λ_ _ q=>q⟩,ba.trans hσt,R.trans (Yb ab),aa,aq,λb q=>?_,λb q=>.inl q,λi b x n m k=>.inr (.inr (.inl ⟨i,x,n,m,k⟩)),λi b x c n m k=>.inr (.inr (.inr ⟨i,x,b,n,m,k⟩)),λb q=>?_⟩
  .by_cases z:ro b
   .exact .inl z
   .exact .inr (.inr (.inl ⟨q,z⟩))
  .rcases q with q|q|⟨i,x,n,m,k⟩|⟨i,x,d,n,m,k⟩
   .exact s1.frLt b q
   .exact r'.sim.roLt b q.1
   .exact(r'.sim.own i b x n m k).1
   .exact(r'.sim.hid i d x b n m k).lt
 have sI:Ca g0 ro (YG σ π) Hc O:=by
  refine sp.frames (λb q=>j0.lt b q) (λb q z=>?_) (λj b x n m k z=>?_) (λj b x c n m k z=>?_)
  .rcases z with z|z|⟨i,x,n,m,k⟩|⟨i,x,d,n,m,k⟩
   .exact s1.roFr b q z
   .exact z.2 q
   .exact(r'.sim.own i b x n m k).2.1 (ab b q)
   .exact(r'.sim.hid i d x b n m k).ro (ab b q)
  .have hX:frX b:=.inr (.inl ⟨j,x,n,m,k⟩);rcases z with z|z|⟨i,y,Y,p2,p3⟩|⟨i,y,d,Y,p2,p3⟩
   .exact(sp.own j b x n m k).2.2 (.inl z)
   .exact r'.sim.roFr b z.1 hX
   .exact(r'.sim.own i b y Y p2 p3).2.2 hX
   .exact(r'.sim.hid i d y b Y p2 p3).fr hX
  .have hX:frX c:=.inr (.inr ⟨j,x,b,n,m,k⟩);rcases z with z|z|⟨i,y,Y,p2,p3⟩|⟨i,y,d,Y,p2,p3⟩
   .exact(sp.hid j b x c n m k).fr (.inl z)
   .exact r'.sim.roFr c z.1 hX
   .exact(r'.sim.own i c y Y p2 p3).2.2 hX
   .exact(r'.sim.hid i d y c Y p2 p3).fr hX
 let X:FM T:={l:=l,J:=λrem q g W=>∃s G σ1,V s rem/\RJ D G σ1 (Hp s) .ready AF q g W,Jx:=λ_ q g W=>∃H2 c G σ1,dt Q env c H2/\RJ D G σ1 H2 .done (AC c) q g W,enc:=enc,nx:=nx}
 have av:∀p∈ps,p<N:=λp hp=>by simpa using Xs.1 a1 p hp
 have hX:X.ok P:=by
  refine⟨⟨λrem q g W W' ae ⟨s,G,σ1,L,M⟩ he=>⟨s,G,σ1,L,M.step hD he⟩,λrem q g g' W ⟨s,G,σ1,L,M⟩ hg hl=>⟨s,G,σ1,L,M.up hg hl⟩⟩,
   ⟨λrem q g W W' ae ⟨H2,c,G,σ1,L,M⟩ he=>⟨H2,c,G,σ1,L,M.step hD he⟩,λrem q g g' W ⟨H2,c,G,σ1,L,M⟩ hg hl=>⟨H2,c,G,σ1,L,M.up hg hl⟩⟩,?_⟩
  rintro lr x rem q g ri W vs a7 ⟨s,G,σ1,L,M⟩ hq hI bd;obtain⟨a3,tm,a4,a9,y1,y2⟩:=RJ.round (D:=D) (Q:=Q) (K:=λH2=>∃s',V s' rem/\H2=Hp s') hD rfl r.size av (aw x) hq hI bd M (ag s lr x rem L a7);refine⟨a3,tm,a4,a9,y1,RoundIn.mono y2 ?_⟩;rintro e W' ⟨g',k1,k2⟩;refine⟨g',ri,λ_ z=>z,k1,?_⟩;rcases k2 with⟨rfl,H2,E,σ2,⟨s',a2,rfl⟩,k3⟩|⟨rfl,H2,c,E,σ2,k3,k4⟩
  .exact .inl ⟨rfl,s',E,σ2,a2,k3⟩
  .exact .inr ⟨rfl,H2,c,E,σ2,k3,k4⟩
 have a0:∀(ev:Operand->AL),ev ad=.func (.func f) #[] F.toArray->ev (.const (.func (.yield l) #[] #[]))=.func (.yield l) #[] #[]->(resolve ev (rangeCall ad l) 0).run P O=.ok {target:=.fn (.func f) F.toArray,args:= #[.func (.yield l) #[] #[]]} O:=by
  intro ev L M;simp[resolve,go_sem,L,M]
 refine⟨l,mark,O,{target:=.fn (.func f) F.toArray,args:= #[.func (.yield l) #[] #[]]},O,f, #[.func (.yield l) #[] #[]]++F.toArray,O,he,a0 a.eval hv rfl,λ_ _=>trivial,by simp[invoke,go_sem,eg],λh=>by simp[WF,Fence.wide]at h,?_⟩;refine WF.calls.2 ?_;have ak:=an X rfl rfl hX g0 ro (YG σ π) O F ro sI (λ_ z=>z) aj ⟨s0,ae,σ',hV,j0⟩;have ah:(#[.func (.yield l) #[] #[]]++F.toArray:Array AL)=((Value.func (.yield X.l) #[] #[]::F)).toArray:=by simp[X]
 rw[ah];refine Calls.mono ak ?_;rintro e W' ⟨⟨v,rfl⟩,g2,qz,be,az⟩;have fin:∀(H2:Qd) (st:LoopState) (pe:AB Code) (E:Nat->Prop) (σ2:Ch),st≠ .busy->RJ D E σ2 H2 st pe qz g2 W'->∃w4,(Instr.endLoop l).run P W'=.ok pe w4/\DH D.fr1 E σ2 H2 env N {a with defers:=mark++a.defers} w4/\Qm fr ro w E w4:=by
  intro H2 st pe E σ2 hst j;refine⟨_,run_endLoop j.rc (by exact hst),?_⟩;obtain⟨s5,al⟩:=j.sim.put (obj:=.loop {(D.rc st pe)with state:=.exhausted}) hD.l1 (l_ j.rc);have hr:=j.rc;refine⟨⟨s5,λt=>((j.env t).mono ⟨λ_ q=>q,λ_ _=>rfl,λ_ _ q=>q,λi b q=>tT j.sig q⟩).mono (al.ext0 σ2),r.size,j.marks.to λB _ e2 e3=>⟨e2,(al.keepFr B (λe=>?_)).trans e3⟩⟩,j.ev.trans (al.frMono λb q e=>af (by have e':b=l:=e;rw[<- e'];exact q))⟩;subst e;rw[hr]at e3;cases e3
 have ar:C8 fr w a.defers D.fr1 (mark++a.defers):=by
  refine⟨λb q=>.inl q,λb q=>q.imp id (λq=>q.1),λd hd=>List.mem_append_right _ hd,λd hd=>?_⟩;rcases VC.1 hd with hd|hd
  .obtain⟨B,e1,e2,_⟩:=ai d hd;exact .inr ⟨B,e1,e2⟩
  .exact .inl hd
 have ay:∀{σ2:Ch},σ2.take H.length=σ->σ2.take h0=σ.take h0:=by
  intro σ2 h;have:=congrArg (List.take h0) h
  rwa [List.take_take,XA hh]at this
 rcases az with⟨s,E,σ2,L,M⟩|⟨rem,H2,c,E,σ2,L,M⟩
 .obtain⟨w4,f1,f2,f3⟩:=fin _ _ _ E σ2 (by intro e;cases e) M;exact⟨AF,w4,f1,.normal,env,_,E,σ2,_,rfl,am s L,f2,f3,ay M.sig,ar⟩
 .obtain⟨w4,f1,f2,f3⟩:=fin _ _ _ E σ2 (by intro e;cases e) M;refine⟨AC c,w4,f1,?_⟩;have hc:TC P h0 N c env H2 Q:=by
   rcases L with⟨id,rfl,L⟩|⟨rfl,L⟩
   .exact TC.exit L
   .exact TC.ret L
  exact Code.wpIn_mono (λe a w q=>q.grow f3 (ay M.sig) ar) (hc rd D.fr1 E σ2 _ w4 f2 (hrd.to f3 λb q=>.inl q))
def cJ(l:AA T)(x:T)(rem:AA T):Prop:=l.Perm (x::rem)
section
variable {P:AK} {T:Type} {ts tq te k tm:Nat} {g:FuncId} {es:AA (A×A)} {e:T->AA A} {ea:T->A} {xs:AA T}
end
variable {env':Env}{h0:Nat}
theorem Cw.le{T:Type}{X:FM T}{c:Code}{env:Env}{H:Qd}{m:G' T}{Q:YP T}(k:Le h0 env H env' H')(h:Cw X P h0 N c env' H' m Q):Cw X P h0 N c env H m Q:=by
 intro B F n x σ a w g r hj hrd;obtain⟨d,σ',y,s,t⟩:=k n x σ N a w r;obtain⟨⟨z,E,f⟩,j⟩:=hj;exact Code.wpIn_mono (λe a w q=>q.grow s (XT _) t (C8.refl _ _ _)) (h B F n d σ' a w g y ⟨⟨z,(by grind),f⟩,j⟩ hrd)
mutual
theorem pz:∀{a:A},IS a=AE->YJ a=AE
 |.any,_=>rfl
 |.bool _,_=>rfl
 |.int _ _,_=>rfl
 |.str _,_=>rfl
 |.nilp,_=>rfl
 |.ptr _ _,h=>by simp[IS]at h
 |.rp _,_=>rfl
 |.nils,_=>rfl
 |.rsl _ _,_=>rfl
 |.osl _ _ _ _,h=>by simp[IS]at h
 |.agg cs,h=>by simp only[IS]at h;simp only[YJ];exact qv h
 |.fn _ a c,h=>by simp[IS]at h
 |.nilf,_=>rfl
 |.iface _ v,h=>by simp[IS]at h
 |.nilif,_=>rfl
 |.map _,h=>by simp[IS]at h
 |.nilm,_=>rfl
 |.tup vs,h=>by simp[IS]at h
theorem qv:∀{l:AA A},LP l=AE->YI l=AE
 |[],_=>rfl
 |a::r,h=>by
  simp only[LP,XW]at h;simp only[YI,XW];exact⟨pz h.1,qv h.2⟩
end
variable {y:Operand}
theorem qh{o:AM}{env:Env}{H:Qd}{z:Operand}{l:Nat}{a:A}{m:Array TypeId}(h:o.op=.call {callee:=.value y,args:= #[z],argTypes:=m})(n:CQ env y=.fn (.yield l) [] [])(q:CQ env z=a)(g:YJ a=AE):
  ∀fr ro σ act w,DH fr ro σ H env N act w->∃vs:AA AL,LR ro [] w [a] vs/\(execOp act.eval o).run P w=(Instr.yield l vs.toArray).run P w:=by
 intro fr ro σ act w r;have d:=Qq r y;rw[n]at d;obtain⟨k,t,d,j,x⟩:=d;obtain rfl:k=[]:=j;have f:=Qq r z;rw[q]at f;refine⟨[act.eval z],⟨_,_,rfl,VR.data g f,rfl⟩,?_⟩;generalize act.eval=ev at*;simp[execOp,h,invoke,go_sem,d]
theorem Qlj{o:AM}{env:Env}{H:Qd}{d g:Operand}{l:Nat}{m n:A}{F:Array TypeId}(z:o.op=.call {callee:=.value y,args:= #[d,g],argTypes:=F})(G:CQ env y=.fn (.yield l) [] [])(h:CQ env d=m)(k:CQ env g=n)(j:YJ m=AE)(q:YJ n=AE):
  ∀fr ro σ act w,DH fr ro σ H env N act w->∃vs:AA AL,LR ro [] w [m,n] vs/\(execOp act.eval o).run P w=(Instr.yield l vs.toArray).run P w:=by
 intro fr ro σ act w r;have f:=Qq r y;rw[G]at f;obtain⟨E,J,f,B,L⟩:=f;obtain rfl:E=[]:=B;have x:=Qq r d;rw[h]at x;have t:=Qq r g;rw[k]at t;refine⟨[act.eval d,act.eval g],⟨_,_,rfl,VR.data j x,_,_,rfl,VR.data q t,rfl⟩,?_⟩;generalize act.eval=ev at*;simp[z,invoke,go_sem,f]
def oW(tm tb ty tk:Nat)(asg:Array AM)(ld:Op):Code:=
 (Code.region 0 #[{dst:=AC 4,op:=.load tm (.tmp 1),type:=tm,pos:="iter.go:27",after:= #[],guard:=AF},{dst:=AC 5,op:=.range tm (.tmp 4),type:=0,pos:="iter.go:27",after:= #[{on:=0,ground:=.data}],guard:=AF}] AD).seq
 (.block 0 (Code.loop ((Code.region 1 #[{dst:=AC 6,op:=.next (.tmp 5) AD,type:=0,pos:="iter.go:27",after:= #[],guard:=AF},{dst:=AC 7,op:=.extract (.tmp 6) 0,type:=tb,pos:="iter.go:27",after:= #[{on:=0,ground:=.data}],guard:=AF}] AD).seq
  ((Code.cond (.tmp 7) .skip (.exit 0)).seq (.block 1 ((Code.region 2 asg AD).seq
   ((Code.region 3 #[{dst:=AC 10,op:=.move (.tmp 0),type:=ty,pos:="iter.go:28",after:= #[],guard:=AF},{dst:=AC 11,op:=ld,type:=tk,pos:="iter.go:28",after:= #[],guard:=AF},
    {dst:=AC 12,op:=.call {callee:=.value (.tmp 10),args:= #[.tmp 11],argTypes:= #[tk]},type:=tb,pos:="iter.go:28",after:= #[{on:=0,ground:=.data},{on:=1,ground:=.data}],guard:=AF},
    {dst:=AC 13,op:=.unOp .not tb (.tmp 12),type:=tb,pos:="iter.go:28",after:= #[{on:=2,ground:=.data}],guard:=AF}] AD).seq (.cond (.tmp 13) .ret .skip))))))))
def zd(tk:Nat):Array AM:= #[{dst:=AC 8,op:=.entry (.tmp 5),type:=0,pos:="iter.go:27",after:= #[],guard:=AF},{dst:=AC 9,op:=.extract (.tmp 8) 0,type:=tk,pos:="iter.go:27",after:= #[{on:=0,ground:=.data}],guard:=AF},
 {dst:=AC 3,op:=.alloc tk,type:=0,pos:="iter.go:27",after:= #[],guard:=AF},
 {dst:=AF,op:=.store tk (.tmp 3) (.tmp 9),type:=0,pos:="iter.go:27",after:= #[{on:=2,ground:=.data},{on:=1,ground:=.data},{on:=0,ground:=.phase},{on:=1,ground:=.phase},{on:=2,ground:=.phase}],guard:=AF}]
section
variable {P:AK} {K V:Type} {tm tb ty tk kt et:Nat} {ek:K->A} {ev:V->A} {m:AA (K×V)} {T:Type}
abbrev nO(l:Nat):Env:=[(0,.fn (.yield l) [] []),(1,.ptr 0 0),(5,.ptr 2 0)]
abbrev nN(tm:Nat)(ek:K->A)(ev:V->A)(m l:AA (K×V)):Qd:=[.cells tm [.map 1],.fmap (Qn ek ev m),.iter AF (Qn ek ev l)]
theorem QlX{g:FuncId}{fn:Func}{h:Array AM}{B:Op}(M:P.funcs[g]?=AC fn)(J:fn.body=AC (oW tm tb ty tk h B))(N:fn.ntmps=14)(R:fn.results= #[])(G:∀w,(isAgg tm).run P w=.ok AD w)(T:P.underlying tm=AC (.map kt et))(F:∀x,IS (ek x)=AE)
  (round:∀(X:FM K) (e:K×V) (l:AA (K×V)) (env:Env) (H:Qd) (f:G' K) (Q:YP K),lk env 0=.fn (.yield X.l) [] []->lk env 1=.ptr 0 0->lk env 5=.ptr 2 0->H=[.cells tm [.map 1],.fmap (Qn ek ev m),.iter (AC (ek e.1,ev e.2)) (Qn ek ev l)]->
   (∀env' H',lk env' 0=.fn (.yield X.l) [] []->lk env' 1=.ptr 0 0->lk env' 5=.ptr 2 0->(∀env2 b,lk env2 0=.fn (.yield X.l) [] []->lk env2 1=.ptr 0 0->lk env2 5=.ptr 2 0->Le 2 (up (up env2 12 (.bool b)) 13 (.bool (!b))) H' (nO X.l) (nN tm ek ev m l))->
    (∀pos env2,(∀s,s≠10->lk env2 s=lk env' s)->CU P {dst:=AC 11,op:=B,type:=tk,pos:=pos,after:= #[],guard:=AF} env2 H' (ek e.1))->Nat.ble 2 H'.length=AE->Q .normal env' H' f)->
   Cw X P 2 14 (.region 2 h AD) env H f Q):
  Pz P g [.ptr 0 0] [.cells tm [.map 1],.fmap (Qn ek ev m)] (λx=>[ek x]) cJ (m.map Prod.fst):=by
 refine tJ M J N rfl R ?_;intro X hE hNx;refine Cw.seq (Cw.lift (TC.region ?_));refine Yn rfl rfl rfl (CU.load rfl G rfl (DZ.cells rfl rfl)) (W_ (XR rfl) rfl rfl rfl (sS T) ?_);refine WO.nil (Cw.block ?_);refine rN (I:=λn env H f=>∃l:AA (K×V),l.length=n/\f=.on (l.map Prod.fst)/\Le 2 env H (nO X.l) (nN tm ek ev m l)) ?_ ⟨m,rfl,rfl,Lr [0,1,2]⟩;rintro n env H f ⟨l,O,rfl,k⟩;refine Cw.le k (Cw.seq (Cw.lift (TC.region ?_)));refine gE (XR rfl) rfl rfl rfl (Sg.next rfl rfl rfl) ?_;rintro v H' (⟨t,rfl,rfl⟩|⟨Y,W,t,rfl,rfl⟩)
 .have hl:=List.map_eq_nil_iff.1 t;subst hl;refine Yn rfl rfl rfl (CU.extract rfl rfl rfl) (WO.nil ?_);exact Cw.seq (Cw.cond rfl (λe=>by cases e) (λ_=>(Cw.exit ⟨.inl rfl,.inl rfl⟩)))
 .obtain⟨L,E,y⟩:=qr t rfl;cases L with
  |nil=>cases y
  |cons e j=>
   obtain⟨rfl,rfl⟩:=y;have d:j.length<n:=by rw[<- O, <- E.length_eq];simp
   refine Yn rfl rfl rfl (CU.extract rfl rfl rfl) ?_;refine WO.nil (Cw.seq (Cw.cond rfl (λ_=>?_) (λe=>by cases e)));refine Cw.skip (Cw.block ?_);refine Cw.seq (round X e j _ _ _ _ rfl rfl rfl rfl ?_);intro env' H' g0 g1 g5 hfin hld hL;refine Cw.seq (Cw.region ?_);refine FH.step (Yn rfl rfl rfl (CU.move rfl g0) (WO.nil ⟨rfl,(FH.step (Yn rfl rfl rfl (hld _ _ λs q=>?_) (WO.nil ⟨rfl,?_⟩)))⟩))
   .simp[up,lk];have:Nat.beq s 10=false:=by rw[VM];intro z;exact q (XQ z)
    rw[this];rfl
   refine FH.yield (x:=e.1) (rem:=j.map Prod.fst) ?_ rfl rfl rfl ?_ ?_
   .rw[hNx];exact E.symm.map Prod.fst
   .rw[hE];refine qh rfl ?_ ?_ (pz (F _))
    .rfl
    .rfl
   .intro b;refine FH.step (Yn rfl rfl rfl (CU.not rfl rfl) (WO.nil ⟨rfl,?_⟩));refine FH.nil (Cw.cond rfl (λq=>?_) (λq=>?_))
    .obtain rfl:b=false:=by simpa using q
     exact Cw.ret ⟨.inr rfl,.inr ⟨_,rfl⟩⟩
    .obtain rfl:b=true:=by simpa using q
     exact Cw.skip (⟨_,d,j,rfl,rfl,hfin _ AE g0 g1 g5⟩)
theorem Qsb{g:FuncId}{fn:Func}{e:K->AA A}{z:AL}{zv:A}{f:AA A}(V:P.funcs[g]?=AC fn)(R:fn.body=AC (oW tm tb ty tk (zd tk) (.load tk (.tmp 3))))(Y:fn.ntmps=14)(hR:fn.results= #[])(O:∀w,(isAgg tm).run P w=.ok AD w)(hT:P.underlying tm=AC (.map kt et))
  (N:∀x,IS (.agg (e x))=AE)(B:∀w,(isAgg tk).run P w=.ok AE w)(J:∀w,(zeroValue tk).run P w=.ok z w)(h:∀w,(sizeOf tk).run P w=.ok k w)(M:ZR zv z)(n:Yi zv=AE)(q:Yf zv=f)(L:f.all Yr=AE)(j:f.length=k)
  (F:∀x,(e x).length=k)(t:∀x,Yi (.agg (e x))=AE)(G:∀x,Yf (.agg (e x))=e x)(E:∀x,(e x).all Yr=AE):
  Pz P g [.ptr 0 0] [.cells tm [.map 1],.fmap (Qn (λx=>.agg (e x)) ev m)] (λx=>[.agg (e x)]) cJ (m.map Prod.fst):=by
 refine QlX V R Y hR O hT N ?_;intro X y l env H st Q g0 g1 g5 hH hc;subst hH;refine Cw.lift (TC.region ?_);refine Yn rfl rfl rfl (CU.entry rfl g5 rfl) (Yn rfl rfl rfl (CU.extract rfl rfl rfl) ?_);refine W_ (by simp) rfl rfl rfl (da J M rfl n q L) (j6 (by simp) rfl rfl (Io.store (cs':=e y.1) rfl rfl rfl h rfl (t _) (G _) (F _) (E _) (by simp[j]) (by simp[splice,j,F])) ?_);refine WO.nil (hc _ _ g0 g1 g5 ?_ ?_ rfl)
 .intro d b T e1 e5;exact Le.trans (rI (i:=2) rfl rfl) (Lr [0,1,2] (hE:=⟨T,e1,e5,trivial⟩))
 .intro pos d W;exact Qv rfl B h (by show lk d 3=.ptr 3 0;rw[W 3 (by decide)];rfl) (DZ.cells rfl rfl) (by grind) (F _)
end
variable {d:AA A}
section
variable {P:AK} {o:AM} {env:Env} {H:Qd} {fr ro:Nat->Prop} {σ:Ch} {w:AJ}
theorem gM{i m T:Nat}(hH:H[i]?=AC (.cells T d)):Le h0 env H env (H.set i (.cells T (d.set m .any))):=by
 intro B x σ N a w r;refine⟨x,σ,⟨r.sim.weaken hH rfl ?_,r.env,r.size,r.defers⟩,λ_ q=>q,rfl⟩;intro y h;cases y with
 |none=>exact h
 |some b=>
  obtain⟨l,g,n,k⟩:=h;refine⟨l,g,?_,k⟩;clear g k hH
  induction d generalizing m l with
  |nil=>exact n
  |cons c d z=>
   obtain⟨v,f,rfl,t,j⟩:=n;cases m with
   |zero=>exact⟨v,f,rfl,trivial,j⟩
   |succ m=>exact⟨v,f,rfl,t,z f j⟩
theorem DZ.ents{i d t e f j g:Nat}{l:AA e_}{x:e_}{cs':AA A}(he:l[e]?=AC x)(hH:H[i]?=AC (.ents t j g l):=by rfl)(ho:d=e*3+f:=by rfl)(hcs:(eC j g x).drop f=cs':=by rfl):DZ H (.ptr i d) cs':=by
 intro E z σ w v s h;obtain⟨b,y,m⟩:=h;obtain⟨B,n,q⟩:=s.blk i _ _ y hH;have k:(l.map (eC j g))[e]?=AC (eC j g x):=by rw[Xo,he];rfl
 have:=((YR (pre:=[]) (by simpa using n) q).get e k).2.drop f;refine⟨b,d,m,?_⟩;rw[<- hcs,ho];simpa using this
end
section
variable {P:AK} {h0 N:Nat} {A B C:Code} {env:Env} {H:Qd} {Q:Qz}
end
variable {s t:Nat}
section
variable {P:AK} {o:AM} {env:Env} {H:Qd}
theorem ru{f g:Nat->AB (Nat×Nat)}:∀(parts:AA (Nat×AL)) (cs:Array AL),(∀p∈parts,f p.1=g p.1)->Instr.fill f cs parts=Instr.fill g cs parts
 |[],cs,_=>rfl
 |(i,v)::rest,cs,h=>by
  unfold Instr.fill;rw[h (i,v) (by simp)];have ih:=λcs=>ru rest cs (λp hp=>h p (by simp[hp]));cases g i with
  |none=>rfl
  |some p=>
   simp;split
   .rfl
   .exact ih _
theorem QhO{e n:Nat}{z:AL}{zs f:AA A}{parts:AA (Nat×Operand)}(L:∀w,(zeroValue t).run P w=.ok z w)(E:ZR (.agg zs) z)(G:∀w,(underlying t).run P w=.ok (.array n e) w)(g:∀w,(sizeOf e).run P w=.ok k w)
  (B:(parts.all λp=>Nat.blt p.1 n)=AE)(m:o.op=.build t parts.toArray:=by rfl)(hf:P8 env ((List.range n).map λi=>(i*k,k)) zs parts=AC f:=by rfl):CU P o env H (.agg f):=by
 intro O F σ N a w r;obtain⟨l,rfl,x⟩:=E F σ w;obtain⟨d,y,M⟩:=ki r parts zs l f x hf;refine⟨.agg d.toArray,?_,d,rfl,M⟩;have h:Instr.fill (λi=>AC (i*k,k)) l.toArray (parts.map λp=>(p.1,a.eval p.2))=AC d.toArray:=by
  rw[<- y];refine ru _ _ ?_;intro p J;obtain⟨q,j,rfl⟩:=Xe.1 J;have hlt:=by simpa using Xs.1 B q j
  simp[hlt]
 simp[execOp,m,Instr.build,Vn,L,Result.andThen,G,g,XI,Vo,Value.cells,h]
def Jh(k:IntKind)(m n:Int):Int:=k.wrap (BitVec.ofInt k.bits m&&& BitVec.ofInt k.bits n).toNat
def Y5(k:IntKind)(m n:Int):Int:=m.fdiv (2^(min n.toNat k.bits))
theorem CU.and{t u:TypeId}{x y:Operand}{k:IntKind}{m n:Int}(f:o.op=.binOp .and t x y u)(d:CQ env x=.int k m)(h:CQ env y=.int k n):CU P o env H (.int k (Jh k m n)):=by
 intro z q σ N a w r;have j:=QV r d;have g:=QV r h;refine⟨_,?_,rfl⟩;generalize a.eval=ρ at*;simp[f,j,g,Op.intBits,go_sem,Jh]
theorem CU.shr{t u:TypeId}{x y:Operand}{k q:IntKind}{m n:Int}(d:o.op=.binOp .shr t x y u)(j:CQ env x=.int k m)(h:CQ env y=.int q n)(f:0<=n):CU P o env H (.int k (Y5 k m n)):=by
 intro E B σ N a w r;have z:=QV r j;have g:=QV r h;refine⟨_,?_,rfl⟩;generalize a.eval=ρ at*;simp[d,z,g,Op.shift,go_sem,Y5,Int.not_lt.2 f]
theorem Ya{i m T:Nat}(G:Nat.ble h0 H.length=AE)(hH:H[i]?=AC (.cells T d))(g:d[m]?=AC .nils):
  Le h0 env H env (H.set i (.cells T (d.set m (.osl H.length 0 0 k)))++[.row t k []]):=by
 intro M j σ N a w r;have hh':=XR G;have hi:=(XL.1 hH).1;have ext:DL j σ w j (σ++[AF]) w:=⟨λ_ q=>q,λ_ _=>rfl,λ_ _ q=>q,λ_ _ h=>hJ h⟩;have s:=r.sim.phantom t k;have f:(H++[CW.row t k []])[i]?=AC (.cells T d):=by rw[XM hi];exact hH
 have F:H.set i (.cells T (d.set m (.osl H.length 0 0 k)))++[.row t k []]=(H++[CW.row t k []]).set i (.cells T (d.set m (.osl H.length 0 0 k))):=by
  rw[List.set_append_left _ _ hi]
 rw[F];refine⟨j,σ++[AF],⟨s.weaken f rfl ?_,λq=>(r.env q).mono ext,r.size,r.defers⟩,λ_ q=>q,QR (by rw[r.sim.len];exact hh')⟩;intro y h;cases y with
 |none=>exact h
 |some b=>
  obtain⟨l,x,L,E⟩:=h;refine⟨l,x,?_,E⟩;clear x E f F hH
  induction d generalizing m l with
  |nil=>cases g
  |cons c d J=>
   obtain⟨v,n,rfl,z,B⟩:=L;cases m with
   |zero=>
    simp at g;subst g;exact⟨v,n,rfl,.inl ⟨rfl,z⟩,B⟩
   |succ m=>exact⟨v,n,rfl,z,J (by simpa using g) n B⟩
theorem lW{y i j n:Nat}{x:CW}(z:lk env s=.osl i j n k)(hH:H[i]?=AC x)(E:Nat.ble y H.length=AE):Le y env H (up env s (.osl H.length j n k)) (H.set i .dead++[x]):=by
 intro L g σ N a w r;have G:i<σ.length:=by rw[r.sim.len];exact(XL.1 hH).1
 have hσ:=XK G;have ext:DL g σ w g (σ++[σ[i]]) w:=⟨λ_ q=>q,λ_ _=>rfl,λ_ _ q=>q,λ_ _ h=>hJ h⟩;refine⟨g,σ++[σ[i]],⟨r.sim.moved hH hσ,?_,r.size,r.defers⟩,λ_ q=>q,QR (by rw[r.sim.len];exact XR E)⟩;intro d;simp only[lk];by_cases q:d=s
 .subst q;rw[VE];have:=r.env d;rw[z]at this;rcases this with h|⟨b,p,f,t,m,J,B⟩
  .exact .inl h
  .refine .inr ⟨b,p,f,t,m,?_,B⟩;rw[J]at hσ;rw[<- r.sim.len];simpa using hσ.symm
 .have:Nat.beq d s=false:=by
   rw[VM];intro F;exact q (XQ F)
  rw[this];exact(r.env d).mono ext
def Js(n:Int):UInt8:=n.toNat.toUInt8
def F4(P:AK)(H:Qd)(x:A)(l:AA Int):Prop:=
 ∀fr ro σ w v,Ca fr ro σ H w->VR ro σ w x v->(∃a c,v=.slice a 0 c/\l=[])\/ ∃b off c,v=.slice (AC ⟨b,off,AF⟩) l.length c/\(l=[]\/CR ro σ w b (l.map λn=>A.int .u8 n) off)
theorem kD:∀(l:AA Int),(l.map (λn=>[A.int .u8 n])).flatten=l.map λn=>A.int .u8 n
 |[]=>rfl
 |n::l=>by simp[kD l]
theorem F4.nils:F4 P H .nils []:=λfr ro σ w v s h=>.inl ⟨AF,0,h,rfl⟩
theorem F4.row{i t n:Nat}{l:AA Int}(hH:H[i]?=AC (.row t 1 (l.map λn=>[A.int .u8 n])):=by rfl)(hn:l.length=n:=by rfl):F4 P H (.osl i 0 n 1) l:=by
 intro L F σ w v s h;rcases h with⟨rfl,rfl⟩|⟨b,p,d,J,m,y,rfl,j,⟨B,q⟩,E,z⟩
 .exact .inl ⟨AF,0,rfl,VJ.1 hn⟩
 .refine .inr ⟨b,p,d,by rw[hn],?_⟩;by_cases g:l=[]
  .exact .inl g
  .have:0<d:=by have:=List.length_pos_iff.2 g;omega
   obtain rfl:=j this;obtain⟨G,k,x⟩:=s.blk i _ _ y hH;have f:=(YR (pre:=[]) (by simpa using k) x).flat.1;rw[kD]at f;exact .inr (by simpa using f.lift)
theorem F4.rsl{l:AA Int}:F4 P H (.rsl 1 (l.map λn=>[A.int .u8 n])) l:=by
 intro m k σ w v s ⟨a,c,h1,h2,d⟩;subst h1;rw[X2]at*;rcases d with d|⟨b,f,rfl,j,h⟩
 .have:=List.map_eq_nil_iff.1 d;subst this;exact .inl ⟨a,c,by simp,rfl⟩
 .have g:=h.flat.1;rw[kD]at g;exact .inr ⟨b,f,c,rfl,.inr g.lift⟩
end
def NY:AB CW->Bool
 |some .dead=>AE
 |_=>AD
def JJ(hB hE:Nat)(H H':Qd):Bool:=(List.range (hE-hB)).all λp=> !NY H'[hB+p]? ||NY H[hB+p]?
def fe(hB hE:Nat)(σ:Ch)(H:Qd):Prop:=∀p,hB<=p->p<hE->NY H[p]?=AE->σ[p]?=AC AF
variable {hB hE:Nat}
theorem Qmf{H:Qd}(h:JJ hB hE H H'=AE){p:Nat}(f:hB<=p)(g:p<hE)(d:NY H'[p]?=AE):NY H[p]?=true:=by
 have:=Xs.1 h (p-hB) (List.mem_range.2 (by omega));rw[show hB+(p-hB)=p by omega,d]at this;simpa using this
theorem Ca.allocAt{H:Qd}(s:Ca fr ro σ H w){p:Nat}(P:σ[p]?=AC AF){obj:Obj}{x:CW}
  (R:BR ro (σ.set p (AC w.heap.size)) (w.alloc obj) x (AC w.heap.size))
  (L:∀c,Di (w.alloc obj) x w.heap.size c->False:=by exact λ_ h=>h.elim):Ca fr ro (σ.set p (AC w.heap.size)) (H.set p x) (w.alloc obj):=by
 have ev:Qm fr ro w ro (w.alloc obj):=Qm.alloc obj s.roLt s.frLt;have G:=s.len;have M:p<σ.length:=(XL.1 P).1;have F:DL ro σ w ro (σ.set p (AC w.heap.size)) (w.alloc obj):=⟨ev.sub,ev.keepRo,ev.shape,λi b q=>by
  rw[XP (λz=>by subst z;rw[P]at q;cases q)];exact q⟩
 have f:∀(i:Nat) (y:AB Nat),(σ.set p (AC w.heap.size))[i]?=AC y->(i≠p/\σ[i]?=AC y)\/(i=p/\y=AC w.heap.size):=by
  intro i y h;by_cases q:i=p
  .subst q;rw[Xa M]at h;exact .inr ⟨rfl,(XZ h).symm⟩
  .rw[XP (λz=>q z.symm)]at h;exact .inl ⟨q,h⟩
 have B:∀i:Nat,i≠p->(H.set p x)[i]?=H[i]? :=λi T=>XP (λz=>T z.symm);have O:(H.set p x)[p]?=AC x:=Xa (by omega);refine⟨by simp[G],s.roOk.to (λ_ q=>q) ev.keepRo (λb h=>?_),λb h=>?_,s.roFr,?_,?_,?_,s.hidTo (· = ·) Ym (by rw[Jd];omega) (λ_ _ _ _ _ _ _ q=>q) (λ_ _ _ _ _ _ _ q=>q) λj d y n m W=>?_⟩
 rotate_left 5
 .rcases f j _ n with⟨q,n⟩|⟨rfl,t⟩
  .rw[B j q]at m;exact .inl ⟨j,y,rfl,n,m,id,λc q=>s.hidKeep n m (λz=>Yx w obj d (s.own j d y n m z).1) ev.keepRo q⟩
  .rw[O]at m;cases m;cases t;exact .inr ⟨XT _,L⟩
 .rw[Jd];have:=s.roLt b h;omega
 .rw[Jd];have:=s.frLt b h;omega
 .intro i b y k g E;rw[Jd];rcases f i _ k with⟨q,k⟩|⟨rfl,t⟩
  .rw[B i q]at g;obtain⟨a,b,c⟩:=s.own i b y k g E;exact⟨by omega,b,c⟩
  .cases t;exact⟨by omega,λq=>by have:=s.roLt _ q;omega,λq=>by have:=s.frLt _ q;omega⟩
 .intro i j b y z k g E J N Q;rcases f i _ k with⟨q,n⟩|⟨V,t⟩<;>rcases f j _ g with⟨q',m⟩|⟨ej,e2⟩
  .rw[B i q]at E;rw[B j q']at J;exact s.inj i j b y z n m E J N Q
  .cases e2;rw[B i q]at E;have:=(s.own i _ y n E N).1;omega
  .cases t;rw[B j q']at J;have:=(s.own j _ z m J Q).1;omega
  .rw[V,ej]
 .intro i y z k g;rcases f i _ k with⟨q,k⟩|⟨rfl,t⟩
  .rw[B i q]at g;refine(s.blk i y z k g).keep F ?_ ?_
   .rintro b rfl G;exact Yx w obj b (s.own i b z k g G).1
   .rintro b c rfl G;exact Yx w obj c (s.hid i b z c k g G).lt
  .rw[O]at g;cases g;subst t;exact R
def Im(P:AK)(o:AM)(t:Nat)(cs:AA A):Prop:=
 ∀(ro:Nat->Prop) (σ:Ch) (w:AJ) (a:Act),∃l:AA AL,(execOp a.eval o).run P w=.ok (.value (.pointer (AC ⟨w.heap.size,0,AF⟩))) (w.alloc (.cells l.toArray t))/\LR ro σ w cs l/\ ∀v∈l,QC v
theorem Im.alloc{P:AK}{o:AM}{t:Nat}{z:AL}{v:A}{d:AA A}(g:∀w,(zeroValue t).run P w=.ok z w)(k:ZR v z)(h:o.op=.alloc t:=by rfl)(hk:Yi v=true:=by rfl)(hcs:Yf v=d:=by rfl)(hpl:d.all Yr=true:=by rfl):
  Im P o t d:=by
 intro m σ w a;obtain⟨l,j,f⟩:=(k m σ w).cells hk;subst hcs;refine⟨l,?_,f,f.plain hpl⟩;generalize a.eval=ρ at*;have e:(newVar t z).run P w=.ok ⟨w.heap.size,0,AF⟩ (w.alloc (.cells l.toArray t)):=by
  unfold newVar;rw[j];rfl
 simp only[execOp,h,Instr.alloc,Vn,g,Result.andThen,e];rfl
def mK(P:AK)(o:AM)(e:Env)(H:Qd)(p:Nat)(x:A)(B:CW):Prop:=
 ∀fr ro σ N a w,DH fr ro σ H e N a w->∃v obj,(execOp a.eval o).run P w=.ok (.value v) (w.alloc obj)/\(∀c,Di (w.alloc obj) B w.heap.size c->False)/\
  ∀σ',σ'[p]?=AC (AC w.heap.size)->DL ro σ w ro σ' (w.alloc obj)->VR ro σ' (w.alloc obj) x v/\BR ro σ' (w.alloc obj) B (AC w.heap.size)
variable {R:Exit->Act->AJ->Prop}{l:AA AM}
theorem Sa{i:Nat}{o:AM}{K:Act->AJ->Prop}{a:Act}
  (G:l[i]?=AC o)(h:D6 P rd l.toArray R [o] a w)(j:∀e a' w',R e a' w'->e=.normal/\a'.defers=a.defers)(m:∀v w',R .normal (a.put o.dst v) w'->K (a.put o.dst v) w'):
  wpOpIn (WF rd) 0 P l.toArray Q i K a w:=by
 unfold wpOpIn;have y:l.toArray[i]?=AC o:=by simpa using G
 rw[y];simp only;unfold D6 wpListIn at h;split at h
 .rename_i B;rw[Vt B];obtain⟨k,h⟩:=h;refine⟨k,?_⟩;have g:=qq (by
   intro a' w' q;unfold wpListIn at q;exact(j _ _ _ q).2) h
  generalize(o.semAt (WF rd).round a.eval).run P w=res at*;cases res with
  |ok n w'=>
   cases n with
   |value v=>exact m _ _ g.1
   |skip=>exact m _ _ g.1
   |defer L=>
    exfalso;have:=(j _ _ _ g.1).2;have:=congrArg List.length this
    revert this
    cases o.dst<;>simp[Act.put]
   |enter f t=>
    refine⟨g.1,CallsIn.mono g.2 (λe z d=>?_)⟩;cases e with
    |returned v=>exact m _ _ d.1
    |panicked c=>have:=(j _ _ _ d).1;cases this
    |outgrown=>obtain⟨J,H,d⟩:=d;have:=(j _ _ _ d).1;cases this
   |row r t=>
    exact⟨g.1,RowsIn.mono g.2 (λ_ _ d=>m _ _ d.1)⟩
   |round l f F assign E=>
    refine⟨g.1,RoundIn.mono g.2 (λe z d=>?_)⟩;cases e with
    |returned v=>exact m _ _ d.1
    |panicked c=>have:=(j _ _ _ d).1;cases this
    |outgrown=>obtain⟨J,H,d⟩:=d;have:=(j _ _ _ d).1;cases this
   |_=>exact g.elim
  |halt x w'=>
   cases x with
   |panic v=>have:=(j _ _ _ g).1;cases this
   |_=>exact g.elim
 .rename_i B;rw[Vs B];obtain⟨k,h⟩:=h;refine⟨k,?_⟩;unfold wpListIn at h;exact m _ _ h
theorem Qme{m:Nat}(E:∀i o,l[i]?=AC o->∀j∈Qj o,j<i)(x:∀i o,m<i->l[i]?=AC o->i-1∈Qj o):
  ∀(d t:Nat) (L:Array Bool) (a:Act) (w:AJ),L.size=l.length->(∀i,i<l.length->(Do L i↔i<t))->Mt L<=d->m<=t->t<=l.length->
   D6 P rd l.toArray Q (l.drop t) a w->wpAnyIn (WF rd) 0 P .any l.toArray Q d L a w:=by
 intro d
 induction d with
 |zero=>
  intro t L a w hsz hL hf hm ht h;have:t=l.length:=by
   rcases VB t l.length with q|q
   .have:=o7 (L:=L) (i:=t) (by omega) (λz=>by have:=(hL t q).1 z;omega);omega
   .omega
  subst this;refine⟨List.eq_nil_iff_forall_not_mem.2 λi B=>?_,?_⟩
  .obtain⟨o,k,n,_⟩:=(ZP hsz).1 B;have f:=(XL.1 k).1;exact n ((hL i f).2 f)
  .rw[Xr]at h;exact h
 |succ d R=>
  intro t L a w hsz hL hf hm ht h;have J:∀i o,l[i]?=AC o->¬Do L i->(∀j∈Qj o,Do L j)->i=t:=by
   intro i o k n G;have f:=(XL.1 k).1;have T:t<=i:=by
    rcases VB i t with q|q
    .exact absurd ((hL i f).2 q) n
    .exact q
   rcases VB t i with q|q
   .have:=(hL (i-1) (by omega)).1 (G _ (x i o (by omega) k));omega
   .omega
  rcases VB t l.length with g|g
  .have O:l[t]?=AC l[t]:=XK g;have y:¬Do L t:=λq=>by have:=(hL t g).1 q;omega
   have M:t∈Region.ready .any l.toArray L:=by
    refine(ZP hsz).2 ⟨_,O,y,λj H=>?_⟩;have:=E t _ O j H;exact(hL j (by omega)).2 this
   refine⟨λq=>(by rw[q]at M;cases M),λi B=>?_⟩;obtain⟨o,k,n,G⟩:=(ZP hsz).1 B;obtain rfl:=J i o k n G;rw[Xp g]at h;obtain rfl:l[i]=o:=by rw[XK g]at k;exact XZ k
   unfold wpOpIn;rw[show l.toArray[i]?=AC l[i]by rw[XG];exact k];simp only;unfold D6 wpListIn at h;have N:∀a w,D6 P rd l.toArray Q (l.drop (i+1)) a w->wpAnyIn (WF rd) 0 P .any l.toArray Q d (L.setIfInBounds i AE) a w:=by
    intro a w q;have V:=kb (L:=L) (i:=i) (by omega) y;refine R (i+1) _ a w (by simpa using hsz) (λj H=>?_) (by omega) (by omega) (by omega) q;rw[JH (by omega),hL j H];omega
   split at h
   .rename_i F;rw[Vt F];exact Oper.wpIn_mono N h
   .rename_i F;rw[Vs F];exact⟨h.1,N _ _ h.2⟩
  .have:t=l.length:=by omega
   subst this;rw[Xr]at h;refine⟨λ_=>h,λi B=>?_⟩;obtain⟨o,k,n,_⟩:=(ZP hsz).1 B;have f:=(XL.1 k).1;exact absurd ((hL i f).2 f) n
def fc(af ds:AA Nat)(xs:AA A)(env0 e:Env):Prop:=
 ∀s,(∃j x,af.contains j=AE/\ds[j]?=AC s/\xs[j]?=AC x/\lk e s=x)\/lk e s=.any\/(ds.contains s=AD/\lk e s=lk env0 s)
inductive Jk (P:AK) (N:Nat) (l:List AM) (ds:List Nat) (xs:List A) (env0:Env) (hB hE:Nat) (i:Nat) (H H':Qd):Prop
 |mk (o:AM) (e:Env) (d:Nat) (x:A) (ho:l[i]?=AC o) (hd:o.dst=AC d) (hx:xs[i]?=AC x) (hdd:JJ hB hE H H'=AE) (hs:Sb (Qj o) (NM l i) ds xs env0 e)
   (h:WO P H.length N l.toArray [o] e H (YW (up e d x) H')):Jk P N l ds xs env0 hB hE i H H'
 |unit (o:AM) (e:Env) (ho:l[i]?=AC o) (hd:o.dst=AF) (hx:xs[i]?=AC .any) (hdd:JJ hB hE H H'=AE) (hs:Sb (Qj o) (NM l i) ds xs env0 e)
   (h:WO P H.length N l.toArray [o] e H (YW e H')):Jk P N l ds xs env0 hB hE i H H'
 |unitE (o:AM) (e:Env) (ho:l[i]?=AC o) (hd:o.dst=AF) (hx:xs[i]?=AC .any) (hdd:JJ hB hE H H'=AE) (he:fc (Qj o) ds xs env0 e)
   (h:WO P H.length N l.toArray [o] e H (YW e H')):Jk P N l ds xs env0 hB hE i H H'
 |alloc (o:AM) (d t p:Nat) (cs:List A) (ho:l[i]?=AC o) (hd:o.dst=AC d) (hg:o.guard=AF) (hx:xs[i]?=AC (.ptr p 0)) (hp:(Nat.ble hB p&&Nat.blt p hE)=AE) (hdead:NY H[p]?=AE)
   (hH:H.set p (.cells t cs)=H') (h:Im P o t cs) (hN:Nat.blt d N=AE):Jk P N l ds xs env0 hB hE i H H'
 |row (o:AM) (e:Env) (d p:Nat) (x:A) (B:CW) (ho:l[i]?=AC o) (hd:o.dst=AC d) (hg:o.guard=AF) (hx:xs[i]?=AC x) (hp:(Nat.ble hB p&&Nat.blt p hE)=AE) (hdead:NY H[p]?=AE) (hlive:NY (AC B)=AD)
   (hH:H.set p B=H') (hs:Sb (Qj o) (NM l i) ds xs env0 e) (h:mK P o e H p x B) (hN:Nat.blt d N=AE):Jk P N l ds xs env0 hB hE i H H'
 |val (o:AM) (e:Env) (d:Nat) (x:A) (ho:l[i]?=AC o) (hd:o.dst=AC d) (hg:o.guard=AF) (hx:xs[i]?=AC x) (hN:Nat.blt d N=AE) (he:fc (Qj o) ds xs env0 e) (h:CU P o e H x)
   (hH:H=H':=by rfl):Jk P N l ds xs env0 hB hE i H H'
 |woE (o:AM) (e:Env) (d:Nat) (x:A) (ho:l[i]?=AC o) (hd:o.dst=AC d) (hx:xs[i]?=AC x) (he:fc (Qj o) ds xs env0 e) (hdd:JJ hB hE H H'=AE) (h:WO P H.length N l.toArray [o] e H (YW (up e d x) H')):Jk P N l ds xs env0 hB hE i H H'
variable {af f:AA Nat}{env0:Env}{xs:AA A}
theorem Sb.rel{bf:AA Nat}{e:Env}{a:Act}(g:Sb af bf f xs env0 e)
  (h:∀j∈af,∀s x,f[j]?=AC s->xs[j]?=AC x->VR ro σ w x (a.tmps.getD s undef))
  (k:∀s,f.contains s=AD->VR ro σ w (lk env0 s) (a.tmps.getD s undef))(hP:∀j s,bf.contains j=AE->f[j]?=AC s->VR ro σ w (lk env0 s) (a.tmps.getD s undef)):
  ∀s,VR ro σ w (lk e s) (a.tmps.getD s undef):=by
 intro s
 induction g with
 |nil=>exact trivial
 | @dep j s1 x1 r h1 h2 h3 _ ih=>
  unfold lk;cases d:Nat.beq s s1 with
  |false=>exact ih
  |true=>
   obtain rfl:=XQ d;exact h j (by simpa using h1) _ _ h2 h3
 | @old s1 x1 r h1 h2 _ ih=>
  unfold lk;cases d:Nat.beq s s1 with
  |false=>exact ih
  |true=>
   obtain rfl:=XQ d;subst h2;exact k _ h1
 | @pre j s1 x1 r h1 h2 h3 _ ih=>
  unfold lk;cases d:Nat.beq s s1 with
  |false=>exact ih
  |true=>
   obtain rfl:=XQ d;subst h3;exact hP j _ h1 h2
structure fF (fr ro:Nat->Prop) (σ:Ch) (w:AJ) (hB hE:Nat) (H':Qd) (xs:List A) (i:Nat) (o:AM) (a':Act) (w':AJ) (ro':Nat->Prop) (σ':Ch):Prop where
 val:∀x,xs[i]?=AC x->match o.dst with
  |some d=>VR ro' σ' w' x (a'.tmps.getD d undef)
  |none=>x=.any
 sim:Ca fr ro' σ' H' w'
 ev:Qm fr ro w ro' w'
 ext:DL ro σ w ro' σ' w'
 holes:fe hB hE σ' H'
 take:σ'.take hB=σ.take hB
theorem Jk.use{ds:AA Nat}{i:Nat}{H:Qd}(hb:Jk P N l ds xs env0 hB hE i H H'){K:Act->AJ->Prop}{a:Act}{o:AM}(X:l[i]?=AC o)
  (f:Ca fr ro σ H w)(hN:a.tmps.size=N)(m:IT fr a.defers w)(ac:J2 rd fr w)(hh:fe hB hE σ H)(hl:hE<=H.length)(al:hB<=hE)
  (hD:∀j∈Qj o,∀s x,ds[j]?=AC s->xs[j]?=AC x->VR ro σ w x (a.tmps.getD s undef))
  (hO:∀s,ds.contains s=AD->VR ro σ w (lk env0 s) (a.tmps.getD s undef))(hP:∀j s,(NM l i).contains j=AE->ds[j]?=AC s->VR ro σ w (lk env0 s) (a.tmps.getD s undef))
  (hK:∀v w' ro' σ',fF fr ro σ w hB hE H' xs i o (a.put o.dst v) w' ro' σ'->K (a.put o.dst v) w'):
  wpOpIn (WF rd) 0 P l.toArray Q i K a w:=by
 have W:∀{e:Env} {H2:Qd} {E:Exit} {O:Act} {w':AJ},Hu H.length fr ro σ w N a.defers (YW e H2) E O w'->E=.normal/\O.defers=a.defers:=by
  rintro e H2 E O w' ⟨x,_,_,_,_,_,k,⟨rfl,_⟩,_,_,_,M,_⟩;refine⟨?_,M⟩;cases E<;>first|rfl|exact k.elim|cases k
 have ai:∀{σ':Ch} {w':AJ},Qm fr ro w ro w'->σ'.take H.length=σ.take H.length->True:=λ_ _=>trivial;have Y:∀{e:Env} {O:Act} {w':AJ},Hu H.length fr ro σ w N a.defers (YW e H') .normal O w'->JJ hB hE H H'=AE->
   ∃ro' σ',Ca fr ro' σ' H' w'/\Qm fr ro w ro' w'/\DL ro σ w ro' σ' w'/\fe hB hE σ' H'/\σ'.take hB=σ.take hB/\ ∀s,VR ro' σ' w' (lk e s) (O.tmps.getD s undef):=by
  rintro e O w' ⟨_,aj,H2,ro',σ',ak,_,⟨_,rfl,rfl⟩,r',he,ht,_,ah⟩ n;have hσ:σ'=σ++σ'.drop H.length:=by
   conv=>lhs;rw[<- Xy H.length σ']
   rw[ht, <- f.len,Va]
  refine⟨ro',σ',r'.sim.frMono ah.sub,he,?_,?_,?_,r'.env⟩
  .rw[hσ];exact he.ext σ _
  .intro p k M h3;have:=hh p k M (Qmf n k M h3);rw[hσ,XM (by rw[f.len];omega)];exact this
  .rw[hσ];exact QR (by rw[f.len];omega)
 cases hb with
 |woE F e d x g T hx he n h=>
  obtain rfl:F=o:=XZ (g.symm.trans X);have hr:∀s,VR ro σ w (lk e s) (a.tmps.getD s undef):=λs=>by
   rcases he s with⟨j,x,k,M,h3,J⟩|J|⟨k,J⟩
   .rw[J];exact hD j (by simpa using k) s x M h3
   .rw[J];exact trivial
   .rw[J];exact hO s k
  refine Sa X (h rd fr ro σ a w ⟨f,hr,hN,m⟩ ac) (λ_ _ _ q=>W q) (λv w' q=>?_);obtain⟨ro',σ',g1,g2,L,g4,g5,g6⟩:=Y q n;refine hK v w' ro' σ' ⟨λy hy=>?_,g1,g2,L,g4,g5⟩;obtain rfl:=XZ (hx.symm.trans hy);have:=g6 d;unfold lk at this;rw[VE]at this;rw[T]at this⊢;exact this
 |unitE F e g T hx n he h=>
  obtain rfl:F=o:=XZ (g.symm.trans X);have hr:∀s,VR ro σ w (lk e s) (a.tmps.getD s undef):=λs=>by
   rcases he s with⟨j,x,k,M,h3,J⟩|J|⟨k,J⟩
   .rw[J];exact hD j (by simpa using k) s x M h3
   .rw[J];exact trivial
   .rw[J];exact hO s k
  refine Sa X (h rd fr ro σ a w ⟨f,hr,hN,m⟩ ac) (λ_ _ _ q=>W q) (λv w' q=>?_);obtain⟨ro',σ',g1,g2,L,g4,g5,g6⟩:=Y q n;refine hK v w' ro' σ' ⟨λy hy=>?_,g1,g2,L,g4,g5⟩;obtain rfl:=XZ (hx.symm.trans hy);rw[T]
 |mk F e d x g T hx n hs h=>
  obtain rfl:F=o:=XZ (g.symm.trans X);refine Sa X (h rd fr ro σ a w ⟨f,hs.rel hD hO hP,hN,m⟩ ac) (λ_ _ _ q=>W q) (λv w' q=>?_);obtain⟨ro',σ',g1,g2,L,g4,g5,g6⟩:=Y q n;refine hK v w' ro' σ' ⟨λy hy=>?_,g1,g2,L,g4,g5⟩;obtain rfl:=XZ (hx.symm.trans hy);have:=g6 d;unfold lk at this;rw[VE]at this;rw[T]at this⊢;exact this
 |unit F e g T hx n hs h=>
  obtain rfl:F=o:=XZ (g.symm.trans X);refine Sa X (h rd fr ro σ a w ⟨f,hs.rel hD hO hP,hN,m⟩ ac) (λ_ _ _ q=>W q) (λv w' q=>?_);obtain⟨ro',σ',g1,g2,L,g4,g5,g6⟩:=Y q n;refine hK v w' ro' σ' ⟨λy hy=>?_,g1,g2,L,g4,g5⟩;obtain rfl:=XZ (hx.symm.trans hy);rw[T]
 |val F e d x g T hg hx ab he h hH=>
  obtain rfl:F=o:=XZ (g.symm.trans X);subst hH;have hr:DH fr ro σ H e N a w:=by
   refine⟨f,λs=>?_,hN,m⟩;rcases he s with⟨j,x,k,M,h3,J⟩|J|⟨k,J⟩
   .rw[J];exact hD j (by simpa using k) s x M h3
   .rw[J];exact trivial
   .rw[J];exact hO s k
  obtain⟨v0,k,M⟩:=h fr ro σ N a w hr;have hw:Region.wanted F (yielded l.toArray a.tmps)=true:=by unfold Region.wanted;rw[hg]
  refine Sa (R:=λE O w'=>E=.normal/\O.defers=a.defers/\O=a.put F.dst v0/\w'=w) X (Ju hw k ?_) (λ_ _ _ q=>⟨q.1,q.2.1⟩) (λv w' q=>?_)
  .unfold D6 wpListIn;refine⟨rfl,?_,rfl,rfl⟩;rw[T];rfl
  .obtain⟨_,_,q1,rfl⟩:=q;refine hK v _ ro σ ⟨λy hy=>?_,f,Qm.refl _ _ _,⟨λ_ q=>q,λ_ _=>rfl,λ_ _ q=>q,λ_ _ q=>q⟩,hh,rfl⟩;obtain rfl:=XZ (hx.symm.trans hy);rw[q1,T];have aa:d<a.tmps.size:=by rw[hN];simpa using ab
   show VR ro σ w' x _;simpa[Act.put,Array.getD_eq_getD_getElem?,aa]using M
 |row F e d p x B g T hg hx hp V hlive hH hs h ab=>
  obtain rfl:F=o:=XZ (g.symm.trans X);subst hH;simp only[XW]at hp;have ag:=XR hp.1;have af:p<hE:=by simpa using hp.2
  have hσp:=hh p ag af V;have hr:DH fr ro σ H e N a w:=⟨f,hs.rel hD hO hP,hN,m⟩;obtain⟨v0,ad,k,M,h3⟩:=h fr ro σ N a w hr;have hw:Region.wanted F (yielded l.toArray a.tmps)=true:=by unfold Region.wanted;rw[hg]
  have ev:Qm fr ro w ro (w.alloc ad):=Qm.alloc _ f.roLt f.frLt;have ae:p<σ.length:=by rw[f.len];omega
  have G:DL ro σ w ro (σ.set p (AC w.heap.size)) (w.alloc ad):=⟨ev.sub,ev.keepRo,ev.shape,λj b q=>by
   rw[XP (λz=>by subst z;rw[hσp]at q;cases q)];exact q⟩
  obtain⟨g8,g9⟩:=h3 _ (Xa ae) G;refine Sa (R:=λE O w'=>E=.normal/\O.defers=a.defers/\O=a.put F.dst v0/\w'=w.alloc ad) X (Ju hw k ?_) (λ_ _ _ q=>⟨q.1,q.2.1⟩) (λv w' q=>?_)
  .unfold D6 wpListIn;refine⟨rfl,?_,rfl,rfl⟩;rw[T];rfl
  .obtain⟨_,_,q1,rfl⟩:=q;refine hK v _ ro (σ.set p (AC w.heap.size)) ⟨λy hy=>?_,f.allocAt hσp g9 M,ev,G,λp' g1 g2 L=>?_,?_⟩
   .obtain rfl:=XZ (hx.symm.trans hy);rw[q1,T];have aa:d<a.tmps.size:=by rw[hN];simpa using ab
    show VR ro _ _ x _;simpa[Act.put,Array.getD_eq_getD_getElem?,aa]using g8
   .by_cases q:p'=p
    .subst q;rw[Xa (by omega),hlive]at L;cases L
    .rw[XP (λz=>q z.symm)]at L⊢;exact hh p' g1 g2 L
   .rw[List.take_set,List.set_eq_of_length_le];rw[Xx];omega
 |alloc F d t p cs g T hg hx hp V hH h ab=>
  obtain rfl:F=o:=XZ (g.symm.trans X);subst hH;simp only[XW]at hp;have ag:=XR hp.1;have af:p<hE:=by simpa using hp.2
  have hσp:=hh p ag af V;obtain⟨lv,k,M,h3⟩:=h ro σ w a;have hw:Region.wanted F (yielded l.toArray a.tmps)=true:=by unfold Region.wanted;rw[hg]
  have ev:Qm fr ro w ro (w.alloc (.cells lv.toArray t)):=Qm.alloc _ f.roLt f.frLt;have ae:p<σ.length:=by rw[f.len];omega
  have G:DL ro σ w ro (σ.set p (AC w.heap.size)) (w.alloc (.cells lv.toArray t)):=⟨ev.sub,ev.keepRo,ev.shape,λj b q=>by
   rw[XP (λz=>by subst z;rw[hσp]at q;cases q)];exact q⟩
  refine Sa (R:=λE O w'=>E=.normal/\O.defers=a.defers/\O=a.put F.dst (.pointer (AC ⟨w.heap.size,0,AF⟩))/\w'=w.alloc (.cells lv.toArray t)) X (Ju hw k ?_) (λ_ _ _ q=>⟨q.1,q.2.1⟩) (λv w' q=>?_)
  .unfold D6 wpListIn;refine⟨rfl,?_,rfl,rfl⟩;rw[T];rfl
  .obtain⟨_,_,q1,rfl⟩:=q;refine hK v _ ro (σ.set p (AC w.heap.size)) ⟨λy hy=>?_,f.allocAt hσp ⟨lv,Yw _ _,M.mono G,h3⟩,ev,G,λp' g1 g2 L=>?_,?_⟩
   .obtain rfl:=XZ (hx.symm.trans hy);rw[q1,T];have aa:d<a.tmps.size:=by rw[hN];simpa using ab
    refine⟨w.heap.size,Xa ae,?_⟩;simp[Act.put,Array.getD_eq_getD_getElem?,aa]
   .by_cases q:p'=p
    .subst q;rw[Xa (by omega)]at L;cases L
    .rw[XP (λz=>q z.symm)]at L⊢;exact hh p' g1 g2 L
   .rw[List.take_set,List.set_eq_of_length_le];rw[Xx];omega
def G9(a b:AA Nat):Bool:=a.all (b.contains ·)&&b.all (a.contains ·)
theorem C?{a b:AA Nat}(h:G9 a b=AE)(i:Nat):i∈a↔i∈b:=by
 unfold G9 at h;simp only[XW,Xs,List.contains_iff_mem]at h;exact⟨h.1 i,h.2 i⟩
structure je (l:List AM) (m:Nat) (ds:List Nat) (hs:List Bool) (rq ms:List (List Nat)) (pl:List (List (Nat×Nat))) (N:Nat):Prop where
 len:m<=l.length
 dst:∀i o,i<m->l[i]?=AC o->(∃d,o.dst=AC d/\ds[i]?=AC d/\d<N)\/o.dst=AF
 dsl:ds.length=m
 nodup:∀(i j d:Nat),ds[i]?=AC d->ds[j]?=AC d->i=j
 back:∀i o,l[i]?=AC o->∀j∈Qj o,j<i
 mid:∀o,l[m]?=AC o->∀j,j<m->Me l m j
 chain:∀i o,m<i->l[i]?=AC o->i-1∈Qj o
 rqs:∀i o,i<m->l[i]?=AC o->∀h∈rq.getD i [],h<m/\hs.getD h AD=AE/\(h∈Qj o\/ ∃j∈Qj o,j<m/\h∈rq.getD j [])
 ms0:ms.getD 0 []=[]
 full:∀st,st<ms.length->st+1=ms.length\/ ∃i,i<m/\hs.getD i AD=AE/\i∉ms.getD st []
 msh:∀st h,h∈ms.getD st []->h<m/\hs.getD h AD=AE
 pls:∀i st,i<m->st<ms.length->(∀h∈rq.getD i [],h∈ms.getD st [])->(hs.getD i AD=AE->i∉ms.getD st [])->(∀h∈ms.getD st [],¬Me l h i)->
  ∃st',(st,st')∈pl.getD i []/\st'<ms.length/\if hs.getD i AD then∀j,j∈ms.getD st' []↔j=i\/j∈ms.getD st []else st'=st
theorem nu{α:Type}{l:AA α}{i:Nat}{d x:α}(h:l[i]?=AC x):l.getD i d=x:=by rw[VL,h];rfl
theorem qc{m:Nat}{ds:AA Nat}{hs:AA Bool}{rq ms:AA (AA Nat)}{pl:AA (AA (Nat×Nat))}{Hs:AA Qd}{Hk:Qd}
  (ok:je l m ds hs rq ms pl N)(a6:xs.length=m)(bd:Hs.length=ms.length)(a2:h0<=hB)(ax:hB<=hE)(ar:∀H∈Hs,hE<=H.length)
  (a3:∀i p,i<m->p∈pl.getD i []->Jk P N l ds xs env0 hB hE i (Hs.getD p.1 []) (Hs.getD p.2 []))(az:Hs.getD (ms.length-1) []=Hk)
  {ro0:Nat->Prop}{σ0:Ch}{w0:AJ}{ds0:AA Deferred}
  (hk:∀ro σ a w,DH fr ro σ Hk (IU ds xs env0) N a w->Qm fr ro0 w0 ro w->σ.take h0=σ0.take h0->a.defers=ds0->D6 P rd l.toArray R (l.drop m) a w)(al:IT fr ds0 w0)(a1:J2 rd fr w0):
  ∀(f:Nat) (L:Array Bool) (a:Act) (w:AJ) (ro:Nat->Prop) (σ:Ch) (E:Nat),
   L.size=l.length->Mt L<=f->(∀i,m<=i->¬Do L i)->E<ms.length->Ca fr ro σ (Hs.getD E []) w->a.tmps.size=N->a.defers=ds0->
   (∀(i d:Nat) (x:A),Do L i->ds[i]?=AC d->xs[i]?=AC x->VR ro σ w x (a.tmps.getD d undef))->(∀s,(∀j,ds[j]?=AC s->¬Do L j)->VR ro σ w (lk env0 s) (a.tmps.getD s undef))->
   Qm fr ro0 w0 ro w->σ.take h0=σ0.take h0->fe hB hE σ (Hs.getD E [])->
   (∀i,i<m->Do L i->∀h∈rq.getD i [],Do L h)->(∀i,i<m->hs.getD i AD=AE->(Do L i↔i∈ms.getD E []))->
   (∀i o,Do L i->l[i]?=AC o->∀j∈Qj o,Do L j)->
   wpAnyIn (WF rd) 0 P .any l.toArray R f L a w:=by
 have a0:∀E,E<ms.length->hE<=(Hs.getD E []).length:=by
  intro E h;have e:Hs[E]?=AC Hs[E]:=XK (by omega);rw[nu e];exact ar _ (Ve _)
 have fin:∀(f:Nat) (L:Array Bool) (a:Act) (w:AJ) (ro:Nat->Prop) (σ:Ch) (E:Nat),
   L.size=l.length->Mt L<=f->(∀i,m<=i->¬Do L i)->E<ms.length->Ca fr ro σ (Hs.getD E []) w->a.tmps.size=N->a.defers=ds0->
   (∀(i d:Nat) (x:A),Do L i->ds[i]?=AC d->xs[i]?=AC x->VR ro σ w x (a.tmps.getD d undef))->(∀s,(∀j,ds[j]?=AC s->¬Do L j)->VR ro σ w (lk env0 s) (a.tmps.getD s undef))->
   Qm fr ro0 w0 ro w->σ.take h0=σ0.take h0->
   (∀i,i<m->hs.getD i AD=AE->(Do L i↔i∈ms.getD E []))->(∀i,i<m->Do L i)->
   wpAnyIn (WF rd) 0 P .any l.toArray R f L a w:=by
  intro f L a w ro σ E hsz hu hsuf hst hsim hN hdef hD hE' hev htk hI2 t;have an:E=ms.length-1:=by
   rcases ok.full E hst with q|⟨i,V,h2,h3⟩
   .omega
   .exact absurd ((hI2 i V h2).1 (t i V)) h3
  rw[an,az]at hsim;refine Qme ok.back ok.chain f m L a w hsz (λi hi=>⟨λq=>?_,λq=>t i q⟩) hu (XT _) ok.len ?_
  .rcases VB i m with z|z
   .exact z
   .exact absurd q (hsuf i z)
  .have hr:DH fr ro σ Hk (IU ds xs env0) N a w:=by
    refine⟨hsim,λs=>?_,hN,by rw[hdef];exact al.keep hev⟩;rcases t? (env0:=env0) (by rw[ok.dsl,a6]) s with⟨j,x,V,h2,h3⟩|⟨V,h2⟩
    .rw[h3];have g:j<m:=by have:=(XL.1 V).1;rw[ok.dsl]at this;exact this
     exact hD j s x (t j g) V h2
    .rw[h2];exact hE' s (λj q=>absurd (VH q) (by simpa using V))
   exact hk ro σ a w hr hev htk hdef
 intro f
 induction f with
 |zero=>
  intro L a w ro σ E hsz hu hsuf hst hsim hN hdef hD hE' hev htk hho hI1 hI2 hcl;refine fin 0 L a w ro σ E hsz hu hsuf hst hsim hN hdef hD hE' hev htk hI2 (λi hi=>?_);by_cases q:Do L i
  .exact q
  .have:=o7 (L:=L) (i:=i) (by have:=ok.len;omega) q;omega
 |succ f ih=>
  intro L a w ro σ E hsz hu hsuf hst hsim hN hdef hD hE' hev htk hho hI1 hI2 hcl;by_cases t:∀i,i<m->Do L i
  .exact fin (f+1) L a w ro σ E hsz hu hsuf hst hsim hN hdef hD hE' hev htk hI2 t
  .have av:∃i,i<m/\ ¬Do L i:=by
    refine Classical.byContradiction λq=>t λi hi=>Classical.byContradiction λz=>q ⟨i,hi,z⟩
   obtain⟨n,hn,ah⟩:=av;obtain⟨i0,V,h2,h3⟩:=aG (p:=λi=>¬Do L i) (λi=>Classical.em _) n ah;have bb:=ok.len;have ak:l[i0]?=AC l[i0]:=XK (by omega);have hr:i0∈Region.ready .any l.toArray L:=(ZP hsz).2 ⟨_,ak,h2,λj g=>Classical.byContradiction λz=>h3 j (ok.back i0 _ ak j g) z⟩;refine⟨λq=>(by rw[q]at hr;cases hr),λi hi=>?_⟩;obtain⟨o,X,aa,Q⟩:=(ZP hsz).1 hi;have G:i<m:=by
    rcases VB i m with q|q
    .exact q
    .exfalso;rcases VB m i with z|z
     .exact hsuf (i-1) (by omega) (Q _ (ok.chain i o z X))
     .have:i=m:=by omega
      subst this;have ao:∀j,Me l i j->Do L j:=by
       intro j g
       induction g with
       |one B g=>rw[X]at B;cases B;exact Q _ g
       |step _ B g ihr=>exact hcl _ _ ihr B _ g
      exact ah (ao n (ok.mid o X n hn))
   have aj:∀h∈rq.getD i [],Do L h:=by
    intro h Y;obtain⟨_,_,q|⟨j,q1,q2,q3⟩⟩:=ok.rqs i o G X h Y
    .exact Q h q
    .exact hI1 j q2 (Q j q1) h q3
   obtain⟨a5,ba,ay,O⟩:=ok.pls i E G hst (λh Y=>by
    obtain⟨q1,q2,_⟩:=ok.rqs i o G X h Y;exact(hI2 h q1 q2).1 (aj h Y)) (λq z=>aa ((hI2 i G q).2 z)) (λh Y hR=>by
    obtain⟨q1,q2⟩:=ok.msh E h Y;have a7:Do L h:=(hI2 h q1 q2).2 Y;have ai:∀j,Me l h j->Do L j:=by
     intro j g
     induction g with
     |one B g=>exact hcl _ _ a7 B _ g
     |step _ B g ihr=>exact hcl _ _ ihr B _ g
    exact aa (ai i hR))
   have hb:=a3 i _ G ba;refine hb.use X hsim hN (by rw[hdef];exact al.keep hev) (a1.to hev λ_ q=>q) hho (a0 E hst) ax (λj g s x q1 q2=>hD j s x (Q j g) q1 q2) (λs V=>hE' s (λj q=>absurd (VH q) (by simpa using V))) (λj s V h2=>hE' s (λj' q q'=>?_)) ?_
   .obtain rfl:=ok.nodup j' j s q h2;have g:=Xd.1 (List.contains_iff_mem.1 V);cases ae:l[j']? with
    |none=>rw[ae]at g;simp at g
    |some oj=>
     rw[ae]at g;exact aa (hcl j' oj q' ae i (by simpa using g.2))
   intro v w' a8 σ' af;have ab:=af.ext;have ac:∀s,(∀d,o.dst=AC d->s≠d)->(a.put o.dst v).tmps.getD s undef=a.tmps.getD s undef:=by
    intro s aq;cases hd:o.dst with
    |none=>rfl
    |some d=>
     simp only[Act.put,Array.getD_eq_getD_getElem?,Vf];rw[Vs (λq=>aq d hd q.symm)]
   have ad:(a.put o.dst v).tmps.size=N:=by
    cases hd:o.dst with
    |none=>simpa[Act.put]using hN
    |some d=>simpa[Act.put]using hN
   have a9:(a.put o.dst v).defers=ds0:=by
    cases hd:o.dst with
    |none=>simpa[Act.put]using hdef
    |some d=>simpa[Act.put]using hdef
   have bc:=kb (L:=L) (i:=i) (by omega) aa;have F:i<L.size:=by omega
   have a4:∀s j,ds[j]?=AC s->j≠i->∀d,o.dst=AC d->s≠d:=by
    intro s j g J d hd q;subst q;rcases ok.dst i o G X with⟨d',k,W,ag⟩|k
    .rw[hd]at k;cases k;exact J (ok.nodup j i _ g W)
    .rw[hd]at k;cases k
   refine ih _ _ w' a8 σ' a5 (by simpa using hsz) (by omega) (λj g q=>?_) ay af.sim ad a9 ?_ ?_ (hev.trans af.ev) ?_ af.holes ?_ ?_ ?_
   .rcases(JH F).1 q with z|z
    .omega
    .exact hsuf j g z
   .intro j s y g M hy;by_cases J:j=i
    .subst J;have hv:=af.val y hy;rcases ok.dst j o G X with⟨d',k,W,ag⟩|k
     .obtain rfl:s=d':=XZ (M.symm.trans W);simp only[k]at hv⊢;exact hv
     .simp only[k]at hv;subst hv;exact trivial
    .rw[ac s (a4 s j M J)];rcases(JH F).1 g with z|z
     .exact absurd z J
     .exact(hD j s y z M hy).mono ab
   .intro s M;have aw:∀d,o.dst=AC d->s≠d:=by
     rintro d hd rfl;rcases ok.dst i o G X with⟨d',k,W,ag⟩|k
     .rw[hd]at k;cases k;exact M i W ((JH F).2 (.inl rfl))
     .rw[hd]at k;cases k
    rw[ac s aw];exact(hE' s (λj q z=>M j q ((JH F).2 (.inr z)))).mono ab
   .rw[<- htk];have:=congrArg (List.take h0) af.take;rw[List.take_take,List.take_take,XA a2]at this;exact this
   .intro j g T h Y;refine(JH F).2 (.inr ?_);rcases(JH F).1 T with z|z
    .subst z;exact aj h Y
    .exact hI1 j g z h Y
   .intro j g T;rw[JH F];cases q:hs.getD i AD with
    |false=>
     have J:j≠i:=by rintro rfl;rw[q]at T;cases T
     rw[q]at O;simp only[Xi,if_false]at O;simp only[J,false_or];rw[O];exact hI2 j g T
    |true=>
     rw[q]at O;simp only[if_true]at O;rw[O j,hI2 j g T]
   .intro j o' g B j' am;rcases(JH F).1 g with z|z
    .subst z;rw[X]at B;cases B;exact(JH F).2 (.inr (Q _ am))
    .exact(JH F).2 (.inr (hcl j o' z B j' am))
def HA.dstB(N:Nat):Nat->AA AM->AA Nat->Bool
 |_,_,[]=>AE
 |i,o::r,d::ds=>(match o.dst with|some d'=>Nat.beq d' d&&Nat.blt d N|none=>AE)&&HA.dstB N (i+1) r ds
 |_,[],_::_=>AD
def HA.rqB(m:Nat)(hs:AA Bool)(rq:AA (AA Nat)):Nat->AA AM->Bool
 |_,[]=>AE
 |i,o::r=>(rq.getD i []).all (λh=>Nat.blt h m&&hs.getD h AD&&((Qj o).contains h||(Qj o).any λj=>Nat.blt j m&&(rq.getD j []).contains h))&&HA.rqB m hs rq (i+1) r
def j3(l:AA AM)(h:Nat):AA Nat:=match l[h]? with
 |some o=>c8 l h (Qj o)
 |none=>[]
theorem QlO{h j:Nat}(q:j∈j3 l h):Me l h j:=by
 unfold j3 at q;cases d:l[h]? with
 |none=>rw[d]at q;cases q
 |some o=>rw[d]at q;exact gu h (Qj o) (λi f=>.one d f) j q
def HA.plB(l:AA AM)(m:Nat)(hs:AA Bool)(rq ms:AA (AA Nat))(pl:AA (AA (Nat×Nat))):Bool:=
 (List.range m).all λi=>(List.range ms.length).all λst=>((ms.getD st []).any λh=>(j3 l h).contains i)|| !(rq.getD i []).all ((ms.getD st []).contains ·)||(hs.getD i AD&&(ms.getD st []).contains i)||
  (pl.getD i []).any λp=>Nat.beq p.1 st&&Nat.blt p.2 ms.length&&(bif hs.getD i AD then G9 (ms.getD p.2 []) (i::ms.getD st [])else Nat.beq p.2 st)
def HA(l:AA AM)(m N:Nat)(ds:AA Nat)(hs:AA Bool)(rq ms:AA (AA Nat))(pl:AA (AA (Nat×Nat))):Bool:=
 Nat.ble m l.length&&(ds.length==m)&&HA.dstB N 0 l ds&&Cx.nodupB ds&&Cx.goB l m 0 l&&HA.rqB m hs rq 0 l&&(ms.getD 0 []).isEmpty&&Nat.blt 0 ms.length
 &&((List.range ms.length).all λst=>Nat.beq (st+1) ms.length||(List.range m).any λi=>hs.getD i AD&& !(ms.getD st []).contains i)&&HA.plB l m hs rq ms pl&&(List.range ms.length).all λst=>(ms.getD st []).all λh=>Nat.blt h m&&hs.getD h AD
theorem rS:∀(l:AA AM) (f:AA Nat) (b:Nat),HA.dstB N b l f=AE->∀(i d:Nat) (o:AM),l[i]?=AC o->f[i]?=AC d->
  (o.dst=AC d/\d<N)\/o.dst=none:=by
 intro l
 induction l with
 |nil=>intro f b h i d o g;simp at g
 |cons x r m=>
  intro f b h i d o g j;cases f with
  |nil=>simp at j
  |cons y f=>
   simp only[HA.dstB,XW]at h;cases i with
   |zero=>
    simp at g j;subst g;subst j;have h:=h.1;split at h
    .rename_i n k;simp only[XW]at h;have e:=XQ h.1;subst e;exact .inl ⟨k,by simpa using h.2⟩
    .rename_i k;exact .inr k
   |succ i=>
    have:=m f (b+1) h.2 i d o (by simpa using g) (by simpa using j);exact this
theorem Qnx{m:Nat}{g:AA Bool}{f:AA (AA Nat)}:∀(l:AA AM) (b:Nat),HA.rqB m g f b l=AE->∀(i:Nat) (o:AM),l[i]?=AC o->
  ∀h∈f.getD (b+i) [],h<m/\g.getD h AD=AE/\(h∈Qj o\/ ∃j∈Qj o,j<m/\h∈f.getD j []):=by
 intro l
 induction l with
 |nil=>intro b h i o d;simp at d
 |cons x r F=>
  intro b h i o d;simp only[HA.rqB,XW]at h;cases i with
  |zero=>
   simp at d;subst d;intro k t;have:=Xs.1 h.1 k (by simpa using t);simp only[XW,Bool.or_eq_true,List.contains_iff_mem,Xt]at this;obtain⟨⟨y,z⟩,G⟩:=this;refine⟨by simpa using y,z,?_⟩;rcases G with q|⟨j,E,n,B⟩
   .exact .inl q
   .exact .inr ⟨j,E,by simpa using n,B⟩
  |succ i=>
   have:=F (b+1) h.2 i o (by simpa using d);rw[show b+1+i=b+(i+1)by omega]at this;exact this
theorem Qor{m:Nat}{B:AA Nat}{M:AA Bool}{O E:AA (AA Nat)}{Q:AA (AA (Nat×Nat))}(h:HA l m N B M O E Q=AE):
  je l m B M O E Q N/\0<E.length:=by
 unfold HA at h;simp only[XW]at h;obtain⟨⟨⟨⟨⟨⟨⟨⟨⟨⟨h1,V⟩,X⟩,W⟩,R⟩,h6⟩,h7⟩,h8⟩,T⟩,J⟩,H⟩:=h;have L:m<=l.length:=XR h1;have P:B.length=m:=by simpa using V
 have g:=qV l 0 R;refine⟨⟨L,λi o y f=>?_,P,sx W,λi o f=>by have:=(g i o f).1;simpa using this,λo f j hj=>gu m (Qj o) (λi y=>.one f y) j ((g m o f).2.1 (by omega) j hj),
  λi o y f=>by have:=(g i o f).2.2 (by omega);simpa using this,λi o y f h k=>by have:=Qnx l 0 h6 i o f h (by simpa using k);exact this,
  by simpa using h7,λt d=>?_,λt h k=>?_,λi t y d hr Y hx=>?_⟩,by simpa using h8⟩
 .have G:B[i]?=AC B[i]:=XK (by omega);rcases rS l B 0 X i _ o f G with⟨x,F⟩|x
  .exact .inl ⟨_,x,G,F⟩
  .exact .inr x
 .have:=Xs.1 T t (List.mem_range.2 d);simp only[Bool.or_eq_true,Xt,XW,Bool.not_eq_true']at this;rcases this with q|⟨i,x,F,n⟩
  .exact .inl (XQ q)
  .exact .inr ⟨i,List.mem_range.1 x,F,λz=>by rw[List.contains_iff_mem.2 z]at n;cases n⟩
 .have d:t<E.length:=by
   rcases VB t E.length with q|q
   .exact q
   .rw[VL,XO q]at k;cases k
  have:=Xs.1 (Xs.1 H t (List.mem_range.2 d)) h k;simp only[XW]at this;exact⟨by simpa using this.1,this.2⟩
 .have:=Xs.1 (Xs.1 J i (List.mem_range.2 y)) t (List.mem_range.2 d);simp only[Bool.or_eq_true,Bool.not_eq_true']at this;rcases this with((q|q)|q)|q
  .exfalso;obtain⟨h,k,q⟩:=Xt.1 q;exact hx h k (QlO (List.contains_iff_mem.1 q))
  .exfalso;have:((O.getD i []).all ((E.getD t []).contains ·))=true:=Xs.2 λh k=>List.contains_iff_mem.2 (hr h k);rw[this]at q;cases q
  .simp only[XW]at q;exact absurd (List.contains_iff_mem.1 q.2) (Y q.1)
  .obtain⟨p,hp,q⟩:=Xt.1 q;simp only[XW]at q;obtain⟨⟨x,F⟩,n⟩:=q;have e:=XQ x;refine⟨p.2,by rw[<- e];exact hp,by simpa using F,?_⟩;cases z:M.getD i AD with
   |true=>
    rw[z]at n;simp only[Vp]at n;simp only[if_true];intro j;rw[C? n j,X7]
   |false=>
    rw[z]at n;simp only[Vq]at n;simp only[Xi,if_false];exact XQ n
inductive CL (P:AK) (N:Nat) (l:List AM) (ds:List Nat) (xs:List A) (env0:Env) (hB hE:Nat):Nat->List (List (Qd×Qd))->Prop
 |nil {i:Nat}:CL P N l ds xs env0 hB hE i []
 |cons {i:Nat} {s:List (Qd×Qd)} {r:List (List (Qd×Qd))} (h:∀p∈s,Jk P N l ds xs env0 hB hE i p.1 p.2) (k:CL P N l ds xs env0 hB hE (i+1) r):CL P N l ds xs env0 hB hE i (s::r)
theorem CL.get{b:Nat}{g:AA (AA (Qd×Qd))}(h:CL P N l f xs env0 hB hE b g):
  ∀(i:Nat) (s:AA (Qd×Qd)),g[i]?=AC s->∀p∈s,Jk P N l f xs env0 hB hE (b+i) p.1 p.2:=by
 induction h with
 |nil=>intro i s h;simp at h
 | @cons b s0 r h _ ih=>
  intro i s d;cases i with
  |zero=>simp at d;subst d;exact h
  |succ i=>
   have:=ih i s (by simpa using d);rw[show b+1+i=b+(i+1)by omega]at this;exact this
theorem Qc{d:AA Nat}{i:Nat}:∀p∈([]:AA (Qd×Qd)),Jk P N l d xs env0 hB hE i p.1 p.2:=by
 intro p f;cases f
theorem Qa{d:AA Nat}{i:Nat}{H:Qd}{r:AA (Qd×Qd)}(h:Jk P N l d xs env0 hB hE i H H')
  (k:∀p∈r,Jk P N l d xs env0 hB hE i p.1 p.2):∀p∈(H,H')::r,Jk P N l d xs env0 hB hE i p.1 p.2:=by
 intro p f;rcases X7.1 f with rfl|q
 .exact h
 .exact k p q
variable {id:Nat}
theorem Qhc{env:Env}{H:Qd}{a:Act}(m c:Nat)(ds:AA Nat)(hs:AA Bool)(rq ms:AA (AA Nat))(O:AA (AA (Nat×Nat)))(xs:AA A)(Hs:AA Qd)(Hk:Qd)
  (hm:P.follows .mixedOrders=AE)(hc:HA l m N ds hs rq ms O=AE)(ae:Nat.beq xs.length m=AE)(W:Nat.beq Hs.length ms.length=AE)(Y:Nat.ble h0 H.length=AE)
  (hh:Hs.all (λX=>Nat.ble (H.length+c) X.length)=AE)(ac:Hs[0]?=AC (H++List.replicate c .dead))(ad:Hs.getD (ms.length-1) []=Hk)
  (aa:CL P N l ds xs env H.length (H.length+c) 0 (O.map λq=>q.map λp=>(Hs.getD p.1 [],Hs.getD p.2 [])))(af:Nat.beq O.length m=AE)
  (r:DH fr ro σ H env N a w)(V:J2 rd fr w)
  (hk:∀ro' σ' a' w',DH fr ro' σ' Hk (IU ds xs env) N a' w'->Qm fr ro w ro' w'->σ'.take h0=σ.take h0->a'.defers=a.defers->D6 P rd l.toArray R (l.drop m) a' w'):(Code.region id l.toArray AE).wpIn (WF rd) 0 P R a w:=by
 obtain⟨ok,Q⟩:=Qor hc;have F:=XQ ae;have M:=XQ W;have ag:=XQ af;have E:Qm fr ro w ro {w with drawn:=w.drawn+1}:=⟨λ_ q=>q,λ_ _=>rfl,λ_ _=>rfl,XT _,λ_ _ q=>q,rfl,rfl,rfl,Nat.le_succ _⟩;have B:DL ro σ w ro (σ++List.replicate c AF) {w with drawn:=w.drawn+1}:=E.ext σ _;have ab:=r.sim.len;have L:Hs.getD 0 []=H++List.replicate c .dead:=nu ac;have n:∀(i:Nat) (s:AB Nat) (x:CW),(σ++List.replicate c AF)[i]?=AC s->(H++List.replicate c CW.dead)[i]?=AC x->(σ[i]?=AC s/\H[i]?=AC x)\/(s=AF/\x=.dead):=by
  intro i s x k h;rcases VB i σ.length with q|q
  .rw[XM q]at k;rw[XM (by omega)]at h;exact .inl ⟨k,h⟩
  .rw[XN q]at k;rw[XN (by omega)]at h;have a1:=VH k;have a2:=VH h;exact .inr ⟨(List.mem_replicate.1 a1).2,(List.mem_replicate.1 a2).2⟩
 have J:Ca fr ro (σ++List.replicate c AF) (H++List.replicate c .dead) {w with drawn:=w.drawn+1}:=by
  refine⟨by simp[ab],r.sim.roOk.to (λ_ q=>q) (λ_ _=>rfl) r.sim.roLt,r.sim.frLt,r.sim.roFr,?_,?_,?_,
   r.sim.hidTo (· = ·) Ym (XT _) (λ_ _ _ _ _ _ _ q=>q) (λ_ _ _ _ _ _ _ q=>q) λj d y g1 g2 g3=>.inl ?_⟩
  rotate_left 3
  .rcases n j _ _ g1 g2 with⟨g,t⟩|⟨g,_⟩
   .exact⟨j,y,rfl,g,t,(λz=>z),λc q=>q⟩
   .cases g
  .intro i b blk k h T;rcases n i _ _ k h with⟨g,t⟩|⟨g,_⟩
   .exact r.sim.own i b blk g t T
   .cases g
  .intro i j b x y k h T h4 h5 h6;rcases n i _ _ k T with⟨g,t⟩|⟨g,_⟩
   .rcases n j _ _ h h4 with⟨q3,q4⟩|⟨q3,_⟩
    .exact r.sim.inj i j b x y g q3 t q4 h5 h6
    .cases q3
   .cases g
  .intro i s x k h;rcases n i _ _ k h with⟨g,t⟩|⟨g,t⟩
   .exact BR.keep B (λb hb _=>rfl) (r.sim.blk i s x g t) (λ_ _ _ _=>rfl)
   .subst t;exact trivial
 have f:∀i,¬Do (Array.replicate l.length AD) i:=by
  intro i q;unfold Do at q;rw[Array.getElem?_replicate]at q;split at q<;>simp at q
 have G:=XR Y;refine wpIn_region_any hm ?_;rw[List.size_toArray];refine qc ok F M G (Nat.le_add_right _ _) (λX hX=>XR (Xs.1 hh X hX)) ?_ ad (ro0:=ro) (σ0:=σ) (w0:=w) (ds0:=a.defers) hk r.defers V
  l.length _ a _ ro (σ++List.replicate c AF) 0 (by simp) ?_ (λi _=>f i) Q (by rw[L];exact J) r.size rfl (λi d x q=>absurd q (f i)) (λs _=>(r.env s).mono B) E (QR (by omega)) ?_
  (λi _ q=>absurd q (f i)) (λi _ _=>⟨λq=>absurd q (f i),λq=>by rw[ok.ms0]at q;cases q⟩) (λi o q=>absurd q (f i))
 .intro i p hi hp;have e:(O.map λq=>q.map λp=>(Hs.getD p.1 [],Hs.getD p.2 []))[i]?=AC ((O.getD i []).map λp=>(Hs.getD p.1 [],Hs.getD p.2 [])):=by
   rw[Xo,XK (by omega),VL,XK (by omega)];rfl
  have:=aa.get i _ e _ (Xe.2 ⟨p,hp,rfl⟩);simpa using this
 .unfold Mt;simp[List.countP_replicate]
 .intro p k h T;rw[XN (by omega),List.getElem?_replicate,Vt (by omega)]
theorem Yu{env:Env}{H:Qd}{Q:Qz}(m c:Nat)(f:AA Nat)(B:AA Bool)(E g:AA (AA Nat))(h:AA (AA (Nat×Nat)))(xs:AA A)(Hs:AA Qd)(Hk:Qd)
  (J:P.follows .mixedOrders=AE)(F:HA l m N f B E g h=AE)(n:Nat.beq xs.length m=AE)(t:Nat.beq Hs.length g.length=AE)(x:Nat.ble h0 H.length=AE)
  (G:Hs.all (λX=>Nat.ble (H.length+c) X.length)=AE)(j:Hs[0]?=AC (H++List.replicate c .dead))(k:Hs.getD (g.length-1) []=Hk)
  (z:CL P N l f xs env H.length (H.length+c) 0 (h.map λq=>q.map λp=>(Hs.getD p.1 [],Hs.getD p.2 [])))(y:Nat.beq h.length m=AE)
  (L:WO P h0 N l.toArray (l.drop m) (IU f xs env) Hk Q):TC P h0 N (.region id l.toArray AE) env H Q:=by
 intro M O R σ a w r hrd;refine Code.wpIn_mono (λe a w q=>Hu.postW q) (Qhc m c f B E g h xs Hs Hk J F n t x G j k z y r hrd λro' σ' a' w' hr hev htk hdf=>?_);have d:=L M O ro' σ' a' w' hr (hrd.to hev λ_ q=>q);rw[hdf]at d;exact YF (λe a w q=>q.step hev htk) _ _ _ d
def draw0(l:AA AM)(m N:Nat)(ds:AA Nat):Bool:=Nat.ble m l.length&&(ds.length==m)&&HA.dstB N 0 l ds&&Cx.nodupB ds&&Cx.goB l m 0 l
inductive Oq (P:AK) (N:Nat) (l:List AM) (ds:List Nat) (xs:List A) (env0:Env) (H:Qd):Nat->Nat->Prop
 |n {i:Nat}:Oq P N l ds xs env0 H i 0
 |c {i c:Nat} (h:Jk P N l ds xs env0 H.length H.length i H H) (k:Oq P N l ds xs env0 H (i+1) c):Oq P N l ds xs env0 H i (c+1)
theorem Oq.get{d:AA Nat}{H:Qd}{b c:Nat}(h:Oq P N l d xs env0 H b c):∀i,i<c->Jk P N l d xs env0 H.length H.length (b+i) H H:=by
 induction h with
 |n=>intro i f;omega
 | @c b c h _ ih=>
  intro i f;cases i with
  |zero=>exact h
  |succ i=>
   have:=ih i (by omega);rw[show b+1+i=b+(i+1)by omega]at this;exact this
theorem Qos{m:Nat}{k:AA Nat}(h:draw0 l m N k=AE):je l m k [] [] [[]] (List.replicate m [(0,0)]) N:=by
 unfold draw0 at h;simp only[XW]at h;obtain⟨⟨⟨⟨M,H⟩,G⟩,F⟩,E⟩:=h;have B:m<=l.length:=XR M;have z:k.length=m:=by simpa using H
 have g:=qV l 0 E;refine⟨B,λi o n f=>?_,z,sx F,λi o f=>by have:=(g i o f).1;simpa using this,λo f j L=>gu m (Qj o) (λi n=>.one f n) j ((g m o f).2.1 (by omega) j L),
  λi o n f=>by have:=(g i o f).2.2 (by omega);simpa using this,λi o n f h x=>by simp at x,rfl,λt d=>.inl (by simp at d;simp[d]),λt h x=>by cases t<;>simp at x,λi t n d _ _ _=>?_⟩
 .have q:k[i]?=AC k[i]:=XK (by omega);rcases rS l k 0 G i _ o f q with⟨y,J⟩|y
  .exact .inl ⟨_,y,q,J⟩
  .exact .inr y
 .have:t=0:=by simp at d;exact d
  subst this;refine⟨0,?_,by simp,by simp⟩;rw[VL,List.getElem?_replicate,Vt n];exact VA.2 rfl
theorem Qhd{env:Env}{H:Qd}{a:Act}(m:Nat)(n:AA Nat)(xs:AA A)
  (J:P.follows .mixedOrders=AE)(G:Go.Sw.draw0 l m N n=AE)(z:Nat.beq xs.length m=AE)(t:Nat.ble h0 H.length=AE)
  (y:Oq P N l n xs env H 0 m)(r:DH fr ro σ H env N a w)(B:J2 rd fr w)
  (L:∀ro' σ' a' w',DH fr ro' σ' H (IU n xs env) N a' w'->Qm fr ro w ro' w'->σ'.take h0=σ.take h0->a'.defers=a.defers->D6 P rd l.toArray R (l.drop m) a' w'):(Code.region id l.toArray AE).wpIn (WF rd) 0 P R a w:=by
 have ok:=Qos G;have h:=XQ z;have g:Qm fr ro w ro {w with drawn:=w.drawn+1}:=⟨λ_ q=>q,λ_ _=>rfl,λ_ _=>rfl,XT _,λ_ _ q=>q,rfl,rfl,rfl,Nat.le_succ _⟩;have j:DL ro σ w ro σ {w with drawn:=w.drawn+1}:=g.ext0 σ;have k:Ca fr ro σ H {w with drawn:=w.drawn+1}:=r.sim.heap rfl;have f:∀i,¬Do (Array.replicate l.length AD) i:=by
  intro i q;unfold Do at q;rw[Array.getElem?_replicate]at q;split at q<;>simp at q
 refine wpIn_region_any J ?_;rw[List.size_toArray];refine qc (hB:=H.length) (hE:=H.length) (Hs:=[H]) (Hk:=H) ok h rfl (XR t) (XT _) (λX hX=>by rw[VA.1 hX];exact XT _) ?_ rfl (ro0:=ro) (σ0:=σ) (w0:=w) (ds0:=a.defers) L r.defers B
  l.length _ a _ ro σ 0 (by simp) ?_ (λi _=>f i) (by simp) k r.size rfl (λi d x q=>absurd q (f i)) (λs _=>(r.env s).mono j) g rfl (λp O M=>by omega)
  (λi _ q=>absurd q (f i)) (λi _ _=>⟨λq=>absurd q (f i),λq=>by cases q⟩) (λi o q=>absurd q (f i))
 .intro i p F E;rw[VL,List.getElem?_replicate,Vt F]at E;obtain rfl:=VA.1 E;have:=y.get i F;rw[Xv]at this;exact this
 .unfold Mt;simp[List.countP_replicate]
theorem TC.draw0{P:AK}{h0 N:Nat}{id:Nat}{l:AA AM}{env:Env}{H:Qd}{Q:Qz}(m:Nat)(f:AA Nat)(xs:AA A)
  (n:P.follows .mixedOrders=AE)(k:Go.Sw.draw0 l m N f=AE)(j:Nat.beq xs.length m=AE)(g:Nat.ble h0 H.length=AE)
  (h:Oq P N l f xs env H 0 m)(t:WO P h0 N l.toArray (l.drop m) (IU f xs env) H Q):TC P h0 N (.region id l.toArray AE) env H Q:=by
 intro x y z σ a w r hrd;refine Code.wpIn_mono (λe a w q=>Hu.postW q) (Qhd m f xs n k j g h r hrd λro' σ' a' w' hr hev htk hdf=>?_);have d:=t x y ro' σ' a' w' hr (hrd.to hev λ_ q=>q);rw[hdf]at d;exact YF (λe a w q=>q.step hev htk) _ _ _ d
section
variable {P:AK} {N:Nat} {l:AA AM} {ds af bf:AA Nat} {xs:AA A} {env0 e r:Env} {H H':Qd} {i hB hE:Nat} {o:AM} {d s:Nat} {x a:A}
theorem sN:Sb af bf ds xs env0 []:=.nil
theorem sD(j:Nat)(k:Sb af bf ds xs env0 r)(d:af.contains j=true:=by rfl)(h2:ds[j]?=AC s:=by rfl)(h3:xs[j]?=AC a:=by rfl):Sb af bf ds xs env0 ((s,a)::r):=.dep j d h2 h3 k
theorem sP(j:Nat)(k:Sb af bf ds xs env0 r)(d:bf.contains j=true:=by rfl)(h2:ds[j]?=AC s:=by rfl)(h3:lk env0 s=a:=by rfl):Sb af bf ds xs env0 ((s,a)::r):=.pre j d h2 h3 k
theorem sO(s:Nat)(k:Sb af bf ds xs env0 r)(d:ds.contains s=false:=by rfl)(h2:lk env0 s=a:=by rfl):Sb af bf ds xs env0 ((s,a)::r):=.old d h2 k
theorem sh(H:Qd):JJ hB hE H H=true:=by
 unfold JJ;refine Xs.2 λp _=>?_;cases NY H[hB+p]? <;>rfl
theorem Om(g:l[i]?=AC o)(f:Sb (Qj o) (NM l i) ds xs env0 e)(h:WO P H.length N l.toArray [o] e H (YW (up e d x) H))(j:o.dst=AC d:=by rfl)(hx:xs[i]?=AC x:=by rfl):Jk P N l ds xs env0 hB hE i H H:=
 .mk o e d x g j hx (sh H) f h
theorem Fu(g:l[i]?=AC o)(f:Sb (Qj o) (NM l i) ds xs env0 e)(h:WO P H.length N l.toArray [o] e H (YW (up e d x) H'))(j:o.dst=AC d:=by rfl)(hx:xs[i]?=AC x:=by rfl)(hdd:JJ hB hE H H'=true:=by rfl):Jk P N l ds xs env0 hB hE i H H':=
 .mk o e d x g j hx hdd f h
theorem Sh(f:l[i]?=AC o)(d:Sb (Qj o) (NM l i) ds xs env0 e)(h:WO P H.length N l.toArray [o] e H (YW e H'))(g:o.dst=none:=by rfl)(hx:xs[i]?=AC .any:=by rfl)(hdd:JJ hB hE H H'=true:=by rfl):Jk P N l ds xs env0 hB hE i H H':=
 .unit o e f g hx hdd d h
end
structure SF where
 fld:List (Nat×Nat×Nat)
 agg:List (Nat×Bool×Nat)
 zer:List (Nat×List A×List (Nat×Nat))
structure SE (P:AK) (T:SF):Prop where
 fld:∀e∈T.fld,∃n,Qw P e.1 e.2.1 e.2.2 n
 agg:∀e∈T.agg,(∀w,(isAgg e.1).run P w=.ok e.2.1 w)/\ ∀w,(sizeOf e.1).run P w=.ok e.2.2 w
 zer:∀e∈T.zer,(∃z,(∀w,(zeroValue e.1).run P w=.ok z w)/\ZR (.agg e.2.1) z)/\SQ P e.1 e.2.2
def cZ:AA (Nat×Nat×Nat)->Nat->Nat->AB Nat
 |[],_,_=>AF
 |(a,b,c)::r,t,f=>bif Nat.beq a t&&Nat.beq b f then AC c else cZ r t f
def Hh{β:Type}:AA (Nat×β)->Nat->AB β
 |[],_=>AF
 |(a,b)::r,t=>bif Nat.beq a t then AC b else Hh r t
theorem qT{l:AA (Nat×Nat×Nat)}{f c:Nat}(h:cZ l t f=AC c):(t,f,c)∈l:=by
 induction l with
 |nil=>cases h
 |cons x r g=>
  obtain⟨a,b,d⟩:=x;unfold cZ at h;cases q:(Nat.beq a t&&Nat.beq b f)with
  |true=>
   simp_all
  |false=>grind
theorem Mk{β:Type}{l:AA (Nat×β)}{c:β}(h:Hh l t=AC c):(t,c)∈l:=by
 induction l with
 |nil=>cases h
 |cons x r d=>
  obtain⟨a,b⟩:=x;unfold Hh at h;cases q:Nat.beq a t with
  |true=>
   simp_all
  |false=>grind
def kV(H:Qd):A->AB (AA A)
 |.rp cs=>AC cs
 |.ptr i off=>match H[i]? with
  |some (.cells _ cs)=>AC (cs.drop off)
  |_=>AF
 |_=>AF
theorem QjV{H:Qd}{p:A}(h:kV H p=AC d):DZ H p d:=by
 unfold kV at h;split at h
 .cases h;exact DZ.rp
 .split at h
  .rename_i f;cases h;exact DZ.cells f rfl
  .cases h
 .cases h
def jf(T:SF)(o:AM)(env:Env)(H:Qd):AB A:=
 match o.op with
 |.move x=>AC (CQ env x)
 |.assign x=>AC (CQ env x)
 |.fieldAddr t x f=>match cZ T.fld t f with
  |none=>AF
  |some off=>match CQ env x with
   |.ptr i p=>AC (.ptr i (p+off))
   |.rp cs=>AC (.rp (cs.drop off))
   |_=>AF
 |.load t x=>match Hh T.agg t with
  |none=>AF
  |some (b,n)=>match x with
   |.global g=>match Mb[g]? with
    |some zs=>bif b&&Nat.beq zs.length n then AC (.agg (zs.map (A.int .i64)))else AF
    |none=>AF
   |x=>match kV H (CQ env x)with
    |none=>AF
    |some cs=>bif b then(bif Nat.beq (cs.take n).length n then AC (.agg (cs.take n))else AF)else cs.head?
 |.build t parts=>match Hh T.zer t with
  |none=>AF
  |some (zs,pl)=>match P8 env pl zs parts.toList with
   |some cs=>AC (.agg cs)
   |none=>AF
 |.extract x i=>match CQ env x with
  |.tup vs=>vs[i]?
  |_=>AF
 |.makeFunc f first cap=>AC (.fn f (first.toList.map (CQ env)) (cap.toList.map (CQ env)))
 |_=>AF
theorem Qnn{T:SF}(B:SE P T){o:AM}{env:Env}{H:Qd}{x:A}(h:jf T o env H=AC x):CU P o env H x:=by
 unfold jf at h;split at h
 .simp_all[CU.move]
 .simp_all[CU.assign]
 .rename_i t y f d;split at h
  .cases h
  .rename_i M m;obtain⟨n,Q⟩:=B.fld _ (qT m);split at h
   .grind[lz]
   .rename_i g R;cases h;exact sU Q d R rfl
   .cases h
 .rename_i t y d;split at h
  .cases h
  .rename_i b n N;obtain⟨j,k⟩:=B.agg _ (Mk N);split at h
   .split at h
    .rename_i E L;cases q:(b&&Nat.beq E.length n)with
     |false=>grind
     |true=>
      rw[q]at h;cases h;simp[XW]at q;obtain⟨rfl,W⟩:=q;exact rL j k L (by simp_all) d
    .cases h
   .split at h
    .cases h
    .rename_i g G;have F:=QjV G;cases b with
     |true=>
      cases q:Nat.beq (g.take n).length n with
      |false=>grind
      |true=>
       rw[q]at h;cases h;exact Qv d j k rfl F rfl (by simp_all)
     |false=>
      cases g with
      |nil=>cases h
      |cons v g=>cases h;exact CU.load d j rfl F
 .rename_i t parts d;split at h
  .cases h
  .rename_i E X V;obtain⟨⟨z,j,k⟩,O⟩:=B.zer _ (Mk V);split at h
   .rename_i g m;cases h;exact CU.build j k O (by rw[d]) m
   .cases h
 .grind[CU.extract]
 .rename_i f first J d
  cases h;exact CU.makeFunc (by rw[d]) rfl rfl
 .cases h
def P5(af:AA Nat):Nat->AA Nat->AA A->Env->Env
 |j,d::ds,x::xs,e=>(d,bif af.contains j then x else .any)::P5 af (j+1) ds xs e
 |_,_,_,e=>e
theorem _Z(s:Nat):∀(f:AA Nat) (xs:AA A) (b:Nat),f.length=xs.length->
  (∃(j:Nat) (x:A),f[j]?=AC s/\xs[j]?=AC x/\lk (P5 af b f xs env0) s=bif af.contains (b+j)then x else .any)\/(f.contains s=AD/\lk (P5 af b f xs env0) s=lk env0 s):=by
 intro f
 induction f with
 |nil=>simp_all[P5]
 |cons d f k=>
  intro xs b n;cases xs with
  |nil=>cases n
  |cons x xs=>
   cases q:Nat.beq s d with
   |true=>
    have e:=XQ q;subst e;left;refine⟨0,x,rfl,rfl,?_⟩
    simp_all[P5,lk]
   |false=>
    have h:s≠d:=λz=>by simp_all
    simp only[P5,lk,q];rcases k xs (b+1) (by grind)with⟨j,y,m,g,t⟩|⟨m,g⟩
    .left;refine⟨j+1,y,by grind,by grind,?_⟩
     grind
    grind
def fh(T:SF)(N:Nat)(l:AA AM)(ds:AA Nat)(xs:AA A)(env0:Env)(H:Qd)(i:Nat):AB A:=
 match l[i]? with
 |none=>AF
 |some o=>match o.guard,o.dst with
  |none,AC d=>bif Nat.blt d N&&Nat.beq ds.length xs.length then jf T o (P5 (Qj o) 0 ds xs env0) H else AF
  |_,_=>AF
theorem _a{d:AA Nat}(f:d.length=xs.length):fc af d xs env0 (P5 af 0 d xs env0):=by
 intro s;rcases _Z (af:=af) (env0:=env0) s d xs 0 f with⟨j,x,m,k,g⟩|h
 .grind
 grind
theorem vQ{T:SF}(n:SE P T){i:Nat}{H:Qd}{x:A}(g:xs[i]?=AC x)(h:fh T N l f xs env0 H i=AC x):Jk P N l f xs env0 hB hE i H H:=by
 unfold fh at h;split at h
 .cases h
 .rename_i o j;split at h
  .rename_i d k m;cases q:(Nat.blt d N&&Nat.beq f.length xs.length)with
   |false=>grind
   |true=>
    rw[q]at h;simp only[XW]at q;exact .val o _ d x j m k g q.1 (_a (by simp_all)) (Qnn n h)
  .cases h
abbrev I(n:Int):A:=.int .i64 n
theorem zc{a:A}{v:AL}{al:AA A}{vl:AA AL}(h:ZR a v)(k:ZL al vl):ZL (a::al) (v::vl):=ZL.cons h k
def fI:A->AL->Bool
 |.int k n,.int k' n'=>AG (k=k')&&AG (n=n')
 |.bool b,.bool b'=>b==b'
 |.str s,.string s'=>s.isEmpty&&s'.data.toList.isEmpty
 |.rsl _ es,.slice AF 0 0=>es.isEmpty
 |.nils,.slice AF 0 0=>AE
 |.nilp,.pointer AF=>AE
 |.nilf,.nilFunc=>AE
 |.nilm,.map AF=>AE
 |.nilif,.nilIface=>AE
 |_,_=>AD
def fG:AA A->AA AL->Bool
 |[],[]=>AE
 |a::r,v::s=>fI a v&&fG r s
 |_,_=>AD
def fH:A->AL->Bool
 |.agg r,.agg s=>fG r s.toList
 |a,v=>fI a v
theorem od{a:A}{v:AL}(h:fI a v=AE):ZR a v:=by
 unfold fI at h;split at h
 .simp_all[ZR.int]
 .simp_all[ZR.bool]
 .rename_i s f;simp[XW]at h;obtain⟨d⟩:=f
  simp_all[ZR.str]
 .rename_i k g;have h:=List.isEmpty_iff.1 h;subst h;exact ZR.rsl (e:=λx=>[x])
 .exact ZR.nils
 .exact ZR.nilp
 .exact ZR.nilf
 .exact ZR.nilm
 .exact _S
 .cases h
theorem oe:∀{r:AA A} {s:AA AL},fG r s=AE->ZL r s
 |[],[],_=>ZL.nil
 |a::r,v::s,h=>by
  simp[fG,XW]at h;exact ZL.cons (od h.1) (oe h.2)
 |[],_::_,h=>by cases h
 |_::_,[],h=>by cases h
theorem Fh{a:A}{v:AL}(h:fH a v=AE):ZR a v:=by
 unfold fH at h;split at h
 .have:=ZR.agg (oe h);omega
 .exact od h
section
variable {P:AK} {o:AM} {env:Env} {H:Qd}
theorem Qjy{b:Nat}{l:AA Int}{d:Nat}(h:CR ro σ w b (l.map λn=>A.int .u8 n) d):(loadCells ⟨b,d,AF⟩ l.length).run P w=.ok (l.map λn=>Value.int .u8 n).toArray w:=by
 obtain⟨vs,m,_,q⟩:=YC (P:=P) 0 (by simpa using h);have e:∀(l:AA Int) (vs:AA AL),LR ro σ w (l.map λn=>A.int .u8 n) vs->vs=l.map λn=>Value.int .u8 n:=by
  intro l
  induction l with
  |nil=>intro vs h;exact h
  |cons n l t=>
   rintro vs ⟨v,f,rfl,j,k⟩;have g:v=.int .u8 n:=j
   grind
 grind[loadCells]
theorem pu:∀(l:AA Int) (acc:ByteArray),l.foldl (λr n=>r.push (UInt8.ofNat n.toNat)) acc=⟨acc.data++(l.map Js).toArray⟩
 |[],acc=>by simp
 |n::l,acc=>by
  rw[XD,pu l];simp[Js]
theorem gn{t u e:TypeId}{x:Operand}{ax:A}{l:AA Int}(E:F4 P H ax l)(h:∀w,(underlying t).run P w=.ok (.slice e) w)(he:∀w,(underlying e).run P w=.ok (.int .u8) w)(j:∀w,(underlying u).run P w=.ok .string w)
  (G:o.op=.convert t u x:=by rfl)(hx:CQ env x=ax:=by rfl):CU P o env H (.str (l.map Js)):=by
 intro B y σ N a w r;have k:=Qq r x;rw[hx]at k;refine⟨.string ⟨(l.map Js).toArray⟩,?_,rfl⟩;have q:(convert t u (a.eval x)).run P w=.ok (.string ⟨(l.map Js).toArray⟩) w:=by
  rcases E B y σ w _ r.sim k with⟨m,c,f,rfl⟩|⟨b,d,c,f,g⟩
  .rw[f];cases m with
   |none=>simp[convert,h,j,he,go_sem];rfl
   |some m=>simp[convert,h,j,he,loadCells,go_sem];rfl
  .rw[f];have F:(loadCells ⟨b,d,AF⟩ l.length).run P w=.ok (l.map λn=>Value.int .u8 n).toArray w:=by
    rcases g with rfl|g
    .rfl
    .exact Qjy g
   have z:(convert t u (.slice (AC ⟨b,d,AF⟩) l.length c)).run P w=(Conv.bytesToString (.slice (AC ⟨b,d,AF⟩) l.length c)).run P w:=by
    simp[convert,h,j,he,go_sem]
   rw[z,run_bytesToString w ⟨b,d,AF⟩ l.length c l F,pu];simp
 simp_all[execOp]
theorem QmB{t u:TypeId}{x:Operand}{p q:AA UInt8}(ho:o.op=.binOp .gtr t x y u)(hx:CQ env x=.str p)(hy:CQ env y=.str q):CU P o env H (.bool (!(Op.bytesLess p q||p==q))):=
 gq (f:=λa b=> !(Op.bytesLess a b||a==b)) ho hx hy (by simp)
end
structure Fa where
 ty:SF
 al:List (Nat×A)
 sl:List Nat
structure IV (P:AK) (T:Fa):Prop where
 ty:SE P T.ty
 al:∀e∈T.al,(∃z,(∀w,(zeroValue e.1).run P w=.ok z w)/\ZR e.2 z)/\Yi e.2=AE/\(Yf e.2).all Yr=AE
 sl:∀t∈T.sl,∃et,∀w,(underlying t).run P w=.ok (.slice et) w
def Yc(all:Array AM)(o:AM)(env:Env):AB Bool:=
 match o.guard with
 |none=>AC AE
 |some (j,c)=>match(all[j]?).bind (·.dst)with
  |none=>AF
  |some d=>match lk env d with
   |.bool AE=>AC c
   |.bool AD=>AC (!c)
   |.tup []=>AC AD
   |_=>AF
theorem Qy{all:Array AM}{o:AM}{env:Env}{b:Bool}(h:Yc all o env=AC b):QA all o env b:=by
 unfold Yc at h;unfold QA;split at h
 .grind
 .rename_i j c q;rw[q];split at h
  .cases h
  .rename_i d f;refine⟨d,f,?_⟩;split at h
   .simp_all
   .simp_all
   .grind
   .cases h
def Fb:AA Nat->Nat->Bool
 |[],_=>AD
 |a::r,t=>bif Nat.beq a t then AE else Fb r t
theorem kG{l:AA Nat}(h:Fb l t=AE):t∈l:=by
 induction l with
 |nil=>cases h
 |cons a r d=>
  grind[Fb,Nat.eq_of_beq_eq_true]
inductive FL where
 |mk (l:List A)
def fl:AA A->FL
 |[]=>.mk []
 |a::r=>match fl r with
  |.mk r'=>.mk (a::r')
theorem Mf:∀l:AA A,fl l=.mk l
 |[]=>rfl
 |a::r=>by unfold fl;rw[Mf r]
inductive FB where
 |mk (l:List CW)
def fb:AA CW->FB
 |[]=>.mk []
 |a::r=>match fb r with
  |.mk r'=>.mk (a::r')
theorem W3:∀l:AA CW,fb l=.mk l
 |[]=>rfl
 |a::r=>by unfold fb;rw[W3 r]
inductive FN where
 |mk (n:Nat)
def fn:AA CW->Nat->FN
 |[],n=>.mk n
 |_::r,n=>fn r (n+1)
theorem fp:∀(l:AA CW) (n:Nat),fn l n=.mk (l.length+n)
 |[],n=>by simp[fn]
 |a::r,n=>by unfold fn;rw[fp r];simp;omega
def fm(env:Env)(pl:AA (Nat×Nat)):AA A->AA (Nat×Operand)->AB (AA A)
 |cs,[]=>AC cs
 |cs,(i,x)::r=>match YH pl i with
  |none=>AF
  |some (off,size)=>match DJ env x with
   |.mk a=>match fl (Yf a)with
    |.mk vs=>bif Yi a&&Nat.beq vs.length size&&Nat.ble (off+size) cs.length then(match fl (splice cs off vs)with
     |.mk cs'=>fm env pl cs' r)else AF
theorem qP{env:Env}{pl:AA (Nat×Nat)}:∀(parts:AA (Nat×Operand)) (cs:AA A),fm env pl cs parts=P8 env pl cs parts
 |[],cs=>rfl
 |(i,x)::r,cs=>by
  unfold fm P8;rw[Mh];cases pl[i]? with
  |none=>rfl
  |some q=>
   obtain⟨off,size⟩:=q;cases h:DJ env x with
   |mk a=>
    rw[QX h];simp only[Mf];cases(Yi a&&Nat.beq (Yf a).length size&&Nat.ble (off+size) cs.length)with
    |false=>rfl
    |true=>exact qP r _
def P1(env:Env):AA Operand->AA A
 |[]=>[]
 |x::r=>match DJ env x with
  |.mk a=>a::P1 env r
theorem dK{env:Env}:∀l:AA Operand,P1 env l=l.map (CQ env)
 |[]=>rfl
 |x::r=>by
  unfold P1;cases h:DJ env x with
  |mk a=>rw[Vk,QX h];show a::P1 env r=_;rw[dK r]
def M3(H:Qd):Bx->AB Lx
 |.mk (.rp cs)=>AC (.mk cs)
 |.mk (.ptr i off)=>match YH H i with
  |some (.cells _ cs)=>AC (c4 off cs)
  |_=>AF
 |_=>AF
theorem yw{H:Qd}{p:A}(h:M3 H (.mk p)=AC (.mk d)):DZ H p d:=by
 unfold M3 at h
 grind[DZ.rp,Mh,DZ.cells,lA]
def Hv(T:Fa)(o:AM)(env:Env)(H:Qd):AB A:=
 match o.op with
 |.move x=>match DJ env x with|.mk a=>AC a
 |.assign x=>match DJ env x with|.mk a=>AC a
 |.nilCheck x=>ie (DJ env x)
 |.extract x i=>jV (DJ env x) i
 |.unOp u _ x=>iQ u (DJ env x)
 |.pick c x y=>iZ (DJ env c) (DJ env x) (DJ env y)
 |.binOp b _ x y _=>jY b (DJ env x) (DJ env y)
 |.fieldAddr t x f=>match cZ T.ty.fld t f with
  |none=>AF
  |some off=>match DJ env x with
   |.mk (.ptr i p)=>AC (.ptr i (p+off))
   |.mk (.rp cs)=>match c4 off cs with
    |.mk r=>AC (.rp r)
   |_=>AF
 |.load t x=>match Hh T.ty.agg t with
  |none=>AF
  |some (b,n)=>match x with
   |.global g=>match YH Mb g with
    |some zs=>bif b&&Nat.beq zs.length n then(match fl (zs.map (A.int .i64))with|.mk l=>AC (.agg l))else AF
    |none=>AF
   |x=>match M3 H (DJ env x)with
    |none=>AF
    |some (.mk cs)=>match b with
     |true=>(match fl (cs.take n)with|.mk l=>bif Nat.beq l.length n then AC (.agg l)else AF)
     |false=>(match cs with|[]=>AF|a::_=>AC a)
 |.build t parts=>match Hh T.ty.zer t with
  |none=>AF
  |some (zs,pl)=>match fm env pl zs parts.toList with
   |some cs=>AC (.agg cs)
   |none=>AF
 |.makeFunc f first cap=>match fl (P1 env first.toList),fl (P1 env cap.toList)with
  |.mk l,.mk l'=>AC (.fn f l l')
 |.call c=>match c with
  |{callee:=.builtin .len,args:=⟨[x]⟩,argTypes:=⟨[t]⟩}=>bif Fb T.sl t then(match DJ env x with
   |.mk (.osl _ 0 n _)=>AC (.int .i64 n)
   |_=>AF)else AF
  |_=>AF
 |_=>AF
theorem Ml{T:Fa}(F:IV P T){o:AM}{env:Env}{H:Qd}{x:A}(h:Hv T o env H=AC x):CU P o env H x:=by
 unfold Hv at h;split at h
 .simp_all[RG,K9]
 .simp_all[RG,K9]
 .simp_all[RG,K9]
 .simp_all[RG,K9]
 .simp_all[RG,K9]
 .simp_all[RG,K9]
 .simp_all[RG,K9]
 .rename_i t y f d;split at h
  .cases h
  .rename_i G m;obtain⟨n,X⟩:=F.ty.fld _ (qT m);split at h
   .grind[lz,QX]
   .rename_i B hy;cases q:c4 G B with
    |mk r=>rw[q]at h;grind[sU,QX,lA]
   .cases h
 .rename_i t y d;split at h
  .cases h
  .rename_i b n N;obtain⟨E,j⟩:=F.ty.agg _ (Mk N);split at h
   .rename_i g;split at h
    .rename_i M J;rw[Mh]at J;cases q:(b&&Nat.beq M.length n)with
     |false=>grind
     |true=>
      rw[q,Mf]at h;cases h;simp only[XW]at q;obtain⟨rfl,L⟩:=q;exact rL E j J (by simp_all) d
    .cases h
   .cases e:DJ env y with
    |mk p=>
     rw[e]at h;split at h
     .cases h
     .rename_i B V;have W:=yw V;cases b with
      |true=>
       simp only[Mf]at h;cases q:Nat.beq (B.take n).length n with
       |false=>grind
       |true=>
        rw[q]at h;cases h;exact Qv d E j (QX e) W rfl (by simp_all)
      |false=>
       grind[CU.load,QX]
 .rename_i t parts d;split at h
  .cases h
  .rename_i M pl R;obtain⟨⟨z,E,j⟩,Q⟩:=F.ty.zer _ (Mk R);split at h
   .rename_i B m;cases h;rw[qP]at m;exact CU.build E j Q (by rw[d]) m
   .cases h
 .rename_i f first cap d
  simp only[Mf]at h;cases h;rw[dK,dK];exact CU.makeFunc (first:=first.toList) (cap:=cap.toList) (by rw[d]) rfl rfl
 .rename_i c d;split at h
  .rename_i y t;cases q:Fb T.sl t with
   |false=>grind
   |true=>
    rw[q]at h;simp only[Vp]at h;obtain⟨Y,O⟩:=F.sl t (kG q);split at h
    .rename_i i n k L;cases h;exact QmE O d rfl (QX L)
    .cases h
  .cases h
 .cases h
def fL(T:Fa)(h0 N:Nat)(all:Array AM)(o:AM)(env:Env)(H:Qd):AB (Env×Qd):=
 match Yc all o env with
 |none=>AF
 |some AD=>match o.dst with
  |none=>AF
  |some d=>bif Nat.blt d N then AC (up env d (.tup []),H)else AF
 |some AE=>match o.dst with
  |none=>match o.op with
   |.store t x y=>match DJ env x,Hh T.ty.agg t with
    |.mk (.ptr i off),AC (_,n)=>match YH H i with
     |some (.cells S cs)=>match DJ env y with
      |.mk a=>match fl (Yf a)with
       |.mk vs=>bif Nat.ble h0 H.length&&(Yi a&&(Nat.beq vs.length n&&(vs.all Yr&&Nat.ble (off+n) cs.length)))then(match fl (splice cs off vs)with
        |.mk cs'=>match fb (H.set i (.cells S cs'))with
         |.mk H'=>AC (env,H'))else AF
     |_=>AF
    |_,_=>AF
   |_=>AF
  |some d=>bif Nat.blt d N then(match o.op with
   |.alloc t=>match Hh T.al t with
    |some v=>bif Nat.ble h0 H.length then(match fn H 0,fl (Yf v)with
     |.mk n,.mk cs=>match fb (H++[.cells t cs])with
      |.mk H'=>AC (up env d (.ptr n 0),H'))else AF
    |none=>AF
   |.box t x=>match DJ env x with
    |.mk a=>bif Nat.ble h0 H.length&&(Yi a&&(Yf a).all Yr)then(match fn H 0,fl (Yf a)with
     |.mk n,.mk cs=>match fb (H++[.cells t cs])with
      |.mk H'=>AC (up env d (.ptr n 0),H'))else AF
   |_=>match Hv T o env H with
    |some a=>AC (up env d a,H)
    |none=>AF)else AF
def My(T:Fa)(h0 N:Nat)(all:Array AM):Nat->AA AM->Env->Qd->AB (AA AM×Env×Qd)
 |0,l,env,H=>AC (l,env,H)
 |_+1,[],_,_=>AF
 |n+1,o::l,env,H=>match fL T h0 N all o env H with
  |some (env',H')=>My T h0 N all n l env' H'
  |none=>AF
section
variable {P:AK} {T:Fa} {h0 N:Nat} {all:Array AM} {l l':AA AM} {env env':Env} {H H':Qd} {Q:Qz}
theorem jn(E:IV P T){o:AM}(h:fL T h0 N all o env H=AC (env',H'))(k:WO P h0 N all l env' H' Q):WO P h0 N all (o::l) env H Q:=by
 unfold fL at h;split at h
 .cases h
 .grind[Qy,WO.skip]
 .rename_i R;have j:=Qy R;split at h
  .rename_i f;split at h
   .rename_i t x y g;split at h
    .rename_i i m b n L O;split at h
     .rename_i S cs hH;rw[Mh]at hH;cases e:DJ env y with
      |mk a=>
       rw[e]at h;simp only[Mf,W3]at h;generalize hc:(Nat.ble h0 H.length&&(Yi a&&(Nat.beq (Yf a).length n&&((Yf a).all Yr&&Nat.ble (m+n) cs.length))))=c at h;cases c with
       |false=>cases h
       |true=>
        cases h;simp only[XW]at hc;obtain⟨c1,B,F,X,c5⟩:=hc;obtain⟨_,G⟩:=E.ty.agg _ (Mk O);exact j6 (by simp_all) j f (Io.store g (QX L) hH G (QX e) B rfl (by simp_all) X c5 rfl) k
     .cases h
    .cases h
   .cases h
  .rename_i d f;cases q:Nat.blt d N with
   |false=>grind
   |true=>
    rw[q]at h;simp only[Vp]at h;split at h
    .rename_i t g;split at h
     .rename_i v Y;cases c:Nat.ble h0 H.length with
      |false=>grind
      |true=>
       rw[c]at h;simp only[Mf,W3,fp,Vp,Xw]at h;cases h;obtain⟨⟨z,M,z2⟩,V,W⟩:=E.al _ (Mk Y);exact W_ (by simp_all) j f q (da M z2 g V rfl W) k
     .cases h
    .rename_i t x g;cases e:DJ env x with
     |mk a=>
      rw[e]at h;simp only[Mf,W3,fp,Xw]at h;generalize hc:(Nat.ble h0 H.length&&(Yi a&&(Yf a).all Yr))=c at h;cases c with
      |false=>cases h
      |true=>
       cases h;simp only[XW]at hc;obtain⟨c1,B,F⟩:=hc;exact W_ (by simp_all) j f q (D3.box g (QX e) B rfl F) k
    .split at h
     .rename_i a J;cases h;exact Yn j f q (Ml E J) k
     .cases h
theorem AU(hT:IV P T):∀(n:Nat) {l l':AA AM} {env env':Env} {H H':Qd},My T h0 N all n l env H=AC (l',env',H')->WO P h0 N all l' env' H' Q->WO P h0 N all l env H Q
 |0,l,l',env,env',H,H',h,k=>by cases h;exact k
 |n+1,[],l',env,env',H,H',h,k=>by cases h
 |n+1,o::l,l',env,env',H,H',h,k=>by
  unfold My at h;split at h
  .rename_i e1 H1 hs;exact jn hT hs (AU hT n h k)
  .cases h
end
theorem FA{T f off n:Nat}{fs:Array Field}{d:Field}(k:∀w,(underlying T).run P w=.ok (.struct fs) w)(j:fs[f]?=AC d)(g:∀w,(sizeOf d.type).run P w=.ok n w)(h:d.offset=off:=by rfl)(h5:n≠0:=by decide):Qw P T f off n:=⟨_,_,k,j,h,g,h5⟩
theorem tS:∀(π:AA Nat) (H:Qd) (xs:AA CW),π.map (λp=>H[p]?)=xs.map AC->Q8 H π xs=H
 |[],H,xs,h=>by
  simp_all[Q8]
 |p::π,H,[],h=>by simp at h
 |p::π,H,x::xs,h=>by
  simp only[Vk,List.cons.injEq]at h;have e:H.set p x=H:=by
   apply List.ext_getElem?
   grind
  unfold Q8;rw[e];exact tS π H xs h.2
def P4:A->AB Bx
 |.bool b=>AC (.mk (.bool b))
 |.int k n=>AC (.mk (.int k n))
 |.str s=>AC (.mk (.str s))
 |.rsl k es=>AC (.mk (.rsl k es))
 |_=>AF
theorem D?{v d:A}(h:P4 v=AC (.mk d))(ρ:Nat->Nat):YY ρ v=d:=by
 cases v<;>first|(cases h;rfl)|cases h
theorem Pc{all:Array AM}{o:AM}{env:Env}{H:Qd}{Q:Qz}{d:Nat}{f:FuncId}{args g:AA A}{v j:A}(π:AA Nat)(n:o.dst=AC d)(h:C6 P o env H f args)(m:C P f g Hc (λa H1=>a=v/\H1=Hc))(q:P4 v=AC (.mk j))
  (k:WO P h0 N all l (up env d j) H Q)
  (hargs:args=JB (Ci π H.length) g:=by rfl)(hH:π.map (λp=>H[p]?)=(Hc.map (QW (Ci π H.length))).map some:=by rfl)(hπ:π.Nodup:=by decide)
  (hg:QA all o env true:=by rfl)(hN:Nat.blt d N=true:=by rfl)(hh:Nat.ble h0 H.length=true:=by rfl):WO P h0 N all (o::l) env H Q:=by
 refine Qh π h m ?_ hargs hH hπ hg n hN hh
 simp_all[D?,tS]
theorem QT{i k:Nat}{es:AA (AA A)}:∀H:Qd,Dh i k es H H
 |[]=>.nil
 |_::r=>.keep (QT r)
def Pv:Nat->FN
 |0=>.mk 0
 |1=>.mk 1
 |2=>.mk 2
 |3=>.mk 3
 |4=>.mk 4
 |5=>.mk 5
 |6=>.mk 6
 |7=>.mk 7
 |8=>.mk 8
 |9=>.mk 9
 |10=>.mk 10
 |11=>.mk 11
 |12=>.mk 12
 |13=>.mk 13
 |14=>.mk 14
 |15=>.mk 15
 |16=>.mk 16
 |17=>.mk 17
 |18=>.mk 18
 |19=>.mk 19
 |20=>.mk 20
 |21=>.mk 21
 |22=>.mk 22
 |23=>.mk 23
 |24=>.mk 24
 |25=>.mk 25
 |26=>.mk 26
 |27=>.mk 27
 |28=>.mk 28
 |29=>.mk 29
 |30=>.mk 30
 |31=>.mk 31
 |32=>.mk 32
 |33=>.mk 33
 |34=>.mk 34
 |35=>.mk 35
 |36=>.mk 36
 |37=>.mk 37
 |38=>.mk 38
 |39=>.mk 39
 |40=>.mk 40
 |41=>.mk 41
 |42=>.mk 42
 |43=>.mk 43
 |44=>.mk 44
 |45=>.mk 45
 |46=>.mk 46
 |47=>.mk 47
 |n=>.mk n
theorem f9(n:Nat):Pv n=.mk n:=by unfold Pv;split<;>rfl
mutual
def Ku:A->Bx
 |.agg cs=>match M_ cs with
  |.mk l=>.mk (.agg l)
 |.tup cs=>match M_ cs with
  |.mk l=>.mk (.tup l)
 |.fn f a c=>match M_ a,M_ c with
  |.mk l,.mk l'=>.mk (.fn f l l')
 |.iface t v=>match Ku v with
  |.mk v'=>.mk (.iface t v')
 |.ptr i off=>match Pv i with
  |.mk i'=>.mk (.ptr i' off)
 |.osl i o n k=>match Pv i with
  |.mk i'=>.mk (.osl i' o n k)
 |.map i=>match Pv i with
  |.mk i'=>.mk (.map i')
 |a=>.mk a
def M_:AA A->FL
 |[]=>.mk []
 |a::r=>match Ku a,M_ r with
  |.mk a',.mk r'=>.mk (a'::r')
end
mutual
theorem f8:∀a:A,Ku a=.mk a
 |.agg cs=>by unfold Ku;rw[SU cs]
 |.tup cs=>by unfold Ku;rw[SU cs]
 |.fn f a c=>by unfold Ku;rw[SU a,SU c]
 |.iface t v=>by unfold Ku;rw[f8 v]
 |.ptr i off=>by unfold Ku;rw[f9]
 |.osl i o n k=>by unfold Ku;rw[f9]
 |.map i=>by unfold Ku;rw[f9]
 |.any|.bool _|.int _ _|.str _|.nilp|.rp _|.nils|.rsl _ _|.nilf|.nilif|.nilm=>by rfl
theorem SU:∀l:AA A,M_ l=.mk l
 |[]=>by rfl
 |a::r=>by unfold M_;rw[f8 a,SU r]
end
inductive FE2 where
 |mk (l:List (List A))
def fT:AA (AA A)->FE2
 |[]=>.mk []
 |a::r=>match M_ a,fT r with
  |.mk a',.mk r'=>.mk (a'::r')
theorem oR:∀l,fT l=.mk l
 |[]=>rfl
 |a::r=>by unfold fT;rw[SU,oR r]
def aY:AA CW->FB
 |[]=>.mk []
 |b::r=>match aY r with
  |.mk r'=>match b with
   |.cells t cs=>match M_ cs with
    |.mk l=>.mk (.cells t l::r')
   |.rowr t k es=>match fT es with
    |.mk l=>.mk (.rowr t k l::r')
   |.dead=>.mk (.dead::r')
   |.row t k es=>.mk (.row t k es::r')
   |.map es=>.mk (.map es::r')
   |.iter c es=>.mk (.iter c es::r')
   |.fmap es=>.mk (.fmap es::r')
   |.mapO fz t k es=>.mk (.mapO fz t k es::r')
   |.mapP es=>.mk (.mapP es::r')
   |.frow t k es=>.mk (.frow t k es::r')
   |.wins t a n c=>match Pv a with
    |.mk a'=>.mk (.wins t a' n c::r')
   |.ents t a b es=>match Pv a,Pv b with
    |.mk a',.mk b'=>.mk (.ents t a' b' es::r')
theorem jx:∀l,aY l=.mk l
 |[]=>rfl
 |b::r=>by
  unfold aY;rw[jx r];cases b<;>simp only[SU,oR,f9]
def fR(env:Env)(H:Qd):AB (Env×Qd):=
 match aY H with
 |.mk H'=>match env with
  |[]=>AC ([],H')
  |(d,a)::e=>match Ku a with
   |.mk a'=>AC ((d,a')::e,H')
theorem zY(env:Env)(H:Qd):fR env H=AC (env,H):=by
 unfold fR;rw[jx];cases env with
 |nil=>rfl
 |cons p e=>obtain⟨d,a⟩:=p;simp only[f8]
theorem FE{all:Array AM}{env:Env}{H:Qd}{Q:Qz}(h:fR env H=AC (env',H'))(k:WO P h0 N all l env' H' Q):WO P h0 N all l env H Q:=by
 rw[zY]at h
 grind
theorem R1{fn:Func}{env:Env}{H:Qd}{v:A}(s:Nat)(hr:fn.results= #[.tmp s])(hle:Le h0 env H [(s,v)] Hc):Ja P h0 fn (λa H=>a=v/\H=Hc) .ret env H:=
 ⟨[(s,v)],Hc,v,hle,Hg.one hr (by simp_all[lk]),rfl,rfl⟩
theorem R2{fn:Func}{env:Env}{H:Qd}{v v':A}(s t:Nat)(hr:fn.results= #[.tmp s,.tmp t])(hn:Nat.beq t s=AD)(hle:Le h0 env H [(s,v),(t,v')] Hc):Ja P h0 fn (λa H=>a=.tup [v,v']/\H=Hc) .ret env H:=
 ⟨[(s,v),(t,v')],Hc,_,hle,Qmv hr (by simp_all[lk]) (by simp_all[lk]),rfl,rfl⟩
theorem DM.o{i n:Nat}{es:AA (AA A)}(d:n=es.length:=by first|exact(X2 ..).symm|exact rfl):DM i k es (.osl i 0 n k) (.rsl k es):=DM.own d
theorem Le.env{f:Nat}{env env':Env}{H:Qd}(h:∀s,lk env' s=.any\/lk env' s=lk env s):Le f env H env' H:=by
 intro g d σ N a w r;refine⟨d,σ,⟨r.sim,λs=>?_,r.size,r.defers⟩,λ_ q=>q,rfl⟩;rcases h s with h|h
 .rw[h];trivial
 .rw[h];exact r.env s
def cQ(env:Env):Env->Prop
 |[]=>True
 |(s,a)::r=>lk env s=a/\cQ env r
theorem cQ.ok{env:Env}:∀{env':Env},cQ env env'->∀s,lk env' s=.any\/lk env' s=lk env s
 |[],_,s=>.inl rfl
 |(d,a)::e,⟨h1,h2⟩,s=>by
  by_cases q:s=d
  .simp_all[lk]
  .have:Nat.beq s d=false:=by
    simp_all[VM]
   simp only[lk,this,Vq];exact cQ.ok h2 s
theorem Lw{env:Env}{H:Qd}(h:cQ env env'):Le h0 env H env' H:=Le.env h.ok
def ixO(d:Nat)(op:Op)(t:Nat)(pos:String)(af:Array Edge):AM:={dst:=AC d,op:=op,type:=t,pos:=pos,after:=af,guard:=AF}
inductive Kf where
 |seq (c:Code)
 |blo (id:Nat)
 |unr (c:Code)
inductive Cf where
 |code (c:Code)
 |ops (all:Array AM) (l:List AM)
 |out (x:K7)
def kq(P:AK)(h0 N:Nat):AA Kf->Qz->Qz
 |[],Q=>Q
 |.seq c::k,Q=>cO P h0 N c (kq P h0 N k Q)
 |.blo id::k,Q=>Pa id (kq P h0 N k Q)
 |.unr c::k,Q=>SL P h0 N c (kq P h0 N k Q)
@[reducible] def Hd(P:AK)(h0 N:Nat):Cf->AA Kf->Env->Qd->Qz->Prop
 |.code c,k,env,H,Q=>TC P h0 N c env H (kq P h0 N k Q)
 |.ops all l,k,env,H,Q=>WO P h0 N all l env H (kq P h0 N k Q)
 |.out x,k,env,H,Q=>kq P h0 N k Q x env H
def W0(T:Fa)(h0 N:Nat):Cf->AA Kf->Env->Qd->AB (Cf×AA Kf×Env×Qd)
 |.code (.seq a b),k,env,H=>AC (.code a,.seq b::k,env,H)
 |.code (.block id c),k,env,H=>AC (.code c,.blo id::k,env,H)
 |.code (.loop c),k,env,H=>AC (.code c,.unr c::k,env,H)
 |.code .skip,k,env,H=>AC (.out .normal,k,env,H)
 |.code .ret,k,env,H=>AC (.out .ret,k,env,H)
 |.code (.exit id),k,env,H=>AC (.out (.exit id),k,env,H)
 |.code (.region id ⟨l⟩ AD),k,env,H=>AC (.ops ⟨l⟩ l,k,env,H)
 |.code (.cond x a b),k,env,H=>match DJ env x with
  |.mk (.bool AE)=>AC (.code a,k,env,H)
  |.mk (.bool AD)=>AC (.code b,k,env,H)
  |_=>AF
 |.ops all [],k,env,H=>AC (.out .normal,k,env,H)
 |.ops all (o::l),k,env,H=>match fL T h0 N all o env H with
  |some (env',H')=>AC (.ops all l,k,env',H')
  |none=>AF
 |.out .normal,.seq c::k,env,H=>AC (.code c,k,env,H)
 |.out (.exit i),.seq _::k,env,H=>AC (.out (.exit i),k,env,H)
 |.out .ret,.seq _::k,env,H=>AC (.out .ret,k,env,H)
 |.out .normal,.blo _::k,env,H=>AC (.out .normal,k,env,H)
 |.out (.exit i),.blo id::k,env,H=>match Nat.beq i id with
  |true=>AC (.out .normal,k,env,H)
  |false=>AC (.out (.exit i),k,env,H)
 |.out .ret,.blo _::k,env,H=>AC (.out .ret,k,env,H)
 |.out .normal,.unr c::k,env,H=>AC (.code c,.unr c::k,env,H)
 |.out (.exit i),.unr _::k,env,H=>AC (.out (.exit i),k,env,H)
 |.out .ret,.unr _::k,env,H=>AC (.out .ret,k,env,H)
 |_,_,_,_=>AF
def J3(T:Fa)(h0 N:Nat):Nat->Cf->AA Kf->Env->Qd->AB (Cf×AA Kf×Env×Qd)
 |0,c,k,env,H=>AC (c,k,env,H)
 |n+1,c,k,env,H=>match W0 T h0 N c k env H with
  |some (c',k',env',H')=>J3 T h0 N n c' k' env' H'
  |none=>AF
section
variable {P:AK} {T:Fa} {h0 N:Nat} {Q:Qz}
theorem Qnm(j:IV P T){c d:Cf}{k f:AA Kf}{env:Env}{H:Qd}(h:W0 T h0 N c k env H=AC (d,f,env',H'))(g:Hd P h0 N d f env' H' Q):Hd P h0 N c k env H Q:=by
 unfold W0 at h;split at h
 .cases h;exact TC.seq g
 .cases h;exact TC.block g
 .cases h;exact Qmt g
 .cases h;exact TC.skip g
 .cases h;exact TC.ret g
 .cases h;exact TC.exit g
 .cases h;exact TC.region g
 .split at h
  .rename_i q;cases h;exact QoI (QX q) rfl g
  .rename_i q;cases h;exact QoJ (QX q) rfl g
  .cases h
 .cases h;exact WO.nil g
 .grind[jn]
 .cases h;exact Zl g
 .cases h;exact Zj g
 .cases h;exact Zk g
 .cases h;exact cG g
 .split at h
  .rename_i q;cases h;have:=XQ q;subst this;exact cH g
  .rename_i q;cases h;exact cC q g
 .cases h;exact cF g
 .cases h;exact iP g
 .cases h;exact iN g
 .cases h;exact iO g
 .cases h
theorem dM(hT:IV P T):∀(n:Nat) {c c':Cf} {k k':AA Kf} {env env':Env} {H H':Qd},J3 T h0 N n c k env H=AC (c',k',env',H')->Hd P h0 N c' k' env' H' Q->Hd P h0 N c k env H Q
 |0,c,c',k,k',env,env',H,H',h,g=>by cases h;exact g
 |n+1,c,c',k,k',env,env',H,H',h,g=>by
  unfold J3 at h;split at h
  .rename_i e;exact Qnm hT e (dM hT n h g)
  .cases h
theorem o9{env:Env}{a:A}(h:lk env s=a):∀t,lk (up env s a) t=lk env t:=by
 intro t;simp[lk];cases q:Nat.beq t s with
 |true=>simp_all
 |false=>rfl
theorem Is{α:Type}{all:Array AM}{env:Env}{H:Qd}{b:Bool}{x y:AB α}{r:α}(s:Nat)(h:(bif b then x else y)=AC r)(f:Rj env s=.mk (.bool b))
  (t:b=AE->x=AC r->WO P h0 N all l (up env s (.bool AE)) H Q)(e:b=AD->y=AC r->WO P h0 N all l (up env s (.bool AD)) H Q):WO P h0 N all l env H Q:=by
 have d:=jy f;cases b with
 |true=>exact WO.le (Le.env λt=>.inr (o9 d t)) (t rfl h)
 |false=>exact WO.le (Le.env λt=>.inr (o9 d t)) (e rfl h)
end
def jW(o:AM)(i:Nat):Nat:=match o.dst with|some d=>d|none=>1000000+i
def Ij:Nat->Nat->AA AM->AA Nat
 |0,_,_=>[]
 |_+1,_,[]=>[]
 |m+1,i,o::l=>jW o i::Ij m (i+1) l
def Q3(af:AA Nat):Nat->AA Nat->AA A->Env->Env
 |j,d::ds,x::xs,e=>(d,bif Fb af j then x else .any)::Q3 af (j+1) ds xs e
 |j,d::ds,[],e=>(d,.any)::Q3 af (j+1) ds [] e
 |_,[],_,e=>e
theorem ta{l:AA Nat}:Fb l t=l.contains t:=by
 induction l with
 |nil=>rfl
 |cons a r d=>
  grind[Fb,Nat.eq_of_beq_eq_true,Nat.beq_refl]
theorem kW:∀(f:AA Nat) (xs k:AA A) (b:Nat),
  (∃(j:Nat) (x:A),af.contains (b+j)=AE/\f[j]?=AC s/\(xs++k)[j]?=AC x/\lk (Q3 af b f xs env0) s=x)\/lk (Q3 af b f xs env0) s=.any\/(f.contains s=AD/\lk (Q3 af b f xs env0) s=lk env0 s):=by
 intro f
 induction f with
 |nil=>intro xs k b;right;right;exact⟨rfl,by rfl⟩
 |cons d f F=>
  intro xs k b;have next:∀(g:AA A),(∃(j:Nat) (x:A),af.contains (b+1+j)=AE/\f[j]?=AC s/\(g++k)[j]?=AC x/\lk (Q3 af (b+1) f g env0) s=x)->∀E,(∃(j:Nat) (x:A),af.contains (b+j)=AE/\(d::f)[j]?=AC s/\(E::g++k)[j]?=AC x/\lk (Q3 af (b+1) f g env0) s=x):=by
   rintro g ⟨j,x,t,m,B,y⟩ E;exact⟨j+1,x,by grind,by grind,by grind,y⟩
  cases xs with
  |nil=>
   cases q:Nat.beq s d with
   |true=>simp_all[Q3,lk]
   |false=>
    have n:s≠d:=λz=>by simp_all
    simp only[Q3,lk,q,Vq];rcases F [] [] (b+1)with⟨j,x,t,m,B,y⟩|h|⟨t,m⟩
    .simp at B
    .grind
    grind
  |cons x xs=>
   cases q:Nat.beq s d with
   |true=>
    have:=XQ q;subst this;simp only[Q3,lk,q,Vp];cases c:Fb af b with
    |true=>left;exact⟨0,x,by rw[<- ta];exact c,rfl,rfl,rfl⟩
    |false=>simp
   |false=>
    have n:s≠d:=λz=>by simp_all
    simp only[Q3,lk,q,Vq];rcases F xs k (b+1)with h|h|⟨t,m⟩
    .exact .inl (next xs h x)
    .grind
    grind
variable {r:AA AM}
section
variable {P:AK} {T:Fa} {h0 N m:Nat} {l:AA AM} {ds:AA Nat} {env:Env} {H:Qd} {Q:Qz} {K:AA AM->Env->Qd->Prop}
def DS(P:AK)(N m:Nat)(l:AA AM)(ds:AA Nat)(env:Env)(H:Qd)(K:AA AM->Env->Qd->Prop)(r:AA AM)(xs:AA A):Prop:=
 r=l.drop xs.length->∃ys,xs.length+ys.length=m/\(∀j,xs.length<=j->j<m->Jk P N l ds (xs++ys) env H.length H.length j H H)/\K (l.drop m) (IU ds (xs++ys) env) H
theorem Z0{xs:AA A}:∀(c i:Nat),(∀j,i<=j->j<i+c->Jk P N l ds xs env H.length H.length j H H)->Oq P N l ds xs env H i c
 |0,i,_=>.n
 |c+1,i,h=>.c (by grind) (Z0 c (i+1) (by grind))
theorem Qo1{k:AA Kf}(m:Nat)(j:P.follows .mixedOrders=AE)(g:Go.Sw.draw0 l m N (Ij m 0 l)=AE)(d:Nat.ble h0 H.length=AE)
  (h:DS P N m l (Ij m 0 l) env H (λr e H=>WO P h0 N l.toArray r e H Q) l []):TC P h0 N (.region id l.toArray AE) env H Q:=by
 obtain⟨n,t,q,f⟩:=h rfl;exact TC.draw0 m _ n j g (by simp_all) d (Z0 m 0 (by grind)) f
theorem DS.done(d:Nat.beq xs.length m=AE)(h:K r (IU ds xs env) H):DS P N m l ds env H K r xs:=by
 intro k;have e:=XQ d;refine⟨[],by simpa using e,λj g f=>by omega,?_⟩
 grind
theorem DS.add{o:AM}{x:A}(n:Nat.blt xs.length m=AE)(g:∀ys,l[xs.length]?=AC o->Jk P N l ds (xs++x::ys) env H.length H.length xs.length H H)(k:DS P N m l ds env H K r (xs++[x])):DS P N m l ds env H K (o::r) xs:=by
 intro f;have d:xs.length<l.length:=by
  grind[List.drop_eq_nil_of_le]
 rw[Xp d]at f;cases f;obtain⟨ys,q,j,h⟩:=k (by simp)
 grind
theorem kl{x:A}:(xs++x::d)[xs.length]?=AC x:=by simp
theorem DS.wo{o:AM}{x:A}{d:Nat}(h:WO P H.length N l.toArray [o] (Q3 (Qj o) 0 ds xs env) H (YW (up (Q3 (Qj o) 0 ds xs env) d x) H))(k:DS P N m l ds env H K r (xs++[x]))
  (g:o.dst=AC d:=by rfl)(hx:Nat.blt xs.length m=true:=by rfl):DS P N m l ds env H K (o::r) xs:=
 .add hx (λn f=>.woE o _ d x f g kl (he:=by
  intro s;rcases kW (af:=Qj o) (env0:=env) (s:=s) ds xs (x::n) 0 with⟨j,y,t,z,E,B⟩|q|q
  .grind
  .grind
  grind) (hdd:=sh H) (h:=h)) k
theorem DS.v{o:AM}{x:A}{d:Nat}(h:CU P o (Q3 (Qj o) 0 ds xs env) H x)(k:DS P N m l ds env H K r (xs++[x]))(hg:QA l.toArray o (Q3 (Qj o) 0 ds xs env) true:=by rfl)
  (hd:o.dst=AC d:=by rfl)(hN:Nat.blt d N=true:=by rfl)(hx:Nat.blt xs.length m=true:=by rfl):DS P N m l ds env H K (o::r) xs:=
 .wo (Yn hg hd hN h (WO.nil YW.mk)) k hd hx
def J0:AA A->A->FL
 |[],x=>.mk [x]
 |a::r,x=>match J0 r x with
  |.mk r'=>.mk (a::r')
theorem Jm:∀(l:AA A) (x:A),J0 l x=.mk (l++[x])
 |[],x=>rfl
 |a::r,x=>by unfold J0;rw[Jm r];rfl
def cX(T:Fa)(N m:Nat)(l:AA AM)(ds:AA Nat)(env:Env)(H:Qd):Nat->Nat->AA AM->AA A->AB (AA AM×AA A)
 |0,_,r,xs=>AC (r,xs)
 |_+1,_,[],_=>AF
 |n+1,i,o::r,xs=>match Nat.blt i m with
  |false=>AF
  |true=>match o.dst with
   |none=>AF
   |some d=>match Nat.blt d N with
    |false=>AF
    |true=>match Yc ⟨l⟩ o (Q3 (Qj o) 0 ds xs env)with
     |none=>AF
     |some AD=>match J0 xs (.tup [])with
      |.mk xs'=>cX T N m l ds env H n (i+1) r xs'
     |some AE=>match Hv T o (Q3 (Qj o) 0 ds xs env) H with
      |none=>AF
      |some x=>match J0 xs x with
       |.mk xs'=>cX T N m l ds env H n (i+1) r xs'
theorem lO(hT:IV P T):∀(n i:Nat) {r r':AA AM} {xs xs':AA A},i=xs.length->cX T N m l ds env H n i r xs=AC (r',xs')->DS P N m l ds env H K r' xs'->DS P N m l ds env H K r xs
 |0,i,r,r',xs,xs',_,h,k=>by cases h;exact k
 |n+1,i,[],r',xs,xs',_,h,k=>by cases h
 |n+1,i,o::r,r',xs,xs',hi,h,k=>by
  subst hi;unfold cX at h;split at h
  .cases h
  .rename_i q1;split at h
   .cases h
   .rename_i d hd;split at h
    .cases h
    .rename_i q2;split at h
     .cases h
     .rename_i hw;simp[Jm]at h;exact .wo (WO.skip (Qy hw) hd q2 (WO.nil YW.mk)) (lO hT n _ (by simp) h k) hd q1
     .rename_i hw;split at h
      .cases h
      .rename_i x hv;simp[Jm]at h;exact .v (Ml hT hv) (lO hT n _ (by simp) h k) (Qy hw) hd q2 q1
def NK:AA A->Nat->A->FL
 |[],_,_=>.mk []
 |_::r,0,x=>.mk (x::r)
 |a::r,n+1,x=>match NK r n x with
  |.mk r'=>.mk (a::r')
theorem dP:∀{l:AA A} {n:Nat} {x:A},YH l n=AC x->NK l n x=.mk l
 |[],n,x,h=>by cases h
 |a::r,0,x,h=>by cases h;rfl
 |a::r,n+1,x,h=>by unfold NK;rw[dP (l:=r) h]
theorem DS.is{α:Type}{b:Bool}{x y:AB α}{v:α}{f:AA A}(j:Nat)(h:(bif b then x else y)=AC v)(g:YH xs j=AC (.bool b))(n:NK xs j (.bool AE)=.mk d)(k:NK xs j (.bool AD)=.mk f)
  (t:b=AE->x=AC v->DS P N m l ds env H K r d)(e:b=AD->y=AC v->DS P N m l ds env H K r f):DS P N m l ds env H K r xs:=by
 cases b with
 |true=>simp_all[dP]
 |false=>simp_all[dP]
end
end Go.Sw
