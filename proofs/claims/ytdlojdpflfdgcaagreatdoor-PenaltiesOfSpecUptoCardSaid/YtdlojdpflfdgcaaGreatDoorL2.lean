/- The rules by which the code is walked, with what they rest on (part 2). -/
import Derived.Test.YtdlojdpflfdgcaaGreatDoorL1
import Derived.Below
import GoSem.ClaimChange
import Derived.Shelf.Strings.Search3
import Derived.Lib.LazyBuf
import Derived.Shelf.Sort.Plain
import Derived.Shelf.Slices.In.SortNone
import Derived.Shelf.Slices.CompactI
import Derived.RangeFuncIn
import Derived.RangeFuncSeq
import Derived.RangeFuncNested
import Derived.Lib.Bytealg
import Derived.Laws.Externs
import Derived.LaidLaws
import Derived.Lib.LaidTab
import Derived.ChangeArms
import Derived.ChangeSame
set_option linter.unusedVariables false
set_option linter.unusedSectionVars false
set_option linter.unusedSimpArgs false
namespace Go.Sw
open Go.Sort Go.Proofs Go.Shelf
theorem sU{α:Type}{k:Nat}:∀(vs:AA (AA α)) (j:Nat),(∀v∈vs,v.length=k)->j<vs.length*k->vs.flatten[j]?=(vs[j/k]?).bind λv=>v[j%k]?
 |[],j,_,h=>by simp at h
 |v::vs,j,hk,h=>by
  have hv:=hk v (by simp);have k0:0<k:=by
   rcases Nat.eq_zero_or_pos k with q|q
   .subst q;simp at h
   .exact q
  rw[Vh];by_cases q:j<k
  .rw[XK (by omega),Nat.div_eq_of_lt q,Nat.mod_eq_of_lt q];simp
  .rw[XL (by omega),hv,sU vs (j-k) (λv hv=>hk v (by simp[hv])) (by simp[Xn]at h;omega)];have a:j/k=(j-k)/k+1:=by rw[Nat.div_eq_sub_div k0 (by omega)]
   have d:j%k=(j-k)%k:=Nat.mod_eq_sub_mod (by omega);rw[a,d,XE]
theorem W6{α:Type}{k:Nat}:∀(vs:AA (AA α)),(∀v∈vs,v.length=k)->vs.flatten.length=vs.length*k
 |[],_=>by simp
 |v::vs,h=>by rw[Vh,X0,W6 vs (λv hv=>h v (by simp[hv])),h v (by simp),XY,Xn];omega
theorem Wy{α:Type}(F:AA α)(j:Nat):F.toArray[j]?=F[j]? :=by simp
theorem kQ{α:Type}[Inhabited α](F:AA α)(j:Nat)(h:j<F.length):F[j]?=some (F.toArray[j]!):=by simp[h]
theorem pG{β:Type}[Inhabited β]{enc:β->AA Value}{k:Nat}(a:∀x,(enc x).length=k)(d:Array β):flatK enc k d=((d.toList.map enc).flatten).toArray:=by
 have f:∀v∈d.toList.map enc,v.length=k:=by
  intro v i;obtain⟨x,_,rfl⟩:=Xf.1 i;exact a x
 apply Array.ext_getElem?;intro t;rw[Wy ((d.toList.map enc).flatten) t];by_cases h:t<d.size*k
 .rw[sU _ t f (by simpa using h)];have j:0<k:=by
   rcases Nat.eq_zero_or_pos k with q|q
   .subst q;simp at h
   .exact q
  have h1:=Nat.div_lt_of_lt_mul (by rw[Nat.mul_comm];exact h);have l:t%k<k:=Nat.mod_lt _ j;have g:t<(flatK enc k d).size:=by simpa using h
  have e:=get_flatK enc k d t h;rw[getElem!_pos (flatK enc k d) t g]at e;rw[Array.getElem?_eq_getElem g,e];simp[h1];rw[XI (by rw[a];exact l)];rfl
 .have e:(d.toList.map enc).flatten.length=d.size*k:=by rw[W6 _ f];simp
  rw[Array.getElem?_eq_none (by simpa using h),XM (by omega)]
section
variable {ro:Nat->Prop} {U:AZ} {w:World} {T:Type} {enc:T->AA A} {k:Nat}
theorem RL.parts:∀{l:AA T} {lv:AA Value},RL ro U w k (l.map enc) lv->
  ∃(ps:AA (T×AA Value)) (rest:AA Value),ps.map (·.1)=l/\lv=(ps.map (·.2)).flatten++rest/\ ∀p∈ps,p.2.length=k/\LR ro U w (enc p.1) p.2/\ ∀v∈p.2,Qz v
 |[],lv,_=>⟨[],lv,rfl,rfl,by simp⟩
 |x::l,lv,h=>by
  obtain⟨l1,l2,rfl,h1,⟨h2,h3⟩,h4⟩:=h;obtain⟨ps,rest,e1,rfl,h5⟩:=RL.parts h4;refine⟨(x,l1)::ps,rest,by simp[e1],by simp,?_⟩;intro p hp;rcases X3.1 hp with rfl|hp
  .exact⟨by rw[h2.length];exact h1,h2,h3⟩
  .exact h5 p hp
theorem lV(hk:∀x,(enc x).length=k):∀{ps:AA (T×AA Value)} {rest:AA Value},(∀p∈ps,LR ro U w (enc p.1) p.2/\ ∀v∈p.2,Qz v)->RL ro U w k ((ps.map (·.1)).map enc) ((ps.map (·.2)).flatten++rest)
 |[],_,_=>trivial
 |p::ps,rest,h=>by
  refine⟨p.2,(ps.map (·.2)).flatten++rest,by simp,hk _,h p (by simp),lV hk λq hq=>h q (by simp[hq])⟩
end
structure Elt (ro:Nat->Prop) (w:World) {T:Type} (enc:T->List A) (k:Nat) (l:List T) where
 x:T
 vs:List Value
 mem:x∈l
 len:vs.length=k
 rel:LR ro [] w (enc x) vs
 plain:∀v∈vs,Qz v
theorem qb{v:Value}(h:Qz v):v.oneCell'=true:=by cases v<;>first|rfl|exact h.elim
theorem uC{P:Program}{ρ:Ren}(L:SlLaysF0.n6 P ρ){T:Type}[DecidableEq T]{enc:T->AA A}{k t g:Nat}{cap:AA A}{l l':AA T}{cf:T->T->AB Int}(hs:IE cf l=some l')
  (a0:∀x y c,cf x y=some c->C P g ([.agg (enc x),.agg (enc y)]++cap) [] (λa H=>a=.int .i64 c/\H=[]))
  (aE:∀w,(isAgg (ρ.t 24)).run P w=.ok true w)(zE:∀w,(Go.sizeOf (ρ.t 24)).run P w=.ok k w)(eg:∀args w,(callFunc g args).run P w=.ok (.enter g args) w)
  (hk:∀x,(enc x).length=k)(hd:YB cap=true):
  C P (ρ.f 6) [.osl 0 0 l.length k,.fn (.func g) [] cap] [.row t k (l.map enc)] (λa H=>a=.tup []/\H=[.row t k (l'.map enc)]):=by
 intro fr G U vals w s hv;obtain⟨vs,r1,rfl,bo,vf,r2,rfl,bj,hr⟩:=hv;cases(show r2=[]from hr);obtain⟨lf,lc,rfl,h1,az⟩:=bj;cases(show lf=[]from h1);have ao:LR G [] w cap lc:=LR.data hd az;obtain⟨ba,al,Q,an,a9⟩:=bZ hs;have E:∀(ad:AB Addr) (c:Nat),vs=.slice ad 0 c->l=[]->
   Calls P (ρ.f 6) [vs,.func (.func g) #[] lc.toArray].toArray w λe w'=>∃v r H' ae τ,e=.returned v/\(r=.tup []/\H'=[.row t k (l'.map enc)])/\AU fr ae (U++τ) H' w'/\VR ae (U++τ) w' r v/\Qm fr G w ae w':=by
  rintro ad c rfl rfl;have ac:l'=[]:=by rw[<- a9];rfl
  subst ac;refine(AnyF.slices_SortFunc_none L ad c (.func (.func g) #[] lc.toArray) w).mono ?_;rintro e w' ⟨rfl,rfl⟩;exact⟨_,_,_,G,[],rfl,⟨rfl,rfl⟩,by simpa using s,⟨[],rfl,rfl⟩,Qm.refl _ _ _⟩
 rcases bo with⟨h0,rfl⟩|⟨b,p,cp,t',m,q1,rfl,q2,⟨q3,br⟩,q4,q5⟩
 .exact E none 0 rfl (VF.1 h0)
 .by_cases ac:l=[]
  .subst ac;exact E _ cp rfl rfl
  .have be:0<l.length:=List.length_pos_iff.2 ac;obtain rfl:=q2 (Vb be q3);obtain⟨lv,e1,e2⟩:=s.blk 0 _ _ q1 rfl;obtain⟨hb,am,a2⟩:=s.own 0 b _ q1 rfl rfl;obtain⟨V,J,bb,rfl,ag⟩:=RL.parts e2
   let α:=Elt G w enc k l
   have a6:∀p∈V,p.1∈l:=λp hp=>by rw[<- bb];exact VC hp
   let ds:AA α:=V.attach.map λp=>⟨p.1.1,p.1.2,a6 _ p.2,(ag _ p.2).1,(ag _ p.2).2.1,(ag _ p.2).2.2⟩
   have bc:∀{γ:Type} (f:T×AA Value->γ),V.attach.map (λp=>f p.1)=V.map f:=λf=>by simp
   have M:ds.map (·.x)=l:=by
    show(V.attach.map _).map _=_;rw[List.map_map];exact(bc (·.1)).trans bb
   have ai:ds.map (·.vs)=V.map (·.2):=by
    show(V.attach.map _).map _=_;rw[List.map_map];exact bc (·.2)
   have ax:ds.length=l.length:=by rw[<- M];simp
   have a8:ds≠[]:=by intro q;rw[q]at ax;simp at ax;omega
   let inh:Inhabited α:=⟨ds.head a8⟩
   let enc':α->AA Value:=λa=>a.vs
   let cf':α->α->Int:=λx y=>(cf x.x y.x).getD 0
   have af:∀x y:α,ltOf cf' x y=C9 cf x.x y.x:=by
    intro x y;obtain⟨c,B⟩:=al x.x x.mem y.x y.mem;simp only[ltOf,C9,cf',B,Option.getD_some]
   have hO:SWO (ltOf cf'):=⟨λx=>by rw[af];exact Q.irrefl _ x.mem,λx y z a b=>by rw[af]at*;exact Q.trans _ x.mem _ y.mem _ z.mem a b,
    λx y z a b=>by rw[af]at*;exact Q.ntrans _ x.mem _ y.mem _ z.mem a b⟩
   have X:∀x:α,(enc' x).length=k:=λx=>x.len;have aw:flatK enc' k ds.toArray=((V.map (·.2)).flatten).toArray:=by
    rw[pG X];show((ds.map λa=>a.vs).flatten).toArray=_;rw[ai]
   have bf:∀v∈V.map (·.2),v.length=k:=by
    intro v hv;obtain⟨p,hp,rfl⟩:=Xf.1 hv;exact(ag p hp).1
   have ab:(V.map (·.2)).flatten.length=ds.length*k:=by rw[W6 _ bf, <- ai];simp
   have hH:HoldsK enc' k w b (0*k) ds.toArray:=by
    intro j hj;rw[aw]at hj⊢;simp only[List.size_toArray]at hj;constructor
    .unfold World.cell?;simp only[e1,Option.isSome_none,Xj,if_false,Nat.zero_mul,Xv];rw[Wy,XK hj];exact kQ _ _ hj
    .unfold World.frozen?;simp only[e1];simp
   have ar:∀(d:Array α),d.size=ds.toArray.size->(putRowK enc' k w b (0*k) d).heap=w.heap.setIfInBounds b (.cells (((d.toList.map enc').flatten++J)).toArray t (0,0)):=by
    intro d u;have ah:(d.toList.map enc').flatten.length=(V.map (·.2)).flatten.length:=by
     rw[W6 _ (k:=k) (by intro v hv;obtain⟨x,_,rfl⟩:=Xf.1 hv;exact X x),ab];simp at u⊢;rw[u]
    unfold putRowK putRow mapBlock;show w.heap.modify b _=_;rw[Ww e1];simp only[onCells];congr 2;rw[pG X];unfold putCells;apply Array.ext_getElem?;intro i;simp only[Array.getElem?_mapIdx,Wy,Nat.zero_mul,XS,true_and,Xv,Nat.sub_zero,List.size_toArray,id_eq];by_cases hi:i<(d.toList.map enc').flatten.length
    .rw[XK hi,XK (by rw[<- ah];exact hi),XI (by rw[<- ah];exact hi),kQ _ _ hi];exact congrArg some (Vp hi)
    .rw[XL (by omega),XL (by omega),ah];cases(J[i-(V.map (·.2)).flatten.length]?)with
     |none=>rfl
     |some v=>
      rw[<- ah];exact congrArg some (Vn hi)
   have O:∀(m:Nat) (os:Array Obj) (d:Array α),d.size=ds.toArray.size->
     (∀c,c<w.heap.size->c≠b->(sortWorldK enc' k w b (0*k) m d os).heap[c]?=w.heap[c]?)/\(sortWorldK enc' k w b (0*k) m d os).heap[b]?=some (.cells (((d.toList.map enc').flatten++J)).toArray t (0,0))/\
     w.heap.size<=(sortWorldK enc' k w b (0*k) m d os).heap.size:=by
    intro m os d u;have e:(sortWorldK enc' k w b (0*k) m d os).heap=w.heap.setIfInBounds b (.cells (((d.toList.map enc').flatten++J)).toArray t (0,0))++os:=by
     rw[<- ar d u];rfl
    rw[e];refine⟨λc B bp=>?_,?_,by simp⟩
    .rw[Array.getElem?_append_left (by simpa using B),Va,Vn (λq=>bp q.symm)]
    .rw[Array.getElem?_append_left (by simpa using hb),Va,Vp rfl,Vp hb]
   have R:∀(m:Nat) (os:Array Obj) (d:Array α),d.size=ds.toArray.size->∀c y,w.shape? c=some y->(sortWorldK enc' k w b (0*k) m d os).shape? c=some y:=by
    intro m os d u c y hy;obtain⟨g1,g2,g3⟩:=O m os d u;by_cases B:c=b
    .subst B;unfold World.shape? at hy⊢;rw[e1]at hy;rw[g2];simp only[Option.some.injEq]at hy⊢;rw[<- hy];congr 1;simp only[List.size_toArray,X0];rw[W6 _ (k:=k) (by intro v hv;obtain⟨x,_,rfl⟩:=Xf.1 hv;exact X x),ab];simp at u⊢;rw[u]
    .unfold World.shape? at hy⊢;rw[g1 c (pi hy) B];exact hy
   have aj:∀(m:Nat) (os:Array Obj) (d:Array α),d.size=ds.toArray.size->∀τ,BI G τ w G τ (sortWorldK enc' k w b (0*k) m d os):=by
    intro m os d u τ;obtain⟨g1,g2,g3⟩:=O m os d u;exact⟨λ_ q=>q,λc B=>g1 c (s.roLt c B) (λq=>am (q▸B)),R m os d u,λ_ _ q=>q⟩
   have bl:CmpLays P g lc.toArray enc' k cf' b (0*k) ds.toArray.size w:=by
    intro m os dk a7 x y;obtain⟨c,B⟩:=al x.x x.mem y.x y.mem;have F:=aj m os dk a7 [];have bm:=a0 _ _ _ B;generalize hW:sortWorldK enc' k w b (0*k) m dk os=W at*;have bh:w.heap.size<=W.heap.size:=by rw[<- hW];exact(O m os dk a7).2.2
    have sW:AU (λc=>c<W.heap.size/\ ¬G c) G [] [] W:=
     ⟨rfl,s.roOk.to (λ_ q=>q) F.keep (λc B=>Vb (s.roLt c B) bh),λc B=>B.1,λc B hf=>hf.2 B,λi b x h=>by simp at h,λi j b x y h=>by simp at h,λi y x h=>by simp at h,λi b x c h=>by simp at h⟩
    have av:LR G [] W ([.agg (enc x.x),.agg (enc y.x)]++cap) ([.agg x.vs.toArray,.agg y.vs.toArray]++lc):=
     LR.append (show LR G [] W [A.agg (enc x.x),A.agg (enc y.x)] [Value.agg x.vs.toArray,Value.agg y.vs.toArray]from⟨_,_,rfl,⟨x.vs,rfl,x.rel.mono F⟩,_,_,rfl,⟨y.vs,rfl,y.rel.mono F⟩,rfl⟩) (ao.mono F)
    have N:=bm _ G [] _ W sW av;have bk:(([Value.agg x.vs.toArray,Value.agg y.vs.toArray]++lc).toArray:Array Value)= #[Value.agg (enc' x).toArray,Value.agg (enc' y).toArray]++lc.toArray:=by simp[enc']
    rw[bk]at N;refine N.mono ?_;rintro e w' ⟨v,r,H',ae,τ,rfl,⟨rfl,rfl⟩,s',bd,ev⟩;refine⟨?_,?_⟩
    .rw[show v=.int .i64 c from bd];simp only[cf',B,Option.getD_some]
    .refine oZ (λc B=>?_) ev.size ev.os ev.tape ev.output ev.drawn;by_cases a1:G c
     .exact ev.keepRo c a1
     .exact ev.keepFr c ⟨B,a1⟩
   have aa:ds.toArray.size=l.length:=by simpa using ax
   have ak:=AnyQ.slices_SortFunc L k aE zE enc' X (λx v hv=>qb (x.plain v hv)) cf' hO g lc.toArray b (0*k) cp ds.toArray w eg bl hH hb (by rw[aa];unfold QE at ba;omega);rw[aa]at ak;refine ak.mono ?_;rintro e w' ⟨rfl,d,n,os,Y,ay,rfl⟩;have u:d.size=ds.toArray.size:=Y.1;obtain⟨g1,g2,g3⟩:=O n os d u;have aq:d.toList.Perm ds:=by
    have h:=Y.2.2;have x1:d.extract 0 l.length=d:=by rw[<- aa, <- u];exact Array.extract_size
    have x2:ds.toArray.extract 0 l.length=ds.toArray:=by rw[<- aa];exact Array.extract_size
    rw[x1,x2]at h;simpa using h
   have a4:d.toList.map (·.x)=l':=by
    rw[<- a9];refine JN (lt:=C9 cf) ?_ ?_ ?_ (QV Q)
    .exact((aq.map (·.x)).trans (by rw[M])).trans (Qu _ _).symm
    .intro x hx y hy;have bi:x∈l:=by rw[<- M];exact(aq.map (·.x)).mem_iff.1 hx
     have bn:y∈l:=by rw[<- M];exact(aq.map (·.x)).mem_iff.1 hy
     exact an x bi y bn
    .rw[VA];intro i j hi hj bg;simp only[XZ]at hi hj;simp only[List.getElem_map];rw[<- af];have:=ay i j (XS _) bg (by rw[<- aa, <- u];simpa using hj);rw[getElem!_pos d j (by simpa using hj),getElem!_pos d i (by simpa using hi)]at this;simpa using this
   have bq:RL G [] (sortWorldK enc' k w b (0*k) n d os) k (l'.map enc) ((d.toList.map enc').flatten++J):=by
    have e3:d.toList.map enc'=(d.toList.map λa=>(a.x,a.vs)).map (·.2):=by simp[enc']
    have e4:l'=(d.toList.map λa=>(a.x,a.vs)).map (·.1):=by rw[<- a4];simp
    rw[e3,e4];refine lV hk ?_;intro p hp;obtain⟨a,_,rfl⟩:=Xf.1 hp;exact⟨a.rel.mono (aj n os d u []),a.plain⟩
   have a3:Qm fr G w G (sortWorldK enc' k w b (0*k) n d os):=
    ⟨λ_ q=>q,λc B=>g1 c (s.roLt c B) (λq=>am (q▸B)),λc B=>g1 c (s.frLt c B) (λq=>a2 (q▸B)),g3,R n os d u,rfl,rfl,rfl,Nat.le_add_right _ _⟩
   have au:U.length=1:=s.len;have a5:AU fr G U [.row t k (l'.map enc)] (sortWorldK enc' k w b (0*k) n d os):=by
    have i0:∀{i:Nat} {x:AR},([.row t k (l'.map enc)]:Qb)[i]?=some x->i=0/\x=.row t k (l'.map enc):=by
     intro i x h;cases i with
     |zero=>simp at h;exact⟨rfl,h.symm⟩
     |succ i=>simp at h
    refine⟨au,s.roOk.to (λ_ q=>q) a3.keepRo (λc B=>Vb (s.roLt c B) g3),λc B=>Vb (s.frLt c B) g3,s.roFr,λi c x h1 h2 h3=>?_,λi j c x y h1 h2 h3 h4 _ _=>?_,λi y x h1 h2=>?_,λi b x c h1 h2 h3=>by obtain⟨rfl,rfl⟩:=i0 h2;exact h3.elim⟩
    .obtain⟨rfl,rfl⟩:=i0 h2;obtain⟨p1,p2⟩:=s.own 0 c _ h1 rfl rfl;exact⟨Vb p1 g3,p2⟩
    .rw[(i0 h3).1,(i0 h4).1]
    .obtain⟨rfl,rfl⟩:=i0 h2;rw[q1]at h1;cases h1;exact⟨_,g2,bq⟩
   exact⟨_,_,_,G,[],rfl,⟨rfl,rfl⟩,by simpa using a5,⟨[],rfl,rfl⟩,a3⟩
end Go.Sw
namespace Go.Sw
variable {T k:Nat}
section
variable {P:Program} {o:Oper} {env:Env} {H:Qb} {fr ro:Nat->Prop} {U:AZ} {w:World}
theorem AU.addRo(s:AU fr ro U H w){b:Nat}(h:b<w.heap.size)(f:¬fr b)(j:∀(i:Nat) (x:AR),U[i]?=some (some b)->H[i]?=some x->x.live=true->False)
  (m:∀(i d:Nat) (x:AR),U[i]?=some (some d)->H[i]?=some x->Bw w x d b->False):AU fr (λc=>ro c\/c=b) U H w:=by
 refine⟨s.len,s.roOk.to (λ_ q=>.inl q) (λ_ _=>rfl) ?_,s.frLt,?_,?_,s.inj,?_,s.hidTo (· = ·) Yd (XR _) (by grind) (by simp) (by grind)⟩
 .rintro c (q|rfl)
  .exact s.roLt c q
  .exact h
 .rintro c (q|rfl)
  .exact s.roFr c q
  .exact f
 .intro i c x a e g;obtain⟨k,l,n⟩:=s.own i c x a e g
  grind
 .intro i y x a e;exact(s.blk i y x a e).keep ⟨λ_ q=>.inl q,λ_ _=>rfl,λ_ _ q=>q,λ_ _ q=>q⟩ (λ_ _ _=>rfl) (λ_ _ _ _=>rfl)
theorem Ym{e n:Nat}{xs:AA Operand}{es:AA (AA A)}(E:Q2 P T e k)(O:o.op=.buildSlice T n (LL 0 xs).toArray)(L:xs.length=n)(u:Nat.ble (n*k) 16777216=true)
  (Y:(xs.all λx=>Yr (AM env x))=true)(F:Yq env xs=es)(M:allK k es)(R:es.flatten.all YJ=true)(Q:YB es.flatten=true):
  CD P o env H (.rsl k es) H:=by
 intro V p U N a w r;subst F;obtain⟨l,W,J⟩:=lx r E L u Y M;have B:LR p [] w (Yq env xs).flatten l:=J.data Q;have f:∀b,b<w.heap.size->(w.alloc (.cells l.toArray e)).heap[b]?=w.heap[b]? :=λb X=>Yt _ _ b X;have s:w.heap.size<=(w.alloc (.cells l.toArray e)).heap.size:=by simp
 have s1:=r.sim.grown f s;have g:Qm V p w p (w.alloc (.cells l.toArray e)):=Qm.alloc _ r.sim.roLt r.sim.frLt;have s2:=s1.addRo (by simp) (λq=>Nat.lt_irrefl _ (r.sim.frLt _ q)) (λi x m t y=>Nat.lt_irrefl _ (r.sim.own i _ x m t y).1)
  (λi d x m t y=>Nat.lt_irrefl _ (r.sim.hid i d x _ m t (r.sim.hidKeep m t (λz=>f d (r.sim.own i d x m t z).1) (λb q=>f b (r.sim.roLt b q)) y)).lt)
 have G:RL p [] (w.alloc (.cells l.toArray e)) k (Yq env xs) l:=by
  have:=JS (rest:=[]) M (B.mono (g.ext0 [])) (J.plain R)
  grind
 have h:(Yq env xs).length=n:=by simp[Yq,L]
 refine⟨_,_,λc=>p c\/c=w.heap.size,[],lu O a.eval W,(⟨some ⟨w.heap.size,0,none⟩,n,by rw[h],by omega,.inr ⟨w.heap.size,0,rfl,.inr rfl,?_⟩⟩),by grind,g.trans (YZ λ_ q=>.inl q)⟩;have j:(w.alloc (.cells l.toArray e)).heap[w.heap.size]?=some (.cells ([]++l).toArray e (0,0)):=Ys _ _;have:=Jc j G;exact this.keep ⟨λ_ q=>.inl q,λ_ _=>rfl,λ_ _ q=>q,λ_ _ q=>q⟩ rfl
end
inductive H6:List A->List A->Prop
 |nil:H6 [] []
 |eq {a:A} {l m:List A} (h:H6 l m):H6 (a::l) (a::m)
 |nl {k:Nat} {l m:List A} (h:H6 l m):H6 (.nils::l) (.rsl k []::m)
theorem LR.nils{ro:Nat->Prop}{U:AZ}{w:World}{g i:AA A}(h:H6 g i):∀{l:AA Value},LR ro U w g l->LR ro U w i l:=by
 induction h with
 |nil=>simp
 |eq _ ih=>rintro l ⟨v,d,e,f,a⟩;exact⟨v,d,e,f,ih a⟩
 |nl _ ih=>rintro l ⟨v,d,e,f,a⟩;exact⟨v,d,e,⟨none,0,f,XR _,.inl rfl⟩,ih a⟩
theorem C.nils{P:Program}{f:FuncId}{l1 bs:AA A}{H:Qb}{Q:A->Qb->Prop}(hl:H6 l1 bs)(h:C P f bs H Q):C P f l1 H Q:=
 λfr ro U vals w s l=>h fr ro U vals w s (LR.nils hl l)
def Qp(k:IntKind)(n:Int):Prop:=k.min<=n/\n<=k.max
def Nf(w:World):Nat->Prop:=λb=>b<w.heap.size
structure V8 {H:Type} (μ:DataW H->Nat):Prop where
 str:∀bytes,bytes.length<=μ (.lit (.string bytes))
 sl:∀e s,e.length<=μ (.slice e s)
 sle:∀e s,∀d∈e,μ d<=μ (.slice e s)
 ag:∀ps,∀d∈ps,μ d<=μ (.agg ps)
def RB(P:Program)(n:Nat)(t:TypeId)(T:Type)(e:T->AA A)(wf:T->Prop):Prop:=
 ∀(H:Type) (enc:TypeId×Value->H) (w:World) (base:Nat) (spare:Nat->Bool) (held:Bool) (m:Nat) (cs:AA Value) d,m<n->DataW.trod enc P w base spare held m t cs=some d->
  ∀μ:DataW H->Nat,V8 μ->μ d.1<=1048576->∃x:T,wf x/\LR (Nf w) [] w (e x) cs/\ ∀v∈cs,Qz v
section
variable {P:Program} {n:Nat} {t:TypeId} {T:Type} {e:T->AA A} {wf:T->Prop}
theorem RB.down(h:RB P (n+1) t T e wf):RB P n t T e wf:=λH enc w base spare held m cs d hm=>h H enc w base spare held m cs d (Nat.lt_succ_of_lt hm)
theorem bH(h:∀n,RB P n t T e wf->RB P (n+1) t T e wf):∀n,RB P n t T e wf
 |0=>λH enc w base spare held m cs d hm=>(by omega)
 |n+1=>h n (bH h n)
theorem Q8{T':Type}{f:T'->AA A}{a:T'->Prop}(h:RB P n t T e wf)(g:T->T')(he:∀x,f (g x)=e x)(j:∀x,wf x->a (g x)):RB P n t T' f a:=by
 intro H enc w base spare held m cs d hm hd μ hμ hwt;obtain⟨x,l,i,k⟩:=h H enc w base spare held m cs d hm hd μ hμ hwt
 grind
theorem RB.int{k:IntKind}(a:P.underlying t=some (.int k)):RB P n t Int (Qc k) (Qp k):=by
 intro H enc w base spare held m cs d hm hd μ hμ hwt;cases m with
 |zero=>simp[DataW.trod]at hd
 |succ m=>
  rcases cs with _|⟨v,_|⟨g,r⟩⟩
  .simp[DataW.trod,a]at hd
  .cases v<;>simp[DataW.trod,a]at hd;rename_i h f;obtain⟨⟨rfl,e⟩,_⟩:=hd;refine⟨f,?_,⟨_,_,rfl,rfl,rfl⟩,by simp[Qz]⟩;simpa[Lit.wf,Qp]using e
  .simp[DataW.trod,a]at hd
theorem RB.bool(a:P.underlying t=some .bool):RB P n t Bool Dg (λ_=>True):=by
 intro H enc w base spare held m cs d hm hd μ hμ hwt;cases m with
 |zero=>simp[DataW.trod]at hd
 |succ m=>
  rcases cs with _|⟨v,_|⟨e,r⟩⟩
  .simp[DataW.trod,a]at hd
  .cases v<;>simp[DataW.trod,a]at hd;rename_i b;exact⟨b,trivial,⟨_,_,rfl,rfl,rfl⟩,by simp[Qz]⟩
  .simp[DataW.trod,a]at hd
theorem RB.string(a:P.underlying t=some .string):RB P n t (AA UInt8) JZ (λs=>s.length<=1048576):=by
 intro H enc w base spare held m cs d hm hd μ hμ hwt;cases m with
 |zero=>simp[DataW.trod]at hd
 |succ m=>
  rcases cs with _|⟨v,_|⟨e,r⟩⟩
  .simp[DataW.trod,a]at hd
  .cases v<;>simp[DataW.trod,a]at hd;rename_i s;obtain⟨_,rfl⟩:=hd;exact⟨s.data.toList,XT (hμ.str _) hwt,⟨_,_,rfl,rfl,rfl⟩,by simp[Qz]⟩
  .simp[DataW.trod,a]at hd
theorem lZ{α:Type}{f:Nat->AB α}:∀{n:Nat} {l:AA α},(List.range n).mapM f=some l->l.length=n/\ ∀i,i<n->∃y,f i=some y/\l[i]?=some y
 |0,l,h=>by grind
 |n+1,l,h=>by
  rw[List.range_succ,List.mapM_append]at h;cases h1:(List.range n).mapM f with
  |none=>grind
  |some l1=>
   cases h2:f n with
   |none=>grind
   |some y=>
    simp[h1,h2]at h;subst h;obtain⟨e1,e2⟩:=lZ h1
    grind
theorem sn{w:World}{ro:Nat->Prop}{b:Nat}:∀{cs:AA A} {l:AA Value} {off:Nat},LR ro [] w cs l->(∀v∈l,Qz v)->(∀i,i<l.length->w.cell? ⟨b,off+i,none⟩=l[i]?)->CR ro [] w b cs off
 |[],_,_,_,_,_=>trivial
 |a::cs,l,off,h,hp,hc=>by
  obtain⟨v,l',rfl,h1,h2⟩:=h;refine⟨(by grind),sn h2 (by grind) λi hi=>?_⟩;have:=hc (i+1) (by grind)
  grind
theorem RB.slice{E:TypeId}{k:Nat}{s:TypeId}(G:P.underlying s=some (.slice E))(hk:P.cellsOf E=k)(h0:Nat.blt 0 k=true)(hl:∀x,(e x).length=k)(h:RB P n E T e wf):
  RB P (n+1) s (AA T) (V_ k e) (λl=>l.length<=1048576/\ ∀x∈l,wf x):=by
 intro H enc w base spare held m cs d hm hd μ hμ hwt;have k0:0<k:=by simp_all
 cases m with
 |zero=>simp[DataW.trod]at hd
 |succ m=>
  rcases cs with _|⟨v,_|⟨v2,r⟩⟩
  .simp[DataW.trod,G]at hd
  .cases v<;>try (simp[DataW.trod,G]at hd;done)
   rename_i a len g;cases a with
   |none=>
    rcases len with _|len
    .rcases g with _|g
     .refine⟨[],⟨by simp,by simp⟩,⟨_,_,rfl,⟨none,0,rfl,XR _,.inl rfl⟩,rfl⟩,by simp[Qz]⟩
     .simp[DataW.trod,G]at hd
    .simp[DataW.trod,G]at hd
   |some a=>
    simp only[DataW.trod,G]at hd;split at hd
    .rename_i hc;obtain⟨c1,c2,c3⟩:=hc;cases R:(List.range len).mapM (λi=>(w.cells? base (a.add (i*P.cellsOf E)) (P.cellsOf E)).bind (DataW.trod enc P w base spare held m E))with
     |none=>grind
     |some f=>
      rw[R]at hd;simp only[XH,Option.map_eq_some_iff]at hd;obtain⟨p,_,rfl⟩:=hd;have F:f.length<=1048576:=by
       have h1:=hμ.sl (f.map (·.1)) (p.map (·.1))
       grind
      have X:∀y∈f,μ y.1<=1048576:=λy Q=>XT (hμ.sle _ (p.map (·.1)) _ (VC Q)) hwt;obtain⟨e1,e2⟩:=lZ R;have M:∀i,i<len->∃(x:T) (l:AA Value),wf x/\LR (Nf w) [] w (e x) l/\(∀v∈l,Qz v)/\l.length=k/\ ∀j,j<k->w.cell? ((a.add (i*k)).add j)=l[j]? :=by
       intro i V;obtain⟨y,y1,y2⟩:=e2 i V;rw[hk]at y1;cases W:w.cells? base (a.add (i*k)) k with
       |none=>grind
       |some l=>
        rw[W]at y1;obtain⟨x,x1,x2,x3⟩:=h H enc w base spare held m l y (by omega) y1 μ hμ (X y (VD y2))
        grind[World.cells?,lZ]
      by_cases N:len=0
      .subst N;exact⟨[],⟨by simp,by simp⟩,⟨_,_,rfl,⟨some a,g,rfl,XS _,.inl rfl⟩,rfl⟩,by simp[Qz]⟩
      .have first:a.spot=none/\a.block<w.heap.size:=by
        obtain⟨x',l,p1,p2,p3,p4,p5⟩:=M 0 (by omega);have t:=p5 0 k0;have Y:l[0]?=some l[0]:=XI (by omega);have ea:(a.add (0*k)).add 0=a:=by simp[Addr.add]
        rw[Y,ea]at t;unfold World.cell? at t;split at t
        .rename_i hh;constructor
         .cases q:a.spot with
          |none=>rfl
          |some z=>simp[q]at t
         .exact(X9.1 hh).1
        .cases t
       obtain⟨O,hb⟩:=first
       have L:∀n,a.add n=⟨a.block,a.off+n,none⟩:=by
        intro n;cases a;simp only at O;subst O;unfold Addr.add;split
        .rename_i q;subst q;rfl
        .rfl
       have u:∀(b o n:Nat),(⟨b,o,none⟩:Addr).add n=⟨b,o+n,none⟩:=by
        intro b o n;unfold Addr.add;split
        .rename_i q;subst q;rfl
        .rfl
       have pick:∀q i,len-i=q->i<=len->∃B:AA T,B.length=len-i/\(∀x∈B,wf x)/\RR (Nf w) [] w a.block k (B.map e) (a.off+i*k):=by
        intro q
        induction q with
        |zero=>intro i hq V;exact⟨[],by simp[hq],by simp,trivial⟩
        |succ q ih=>
         intro i hq V;obtain⟨B,w1,w2,J⟩:=ih (i+1) (by omega) (by omega);obtain⟨x,l,p1,p2,p3,p4,p5⟩:=M i (by omega);refine⟨x::B,by simp[w1];omega,by intro y Q;rcases X3.1 Q with rfl|Q;exact p1;exact w2 y Q,hl x,?_,?_⟩
         .refine sn p2 p3 λj hj=>?_;have t:=p5 j (by omega);rw[L,u]at t;exact t
         .rw[Xn, <- Nat.add_assoc]at J;exact J
       obtain⟨B,w1,w2,J⟩:=pick len 0 (by omega) (XS _);rw[Nat.zero_mul,Xw]at J;rw[Nat.sub_zero]at w1;refine⟨B,⟨by rw[w1, <- e1];exact F,w2⟩,⟨_,_,rfl,⟨some a,g,by simp[w1],by simp[w1];exact c2,.inr ⟨a.block,a.off,?_,hb,J⟩⟩,rfl⟩,by simp[Qz]⟩;cases a
       grind
    .cases hd
  .simp[DataW.trod,G]at hd
def RF(P:Program)(n:Nat)(fs:AA Field)(off L:Nat)(T:Type)(e:T->AA A)(wf:T->Prop):Prop:=
 ∀(H:Type) (enc:TypeId×Value->H) (w:World) (base:Nat) (spare:Nat->Bool) (held:Bool) (m:Nat) (cs:AA Value) ds,m<n->cs.length=L->
  fs.mapM (λf=>DataW.trod enc P w base spare held m f.type ((cs.drop f.offset).take (P.cellsOf f.type)))=some ds->
  ∀μ:DataW H->Nat,V8 μ->(∀y∈ds,μ y.1<=1048576)->∃x:T,wf x/\LR (Nf w) [] w (e x) (cs.drop off)/\ ∀v∈cs.drop off,Qz v
theorem RF.nil{L:Nat}:RF P n [] L L Unit (λ_=>[]) (λ_=>True):=by
 intro H enc w base spare held m cs ds hm hl hd μ hμ hwt;have:cs.drop L=[]:=(by grind);rw[this];exact⟨(),trivial,rfl,by simp⟩
theorem RF.cons{f:Field}{fs:AA Field}{off L:Nat}{T2:Type}{q:T2->AA A}{a:T2->Prop}(u:f.offset=off)(s:P.cellsOf f.type=k)(h:RB P n f.type T e wf)(r:RF P n fs (off+k) L T2 q a):
  RF P n (f::fs) off L (T×T2) (λp=>e p.1++q p.2) (λp=>wf p.1/\a p.2):=by
 intro H enc w base spare held m cs ds hm hl hd μ hμ hwt;rw[List.mapM_cons]at hd;cases l:DataW.trod enc P w base spare held m f.type ((cs.drop f.offset).take (P.cellsOf f.type))with
 |none=>grind
 |some d=>
  cases z:fs.mapM (λf=>DataW.trod enc P w base spare held m f.type ((cs.drop f.offset).take (P.cellsOf f.type)))with
  |none=>grind
  |some g=>
   have j:ds=d::g:=by
    grind
   subst j;rw[u,s]at l;obtain⟨x,B,t,F⟩:=h H enc w base spare held m _ d hm l μ hμ (hwt d (by simp));obtain⟨y,y1,y2,E⟩:=r H enc w base spare held m cs g hm hl z μ hμ (by grind);have i:cs.drop off=(cs.drop off).take k++cs.drop (off+k):=by rw[<- List.drop_drop,Xy]
   refine⟨(x,y),⟨B,y1⟩,by rw[i];exact t.append y2,?_⟩
   grind
theorem RB.struct{fs:Array Field}{L:Nat}(k:P.underlying t=some (.struct fs))(g:P.cellsOf t=L)(h:RF P n fs.toList 0 L T e wf):RB P (n+1) t T e wf:=by
 intro H enc w base spare held m cs d hm hd μ hμ hwt;cases m with
 |zero=>simp[DataW.trod]at hd
 |succ m=>
  unfold DataW.trod at hd;simp only[k]at hd;split at hd
  .rename_i i;cases a:fs.toList.mapM (λf=>DataW.trod enc P w base spare held m f.type ((cs.drop f.offset).take (P.cellsOf f.type)))with
   |none=>grind
   |some j=>
    rw[a]at hd;simp only[Xk,Option.some.injEq]at hd;subst hd;have:=h H enc w base spare held m cs j (by omega) (by rw[i,g]) a μ hμ (λy l=>XT (hμ.ag _ _ (by grind)) hwt)
    grind
  .cases hd
end
variable {P:Program}{W:World}
theorem C.law{f:FuncId}{args:AA A}{vals:AA Value}(h:C P f args [] (λa H=>a=.bool true/\H=[]))(hl:LR (Nf W) [] W args vals)(d:GP W):
  Calls P f vals.toArray W λe W'=>e=.returned (.bool true)/\Go.RowKit.Below W.heap.size W W':=by
 have s:AU (λ_=>False) (Nf W) [] [] W:=
  ⟨rfl,⟨λ_ h=>h,λb l=>d.size b l,d⟩,λ_ h=>h.elim,λ_ _ h=>h,(by simp),(by simp),(by simp),(by simp)⟩
 refine(h _ _ _ _ W s hl).mono ?_;rintro e W' ⟨v,r,H',i,τ,rfl,⟨rfl,rfl⟩,_,j,ev⟩;exact⟨by rw[show v=.bool true from j],⟨ev.os,ev.tape,ev.output,ev.size,λk g=>ev.keepRo k g⟩⟩
variable {t:TypeId}
theorem xI{a:Nat}{v:Value}{fs:Array Field}(d:P.underlying t=some (.struct fs))(h:Value.okWide P W .any a t v):∃cs,v=.agg cs:=by
 unfold Value.okWide at h
 grind
theorem ye{cs:Array Value}{T:Type}{e:T->AA A}{wf:T->Prop}{H:Type}{enc:TypeId×Value->H}{f:Nat}{a:Nat->Bool}{held:Bool}{d:DataW H}{ps:AA MemPlace}
  (h:∀n,RB P n t T e wf)(k:DataW.Trod enc P W f a held t (.agg cs) d ps){μ:DataW H->Nat}(hμ:V8 μ)(g:μ d<=1048576):∃x:T,wf x/\VR (Nf W) [] W (.agg (e x)) (.agg cs):=by
 obtain⟨m,j⟩:=k;obtain⟨x,l,i,_⟩:=h (m+1) H enc W f a held m _ _ (Xo _) j μ hμ g;exact⟨x,l,cs.toList,by simp,i⟩
theorem xf{a:AB Addr}{len cap:Nat}{T:Type}{e:T->AA A}{wf:AA T->Prop}{H:Type}{enc:TypeId×Value->H}{g:Nat}{f:Nat->Bool}{held:Bool}{d:DataW H}{ps:AA MemPlace}
  (h:∀n,RB P n t (AA T) (V_ k e) wf)(p:DataW.Trod enc P W g f held t (.slice a len cap) d ps){μ:DataW H->Nat}(hμ:V8 μ)(i:μ d<=1048576):∃x:AA T,wf x/\VR (Nf W) [] W (.rsl k (x.map e)) (.slice a len cap):=by
 obtain⟨m,l⟩:=p;obtain⟨x,j,⟨v,u,r,q,s⟩,_⟩:=h (m+1) H enc W g f held m _ _ (Xo _) l μ hμ i;refine⟨x,j,?_⟩;have:(Value.slice a len cap).cells.toList=[.slice a len cap]:=rfl
 grind
theorem yj(h:W.ShapedOpen P){g t u:Nat}{z:Value}(hg:Nat.blt g P.globals.size=true)(n:(((begin P (λ_ _=>0) default).world.heap[g]?).bind Obj.row?)=some (#[z],t))
  (r:P.buildable t=true)(p:P.cellTypes P.depth t=some [u])(l:P.underlying u=some (.int .i64)):∃m:Int,W.cell? ⟨g,0,none⟩=some (.int .i64 m):=by
 obtain⟨a,x,q,s⟩:=h.1 g _ _ (by simp_all) n;obtain⟨B,f,_,k⟩:=s r;rw[p]at f;cases f;have y:a.size=1:=q;have e:a[0]?=some a[0]:=(by simp);obtain⟨w,i,d⟩:=k 0 _ e;simp at i;subst i;unfold Cell.ok at d;rw[l]at d;cases j:a[0]<;>rw[j]at d<;>simp at d
 simp_all[World.cell?]
theorem yb{S B:Type}{step:S->AB (AG S B)}(a:Nat->S)(b:B)(k:Nat)(p:∀i,i<k->step (a i)=some (.k (a (i+1))))(j:step (a k)=some (.d b)):∀n,k<n->iter step n (a 0)=some b:=by
 have h:∀m i n,k-i=m->i<=k->m<n->iter step n (a i)=some b:=by
  intro m
  induction m with
  |zero=>
   intro i n f g e;have:i=k:=by omega
   subst this;obtain⟨d,rfl⟩:∃d,n=d+1:=⟨n-1,by omega⟩;simp[iter,j]
  |succ m l=>
   intro i n f g e;obtain⟨d,rfl⟩:∃d,n=d+1:=⟨n-1,by omega⟩
   grind[iter]
 grind
theorem wL{S B:Type}{step:S->AB (AG S B)}(d:S)(a:Nat->S)(b:B)(k:Nat)(h0:a 0=d)(e:∀i,i<k->step (a i)=some (.k (a (i+1))))(g:step (a k)=some (.d b))(n:Nat)(f:k<n):iter step n d=some b:=by
 rw[<- h0];exact yb a b k e g n f
variable {α:Type}
variable {l:AA α}
theorem Yi{i:Nat}{x:α}(h:l[i]?=some x):AJ l i=some x:=by
 grind[AJ]
theorem Jw(l:AA α)(x:α)(h:l.length<4294967296):app l [x]=some (l++[x]):=by
 unfold app;have:Nat.ble (l.length+[x].length) QE=true:=by
  grind[Nat.ble_eq_true_of_le,QE]
 grind
theorem Wm(l m:AA α)(h:l.length+m.length<=4294967296):app l m=some (l++m):=by
 simp_all[app,QE,XQ]
theorem Q4{n:Int}(h0: -9223372036854775808<=n)(a:n<=9223372036854775807):IntKind.i64.wrap n=n:=by
 grind[IntKind.wrap,IntKind.bits,IntKind.signed]
theorem Ya{i:Nat}(h:i<9223372036854775807):IntKind.i64.wrap (i+1)=(i+1:Nat):=by
 rw[Q4 (by omega) (by omega)];omega
theorem Yb{p:Prop}[Decidable p](h:p):decide p=true:=Vq h
theorem YA{p:Prop}[Decidable p](h:¬p):decide p=false:=Vt h
open Go.Proofs Go.Shelf
def cat(a b:AA UInt8):AB (AA UInt8):=bif Nat.ble (a.length+b.length) 4294967296 then some (a++b)else none
theorem tz{a b r:AA UInt8}(h:cat a b=some r):a.length+b.length<=4294967296/\a++b=r:=by
 unfold cat at h;cases q:Nat.ble (a.length+b.length) 4294967296 with
 |true=>simp_all
 |false=>grind
def WP(s t:AA UInt8):AB Bool:=bif Nat.blt s.length 4294967281 then some (Lib.contains s t)else none
variable {l':AA α}
section
variable {P:Program} {o:Oper} {env:Env} {H:Qb}
theorem rl{u:TypeId}{x y:Operand}{p q r:AA UInt8}(h:cat p q=some r)(k:o.op=.binOp .add t x y u:=by exact rfl)(hx:AM env x=.str p:=by exact rfl)(hy:AM env y=.str q:=by exact rfl):AK P o env H (.str r):=by
 intro l n U N a w rr;obtain⟨m,j⟩:=tz h;have d:=Ql rr x;rw[hx]at d;have e:=Ql rr y;rw[hy]at e;have g:a.eval x=.string ⟨p.toArray⟩:=d;have i:a.eval y=.string ⟨q.toArray⟩:=e;have s:(⟨p.toArray⟩:ByteArray)++⟨q.toArray⟩=⟨r.toArray⟩:=by
  rw[<- j];rfl
 refine⟨.string ⟨r.toArray⟩,?_,rfl⟩;have f:¬((⟨p.toArray⟩:ByteArray).size+(⟨q.toArray⟩:ByteArray).size>IntKind.i64.max):=by
  have:IntKind.i64.max=9223372036854775807:=by decide
  grind[ByteArray.size]
 simp_all[eqGuard,execOp,binOp_string_add,Op.stringOp]
def Hn(n:Nat)(l:AA α)(i:Int):AB α:=bif Nat.beq l.length n then AJ l i else none
theorem Np{n:Nat}{i:Int}{x:α}(h:Hn n l i=some x):l.length=n/\AJ l i=some x:=by
 grind[Hn,Nat.eq_of_beq_eq_true]
def FM(n:Nat)(l:AA α):AB (AA α):=bif Nat.beq l.length n then some l else none
theorem JQ{n:Nat}(h:FM n l=some l'):l.length=n/\l=l':=by
 grind[FM,Nat.eq_of_beq_eq_true]
theorem O9{n:Nat}(h:FM n l=some l'):l'.length=n:=(JQ h).2▸(JQ h).1
section
variable {α:Type} {e:α->AA A} {t et k n b:Nat} {x y:Operand} {l:AA α}
theorem O'{i:Int}{v:α}{j:IntKind}(h:Hn n l i=some v)(F:∀w,(underlying t).run P w=.ok (.array n et) w)(z:∀w,(sizeOf et).run P w=.ok k w)(E:Nat.ble 2 n=true)
  (p:o.op=.indexAddr t x y:=by exact rfl)(hx:AM env x=.ptr b 0:=by exact rfl)(hy:AM env y=.int j i:=by exact rfl):AK P o env H (.ptr b (i.toNat*k)):=by
 intro J O U N a w r;obtain⟨G,u⟩:=Np h;obtain⟨L,M⟩:=G8 u;have q:i.toNat<l.length:=(by grind);have e:=Ql r x;rw[hx]at e;obtain⟨d,e,s⟩:=e;have m:=Ql r y;rw[hy]at m;have f:a.eval y=.int j i:=m;refine⟨.pointer (some ⟨d,i.toNat*k,none⟩),?_,d,e,rfl⟩;have B:0<=i/\i<n:=by omega
 have g:(⟨d,0,none⟩:Addr).add (i.toNat*k)=⟨d,i.toNat*k,none⟩:=by
  grind[Addr.add]
 generalize a.eval=ρ at*;simp[p,s,f,Instr.indexAt,F,z,B,go_sem]
theorem n9{cs:AA A}(hH:H[b]?=some (.row t k (l.map e)):=by exact rfl)(hcs:(l.map e).flatten=cs:=by exact rfl):BD H (.ptr b 0) cs:=by
 intro m n U w v s h;obtain⟨f,g,i⟩:=h;obtain⟨j,d,a⟩:=s.blk b _ _ g hH;refine⟨f,0,i,?_⟩;have:=(RR.flat (Jc (pre:=[]) (by simpa using d) a)).1;subst hcs;exact this.lift
theorem pH(a:∀x,(e x).length=k)(L:AA α):(L.map e).flatten.length=L.length*k:=by
 induction L with
 |nil=>simp
 |cons c L ih=>grind
theorem zk{f:Nat}{l':AA α}(h:FM n l=some l')(g:∀x,(e x).length=k)(a:n*k=f)(j:∀w,(isAgg t).run P w=.ok true w)(p:∀w,(sizeOf t).run P w=.ok f w)
  (i:o.op=.load t x:=by exact rfl)(hx:AM env x=.ptr b 0:=by exact rfl)(hH:H[b]?=some (.row T k (l.map e)):=by exact rfl):AK P o env H (.agg (l'.map e).flatten):=by
 obtain⟨m,rfl⟩:=JQ h;have d:=pH g l;rw[m,a]at d;exact Qv i j p hx (n9 hH rfl) (by grind) d
theorem w8{r:Nat}{n2:Nat}(hl:l.length=n)(a:∀x,(e x).length=k)(h:n*k=n2)(d:∀w,(isAgg t).run P w=.ok true w)(f:∀w,(sizeOf t).run P w=.ok n2 w)
  (g:lk env r=.ptr b 0:=by exact rfl)(hH:H[b]?=some (.row T k (l.map e)):=by exact rfl):BT P env H (.cell r t) (.agg (l.map e).flatten):=by
 have i:=pH a l;have:=sr d f (n9 hH rfl) g (by grind)
 grind
theorem pR{c:AA A}{k:Nat}(h:c.length=k):∀n,allK k (List.replicate n c)
 |0=>trivial
 |n+1=>⟨h,pR h n⟩
theorem JA{vs:Array Value}{z:α}(q:∀w,(zeroValue t).run P w=.ok (.agg vs) w)(p:(Jd (List.replicate n (e z)).flatten).toArray=vs)(l:H8 (List.replicate n (e z)).flatten=true)(i:(List.replicate n (e z)).flatten.all YJ=true)(h:Nat.beq (e z).length k=true)
  (m:o.op=.alloc t:=by exact rfl):CD P o env H (.ptr H.length 0) (H++[.row t k ((List.replicate n z).map e)]):=by
 intro s g U N a w r;have f:LR g [] w (List.replicate n (e z)).flatten (Jd (List.replicate n (e z)).flatten):=kd l;have d:=r.sim.allocRow (t:=t) (rest:=[]) (pR (XO h) n) f (f.plain i);rw[Vc]at d;have j:(List.replicate n z).map e=List.replicate n (e z):=List.map_replicate;refine⟨.pointer (some ⟨w.heap.size,0,none⟩),w.alloc (.cells (Jd (List.replicate n (e z)).flatten).toArray t),g,[some w.heap.size],?_,⟨w.heap.size,?_,rfl⟩,j▸d,Qm.alloc _ r.sim.roLt r.sim.frLt⟩
 .have u:(newVar t (.agg vs)).run P w=.ok ⟨w.heap.size,0,none⟩ (w.alloc (.cells vs t)):=rfl
  simp_all[execOp,Instr.alloc]
 .rw[<- r.sim.len];simp
theorem Jz{n2:Nat}{l':AA α}{vs:AA A}(h:l.length=n)(h':l'.length=n)(Y:∀x,(e x).length=k)(B:n*k=n2)(hs:∀w,(sizeOf t).run P w=.ok n2 w)
  (hp:∀x,(e x).all YJ=true)(hd:∀x,YB (e x)=true)(E:(l'.map e).flatten=vs)
  (ho:o.op=.store t x y:=by exact rfl)(q:AM env x=.ptr b 0:=by exact rfl)(hH:H[b]?=some (.row T k (l.map e)):=by exact rfl)(G:AM env y=.agg vs:=by exact rfl):
  FS P o env H (H.set b (.row T k (l'.map e))):=by
 intro fr X U N a w r;subst E;have g:=Ql r x;rw[q]at g;obtain⟨bb,g,h2⟩:=g;have O:=Ql r y;rw[G]at O;obtain⟨m,h4,p⟩:=O;obtain⟨z,R,W⟩:=r.sim.blk b _ _ g hH;have J:∀(L:AA α),allK k (L.map e):=by
  intro L
  induction L with
  |nil=>trivial
  |cons c L j=>exact⟨Y c,j⟩
 have M:(l'.map e).flatten.length=n2:=by grind[YW]
 have hm:m.length=n2:=by rw[p.length,M]
 have i:∀L:AA α,(L.map e).flatten.all YJ=true:=by
  grind
 have u:∀f ds:AA A,YB f=true->YB ds=true->YB (f++ds)=true:=by
  intro f
  induction f with
  |nil=>simp
  |cons c f j=>
   simp_all[YB]
 have s:∀L:AA α,YB (L.map e).flatten=true:=by
  intro L
  induction L with
  |nil=>rfl
  |cons c L j=>exact u _ _ (hd c) j
 have hlen:=by
  have:=W.length;rw[XZ,h,B]at this;exact this
 have V:=Yz (P:=P) (vs:=m) 0 0 R (by omega) (p.plain (i l'));have Q:splice z 0 m=m++z.drop n2:=by unfold splice;simp[hm]
 have d:=r.sim.set (x':=.row T k (l'.map e)) (obj:=.cells (splice z 0 m).toArray T (0,0)) g hH rfl
  (λy G=>S9 R (YO (by omega)) y G)
  (λex F=>by
   have q:=(p.data (s l')).mono ex.nil;exact⟨_,F,JS (J l') q (p.plain (i l'))⟩)
 refine⟨_,X,[],?_,by simpa using d.1,d.2⟩
 simp_all[Value.cells,storeVar,execOp,Instr.storeAt,Instr.sureAddr]
end
end
theorem C.contains{ρ:Ren}(L:Lays.n144 P ρ)(hg:ρ.g 1=SZ){s t:AA UInt8}{r:Bool}(h:WP s t=some r):C P (ρ.f 144) [.str s,.str t] [] (λa H=>a=.bool r/\H=[]):=by
 unfold WP at h;cases q:Nat.blt s.length 4294967281 with
 |false=>grind
 |true=>
  rw[q]at h;obtain rfl:=XX h;intro n k U vals w sim hv;obtain⟨u,p,rfl,i,z,d,rfl,l,j⟩:=hv;cases(show d=[]from j);obtain⟨m,x⟩:=sim.roOk.gp.max;have e1:=i;have e2:=l;subst e1 e2;have hs:=by simpa using q
  refine(Any.strings_Contains L ⟨s.toArray⟩ ⟨t.toArray⟩ m w (by simpa[ByteArray.size]using hs) (by grind)).mono ?_;rintro e y ⟨rfl,rfl⟩;exact⟨_,_,_,k,[],rfl,⟨rfl,rfl⟩,by grind,rfl,Qm.refl _ _ _⟩
section
variable {P:Program} {o:Oper} {env:Env} {H:Qb} {fr ro:Nat->Prop} {U:AZ} {w:World}
theorem AU.touch(s:AU fr ro U H w){b:Nat}{obj:Obj}(r:¬ro b)(n:¬fr b)(t:∀(i:Nat) (x:AR),U[i]?=some (some b)->H[i]?=some x->x.live=true->False)
  (g:∀(i d:Nat) (x:AR),U[i]?=some (some d)->H[i]?=some x->Bw w x d b->False)
  (m:∀y,w.shape? b=some y->{w with heap:=w.heap.setIfInBounds b obj}.shape? b=some y):
  AU fr ro U H {w with heap:=w.heap.setIfInBounds b obj}/\Qm fr ro w ro {w with heap:=w.heap.setIfInBounds b obj}:=by
 have a:{w with heap:=w.heap.setIfInBounds b obj}.heap.size=w.heap.size:=by simp
 have ev:Qm fr ro w ro {w with heap:=w.heap.setIfInBounds b obj}:=
  ⟨λ_ h=>h,(by grind),(by grind),by omega,by
   grind[World.shape?],rfl,rfl,rfl,XR _⟩
 refine⟨⟨s.len,s.roOk.to (λ_ q=>q) ev.keepRo (λc h=>by rw[a];exact s.roLt c h),λc h=>by rw[a];exact s.frLt c h,s.roFr,?_,s.inj,?_,s.hidTo (· = ·) Yd (by omega) (by simp) (by simp) λj d y k l u=>.inl ⟨j,y,rfl,k,l,id,λc q=>s.hidKeep k l (by grind) ev.keepRo q⟩⟩,ev⟩
 .intro i c x e f p;rw[a];exact s.own i c x e f p
 .intro i y x e f;refine(s.blk i y x e f).keep (ev.ext0 U) ?_ ?_
  .grind
  grind
theorem ws{E i n t:Nat}{x:Operand}{es:AA (AA A)}(ht:P.underlying T=some (.slice E))(hE:P.underlying E=some (.int .u8))(hn:es.length=n)(h0:Nat.blt 0 n=true)
  (X:o.op=.convert T T x:=by exact rfl)(hx:AM env x=.osl i 0 n 1:=by exact rfl)(hH:H[i]?=some (.row t 1 es):=by exact rfl):
  CD P o env H (.rsl 1 es) (H.set i .dead):=by
 intro fr M U N a w r;subst hn;have s:=Ql r x;rw[hx]at s;rcases s with⟨hz,_⟩|⟨b,p,J,t',m,s,h2,h6,⟨h3,aa⟩,h4,h5⟩
 .simp_all
 .have W:0<es.length:=by simp_all
  obtain rfl:=h6 (by omega);obtain⟨hb,L,g⟩:=r.sim.own i b _ s hH rfl;obtain⟨l,q1,Y⟩:=r.sim.blk i _ _ s hH;have V:=r.sim.kill i;have f:∀(j:Nat) (y:AR),U[j]?=some (some b)->(H.set i .dead)[j]?=some y->y.live=true->False:=by
   intro j y B e u;by_cases q:j=i
   .subst q;rw[Xb]at e;simp only[if_true]at e
    grind[AR.live]
   .rw[XN (λz=>q z.symm)]at e;exact q (r.sim.inj j i b y _ B s e hH u rfl)
  have G:∀(j d:Nat) (y:AR),U[j]?=some (some d)->(H.set i .dead)[j]?=some y->Bw w y d b->False:=by
   intro j d y B e u;by_cases q:j=i
   .subst q;rw[Xb]at e;simp only[if_true]at e;split at e
    .cases e;exact u.elim
    .simp at e
   .rw[XN (λz=>q z.symm)]at e;exact(r.sim.hid j d y b B e u).ne i b _ s hH rfl rfl
  let fz:Nat×Nat:=(l.length,l.length+1)
  have Q:∀y,w.shape? b=some y->({w with heap:=w.heap.setIfInBounds b (.cells l.toArray t fz)}:World).shape? b=some y:=by
   simp_all[World.shape?]
  obtain⟨s2,k⟩:=V.touch (obj:=.cells l.toArray t fz) L g f G Q;have s3:=s2.addRo (b:=b) (by grind) g f (λj d y B e u=>G j d y B e (V.hidKeep B e (by grind) k.keepRo u));have h:({w with heap:=w.heap.setIfInBounds b (.cells l.toArray t fz)}:World).heap[b]?=some (.cells (([]:AA Value)++l).toArray t fz):=by
   grind
  have F:BI M [] w M [] {w with heap:=w.heap.setIfInBounds b (.cells l.toArray t fz)}:=k.ext0 [];refine⟨.slice (some ⟨b,0*1,none⟩) es.length J,_,λc=>M c\/c=b,[],?_,?_,by grind,k.trans (YZ λ_ q=>.inl q)⟩
  .have hf:w.freeze ⟨b,l.length,none⟩ 1={w with heap:=w.heap.setIfInBounds b (.cells l.toArray t fz)}:=by
    unfold World.freeze;simp only[Nat.one_ne_zero,if_false];rw[Ww q1];rfl
   have O:(markStringish ⟨b,0*1,none⟩).run P w=.ok () {w with heap:=w.heap.setIfInBounds b (.cells l.toArray t fz)}:=by
    simp_all[markStringish,World.shape?]
   have hu:∀w,(underlying T).run P w=.ok (.slice E) w:=run_underlying ht;have R:∀w,(underlying E).run P w=.ok (.int .u8) w:=run_underlying hE;generalize a.eval=ρ at*;simp only[execOp,X,h2,convert,Vi,hu,R,Result.andThen,beq_self_eq_true,O,Vj]
  .refine⟨some ⟨b,0*1,none⟩,J,rfl,h3,.inr ⟨b,0*1,rfl,.inr rfl,?_⟩⟩;have:=Jc (pre:=[]) h (Y.mono F);exact(by omega:RR M [] _ b 1 es (0*1)).keep ⟨λ_ q=>.inl q,λ_ _=>rfl,λ_ _ q=>q,λ_ _ q=>q⟩ rfl
end
mutual
theorem lE(ρ:Nat->Nat):∀{a:A},YR a=true->Je ρ a=a
 |.any,_=>rfl
 |.bool _,_=>rfl
 |.int _ _,_=>rfl
 |.str _,_=>rfl
 |.nilp,_=>rfl
 |.ptr _ _,h=>by simp[YR]at h
 |.rp _,_=>rfl
 |.nils,_=>rfl
 |.rsl _ _,_=>rfl
 |.osl _ _ _ _,h=>by simp[YR]at h
 |.agg cs,h=>by simp only[YR]at h;simp only[Je,PB ρ h]
 |.fn f a c,h=>by simp only[YR,XU]at h;simp only[Je,PB ρ h.1,PB ρ h.2]
 |.nilf,_=>rfl
 |.iface t a,h=>by simp only[YR]at h;simp only[Je,lE ρ h]
 |.nilif,_=>rfl
 |.map _,h=>by simp[YR]at h
 |.nilm,_=>rfl
 |.tup vs,h=>by simp only[YR]at h;simp only[Je,PB ρ h]
theorem PB(ρ:Nat->Nat):∀{l:AA A},YB l=true->C3 ρ l=l
 |[],_=>rfl
 |a::l,h=>by simp only[YB,XU]at h;simp only[C3,lE ρ h.1,PB ρ h.2]
end
theorem rD{α:Type}{e:α->AA A}(a:∀x,YB (e x)=true):∀L:AA α,YB (L.map e).flatten=true
 |[]=>rfl
 |c::L=>by
  have hdt:∀cs ds,YB cs=true->YB ds=true->YB (cs++ds)=true:=by
   intro cs
   induction cs with
   |nil=>simp
   |cons c cs d=>
    simp_all[YB]
  exact hdt _ _ (a c) (rD a L)
theorem vo{e:α->AA A}(hd:∀x,YB (e x)=true)(ρ:Nat->Nat)(l:AA α):Je ρ (.agg (l.map e).flatten)=.agg (l.map e).flatten:=
 lE ρ (by exact rD hd l)
end Go.Sw
namespace Go.Sw
variable {T:Nat}
section
variable {P:Program} {o:Oper} {env:Env} {H:Qb}
theorem bG{c:Call}{f:Nat}{x:Operand}{xs:AA Operand}{i:Array TypeId}{name:String}{v:A}{args:AA A}(d:∀(a:Array Value) (w:World),(callFunc f a).run P w=.ok (.enter f a) w)(j:o.op=.call c)
  (m:c={callee:=.invoke x name,args:=xs.toArray,argTypes:=i})(h:AM env x=.iface T v)(hargs:v::xs.map (AM env)=args)
  (n:∀(u:Value) (w:World),(method (P.types.size+Made.depth) T u name).run P w=.ok (f,u) w):Bh P o env H f args:=by
 intro k l U N a w r;have e:=Ql r x;rw[h]at e;obtain⟨u,e,g⟩:=e;refine⟨u::xs.map a.eval,?_,hargs▸⟨u,xs.map a.eval,rfl,g,St r xs⟩⟩
 simp_all[VE,callMethod,execOp,resolve,invoke]
theorem O6{I:Nat}{x:Operand}{v:A}{d:TypeDesc}(j:∀w,(underlying T).run P w=.ok d w)(i:∀m,d≠ .interface m)(h:o.op=.typeAssert x I T true:=by exact rfl)(hx:AM env x=.iface T v:=by exact rfl):
  AK P o env H (.tup [v,.bool true]):=by
 intro k g U N a w r;have e:=Ql r x;rw[hx]at e;obtain⟨u,e,f⟩:=e;refine⟨.tuple #[u,.bool true],?_,[u,.bool true],rfl,_,_,rfl,f,_,_,rfl,rfl,rfl⟩
 simp_all[execOp,Instr.typeAssert]
theorem jo{T' I:Nat}{x:Operand}{v z:A}{e:Value}{d:TypeDesc}(s:∀w,(underlying T).run P w=.ok d w)(t:∀m,d≠ .interface m)(h:Nat.beq T' T=false)(j:∀w,(zeroValue T).run P w=.ok e w)(g:ZR z e)
  (i:o.op=.typeAssert x I T true:=by exact rfl)(hx:AM env x=.iface T' v:=by exact rfl):
  AK P o env H (.tup [z,.bool false]):=by
 intro k l U N a w r;have f:=Ql r x;rw[hx]at f;obtain⟨u,f,n⟩:=f;have p:T'≠T:=λq=>by simp_all
 refine⟨.tuple #[e,.bool false],?_,[e,.bool false],rfl,_,_,rfl,g _ _ _,_,_,rfl,rfl,rfl⟩
 simp_all[execOp,Instr.typeAssert]
end
def TL(P:Program)(h0 N:Nat)(c:Code)(env:Env)(H:Qb)(Q:QW):Prop:=
 ∀rd fr ro U a w,BL fr ro U H env N a w->D5 rd fr w->∀(b:Frame) (k:AA Item) (cs:AA Frame),b.roundOf=(WF rd).round->(WF rd).fn b.fn->(WF rd).room (cs.length+1+0)->∃e a' w',E_ h0 fr ro U w N a.defers Q e a' w'/\ArrivesIn (Machine.fenced P (WF rd)) P (lone (b.atR a (.code c::.inLoop c::k)) cs w) b k cs e a' w'
def On(P:Program)(h0 N:Nat)(c:Code)(Q:QW):QW
 |.normal,env,H=>TL P h0 N c env H Q
 |.exit id,env,H=>Q (.exit id) env H
 |.ret,env,H=>Q .ret env H
section
variable {P:Program} {h0 N:Nat} {c:Code} {env:Env} {H:Qb} {Q:QW}
theorem vK(h:TL P h0 N c env H Q):TC P h0 N (.loop c) env H Q:=by
 intro m f g U a w r hrd b k cs hro hb hr;obtain⟨e,j,l,i,d⟩:=h m f g U a w r hrd b k cs hro hb hr;exact⟨e,j,l,i,.of_steps (.one (fenced_calm hb hr rfl) stepR_loop) d⟩
theorem TL.round(h:TC P h0 N c env H (On P h0 N c Q)):TL P h0 N c env H Q:=by
 intro E G z U a w r hrd b k cs hro hb hr;obtain⟨e,n,m,O,d⟩:=h E G z U a w r hrd b (.inLoop c::k) cs hro hb hr;obtain⟨x,f,H',j,σ',i,l,p,B,s,F,t⟩:=O;have y:∀x,Q x f H'->SJ e x->E_ h0 G z U w N a.defers Q e n m:=λx q L=>⟨x,f,H',j,σ',i,L,q,B,s,F,t⟩;cases e with
 |normal=>
  obtain rfl:x=.normal:=l;obtain⟨J,M,w2,u,g⟩:=p E i j σ' n m B (hrd.to s t.sub) b k cs hro hb hr;exact⟨J,M,w2,u.grow s F t,.of_steps (StepsIn.trans d (.one (fenced_calm hb hr rfl) stepR_inLoop)) g⟩
 |exit id=>
  obtain rfl:x=.exit id:=l;exact⟨_,n,m,y _ p rfl,.pass rfl (by simp) d⟩
 |ret=>
  obtain rfl:x=.ret:=l;exact⟨_,n,m,y _ p rfl,.pass rfl (by simp) d⟩
 |_=>exact l.elim
theorem dK(h:TC P h0 N c env H (On P h0 N c Q)):On P h0 N c Q .normal env H:=TL.round h
theorem dI{id:Nat}(h:Q (.exit id) env H):On P h0 N c Q (.exit id) env H:=h
theorem dJ(h:Q .ret env H):On P h0 N c Q .ret env H:=h
theorem w_(h:TC P h0 N c env H (On P h0 N c Q)):TC P h0 N (.loop c) env H Q:=vK (TL.round h)
end
variable {k t:Nat}
section
variable {P:Program} {o:Oper} {env:Env} {H:Qb}
theorem AK.ixL{a b n j:Nat}{x y:Operand}{e:IntKind}{i:Int}(l:Nat.blt j n=true)(hi:i=j)(f:∀w,(underlying t).run P w=.ok (.slice a) w)(g:∀w,(sizeOf a).run P w=.ok k w)
  (d:o.op=.indexAddr t x y:=by exact rfl)(hx:AM env x=.osl b 0 n k:=by exact rfl)(hy:AM env y=.int e i:=by exact rfl):AK P o env H (.ptr b (j*k)):=by
 have h:=jn (H:=H) d f g hx hy (by omega) (by simp_all)
 grind
end
theorem rn{ro:Nat->Prop}{U:AZ}{w:World}{k:Nat}:∀{es:AA (AA A)} {l l':AA Value},RL ro U w k es l->l.take (es.length*k)=l'.take (es.length*k)->RL ro U w k es l'
 |[],_,_,_,_=>trivial
 |c::es,l,l',h,hp=>by
  obtain⟨l1,l2,rfl,h1,h2,h3⟩:=h;have hl1:l1.length=k:=by rw[h2.1.length];exact h1
  have a:l'.take k=l1:=by
   have:=congrArg (List.take k) hp
   grind[Nat.succ_mul]
  refine⟨l1,l'.drop k,by rw[<- a,Xy],h1,h2,rn h3 ?_⟩;have:=congrArg (List.drop k) hp
  grind[Nat.succ_mul]
section
variable {P:Program} {o:Oper} {env:Env} {H:Qb}
theorem Qhe{c:Call}{et b s n:Nat}{x:Operand}{es es':AA (AA A)}{z:Value}(ht:P.underlying T=some (.slice et))(hz:∀w,(zeroValue et).run P w=.ok z w)(M:z.cells.size=k)(ab:∀v∈z.cells,Qz v)
  (u:es.take s=es')(hb:s+n=es.length)(Y:o.op=.call c:=by exact rfl)(hc:c={callee:=.builtin .clear,args:= #[x],argTypes:= #[T]}:=by exact rfl)
  (hx:AM env x=.osl b s n k:=by exact rfl)(hH:H[b]?=some (.row t k es):=by exact rfl):CD P o env H (.tup []) (H.set b (.row t k es')):=by
 intro G g U N a w r;subst u hc;have hu:∀w,(underlying T).run P w=.ok (.slice et) w:=run_underlying ht;have e:=Ql r x;rw[hx]at e;have B:AU G g U (H.set b (.row t k (es.take s))) w:=by
  refine r.sim.weaken hH rfl ?_;intro y h;cases y with
  |none=>rw[show es=[]from h];simp[BR]
  |some j=>obtain⟨l,g1,g2⟩:=h;exact⟨l,g1,RL.take s g2⟩
 have F:∀v,a.eval x=v->(Builtin.clear_ #[T] o.type #[v]).run P w=.ok (.tuple #[]) w->
   ∃v w' ro' τ,(execOp a.eval o).run P w=.ok (.value v) w'/\VR ro' (U++τ) w' (.tup []) v/\AU G ro' (U++τ) (H.set b (.row t k (es.take s))) w'/\Qm G g w ro' w':=by
  intro v L d;refine⟨.tuple #[],w,g,[],?_,⟨[],rfl,rfl⟩,by grind,Qm.refl _ _ _⟩
  simp_all[execOp,resolve,invoke,builtin]
 rcases e with⟨hn,e⟩|⟨j,p,E,t',m,e,h2,h3,⟨h4,ae⟩,h5,h6⟩
 .simp_all[Builtin.clear_]
 .by_cases hn:n=0
  .simp_all[Builtin.clear_]
  .obtain rfl:=h3 (by omega);obtain⟨l,V,Q⟩:=r.sim.blk b _ _ e hH;have R:=Q.length
   let vs:=(Builtin.zeroCells z.cells n).toList
   have ac:vs.length=n*k:=by simp[vs,Builtin.zeroCells,M]
   have q:∀v∈vs,Qz v:=by
    intro v L;simp only[vs,Builtin.zeroCells,Array.toList_map,Xf,Array.toList_range,List.mem_range]at L;obtain⟨i,hi,rfl⟩:=L;have X:0<z.cells.size:=by
     grind
    grind[Nat.mod_lt]
   have aa:s*k+n*k=es.length*k:=by grind
   have d:=Yz (P:=P) (vs:=vs) (s*k) 0 V (by omega) q;have f:=r.sim.set (x':=.row t k (es.take s)) (obj:=.cells (splice l (s*k) vs).toArray t (0,0)) e hH rfl
    (λy h=>S9 V (YO (by omega)) y h)
    (λex J=>⟨_,J,by
     refine(rn (RL.take s Q) ?_).mono ex.nil
     grind[splice]⟩)
   refine⟨.tuple #[],_,g,[],?_,⟨[],rfl,rfl⟩,by grind,f.2⟩;have O:(Builtin.clear_ #[T] o.type #[.slice (some ⟨j,s*k,none⟩) n E]).run P w=.ok (.tuple #[]) {w with heap:=w.heap.setIfInBounds j (.cells (splice l (s*k) vs).toArray t (0,0))}:=by
    obtain⟨W,rfl⟩:∃W,n=W+1:=⟨n-1,by omega⟩;simp only[Xw]at d;simp only[Builtin.clear_,XF,XD,Vi,hu,hz,Result.andThen,d,Vj,vs]
   generalize a.eval=ρ at*;simp only[execOp,Y,resolve,Vi,Vj,Result.andThen,invoke,builtin,XG,Vf,Vg,h2,O]
end
variable {α:Type}
def isNil{R:Type}[DecidableEq R](l:AA α)(x y:AB R):AB R:=bif l.isEmpty then(bif x=y then x else none)else y
variable {l:AA α}
theorem qJ{R:Type}[DecidableEq R]{x y:AB R}{r:R}(h:isNil l x y=some r)(b:Bool)(a:l≠[]->b=false):(b=true->x=some r)/\(b=false->y=some r):=by
 unfold isNil at h
 grind
section
variable {P:Program} {o:Oper} {env:Env} {H:Qb} {h0 N:Nat} {Q:QW}
theorem wr{e:α->AA A}{E:Nat}{u:TypeId}{x:Operand}(s:P.underlying T=some (.slice E))(i:o.op=.binOp .eql T x (.const (.slice none 0 0)) u)(h:AM env x=.rsl k (l.map e)):
  TA P o env H (λv H'=>∃b:Bool,v=.bool b/\(l≠[]->b=false)/\H'=H):=by
 intro m g U N a w r;have d:=Ql r x;rw[h]at d;obtain⟨ad,f,d,q,n⟩:=d;refine⟨.bool ad.isNone,H,.bool ad.isNone,w,g,[],⟨ad.isNone,rfl,λj=>?_,rfl⟩,?_,rfl,by simpa using r.sim,Qm.refl _ _ _⟩
 .grind
 .have p:a.eval (.const (.slice none 0 0))=.slice none 0 0:=rfl
  grind[eqGuard,execOp,Sem.run_bind,Result.andThen,Go.run_eql_slice_nil,Sem.run_pure]
theorem pQ{e:α->AA A}{E d:Nat}{u:TypeId}{x:Operand}{all:Array Oper}{L:AA Oper}(a:P.underlying T=some (.slice E))(g:AM env x=.rsl k (l.map e))
  (h:∀b,(l≠[]->b=false)->WO P h0 N all L (up env d (.bool b)) H Q)
  (f:o.op=.binOp .eql T x (.const (.slice none 0 0)) u:=by exact rfl)(hg:Qy all o env true:=by exact rfl)(hd:o.dst=some d:=by exact rfl)(hN:Nat.blt d N=true:=by exact rfl)(hh:Nat.ble h0 H.length=true:=by exact rfl):WO P h0 N all (o::L) env H Q:=by
 refine jh (by simp_all) hg hd hN (wr a f g) ?_
 grind
end
theorem KZ{x:AA α}{i:Int}(h:CU l 0 i=some x):0<=i/\i.toNat<=l.length/\l.take i.toNat=x/\x.length=i.toNat:=by
 obtain⟨_,e,a,d⟩:=WX h
 grind
section
variable {P:Program} {o:Oper} {env:Env} {H:Qb} {α:Type} {e:α->AA A} {T et k b t:Nat} {x y:Operand} {l l':AA α} {i:Int}
theorem zP(h:CU l 0 i=some l')(E1:∀w,(underlying T).run P w=.ok (.slice et) w)(E2:∀w,(sizeOf et).run P w=.ok k w)(a:o.op=.slice T x (some y) none none:=by exact rfl)
  (hx:AM env x=.osl b 0 l.length k:=by exact rfl)(hy:AM env y=.int .i64 i:=by exact rfl):AK P o env H (.osl b (0+i.toNat) (l.length-i.toNat) k):=by
 obtain⟨e,d,_,_⟩:=KZ h;exact kW E1 E2 a hx (by grind) (.inl ⟨rfl,rfl⟩) d (XR _)
theorem zO(h:CU l 0 i=some l')(E1:∀w,(underlying T).run P w=.ok (.slice et) w)(E2:∀w,(sizeOf et).run P w=.ok k w)(a:o.op=.slice T x none (some y) none:=by exact rfl)
  (hx:AM env x=.osl b 0 l.length k:=by exact rfl)(hy:AM env y=.int .i64 i:=by exact rfl):AK P o env H (.osl b 0 l'.length k):=by
 obtain⟨f,d,_,e⟩:=KZ h;have:=kW (H:=H) E1 E2 a hx (.inl ⟨rfl,rfl⟩) (by grind) (XS _) d
 grind
theorem yV{c:Call}{z:Value}(h:CU l 0 i=some l')(m:P.underlying T=some (.slice et))(g:∀w,(zeroValue et).run P w=.ok z w)(a:z.cells.size=k)(d:∀v∈z.cells,Qz v)(f:o.op=.call c:=by exact rfl)(hc:c={callee:=.builtin .clear,args:= #[x],argTypes:= #[T]}:=by exact rfl)
  (hx:AM env x=.osl b (0+i.toNat) (l.length-i.toNat) k:=by exact rfl)(hH:H[b]?=some (.row t k (l.map e)):=by exact rfl):CD P o env H (.tup []) (H.set b (.row t k (l'.map e))):=by
 obtain⟨n,p,j,q⟩:=KZ h;refine Qhe m g a d ?_ ?_ f hc hx hH
 .rw[Xv, <- j,List.map_take]
 grind
end
open Go.Sort Go.Proofs Go.Shelf
def B0(x y:Int):Bool:=decide (x<y)
def Cw(l:AA Int):AB (AA Int):=bif Nat.ble l.length QE then some (YH B0 l)else none
variable {l':AA Int}
theorem pj{l:AA Int}(h:Cw l=some l'):l.length<=QE/\YH B0 l=l':=by
 unfold Cw at h;cases e:Nat.ble l.length QE with
 |false=>grind
 |true=>simp_all
theorem lG{l:AA Int}(h:Cw l=some l'):l.length=l'.length:=by
 rw[<- (pj h).2];exact(Qu _ _).length_eq.symm
theorem Sk(l:AA Int):KH B0 l:=
 ⟨λx _=>by simp[B0],λx _ y _ z _ a b=>by simp[B0]at*;omega,λx _ y _ z _ a b=>by simp[B0]at*;omega⟩
theorem Qfb(l:AA Int):(l.mergeSort λx y=>decide (x<=y))=YH B0 l:=by
 refine JN ?_ ?_ ?_ (QV (Sk l))
 .grind[List.mergeSort_perm,Qu]
 .simp[B0]at*;omega
 grind[List.pairwise_mergeSort,B0]
theorem n_{ro:Nat->Prop}{U:AZ}{w:World}:∀{l:AA Int} {lv:AA Value},RL ro U w 1 (l.map λx=>[A.int .i64 x]) lv->∃rest,lv=l.map (Value.int .i64)++rest
 |[],lv,_=>⟨lv,rfl⟩
 |x::l,lv,h=>by
  obtain⟨l1,l2,rfl,h1,⟨h2,h3⟩,h4⟩:=h;obtain⟨rest,rfl⟩:=n_ h4;obtain⟨v,r,rfl,hv,hr⟩:=h2;cases(show r=[]from hr);exact⟨rest,by rw[show v=.int .i64 x from hv];simp⟩
theorem rm{ro:Nat->Prop}{U:AZ}{w:World}:∀(l:AA Int) (rest:AA Value),RL ro U w 1 (l.map λx=>[A.int .i64 x]) (l.map (Value.int .i64)++rest)
 |[],_=>trivial
 |x::l,rest=>⟨[.int .i64 x],l.map (Value.int .i64)++rest,by simp,rfl,⟨⟨_,_,rfl,rfl,rfl⟩,by simp[Qz]⟩,rm l rest⟩
theorem ny{P:Program}{ρ:Ren}(L:Lays.n189 P ρ){l:AA Int}(hs:Cw l=some l'):
  C P (ρ.f 189) [.osl 0 0 l.length 1] [.row t 1 (l.map λx=>[A.int .i64 x])] (λa H=>a=.tup []/\H=[.row t 1 (l'.map λx=>[A.int .i64 x])]):=by
 intro fr G U vals w s hv;obtain⟨vs,r1,rfl,af,hr⟩:=hv;cases(show r1=[]from hr);obtain⟨O,X⟩:=pj hs;have z:∀(ad:AB Addr) (c:Nat),vs=.slice ad 0 c->l=[]->
   Calls P (ρ.f 189) [vs].toArray w λe R=>∃v r H' ro' τ,e=.returned v/\(r=.tup []/\H'=[.row t 1 (l'.map λx=>[A.int .i64 x])])/\AU fr ro' (U++τ) H' R/\VR ro' (U++τ) R r v/\Qm fr G w ro' R:=by
  rintro ad c rfl rfl;have E:l'=[]:=by rw[<- X];rfl
  subst E;refine(Any.slices_Sort_int_none L ad c w).mono ?_;rintro e R ⟨rfl,rfl⟩;exact⟨_,_,_,G,[],rfl,⟨rfl,rfl⟩,by simpa using s,⟨[],rfl,rfl⟩,Qm.refl _ _ _⟩
 rcases af with⟨h0,rfl⟩|⟨b,p,cp,t',m,q1,rfl,q2,⟨q3,ai⟩,q4,q5⟩
 .grind
 .by_cases E:l=[]
  .grind
  .have ah:0<l.length:=List.length_pos_iff.2 E;obtain rfl:=q2 (Vb ah q3);obtain⟨lv,e1,e2⟩:=s.blk 0 _ _ q1 rfl;obtain⟨hb,V,Q⟩:=s.own 0 b _ q1 rfl rfl;obtain⟨d,rfl⟩:=n_ e2;have hH:Holds (Value.int .i64) w b 0 l.toArray:=by
    intro j hj
    simp_all[World.cell?,XK,World.frozen?]
   have g:=Any.slices_Sort_int L b 0 cp l w hH hb (by unfold QE at O;omega);rw[Qfb,X]at g;simp only[Nat.zero_mul]at g⊢;refine g.mono ?_;rintro e R ⟨rfl,n,os,rfl⟩;have aj:l.length=l'.length:=lG hs;generalize hW:grow (putRow (Value.int .i64) (Sort.ahead w n) b 0 l'.toArray) os=W;have ab:W.heap=w.heap.setIfInBounds b (.cells ((l'.map (Value.int .i64)++d)).toArray t (0,0))++os:=by
    rw[<- hW];show(w.heap.modify b _)++os=_;rw[Ww e1];simp only[onCells];congr 3;unfold putCells
    grind
   have g1:∀c,c<w.heap.size->c≠b->W.heap[c]?=w.heap[c]? :=by
    grind
   have g2:W.heap[b]?=some (.cells ((l'.map (Value.int .i64)++d)).toArray t (0,0)):=by
    grind
   have g3:w.heap.size<=W.heap.size:=by grind
   have k:∀c y,w.shape? c=some y->W.shape? c=some y:=by
    grind[World.shape?]
   have aa:W.os=w.os:=by rw[<- hW];rfl
   have ag:W.tape=w.tape:=by rw[<- hW];rfl
   have ac:W.output=w.output:=by rw[<- hW];rfl
   have ae:w.drawn<=W.drawn:=by rw[<- hW];exact Nat.le_add_right _ _
   have T:Qm fr G w G W:=
    ⟨λ_ q=>q,λc u=>g1 c (s.roLt c u) (λq=>V (q▸u)),λc u=>g1 c (s.frLt c u) (λq=>Q (q▸u)),g3,k,aa,ag,ac,ae⟩
   have B:U.length=1:=s.len;have M:AU fr G U [.row t 1 (l'.map λx=>[A.int .i64 x])] W:=by
    have N:∀{i:Nat} {x:AR},([.row t 1 (l'.map λx=>[A.int .i64 x])]:Qb)[i]?=some x->i=0/\x=.row t 1 (l'.map λx=>[A.int .i64 x]):=by
     intro i x h;cases i with
     |zero=>simp at h;exact⟨rfl,h.symm⟩
     |succ i=>simp at h
    refine⟨B,s.roOk.to (λ_ q=>q) T.keepRo (λc u=>Vb (s.roLt c u) g3),λc u=>Vb (s.frLt c u) g3,s.roFr,λi c x J F Y=>?_,λi j c x y J F Y h4 _ _=>?_,λi y x J F=>?_,λi b x c J F Y=>by obtain⟨rfl,rfl⟩:=N F;exact Y.elim⟩
    .obtain⟨rfl,rfl⟩:=N F;obtain⟨p1,p2⟩:=s.own 0 c _ J rfl rfl;exact⟨Vb p1 g3,p2⟩
    .rw[(N Y).1,(N h4).1]
    .obtain⟨rfl,rfl⟩:=N F;rw[q1]at J;cases J;exact⟨_,g2,rm l' d⟩
   exact⟨_,_,_,G,[],rfl,⟨rfl,rfl⟩,by simpa using M,⟨[],rfl,rfl⟩,T⟩
def IF(p:Int):AA Int->AA Int
 |[]=>[]
 |y::l=>bif y==p then IF p l else y::IF y l
def WD:AA Int->AA Int
 |[]=>[]
 |x::l=>x::IF x l
section
variable {P:Program} {o:Oper} {env:Env} {H:Qb} {α:Type} {e:α->AA A} {T et k b t:Nat} {x y:Operand}
theorem Yf{lo hi:AB Operand}{l r:AA α}{a c:Int}(h:CU l a c=some r)(E1:∀w,(underlying T).run P w=.ok (.slice et) w)(E2:∀w,(sizeOf et).run P w=.ok k w)
  (f:lo=none/\a=0\/ ∃y,lo=some y/\AM env y=.int .i64 a)(e:hi=none/\c=l.length\/ ∃y,hi=some y/\AM env y=.int .i64 c)
  (d:o.op=.slice T x lo hi none:=by exact rfl)(hx:AM env x=.osl b 0 l.length k:=by exact rfl):AK P o env H (.osl b (0+a.toNat) (c.toNat-a.toNat) k):=by
 obtain⟨i,j,g,_⟩:=WX h;refine kW E1 E2 d hx ?_ ?_ (by omega) (by omega)
 .grind
 grind
theorem O1{l r:AA α}{a c:Int}(h:CU l a c=some r)(hH:H[b]?=some (.row t k (l.map e)):=by exact rfl):D0 P H (.osl b (0+a.toNat) (c.toNat-a.toNat) k) k (r.map e):=by
 obtain⟨f,i,g,d⟩:=WX h;refine D0.osl hH ?_ (by grind);rw[<- d, <- List.map_drop, <- List.map_take,Xv,List.drop_take]
theorem kU{c:Call}{T' et et' i:Nat}{x y:Operand}{ya:A}{l l' m r:AA α}{z:Int}(hl:CU l 0 z=some l')(h:app l' m=some r)(E:Q2 P T et k)(g:∀w,(underlying T').run P w=.ok (.slice et') w)(f:D0 P H ya k (m.map e))
  (a:o.op=.call c:=by exact rfl)(hc:c={callee:=.builtin .append,args:= #[x,y],argTypes:= #[T,T']}:=by exact rfl)(hx:AM env x=.osl i (0+Int.toNat 0) (z.toNat-Int.toNat 0) k:=by exact rfl)
  (hH:H[i]?=some (.row et k (l.map e)):=by exact rfl)(hy:AM env y=ya:=by exact rfl):
  CD P o env H (.osl H.length 0 r.length k) (H.set i .dead++[.row et k (r.map e)]):=by
 obtain⟨p,rfl⟩:=bD h;obtain⟨s,j,d,q⟩:=KZ hl;have:=sq (n:=z.toNat) (gs:=(l'++m).map e) E g a hc hx hH (by grind) hy f (by grind) (by rw[<- List.map_take,d,Xg])
 grind
end
end Go.Sw
namespace Go.Sw
inductive Bx where
 |mk (a:A)
def SR:Env->Nat->Bx
 |[],_=>.mk .any
 |(d,a)::r,s=>bif Nat.beq s d then .mk a else SR r s
theorem jc:∀{env:Env} {s:Nat} {a:A},SR env s=.mk a->lk env s=a
 |[],s,a,h=>by cases h;rfl
 |(d,b)::r,s,a,h=>by
  unfold SR at h;unfold lk;cases q:Nat.beq s d with
  |true=>grind
  |false=>rw[q]at h;exact jc h
inductive FBy where
 |mk (l:List UInt8)
def U6:AA UInt8->FBy
 |[]=>.mk []
 |a::r=>match U6 r with
  |.mk r'=>.mk (a::r')
theorem nO:∀l,U6 l=.mk l
 |[]=>rfl
 |a::r=>by unfold U6;rw[nO r]
def BJ(env:Env):Operand->Bx
 |.tmp t=>SR env t
 |.const (.bool b)=>.mk (.bool b)
 |.const (.int k n)=>.mk (.int k n)
 |.const (.string s)=>match U6 s.data.toList with
  |.mk l=>.mk (.str l)
 |.const (.pointer none)=>.mk .nilp
 |.const (.slice none 0 0)=>.mk .nils
 |.const (.map none)=>.mk .nilm
 |.const .nilFunc=>.mk .nilf
 |.const .nilIface=>.mk .nilif
 |.func f=>.mk (.fn (.func f) [] [])
 |_=>.mk .any
theorem QU{env:Env}{x:Operand}{a:A}(h:BJ env x=.mk a):AM env x=a:=by
 cases x with
 |tmp t=>exact jc h
 |const v=>
  cases v with
  |slice b n k=>cases b with
   |none=>cases n with
    |zero=>cases k<;>(cases h;rfl)
    |succ n=>cases h;rfl
   |some b=>cases h;rfl
  |pointer p=>cases p<;>(cases h;rfl)
  |map p=>cases p<;>(cases h;rfl)
  |string s=>
   have d:(match U6 s.data.toList with|.mk l=>Bx.mk (.str l))=.mk a:=h;rw[nO]at d;cases d;rfl
  |_=>cases h;rfl
 |global g=>cases h;rfl
 |func f=>cases h;rfl
def Y0{α:Type}:AA α->Nat->AB α
 |[],_=>none
 |a::_,0=>some a
 |_::r,n+1=>Y0 r n
theorem KQ{α:Type}:∀(l:AA α) (n:Nat),Y0 l n=l[n]?
 |[],n=>by simp[Y0]
 |a::r,0=>rfl
 |a::r,n+1=>by simp[Y0,KQ r n]
def m3:BinOp->IntKind->Int->Int->AB A
 |.add,k,m,n=>some (.int k (k.wrap (m+n)))
 |.sub,k,m,n=>some (.int k (k.wrap (m-n)))
 |.mul,k,m,n=>some (.int k (k.wrap (m*n)))
 |.eql,_,m,n=>some (.bool (m==n))
 |.neq,_,m,n=>some (.bool (m != n))
 |.lss,_,m,n=>some (.bool (decide (m<n)))
 |.leq,_,m,n=>some (.bool (decide (m<=n)))
 |.gtr,_,m,n=>some (.bool (decide (n<m)))
 |.geq,_,m,n=>some (.bool (decide (n<=m)))
 |_,_,_,_=>none
def mi:BinOp->AA UInt8->AA UInt8->AB A
 |.eql,p,q=>some (.bool (p==q))
 |.neq,p,q=>some (.bool (p != q))
 |.lss,p,q=>some (.bool (Op.bytesLess p q))
 |_,_,_=>none
def jM(b:BinOp):Bx->Bx->AB A
 |.mk (.int k m),.mk (.int k' n)=>if k=k' then m3 b k m n else none
 |.mk (.str p),.mk (.str q)=>mi b p q
 |_,_=>none
def dL:UnOp->Bx->AB A
 |.not,.mk (.bool b)=>some (.bool !b)
 |.neg,.mk (.int k n)=>some (.int k (k.wrap (0-n)))
 |_,_=>none
def jF:Bx->Nat->AB A
 |.mk (.tup vs),i=>Y0 vs i
 |_,_=>none
def dW:Bx->AB A
 |.mk (.ptr i j)=>some (.ptr i j)
 |.mk (.rp cs)=>some (.rp cs)
 |_=>none
def dU:Bx->Bx->Bx->AB A
 |.mk (.bool true),.mk a,_=>some a
 |.mk (.bool false),_,.mk a=>some a
 |_,_,_=>none
def Hw(env:Env):Op->AB A
 |.move x=>match BJ env x with|.mk a=>some a
 |.assign x=>match BJ env x with|.mk a=>some a
 |.nilCheck x=>dW (BJ env x)
 |.extract x i=>jF (BJ env x) i
 |.unOp u _ x=>dL u (BJ env x)
 |.pick c x y=>dU (BJ env c) (BJ env x) (BJ env y)
 |.binOp b _ x y _=>jM b (BJ env x) (BJ env y)
 |_=>none
def pr(d:Nat):AB A->AB (Nat×A)
 |some a=>some (d,a)
 |none=>none
def Z4(o:Oper)(env:Env):AB (Nat×A):=
 match o.dst with
 |some d=>pr d (Hw env o.op)
 |none=>none
variable {T f t:Nat}{b:Bool}{r:AA A}
section
variable {P:Program} {h0 N:Nat} {all:Array Oper} {o:Oper} {l:AA Oper} {env:Env} {H H':Qb} {Q:QW} {d:Nat} {x:A}
theorem Nk{p:Op}(g:o.op=p)(h:Hw env p=some x):AK P o env H x:=by
 unfold Hw at h;split at h
 .rename_i y;cases q:BJ env y with|mk a=>simp_all[AK.move,QU]
 .rename_i y;cases q:BJ env y with|mk a=>simp_all[AK.assign,QU]
 .rename_i y;unfold dW at h;split at h
  .rename_i i j q;cases h;exact YS g (QU q) rfl
  .rename_i w q;cases h;exact YS g (QU q) rfl
  .cases h
 .rename_i y i;unfold jF at h
  grind[KQ,AK.extract,QU]
 .rename_i u t y;unfold dL at h
  grind[AK.not,QU,AK.neg]
 .rename_i c y z;unfold dU at h;split at h
  .rename_i a _ f d;cases h;exact AK.pick g (QU f) (by rw[Vp rfl];exact QU d)
  .rename_i a f d;cases h;exact AK.pick g (QU f) (by exact QU d)
  .cases h
 .rename_i b t y z u;unfold jM at h;split at h
  .rename_i k m s n f d;split at h
   .rename_i e;subst e;have l:=QU f;have r:=QU d;unfold m3 at h
    grind[AK.add,AK.sub,AK.mul,AK.eql,AK.neq,AK.lss,AK.leq,AK.gtr,AK.geq]
   .cases h
  .rename_i p q f d;have l:=QU f;have r:=QU d;unfold mi at h
   grind[kx,w6,w5]
  .cases h
 .cases h
theorem aU(h:Z4 o env=some (d,x)):o.dst=some d/\AK P o env H x:=by
 unfold Z4 at h;split at h
 .rename_i f q;cases e:Hw env o.op with
  |none=>rw[e]at h;cases h
  |some a=>rw[e]at h;cases h;exact⟨q,Nk rfl e⟩
 .cases h
theorem S(e:Z4 o env=some (d,x))(k:WO P h0 N all l (up env d x) H Q)(hg:Qy all o env true:=by exact rfl)(hN:Nat.blt d N=true:=by exact rfl):WO P h0 N all (o::l) env H Q:=
 QM hg (aU (P:=P) (H:=H) e).1 hN (aU e).2 k
theorem Sg(hg:Qy all o env true)(e:Z4 o env=some (d,x))(k:WO P h0 N all l (up env d x) H Q)(a:Nat.blt d N=true:=by exact rfl):WO P h0 N all (o::l) env H Q:=
 QM hg (aU (P:=P) (H:=H) e).1 a (aU e).2 k
theorem K(hg:Qy all o env false)(a:o.dst=some d)(k:WO P h0 N all l (up env d (.tup [])) H Q)(e:Nat.blt d N=true:=by exact rfl):WO P h0 N all (o::l) env H Q:=
 WO.skip hg a e k
theorem KF{j s:Nat}{c y:Bool}(e:y= !c)(a:o.dst=some d)(k:WO P h0 N all l (up env d (.tup [])) H Q)(f:Nat.blt d N=true:=by exact rfl)(hg:o.guard=some (j,c):=by exact rfl)(hs:(all[j]?).bind (·.dst)=some s:=by exact rfl)(hl:lk env s=.bool y:=by exact rfl):WO P h0 N all (o::l) env H Q:=
 WO.skip (gF e hg hs hl) a f k
def dV(v:Bool):Bx->Bx->Bx->AB (Bool×A)
 |.mk (.bool b),.mk a,.mk a'=>match v with|true=>some (b,a)|false=>some (b,a')
 |_,_,_=>none
def tY(d:Nat):AB (Bool×A)->AB (Nat×Bool×A)
 |some a=>some (d,a)
 |none=>none
def dT(v:Bool)(o:Oper)(env:Env):AB (Nat×Bool×A):=
 match o.dst,o.op with
 |some d,.pick c x y=>tY d (dV v (BJ env c) (BJ env x) (BJ env y))
 |_,_=>none
theorem uX{v:Bool}{p q r:Bx}(h:dV v p q r=some (b,x)):∃a a',p=.mk (.bool b)/\q=.mk a/\r=.mk a'/\(bif v then a else a')=x:=by
 obtain⟨p⟩:=p;obtain⟨q⟩:=q;obtain⟨r⟩:=r;cases p<;>first|(cases h)|skip
 cases v<;>cases h<;>exact(by simp)
theorem np{v:Bool}(h:dT v o env=some (d,b,x))(l:b=v):o.dst=some d/\AK P o env H x:=by
 unfold dT at h;split at h
 .rename_i p c y z g f;cases e:dV v (BJ env c) (BJ env y) (BJ env z)with
  |none=>rw[e]at h;cases h
  |some s=>
   rw[e]at h;cases h;obtain⟨a,k,i,j,n,m⟩:=uX e
   grind[AK.pick,QU]
 .cases h
theorem Pk{v:Bool}(a:b=v)(e:dT v o env=some (d,b,x))(k:WO P h0 N all l (up env d x) H Q)(hg:Qy all o env true:=by exact rfl)(hN:Nat.blt d N=true:=by exact rfl):WO P h0 N all (o::l) env H Q:=
 QM hg (np (P:=P) (H:=H) e a).1 hN (np e a).2 k
def Z9(o:Oper)(env:Env):AB (Nat×Nat×Nat×Nat×Nat):=
 match o.dst,o.op with
 |some d,.fieldAddr T x f=>match BJ env x with
  |.mk (.ptr i p)=>some (d,T,f,i,p)
  |_=>none
 |_,_=>none
theorem bB{off n i p:Nat}(a:QK P T f off n)(h:Z9 o env=some (d,T,f,i,p)):o.dst=some d/\AK P o env H (.ptr i (p+off)):=by
 grind[Z9,YK,QU]
theorem Fp{off n i p:Nat}(a:QK P T f off n)(e:Z9 o env=some (d,T,f,i,p))(k:WO P h0 N all l (up env d (.ptr i (p+off))) H Q)(hg:Qy all o env true:=by exact rfl)(hN:Nat.blt d N=true:=by exact rfl):WO P h0 N all (o::l) env H Q:=
 QM hg (bB (H:=H) a e).1 hN (bB a e).2 k
theorem Y'{off n i p:Nat}(hg:Qy all o env true)(a:QK P T f off n)(e:Z9 o env=some (d,T,f,i,p))(k:WO P h0 N all l (up env d (.ptr i (p+off))) H Q)(g:Nat.blt d N=true:=by exact rfl):WO P h0 N all (o::l) env H Q:=
 QM hg (bB (H:=H) a e).1 g (bB a e).2 k
inductive Lx where
 |mk (l:List A)
def Oo:Nat->AA A->Lx
 |0,l=>.mk l
 |n+1,_::r=>Oo n r
 |_+1,[]=>.mk []
theorem b8:∀{n:Nat} {l r:AA A},Oo n l=.mk r->l.drop n=r
 |0,l,r,h=>by cases h;rfl
 |n+1,a::l,r,h=>by rw[List.drop_succ_cons];exact b8 h
 |n+1,[],r,h=>by cases h;rfl
def Z8(off:Nat)(o:Oper)(env:Env):AB (Nat×Nat×Nat×AA A):=
 match o.dst,o.op with
 |some d,.fieldAddr T x f=>match BJ env x with
  |.mk (.rp cs)=>match Oo off cs with
   |.mk r=>some (d,T,f,r)
  |_=>none
 |_,_=>none
theorem bC{off n:Nat}(i:QK P T f off n)(h:Z8 off o env=some (d,T,f,r)):o.dst=some d/\AK P o env H (.rp r):=by
 unfold Z8 at h;split at h
 .split at h
  .rename_i a g;cases e:Oo off a with|mk r'=>rw[e]at h;grind[QD,QU,b8]
  .cases h
 .cases h
theorem Fr{off n:Nat}(a:QK P T f off n)(e:Z8 off o env=some (d,T,f,r))(k:WO P h0 N all l (up env d (.rp r)) H Q)(hg:Qy all o env true:=by exact rfl)(hN:Nat.blt d N=true:=by exact rfl):WO P h0 N all (o::l) env H Q:=
 QM hg (bC (H:=H) a e).1 hN (bC a e).2 k
theorem tT{off n:Nat}(hg:Qy all o env true)(a:QK P T f off n)(e:Z8 off o env=some (d,T,f,r))(k:WO P h0 N all l (up env d (.rp r)) H Q)(g:Nat.blt d N=true:=by exact rfl):WO P h0 N all (o::l) env H Q:=
 QM hg (bC (H:=H) a e).1 g (bC a e).2 k
def mz:AB AR->Nat->AB A
 |some (.cells _ cs),off=>Y0 cs off
 |_,_=>none
def dX(H:Qb):Bx->AB A
 |.mk (.ptr i off)=>mz (Y0 H i) off
 |.mk (.rp (a::_))=>some a
 |_=>none
def tX(d t:Nat):AB A->AB (Nat×Nat×A)
 |some a=>some (d,t,a)
 |none=>none
def Z7(o:Oper)(env:Env)(H:Qb):AB (Nat×Nat×A):=
 match o.dst,o.op with
 |some d,.load t x=>tX d t (dX H (BJ env x))
 |_,_=>none
theorem aR(l:∀w,(isAgg t).run P w=.ok false w)(h:Z7 o env H=some (d,t,x)):o.dst=some d/\AK P o env H x:=by
 unfold Z7 at h;split at h
 .rename_i u q y n k;cases e:dX H (BJ env y)with
  |none=>rw[e]at h;cases h
  |some a=>
   rw[e]at h;cases h;refine⟨n,?_⟩;unfold dX at e;split at e
   .rename_i i g j;unfold mz at e;split at e
    .rename_i g s T0 T cs q4;rw[KQ]at e q4;obtain⟨f,p⟩:∃f,cs.drop g=x::f:=by
      have m:=(XJ.1 e).1
      simp_all[Xq]
     exact AK.load k l (QU j) (BD.cells q4 p)
    .cases e
   .rename_i a r j;cases e;exact AK.load k l (QU j) BD.rp
   .cases e
 .cases h
theorem Ld(a:∀w,(isAgg t).run P w=.ok false w)(e:Z7 o env H=some (d,t,x))(k:WO P h0 N all l (up env d x) H Q)(hg:Qy all o env true:=by exact rfl)(hN:Nat.blt d N=true:=by exact rfl):WO P h0 N all (o::l) env H Q:=
 QM hg (aR a e).1 hN (aR a e).2 k
theorem l3(hg:Qy all o env true)(a:∀w,(isAgg t).run P w=.ok false w)(e:Z7 o env H=some (d,t,x))(k:WO P h0 N all l (up env d x) H Q)(f:Nat.blt d N=true:=by exact rfl):WO P h0 N all (o::l) env H Q:=
 QM hg (aR a e).1 f (aR a e).2 k
def SV(o:Oper)(env:Env):AB (Nat×Nat×Nat×AA (AA A)×IntKind×Int):=
 match o.dst,o.op with
 |some d,.indexAddr t x y=>match BJ env x,BJ env y with
  |.mk (.rsl k es),.mk (.int kk i)=>some (d,t,k,es,kk,i)
  |_,_=>none
 |_,_=>none
theorem Ix{α:Type}{e:α->AA A}{a k:Nat}{L:AA α}{m:IntKind}{i:Int}{v:α}(h:AJ L i=some v)(p:∀w,(underlying t).run P w=.ok (.slice a) w)(s:∀w,(sizeOf a).run P w=.ok k w)
  (q:SV o env=some (d,t,k,L.map e,m,i))(k:WO P h0 N all l (up env d (.rp (e v))) H Q)(hg:Qy all o env true:=by exact rfl)(hN:Nat.blt d N=true:=by exact rfl):WO P h0 N all (o::l) env H Q:=by
 unfold SV at q;split at q
 .rename_i j f;split at q
  .rename_i r g;simp[Option.some.injEq,Prod.mk.injEq]at q;obtain⟨rfl,rfl,rfl,n,rfl,rfl⟩:=q;exact QM hg j hN (O5 h p s f (by rw[QU r,n]) (QU g)) k
  .cases q
 .cases q
def SQ(o:Oper)(env:Env):AB (Nat×Nat×Bx):=
 match o.dst,o.op with
 |some d,.call c=>match c with
  |{callee:=.builtin .len,args:=⟨[x]⟩,argTypes:=⟨[t]⟩}=>some (d,t,BJ env x)
  |_=>none
 |_,_=>none
theorem uv{b:Bx}(q:SQ o env=some (d,t,b)):∃x,o.dst=some d/\o.op=.call {callee:=.builtin .len,args:= #[x],argTypes:= #[t]}/\BJ env x=b:=by
 unfold SQ at q
 grind
theorem TB{α:Type}{e:α->AA A}{k:Nat}{L:AA α}(h:∀w,(underlying t).run P w=.ok (.slice f) w)(q:SQ o env=some (d,t,.mk (.rsl k (L.map e))))
  (k:WO P h0 N all l (up env d (.int .i64 L.length)) H Q)(hg:Qy all o env true:=by exact rfl)(hN:Nat.blt d N=true:=by exact rfl):WO P h0 N all (o::l) env H Q:=by
 obtain⟨x,g,a,i⟩:=uv q;exact QM hg g hN (vE h a rfl (QU i)) k
end
section
variable {P:Program} {h0 N:Nat} {all:Array Oper} {env env':Env} {H H':Qb} {Q:QW} {c c':Code}
theorem Oi{α:Type}{x y:α}(h:some x=some y):x=y:=XX h
theorem Bd{α β:Type}{x:AB α}{f:α->AB β}{r:β}{G:Prop}(h:x.bind f=some r)(k:∀a,x=some a->f a=some r->G):G:=by
 obtain⟨a,e,d⟩:=YE h
 grind
theorem If{α:Type}{c:Bool}{x y:AB α}{r:α}{G:Prop}(h:(bif c then x else y)=some r)(t:c=true->x=some r->G)(e:c=false->y=some r->G):G:=by
 grind
theorem Cn{α:Type}{x:Operand}{t:Bool}{p q:AB α}{r:α}(hx:BJ env x=.mk (.bool t))(h:(bif t then p else q)=some r)(ht:t=true->p=some r->TC P h0 N c env H Q)(hf:t=false->q=some r->TC P h0 N c' env H Q):TC P h0 N (.cond x c c') env H Q:=
 TC.cond (QU hx) (by grind) (by grind)
theorem Q5{α:Type}{x:Operand}{t:Bool}{p q:AB α}{r:α}(hx:BJ env x=.mk (.bool t))(h:(bif t then p else q)=some r)(hf:t=false->q=some r->TC P h0 N c' env H Q)(ht:t=true->p=some r->TC P h0 N c env H Q):TC P h0 N (.cond x c c') env H Q:=
 TC.cond (QU hx) (by grind) (by grind)
theorem tV{x:Operand}{t:Bool}(h:t=false)(hx:BJ env x=.mk (.bool t))(hf:TC P h0 N c' env H Q):TC P h0 N (.cond x c c') env H Q:=kY (QU hx) h hf
theorem Lr(π:AA Nat)(a:π.take h0=List.range h0:=by exact rfl)(hH:π.map (λp=>H[p]?)=(H'.map (Q9 (Af π H.length))).map some:=by exact rfl)(hπ:π.Nodup:=by decide)
  (hE:Fk (Af π H.length) env env':=by(repeat' (first|exact trivial|refine⟨rfl,?_⟩))):Le h0 env H env' H':=nK π a hH hπ hE
end
variable {α:Type}
def Ev(f:Nat->AB α)(v:α):Prop:=∃N,∀n,N<=n->f n=some v
variable {k:Nat}
section
variable {α β:Type} {f g:Nat->AB α} {v w:α}
theorem Qa(v:α):Ev (λ_=>some v) v:=⟨0,λ_ _=>rfl⟩
theorem Ev.const{o:AB α}(h:o=some v):Ev (λ_=>o) v:=⟨0,λ_ _=>h⟩
theorem Ev.bind{k:Nat->α->AB β}{b:β}(h:Ev f v)(a:Ev (λn=>k n v) b):Ev (λn=>(f n).bind (k n)) b:=by
 obtain⟨N,h⟩:=h;obtain⟨M,a⟩:=a;exact⟨max N M,λn d=>by grind⟩
theorem Jh{o:AB α}{k:Nat->α->AB β}{b:β}(h:o=some v)(hk:Ev (λn=>k n v) b):Ev (λn=>o.bind (k n)) b:=Ev.bind (Ev.const h) hk
theorem KP{c:Bool}(d:c=true->Ev f v)(a:c=false->Ev g w):Ev (λn=>bif c then f n else g n) (bif c then v else w):=by
 cases c with
 |true=>exact d rfl
 |false=>exact a rfl
theorem Ot(h:Ev f v):Ev (λn=>bif true then f n else g n) v:=h
theorem Yc(h:Ev g v):Ev (λn=>bif false then f n else g n) v:=h
theorem Ev.and{c d:Bool}{h:Nat->AB Bool}(a:c=true->Ev h d):Ev (λn=>bif c then h n else some false) (c&&d):=by
 cases c with
 |true=>exact a rfl
 |false=>exact Qa _
theorem Ev.or{c d:Bool}{h:Nat->AB Bool}(a:c=false->Ev h d):Ev (λn=>bif c then some true else h n) (c||d):=by
 cases c with
 |true=>exact Qa _
 |false=>exact a rfl
theorem Ev.eq(h:Ev f v)(e:v=w):Ev f w:=e▸h
theorem Wk(h:Ev f v)(e:∀n,g n=f n):Ev g v:=by
 obtain⟨N,h⟩:=h;exact⟨N,λn a=>by grind⟩
theorem QX(h:Ev (λn=>f (n+1)) v):Ev f v:=by
 obtain⟨N,h⟩:=h;refine⟨N+1,λn a=>?_⟩;obtain⟨m,rfl⟩:∃m,n=m+1:=⟨n-1,by omega⟩
 grind
theorem Ev.ex(h:Ev f v):∃n,f n=some v:=let⟨N,h⟩:=h;⟨N,h N (XR _)⟩
theorem Ev.all{F:Nat->Nat->AB α}{V:Nat->α}(h:∀i,i<k->Ev (F i) (V i)):∃N,∀n,N<=n->∀i,i<k->F i n=some (V i):=by
 induction k with
 |zero=>simp
 |succ k a=>
  obtain⟨N,f⟩:=a (by grind);obtain⟨M,g⟩:=h k (by omega);refine⟨max N M,λn d i e=>?_⟩
  grind
end
variable {β:Type}
section
variable {S B α:Type} {step:Nat->S->AB (AG S B)}
theorem Ev.iter{d:S}(a:Nat->S)(k:Nat){b:B}(h0:a 0=d)(e:∀i,i<k->Ev (λn=>step n (a i)) (.k (a (i+1))))(f:Ev (λn=>step n (a k)) (.d b)):
  Ev (λn=>Go.Sw.iter (step n) n d) b:=by
 obtain⟨N,j⟩:=Ev.all e;obtain⟨M,g⟩:=f;exact⟨max (max N M) (k+1),λn h=>wL d a b k h0 (by grind) (g n (by omega)) n (by omega)⟩
theorem cK{step:S->AB (AG S B)}{s:S}{b:B}(m:Nat)(h:Go.Sw.iter step m s=some b):Ev (λn=>Go.Sw.iter step n s) b:=by
 have mono:∀m s,Go.Sw.iter step m s=some b->∀n,m<=n->Go.Sw.iter step n s=some b:=by
  intro m
  induction m with
  |zero=>intro s h;cases h
  |succ m e=>
   intro s h n d;obtain⟨a,rfl⟩:∃a,n=a+1:=⟨n-1,by omega⟩
   grind[Go.Sw.iter]
 exact⟨m,(by grind)⟩
structure At (l:List α) (i:Nat) (x:α):Prop where
 get:l[i]?=some x
 lt:decide ((i:Int)<(l.length:Int))=true
 ix:AJ l (i:Int)=some x
 nx:IntKind.i64.wrap ((i:Int)+1)=((i+1:Nat):Int)
theorem JB{l:AA α}{i:Nat}{x:α}(hl:l.length<=4611686018427387904)(h:l[i]?=some x):At l i x:=by
 have a:=(XJ.1 h).1;exact⟨h,(by grind),Yi h,Ya (by omega)⟩
theorem At.mem{l:AA α}{i:Nat}{x:α}(h:At l i x):x∈l:=VD h.get
theorem At.lt'{l:AA α}{i:Nat}{x:α}(h:At l i x):i<l.length:=(XJ.1 h.get).1
theorem At.take{l:AA α}{i:Nat}{x:α}(h:At l i x):l.take (i+1)=l.take i++[x]:=by
 rw[List.take_add_one,h.get];rfl
theorem Hl(l:AA α):decide ((l.length:Int)<(l.length:Int))=false:=(by simp)
theorem Jt{p:S}(l:AA α)(q:α->Bool)(a:Nat->S)(g b:B)(hl:l.length<=4611686018427387904)(h0:a 0=p)
  (t:∀i x,At l i x->q x=false->Ev (λn=>step n (a i)) (.k (a (i+1))))
  (f:∀i x,At l i x->q x=true->Ev (λn=>step n (a i)) (.d g))
  (u:Ev (λn=>step n (a l.length)) (.d b)):Ev (λn=>Go.Sw.iter (step n) n p) (bif l.any q then g else b):=by
 have d:∀k,k<=l.length->(∀i x,l[i]?=some x->i<k->q x=false)\/ ∃i x,l[i]?=some x/\i<k/\q x=true/\ ∀j y,l[j]?=some y->j<i->q y=false:=by
  intro k
  induction k with
  |zero=>simp
  |succ k z=>
   grind
 rcases d l.length (XR _)with h|⟨i,x,s,E,r,F⟩
 .have:l.any q=false:=by
   rw[VI];intro e;obtain⟨x,f,e⟩:=Xu.1 e;obtain⟨i,m,rfl⟩:=List.getElem_of_mem f
   grind
  rw[this];exact Ev.iter a l.length h0 (λi m=>t i _ (JB hl (XI m)) (by grind)) u
 .have:l.any q=true:=(by grind);rw[this];refine Ev.iter a i h0 (λj w=>?_) (f i x (JB hl s) r)
  grind[JB]
theorem QA{j:S}(l:AA α)(g:β->α->β)(d:β)(e:β->Nat->S)(f:β->B)(hl:l.length<=4611686018427387904)(h0:e d 0=j)
  (k:∀i x a,At l i x->a=(l.take i).foldl g d->Ev (λn=>step n (e a i)) (.k (e (g a x) (i+1))))
  (p:Ev (λn=>step n (e (l.foldl g d) l.length)) (.d (f (l.foldl g d)))):Ev (λn=>Go.Sw.iter (step n) n j) (f (l.foldl g d)):=by
 refine Ev.iter (λi=>e ((l.take i).foldl g d) i) l.length (by grind) (λi m=>?_) (by grind);have h:=JB hl (XI m);have:=k i _ _ h rfl;rw[h.take,List.foldl_append];exact this
theorem Ev.contains(l:AA α)(q:α->Bool)(g:Nat->α->AB Bool)(hl:l.length<=4611686018427387904)(hg:∀x∈l,Ev (λn=>g n x) (q x)):
  Ev (λn=>(((Go.Sw.iter (λs:Int=>bif s<(l.length:Int) then(AJ l s).bind λx=>(g n x).bind λr=>(bif r then some (AG.d (AG.d s))else some (AG.k (IntKind.i64.wrap (s+1))))else some (AG.d (AG.k ()))) n (0:Int):AB (AG Unit Int)).bind λb=>
   match b with
   |.k _=>some (-1)
   |.d s=>some s):AB Int).bind λr=>some (decide (0<=r))) (l.any q):=by
 cases e:l.any q with
 |false=>
  refine Ev.bind (v:=(-1:Int)) (Ev.bind (v:=AG.k ()) (Ev.iter (λi=>(i:Int)) l.length rfl (λi u=>?_) ?_) (Qa _)) (Qa _)
  .have a:=JB (x:=l[i]) hl (XI u);simp only[a.lt,Vk,a.ix,XH];have t:q l[i]=false:=by
    grind
   refine Ev.bind ((hg _ a.mem).eq t) ?_;simp only[Vl,a.nx];exact Qa _
  simp_all[Qa]
 |true=>
  obtain⟨x,z,h⟩:=Xu.1 e;have d:∀k,k<=l.length->(∀(i:Nat) (x:α),l[i]?=some x->i<k->q x=false)\/ ∃(i:Nat) (x:α),l[i]?=some x/\i<k/\q x=true/\ ∀(j:Nat) (y:α),l[j]?=some y->j<i->q y=false:=by
   intro k
   induction k with
   |zero=>simp
   |succ k B=>
    grind
  rcases d l.length (XR _)with E|⟨i,x,p,F,m,w⟩
  .obtain⟨j,f,rfl⟩:=List.getElem_of_mem z
   grind
  .refine Ev.bind (v:=(i:Int)) (Ev.bind (v:=AG.d (i:Int)) (Ev.iter (λi=>(i:Int)) i rfl (λj f=>?_) ?_) (Qa _)) ?_
   .have a:=JB (x:=l[j]) hl (XI (by omega));simp only[a.lt,Vk,a.ix,XH];refine Ev.bind ((hg _ a.mem).eq (w j _ a.get f)) ?_;simp only[Vl,a.nx];exact Qa _
   .have a:=JB hl p;simp only[a.lt,Vk,a.ix,XH];refine Ev.bind ((hg _ a.mem).eq m) ?_;exact Qa _
   simp_all[Qa]
end
section
variable {S B α:Type} {step:Nat->S->AB (AG S B)}
theorem zm{f:S}(a:Nat->S)(k:Nat)(R:Nat->B)(h0:a 0=f)(s:∀i,i<k->(Ev (λn=>step n (a i)) (.k (a (i+1)))/\R i=R (i+1))\/Ev (λn=>step n (a i)) (.d (R i)))
  (q:Ev (λn=>step n (a k)) (.d (R k))):Ev (λn=>Go.Sw.iter (step n) n f) (R 0):=by
 have d:∀m,m<=k->(∀i,i<m->Ev (λn=>step n (a i)) (.k (a (i+1)))/\R i=R (i+1))\/ ∃j,j<m/\(∀i,i<j->Ev (λn=>step n (a i)) (.k (a (i+1)))/\R i=R (i+1))/\Ev (λn=>step n (a j)) (.d (R j)):=by
  intro m
  induction m with
  |zero=>simp
  |succ m g=>
   grind
 have same:∀m,(∀i,i<m->R i=R (i+1))->R 0=R m:=by
  intro m
  induction m with
  |zero=>intro _;rfl
  |succ m g=>grind
 rcases d k (XR _)with h|⟨j,r,p,l⟩
 .rw[same k λi e=>(h i e).2];exact Ev.iter a k h0 (by grind) q
 .rw[same j λi e=>(p i e).2];exact Ev.iter a j h0 (by grind) l
theorem At.drop{l:AA α}{i:Nat}{x:α}(h:At l i x):l.drop i=x::l.drop (i+1):=by
 have:=h.lt';rw[Xq this,(XJ.1 h.get).2]
theorem cV{s0:S}(l:AA α)(st:Nat->S)(R:Nat->B)(hl:l.length<=4611686018427387904)(h0:st 0=s0)
  (hc:∀i x,At l i x->(Ev (λn=>step n (st i)) (.k (st (i+1)))/\R i=R (i+1))\/Ev (λn=>step n (st i)) (.d (R i)))
  (hd:Ev (λn=>step n (st l.length)) (.d (R l.length))):Ev (λn=>Go.Sw.iter (step n) n s0) (R 0):=
 zm st l.length R h0 (λi hi=>hc i _ (JB hl (XI hi))) hd
end
variable {γ:Type}
section
variable {α β:Type} [DecidableEq α]
theorem S7(p:α×β)(l:AA (α×β))(k:α):Yv (p::l) k=if p.1=k then some p.2 else Yv l k:=by
 grind[Yv]
theorem yG(p:α×β)(l:AA (α×β))(k:α)(v:β):QR (p::l) k v=if p.1=k then(p.1,v)::l.map (λq=>bif q.1=k then(q.1,v)else q)else p::QR l k v:=by
 unfold QR
 grind
theorem xY(l:AA (α×β))(k a:α)(v:β)(h:a≠k):Yv (l.map λq=>bif q.1=k then(q.1,v)else q) a=Yv l a:=by
 induction l with
 |nil=>rfl
 |cons p l d=>
  grind[S7]
theorem YQ(l:AA (α×β))(k a:α)(v:β):Yv (QR l k v) a=if a=k then some v else Yv l a:=by
 induction l with
 |nil=>
  show Yv ([]++[(k,v)]) a=_;rw[Vd,S7]
  grind
 |cons p l d=>
  rw[yG];by_cases e:p.1=k
  .rw[Vp e,S7,S7];by_cases h:a=k
   .grind
   .have:p.1≠a:=(by grind)
    simp_all[xY]
  .rw[Vn e,S7,S7,d]
   grind
theorem yF(k:α)(z:β):QH ([]:AA (α×β)) k z=z:=rfl
theorem rz(l:AA (α×β))(k a:α)(v z:β):QH (QR l k v) a z=if a=k then v else QH l a z:=by
 grind[QH,YQ]
theorem lC(l:AA (α×β))(k:α)(v:β):(QR l k v).map (·.1)=if k∈l.map (·.1)then l.map (·.1)else l.map (·.1)++[k]:=by
 unfold QR;have e:(l.any λp=>decide (p.1=k))=decide (k∈l.map (·.1)):=by
  grind
 rw[e];by_cases h:k∈l.map (·.1)
 .rw[Vq h,Vp h,Vk,List.map_map];apply List.map_congr_left
  grind
 grind
def Yu(key:γ->α)(v:β)(l:AA γ):AA (α×β):=l.foldl (λm x=>QR m (key x) v) []
theorem tC(a:γ->α)(v:β)(l:AA γ)(x:γ):Yu a v (l++[x])=QR (Yu a v l) (a x) v:=by
 unfold Yu;simp
theorem lX(a:γ->α)(v z:β)(l:AA γ)(k:α):QH (Yu a v l) k z=if k∈l.map a then v else z:=by
 have d:∀(l:AA γ) (m:AA (α×β)),QH (l.foldl (λm x=>QR m (a x) v) m) k z=if k∈l.map a then v else QH m k z:=by
  intro l
  induction l with
  |nil=>simp
  |cons x l e=>
   intro m;rw[XC,e,rz]
   grind
 exact d l []
theorem tO(a:γ->α)(v:β)(l:AA γ):(Yu a v l).length<=l.length/\((Yu a v l).length=l.length↔(l.map a).Nodup):=by
 have f:∀(l:AA γ) (m:AA (α×β)),(m.map (·.1)).Nodup->(l.foldl (λm x=>QR m (a x) v) m).length<=m.length+l.length/\((l.foldl (λm x=>QR m (a x) v) m).length=m.length+l.length↔(m.map (·.1)++l.map a).Nodup):=by
  intro l
  induction l with
  |nil=>simp
  |cons x l g=>
   intro m j;have e:=lC m (a x) v;have d:(QR m (a x) v).length=((QR m (a x) v).map (·.1)).length:=by simp
   by_cases h:a x∈m.map (·.1)
   .grind
   .rw[Vn h]at e;have i:((QR m (a x) v).map (·.1)).Nodup:=by
     grind
    grind
 grind[Yu]
end
theorem JK(l:AA α)(p:α->Bool)(g:Nat->α->AB Bool)(hl:l.length<=4611686018427387904)(hg:∀x∈l,Ev (λn=>g n x) (p x)):
  Ev (λn=>(((Go.Sw.iter (λs:Int=>bif s<l.length then(AJ l s).bind λx=>((g n x).bind λr1=>some (!r1)).bind λr=>(bif r then some (AG.d (AG.d s))else some (AG.k (IntKind.i64.wrap (s+1))))else some (AG.d (AG.k ()))) n 0).bind λb=>
   match b with
   |.k _=>some (-1)
   |.d s=>some s).bind λr=>some (decide (0<=r))).bind λr=>some (!r)) (l.all p):=by
 refine Ev.bind (Ev.contains l (λx=> !p x) (λn x=>(g n x).bind λr1=>some (!r1)) hl λx a=>Ev.bind (hg x a) (Qa _)) ((Qa _).eq ?_)
 grind
def K9{α κ:Type}[DecidableEq κ](ok:α->Bool)(key:α->κ):AA κ->AA α->Bool
 |_,[]=>true
 |seen,x::r=>ok x&& !seen.contains (key x)&&K9 ok key (seen++[key x]) r
theorem kA{α κ:Type}[DecidableEq κ](ok:α->Bool)(d:α->κ):∀(l:AA α) (a:AA κ),a.Nodup->K9 ok d a l=(l.all ok&&decide ((a++l.map d).Nodup))
 |[],a,h=>by simp[K9,h]
 |x::r,a,h=>by
  simp[K9,Vf];by_cases hk:d x∈a
  .grind
  .have hn:(a++[d x]).Nodup:=by
    grind
   rw[kA ok d r _ hn]
   grind
variable {B:Type}
theorem jX{κ:Type}[DecidableEq κ]{step:Nat->Int->AB (AG Int B)}(l:AA α)(ok:α->Bool)(a:α->κ)(d b:B)(hl:l.length<=4611686018427387904)
  (h:∀i x,At l i x->ok x=true->((l.take i).map a).contains (a x)=false->Ev (λn=>step n (i:Int)) (.k ((i+1:Nat):Int)))
  (k:∀i x,At l i x->ok x=false->Ev (λn=>step n (i:Int)) (.d d))
  (j:∀i x,At l i x->ok x=true->((l.take i).map a).contains (a x)=true->Ev (λn=>step n (i:Int)) (.d d))
  (g:Ev (λn=>step n (l.length:Int)) (.d b)):Ev (λn=>Go.Sw.iter (step n) n 0) (bif l.all ok&&decide ((l.map a).Nodup)then b else d):=by
 have e:=kA ok a l [] (by simp);rw[Vd]at e;rw[<- e];refine cV l (λi=>(i:Int)) (λi=>bif K9 ok a ((l.take i).map a) (l.drop i)then b else d) hl rfl (λi x f=>?_) ?_
 .rw[f.drop];simp only[K9];rw[show(l.take i).map a++[a x]=(l.take (i+1)).map a by rw[f.take];simp]
  grind
 .rw[Xs];exact g
theorem cC{κ:Type}[DecidableEq κ]{step:Nat->Int->AB (AG Int B)}(l:AA α)(i:Nat)(a:α->κ)(k:κ)(f b:B)(hl:l.length<=4611686018427387904)(hi:i<=l.length)
  (s:∀j y,j<i->At l j y->decide (a y=k)=false->Ev (λn=>step n (j:Int)) (.k ((j+1:Nat):Int)))
  (t:∀j y,j<i->At l j y->decide (a y=k)=true->Ev (λn=>step n (j:Int)) (.d f))
  (r:Ev (λn=>step n (i:Int)) (.d b)):Ev (λn=>Go.Sw.iter (step n) n 0) (bif ((l.take i).map a).contains k then f else b):=by
 have e:((l.take i).map a).contains k=(l.take i).any λy=>decide (a y=k):=by
  grind
 rw[e];have g:(l.take i).length=i:=by simp;omega
 have p:∀j y,At (l.take i) j y->j<i/\At l j y:=by
  intro j y d;have q:=d.lt';have h:=d.get
  grind[JB]
 refine Jt (l.take i) (λy=>decide (a y=k)) (λi=>(i:Int)) _ _ (by omega) rfl (λj y d m=>?_) (λj y d m=>?_) ?_
 .grind
 .grind
 grind
theorem lj{κ:Type}[DecidableEq κ]{step:Nat->AA (κ×β)×Int->AB (AG (AA (κ×β)×Int) (AA (κ×β)))}(l:AA α)(key:α->κ)(v:β)(hl:l.length<=4611686018427387904)
  (hc:∀i x m,At l i x->Ev (λn=>step n (m,(i:Int))) (.k (QR m (key x) v,((i+1:Nat):Int))))
  (hd:∀m,Ev (λn=>step n (m,(l.length:Int))) (.d m)):Ev (λn=>Go.Sw.iter (step n) n ([],0)) (Yu key v l):=
 QA l (λm x=>QR m (key x) v) [] (λm i=>(m,(i:Int))) (λm=>m) hl rfl (by grind) (hd _)
theorem Ev.shift{α:Type}{f:Nat->AB α}{v:α}(h:Ev f v):Ev (λn=>f (n+1)) v:=by
 obtain⟨N,h⟩:=h;exact⟨N,(by grind)⟩
def BH{S:Type}(step:Nat->S->AB (AG S B))(s:S)(b:B):Prop:=∃N,∀n k,N<=n->N<=k->Go.Sw.iter (step n) k s=some b
section
variable {S B:Type} {step:Nat->S->AB (AG S B)} {s s':S} {b:B}
theorem BH.done(h:Ev (λn=>step n s) (.d b)):BH step s b:=by
 obtain⟨N,h⟩:=h;refine⟨N+1,λn k e d=>?_⟩;obtain⟨a,rfl⟩:∃a,k=a+1:=⟨k-1,by omega⟩
 grind[Go.Sw.iter]
theorem BH.cont(h:Ev (λn=>step n s) (.k s'))(q:BH step s' b):BH step s b:=by
 obtain⟨N,h⟩:=h;obtain⟨M,q⟩:=q;refine⟨max N M+1,λn k e d=>?_⟩;obtain⟨a,rfl⟩:∃a,k=a+1:=⟨k-1,by omega⟩
 grind[Go.Sw.iter]
theorem BH.ev(h:BH step s b):Ev (λn=>Go.Sw.iter (step n) n s) b:=by
 obtain⟨N,h⟩:=h;exact⟨N,λn a=>h n n a a⟩
theorem BH.eq{b':B}(h:BH step s b)(e:b=b'):BH step s b':=e▸h
end
variable {l:AA α}
theorem Qw{r:AA α}{i:Nat}{x:α}(hl:l.length<=4611686018427387904)(h:l.drop i=x::r):At l i x/\l.drop (i+1)=r:=by
 have a:l[i]?=some x:=by
  have:=congrArg (λl=>l[0]?) h
  grind
 refine⟨JB hl a,?_⟩;have:=(JB hl a).drop
 grind
theorem QY{i:Nat}(h:l.drop i=[])(hi:i<=l.length):decide ((i:Int)<(l.length:Int))=false:=by
 simp_all
theorem Z.{u}{α:Sort u}{a:α}:a=a:=rfl
section
variable {P:Program} {h0 N:Nat} {all:Array Oper} {env:Env} {H H':Qb} {Q:QW} {l:AA Oper} {o:Oper} {d:Nat}
theorem aV(x:A)(H:Qb){x':A}{H':Qb}(a:x'=x)(hH:H'=H)(k:WO P h0 N all l (up env d x) H Q):WO P h0 N all l (up env d x') H' Q:=by subst a;subst hH;exact k
theorem vX(x:A)(a:AK P o env H x)(k:WO P h0 N all l (up env d x) H Q)(hg:Qy all o env true:=by exact rfl)(hd:o.dst=some d:=by exact rfl)(hN:Nat.blt d N=true:=by exact rfl):WO P h0 N all (o::l) env H Q:=
 QM hg hd hN a k
theorem Wp:WO P h0 N all [] env H (Y6 env H):=WO.nil Y6.mk
end
section
variable {P:Program} {o:Oper} {env:Env} {H:Qb}
theorem uD{ro:Nat->Prop}{U:AZ}{w:World}(g:GP w){b:Nat}{zs:AA Int}(h:KC[b]?=some zs):∀(i:Nat),CR ro U w b ((zs.drop i).map (A.int .i64)) i:=by
 intro i;generalize hl:zs.drop i=l
 induction l generalizing i with
 |nil=>trivial
 |cons z l e=>
  have d:zs[i]?=some z:=by
   have:=congrArg (·[0]?) hl
   grind
  have a:zs.drop (i+1)=l:=by
   rw[<- List.drop_drop,hl];rfl
  exact⟨⟨_,g.tab b zs h i z d,by simp[Qz],rfl⟩,e (i+1) a⟩
theorem rR{n g:Nat}{zs:AA Int}(i:∀w,(isAgg t).run P w=.ok true w)(j:∀w,(sizeOf t).run P w=.ok n w)(hg:KC[g]?=some zs)(hl:zs.length=n)(e:o.op=.load t (.global g):=by exact rfl):
  AK P o env H (.agg (zs.map (A.int .i64))):=by
 intro k ro U N a w r;obtain⟨l,d,_,h⟩:=YG (P:=P) 0 (by simpa using uD (ro:=ro) (U:=U) r.sim.roOk.gp hg 0);refine⟨.agg l.toArray,?_,l,rfl,d⟩;have f:a.eval (.global g)=.pointer (some ⟨g,0,none⟩):=rfl
 simp_all[execOp,Instr.loadAt,Instr.sureAddr,loadVar,loadCells]
end
open Go.Proofs
variable {cells:α->AA A}{h:Nat}
section
variable {P:Program}
def TM(agg:Bool)(l:AA Value):Value:=bif agg then .agg l.toArray else l.headD .nilFunc
structure Fi (P:Program) (t:TypeId) (h k:Nat) (agg:Bool) (ok:List Value->Prop):Prop where
 len:∀l,ok l->l.length=k
 ia:∀w,(isAgg t).run P w=.ok agg w
 so:∀w,(sizeOf t).run P w=.ok k w
 eq:∀(w:World) (d:Nat) (l m:List Value),ok l->ok m->∃b:Bool,(Op.equalIn (d+h) t (TM agg l) (TM agg m)).run P w=.ok b w/\(b=true↔l=m)
structure Ao (P:Program) (fs:List Field) (h off k:Nat) (ok:List Value->Prop):Prop where
 len:∀l,ok l->l.length=k
 eq:∀(w:World) (d:Nat) (p q l m:List Value),p.length=off->q.length=off->ok l->ok m->∃b:Bool,(Op.eqFields (d+h) (p++l).toArray (q++m).toArray fs).run P w=.ok b w/\(b=true↔l=m)
theorem Fi.int{t:TypeId}{k:IntKind}(a:P.underlying t=some (.int k))(e:∀w,(isAgg t).run P w=.ok false w)(f:∀w,(sizeOf t).run P w=.ok 1 w)(h:Nat):Fi P t (h+1) 1 false (λl=>∃n:Int,l=[.int k n]):=by
 refine⟨?_,e,f,?_⟩
 .simp
 .rintro w d _ _ ⟨n,rfl⟩ ⟨m,rfl⟩;exact⟨_,run_equalIn_int w (d+h) t k k n m a,by simp⟩
theorem Fi.bool{t:TypeId}(a:P.underlying t=some .bool)(e:∀w,(isAgg t).run P w=.ok false w)(f:∀w,(sizeOf t).run P w=.ok 1 w)(h:Nat):Fi P t (h+1) 1 false (λl=>∃n:Bool,l=[.bool n]):=by
 refine⟨?_,e,f,?_⟩
 .simp
 .rintro w d _ _ ⟨n,rfl⟩ ⟨m,rfl⟩;exact⟨_,run_equalIn_bool' w (d+h) t n m a,by simp⟩
theorem Ao.nil(h off:Nat):Ao P [] h off 0 (λl=>l=[]):=by
 refine⟨?_,?_⟩
 .simp
 simp_all[Op.eqFields]
theorem py{t:TypeId}{agg:Bool}{w:World}(d:∀w,(isAgg t).run P w=.ok agg w)(g:∀w,(sizeOf t).run P w=.ok k w)(p a e:AA Value)(hl:a.length=k)(f:agg=false->k=1):
  (part t (p++(a++e)).toArray p.length).run P w=.ok (TM agg a) w:=by
 unfold part;cases agg with
 |true=>
  simp_all[TM]
 |false=>
  have:=f rfl;subst this
  match a,hl with
  |[v],_=>simp[d,TM]
theorem Ao.cons{f:Field}{fs:AA Field}{off F:Nat}{agg:Bool}{i j:AA Value->Prop}(V:Nat.beq f.offset off=true)(Q:f.name≠"_")(g:Fi P f.type h k agg i)(E:agg=false->k=1)(B:Ao P fs h (off+k) F j):
  Ao P (f::fs) h off (k+F) (λl=>∃l1 l2,l=l1++l2/\i l1/\j l2):=by
 have s:f.offset=off:=(by simp_all);refine⟨?_,?_⟩
 .rintro _ ⟨l1,l2,rfl,a,b⟩;rw[X0,g.len _ a,B.len _ b]
 .rintro w d p q _ _ t z ⟨l1,l2,rfl,r,T⟩ ⟨n,H,rfl,m,N⟩;have u:=py (w:=w) g.ia g.so p l1 l2 (g.len _ r) E;have y:=py (w:=w) g.ia g.so q n H (g.len _ m) E;rw[t]at u;rw[z]at y;obtain⟨x,R,M⟩:=g.eq w d l1 n r m;obtain⟨L,G,O⟩:=B.eq w d (p++l1) (q++n) l2 H (by rw[X0,t,g.len _ r]) (by rw[X0,z,g.len _ m]) T N;rw[Ve,Ve]at G;have J:l1.length=n.length:=by rw[g.len _ r,g.len _ m]
  refine⟨x&&L,?_,?_⟩
  .cases x<;>simp[Op.eqFields,Q,s,u,y,R,G]
  .rw[XU,M,O];constructor
   .grind
   .intro e;exact List.append_inj e J
theorem Fi.struct{t:TypeId}{h k:Nat}{ok:AA Value->Prop}(n:P.underlying t=some (.struct (P.fieldsOf t)))(p:P.stoodInHeld t=false)(f:∀w,(isAgg t).run P w=.ok true w)(i:∀w,(sizeOf t).run P w=.ok k w)(e:Ao P (P.fieldsOf t).toList h 0 k ok):Fi P t (h+1) k true ok:=by
 refine⟨e.len,f,i,λw d l m a b=>?_⟩;obtain⟨r,j,g⟩:=e.eq w d [] [] l m rfl rfl a b;refine⟨r,?_,g⟩;show(Op.equalIn (d+h+1) t (.agg l.toArray) (.agg m.toArray)).run P w=_
 grind[run_equalIn_agg]
theorem Q1{t:TypeId}{fs:Array Field}{ok:AA Value->Prop}(e:P.underlying t=some (.struct fs))(f:P.stoodInHeld t=false)(d:∀w,(isAgg t).run P w=.ok true w)(g:∀w,(sizeOf t).run P w=.ok k w)(a:Ao P fs.toList h 0 k ok):Fi P t (h+1) k true ok:=by
 grind[Program.fieldsOf,Fi.struct]
structure Zv (P:Program) (t:TypeId) {α:Type} (cells:α->List A):Prop where
 scl:∀x,H8 (cells x)=true
 inj:∀x y,Jd (cells x)=Jd (cells y)->x=y
 guard:P.eqGuardType P.depth t=false
 eq:∀(w:World) x y,∃b:Bool,(Op.equalIn 10000 t (.agg (Jd (cells x)).toArray) (.agg (Jd (cells y)).toArray)).run P w=.ok b w/\(b=true↔Jd (cells x)=Jd (cells y))
theorem nz{ok:AA Value->Prop}(E:Fi P t h k true ok)(e:Nat.ble h 10000=true)(a:∀x,ok (Jd (cells x)))(d:∀x,H8 (cells x)=true)(hi:∀x y,Jd (cells x)=Jd (cells y)->x=y)(hg:P.eqGuardType P.depth t=false):Zv P t cells:=by
 refine⟨d,hi,hg,λw x y=>?_⟩;have:=E.eq w (10000-h) (Jd (cells x)) (Jd (cells y)) (a x) (a y)
 rwa [show 10000-h+h=10000 by simp_all]at this
variable {o:Oper} {env:Env} {H:Qb}
theorem rP{α:Type}[DecidableEq α]{cells:α->AA A}{t u:TypeId}{x y:Operand}{p q:α}(E:Zv P t cells)(z:AM env x=.agg (cells p))(j:AM env y=.agg (cells q))(i:o.op=.binOp .eql t x y u:=by exact rfl):AK P o env H (.bool (p==q)):=by
 intro B F U N a w r;have g:=Ql r x;have h:=Ql r y;rw[z]at g;rw[j]at h;have l:=VR.val (a:=.agg (cells p)) (E.scl p) g;have m:=VR.val (a:=.agg (cells q)) (E.scl q) h;obtain⟨b,s,k⟩:=E.eq w p q;have n:b=(p==q):=by
  rw[XW,k,Vu];exact⟨E.inj p q,λe=>by rw[e]⟩
 refine⟨.bool (p==q),?_,rfl⟩;rw[<- n];generalize a.eval=ρ at*;have d:ρ x=.agg (Jd (cells p)).toArray:=l;have f:ρ y=.agg (Jd (cells q)).toArray:=m;simp[i,d,f,go_sem,run_eqGuard_agg _ _ _ _ _ _ _ E.guard,s]
theorem rQ{α:Type}[DecidableEq α]{cells:α->AA A}{t u:TypeId}{x y:Operand}{p q:α}(E:Zv P t cells)(z:AM env x=.agg (cells p))(j:AM env y=.agg (cells q))(i:o.op=.binOp .neq t x y u:=by exact rfl):AK P o env H (.bool (p != q)):=by
 intro B F U N a w r;have g:=Ql r x;have h:=Ql r y;rw[z]at g;rw[j]at h;have l:=VR.val (a:=.agg (cells p)) (E.scl p) g;have m:=VR.val (a:=.agg (cells q)) (E.scl q) h;obtain⟨b,s,k⟩:=E.eq w p q;have n:b=(p==q):=by
  rw[XW,k,Vu];exact⟨E.inj p q,λe=>by rw[e]⟩
 refine⟨.bool (p != q),?_,rfl⟩;rw[bne, <- n];generalize a.eval=ρ at*;have d:ρ x=.agg (Jd (cells p)).toArray:=l;have f:ρ y=.agg (Jd (cells q)).toArray:=m;simp[i,d,f,go_sem,run_eqGuard_agg _ _ _ _ _ _ _ E.guard,s]
end
end Go.Sw
namespace Go.Sw
structure WR (g g':Nat->Prop) (W W':World):Prop where
 sub:∀b,g b->g' b
 new:∀b,g' b->g b\/W.heap.size<=b
 lt:∀b,g' b->b<W'.heap.size
 all:∀b,W.heap.size<=b->b<W'.heap.size->g' b
 keep:∀b,b<W.heap.size->¬g b->W'.heap[b]?=W.heap[b]?
 size:W.heap.size<=W'.heap.size
 shape:∀b x,W.shape? b=some x->W'.shape? b=some x
 os:W'.os=W.os
 tape:W'.tape=W.tape
 output:W'.output=W.output
 drawn:W.drawn<=W'.drawn
abbrev Jv(T:Type):=AA T->(Nat->Prop)->(Nat->Prop)->World->Prop
structure m_ {T:Type} (J:Jv T):Prop where
 ev:∀rem q g W W' ro',J rem q g W->Qm g q W ro' W'->J rem q g W'
 up:∀rem q g g' W,J rem q g W->(∀b,g b->g' b)->(∀b,g' b->b<W.heap.size)->J rem q g' W
variable {W W':World}{fr g ro:Nat->Prop}{U:AZ}
theorem AU.round{g':Nat->Prop}{H:Qb}(s:AU fr ro U H W)(a:∀b,g b->fr b)(k:WR g g' W W'):AU (λb=>fr b\/g' b) ro U H W'/\Qm (λb=>b<W.heap.size/\ ¬g b) ro W ro W':=by
 have hro:=λb q=>k.keep b (s.roLt b q) (λr=>s.roFr b q (a b r));have h:BI ro U W ro U W':=by
  have ev:Qm (λ_=>False) ro W ro W':=⟨λ_ q=>q,hro,λ_ q=>q.elim,k.size,k.shape,k.os,k.tape,k.output,k.drawn⟩;have:=ev.ext U []
  grind
 refine⟨⟨s.len,s.roOk.to (λ_ q=>q) hro (λb q=>Vb (s.roLt b q) k.size),λb q=>q.elim (λq=>Vb (s.frLt b q) k.size) (k.lt b),λb q r=>?_,λi b x f e u=>?_,s.inj,λi y x f e=>?_,
  s.hidTo (· = ·) Yd k.size (by simp) (λi b x c f e u E=>E.elim id λq=>(k.new c q).elim (a c) λl=>(by have:=(s.hid i b x c f e u).lt;omega)) λj d y m n F=>.inl ⟨j,y,rfl,m,n,id,λc q=>s.hidKeep m n (λz=>k.keep d (s.own j d y m n z).1 λr=>(s.own j d y m n z).2.2 (a d r)) hro q⟩⟩,
  ⟨λ_ q=>q,hro,λb q=>k.keep b q.1 q.2,k.size,k.shape,k.os,k.tape,k.output,k.drawn⟩⟩
 .rcases r with r|r
  .exact s.roFr b q r
  .rcases k.new b r with l|l
   .exact s.roFr b q (a b l)
   .have:=s.roLt b q;omega
 .obtain⟨t,B,w⟩:=s.own i b x f e u;refine⟨Vb t k.size,B,λr=>?_⟩;rcases r with r|r
  .exact w r
  .rcases k.new b r with l|l
   .grind
   .omega
 .refine(s.blk i y x f e).keep h ?_ ?_
  .rintro b rfl p;obtain⟨t,B,w⟩:=s.own i b x f e p;exact k.keep b t (λr=>w (a b r))
  .rintro b c rfl p;have q:=s.hid i b x c f e p;exact k.keep c q.lt (λr=>q.fr (a c r))
variable {T:Type}
def tt(J Jx:Jv T)(g ri:Nat->Prop)(W1:World)(rem:AA T):Ending->World->Prop:=λe W'=>
 ∃g' q',(∀b,q' b->ri b)/\WR g g' W1 W'/\((e=.returned (.bool true)/\J rem q' g' W')\/(e=.returned (.bool false)/\Jx rem q' g' W'))
structure CT (T:Type) where
 l:Nat
 J:Jv T
 Jx:Jv T
 enc:T->List A
 nx:List T->T->List T->Prop
structure CT.ok {T:Type} (X:CT T) (P:Program):Prop where
 b:m_ X.J
 bx:m_ X.Jx
 round:∀l x rem q g ri W1 vs,X.nx l x rem->X.J l q g W1->(∀b,q b->ri b)->(∀b,ri b->b<W1.heap.size/\ ¬g b)->LR ri [] W1 (X.enc x) vs->YieldAt Fence.wide 0 P X.l vs.toArray W1 (tt X.J X.Jx g ri W1 rem)
def K4(P:Program)(f:FuncId)(caps:AA A)(H:Qb)(enc:T->AA A)(nx:AA T->T->AA T->Prop)(xs:AA T):Prop:=
 ∀(X:CT T),X.enc=enc->X.nx=nx->X.ok P->∀fr ro U w capv q,AU fr ro U H w->(∀b,q b->ro b)->LR ro U w caps capv->X.J xs q fr w->
  Calls P f ((Value.func (.yield X.l) #[] #[]::capv)).toArray w λe W'=>(∃v,e=.returned v)/\ ∃g q',(∀b,fr b->g b)/\((X.J [] q' g W')\/(∃rem,X.Jx rem q' g W'))
inductive DW (T:Type) where
 |on (rem:List T)
 |off (rem:List T)
def CT.J'(X:CT T):DW T->(Nat->Prop)->(Nat->Prop)->World->Prop
 |.on rem=>X.J rem
 |.off rem=>X.Jx rem
def CT.at(X:CT T)(st:DW T)(g ro:Nat->Prop)(W:World):Prop:=∃q,(∀b,q b->ro b)/\X.J' st q g W
variable {ro':Nat->Prop}{w w':World}
theorem Qm.roMono{ro0:Nat->Prop}(h:Qm fr ro w ro' w')(s:∀b,ro0 b->ro b):Qm fr ro0 w ro' w':=
 ⟨λb q=>h.sub b (s b q),λb q=>h.keepRo b (s b q),h.keepFr,h.size,h.shape,h.os,h.tape,h.output,h.drawn⟩
theorem CT.ok.ev{T:Type}{X:CT T}{P:Program}(h:X.ok P){d:DW T}{g ro ro':Nat->Prop}{W W':World}(a:X.at d g ro W)(he:Qm g ro W ro' W'):X.at d g ro' W':=by
 obtain⟨q,e,a⟩:=a;refine⟨q,λb z=>he.sub b (e b z),?_⟩;cases d with
 |on rem=>exact h.b.ev rem q g W W' ro' a (he.roMono e)
 |off rem=>exact h.bx.ev rem q g W W' ro' a (he.roMono e)
theorem CT.ok.up{T:Type}{X:CT T}{P:Program}(h:X.ok P){d:DW T}{g g' ro:Nat->Prop}{W:World}(a:X.at d g ro W)(hg:∀b,g b->g' b)(hl:∀b,g' b->b<W.heap.size):X.at d g' ro W:=by
 obtain⟨q,e,a⟩:=a;refine⟨q,e,?_⟩;cases d with
 |on rem=>exact h.b.up rem q g g' W a hg hl
 |off rem=>exact h.bx.up rem q g g' W a hg hl
abbrev YT(T:Type):=TJ->Env->Qb->DW T->Prop
structure In (g fr:Nat->Prop) (ds:List Deferred):Prop where
 sub:∀b,g b->fr b
 beside:∀D,({target:=.collected D,args:= #[]}:Deferred)∈ds->¬g D
def KI(X:CT T)(h0:Nat)(fr ro:Nat->Prop)(U:AZ)(w:World)(N:Nat)(ds:AA Deferred)(Q:YT T):Exit->Act->World->Prop:=
 λe a' w'=>∃x env' H' st ro' σ' fr' g',SJ e x/\Q x env' H' st/\BL fr' ro' σ' H' env' N a' w'/\(X.at st g' ro' w'/\In g' fr' a'.defers)/\(∀b,ro b->ro' b)/\w.heap.size<=w'.heap.size/\σ'.take h0=U.take h0/\BN fr w ds fr' a'.defers
variable {N h0:Nat}
theorem KI.grow{T:Type}{X:CT T}{d:Nat->Prop}{σ1:AZ}{w1:World}{l f:AA Deferred}{Q:YT T}{e:Exit}{a':Act}
  (h:KI X h0 g d σ1 w1 N f Q e a' w')(E:∀b,ro b->d b)(k:w.heap.size<=w1.heap.size)(t:σ1.take h0=U.take h0)(hg:BN fr w l g f):KI X h0 fr ro U w N l Q e a' w':=by
 obtain⟨x,a,H',m,j,σ',i,u,p,r,y,s,B,n,q,z⟩:=h;exact⟨x,a,H',m,j,σ',i,u,p,r,y,s,(by grind),XT k n,q.trans t,hg.trans k z⟩
def An(X:CT T)(P:Program)(h0 N:Nat)(c:Code)(env:Env)(H:Qb)(st:DW T)(Q:YT T):Prop:=
 X.ok P->∀rd fr ro U a w g,BL fr ro U H env N a w->X.at st g ro w/\In g fr a.defers->rd=none->c.wpIn (WF rd) 0 P (KI X h0 fr ro U w N a.defers Q) a w
def Co(X:CT T)(P:Program)(h0 N:Nat)(all:Array Oper)(l:AA Oper)(env:Env)(H:Qb)(st:DW T)(Q:YT T):Prop:=
 X.ok P->∀rd fr ro U a w g,BL fr ro U H env N a w->X.at st g ro w/\In g fr a.defers->rd=none->CK P rd all (KI X h0 fr ro U w N a.defers Q) l a w
theorem In.later{a:Nat->Prop}{ds ds':AA Deferred}(h:In g fr ds)(hl:∀b,fr b->b<w.heap.size)(hg:BN fr w ds a ds'):In g a ds':=by
 refine⟨λb q=>hg.sub b (h.sub b q),λD hD q=>?_⟩;rcases hg.ds _ hD with r|⟨D',e,r⟩
 .exact h.beside D r q
 .have:=by simpa using e
  have:=hl D (h.sub D q);omega
section
variable {T:Type} {X:CT T} {P:Program} {h0 N:Nat} {c c':Code} {env:Env} {H:Qb} {st:DW T} {Q:YT T}
theorem w7{j:AA Deferred}{e:Exit}{a':Act}(m:X.ok P)(h:E_ h0 fr ro U w N j (λx env H=>Q x env H st) e a' w')(hl:∀b,fr b->b<w.heap.size)(d:X.at st g ro w/\In g fr j):
  KI X h0 fr ro U w N j Q e a' w':=by
 obtain⟨x,a,H',i,σ',f,p,q,n,k,r,l⟩:=h;exact⟨x,a,H',st,i,σ',f,g,p,q,n,⟨m.ev d.1 (k.frMono d.2.sub),d.2.later hl l⟩,k.sub,k.size,r,l⟩
theorem An.lift(h:TC P h0 N c env H (λx env H=>Q x env H st)):An X P h0 N c env H st Q:=
 λhX rd fr ro U a w g r hj hrd=>Code.wpIn_mono (λe a' w' q=>w7 hX q r.sim.frLt hj) (h rd fr ro U a w r (hrd▸D5.none))
def V7(X:CT T)(P:Program)(h0 N:Nat)(c:Code)(Q:YT T):YT T
 |.normal,env,H,st=>An X P h0 N c env H st Q
 |.exit id,env,H,st=>Q (.exit id) env H st
 |.ret,env,H,st=>Q .ret env H st
theorem An.seq(h:An X P h0 N c env H st (V7 X P h0 N c' Q)):An X P h0 N (.seq c c') env H st Q:=by
 intro B z F E U a w g r hj hrd;refine wpIn_seq (Code.wpIn_mono ?_ (h B z F E U a w g r hj hrd));rintro e J G ⟨x,d,H',j,i,σ',f,u,k,n,s,p,t,l,m,y⟩;cases e with
 |normal=>
  obtain rfl:x=.normal:=k;exact Code.wpIn_mono (λe a w q=>q.grow t l m y) (n B z f i σ' J G u s p hrd)
 |exit id=>
  obtain rfl:x=.exit id:=k;exact⟨_,d,H',j,i,σ',f,u,rfl,n,s,p,t,l,m,y⟩
 |ret=>
  obtain rfl:x=.ret:=k;exact⟨_,d,H',j,i,σ',f,u,rfl,n,s,p,t,l,m,y⟩
 |_=>exact k.elim
theorem An.region{id:Nat}{l:AA Oper}(h:Co X P h0 N l.toArray l env H st Q):An X P h0 N (.region id l.toArray false) env H st Q:=
 λhX rd fr ro U a w g r hj hrd=>wpIn_region_lit (h hX rd fr ro U a w g r hj hrd)
theorem An.cond{x:Operand}{t:Bool}(l:AM env x=.bool t)(m:t=true->An X P h0 N c env H st Q)(k:t=false->An X P h0 N c' env H st Q):An X P h0 N (.cond x c c') env H st Q:=by
 intro f j h i U a w g r hj hrd;have d:=Ql r x;rw[l]at d;exact wpIn_cond_split d (λe=>m e f j h i U a w g r hj hrd) (λe=>k e f j h i U a w g r hj hrd)
theorem Co.nil{all:Array Oper}(h:Q .normal env H st):Co X P h0 N all [] env H st Q:=
 λhX rd fr ro U a w g r hj hrd=>⟨_,env,H,st,ro,U,fr,g,rfl,h,r,hj,λ_ q=>q,XR _,rfl,BN.refl _ _ _⟩
end
variable {P:Program}{Q:Exit->Act->World->Prop}{o:Oper}{rd:AB Nat}
theorem ym{a:Act}{K K':Act->World->Prop}{Q':Exit->Act->World->Prop}(i:∀a w,K a w->K' a w)(p:∀ch a w,Q (.panic ch) a w->Q' (.panic ch) a w)(k:∀a w,Q .outgrown a w->Q' .outgrown a w)
  {r:Result Next}(h:o.uponIn (WF rd) 0 P a K Q r):o.uponIn (WF rd) 0 P a K' Q' r:=by
 cases r with
 |ok x w=>
  cases x with
  |value v=>exact i _ _ h
  |skip=>exact i _ _ h
  |defer d=>exact i _ _ h
  |enter f g=>
   refine⟨h.1,CallsIn.mono h.2 ?_⟩;intro e m q;cases e with
   |returned v=>grind
   |panicked c=>grind
   |outgrown=>obtain⟨a,w,q⟩:=q;exact⟨a,w,k _ _ q⟩
  |row r g=>exact⟨h.1,RowsIn.mono h.2 λv m q=>i _ _ q⟩
  |round l f n assign j=>
   refine⟨h.1,RoundIn.mono h.2 ?_⟩;intro e m q;cases e with
   |returned v=>grind
   |panicked c=>grind
   |outgrown=>obtain⟨a,w,q⟩:=q;exact⟨a,w,k _ _ q⟩
  |_=>exact h
 |halt x w=>
  cases x with
  |panic v=>exact p _ _ _ h
  |_=>exact h
section
variable {T:Type} {X:CT T} {P:Program} {h0 N:Nat} {env:Env} {H:Qb} {st:DW T} {Q:YT T}
theorem Co.step{all:Array Oper}{rest:AA Oper}(h:WO P h0 N all [o] env H (λx env' H'=>x=.normal/\Co X P h0 N all rest env' H' st Q)):Co X P h0 N all (o::rest) env H st Q:=by
 intro u p t n U a w g r hj hrd;have L:∀j i,D9 h0 t n U w N a.defers (λx env' H'=>x=.normal/\Co X P h0 N all rest env' H' st Q) .normal j i->CK P p all (KI X h0 t n U w N a.defers Q) rest j i:=by
  rintro j i ⟨x,env',H',f,σ',d,M,⟨_,B⟩,E,m,F,y,z⟩;have l:X.at st g f i/\In g d j.defers:=⟨u.ev hj.1 (m.frMono hj.2.sub),by rw[y];exact hj.2.later r.sim.frLt z⟩;have:=B u p d f σ' j i g E l hrd;exact Yx (λe s w2 q=>(q.grow m.sub m.size F (by grind))) _ _ _ this
 have k:=h p t n U a w r (hrd▸D5.none);unfold CK wpListIn at k⊢;split
 .rename_i G;rw[Vp G]at k;refine⟨k.1,ym (λs w2 q=>?_) (λJ s w2 q=>?_) (λs w2 q=>?_) k.2⟩
  .unfold wpListIn at q
   grind
  .obtain⟨x,_,_,_,_,_,q,_⟩:=q;exact q.elim
  .obtain⟨x,_,_,_,_,_,q,_⟩:=q;exact q.elim
 simp_all[wpListIn]
theorem Co.yield{all:Array Oper}{o:Oper}{rest:AA Oper}{d:Nat}{x:T}{F rem:AA T}(L:X.nx F x rem)(hg:Qy all o env true)(u:o.dst=some d)(hN:Nat.blt d N=true)
  (E:∀fr ro U a w,BL fr ro U H env N a w->∃vs:AA Value,LR ro [] w (X.enc x) vs/\(execOp a.eval o).run P w=(Instr.yield X.l vs.toArray).run P w)
  (k:∀b,Co X P h0 N all rest (up env d (.bool b)) H (bif b then .on rem else .off rem) Q):Co X P h0 N all (o::rest) env H (.on F) Q:=by
 intro R M fr ro U a w g r hj hrd;obtain⟨vs,hv,V⟩:=E fr ro U a w r;obtain⟨q,hq,B⟩:=hj.1;obtain⟨fn,tmps,assign,O,h1,Y⟩:=R.round F x rem q g ro w vs L B hq (λb z=>⟨r.sim.roLt b z,λy=>r.sim.roFr b z (hj.2.sub b y)⟩) hv;have h3:=V.trans h1;unfold CK wpListIn;rw[Vp (YV hg r)];refine⟨λ_ _=>trivial,?_⟩;rw[bX h3 (λd e=>by cases e)];refine⟨λh=>by simp[WF,Fence.wide]at h,(RoundIn.mono Y ?_)⟩;rintro e i ⟨j,n,p,t,f⟩;obtain⟨s',ev⟩:=r.sim.round hj.2.sub t;have J:d<N:=by simp_all
 have m:BI ro U w ro U i:=by have:=ev.ext U [];grind
 have fin:∀b,X.at (bif b then .on rem else .off rem) j ro i->CK P M all (KI X h0 fr ro U w N a.defers Q) rest (a.put o.dst (.bool b)) i:=by
  intro b f;have hm:ID (λb=>fr b\/j b) a.defers i:=by
   refine⟨r.defers.1,λd u=>?_⟩;obtain⟨D,rfl,G,W⟩:=r.defers.2 d u;exact⟨D,rfl,.inl G,(t.keep D (r.sim.frLt D G) (hj.2.beside D u)).trans W⟩
  have hi:In j (λb=>fr b\/j b) a.defers:=by
   refine⟨λb q=>.inr q,λD hD q=>?_⟩;rcases t.new D q with n|n
   .exact hj.2.beside D hD n
   .obtain⟨D',e,G,_⟩:=r.defers.2 _ hD
    grind
  have r':BL (λb=>fr b\/j b) ro U H (up env d (.bool b)) N {a with tmps:=a.tmps.setIfInBounds d (.bool b)} i:=
   ⟨s',VR.up (fr:=fr) (λs=>(r.env s).mono m) (by rw[r.size];exact J) rfl,by simpa using r.size,hm⟩
  have:=k b R M _ ro U _ i j r' ⟨f,hi⟩ hrd;simp[u];refine Yx (λe a2 w2 q=>q.grow (λ_ q=>q) t.size rfl ⟨λ_ q=>.inl q,λb q=>?_,λ_ q=>.inl q⟩) _ _ _ this;rcases q with q|q
  .exact .inl q
  .rcases t.new b q with q|q
   .exact .inl (hj.2.sub b q)
   omega
 rcases f with⟨rfl,f⟩|⟨rfl,f⟩
 .exact fin true ⟨n,p,f⟩
 .exact fin false ⟨n,p,f⟩
end
def Zw:YT T:=λx env H st=>(x=.normal\/x=.ret)/\(st=.on []\/ ∃rem,st=.off rem)
variable {fn:Func}
theorem tI{T:Type}{f:FuncId}{c:Code}{a:AA A}{H:Qb}{enc:T->AA A}{nx:AA T->T->AA T->Prop}{xs:AA T}
  (hf:P.funcs[f]?=some fn)(hb:fn.body=some c)(hN:fn.ntmps=N)(hA:Nat.ble (a.length+1) N=true)(hR:fn.results= #[])
  (h:∀X,X.enc=enc->X.nx=nx->An X P H.length N c (NZ 0 (.fn (.yield X.l) [] []::a)) H (.on xs) Zw):K4 P f a H enc nx xs:=by
 intro X hE hNx hX fr ro0 U w capv q0 hs hq0 hl hj;have n:LR ro0 U w (.fn (.yield X.l) [] []::a) (Value.func (.yield X.l) #[] #[]::capv):=⟨_,_,rfl,⟨[],[],rfl,rfl,rfl⟩,hl⟩;have L:=n.length;have W:a.length+1<=N:=by simp_all
 refine(callsIn_wide).1 (callsIn_of_wp_marks hf hb trivial (Code.wpIn_mono ?_ (h X hE hNx hX none fr ro0 U _ w fr ⟨hs,?_,?_,List.nodup_nil,λd t=>by cases t⟩ ⟨⟨q0,hq0,hj⟩,λ_ q=>q,λD hD=>by cases hD⟩ rfl)))
 .rintro e F O ⟨x,G,H1,st,V,σ1,Y,Q,M,⟨h2,B⟩,k,⟨h4,j⟩,h5,h6,h7,h8⟩;have m:LeavesInM Fence.wide 0 P fn F.tmps (λe W'=>(∃v,e=.returned v)/\ ∃g q',(∀b,fr b->g b)/\((X.J [] q' g W')\/(∃rem,X.Jx rem q' g W'))) F.defers .returning O:=by
   refine lq F.defers O k.defers.1 (λd t=>?_) (k.sim.frMono j.sub) (λw2 s2 p=>?_)
   .obtain⟨D,rfl,y,R⟩:=k.defers.2 d t;exact⟨D,rfl,λq=>k.sim.roFr D q y,j.beside D t,λi x z E u=>(k.sim.own i D x z E u).2.2 y,λi d x z E u=>(k.sim.hid i d x D z E u).fr y,R⟩
   .have r:=hX.up (hX.ev h4 p) (g':=λb=>Q b\/fr b) (λb q=>.inl q) (λb q=>Vb (k.sim.frLt b (q.elim (j.sub b) (h8.sub b))) p.size);obtain⟨q9,_,r⟩:=r;refine⟨.tuple #[],by simp[results,hR],⟨_,rfl⟩,λb=>Q b\/fr b,q9,λb q=>.inr q,?_⟩;rcases B with rfl|⟨rem,rfl⟩
    .exact .inl r
    .exact .inr ⟨rem,r⟩
  cases e with
  |normal=>exact m
  |ret=>exact m
  |exit id=>
   obtain rfl:x=.exit id:=M
   grind
  |_=>exact M.elim
 .intro s;have:=kv [] rfl n (Array.replicate (fn.ntmps-(Value.func (.yield X.l) #[] #[]::capv).toArray.size) undef) s
  grind
 grind
section
variable {T:Type} {X:CT T} {P:Program} {h0 N:Nat} {c c':Code} {env:Env} {H:Qb} {st:DW T} {Q Q':YT T}
theorem An.mono(h:An X P h0 N c env H st Q)(t:∀x env H st,Q x env H st->Q' x env H st):An X P h0 N c env H st Q':=by
 intro k u m q U a w g r hj hrd;refine Code.wpIn_mono ?_ (h k u m q U a w g r hj hrd);rintro e y z ⟨x,d,H',f,j,σ',i,l,p,s,n⟩;exact⟨x,d,H',f,j,σ',i,l,p,t _ _ _ _ s,n⟩
theorem An.skip(h:Q .normal env H st):An X P h0 N .skip env H st Q:=An.lift (TC.skip h)
theorem An.ret(h:Q .ret env H st):An X P h0 N .ret env H st Q:=An.lift (TC.ret h)
theorem An.exit{id:Nat}(h:Q (.exit id) env H st):An X P h0 N (.exit id) env H st Q:=An.lift (TC.exit h)
def SK(id:Nat)(Q:YT T):YT T
 |.normal,env,H,st=>Q .normal env H st
 |.exit id',env,H,st=>bif Nat.beq id' id then Q .normal env H st else Q (.exit id') env H st
 |.ret,env,H,st=>Q .ret env H st
theorem An.block{id:Nat}(h:An X P h0 N c env H st (SK id Q)):An X P h0 N (.block id c) env H st Q:=by
 intro s z t u U a w g r hj hrd;refine wpIn_block (Code.wpIn_mono ?_ (h s z t u U a w g r hj hrd));rintro e B E ⟨x,d,H',i,k,σ',j,m,p,l,n⟩;cases e with
 |normal=>
  obtain rfl:x=.normal:=p;exact⟨_,d,H',i,k,σ',j,m,rfl,l,n⟩
 |exit f=>
  obtain rfl:x=.exit f:=p;unfold Exit.inBlock;simp only[SK]at l;by_cases q:f=id
  .subst q;rw[VB,Vk]at l;simp;exact⟨.normal,d,H',i,k,σ',j,m,rfl,l,n⟩
  .have y:Nat.beq f id=false:=by
    cases e:Nat.beq f id with
    |false=>rfl
    |true=>simp_all
   rw[y,Vl]at l;simp[q];exact⟨.exit f,d,H',i,k,σ',j,m,rfl,l,n⟩
 |ret=>
  obtain rfl:x=.ret:=p;exact⟨_,d,H',i,k,σ',j,m,rfl,l,n⟩
 |_=>exact p.elim
end
section
variable {T:Type} {X:CT T} {P:Program} {h0 N:Nat} {c:Code} {env:Env} {H:Qb} {st:DW T} {Q:YT T}
def wq(I:Env->Qb->DW T->Prop)(Q:YT T):YT T
 |.normal,env,H,st=>I env H st
 |.exit id,env,H,st=>Q (.exit id) env H st
 |.ret,env,H,st=>Q .ret env H st
theorem rT{I:Nat->Env->Qb->DW T->Prop}(body:∀n env H st,I n env H st->An X P h0 N c env H st (wq (λenv H st=>∃n',n'<n/\I n' env H st) Q)){n:Nat}(E:I n env H st):An X P h0 N (.loop c) env H st Q:=by
 intro hX R B y U a w g r hj hrd b k cs hro hb hr;have F:∀m n env H st fr1 ro1 σ1 a1 w1 g1,n<m->I n env H st->BL fr1 ro1 σ1 H env N a1 w1->(∀b,y b->ro1 b)->w.heap.size<=w1.heap.size->σ1.take h0=U.take h0->BN B w a.defers fr1 a1.defers->X.at st g1 ro1 w1/\In g1 fr1 a1.defers->
   ∃e i h,KI X h0 B y U w N a.defers Q e i h/\ArrivesIn (Machine.fenced P (WF R)) P (lone (b.atR a1 (.code c::.inLoop c::k)) cs w1) b k cs e i h:=by
  intro m
  induction m with
  |zero=>omega
  |succ m ih=>
   intro n env H st fr1 ro1 σ1 a1 w1 g1 hn E r1 s1 z1 t1 gr1 j1;obtain⟨e,i,h,J,d⟩:=body n env H st E hX R fr1 ro1 σ1 a1 w1 g1 r1 j1 hrd b (.inLoop c::k) cs hro hb hr;obtain⟨x,f,H',l,u,σ',s,g',z,p,M,V,q5,W,Y,q8⟩:=J;have O:=λb q=>q5 b (s1 b q);have t:=gr1.trans z1 q8;have L:∀x,Q x f H' l->SJ e x->KI X h0 B y U w N a.defers Q e i h:=λx q q'=>⟨x,f,H',l,u,σ',s,g',q',q,M,V,O,XT z1 W,Y.trans t1,t⟩;cases e with
   |normal=>
    obtain rfl:x=.normal:=z;obtain⟨n',aa,p⟩:=p;obtain⟨e2,a2,w2,G,j⟩:=ih n' f H' l s u σ' i h g' (by omega) p M O (XT z1 W) (Y.trans t1) t V;exact⟨e2,a2,w2,G,.of_steps (StepsIn.trans d (.one (fenced_calm hb hr rfl) stepR_inLoop)) j⟩
   |exit id=>
    obtain rfl:x=.exit id:=z;exact⟨_,i,h,L _ p rfl,.pass rfl (λ_ _=>.inl (by simp)) d⟩
   |ret=>
    obtain rfl:x=.ret:=z;exact⟨_,i,h,L _ p rfl,.pass rfl (λ_ _=>.inl (by simp)) d⟩
   |_=>exact z.elim
 obtain⟨e,i,h,J,d⟩:=F (n+1) n env H st B y U a w g (Xo _) E r (λ_ q=>q) (XR _) rfl (BN.refl _ _ _) hj;exact⟨e,i,h,J,.of_steps (.one (fenced_calm hb hr rfl) stepR_loop) d⟩
end
theorem AU.part{H:Qb}(h:AU fr ro U H w){π:AA Nat}{Hc:Qb}(hH:π.map (λp=>H[p]?)=(Hc.map (Q9 (Af π H.length))).map some)(hπ:π.Nodup):
  AU (λb=>fr b\/(∃i x,U[i]?=some (some b)/\H[i]?=some x/\x.live=true/\i∉π)\/ ∃i x d,U[i]?=some (some d)/\H[i]?=some x/\Bw w x d b/\i∉π) ro (YN U π) Hc w/\ ∀j:Nat,U[Af π H.length j]?=(YN U π)[j]? :=by
 have hp:∀p∈π,p<H.length:=λp q=>JJ hH q;have hσl:=h.len;have m:∀(j p:Nat),π[j]?=some p->H[p]?=(Hc[j]?).map (Q9 (Af π H.length)):=by
  intro j p n;have:=congrArg (λl=>l[j]?) hH
  grind
 have N:π.length=Hc.length:=by simpa using congrArg List.length hH
 have hσc:∀j:Nat,U[Af π H.length j]?=(YN U π)[j]? :=by
  intro j;have:=bQ (τ:=[]) hσl hp j
  grind
 have hπj:∀(j b:Nat),(YN U π)[j]?=some (some b)->∃p,π[j]?=some p/\U[p]?=some (some b):=by
  intro j b n;simp only[YN,Xp]at n
  grind
 refine⟨?_,hσc⟩
 .refine⟨by simp[YN,N],h.roOk,?_,?_,?_,?_,?_,?_⟩
  .rintro b (M|⟨i,x,a,g,f,O⟩|⟨i,x,d,a,g,f,O⟩)
   .exact h.frLt b M
   .exact(h.own i b x a g f).1
   .exact(h.hid i d x b a g f).lt
  .rintro b M (P|⟨i,x,a,g,f,O⟩|⟨i,x,d,a,g,f,O⟩)
   .exact h.roFr b M P
   .exact(h.own i b x a g f).2.1 M
   .exact(h.hid i d x b a g f).ro M
  .intro j b x a g f;obtain⟨p,e,z⟩:=hπj j b a;have E:H[p]?=some (Q9 (Af π H.length) x):=by grind
   obtain⟨o1,o2,o3⟩:=h.own p b _ z E (by rw[QT];exact f);refine⟨o1,o2,?_⟩;rintro(P|⟨i,y,y1,y2,G,Q⟩|⟨i,y,d,y1,y2,G,Q⟩)
   .exact o3 P
   .have:=h.inj i p b _ _ y1 z y2 E G (by rw[QT];exact f)
    grind
   .exact(h.hid i d y b y1 y2 G).ne p b _ z E (by rw[QT];exact f) rfl
  .intro i j b x y a g f O q5 q6;obtain⟨p,e,z⟩:=hπj i b a;obtain⟨t,r,Y⟩:=hπj j b g;have E:H[p]?=some (Q9 (Af π H.length) x):=by rw[m i p e,f];rfl
   have R:H[t]?=some (Q9 (Af π H.length) y):=by rw[m j t r,O];rfl
   have:=h.inj p t b _ _ z Y E R (by rw[QT];exact q5) (by rw[QT];exact q6);subst this;have F:i<π.length:=by
    rcases Vy i π.length with q|q
    .exact q
    .rw[XM q]at e;simp at e
   have n:j<π.length:=by
    rcases Vy j π.length with q|q
    .exact q
    .rw[XM q]at r;simp at r
   rw[XI F]at e;rw[XI n]at r;have u:=(XX e).trans (XX r).symm;rcases Nat.lt_trichotomy i j with q|q|q
   .exact(VA.1 hπ i j F n q u).elim
   .exact q
   .exact(VA.1 hπ j i n F q u.symm).elim
  .intro j s x a g;have n:j<π.length:=by
    rcases Vy j π.length with q|q
    .exact q
    .rw[XM (by simpa[YN]using q)]at a;simp at a
   have e:π[j]?=some π[j]:=XI n;have E:H[π[j]]?=some (Q9 (Af π H.length) x):=by rw[m j _ e,g];rfl
   have z:U[π[j]]?=some s:=by
    have:=hσc j;rw[a]at this;simpa[Af,e]using this
   exact(aM hσc).1 (h.blk _ s _ z E)
  .intro j b x c a g f;obtain⟨p,e,z⟩:=hπj j b a;have E:H[p]?=some (Q9 (Af π H.length) x):=by rw[m j p e,g];rfl
   have k:=h.hid p b _ c z E ((Nm _ _ _ _ _).2 f);refine⟨k.lt,k.ro,?_,?_,?_⟩
   .rintro(P|⟨i,y,y1,y2,G,Q⟩|⟨i,y,d,y1,y2,G,Q⟩)
    .exact k.fr P
    .exact k.ne i c y y1 y2 G rfl
    .obtain⟨rfl,rfl⟩:=k.one i d y y1 y2 G;exact Q (VD e)
   .intro B L y W V X;obtain⟨t,J,T⟩:=hπj B L W;exact k.ne t L _ T (show H[t]?=some (Q9 (Af π H.length) y)by rw[m B t J,V];rfl) (by rw[QT];exact X)
   .intro B L y W V X;obtain⟨t,J,T⟩:=hπj B L W;obtain⟨z4,z5⟩:=k.one t L _ T (show H[t]?=some (Q9 (Af π H.length) y)by rw[m B t J,V];rfl) ((Nm _ _ _ _ _).2 X);subst z5;have F:B<π.length:=(XJ.1 J).1;have n:j<π.length:=(XJ.1 e).1;rw[XI F]at J;rw[XI n]at e;have u:=(XX J).trans (XX e).symm;refine⟨z4,?_⟩;rcases Nat.lt_trichotomy B j with q|q|q
    .exact(VA.1 hπ B j F n q u).elim
    .exact q
    .exact(VA.1 hπ j B n F q u.symm).elim
theorem AU.frames{fr':Nat->Prop}{H:Qb}(s:AU fr ro U H w)(lt:∀b,fr' b->b<w.heap.size)(hro:∀b,ro b->¬fr' b)(own:∀(i b:Nat) (x:AR),U[i]?=some (some b)->H[i]?=some x->x.live=true->¬fr' b)
  (hd:∀(i b:Nat) (x:AR) (c:Nat),U[i]?=some (some b)->H[i]?=some x->Bw w x b c->¬fr' c):AU fr' ro U H w:=
 ⟨s.len,s.roOk,lt,hro,λi b x q1 q2 q3=>⟨(s.own i b x q1 q2 q3).1,(s.own i b x q1 q2 q3).2.1,own i b x q1 q2 q3⟩,s.inj,s.blk,
  s.hidTo (· = ·) Yd (XR _) (by simp) (by grind) (by grind)⟩
def aK(H:Qb)(p:Nat):Qb:=match H[p]? with
 |some x=>bif x.holds then H.set p .dead else H
 |none=>H
def Nb:Qb->AA Nat->Qb
 |H,[]=>H
 |H,p::π=>Nb (aK H p) π
theorem sY(H:Qb)(p:Nat):(aK H p=H/\ ∀x,H[p]?=some x->x.holds=false)\/aK H p=H.set p .dead:=by
 unfold aK
 grind
theorem ku:∀(π:AA Nat) (H:Qb) (i:Nat) (x:AR),(Nb H π)[i]?=some x->x=.dead\/(H[i]?=some x/\(x.holds=true->i∉π))
 |[],H,i,x,h=>.inr ⟨h,λ_=>by simp⟩
 |p::π,H,i,x,h=>by
  rcases ku π _ i x h with h|⟨h1,h2⟩
  .exact .inl h
  .rcases sY H p with⟨e,hl⟩|e
   .grind
   grind
theorem ky{fr ro:Nat->Prop}{U:AZ}{w:World}:∀(π:AA Nat) {H:Qb} (s:AU fr ro U H w),AU fr ro U (Nb H π) w
 |[],_,s=>s
 |p::π,H,s=>by
  rw[Nb];rcases sY H p with h|h
  .rw[h.1];exact ky π s
  .rw[h];exact ky π (s.kill p)
variable {b:Nat}
theorem AU.put{H:Qb}(s:AU fr ro U H w){obj:Obj}(l:fr b)(r:w.shape? b=none):
  AU fr ro U H (w.putObj b obj)/\Qm (λc=>c≠b) ro w ro (w.putObj b obj):=by
 have a:∀c,c≠b->(w.putObj b obj).heap[c]?=w.heap[c]? :=λc u=>World.putObj_heap_other u;have f:(w.putObj b obj).heap.size=w.heap.size:=by simp
 have B:∀c,ro c->c≠b:=λc q e=>s.roFr c q (e▸l);have ev:Qm (λc=>c≠b) ro w ro (w.putObj b obj):=by
  refine⟨λ_ q=>q,(by grind),λc q=>a c q,by omega,λc x q=>?_,rfl,rfl,rfl,XR _⟩
  grind[World.shape?]
 have k:BI ro U w ro U (w.putObj b obj):=by have:=ev.ext U [];grind
 refine⟨⟨s.len,s.roOk.to (λ_ q=>q) ev.keepRo (λc q=>by rw[f];exact s.roLt c q),λc q=>by rw[f];exact s.frLt c q,s.roFr,λi c x h g t=>?_,s.inj,λi y x h g=>?_,
  s.hidTo (· = ·) Yd (by omega) (by simp) (by simp) λj d y n p F=>.inl ⟨j,y,rfl,n,p,id,λc q=>s.hidKeep n p (λz=>a d (λe=>(s.own j d y n p z).2.2 (e▸l))) ev.keepRo q⟩⟩,ev⟩
 .obtain⟨E,G,J⟩:=s.own i c x h g t
  grind
 .refine(s.blk i y x h g).keep k ?_ ?_
  .rintro c rfl m;exact a c (λe=>(s.own i c x h g m).2.2 (e▸l))
  .rintro d c rfl m;exact a c (λe=>(s.hid i d x c h g m).fr (e▸l))
theorem lh{l:Nat}{r:Loop}(h:w.heap[l]?=some (.loop r)):w.shape? l=none:=by
 unfold World.shape?;rw[h]
structure Ns where
 fr:Nat->Prop
 ro:Nat->Prop
 U:AZ
 w:World
 h1:Nat
 env:Env
 tmps:Array Value
 ds1:List Deferred
 l:Nat
 rc:LoopState->Option Code->Loop
 fr1:Nat->Prop
structure Ns.Ok (D:Ns):Prop where
 sub:∀b,D.fr b->D.fr1 b
 l1:D.fr1 D.l
 lf:¬D.fr D.l
 len:D.U.length=D.h1
structure RJ (D:Ns) (ro1:Nat->Prop) (σ1:AZ) (H:Qb) (st:LoopState) (pe:Option Code) (q g:Nat->Prop) (W:World):Prop where
 sim:AU D.fr1 ro1 σ1 H W
 env:∀t,VR ro1 D.U W (lk D.env t) (D.tmps.getD t undef)
 sig:σ1.take D.h1=D.U
 ev:Qm D.fr D.ro D.w ro1 W
 marks:ID D.fr1 D.ds1 W
 rc:W.heap[D.l]?=some (.loop (D.rc st pe))
 roG:∀b,ro1 b->q b\/g b
 frG:∀b,D.fr1 b->g b
 own:∀(i b:Nat) (x:AR),σ1[i]?=some (some b)->H[i]?=some x->x.live=true->g b
 hidG:∀(i b:Nat) (x:AR) (c:Nat),σ1[i]?=some (some b)->H[i]?=some x->Bw W x b c->g c
 lt:∀b,g b->b<W.heap.size
theorem sj{σ1:AZ}{a:Nat}(h:σ1.take a=U){i:Nat}(q:U[i]?=some (some b)):σ1[i]?=some (some b):=by
 grind
variable {H':Qb}
section
variable {D:Ns} {ro1:Nat->Prop} {σ1:AZ} {H:Qb} {st:LoopState} {pe:AB Code} {qR g:Nat->Prop} {W:World}
theorem RJ.step(p:D.Ok)(j:RJ D ro1 σ1 H st pe qR g W)(e:Qm g qR W ro' W'):RJ D ro1 σ1 H st pe qR g W':=by
 have hro:=λb q=>(j.roG b q).elim (e.keepRo b) (e.keepFr b);have ev:Qm D.fr1 ro1 W ro1 W':=⟨λ_ q=>q,hro,λb q=>e.keepFr b (j.frG b q),e.size,e.shape,e.os,e.tape,e.output,e.drawn⟩;have h:∀U,BI ro1 U W ro1 U W':=λ U=>by have:=ev.ext U [];grind
 refine⟨⟨j.sim.len,j.sim.roOk.to (λ_ q=>q) hro (λb q=>Vb (j.sim.roLt b q) e.size),λb q=>Vb (j.sim.frLt b q) e.size,j.sim.roFr,λi b x f a m=>?_,j.sim.inj,λi z x f a=>?_,
  j.sim.hidTo (· = ·) Yd e.size (by simp) (by simp) λi d y l n u=>.inl ⟨i,y,rfl,l,n,id,λc q=>j.sim.hidKeep l n (λz=>e.keepFr d (j.own i d y l n z)) hro q⟩⟩,
  λt=>(j.env t).mono (h _),j.sig,j.ev.trans (ev.frMono p.sub),j.marks.keep ev,(ev.keepFr _ p.l1).trans j.rc,j.roG,j.frG,j.own,λi b x c f a m=>j.hidG i b x c f a (j.sim.hidKeep f a (λz=>e.keepFr b (j.own i b x f a z)) hro m),λb q=>Vb (j.lt b q) e.size⟩
 .obtain⟨r,s⟩:=j.sim.own i b x f a m;exact⟨Vb r e.size,s⟩
 .refine(j.sim.blk i z x f a).keep (h _) ?_ ?_
  .rintro b rfl k;exact e.keepFr b (j.own i b x f a k)
  .rintro b c rfl k;exact e.keepFr c (j.hidG i b x c f a k)
theorem RJ.up{g':Nat->Prop}(j:RJ D ro1 σ1 H st pe qR g W)(h:∀b,g b->g' b)(hl:∀b,g' b->b<W.heap.size):RJ D ro1 σ1 H st pe qR g' W:=
 {j with roG:=λb q=>(j.roG b q).imp id (h b),frG:=λb q=>h b (j.frG b q),own:=λi b x q1 q2 q3=>h b (j.own i b x q1 q2 q3),hidG:=λi b x c q1 q2 q3=>h c (j.hidG i b x c q1 q2 q3),lt:=hl}
def G9(D:Ns)(ro1 g:Nat->Prop)(W:World):Nat->Prop:=λb=>(D.fr1 b\/(¬g b/\ ¬ro1 b))/\b<W.heap.size
theorem RJ.simB(j:RJ D ro1 σ1 H st pe qR g W):AU (G9 D ro1 g W) ro1 σ1 H W:=by
 refine j.sim.frames (λb q=>q.2) (λb q r=>?_) (λi b x e d a r=>?_) (λi b x c e d a r=>r.1.elim (j.sim.hid i b x c e d a).fr λr=>r.1 (j.hidG i b x c e d a))
 .rcases r.1 with r|r
  .exact j.sim.roFr b q r
  grind
 .rcases r.1 with r|r
  .exact(j.sim.own i b x e d a).2.2 r
  .exact r.1 (j.own i b x e d a)
theorem RJ.fin(E:D.Ok)(j:RJ D ro1 σ1 H st pe qR g W){w:Nat->Prop}{σ':AZ}{st':LoopState}{pe':AB Code}
  (ev:Qm (λb=>G9 D ro1 g W b/\b≠D.l) ro1 W ro' W')(s:AU w ro' σ' H' W')(u:∀b,G9 D ro1 g W b->w b)(hσ:σ'.take D.h1=σ1.take D.h1)(N:W'.heap[D.l]?=some (.loop (D.rc st' pe'))):
  RJ D ro' σ' H' st' pe' qR (λb=>g b\/(W.heap.size<=b/\b<W'.heap.size)) W'/\WR g (λb=>g b\/(W.heap.size<=b/\b<W'.heap.size)) W W':=by
 have m:∀b,D.fr1 b->G9 D ro1 g W b:=λb q=>⟨.inl q,j.sim.frLt b q⟩;have evf:=ev.frMono λb q=>⟨m b (E.sub b q),λe=>E.lf (e▸q)⟩;have hext:=ev.ext0 D.U;have z:∀b,b<W.heap.size->b<W'.heap.size:=λb q=>Vb q ev.size;have n:∀b,b<W.heap.size->¬G9 D ro1 g W b->g b\/ro1 b:=by
  intro b f L;by_cases h:g b
  .exact .inl h
  .by_cases a:ro1 b
   .exact .inr a
   .exact absurd ⟨.inr ⟨h,a⟩,f⟩ L
 refine⟨⟨s.frames (λb q=>z b (j.sim.frLt b q)) (λb q r=>s.roFr b q (u b (m b r))) (λi b x h a p r=>(s.own i b x h a p).2.2 (u b (m b r))) (λi b x c h a p r=>(s.hid i b x c h a p).fr (u c (m c r))),
  λt=>(j.env t).mono hext,hσ.trans j.sig,j.ev.trans evf,⟨j.marks.1,λd G=>?_⟩,N,λb q=>?_,λb q=>.inl (j.frG b q),λi b x h a p=>?_,λi b x c h a p=>?_,λb q=>q.elim (λq=>z b (j.lt b q)) (λq=>q.2)⟩,
  ⟨λb q=>.inl q,(by grind),λb q=>q.elim (λq=>z b (j.lt b q)) (λq=>q.2),(by omega),λb h a=>?_,ev.size,ev.shape,ev.os,ev.tape,ev.output,ev.drawn⟩⟩
 .obtain⟨B,J,F,y⟩:=j.marks.2 d G;refine⟨B,J,F,(ev.keepFr B ⟨m B F,λe=>?_⟩).trans y⟩;subst e;rw[j.rc]at y;cases y
 .rcases Vy b W.heap.size with f|f
  .rcases n b f (λr=>s.roFr b q (u b r))with r|r
   .grind
   .exact(j.roG b r).imp id .inl
  .exact .inr (.inr ⟨f,s.roLt b q⟩)
 .obtain⟨P,M,O⟩:=s.own i b x h a p;rcases Vy b W.heap.size with f|f
  .rcases n b f (λr=>O (u b r))with r|r
   .exact .inl r
   .exact absurd (ev.sub b r) M
  omega
 .have k:=s.hid i b x c h a p;rcases Vy c W.heap.size with f|f
  .rcases n c f (λr=>k.fr (u c r))with r|r
   .exact .inl r
   .exact absurd (ev.sub c r) k.ro
  .exact .inr ⟨f,k.lt⟩
 .by_cases r:ro1 b
  .exact ev.keepRo b r
  .exact ev.keepFr b ⟨(by grind),λe=>a (j.frG b (e▸E.l1))⟩
end
theorem AU.roAdd{a:Nat->Prop}{H:Qb}(s:AU fr ro U H w)(e:∀b,a b->b<w.heap.size)(g:∀b,a b->¬fr b)(j:∀(i b:Nat) (x:AR),U[i]?=some (some b)->H[i]?=some x->x.live=true->¬a b)
  (h:∀(i b:Nat) (x:AR) (c:Nat),U[i]?=some (some b)->H[i]?=some x->Bw w x b c->¬a c):AU fr (λb=>ro b\/a b) U H w:=by
 have ext:BI ro U w (λb=>ro b\/a b) U w:=⟨λ_ q=>.inl q,λ_ _=>rfl,λ_ _ q=>q,λ_ _ q=>q⟩;refine⟨s.len,s.roOk.to (λ_ q=>.inl q) (λ_ _=>rfl) (λb q=>q.elim (s.roLt b) (e b)),s.frLt,λb q=>q.elim (s.roFr b) (g b),λi b x f d k=>?_,s.inj,λi y x f d=>(s.blk i y x f d).keep ext (λ_ _ _=>rfl) (λ_ _ _ _=>rfl),
  s.hidTo (· = ·) Yd (XR _) (by grind) (by simp) (by grind)⟩
 obtain⟨l,m,n⟩:=s.own i b x f d k
 grind
theorem RJ.roAdd{D:Ns}{ro1:Nat->Prop}{σ1:AZ}{H:Qb}{st:LoopState}{pe:AB Code}{qR ri g:Nat->Prop}{W:World}(j:RJ D ro1 σ1 H st pe qR g W)(hq:∀b,qR b->ri b)(hI:∀b,ri b->b<W.heap.size/\ ¬g b):RJ D (λb=>ro1 b\/ri b) σ1 H st pe ri g W:=
 {j with
  sim:=j.sim.roAdd (λb q=>(hI b q).1) (λb q z=>(hI b q).2 (j.frG b z)) (λi b x q1 q2 q3 z=>(hI b z).2 (j.own i b x q1 q2 q3)) (λi b x c q1 q2 q3 z=>(hI c z).2 (j.hidG i b x c q1 q2 q3))
  env:=λt=>(j.env t).mono ⟨λ_ q=>.inl q,λ_ _=>rfl,λ_ _ q=>q,λ_ _ q=>q⟩
  ev:=j.ev.trans (YZ λ_ q=>.inl q)
  roG:=λb q=>q.elim (λq=>(j.roG b q).imp (hq b) id) .inl}
def V':AA Nat->AA A->Env->Env
 |p::ps,a::zs,env=>V' ps zs (up env p a)
 |_,_,env=>env
def Oh:AA Nat->AA Value->Array Value->Array Value
 |p::ps,v::vs,t=>Oh ps vs (t.setIfInBounds p v)
 |_,_,t=>t
theorem qj:∀(ps:AA Nat) (vs:AA Value) (t:Array Value),(Oh ps vs t).size=t.size
 |[],_,_=>rfl
 |_::_,[],_=>rfl
 |p::ps,v::vs,t=>by simp[Oh,qj ps]
theorem qi:∀(ps:AA Nat) (vs:AA Value) (t:Array Value),(ps.toArray.zip vs.toArray).foldl (λt (p,v)=>t.setIfInBounds p v) t=Oh ps vs t
 |[],vs,t=>by rw[<- Array.foldl_toList,Array.toList_zip];rfl
 |p::ps,[],t=>by rw[<- Array.foldl_toList,Array.toList_zip];rfl
 |p::ps,v::vs,t=>by
  have:=qi ps vs (t.setIfInBounds p v);rw[<- Array.foldl_toList,Array.toList_zip]at this⊢;exact this
theorem oN{ro:Nat->Prop}{U:AZ}{w:World}:∀(ps:AA Nat) (zs:AA A) (vs:AA Value) (env:Env) (t:Array Value),LR ro U w zs vs->(∀p∈ps,p<t.size)->(∀s,VR ro U w (lk env s) (t.getD s undef))->
  ∀s,VR ro U w (lk (V' ps zs env) s) ((Oh ps vs t).getD s undef)
 |[],_,_,_,_,_,_,h=>h
 |p::ps,[],vs,_,_,hv,_,h=>by
  obtain rfl:vs=[]:=hv;exact h
 |p::ps,a::zs,vs,env,t,hv,hp,h=>by
  obtain⟨v,vs',rfl,h0,hv'⟩:=hv;have h1:=VR.up (fr:=λ_=>False) (a:={tmps:=t,defers:=[]}) h (hp p (by simp)) h0;exact oN ps zs vs' (up env p a) (t.setIfInBounds p v) hv' (λq hq=>by grind) h1
def jg(h1:Nat)(env:Env)(Q:QW)(K:Qb->Prop):QW
 |.normal,env',H'=>∃H2,Le h1 env' H' [] H2/\K H2
 |.exit id,env',H'=>∃H2,Le h1 env' H' [] H2/\Q (.exit id) env H2
 |.ret,env',H'=>∃H2,Le h1 env' H' [] H2/\Q .ret env H2
def W_(Q:QW)(env:Env)(c:Code)(H:Qb):Prop:=(∃id,c=.exit id/\Q (.exit id) env H)\/(c=.ret/\Q .ret env H)
variable {cs:AA A}
section
variable {D:Ns} {ro0:Nat->Prop} {σ1:AZ} {H:Qb} {qR ri g:Nat->Prop} {W:World} {P:Program} {N:Nat} {Q:QW} {K:Qb->Prop}
theorem RJ.round{fn:FuncId}{ps:AA Nat}{assign body:Code}{df:Nat}{vs:AA Value}(hD:D.Ok)(M:D.rc=λst pe=>{state:=st,pending:=pe,fn:=fn,tmps:=D.tmps,params:=ps.toArray,assign:=assign,body:=body,defers:=df})
  (hN:D.tmps.size=N)(al:∀p∈ps,p<N)(ak:cs.length=ps.length)(hq:∀b,qR b->ri b)(hI:∀b,ri b->b<W.heap.size/\ ¬g b)(ab:LR ri [] W cs vs)(j0:RJ D ro0 σ1 H .ready none qR g W)
  (h:TC P D.h1 N assign (V' ps cs D.env) H λe env1 H1=>e=.normal/\TC P D.h1 N body env1 H1 (jg D.h1 D.env Q K)):
  YieldAt Fence.wide 0 P D.l vs.toArray W λe W'=>∃g',WR g g' W W'/\((e=.returned (.bool true)/\ ∃H2 ro2 σ2,K H2/\RJ D ro2 σ2 H2 .ready none ri g' W')\/
   (e=.returned (.bool false)/\ ∃H2 c ro2 σ2,W_ Q D.env c H2/\RJ D ro2 σ2 H2 .done (some c) ri g' W')):=by
 have am:vs.length=cs.length:=ab.length;have j:=j0.roAdd hq hI;have t:LR (λb=>ro0 b\/ri b) σ1 W cs vs:=ab.mono ⟨λ_ q=>.inr q,λ_ _=>rfl,λ_ _ q=>q,λi b q=>by simp at q⟩;clear j0;generalize(λb=>ro0 b\/ri b)=ro1 at j t;have ae:∀b,D.fr1 b->G9 D ro1 g W b:=λb q=>⟨.inl q,j.sim.frLt b q⟩;have x:=ae _ hD.l1;have G:=j.rc;have hy:=run_yield (P:=P) (r:=D.rc .ready none) (args:=vs.toArray) G (by grind);refine⟨fn,Oh ps vs D.tmps,assign,body,?_,?_⟩
 .grind[qi]
 .refine roundIn_of_wpIn trivial ?_;show Code.wpIn (WF (some D.l)) 0 P _ _ _ _;have J:∀s,VR ro1 σ1 W (lk D.env s) (D.tmps.getD s undef):=λs=>(j.env s).mono ⟨λ_ q=>q,λ_ _=>rfl,λ_ _ q=>q,λi b q=>sj j.sig q⟩;have af:D5 (some D.l) (G9 D ro1 g W) W:=λl e=>by grind
  have w1:=h (some D.l) (G9 D ro1 g W) ro1 σ1 {tmps:=Oh ps vs D.tmps,defers:=[]} W ⟨j.simB,oN ps cs vs D.env D.tmps t (by grind) J,by simp[qj,hN],List.nodup_nil,λd hd=>by cases hd⟩ af;refine Code.wpIn_mono ?_ w1;rintro e a1 w1 ⟨x1,env1,H1,ro2,σ2,n,h1,⟨rfl,h2⟩,R,h4,h5,h6⟩;cases e with
  |normal=>
   have O:w1.heap[D.l]?=some (.loop (D.rc .ready none)):=(h4.keepFr _ x).trans G;refine⟨_,run_beginRound O (by rw[M]),?_⟩;obtain⟨s2,z⟩:=R.sim.put (obj:=.loop {D.rc .ready none with state:=.busy}) (h6.sub _ x) (lh O);have T:D.l<w1.heap.size:=by grind
   have ai:(w1.putObj D.l (.loop {D.rc .ready none with state:=.busy})).heap[D.l]?=some (.loop {D.rc .ready none with state:=.busy}):=World.putObj_heap_same T;generalize hw2:w1.putObj D.l (.loop {D.rc .ready none with state:=.busy})=w2 at*;have ac:ID n a1.defers w2:=by
    refine⟨R.defers.1,λd hd=>?_⟩;obtain⟨B,e1,e2,e3⟩:=R.defers.2 d hd;refine⟨B,e1,e2,(z.keepFr B (λe=>?_)).trans e3⟩
    grind
   have r2:BL n ro2 σ2 H1 env1 N a1 w2:=⟨s2,λs=>(R.env s).mono (z.ext0 σ2),R.size,ac⟩;have Y:n D.l:=h6.sub _ x;refine Code.wpIn_mono ?_ (h2 (some D.l) n ro2 σ2 a1 w2 r2 (λl e=>by grind));rintro e a3 w3 ⟨x3,aa,H3,u,σ3,X,g1,g2,g3,g4,g5,g6⟩;have m:w3.heap[D.l]?=some (.loop {D.rc .ready none with state:=.busy}):=(g4.keepFr _ Y).trans ai;have y:∀(H2:Qb) (jump:AB Code),Le D.h1 aa H3 [] H2->∃v k,(Instr.endRound D.l jump).run P w3=.ok v k/\v=.bool jump.isNone/\ ∃g',WR g g' W k/\ ∃a σ4,RJ D a σ4 H2 (if jump.isNone then .ready else .done) jump ri g' k:=by
    intro H2 jump f;obtain⟨a,σ4,r4,s4,t4⟩:=f X u σ3 N a3 w3 g3;refine⟨_,_,run_endRound jump m,rfl,?_⟩;have ag:X D.l:=g6.sub _ Y;obtain⟨s5,aj⟩:=r4.sim.put ag (lh m);have E:D.l<w3.heap.size:=by rw[X9]at m;exact m.1
    have ah:=World.putObj_heap_same (w:=w3) (r:=D.l) (o:=.loop {{D.rc .ready none with state:=.busy}with state:=if jump.isNone then .ready else .done,pending:=jump}) E;have e1:Qm (λb=>G9 D ro1 g W b/\b≠D.l) ro1 W ro2 w1:=h4.frMono λb q=>q.1;have e2:Qm (λb=>G9 D ro1 g W b/\b≠D.l) ro2 w1 ro2 w2:=z.frMono λb q=>q.2;have e3:Qm (λb=>G9 D ro1 g W b/\b≠D.l) ro2 w2 u w3:=g4.frMono λb q=>h6.sub b q.1;have e4:Qm (λb=>G9 D ro1 g W b/\b≠D.l) u w3 a w3:=YZ s4;have e5:=(((e1.trans e2).trans e3).trans e4).trans (aj.frMono λb (q:G9 D ro1 g W b/\b≠D.l)=>q.2);obtain⟨q1,q2⟩:=j.fin hD e5 s5 (λb q=>g6.sub b (h6.sub b q)) (by rw[t4,g5,h5]) (st':=if jump.isNone then .ready else .done) (pe':=jump) (by rw[ah,M]);exact⟨_,q2,a,σ4,q1⟩
   cases e with
   |normal=>
    obtain rfl:x3=.normal:=g1;obtain⟨H2,f,L⟩:=g2;obtain⟨v,k,F,rfl,g',V,a,σ4,k3⟩:=y H2 none f;exact⟨_,k,F,g',V,.inl ⟨rfl,H2,a,σ4,L,k3⟩⟩
   |exit id=>
    obtain rfl:x3=.exit id:=g1;obtain⟨H2,f,L⟩:=g2;obtain⟨v,k,F,rfl,g',V,a,σ4,k3⟩:=y H2 (some (.exit id)) f;exact⟨_,k,F,g',V,.inr ⟨rfl,H2,_,a,σ4,.inl ⟨id,rfl,L⟩,k3⟩⟩
   |ret=>
    obtain rfl:x3=.ret:=g1;obtain⟨H2,f,L⟩:=g2;obtain⟨v,k,F,rfl,g',V,a,σ4,k3⟩:=y H2 (some .ret) f;exact⟨_,k,F,g',V,.inr ⟨rfl,H2,_,a,σ4,.inr ⟨rfl,L⟩,k3⟩⟩
   |_=>exact g1.elim
  |exit id=>cases h1
  |ret=>cases h1
  |_=>exact h1.elim
end
theorem AU.beside{H:Qb}{w1:World}(s:AU fr ro U H w)(ev:Qm fr ro w ro w1)(a:∀b,b<w.heap.size->w1.heap[b]?=w.heap[b]?):AU (λb=>fr b\/(w.heap.size<=b/\b<w1.heap.size)) ro U H w1:=by
 have hext:=ev.ext0 U;refine⟨s.len,s.roOk.to (λ_ q=>q) ev.keepRo (λb q=>Vb (s.roLt b q) ev.size),λb q=>q.elim (λq=>Vb (s.frLt b q) ev.size) (λq=>q.2),λb q r=>?_,λi b x f e k=>?_,s.inj,λi z x f e=>?_,
  s.hidTo (· = ·) Yd ev.size (by simp) (λi b x c f e k m=>m.elim id λq=>(by have:=(s.hid i b x c f e k).lt;omega)) λj d y h l p=>.inl ⟨j,y,rfl,h,l,id,λc q=>s.hidKeep h l (λz=>a d (s.own j d y h l z).1) ev.keepRo q⟩⟩
 .rcases r with r|r
  .exact s.roFr b q r
  .have:=s.roLt b q;omega
 .obtain⟨n,t,u⟩:=s.own i b x f e k
  grind
 .refine(s.blk i z x f e).keep hext ?_ ?_
  .rintro b rfl g;exact a b (s.own i b x f e g).1
  .rintro b c rfl g;exact a c (s.hid i b x c f e g).lt
theorem cQ{o:Obj}(a:b<w.heap.size):(w.alloc o).heap[b]?=w.heap[b]? :=by
 show(w.heap.push o)[b]?=_
 grind
theorem wS{fn:FuncId}{tmps:Array Value}{ps:Array Tmp}{assign body:Code}(f:D5 rd fr w)(s:∀b,ro b->b<w.heap.size)(k:∀b,fr b->b<w.heap.size):
  ∃l mark w1 df,(Instr.enterLoop fn tmps ps assign body rd).run P w=.ok (l,mark) w1/\w.heap.size<=l/\l<w1.heap.size/\w1.heap[l]?=some (.loop {state:=.ready,pending:=none,fn:=fn,tmps:=tmps,params:=ps,assign:=assign,body:=body,defers:=df})/\
   (∀b,b<w.heap.size->w1.heap[b]?=w.heap[b]?)/\mark.Nodup/\(∀d∈mark,∃D,d={target:=.collected D,args:= #[]}/\w.heap.size<=D/\D<w1.heap.size/\w1.heap[D]?=some (.deferred (some [])))/\Qm fr ro w ro w1:=by
 have e:∀w1,(∀b,b<w.heap.size->w1.heap[b]?=w.heap[b]?)->w.heap.size<=w1.heap.size->w1.os=w.os->w1.tape=w.tape->w1.output=w.output->w1.drawn=w.drawn->Qm fr ro w ro w1:=by
  intro w1 y n m r p u;refine⟨λ_ q=>q,(by grind),(by grind),n,λb x q=>?_,m,r,p,by omega⟩
  grind[World.shape?]
 cases rd with
 |none=>
  have a:∀b,b<w.heap.size->((w.alloc (.deferred (some []))).alloc (.loop {state:=.ready,pending:=none,fn:=fn,tmps:=tmps,params:=ps,assign:=assign,body:=body,defers:=w.heap.size})).heap[b]?=w.heap[b]? :=λb g=>
   (cQ (by simp;omega)).trans (cQ g)
  refine⟨_,_,_,w.heap.size,run_enterLoop_outer fn tmps ps assign body,by omega,by simp,?_,a,by simp,?_,e _ a (by simp;omega) rfl rfl rfl rfl⟩
  .grind[World.alloc_heap_new,World.size_alloc]
  .intro d t;obtain rfl:=Vx.1 t;exact⟨_,rfl,XR _,by simp;omega,(cQ (by simp)).trans (World.alloc_heap_new w _)⟩
 |some j=>
  obtain⟨_,h,i⟩:=f j rfl;have a:∀b,b<w.heap.size->(w.alloc (.loop {state:=.ready,pending:=none,fn:=fn,tmps:=tmps,params:=ps,assign:=assign,body:=body,defers:=h.defers})).heap[b]?=w.heap[b]? :=λb g=>cQ g;exact⟨_,_,_,h.defers,run_enterLoop_inner i fn tmps ps assign body,XR _,by simp,World.alloc_heap_new w _,a,List.nodup_nil,(by simp),e _ a (by simp) rfl rfl rfl rfl⟩
theorem TC.rangeFunc{P:Program}{h0 N:Nat}{ae:Operand}{ps:AA Nat}{assign body:Code}{env:Env}{H:Qb}{Q:QW}{f:FuncId}{ag ac:AA A}{Hc:Qb}{T S:Type}{enc:T->AA A}{nx:AA T->T->AA T->Prop}{xs:AA T}
  (π:AA Nat)(Hp:S->Qb)(V:S->AA T->Prop)(s0:S)(hh:h0<=H.length)(hg:AM env ae=.fn (.func f) [] ag)(hargs:ag=C3 (Af π H.length) ac)(hH:π.map (λp=>H[p]?)=(Hc.map (Q9 (Af π H.length))).map some)(hπ:π.Nodup)
  (bf:(ps.all λp=>Nat.blt p N)=true)(eg:∀args w,(callFunc f args).run P w=.ok (.enter f args) w)(ay:K4 P f ac Hc enc nx xs)(av:∀x,(enc x).length=ps.length)
  (a5:Le H.length env (Nb H π) env (Hp s0))(hV:V s0 xs)
  (ah:∀s l x rem,V s l->nx l x rem->TC P H.length N assign (V' ps (enc x) env) (Hp s) λe env1 H1=>e=.normal/\TC P H.length N body env1 H1 (jg H.length env Q λH2=>∃s',V s' rem/\H2=Hp s'))
  (ak:∀s,V s []->Q .normal env (Hp s)):TC P h0 N (.rangeFunc ae ps.toArray assign body) env H Q:=by
 intro rd fr ro U a w r hrd;have hv:=Ql r ae;rw[hg]at hv;obtain⟨l1,E,hv,a3,aq⟩:=hv;obtain rfl:l1=[]:=a3;refine wpIn_rangeFunc ?_;intro fn bg;obtain⟨l,G,w1,df,he,hl,bd,a0,au,a9,aj,Y⟩:=wS (P:=P) (fn:=fn) (tmps:=a.tmps) (ps:=ps.toArray) (assign:=assign) (body:=body) (ro:=ro) hrd r.sim.roLt r.sim.frLt;have s1:=r.sim.beside Y au
 let D:Ns:=⟨fr,ro,U,w,H.length,env,a.tmps,G++a.defers,l,(λst pe=>{state:=st,pending:=pe,fn:=fn,tmps:=a.tmps,params:=ps.toArray,assign:=assign,body:=body,defers:=df}),(λb=>fr b\/(w.heap.size<=b/\b<w1.heap.size))⟩
 have af:¬fr l:=λq=>by have:=r.sim.frLt l q;omega
 have hD:D.Ok:=⟨λb q=>.inl q,.inr ⟨hl,bd⟩,af,r.sim.len⟩;have M:ID D.fr1 (G++a.defers) w1:=by
  refine⟨List.nodup_append.2 ⟨a9,r.defers.1,λd R d' a8 e=>?_⟩,λd R=>?_⟩
  .subst e;obtain⟨B,e1,e2,_⟩:=aj d R;obtain⟨B',ao,ba,_⟩:=r.defers.2 d a8;rw[e1]at ao;have:B=B':=by simpa using ao
   subst this;have:=r.sim.frLt B ba;omega
  .rcases Vz.1 R with R|R
   .obtain⟨B,e1,e2,e3,e4⟩:=aj d R;exact⟨B,e1,.inr ⟨e2,e3⟩,e4⟩
   .obtain⟨B,e1,e2,e3⟩:=(r.defers.keep Y).2 d R;exact⟨B,e1,.inl e2,e3⟩
 obtain⟨sp,hσc⟩:=s1.part hH hπ;have al:LR ro (YN U π) w1 ac E:=(LD hσc).1 (hargs▸aq.mono (Y.ext0 U))
 let frX:Nat->Prop:=λb=>D.fr1 b\/(∃(j:Nat) (x:AR),(YN U π)[j]?=some (some b)/\Hc[j]?=some x/\x.live=true)\/ ∃(j:Nat) (x:AR) (d:Nat),(YN U π)[j]?=some (some d)/\Hc[j]?=some x/\Bw w1 x d b
 have sX:AU frX ro U (Nb H π) w1:=by
  refine(ky π s1).frames (λb q=>?_) (λb q r=>?_) (λi b x n m k r=>?_) (λi b x c n m k r=>?_)
  .rcases q with q|⟨j,x,n,m,k⟩|⟨j,x,d,n,m,k⟩
   .exact s1.frLt b q
   .exact(sp.own j b x n m k).1
   .exact(sp.hid j d x b n m k).lt
  .rcases r with r|⟨j,x,n,m,k⟩|⟨j,x,d,n,m,k⟩
   .exact s1.roFr b q r
   .exact(sp.own j b x n m k).2.1 q
   .exact(sp.hid j d x b n m k).ro q
  .rcases ku _ _ _ _ m with rfl|⟨m,hi⟩
   .cases k
   .rcases r with r|⟨j,y,p1,p2,p3⟩|⟨j,y,d,p1,p2,p3⟩
    .exact(s1.own i b x n m k).2.2 r
    .exact(sp.own j b y p1 p2 p3).2.2 (.inr (.inl ⟨i,x,n,m,k,hi (li k)⟩))
    .exact(sp.hid j d y b p1 p2 p3).fr (.inr (.inl ⟨i,x,n,m,k,hi (li k)⟩))
  .rcases ku _ _ _ _ m with rfl|⟨m,hi⟩
   .exact k.elim
   .rcases r with r|⟨j,y,p1,p2,p3⟩|⟨j,y,d,p1,p2,p3⟩
    .exact(s1.hid i b x c n m k).fr r
    .exact(sp.own j c y p1 p2 p3).2.2 (.inr (.inr ⟨i,x,b,n,m,k,hi k.holds⟩))
    .exact(sp.hid j d y c p1 p2 p3).fr (.inr (.inr ⟨i,x,b,n,m,k,hi k.holds⟩))
 have rX:BL frX ro U (Nb H π) env N {a with defers:=G++a.defers} w1:=
  ⟨sX,λs=>(r.env s).mono (Y.ext0 U),r.size,M.1,λd R=>let⟨B,e1,e2,e3⟩:=M.2 d R;⟨B,e1,.inl e2,e3⟩⟩
 obtain⟨ab,σ',r',aa,be⟩:=a5 frX ro U N _ w1 rX;have hσt:U.take H.length=U:=by rw[<- r.sim.len,X6]
 let g0:Nat->Prop:=λb=>D.fr1 b\/(ab b/\ ¬ro b)\/(∃(i:Nat) (x:AR),σ'[i]?=some (some b)/\(Hp s0)[i]?=some x/\x.live=true)\/ ∃(i:Nat) (x:AR) (d:Nat),σ'[i]?=some (some d)/\(Hp s0)[i]?=some x/\Bw w1 x d b
 have j0:RJ D ab σ' (Hp s0) .ready none ro g0 w1:=by
  refine⟨r'.sim.frMono λb q=>.inl q,λt=>(r.env t).mono ⟨aa,Y.keepRo,Y.shape,λ_ _ q=>q⟩,be.trans hσt,Y.trans (YZ aa),M,a0,λb q=>?_,λb q=>.inl q,λi b x n m k=>.inr (.inr (.inl ⟨i,x,n,m,k⟩)),λi b x c n m k=>.inr (.inr (.inr ⟨i,x,b,n,m,k⟩)),λb q=>?_⟩
  .by_cases z:ro b
   .exact .inl z
   .exact .inr (.inr (.inl ⟨q,z⟩))
  .rcases q with q|q|⟨i,x,n,m,k⟩|⟨i,x,d,n,m,k⟩
   .exact s1.frLt b q
   .exact r'.sim.roLt b q.1
   .exact(r'.sim.own i b x n m k).1
   .exact(r'.sim.hid i d x b n m k).lt
 have sI:AU g0 ro (YN U π) Hc w1:=by
  refine sp.frames (λb q=>j0.lt b q) (λb q z=>?_) (λj b x n m k z=>?_) (λj b x c n m k z=>?_)
  .rcases z with z|z|⟨i,x,n,m,k⟩|⟨i,x,d,n,m,k⟩
   .exact s1.roFr b q z
   .exact z.2 q
   .exact(r'.sim.own i b x n m k).2.1 (aa b q)
   .exact(r'.sim.hid i d x b n m k).ro (aa b q)
  .have hX:frX b:=.inr (.inl ⟨j,x,n,m,k⟩);rcases z with z|z|⟨i,y,p1,p2,p3⟩|⟨i,y,d,p1,p2,p3⟩
   .exact(sp.own j b x n m k).2.2 (.inl z)
   .exact r'.sim.roFr b z.1 hX
   .exact(r'.sim.own i b y p1 p2 p3).2.2 hX
   .exact(r'.sim.hid i d y b p1 p2 p3).fr hX
  .have hX:frX c:=.inr (.inr ⟨j,x,b,n,m,k⟩);rcases z with z|z|⟨i,y,p1,p2,p3⟩|⟨i,y,d,p1,p2,p3⟩
   .exact(sp.hid j b x c n m k).fr (.inl z)
   .exact r'.sim.roFr c z.1 hX
   .exact(r'.sim.own i c y p1 p2 p3).2.2 hX
   .exact(r'.sim.hid i d y c p1 p2 p3).fr hX
 let X:CT T:={l:=l,J:=λrem q g W=>∃s F σ1,V s rem/\RJ D F σ1 (Hp s) .ready none q g W,Jx:=λ_ q g W=>∃H2 c F σ1,W_ Q env c H2/\RJ D F σ1 H2 .done (some c) q g W,enc:=enc,nx:=nx}
 have az:∀p∈ps,p<N:=λp hp=>by simpa using Xt.1 bf p hp
 have hX:X.ok P:=by
  refine⟨⟨λrem q g W W' ab ⟨s,F,σ1,L,O⟩ he=>⟨s,F,σ1,L,O.step hD he⟩,λrem q g g' W ⟨s,F,σ1,L,O⟩ hg hl=>⟨s,F,σ1,L,O.up hg hl⟩⟩,
   ⟨λrem q g W W' ab ⟨H2,c,F,σ1,L,O⟩ he=>⟨H2,c,F,σ1,L,O.step hD he⟩,λrem q g g' W ⟨H2,c,F,σ1,L,O⟩ hg hl=>⟨H2,c,F,σ1,L,O.up hg hl⟩⟩,?_⟩
  rintro lr x rem q g ri W vs a2 ⟨s,F,σ1,L,O⟩ hq hI a7;obtain⟨a6,tm,a4,bb,y1,y2⟩:=RJ.round (D:=D) (Q:=Q) (K:=λH2=>∃s',V s' rem/\H2=Hp s') hD rfl r.size az (av x) hq hI a7 O (ah s lr x rem L a2);refine⟨a6,tm,a4,bb,y1,RoundIn.mono y2 ?_⟩;rintro e W' ⟨g',k1,k2⟩;refine⟨g',ri,λ_ z=>z,k1,?_⟩;rcases k2 with⟨rfl,H2,u,σ2,⟨s',bc,rfl⟩,k3⟩|⟨rfl,H2,c,u,σ2,k3,k4⟩
  .exact .inl ⟨rfl,s',u,σ2,bc,k3⟩
  .exact .inr ⟨rfl,H2,c,u,σ2,k3,k4⟩
 have ax:∀(ev:Operand->Value),ev ae=.func (.func f) #[] E.toArray->ev (.const (.func (.yield l) #[] #[]))=.func (.yield l) #[] #[]->(resolve ev (rangeCall ae l) 0).run P w1=.ok {target:=.fn (.func f) E.toArray,args:= #[.func (.yield l) #[] #[]]} w1:=by
  intro ev L O;simp[resolve,go_sem,L,O]
 refine⟨l,G,w1,{target:=.fn (.func f) E.toArray,args:= #[.func (.yield l) #[] #[]]},w1,f, #[.func (.yield l) #[] #[]]++E.toArray,w1,he,ax a.eval hv rfl,λ_ _=>trivial,by simp[invoke,go_sem,eg],λh=>by simp[WF,Fence.wide]at h,?_⟩;refine WF.calls.2 ?_;have an:=ay X rfl rfl hX g0 ro (YN U π) w1 E ro sI (λ_ z=>z) al ⟨s0,ab,σ',hV,j0⟩;have am:(#[.func (.yield l) #[] #[]]++E.toArray:Array Value)=((Value.func (.yield X.l) #[] #[]::E)).toArray:=by simp[X]
 rw[am];refine Calls.mono an ?_;rintro e W' ⟨⟨v,rfl⟩,g2,qz,bh,ar⟩;have fin:∀(H2:Qb) (st:LoopState) (pe:AB Code) (u:Nat->Prop) (σ2:AZ),st≠ .busy->RJ D u σ2 H2 st pe qz g2 W'->∃w4,(Instr.endLoop l).run P W'=.ok pe w4/\BL D.fr1 u σ2 H2 env N {a with defers:=G++a.defers} w4/\Qm fr ro w u w4:=by
  intro H2 st pe u σ2 hst j;refine⟨_,run_endLoop j.rc (by exact hst),?_⟩;obtain⟨s5,ai⟩:=j.sim.put (obj:=.loop {(D.rc st pe)with state:=.exhausted}) hD.l1 (lh j.rc);have hr:=j.rc;refine⟨⟨s5,λt=>((j.env t).mono ⟨λ_ q=>q,λ_ _=>rfl,λ_ _ q=>q,λi b q=>sj j.sig q⟩).mono (ai.ext0 σ2),r.size,j.marks.1,λd R=>?_⟩,j.ev.trans (ai.frMono λb q e=>af (by have e':b=l:=e;rw[<- e'];exact q))⟩;obtain⟨B,e1,e2,e3⟩:=j.marks.2 d R;refine⟨B,e1,e2,(ai.keepFr B (λe=>?_)).trans e3⟩;subst e;rw[hr]at e3;cases e3
 have a1:BN fr w a.defers D.fr1 (G++a.defers):=by
  refine⟨λb q=>.inl q,λb q=>q.imp id (λq=>q.1),λd R=>?_⟩;rcases Vz.1 R with R|R
  .obtain⟨B,e1,e2,_⟩:=aj d R;exact .inr ⟨B,e1,e2⟩
  .exact .inl R
 have aw:∀{σ2:AZ},σ2.take H.length=U->σ2.take h0=U.take h0:=by
  intro σ2 h;have:=congrArg (List.take h0) h
  rwa [List.take_take,XA hh]at this
 rcases ar with⟨s,u,σ2,L,O⟩|⟨rem,H2,c,u,σ2,L,O⟩
 .obtain⟨w4,f1,f2,f3⟩:=fin _ _ _ u σ2 (by intro e;cases e) O;exact⟨none,w4,f1,.normal,env,_,u,σ2,_,rfl,ak s L,f2,f3,aw O.sig,a1⟩
 .obtain⟨w4,f1,f2,f3⟩:=fin _ _ _ u σ2 (by intro e;cases e) O;refine⟨some c,w4,f1,?_⟩;have hc:TC P h0 N c env H2 Q:=by
   rcases L with⟨id,rfl,L⟩|⟨rfl,L⟩
   .exact TC.exit L
   .exact TC.ret L
  exact Code.wpIn_mono (λe a w q=>q.grow f3 (aw O.sig) a1) (hc rd D.fr1 u σ2 _ w4 f2 (hrd.to f3 λb q=>.inl q))
variable {env:Env}{k t:Nat}
theorem zj{i T:Nat}{H:Qb}(hh:Nat.ble h0 H.length=true)(hH:H[i]?=some (.cells T [.nils])):Le h0 env H env (H.set i (.cells T [.osl H.length 0 0 k])++[.row t k []]):=by
 intro fr F U N a w r;have J:h0<=H.length:=(by simp_all);have hi:i<H.length:=(by grind);have ext:BI F U w F (U++[none]) w:=⟨λ_ q=>q,λ_ _=>rfl,λ_ _ q=>q,(by grind)⟩;have s:=r.sim.phantom t k;have g:(H++[AR.row t k []])[i]?=some (.cells T [.nils]):=by grind
 have X:H.set i (.cells T [.osl H.length 0 0 k])++[.row t k []]=(H++[AR.row t k []]).set i (.cells T [.osl H.length 0 0 k]):=by
  grind
 have f:∀(j:Nat) (v:AR),((H++[AR.row t k []]).set i (.cells T [.osl H.length 0 0 k]))[j]?=some v->(j=i/\v=.cells T [.osl H.length 0 0 k])\/(j≠i/\(H++[AR.row t k []])[j]?=some v):=by
  grind
 have e:∀(j:Nat) (v:AR),((H++[AR.row t k []]).set i (.cells T [.osl H.length 0 0 k]))[j]?=some v->v.live=true->∃u,(H++[AR.row t k []])[j]?=some u/\u.live=true:=by
  intro j v h hv;rcases f j v h with⟨rfl,rfl⟩|⟨_,h⟩
  .exact⟨_,g,rfl⟩
  grind
 refine⟨F,U++[none],⟨?_,λq=>(r.env q).mono ext,r.size,r.defers⟩,λ_ q=>q,QI (by rw[r.sim.len];exact J)⟩;rw[X];refine⟨by rw[X2];exact s.len,s.roOk,s.frLt,s.roFr,λj b v p z G=>?_,λj L b v u p z G Q P R=>?_,λj y v p z=>?_,
  s.hidTo (· = ·) Yd (XR _) (by simp) (by simp) λj d y m n W=>.inl ?_⟩
 rotate_left 3
 .rcases f j y n with⟨rfl,rfl⟩|⟨_,h⟩
  .exact⟨j,_,rfl,m,g,λ_=>rfl,λ_ q=>q.elim⟩
  grind
 .obtain⟨u,m,n⟩:=e j v z G;exact s.own j b u p m n
 .obtain⟨x,m,n⟩:=e j v G P;obtain⟨Y,E,B⟩:=e L u Q R;exact s.inj j L b x Y p z m E n B
 .rcases f j v z with⟨rfl,rfl⟩|⟨_,h⟩
  .have:=s.blk j y _ p g;cases y with
   |none=>exact this
   |some b=>
    obtain⟨l,m,⟨V,M,rfl,n,W⟩,O⟩:=this;refine⟨_,m,⟨V,M,rfl,.inl ⟨rfl,n⟩,?_⟩,O⟩;omega
  .exact s.blk j y v p h
theorem n7{i:Nat}{H:Qb}{es:AA (A×A)}(hH:H[i]?=some (.map es)):Le h0 env H env (H.set i (.fmap es)):=by
 intro f e U N a w r;have d:∃s,U[i]?=some s:=by
  have:i<U.length:=by rw[r.sim.len];grind
  simp_all
 obtain⟨s,d⟩:=d;cases s with
 |none=>exact(r.sim.blk i _ _ d hH).elim
 |some b=>
  refine⟨_,U,⟨r.sim.shutMap d hH,λq=>(r.env q).mono ⟨λ_ q=>.inl q,λ_ _=>rfl,λ_ _ q=>q,λ_ _ q=>q⟩,r.size,r.defers⟩,λ_ q=>.inl q,rfl⟩
def OV(l:AA T)(x:T)(rem:AA T):Prop:=l.Perm (x::rem)
def nh(ts te:Nat)(ld:Op):Code:=.block 1 (.region 3 #[{dst:=some 8,op:=.load ts (.tmp 2),type:=ts,pos:="iter.go:52",after:= #[],guard:=none},{dst:=some 9,op:=ld,type:=te,pos:="iter.go:52",after:= #[],guard:=none},
 {dst:=some 10,op:=.buildSlice ts 1 #[(0,.tmp 9)],type:=ts,pos:="iter.go:52",after:= #[{on:=1,ground:=.data}],guard:=none},
 {dst:=some 11,op:=.call {callee:=.builtin .append,args:= #[.tmp 8,.tmp 10],argTypes:= #[ts,ts]},type:=ts,pos:="iter.go:52",after:= #[{on:=0,ground:=.data},{on:=2,ground:=.data}],guard:=none},
 {dst:=none,op:=.store ts (.tmp 2) (.tmp 11),type:=0,pos:="iter.go:52",after:= #[{on:=3,ground:=.data},{on:=3,ground:=.chain},{on:=0,ground:=.phase},{on:=1,ground:=.phase},{on:=2,ground:=.phase},{on:=3,ground:=.phase}],guard:=none}] false)
def tw(ts tq te:Nat)(asg:Code)(ld:Op):Code:=(Code.region 0 #[{dst:=some 2,op:=.box ts (.tmp 0),type:=0,pos:="iter.go:50",after:= #[],guard:=none},{dst:=some 4,op:=.assign (.const (.slice none 0 0)),type:=ts,pos:="iter.go:50",after:= #[],guard:=none}] false).seq
 (((Code.region 1 #[{dst:=some 6,op:=.move (.tmp 1),type:=tq,pos:="iter.go:51",after:= #[],guard:=none}] false).seq (.block 0 (.rangeFunc (.tmp 6) #[7] asg (nh ts te ld)))).seq
  ((Code.region 4 #[{dst:=some 12,op:=.load ts (.tmp 2),type:=ts,pos:="iter.go:54",after:= #[],guard:=none},{dst:=some 4,op:=.assign (.tmp 12),type:=ts,pos:="iter.go:54",after:= #[{on:=0,ground:=.data},{on:=0,ground:=.phase}],guard:=none}] false).seq .ret))
def tv(te:Nat):Code:=.region 2 #[{dst:=some 5,op:=.assign (.tmp 7),type:=te,pos:="iter.go:51",after:= #[],guard:=none}] false
variable {env0:Env}
section
variable {P:Program} {T:Type} {ts tq te k tm:Nat} {g:FuncId} {es:AA (A×A)} {e:T->AA A} {ea:T->A} {xs:AA T}
abbrev tn(ts te k tm:Nat)(es:AA (A×A))(e:T->AA A)(done:AA T):Qb:=[.dead,.fmap es,.cells ts [.osl 3 0 done.length k],.row te k (done.map e)]
theorem uN(B:N=13){done:AA T}{x:T}{H:Qb}{K:Qb->Prop}{h:Op}(E:Q2 P ts te k)(z:∀w,(isAgg ts).run P w=.ok false w)(j:∀w,(sizeOf ts).run P w=.ok 1 w)(q:app done [x]=some (done++[x]))
  (u:(e x).length=k)(F:Nat.ble (k+1) 16777216=true)(a:Yr (ea x)=true)(f:YD (ea x)=e x)(p:(e x).all YJ=true)(O:YB (e x)=true)(M:Nat.ble 3 H.length=true)
  (g:lk env 2=.ptr 2 0)(l:H[2]?=some (.cells ts [.osl 3 0 done.length k]))(J:H[3]?=some (.row te k (done.map e)))
  (d:∀env',(∀s,s≠8->lk env' s=lk env s)->∀pos,AK P {dst:=some 9,op:=h,type:=te,pos:=pos,after:= #[],guard:=none} env' H (ea x))
  (r:∀env',∃H2,Le 3 env' (((((H++[AR.row te k [e x]]).set 3 .dead)++[AR.row te k ((done++[x]).map e)]).set 2 (.cells ts [.osl (H.length+1) 0 (done++[x]).length k]))) [] H2/\K H2){Q:QW}:
  TC P 3 N (nh ts te h) env H (jg 3 env0 Q K):=by
 subst B;have L:3<H.length:=(by grind);refine TC.block (TC.region ?_);refine QM rfl rfl rfl (AK.load (v:=.osl 3 0 done.length k) (cs:=[]) rfl z g (BD.cells l rfl)) ?_;refine QM rfl rfl rfl (x:=ea x) ?_ ?_
 .refine d _ (λs G=>?_) _;simp only[up,lk];have:Nat.beq s 8=false:=by
   simp_all[VI]
  grind
 refine Jq (by omega) rfl rfl rfl (CD.lit (xs:=[.tmp 9]) (es:=[e x]) E rfl rfl (by grind) ?_ ?_ ⟨u,trivial⟩ (by grind) (by grind)) ?_
 .simp[AM,lk,up,a]
 .simp[Yq,AM,lk,up,f]
 refine Jq (x:=.osl (H.length+1) 0 (done++[x]).length k) (H':=((H++[AR.row te k [e x]]).set 3 .dead)++[AR.row te k ((done++[x]).map e)]) (by simp;omega) rfl rfl rfl ?_ ?_
 .have:=Qh (P:=P) (o:={dst:=some 11,op:=.call {callee:=.builtin .append,args:= #[.tmp 8,.tmp 10],argTypes:= #[ts,ts]},type:=ts,pos:="iter.go:52",after:= #[{on:=0,ground:=.data},{on:=2,ground:=.data}],guard:=none})
   (env:=up (up (up env 8 (.osl 3 0 done.length k)) 9 (ea x)) 10 (.osl H.length 0 1 k)) (H:=H++[AR.row te k [e x]]) (x:=.tmp 8) (y:=.tmp 10) (e:=e) (m:=[x]) (i:=3) (n:=done.length) (ya:=.osl H.length 0 1 k) q E E.sl (QF (t:=te) (by simp) rfl) rfl rfl rfl rfl (by grind) rfl
  grind
 refine LE (by simp;omega) rfl rfl (FS.store (i:=2) (off:=0) (T:=ts) (n:=1) (cs:=[.osl 3 0 done.length k]) rfl ?_ ?_ j rfl rfl rfl rfl rfl rfl rfl) ?_
 .exact g
 .grind
 .refine WO.nil ?_;exact r _
theorem wl{xs done l rem:AA T}{x:T}(hl:Nat.ble xs.length QE=true)(a:(done++l).Perm xs)(d:l.Perm (x::rem)):app done [x]=some (done++[x])/\((done++[x])++rem).Perm xs:=by
 have f:=a.length_eq;have e:=d.length_eq;have g:=XP hl;simp at f e;refine⟨?_,?_⟩
 .unfold app;have:Nat.ble (done.length+[x].length) QE=true:=XQ (by simp;omega)
  grind
 .refine List.Perm.trans ?_ a;simp[Ve];exact(List.Perm.append_left done d).symm
theorem qP{k:FuncId}(B:P.funcs[k]?=some fn)(z:fn.body=some (tw ts tq te (tv te) (.move (.tmp 5))))(H:fn.ntmps=13)(F:fn.results= #[.tmp 4])(E:Q2 P ts te 1)(m:∀w,(isAgg ts).run P w=.ok false w)(s:∀w,(sizeOf ts).run P w=.ok 1 w)
  (G:∀args w,(callFunc g args).run P w=.ok (.enter g args) w)(d:K4 P g [.ptr 0 0] [.cells tm [.map 1],.fmap es] (λx=>[ea x]) OV xs)(hl:Nat.ble xs.length QE=true)
  (J:∀x,FP (ea x)=true)(f:∀x,Yr (ea x)=true)(j:∀x,YD (ea x)=[ea x])(h:∀x,YJ (ea x)=true)(n:∀x,YR (ea x)=true):
  C P k [.nils,.fn (.func g) [] [.ptr 0 0]] [.cells tm [.map 1],.fmap es] (λr H1=>∃p:AA T,p.Perm xs/\r=.osl 2 0 p.length 1/\H1=[.dead,.fmap es,.row te 1 (p.map λx=>[ea x])]):=by
 refine QG B z H rfl (TC.seq (TC.region ?_));refine Jq (by omega) rfl rfl rfl (CD.box rfl rfl rfl rfl rfl) ?_;refine QM rfl rfl rfl (AK.assign rfl rfl) (WO.nil ?_);refine TC.seq (TC.seq (TC.region (QM rfl rfl rfl (AK.move rfl rfl) ?_)));refine WO.nil (TC.block ?_);refine TC.rangeFunc [0,1] (tn ts te 1 tm es (λx=>[ea x])) (λdone l=>(done++l).Perm xs) [] (by simp) rfl rfl rfl (by decide) rfl G d (λx=>rfl) ?_ (List.Perm.refl _) ?_ ?_
 .exact zj (i:=2) rfl rfl
 .intro done l x rem e y;obtain⟨t,u⟩:=wl hl e y;refine TC.region (QM rfl rfl rfl (AK.assign rfl rfl) (WO.nil ⟨rfl,(uN rfl E m s t rfl rfl (f x) (j x) (by simp[h x]) (by simp[YB,n x]) rfl rfl rfl rfl ?_ ?_)⟩))
  .intro a q pos;exact AK.move rfl (by show lk a 5=ea x;rw[q 5 (by decide)];rfl)
  .intro a;exact⟨_,Lr [0,1,2,5],_,u,rfl⟩
 .intro done e;rw[Vc]at e;refine TC.seq (TC.region (QM rfl rfl rfl (AK.load rfl m rfl (BD.cells rfl rfl)) ?_));refine QM rfl rfl rfl (AK.assign rfl rfl) (WO.nil ?_);exact TC.ret (⟨[(4,.osl 2 0 done.length 1)],[.dead,.fmap es,.row te 1 (done.map λx=>[ea x])],_,Lr [0,1,3],Df.one F rfl,done,e,rfl,rfl⟩)
end
theorem WS{T:Type}{X:CT T}{c:Code}{env':Env}{H:Qb}{k:DW T}{Q:YT T}(f:Le h0 env H env' H')(h:An X P h0 N c env' H' k Q):An X P h0 N c env H k Q:=by
 intro m y l u U a w g r hj hrd;obtain⟨i,σ',x,s,t⟩:=f l u U N a w r;obtain⟨⟨n,p,d⟩,j⟩:=hj;exact Code.wpIn_mono (λe a w q=>q.grow s (XR _) t (BN.refl _ _ _)) (h m y l i σ' a w g x ⟨⟨n,(by grind),d⟩,j⟩ hrd)
mutual
theorem qF:∀{a:A},FP a=true->YR a=true
 |.any,_=>rfl
 |.bool _,_=>rfl
 |.int _ _,_=>rfl
 |.str _,_=>rfl
 |.nilp,_=>rfl
 |.ptr _ _,h=>by simp[FP]at h
 |.rp _,_=>rfl
 |.nils,_=>rfl
 |.rsl _ _,_=>rfl
 |.osl _ _ _ _,h=>by simp[FP]at h
 |.agg cs,h=>by simp only[FP]at h;simp only[YR];exact qh h
 |.fn _ a c,h=>by simp[FP]at h
 |.nilf,_=>rfl
 |.iface _ v,h=>by simp[FP]at h
 |.nilif,_=>rfl
 |.map _,h=>by simp[FP]at h
 |.nilm,_=>rfl
 |.tup vs,h=>by simp[FP]at h
theorem qh:∀{l:AA A},H8 l=true->YB l=true
 |[],_=>rfl
 |a::r,h=>by
  simp only[H8,XU]at h;simp only[YB,XU];exact⟨qF h.1,qh h.2⟩
end
theorem pp{H:Qb}{y z:Operand}{l:Nat}{a:A}{j:Array TypeId}(f:o.op=.call {callee:=.value y,args:= #[z],argTypes:=j})(k:AM env y=.fn (.yield l) [] [])(g:AM env z=a)(m:YR a=true):
  ∀fr ro U act w,BL fr ro U H env N act w->∃vs:AA Value,LR ro [] w [a] vs/\(execOp act.eval o).run P w=(Instr.yield l vs.toArray).run P w:=by
 intro fr ro U act w r;have d:=Ql r y;rw[k]at d;obtain⟨h,n,d,i,p⟩:=d;obtain rfl:h=[]:=i;have e:=Ql r z;rw[g]at e;refine⟨[act.eval z],⟨_,_,rfl,VR.data m e,rfl⟩,?_⟩;generalize act.eval=ev at*;simp[execOp,f,invoke,go_sem,d]
theorem xm{H:Qb}{y a e:Operand}{l:Nat}{h k:A}{t:Array TypeId}(p:o.op=.call {callee:=.value y,args:= #[a,e],argTypes:=t})(u:AM env y=.fn (.yield l) [] [])(f:AM env a=h)(g:AM env e=k)(i:YR h=true)(j:YR k=true):
  ∀fr ro U act w,BL fr ro U H env N act w->∃vs:AA Value,LR ro [] w [h,k] vs/\(execOp act.eval o).run P w=(Instr.yield l vs.toArray).run P w:=by
 intro fr ro U act w r;have d:=Ql r y;rw[u]at d;obtain⟨q,x,d,s,z⟩:=d;obtain rfl:q=[]:=s;have n:=Ql r a;rw[f]at n;have m:=Ql r e;rw[g]at m;refine⟨[act.eval a,act.eval e],⟨_,_,rfl,VR.data i n,_,_,rfl,VR.data j m,rfl⟩,?_⟩;generalize act.eval=ev at*;simp[p,invoke,go_sem,d]
def nW(tm tb ty tk:Nat)(asg:Array Oper)(ld:Op):Code:=
 (Code.region 0 #[{dst:=some 4,op:=.load tm (.tmp 1),type:=tm,pos:="iter.go:27",after:= #[],guard:=none},{dst:=some 5,op:=.range tm (.tmp 4),type:=0,pos:="iter.go:27",after:= #[{on:=0,ground:=.data}],guard:=none}] false).seq
 (.block 0 (Code.loop ((Code.region 1 #[{dst:=some 6,op:=.next (.tmp 5) false,type:=0,pos:="iter.go:27",after:= #[],guard:=none},{dst:=some 7,op:=.extract (.tmp 6) 0,type:=tb,pos:="iter.go:27",after:= #[{on:=0,ground:=.data}],guard:=none}] false).seq
  ((Code.cond (.tmp 7) .skip (.exit 0)).seq (.block 1 ((Code.region 2 asg false).seq
   ((Code.region 3 #[{dst:=some 10,op:=.move (.tmp 0),type:=ty,pos:="iter.go:28",after:= #[],guard:=none},{dst:=some 11,op:=ld,type:=tk,pos:="iter.go:28",after:= #[],guard:=none},
    {dst:=some 12,op:=.call {callee:=.value (.tmp 10),args:= #[.tmp 11],argTypes:= #[tk]},type:=tb,pos:="iter.go:28",after:= #[{on:=0,ground:=.data},{on:=1,ground:=.data}],guard:=none},
    {dst:=some 13,op:=.unOp .not tb (.tmp 12),type:=tb,pos:="iter.go:28",after:= #[{on:=2,ground:=.data}],guard:=none}] false).seq (.cond (.tmp 13) .ret .skip))))))))
def uu(tk:Nat):Array Oper:= #[{dst:=some 8,op:=.entry (.tmp 5),type:=0,pos:="iter.go:27",after:= #[],guard:=none},{dst:=some 9,op:=.extract (.tmp 8) 0,type:=tk,pos:="iter.go:27",after:= #[{on:=0,ground:=.data}],guard:=none},
 {dst:=some 3,op:=.assign (.tmp 9),type:=tk,pos:="iter.go:27",after:= #[{on:=1,ground:=.data},{on:=0,ground:=.phase},{on:=1,ground:=.phase}],guard:=none}]
section
variable {P:Program} {K V:Type} {tm tb ty tk kt et:Nat} {ek:K->A} {ev:V->A} {m:AA (K×V)} {T:Type}
abbrev mq(l:Nat):Env:=[(0,.fn (.yield l) [] []),(1,.ptr 0 0),(5,.ptr 2 0)]
abbrev mp(tm:Nat)(ek:K->A)(ev:V->A)(m l:AA (K×V)):Qb:=[.cells tm [.map 1],.fmap (Qt ek ev m),.iter none (Qt ek ev l)]
theorem yC{g:FuncId}{d:Array Oper}{r:Op}(F:P.funcs[g]?=some fn)(B:fn.body=some (nW tm tb ty tk d r))(L:fn.ntmps=14)(G:fn.results= #[])(J:∀w,(isAgg tm).run P w=.ok false w)(u:P.underlying tm=some (.map kt et))(E:∀x,FP (ek x)=true)
  (round:∀(X:CT K) (e:K×V) (l:AA (K×V)) (env:Env) (H:Qb) (a:DW K) (Q:YT K),lk env 0=.fn (.yield X.l) [] []->lk env 1=.ptr 0 0->lk env 5=.ptr 2 0->H=[.cells tm [.map 1],.fmap (Qt ek ev m),.iter (some (ek e.1,ev e.2)) (Qt ek ev l)]->
   (∀env' H',lk env' 0=.fn (.yield X.l) [] []->lk env' 1=.ptr 0 0->lk env' 5=.ptr 2 0->(∀env2 b,lk env2 0=.fn (.yield X.l) [] []->lk env2 1=.ptr 0 0->lk env2 5=.ptr 2 0->Le 2 (up (up env2 12 (.bool b)) 13 (.bool (!b))) H' (mq X.l) (mp tm ek ev m l))->
    (∀pos env2,(∀s,s≠10->lk env2 s=lk env' s)->AK P {dst:=some 11,op:=r,type:=tk,pos:=pos,after:= #[],guard:=none} env2 H' (ek e.1))->Nat.ble 2 H'.length=true->Q .normal env' H' a)->
   An X P 2 14 (.region 2 d false) env H a Q):
  K4 P g [.ptr 0 0] [.cells tm [.map 1],.fmap (Qt ek ev m)] (λx=>[ek x]) OV (m.map Prod.fst):=by
 refine tI F B L rfl G ?_;intro X hE hNx;refine An.seq (An.lift (TC.region ?_));refine QM rfl rfl rfl (AK.load rfl J rfl (BD.cells rfl rfl)) (Jq (XP rfl) rfl rfl rfl (rj u) ?_);refine WO.nil (An.block ?_);refine rT (I:=λn env H a=>∃l:AA (K×V),l.length=n/\a=.on (l.map Prod.fst)/\Le 2 env H (mq X.l) (mp tm ek ev m l)) ?_ ⟨m,rfl,rfl,Lr [0,1,2]⟩;rintro n env H a ⟨l,y,rfl,i⟩;refine WS i (An.seq (An.lift (TC.region ?_)));refine jh (XP rfl) rfl rfl rfl (TA.next rfl rfl rfl) ?_;rintro v H' (⟨j,rfl,rfl⟩|⟨N,M,j,rfl,rfl⟩)
 .have hl:=List.map_eq_nil_iff.1 j;subst hl;refine QM rfl rfl rfl (AK.extract rfl rfl rfl) (WO.nil ?_);exact An.seq (An.cond rfl (λe=>by cases e) (λ_=>(An.exit ⟨.inl rfl,.inl rfl⟩)))
 .obtain⟨t,p,k⟩:=qa j rfl;cases t with
  |nil=>cases k
  |cons e h=>
   obtain⟨rfl,rfl⟩:=k;have f:h.length<n:=by rw[<- y, <- p.length_eq];simp
   refine QM rfl rfl rfl (AK.extract rfl rfl rfl) ?_;refine WO.nil (An.seq (An.cond rfl (λ_=>?_) (λe=>by cases e)));refine An.skip (An.block ?_);refine An.seq (round X e h _ _ _ _ rfl rfl rfl rfl ?_);intro env' H' g0 g1 g5 hfin hld hL;refine An.seq (An.region ?_);refine Co.step (QM rfl rfl rfl (AK.move rfl g0) (WO.nil ⟨rfl,(Co.step (QM rfl rfl rfl (hld _ _ λs q=>?_) (WO.nil ⟨rfl,?_⟩)))⟩))
   .simp[up,lk];have:Nat.beq s 10=false:=by rw[VI];intro z;exact q (XO z)
    rw[this];rfl
   refine Co.yield (x:=e.1) (rem:=h.map Prod.fst) ?_ rfl rfl rfl ?_ ?_
   .rw[hNx];exact p.symm.map Prod.fst
   .rw[hE];refine pp rfl ?_ ?_ (qF (E _))
    .rfl
    .rfl
   .intro b;refine Co.step (QM rfl rfl rfl (AK.not rfl rfl) (WO.nil ⟨rfl,?_⟩));refine Co.nil (An.cond rfl (λq=>?_) (λq=>?_))
    .obtain rfl:b=false:=by simpa using q
     exact An.ret ⟨.inr rfl,.inr ⟨_,rfl⟩⟩
    .obtain rfl:b=true:=by simpa using q
     exact An.skip (⟨_,f,h,rfl,rfl,hfin _ true g0 g1 g5⟩)
theorem rt{g:FuncId}(d:P.funcs[g]?=some fn)(r:fn.body=some (nW tm tb ty tk (uu tk) (.move (.tmp 3))))(t:fn.ntmps=14)(j:fn.results= #[])(k:∀w,(isAgg tm).run P w=.ok false w)(q:P.underlying tm=some (.map kt et))(s:∀x,FP (ek x)=true):
  K4 P g [.ptr 0 0] [.cells tm [.map 1],.fmap (Qt ek ev m)] (λx=>[ek x]) OV (m.map Prod.fst):=by
 refine yC d r t j k q s ?_;intro X e l env H st Q g0 g1 g5 hH hk;subst hH;refine An.lift (TC.region (QM rfl rfl rfl (AK.entry rfl g5 rfl) ?_));refine QM rfl rfl rfl (AK.extract rfl rfl rfl) (QM rfl rfl rfl (AK.assign rfl rfl) ?_);refine WO.nil (hk _ _ g0 g1 g5 ?_ ?_ rfl)
 .intro a b n p f;exact Le.trans (rM (i:=2) rfl rfl) (Lr [0,1,2] (hE:=⟨n,p,f,trivial⟩))
 .intro pos a h;exact AK.move rfl (by show lk a 3=_;rw[h 3 (by decide)];rfl)
end
def t0(ts tq fA:Nat):Code:=(Code.region 0 #[{dst:=some 2,op:=.assign (.const (.slice none 0 0)),type:=ts,pos:="iter.go:59",after:= #[],guard:=none}] false).seq
 ((Code.region 1 #[{dst:=some 3,op:=.move (.tmp 0),type:=tq,pos:="iter.go:60",after:= #[],guard:=none},
  {dst:=some 4,op:=.call {callee:=.value (.func fA),args:= #[.const (.slice none 0 0),.tmp 3],argTypes:= #[ts,tq]},type:=ts,pos:="iter.go:60",after:= #[{on:=0,ground:=.data}],guard:=none},
  {dst:=some 2,op:=.assign (.tmp 4),type:=ts,pos:="iter.go:60",after:= #[{on:=1,ground:=.data},{on:=1,ground:=.chain},{on:=0,ground:=.phase},{on:=1,ground:=.phase}],guard:=none}] false).seq .ret)
variable {j:Nat}
theorem qQ{i l f:Nat}{g:FuncId}{es:AA (A×A)}{e:T->AA A}{xs:AA T}{fC a:FuncId}(m:P.funcs[fC]?=some fn)(t:fn.body=some (t0 i l a))(u:fn.ntmps=5)(n:fn.results= #[.tmp 2])
  (d:∀(env:Env) (H:Qb),lk env 3=.fn (.func g) [] [.ptr 0 0]->Bh P {dst:=some 4,op:=.call {callee:=.value (.func a),args:= #[.const (.slice none 0 0),.tmp 3],argTypes:= #[i,l]},type:=i,pos:="iter.go:60",after:= #[{on:=0,ground:=.data}],guard:=none} env H a [.nils,.fn (.func g) [] [.ptr 0 0]])
  (s:C P a [.nils,.fn (.func g) [] [.ptr 0 0]] [.cells j [.map 1],.fmap es] (λr H1=>∃p:AA T,p.Perm xs/\r=.osl 2 0 p.length k/\H1=[.dead,.fmap es,.row f k (p.map e)])):
  C P fC [.fn (.func g) [] [.ptr 0 0]] [.cells j [.map 1],.fmap es] (λr H1=>∃p:AA T,p.Perm xs/\r=.osl 2 0 p.length k/\H1=[.dead,.fmap es,.row f k (p.map e)]):=by
 refine QG m t u rfl ?_;refine TC.seq (TC.region (QM rfl rfl rfl (AK.assign rfl rfl) ?_));refine WO.nil (TC.seq (TC.region ?_));refine QM rfl rfl rfl (AK.move rfl rfl) (WO.call [0,1] (by omega) rfl rfl (λx h=>by grind) (d _ _ rfl) rfl rfl (by decide) s ?_);rintro r H1 ⟨p,q,rfl,rfl⟩;refine QM rfl rfl rfl (AK.assign rfl rfl) ?_;refine WO.nil (TC.ret ?_);exact⟨[(2,.osl 2 0 p.length k)],[.dead,.fmap es,.row f k (p.map e)],_,Lr [0,1,2],Df.one n rfl,p,q,rfl,rfl⟩
def SX{K R:Type}[DecidableEq R](l:AA K)(k:AA K->AB R):AB R:=bif Nat.ble l.length QE then anyP k l else none
theorem oC{K R:Type}[DecidableEq R]{l:AA K}{k:AA K->AB R}{r:R}(h:SX l k=some r):Nat.ble l.length QE=true/\ ∀p,p.Perm l->k p=some r:=by
 unfold SX at h;cases q:Nat.ble l.length QE with
 |true=>rw[q]at h;exact⟨rfl,oD h⟩
 |false=>grind
variable {b1 b2 m:Nat}
section
variable {P:Program} {o:Oper} {env:Env} {H:Qb} {fr ro:Nat->Prop} {U:AZ} {w:World}
theorem wp{i:Nat}{es:AA (AA A)}{l:AA A6}(hH:H[i]?=some (.rowr t 3 es))(he:l.map (eC b1 b2)=es):Le h0 env H env (H.set i (.ents t b1 b2 l)):=by
 subst he;intro e d U N a w r;refine⟨d,U,⟨r.sim.weaken hH rfl ?_,r.env,r.size,r.defers⟩,λ_ q=>q,rfl⟩;intro y h;cases y with
 |none=>exact h.elim
 |some b=>exact h
theorem We{b1 b2:Nat}:∀(l:AA A6),allK 3 (l.map (eC b1 b2))
 |[]=>trivial
 |e::l=>⟨rfl,We l⟩
theorem AU.phantomE(s:AU fr ro U H w)(t b1 b2:Nat):AU fr ro (U++[none]) (H++[.ents t b1 b2 []]) w:=by
 have ext:BI ro U w ro (U++[none]) w:=⟨λ_ q=>q,λ_ _=>rfl,λ_ _ q=>q,λ_ _ h=>S4 h⟩;have B:=s.len;have a:∀(j:Nat) (v:AR),(H++[AR.ents t b1 b2 []])[j]?=some v->(j<H.length/\H[j]?=some v)\/(j=H.length/\v=.ents t b1 b2 []):=by
  intro j v h;rcases Nat.lt_trichotomy j H.length with q|q|q
  .rw[XK q]at h;exact .inl ⟨q,h⟩
  .subst q;simp at h;exact .inr ⟨rfl,h.symm⟩
  .rw[XM (by simp;omega)]at h;cases h
 have hσ:∀(j:Nat) (z:AB Nat),(U++[none])[j]?=some z->(j<U.length/\U[j]?=some z)\/(j=U.length/\z=none):=by
  intro j z h;rcases Nat.lt_trichotomy j U.length with q|q|q
  .rw[XK q]at h;exact .inl ⟨q,h⟩
  .subst q;simp at h;exact .inr ⟨rfl,h.symm⟩
  .rw[XM (by simp;omega)]at h;cases h
 refine⟨by simp[B],s.roOk,s.frLt,s.roFr,λi b x k g n=>?_,λi j b x y k g n u L E=>?_,λi z x k g=>?_,
  s.hidTo (· = ·) Yd (XR _) (λ_ _ _ _ _ _ _ q=>q) (λ_ _ _ _ _ _ _ q=>q) λj d y F G M=>.inl ?_⟩
 rotate_left 3
 .rcases hσ j _ F with⟨l,f⟩|⟨_,r⟩
  .rcases a j y G with⟨_,e⟩|⟨e,_⟩
   .exact⟨j,y,rfl,f,e,id,λ_ q=>q⟩
   .omega
  .cases r
 .rcases hσ i _ k with⟨l,f⟩|⟨_,r⟩
  .rcases a i x g with⟨_,e⟩|⟨e,_⟩
   .exact s.own i b x f e n
   .omega
  .cases r
 .rcases hσ i _ k with⟨l,f⟩|⟨_,r⟩
  .rcases hσ j _ g with⟨J,m⟩|⟨_,r⟩
   .rcases a i x n with⟨_,e⟩|⟨e,_⟩
    .rcases a j y u with⟨_,p⟩|⟨p,_⟩
     .exact s.inj i j b x y f m e p L E
     .omega
    .omega
   .cases r
  .cases r
 .rcases hσ i _ k with⟨l,f⟩|⟨l,rfl⟩
  .rcases a i x g with⟨_,e⟩|⟨e,_⟩
   .exact(s.blk i z x f e).keep ext (λ_ _ _=>rfl) (λ_ _ _ _=>rfl)
   .omega
  .rcases a i x g with⟨e,_⟩|⟨_,rfl⟩
   .omega
   .rfl
theorem Le.phantomE{h0 i m t T b1 b2:Nat}{cs:AA A}(x:Nat.ble h0 H.length=true)(hH:H[i]?=some (.cells T cs))(e:cs[m]?=some .nils):
  Le h0 env H env (H.set i (.cells T (cs.set m (.osl H.length 0 0 3)))++[.ents t b1 b2 []]):=by
 intro E f U N a w r;have hh':=XP x;have hi:=(XJ.1 hH).1;have ext:BI f U w f (U++[none]) w:=⟨λ_ q=>q,λ_ _=>rfl,λ_ _ q=>q,λ_ _ h=>S4 h⟩;have s:=r.sim.phantomE t b1 b2;have d:(H++[AR.ents t b1 b2 []])[i]?=some (.cells T cs):=by rw[XK hi];exact hH
 have u:H.set i (.cells T (cs.set m (.osl H.length 0 0 3)))++[.ents t b1 b2 []]=(H++[AR.ents t b1 b2 []]).set i (.cells T (cs.set m (.osl H.length 0 0 3))):=by
  rw[List.set_append_left _ _ hi]
 rw[u];refine⟨f,U++[none],⟨s.weaken d rfl ?_,λq=>(r.env q).mono ext,r.size,r.defers⟩,λ_ q=>q,QI (by rw[r.sim.len];exact hh')⟩;intro y h;cases y with
 |none=>exact h
 |some b=>
  obtain⟨l,p,B,k⟩:=h;refine⟨l,p,?_,k⟩;clear p k d u hH
  induction cs generalizing m l with
  |nil=>cases e
  |cons c cs z=>
   obtain⟨v,g,rfl,n,j⟩:=B;cases m with
   |zero=>
    simp at e;subst e;exact⟨v,g,rfl,.inl ⟨rfl,n⟩,j⟩
   |succ m=>exact⟨v,g,rfl,n,z (by simpa using e) g j⟩
theorem QZ{i T:Nat}(hH:H[i]?=some (.cells T cs)):Le h0 env H env (H.set i (.cells T (cs.set m .any))):=by
 intro s p U N a w r;refine⟨p,U,⟨r.sim.weaken hH rfl ?_,r.env,r.size,r.defers⟩,λ_ q=>q,rfl⟩;intro y h;cases y with
 |none=>exact h
 |some b=>
  obtain⟨l,g,j,e⟩:=h;refine⟨l,g,?_,e⟩;clear g e hH
  induction cs generalizing m l with
  |nil=>exact j
  |cons c cs n=>
   obtain⟨v,d,rfl,k,f⟩:=j;cases m with
   |zero=>exact⟨v,d,rfl,trivial,f⟩
   |succ m=>exact⟨v,d,rfl,k,n d f⟩
theorem TN{l:AA A6}{v:Value}(s:AU fr ro U H w)(hH:H[j]?=some (.ents t b1 b2 l))(e:l.length=m)(h:VR ro U w (.osl j 0 m 3) v):
  (∃a c,v=.slice a m c)/\ ∃vs:AA Value,(∀w',w'.heap=w.heap->(Builtin.firstCells 3 m v).run P w'=.ok vs.toArray w')/\LR ro U w (l.map (eC b1 b2)).flatten vs/\ ∀v∈vs,Qz v:=by
 rcases h with⟨rfl,rfl⟩|⟨b,p,d,E,L,q,rfl,u,⟨G,z⟩,M,J⟩
 .have:=VF.1 e;subst this;exact⟨⟨none,0,rfl⟩,[],λ_ _=>Jl,rfl,by simp⟩
 .refine⟨⟨_,d,rfl⟩,?_⟩;obtain⟨B,i,f⟩:=s.blk j _ _ q hH;have g:=Jc (pre:=[]) (by simpa using i) f;by_cases x:0<d
  .obtain rfl:=u x;obtain⟨r,F,y⟩:=g.flat;have:=cH (P:=P) (k:=3) (n:=m) (c:=d) r (by rw[y];simp[e]);simpa using this
  .obtain rfl:m=0:=by omega
   have:=VF.1 e;subst this;exact⟨[],λ_ _=>Jl,rfl,by simp⟩
theorem vB{c:Call}{T T' e' i n:Nat}{x y:Operand}{l k:AA A6}(E:Q2 P T t 3)(hd:∀w,(underlying T').run P w=.ok (.slice e') w)(G:Nat.ble (l.length+k.length) QE=true)(af:Nat.blt 0 n=true)
  (ho:o.op=.call c:=by exact rfl)(hc:c={callee:=.builtin .append,args:= #[x,y],argTypes:= #[T,T']}:=by exact rfl)(hx:AM env x=.osl i 0 n 3:=by exact rfl)(hH:H[i]?=some (.ents t b1 b2 l):=by exact rfl)(hn:l.length=n:=by exact rfl)
  (hy:AM env y=.osl j 0 m 3:=by exact rfl)(hHj:H[j]?=some (.ents t b1 b2 k):=by exact rfl)(hm:k.length=m:=by exact rfl):
  CD P o env H (.osl H.length 0 (l++k).length 3) (H.set i .dead++[.ents t b1 b2 (l++k)]):=by
 intro fr s U N a w r;have ah:=XP G;have ak:0<n:=by simpa using af
 have B:=Ql r x;rw[hx]at B;have h2:=Ql r y;rw[hy]at h2;obtain⟨⟨ay,cy,Q⟩,vs,W,Y,X⟩:=TN (P:=P) r.sim hHj hm h2;rw[Q]at W;obtain⟨_,e,o1,o2,o3⟩:=TN (P:=P) r.sim hH hn B;have M:i<H.length:=(XJ.1 hH).1;rw[X0,hn,hm];rcases B with⟨q,_⟩|⟨b,p,cap,t',mm,V,B,h4,⟨h5,aj⟩,O,h7⟩
 .omega
 have F:=r.sim.blk i _ _ V hH;obtain⟨lb,g1,g2⟩:=F;have z:vs.length=m*3:=by rw[Y.length,YW (We k)];simp[hm]
 have ac:e.length=n*3:=by rw[o2.length,YW (We l)];simp[hn]
 rw[B]at o1;by_cases g:n+m<=cap
 .obtain rfl:p=0*3:=h4 (by omega);have h:=bW (t:=o.type) E hd (ad:=some ⟨b,0*3,none⟩) (n:=n) (m:=m) (cap:=cap) (c:=cy) (ax:=ay) g (W w rfl);have u:(n+m)*3<=lb.length:=by
   have:w.shape? b=some (t,lb.length):=by unfold World.shape?;rw[g1];simp
   rw[this]at O;cases O;exact XT (XB 3 g) (by simpa using h7)
  rw[Xz]at u;have R:=Yz (P:=P) (vs:=vs) (n*3) 0 g1 (by rw[z];simpa using u) X;have f:=r.sim.set (x':=.ents t b1 b2 (l++k)) V hH rfl
   (λy hy=>S9 g1 (YO (by rw[z];exact u)) y hy)
   (λex ab=>⟨_,ab,by
    have:=(g2.app (n:=n) (by simp[hn]) (We k) Y X).mono ex;rw[VE (by simp[hn])]at this;rw[Xg];exact this⟩)
  have sm:=f.1.moved (i:=i) (Xa M) V;rw[List.set_set]at sm;refine⟨.slice (some ⟨b,0*3,none⟩) (n+m) cap,_,s,[some b],?_,.inr ⟨b,0*3,cap,t',mm,?_,rfl,h4,⟨g,aj⟩,?_,h7⟩,sm,f.2⟩
  .refine Jn ho hc _ ?_;rw[B,Q,h];simp only[J6,Nat.zero_mul,Xv,Vi,R,Result.andThen,Vj];simp
  .rw[<- r.sim.len];simp
  .exact f.2.shape _ _ O
 .obtain⟨d,nc,ag,ai,h⟩:=qE (t:=o.type) E hd rfl (by omega) (by omega) W o1
  let w0:World:={w with drawn:=w.drawn+1}
  have J:AU fr s U (H.set i .dead) w0:=(r.sim.kill i).heap rfl;have e0:Qm fr s w s w0:=Qm.heap rfl rfl rfl rfl (Nat.le_succ _);have ae:LR s U w0 ((l++k).map (eC b1 b2)).flatten (e++vs):=by
   rw[Xg,List.flatten_append];exact(o2.append Y).mono (BI.heap (w:=w) (w':=w0) rfl)
  have aa:∀v∈e++vs,Qz v:=λv hv=>by rcases Vz.1 hv with q|q;exact o3 v q;exact X v q
  have s1:=J.alloc (x:=.ents t b1 b2 (l++k)) (obj:=.cells ((e++vs)++d).toArray t) ⟨(e++vs)++d,Ys _ _,(JS (We _) ae aa).mono ((Qm.alloc (fr:=fr) _ J.roLt J.frLt).ext U _)⟩;have L:Qm fr s w0 s (w0.alloc (.cells ((e++vs)++d).toArray t)):=Qm.alloc _ J.roLt J.frLt;refine⟨_,_,s,[some w.heap.size],Jn ho hc a.eval (by rw[B,Q];exact h),.inr ⟨w.heap.size,0,nc,t,(e++vs++d).length,?_,rfl,λ_=>by simp,ag,?_,?_⟩,s1,e0.trans L⟩
  .rw[<- r.sim.len];simp
  .have:=Ys w0 (.cells ((e++vs)++d).toArray t);unfold World.shape?;rw[show w.heap.size=w0.heap.size from rfl,this];simp
  .simp only[X0,ai,ac,z,Xv];omega
theorem rO{c:Call}{T T' e' i n:Nat}{x y:Operand}{a d r:AA A6}(h:app a d=some r)(E:Q2 P T t 3)(g:∀w,(underlying T').run P w=.ok (.slice e') w)(e:Nat.blt 0 n=true)
  (f:o.op=.call c:=by exact rfl)(hc:c={callee:=.builtin .append,args:= #[x,y],argTypes:= #[T,T']}:=by exact rfl)(hx:AM env x=.osl i 0 n 3:=by exact rfl)(hH:H[i]?=some (.ents t b1 b2 a):=by exact rfl)(hn:a.length=n:=by exact rfl)
  (hy:AM env y=.osl j 0 m 3:=by exact rfl)(hHj:H[j]?=some (.ents t b1 b2 d):=by exact rfl)(hm:d.length=m:=by exact rfl):
  CD P o env H (.osl H.length 0 r.length 3) (H.set i .dead++[.ents t b1 b2 r]):=by
 obtain⟨k,rfl⟩:=bD h;exact vB E g (XQ k) e f hc hx hH hn hy hHj hm
theorem BD.ents{i off t e f b1 b2:Nat}{l:AA A6}{x:A6}{cs':AA A}(he:l[e]?=some x)(hH:H[i]?=some (.ents t b1 b2 l):=by exact rfl)(ho:off=e*3+f:=by exact rfl)(hcs:(eC b1 b2 x).drop f=cs':=by exact rfl):BD H (.ptr i off) cs':=by
 intro n p U w v s h;obtain⟨b,j,k⟩:=h;obtain⟨m,g,d⟩:=s.blk i _ _ j hH;have a:(l.map (eC b1 b2))[e]?=some (eC b1 b2 x):=by rw[Xp,he];rfl
 have:=((Jc (pre:=[]) (by simpa using g) d).get e a).2.drop f;refine⟨b,off,k,?_⟩;rw[<- hcs,ho];simpa using this
def KG(cs:AA A)(s:Int)(e:A6):AB Int:=bif e.fl then(bif e.off==0 then some s else none)else match cs[e.off]? with
 |some (.int .i64 v)=>some v
 |_=>none
def Od{F:Type}(put:F->Nat->Int->AB F)(x:F)(s:Int)(e:A6)(v:Int):AB (F×Int):=
 bif e.fl then(bif e.off==0 then some (x,v)else none)else(put x e.off v).map λy=>(y,s)
abbrev K6(b1 b2:Nat)(e:A6):A:=.ptr (bif e.fl then b2 else b1) e.off
theorem wQ{l:AA A}{i:Nat}{a:A}(h:l[i]?=some a):∃r,l.drop i=a::r:=by
 obtain⟨d,rfl⟩:=XJ.1 h;exact⟨_,Xq d⟩
theorem cO{T1 T2:Nat}{x:Operand}{e:A6}{s v:Int}(h:KG cs s e=some v)(j:∀w,(isAgg t).run P w=.ok false w)(i:o.op=.load t x:=by exact rfl)(hx:AM env x=K6 b1 b2 e:=by exact rfl)
  (h1:H[b1]?=some (.cells T1 cs):=by exact rfl)(h2:H[b2]?=some (.cells T2 [.int .i64 s]):=by exact rfl):AK P o env H (.int .i64 v):=by
 unfold KG at h;unfold K6 at hx;cases g:e.fl with
 |true=>
  rw[g]at h hx;cases d:e.off==0 with
  |false=>rw[d]at h;cases h
  |true=>
   rw[d]at h;have e0:=by simpa using d
   rw[e0]at hx;have hv:=by simpa using h
   subst hv;exact AK.load i j hx (BD.cells h2 rfl)
 |false=>
  rw[g]at h hx;cases f:cs[e.off]? with
  |none=>rw[f]at h;cases h
  |some a=>
   rw[f]at h;obtain⟨r,l⟩:=wQ f;cases a with
   |int k n=>
    cases k<;>first|(cases h;exact AK.load i j hx (BD.cells h1 l))|cases h
   |_=>cases h
theorem yk{l:AA A}{i:Nat}{a:A}(h:i<l.length):splice l i [a]=l.set i a:=by
 unfold splice;rw[List.set_eq_take_append_cons_drop,Vp h];simp
theorem ph{i:Nat}{b:AR}(h:H[i]?=some b):H.set i b=H:=by
 apply List.ext_getElem?;intro j;rw[Xb];by_cases e:i=j
 .subst e;rw[Vp rfl,Vp (XJ.1 h).1,h]
 .rw[Vn e]
theorem yX{F:Type}{c:F->AA A}{put:F->Nat->Int->AB F}{T1 T2:Nat}{x y:Operand}{e:A6}{f f':F}{s s' v:Int}(h:Od put f s e v=some (f',s'))(a:∀x o v y,put x o v=some y->c y=(c x).set o (.int .i64 v)/\o<(c x).length)
  (n:∀w,(sizeOf t).run P w=.ok 1 w)(l:o.op=.store t x y:=by exact rfl)(hx:AM env x=K6 b1 b2 e:=by exact rfl)(h1:H[b1]?=some (.cells T1 (c f)):=by exact rfl)(h2:H[b2]?=some (.cells T2 [.int .i64 s]):=by exact rfl)(hy:AM env y=.int .i64 v:=by exact rfl)
  (hb:Nat.beq b1 b2=false:=by exact rfl):FS P o env H ((H.set b1 (.cells T1 (c f'))).set b2 (.cells T2 [.int .i64 s'])):=by
 have j:b1≠b2:=λq=>by subst q;rw[VB]at hb;cases hb
 unfold Od at h;unfold K6 at hx;cases k:e.fl with
 |true=>
  rw[k]at h hx;cases d:e.off==0 with
  |false=>rw[d]at h;cases h
  |true=>
   rw[d]at h;have e0:=by simpa using d
   rw[e0]at hx;obtain⟨rfl,rfl⟩:f=f'/\v=s':=by simpa using h
   rw[ph h1];exact FS.store l hx h2 n hy rfl rfl rfl rfl rfl rfl
 |false=>
  rw[k]at h hx;cases i:put f e.off v with
  |none=>rw[i]at h;cases h
  |some g=>
   rw[i]at h;obtain⟨rfl,rfl⟩:g=f'/\s=s':=by simpa using h
   obtain⟨p,m⟩:=a _ _ _ _ i;have r:(H.set b1 (.cells T1 (c g)))[b2]?=some (.cells T2 [.int .i64 s]):=by rw[XN j];exact h2
   rw[ph r];exact FS.store (vs:=[.int .i64 v]) l hx h1 n hy rfl rfl rfl rfl (XQ m) (by rw[yk m,p])
end
section
variable {P:Program} {h0 N:Nat} {A B C:Code} {env:Env} {H:Qb} {Q:QW}
theorem vG{S B1:Type}{b:AG S B1}(Eb:S->Env)(Hb:S->Qb)(h:TC P h0 N A env H (NT P h0 N B (LC h0 b Eb Hb (NT P h0 N C Q))))(k:∀s env H,b=.k s->Le h0 env H (Eb s) (Hb s)->NT P h0 N C Q .normal env H):TC P h0 N (.seq A (.seq B C)) env H Q:=by
 refine TC.seq (h.mono λx env' H' q=>?_);cases x with
 |normal=>exact TC.seq (oA Eb Hb q k)
 |exit id=>exact q
 |ret=>exact q
end
section
variable {P:Program} {o:Oper} {env:Env} {H:Qb}
theorem re{f g:Nat->AB (Nat×Nat)}:∀(parts:AA (Nat×Value)) (cs:Array Value),(∀p∈parts,f p.1=g p.1)->Instr.fill f cs parts=Instr.fill g cs parts
 |[],cs,_=>rfl
 |(i,v)::rest,cs,h=>by
  unfold Instr.fill;rw[h (i,v) (by simp)];have ih:=λcs=>re rest cs (λp hp=>h p (by simp[hp]));cases g i with
  |none=>rfl
  |some p=>
   simp;split
   .rfl
   .exact ih _
theorem J7{e n:Nat}{z:Value}{zs:AA A}{parts:AA (Nat×Operand)}(m:∀w,(zeroValue t).run P w=.ok z w)(h:ZR (.agg zs) z)(f:∀w,(underlying t).run P w=.ok (.array n e) w)(G:∀w,(sizeOf e).run P w=.ok k w)
  (E:(parts.all λp=>Nat.blt p.1 n)=true)(g:o.op=.build t parts.toArray:=by exact rfl)(hf:Na env ((List.range n).map λi=>(i*k,k)) zs parts=some cs:=by exact rfl):AK P o env H (.agg cs):=by
 intro J x U N a w r;obtain⟨l,rfl,j⟩:=h x U w;obtain⟨d,u,y⟩:=kI r parts zs l cs j hf;refine⟨.agg d.toArray,?_,d,rfl,y⟩;have F:Instr.fill (λi=>some (i*k,k)) l.toArray (parts.map λp=>(p.1,a.eval p.2))=some d.toArray:=by
  rw[<- u];refine re _ _ ?_;intro p s;obtain⟨q,B,rfl⟩:=Xf.1 s;have hlt:=by simpa using Xt.1 E q B
  simp[hlt]
 simp[execOp,g,Instr.build,Vi,m,Result.andThen,f,G,XG,Vj,Value.cells,F]
def NE(k:IntKind)(m n:Int):Int:=k.wrap (BitVec.ofInt k.bits m|||BitVec.ofInt k.bits n).toNat
def NW(k:IntKind)(m n:Int):Int:=k.wrap (BitVec.ofInt k.bits m^^^BitVec.ofInt k.bits n).toNat
def K5(k:IntKind)(m n:Int):Int:=k.wrap (m*2^(min n.toNat k.bits))
def H9(k:IntKind)(m n:Int):Int:=m.fdiv (2^(min n.toNat k.bits))
theorem AK.or{t u:TypeId}{x y:Operand}{k:IntKind}{m n:Int}(d:o.op=.binOp .or t x y u)(g:AM env x=.int k m)(f:AM env y=.int k n):AK P o env H (.int k (NE k m n)):=by
 intro j i U N a w r;have h:=QN r g;have e:=QN r f;refine⟨_,?_,rfl⟩;generalize a.eval=ρ at*;simp[d,h,e,Op.intBits,go_sem,NE]
theorem AK.xor{t u:TypeId}{x y:Operand}{k:IntKind}{m n:Int}(d:o.op=.binOp .xor t x y u)(g:AM env x=.int k m)(f:AM env y=.int k n):AK P o env H (.int k (NW k m n)):=by
 intro j i U N a w r;have h:=QN r g;have e:=QN r f;refine⟨_,?_,rfl⟩;generalize a.eval=ρ at*;simp[d,h,e,Op.intBits,go_sem,NW]
theorem AK.shl{t u:TypeId}{x y:Operand}{k e:IntKind}{m n:Int}(d:o.op=.binOp .shl t x y u)(j:AM env x=.int k m)(i:AM env y=.int e n)(h:0<=n):AK P o env H (.int k (K5 k m n)):=by
 intro l p U N a w r;have f:=QN r j;have g:=QN r i;refine⟨_,?_,rfl⟩;generalize a.eval=ρ at*;simp[d,f,g,Op.shift,go_sem,K5,Int.not_lt.2 h]
theorem AK.shr{t u:TypeId}{x y:Operand}{k e:IntKind}{m n:Int}(d:o.op=.binOp .shr t x y u)(j:AM env x=.int k m)(i:AM env y=.int e n)(h:0<=n):AK P o env H (.int k (H9 k m n)):=by
 intro l p U N a w r;have f:=QN r j;have g:=QN r i;refine⟨_,?_,rfl⟩;generalize a.eval=ρ at*;simp[d,f,g,Op.shift,go_sem,H9,Int.not_lt.2 h]
theorem YY{i T:Nat}(z:Nat.ble h0 H.length=true)(hH:H[i]?=some (.cells T cs))(e:cs[m]?=some .nils):
  Le h0 env H env (H.set i (.cells T (cs.set m (.osl H.length 0 0 k)))++[.row t k []]):=by
 intro F f U N a w r;have hh':=XP z;have hi:=(XJ.1 hH).1;have ext:BI f U w f (U++[none]) w:=⟨λ_ q=>q,λ_ _=>rfl,λ_ _ q=>q,λ_ _ h=>S4 h⟩;have s:=r.sim.phantom t k;have d:(H++[AR.row t k []])[i]?=some (.cells T cs):=by rw[XK hi];exact hH
 have x:H.set i (.cells T (cs.set m (.osl H.length 0 0 k)))++[.row t k []]=(H++[AR.row t k []]).set i (.cells T (cs.set m (.osl H.length 0 0 k))):=by
  rw[List.set_append_left _ _ hi]
 rw[x];refine⟨f,U++[none],⟨s.weaken d rfl ?_,λq=>(r.env q).mono ext,r.size,r.defers⟩,λ_ q=>q,QI (by rw[r.sim.len];exact hh')⟩;intro y h;cases y with
 |none=>exact h
 |some b=>
  obtain⟨l,u,E,n⟩:=h;refine⟨l,u,?_,n⟩;clear u n d x hH
  induction cs generalizing m l with
  |nil=>cases e
  |cons c cs B=>
   obtain⟨v,g,rfl,p,j⟩:=E;cases m with
   |zero=>
    simp at e;subst e;exact⟨v,g,rfl,.inl ⟨rfl,p⟩,j⟩
   |succ m=>exact⟨v,g,rfl,p,B (by simpa using e) g j⟩
theorem rN{i s g n:Nat}{x:AR}(u:lk env s=.osl i g n k)(hH:H[i]?=some x)(j:Nat.ble h0 H.length=true):Le h0 env H (up env s (.osl H.length g n k)) (H.set i .dead++[x]):=by
 intro E f U N a w r;have z:i<U.length:=by rw[r.sim.len];exact(XJ.1 hH).1
 have hσ:=XI z;have ext:BI f U w f (U++[U[i]]) w:=⟨λ_ q=>q,λ_ _=>rfl,λ_ _ q=>q,λ_ _ h=>S4 h⟩;refine⟨f,U++[U[i]],⟨r.sim.moved hH hσ,?_,r.size,r.defers⟩,λ_ q=>q,QI (by rw[r.sim.len];exact XP j)⟩;intro d;simp only[lk];by_cases q:d=s
 .subst q;rw[VB];have:=r.env d;rw[u]at this;rcases this with h|⟨b,p,e,t,m,l,y⟩
  .exact .inl h
  .refine .inr ⟨b,p,e,t,m,?_,y⟩;rw[l]at hσ;rw[<- r.sim.len];simpa using hσ.symm
 .have:Nat.beq d s=false:=by
   rw[VI];intro B;exact q (XO B)
  rw[this];exact(r.env d).mono ext
def Yp(n:Int):UInt8:=n.toNat.toUInt8
def FX(P:Program)(H:Qb)(x:A)(l:AA Int):Prop:=
 ∀fr ro U w v,AU fr ro U H w->VR ro U w x v->(∃a c,v=.slice a 0 c/\l=[])\/ ∃b off c,v=.slice (some ⟨b,off,none⟩) l.length c/\(l=[]\/CR ro U w b (l.map λn=>A.int .u8 n) off)
theorem j6:∀(l:AA Int),(l.map (λn=>[A.int .u8 n])).flatten=l.map λn=>A.int .u8 n
 |[]=>rfl
 |n::l=>by simp[j6 l]
theorem FX.nils:FX P H .nils []:=λfr ro U w v s h=>.inl ⟨none,0,h,rfl⟩
theorem FX.row{i t n:Nat}{l:AA Int}(hH:H[i]?=some (.row t 1 (l.map λn=>[A.int .u8 n])):=by exact rfl)(hn:l.length=n:=by exact rfl):FX P H (.osl i 0 n 1) l:=by
 intro x z U w v s h;rcases h with⟨rfl,rfl⟩|⟨b,p,a,u,m,j,rfl,k,⟨y,q⟩,E,B⟩
 .exact .inl ⟨none,0,rfl,VF.1 hn⟩
 .refine .inr ⟨b,p,a,by rw[hn],?_⟩;by_cases e:l=[]
  .exact .inl e
  .have:0<a:=by have:=List.length_pos_iff.2 e;omega
   obtain rfl:=k this;obtain⟨r,g,f⟩:=s.blk i _ _ j hH;have d:=(Jc (pre:=[]) (by simpa using g) f).flat.1;rw[j6]at d;exact .inr (by simpa using d.lift)
theorem FX.rsl{l:AA Int}:FX P H (.rsl 1 (l.map λn=>[A.int .u8 n])) l:=by
 intro h i U w v s ⟨a,c,h1,h2,d⟩;subst h1;rw[XZ]at*;rcases d with d|⟨b,e,rfl,j,g⟩
 .have:=List.map_eq_nil_iff.1 d;subst this;exact .inl ⟨a,c,by simp,rfl⟩
 .have f:=g.flat.1;rw[j6]at f;exact .inr ⟨b,e,c,rfl,.inr f.lift⟩
theorem tP{ro:Nat->Prop}{U:AZ}{w:World}{b:Nat}:∀(l:AA Int) (off:Nat) (a:ByteArray),CR ro U w b (l.map λn=>A.int .u8 n) off->(Extern.Bytes.loadBytes ⟨b,off,none⟩ l.length a).run P w=.ok ⟨a.data++(l.map Yp).toArray⟩ w
 |[],off,a,_=>by simp[Extern.Bytes.loadBytes]
 |n::l,off,a,⟨⟨v,h1,hp,h2⟩,h3⟩=>by
  have h2':=h2;subst h2';have ih:=tP l (off+1) (a.push n.toNat.toUInt8) h3;have hl:(Go.load ⟨b,off,none⟩).run P w=.ok (.int .u8 n) w:=by simp[h1]
  simp[XY,Extern.Bytes.loadBytes,Vi,hl,Result.andThen];have d:(⟨b,off,none⟩:Addr).add 1=⟨b,off+1,none⟩:=by simp[J6]
  rw[d,ih];simp[Yp]
theorem sg{x:A}{l:AA Int}{v:Value}(h:FX P H x l)(s:AU fr ro U H w)(f:VR ro U w x v):(Extern.Bytes.bytesOf v).run P w=.ok ⟨(l.map Yp).toArray⟩ w:=by
 rcases h fr ro U w v s f with⟨a,c,rfl,rfl⟩|⟨b,e,c,rfl,d⟩
 .cases a with
  |none=>rfl
  |some a=>rfl
 .rcases d with rfl|d
  .rfl
  .have:=tP (P:=P) l e .empty d;simp only[Extern.Bytes.bytesOf,this];simp[ByteArray.empty,ByteArray.emptyWithCapacity];rfl
def cmpB(l m:AA Int):Int:=Lib.compareBytes (l.map Yp) (m.map Yp)
theorem AK.cmpB{c:Call}{f:FuncId}{fn:Func}{x y:Operand}{E:Array TypeId}{ax g:A}{l m:AA Int}(j:P.funcs[f]?=some fn)(d:(fn.name=="runtime.NumGoroutine")=false)(z:fn.body.isNone=true)(u:Extern.findNext fn=none)(he:Extern.find fn=some Extern.BytealgCompare.compare)
  (n:FX P H ax l)(t:FX P H g m)(k:o.op=.call c:=by exact rfl)(hc:c={callee:=.value (.func f),args:= #[x,y],argTypes:=E}:=by exact rfl)(hx:AM env x=ax:=by exact rfl)(hy:AM env y=g:=by exact rfl):AK P o env H (.int .i64 (cmpB l m)):=by
 intro F G U N a w r;have h:=Ql r x;rw[hx]at h;have i:=Ql r y;rw[hy]at i;have p:=sg n r.sim h;have q:=sg t r.sim i;refine⟨.int .i64 (Sw.cmpB l m),?_,rfl⟩;subst hc;have e:a.eval (.func f)=.func (.func f) #[] #[]:=rfl;have B:(callFunc f #[a.eval x,a.eval y]).run P w=.ok (.value (.int .i64 (Sw.cmpB l m))) w:=by
  rw[run_callFunc_extern j d z u he];have s:Sem.run P (Extern.BytealgCompare.compare #[a.eval x,a.eval y]) w=.ok (.int .i64 (Sw.cmpB l m)) w:=by
   change Sem.run P (do pure (goInt (Extern.BytealgCompare.cmp (<- Extern.Bytes.bytesOf (a.eval x)) (<- Extern.Bytes.bytesOf (a.eval y))))) w=_;simp[Vi,p,q,Result.andThen,Lib.cmp_eq];rfl
  rw[s];rfl
 simp[execOp,k,resolve,e,Deferred.ofValue,invoke,Vj];simpa using B
theorem Ye{l n off:Nat}{x y:Operand}{i:Int}{g:IntKind}(f:(i==j)=true)(s:Nat.blt j n=true)(E:∀w,(underlying t).run P w=.ok (.array n l) w)(F:∀w,(sizeOf l).run P w=.ok k w)(u:Nat.ble 2 n=true)
  (p:o.op=.indexAddr t x y:=by exact rfl)(hx:AM env x=.ptr b off:=by exact rfl)(hy:AM env y=.int g i:=by exact rfl):AK P o env H (.ptr b (off+j*k)):=by
 intro G J U N a w r;have e:=Ql r x;rw[hx]at e;obtain⟨d,e,z⟩:=e;have h:=Ql r y;rw[hy]at h;have B:a.eval y=.int g i:=h;have hi:=by simpa using f
 have hjn:=by simpa using s
 subst hi;refine⟨.pointer (some ⟨d,off+j*k,none⟩),?_,d,e,rfl⟩;have hr:=by omega
 have m:(⟨d,off,none⟩:Addr).add ((j:Int).toNat*k)=⟨d,off+j*k,none⟩:=by
  unfold Addr.add;split
  .rename_i q;simp at q;simp[q]
  .simp
 generalize a.eval=ρ at*;simp[p,z,Instr.indexAt,E,F,hr,go_sem,hjn]
end
theorem wM{name:String}{d:DataW Unit}:∀{a:AA (String×DataW Unit)} {ps:AA MemPlace},DataW.LaidVars P W a ps->(name,d)∈a->
  ∃(g:Nat) (t:TypeId) (cs:Array Value) (e:Nat) (p:AA MemPlace),P.globalNamed name=some g/\(P.globals[g]?).map (·.type)=some t/\W.var? P name=some cs/\DataW.trod (λ_=>()) P W 0 (λ_=>true) false e t cs.toList=some (d,p):=by
 intro a
 induction a with
 |nil=>simp
 |cons x a i=>
  intro ps h n;obtain⟨g,t,cs,e,p,q,k,l,j,r,m,f⟩:=h
  grind
theorem Yy{name:String}{a b:Int}{g e:Nat}{j i:Field}{d:AA (String×DataW Unit)}{ps:AA MemPlace}(h:DataW.LaidVars P W d ps)(L:(name,DataW.agg [.lit (.int .i64 a),.lit (.int .i64 b)])∈d)
  (hg:P.globalNamed name=some g)(k:(P.globals[g]?).map (·.type)=some t)(M:P.underlying t=some (.struct #[j,i]))(J:j.type=e)(w:i.type=e)(s:j.offset=0)(F:i.offset=1)(he:P.underlying e=some (.int .i64))(f:P.cellsOf e=1)(E:P.cellsOf t=2):
  W.cell? ⟨g,0,none⟩=some (.int .i64 a)/\W.cell? ⟨g,1,none⟩=some (.int .i64 b):=by
 obtain⟨Y,X,R,l,p,G,x,m,y⟩:=wM h L;obtain rfl:=XX (hg.symm.trans G);obtain rfl:=XX (k.symm.trans x);obtain⟨Q,y1,n,V,O,q,r⟩:=Go.ChangeShapes.trod_struct2 M y;rw[J,s,f]at q;rw[w,F,f]at r;obtain⟨N,H,r2,_⟩:=DataW.trod_int he q;obtain⟨z,B,T,_⟩:=DataW.trod_int he r;have u:a=N/\b=z:=by grind
 rw[World.var?_cell hg m,World.var?_cell hg m];constructor
 .have:=congrArg (·[0]?) H
  grind
 .have:=congrArg (·[0]?) B
  grind
theorem J1{g:Nat}{a b:Int}(s:w.cell? ⟨g,0,none⟩=some (.int .i64 a)/\w.cell? ⟨g,1,none⟩=some (.int .i64 b)):∀(zs:AA Int),some [a,b]=some zs->∀(i:Nat) (z:Int),zs[i]?=some z->w.cell? ⟨g,i,none⟩=some (.int .i64 z)
 |zs,h,0,z,hi=>by grind
 |zs,h,1,z,hi=>by grind
 |zs,h,i+2,z,hi=>by grind
def LH:AB AR->Bool
 |some .dead=>true
 |_=>false
def J5(hB hE:Nat)(H H':Qb):Bool:=(List.range (hE-hB)).all λp=> !LH H'[hB+p]? ||LH H[hB+p]?
def aC(hB hE:Nat)(U:AZ)(H:Qb):Prop:=∀p,hB<=p->p<hE->LH H[p]?=true->U[p]?=some none
variable {hB hE:Nat}
theorem yK{H:Qb}(h:J5 hB hE H H'=true){p:Nat}(e:hB<=p)(d:p<hE)(a:LH H'[p]?=true):LH H[p]?=true:=by
 have:=Xt.1 h (p-hB) (List.mem_range.2 (by omega));rw[show hB+(p-hB)=p by omega,a]at this;simpa using this
theorem AU.allocAt{H:Qb}(s:AU fr ro U H w){p:Nat}(J:U[p]?=some none){obj:Obj}{x:AR}
  (P:BR ro (U.set p (some w.heap.size)) (w.alloc obj) x (some w.heap.size))
  (E:∀c,Bw (w.alloc obj) x w.heap.size c->False:=by exact λ_ h=>h.elim):AU fr ro (U.set p (some w.heap.size)) (H.set p x) (w.alloc obj):=by
 have ev:Qm fr ro w ro (w.alloc obj):=Qm.alloc obj s.roLt s.frLt;have t:=s.len;have F:p<U.length:=(XJ.1 J).1;have u:BI ro U w ro (U.set p (some w.heap.size)) (w.alloc obj):=⟨ev.sub,ev.keepRo,ev.shape,λi b q=>by
  rw[XN (λz=>by subst z;rw[J]at q;cases q)];exact q⟩
 have e:∀(i:Nat) (y:AB Nat),(U.set p (some w.heap.size))[i]?=some y->(i≠p/\U[i]?=some y)\/(i=p/\y=some w.heap.size):=by
  intro i y h;by_cases q:i=p
  .subst q;rw[Xa F]at h;exact .inr ⟨rfl,(XX h).symm⟩
  .rw[XN (λz=>q z.symm)]at h;exact .inl ⟨q,h⟩
 have n:∀i:Nat,i≠p->(H.set p x)[i]?=H[i]? :=λi O=>XN (λz=>O z.symm);have M:(H.set p x)[p]?=some x:=Xa (by omega);refine⟨by simp[t],s.roOk.to (λ_ q=>q) ev.keepRo (λb h=>?_),λb h=>?_,s.roFr,?_,?_,?_,s.hidTo (· = ·) Yd (by rw[Jp];omega) (λ_ _ _ _ _ _ _ q=>q) (λ_ _ _ _ _ _ _ q=>q) λj d y l k Q=>?_⟩
 rotate_left 5
 .rcases e j _ l with⟨q,l⟩|⟨rfl,m⟩
  .rw[n j q]at k;exact .inl ⟨j,y,rfl,l,k,id,λc q=>s.hidKeep l k (λz=>Yt w obj d (s.own j d y l k z).1) ev.keepRo q⟩
  .rw[M]at k;cases k;cases m;exact .inr ⟨XR _,E⟩
 .rw[Jp];have:=s.roLt b h;omega
 .rw[Jp];have:=s.frLt b h;omega
 .intro i b y f g r;rw[Jp];rcases e i _ f with⟨q,f⟩|⟨rfl,m⟩
  .rw[n i q]at g;obtain⟨a,b,c⟩:=s.own i b y f g r;exact⟨by omega,b,c⟩
  .cases m;exact⟨by omega,λq=>by have:=s.roLt _ q;omega,λq=>by have:=s.frLt _ q;omega⟩
 .intro i j b y z f g r B L G;rcases e i _ f with⟨q,l⟩|⟨N,m⟩<;>rcases e j _ g with⟨q',k⟩|⟨ej,e2⟩
  .rw[n i q]at r;rw[n j q']at B;exact s.inj i j b y z l k r B L G
  .cases e2;rw[n i q]at r;have:=(s.own i _ y l r L).1;omega
  .cases m;rw[n j q']at B;have:=(s.own j _ z k B G).1;omega
  .rw[N,ej]
 .intro i y z f g;rcases e i _ f with⟨q,f⟩|⟨rfl,m⟩
  .rw[n i q]at g;refine(s.blk i y z f g).keep u ?_ ?_
   .rintro b rfl t;exact Yt w obj b (s.own i b z f g t).1
   .rintro b c rfl t;exact Yt w obj c (s.hid i b z c f g t).lt
  .rw[M]at g;cases g;subst m;exact P
def PF(P:Program)(o:Oper)(t:Nat)(cs:AA A):Prop:=
 ∀(ro:Nat->Prop) (U:AZ) (w:World) (a:Act),∃l:AA Value,(execOp a.eval o).run P w=.ok (.value (.pointer (some ⟨w.heap.size,0,none⟩))) (w.alloc (.cells l.toArray t))/\LR ro U w cs l/\ ∀v∈l,Qz v
theorem PF.alloc{P:Program}{o:Oper}{t:Nat}{z:Value}{v:A}{cs:AA A}(j:∀w,(zeroValue t).run P w=.ok z w)(i:ZR v z)(g:o.op=.alloc t:=by exact rfl)(hk:Yr v=true:=by exact rfl)(hcs:YD v=cs:=by exact rfl)(hpl:cs.all YJ=true:=by exact rfl):
  PF P o t cs:=by
 intro f U w a;obtain⟨l,h,d⟩:=(i f U w).cells hk;subst hcs;refine⟨l,?_,d,d.plain hpl⟩;generalize a.eval=ρ at*;have e:(newVar t z).run P w=.ok ⟨w.heap.size,0,none⟩ (w.alloc (.cells l.toArray t)):=by
  unfold newVar;rw[h];rfl
 simp only[execOp,g,Instr.alloc,Vi,j,Result.andThen,e];rfl
def ly(P:Program)(o:Oper)(e:Env)(H:Qb)(p:Nat)(x:A)(B:AR):Prop:=
 ∀fr ro U N a w,BL fr ro U H e N a w->∃v obj,(execOp a.eval o).run P w=.ok (.value v) (w.alloc obj)/\(∀c,Bw (w.alloc obj) B w.heap.size c->False)/\
  ∀σ',σ'[p]?=some (some w.heap.size)->BI ro U w ro σ' (w.alloc obj)->VR ro σ' (w.alloc obj) x v/\BR ro σ' (w.alloc obj) B (some w.heap.size)
variable {R:Exit->Act->World->Prop}{l:AA Oper}
theorem O_{i:Nat}{K:Act->World->Prop}{a:Act}
  (B:l[i]?=some o)(h:CK P rd l.toArray R [o] a w)(j:∀e a' w',R e a' w'->e=.normal/\a'.defers=a.defers)(m:∀v w',R .normal (a.put o.dst v) w'->K (a.put o.dst v) w'):
  wpOpIn (WF rd) 0 P l.toArray Q i K a w:=by
 unfold wpOpIn;have t:l.toArray[i]?=some o:=by simpa using B
 rw[t];simp only;unfold CK wpListIn at h;split at h
 .rename_i u;rw[Vp u];obtain⟨k,h⟩:=h;refine⟨k,?_⟩;have g:=pn (by
   intro a' w' q;unfold wpListIn at q;exact(j _ _ _ q).2) h
  generalize(o.semAt (WF rd).round a.eval).run P w=res at*;cases res with
  |ok n w'=>
   cases n with
   |value v=>exact m _ _ g.1
   |skip=>exact m _ _ g.1
   |defer F=>
    exfalso;have:=(j _ _ _ g.1).2;have:=congrArg List.length this
    revert this
    cases o.dst<;>simp[Act.put]
   |enter f p=>
    refine⟨g.1,CallsIn.mono g.2 (λe s d=>?_)⟩;cases e with
    |returned v=>exact m _ _ d.1
    |panicked c=>have:=(j _ _ _ d).1;cases this
    |outgrown=>obtain⟨E,w1,d⟩:=d;have:=(j _ _ _ d).1;cases this
   |row r p=>
    exact⟨g.1,RowsIn.mono g.2 (λ_ _ d=>m _ _ d.1)⟩
   |round l f z assign y=>
    refine⟨g.1,RoundIn.mono g.2 (λe s d=>?_)⟩;cases e with
    |returned v=>exact m _ _ d.1
    |panicked c=>have:=(j _ _ _ d).1;cases this
    |outgrown=>obtain⟨E,w1,d⟩:=d;have:=(j _ _ _ d).1;cases this
   |_=>exact g.elim
  |halt x w'=>
   cases x with
   |panic v=>have:=(j _ _ _ g).1;cases this
   |_=>exact g.elim
 .rename_i u;rw[Vn u];obtain⟨k,h⟩:=h;refine⟨k,?_⟩;unfold wpListIn at h;exact m _ _ h
theorem yL(s:∀i o,l[i]?=some o->∀j∈Qf o,j<i)(n:∀i o,m<i->l[i]?=some o->i-1∈Qf o):
  ∀(d t:Nat) (L:Array Bool) (a:Act) (w:World),L.size=l.length->(∀i,i<l.length->(Bz L i↔i<t))->KY L<=d->m<=t->t<=l.length->
   CK P rd l.toArray Q (l.drop t) a w->wpAnyIn (WF rd) 0 P .any l.toArray Q d L a w:=by
 intro d
 induction d with
 |zero=>
  intro t L a w hsz hL hf hm ht h;have:t=l.length:=by
   rcases Vy t l.length with q|q
   .have:=oM (L:=L) (i:=t) (by omega) (λz=>by have:=(hL t q).1 z;omega);omega
   .omega
  subst this;refine⟨List.eq_nil_iff_forall_not_mem.2 λi p=>?_,?_⟩
  .obtain⟨o,f,k,_⟩:=(S6 hsz).1 p;have e:=(XJ.1 f).1;exact k ((hL i e).2 e)
  .rw[Xs]at h;exact h
 |succ d J=>
  intro t L a w hsz hL hf hm ht h;have y:∀i o,l[i]?=some o->¬Bz L i->(∀j∈Qf o,Bz L j)->i=t:=by
   intro i o f k x;have e:=(XJ.1 f).1;have H:t<=i:=by
    rcases Vy i t with q|q
    .exact absurd ((hL i e).2 q) k
    .exact q
   rcases Vy t i with q|q
   .have:=(hL (i-1) (by omega)).1 (x _ (n i o (by omega) f));omega
   .omega
  rcases Vy t l.length with g|g
  .have E:l[t]?=some l[t]:=XI g;have r:¬Bz L t:=λq=>by have:=(hL t g).1 q;omega
   have F:t∈Region.ready .any l.toArray L:=by
    refine(S6 hsz).2 ⟨_,E,r,λj u=>?_⟩;have:=s t _ E j u;exact(hL j (by omega)).2 this
   refine⟨λq=>(by rw[q]at F;cases F),λi p=>?_⟩;obtain⟨o,f,k,x⟩:=(S6 hsz).1 p;obtain rfl:=y i o f k x;rw[Xq g]at h;obtain rfl:l[i]=o:=by rw[XI g]at f;exact XX f
   unfold wpOpIn;rw[show l.toArray[i]?=some l[i]by rw[XF];exact f];simp only;unfold CK wpListIn at h;have G:∀a w,CK P rd l.toArray Q (l.drop (i+1)) a w->wpAnyIn (WF rd) 0 P .any l.toArray Q d (L.setIfInBounds i true) a w:=by
    intro a w q;have M:=jy (L:=L) (i:=i) (by omega) r;refine J (i+1) _ a w (by simpa using hsz) (λj u=>?_) (by omega) (by omega) (by omega) q;rw[J2 (by omega),hL j u];omega
   split at h
   .rename_i B;rw[Vp B];exact Oper.wpIn_mono G h
   .rename_i B;rw[Vn B];exact⟨h.1,G _ _ h.2⟩
  .have:t=l.length:=by omega
   subst this;rw[Xs]at h;refine⟨λ_=>h,λi p=>?_⟩;obtain⟨o,f,k,_⟩:=(S6 hsz).1 p;have e:=(XJ.1 f).1;exact absurd ((hL i e).2 e) k
def aB(af ds:AA Nat)(xs:AA A)(env0 e:Env):Prop:=
 ∀s,(∃j x,af.contains j=true/\ds[j]?=some s/\xs[j]?=some x/\lk e s=x)\/lk e s=.any\/(ds.contains s=false/\lk e s=lk env0 s)
inductive JH (P:Program) (N:Nat) (l:List Oper) (ds:List Nat) (xs:List A) (env0:Env) (hB hE:Nat) (i:Nat) (H H':Qb):Prop
 |mk (o:Oper) (e:Env) (d:Nat) (x:A) (ho:l[i]?=some o) (hd:o.dst=some d) (hx:xs[i]?=some x) (hdd:J5 hB hE H H'=true) (hs:Sb (Qf o) (K8 l i) ds xs env0 e)
   (h:WO P H.length N l.toArray [o] e H (Y6 (up e d x) H')):JH P N l ds xs env0 hB hE i H H'
 |unit (o:Oper) (e:Env) (ho:l[i]?=some o) (hd:o.dst=none) (hx:xs[i]?=some .any) (hdd:J5 hB hE H H'=true) (hs:Sb (Qf o) (K8 l i) ds xs env0 e)
   (h:WO P H.length N l.toArray [o] e H (Y6 e H')):JH P N l ds xs env0 hB hE i H H'
 |unitE (o:Oper) (e:Env) (ho:l[i]?=some o) (hd:o.dst=none) (hx:xs[i]?=some .any) (hdd:J5 hB hE H H'=true) (he:aB (Qf o) ds xs env0 e)
   (h:WO P H.length N l.toArray [o] e H (Y6 e H')):JH P N l ds xs env0 hB hE i H H'
 |alloc (o:Oper) (d t p:Nat) (cs:List A) (ho:l[i]?=some o) (hd:o.dst=some d) (hg:o.guard=none) (hx:xs[i]?=some (.ptr p 0)) (hp:(Nat.ble hB p&&Nat.blt p hE)=true) (hdead:LH H[p]?=true)
   (hH:H.set p (.cells t cs)=H') (h:PF P o t cs) (hN:Nat.blt d N=true):JH P N l ds xs env0 hB hE i H H'
 |row (o:Oper) (e:Env) (d p:Nat) (x:A) (B:AR) (ho:l[i]?=some o) (hd:o.dst=some d) (hg:o.guard=none) (hx:xs[i]?=some x) (hp:(Nat.ble hB p&&Nat.blt p hE)=true) (hdead:LH H[p]?=true) (hlive:LH (some B)=false)
   (hH:H.set p B=H') (hs:Sb (Qf o) (K8 l i) ds xs env0 e) (h:ly P o e H p x B) (hN:Nat.blt d N=true):JH P N l ds xs env0 hB hE i H H'
 |val (o:Oper) (e:Env) (d:Nat) (x:A) (ho:l[i]?=some o) (hd:o.dst=some d) (hg:o.guard=none) (hx:xs[i]?=some x) (hN:Nat.blt d N=true) (he:aB (Qf o) ds xs env0 e) (h:AK P o e H x)
   (hH:H=H':=by rfl):JH P N l ds xs env0 hB hE i H H'
 |woE (o:Oper) (e:Env) (d:Nat) (x:A) (ho:l[i]?=some o) (hd:o.dst=some d) (hx:xs[i]?=some x) (he:aB (Qf o) ds xs env0 e) (hdd:J5 hB hE H H'=true) (h:WO P H.length N l.toArray [o] e H (Y6 (up e d x) H')):JH P N l ds xs env0 hB hE i H H'
variable {xs:AA A}
theorem Sb.rel{af g f:AA Nat}{e:Env}{a:Act}(i:Sb af g f xs env0 e)
  (k:∀j∈af,∀s x,f[j]?=some s->xs[j]?=some x->VR ro U w x (a.tmps.getD s undef))
  (h:∀s,f.contains s=false->VR ro U w (lk env0 s) (a.tmps.getD s undef))(hP:∀j s,g.contains j=true->f[j]?=some s->VR ro U w (lk env0 s) (a.tmps.getD s undef)):
  ∀s,VR ro U w (lk e s) (a.tmps.getD s undef):=by
 intro s
 induction i with
 |nil=>exact trivial
 | @dep j s1 x1 r h1 h2 h3 _ ih=>
  unfold lk;cases d:Nat.beq s s1 with
  |false=>exact ih
  |true=>
   obtain rfl:=XO d;exact k j (by simpa using h1) _ _ h2 h3
 | @old s1 x1 r h1 h2 _ ih=>
  unfold lk;cases d:Nat.beq s s1 with
  |false=>exact ih
  |true=>
   obtain rfl:=XO d;subst h2;exact h _ h1
 | @pre j s1 x1 r h1 h2 h3 _ ih=>
  unfold lk;cases d:Nat.beq s s1 with
  |false=>exact ih
  |true=>
   obtain rfl:=XO d;subst h3;exact hP j _ h1 h2
structure Z0 (fr ro:Nat->Prop) (U:AZ) (w:World) (hB hE:Nat) (H':Qb) (xs:List A) (i:Nat) (o:Oper) (a':Act) (w':World) (ro':Nat->Prop) (σ':AZ):Prop where
 val:∀x,xs[i]?=some x->match o.dst with
  |some d=>VR ro' σ' w' x (a'.tmps.getD d undef)
  |none=>x=.any
 sim:AU fr ro' σ' H' w'
 ev:Qm fr ro w ro' w'
 ext:BI ro U w ro' σ' w'
 holes:aC hB hE σ' H'
 take:σ'.take hB=U.take hB
theorem JH.use{ds:AA Nat}{i:Nat}{H:Qb}(hb:JH P N l ds xs env0 hB hE i H H'){K:Act->World->Prop}{a:Act}(T:l[i]?=some o)
  (f:AU fr ro U H w)(hN:a.tmps.size=N)(m:ID fr a.defers w)(ac:D5 rd fr w)(hh:aC hB hE U H)(hl:hE<=H.length)(am:hB<=hE)
  (hD:∀j∈Qf o,∀s x,ds[j]?=some s->xs[j]?=some x->VR ro U w x (a.tmps.getD s undef))
  (hO:∀s,ds.contains s=false->VR ro U w (lk env0 s) (a.tmps.getD s undef))(hP:∀j s,(K8 l i).contains j=true->ds[j]?=some s->VR ro U w (lk env0 s) (a.tmps.getD s undef))
  (hK:∀v w' ro' σ',Z0 fr ro U w hB hE H' xs i o (a.put o.dst v) w' ro' σ'->K (a.put o.dst v) w'):
  wpOpIn (WF rd) 0 P l.toArray Q i K a w:=by
 have W:∀{e:Env} {H2:Qb} {E:Exit} {L:Act} {w':World},D9 H.length fr ro U w N a.defers (Y6 e H2) E L w'->E=.normal/\L.defers=a.defers:=by
  rintro e H2 E L w' ⟨x,_,_,_,_,_,k,⟨rfl,_⟩,_,_,_,J,_⟩;refine⟨?_,J⟩;cases E<;>first|rfl|exact k.elim|cases k
 have ak:∀{σ':AZ} {w':World},Qm fr ro w ro w'->σ'.take H.length=U.take H.length->True:=λ_ _=>trivial;have V:∀{e:Env} {L:Act} {w':World},D9 H.length fr ro U w N a.defers (Y6 e H') .normal L w'->J5 hB hE H H'=true->
   ∃ro' σ',AU fr ro' σ' H' w'/\Qm fr ro w ro' w'/\BI ro U w ro' σ' w'/\aC hB hE σ' H'/\σ'.take hB=U.take hB/\ ∀s,VR ro' σ' w' (lk e s) (L.tmps.getD s undef):=by
  rintro e L w' ⟨_,aj,H2,ro',σ',al,_,⟨_,rfl,rfl⟩,r',he,ht,_,ai⟩ n;have hσ:σ'=U++σ'.drop H.length:=by
   conv=>lhs;rw[<- Xy H.length σ']
   rw[ht, <- f.len,X6]
  refine⟨ro',σ',r'.sim.frMono ai.sub,he,?_,?_,?_,r'.env⟩
  .rw[hσ];exact he.ext U _
  .intro p k J h3;have:=hh p k J (yK n k J h3);rw[hσ,XK (by rw[f.len];omega)];exact this
  .rw[hσ];exact QI (by rw[f.len];omega)
 cases hb with
 |woE r e d x g M X he n h=>
  obtain rfl:r=o:=XX (g.symm.trans T);have hr:∀s,VR ro U w (lk e s) (a.tmps.getD s undef):=λs=>by
   rcases he s with⟨j,x,k,J,h3,F⟩|F|⟨k,F⟩
   .rw[F];exact hD j (by simpa using k) s x J h3
   .rw[F];exact trivial
   .rw[F];exact hO s k
  refine O_ T (h rd fr ro U a w ⟨f,hr,hN,m⟩ ac) (λ_ _ _ q=>W q) (λv w' q=>?_);obtain⟨ro',σ',g1,g2,G,g4,g5,g6⟩:=V q n;refine hK v w' ro' σ' ⟨λy Y=>?_,g1,g2,G,g4,g5⟩;obtain rfl:=XX (X.symm.trans Y);have:=g6 d;unfold lk at this;rw[VB]at this;rw[M]at this⊢;exact this
 |unitE r e g M X n he h=>
  obtain rfl:r=o:=XX (g.symm.trans T);have hr:∀s,VR ro U w (lk e s) (a.tmps.getD s undef):=λs=>by
   rcases he s with⟨j,x,k,J,h3,F⟩|F|⟨k,F⟩
   .rw[F];exact hD j (by simpa using k) s x J h3
   .rw[F];exact trivial
   .rw[F];exact hO s k
  refine O_ T (h rd fr ro U a w ⟨f,hr,hN,m⟩ ac) (λ_ _ _ q=>W q) (λv w' q=>?_);obtain⟨ro',σ',g1,g2,G,g4,g5,g6⟩:=V q n;refine hK v w' ro' σ' ⟨λy Y=>?_,g1,g2,G,g4,g5⟩;obtain rfl:=XX (X.symm.trans Y);rw[M]
 |mk r e d x g M X n hs h=>
  obtain rfl:r=o:=XX (g.symm.trans T);refine O_ T (h rd fr ro U a w ⟨f,hs.rel hD hO hP,hN,m⟩ ac) (λ_ _ _ q=>W q) (λv w' q=>?_);obtain⟨ro',σ',g1,g2,G,g4,g5,g6⟩:=V q n;refine hK v w' ro' σ' ⟨λy Y=>?_,g1,g2,G,g4,g5⟩;obtain rfl:=XX (X.symm.trans Y);have:=g6 d;unfold lk at this;rw[VB]at this;rw[M]at this⊢;exact this
 |unit r e g M X n hs h=>
  obtain rfl:r=o:=XX (g.symm.trans T);refine O_ T (h rd fr ro U a w ⟨f,hs.rel hD hO hP,hN,m⟩ ac) (λ_ _ _ q=>W q) (λv w' q=>?_);obtain⟨ro',σ',g1,g2,G,g4,g5,g6⟩:=V q n;refine hK v w' ro' σ' ⟨λy Y=>?_,g1,g2,G,g4,g5⟩;obtain rfl:=XX (X.symm.trans Y);rw[M]
 |val r e d x g M hg X ab he h hH=>
  obtain rfl:r=o:=XX (g.symm.trans T);subst hH;have hr:BL fr ro U H e N a w:=by
   refine⟨f,λs=>?_,hN,m⟩;rcases he s with⟨j,x,k,J,h3,F⟩|F|⟨k,F⟩
   .rw[F];exact hD j (by simpa using k) s x J h3
   .rw[F];exact trivial
   .rw[F];exact hO s k
  obtain⟨v0,k,J⟩:=h fr ro U N a w hr;have hw:Region.wanted r (yielded l.toArray a.tmps)=true:=by unfold Region.wanted;rw[hg]
  refine O_ (R:=λE L w'=>E=.normal/\L.defers=a.defers/\L=a.put r.dst v0/\w'=w) T (JT hw k ?_) (λ_ _ _ q=>⟨q.1,q.2.1⟩) (λv w' q=>?_)
  .unfold CK wpListIn;refine⟨rfl,?_,rfl,rfl⟩;rw[M];rfl
  .obtain⟨_,_,q1,rfl⟩:=q;refine hK v _ ro U ⟨λy Y=>?_,f,Qm.refl _ _ _,⟨λ_ q=>q,λ_ _=>rfl,λ_ _ q=>q,λ_ _ q=>q⟩,hh,rfl⟩;obtain rfl:=XX (X.symm.trans Y);rw[q1,M];have aa:d<a.tmps.size:=by rw[hN];simpa using ab
   show VR ro U w' x _;simpa[Act.put,Array.getD_eq_getD_getElem?,aa]using J
 |row r e d p x B g M hg X hp O hlive hH hs h ab=>
  obtain rfl:r=o:=XX (g.symm.trans T);subst hH;simp only[XU]at hp;have ae:=XP hp.1;have ah:p<hE:=by simpa using hp.2
  have hσp:=hh p ae ah O;have hr:BL fr ro U H e N a w:=⟨f,hs.rel hD hO hP,hN,m⟩;obtain⟨v0,af,k,J,h3⟩:=h fr ro U N a w hr;have hw:Region.wanted r (yielded l.toArray a.tmps)=true:=by unfold Region.wanted;rw[hg]
  have ev:Qm fr ro w ro (w.alloc af):=Qm.alloc _ f.roLt f.frLt;have ag:p<U.length:=by rw[f.len];omega
  have u:BI ro U w ro (U.set p (some w.heap.size)) (w.alloc af):=⟨ev.sub,ev.keepRo,ev.shape,λj b q=>by
   rw[XN (λz=>by subst z;rw[hσp]at q;cases q)];exact q⟩
  obtain⟨g8,g9⟩:=h3 _ (Xa ag) u;refine O_ (R:=λE L w'=>E=.normal/\L.defers=a.defers/\L=a.put r.dst v0/\w'=w.alloc af) T (JT hw k ?_) (λ_ _ _ q=>⟨q.1,q.2.1⟩) (λv w' q=>?_)
  .unfold CK wpListIn;refine⟨rfl,?_,rfl,rfl⟩;rw[M];rfl
  .obtain⟨_,_,q1,rfl⟩:=q;refine hK v _ ro (U.set p (some w.heap.size)) ⟨λy Y=>?_,f.allocAt hσp g9 J,ev,u,λp' g1 g2 G=>?_,?_⟩
   .obtain rfl:=XX (X.symm.trans Y);rw[q1,M];have aa:d<a.tmps.size:=by rw[hN];simpa using ab
    show VR ro _ _ x _;simpa[Act.put,Array.getD_eq_getD_getElem?,aa]using g8
   .by_cases q:p'=p
    .subst q;rw[Xa (by omega),hlive]at G;cases G
    .rw[XN (λz=>q z.symm)]at G⊢;exact hh p' g1 g2 G
   .rw[List.take_set,List.set_eq_of_length_le];rw[Xx];omega
 |alloc r d t p cs g M hg X hp O hH h ab=>
  obtain rfl:r=o:=XX (g.symm.trans T);subst hH;simp only[XU]at hp;have ae:=XP hp.1;have ah:p<hE:=by simpa using hp.2
  have hσp:=hh p ae ah O;obtain⟨lv,k,J,h3⟩:=h ro U w a;have hw:Region.wanted r (yielded l.toArray a.tmps)=true:=by unfold Region.wanted;rw[hg]
  have ev:Qm fr ro w ro (w.alloc (.cells lv.toArray t)):=Qm.alloc _ f.roLt f.frLt;have ag:p<U.length:=by rw[f.len];omega
  have u:BI ro U w ro (U.set p (some w.heap.size)) (w.alloc (.cells lv.toArray t)):=⟨ev.sub,ev.keepRo,ev.shape,λj b q=>by
   rw[XN (λz=>by subst z;rw[hσp]at q;cases q)];exact q⟩
  refine O_ (R:=λE L w'=>E=.normal/\L.defers=a.defers/\L=a.put r.dst (.pointer (some ⟨w.heap.size,0,none⟩))/\w'=w.alloc (.cells lv.toArray t)) T (JT hw k ?_) (λ_ _ _ q=>⟨q.1,q.2.1⟩) (λv w' q=>?_)
  .unfold CK wpListIn;refine⟨rfl,?_,rfl,rfl⟩;rw[M];rfl
  .obtain⟨_,_,q1,rfl⟩:=q;refine hK v _ ro (U.set p (some w.heap.size)) ⟨λy Y=>?_,f.allocAt hσp ⟨lv,Ys _ _,J.mono u,h3⟩,ev,u,λp' g1 g2 G=>?_,?_⟩
   .obtain rfl:=XX (X.symm.trans Y);rw[q1,M];have aa:d<a.tmps.size:=by rw[hN];simpa using ab
    refine⟨w.heap.size,Xa ag,?_⟩;simp[Act.put,Array.getD_eq_getD_getElem?,aa]
   .by_cases q:p'=p
    .subst q;rw[Xa (by omega)]at G;cases G
    .rw[XN (λz=>q z.symm)]at G⊢;exact hh p' g1 g2 G
   .rw[List.take_set,List.set_eq_of_length_le];rw[Xx];omega
def same(a b:AA Nat):Bool:=a.all (b.contains ·)&&b.all (a.contains ·)
theorem vp{a b:AA Nat}(h:same a b=true)(i:Nat):i∈a↔i∈b:=by
 unfold same at h;simp only[XU,Xt,List.contains_iff_mem]at h;exact⟨h.1 i,h.2 i⟩
structure jP (l:List Oper) (m:Nat) (ds:List Nat) (hs:List Bool) (rq ms:List (List Nat)) (pl:List (List (Nat×Nat))) (N:Nat):Prop where
 len:m<=l.length
 dst:∀i o,i<m->l[i]?=some o->(∃d,o.dst=some d/\ds[i]?=some d/\d<N)\/o.dst=none
 dsl:ds.length=m
 nodup:∀(i j d:Nat),ds[i]?=some d->ds[j]?=some d->i=j
 back:∀i o,l[i]?=some o->∀j∈Qf o,j<i
 mid:∀o,l[m]?=some o->∀j,j<m->KJ l m j
 chain:∀i o,m<i->l[i]?=some o->i-1∈Qf o
 rqs:∀i o,i<m->l[i]?=some o->∀h∈rq.getD i [],h<m/\hs.getD h false=true/\(h∈Qf o\/ ∃j∈Qf o,j<m/\h∈rq.getD j [])
 ms0:ms.getD 0 []=[]
 full:∀st,st<ms.length->st+1=ms.length\/ ∃i,i<m/\hs.getD i false=true/\i∉ms.getD st []
 msh:∀st h,h∈ms.getD st []->h<m/\hs.getD h false=true
 pls:∀i st,i<m->st<ms.length->(∀h∈rq.getD i [],h∈ms.getD st [])->(hs.getD i false=true->i∉ms.getD st [])->(∀h∈ms.getD st [],¬KJ l h i)->
  ∃st',(st,st')∈pl.getD i []/\st'<ms.length/\if hs.getD i false then∀j,j∈ms.getD st' []↔j=i\/j∈ms.getD st []else st'=st
theorem m5{α:Type}{l:AA α}{i:Nat}{d x:α}(h:l[i]?=some x):l.getD i d=x:=by rw[VH,h];rfl
theorem pY{Y:AA Nat}{hs:AA Bool}{rq ms:AA (AA Nat)}{pl:AA (AA (Nat×Nat))}{Hs:AA Qb}{Hk:Qb}
  (ok:jP l m Y hs rq ms pl N)(a3:xs.length=m)(bd:Hs.length=ms.length)(az:h0<=hB)(a1:hB<=hE)(a6:∀H∈Hs,hE<=H.length)
  (a8:∀i p,i<m->p∈pl.getD i []->JH P N l Y xs env0 hB hE i (Hs.getD p.1 []) (Hs.getD p.2 []))(a2:Hs.getD (ms.length-1) []=Hk)
  {ro0:Nat->Prop}{σ0:AZ}{w0:World}{ds0:AA Deferred}
  (hk:∀ro U a w,BL fr ro U Hk (FZ Y xs env0) N a w->Qm fr ro0 w0 ro w->U.take h0=σ0.take h0->a.defers=ds0->CK P rd l.toArray R (l.drop m) a w)(ao:ID fr ds0 w0)(a9:D5 rd fr w0):
  ∀(f:Nat) (L:Array Bool) (a:Act) (w:World) (ro:Nat->Prop) (U:AZ) (u:Nat),
   L.size=l.length->KY L<=f->(∀i,m<=i->¬Bz L i)->u<ms.length->AU fr ro U (Hs.getD u []) w->a.tmps.size=N->a.defers=ds0->
   (∀(i d:Nat) (x:A),Bz L i->Y[i]?=some d->xs[i]?=some x->VR ro U w x (a.tmps.getD d undef))->(∀s,(∀j,Y[j]?=some s->¬Bz L j)->VR ro U w (lk env0 s) (a.tmps.getD s undef))->
   Qm fr ro0 w0 ro w->U.take h0=σ0.take h0->aC hB hE U (Hs.getD u [])->
   (∀i,i<m->Bz L i->∀h∈rq.getD i [],Bz L h)->(∀i,i<m->hs.getD i false=true->(Bz L i↔i∈ms.getD u []))->
   (∀i o,Bz L i->l[i]?=some o->∀j∈Qf o,Bz L j)->
   wpAnyIn (WF rd) 0 P .any l.toArray R f L a w:=by
 have ax:∀u,u<ms.length->hE<=(Hs.getD u []).length:=by
  intro u h;have e:Hs[u]?=some Hs[u]:=XI (by omega);rw[m5 e];exact a6 _ (List.getElem_mem _)
 have fin:∀(f:Nat) (L:Array Bool) (a:Act) (w:World) (ro:Nat->Prop) (U:AZ) (u:Nat),
   L.size=l.length->KY L<=f->(∀i,m<=i->¬Bz L i)->u<ms.length->AU fr ro U (Hs.getD u []) w->a.tmps.size=N->a.defers=ds0->
   (∀(i d:Nat) (x:A),Bz L i->Y[i]?=some d->xs[i]?=some x->VR ro U w x (a.tmps.getD d undef))->(∀s,(∀j,Y[j]?=some s->¬Bz L j)->VR ro U w (lk env0 s) (a.tmps.getD s undef))->
   Qm fr ro0 w0 ro w->U.take h0=σ0.take h0->
   (∀i,i<m->hs.getD i false=true->(Bz L i↔i∈ms.getD u []))->(∀i,i<m->Bz L i)->
   wpAnyIn (WF rd) 0 P .any l.toArray R f L a w:=by
  intro f L a w ro U u hsz hu hsuf hst hsim hN hdef hD hE' hev htk hI2 r;have am:u=ms.length-1:=by
   rcases ok.full u hst with q|⟨i,Q,X,h3⟩
   .omega
   .exact absurd ((hI2 i Q X).1 (r i Q)) h3
  rw[am,a2]at hsim;refine yL ok.back ok.chain f m L a w hsz (λi hi=>⟨λq=>?_,λq=>r i q⟩) hu (XR _) ok.len ?_
  .rcases Vy i m with z|z
   .exact z
   .exact absurd q (hsuf i z)
  .have hr:BL fr ro U Hk (FZ Y xs env0) N a w:=by
    refine⟨hsim,λs=>?_,hN,by rw[hdef];exact ao.keep hev⟩;rcases vd (env0:=env0) (by rw[ok.dsl,a3]) s with⟨j,x,Q,X,h3⟩|⟨Q,X⟩
    .rw[h3];have g:j<m:=by have:=(XJ.1 Q).1;rw[ok.dsl]at this;exact this
     exact hD j s x (r j g) Q X
    .rw[X];exact hE' s (λj q=>absurd (VD q) (by simpa using Q))
   exact hk ro U a w hr hev htk hdef
 intro f
 induction f with
 |zero=>
  intro L a w ro U u hsz hu hsuf hst hsim hN hdef hD hE' hev htk hho hI1 hI2 hcl;refine fin 0 L a w ro U u hsz hu hsuf hst hsim hN hdef hD hE' hev htk hI2 (λi hi=>?_);by_cases q:Bz L i
  .exact q
  .have:=oM (L:=L) (i:=i) (by have:=ok.len;omega) q;omega
 |succ f ih=>
  intro L a w ro U u hsz hu hsuf hst hsim hN hdef hD hE' hev htk hho hI1 hI2 hcl;by_cases r:∀i,i<m->Bz L i
  .exact fin (f+1) L a w ro U u hsz hu hsuf hst hsim hN hdef hD hE' hev htk hI2 r
  .have au:∃i,i<m/\ ¬Bz L i:=by
    refine Classical.byContradiction λq=>r λi hi=>Classical.byContradiction λz=>q ⟨i,hi,z⟩
   obtain⟨n,hn,an⟩:=au;obtain⟨i0,Q,X,h3⟩:=least (p:=λi=>¬Bz L i) (λi=>Classical.em _) n an;have bb:=ok.len;have aj:l[i0]?=some l[i0]:=XI (by omega);have hr:i0∈Region.ready .any l.toArray L:=(S6 hsz).2 ⟨_,aj,X,λj g=>Classical.byContradiction λz=>h3 j (ok.back i0 _ aj j g) z⟩;refine⟨λq=>(by rw[q]at hr;cases hr),λi hi=>?_⟩;obtain⟨o,V,aa,O⟩:=(S6 hsz).1 hi;have E:i<m:=by
    rcases Vy i m with q|q
    .exact q
    .exfalso;rcases Vy m i with z|z
     .exact hsuf (i-1) (by omega) (O _ (ok.chain i o z V))
     .have:i=m:=by omega
      subst this;have av:∀j,KJ l i j->Bz L j:=by
       intro j g
       induction g with
       |one t g=>rw[V]at t;cases t;exact O _ g
       |step _ t g ihr=>exact hcl _ _ ihr t _ g
      exact an (av n (ok.mid o V n hn))
   have al:∀h∈rq.getD i [],Bz L h:=by
    intro h W;obtain⟨_,_,q|⟨j,q1,q2,q3⟩⟩:=ok.rqs i o E V h W
    .exact O h q
    .exact hI1 j q2 (O j q1) h q3
   obtain⟨a7,ar,ba,J⟩:=ok.pls i u E hst (λh W=>by
    obtain⟨q1,q2,_⟩:=ok.rqs i o E V h W;exact(hI2 h q1 q2).1 (al h W)) (λq z=>aa ((hI2 i E q).2 z)) (λh W hR=>by
    obtain⟨q1,q2⟩:=ok.msh u h W;have aw:Bz L h:=(hI2 h q1 q2).2 W;have ai:∀j,KJ l h j->Bz L j:=by
     intro j g
     induction g with
     |one t g=>exact hcl _ _ aw t _ g
     |step _ t g ihr=>exact hcl _ _ ihr t _ g
    exact aa (ai i hR))
   have hb:=a8 i _ E ar;refine hb.use V hsim hN (by rw[hdef];exact ao.keep hev) (a9.to hev λ_ q=>q) hho (ax u hst) a1 (λj g s x q1 q2=>hD j s x (O j g) q1 q2) (λs Q=>hE' s (λj q=>absurd (VD q) (by simpa using Q))) (λj s Q X=>hE' s (λj' q q'=>?_)) ?_
   .obtain rfl:=ok.nodup j' j s q X;have g:=Xe.1 (List.contains_iff_mem.1 Q);cases ae:l[j']? with
    |none=>rw[ae]at g;simp at g
    |some oj=>
     rw[ae]at g;exact aa (hcl j' oj q' ae i (by simpa using g.2))
   intro v w' a4 σ' af;have ac:=af.ext;have ab:∀s,(∀d,o.dst=some d->s≠d)->(a.put o.dst v).tmps.getD s undef=a.tmps.getD s undef:=by
    intro s ay;cases hd:o.dst with
    |none=>rfl
    |some d=>
     simp only[Act.put,Array.getD_eq_getD_getElem?,Va];rw[Vn (λq=>ay d hd q.symm)]
   have ag:(a.put o.dst v).tmps.size=N:=by
    cases hd:o.dst with
    |none=>simpa[Act.put]using hN
    |some d=>simpa[Act.put]using hN
   have a5:(a.put o.dst v).defers=ds0:=by
    cases hd:o.dst with
    |none=>simpa[Act.put]using hdef
    |some d=>simpa[Act.put]using hdef
   have bc:=jy (L:=L) (i:=i) (by omega) aa;have B:i<L.size:=by omega
   have a0:∀s j,Y[j]?=some s->j≠i->∀d,o.dst=some d->s≠d:=by
    intro s j g F d hd q;subst q;rcases ok.dst i o E V with⟨d',k,T,ak⟩|k
    .rw[hd]at k;cases k;exact F (ok.nodup j i _ g T)
    .rw[hd]at k;cases k
   refine ih _ _ w' a4 σ' a7 (by simpa using hsz) (by omega) (λj g q=>?_) ba af.sim ag a5 ?_ ?_ (hev.trans af.ev) ?_ af.holes ?_ ?_ ?_
   .rcases(J2 B).1 q with z|z
    .omega
    .exact hsuf j g z
   .intro j s y g M hy;by_cases F:j=i
    .subst F;have hv:=af.val y hy;rcases ok.dst j o E V with⟨d',k,T,ak⟩|k
     .obtain rfl:s=d':=XX (M.symm.trans T);simp only[k]at hv⊢;exact hv
     .simp only[k]at hv;subst hv;exact trivial
    .rw[ab s (a0 s j M F)];rcases(J2 B).1 g with z|z
     .exact absurd z F
     .exact(hD j s y z M hy).mono ac
   .intro s M;have aq:∀d,o.dst=some d->s≠d:=by
     rintro d hd rfl;rcases ok.dst i o E V with⟨d',k,T,ak⟩|k
     .rw[hd]at k;cases k;exact M i T ((J2 B).2 (.inl rfl))
     .rw[hd]at k;cases k
    rw[ab s aq];exact(hE' s (λj q z=>M j q ((J2 B).2 (.inr z)))).mono ac
   .rw[<- htk];have:=congrArg (List.take h0) af.take;rw[List.take_take,List.take_take,XA az]at this;exact this
   .intro j g G h W;refine(J2 B).2 (.inr ?_);rcases(J2 B).1 G with z|z
    .subst z;exact al h W
    .exact hI1 j g z h W
   .intro j g G;rw[J2 B];cases q:hs.getD i false with
    |false=>
     have F:j≠i:=by rintro rfl;rw[q]at G;cases G
     rw[q]at J;simp only[Xj,if_false]at J;simp only[F,false_or];rw[J];exact hI2 j g G
    |true=>
     rw[q]at J;simp only[if_true]at J;rw[J j,hI2 j g G]
   .intro j o' g t j' ah;rcases(J2 B).1 g with z|z
    .subst z;rw[V]at t;cases t;exact(J2 B).2 (.inr (O _ ah))
    .exact(J2 B).2 (.inr (hcl j o' z t j' ah))
def De.dstB(N:Nat):Nat->AA Oper->AA Nat->Bool
 |_,_,[]=>true
 |i,o::r,d::ds=>(match o.dst with|some d'=>Nat.beq d' d&&Nat.blt d N|none=>true)&&De.dstB N (i+1) r ds
 |_,[],_::_=>false
def De.rqB(m:Nat)(hs:AA Bool)(rq:AA (AA Nat)):Nat->AA Oper->Bool
 |_,[]=>true
 |i,o::r=>(rq.getD i []).all (λh=>Nat.blt h m&&hs.getD h false&&((Qf o).contains h||(Qf o).any λj=>Nat.blt j m&&(rq.getD j []).contains h))&&De.rqB m hs rq (i+1) r
def je(l:AA Oper)(h:Nat):AA Nat:=match l[h]? with
 |some o=>WW l h (Qf o)
 |none=>[]
theorem yI{h:Nat}(q:j∈je l h):KJ l h j:=by
 unfold je at q;cases a:l[h]? with
 |none=>rw[a]at q;cases q
 |some o=>rw[a]at q;exact cF h (Qf o) (λi d=>.one a d) j q
def De.plB(l:AA Oper)(m:Nat)(hs:AA Bool)(rq ms:AA (AA Nat))(pl:AA (AA (Nat×Nat))):Bool:=
 (List.range m).all λi=>(List.range ms.length).all λst=>((ms.getD st []).any λh=>(je l h).contains i)|| !(rq.getD i []).all ((ms.getD st []).contains ·)||(hs.getD i false&&(ms.getD st []).contains i)||
  (pl.getD i []).any λp=>Nat.beq p.1 st&&Nat.blt p.2 ms.length&&(bif hs.getD i false then same (ms.getD p.2 []) (i::ms.getD st [])else Nat.beq p.2 st)
def De(l:AA Oper)(m N:Nat)(ds:AA Nat)(hs:AA Bool)(rq ms:AA (AA Nat))(pl:AA (AA (Nat×Nat))):Bool:=
 Nat.ble m l.length&&(ds.length==m)&&De.dstB N 0 l ds&&Ar.nodupB ds&&Ar.goB l m 0 l&&De.rqB m hs rq 0 l&&(ms.getD 0 []).isEmpty&&Nat.blt 0 ms.length
 &&((List.range ms.length).all λst=>Nat.beq (st+1) ms.length||(List.range m).any λi=>hs.getD i false&& !(ms.getD st []).contains i)&&De.plB l m hs rq ms pl&&(List.range ms.length).all λst=>(ms.getD st []).all λh=>Nat.blt h m&&hs.getD h false
theorem qn:∀(l:AA Oper) (a:AA Nat) (b:Nat),De.dstB N b l a=true->∀(i d:Nat) (o:Oper),l[i]?=some o->a[i]?=some d->
  (o.dst=some d/\d<N)\/o.dst=none:=by
 intro l
 induction l with
 |nil=>intro a b h i d o f;simp at f
 |cons x r k=>
  intro a b h i d o f g;cases a with
  |nil=>simp at g
  |cons y a=>
   simp only[De.dstB,XU]at h;cases i with
   |zero=>
    simp at f g;subst f;subst g;have h:=h.1;split at h
    .rename_i m j;simp only[XU]at h;have e:=XO h.1;subst e;exact .inl ⟨j,by simpa using h.2⟩
    .rename_i j;exact .inr j
   |succ i=>
    have:=k a (b+1) h.2 i d o (by simpa using f) (by simpa using g);exact this
theorem xM{e:AA Bool}{d:AA (AA Nat)}:∀(l:AA Oper) (b:Nat),De.rqB m e d b l=true->∀(i:Nat) (o:Oper),l[i]?=some o->
  ∀h∈d.getD (b+i) [],h<m/\e.getD h false=true/\(h∈Qf o\/ ∃j∈Qf o,j<m/\h∈d.getD j []):=by
 intro l
 induction l with
 |nil=>intro b h i o a;simp at a
 |cons x r t=>
  intro b h i o a;simp only[De.rqB,XU]at h;cases i with
  |zero=>
   simp at a;subst a;intro k f;have:=Xt.1 h.1 k (by simpa using f);simp only[XU,Bool.or_eq_true,List.contains_iff_mem,Xu]at this;obtain⟨⟨p,g⟩,u⟩:=this;refine⟨by simpa using p,g,?_⟩;rcases u with q|⟨j,n,w,s⟩
   .exact .inl q
   .exact .inr ⟨j,n,by simpa using w,s⟩
  |succ i=>
   have:=t (b+1) h.2 i o (by simpa using a);rw[show b+1+i=b+(i+1)by omega]at this;exact this
theorem wP{t:AA Nat}{E:AA Bool}{H u:AA (AA Nat)}{J:AA (AA (Nat×Nat))}(h:De l m N t E H u J=true):
  jP l m t E H u J N/\0<u.length:=by
 unfold De at h;simp only[XU]at h;obtain⟨⟨⟨⟨⟨⟨⟨⟨⟨⟨X,Q⟩,W⟩,T⟩,h5⟩,M⟩,P⟩,h8⟩,Y⟩,G⟩,F⟩:=h;have y:m<=l.length:=XP X;have B:t.length=m:=by simpa using Q
 have g:=pJ l 0 h5;refine⟨⟨y,λi o s d=>?_,B,sb T,λi o d=>by have:=(g i o d).1;simpa using this,λo d j L=>cF m (Qf o) (λi s=>.one d s) j ((g m o d).2.1 (by omega) j L),
  λi o s d=>by have:=(g i o d).2.2 (by omega);simpa using this,λi o s d h f=>by have:=xM l 0 M i o d h (by simpa using f);exact this,
  by simpa using P,λn a=>?_,λn h f=>?_,λi n s a hr R V=>?_⟩,by simpa using h8⟩
 .have x:t[i]?=some t[i]:=XI (by omega);rcases qn l t 0 W i _ o d x with⟨r,w⟩|r
  .exact .inl ⟨_,r,x,w⟩
  .exact .inr r
 .have:=Xt.1 Y n (List.mem_range.2 a);simp only[Bool.or_eq_true,Xu,XU,Bool.not_eq_true']at this;rcases this with q|⟨i,r,w,k⟩
  .exact .inl (XO q)
  .exact .inr ⟨i,List.mem_range.1 r,w,λz=>by rw[List.contains_iff_mem.2 z]at k;cases k⟩
 .have a:n<u.length:=by
   rcases Vy n u.length with q|q
   .exact q
   .rw[VH,XM q]at f;cases f
  have:=Xt.1 (Xt.1 F n (List.mem_range.2 a)) h f;simp only[XU]at this;exact⟨by simpa using this.1,this.2⟩
 .have:=Xt.1 (Xt.1 G i (List.mem_range.2 s)) n (List.mem_range.2 a);simp only[Bool.or_eq_true,Bool.not_eq_true']at this;rcases this with((q|q)|q)|q
  .exfalso;obtain⟨h,f,q⟩:=Xu.1 q;exact V h f (yI (List.contains_iff_mem.1 q))
  .exfalso;have:((H.getD i []).all ((u.getD n []).contains ·))=true:=Xt.2 λh f=>List.contains_iff_mem.2 (hr h f);rw[this]at q;cases q
  .simp only[XU]at q;exact absurd (List.contains_iff_mem.1 q.2) (R q.1)
  .obtain⟨p,O,q⟩:=Xu.1 q;simp only[XU]at q;obtain⟨⟨r,w⟩,k⟩:=q;have e:=XO r;refine⟨p.2,by rw[<- e];exact O,by simpa using w,?_⟩;cases z:E.getD i false with
   |true=>
    rw[z]at k;simp only[Vk]at k;simp only[if_true];intro j;rw[vp k j,X3]
   |false=>
    rw[z]at k;simp only[Vl]at k;simp only[Xj,if_false];exact XO k
inductive CF (P:Program) (N:Nat) (l:List Oper) (ds:List Nat) (xs:List A) (env0:Env) (hB hE:Nat):Nat->List (List (Qb×Qb))->Prop
 |nil {i:Nat}:CF P N l ds xs env0 hB hE i []
 |cons {i:Nat} {s:List (Qb×Qb)} {r:List (List (Qb×Qb))} (h:∀p∈s,JH P N l ds xs env0 hB hE i p.1 p.2) (k:CF P N l ds xs env0 hB hE (i+1) r):CF P N l ds xs env0 hB hE i (s::r)
theorem CF.get{e:AA Nat}{d:AA (AA (Qb×Qb))}(h:CF P N l e xs env0 hB hE b d):
  ∀(i:Nat) (s:AA (Qb×Qb)),d[i]?=some s->∀p∈s,JH P N l e xs env0 hB hE (b+i) p.1 p.2:=by
 induction h with
 |nil=>intro i s h;simp at h
 | @cons b s0 r h _ ih=>
  intro i s a;cases i with
  |zero=>simp at a;subst a;exact h
  |succ i=>
   have:=ih i s (by simpa using a);rw[show b+1+i=b+(i+1)by omega]at this;exact this
theorem Q6{d:AA Nat}{i:Nat}:∀p∈([]:AA (Qb×Qb)),JH P N l d xs env0 hB hE i p.1 p.2:=by
 intro p a;cases a
theorem Qe{a:AA Nat}{i:Nat}{H:Qb}{r:AA (Qb×Qb)}(h:JH P N l a xs env0 hB hE i H H')
  (k:∀p∈r,JH P N l a xs env0 hB hE i p.1 p.2):∀p∈(H,H')::r,JH P N l a xs env0 hB hE i p.1 p.2:=by
 intro p d;rcases X3.1 d with rfl|q
 .exact h
 .exact k p q
variable {id:Nat}
theorem zy{H:Qb}{a:Act}(m c:Nat)(W:AA Nat)(hs:AA Bool)(rq ms:AA (AA Nat))(G:AA (AA (Nat×Nat)))(xs:AA A)(Hs:AA Qb)(Hk:Qb)
  (hm:P.follows .mixedOrders=true)(hc:De l m N W hs rq ms G=true)(V:Nat.beq xs.length m=true)(ag:Nat.beq Hs.length ms.length=true)(ah:Nat.ble h0 H.length=true)
  (hh:Hs.all (λX=>Nat.ble (H.length+c) X.length)=true)(T:Hs[0]?=some (H++List.replicate c .dead))(aa:Hs.getD (ms.length-1) []=Hk)
  (ac:CF P N l W xs env H.length (H.length+c) 0 (G.map λq=>q.map λp=>(Hs.getD p.1 [],Hs.getD p.2 [])))(ae:Nat.beq G.length m=true)
  (r:BL fr ro U H env N a w)(af:D5 rd fr w)
  (hk:∀ro' σ' a' w',BL fr ro' σ' Hk (FZ W xs env) N a' w'->Qm fr ro w ro' w'->σ'.take h0=U.take h0->a'.defers=a.defers->CK P rd l.toArray R (l.drop m) a' w'):(Code.region id l.toArray true).wpIn (WF rd) 0 P R a w:=by
 obtain⟨ok,M⟩:=wP hc;have E:=XO V;have F:=XO ag;have ai:=XO ae;have O:Qm fr ro w ro {w with drawn:=w.drawn+1}:=⟨λ_ q=>q,λ_ _=>rfl,λ_ _=>rfl,XR _,λ_ _ q=>q,rfl,rfl,rfl,Nat.le_succ _⟩;have u:BI ro U w ro (U++List.replicate c none) {w with drawn:=w.drawn+1}:=O.ext U _;have ab:=r.sim.len;have J:Hs.getD 0 []=H++List.replicate c .dead:=m5 T;have n:∀(i:Nat) (s:AB Nat) (x:AR),(U++List.replicate c none)[i]?=some s->(H++List.replicate c AR.dead)[i]?=some x->(U[i]?=some s/\H[i]?=some x)\/(s=none/\x=.dead):=by
  intro i s x k h;rcases Vy i U.length with q|q
  .rw[XK q]at k;rw[XK (by omega)]at h;exact .inl ⟨k,h⟩
  .rw[XL q]at k;rw[XL (by omega)]at h;have a1:=VD k;have a2:=VD h;exact .inr ⟨(List.mem_replicate.1 a1).2,(List.mem_replicate.1 a2).2⟩
 have B:AU fr ro (U++List.replicate c none) (H++List.replicate c .dead) {w with drawn:=w.drawn+1}:=by
  refine⟨by simp[ab],r.sim.roOk.to (λ_ q=>q) (λ_ _=>rfl) r.sim.roLt,r.sim.frLt,r.sim.roFr,?_,?_,?_,
   r.sim.hidTo (· = ·) Yd (XR _) (λ_ _ _ _ _ _ _ q=>q) (λ_ _ _ _ _ _ _ q=>q) λj d y g1 g2 g3=>.inl ?_⟩
  rotate_left 3
  .rcases n j _ _ g1 g2 with⟨g,t⟩|⟨g,_⟩
   .exact⟨j,y,rfl,g,t,(λz=>z),λc q=>q⟩
   .cases g
  .intro i b blk k h Q;rcases n i _ _ k h with⟨g,t⟩|⟨g,_⟩
   .exact r.sim.own i b blk g t Q
   .cases g
  .intro i j b x y k h Q h4 h5 h6;rcases n i _ _ k Q with⟨g,t⟩|⟨g,_⟩
   .rcases n j _ _ h h4 with⟨Y,q4⟩|⟨Y,_⟩
    .exact r.sim.inj i j b x y g Y t q4 h5 h6
    .cases Y
   .cases g
  .intro i s x k h;rcases n i _ _ k h with⟨g,t⟩|⟨g,t⟩
   .exact BR.keep u (λb hb _=>rfl) (r.sim.blk i s x g t) (λ_ _ _ _=>rfl)
   .subst t;exact trivial
 have f:∀i,¬Bz (Array.replicate l.length false) i:=by
  intro i q;unfold Bz at q;rw[Array.getElem?_replicate]at q;split at q<;>simp at q
 have L:=XP ah;refine wpIn_region_any hm ?_;rw[List.size_toArray];refine pY ok E F L (Nat.le_add_right _ _) (λX hX=>XP (Xt.1 hh X hX)) ?_ aa (ro0:=ro) (σ0:=U) (w0:=w) (ds0:=a.defers) hk r.defers af
  l.length _ a _ ro (U++List.replicate c none) 0 (by simp) ?_ (λi _=>f i) M (by rw[J];exact B) r.size rfl (λi d x q=>absurd q (f i)) (λs _=>(r.env s).mono u) O (QI (by omega)) ?_
  (λi _ q=>absurd q (f i)) (λi _ _=>⟨λq=>absurd q (f i),λq=>by rw[ok.ms0]at q;cases q⟩) (λi o q=>absurd q (f i))
 .intro i p hi hp;have e:(G.map λq=>q.map λp=>(Hs.getD p.1 [],Hs.getD p.2 []))[i]?=some ((G.getD i []).map λp=>(Hs.getD p.1 [],Hs.getD p.2 [])):=by
   rw[Xp,XI (by omega),VH,XI (by omega)];rfl
  have:=ac.get i _ e _ (Xf.2 ⟨p,hp,rfl⟩);simpa using this
 .unfold KY;simp[List.countP_replicate]
 .intro p k h Q;rw[XL (by omega),List.getElem?_replicate,Vp (by omega)]
theorem b6{H:Qb}{Q:QW}(m c:Nat)(h:AA Nat)(x:AA Bool)(y f:AA (AA Nat))(g:AA (AA (Nat×Nat)))(xs:AA A)(Hs:AA Qb)(Hk:Qb)
  (G:P.follows .mixedOrders=true)(B:De l m N h x y f g=true)(s:Nat.beq xs.length m=true)(n:Nat.beq Hs.length f.length=true)(u:Nat.ble h0 H.length=true)
  (E:Hs.all (λX=>Nat.ble (H.length+c) X.length)=true)(k:Hs[0]?=some (H++List.replicate c .dead))(t:Hs.getD (f.length-1) []=Hk)
  (i:CF P N l h xs env H.length (H.length+c) 0 (g.map λq=>q.map λp=>(Hs.getD p.1 [],Hs.getD p.2 [])))(j:Nat.beq g.length m=true)
  (F:WO P h0 N l.toArray (l.drop m) (FZ h xs env) Hk Q):TC P h0 N (.region id l.toArray true) env H Q:=by
 intro J z L U a w r hrd;refine Code.wpIn_mono (λe a w q=>D9.postW q) (zy m c h x y f g xs Hs Hk G B s n u E k t i j r hrd λro' σ' a' w' hr hev htk hdf=>?_);have d:=F J z ro' σ' a' w' hr (hrd.to hev λ_ q=>q);rw[hdf]at d;exact Yx (λe a w q=>q.step hev htk) _ _ _ d
def draw0(l:AA Oper)(m N:Nat)(ds:AA Nat):Bool:=Nat.ble m l.length&&(ds.length==m)&&De.dstB N 0 l ds&&Ar.nodupB ds&&Ar.goB l m 0 l
inductive Oq (P:Program) (N:Nat) (l:List Oper) (ds:List Nat) (xs:List A) (env0:Env) (H:Qb):Nat->Nat->Prop
 |n {i:Nat}:Oq P N l ds xs env0 H i 0
 |c {i c:Nat} (h:JH P N l ds xs env0 H.length H.length i H H) (k:Oq P N l ds xs env0 H (i+1) c):Oq P N l ds xs env0 H i (c+1)
theorem Oq.get{a:AA Nat}{H:Qb}{c:Nat}(h:Oq P N l a xs env0 H b c):∀i,i<c->JH P N l a xs env0 H.length H.length (b+i) H H:=by
 induction h with
 |n=>intro i d;omega
 | @c b c h _ ih=>
  intro i d;cases i with
  |zero=>exact h
  |succ i=>
   have:=ih i (by omega);rw[show b+1+i=b+(i+1)by omega]at this;exact this
theorem wO{e:AA Nat}(h:draw0 l m N e=true):jP l m e [] [] [[]] (List.replicate m [(0,0)]) N:=by
 unfold draw0 at h;simp only[XU]at h;obtain⟨⟨⟨⟨x,y⟩,w⟩,B⟩,z⟩:=h;have q:m<=l.length:=XP x;have s:e.length=m:=by simpa using y
 have g:=pJ l 0 z;refine⟨q,λi o f d=>?_,s,sb B,λi o d=>by have:=(g i o d).1;simpa using this,λo d j u=>cF m (Qf o) (λi f=>.one d f) j ((g m o d).2.1 (by omega) j u),
  λi o f d=>by have:=(g i o d).2.2 (by omega);simpa using this,λi o f d h p=>by simp at p,rfl,λn a=>.inl (by simp at a;simp[a]),λn h p=>by cases n<;>simp at p,λi n f a _ _ _=>?_⟩
 .have k:e[i]?=some e[i]:=XI (by omega);rcases qn l e 0 w i _ o d k with⟨r,t⟩|r
  .exact .inl ⟨_,r,k,t⟩
  .exact .inr r
 .have:n=0:=by simp at a;exact a
  subst this;refine⟨0,?_,by simp,by simp⟩;rw[VH,List.getElem?_replicate,Vp f];exact Vx.2 rfl
theorem zx{H:Qb}{a:Act}(m:Nat)(t:AA Nat)(xs:AA A)
  (F:P.follows .mixedOrders=true)(G:Go.Sw.draw0 l m N t=true)(n:Nat.beq xs.length m=true)(y:Nat.ble h0 H.length=true)
  (k:Oq P N l t xs env H 0 m)(r:BL fr ro U H env N a w)(u:D5 rd fr w)
  (E:∀ro' σ' a' w',BL fr ro' σ' H (FZ t xs env) N a' w'->Qm fr ro w ro' w'->σ'.take h0=U.take h0->a'.defers=a.defers->CK P rd l.toArray R (l.drop m) a' w'):(Code.region id l.toArray true).wpIn (WF rd) 0 P R a w:=by
 have ok:=wO G;have h:=XO n;have f:Qm fr ro w ro {w with drawn:=w.drawn+1}:=⟨λ_ q=>q,λ_ _=>rfl,λ_ _=>rfl,XR _,λ_ _ q=>q,rfl,rfl,rfl,Nat.le_succ _⟩;have j:BI ro U w ro U {w with drawn:=w.drawn+1}:=f.ext0 U;have g:AU fr ro U H {w with drawn:=w.drawn+1}:=r.sim.heap rfl;have e:∀i,¬Bz (Array.replicate l.length false) i:=by
  intro i q;unfold Bz at q;rw[Array.getElem?_replicate]at q;split at q<;>simp at q
 refine wpIn_region_any F ?_;rw[List.size_toArray];refine pY (hB:=H.length) (hE:=H.length) (Hs:=[H]) (Hk:=H) ok h rfl (XP y) (XR _) (λX hX=>by rw[Vx.1 hX];exact XR _) ?_ rfl (ro0:=ro) (σ0:=U) (w0:=w) (ds0:=a.defers) E r.defers u
  l.length _ a _ ro U 0 (by simp) ?_ (λi _=>e i) (by simp) g r.size rfl (λi d x q=>absurd q (e i)) (λs _=>(r.env s).mono j) f rfl (λp J L=>by omega)
  (λi _ q=>absurd q (e i)) (λi _ _=>⟨λq=>absurd q (e i),λq=>by cases q⟩) (λi o q=>absurd q (e i))
 .intro i p B z;rw[VH,List.getElem?_replicate,Vp B]at z;obtain rfl:=Vx.1 z;have:=k.get i B;rw[Xv]at this;exact this
 .unfold KY;simp[List.countP_replicate]
theorem TC.draw0{P:Program}{h0 N:Nat}{id:Nat}{l:AA Oper}{env:Env}{H:Qb}{Q:QW}(m:Nat)(f:AA Nat)(xs:AA A)
  (p:P.follows .mixedOrders=true)(n:Go.Sw.draw0 l m N f=true)(h:Nat.beq xs.length m=true)(i:Nat.ble h0 H.length=true)
  (g:Oq P N l f xs env H 0 m)(j:WO P h0 N l.toArray (l.drop m) (FZ f xs env) H Q):TC P h0 N (.region id l.toArray true) env H Q:=by
 intro s k t U a w r hrd;refine Code.wpIn_mono (λe a w q=>D9.postW q) (zx m f xs p n h i g r hrd λro' σ' a' w' hr hev htk hdf=>?_);have d:=j s k ro' σ' a' w' hr (hrd.to hev λ_ q=>q);rw[hdf]at d;exact Yx (λe a w q=>q.step hev htk) _ _ _ d
section
variable {P:Program} {N:Nat} {l:AA Oper} {ds af bf:AA Nat} {xs:AA A} {env0 e r:Env} {H H':Qb} {i hB hE:Nat} {o:Oper} {d s:Nat} {x a:A}
theorem sN:Sb af bf ds xs env0 []:=.nil
theorem sD(j:Nat)(k:Sb af bf ds xs env0 r)(d:af.contains j=true:=by exact rfl)(h2:ds[j]?=some s:=by exact rfl)(h3:xs[j]?=some a:=by exact rfl):Sb af bf ds xs env0 ((s,a)::r):=.dep j d h2 h3 k
theorem sP(j:Nat)(k:Sb af bf ds xs env0 r)(d:bf.contains j=true:=by exact rfl)(h2:ds[j]?=some s:=by exact rfl)(h3:lk env0 s=a:=by exact rfl):Sb af bf ds xs env0 ((s,a)::r):=.pre j d h2 h3 k
theorem sO(s:Nat)(k:Sb af bf ds xs env0 r)(d:ds.contains s=false:=by exact rfl)(h2:lk env0 s=a:=by exact rfl):Sb af bf ds xs env0 ((s,a)::r):=.old d h2 k
theorem sK(H:Qb):J5 hB hE H H=true:=by
 unfold J5;refine Xt.2 λp _=>?_;cases LH H[hB+p]? <;>rfl
theorem Om(a:l[i]?=some o)(f:Sb (Qf o) (K8 l i) ds xs env0 e)(h:WO P H.length N l.toArray [o] e H (Y6 (up e d x) H))(g:o.dst=some d:=by exact rfl)(hx:xs[i]?=some x:=by exact rfl):JH P N l ds xs env0 hB hE i H H:=
 .mk o e d x a g hx (sK H) f h
theorem Om1(a:l[i]?=some o)(f:Sb (Qf o) (K8 l i) ds xs env0 e)(h:WO P H.length N l.toArray [o] e H (Y6 (up e d x) H'))(g:o.dst=some d:=by exact rfl)(hx:xs[i]?=some x:=by exact rfl)(hdd:J5 hB hE H H'=true:=by exact rfl):JH P N l ds xs env0 hB hE i H H':=
 .mk o e d x a g hx hdd f h
theorem lz(a:l[i]?=some o)(d:Sb (Qf o) (K8 l i) ds xs env0 e)(h:WO P H.length N l.toArray [o] e H (Y6 e H'))(f:o.dst=none:=by exact rfl)(hx:xs[i]?=some .any:=by exact rfl)(hdd:J5 hB hE H H'=true:=by exact rfl):JH P N l ds xs env0 hB hE i H H':=
 .unit o e a f hx hdd d h
end
end Go.Sw
