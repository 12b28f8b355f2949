/- The rules by which the code is walked, with what they rest on (part 2). -/
import Derived.Test.YtckiejaapddafaaGreatDoorL1
import Derived.Shelf.SlSortCmp.NoneTotal
import Derived.Below
import GoSem.ClaimChange
import Derived.Shelf.Strings.Search3
import Derived.Lib.LazyBuf
import Derived.Shelf.Sort.Plain
import Derived.Shelf.Slices.In.SortNone
import Derived.Shelf.Slices.CompactI
import Derived.RangeFuncIn
import Derived.RangeFuncSeq
import Derived.RangeFuncNested
import Derived.Lib.Bytealg
import Derived.Laws.Externs
import Derived.LaidLaws
import Derived.Lib.LaidTab
import Derived.ChangeArms
import Derived.ChangeSame
set_option linter.unusedVariables false
set_option linter.unusedSectionVars false
set_option linter.unusedSimpArgs false
namespace Go.Sw
def mk{α:Type}(n:Int)(z:α):Option (List α):=bif decide (0<=n)&&decide (n<=4294967296)then some (List.replicate n.toNat z)else none
theorem mk_ok{α:Type}{n:Int}{z:α}{l:List α}(h:mk n z=some l):0<=n/\n<=4294967296/\List.replicate n.toNat z=l:=by
 unfold mk at h;cases q:(decide (0<=n)&&decide (n<=4294967296))with
 |true=>rw[q]at h;simp at q;exact⟨q.1,q.2,X4 h⟩
 |false=>rw[q]at h;cases h
theorem Qgo{α:Type}[Inhabited α](zl:List α)(k:Nat)(hk:zl.length=k)(h0:0<k):∀n,(List.range (n*k)).map (λi=>zl.toArray[i%zl.toArray.size]!)=(List.replicate n zl).flatten
 |0=>by simp
 |n+1=>by
  rw[Xm,List.range_add,Xf,Qgo zl k hk h0 n,List.replicate_succ',Xt];congr 1;simp only[Vq,List.flatten_nil,Vk,List.map_map];apply List.ext_getElem
  .simp[hk]
  .intro i h1 h2;simp only[X6,Xw]at h1;simp only[List.getElem_map,List.getElem_range,Function.comp,List.size_toArray,hk];rw[Nat.mul_comm,Nat.mul_add_mod,Nat.mod_eq_of_lt h1];simp[hk,h1]
section
variable {P:Program} {o:Oper} {env:Env} {H:Qd} {ro:Nat->Prop} {σ:Sig} {w:World}
theorem LR.replicate{az:List A}{l:List Value}(h:LR ro σ w az l):∀n,LR ro σ w (List.replicate n az).flatten (List.replicate n l).flatten
 |0=>rfl
 |n+1=>by
  rw[Xl,Xl];exact h.append (LR.replicate h n)
theorem Qpi{α:Type}{e:α->List A}{T et k:Nat}{x y:Operand}{kx ky:IntKind}{n:Int}{zv:α}{l:List α}{z:Value}{a:A}(R:mk n zv=some l)(E:QV P T et k)(hz:∀w,(zeroValue et).run P w=.ok z w)(O:ZR a z)
  (hk:Yf a=true)(hc:Q9 a=e zv)(hp:(Q9 a).all Yt=true)(g:Nat.beq (e zv).length k=true)
  (ho:o.op=.makeSlice T x y:=by exact rfl)(hx:opA env x=.int kx n:=by exact rfl)(hy:opA env y=.int ky n:=by exact rfl):
  OpH P o env H (.osl H.length 0 l.length k) (H++[.row et k (l.map e)]):=by
 intro fr ro σ N act w r;obtain⟨n0,n1,hl⟩:=mk_ok R;have Y:=Qg r x;rw[hx]at Y;have h2:=Qg r y;rw[hy]at h2;have M:act.eval x=.int kx n:=Y;have V:act.eval y=.int ky n:=h2;obtain⟨i,hi,ai⟩:=E.bytes;obtain⟨d,c1,Q⟩:=(O ro [] w).cells hk;have p:d.length=k:=by
  rw[Q.length,hc];exact XU g
 have ag:(if n.toNat*k=0 then(#[]:Array Value)else d.toArray)=d.toArray\/n.toNat*k=0:=by
  by_cases q:n.toNat*k=0
  .exact .inr q
  .exact .inl (Vw q)
 have b:∀(ZZ:Array Value),(ZZ=d.toArray\/n.toNat*k=0)->(Array.range (n.toNat*k)).map (λj=>ZZ[j%ZZ.size]!)=((List.replicate n.toNat d).flatten).toArray:=by
  intro ZZ hZ;by_cases q:n.toNat*k=0
  .rw[q];have:(List.replicate n.toNat d).flatten=[]:=by
    apply VN.1;simp[p,q]
   rw[this];simp
  .obtain rfl:ZZ=d.toArray:=hZ.resolve_right q;have ae:0<k:=by
    rcases Nat.eq_zero_or_pos k with h|h
    .rw[h,Nat.mul_zero]at q;exact absurd rfl q
    .exact h
   rw[<- Qgo d k p ae n.toNat];simp[XM, <- List.toArray_range]
 have s:=Q.replicate n.toNat;have ac:allK k (List.replicate n.toNat (e zv)):=by
  have:∀m,allK k (List.replicate m (e zv)):=by
   intro m
   induction m with
   |zero=>trivial
   |succ m ih=>exact⟨XU g,ih⟩
  exact this _
 have f:∀v∈(List.replicate n.toNat d).flatten,Qq v:=by
  intro v J;obtain⟨m,R,J⟩:=List.mem_flatten.1 J;rw[List.eq_of_mem_replicate R]at J;exact Q.plain hp v J
 rw[hc]at s;have hs:=r.sim.allocRow (t:=et) (rest:=[]) ac s f;rw[Vk]at hs;have u:l.map e=List.replicate n.toNat (e zv):=by rw[<- hl,List.map_replicate]
 have F:l.length=n.toNat:=by rw[<- hl];simp
 have af:(w.alloc (.cells ((List.replicate n.toNat d).flatten).toArray et)).shape? w.heap.size=some (et,n.toNat*k):=by
  unfold World.shape?;rw[Yg];simp[p]
 refine⟨.slice (some ⟨w.heap.size,0,none⟩) n.toNat n.toNat,w.alloc (.cells ((List.replicate n.toNat d).flatten).toArray et),ro,[some w.heap.size],?_,?_,u▸hs,Qh.alloc _ r.sim.roLt r.sim.frLt⟩
 .have hw:IntKind.i64.wrap n=n:=by
   unfold IntKind.wrap;simp[IntKind.bits,IntKind.signed];omega
  have aa:∀(x:Nat) (W:World),(askRoom x).run P W=.ok () W:=by
   intro x W;unfold askRoom;split<;>rfl
  have B:∀(c:Array Value) (W:World),(newRow et c).run P W=.ok ⟨W.heap.size,0,none⟩ (W.alloc (.cells c et)):=λc W=>rfl;have ab:¬(n<0):=by omega
  have X:¬((i.bytes:Int)*n>2^48):=by
   have Y:(i.bytes:Int)*n<=4096*4294967296:=Int.mul_le_mul (by omega) n1 n0 (by omega);omega
  have G:(Instr.makeSlice T (.int kx n) (.int ky n)).run P w=.ok (.slice (some ⟨w.heap.size,0,none⟩) n.toNat n.toNat) (w.alloc (.cells ((List.replicate n.toNat d).flatten).toArray et)):=by
   have ah:¬(n>n):=by omega
   have L:∀(k:IntKind) (m:Int) (W:World),(asInt (.int k m)).run P W=.ok m W:=λk m W=>rfl;unfold Instr.makeSlice;simp only[Vr,E.sl,E.size,hi,Result.andThen,L,Vs,hw,aa,XL];rw[Vw (by simp[ab,X];omega)];by_cases q:n.toNat*k=0
   .simp only[q,if_true,Vs];have:=b #[] (.inr q);rw[q]at this;simp only[this,B]
   .simp only[q,if_false,hz,Vs,c1,b d.toArray (.inl rfl),B]
  generalize act.eval=ρ at*;simp only[execOp,ho,M,V,Vr,G,Result.andThen];rfl
 .right;refine⟨w.heap.size,0,n.toNat,et,n.toNat*k,?_,by rw[F],λ_=>by simp,by rw[F];exact XX _,af,by simp⟩;rw[<- r.sim.len];simp
end
end Go.Sw
namespace Go.Sw
open Go.Sort Go.Proofs Go.Shelf
section
variable {α:Type}
def ins(lt:α->α->Bool)(x:α):List α->List α
 |[]=>[x]
 |y::l=>bif lt y x then y::ins lt x l else x::y::l
def Ya(lt:α->α->Bool):List α->List α
 |[]=>[]
 |x::l=>ins lt x (Ya lt l)
theorem Qfg(lt:α->α->Bool)(x:α):∀l,(ins lt x l).Perm (x::l)
 |[]=>.refl _
 |y::l=>by
  unfold ins;cases lt y x
  .exact .refl _
  .exact((Qfg lt x l).cons y).trans (List.Perm.swap _ _ _)
theorem Ql(lt:α->α->Bool):∀l,(Ya lt l).Perm l
 |[]=>.refl _
 |x::l=>(Qfg lt x _).trans ((Ql lt l).cons x)
structure Qei (lt:α->α->Bool) (l:List α):Prop where
 irrefl:∀x∈l,lt x x=false
 trans:∀x∈l,∀y∈l,∀z∈l,lt x y=true->lt y z=true->lt x z=true
 ntrans:∀x∈l,∀y∈l,∀z∈l,lt x y=false->lt y z=false->lt x z=false
theorem Qei.mono{lt:α->α->Bool}{l m:List α}(h:Qei lt l)(hm:∀x∈m,x∈l):Qei lt m:=
 ⟨λx hx=>h.irrefl x (hm x hx),λx hx y hy z hz=>h.trans x (hm x hx) y (hm y hy) z (hm z hz),λx hx y hy z hz=>h.ntrans x (hm x hx) y (hm y hy) z (hm z hz)⟩
theorem Qei.asymm{lt:α->α->Bool}{l:List α}(h:Qei lt l){x y:α}(a:x∈l)(d:y∈l)(b:lt x y=true):lt y x=false:=by
 cases q:lt y x
 .rfl
 .rw[<- h.irrefl x a,h.trans x a y d x a b q]
theorem Qff{lt:α->α->Bool}{x:α}:∀{l:List α},Qei lt (x::l)->l.Pairwise (λa b=>lt b a=false)->(ins lt x l).Pairwise (λa b=>lt b a=false)
 |[],_,_=>by simp[ins]
 |y::l,h,hp=>by
  obtain⟨h1,h2⟩:=Xc.1 hp;unfold ins;cases q:lt y x
  .refine Xc.2 ⟨λz hz=>?_,hp⟩;rcases Va.1 hz with rfl|hz
   .exact q
   .exact h.ntrans z (by simp[hz]) y (by simp) x (by simp) (h1 z hz) q
  .refine Xc.2 ⟨λz hz=>?_,Qff (h.mono (by intro z hz;rcases Va.1 hz with rfl|hz<;>simp[*])) h2⟩;rcases Va.1 ((Qfg lt x l).mem_iff.1 hz)with rfl|hz
   .exact h.asymm (by simp) (by simp) q
   .exact h1 z hz
theorem QP{lt:α->α->Bool}:∀{l:List α},Qei lt l->(Ya lt l).Pairwise (λa b=>lt b a=false)
 |[],_=>by simp[Ya]
 |x::l,h=>Qff (h.mono (by
   intro z hz;rcases Va.1 hz with rfl|hz
   .simp
   .exact X9 _ ((Ql lt l).mem_iff.1 hz))) (QP (h.mono λz hz=>X9 _ hz))
theorem Jp{lt:α->α->Bool}:∀{l m:List α},l.Perm m->(∀x∈l,∀y∈l,lt x y=false->lt y x=false->x=y)->l.Pairwise (λa b=>lt b a=false)->m.Pairwise (λa b=>lt b a=false)->l=m
 |[],m,h,_,_,_=>by rw[List.nil_perm.1 h]
 |x::l,[],h,_,_,_=>by have:=h.length_eq;simp at this
 |x::l,y::m,h,ha,hl,hm=>by
  obtain⟨l1,l2⟩:=Xc.1 hl;obtain⟨m1,m2⟩:=Xc.1 hm;have hy:y∈x::l:=h.mem_iff.2 (by simp);have hx:x∈y::m:=h.mem_iff.1 (by simp);have hxy:x=y:=by
   rcases Va.1 hy with e|d
   .exact e.symm
   .rcases Va.1 hx with e|f
    .exact e
    .exact ha x (by simp) y (by simp[d]) (m1 x f) (l1 y d)
  subst hxy;rw[Jp ((List.perm_cons x).1 h) (λa g b i=>ha a (by simp[g]) b (by simp[i])) l2 m2]
def ltO(cf:α->α->Option Int)(x y:α):Bool:=match cf x y with
 |some c=>decide (c<0)
 |none=>false
def Qi2[DecidableEq α](cf:α->α->Option Int)(l:List α):Bool:=
 l.all λx=> !ltO cf x x&&l.all λy=>(cf x y).isSome&&(ltO cf x y||ltO cf y x||decide (x=y))&&l.all λz=>(!ltO cf x y|| !ltO cf y z||ltO cf x z)&&(ltO cf x y||ltO cf y z|| !ltO cf x z)
def QbO[DecidableEq α](cf:α->α->Option Int)(l:List α):Option (List α):=bif Nat.ble l.length Qy&&Qi2 cf l then some (Ya (ltO cf) l)else none
theorem QcT[DecidableEq α]{cf:α->α->Option Int}{l l':List α}(h:QbO cf l=some l'):
  l.length<=Qy/\(∀x∈l,∀y∈l,∃c,cf x y=some c)/\Qei (ltO cf) l/\(∀x∈l,∀y∈l,ltO cf x y=false->ltO cf y x=false->x=y)/\Ya (ltO cf) l=l':=by
 unfold QbO at h;cases i:Nat.ble l.length Qy with
 |false=>rw[i]at h;cases h
 |true=>
 rw[i,VE]at h;cases q:Qi2 cf l with
 |false=>rw[q]at h;cases h
 |true=>
  rw[q]at h;refine⟨XV i,?_⟩;unfold Qi2 at q;simp only[Xu,X0,Bool.not_eq_true',Bool.or_eq_true,Vv]at q;refine⟨λx b y d=>Option.isSome_iff_exists.1 ((q x b).2 y d).1.1,⟨λx b=>(q x b).1,λx b y d z g e f=>?_,λx b y d z g e f=>?_⟩,λx b y d e f=>?_,X4 h⟩
  .rcases(((q x b).2 y d).2 z g).1 with(a|a)|a
   .rw[e]at a;cases a
   .rw[f]at a;cases a
   .exact a
  .rcases(((q x b).2 y d).2 z g).2 with(a|a)|a
   .rw[e]at a;cases a
   .rw[f]at a;cases a
   .exact a
  .rcases((q x b).2 y d).1.2 with(a|a)|a
   .rw[e]at a;cases a
   .rw[f]at a;cases a
   .exact a
theorem QmB[DecidableEq α]{cf:α->α->Option Int}{l:List α}(h:l.length<=Qy)(c:α->α->Int)(m:∀x∈l,∀y∈l,cf x y=some (c x y))(hi:∀x∈l,¬c x x<0)
  (n:∀x∈l,∀y∈l,∀z∈l,c x y<0->c y z<0->c x z<0)(r:∀x∈l,∀y∈l,∀z∈l,¬c x y<0->¬c y z<0->¬c x z<0)(p:∀x∈l,∀y∈l,¬c x y<0->¬c y x<0->x=y):
  QbO cf l=some (Ya (ltO cf) l):=by
 have g:∀x∈l,∀y∈l,ltO cf x y=decide (c x y<0):=λx e y f=>by unfold ltO;rw[m x e y f]
 have q:Qi2 cf l=true:=by
  unfold Qi2;simp only[Xu,X0,Bool.not_eq_true',Bool.or_eq_true,Vv];intro x e;refine⟨by rw[g x e x e];simpa using hi x e,λy f=>⟨⟨by rw[m x e y f];rfl,?_⟩,λz i=>?_⟩⟩
  .rw[g x e y f,g y f x e];by_cases j:c x y<0
   .simp[j]
   .by_cases k:c y x<0
    .simp[k]
    .exact .inr (p x e y f j k)
  .rw[g x e y f,g y f z i,g x e z i];have j:=n x e y f z i;have k:=r x e y f z i;by_cases a:c x y<0<;>by_cases b:c y z<0<;>by_cases d:c x z<0<;>simp_all
 unfold QbO;rw[q,XW h];rfl
theorem QaG[DecidableEq α]{cf:α->α->Option Int}{l l':List α}(h:QbO cf l=some l'):l.length=l'.length:=by
 rw[<- (QcT h).2.2.2.2];exact(Ql _ _).length_eq.symm
theorem YC{l l':List α}{i:Int}{x:α}(h:QbL l i x=some l'):l.length=l'.length:=by
 unfold QbL at h;cases q:(decide (0<=i)&&decide (i<(l.length:Int)))with
 |true=>rw[q]at h;rw[<- X4 h];simp
 |false=>rw[q]at h;cases h
theorem Qo{h0:Nat}{env:Env}{H:Qd}{s:Nat}{a a':A}(h:lk env s=a)(e:a=a'):Le h0 env H (up env s a') H:=by
 intro f d σ N act w r;refine⟨d,σ,⟨r.sim,λb=>?_,r.size,r.defers⟩,λ_ q=>q,rfl⟩;subst e;have:lk (up env s a) b=lk env b:=by
  simp only[lk];cases q:Nat.beq b s with
  |true=>rw[XU q,h];rfl
  |false=>rfl
 rw[this];exact r.env b
end
section
variable {fr ro:Nat->Prop} {σ:Sig} {H:Qd} {w w':World}
theorem Qed(hh:∀b,b<w.heap.size->w'.heap[b]?=w.heap[b]?)(hro:∀b,ro b->b<w.heap.size)(σ:Sig):Ext ro σ w ro σ w':=
 ⟨λ_ q=>q,λb hb=>hh b (hro b hb),λb x hx=>by unfold World.shape? at hx⊢;rw[hh b (QbP hx)];exact hx,λ_ _ q=>q⟩
theorem Sim.grown(s:Sim fr ro σ H w)(a:∀b,b<w.heap.size->w'.heap[b]?=w.heap[b]?)(g:w.heap.size<=w'.heap.size):Sim fr ro σ H w':=by
 refine⟨s.len,s.roOk.to (λ_ q=>q) (λb q=>a b (s.roLt b q)) (λb h=>Vj (s.roLt b h) g),λb h=>Vj (s.frLt b h) g,s.roFr,λi b x f e n=>?_,s.inj,λi y x f e=>?_,s.hidTo (· = ·) QZ g (λ_ _ _ _ _ _ _ q=>q) (λ_ _ _ _ _ _ _ q=>q) λj d y m k r=>.inl ⟨j,y,rfl,m,k,id,λc q=>s.hidKeep m k (λz=>a d (s.own j d y m k z).1) (λb q=>a b (s.roLt b q)) q⟩⟩
 .obtain⟨p,q⟩:=s.own i b x f e n;exact⟨Vj p g,q⟩
 .refine(s.blk i y x f e).keep (Qed a s.roLt σ) ?_ ?_
  .rintro b rfl l;exact a b (s.own i b x f e l).1
  .rintro b c rfl l;exact a c (s.hid i b x c f e l).lt
theorem Qh.grown(hh:∀b,b<w.heap.size->w'.heap[b]?=w.heap[b]?)(hs:w.heap.size<=w'.heap.size)(s:Sim fr ro σ H w)(ho:w'.os=w.os)(ht:w'.tape=w.tape)(hu:w'.output=w.output)(hd:w.drawn<=w'.drawn):Qh fr ro w ro w':=
 ⟨λ_ q=>q,λb h=>hh b (s.roLt b h),λb h=>hh b (s.frLt b h),hs,(Qed hh s.roLt σ).shape,ho,ht,hu,hd⟩
theorem QkT(g:∀b,b<w.heap.size->w'.heap[b]?=w.heap[b]?)(l:w.heap.size<=w'.heap.size)(f:w'.os=w.os)(e:w'.tape=w.tape)(h:w'.output=w.output)(n:w.drawn<=w'.drawn):
  ∃q os',w'=grow (w.drewN q) os':=by
 refine⟨w'.drawn-w.drawn,w'.heap.extract w.heap.size w'.heap.size,?_⟩;obtain⟨a,r,d,t,s⟩:=w';simp only at g l f e h n;subst f e h;unfold grow World.drewN;have p:a=w.heap++a.extract w.heap.size a.size:=by
  apply Array.ext_getElem?;intro i;rw[Array.getElem?_append];split
  .rename_i j;exact g i j
  .rename_i j;rw[Array.getElem?_extract];split
   .rename_i k;congr 1;omega
   .rename_i k;rw[Array.getElem?_eq_none];omega
 have m:d=w.drawn+(d-w.drawn):=by omega
 rw[<- p, <- m]
end
end Go.Sw
namespace Go.Sw
open Go.Sort Go.Proofs Go.Shelf
theorem Qeb{α:Type}{k:Nat}:∀(vs:List (List α)) (j:Nat),(∀v∈vs,v.length=k)->j<vs.length*k->vs.flatten[j]?=(vs[j/k]?).bind λv=>v[j%k]?
 |[],j,_,h=>by simp at h
 |v::vs,j,hk,h=>by
  have hv:=hk v (by simp);have k0:0<k:=by
   rcases Nat.eq_zero_or_pos k with q|q
   .subst q;simp at h
   .exact q
  rw[Vq];by_cases q:j<k
  .rw[XQ (by omega),Nat.div_eq_of_lt q,Nat.mod_eq_of_lt q];simp
  .rw[XR (by omega),hv,Qeb vs (j-k) (λv hv=>hk v (by simp[hv])) (by simp[Xm]at h;omega)];have b:j/k=(j-k)/k+1:=by rw[Nat.div_eq_sub_div k0 (by omega)]
   have a:j%k=(j-k)%k:=Nat.mod_eq_sub_mod (by omega);rw[b,a,XJ]
theorem Qao{α:Type}{k:Nat}:∀(vs:List (List α)),(∀v∈vs,v.length=k)->vs.flatten.length=vs.length*k
 |[],_=>by simp
 |v::vs,h=>by rw[Vq,X7,Qao vs (λv hv=>h v (by simp[hv])),h v (by simp),X5,Xm];omega
theorem Qac{α:Type}(F:List α)(j:Nat):F.toArray[j]?=F[j]? :=by simp
theorem Qfj{α:Type}[Inhabited α](F:List α)(j:Nat)(h:j<F.length):F[j]?=some (F.toArray[j]!):=by simp[h]
theorem QiD{β:Type}[Inhabited β]{enc:β->List Value}{k:Nat}(b:∀x,(enc x).length=k)(d:Array β):flatK enc k d=((d.toList.map enc).flatten).toArray:=by
 have a:∀v∈d.toList.map enc,v.length=k:=by
  intro v g;obtain⟨x,_,rfl⟩:=Xe.1 g;exact b x
 apply Array.ext_getElem?;intro t;rw[Qac ((d.toList.map enc).flatten) t];by_cases h:t<d.size*k
 .rw[Qeb _ t a (by simpa using h)];have l:0<k:=by
   rcases Nat.eq_zero_or_pos k with q|q
   .subst q;simp at h
   .exact q
  have j:t/k<d.size:=Nat.div_lt_of_lt_mul (by rw[Nat.mul_comm];exact h);have i:t%k<k:=Nat.mod_lt _ l;have f:t<(flatK enc k d).size:=by simpa using h
  have e:=get_flatK enc k d t h;rw[getElem!_pos (flatK enc k d) t f]at e;rw[Array.getElem?_eq_getElem f,e];simp[j];rw[XO (by rw[b];exact i)];rfl
 .have e:(d.toList.map enc).flatten.length=d.size*k:=by rw[Qao _ a];simp
  rw[Array.getElem?_eq_none (by simpa using h),XS (by rw[e];omega)]
section
variable {ro:Nat->Prop} {σ:Sig} {w:World} {T:Type} {enc:T->List A} {k:Nat}
theorem RL.parts:∀{l:List T} {lv:List Value},RL ro σ w k (l.map enc) lv->
  ∃(ps:List (T×List Value)) (rest:List Value),ps.map (·.1)=l/\lv=(ps.map (·.2)).flatten++rest/\ ∀p∈ps,p.2.length=k/\LR ro σ w (enc p.1) p.2/\ ∀v∈p.2,Qq v
 |[],lv,_=>⟨[],lv,rfl,rfl,by simp⟩
 |x::l,lv,h=>by
  obtain⟨l1,l2,rfl,h1,⟨h2,h3⟩,h4⟩:=h;obtain⟨ps,rest,e1,rfl,h5⟩:=RL.parts (l:=l) h4;refine⟨(x,l1)::ps,rest,by simp[e1],by simp,?_⟩;intro p hp;rcases Va.1 hp with rfl|hp
  .exact⟨by rw[h2.length];exact h1,h2,h3⟩
  .exact h5 p hp
theorem Qb6(hk:∀x:T,(enc x).length=k):∀{ps:List (T×List Value)} {rest:List Value},(∀p∈ps,LR ro σ w (enc p.1) p.2/\ ∀v∈p.2,Qq v)->RL ro σ w k ((ps.map (·.1)).map enc) ((ps.map (·.2)).flatten++rest)
 |[],_,_=>trivial
 |p::ps,rest,h=>by
  refine⟨p.2,(ps.map (·.2)).flatten++rest,by simp,hk _,h p (by simp),Qb6 hk λq hq=>h q (by simp[hq])⟩
end
structure Elt (ro:Nat->Prop) (w:World) {T:Type} (enc:T->List A) (k:Nat) (l:List T) where
 x:T
 vs:List Value
 mem:x∈l
 len:vs.length=k
 rel:LR ro [] w (enc x) vs
 plain:∀v∈vs,Qq v
theorem Qgp{v:Value}(h:Qq v):v.oneCell'=true:=by cases v<;>first|rfl|exact h.elim
theorem Qpm{P:Program}{ρ:Ren}(L:SlLaysF0.n6 P ρ){T:Type}[DecidableEq T]{enc:T->List A}{k t g:Nat}{cap:List A}{l l':List T}{cf:T->T->Option Int}(hs:QbO cf l=some l')
  (a6:∀x y c,cf x y=some c->C P g ([.agg (enc x),.agg (enc y)]++cap) [] (λa H=>a=.int .i64 c/\H=[]))
  (aE:∀w,(isAgg (ρ.t 24)).run P w=.ok true w)(zE:∀w,(Go.sizeOf (ρ.t 24)).run P w=.ok k w)(eg:∀args w,(callFunc g args).run P w=.ok (.enter g args) w)
  (hk:∀x,(enc x).length=k)(hd:Yn cap=true):
  C P (ρ.f 6) [.osl 0 0 l.length k,.fn (.func g) [] cap] [.row t k (l.map enc)] (λa H=>a=.tup []/\H=[.row t k (l'.map enc)]):=by
 intro fr G σ vals w s hv;obtain⟨vs,r1,rfl,bj,vf,r2,rfl,bd,hr⟩:=hv;cases(show r2=[]from hr);obtain⟨lf,lc,rfl,h1,a2⟩:=bd;cases(show lf=[]from h1);have ao:LR G [] w cap lc:=LR.data hd a2;obtain⟨bc,ai,M,aw,a9⟩:=QcT hs;have E:∀(ad:Option Addr) (c:Nat),vs=.slice ad 0 c->l=[]->
   Calls P (ρ.f 6) [vs,.func (.func g) #[] lc.toArray].toArray w λe w'=>∃v r H' ag τ,e=.returned v/\(r=.tup []/\H'=[.row t k (l'.map enc)])/\Sim fr ag (σ++τ) H' w'/\VR ag (σ++τ) w' r v/\Qh fr G w ag w':=by
  rintro ad c rfl rfl;have ae:l'=[]:=by rw[<- a9];rfl
  subst ae;refine(AnyF.slices_SortFunc_none L ad c (.func (.func g) #[] lc.toArray) w).mono ?_;rintro e w' ⟨rfl,rfl⟩;exact⟨_,_,_,G,[],rfl,⟨rfl,rfl⟩,by simpa using s,⟨[],rfl,rfl⟩,Qh.refl _ _ _⟩
 rcases bj with⟨h0,rfl⟩|⟨b,p,cp,t',m,q1,rfl,q2,q3,q4,q5⟩
 .exact E none 0 rfl (VN.1 h0)
 .by_cases ae:l=[]
  .subst ae;exact E _ cp rfl rfl
  .have bp:0<l.length:=List.length_pos_iff.2 ae;obtain rfl:=q2 (Vj bp q3);obtain⟨lv,e1,e2⟩:=s.blk 0 _ _ q1 rfl;obtain⟨hb,ak,bb⟩:=s.own 0 b _ q1 rfl rfl;obtain⟨V,J,a0,rfl,ac⟩:=RL.parts e2
   let α:=Elt G w enc k l
   have a4:∀p∈V,p.1∈l:=λp hp=>by rw[<- a0];exact VK hp
   let ds:List α:=V.attach.map λp=>⟨p.1.1,p.1.2,a4 _ p.2,(ac _ p.2).1,(ac _ p.2).2.1,(ac _ p.2).2.2⟩
   have a1:∀{γ:Type} (f:T×List Value->γ),V.attach.map (λp=>f p.1)=V.map f:=λf=>by simp
   have Q:ds.map (·.x)=l:=by
    show(V.attach.map _).map _=_;rw[List.map_map];exact(a1 (·.1)).trans a0
   have aj:ds.map (·.vs)=V.map (·.2):=by
    show(V.attach.map _).map _=_;rw[List.map_map];exact a1 (·.2)
   have an:ds.length=l.length:=by rw[<- Q];simp
   have a7:ds≠[]:=by intro q;rw[q]at an;simp at an;omega
   let inh:Inhabited α:=⟨ds.head a7⟩
   let enc':α->List Value:=λa=>a.vs
   let cf':α->α->Int:=λx y=>(cf x.x y.x).getD 0
   have af:∀x y:α,ltOf cf' x y=ltO cf x.x y.x:=by
    intro x y;obtain⟨c,B⟩:=ai x.x x.mem y.x y.mem;simp only[ltOf,ltO,cf',B,Option.getD_some]
   have hO:SWO (ltOf cf'):=⟨λx=>by rw[af];exact M.irrefl _ x.mem,λx y z a b=>by rw[af]at*;exact M.trans _ x.mem _ y.mem _ z.mem a b,
    λx y z a b=>by rw[af]at*;exact M.ntrans _ x.mem _ y.mem _ z.mem a b⟩
   have aa:∀x:α,(enc' x).length=k:=λx=>x.len;have av:flatK enc' k ds.toArray=((V.map (·.2)).flatten).toArray:=by
    rw[QiD aa];show((ds.map λa=>a.vs).flatten).toArray=_;rw[aj]
   have bq:∀v∈V.map (·.2),v.length=k:=by
    intro v hv;obtain⟨p,hp,rfl⟩:=Xe.1 hv;exact(ac p hp).1
   have X:(V.map (·.2)).flatten.length=ds.length*k:=by rw[Qao _ bq, <- aj];simp
   have hH:HoldsK enc' k w b (0*k) ds.toArray:=by
    intro j hj;rw[av]at hj⊢;simp only[List.size_toArray]at hj;constructor
    .unfold World.cell?;simp only[e1,Option.isSome_none,Xi,if_false,Nat.zero_mul,Xy];rw[Qac,XQ hj];exact Qfj _ _ hj
    .unfold World.frozen?;simp only[e1];simp
   have au:∀(d:Array α),d.size=ds.toArray.size->(putRowK enc' k w b (0*k) d).heap=w.heap.setIfInBounds b (.cells (((d.toList.map enc').flatten++J)).toArray t (0,0)):=by
    intro d u;have ah:(d.toList.map enc').flatten.length=(V.map (·.2)).flatten.length:=by
     rw[Qao _ (k:=k) (by intro v hv;obtain⟨x,_,rfl⟩:=Xe.1 hv;exact aa x),X];simp at u⊢;rw[u]
    unfold putRowK putRow mapBlock;show w.heap.modify b _=_;rw[Qbf e1];simp only[onCells];congr 2;rw[QiD aa];unfold putCells;apply Array.ext_getElem?;intro i;simp only[Array.getElem?_mapIdx,Qac,Nat.zero_mul,XY,true_and,Xy,Xx,List.size_toArray,id_eq];by_cases hi:i<(d.toList.map enc').flatten.length
    .rw[XQ hi,XQ (by rw[<- ah];exact hi),XO (by rw[<- ah];exact hi),Qfj _ _ hi];exact congrArg some (Vx hi)
    .rw[XR (by omega),XR (by omega),ah];cases(J[i-(V.map (·.2)).flatten.length]?)with
     |none=>rfl
     |some v=>
      rw[<- ah];exact congrArg some (Vw hi)
   have N:∀(m:Nat) (os:Array Obj) (d:Array α),d.size=ds.toArray.size->
     (∀c,c<w.heap.size->c≠b->(sortWorldK enc' k w b (0*k) m d os).heap[c]?=w.heap[c]?)/\(sortWorldK enc' k w b (0*k) m d os).heap[b]?=some (.cells (((d.toList.map enc').flatten++J)).toArray t (0,0))/\
     w.heap.size<=(sortWorldK enc' k w b (0*k) m d os).heap.size:=by
    intro m os d u;have e:(sortWorldK enc' k w b (0*k) m d os).heap=w.heap.setIfInBounds b (.cells (((d.toList.map enc').flatten++J)).toArray t (0,0))++os:=by
     rw[<- au d u];rfl
    rw[e];refine⟨λc B bn=>?_,?_,by simp⟩
    .rw[Array.getElem?_append_left (by simpa using B),Vi,Vw (λq=>bn q.symm)]
    .rw[Array.getElem?_append_left (by simpa using hb),Vi,Vx rfl,Vx hb]
   have R:∀(m:Nat) (os:Array Obj) (d:Array α),d.size=ds.toArray.size->∀c y,w.shape? c=some y->(sortWorldK enc' k w b (0*k) m d os).shape? c=some y:=by
    intro m os d u c y hy;obtain⟨g1,g2,g3⟩:=N m os d u;by_cases B:c=b
    .subst B;unfold World.shape? at hy⊢;rw[e1]at hy;rw[g2];simp only[Option.some.injEq]at hy⊢;rw[<- hy];congr 1;simp only[List.size_toArray,X7];rw[Qao _ (k:=k) (by intro v hv;obtain⟨x,_,rfl⟩:=Xe.1 hv;exact aa x),X];simp at u⊢;rw[u]
    .unfold World.shape? at hy⊢;rw[g1 c (QbP hy) B];exact hy
   have al:∀(m:Nat) (os:Array Obj) (d:Array α),d.size=ds.toArray.size->∀τ,Ext G τ w G τ (sortWorldK enc' k w b (0*k) m d os):=by
    intro m os d u τ;obtain⟨g1,g2,g3⟩:=N m os d u;exact⟨λ_ q=>q,λc B=>g1 c (s.roLt c B) (λq=>ak (q▸B)),R m os d u,λ_ _ q=>q⟩
   have bo:CmpLays P g lc.toArray enc' k cf' b (0*k) ds.toArray.size w:=by
    intro m os dk a3 x y;obtain⟨c,B⟩:=ai x.x x.mem y.x y.mem;have F:=al m os dk a3 [];have bh:=a6 _ _ _ B;generalize hW:sortWorldK enc' k w b (0*k) m dk os=W at*;have be:w.heap.size<=W.heap.size:=by rw[<- hW];exact(N m os dk a3).2.2
    have sW:Sim (λc=>c<W.heap.size/\ ¬G c) G [] [] W:=
     ⟨rfl,s.roOk.to (λ_ q=>q) F.keep (λc B=>Vj (s.roLt c B) be),λc B=>B.1,λc B hf=>hf.2 B,λi b x h=>by simp at h,λi j b x y h=>by simp at h,λi y x h=>by simp at h,λi b x c h=>by simp at h⟩
    have aq:LR G [] W ([.agg (enc x.x),.agg (enc y.x)]++cap) ([.agg x.vs.toArray,.agg y.vs.toArray]++lc):=
     LR.append (show LR G [] W [A.agg (enc x.x),A.agg (enc y.x)] [Value.agg x.vs.toArray,Value.agg y.vs.toArray]from⟨_,_,rfl,⟨x.vs,rfl,x.rel.mono F⟩,_,_,rfl,⟨y.vs,rfl,y.rel.mono F⟩,rfl⟩) (ao.mono F)
    have O:=bh _ G [] _ W sW aq;have bi:(([Value.agg x.vs.toArray,Value.agg y.vs.toArray]++lc).toArray:Array Value)= #[Value.agg (enc' x).toArray,Value.agg (enc' y).toArray]++lc.toArray:=by simp[enc']
    rw[bi]at O;refine O.mono ?_;rintro e w' ⟨v,r,H',ag,τ,rfl,⟨rfl,rfl⟩,s',bm,ev⟩;refine⟨?_,?_⟩
    .rw[show v=.int .i64 c from bm];simp only[cf',B,Option.getD_some]
    .refine QkT (λc B=>?_) ev.size ev.os ev.tape ev.output ev.drawn;by_cases a5:G c
     .exact ev.keepRo c a5
     .exact ev.keepFr c ⟨B,a5⟩
   have ab:ds.toArray.size=l.length:=by simpa using an
   have am:=AnyQ.slices_SortFunc L k aE zE enc' aa (λx v hv=>Qgp (x.plain v hv)) cf' hO g lc.toArray b (0*k) cp ds.toArray w eg bo hH hb (by rw[ab];unfold Qy at bc;omega);rw[ab]at am;refine am.mono ?_;rintro e w' ⟨rfl,d,n,os,Y,ay,rfl⟩;have u:d.size=ds.toArray.size:=Y.1;obtain⟨g1,g2,g3⟩:=N n os d u;have ar:d.toList.Perm ds:=by
    have h:=Y.2.2;have x1:d.extract 0 l.length=d:=by rw[<- ab, <- u];exact Array.extract_size
    have x2:ds.toArray.extract 0 l.length=ds.toArray:=by rw[<- ab];exact Array.extract_size
    rw[x1,x2]at h;simpa using h
   have a8:d.toList.map (·.x)=l':=by
    rw[<- a9];refine Jp (lt:=ltO cf) ?_ ?_ ?_ (QP M)
    .exact((ar.map (·.x)).trans (by rw[Q])).trans (Ql _ _).symm
    .intro x hx y hy;have bl:x∈l:=by rw[<- Q];exact(ar.map (·.x)).mem_iff.1 hx
     have bg:y∈l:=by rw[<- Q];exact(ar.map (·.x)).mem_iff.1 hy
     exact aw x bl y bg
    .rw[VI];intro i j hi hj bk;simp only[X6]at hi hj;simp only[List.getElem_map];rw[<- af];have:=ay i j (XY _) bk (by rw[<- ab, <- u];simpa using hj);rw[getElem!_pos d j (by simpa using hj),getElem!_pos d i (by simpa using hi)]at this;simpa using this
   have bf:RL G [] (sortWorldK enc' k w b (0*k) n d os) k (l'.map enc) ((d.toList.map enc').flatten++J):=by
    have e3:d.toList.map enc'=(d.toList.map λa=>(a.x,a.vs)).map (·.2):=by simp[enc']
    have e4:l'=(d.toList.map λa=>(a.x,a.vs)).map (·.1):=by rw[<- a8];simp
    rw[e3,e4];refine Qb6 hk ?_;intro p hp;obtain⟨a,_,rfl⟩:=Xe.1 hp;exact⟨a.rel.mono (al n os d u []),a.plain⟩
   have az:Qh fr G w G (sortWorldK enc' k w b (0*k) n d os):=
    ⟨λ_ q=>q,λc B=>g1 c (s.roLt c B) (λq=>ak (q▸B)),λc B=>g1 c (s.frLt c B) (λq=>bb (q▸B)),g3,R n os d u,rfl,rfl,rfl,Nat.le_add_right _ _⟩
   have ax:σ.length=1:=s.len;have ba:Sim fr G σ [.row t k (l'.map enc)] (sortWorldK enc' k w b (0*k) n d os):=by
    have i0:∀{i:Nat} {x:Blk},([.row t k (l'.map enc)]:Qd)[i]?=some x->i=0/\x=.row t k (l'.map enc):=by
     intro i x h;cases i with
     |zero=>simp at h;exact⟨rfl,h.symm⟩
     |succ i=>simp at h
    refine⟨ax,s.roOk.to (λ_ q=>q) az.keepRo (λc B=>Vj (s.roLt c B) g3),λc B=>Vj (s.frLt c B) g3,s.roFr,λi c x h1 h2 h3=>?_,λi j c x y h1 h2 h3 h4 _ _=>?_,λi y x h1 h2=>?_,λi b x c h1 h2 h3=>by obtain⟨rfl,rfl⟩:=i0 h2;exact h3.elim⟩
    .obtain⟨rfl,rfl⟩:=i0 h2;obtain⟨p1,p2⟩:=s.own 0 c _ h1 rfl rfl;exact⟨Vj p1 g3,p2⟩
    .rw[(i0 h3).1,(i0 h4).1]
    .obtain⟨rfl,rfl⟩:=i0 h2;rw[q1]at h1;cases h1;exact⟨_,g2,bf⟩
   exact⟨_,_,_,G,[],rfl,⟨rfl,rfl⟩,by simpa using ba,⟨[],rfl,rfl⟩,az⟩
end Go.Sw
namespace Go.Sw
section
variable {P:Program} {o:Oper} {env:Env} {H:Qd} {fr ro:Nat->Prop} {σ:Sig} {w:World}
theorem Sim.addRo(s:Sim fr ro σ H w){b:Nat}(p:b<w.heap.size)(t:¬fr b)(n:∀(i:Nat) (x:Blk),σ[i]?=some (some b)->H[i]?=some x->x.live=true->False)
  (z:∀(i d:Nat) (x:Blk),σ[i]?=some (some d)->H[i]?=some x->Hid w x d b->False):Sim fr (λc=>ro c\/c=b) σ H w:=by
 refine⟨s.len,s.roOk.to (λ_ q=>.inl q) (λ_ _=>rfl) ?_,s.frLt,?_,?_,s.inj,?_,s.hidTo (· = ·) QZ (XX _) (λj d x c m h u g=>g.elim id λq=>(z j d x m h (q▸u)).elim) (λ_ _ _ _ _ _ _ q=>q) λj d y r l F=>.inl ⟨j,y,rfl,r,l,id,λ_ q=>q⟩⟩
 .rintro c (q|rfl)
  .exact s.roLt c q
  .exact p
 .rintro c (q|rfl)
  .exact s.roFr c q
  .exact t
 .intro i c x e a f;obtain⟨B,k,E⟩:=s.own i c x e a f;refine⟨B,?_,E⟩;rintro(q|rfl)
  .exact k q
  .exact n i x e a f
 .intro i y x e a;exact(s.blk i y x e a).keep ⟨λ_ q=>.inl q,λ_ _=>rfl,λ_ _ q=>q,λ_ _ q=>q⟩ (λ_ _ _=>rfl) (λ_ _ _ _=>rfl)
theorem Yo{T e k n:Nat}{xs:List Operand}{es:List (List A)}(E:QV P T e k)(Q:o.op=.buildSlice T n (QaC 0 xs).toArray)(M:xs.length=n)(u:Nat.ble (n*k) 16777216=true)
  (Y:(xs.all λx=>Yf (opA env x))=true)(y:Q6 env xs=es)(J:allK k es)(X:es.flatten.all Yt=true)(hd:Yn es.flatten=true):
  OpH P o env H (.rsl k es) H:=by
 intro W m σ N a w r;subst y;obtain⟨l,R,L⟩:=QaK r E M u Y J;have B:LR m [] w (Q6 env xs).flatten l:=L.data hd;have f:∀b,b<w.heap.size->(w.alloc (.cells l.toArray e)).heap[b]?=w.heap[b]? :=λb O=>Yv _ _ b O;have j:w.heap.size<=(w.alloc (.cells l.toArray e)).heap.size:=by rw[Yu];omega
 have V:=r.sim.grown f j;have h:Qh W m w m (w.alloc (.cells l.toArray e)):=Qh.alloc _ r.sim.roLt r.sim.frLt;have s2:=V.addRo (b:=w.heap.size) (by rw[Yu];omega) (λq=>Nat.lt_irrefl _ (r.sim.frLt _ q)) (λi x t p G=>Nat.lt_irrefl _ (r.sim.own i _ x t p G).1)
  (λi d x t p G=>Nat.lt_irrefl _ (r.sim.hid i d x _ t p (r.sim.hidKeep t p (λz=>f d (r.sim.own i d x t p z).1) (λb q=>f b (r.sim.roLt b q)) G)).lt)
 have F:RL m [] (w.alloc (.cells l.toArray e)) k (Q6 env xs) l:=by
  have:=Jt (rest:=[]) J (B.mono (h.ext0 [])) (L.plain X)
  rwa [Vk]at this
 have g:(Q6 env xs).length=n:=by simp[Q6,M]
 refine⟨_,_,λc=>m c\/c=w.heap.size,[],Qat Q a.eval R,?_,by simpa using s2,h.trans (YV λ_ q=>.inl q)⟩;refine⟨some ⟨w.heap.size,0,none⟩,n,by rw[g],by rw[g];exact XX _,.inr ⟨w.heap.size,0,rfl,.inr rfl,?_⟩⟩;have s:(w.alloc (.cells l.toArray e)).heap[w.heap.size]?=some (.cells (([]:List Value)++l).toArray e (0,0)):=Yg _ _;have:=YX (pre:=[]) s F;exact this.keep ⟨λ_ q=>.inl q,λ_ _=>rfl,λ_ _ q=>q,λ_ _ q=>q⟩ rfl
end
inductive Qko:List A->List A->Prop
 |nil:Qko [] []
 |eq {a:A} {l m:List A} (h:Qko l m):Qko (a::l) (a::m)
 |nl {k:Nat} {l m:List A} (h:Qko l m):Qko (.nils::l) (.rsl k []::m)
theorem LR.nils{ro:Nat->Prop}{σ:Sig}{w:World}{f g:List A}(h:Qko f g):∀{l:List Value},LR ro σ w f l->LR ro σ w g l:=by
 induction h with
 |nil=>intro l h;exact h
 |eq _ ih=>rintro l ⟨v,a,e,d,b⟩;exact⟨v,a,e,d,ih b⟩
 |nl _ ih=>rintro l ⟨v,a,e,d,b⟩;exact⟨v,a,e,⟨none,0,d,XX _,.inl rfl⟩,ih b⟩
theorem C.nils{P:Program}{f:FuncId}{l1 bs:List A}{H:Qd}{Q:A->Qd->Prop}(hl:Qko l1 bs)(h:C P f bs H Q):C P f l1 H Q:=
 λfr ro σ vals w s l=>h fr ro σ vals w s (LR.nils hl l)
end Go.Sw
namespace Go.Sw
def Qk(k:IntKind)(n:Int):Prop:=k.min<=n/\n<=k.max
def Qeg(w:World):Nat->Prop:=λb=>b<w.heap.size
structure Qod {H:Type} (μ:DataW H->Nat):Prop where
 str:∀bytes,bytes.length<=μ (.lit (.string bytes))
 sl:∀e s,e.length<=μ (.slice e s)
 sle:∀e s,∀d∈e,μ d<=μ (.slice e s)
 ag:∀ps,∀d∈ps,μ d<=μ (.agg ps)
def RB(P:Program)(n:Nat)(t:TypeId)(T:Type)(e:T->List A)(wf:T->Prop):Prop:=
 ∀(H:Type) (enc:TypeId×Value->H) (w:World) (base:Nat) (spare:Nat->Bool) (held:Bool) (m:Nat) (cs:List Value) d,m<n->DataW.trod enc P w base spare held m t cs=some d->
  ∀μ:DataW H->Nat,Qod μ->μ d.1<=1048576->∃x:T,wf x/\LR (Qeg w) [] w (e x) cs/\ ∀v∈cs,Qq v
section
variable {P:Program} {n:Nat} {t:TypeId} {T:Type} {e:T->List A} {wf:T->Prop}
theorem RB.down(h:RB P (n+1) t T e wf):RB P n t T e wf:=λH enc w base spare held m cs d hm=>h H enc w base spare held m cs d (Nat.lt_succ_of_lt hm)
theorem QeF(h:∀n,RB P n t T e wf->RB P (n+1) t T e wf):∀n,RB P n t T e wf
 |0=>λH enc w base spare held m cs d hm=>absurd hm (Xn _)
 |n+1=>h n (QeF h n)
theorem QX{T':Type}{b:T'->List A}{a:T'->Prop}(h:RB P n t T e wf)(g:T->T')(he:∀x,b (g x)=e x)(f:∀x,wf x->a (g x)):RB P n t T' b a:=by
 intro H enc w base spare held m cs d hm hd μ hμ hwt;obtain⟨x,k,i,j⟩:=h H enc w base spare held m cs d hm hd μ hμ hwt;exact⟨g x,f x k,by rw[he];exact i,j⟩
theorem RB.int{k:IntKind}(a:P.underlying t=some (.int k)):RB P n t Int (Qf k) (Qk k):=by
 intro H enc w base spare held m cs d hm hd μ hμ hwt;cases m with
 |zero=>simp[DataW.trod]at hd
 |succ m=>
  rcases cs with _|⟨v,_|⟨g,r⟩⟩
  .simp[DataW.trod,a]at hd
  .cases v<;>simp[DataW.trod,a]at hd;rename_i f e;obtain⟨⟨rfl,b⟩,_⟩:=hd;refine⟨e,?_,⟨_,_,rfl,rfl,rfl⟩,by simp[Qq]⟩;simpa[Lit.wf,Qk]using b
  .simp[DataW.trod,a]at hd
theorem RB.bool(a:P.underlying t=some .bool):RB P n t Bool Qa6 (λ_=>True):=by
 intro H enc w base spare held m cs d hm hd μ hμ hwt;cases m with
 |zero=>simp[DataW.trod]at hd
 |succ m=>
  rcases cs with _|⟨v,_|⟨e,r⟩⟩
  .simp[DataW.trod,a]at hd
  .cases v<;>simp[DataW.trod,a]at hd;rename_i b;exact⟨b,trivial,⟨_,_,rfl,rfl,rfl⟩,by simp[Qq]⟩
  .simp[DataW.trod,a]at hd
theorem RB.string(a:P.underlying t=some .string):RB P n t (List UInt8) encS (λs=>s.length<=1048576):=by
 intro H enc w base spare held m cs d hm hd μ hμ hwt;cases m with
 |zero=>simp[DataW.trod]at hd
 |succ m=>
  rcases cs with _|⟨v,_|⟨b,r⟩⟩
  .simp[DataW.trod,a]at hd
  .cases v<;>simp[DataW.trod,a]at hd;rename_i s;obtain⟨_,rfl⟩:=hd;exact⟨s.data.toList,XZ (hμ.str _) hwt,⟨_,_,rfl,rfl,rfl⟩,by simp[Qq]⟩
  .simp[DataW.trod,a]at hd
theorem QcF{α:Type}{f:Nat->Option α}:∀{n:Nat} {l:List α},(List.range n).mapM f=some l->l.length=n/\ ∀i,i<n->∃y,f i=some y/\l[i]?=some y
 |0,l,h=>by simp at h;subst h;exact⟨rfl,λi hi=>absurd hi (Xn _)⟩
 |n+1,l,h=>by
  rw[List.range_succ,List.mapM_append]at h;cases h1:(List.range n).mapM f with
  |none=>simp[h1]at h
  |some l1=>
   cases h2:f n with
   |none=>simp[h1,h2]at h
   |some y=>
    simp[h1,h2]at h;subst h;obtain⟨e1,e2⟩:=QcF h1;refine⟨by simp[e1],λi hi=>?_⟩;rcases Xp.1 hi with q|rfl
    .obtain⟨z,z1,z2⟩:=e2 i q;exact⟨z,z1,by rw[XQ (by omega)];exact z2⟩
    .exact⟨y,h2,by rw[XR (by omega)];simp[e1]⟩
theorem Qen{w:World}{ro:Nat->Prop}{b:Nat}:∀{cs:List A} {l:List Value} {off:Nat},LR ro [] w cs l->(∀v∈l,Qq v)->(∀i,i<l.length->w.cell? ⟨b,off+i,none⟩=l[i]?)->CR ro [] w b cs off
 |[],_,_,_,_,_=>trivial
 |a::cs,l,off,h,hp,hc=>by
  obtain⟨v,l',rfl,h1,h2⟩:=h;refine⟨⟨v,by simpa using hc 0 (by simp),hp v (by simp),h1⟩,Qen h2 (λv hv=>hp v (by simp[hv])) λi hi=>?_⟩;have:=hc (i+1) (by simpa using hi);rw[show off+1+i=off+(i+1)by omega,this];simp
theorem RB.slice{E:TypeId}{k:Nat}{s:TypeId}(M:P.underlying s=some (.slice E))(hk:P.cellsOf E=k)(h0:Nat.blt 0 k=true)(hl:∀x,(e x).length=k)(h:RB P n E T e wf):
  RB P (n+1) s (List T) (QnH k e) (λl=>l.length<=1048576/\ ∀x∈l,wf x):=by
 intro H enc w base spare held m cs d hm hd μ hμ hwt;have k0:0<k:=by simpa using h0
 cases m with
 |zero=>simp[DataW.trod]at hd
 |succ m=>
  rcases cs with _|⟨v,_|⟨v2,r⟩⟩
  .simp[DataW.trod,M]at hd
  .cases v<;>try (simp[DataW.trod,M]at hd;done)
   rename_i a len t;cases a with
   |none=>
    rcases len with _|len
    .rcases t with _|t
     .refine⟨[],⟨by simp,by simp⟩,⟨_,_,rfl,⟨none,0,rfl,XX _,.inl rfl⟩,rfl⟩,by simp[Qq]⟩
     .simp[DataW.trod,M]at hd
    .simp[DataW.trod,M]at hd
   |some a=>
    simp only[DataW.trod,M]at hd;split at hd
    .rename_i hc;obtain⟨c1,c2,c3⟩:=hc;cases G:(List.range len).mapM (λi=>(w.cells? base (a.add (i*P.cellsOf E)) (P.cellsOf E)).bind (DataW.trod enc P w base spare held m E))with
     |none=>rw[G]at hd;cases hd
     |some f=>
      rw[G]at hd;simp only[XN,Option.map_eq_some_iff]at hd;obtain⟨B,_,rfl⟩:=hd;have F:f.length<=1048576:=by
       have h1:=hμ.sl (f.map (·.1)) (B.map (·.1));rw[X6]at h1;exact XZ h1 hwt
      have Y:∀y∈f,μ y.1<=1048576:=λy V=>XZ (hμ.sle _ (B.map (·.1)) _ (VK V)) hwt;obtain⟨e1,e2⟩:=QcF G;have Q:∀i,i<len->∃(x:T) (l:List Value),wf x/\LR (Qeg w) [] w (e x) l/\(∀v∈l,Qq v)/\l.length=k/\ ∀j,j<k->w.cell? ((a.add (i*k)).add j)=l[j]? :=by
       intro i X;obtain⟨y,y1,y2⟩:=e2 i X;rw[hk]at y1;cases g:w.cells? base (a.add (i*k)) k with
       |none=>rw[g]at y1;cases y1
       |some l=>
        rw[g]at y1;obtain⟨x,x1,x2,x3⟩:=h H enc w base spare held m l y (by omega) y1 μ hμ (Y y (VL y2));refine⟨x,l,x1,x2,x3,by rw[x2.length];exact hl x,λj hj=>?_⟩;unfold World.cells? at g;split at g
        .obtain⟨_,z2⟩:=QcF g;obtain⟨v,v1,v2⟩:=z2 j hj;rw[v2, <- v1]
        .cases g
      by_cases R:len=0
      .subst R;exact⟨[],⟨by simp,by simp⟩,⟨_,_,rfl,⟨some a,t,rfl,XY _,.inl rfl⟩,rfl⟩,by simp[Qq]⟩
      .have first:a.spot=none/\a.block<w.heap.size:=by
        obtain⟨x',l,p1,p2,p3,p4,W⟩:=Q 0 (by omega);have u:=W 0 k0;have aa:l[0]?=some l[0]:=XO (by omega);have ea:(a.add (0*k)).add 0=a:=by simp[Addr.add]
        rw[aa,ea]at u;unfold World.cell? at u;split at u
        .rename_i hh;constructor
         .cases q:a.spot with
          |none=>rfl
          |some z=>simp[q]at u
         .exact(Vg.1 hh).1
        .cases u
       obtain⟨p,hb⟩:=first
       have N:∀n,a.add n=⟨a.block,a.off+n,none⟩:=by
        intro n;cases a;simp only at p;subst p;unfold Addr.add;split
        .rename_i q;subst q;rfl
        .rfl
       have J:∀(b o n:Nat),(⟨b,o,none⟩:Addr).add n=⟨b,o+n,none⟩:=by
        intro b o n;unfold Addr.add;split
        .rename_i q;subst q;rfl
        .rfl
       have pick:∀q i,len-i=q->i<=len->∃L:List T,L.length=len-i/\(∀x∈L,wf x)/\RR (Qeg w) [] w a.block k (L.map e) (a.off+i*k):=by
        intro q
        induction q with
        |zero=>intro i hq X;exact⟨[],by simp[hq],by simp,trivial⟩
        |succ q ih=>
         intro i hq X;obtain⟨L,w1,w2,O⟩:=ih (i+1) (by omega) (by omega);obtain⟨x,l,p1,p2,p3,p4,W⟩:=Q i (by omega);refine⟨x::L,by simp[w1];omega,by intro y V;rcases Va.1 V with rfl|V;exact p1;exact w2 y V,hl x,?_,?_⟩
         .refine Qen p2 p3 λj hj=>?_;have u:=W j (by omega);rw[N,J]at u;exact u
         .rw[Xm, <- Nat.add_assoc]at O;exact O
       obtain⟨L,w1,w2,O⟩:=pick len 0 (by omega) (XY _);rw[Nat.zero_mul,Xz]at O;rw[Xx]at w1;refine⟨L,⟨by rw[w1, <- e1];exact F,w2⟩,⟨_,_,rfl,⟨some a,t,by simp[w1],by simp[w1];exact c2,.inr ⟨a.block,a.off,?_,hb,O⟩⟩,rfl⟩,by simp[Qq]⟩;cases a;simp only at p;subst p;rfl
    .cases hd
  .simp[DataW.trod,M]at hd
def RF(P:Program)(n:Nat)(fs:List Field)(off L:Nat)(T:Type)(e:T->List A)(wf:T->Prop):Prop:=
 ∀(H:Type) (enc:TypeId×Value->H) (w:World) (base:Nat) (spare:Nat->Bool) (held:Bool) (m:Nat) (cs:List Value) ds,m<n->cs.length=L->
  fs.mapM (λf=>DataW.trod enc P w base spare held m f.type ((cs.drop f.offset).take (P.cellsOf f.type)))=some ds->
  ∀μ:DataW H->Nat,Qod μ->(∀y∈ds,μ y.1<=1048576)->∃x:T,wf x/\LR (Qeg w) [] w (e x) (cs.drop off)/\ ∀v∈cs.drop off,Qq v
theorem RF.nil{L:Nat}:RF P n [] L L Unit (λ_=>[]) (λ_=>True):=by
 intro H enc w base spare held m cs ds hm hl hd μ hμ hwt;have:cs.drop L=[]:=List.drop_eq_nil_of_le (by omega);rw[this];exact⟨(),trivial,rfl,by simp⟩
theorem RF.cons{f:Field}{fs:List Field}{off L k:Nat}{T2:Type}{s:T2->List A}{b:T2->Prop}(E:f.offset=off)(G:P.cellsOf f.type=k)(h:RB P n f.type T e wf)(r:RF P n fs (off+k) L T2 s b):
  RF P n (f::fs) off L (T×T2) (λp=>e p.1++s p.2) (λp=>wf p.1/\b p.2):=by
 intro H enc w base spare held m cs ds hm hl hd μ hμ hwt;rw[List.mapM_cons]at hd;cases g:DataW.trod enc P w base spare held m f.type ((cs.drop f.offset).take (P.cellsOf f.type))with
 |none=>simp[g]at hd
 |some d=>
  cases l:fs.mapM (λf=>DataW.trod enc P w base spare held m f.type ((cs.drop f.offset).take (P.cellsOf f.type)))with
  |none=>simp[g,l]at hd
  |some i=>
   have j:ds=d::i:=by
    rw[g,l]at hd;exact(X4 hd).symm
   subst j;rw[E,G]at g;obtain⟨x,B,u,t⟩:=h H enc w base spare held m _ d hm g μ hμ (hwt d (by simp));obtain⟨y,y1,y2,F⟩:=r H enc w base spare held m cs i hm hl l μ hμ (λy J=>hwt y (by simp[J]));have a:cs.drop off=(cs.drop off).take k++cs.drop (off+k):=by rw[<- List.drop_drop,XC]
   refine⟨(x,y),⟨B,y1⟩,by rw[a];exact u.append y2,?_⟩;rw[a];intro v z;rcases VH.1 z with q|q
   .exact t v q
   .exact F v q
theorem RB.struct{fs:Array Field}{L:Nat}(i:P.underlying t=some (.struct fs))(g:P.cellsOf t=L)(h:RF P n fs.toList 0 L T e wf):RB P (n+1) t T e wf:=by
 intro H enc w base spare held m cs d hm hd μ hμ hwt;cases m with
 |zero=>simp[DataW.trod]at hd
 |succ m=>
  unfold DataW.trod at hd;simp only[i]at hd;split at hd
  .rename_i j;cases a:fs.toList.mapM (λf=>DataW.trod enc P w base spare held m f.type ((cs.drop f.offset).take (P.cellsOf f.type)))with
   |none=>rw[a]at hd;cases hd
   |some k=>
    rw[a]at hd;simp only[Xj,Option.some.injEq]at hd;subst hd;have:=h H enc w base spare held m cs k (by omega) (by rw[j,g]) a μ hμ (λy b=>XZ (hμ.ag _ _ (VK b)) hwt);simpa using this
  .cases hd
end
theorem C.law{P:Program}{f:FuncId}{args:List A}{W:World}{vals:List Value}(h:C P f args [] (λa H=>a=.bool true/\H=[]))(hl:LR (Qeg W) [] W args vals)(d:GP W):
  Calls P f vals.toArray W λe W'=>e=.returned (.bool true)/\Go.RowKit.Below W.heap.size W W':=by
 have s:Sim (λ_=>False) (Qeg W) [] [] W:=
  ⟨rfl,⟨λ_ h=>h,λb g=>d.size b g,d⟩,λ_ h=>h.elim,λ_ _ h=>h,λi b x h=>by simp at h,λi j b x y h=>by simp at h,λi y x h=>by simp at h,λi b x c h=>by simp at h⟩
 refine(h _ _ _ _ W s hl).mono ?_;rintro e W' ⟨v,r,H',n,τ,rfl,⟨rfl,rfl⟩,_,l,ev⟩;exact⟨by rw[show v=.bool true from l],⟨ev.os,ev.tape,ev.output,ev.size,λk m=>ev.keepRo k m⟩⟩
theorem QmY{P:Program}{W:World}{a:Nat}{t:TypeId}{v:Value}{fs:Array Field}(b:P.underlying t=some (.struct fs))(h:Value.okWide P W .any a t v):∃cs,v=.agg cs:=by
 unfold Value.okWide at h;rw[b]at h;obtain⟨cs,rfl,_⟩:=h;exact⟨cs,rfl⟩
theorem QjD{P:Program}{W:World}{t:TypeId}{cs:Array Value}{T:Type}{e:T->List A}{wf:T->Prop}{H:Type}{enc:TypeId×Value->H}{b:Nat}{a:Nat->Bool}{held:Bool}{d:DataW H}{ps:List MemPlace}
  (h:∀n,RB P n t T e wf)(g:DataW.Trod enc P W b a held t (.agg cs) d ps){μ:DataW H->Nat}(hμ:Qod μ)(f:μ d<=1048576):∃x:T,wf x/\VR (Qeg W) [] W (.agg (e x)) (.agg cs):=by
 obtain⟨m,i⟩:=g;obtain⟨x,k,j,_⟩:=h (m+1) H enc W b a held m _ _ (Xo _) i μ hμ f;exact⟨x,k,cs.toList,by simp,j⟩
theorem Qlp{P:Program}{W:World}{t:TypeId}{a:Option Addr}{len cap:Nat}{T:Type}{e:T->List A}{k:Nat}{wf:List T->Prop}{H:Type}{enc:TypeId×Value->H}{f:Nat}{b:Nat->Bool}{held:Bool}{d:DataW H}{ps:List MemPlace}
  (h:∀n,RB P n t (List T) (QnH k e) wf)(j:DataW.Trod enc P W f b held t (.slice a len cap) d ps){μ:DataW H->Nat}(hμ:Qod μ)(g:μ d<=1048576):∃x:List T,wf x/\VR (Qeg W) [] W (.rsl k (x.map e)) (.slice a len cap):=by
 obtain⟨m,l⟩:=j;obtain⟨x,p,⟨v,r,i,q,s⟩,_⟩:=h (m+1) H enc W f b held m _ _ (Xo _) l μ hμ g;refine⟨x,p,?_⟩;have:(Value.slice a len cap).cells.toList=[.slice a len cap]:=rfl;rw[this]at i;cases i;exact q
theorem Qjw{P:Program}{W:World}(h:W.ShapedOpen P){g t u:Nat}{z:Value}(hg:Nat.blt g P.globals.size=true)(l:(((begin P (λ_ _=>0) default).world.heap[g]?).bind Obj.row?)=some (#[z],t))
  (j:P.buildable t=true)(r:P.cellTypes P.depth t=some [u])(p:P.underlying u=some (.int .i64)):∃m:Int,W.cell? ⟨g,0,none⟩=some (.int .i64 m):=by
 obtain⟨d,w,q,s⟩:=h.1 g _ _ (by simpa using hg) l;obtain⟨E,f,_,x⟩:=s j;rw[r]at f;cases f;have B:d.size=1:=q;have b:d[0]?=some d[0]:=Array.getElem?_eq_getElem (by omega);obtain⟨y,i,a⟩:=x 0 _ b;simp at i;subst i;unfold Cell.ok at a;rw[p]at a;cases e:d[0]<;>rw[e]at a<;>simp at a;rename_i k n;obtain⟨rfl,_⟩:=a;refine⟨n,?_⟩;simp only[World.cell?,w];rw[b,e];rfl
end Go.Sw
namespace Go.Sw
theorem QjM{S B:Type}{step:S->Option (Ctl S B)}(d:Nat->S)(b:B)(k:Nat)(q:∀i,i<k->step (d i)=some (.cont (d (i+1))))(j:step (d k)=some (.done b)):∀n,k<n->iter step n (d 0)=some b:=by
 have e:∀m i n,k-i=m->i<=k->m<n->iter step n (d i)=some b:=by
  intro m
  induction m with
  |zero=>
   intro i n g f p;have:i=k:=by omega
   subst this;obtain⟨a,rfl⟩:∃a,n=a+1:=⟨n-1,by omega⟩;simp[iter,j]
  |succ m h=>
   intro i n g f p;obtain⟨a,rfl⟩:∃a,n=a+1:=⟨n-1,by omega⟩;simp only[iter,q i (by omega)];exact h (i+1) a (by omega) (by omega) (by omega)
 intro n l;exact e k 0 n (by omega) (XY _) l
theorem Qne{S B:Type}{step:S->Option (Ctl S B)}(s0:S)(a:Nat->S)(b:B)(k:Nat)(h0:a 0=s0)(e:∀i,i<k->step (a i)=some (.cont (a (i+1))))(f:step (a k)=some (.done b))(n:Nat)(d:k<n):iter step n s0=some b:=by
 rw[<- h0];exact QjM a b k e f n d
theorem YW{α:Type}{l:List α}{i:Nat}{x:α}(h:l[i]?=some x):idx l (i:Int)=some x:=by
 unfold idx;have:decide ((0:Int)<=i)=true:=by simp
 rw[this];simpa using h
theorem QaE{α:Type}(l:List α)(x:α)(h:l.length<4294967296):app l [x]=some (l++[x]):=by
 unfold app;have:Nat.ble (l.length+[x].length) Qy=true:=by
  apply XW;unfold Qy;simp;omega
 rw[this];rfl
theorem Qi6{α:Type}(l m:List α)(h:l.length+m.length<=4294967296):app l m=some (l++m):=by
 unfold app;have:Nat.ble (l.length+m.length) Qy=true:=XW h;rw[this];rfl
theorem Yd{n:Int}(h0: -9223372036854775808<=n)(a:n<=9223372036854775807):IntKind.i64.wrap n=n:=by
 unfold IntKind.wrap;simp[IntKind.bits,IntKind.signed];omega
theorem YA{i:Nat}(h:i<9223372036854775807):IntKind.i64.wrap ((i:Int)+1)=((i+1:Nat):Int):=by
 rw[Yd (by omega) (by omega)];omega
theorem Yc{p:Prop}[Decidable p](h:p):decide p=true:=Vy h
theorem Yx{p:Prop}[Decidable p](h:¬p):decide p=false:=VB h
end Go.Sw
namespace Go.Sw
open Go.Proofs Go.Shelf
def cat(a b:List UInt8):Option (List UInt8):=bif Nat.ble (a.length+b.length) 4294967296 then some (a++b)else none
theorem QqB{a b r:List UInt8}(h:cat a b=some r):a.length+b.length<=4294967296/\a++b=r:=by
 unfold cat at h;cases q:Nat.ble (a.length+b.length) 4294967296 with
 |true=>rw[q]at h;exact⟨XV q,X4 h⟩
 |false=>rw[q]at h;cases h
def Qfi(s t:List UInt8):Option Bool:=bif Nat.blt s.length 4294967281 then some (Lib.contains s t)else none
section
variable {P:Program} {o:Oper} {env:Env} {H:Qd}
theorem QfR{t u:TypeId}{x y:Operand}{p q r:List UInt8}(l:cat p q=some r)(h:o.op=.binOp .add t x y u:=by exact rfl)(hx:opA env x=.str p:=by exact rfl)(hy:opA env y=.str q:=by exact rfl):OpV P o env H (.str r):=by
 intro s m σ N a w rr;obtain⟨n,i⟩:=QqB l;have g:=Qg rr x;rw[hx]at g;have f:=Qg rr y;rw[hy]at f;have e:a.eval x=.string ⟨p.toArray⟩:=g;have d:a.eval y=.string ⟨q.toArray⟩:=f;have j:(⟨p.toArray⟩:ByteArray)++⟨q.toArray⟩=⟨r.toArray⟩:=by
  rw[<- i];apply ByteArray.ext;simp
 refine⟨.string ⟨r.toArray⟩,?_,rfl⟩;have b:¬((((⟨p.toArray⟩:ByteArray).size+(⟨q.toArray⟩:ByteArray).size:Nat):Int)>IntKind.i64.max):=by
  have:IntKind.i64.max=9223372036854775807:=by decide
  rw[this];simp only[ByteArray.size,List.size_toArray];omega
 generalize a.eval=ρ at*;have k:(eqGuard BinOp.add t x y (.string ⟨p.toArray⟩) (.string ⟨q.toArray⟩)).run P w=.ok () w:=by simp[eqGuard]
 simp only[execOp,h,e,d,binOp_string_add,Op.stringOp,Vw b,j,Vr,Vs,Result.andThen,k]
def Qer{α:Type}(n:Nat)(l:List α)(i:Int):Option α:=bif Nat.beq l.length n then idx l i else none
theorem Qa1{α:Type}{n:Nat}{l:List α}{i:Int}{x:α}(h:Qer n l i=some x):l.length=n/\idx l i=some x:=by
 unfold Qer at h;cases q:Nat.beq l.length n with
 |true=>rw[q]at h;exact⟨XU q,h⟩
 |false=>rw[q]at h;cases h
def arr{α:Type}(n:Nat)(l:List α):Option (List α):=bif Nat.beq l.length n then some l else none
theorem Js{α:Type}{n:Nat}{l l':List α}(h:arr n l=some l'):l.length=n/\l=l':=by
 unfold arr at h;cases q:Nat.beq l.length n with
 |true=>rw[q]at h;exact⟨XU q,X4 h⟩
 |false=>rw[q]at h;cases h
theorem Qby{α:Type}{n:Nat}{l l':List α}(h:arr n l=some l'):l'.length=n:=(Js h).2▸(Js h).1
section
variable {α:Type} {e:α->List A} {t et k n b:Nat} {x y:Operand} {l:List α}
theorem Qai{i:Int}{v:α}{j:IntKind}(h:Qer n l i=some v)(z:∀w,(underlying t).run P w=.ok (.array n et) w)(F:∀w,(sizeOf et).run P w=.ok k w)(p:Nat.ble 2 n=true)
  (s:o.op=.indexAddr t x y:=by exact rfl)(hx:opA env x=.ptr b 0:=by exact rfl)(hy:opA env y=.int j i:=by exact rfl):OpV P o env H (.ptr b (i.toNat*k)):=by
 intro M O σ N a w r;obtain⟨Q,J⟩:=Qa1 h;obtain⟨L,B⟩:=Qas J;have u:i.toNat<l.length:=(XP.1 B).1;have f:=Qg r x;rw[hx]at f;obtain⟨e,f,E⟩:=f;have m:=Qg r y;rw[hy]at m;have g:a.eval y=.int j i:=m;refine⟨.pointer (some ⟨e,i.toNat*k,none⟩),?_,e,f,rfl⟩;have G:0<=i/\i<(n:Int):=by omega
 have d:(⟨e,0,none⟩:Addr).add (i.toNat*k)=⟨e,i.toNat*k,none⟩:=by
  unfold Addr.add;split
  .rename_i q;rw[q]
  .simp
 generalize a.eval=ρ at*;simp[execOp,s,E,g,Instr.indexAt,asIntOf,z,F,Instr.sureAddr,G,d,go_sem,Result.andThen]
theorem Qla{cs:List A}(hH:H[b]?=some (.row t k (l.map e)):=by exact rfl)(hcs:(l.map e).flatten=cs:=by exact rfl):Pts H (.ptr b 0) cs:=by
 intro n j σ w v s h;obtain⟨a,g,f⟩:=h;obtain⟨m,d,i⟩:=s.blk b _ _ g hH;refine⟨a,0,f,?_⟩;have:=(RR.flat (YX (pre:=[]) (by simpa using d) i)).1;subst hcs;exact this.lift
theorem QiC(a:∀x,(e x).length=k)(L:List α):(L.map e).flatten.length=L.length*k:=by
 induction L with
 |nil=>simp
 |cons c L ih=>simp only[Vn,Vq,X7,a c,ih,X5,Xm];omega
theorem Qjg{d:Nat}{l':List α}(h:arr n l=some l')(g:∀x,(e x).length=k)(a:n*k=d)(m:∀w,(isAgg t).run P w=.ok true w)(p:∀w,(sizeOf t).run P w=.ok d w){T:Nat}
  (i:o.op=.load t x:=by exact rfl)(hx:opA env x=.ptr b 0:=by exact rfl)(hH:H[b]?=some (.row T k (l.map e)):=by exact rfl):OpV P o env H (.agg (l'.map e).flatten):=by
 obtain⟨j,rfl⟩:=Js h;have f:=QiC g l;rw[j,a]at f;exact Qm i m p hx (Qla hH rfl) (VM (by omega)) f
theorem Ql2{r:Nat}{n2 T:Nat}(hl:l.length=n)(h:∀x,(e x).length=k)(a:n*k=n2)(f:∀w,(isAgg t).run P w=.ok true w)(g:∀w,(sizeOf t).run P w=.ok n2 w)
  (i:lk env r=.ptr b 0:=by exact rfl)(hH:H[b]?=some (.row T k (l.map e)):=by exact rfl):Qdq P env H (.cell r t) (.agg (l.map e).flatten):=by
 have d:=QiC h l;rw[hl,a]at d;have:=Qek (b:=r) (p:=.ptr b 0) (n:=n2) f g (Qla hH rfl) i (by rw[VM (by omega)];exact d)
 rwa [VM (by omega)]at this
theorem Qi8{c:List A}{k:Nat}(h:c.length=k):∀n,allK k (List.replicate n c)
 |0=>trivial
 |n+1=>⟨h,Qi8 h n⟩
theorem Jd{vs:Array Value}{z:α}(l:∀w,(zeroValue t).run P w=.ok (.agg vs) w)(h:(YZ (List.replicate n (e z)).flatten).toArray=vs)(m:QeR (List.replicate n (e z)).flatten=true)(p:(List.replicate n (e z)).flatten.all Yt=true)(i:Nat.beq (e z).length k=true)
  (j:o.op=.alloc t:=by exact rfl):OpH P o env H (.ptr H.length 0) (H++[.row t k ((List.replicate n z).map e)]):=by
 intro s d σ N a w r;have f:LR d [] w (List.replicate n (e z)).flatten (YZ (List.replicate n (e z)).flatten):=QfZ m;have b:=r.sim.allocRow (t:=t) (rest:=[]) (Qi8 (XU i) n) f (f.plain p);rw[Vk]at b;have g:(List.replicate n z).map e=List.replicate n (e z):=List.map_replicate;refine⟨.pointer (some ⟨w.heap.size,0,none⟩),w.alloc (.cells (YZ (List.replicate n (e z)).flatten).toArray t),d,[some w.heap.size],?_,⟨w.heap.size,?_,rfl⟩,g▸b,Qh.alloc _ r.sim.roLt r.sim.frLt⟩
 .generalize a.eval=ρ at*;have q:(newVar t (.agg vs)).run P w=.ok ⟨w.heap.size,0,none⟩ (w.alloc (.cells vs t)):=rfl;rw[h];simp only[execOp,j,Instr.alloc,Vr,l,Result.andThen,q];rfl
 .rw[<- r.sim.len];simp
theorem Jc{T n2:Nat}{l':List α}{vs:List A}(h:l.length=n)(h':l'.length=n)(hk:∀x,(e x).length=k)(j:n*k=n2)(hs:∀w,(sizeOf t).run P w=.ok n2 w)
  (hp:∀x,(e x).all Yt=true)(hd:∀x,Yn (e x)=true)(O:(l'.map e).flatten=vs)
  (ho:o.op=.store t x y:=by exact rfl)(G:opA env x=.ptr b 0:=by exact rfl)(hH:H[b]?=some (.row T k (l.map e)):=by exact rfl)(V:opA env y=.agg vs:=by exact rfl):
  OpU P o env H (H.set b (.row T k (l'.map e))):=by
 intro fr ro σ N a w r;subst O;have d:=Qg r x;rw[G]at d;obtain⟨bb,d,X⟩:=d;have h3:=Qg r y;rw[V]at h3;obtain⟨m,h4,F⟩:=h3;obtain⟨u,q1,q2⟩:=r.sim.blk b _ _ d hH;have z:∀(L:List α),allK k (L.map e):=by
  intro L
  induction L with
  |nil=>trivial
  |cons c L g=>exact⟨hk c,g⟩
 have W:(l'.map e).flatten.length=n2:=by rw[Yy (z l'),X6,h',j]
 have Y:m.length=n2:=by rw[F.length,W]
 have E:∀L:List α,(L.map e).flatten.all Yt=true:=by
  intro L
  induction L with
  |nil=>rfl
  |cons c L g=>simp only[Vn,Vq,List.all_append,hp c,g,Bool.and_self]
 have Q:∀i q:List A,Yn i=true->Yn q=true->Yn (i++q)=true:=by
  intro i
  induction i with
  |nil=>intro q _ h;exact h
  |cons c i g=>
   intro q d X;simp only[Yn,X0,VO]at d⊢;exact⟨d.1,g q d.2 X⟩
 have J:∀L:List α,Yn (L.map e).flatten=true:=by
  intro L
  induction L with
  |nil=>rfl
  |cons c L g=>simp only[Vn,Vq];exact Q _ _ (hd c) g
 have aa:n2<=u.length:=by
  have:=q2.length;rw[X6,h,j]at this;exact this
 have B:=Q3 (P:=P) (vs:=m) 0 0 q1 (by omega) (F.plain (E l'));have p:splice u 0 m=m++u.drop n2:=by unfold splice;simp[Y]
 have f:=r.sim.set (x':=.row T k (l'.map e)) (obj:=.cells (splice u 0 m).toArray T (0,0)) d hH rfl
  (λy V=>Qae q1 (Q2 (by omega)) y V)
  (λex s=>by
   have G:=(F.data (J l')).mono ex.nil;rw[p]at G s⊢;exact⟨_,s,Jt (z l') G (F.plain (E l'))⟩)
 refine⟨_,ro,[],?_,by simpa using f.1,f.2⟩;generalize a.eval=ρ at*;have R:(ρ y).cells.size=n2:=by rw[h4];simp[Value.cells,Y]
 have M:(storeVar t ⟨bb,0,none⟩ (ρ y)).run P w=.ok () {w with heap:=w.heap.setIfInBounds bb (.cells (splice u 0 m).toArray T (0,0))}:=by
  unfold storeVar;rw[Vr,hs];simp only[Result.andThen];rw[Vw (by simp[R]),h4];have ec:(Value.agg m.toArray).cells.toList=m:=by simp[Value.cells]
  rw[ec];simpa using B
 simp only[execOp,ho,X,Instr.storeAt,Instr.sureAddr,pure_bind,Vr,M];rfl
end
end
theorem C.contains{P:Program}{ρ:Ren}(L:Lays.n144 P ρ)(hg:ρ.g 1=QlA){s t:List UInt8}{r:Bool}(h:Qfi s t=some r):C P (ρ.f 144) [.str s,.str t] [] (λa H=>a=.bool r/\H=[]):=by
 unfold Qfi at h;cases q:Nat.blt s.length 4294967281 with
 |false=>rw[q]at h;cases h
 |true=>
  rw[q]at h;obtain rfl:=X4 h;intro B b σ vals w sim hv;obtain⟨u,E,rfl,k,l,d,rfl,j,x⟩:=hv;cases(show d=[]from x);obtain⟨m,i⟩:=sim.roOk.gp.max;have y:u=.string ⟨s.toArray⟩:=k;have p:l=.string ⟨t.toArray⟩:=j;subst y p;have n:s.length<4294967281:=by simpa using q
  refine(Any.strings_Contains L ⟨s.toArray⟩ ⟨t.toArray⟩ m w (by simpa[ByteArray.size]using n) (by rw[hg];exact i)).mono ?_;rintro e z ⟨rfl,rfl⟩;exact⟨_,_,_,b,[],rfl,⟨rfl,rfl⟩,by simpa using sim,rfl,Qh.refl _ _ _⟩
section
variable {P:Program} {o:Oper} {env:Env} {H:Qd} {fr ro:Nat->Prop} {σ:Sig} {w:World}
theorem Sim.touch(s:Sim fr ro σ H w){b:Nat}{obj:Obj}(u:¬ro b)(m:¬fr b)(B:∀(i:Nat) (x:Blk),σ[i]?=some (some b)->H[i]?=some x->x.live=true->False)
  (g:∀(i d:Nat) (x:Blk),σ[i]?=some (some d)->H[i]?=some x->Hid w x d b->False)
  (r:∀y,w.shape? b=some y->({w with heap:=w.heap.setIfInBounds b obj}:World).shape? b=some y):
  Sim fr ro σ H {w with heap:=w.heap.setIfInBounds b obj}/\Qh fr ro w ro {w with heap:=w.heap.setIfInBounds b obj}:=by
 have a:∀c,c≠b->({w with heap:=w.heap.setIfInBounds b obj}:World).heap[c]?=w.heap[c]? :=by
  intro c F;show(w.heap.setIfInBounds b obj)[c]?=_;rw[Vi,Vw (λq=>F q.symm)]
 have f:({w with heap:=w.heap.setIfInBounds b obj}:World).heap.size=w.heap.size:=by simp
 have ev:Qh fr ro w ro {w with heap:=w.heap.setIfInBounds b obj}:=
  ⟨λ_ h=>h,λc h=>a c (λq=>u (q▸h)),λc h=>a c (λq=>m (q▸h)),by rw[f];exact XX _,by
   intro c y h;by_cases q:c=b
   .subst q;exact r y h
   .unfold World.shape? at h⊢;rw[a c q];exact h,rfl,rfl,rfl,XX _⟩
 refine⟨⟨s.len,s.roOk.to (λ_ q=>q) ev.keepRo (λc h=>by rw[f];exact s.roLt c h),λc h=>by rw[f];exact s.frLt c h,s.roFr,?_,s.inj,?_,s.hidTo (· = ·) QZ (by rw[f];exact XX _) (λ_ _ _ _ _ _ _ q=>q) (λ_ _ _ _ _ _ _ q=>q) λj d y t n G=>.inl ⟨j,y,rfl,t,n,id,λc q=>s.hidKeep t n (λz=>a d (λe=>B j y (e▸t) n z)) ev.keepRo q⟩⟩,ev⟩
 .intro i c x l k E;rw[f];exact s.own i c x l k E
 .intro i y x l k;refine(s.blk i y x l k).keep (ev.ext0 σ) ?_ ?_
  .rintro c rfl p;exact a c (λq=>by subst q;exact B i x l k p)
  .rintro d c rfl p;exact a c (λq=>g i d x l k (q▸p))
theorem Qmg{T E i n t:Nat}{x:Operand}{es:List (List A)}(ht:P.underlying T=some (.slice E))(hE:P.underlying E=some (.int .u8))(hn:es.length=n)(h0:Nat.blt 0 n=true)
  (ho:o.op=.convert T T x:=by exact rfl)(hx:opA env x=.osl i 0 n 1:=by exact rfl)(hH:H[i]?=some (.row t 1 es):=by exact rfl):
  OpH P o env H (.rsl 1 es) (H.set i .dead):=by
 intro fr O σ N a w r;subst hn;have B:=Qg r x;rw[hx]at B;rcases B with⟨hz,_⟩|⟨b,p,J,t',m,B,h2,h6,h3,h4,h5⟩
 .rw[hz]at h0;simp at h0
 .have aa:0<es.length:=by simpa using h0
  obtain rfl:=h6 (by omega);obtain⟨R,G,h⟩:=r.sim.own i b _ B hH rfl;obtain⟨l,V,q2⟩:=r.sim.blk i _ _ B hH;have s1:=r.sim.kill i;have g:∀(j:Nat) (y:Blk),σ[j]?=some (some b)->(H.set i .dead)[j]?=some y->y.live=true->False:=by
   intro j y F f u;by_cases q:j=i
   .subst q;rw[Xb]at f;simp only[if_true]at f;split at f
    .cases f;simp[Blk.live]at u
    .simp at f
   .rw[XT (λz=>q z.symm)]at f;exact q (r.sim.inj j i b y _ F B f hH u rfl)
  have L:∀(j d:Nat) (y:Blk),σ[j]?=some (some d)->(H.set i .dead)[j]?=some y->Hid w y d b->False:=by
   intro j d y F f u;by_cases q:j=i
   .subst q;rw[Xb]at f;simp only[if_true]at f;split at f
    .cases f;exact u.elim
    .simp at f
   .rw[XT (λz=>q z.symm)]at f;exact(r.sim.hid j d y b F f u).ne i b _ B hH rfl rfl
  let fz:Nat×Nat:=(l.length,l.length+1)
  have Y:∀y,w.shape? b=some y->({w with heap:=w.heap.setIfInBounds b (.cells l.toArray t fz)}:World).shape? b=some y:=by
   intro y W;unfold World.shape? at W⊢;rw[V]at W;have e:(w.heap.setIfInBounds b (.cells l.toArray t fz))[b]?=some (.cells l.toArray t fz):=by rw[Vi,Vx rfl,Vx R]
   simp only[e];exact W
  obtain⟨s2,s⟩:=s1.touch (obj:=.cells l.toArray t fz) G h g L Y;have s3:=s2.addRo (b:=b) (by simpa using R) h g (λj d y F f u=>L j d y F f (s1.hidKeep F f (λz=>by
   show(w.heap.setIfInBounds b _)[d]?=_;rw[Vi,Vw (λe:b=d=>g j y (by rw[e];exact F) f z)]) s.keepRo u))
  have k:({w with heap:=w.heap.setIfInBounds b (.cells l.toArray t fz)}:World).heap[b]?=some (.cells (([]:List Value)++l).toArray t fz):=by
   show(w.heap.setIfInBounds b _)[b]?=_;rw[Vi,Vx rfl,Vx R];rfl
  have M:Ext O [] w O [] {w with heap:=w.heap.setIfInBounds b (.cells l.toArray t fz)}:=s.ext0 [];refine⟨.slice (some ⟨b,0*1,none⟩) es.length J,_,λc=>O c\/c=b,[],?_,?_,by simpa using s3,s.trans (YV λ_ q=>.inl q)⟩
  .have hf:w.freeze ⟨b,l.length,none⟩ 1={w with heap:=w.heap.setIfInBounds b (.cells l.toArray t fz)}:=by
    unfold World.freeze;simp only[Nat.one_ne_zero,if_false];rw[Qbf V];rfl
   have Q:(markStringish ⟨b,0*1,none⟩).run P w=.ok () {w with heap:=w.heap.setIfInBounds b (.cells l.toArray t fz)}:=by
    rw[<- hf];unfold markStringish;simp[shape,freeze,Sem.run,World.shape?,V,Result.andThen]
   have hu:∀w,(underlying T).run P w=.ok (.slice E) w:=run_underlying ht;have X:∀w,(underlying E).run P w=.ok (.int .u8) w:=run_underlying hE;generalize a.eval=ρ at*;simp only[execOp,ho,h2,convert,Vr,hu,X,Result.andThen,beq_self_eq_true,Q,Vs]
  .refine⟨some ⟨b,0*1,none⟩,J,rfl,h3,.inr ⟨b,0*1,rfl,.inr rfl,?_⟩⟩;have:=YX (pre:=[]) k (q2.mono M);exact(by simpa using this:RR O [] _ b 1 es (0*1)).keep ⟨λ_ q=>.inl q,λ_ _=>rfl,λ_ _ q=>q,λ_ _ q=>q⟩ rfl
end
mutual
theorem QdB(ρ:Nat->Nat):∀{a:A},Yr a=true->YF ρ a=a
 |.any,_=>rfl
 |.bool _,_=>rfl
 |.int _ _,_=>rfl
 |.str _,_=>rfl
 |.nilp,_=>rfl
 |.ptr _ _,h=>by simp[Yr]at h
 |.rp _,_=>rfl
 |.nils,_=>rfl
 |.rsl _ _,_=>rfl
 |.osl _ _ _ _,h=>by simp[Yr]at h
 |.agg cs,h=>by simp only[Yr]at h;simp only[YF,Qaf ρ h]
 |.fn f a c,h=>by simp only[Yr,X0]at h;simp only[YF,Qaf ρ h.1,Qaf ρ h.2]
 |.nilf,_=>rfl
 |.iface t a,h=>by simp only[Yr]at h;simp only[YF,QdB ρ h]
 |.nilif,_=>rfl
 |.map _,h=>by simp[Yr]at h
 |.nilm,_=>rfl
 |.tup vs,h=>by simp only[Yr]at h;simp only[YF,Qaf ρ h]
theorem Qaf(ρ:Nat->Nat):∀{l:List A},Yn l=true->Qaa ρ l=l
 |[],_=>rfl
 |a::l,h=>by simp only[Yn,X0]at h;simp only[Qaa,QdB ρ h.1,Qaf ρ h.2]
end
theorem Qgz{α:Type}{e:α->List A}(b:∀x,Yn (e x)=true):∀L:List α,Yn (L.map e).flatten=true
 |[]=>rfl
 |c::L=>by
  have hdt:∀cs ds:List A,Yn cs=true->Yn ds=true->Yn (cs++ds)=true:=by
   intro cs
   induction cs with
   |nil=>intro ds _ h;exact h
   |cons c cs f=>
    intro ds a d;simp only[Yn,X0,VO]at a⊢;exact⟨a.1,f ds a.2 d⟩
  simp only[Vn,Vq];exact hdt _ _ (b c) (Qgz b L)
theorem QoA{α:Type}{e:α->List A}(hd:∀x,Yn (e x)=true)(ρ:Nat->Nat)(l:List α):YF ρ (.agg (l.map e).flatten)=.agg (l.map e).flatten:=
 QdB ρ (by simp only[Yr];exact Qgz hd l)
end Go.Sw
namespace Go.Sw
section
variable {P:Program} {o:Oper} {env:Env} {H:Qd}
theorem QeG{c:Call}{f T:Nat}{x:Operand}{xs:List Operand}{n:Array TypeId}{name:String}{v:A}{args:List A}(b:∀(a:Array Value) (w:World),(callFunc f a).run P w=.ok (.enter f a) w)(j:o.op=.call c)
  (p:c={callee:=.invoke x name,args:=xs.toArray,argTypes:=n})(m:opA env x=.iface T v)(hargs:v::xs.map (opA env)=args)
  (i:∀(u:Value) (w:World),(method (P.types.size+Made.depth) T u name).run P w=.ok (f,u) w):OpC P o env H f args:=by
 intro s q σ N a w r;have d:=Qg r x;rw[m]at d;obtain⟨u,d,k⟩:=d;refine⟨u::xs.map a.eval,?_,hargs▸⟨u,xs.map a.eval,rfl,k,Qbl r xs⟩⟩;subst p;generalize a.eval=ρ at*;have e:(#[ρ x]++(xs.toArray.map ρ):Array Value)=(.iface T u::xs.map ρ).toArray:=by rw[d];simp
 have g:((.iface T u::xs.map ρ).toArray.extract 1 (.iface T u::xs.map ρ).toArray.size:Array Value)=(xs.map ρ).toArray:=by
  simp[VM]
 have h:∀l:Array Value,(callMethod (.iface T u) name l).run P w=.ok (.enter f (#[u]++l)) w:=by
  intro l;simp only[callMethod,Vr,run_program,Result.andThen,i,b]
 simp only[execOp,j,resolve,e,invoke,Vr,Vs,Result.andThen];simp only[XK,XI,g,h];simp
theorem QbC{T I:Nat}{x:Operand}{v:A}{d:TypeDesc}(e:∀w,(underlying T).run P w=.ok d w)(f:∀m,d≠ .interface m)(g:o.op=.typeAssert x I T true:=by exact rfl)(hx:opA env x=.iface T v:=by exact rfl):
  OpV P o env H (.tup [v,.bool true]):=by
 intro j i σ N a w r;have b:=Qg r x;rw[hx]at b;obtain⟨u,b,h⟩:=b;refine⟨.tuple #[u,.bool true],?_,[u,.bool true],rfl,_,_,rfl,h,_,_,rfl,rfl,rfl⟩;generalize a.eval=ρ at*;cases d<;>first|(simp[execOp,g,b,Instr.typeAssert,e,go_sem];done)|exact(f _ rfl).elim
theorem QhO{T T' I:Nat}{x:Operand}{v z:A}{zv:Value}{d:TypeDesc}(g:∀w,(underlying T).run P w=.ok d w)(j:∀m,d≠ .interface m)(b:Nat.beq T' T=false)(i:∀w,(zeroValue T).run P w=.ok zv w)(f:ZR z zv)
  (h:o.op=.typeAssert x I T true:=by exact rfl)(hx:opA env x=.iface T' v:=by exact rfl):
  OpV P o env H (.tup [z,.bool false]):=by
 intro p l σ N a w r;have e:=Qg r x;rw[hx]at e;obtain⟨u,e,n⟩:=e;have k:T'≠T:=λq=>by rw[q,VJ]at b;cases b
 refine⟨.tuple #[zv,.bool false],?_,[zv,.bool false],rfl,_,_,rfl,f _ _ _,_,_,rfl,rfl,rfl⟩;generalize a.eval=ρ at*;cases d<;>first|(simp[execOp,h,e,Instr.typeAssert,g,k,i,go_sem];done)|exact(j _ rfl).elim
end
def TL(P:Program)(h0 N:Nat)(c:Code)(env:Env)(H:Qd)(Q:QD):Prop:=
 ∀rd fr ro σ a w,Rel fr ro σ H env N a w->Qet rd fr w->∀(b:Frame) (k:List Item) (cs:List Frame),b.roundOf=(WF rd).round->(WF rd).fn b.fn->(WF rd).room (cs.length+1+0)->∃e a' w',QaQ h0 fr ro σ w N a.defers Q e a' w'/\ArrivesIn (Machine.fenced P (WF rd)) P (lone (b.atR a (.code c::.inLoop c::k)) cs w) b k cs e a' w'
def Qke(P:Program)(h0 N:Nat)(c:Code)(Q:QD):QD
 |.normal,env,H=>TL P h0 N c env H Q
 |.exit id,env,H=>Q (.exit id) env H
 |.ret,env,H=>Q .ret env H
section
variable {P:Program} {h0 N:Nat} {c:Code} {env:Env} {H:Qd} {Q:QD}
theorem Qn3(h:TL P h0 N c env H Q):TC P h0 N (.loop c) env H Q:=by
 intro j m f σ a w r hrd b k cs hro hb hr;obtain⟨e,l,i,g,d⟩:=h j m f σ a w r hrd b k cs hro hb hr;exact⟨e,l,i,g,.of_steps (.one (fenced_calm hb hr rfl) stepR_loop) d⟩
theorem TL.round(h:TC P h0 N c env H (Qke P h0 N c Q)):TL P h0 N c env H Q:=by
 intro E y z σ a w r hrd b k cs hro hb hr;obtain⟨e,n,l,J,d⟩:=h E y z σ a w r hrd b (.inLoop c::k) cs hro hb hr;obtain⟨x,f,H',j,σ',i,m,u,F,p,B,s⟩:=J;have G:∀x,Q x f H'->ExR e x->QaQ h0 y z σ w N a.defers Q e n l:=λx q L=>⟨x,f,H',j,σ',i,L,q,F,p,B,s⟩;cases e with
 |normal=>
  obtain rfl:x=.normal:=m;obtain⟨O,M,w2,t,g⟩:=u E i j σ' n l F (hrd.to p s.sub) b k cs hro hb hr;exact⟨O,M,w2,t.grow p B s,.of_steps (StepsIn.trans d (.one (fenced_calm hb hr rfl) stepR_inLoop)) g⟩
 |exit id=>
  obtain rfl:x=.exit id:=m;exact⟨_,n,l,G _ u rfl,.pass (x:=.inLoop c) rfl (λ_ _=>.inl (by simp)) d⟩
 |ret=>
  obtain rfl:x=.ret:=m;exact⟨_,n,l,G _ u rfl,.pass (x:=.inLoop c) rfl (λ_ _=>.inl (by simp)) d⟩
 |_=>exact m.elim
theorem unrN(h:TC P h0 N c env H (Qke P h0 N c Q)):Qke P h0 N c Q .normal env H:=TL.round h
theorem unrX{id:Nat}(h:Q (.exit id) env H):Qke P h0 N c Q (.exit id) env H:=h
theorem unrR(h:Q .ret env H):Qke P h0 N c Q .ret env H:=h
theorem QlY(h:TC P h0 N c env H (Qke P h0 N c Q)):TC P h0 N (.loop c) env H Q:=Qn3 (TL.round h)
end
section
variable {P:Program} {o:Oper} {env:Env} {H:Qd}
theorem OpV.ixL{t et k b n j:Nat}{x y:Operand}{e:IntKind}{i:Int}(d:Nat.blt j n=true)(hi:i=(j:Int))(f:∀w,(underlying t).run P w=.ok (.slice et) w)(a:∀w,(sizeOf et).run P w=.ok k w)
  (g:o.op=.indexAddr t x y:=by exact rfl)(hx:opA env x=.osl b 0 n k:=by exact rfl)(hy:opA env y=.int e i:=by exact rfl):OpV P o env H (.ptr b (j*k)):=by
 subst hi;have h:=QhP (H:=H) g f a hx hy (by omega) (by simpa using d)
 rwa [Int.toNat_natCast,Nat.zero_mul,Xy]at h
end
theorem QfO{ro:Nat->Prop}{σ:Sig}{w:World}{k:Nat}:∀{es:List (List A)} {l l':List Value},RL ro σ w k es l->l.take (es.length*k)=l'.take (es.length*k)->RL ro σ w k es l'
 |[],_,_,_,_=>trivial
 |c::es,l,l',h,hp=>by
  obtain⟨l1,l2,rfl,h1,h2,h3⟩:=h;have hl1:l1.length=k:=by rw[h2.1.length];exact h1
  have a:l'.take k=l1:=by
   have:=congrArg (List.take k) hp;simp only[List.take_take,X5,Xm]at this;rw[XE (by omega)]at this;rw[<- this, <- hl1];simp
  refine⟨l1,l'.drop k,by rw[<- a,XC],h1,h2,QfO h3 ?_⟩;have:=congrArg (List.drop k) hp;simp only[X5,Xm,List.drop_take]at this;rw[show es.length*k+k-k=es.length*k by omega]at this;rw[<- this, <- hl1];simp
section
variable {P:Program} {o:Oper} {env:Env} {H:Qd}
theorem Qgb{c:Call}{T et k b s n t:Nat}{x:Operand}{es es':List (List A)}{z:Value}(ht:P.underlying T=some (.slice et))(hz:∀w,(zeroValue et).run P w=.ok z w)(V:z.cells.size=k)(L:∀v∈z.cells,Qq v)
  (Y:es.take s=es')(hb:s+n=es.length)(ho:o.op=.call c:=by exact rfl)(hc:c={callee:=.builtin .clear,args:= #[x],argTypes:= #[T]}:=by exact rfl)
  (hx:opA env x=.osl b s n k:=by exact rfl)(hH:H[b]?=some (.row t k es):=by exact rfl):OpH P o env H (.tup []) (H.set b (.row t k es')):=by
 intro J E σ N a w r;subst Y hc;have X:∀w,(underlying T).run P w=.ok (.slice et) w:=run_underlying ht;have j:=Qg r x;rw[hx]at j;have h:Sim J E σ (H.set b (.row t k (es.take s))) w:=by
  refine r.sim.weaken hH rfl ?_;intro y G;cases y with
  |none=>rw[show es=[]from G];simp[BR]
  |some O=>obtain⟨l,g1,g2⟩:=G;exact⟨l,g1,RL.take s g2⟩
 have f:∀v,a.eval x=v->(Builtin.clear_ #[T] o.type #[v]).run P w=.ok (.tuple #[]) w->
   ∃v w' ro' τ,(execOp a.eval o).run P w=.ok (.value v) w'/\VR ro' (σ++τ) w' (.tup []) v/\Sim J ro' (σ++τ) (H.set b (.row t k (es.take s))) w'/\Qh J E w ro' w':=by
  intro v F d;refine⟨.tuple #[],w,E,[],?_,⟨[],rfl,rfl⟩,by simpa using h,Qh.refl _ _ _⟩;generalize a.eval=ρ at*;simp only[execOp,ho,resolve,Vr,Vs,Result.andThen,invoke,builtin,XM,Vn,Vp,F,d]
 rcases j with⟨hn,j⟩|⟨O,p,W,t',m,j,h2,h3,h4,h5,h6⟩
 .refine f _ j ?_;simp[Builtin.clear_,X,Result.andThen]
 .by_cases hn:n=0
  .subst hn;refine f _ h2 ?_;simp[Builtin.clear_,X,Result.andThen]
  .obtain rfl:=h3 (by omega);obtain⟨l,q1,q2⟩:=r.sim.blk b _ _ j hH;have ab:=q2.length
   let vs:=(Builtin.zeroCells z.cells n).toList
   have ae:vs.length=n*k:=by simp[vs,Builtin.zeroCells,V]
   have Q:∀v∈vs,Qq v:=by
    intro v F;simp only[vs,Builtin.zeroCells,Array.toList_map,Xe,Array.toList_range,List.mem_range]at F;obtain⟨i,hi,rfl⟩:=F;have B:0<z.cells.size:=by
     rcases Nat.eq_zero_or_pos z.cells.size with q|q
     .rw[q,Nat.mul_zero]at hi;omega
     .exact q
    have u:i%z.cells.size<z.cells.size:=Nat.mod_lt _ B;rw[getElem!_pos z.cells _ u];exact L _ (Array.getElem_mem u)
   have ac:s*k+n*k=es.length*k:=by rw[<- XD,hb]
   have d:=Q3 (P:=P) (vs:=vs) (s*k) 0 q1 (by omega) Q;have g:=r.sim.set (x':=.row t k (es.take s)) (obj:=.cells (splice l (s*k) vs).toArray t (0,0)) j hH rfl
    (λy G=>Qae q1 (Q2 (by omega)) y G)
    (λex M=>⟨_,M,by
     refine(QfO (RL.take s q2) ?_).mono ex.nil;have hl:(es.take s).length*k<=s*k:=XF k (by simp;omega);have R:(es.take s).length*k<=(l.take (s*k)).length:=by rw[XA (i:=s*k),XE (by omega)];exact hl
     have e:=Vb (l₂:=vs++l.drop (s*k+vs.length)) R;unfold splice;rw[Vm,e,List.take_take,XE hl]⟩)
   refine⟨.tuple #[],_,E,[],?_,⟨[],rfl,rfl⟩,by simpa using g.1,g.2⟩;have aa:(Builtin.clear_ #[T] o.type #[.slice (some ⟨O,s*k,none⟩) n W]).run P w=.ok (.tuple #[]) {w with heap:=w.heap.setIfInBounds O (.cells (splice l (s*k) vs).toArray t (0,0))}:=by
    obtain⟨n',rfl⟩:∃n',n=n'+1:=⟨n-1,by omega⟩;simp only[Xz]at d;simp only[Builtin.clear_,XK,XI,Vr,X,hz,Result.andThen,d,Vs,vs]
   generalize a.eval=ρ at*;simp only[execOp,ho,resolve,Vr,Vs,Result.andThen,invoke,builtin,XM,Vn,Vp,h2,aa]
end
def isNil{α R:Type}[DecidableEq R](l:List α)(x y:Option R):Option R:=bif l.isEmpty then(bif decide (x=y)then x else none)else y
theorem Qiu{α R:Type}[DecidableEq R]{l:List α}{x y:Option R}{r:R}(h:isNil l x y=some r)(b:Bool)(d:l≠[]->b=false):(b=true->x=some r)/\(b=false->y=some r):=by
 unfold isNil at h;cases q:l.isEmpty with
 |true=>
  rw[q]at h;by_cases a:x=y
  .subst a;simp at h;exact⟨λ_=>h,λ_=>h⟩
  .simp[a]at h
 |false=>
  rw[q]at h;have f:l≠[]:=by rintro rfl;cases q
  refine⟨λe=>?_,λ_=>h⟩;rw[d f]at e;cases e
section
variable {P:Program} {o:Oper} {env:Env} {H:Qd} {h0 N:Nat} {Q:QD}
theorem Qmh{α:Type}{e:α->List A}{T E k:Nat}{u:TypeId}{x:Operand}{l:List α}(i:P.underlying T=some (.slice E))(m:o.op=.binOp .eql T x (.const (.slice none 0 0)) u)(n:opA env x=.rsl k (l.map e)):
  OpE P o env H (λv H'=>∃b:Bool,v=.bool b/\(l≠[]->b=false)/\H'=H):=by
 intro y h σ N a w r;have g:=Qg r x;rw[n]at g;obtain⟨ad,d,g,t,f⟩:=g;refine⟨.bool ad.isNone,H,.bool ad.isNone,w,h,[],⟨ad.isNone,rfl,λj=>?_,rfl⟩,?_,rfl,by simpa using r.sim,Qh.refl _ _ _⟩
 .rcases f with f|⟨b,p,f,_⟩
  .exact absurd (List.map_eq_nil_iff.1 f) j
  .rw[f];rfl
 .have s:a.eval (.const (.slice none 0 0))=.slice none 0 0:=rfl;generalize a.eval=ρ at*;have q:(eqGuard .eql T x (.const (.slice none 0 0)) (.slice ad (l.map e).length d) (.slice none 0 0)).run P w=.ok () w:=by simp[eqGuard]
  simp only[execOp,m,g,s,Vr,q,Result.andThen,Go.run_eql_slice_nil w T E ad _ d i,Vs]
theorem Qi9{α:Type}{e:α->List A}{T E k d:Nat}{u:TypeId}{x:Operand}{l:List α}{all:Array Oper}{L:List Oper}(f:P.underlying T=some (.slice E))(i:opA env x=.rsl k (l.map e))
  (a:∀b:Bool,(l≠[]->b=false)->WO P h0 N all L (up env d (.bool b)) H Q)
  (h:o.op=.binOp .eql T x (.const (.slice none 0 0)) u:=by exact rfl)(hg:Qp all o env true:=by exact rfl)(hd:o.dst=some d:=by exact rfl)(hN:Nat.blt d N=true:=by exact rfl)(hh:Nat.ble h0 H.length=true:=by exact rfl):WO P h0 N all (o::L) env H Q:=by
 refine Qkd (XV hh) hg hd hN (Qmh f h i) ?_;rintro v H' ⟨b,rfl,g,rfl⟩;exact a b g
end
theorem slc0{α:Type}{l x:List α}{i:Int}(h:slc l 0 i=some x):0<=i/\i.toNat<=l.length/\l.take i.toNat=x/\x.length=i.toNat:=by
 obtain⟨_,d,e,b⟩:=QdA h;have a:l.take i.toNat=x:=by simpa using b
 exact⟨d,by omega,a,by rw[<- a,XA];omega⟩
section
variable {P:Program} {o:Oper} {env:Env} {H:Qd} {α:Type} {e:α->List A} {T et k b t:Nat} {x y:Operand} {l l':List α} {i:Int}
theorem Qkj(h:slc l 0 i=some l')(E1:∀w,(underlying T).run P w=.ok (.slice et) w)(E2:∀w,(sizeOf et).run P w=.ok k w)(a:o.op=.slice T x (some y) none none:=by exact rfl)
  (hx:opA env x=.osl b 0 l.length k:=by exact rfl)(hy:opA env y=.int .i64 i:=by exact rfl):OpV P o env H (.osl b (0+i.toNat) (l.length-i.toNat) k):=by
 obtain⟨e,d,_,_⟩:=slc0 h;exact QfT E1 E2 a hx (.inr ⟨y,i,rfl,hy,e,rfl⟩) (.inl ⟨rfl,rfl⟩) d (XX _)
theorem Qkk(h:slc l 0 i=some l')(E1:∀w,(underlying T).run P w=.ok (.slice et) w)(E2:∀w,(sizeOf et).run P w=.ok k w)(a:o.op=.slice T x none (some y) none:=by exact rfl)
  (hx:opA env x=.osl b 0 l.length k:=by exact rfl)(hy:opA env y=.int .i64 i:=by exact rfl):OpV P o env H (.osl b 0 l'.length k):=by
 obtain⟨e,d,_,f⟩:=slc0 h;have:=QfT (H:=H) E1 E2 a hx (.inl ⟨rfl,rfl⟩) (.inr ⟨y,i,rfl,hy,e,rfl⟩) (XY _) d;rw[f];simpa using this
theorem Qkn{c:Call}{z:Value}(h:slc l 0 i=some l')(f:P.underlying T=some (.slice et))(j:∀w,(zeroValue et).run P w=.ok z w)(d:z.cells.size=k)(a:∀v∈z.cells,Qq v)(g:o.op=.call c:=by exact rfl)(hc:c={callee:=.builtin .clear,args:= #[x],argTypes:= #[T]}:=by exact rfl)
  (hx:opA env x=.osl b (0+i.toNat) (l.length-i.toNat) k:=by exact rfl)(hH:H[b]?=some (.row t k (l.map e)):=by exact rfl):OpH P o env H (.tup []) (H.set b (.row t k (l'.map e))):=by
 obtain⟨q,p,m,n⟩:=slc0 h;refine Qgb f j d a ?_ ?_ g hc hx hH
 .rw[Xy, <- m,List.map_take]
 .rw[X6];omega
end
end Go.Sw
namespace Go.Sw
open Go.Sort Go.Proofs Go.Shelf
def ltI(x y:Int):Bool:=decide (x<y)
def sortI(l:List Int):Option (List Int):=bif Nat.ble l.length Qy then some (Ya ltI l)else none
theorem Qh5{l l':List Int}(h:sortI l=some l'):l.length<=Qy/\Ya ltI l=l':=by
 unfold sortI at h;cases e:Nat.ble l.length Qy with
 |false=>rw[e]at h;simp at h
 |true=>rw[e]at h;exact⟨XV e,X4 h⟩
theorem Qad{l l':List Int}(h:sortI l=some l'):l.length=l'.length:=by
 rw[<- (Qh5 h).2];exact(Ql _ _).length_eq.symm
theorem Qcd(l:List Int):Qei ltI l:=
 ⟨λx _=>by simp[ltI],λx _ y _ z _ a b=>by simp[ltI]at*;omega,λx _ y _ z _ a b=>by simp[ltI]at*;omega⟩
theorem Qeq(l:List Int):(l.mergeSort λx y=>decide (x<=y))=Ya ltI l:=by
 refine Jp (lt:=ltI) ?_ ?_ ?_ (QP (Qcd l))
 .exact(List.mergeSort_perm _ _).trans (Ql _ _).symm
 .intro x _ y _ a b;simp[ltI]at*;omega
 .refine(List.pairwise_mergeSort (le:=λx y=>decide (x<=y)) ?_ ?_ l).imp ?_
  .intro a b c;simp;omega
  .intro a b;simp;omega
  .intro a b;simp[ltI]
theorem Qk9{ro:Nat->Prop}{σ:Sig}{w:World}:∀{l:List Int} {lv:List Value},RL ro σ w 1 (l.map λx=>[A.int .i64 x]) lv->∃rest,lv=l.map (Value.int .i64)++rest
 |[],lv,_=>⟨lv,rfl⟩
 |x::l,lv,h=>by
  obtain⟨l1,l2,rfl,h1,⟨h2,h3⟩,h4⟩:=h;obtain⟨rest,rfl⟩:=Qk9 (l:=l) h4;obtain⟨v,r,rfl,hv,hr⟩:=h2;cases(show r=[]from hr);exact⟨rest,by rw[show v=.int .i64 x from hv];simp⟩
theorem QfP{ro:Nat->Prop}{σ:Sig}{w:World}:∀(l:List Int) (rest:List Value),RL ro σ w 1 (l.map λx=>[A.int .i64 x]) (l.map (Value.int .i64)++rest)
 |[],_=>trivial
 |x::l,rest=>⟨[.int .i64 x],l.map (Value.int .i64)++rest,by simp,rfl,⟨⟨_,_,rfl,rfl,rfl⟩,by simp[Qq]⟩,QfP l rest⟩
theorem Qlj{P:Program}{ρ:Ren}(L:Lays.n189 P ρ){t:Nat}{l l':List Int}(hs:sortI l=some l'):
  C P (ρ.f 189) [.osl 0 0 l.length 1] [.row t 1 (l.map λx=>[A.int .i64 x])] (λa H=>a=.tup []/\H=[.row t 1 (l'.map λx=>[A.int .i64 x])]):=by
 intro fr M σ vals w s hv;obtain⟨vs,r1,rfl,af,hr⟩:=hv;cases(show r1=[]from hr);obtain⟨aa,X⟩:=Qh5 hs;have d:∀(ad:Option Addr) (c:Nat),vs=.slice ad 0 c->l=[]->
   Calls P (ρ.f 189) [vs].toArray w λe R=>∃v r H' ro' τ,e=.returned v/\(r=.tup []/\H'=[.row t 1 (l'.map λx=>[A.int .i64 x])])/\Sim fr ro' (σ++τ) H' R/\VR ro' (σ++τ) R r v/\Qh fr M w ro' R:=by
  rintro ad c rfl rfl;have F:l'=[]:=by rw[<- X];rfl
  subst F;refine(Any.slices_Sort_int_none L ad c w).mono ?_;rintro e R ⟨rfl,rfl⟩;exact⟨_,_,_,M,[],rfl,⟨rfl,rfl⟩,by simpa using s,⟨[],rfl,rfl⟩,Qh.refl _ _ _⟩
 rcases af with⟨h0,rfl⟩|⟨b,p,cp,t',m,q1,rfl,q2,q3,q4,q5⟩
 .exact d none 0 rfl (VN.1 h0)
 .by_cases F:l=[]
  .subst F;exact d _ cp rfl rfl
  .have ae:0<l.length:=List.length_pos_iff.2 F;obtain rfl:=q2 (Vj ae q3);obtain⟨lv,e1,e2⟩:=s.blk 0 _ _ q1 rfl;obtain⟨hb,Y,T⟩:=s.own 0 b _ q1 rfl rfl;obtain⟨k,rfl⟩:=Qk9 e2;have hH:Holds (Value.int .i64) w b 0 l.toArray:=by
    intro j hj;simp only[List.size_toArray]at hj;constructor
    .unfold World.cell?;simp only[e1,Option.isSome_none,Xi,if_false,Xy];rw[Qac,XQ (by simpa using hj)];simp[hj]
    .unfold World.frozen?;simp only[e1];simp
   have z:=Any.slices_Sort_int L b 0 cp l w hH hb (by unfold Qy at aa;omega);rw[Qeq,X]at z;simp only[Nat.zero_mul]at z⊢;refine z.mono ?_;rintro e R ⟨rfl,n,os,rfl⟩;have E:l.length=l'.length:=Qad hs;generalize hW:grow (putRow (Value.int .i64) (Sort.ahead w n) b 0 l'.toArray) os=W;have g:W.heap=w.heap.setIfInBounds b (.cells ((l'.map (Value.int .i64)++k)).toArray t (0,0))++os:=by
    rw[<- hW];show(w.heap.modify b _)++os=_;rw[Qbf e1];simp only[onCells];congr 3;unfold putCells;apply Array.ext_getElem?;intro i;simp only[Array.getElem?_mapIdx,Qac,XY,true_and,Xy,Xx,List.size_toArray];by_cases hi:i<l'.length
    .rw[XQ (by simpa[E]using hi),XQ (by simpa using hi)];simp[hi,E]
    .rw[XR (by simp;omega),XR (by simp;omega)];simp only[X6,E];cases(k[i-l'.length]?)with
     |none=>rfl
     |some v=>exact congrArg some (Vw hi)
   have g1:∀c,c<w.heap.size->c≠b->W.heap[c]?=w.heap[c]? :=by
    intro c u ai;rw[g,Array.getElem?_append_left (by simpa using u),Vi,Vw (λq=>ai q.symm)]
   have g2:W.heap[b]?=some (.cells ((l'.map (Value.int .i64)++k)).toArray t (0,0)):=by
    rw[g,Array.getElem?_append_left (by simpa using hb),Vi,Vx rfl,Vx hb]
   have g3:w.heap.size<=W.heap.size:=by rw[g];simp
   have B:∀c y,w.shape? c=some y->W.shape? c=some y:=by
    intro c y G;by_cases u:c=b
    .subst u;unfold World.shape? at G⊢;rw[e1]at G;rw[g2];simp only[Option.some.injEq]at G⊢;rw[<- G];simp[E]
    .unfold World.shape? at G⊢;rw[g1 c (QbP G) u];exact G
   have ac:W.os=w.os:=by rw[<- hW];rfl
   have ah:W.tape=w.tape:=by rw[<- hW];rfl
   have ag:W.output=w.output:=by rw[<- hW];rfl
   have ab:w.drawn<=W.drawn:=by rw[<- hW];exact Nat.le_add_right _ _
   have Q:Qh fr M w M W:=
    ⟨λ_ q=>q,λc u=>g1 c (s.roLt c u) (λq=>Y (q▸u)),λc u=>g1 c (s.frLt c u) (λq=>T (q▸u)),g3,B,ac,ah,ag,ab⟩
   have J:σ.length=1:=s.len;have V:Sim fr M σ [.row t 1 (l'.map λx=>[A.int .i64 x])] W:=by
    have i0:∀{i:Nat} {x:Blk},([.row t 1 (l'.map λx=>[A.int .i64 x])]:Qd)[i]?=some x->i=0/\x=.row t 1 (l'.map λx=>[A.int .i64 x]):=by
     intro i x h;cases i with
     |zero=>simp at h;exact⟨rfl,h.symm⟩
     |succ i=>simp at h
    refine⟨J,s.roOk.to (λ_ q=>q) Q.keepRo (λc u=>Vj (s.roLt c u) g3),λc u=>Vj (s.frLt c u) g3,s.roFr,λi c x N O h3=>?_,λi j c x y N O h3 h4 _ _=>?_,λi y x N O=>?_,λi b x c N O h3=>by obtain⟨rfl,rfl⟩:=i0 O;exact h3.elim⟩
    .obtain⟨rfl,rfl⟩:=i0 O;obtain⟨p1,p2⟩:=s.own 0 c _ N rfl rfl;exact⟨Vj p1 g3,p2⟩
    .rw[(i0 h3).1,(i0 h4).1]
    .obtain⟨rfl,rfl⟩:=i0 O;rw[q1]at N;cases N;exact⟨_,g2,QfP l' k⟩
   exact⟨_,_,_,M,[],rfl,⟨rfl,rfl⟩,by simpa using V,⟨[],rfl,rfl⟩,Q⟩
def QaP(p:Int):List Int->List Int
 |[]=>[]
 |y::l=>bif y==p then QaP p l else y::QaP y l
def Qi1:List Int->List Int
 |[]=>[]
 |x::l=>x::QaP x l
section
variable {P:Program} {o:Oper} {env:Env} {H:Qd} {α:Type} {e:α->List A} {T et k b t:Nat} {x y:Operand}
theorem Qcm{lo hi:Option Operand}{l r:List α}{a c:Int}(h:slc l a c=some r)(E1:∀w,(underlying T).run P w=.ok (.slice et) w)(E2:∀w,(sizeOf et).run P w=.ok k w)
  (g:lo=none/\a=0\/ ∃y,lo=some y/\opA env y=.int .i64 a)(f:hi=none/\c=l.length\/ ∃y,hi=some y/\opA env y=.int .i64 c)
  (j:o.op=.slice T x lo hi none:=by exact rfl)(hx:opA env x=.osl b 0 l.length k:=by exact rfl):OpV P o env H (.osl b (0+a.toNat) (c.toNat-a.toNat) k):=by
 obtain⟨i,n,m,_⟩:=QdA h;refine QfT (l:=a.toNat) (h:=c.toNat) E1 E2 j hx ?_ ?_ (by omega) (by omega)
 .rcases g with⟨d,e⟩|⟨y,d,e⟩
  .exact .inl ⟨d,by rw[e];rfl⟩
  .exact .inr ⟨y,a,d,e,i,rfl⟩
 .rcases f with⟨d,e⟩|⟨y,d,e⟩
  .exact .inl ⟨d,by rw[e];simp⟩
  .exact .inr ⟨y,c,d,e,by omega,rfl⟩
end
end Go.Sw
namespace Go.Sw
inductive Bx where
 |mk (a:A)
def lkB:Env->Nat->Bx
 |[],_=>.mk .any
 |(d,a)::r,s=>bif Nat.beq s d then .mk a else lkB r s
theorem QjK:∀{env:Env} {s:Nat} {a:A},lkB env s=.mk a->lk env s=a
 |[],s,a,h=>by cases h;rfl
 |(d,b)::r,s,a,h=>by
  unfold lkB at h;unfold lk;cases q:Nat.beq s d with
  |true=>rw[q]at h;cases h;rfl
  |false=>rw[q]at h;exact QjK h
inductive FBy where
 |mk (l:List UInt8)
def fby:List UInt8->FBy
 |[]=>.mk []
 |a::r=>match fby r with
  |.mk r'=>.mk (a::r')
theorem Qnq:∀l:List UInt8,fby l=.mk l
 |[]=>rfl
 |a::r=>by unfold fby;rw[Qnq r]
def opB(env:Env):Operand->Bx
 |.tmp t=>lkB env t
 |.const (.bool b)=>.mk (.bool b)
 |.const (.int k n)=>.mk (.int k n)
 |.const (.string s)=>match fby s.data.toList with
  |.mk l=>.mk (.str l)
 |.const (.pointer none)=>.mk .nilp
 |.const (.slice none 0 0)=>.mk .nils
 |.const (.map none)=>.mk .nilm
 |.const .nilFunc=>.mk .nilf
 |.const .nilIface=>.mk .nilif
 |.func f=>.mk (.fn (.func f) [] [])
 |_=>.mk .any
theorem QF{env:Env}{x:Operand}{a:A}(h:opB env x=.mk a):opA env x=a:=by
 cases x with
 |tmp t=>exact QjK h
 |const v=>
  cases v with
  |slice b n k=>cases b with
   |none=>cases n with
    |zero=>cases k<;>(cases h;rfl)
    |succ n=>cases h;rfl
   |some b=>cases h;rfl
  |pointer p=>cases p<;>(cases h;rfl)
  |map p=>cases p<;>(cases h;rfl)
  |string s=>
   have d:(match fby s.data.toList with|.mk l=>Bx.mk (.str l))=.mk a:=h;rw[Qnq]at d;cases d;rfl
  |_=>cases h;rfl
 |global g=>cases h;rfl
 |func f=>cases h;rfl
def YQ{α:Type}:List α->Nat->Option α
 |[],_=>none
 |a::_,0=>some a
 |_::r,n+1=>YQ r n
theorem QaD{α:Type}:∀(l:List α) (n:Nat),YQ l n=l[n]?
 |[],n=>by simp[YQ]
 |a::r,0=>rfl
 |a::r,n+1=>by simp[YQ,QaD r n]
def arB:BinOp->IntKind->Int->Int->Option A
 |.add,k,m,n=>some (.int k (k.wrap (m+n)))
 |.sub,k,m,n=>some (.int k (k.wrap (m-n)))
 |.mul,k,m,n=>some (.int k (k.wrap (m*n)))
 |.eql,_,m,n=>some (.bool (m==n))
 |.neq,_,m,n=>some (.bool (m != n))
 |.lss,_,m,n=>some (.bool (decide (m<n)))
 |.leq,_,m,n=>some (.bool (decide (m<=n)))
 |.gtr,_,m,n=>some (.bool (decide (n<m)))
 |.geq,_,m,n=>some (.bool (decide (n<=m)))
 |_,_,_,_=>none
def srB:BinOp->List UInt8->List UInt8->Option A
 |.eql,p,q=>some (.bool (p==q))
 |.neq,p,q=>some (.bool (p != q))
 |.lss,p,q=>some (.bool (Op.bytesLess p q))
 |_,_,_=>none
def biB(b:BinOp):Bx->Bx->Option A
 |.mk (.int k m),.mk (.int k' n)=>if k=k' then arB b k m n else none
 |.mk (.str p),.mk (.str q)=>srB b p q
 |_,_=>none
def unB:UnOp->Bx->Option A
 |.not,.mk (.bool b)=>some (.bool !b)
 |.neg,.mk (.int k n)=>some (.int k (k.wrap (0-n)))
 |_,_=>none
def exB:Bx->Nat->Option A
 |.mk (.tup vs),i=>YQ vs i
 |_,_=>none
def nlB:Bx->Option A
 |.mk (.ptr i j)=>some (.ptr i j)
 |.mk (.rp cs)=>some (.rp cs)
 |_=>none
def piB:Bx->Bx->Bx->Option A
 |.mk (.bool true),.mk a,_=>some a
 |.mk (.bool false),_,.mk a=>some a
 |_,_,_=>none
def svB(env:Env):Op->Option A
 |.move x=>match opB env x with|.mk a=>some a
 |.assign x=>match opB env x with|.mk a=>some a
 |.nilCheck x=>nlB (opB env x)
 |.extract x i=>exB (opB env x) i
 |.unOp u _ x=>unB u (opB env x)
 |.pick c x y=>piB (opB env c) (opB env x) (opB env y)
 |.binOp b _ x y _=>biB b (opB env x) (opB env y)
 |_=>none
def pr(d:Nat):Option A->Option (Nat×A)
 |some a=>some (d,a)
 |none=>none
def stB(o:Oper)(env:Env):Option (Nat×A):=
 match o.dst with
 |some d=>pr d (svB env o.op)
 |none=>none
section
variable {P:Program} {h0 N:Nat} {all:Array Oper} {o:Oper} {l:List Oper} {env:Env} {H H':Qd} {Q:QD} {d:Nat} {x:A}
theorem QbN{p:Op}(d:o.op=p)(h:svB env p=some x):OpV P o env H x:=by
 unfold svB at h;split at h
 .rename_i y;cases q:opB env y with|mk a=>rw[q]at h;cases h;exact OpV.move d (QF q)
 .rename_i y;cases q:opB env y with|mk a=>rw[q]at h;cases h;exact OpV.assign d (QF q)
 .rename_i y;unfold nlB at h;split at h
  .rename_i i j q;cases h;exact YE d (QF q) rfl
  .rename_i w q;cases h;exact YE d (QF q) rfl
  .cases h
 .rename_i y i;unfold exB at h;split at h
  .rename_i vs _ q;rw[QaD]at h;exact OpV.extract d (QF q) h
  .cases h
 .rename_i u t y;unfold unB at h;split at h
  .rename_i b q;cases h;exact OpV.not d (QF q)
  .rename_i k n q;cases h;exact OpV.neg d (QF q)
  .cases h
 .rename_i c y z;unfold piB at h;split at h
  .rename_i a _ l r;cases h;exact OpV.pick d (QF l) (by rw[Vx rfl];exact QF r)
  .rename_i a l r;cases h;exact OpV.pick d (QF l) (by rw[Vw (by decide)];exact QF r)
  .cases h
 .rename_i b t y z u;unfold biB at h;split at h
  .rename_i k m s n l r;split at h
   .rename_i e;subst e;have g:=QF l;have f:=QF r;unfold arB at h;split at h
    .cases h;exact OpV.add d g f
    .cases h;exact OpV.sub d g f
    .cases h;exact OpV.mul d g f
    .cases h;exact OpV.eql d g f
    .cases h;exact OpV.neq d g f
    .cases h;exact OpV.lss d g f
    .cases h;exact OpV.leq d g f
    .cases h;exact OpV.gtr d g f
    .cases h;exact OpV.geq d g f
    .cases h
   .cases h
  .rename_i p q l r;have g:=QF l;have f:=QF r;unfold srB at h;split at h
   .cases h;exact QdV d g f
   .cases h;exact Ql4 d g f
   .cases h;exact Ql5 d g f
   .cases h
  .cases h
 .cases h
theorem Qhd(h:stB o env=some (d,x)):o.dst=some d/\OpV P o env H x:=by
 unfold stB at h;split at h
 .rename_i b q;cases e:svB env o.op with
  |none=>rw[e]at h;cases h
  |some a=>rw[e]at h;cases h;exact⟨q,QbN rfl e⟩
 .cases h
theorem S(e:stB o env=some (d,x))(k:WO P h0 N all l (up env d x) H Q)(hg:Qp all o env true:=by exact rfl)(hN:Nat.blt d N=true:=by exact rfl):WO P h0 N all (o::l) env H Q:=
 QH hg (Qhd (P:=P) (H:=H) e).1 hN (Qhd e).2 k
theorem Sg(hg:Qp all o env true)(e:stB o env=some (d,x))(k:WO P h0 N all l (up env d x) H Q)(a:Nat.blt d N=true:=by exact rfl):WO P h0 N all (o::l) env H Q:=
 QH hg (Qhd (P:=P) (H:=H) e).1 a (Qhd e).2 k
theorem K(hg:Qp all o env false)(a:o.dst=some d)(k:WO P h0 N all l (up env d (.tup [])) H Q)(b:Nat.blt d N=true:=by exact rfl):WO P h0 N all (o::l) env H Q:=
 WO.skip hg a b k
theorem KF{j s:Nat}{c y:Bool}(b:y= !c)(a:o.dst=some d)(k:WO P h0 N all l (up env d (.tup [])) H Q)(e:Nat.blt d N=true:=by exact rfl)(hg:o.guard=some (j,c):=by exact rfl)(hs:(all[j]?).bind (·.dst)=some s:=by exact rfl)(hl:lk env s=.bool y:=by exact rfl):WO P h0 N all (o::l) env H Q:=
 WO.skip (gF b hg hs hl) a e k
def p2B(v:Bool):Bx->Bx->Bx->Option (Bool×A)
 |.mk (.bool b),.mk a,.mk a'=>match v with|true=>some (b,a)|false=>some (b,a')
 |_,_,_=>none
def pr2(d:Nat):Option (Bool×A)->Option (Nat×Bool×A)
 |some a=>some (d,a)
 |none=>none
def pkB(v:Bool)(o:Oper)(env:Env):Option (Nat×Bool×A):=
 match o.dst,o.op with
 |some d,.pick c x y=>pr2 d (p2B v (opB env c) (opB env x) (opB env y))
 |_,_=>none
theorem Qqc{v b:Bool}{p q r:Bx}(h:p2B v p q r=some (b,x)):∃a a',p=.mk (.bool b)/\q=.mk a/\r=.mk a'/\(bif v then a else a')=x:=by
 obtain⟨p⟩:=p;obtain⟨q⟩:=q;obtain⟨r⟩:=r;cases p<;>first|(cases h;done)|skip
 cases v<;>cases h<;>exact⟨_,_,rfl,rfl,rfl,rfl⟩
theorem QmW{v b:Bool}(h:pkB v o env=some (d,b,x))(f:b=v):o.dst=some d/\OpV P o env H x:=by
 unfold pkB at h;split at h
 .rename_i n c y z g k;cases e:p2B v (opB env c) (opB env y) (opB env z)with
  |none=>rw[e]at h;cases h
  |some s=>
   rw[e]at h;cases h;obtain⟨a,p,m,j,l,i⟩:=Qqc e;refine⟨g,OpV.pick k (QF m) ?_⟩;rw[QF j,QF l,f];cases v<;>exact i
 .cases h
theorem Pk{v b:Bool}(a:b=v)(e:pkB v o env=some (d,b,x))(k:WO P h0 N all l (up env d x) H Q)(hg:Qp all o env true:=by exact rfl)(hN:Nat.blt d N=true:=by exact rfl):WO P h0 N all (o::l) env H Q:=
 QH hg (QmW (P:=P) (H:=H) e a).1 hN (QmW e a).2 k
def fpB(o:Oper)(env:Env):Option (Nat×Nat×Nat×Nat×Nat):=
 match o.dst,o.op with
 |some d,.fieldAddr T x f=>match opB env x with
  |.mk (.ptr i p)=>some (d,T,f,i,p)
  |_=>none
 |_,_=>none
theorem Qhu{T f off n i p:Nat}(e:QM P T f off n)(h:fpB o env=some (d,T,f,i,p)):o.dst=some d/\OpV P o env H (.ptr i (p+off)):=by
 unfold fpB at h;split at h
 .rename_i g b;split at h
  .rename_i a;cases h;exact⟨g,Yw e b (QF a)⟩
  .cases h
 .cases h
theorem Fp{T f off n i p:Nat}(a:QM P T f off n)(e:fpB o env=some (d,T,f,i,p))(k:WO P h0 N all l (up env d (.ptr i (p+off))) H Q)(hg:Qp all o env true:=by exact rfl)(hN:Nat.blt d N=true:=by exact rfl):WO P h0 N all (o::l) env H Q:=
 QH hg (Qhu (H:=H) a e).1 hN (Qhu a e).2 k
theorem Fpg{T f off n i p:Nat}(hg:Qp all o env true)(a:QM P T f off n)(e:fpB o env=some (d,T,f,i,p))(k:WO P h0 N all l (up env d (.ptr i (p+off))) H Q)(b:Nat.blt d N=true:=by exact rfl):WO P h0 N all (o::l) env H Q:=
 QH hg (Qhu (H:=H) a e).1 b (Qhu a e).2 k
inductive Lx where
 |mk (l:List A)
def QfF:Nat->List A->Lx
 |0,l=>.mk l
 |n+1,_::r=>QfF n r
 |_+1,[]=>.mk []
theorem Qdh:∀{n:Nat} {l r:List A},QfF n l=.mk r->l.drop n=r
 |0,l,r,h=>by cases h;rfl
 |n+1,a::l,r,h=>by rw[List.drop_succ_cons];exact Qdh h
 |n+1,[],r,h=>by cases h;rfl
def frB(off:Nat)(o:Oper)(env:Env):Option (Nat×Nat×Nat×List A):=
 match o.dst,o.op with
 |some d,.fieldAddr T x f=>match opB env x with
  |.mk (.rp cs)=>match QfF off cs with
   |.mk r=>some (d,T,f,r)
  |_=>none
 |_,_=>none
theorem Qht{T f off n:Nat}{r:List A}(b:QM P T f off n)(h:frB off o env=some (d,T,f,r)):o.dst=some d/\OpV P o env H (.rp r):=by
 unfold frB at h;split at h
 .rename_i e j;split at h
  .rename_i i g;cases a:QfF off i with|mk r'=>rw[a]at h;cases h;exact⟨e,Qv b j (QF g) (Qdh a)⟩
  .cases h
 .cases h
theorem Fr{T f off n:Nat}{r:List A}(a:QM P T f off n)(e:frB off o env=some (d,T,f,r))(k:WO P h0 N all l (up env d (.rp r)) H Q)(hg:Qp all o env true:=by exact rfl)(hN:Nat.blt d N=true:=by exact rfl):WO P h0 N all (o::l) env H Q:=
 QH hg (Qht (H:=H) a e).1 hN (Qht a e).2 k
theorem Frg{T f off n:Nat}{r:List A}(hg:Qp all o env true)(a:QM P T f off n)(e:frB off o env=some (d,T,f,r))(k:WO P h0 N all l (up env d (.rp r)) H Q)(b:Nat.blt d N=true:=by exact rfl):WO P h0 N all (o::l) env H Q:=
 QH hg (Qht (H:=H) a e).1 b (Qht a e).2 k
def ctB:Option Blk->Nat->Option A
 |some (.cells _ cs),off=>YQ cs off
 |_,_=>none
def lvB(H:Qd):Bx->Option A
 |.mk (.ptr i off)=>ctB (YQ H i) off
 |.mk (.rp (a::_))=>some a
 |_=>none
def pr3(d t:Nat):Option A->Option (Nat×Nat×A)
 |some a=>some (d,t,a)
 |none=>none
def ldB(o:Oper)(env:Env)(H:Qd):Option (Nat×Nat×A):=
 match o.dst,o.op with
 |some d,.load t x=>pr3 d t (lvB H (opB env x))
 |_,_=>none
theorem Qhp{t:Nat}(k:∀w,(isAgg t).run P w=.ok false w)(h:ldB o env H=some (d,t,x)):o.dst=some d/\OpV P o env H x:=by
 unfold ldB at h;split at h
 .rename_i p q y m l;cases e:lvB H (opB env y)with
  |none=>rw[e]at h;cases h
  |some a=>
   rw[e]at h;cases h;refine⟨m,?_⟩;unfold lvB at e;split at e
   .rename_i i b g;unfold ctB at e;split at e
    .rename_i b s T0 T cs q4;rw[QaD]at e q4;obtain⟨f,n⟩:∃f,cs.drop b=x::f:=by
      have j:=(XP.1 e).1;refine⟨cs.drop (b+1),?_⟩;rw[Xr j,(XP.1 e).2]
     exact OpV.load l k (QF g) (Pts.cells q4 n)
    .cases e
   .rename_i a r g;cases e;exact OpV.load l k (QF g) Pts.rp
   .cases e
 .cases h
theorem Ld{t:Nat}(a:∀w,(isAgg t).run P w=.ok false w)(e:ldB o env H=some (d,t,x))(k:WO P h0 N all l (up env d x) H Q)(hg:Qp all o env true:=by exact rfl)(hN:Nat.blt d N=true:=by exact rfl):WO P h0 N all (o::l) env H Q:=
 QH hg (Qhp a e).1 hN (Qhp a e).2 k
theorem Ldg{t:Nat}(hg:Qp all o env true)(a:∀w,(isAgg t).run P w=.ok false w)(e:ldB o env H=some (d,t,x))(k:WO P h0 N all l (up env d x) H Q)(b:Nat.blt d N=true:=by exact rfl):WO P h0 N all (o::l) env H Q:=
 QH hg (Qhp a e).1 b (Qhp a e).2 k
def ixB(o:Oper)(env:Env):Option (Nat×Nat×Nat×List (List A)×IntKind×Int):=
 match o.dst,o.op with
 |some d,.indexAddr t x y=>match opB env x,opB env y with
  |.mk (.rsl k es),.mk (.int kk i)=>some (d,t,k,es,kk,i)
  |_,_=>none
 |_,_=>none
theorem Ix{α:Type}{e:α->List A}{t et k:Nat}{L:List α}{b:IntKind}{i:Int}{v:α}(h:idx L i=some v)(f:∀w,(underlying t).run P w=.ok (.slice et) w)(j:∀w,(sizeOf et).run P w=.ok k w)
  (q:ixB o env=some (d,t,k,L.map e,b,i))(k:WO P h0 N all l (up env d (.rp (e v))) H Q)(hg:Qp all o env true:=by exact rfl)(hN:Nat.blt d N=true:=by exact rfl):WO P h0 N all (o::l) env H Q:=by
 unfold ixB at q;split at q
 .rename_i g p;split at q
  .rename_i m a;simp only[Option.some.injEq,Prod.mk.injEq]at q;obtain⟨rfl,rfl,rfl,n,rfl,rfl⟩:=q;exact QH hg g hN (Qlb h f j p (by rw[QF m,n]) (QF a)) k
  .cases q
 .cases q
def lnB(o:Oper)(env:Env):Option (Nat×Nat×Bx):=
 match o.dst,o.op with
 |some d,.call c=>match c with
  |{callee:=.builtin .len,args:=⟨[x]⟩,argTypes:=⟨[t]⟩}=>some (d,t,opB env x)
  |_=>none
 |_,_=>none
theorem Qqj{t:Nat}{b:Bx}(q:lnB o env=some (d,t,b)):∃x,o.dst=some d/\o.op=.call {callee:=.builtin .len,args:= #[x],argTypes:= #[t]}/\opB env x=b:=by
 unfold lnB at q;split at q
 .rename_i e a;split at q
  .cases q;exact⟨_,e,a,rfl⟩
  .cases q
 .cases q
theorem LnM{α:Type}{e:α->List A}{t et k:Nat}{L:List α}(b:∀w,(underlying t).run P w=.ok (.slice et) w)(q:lnB o env=some (d,t,.mk (.rsl k (L.map e))))
  (k:WO P h0 N all l (up env d (.int .i64 L.length)) H Q)(hg:Qp all o env true:=by exact rfl)(hN:Nat.blt d N=true:=by exact rfl):WO P h0 N all (o::l) env H Q:=by
 obtain⟨x,g,f,a⟩:=Qqj q;exact QH hg g hN (Qn9 b f rfl (QF a)) k
end
section
variable {P:Program} {h0 N:Nat} {all:Array Oper} {env env':Env} {H H':Qd} {Q:QD} {c c':Code}
theorem Nx(h:TC P h0 N c env H Q):WO P h0 N all [] env H (Seq P h0 N c Q):=WO.nil (QmE h)
theorem Rg{id:Nat}{l:List Oper}(h:WO P h0 N l.toArray l env H (Seq P h0 N c Q)):TC P h0 N (.seq (.region id l.toArray false) c) env H Q:=TC.seq (TC.region h)
theorem SkN(h:TC P h0 N c env H Q):TC P h0 N .skip env H (Seq P h0 N c Q):=TC.skip (QmE h)
theorem ExX{id:Nat}(h:Q (.exit id) env H):TC P h0 N (.exit id) env H (Seq P h0 N c Q):=TC.exit (seqX h)
theorem Oi{α:Type}{x y:α}(h:some x=some y):x=y:=X4 h
theorem Bd{α β:Type}{x:Option α}{f:α->Option β}{r:β}{G:Prop}(h:x.bind f=some r)(k:∀a,x=some a->f a=some r->G):G:=by
 obtain⟨a,d,b⟩:=Jh h;exact k a d b
theorem If{α:Type}{c:Bool}{x y:Option α}{r:α}{G:Prop}(h:(bif c then x else y)=some r)(t:c=true->x=some r->G)(e:c=false->y=some r->G):G:=by
 cases c with
 |true=>exact t rfl h
 |false=>exact e rfl h
theorem Cn{α:Type}{x:Operand}{t:Bool}{p q:Option α}{r:α}(hx:opB env x=.mk (.bool t))(h:(bif t then p else q)=some r)(ht:t=true->p=some r->TC P h0 N c env H Q)(hf:t=false->q=some r->TC P h0 N c' env H Q):TC P h0 N (.cond x c c') env H Q:=
 TC.cond (QF hx) (λe=>ht e (ifT e h)) (λe=>hf e (ifF e h))
theorem Jf{α:Type}{x:Operand}{t:Bool}{p q:Option α}{r:α}(hx:opB env x=.mk (.bool t))(h:(bif t then p else q)=some r)(hf:t=false->q=some r->TC P h0 N c' env H Q)(ht:t=true->p=some r->TC P h0 N c env H Q):TC P h0 N (.cond x c c') env H Q:=
 TC.cond (QF hx) (λe=>ht e (ifT e h)) (λe=>hf e (ifF e h))
theorem CnF{x:Operand}{t:Bool}(h:t=false)(hx:opB env x=.mk (.bool t))(hf:TC P h0 N c' env H Q):TC P h0 N (.cond x c c') env H Q:=QfL (QF hx) h hf
theorem Lr(π:List Nat)(a:π.take h0=List.range h0:=by exact rfl)(hH:π.map (λp=>H[p]?)=(H'.map (QW (rho π H.length))).map some:=by exact rfl)(hπ:π.Nodup:=by decide)
  (hE:Qel (rho π H.length) env env':=by(repeat' (first|exact trivial|refine⟨rfl,?_⟩))):Le h0 env H env' H':=Qof π a hH hπ hE
end
end Go.Sw
namespace Go.Sw
def Ev{α:Type}(f:Nat->Option α)(v:α):Prop:=∃N,∀n,N<=n->f n=some v
section
variable {α β:Type} {f g:Nat->Option α} {v w:α}
theorem Qa(v:α):Ev (λ_=>some v) v:=⟨0,λ_ _=>rfl⟩
theorem Ev.const{o:Option α}(h:o=some v):Ev (λ_=>o) v:=⟨0,λ_ _=>h⟩
theorem Ev.bind{k:Nat->α->Option β}{b:β}(h:Ev f v)(a:Ev (λn=>k n v) b):Ev (λn=>(f n).bind (k n)) b:=by
 obtain⟨N,h⟩:=h;obtain⟨M,a⟩:=a;exact⟨max N M,λn d=>by show(f n).bind (k n)=some b;rw[h n (by omega),XN];exact a n (by omega)⟩
theorem QaU{o:Option α}{k:Nat->α->Option β}{b:β}(h:o=some v)(hk:Ev (λn=>k n v) b):Ev (λn=>o.bind (k n)) b:=Ev.bind (Ev.const h) hk
theorem QbH{c:Bool}(a:c=true->Ev f v)(b:c=false->Ev g w):Ev (λn=>bif c then f n else g n) (bif c then v else w):=by
 cases c with
 |true=>exact a rfl
 |false=>exact b rfl
theorem Qf0(h:Ev f v):Ev (λn=>bif true then f n else g n) v:=h
theorem Jy(h:Ev g v):Ev (λn=>bif false then f n else g n) v:=h
theorem Ev.and{c d:Bool}{h:Nat->Option Bool}(a:c=true->Ev h d):Ev (λn=>bif c then h n else some false) (c&&d):=by
 cases c with
 |true=>exact a rfl
 |false=>exact Qa _
theorem Ev.or{c d:Bool}{h:Nat->Option Bool}(a:c=false->Ev h d):Ev (λn=>bif c then some true else h n) (c||d):=by
 cases c with
 |true=>exact Qa _
 |false=>exact a rfl
theorem Ev.eq(h:Ev f v)(e:v=w):Ev f w:=e▸h
theorem Qf1(h:Ev f v)(e:∀n,g n=f n):Ev g v:=by
 obtain⟨N,h⟩:=h;exact⟨N,λn a=>by rw[e];exact h n a⟩
theorem Je(h:Ev (λn=>f (n+1)) v):Ev f v:=by
 obtain⟨N,h⟩:=h;refine⟨N+1,λn a=>?_⟩;obtain⟨m,rfl⟩:∃m,n=m+1:=⟨n-1,by omega⟩;exact h m (by omega)
theorem Ev.ex(h:Ev f v):∃n,f n=some v:=let⟨N,h⟩:=h;⟨N,h N (XX _)⟩
theorem Ev.all{k:Nat}{F:Nat->Nat->Option α}{V:Nat->α}(h:∀i,i<k->Ev (F i) (V i)):∃N,∀n,N<=n->∀i,i<k->F i n=some (V i):=by
 induction k with
 |zero=>exact⟨0,λn _ i a=>absurd a (Xn _)⟩
 |succ k e=>
  obtain⟨N,b⟩:=e λi a=>h i (by omega);obtain⟨M,d⟩:=h k (by omega);refine⟨max N M,λn f i a=>?_⟩;rcases Xp.1 a with q|rfl
  .exact b n (by omega) i q
  .exact d n (by omega)
end
section
variable {S B α:Type} {step:Nat->S->Option (Ctl S B)}
theorem Ev.iter{s0:S}(a:Nat->S)(k:Nat){b:B}(h0:a 0=s0)(f:∀i,i<k->Ev (λn=>step n (a i)) (.cont (a (i+1))))(e:Ev (λn=>step n (a k)) (.done b)):
  Ev (λn=>Go.Sw.iter (step n) n s0) b:=by
 obtain⟨N,g⟩:=Ev.all f;obtain⟨M,d⟩:=e;exact⟨max (max N M) (k+1),λn j=>Qne s0 a b k h0 (λi h=>g n (by omega) i h) (d n (by omega)) n (by omega)⟩
theorem Qco{step:S->Option (Ctl S B)}{s:S}{b:B}(m:Nat)(h:Go.Sw.iter step m s=some b):Ev (λn=>Go.Sw.iter step n s) b:=by
 have mono:∀m s,Go.Sw.iter step m s=some b->∀n,m<=n->Go.Sw.iter step n s=some b:=by
  intro m
  induction m with
  |zero=>intro s h;cases h
  |succ m f=>
   intro s h n d;obtain⟨a,rfl⟩:∃a,n=a+1:=⟨n-1,by omega⟩;simp only[Go.Sw.iter]at h⊢;cases e:step s with
   |none=>rw[e]at h;cases h
   |some c=>
    rw[e]at h;cases c with
    |cont g=>exact f g h a (by omega)
    |done i=>exact h
 exact⟨m,λn d=>mono m s h n d⟩
structure At (l:List α) (i:Nat) (x:α):Prop where
 get:l[i]?=some x
 lt:decide ((i:Int)<(l.length:Int))=true
 ix:idx l (i:Int)=some x
 nx:IntKind.i64.wrap ((i:Int)+1)=((i+1:Nat):Int)
theorem JI{l:List α}{i:Nat}{x:α}(hl:l.length<=4611686018427387904)(h:l[i]?=some x):At l i x:=by
 have a:=(XP.1 h).1;exact⟨h,Vy (by omega),YW h,YA (by omega)⟩
theorem At.mem{l:List α}{i:Nat}{x:α}(h:At l i x):x∈l:=VL h.get
theorem At.lt'{l:List α}{i:Nat}{x:α}(h:At l i x):i<l.length:=(XP.1 h.get).1
theorem At.take{l:List α}{i:Nat}{x:α}(h:At l i x):l.take (i+1)=l.take i++[x]:=by
 rw[List.take_add_one,h.get];rfl
theorem QaO(l:List α):decide ((l.length:Int)<(l.length:Int))=false:=VB (by omega)
theorem Qb8{s0:S}(l:List α)(q:α->Bool)(f:Nat->S)(s b:B)(hl:l.length<=4611686018427387904)(h0:f 0=s0)
  (u:∀i x,At l i x->q x=false->Ev (λn=>step n (f i)) (.cont (f (i+1))))
  (d:∀i x,At l i x->q x=true->Ev (λn=>step n (f i)) (.done s))
  (H:Ev (λn=>step n (f l.length)) (.done b)):Ev (λn=>Go.Sw.iter (step n) n s0) (bif l.any q then s else b):=by
 have r:∀k,k<=l.length->(∀i x,l[i]?=some x->i<k->q x=false)\/ ∃i x,l[i]?=some x/\i<k/\q x=true/\ ∀j y,l[j]?=some y->j<i->q y=false:=by
  intro k
  induction k with
  |zero=>intro _;exact .inl λi x _ a=>absurd a (Xn _)
  |succ k G=>
   intro J;rcases G (by omega)with h|⟨i,x,m,F,p⟩
   .have t:l[k]?=some l[k]:=XO (by omega);cases e:q l[k]with
    |true=>exact .inr ⟨k,_,t,Xo _,e,h⟩
    |false=>
     refine .inl λi x d a=>?_;rcases Xp.1 a with z|rfl
     .exact h i x d z
     .rw[t]at d;cases d;exact e
   .exact .inr ⟨i,x,m,by omega,p⟩
 rcases r l.length (XX _)with h|⟨i,x,m,F,p,E⟩
 .have:l.any q=false:=by
   rw[VQ];intro e;obtain⟨x,d,e⟩:=Xv.1 e;obtain⟨i,a,rfl⟩:=List.getElem_of_mem d;rw[h i _ (XO a) a]at e;cases e
  rw[this];exact Ev.iter f l.length h0 (λi a=>u i _ (JI hl (XO a)) (h i _ (XO a) a)) H
 .have:l.any q=true:=Xv.2 ⟨x,VL m,p⟩;rw[this];refine Ev.iter f i h0 (λj w=>?_) (d i x (JI hl m) p);have g:l[j]?=some l[j]:=XO (by omega);exact u j _ (JI hl g) (E j _ g w)
theorem Q5{β:Type}{s0:S}(l:List α)(g:β->α->β)(b:β)(d:β->Nat->S)(e:β->B)(hl:l.length<=4611686018427387904)(h0:d b 0=s0)
  (j:∀i x a,At l i x->a=(l.take i).foldl g b->Ev (λn=>step n (d a i)) (.cont (d (g a x) (i+1))))
  (h:Ev (λn=>step n (d (l.foldl g b) l.length)) (.done (e (l.foldl g b)))):Ev (λn=>Go.Sw.iter (step n) n s0) (e (l.foldl g b)):=by
 refine Ev.iter (λi=>d ((l.take i).foldl g b) i) l.length (by simpa using h0) (λi k=>?_) (by simpa using h);have f:=JI (x:=l[i]) hl (XO k);have:=j i _ _ f rfl;rw[f.take,XG];exact this
theorem Ev.contains(l:List α)(q:α->Bool)(g:Nat->α->Option Bool)(hl:l.length<=4611686018427387904)(hg:∀x∈l,Ev (λn=>g n x) (q x)):
  Ev (λn=>(((Go.Sw.iter (λs:Int=>bif decide (s<(l.length:Int))then(idx l s).bind λx=>(g n x).bind λr=>(bif r then some (Ctl.done (Ctl.done s))else some (Ctl.cont (IntKind.i64.wrap (s+1))))else some (Ctl.done (Ctl.cont ()))) n (0:Int):Option (Ctl Unit Int)).bind λb=>
   match b with
   |.cont _=>some (-1)
   |.done s=>some s):Option Int).bind λr=>some (decide (0<=r))) (l.any q):=by
 cases e:l.any q with
 |false=>
  refine Ev.bind (v:=(-1:Int)) (Ev.bind (v:=Ctl.cont ()) (Ev.iter (λi=>(i:Int)) l.length rfl (λi f=>?_) ?_) (Qa _)) (Qa _)
  .have a:=JI (x:=l[i]) hl (XO f);simp only[a.lt,Vt,a.ix,XN];have w:q l[i]=false:=by
    rw[VQ];intro h;rw[Xv.2 ⟨_,a.mem,h⟩]at e;cases e
   refine Ev.bind ((hg _ a.mem).eq w) ?_;simp only[Vu,a.nx];exact Qa _
  .simp only[QaO,Vu];exact Qa _
 |true=>
  obtain⟨x,d,h⟩:=Xv.1 e;have t:∀k,k<=l.length->(∀(i:Nat) (x:α),l[i]?=some x->i<k->q x=false)\/ ∃(i:Nat) (x:α),l[i]?=some x/\i<k/\q x=true/\ ∀(j:Nat) (y:α),l[j]?=some y->j<i->q y=false:=by
   intro k
   induction k with
   |zero=>intro _;exact .inl λi x _ f=>absurd f (Xn _)
   |succ k G=>
    intro H;rcases G (by omega)with h|⟨i,x,p,E,u⟩
    .have hg:l[k]?=some l[k]:=XO (by omega);cases e:q l[k]with
     |true=>exact .inr ⟨k,_,hg,Xo _,e,h⟩
     |false=>
      refine .inl λi x d f=>?_;rcases Xp.1 f with z|rfl
      .exact h i x d z
      .rw[hg]at d;cases d;exact e
    .exact .inr ⟨i,x,p,by omega,u⟩
  rcases t l.length (XX _)with F|⟨i,x,p,E,u,B⟩
  .obtain⟨j,m,rfl⟩:=List.getElem_of_mem d;rw[F j _ (XO m) m]at h;cases h
  .refine Ev.bind (v:=(i:Int)) (Ev.bind (v:=Ctl.done (i:Int)) (Ev.iter (λi=>(i:Int)) i rfl (λj m=>?_) ?_) (Qa _)) ?_
   .have a:=JI (x:=l[j]) hl (XO (by omega));simp only[a.lt,Vt,a.ix,XN];refine Ev.bind ((hg _ a.mem).eq (B j _ a.get m)) ?_;simp only[Vu,a.nx];exact Qa _
   .have a:=JI hl p;simp only[a.lt,Vt,a.ix,XN];refine Ev.bind ((hg _ a.mem).eq u) ?_;exact Qa _
   .rw[Vy (by omega)];exact Qa _
end
section
variable {S B α:Type} {step:Nat->S->Option (Ctl S B)}
theorem QhW{s0:S}(a:Nat->S)(k:Nat)(R:Nat->B)(h0:a 0=s0)(r:∀i,i<k->(Ev (λn=>step n (a i)) (.cont (a (i+1)))/\R i=R (i+1))\/Ev (λn=>step n (a i)) (.done (R i)))
  (l:Ev (λn=>step n (a k)) (.done (R k))):Ev (λn=>Go.Sw.iter (step n) n s0) (R 0):=by
 have f:∀m,m<=k->(∀i,i<m->Ev (λn=>step n (a i)) (.cont (a (i+1)))/\R i=R (i+1))\/ ∃j,j<m/\(∀i,i<j->Ev (λn=>step n (a i)) (.cont (a (i+1)))/\R i=R (i+1))/\Ev (λn=>step n (a j)) (.done (R j)):=by
  intro m
  induction m with
  |zero=>intro _;exact .inl λi b=>absurd b (Xn _)
  |succ m e=>
   intro s;rcases e (by omega)with h|⟨j,g,d⟩
   .rcases r m (by omega)with q|q
    .refine .inl λi b=>?_;rcases Xp.1 b with z|rfl
     .exact h i z
     .exact q
    .exact .inr ⟨m,Xo _,h,q⟩
   .exact .inr ⟨j,by omega,d⟩
 have same:∀m,(∀i,i<m->R i=R (i+1))->R 0=R m:=by
  intro m
  induction m with
  |zero=>intro _;rfl
  |succ m e=>intro h;exact(e λi b=>h i (by omega)).trans (h m (Xo _))
 rcases f k (XX _)with h|⟨j,g,d,p⟩
 .rw[same k λi b=>(h i b).2];exact Ev.iter a k h0 (λi b=>(h i b).1) l
 .rw[same j λi b=>(d i b).2];exact Ev.iter a j h0 (λi b=>(d i b).1) p
theorem At.drop{l:List α}{i:Nat}{x:α}(h:At l i x):l.drop i=x::l.drop (i+1):=by
 have:=h.lt';rw[Xr this,(XP.1 h.get).2]
theorem QhV{s0:S}(l:List α)(st:Nat->S)(R:Nat->B)(hl:l.length<=4611686018427387904)(h0:st 0=s0)
  (hc:∀i x,At l i x->(Ev (λn=>step n (st i)) (.cont (st (i+1)))/\R i=R (i+1))\/Ev (λn=>step n (st i)) (.done (R i)))
  (hd:Ev (λn=>step n (st l.length)) (.done (R l.length))):Ev (λn=>Go.Sw.iter (step n) n s0) (R 0):=
 QhW st l.length R h0 (λi hi=>hc i _ (JI hl (XO hi))) hd
end
section
variable {α β:Type} [DecidableEq α]
theorem Qag(p:α×β)(l:List (α×β))(k:α):Ye (p::l) k=if p.1=k then some p.2 else Ye l k:=by
 unfold Ye;by_cases h:p.1=k<;>simp[List.find?_cons,h]
theorem Qlt(p:α×β)(l:List (α×β))(k:α)(v:β):QG (p::l) k v=if p.1=k then(p.1,v)::l.map (λq=>bif decide (q.1=k)then(q.1,v)else q)else p::QG l k v:=by
 unfold QG;by_cases h:p.1=k
 .simp[h]
 .simp only[List.any_cons,h,decide_false,Bool.false_or,if_false,Vn,Vu];cases l.any λp=>decide (p.1=k)<;>simp
theorem Qm5(l:List (α×β))(k a:α)(v:β)(h:a≠k):Ye (l.map λq=>bif decide (q.1=k)then(q.1,v)else q) a=Ye l a:=by
 induction l with
 |nil=>rfl
 |cons p l b=>
  rw[Vn,Qag,Qag,b];by_cases e:p.1=k
  .have:¬k=a:=λq=>h q.symm;simp[e,this]
  .simp[e]
theorem YB(l:List (α×β))(k a:α)(v:β):Ye (QG l k v) a=if a=k then some v else Ye l a:=by
 induction l with
 |nil=>
  show Ye ([]++[(k,v)]) a=_;rw[Vl,Qag];by_cases h:a=k
  .subst h;simp
  .rw[Vw λq=>h q.symm,Vw h]
 |cons p l b=>
  rw[Qlt];by_cases e:p.1=k
  .rw[Vx e,Qag,Qag];by_cases h:a=k
   .subst h;simp[e]
   .have:p.1≠a:=λq=>h (q.symm.trans e);simp only[this,if_false,h];exact Qm5 l k a v h
  .rw[Vw e,Qag,Qag,b];by_cases h:p.1=a
   .rw[Vx h,Vw λq=>e (h.trans q),Vx h]
   .rw[Vw h,Vw h]
theorem Qlu(k:α)(z:β):Qx ([]:List (α×β)) k z=z:=rfl
theorem Qe7(l:List (α×β))(k a:α)(v z:β):Qx (QG l k v) a z=if a=k then v else Qx l a z:=by
 unfold Qx;rw[YB];by_cases h:a=k<;>simp[h]
theorem QdI(l:List (α×β))(k:α)(v:β):(QG l k v).map (·.1)=if k∈l.map (·.1)then l.map (·.1)else l.map (·.1)++[k]:=by
 unfold QG;have e:(l.any λp=>decide (p.1=k))=decide (k∈l.map (·.1)):=by
  rw[X3];simp only[Xv,Vv,Xe]
 rw[e];by_cases h:k∈l.map (·.1)
 .rw[Vy h,Vx h,Vt,List.map_map];apply List.map_congr_left;intro p _;simp only[Function.comp];cases decide (p.1=k)<;>rfl
 .rw[VB h,Vw h,Vu,Xf];rfl
def Yj{γ:Type}(key:γ->α)(v:β)(l:List γ):List (α×β):=l.foldl (λm x=>QG m (key x) v) []
theorem Qc4{γ:Type}(a:γ->α)(v:β)(l:List γ)(x:γ):Yj a v (l++[x])=QG (Yj a v l) (a x) v:=by
 unfold Yj;rw[XG];rfl
theorem QbW{γ:Type}(a:γ->α)(v z:β)(l:List γ)(k:α):Qx (Yj a v l) k z=if k∈l.map a then v else z:=by
 have b:∀(l:List γ) (m:List (α×β)),Qx (l.foldl (λm x=>QG m (a x) v) m) k z=if k∈l.map a then v else Qx m k z:=by
  intro l
  induction l with
  |nil=>intro m;simp
  |cons x l d=>
   intro m;rw[XH,d,Qe7];by_cases h:k∈l.map a
   .rw[Vx h,Vx (by simp only[Vn];exact X9 _ h)]
   .rw[Vw h];by_cases e:k=a x
    .rw[Vx e,Vx (by simp[e])]
    .rw[Vw e,Vw (by simp only[Vn,Va,not_or];exact⟨e,h⟩)]
 exact b l []
theorem Qcs{γ:Type}(d:γ->α)(v:β)(l:List γ):(Yj d v l).length<=l.length/\((Yj d v l).length=l.length↔(l.map d).Nodup):=by
 have k:∀(l:List γ) (m:List (α×β)),(m.map (·.1)).Nodup->(l.foldl (λm x=>QG m (d x) v) m).length<=m.length+l.length/\((l.foldl (λm x=>QG m (d x) v) m).length=m.length+l.length↔(m.map (·.1)++l.map d).Nodup):=by
  intro l
  induction l with
  |nil=>intro m i;simpa using i
  |cons x l p=>
   intro m i;have g:=QdI m (d x) v;have f:(QG m (d x) v).length=((QG m (d x) v).map (·.1)).length:=by simp
   by_cases h:d x∈m.map (·.1)
   .rw[Vx h]at g;obtain⟨r,j⟩:=p (QG m (d x) v) (by rw[g];exact i);have e:(QG m (d x) v).length=m.length:=by rw[f,g];simp
    rw[XH];refine⟨by simp only[X5];omega,⟨λq=>?_,λq=>?_⟩⟩
    .simp only[X5]at q;omega
    .exfalso;have:=(List.nodup_append.1 q).2.2 _ h (d x) (by simp);exact this rfl
   .rw[Vw h]at g;have t:((QG m (d x) v).map (·.1)).Nodup:=by
     rw[g];refine List.nodup_append.2 ⟨i,by simp,?_⟩;intro a s b n e;simp only[VF]at n;exact h (by rw[<- n, <- e];exact s)
    obtain⟨r,j⟩:=p (QG m (d x) v) t;have e:(QG m (d x) v).length=m.length+1:=by rw[f,g];simp
    rw[XH];refine⟨by simp only[X5];omega,?_⟩;rw[g]at j;rw[show m.length+(x::l).length=(QG m (d x) v).length+l.length by rw[e];simp;omega,j];simp[Vm]
 have:=k l [] (by simp);simpa[Yj]using this
end
theorem Jl{α:Type}(l:List α)(p:α->Bool)(g:Nat->α->Option Bool)(hl:l.length<=4611686018427387904)(hg:∀x∈l,Ev (λn=>g n x) (p x)):
  Ev (λn=>((((Go.Sw.iter (λs:Int=>bif decide (s<(l.length:Int))then(idx l s).bind λx=>((g n x).bind λr1=>some (!r1)).bind λr=>(bif r then some (Ctl.done (Ctl.done s))else some (Ctl.cont (IntKind.i64.wrap (s+1))))else some (Ctl.done (Ctl.cont ()))) n (0:Int):Option (Ctl Unit Int)).bind λb=>
   match b with
   |.cont _=>some (-1)
   |.done s=>some s):Option Int).bind λr=>some (decide (0<=r)):Option Bool).bind λr=>some (!r)) (l.all p):=by
 refine Ev.bind (Ev.contains l (λx=> !p x) (λn x=>(g n x).bind λr1=>some (!r1)) hl λx a=>Ev.bind (hg x a) (Qa _)) ((Qa _).eq ?_);rw[List.not_any_eq_all_not];simp
def Qj7{α κ:Type}[DecidableEq κ](ok:α->Bool)(key:α->κ):List κ->List α->Bool
 |_,[]=>true
 |seen,x::r=>ok x&& !seen.contains (key x)&&Qj7 ok key (seen++[key x]) r
theorem Qk5{α κ:Type}[DecidableEq κ](ok:α->Bool)(f:α->κ):∀(l:List α) (d:List κ),d.Nodup->Qj7 ok f d l=(l.all ok&&decide ((d++l.map f).Nodup))
 |[],d,h=>by simp[Qj7,h]
 |x::r,d,h=>by
  simp only[Qj7,List.all_cons,Vn];by_cases hk:f x∈d
  .have:¬(d++f x::r.map f).Nodup:=by
    intro q;exact(List.nodup_append.1 q).2.2 _ hk (f x) (by simp) rfl
   simp[hk,this]
  .have j:(d++[f x]).Nodup:=by
    refine List.nodup_append.2 ⟨h,by simp,?_⟩;intro a i b g e;simp only[VF]at g;exact hk (by rw[<- g, <- e];exact i)
   rw[Qk5 ok f r _ j];have:(d.contains (f x))=false:=by simpa using hk
   rw[this];simp[Bool.and_assoc]
theorem Ev.inner{α κ B:Type}[DecidableEq κ]{step:Nat->Int->Option (Ctl Int B)}(l:List α)(i:Nat)(a:α->κ)(k:κ)(r b:B)(hl:l.length<=4611686018427387904)(hi:i<=l.length)
  (w:∀j y,j<i->At l j y->decide (a y=k)=false->Ev (λn=>step n (j:Int)) (.cont ((j+1:Nat):Int)))
  (s:∀j y,j<i->At l j y->decide (a y=k)=true->Ev (λn=>step n (j:Int)) (.done r))
  (u:Ev (λn=>step n (i:Int)) (.done b)):Ev (λn=>Go.Sw.iter (step n) n 0) (bif ((l.take i).map a).contains k then r else b):=by
 have e:((l.take i).map a).contains k=(l.take i).any λy=>decide (a y=k):=by
  rw[X3];simp only[List.contains_eq_mem,Vv,Xe,Xv]
 rw[e];have g:(l.take i).length=i:=by simp;omega
 have h:∀j y,At (l.take i) j y->j<i/\At l j y:=by
  intro j y f;have t:=f.lt';have d:=f.get;rw[List.getElem?_take]at d;split at d
  .exact⟨by omega,JI hl d⟩
  .cases d
 refine Qb8 (l.take i) (λy=>decide (a y=k)) (λi=>(i:Int)) _ _ (by omega) rfl (λj y f m=>?_) (λj y f m=>?_) ?_
 .obtain⟨q,p⟩:=h j y f;exact w j y q p m
 .obtain⟨q,p⟩:=h j y f;exact s j y q p m
 .rw[g];exact u
theorem QbG{α κ β:Type}[DecidableEq κ]{step:Nat->List (κ×β)×Int->Option (Ctl (List (κ×β)×Int) (List (κ×β)))}(l:List α)(key:α->κ)(v:β)(hl:l.length<=4611686018427387904)
  (hc:∀i x m,At l i x->Ev (λn=>step n (m,(i:Int))) (.cont (QG m (key x) v,((i+1:Nat):Int))))
  (hd:∀m,Ev (λn=>step n (m,(l.length:Int))) (.done m)):Ev (λn=>Go.Sw.iter (step n) n ([],0)) (Yj key v l):=
 Q5 l (λm x=>QG m (key x) v) [] (λm i=>(m,(i:Int))) (λm=>m) hl rfl (λi x m ha _=>hc i x m ha) (hd _)
theorem Ev.shift{α:Type}{f:Nat->Option α}{v:α}(h:Ev f v):Ev (λn=>f (n+1)) v:=by
 obtain⟨N,h⟩:=h;exact⟨N,λn a=>h (n+1) (by omega)⟩
def EvI{S B:Type}(step:Nat->S->Option (Ctl S B))(s:S)(b:B):Prop:=∃N,∀n k,N<=n->N<=k->Go.Sw.iter (step n) k s=some b
section
variable {S B:Type} {step:Nat->S->Option (Ctl S B)} {s s':S} {b:B}
theorem EvI.done(h:Ev (λn=>step n s) (.done b)):EvI step s b:=by
 obtain⟨N,h⟩:=h;refine⟨N+1,λn k d e=>?_⟩;obtain⟨a,rfl⟩:∃a,k=a+1:=⟨k-1,by omega⟩;have:=h n (by omega);simp only[Go.Sw.iter,this]
theorem EvI.cont(h:Ev (λn=>step n s) (.cont s'))(q:EvI step s' b):EvI step s b:=by
 obtain⟨N,h⟩:=h;obtain⟨M,q⟩:=q;refine⟨max N M+1,λn k d e=>?_⟩;obtain⟨a,rfl⟩:∃a,k=a+1:=⟨k-1,by omega⟩;have:=h n (by omega);simp only[Go.Sw.iter,this];exact q n a (by omega) (by omega)
theorem EvI.ev(h:EvI step s b):Ev (λn=>Go.Sw.iter (step n) n s) b:=by
 obtain⟨N,h⟩:=h;exact⟨N,λn a=>h n n a a⟩
theorem EvI.eq{b':B}(h:EvI step s b)(e:b=b'):EvI step s b':=e▸h
end
theorem QK{α:Type}{l r:List α}{i:Nat}{x:α}(hl:l.length<=4611686018427387904)(h:l.drop i=x::r):At l i x/\l.drop (i+1)=r:=by
 have a:l[i]?=some x:=by
  have:=congrArg (λl=>l[0]?) h;simpa using this
 refine⟨JI hl a,?_⟩;have:=(JI hl a).drop;rw[h]at this;exact(List.cons.inj this).2.symm
theorem Ym{α:Type}{l:List α}{i:Nat}(h:l.drop i=[])(hi:i<=l.length):decide ((i:Int)<(l.length:Int))=false:=by
 have:=Xs.1 h;exact VB (by omega)
end Go.Sw
namespace Go.Sw
theorem Z.{u}{α:Sort u}{a:α}:a=a:=rfl
section
variable {P:Program} {h0 N:Nat} {all:Array Oper} {env:Env} {H H':Qd} {Q:QD} {l:List Oper} {o:Oper} {d:Nat}
theorem aV(x:A)(H:Qd){x':A}{H':Qd}(a:x'=x)(hH:H'=H)(k:WO P h0 N all l (up env d x) H Q):WO P h0 N all l (up env d x') H' Q:=by subst a;subst hH;exact k
theorem vX(x:A)(a:OpV P o env H x)(k:WO P h0 N all l (up env d x) H Q)(hg:Qp all o env true:=by exact rfl)(hd:o.dst=some d:=by exact rfl)(hN:Nat.blt d N=true:=by exact rfl):WO P h0 N all (o::l) env H Q:=
 QH hg hd hN a k
theorem Wp:WO P h0 N all [] env H (Y8 env H):=WO.nil Y8.mk
end
end Go.Sw
namespace Go.Sw
section
variable {P:Program} {o:Oper} {env:Env} {H:Qd}
theorem Qpl{ro:Nat->Prop}{σ:Sig}{w:World}(g:GP w){b:Nat}{zs:List Int}(h:QjO[b]?=some zs):∀(i:Nat),CR ro σ w b ((zs.drop i).map (A.int .i64)) i:=by
 intro i;generalize hl:zs.drop i=l
 induction l generalizing i with
 |nil=>trivial
 |cons z l e=>
  have d:zs[i]?=some z:=by
   have:=congrArg (·[0]?) hl;simpa using this
  have a:zs.drop (i+1)=l:=by
   rw[<- List.drop_drop,hl];rfl
  exact⟨⟨_,g.tab b zs h i z d,by simp[Qq],rfl⟩,e (i+1) a⟩
theorem QgZ{t n g:Nat}{zs:List Int}(e:∀w,(isAgg t).run P w=.ok true w)(f:∀w,(sizeOf t).run P w=.ok n w)(hg:QjO[g]?=some zs)(hl:zs.length=n)(i:o.op=.load t (.global g):=by exact rfl):
  OpV P o env H (.agg (zs.map (A.int .i64))):=by
 intro k ro σ N a w r;obtain⟨l,h,_,d⟩:=YJ (P:=P) (b:=g) (cs:=zs.map (A.int .i64)) (off:=0) 0 (by simpa using Qpl (ro:=ro) (σ:=σ) r.sim.roOk.gp hg 0);have d:=d w #[] rfl;rw[X6,hl]at d;refine⟨.agg l.toArray,?_,l,rfl,h⟩;have j:a.eval (.global g)=.pointer (some ⟨g,0,none⟩):=rfl;generalize a.eval=ρ at*;simp[execOp,i,j,Instr.loadAt,Instr.sureAddr,loadVar,e,f,loadCells,d,go_sem]
end
end Go.Sw
namespace Go.Sw
open Go.Proofs
section
variable {P:Program}
def toV(agg:Bool)(l:List Value):Value:=bif agg then .agg l.toArray else l.headD .nilFunc
structure Qmo (P:Program) (t:TypeId) (h k:Nat) (agg:Bool) (ok:List Value->Prop):Prop where
 len:∀l,ok l->l.length=k
 ia:∀w,(isAgg t).run P w=.ok agg w
 so:∀w,(sizeOf t).run P w=.ok k w
 eq:∀(w:World) (d:Nat) (l m:List Value),ok l->ok m->∃b:Bool,(Op.equalIn (d+h) t (toV agg l) (toV agg m)).run P w=.ok b w/\(b=true↔l=m)
structure Qok (P:Program) (fs:List Field) (h off k:Nat) (ok:List Value->Prop):Prop where
 len:∀l,ok l->l.length=k
 eq:∀(w:World) (d:Nat) (p q l m:List Value),p.length=off->q.length=off->ok l->ok m->∃b:Bool,(Op.eqFields (d+h) (p++l).toArray (q++m).toArray fs).run P w=.ok b w/\(b=true↔l=m)
theorem Qmo.int{t:TypeId}{k:IntKind}(e:P.underlying t=some (.int k))(a:∀w,(isAgg t).run P w=.ok false w)(b:∀w,(sizeOf t).run P w=.ok 1 w)(h:Nat):Qmo P t (h+1) 1 false (λl=>∃n:Int,l=[.int k n]):=by
 refine⟨?_,a,b,?_⟩
 .rintro _ ⟨n,rfl⟩;rfl
 .rintro w d _ _ ⟨n,rfl⟩ ⟨m,rfl⟩;exact⟨_,run_equalIn_int w (d+h) t k k n m e,by simp⟩
theorem Qmo.bool{t:TypeId}(e:P.underlying t=some .bool)(a:∀w,(isAgg t).run P w=.ok false w)(b:∀w,(sizeOf t).run P w=.ok 1 w)(h:Nat):Qmo P t (h+1) 1 false (λl=>∃n:Bool,l=[.bool n]):=by
 refine⟨?_,a,b,?_⟩
 .rintro _ ⟨n,rfl⟩;rfl
 .rintro w d _ _ ⟨n,rfl⟩ ⟨m,rfl⟩;exact⟨_,run_equalIn_bool' w (d+h) t n m e,by simp⟩
theorem Qok.nil(h off:Nat):Qok P [] h off 0 (λl=>l=[]):=by
 refine⟨?_,?_⟩
 .rintro _ rfl;rfl
 .rintro w d p q _ _ _ _ rfl rfl;exact⟨true,by simp[Op.eqFields],by simp⟩
theorem Qig{t:TypeId}{k:Nat}{agg:Bool}{w:World}(b:∀w,(isAgg t).run P w=.ok agg w)(d:∀w,(sizeOf t).run P w=.ok k w)(p a e:List Value)(hl:a.length=k)(f:agg=false->k=1):
  (part t (p++(a++e)).toArray p.length).run P w=.ok (toV agg a) w:=by
 unfold part;cases agg with
 |true=>
  simp[b,d,go_sem,toV];rw[<- hl];simp[List.extract]
 |false=>
  have:=f rfl;subst this
  match a,hl with
  |[v],_=>simp[b,go_sem,toV]
theorem Qok.cons{f:Field}{fs:List Field}{h off n x:Nat}{agg:Bool}{j i:List Value->Prop}(L:Nat.beq f.offset off=true)(V:f.name≠"_")(g:Qmo P f.type h n agg j)(E:agg=false->n=1)(F:Qok P fs h (off+n) x i):
  Qok P (f::fs) h off (n+x) (λl=>∃l1 l2,l=l1++l2/\j l1/\i l2):=by
 have t:f.offset=off:=XU L;refine⟨?_,?_⟩
 .rintro _ ⟨l1,l2,rfl,a,b⟩;rw[X7,g.len _ a,F.len _ b]
 .rintro w d p q _ _ z u ⟨l1,l2,rfl,m,Q⟩ ⟨k,s,rfl,r,J⟩;have B:=Qig (P:=P) (w:=w) g.ia g.so p l1 l2 (g.len _ m) E;have H:=Qig (P:=P) (w:=w) g.ia g.so q k s (g.len _ r) E;rw[z]at B;rw[u]at H;obtain⟨y,M,T⟩:=g.eq w d l1 k m r;obtain⟨N,G,R⟩:=F.eq w d (p++l1) (q++k) l2 s (by rw[X7,z,g.len _ m]) (by rw[X7,u,g.len _ r]) Q J;rw[Vm,Vm]at G;have O:l1.length=k.length:=by rw[g.len _ m,g.len _ r]
  refine⟨y&&N,?_,?_⟩
  .generalize(p++(l1++l2)).toArray=X at*;generalize(q++(k++s)).toArray=Y at*;cases y<;>simp[Op.eqFields,V,t,Vr,Result.andThen,B,H,M,G]
  .rw[X0,T,R];constructor
   .rintro⟨rfl,rfl⟩;rfl
   .intro e;exact List.append_inj e O
theorem Qmo.struct{t:TypeId}{h k:Nat}{ok:List Value->Prop}(p:P.underlying t=some (.struct (P.fieldsOf t)))(g:P.stoodInHeld t=false)(f:∀w,(isAgg t).run P w=.ok true w)(j:∀w,(sizeOf t).run P w=.ok k w)(e:Qok P (P.fieldsOf t).toList h 0 k ok):Qmo P t (h+1) k true ok:=by
 refine⟨e.len,f,j,λw d l m a b=>?_⟩;obtain⟨r,n,i⟩:=e.eq w d [] [] l m rfl rfl a b;refine⟨r,?_,i⟩;show(Op.equalIn (d+h+1) t (.agg l.toArray) (.agg m.toArray)).run P w=_;rw[run_equalIn_agg w (d+h) t _ _ p g];simpa using n
theorem QT{t:TypeId}{h k:Nat}{fs:Array Field}{ok:List Value->Prop}(a:P.underlying t=some (.struct fs))(d:P.stoodInHeld t=false)(b:∀w,(isAgg t).run P w=.ok true w)(g:∀w,(sizeOf t).run P w=.ok k w)(f:Qok P fs.toList h 0 k ok):Qmo P t (h+1) k true ok:=by
 have e:P.fieldsOf t=fs:=by simp[Program.fieldsOf,a]
 exact Qmo.struct (by rw[e];exact a) d b g (by rw[e];exact f)
structure EqD (P:Program) (t:TypeId) {α:Type} (cells:α->List A):Prop where
 scl:∀x,QeR (cells x)=true
 inj:∀x y,YZ (cells x)=YZ (cells y)->x=y
 guard:P.eqGuardType P.depth t=false
 eq:∀(w:World) x y,∃b:Bool,(Op.equalIn 10000 t (.agg (YZ (cells x)).toArray) (.agg (YZ (cells y)).toArray)).run P w=.ok b w/\(b=true↔YZ (cells x)=YZ (cells y))
theorem Qli{α:Type}{cells:α->List A}{t h k:Nat}{ok:List Value->Prop}(E:Qmo P t h k true ok)(b:Nat.ble h 10000=true)(a:∀x,ok (YZ (cells x)))(d:∀x,QeR (cells x)=true)(hi:∀x y,YZ (cells x)=YZ (cells y)->x=y)(hg:P.eqGuardType P.depth t=false):EqD P t cells:=by
 refine⟨d,hi,hg,λw x y=>?_⟩;have:=E.eq w (10000-h) (YZ (cells x)) (YZ (cells y)) (a x) (a y)
 rwa [show 10000-h+h=10000 by have:=XV b;omega]at this
variable {o:Oper} {env:Env} {H:Qd}
theorem Qmc{α:Type}[DecidableEq α]{cells:α->List A}{t u:TypeId}{x y:Operand}{p q:α}(E:EqD P t cells)(k:opA env x=.agg (cells p))(m:opA env y=.agg (cells q))(j:o.op=.binOp .eql t x y u:=by exact rfl):OpV P o env H (.bool (p==q)):=by
 intro F B σ N a w r;have h:=Qg r x;have g:=Qg r y;rw[k]at h;rw[m]at g;have z:=VR.val (a:=.agg (cells p)) (E.scl p) h;have n:=VR.val (a:=.agg (cells q)) (E.scl q) g;obtain⟨b,s,l⟩:=E.eq w p q;have i:b=(p==q):=by
  rw[X3,l,VC];exact⟨E.inj p q,λe=>by rw[e]⟩
 refine⟨.bool (p==q),?_,rfl⟩;rw[<- i];generalize a.eval=ρ at*;have f:ρ x=.agg (YZ (cells p)).toArray:=z;have d:ρ y=.agg (YZ (cells q)).toArray:=n;simp[execOp,j,f,d,go_sem,run_eqGuard_agg _ _ _ _ _ _ _ E.guard,run_eql_struct,s]
theorem Qmb{α:Type}[DecidableEq α]{cells:α->List A}{t u:TypeId}{x y:Operand}{p q:α}(E:EqD P t cells)(k:opA env x=.agg (cells p))(m:opA env y=.agg (cells q))(j:o.op=.binOp .neq t x y u:=by exact rfl):OpV P o env H (.bool (p != q)):=by
 intro F B σ N a w r;have h:=Qg r x;have g:=Qg r y;rw[k]at h;rw[m]at g;have z:=VR.val (a:=.agg (cells p)) (E.scl p) h;have n:=VR.val (a:=.agg (cells q)) (E.scl q) g;obtain⟨b,s,l⟩:=E.eq w p q;have i:b=(p==q):=by
  rw[X3,l,VC];exact⟨E.inj p q,λe=>by rw[e]⟩
 refine⟨.bool (p != q),?_,rfl⟩;rw[bne, <- i];generalize a.eval=ρ at*;have f:ρ x=.agg (YZ (cells p)).toArray:=z;have d:ρ y=.agg (YZ (cells q)).toArray:=n;simp[execOp,j,f,d,go_sem,run_eqGuard_agg _ _ _ _ _ _ _ E.guard,run_neq_struct,s]
end
end Go.Sw
namespace Go.Sw
structure QfN (g g':Nat->Prop) (W W':World):Prop where
 sub:∀b,g b->g' b
 new:∀b,g' b->g b\/W.heap.size<=b
 lt:∀b,g' b->b<W'.heap.size
 all:∀b,W.heap.size<=b->b<W'.heap.size->g' b
 keep:∀b,b<W.heap.size->¬g b->W'.heap[b]?=W.heap[b]?
 size:W.heap.size<=W'.heap.size
 shape:∀b x,W.shape? b=some x->W'.shape? b=some x
 os:W'.os=W.os
 tape:W'.tape=W.tape
 output:W'.output=W.output
 drawn:W.drawn<=W'.drawn
abbrev Jv(T:Type):=List T->(Nat->Prop)->(Nat->Prop)->World->Prop
structure QpJ {T:Type} (J:Jv T):Prop where
 ev:∀rem q g W W' ro',J rem q g W->Qh g q W ro' W'->J rem q g W'
 up:∀rem q g g' W,J rem q g W->(∀b,g b->g' b)->(∀b,g' b->b<W.heap.size)->J rem q g' W
theorem Sim.round{fr g g' ro:Nat->Prop}{σ:Sig}{H:Qd}{W W':World}(s:Sim fr ro σ H W)(a:∀b,g b->fr b)(k:QfN g g' W W'):Sim (λb=>fr b\/g' b) ro σ H W'/\Qh (λb=>b<W.heap.size/\ ¬g b) ro W ro W':=by
 have e:∀b,ro b->W'.heap[b]?=W.heap[b]? :=λb q=>k.keep b (s.roLt b q) (λr=>s.roFr b q (a b r));have m:Ext ro σ W ro σ W':=by
  have ev:Qh (λ_=>False) ro W ro W':=⟨λ_ q=>q,e,λ_ q=>q.elim,k.size,k.shape,k.os,k.tape,k.output,k.drawn⟩;have:=ev.ext σ [];simpa using this
 refine⟨⟨s.len,s.roOk.to (λ_ q=>q) e (λb q=>Vj (s.roLt b q) k.size),λb q=>q.elim (λq=>Vj (s.frLt b q) k.size) (k.lt b),λb q r=>?_,λi b x h f B=>?_,s.inj,λi y x h f=>?_,
  s.hidTo (· = ·) QZ k.size (λ_ _ _ _ _ _ _ q=>q) (λi b x c h f B F=>F.elim id λq=>(k.new c q).elim (a c) λl=>(by have:=(s.hid i b x c h f B).lt;omega)) λj d y p n G=>.inl ⟨j,y,rfl,p,n,id,λc q=>s.hidKeep p n (λz=>k.keep d (s.own j d y p n z).1 λr=>(s.own j d y p n z).2.2 (a d r)) e q⟩⟩,
  ⟨λ_ q=>q,e,λb q=>k.keep b q.1 q.2,k.size,k.shape,k.os,k.tape,k.output,k.drawn⟩⟩
 .rcases r with r|r
  .exact s.roFr b q r
  .rcases k.new b r with l|l
   .exact s.roFr b q (a b l)
   .have:=s.roLt b q;omega
 .obtain⟨u,E,t⟩:=s.own i b x h f B;refine⟨Vj u k.size,E,λr=>?_⟩;rcases r with r|r
  .exact t r
  .rcases k.new b r with l|l
   .exact t (a b l)
   .omega
 .refine(s.blk i y x h f).keep m ?_ ?_
  .rintro b rfl w;obtain⟨u,E,t⟩:=s.own i b x h f w;exact k.keep b u (λr=>t (a b r))
  .rintro b c rfl w;have q:=s.hid i b x c h f w;exact k.keep c q.lt (λr=>q.fr (a c r))
def QqH{T:Type}(J Jx:Jv T)(g ri:Nat->Prop)(W1:World)(rem:List T):Ending->World->Prop:=λe W'=>
 ∃g' q',(∀b,q' b->ri b)/\QfN g g' W1 W'/\((e=.returned (.bool true)/\J rem q' g' W')\/(e=.returned (.bool false)/\Jx rem q' g' W'))
structure Ctx (T:Type) where
 l:Nat
 J:Jv T
 Jx:Jv T
 enc:T->List A
 nx:List T->T->List T->Prop
structure Ctx.ok {T:Type} (X:Ctx T) (P:Program):Prop where
 b:QpJ X.J
 bx:QpJ X.Jx
 round:∀l x rem q g ri W1 vs,X.nx l x rem->X.J l q g W1->(∀b,q b->ri b)->(∀b,ri b->b<W1.heap.size/\ ¬g b)->LR ri [] W1 (X.enc x) vs->YieldAt Fence.wide 0 P X.l vs.toArray W1 (QqH X.J X.Jx g ri W1 rem)
def QhN{T:Type}(P:Program)(f:FuncId)(caps:List A)(H:Qd)(enc:T->List A)(nx:List T->T->List T->Prop)(xs:List T):Prop:=
 ∀(X:Ctx T),X.enc=enc->X.nx=nx->X.ok P->∀fr ro σ w capv q,Sim fr ro σ H w->(∀b,q b->ro b)->LR ro σ w caps capv->X.J xs q fr w->
  Calls P f ((Value.func (.yield X.l) #[] #[]::capv)).toArray w λe W'=>(∃v,e=.returned v)/\ ∃g q',(∀b,fr b->g b)/\((X.J [] q' g W')\/(∃rem,X.Jx rem q' g W'))
inductive YSt (T:Type) where
 |on (rem:List T)
 |off (rem:List T)
def Ctx.J'{T:Type}(X:Ctx T):YSt T->(Nat->Prop)->(Nat->Prop)->World->Prop
 |.on rem=>X.J rem
 |.off rem=>X.Jx rem
def Ctx.at{T:Type}(X:Ctx T)(st:YSt T)(g ro:Nat->Prop)(W:World):Prop:=∃q,(∀b,q b->ro b)/\X.J' st q g W
theorem Qh.roMono{fr ro ro0 ro':Nat->Prop}{w w':World}(h:Qh fr ro w ro' w')(s:∀b,ro0 b->ro b):Qh fr ro0 w ro' w':=
 ⟨λb q=>h.sub b (s b q),λb q=>h.keepRo b (s b q),h.keepFr,h.size,h.shape,h.os,h.tape,h.output,h.drawn⟩
theorem Ctx.ok.ev{T:Type}{X:Ctx T}{P:Program}(h:X.ok P){e:YSt T}{g ro ro':Nat->Prop}{W W':World}(a:X.at e g ro W)(he:Qh g ro W ro' W'):X.at e g ro' W':=by
 obtain⟨q,d,a⟩:=a;refine⟨q,λb z=>he.sub b (d b z),?_⟩;cases e with
 |on rem=>exact h.b.ev rem q g W W' ro' a (he.roMono d)
 |off rem=>exact h.bx.ev rem q g W W' ro' a (he.roMono d)
theorem Ctx.ok.up{T:Type}{X:Ctx T}{P:Program}(h:X.ok P){d:YSt T}{g g' ro:Nat->Prop}{W:World}(a:X.at d g ro W)(hg:∀b,g b->g' b)(hl:∀b,g' b->b<W.heap.size):X.at d g' ro W:=by
 obtain⟨q,e,a⟩:=a;refine⟨q,e,?_⟩;cases d with
 |on rem=>exact h.b.up rem q g g' W a hg hl
 |off rem=>exact h.bx.up rem q g g' W a hg hl
abbrev YG(T:Type):=AEx->Env->Qd->YSt T->Prop
structure In (g fr:Nat->Prop) (ds:List Deferred):Prop where
 sub:∀b,g b->fr b
 beside:∀D,({target:=.collected D,args:= #[]}:Deferred)∈ds->¬g D
def Qdr{T:Type}(X:Ctx T)(h0:Nat)(fr ro:Nat->Prop)(σ:Sig)(w:World)(N:Nat)(ds:List Deferred)(Q:YG T):Exit->Act->World->Prop:=
 λe a' w'=>∃x env' H' st ro' σ' fr' g',ExR e x/\Q x env' H' st/\Rel fr' ro' σ' H' env' N a' w'/\(X.at st g' ro' w'/\In g' fr' a'.defers)/\(∀b,ro b->ro' b)/\w.heap.size<=w'.heap.size/\σ'.take h0=σ.take h0/\Grow fr w ds fr' a'.defers
theorem Qdr.grow{T:Type}{X:Ctx T}{h0:Nat}{fr d ro a:Nat->Prop}{σ σ1:Sig}{w w1:World}{N:Nat}{l f:List Deferred}{Q:YG T}{e:Exit}{a':Act}{w':World}
  (h:Qdr X h0 d a σ1 w1 N f Q e a' w')(E:∀b,ro b->a b)(k:w.heap.size<=w1.heap.size)(B:σ1.take h0=σ.take h0)(hg:Grow fr w l d f):Qdr X h0 fr ro σ w N l Q e a' w':=by
 obtain⟨x,g,H',z,j,σ',i,F,p,y,r,t,n,s,m,u⟩:=h;exact⟨x,g,H',z,j,σ',i,F,p,y,r,t,λb q=>n b (E b q),XZ k s,m.trans B,hg.trans k u⟩
def TCy{T:Type}(X:Ctx T)(P:Program)(h0 N:Nat)(c:Code)(env:Env)(H:Qd)(st:YSt T)(Q:YG T):Prop:=
 X.ok P->∀rd fr ro σ a w g,Rel fr ro σ H env N a w->X.at st g ro w/\In g fr a.defers->rd=none->c.wpIn (WF rd) 0 P (Qdr X h0 fr ro σ w N a.defers Q) a w
def WOy{T:Type}(X:Ctx T)(P:Program)(h0 N:Nat)(all:Array Oper)(l:List Oper)(env:Env)(H:Qd)(st:YSt T)(Q:YG T):Prop:=
 X.ok P->∀rd fr ro σ a w g,Rel fr ro σ H env N a w->X.at st g ro w/\In g fr a.defers->rd=none->wpL P rd all (Qdr X h0 fr ro σ w N a.defers Q) l a w
theorem In.later{fr a g:Nat->Prop}{w:World}{ds ds':List Deferred}(h:In g fr ds)(hl:∀b,fr b->b<w.heap.size)(hg:Grow fr w ds a ds'):In g a ds':=by
 refine⟨λb q=>hg.sub b (h.sub b q),λD hD q=>?_⟩;rcases hg.ds _ hD with r|⟨D',e,r⟩
 .exact h.beside D r q
 .have:D=D':=by simpa using e
  subst this;have:=hl D (h.sub D q);omega
section
variable {T:Type} {X:Ctx T} {P:Program} {h0 N:Nat} {c c':Code} {env:Env} {H:Qd} {st:YSt T} {Q:YG T}
theorem Ql3{fr ro:Nat->Prop}{σ:Sig}{w:World}{j:List Deferred}{e:Exit}{a':Act}{w':World}(q:X.ok P)(h:QaQ h0 fr ro σ w N j (λx env H=>Q x env H st) e a' w'){g:Nat->Prop}(hl:∀b,fr b->b<w.heap.size)(d:X.at st g ro w/\In g fr j):
  Qdr X h0 fr ro σ w N j Q e a' w':=by
 obtain⟨x,a,H',k,σ',f,p,n,r,i,m,l⟩:=h;exact⟨x,a,H',st,k,σ',f,g,p,n,r,⟨q.ev d.1 (i.frMono d.2.sub),d.2.later hl l⟩,i.sub,i.size,m,l⟩
theorem TCy.lift(h:TC P h0 N c env H (λx env H=>Q x env H st)):TCy X P h0 N c env H st Q:=
 λhX rd fr ro σ a w g r hj hrd=>Code.wpIn_mono (λe a' w' q=>Ql3 hX q r.sim.frLt hj) (h rd fr ro σ a w r (hrd▸Qet.none))
def SeqY(X:Ctx T)(P:Program)(h0 N:Nat)(c:Code)(Q:YG T):YG T
 |.normal,env,H,st=>TCy X P h0 N c env H st Q
 |.exit id,env,H,st=>Q (.exit id) env H st
 |.ret,env,H,st=>Q .ret env H st
theorem TCy.seq(h:TCy X P h0 N c env H st (SeqY X P h0 N c' Q)):TCy X P h0 N (.seq c c') env H st Q:=by
 intro y z E F σ a w g r hj hrd;refine wpIn_seq (Code.wpIn_mono ?_ (h y z E F σ a w g r hj hrd));rintro e G B ⟨x,b,H',i,f,σ',d,u,j,t,p,s,k,l,n,m⟩;cases e with
 |normal=>
  obtain rfl:x=.normal:=j;exact Code.wpIn_mono (λe a w q=>q.grow k l n m) (t y z d f σ' G B u p s hrd)
 |exit id=>
  obtain rfl:x=.exit id:=j;exact⟨_,b,H',i,f,σ',d,u,rfl,t,p,s,k,l,n,m⟩
 |ret=>
  obtain rfl:x=.ret:=j;exact⟨_,b,H',i,f,σ',d,u,rfl,t,p,s,k,l,n,m⟩
 |_=>exact j.elim
theorem TCy.region{id:Nat}{l:List Oper}(h:WOy X P h0 N l.toArray l env H st Q):TCy X P h0 N (.region id l.toArray false) env H st Q:=
 λhX rd fr ro σ a w g r hj hrd=>wpIn_region_lit (h hX rd fr ro σ a w g r hj hrd)
theorem TCy.cond{x:Operand}{t:Bool}(l:opA env x=.bool t)(j:t=true->TCy X P h0 N c env H st Q)(k:t=false->TCy X P h0 N c' env H st Q):TCy X P h0 N (.cond x c c') env H st Q:=by
 intro i f h b σ a w g r hj hrd;have d:=Qg r x;rw[l]at d;exact wpIn_cond_split d (λe=>j e i f h b σ a w g r hj hrd) (λe=>k e i f h b σ a w g r hj hrd)
theorem WOy.nil{all:Array Oper}(h:Q .normal env H st):WOy X P h0 N all [] env H st Q:=
 λhX rd fr ro σ a w g r hj hrd=>⟨_,env,H,st,ro,σ,fr,g,rfl,h,r,hj,λ_ q=>q,XX _,rfl,Grow.refl _ _ _⟩
end
theorem Qjs{P:Program}{rd:Option Nat}{o:Oper}{a:Act}{K K':Act->World->Prop}{Q Q':Exit->Act->World->Prop}(b:∀a w,K a w->K' a w)(i:∀ch a w,Q (.panic ch) a w->Q' (.panic ch) a w)(m:∀a w,Q .outgrown a w->Q' .outgrown a w)
  {r:Result Next}(h:o.uponIn (WF rd) 0 P a K Q r):o.uponIn (WF rd) 0 P a K' Q' r:=by
 cases r with
 |ok x w=>
  cases x with
  |value v=>exact b _ _ h
  |skip=>exact b _ _ h
  |defer d=>exact b _ _ h
  |enter f g=>
   refine⟨h.1,CallsIn.mono h.2 ?_⟩;intro e k q;cases e with
   |returned v=>exact b _ _ q
   |panicked c=>exact i _ _ _ q
   |outgrown=>obtain⟨a,w,q⟩:=q;exact⟨a,w,m _ _ q⟩
  |row r g=>exact⟨h.1,RowsIn.mono h.2 λv k q=>b _ _ q⟩
  |round l f n assign j=>
   refine⟨h.1,RoundIn.mono h.2 ?_⟩;intro e k q;cases e with
   |returned v=>exact b _ _ q
   |panicked c=>exact i _ _ _ q
   |outgrown=>obtain⟨a,w,q⟩:=q;exact⟨a,w,m _ _ q⟩
  |_=>exact h
 |halt x w=>
  cases x with
  |panic v=>exact i _ _ _ h
  |_=>exact h
section
variable {T:Type} {X:Ctx T} {P:Program} {h0 N:Nat} {env:Env} {H:Qd} {st:YSt T} {Q:YG T}
theorem WOy.step{all:Array Oper}{o:Oper}{rest:List Oper}(h:WO P h0 N all [o] env H (λx env' H'=>x=.normal/\WOy X P h0 N all rest env' H' st Q)):WOy X P h0 N all (o::rest) env H st Q:=by
 intro u s l m σ a w g r hj hrd;have B:∀j d,Qb7 h0 l m σ w N a.defers (λx env' H'=>x=.normal/\WOy X P h0 N all rest env' H' st Q) .normal j d->wpL P s all (Qdr X h0 l m σ w N a.defers Q) rest j d:=by
  rintro j d ⟨x,env',H',i,σ',f,L,⟨_,G⟩,F,t,E,y,z⟩;have p:X.at st g i d/\In g f j.defers:=⟨u.ev hj.1 (t.frMono hj.2.sub),by rw[y];exact hj.2.later r.sim.frLt z⟩;have:=G u s f i σ' j d g F p hrd;refine Yk (λe k w2 q=>?_) _ _ _ this;exact q.grow t.sub t.size E (by rw[y];exact z)
 have b:=h s l m σ a w r (hrd▸Qet.none);unfold wpL wpListIn at b⊢;split
 .rename_i n;rw[Vx n]at b;refine⟨b.1,Qjs (λk w2 q=>?_) (λJ k w2 q=>?_) (λk w2 q=>?_) b.2⟩
  .unfold wpListIn at q;exact B k w2 q
  .obtain⟨x,_,_,_,_,_,q,_⟩:=q;exact q.elim
  .obtain⟨x,_,_,_,_,_,q,_⟩:=q;exact q.elim
 .rename_i n;rw[Vw n]at b;refine⟨b.1,?_⟩;have q:=b.2;unfold wpListIn at q;exact B _ _ q
theorem WOy.yield{all:Array Oper}{o:Oper}{rest:List Oper}{d:Nat}{x:T}{O rem:List T}(R:X.nx O x rem)(hg:Qp all o env true)(E:o.dst=some d)(hN:Nat.blt d N=true)
  (M:∀fr ro σ a w,Rel fr ro σ H env N a w->∃vs:List Value,LR ro [] w (X.enc x) vs/\(execOp a.eval o).run P w=(Instr.yield X.l vs.toArray).run P w)
  (k:∀b:Bool,WOy X P h0 N all rest (up env d (.bool b)) H (bif b then .on rem else .off rem) Q):WOy X P h0 N all (o::rest) env H (.on O) Q:=by
 intro V L fr ro σ a w g r hj hrd;obtain⟨vs,hv,he⟩:=M fr ro σ a w r;obtain⟨q,hq,G⟩:=hj.1;obtain⟨fn,tmps,assign,W,h1,h2⟩:=V.round O x rem q g ro w vs R G hq (λb z=>⟨r.sim.roLt b z,λy=>r.sim.roFr b z (hj.2.sub b y)⟩) hv;have h3:=he.trans h1;unfold wpL wpListIn;rw[Vx (YI hg r)];refine⟨λ_ _=>trivial,?_⟩;rw[QcV h3 (λd e=>by cases e)];refine⟨λh=>by simp[WF,Fence.wide]at h,?_⟩;refine RoundIn.mono (F:=WF L) (n:=0) h2 ?_;rintro e i ⟨j,t,m,p,f⟩;obtain⟨Y,ev⟩:=r.sim.round hj.2.sub p;have J:d<N:=by simpa using hN
 have u:Ext ro σ w ro σ i:=by have:=ev.ext σ [];simpa using this
 have fin:∀b:Bool,X.at (bif b then .on rem else .off rem) j ro i->wpL P L all (Qdr X h0 fr ro σ w N a.defers Q) rest (a.put o.dst (.bool b)) i:=by
  intro b f;have hm:Qdu (λb=>fr b\/j b) a.defers i:=by
   refine⟨r.defers.1,λd E=>?_⟩;obtain⟨D,rfl,B,q2⟩:=r.defers.2 d E;exact⟨D,rfl,.inl B,(p.keep D (r.sim.frLt D B) (hj.2.beside D E)).trans q2⟩
  have hi:In j (λb=>fr b\/j b) a.defers:=by
   refine⟨λb q=>.inr q,λD hD q=>?_⟩;rcases p.new D q with t|t
   .exact hj.2.beside D hD t
   .obtain⟨D',e,B,_⟩:=r.defers.2 _ hD;have:D=D':=by simpa using e
    subst this;have:=r.sim.frLt D B;omega
  have r':Rel (λb=>fr b\/j b) ro σ H (up env d (.bool b)) N {a with tmps:=a.tmps.setIfInBounds d (.bool b)} i:=
   ⟨Y,VR.up (fr:=fr) (λs=>(r.env s).mono u) (by rw[r.size];exact J) rfl,by simpa using r.size,hm⟩
  have:=k b V L _ ro σ _ i j r' ⟨f,hi⟩ hrd;simp only[E,Act.put];refine Yk (λe a2 w2 q=>q.grow (λ_ q=>q) p.size rfl ⟨λ_ q=>.inl q,λb q=>?_,λ_ q=>.inl q⟩) _ _ _ this;rcases q with q|q
  .exact .inl q
  .rcases p.new b q with q|q
   .exact .inl (hj.2.sub b q)
   .exact .inr q
 rcases f with⟨rfl,f⟩|⟨rfl,f⟩
 .exact fin true ⟨t,m,f⟩
 .exact fin false ⟨t,m,f⟩
end
def EndY{T:Type}:YG T:=λx env H st=>(x=.normal\/x=.ret)/\(st=.on []\/ ∃rem,st=.off rem)
theorem Qdo{T:Type}{P:Program}{f:FuncId}{fn:Func}{c:Code}{N:Nat}{a:List A}{H:Qd}{enc:T->List A}{nx:List T->T->List T->Prop}{xs:List T}
  (Y:P.funcs[f]?=some fn)(hb:fn.body=some c)(hN:fn.ntmps=N)(hA:Nat.ble (a.length+1) N=true)(W:fn.results= #[])
  (h:∀X:Ctx T,X.enc=enc->X.nx=nx->TCy X P H.length N c (QgO 0 (.fn (.yield X.l) [] []::a)) H (.on xs) EndY):QhN P f a H enc nx xs:=by
 intro X hE hNx hX fr ro0 σ w capv q0 hs hq0 hl hj;have t:LR ro0 σ w (.fn (.yield X.l) [] []::a) (Value.func (.yield X.l) #[] #[]::capv):=⟨_,_,rfl,⟨[],[],rfl,rfl,rfl⟩,hl⟩;have r:=t.length;have ab:a.length+1<=N:=by simpa using hA
 refine(callsIn_wide (n:=0)).1 (callsIn_of_wp_marks Y hb trivial (Code.wpIn_mono ?_ (h X hE hNx hX none fr ro0 σ _ w fr ⟨hs,?_,?_,List.nodup_nil,λd y=>by cases y⟩ ⟨⟨q0,hq0,hj⟩,λ_ q=>q,λD hD=>by cases hD⟩ rfl)))
 .rintro e M Q ⟨x,R,H1,st,F,σ1,aa,O,V,⟨h2,B⟩,k,⟨h4,j⟩,h5,h6,h7,h8⟩;have p:LeavesInM Fence.wide 0 P fn M.tmps (λe W'=>(∃v,e=.returned v)/\ ∃g q',(∀b,fr b->g b)/\((X.J [] q' g W')\/(∃rem,X.Jx rem q' g W'))) M.defers .returning Q:=by
   refine Qbs (ro:=F) (fr:=O) (σ:=σ1) (H:=H1) M.defers Q k.defers.1 (λd y=>?_) (k.sim.frMono j.sub) (λw2 s2 m=>?_)
   .obtain⟨D,rfl,G,q2⟩:=k.defers.2 d y;exact⟨D,rfl,λq=>k.sim.roFr D q G,j.beside D y,λi x z E L=>(k.sim.own i D x z E L).2.2 G,λi d x z E L=>(k.sim.hid i d x D z E L).fr G,q2⟩
   .have u:=hX.up (hX.ev h4 m) (g':=λb=>O b\/fr b) (λb q=>.inl q) (λb q=>Vj (k.sim.frLt b (q.elim (j.sub b) (h8.sub b))) m.size);obtain⟨q9,_,u⟩:=u;refine⟨.tuple #[],by simp[results,W,go_sem],⟨_,rfl⟩,λb=>O b\/fr b,q9,λb q=>.inr q,?_⟩;rcases B with rfl|⟨rem,rfl⟩
    .exact .inl u
    .exact .inr ⟨rem,u⟩
  cases e with
  |normal=>exact p
  |ret=>exact p
  |exit id=>
   obtain rfl:x=.exit id:=V;rcases h2 with q|q<;>cases q
  |_=>exact V.elim
 .intro s;have:=Qfc (i:=0) [] rfl t (Array.replicate (fn.ntmps-(Value.func (.yield X.l) #[] #[]::capv).toArray.size) undef) s;simpa using this
 .simp only[X5]at r;simp[hN];omega
section
variable {T:Type} {X:Ctx T} {P:Program} {h0 N:Nat} {c c':Code} {env:Env} {H:Qd} {st:YSt T} {Q Q':YG T}
theorem TCy.mono(h:TCy X P h0 N c env H st Q)(k:∀x env H st,Q x env H st->Q' x env H st):TCy X P h0 N c env H st Q':=by
 intro q n p j σ a w g r hj hrd;refine Code.wpIn_mono ?_ (h q n p j σ a w g r hj hrd);rintro e y u ⟨x,b,H',d,i,σ',f,t,m,l,s⟩;exact⟨x,b,H',d,i,σ',f,t,m,k _ _ _ _ l,s⟩
theorem TCy.skip(h:Q .normal env H st):TCy X P h0 N .skip env H st Q:=TCy.lift (TC.skip h)
theorem TCy.ret(h:Q .ret env H st):TCy X P h0 N .ret env H st Q:=TCy.lift (TC.ret h)
theorem TCy.exit{id:Nat}(h:Q (.exit id) env H st):TCy X P h0 N (.exit id) env H st Q:=TCy.lift (TC.exit h)
def BloY(id:Nat)(Q:YG T):YG T
 |.normal,env,H,st=>Q .normal env H st
 |.exit id',env,H,st=>bif Nat.beq id' id then Q .normal env H st else Q (.exit id') env H st
 |.ret,env,H,st=>Q .ret env H st
theorem TCy.block{id:Nat}(h:TCy X P h0 N c env H st (BloY id Q)):TCy X P h0 N (.block id c) env H st Q:=by
 intro y t u p σ a w g r hj hrd;refine wpIn_block (Code.wpIn_mono ?_ (h y t u p σ a w g r hj hrd));rintro e B z ⟨x,b,H',f,j,σ',i,n,l,k,m⟩;cases e with
 |normal=>
  obtain rfl:x=.normal:=l;exact⟨_,b,H',f,j,σ',i,n,rfl,k,m⟩
 |exit d=>
  obtain rfl:x=.exit d:=l;show Exit.inBlock id _ _ _ _;unfold Exit.inBlock;simp only[BloY]at k;by_cases q:d=id
  .subst q;rw[VJ,Vt]at k;simp only[if_true];exact⟨.normal,b,H',f,j,σ',i,n,rfl,k,m⟩
  .have s:Nat.beq d id=false:=by
    cases e:Nat.beq d id with
    |false=>rfl
    |true=>exact absurd (XU e) q
   rw[s,Vu]at k;simp only[q,if_false];exact⟨.exit d,b,H',f,j,σ',i,n,rfl,k,m⟩
 |ret=>
  obtain rfl:x=.ret:=l;exact⟨_,b,H',f,j,σ',i,n,rfl,k,m⟩
 |_=>exact l.elim
end
section
variable {T:Type} {X:Ctx T} {P:Program} {h0 N:Nat} {c:Code} {env:Env} {H:Qd} {st:YSt T} {Q:YG T}
def Qmi(I:Env->Qd->YSt T->Prop)(Q:YG T):YG T
 |.normal,env,H,st=>I env H st
 |.exit id,env,H,st=>Q (.exit id) env H st
 |.ret,env,H,st=>Q .ret env H st
theorem QgW{I:Nat->Env->Qd->YSt T->Prop}(body:∀n env H st,I n env H st->TCy X P h0 N c env H st (Qmi (λenv H st=>∃n',n'<n/\I n' env H st) Q)){n:Nat}(G:I n env H st):TCy X P h0 N (.loop c) env H st Q:=by
 intro hX R y z σ a w g r hj hrd b k cs hro hb hr;have F:∀m n env H st fr1 ro1 σ1 a1 w1 g1,n<m->I n env H st->Rel fr1 ro1 σ1 H env N a1 w1->(∀b,z b->ro1 b)->w.heap.size<=w1.heap.size->σ1.take h0=σ.take h0->Grow y w a.defers fr1 a1.defers->X.at st g1 ro1 w1/\In g1 fr1 a1.defers->
   ∃e i h,Qdr X h0 y z σ w N a.defers Q e i h/\ArrivesIn (Machine.fenced P (WF R)) P (lone (b.atR a1 (.code c::.inLoop c::k)) cs w1) b k cs e i h:=by
  intro m
  induction m with
  |zero=>intro n env H st fr1 ro1 σ1 a1 w1 g1 hn;exact absurd hn (Xn _)
  |succ m ih=>
   intro n env H st fr1 ro1 σ1 a1 w1 g1 hn G r1 s1 z1 t1 gr1 j1;obtain⟨e,i,h,J,d⟩:=body n env H st G hX R fr1 ro1 σ1 a1 w1 g1 r1 j1 hrd b (.inLoop c::k) cs hro hb hr;obtain⟨x,f,H',j,t,σ',p,g',B,u,V,L,q5,M,W,q8⟩:=J;have O:=λb q=>q5 b (s1 b q);have s:=gr1.trans z1 q8;have Y:∀x,Q x f H' j->ExR e x->Qdr X h0 y z σ w N a.defers Q e i h:=λx q q'=>⟨x,f,H',j,t,σ',p,g',q',q,V,L,O,XZ z1 M,W.trans t1,s⟩;cases e with
   |normal=>
    obtain rfl:x=.normal:=B;obtain⟨n',aa,u⟩:=u;obtain⟨e2,a2,w2,E,l⟩:=ih n' f H' j p t σ' i h g' (by omega) u V O (XZ z1 M) (W.trans t1) s L;exact⟨e2,a2,w2,E,.of_steps (StepsIn.trans d (.one (fenced_calm hb hr rfl) stepR_inLoop)) l⟩
   |exit id=>
    obtain rfl:x=.exit id:=B;exact⟨_,i,h,Y _ u rfl,.pass (x:=.inLoop c) rfl (λ_ _=>.inl (by simp)) d⟩
   |ret=>
    obtain rfl:x=.ret:=B;exact⟨_,i,h,Y _ u rfl,.pass (x:=.inLoop c) rfl (λ_ _=>.inl (by simp)) d⟩
   |_=>exact B.elim
 obtain⟨e,i,h,J,d⟩:=F (n+1) n env H st y z σ a w g (Xo _) G r (λ_ q=>q) (XX _) rfl (Grow.refl _ _ _) hj;exact⟨e,i,h,J,.of_steps (.one (fenced_calm hb hr rfl) stepR_loop) d⟩
end
end Go.Sw
namespace Go.Sw
theorem Sim.part{fr ro:Nat->Prop}{σ:Sig}{H:Qd}{w:World}(s0:Sim fr ro σ H w){π:List Nat}{Hc:Qd}(hH:π.map (λp=>H[p]?)=(Hc.map (QW (rho π H.length))).map some)(hπ:π.Nodup):
  Sim (λb=>fr b\/(∃i x,σ[i]?=some (some b)/\H[i]?=some x/\x.live=true/\i∉π)\/ ∃i x d,σ[i]?=some (some d)/\H[i]?=some x/\Hid w x d b/\i∉π) ro (Yh σ π) Hc w/\ ∀j:Nat,σ[rho π H.length j]?=(Yh σ π)[j]? :=by
 have hp:∀p∈π,p<H.length:=λp q=>Jk hH q;have hσl:=s0.len;have h:∀(j p:Nat),π[j]?=some p->H[p]?=(Hc[j]?).map (QW (rho π H.length)):=by
  intro j p a;have:=congrArg (λl=>l[j]?) hH;simp only[Xq,a,Xj]at this;cases e:Hc[j]? with
  |none=>rw[e]at this;simp at this
  |some x=>rw[e]at this;simpa using this
 have N:π.length=Hc.length:=by simpa using congrArg List.length hH
 have hσc:∀j:Nat,σ[rho π H.length j]?=(Yh σ π)[j]? :=by
  intro j;have:=Qev (τ:=[]) hσl hp j;simpa using this
 have hπj:∀(j b:Nat),(Yh σ π)[j]?=some (some b)->∃p,π[j]?=some p/\σ[p]?=some (some b):=by
  intro j b a;simp only[Yh,Xq]at a;cases e:π[j]? with
  |none=>rw[e]at a;simp at a
  |some p=>
   rw[e]at a;simp at a;refine⟨p,rfl,?_⟩;cases r:σ[p]? with
   |none=>rw[r]at a;simp at a
   |some s=>rw[r]at a;simp at a;rw[a]
 refine⟨?_,hσc⟩
 .refine⟨by simp[Yh,N],s0.roOk,?_,?_,?_,?_,?_,?_⟩
  .rintro b (P|⟨i,x,g,n,m,L⟩|⟨i,x,d,g,n,m,L⟩)
   .exact s0.frLt b P
   .exact(s0.own i b x g n m).1
   .exact(s0.hid i d x b g n m).lt
  .rintro b P (M|⟨i,x,g,n,m,L⟩|⟨i,x,d,g,n,m,L⟩)
   .exact s0.roFr b P M
   .exact(s0.own i b x g n m).2.1 P
   .exact(s0.hid i d x b g n m).ro P
  .intro j b x g n m;obtain⟨p,f,r⟩:=hπj j b g;have B:H[p]?=some (QW (rho π H.length) x):=by rw[h j p f,n];rfl
   obtain⟨o1,o2,o3⟩:=s0.own p b _ r B (by rw[QO];exact m);refine⟨o1,o2,?_⟩;rintro(M|⟨i,y,y1,y2,F,O⟩|⟨i,y,d,y1,y2,F,O⟩)
   .exact o3 M
   .have:=s0.inj i p b _ _ y1 r y2 B F (by rw[QO];exact m);subst this;exact O (VL f)
   .exact(s0.hid i d y b y1 y2 F).ne p b _ r B (by rw[QO];exact m) rfl
  .intro i j b x y g n m L q5 q6;obtain⟨p,f,r⟩:=hπj i b g;obtain⟨u,z,V⟩:=hπj j b n;have B:H[p]?=some (QW (rho π H.length) x):=by rw[h i p f,m];rfl
   have R:H[u]?=some (QW (rho π H.length) y):=by rw[h j u z,L];rfl
   have:=s0.inj p u b _ _ r V B R (by rw[QO];exact q5) (by rw[QO];exact q6);subst this;have G:i<π.length:=by
    rcases VG i π.length with q|q
    .exact q
    .rw[XS q]at f;simp at f
   have a:j<π.length:=by
    rcases VG j π.length with q|q
    .exact q
    .rw[XS q]at z;simp at z
   rw[XO G]at f;rw[XO a]at z;have t:=(X4 f).trans (X4 z).symm;rcases Nat.lt_trichotomy i j with q|q|q
   .exact(VI.1 hπ i j G a q t).elim
   .exact q
   .exact(VI.1 hπ j i a G q t.symm).elim
  .intro j s x g n;have a:j<π.length:=by
    rcases VG j π.length with q|q
    .exact q
    .rw[XS (by simpa[Yh]using q)]at g;simp at g
   have f:π[j]?=some π[j]:=XO a;have B:H[π[j]]?=some (QW (rho π H.length) x):=by rw[h j _ f,n];rfl
   have r:σ[π[j]]?=some s:=by
    have:=hσc j;rw[g]at this;simpa[rho,f]using this
   exact(Qh0 hσc).1 (s0.blk _ s _ r B)
  .intro j b x c g n m;obtain⟨p,f,r⟩:=hπj j b g;have B:H[p]?=some (QW (rho π H.length) x):=by rw[h j p f,n];rfl
   have k:=s0.hid p b _ c r B ((Qam _ _ _ _ _).2 m);refine⟨k.lt,k.ro,?_,?_,?_⟩
   .rintro(M|⟨i,y,y1,y2,F,O⟩|⟨i,y,d,y1,y2,F,O⟩)
    .exact k.fr M
    .exact k.ne i c y y1 y2 F rfl
    .obtain⟨rfl,rfl⟩:=k.one i d y y1 y2 F;exact O (VL f)
   .intro E Q y Y T W;obtain⟨u,J,X⟩:=hπj E Q Y;exact k.ne u Q _ X (show H[u]?=some (QW (rho π H.length) y)by rw[h E u J,T];rfl) (by rw[QO];exact W)
   .intro E Q y Y T W;obtain⟨u,J,X⟩:=hπj E Q Y;obtain⟨z4,z5⟩:=k.one u Q _ X (show H[u]?=some (QW (rho π H.length) y)by rw[h E u J,T];rfl) ((Qam _ _ _ _ _).2 W);subst z5;have G:E<π.length:=(XP.1 J).1;have a:j<π.length:=(XP.1 f).1;rw[XO G]at J;rw[XO a]at f;have t:=(X4 J).trans (X4 f).symm;refine⟨z4,?_⟩;rcases Nat.lt_trichotomy E j with q|q|q
    .exact(VI.1 hπ E j G a q t).elim
    .exact q
    .exact(VI.1 hπ j E a G q t.symm).elim
theorem Sim.frames{fr fr' ro:Nat->Prop}{σ:Sig}{H:Qd}{w:World}(s:Sim fr ro σ H w)(lt:∀b,fr' b->b<w.heap.size)(hro:∀b,ro b->¬fr' b)(own:∀(i b:Nat) (x:Blk),σ[i]?=some (some b)->H[i]?=some x->x.live=true->¬fr' b)
  (hd:∀(i b:Nat) (x:Blk) (c:Nat),σ[i]?=some (some b)->H[i]?=some x->Hid w x b c->¬fr' c):Sim fr' ro σ H w:=
 ⟨s.len,s.roOk,lt,hro,λi b x q1 q2 q3=>⟨(s.own i b x q1 q2 q3).1,(s.own i b x q1 q2 q3).2.1,own i b x q1 q2 q3⟩,s.inj,s.blk,
  s.hidTo (· = ·) QZ (XX _) (λ_ _ _ _ _ _ _ q=>q) (λi b x c q1 q2 q3 q4=>(hd i b x c q1 q2 q3 q4).elim) λj d y g1 g2 g3=>.inl ⟨j,y,rfl,g1,g2,id,λ_ q=>q⟩⟩
def QkO(H:Qd)(p:Nat):Qd:=match H[p]? with
 |some x=>bif x.holds then H.set p .dead else H
 |none=>H
def Qd9:Qd->List Nat->Qd
 |H,[]=>H
 |H,p::π=>Qd9 (QkO H p) π
theorem Qea(H:Qd)(p:Nat):(QkO H p=H/\ ∀x,H[p]?=some x->x.holds=false)\/QkO H p=H.set p .dead:=by
 unfold QkO;cases h:H[p]? with
 |none=>exact .inl ⟨rfl,λx q=>by cases q⟩
 |some x=>
  cases q:x.holds with
  |false=>exact .inl ⟨by simp[q],λy a=>by cases a;exact q⟩
  |true=>exact .inr (by simp[q])
theorem Qfd:∀(π:List Nat) (H:Qd) (i:Nat) (x:Blk),(Qd9 H π)[i]?=some x->x=.dead\/(H[i]?=some x/\(x.holds=true->i∉π))
 |[],H,i,x,h=>.inr ⟨h,λ_=>by simp⟩
 |p::π,H,i,x,h=>by
  rcases Qfd π _ i x h with h|⟨h1,h2⟩
  .exact .inl h
  .rcases Qea H p with⟨e,hl⟩|e
   .rw[e]at h1;refine .inr ⟨h1,λhx=>?_⟩;simp only[Va,not_or];refine⟨λq=>?_,h2 hx⟩;subst q;have:=hl x h1;rw[this]at hx;cases hx
   .rw[e]at h1;by_cases q:p=i
    .subst q;rw[Xb]at h1;simp at h1;exact .inl h1.2.symm
    .rw[XT q]at h1;exact .inr ⟨h1,λhx=>by simp only[Va,not_or];exact⟨λr=>q r.symm,h2 hx⟩⟩
theorem QdT{fr ro:Nat->Prop}{σ:Sig}{w:World}:∀(π:List Nat) {H:Qd} (s:Sim fr ro σ H w),Sim fr ro σ (Qd9 H π) w
 |[],_,s=>s
 |p::π,H,s=>by
  rw[Qd9];rcases Qea H p with h|h
  .rw[h.1];exact QdT π s
  .rw[h];exact QdT π (s.kill p)
theorem Sim.put{fr ro:Nat->Prop}{σ:Sig}{H:Qd}{w:World}(s:Sim fr ro σ H w){b:Nat}{obj:Obj}(l:fr b)(t:w.shape? b=none):
  Sim fr ro σ H (w.putObj b obj)/\Qh (λc=>c≠b) ro w ro (w.putObj b obj):=by
 have a:∀c,c≠b->(w.putObj b obj).heap[c]?=w.heap[c]? :=λc F=>World.putObj_heap_other F;have f:(w.putObj b obj).heap.size=w.heap.size:=by simp
 have p:∀c,ro c->c≠b:=λc q e=>s.roFr c q (e▸l);have ev:Qh (λc=>c≠b) ro w ro (w.putObj b obj):=by
  refine⟨λ_ q=>q,λc q=>a c (p c q),λc q=>a c q,by rw[f];exact XX _,λc x q=>?_,rfl,rfl,rfl,XX _⟩;by_cases e:c=b
  .subst e;rw[t]at q;cases q
  .unfold World.shape? at q⊢;rw[a c e];exact q
 have k:Ext ro σ w ro σ (w.putObj b obj):=by have:=ev.ext σ [];simpa using this
 refine⟨⟨s.len,s.roOk.to (λ_ q=>q) ev.keepRo (λc q=>by rw[f];exact s.roLt c q),λc q=>by rw[f];exact s.frLt c q,s.roFr,λi c x h g E=>?_,s.inj,λi y x h g=>?_,
  s.hidTo (· = ·) QZ (by rw[f];exact XX _) (λ_ _ _ _ _ _ _ q=>q) (λ_ _ _ _ _ _ _ q=>q) λj d y r m J=>.inl ⟨j,y,rfl,r,m,id,λc q=>s.hidKeep r m (λz=>a d (λe=>(s.own j d y r m z).2.2 (e▸l))) ev.keepRo q⟩⟩,ev⟩
 .obtain⟨u,B,G⟩:=s.own i c x h g E;exact⟨by rw[f];exact u,B,G⟩
 .refine(s.blk i y x h g).keep k ?_ ?_
  .rintro c rfl n;exact a c (λe=>(s.own i c x h g n).2.2 (e▸l))
  .rintro d c rfl n;exact a c (λe=>(s.hid i d x c h g n).fr (e▸l))
theorem Qbr{w:World}{l:Nat}{r:Loop}(h:w.heap[l]?=some (.loop r)):w.shape? l=none:=by
 unfold World.shape?;rw[h]
structure Fix where
 fr:Nat->Prop
 ro:Nat->Prop
 σ:Sig
 w:World
 h1:Nat
 env:Env
 tmps:Array Value
 ds1:List Deferred
 l:Nat
 rc:LoopState->Option Code->Loop
 fr1:Nat->Prop
structure Fix.Ok (D:Fix):Prop where
 sub:∀b,D.fr b->D.fr1 b
 l1:D.fr1 D.l
 lf:¬D.fr D.l
 len:D.σ.length=D.h1
structure RJ (D:Fix) (ro1:Nat->Prop) (σ1:Sig) (H:Qd) (st:LoopState) (pe:Option Code) (q g:Nat->Prop) (W:World):Prop where
 sim:Sim D.fr1 ro1 σ1 H W
 env:∀t,VR ro1 D.σ W (lk D.env t) (D.tmps.getD t undef)
 sig:σ1.take D.h1=D.σ
 ev:Qh D.fr D.ro D.w ro1 W
 marks:Qdu D.fr1 D.ds1 W
 rc:W.heap[D.l]?=some (.loop (D.rc st pe))
 roG:∀b,ro1 b->q b\/g b
 frG:∀b,D.fr1 b->g b
 own:∀(i b:Nat) (x:Blk),σ1[i]?=some (some b)->H[i]?=some x->x.live=true->g b
 hidG:∀(i b:Nat) (x:Blk) (c:Nat),σ1[i]?=some (some b)->H[i]?=some x->Hid W x b c->g c
 lt:∀b,g b->b<W.heap.size
theorem Qd1{σ σ1:Sig}{a:Nat}(h:σ1.take a=σ){i b:Nat}(q:σ[i]?=some (some b)):σ1[i]?=some (some b):=by
 subst h;rw[List.getElem?_take]at q;split at q
 .exact q
 .cases q
section
variable {D:Fix} {ro1:Nat->Prop} {σ1:Sig} {H:Qd} {st:LoopState} {pe:Option Code} {qR g:Nat->Prop} {W:World}
theorem RJ.step(r:D.Ok)(j:RJ D ro1 σ1 H st pe qR g W){ro':Nat->Prop}{W':World}(e:Qh g qR W ro' W'):RJ D ro1 σ1 H st pe qR g W':=by
 have h:∀b,ro1 b->W'.heap[b]?=W.heap[b]? :=λb q=>(j.roG b q).elim (e.keepRo b) (e.keepFr b);have ev:Qh D.fr1 ro1 W ro1 W':=⟨λ_ q=>q,h,λb q=>e.keepFr b (j.frG b q),e.size,e.shape,e.os,e.tape,e.output,e.drawn⟩;have k:∀σ,Ext ro1 σ W ro1 σ W':=λ σ=>by have:=ev.ext σ [];simpa using this
 refine⟨⟨j.sim.len,j.sim.roOk.to (λ_ q=>q) h (λb q=>Vj (j.sim.roLt b q) e.size),λb q=>Vj (j.sim.frLt b q) e.size,j.sim.roFr,λi b x a f p=>?_,j.sim.inj,λi z x a f=>?_,
  j.sim.hidTo (· = ·) QZ e.size (λ_ _ _ _ _ _ _ q=>q) (λ_ _ _ _ _ _ _ q=>q) λi d y n l w=>.inl ⟨i,y,rfl,n,l,id,λc q=>j.sim.hidKeep n l (λz=>e.keepFr d (j.own i d y n l z)) h q⟩⟩,
  λt=>(j.env t).mono (k _),j.sig,j.ev.trans (ev.frMono r.sub),j.marks.keep ev,(ev.keepFr _ r.l1).trans j.rc,j.roG,j.frG,j.own,λi b x c a f p=>j.hidG i b x c a f (j.sim.hidKeep a f (λz=>e.keepFr b (j.own i b x a f z)) h p),λb q=>Vj (j.lt b q) e.size⟩
 .obtain⟨u,s⟩:=j.sim.own i b x a f p;exact⟨Vj u e.size,s⟩
 .refine(j.sim.blk i z x a f).keep (k _) ?_ ?_
  .rintro b rfl m;exact e.keepFr b (j.own i b x a f m)
  .rintro b c rfl m;exact e.keepFr c (j.hidG i b x c a f m)
theorem RJ.up{g':Nat->Prop}(j:RJ D ro1 σ1 H st pe qR g W)(h:∀b,g b->g' b)(hl:∀b,g' b->b<W.heap.size):RJ D ro1 σ1 H st pe qR g' W:=
 {j with roG:=λb q=>(j.roG b q).imp id (h b),frG:=λb q=>h b (j.frG b q),own:=λi b x q1 q2 q3=>h b (j.own i b x q1 q2 q3),hidG:=λi b x c q1 q2 q3=>h c (j.hidG i b x c q1 q2 q3),lt:=hl}
def FrB(D:Fix)(ro1 g:Nat->Prop)(W:World):Nat->Prop:=λb=>(D.fr1 b\/(¬g b/\ ¬ro1 b))/\b<W.heap.size
theorem RJ.simB(j:RJ D ro1 σ1 H st pe qR g W):Sim (FrB D ro1 g W) ro1 σ1 H W:=by
 refine j.sim.frames (λb q=>q.2) (λb q r=>?_) (λi b x e d a r=>?_) (λi b x c e d a r=>r.1.elim (j.sim.hid i b x c e d a).fr λr=>r.1 (j.hidG i b x c e d a))
 .rcases r.1 with r|r
  .exact j.sim.roFr b q r
  .exact r.2 q
 .rcases r.1 with r|r
  .exact(j.sim.own i b x e d a).2.2 r
  .exact r.1 (j.own i b x e d a)
theorem RJ.fin(G:D.Ok)(j:RJ D ro1 σ1 H st pe qR g W){w ro':Nat->Prop}{σ':Sig}{H':Qd}{W':World}{st':LoopState}{pe':Option Code}
  (ev:Qh (λb=>FrB D ro1 g W b/\b≠D.l) ro1 W ro' W')(s:Sim w ro' σ' H' W')(u:∀b,FrB D ro1 g W b->w b)(hσ:σ'.take D.h1=σ1.take D.h1)(R:W'.heap[D.l]?=some (.loop (D.rc st' pe'))):
  RJ D ro' σ' H' st' pe' qR (λb=>g b\/(W.heap.size<=b/\b<W'.heap.size)) W'/\QfN g (λb=>g b\/(W.heap.size<=b/\b<W'.heap.size)) W W':=by
 have m:∀b,D.fr1 b->FrB D ro1 g W b:=λb q=>⟨.inl q,j.sim.frLt b q⟩;have M:W.shape? D.l=none:=Qbr j.rc;have z:Qh D.fr ro1 W ro' W':=ev.frMono λb q=>⟨m b (G.sub b q),λe=>G.lf (e▸q)⟩;have y:Ext ro1 D.σ W ro' D.σ W':=ev.ext0 D.σ;have E:∀b,b<W.heap.size->b<W'.heap.size:=λb q=>Vj q ev.size;have n:∀b,b<W.heap.size->¬FrB D ro1 g W b->g b\/ro1 b:=by
  intro b h T;by_cases f:g b
  .exact .inl f
  .by_cases a:ro1 b
   .exact .inr a
   .exact absurd ⟨.inr ⟨f,a⟩,h⟩ T
 refine⟨⟨s.frames (λb q=>E b (j.sim.frLt b q)) (λb q r=>s.roFr b q (u b (m b r))) (λi b x f a p r=>(s.own i b x f a p).2.2 (u b (m b r))) (λi b x c f a p r=>(s.hid i b x c f a p).fr (u c (m c r))),
  λt=>(j.env t).mono y,hσ.trans j.sig,j.ev.trans z,⟨j.marks.1,λd Q=>?_⟩,R,λb q=>?_,λb q=>.inl (j.frG b q),λi b x f a p=>?_,λi b x c f a p=>?_,λb q=>q.elim (λq=>E b (j.lt b q)) (λq=>q.2)⟩,
  ⟨λb q=>.inl q,λb q=>q.imp id (λq=>q.1),λb q=>q.elim (λq=>E b (j.lt b q)) (λq=>q.2),λb f a=>.inr ⟨f,a⟩,λb f a=>?_,ev.size,ev.shape,ev.os,ev.tape,ev.output,ev.drawn⟩⟩
 .obtain⟨B,N,J,F⟩:=j.marks.2 d Q;refine⟨B,N,J,(ev.keepFr B ⟨m B J,λe=>?_⟩).trans F⟩;subst e;rw[j.rc]at F;cases F
 .rcases VG b W.heap.size with h|h
  .rcases n b h (λr=>s.roFr b q (u b r))with r|r
   .exact .inr (.inl r)
   .exact(j.roG b r).imp id .inl
  .exact .inr (.inr ⟨h,s.roLt b q⟩)
 .obtain⟨O,L,P⟩:=s.own i b x f a p;rcases VG b W.heap.size with h|h
  .rcases n b h (λr=>P (u b r))with r|r
   .exact .inl r
   .exact absurd (ev.sub b r) L
  .exact .inr ⟨h,O⟩
 .have k:=s.hid i b x c f a p;rcases VG c W.heap.size with h|h
  .rcases n c h (λr=>k.fr (u c r))with r|r
   .exact .inl r
   .exact absurd (ev.sub c r) k.ro
  .exact .inr ⟨h,k.lt⟩
 .by_cases r:ro1 b
  .exact ev.keepRo b r
  .exact ev.keepFr b ⟨⟨.inr ⟨a,r⟩,f⟩,λe=>a (j.frG b (e▸G.l1))⟩
end
theorem Sim.roAdd{fr ro f:Nat->Prop}{σ:Sig}{H:Qd}{w:World}(s:Sim fr ro σ H w)(m:∀b,f b->b<w.heap.size)(l:∀b,f b->¬fr b)(h:∀(i b:Nat) (x:Blk),σ[i]?=some (some b)->H[i]?=some x->x.live=true->¬f b)
  (g:∀(i b:Nat) (x:Blk) (c:Nat),σ[i]?=some (some b)->H[i]?=some x->Hid w x b c->¬f c):Sim fr (λb=>ro b\/f b) σ H w:=by
 have ext:Ext ro σ w (λb=>ro b\/f b) σ w:=⟨λ_ q=>.inl q,λ_ _=>rfl,λ_ _ q=>q,λ_ _ q=>q⟩;refine⟨s.len,s.roOk.to (λ_ q=>.inl q) (λ_ _=>rfl) (λb q=>q.elim (s.roLt b) (m b)),s.frLt,λb q=>q.elim (s.roFr b) (l b),λi b x e a k=>?_,s.inj,λi y x e a=>(s.blk i y x e a).keep ext (λ_ _ _=>rfl) (λ_ _ _ _=>rfl),
  s.hidTo (· = ·) QZ (XX _) (λi b x c e a k n=>n.elim id λq=>(g i b x c e a k q).elim) (λ_ _ _ _ _ _ _ q=>q) λj d y t r B=>.inl ⟨j,y,rfl,t,r,id,λ_ q=>q⟩⟩
 obtain⟨u,p,z⟩:=s.own i b x e a k;exact⟨u,λq=>q.elim p (h i b x e a k),z⟩
theorem RJ.roAdd{D:Fix}{ro1:Nat->Prop}{σ1:Sig}{H:Qd}{st:LoopState}{pe:Option Code}{qR ri g:Nat->Prop}{W:World}(j:RJ D ro1 σ1 H st pe qR g W)(hq:∀b,qR b->ri b)(hI:∀b,ri b->b<W.heap.size/\ ¬g b):RJ D (λb=>ro1 b\/ri b) σ1 H st pe ri g W:=
 {j with
  sim:=j.sim.roAdd (λb q=>(hI b q).1) (λb q z=>(hI b q).2 (j.frG b z)) (λi b x q1 q2 q3 z=>(hI b z).2 (j.own i b x q1 q2 q3)) (λi b x c q1 q2 q3 z=>(hI c z).2 (j.hidG i b x c q1 q2 q3))
  env:=λt=>(j.env t).mono ⟨λ_ q=>.inl q,λ_ _=>rfl,λ_ _ q=>q,λ_ _ q=>q⟩
  ev:=j.ev.trans (YV λ_ q=>.inl q)
  roG:=λb q=>q.elim (λq=>(j.roG b q).imp (hq b) id) .inl}
def Qmu:List Nat->List A->Env->Env
 |p::ps,a::zs,env=>Qmu ps zs (up env p a)
 |_,_,env=>env
def Qjx:List Nat->List Value->Array Value->Array Value
 |p::ps,v::vs,t=>Qjx ps vs (t.setIfInBounds p v)
 |_,_,t=>t
theorem Qgg:∀(ps:List Nat) (vs:List Value) (t:Array Value),(Qjx ps vs t).size=t.size
 |[],_,_=>rfl
 |_::_,[],_=>rfl
 |p::ps,v::vs,t=>by simp[Qjx,Qgg ps]
theorem Qgh:∀(ps:List Nat) (vs:List Value) (t:Array Value),(ps.toArray.zip vs.toArray).foldl (λt (p,v)=>t.setIfInBounds p v) t=Qjx ps vs t
 |[],vs,t=>by rw[<- Array.foldl_toList,Array.toList_zip];rfl
 |p::ps,[],t=>by rw[<- Array.foldl_toList,Array.toList_zip];rfl
 |p::ps,v::vs,t=>by
  have:=Qgh ps vs (t.setIfInBounds p v);rw[<- Array.foldl_toList,Array.toList_zip]at this⊢;exact this
theorem Qky{ro:Nat->Prop}{σ:Sig}{w:World}:∀(ps:List Nat) (zs:List A) (vs:List Value) (env:Env) (t:Array Value),LR ro σ w zs vs->(∀p∈ps,p<t.size)->(∀s,VR ro σ w (lk env s) (t.getD s undef))->
  ∀s,VR ro σ w (lk (Qmu ps zs env) s) ((Qjx ps vs t).getD s undef)
 |[],_,_,_,_,_,_,h=>h
 |p::ps,[],vs,_,_,hv,_,h=>by
  obtain rfl:vs=[]:=hv;exact h
 |p::ps,a::zs,vs,env,t,hv,hp,h=>by
  obtain⟨v,vs',rfl,h0,hv'⟩:=hv;have h1:=VR.up (fr:=λ_=>False) (a:={tmps:=t,defers:=[]}) h (hp p (by simp)) h0;exact Qky ps zs vs' (up env p a) (t.setIfInBounds p v) hv' (λq hq=>by simpa using hp q (by simp[hq])) h1
def Qkf(h1:Nat)(env:Env)(Q:QD)(K:Qd->Prop):QD
 |.normal,env',H'=>∃H2,Le h1 env' H' [] H2/\K H2
 |.exit id,env',H'=>∃H2,Le h1 env' H' [] H2/\Q (.exit id) env H2
 |.ret,env',H'=>∃H2,Le h1 env' H' [] H2/\Q .ret env H2
def Jump(Q:QD)(env:Env)(c:Code)(H:Qd):Prop:=(∃id,c=.exit id/\Q (.exit id) env H)\/(c=.ret/\Q .ret env H)
section
variable {D:Fix} {ro0:Nat->Prop} {σ1:Sig} {H:Qd} {qR ri g:Nat->Prop} {W:World} {P:Program} {N:Nat} {Q:QD} {K:Qd->Prop}
theorem RJ.round{fn:FuncId}{ps:List Nat}{assign body:Code}{df:Nat}{cs:List A}{vs:List Value}(hD:D.Ok)(m:D.rc=λst pe=>{state:=st,pending:=pe,fn:=fn,tmps:=D.tmps,params:=ps.toArray,assign:=assign,body:=body,defers:=df})
  (hN:D.tmps.size=N)(ae:∀p∈ps,p<N)(V:cs.length=ps.length)(hq:∀b,qR b->ri b)(hI:∀b,ri b->b<W.heap.size/\ ¬g b)(R:LR ri [] W cs vs)(j0:RJ D ro0 σ1 H .ready none qR g W)
  (h:TC P D.h1 N assign (Qmu ps cs D.env) H λe env1 H1=>e=.normal/\TC P D.h1 N body env1 H1 (Qkf D.h1 D.env Q K)):
  YieldAt Fence.wide 0 P D.l vs.toArray W λe W'=>∃g',QfN g g' W W'/\((e=.returned (.bool true)/\ ∃H2 ro2 σ2,K H2/\RJ D ro2 σ2 H2 .ready none ri g' W')\/
   (e=.returned (.bool false)/\ ∃H2 c ro2 σ2,Jump Q D.env c H2/\RJ D ro2 σ2 H2 .done (some c) ri g' W')):=by
 have aj:vs.length=cs.length:=R.length;have j:=j0.roAdd hq hI;have y:LR (λb=>ro0 b\/ri b) σ1 W cs vs:=R.mono ⟨λ_ q=>.inr q,λ_ _=>rfl,λ_ _ q=>q,λi b q=>by simp at q⟩;clear j0;generalize(λb=>ro0 b\/ri b)=ro1 at j y;have ah:∀b,D.fr1 b->FrB D ro1 g W b:=λb q=>⟨.inl q,j.sim.frLt b q⟩;have t:=ah _ hD.l1;have J:=j.rc;have hy:=run_yield (P:=P) (r:=D.rc .ready none) (args:=vs.toArray) J (by rw[m];simp[aj,V]);refine⟨fn,Qjx ps vs D.tmps,assign,body,?_,?_⟩
 .rw[hy,m];simp only[];rw[<- Qgh]
 .refine roundIn_of_wpIn trivial ?_;show Code.wpIn (WF (some D.l)) 0 P _ _ _ _;have Y:∀s,VR ro1 σ1 W (lk D.env s) (D.tmps.getD s undef):=λs=>(j.env s).mono ⟨λ_ q=>q,λ_ _=>rfl,λ_ _ q=>q,λi b q=>Qd1 j.sig q⟩;have ag:Qet (some D.l) (FrB D ro1 g W) W:=λl e=>by cases e;exact⟨t,_,J⟩
  have w1:=h (some D.l) (FrB D ro1 g W) ro1 σ1 {tmps:=Qjx ps vs D.tmps,defers:=[]} W ⟨j.simB,Qky ps cs vs D.env D.tmps y (by rw[hN];exact ae) Y,by simp[Qgg,hN],List.nodup_nil,λd hd=>by cases hd⟩ ag;refine Code.wpIn_mono ?_ w1;rintro e a1 w1 ⟨x1,env1,H1,ro2,σ2,u,h1,⟨rfl,h2⟩,h3,h4,h5,h6⟩;cases e with
  |normal=>
   have k:w1.heap[D.l]?=some (.loop (D.rc .ready none)):=(h4.keepFr _ t).trans J;refine⟨_,run_beginRound k (by rw[m]),?_⟩;obtain⟨s2,z⟩:=h3.sim.put (obj:=.loop {D.rc .ready none with state:=.busy}) (h6.sub _ t) (Qbr k);have O:D.l<w1.heap.size:=by rw[Vg]at k;exact k.1
   have ab:(w1.putObj D.l (.loop {D.rc .ready none with state:=.busy})).heap[D.l]?=some (.loop {D.rc .ready none with state:=.busy}):=World.putObj_heap_same O;generalize hw2:w1.putObj D.l (.loop {D.rc .ready none with state:=.busy})=w2 at*;have ak:Qdu u a1.defers w2:=by
    refine⟨h3.defers.1,λd hd=>?_⟩;obtain⟨B,e1,e2,e3⟩:=h3.defers.2 d hd;refine⟨B,e1,e2,(z.keepFr B (λe=>?_)).trans e3⟩;subst e;rw[k]at e3;cases e3
   have r2:Rel u ro2 σ2 H1 env1 N a1 w2:=⟨s2,λs=>(h3.env s).mono (z.ext0 σ2),h3.size,ak⟩;have F:u D.l:=h6.sub _ t;refine Code.wpIn_mono ?_ (h2 (some D.l) u ro2 σ2 a1 w2 r2 (λl e=>by cases e;exact⟨F,_,ab⟩));rintro e a3 w3 ⟨x3,M,H3,G,σ3,aa,g1,g2,g3,g4,g5,g6⟩;have x:w3.heap[D.l]?=some (.loop {D.rc .ready none with state:=.busy}):=(g4.keepFr _ F).trans ab;have E:∀(H2:Qd) (jump:Option Code),Le D.h1 M H3 [] H2->∃v n,(Instr.endRound D.l jump).run P w3=.ok v n/\v=.bool jump.isNone/\ ∃g',QfN g g' W n/\ ∃a σ4,RJ D a σ4 H2 (if jump.isNone then .ready else .done) jump ri g' n:=by
    intro H2 jump f;obtain⟨a,σ4,r4,s4,t4⟩:=f aa G σ3 N a3 w3 g3;refine⟨_,_,run_endRound jump x,rfl,?_⟩;have af:aa D.l:=g6.sub _ F;obtain⟨s5,ai⟩:=r4.sim.put (obj:=.loop {{D.rc .ready none with state:=.busy}with state:=if jump.isNone then .ready else .done,pending:=jump}) af (Qbr x);have ac:D.l<w3.heap.size:=by rw[Vg]at x;exact x.1
    have al:=World.putObj_heap_same (w:=w3) (r:=D.l) (o:=.loop {{D.rc .ready none with state:=.busy}with state:=if jump.isNone then .ready else .done,pending:=jump}) ac;have e1:Qh (λb=>FrB D ro1 g W b/\b≠D.l) ro1 W ro2 w1:=h4.frMono λb q=>q.1;have e2:Qh (λb=>FrB D ro1 g W b/\b≠D.l) ro2 w1 ro2 w2:=z.frMono λb q=>q.2;have e3:Qh (λb=>FrB D ro1 g W b/\b≠D.l) ro2 w2 G w3:=g4.frMono λb q=>h6.sub b q.1;have e4:Qh (λb=>FrB D ro1 g W b/\b≠D.l) G w3 a w3:=YV s4;have e5:=(((e1.trans e2).trans e3).trans e4).trans (ai.frMono λb (q:FrB D ro1 g W b/\b≠D.l)=>q.2);obtain⟨q1,q2⟩:=j.fin hD e5 s5 (λb q=>g6.sub b (h6.sub b q)) (by rw[t4,g5,h5]) (st':=if jump.isNone then .ready else .done) (pe':=jump) (by rw[al,m]);exact⟨_,q2,a,σ4,q1⟩
   cases e with
   |normal=>
    obtain rfl:x3=.normal:=g1;obtain⟨H2,f,T⟩:=g2;obtain⟨v,n,k1,rfl,g',X,a,σ4,L⟩:=E H2 none f;exact⟨_,n,k1,g',X,.inl ⟨rfl,H2,a,σ4,T,L⟩⟩
   |exit id=>
    obtain rfl:x3=.exit id:=g1;obtain⟨H2,f,T⟩:=g2;obtain⟨v,n,k1,rfl,g',X,a,σ4,L⟩:=E H2 (some (.exit id)) f;exact⟨_,n,k1,g',X,.inr ⟨rfl,H2,_,a,σ4,.inl ⟨id,rfl,T⟩,L⟩⟩
   |ret=>
    obtain rfl:x3=.ret:=g1;obtain⟨H2,f,T⟩:=g2;obtain⟨v,n,k1,rfl,g',X,a,σ4,L⟩:=E H2 (some .ret) f;exact⟨_,n,k1,g',X,.inr ⟨rfl,H2,_,a,σ4,.inr ⟨rfl,T⟩,L⟩⟩
   |_=>exact g1.elim
  |exit id=>cases h1
  |ret=>cases h1
  |_=>exact h1.elim
end
theorem Sim.beside{fr ro:Nat->Prop}{σ:Sig}{H:Qd}{w w1:World}(s:Sim fr ro σ H w)(ev:Qh fr ro w ro w1)(a:∀b,b<w.heap.size->w1.heap[b]?=w.heap[b]?):Sim (λb=>fr b\/(w.heap.size<=b/\b<w1.heap.size)) ro σ H w1:=by
 have g:Ext ro σ w ro σ w1:=ev.ext0 σ;refine⟨s.len,s.roOk.to (λ_ q=>q) ev.keepRo (λb q=>Vj (s.roLt b q) ev.size),λb q=>q.elim (λq=>Vj (s.frLt b q) ev.size) (λq=>q.2),λb q r=>?_,λi b x f e l=>?_,s.inj,λi z x f e=>?_,
  s.hidTo (· = ·) QZ ev.size (λ_ _ _ _ _ _ _ q=>q) (λi b x c f e l n=>n.elim id λq=>(by have:=(s.hid i b x c f e l).lt;omega)) λj d y m h B=>.inl ⟨j,y,rfl,m,h,id,λc q=>s.hidKeep m h (λz=>a d (s.own j d y m h z).1) ev.keepRo q⟩⟩
 .rcases r with r|r
  .exact s.roFr b q r
  .have:=s.roLt b q;omega
 .obtain⟨p,t,u⟩:=s.own i b x f e l;refine⟨Vj p ev.size,t,λr=>?_⟩;rcases r with r|r
  .exact u r
  .omega
 .refine(s.blk i z x f e).keep g ?_ ?_
  .rintro b rfl k;exact a b (s.own i b x f e k).1
  .rintro b c rfl k;exact a c (s.hid i b x c f e k).lt
theorem Qck{w:World}{o:Obj}{b:Nat}(a:b<w.heap.size):(w.alloc o).heap[b]?=w.heap[b]? :=by
 show(w.heap.push o)[b]?=_;rw[Array.getElem?_push,Vw (by omega)]
theorem QnG{P:Program}{fn:FuncId}{tmps:Array Value}{ps:Array Tmp}{assign body:Code}{rd:Option Nat}{fr ro:Nat->Prop}{w:World}(h:Qet rd fr w)(k:∀b,ro b->b<w.heap.size)(j:∀b,fr b->b<w.heap.size):
  ∃l mark w1 df,(Instr.enterLoop fn tmps ps assign body rd).run P w=.ok (l,mark) w1/\w.heap.size<=l/\l<w1.heap.size/\w1.heap[l]?=some (.loop {state:=.ready,pending:=none,fn:=fn,tmps:=tmps,params:=ps,assign:=assign,body:=body,defers:=df})/\
   (∀b,b<w.heap.size->w1.heap[b]?=w.heap[b]?)/\mark.Nodup/\(∀d∈mark,∃D,d={target:=.collected D,args:= #[]}/\w.heap.size<=D/\D<w1.heap.size/\w1.heap[D]?=some (.deferred (some [])))/\Qh fr ro w ro w1:=by
 have e:∀w1:World,(∀b,b<w.heap.size->w1.heap[b]?=w.heap[b]?)->w.heap.size<=w1.heap.size->w1.os=w.os->w1.tape=w.tape->w1.output=w.output->w1.drawn=w.drawn->Qh fr ro w ro w1:=by
  intro w1 g u y t n p;refine⟨λ_ q=>q,λb q=>g b (k b q),λb q=>g b (j b q),u,λb x q=>?_,y,t,n,by rw[p];exact XX _⟩;have f:b<w.heap.size:=by
   rcases VG b w.heap.size with z|z
   .exact z
   .unfold World.shape? at q;rw[Array.getElem?_eq_none (by simpa using z)]at q;cases q
  unfold World.shape? at q⊢;rw[g b f];exact q
 cases rd with
 |none=>
  have a:∀b,b<w.heap.size->((w.alloc (.deferred (some []))).alloc (.loop {state:=.ready,pending:=none,fn:=fn,tmps:=tmps,params:=ps,assign:=assign,body:=body,defers:=w.heap.size})).heap[b]?=w.heap[b]? :=λb f=>
   (Qck (by simp;omega)).trans (Qck f)
  refine⟨_,_,_,w.heap.size,run_enterLoop_outer fn tmps ps assign body,by omega,by simp,?_,a,by simp,?_,e _ a (by simp;omega) rfl rfl rfl rfl⟩
  .have:=World.alloc_heap_new (w.alloc (.deferred (some []))) (.loop {state:=.ready,pending:=none,fn:=fn,tmps:=tmps,params:=ps,assign:=assign,body:=body,defers:=w.heap.size})
   rwa [World.size_alloc]at this
  .intro d i;obtain rfl:=VF.1 i;exact⟨_,rfl,XX _,by simp;omega,(Qck (by simp)).trans (World.alloc_heap_new w _)⟩
 |some r=>
  obtain⟨_,m,s⟩:=h r rfl;have a:∀b,b<w.heap.size->(w.alloc (.loop {state:=.ready,pending:=none,fn:=fn,tmps:=tmps,params:=ps,assign:=assign,body:=body,defers:=m.defers})).heap[b]?=w.heap[b]? :=λb f=>Qck f;exact⟨_,_,_,m.defers,run_enterLoop_inner s fn tmps ps assign body,XX _,by simp,World.alloc_heap_new w _,a,List.nodup_nil,(λd i=>absurd i List.not_mem_nil),e _ a (by simp) rfl rfl rfl rfl⟩
theorem TC.rangeFunc{P:Program}{h0 N:Nat}{ae:Operand}{ps:List Nat}{assign body:Code}{env:Env}{H:Qd}{Q:QD}{f:FuncId}{af ab:List A}{Hc:Qd}{T S:Type}{enc:T->List A}{nx:List T->T->List T->Prop}{xs:List T}
  (π:List Nat)(Hp:S->Qd)(V:S->List T->Prop)(s0:S)(hh:h0<=H.length)(hg:opA env ae=.fn (.func f) [] af)(hargs:af=Qaa (rho π H.length) ab)(hH:π.map (λp=>H[p]?)=(Hc.map (QW (rho π H.length))).map some)(hπ:π.Nodup)
  (a3:(ps.all λp=>Nat.blt p N)=true)(eg:∀args w,(callFunc f args).run P w=.ok (.enter f args) w)(au:QhN P f ab Hc enc nx xs)(ay:∀x,(enc x).length=ps.length)
  (a2:Le H.length env (Qd9 H π) env (Hp s0))(hV:V s0 xs)
  (al:∀s l x rem,V s l->nx l x rem->TC P H.length N assign (Qmu ps (enc x) env) (Hp s) λe env1 H1=>e=.normal/\TC P H.length N body env1 H1 (Qkf H.length env Q λH2=>∃s',V s' rem/\H2=Hp s'))
  (aj:∀s,V s []->Q .normal env (Hp s)):TC P h0 N (.rangeFunc ae ps.toArray assign body) env H Q:=by
 intro rd fr ro σ a w r hrd;have hv:=Qg r ae;rw[hg]at hv;obtain⟨l1,E,hv,ba,ar⟩:=hv;obtain rfl:l1=[]:=ba;refine wpIn_rangeFunc ?_;intro fn bg;obtain⟨l,G,w1,df,he,hl,a8,aq,ao,bc,ai,Y⟩:=QnG (P:=P) (fn:=fn) (tmps:=a.tmps) (ps:=ps.toArray) (assign:=assign) (body:=body) (ro:=ro) hrd r.sim.roLt r.sim.frLt;have s1:=r.sim.beside Y ao
 let D:Fix:=⟨fr,ro,σ,w,H.length,env,a.tmps,G++a.defers,l,(λst pe=>{state:=st,pending:=pe,fn:=fn,tmps:=a.tmps,params:=ps.toArray,assign:=assign,body:=body,defers:=df}),(λb=>fr b\/(w.heap.size<=b/\b<w1.heap.size))⟩
 have ag:¬fr l:=λq=>by have:=r.sim.frLt l q;omega
 have hD:D.Ok:=⟨λb q=>.inl q,.inr ⟨hl,a8⟩,ag,r.sim.len⟩;have L:Qdu D.fr1 (G++a.defers) w1:=by
  refine⟨List.nodup_append.2 ⟨bc,r.defers.1,λd O d' a5 e=>?_⟩,λd O=>?_⟩
  .subst e;obtain⟨B,e1,e2,_⟩:=ai d O;obtain⟨B',av,a9,_⟩:=r.defers.2 d a5;rw[e1]at av;have:B=B':=by simpa using av
   subst this;have:=r.sim.frLt B a9;omega
  .rcases VH.1 O with O|O
   .obtain⟨B,e1,e2,e3,e4⟩:=ai d O;exact⟨B,e1,.inr ⟨e2,e3⟩,e4⟩
   .obtain⟨B,e1,e2,e3⟩:=(r.defers.keep Y).2 d O;exact⟨B,e1,.inl e2,e3⟩
 obtain⟨sp,hσc⟩:=s1.part hH hπ;have am:LR ro (Yh σ π) w1 ab E:=(QbF hσc).1 (hargs▸ar.mono (Y.ext0 σ))
 let frX:Nat->Prop:=λb=>D.fr1 b\/(∃(j:Nat) (x:Blk),(Yh σ π)[j]?=some (some b)/\Hc[j]?=some x/\x.live=true)\/ ∃(j:Nat) (x:Blk) (d:Nat),(Yh σ π)[j]?=some (some d)/\Hc[j]?=some x/\Hid w1 x d b
 have sX:Sim frX ro σ (Qd9 H π) w1:=by
  refine(QdT π s1).frames (λb q=>?_) (λb q r=>?_) (λi b x n m k r=>?_) (λi b x c n m k r=>?_)
  .rcases q with q|⟨j,x,n,m,k⟩|⟨j,x,d,n,m,k⟩
   .exact s1.frLt b q
   .exact(sp.own j b x n m k).1
   .exact(sp.hid j d x b n m k).lt
  .rcases r with r|⟨j,x,n,m,k⟩|⟨j,x,d,n,m,k⟩
   .exact s1.roFr b q r
   .exact(sp.own j b x n m k).2.1 q
   .exact(sp.hid j d x b n m k).ro q
  .rcases Qfd _ _ _ _ m with rfl|⟨m,hi⟩
   .cases k
   .rcases r with r|⟨j,y,p1,p2,p3⟩|⟨j,y,d,p1,p2,p3⟩
    .exact(s1.own i b x n m k).2.2 r
    .exact(sp.own j b y p1 p2 p3).2.2 (.inr (.inl ⟨i,x,n,m,k,hi (QbJ k)⟩))
    .exact(sp.hid j d y b p1 p2 p3).fr (.inr (.inl ⟨i,x,n,m,k,hi (QbJ k)⟩))
  .rcases Qfd _ _ _ _ m with rfl|⟨m,hi⟩
   .exact k.elim
   .rcases r with r|⟨j,y,p1,p2,p3⟩|⟨j,y,d,p1,p2,p3⟩
    .exact(s1.hid i b x c n m k).fr r
    .exact(sp.own j c y p1 p2 p3).2.2 (.inr (.inr ⟨i,x,b,n,m,k,hi k.holds⟩))
    .exact(sp.hid j d y c p1 p2 p3).fr (.inr (.inr ⟨i,x,b,n,m,k,hi k.holds⟩))
 have rX:Rel frX ro σ (Qd9 H π) env N {a with defers:=G++a.defers} w1:=
  ⟨sX,λs=>(r.env s).mono (Y.ext0 σ),r.size,L.1,λd O=>let⟨B,e1,e2,e3⟩:=L.2 d O;⟨B,e1,.inl e2,e3⟩⟩
 obtain⟨ac,σ',r',aa,a7⟩:=a2 frX ro σ N _ w1 rX;have hσt:σ.take H.length=σ:=by rw[<- r.sim.len,Vd]
 let g0:Nat->Prop:=λb=>D.fr1 b\/(ac b/\ ¬ro b)\/(∃(i:Nat) (x:Blk),σ'[i]?=some (some b)/\(Hp s0)[i]?=some x/\x.live=true)\/ ∃(i:Nat) (x:Blk) (d:Nat),σ'[i]?=some (some d)/\(Hp s0)[i]?=some x/\Hid w1 x d b
 have j0:RJ D ac σ' (Hp s0) .ready none ro g0 w1:=by
  refine⟨r'.sim.frMono λb q=>.inl q,λt=>(r.env t).mono ⟨aa,Y.keepRo,Y.shape,λ_ _ q=>q⟩,a7.trans hσt,Y.trans (YV aa),L,aq,λb q=>?_,λb q=>.inl q,λi b x n m k=>.inr (.inr (.inl ⟨i,x,n,m,k⟩)),λi b x c n m k=>.inr (.inr (.inr ⟨i,x,b,n,m,k⟩)),λb q=>?_⟩
  .by_cases z:ro b
   .exact .inl z
   .exact .inr (.inr (.inl ⟨q,z⟩))
  .rcases q with q|q|⟨i,x,n,m,k⟩|⟨i,x,d,n,m,k⟩
   .exact s1.frLt b q
   .exact r'.sim.roLt b q.1
   .exact(r'.sim.own i b x n m k).1
   .exact(r'.sim.hid i d x b n m k).lt
 have sI:Sim g0 ro (Yh σ π) Hc w1:=by
  refine sp.frames (λb q=>j0.lt b q) (λb q z=>?_) (λj b x n m k z=>?_) (λj b x c n m k z=>?_)
  .rcases z with z|z|⟨i,x,n,m,k⟩|⟨i,x,d,n,m,k⟩
   .exact s1.roFr b q z
   .exact z.2 q
   .exact(r'.sim.own i b x n m k).2.1 (aa b q)
   .exact(r'.sim.hid i d x b n m k).ro (aa b q)
  .have hX:frX b:=.inr (.inl ⟨j,x,n,m,k⟩);rcases z with z|z|⟨i,y,p1,p2,p3⟩|⟨i,y,d,p1,p2,p3⟩
   .exact(sp.own j b x n m k).2.2 (.inl z)
   .exact r'.sim.roFr b z.1 hX
   .exact(r'.sim.own i b y p1 p2 p3).2.2 hX
   .exact(r'.sim.hid i d y b p1 p2 p3).fr hX
  .have hX:frX c:=.inr (.inr ⟨j,x,b,n,m,k⟩);rcases z with z|z|⟨i,y,p1,p2,p3⟩|⟨i,y,d,p1,p2,p3⟩
   .exact(sp.hid j b x c n m k).fr (.inl z)
   .exact r'.sim.roFr c z.1 hX
   .exact(r'.sim.own i c y p1 p2 p3).2.2 hX
   .exact(r'.sim.hid i d y c p1 p2 p3).fr hX
 let X:Ctx T:={l:=l,J:=λrem q g W=>∃s F σ1,V s rem/\RJ D F σ1 (Hp s) .ready none q g W,Jx:=λ_ q g W=>∃H2 c F σ1,Jump Q env c H2/\RJ D F σ1 H2 .done (some c) q g W,enc:=enc,nx:=nx}
 have az:∀p∈ps,p<N:=λp hp=>by simpa using Xu.1 a3 p hp
 have hX:X.ok P:=by
  refine⟨⟨λrem q g W W' ac ⟨s,F,σ1,M,R⟩ he=>⟨s,F,σ1,M,R.step hD he⟩,λrem q g g' W ⟨s,F,σ1,M,R⟩ hg hl=>⟨s,F,σ1,M,R.up hg hl⟩⟩,
   ⟨λrem q g W W' ac ⟨H2,c,F,σ1,M,R⟩ he=>⟨H2,c,F,σ1,M,R.step hD he⟩,λrem q g g' W ⟨H2,c,F,σ1,M,R⟩ hg hl=>⟨H2,c,F,σ1,M,R.up hg hl⟩⟩,?_⟩
  rintro lr x rem q g ri W vs bd ⟨s,F,σ1,M,R⟩ hq hI bb;obtain⟨be,tm,a6,bf,y1,y2⟩:=RJ.round (D:=D) (Q:=Q) (K:=λH2=>∃s',V s' rem/\H2=Hp s') hD rfl r.size az (ay x) hq hI bb R (al s lr x rem M bd);refine⟨be,tm,a6,bf,y1,RoundIn.mono y2 ?_⟩;rintro e W' ⟨g',k1,k2⟩;refine⟨g',ri,λ_ z=>z,k1,?_⟩;rcases k2 with⟨rfl,H2,u,σ2,⟨s',a4,rfl⟩,k3⟩|⟨rfl,H2,c,u,σ2,k3,k4⟩
  .exact .inl ⟨rfl,s',u,σ2,a4,k3⟩
  .exact .inr ⟨rfl,H2,c,u,σ2,k3,k4⟩
 have aw:∀(ev:Operand->Value),ev ae=.func (.func f) #[] E.toArray->ev (.const (.func (.yield l) #[] #[]))=.func (.yield l) #[] #[]->(resolve ev (rangeCall ae l) 0).run P w1=.ok {target:=.fn (.func f) E.toArray,args:= #[.func (.yield l) #[] #[]]} w1:=by
  intro ev M R;simp[resolve,go_sem,M,R]
 refine⟨l,G,w1,{target:=.fn (.func f) E.toArray,args:= #[.func (.yield l) #[] #[]]},w1,f, #[.func (.yield l) #[] #[]]++E.toArray,w1,he,aw a.eval hv rfl,λ_ _=>trivial,by simp[invoke,go_sem,eg],λh=>by simp[WF,Fence.wide]at h,?_⟩;refine WF.calls.2 ?_;have ak:=au X rfl rfl hX g0 ro (Yh σ π) w1 E ro sI (λ_ z=>z) am ⟨s0,ac,σ',hV,j0⟩;have an:(#[.func (.yield l) #[] #[]]++E.toArray:Array Value)=((Value.func (.yield X.l) #[] #[]::E)).toArray:=by simp[X]
 rw[an];refine Calls.mono ak ?_;rintro e W' ⟨⟨v,rfl⟩,g2,qz,bh,a0⟩;have fin:∀(H2:Qd) (st:LoopState) (pe:Option Code) (u:Nat->Prop) (σ2:Sig),st≠ .busy->RJ D u σ2 H2 st pe qz g2 W'->∃w4,(Instr.endLoop l).run P W'=.ok pe w4/\Rel D.fr1 u σ2 H2 env N {a with defers:=G++a.defers} w4/\Qh fr ro w u w4:=by
  intro H2 st pe u σ2 hst j;refine⟨_,run_endLoop j.rc (by exact hst),?_⟩;obtain⟨s5,ah⟩:=j.sim.put (obj:=.loop {(D.rc st pe)with state:=.exhausted}) hD.l1 (Qbr j.rc);have hr:=j.rc;refine⟨⟨s5,λt=>((j.env t).mono ⟨λ_ q=>q,λ_ _=>rfl,λ_ _ q=>q,λi b q=>Qd1 j.sig q⟩).mono (ah.ext0 σ2),r.size,j.marks.1,λd O=>?_⟩,j.ev.trans (ah.frMono λb q e=>ag (by have e':b=l:=e;rw[<- e'];exact q))⟩;obtain⟨B,e1,e2,e3⟩:=j.marks.2 d O;refine⟨B,e1,e2,(ah.keepFr B (λe=>?_)).trans e3⟩;subst e;rw[hr]at e3;cases e3
 have a1:Grow fr w a.defers D.fr1 (G++a.defers):=by
  refine⟨λb q=>.inl q,λb q=>q.imp id (λq=>q.1),λd O=>?_⟩;rcases VH.1 O with O|O
  .obtain⟨B,e1,e2,_⟩:=ai d O;exact .inr ⟨B,e1,e2⟩
  .exact .inl O
 have ax:∀{σ2:Sig},σ2.take H.length=σ->σ2.take h0=σ.take h0:=by
  intro σ2 h;have:=congrArg (List.take h0) h
  rwa [List.take_take,XE hh]at this
 rcases a0 with⟨s,u,σ2,M,R⟩|⟨rem,H2,c,u,σ2,M,R⟩
 .obtain⟨w4,f1,f2,f3⟩:=fin _ _ _ u σ2 (by intro e;cases e) R;exact⟨none,w4,f1,.normal,env,_,u,σ2,_,rfl,aj s M,f2,f3,ax R.sig,a1⟩
 .obtain⟨w4,f1,f2,f3⟩:=fin _ _ _ u σ2 (by intro e;cases e) R;refine⟨some c,w4,f1,?_⟩;have hc:TC P h0 N c env H2 Q:=by
   rcases M with⟨id,rfl,M⟩|⟨rfl,M⟩
   .exact TC.exit M
   .exact TC.ret M
  exact Code.wpIn_mono (λe a w q=>q.grow f3 (ax R.sig) a1) (hc rd D.fr1 u σ2 _ w4 f2 (hrd.to f3 λb q=>.inl q))
end Go.Sw
namespace Go.Sw
theorem Qjk{h0 i k t T:Nat}{env:Env}{H:Qd}(hh:Nat.ble h0 H.length=true)(hH:H[i]?=some (.cells T [.nils])):Le h0 env H env (H.set i (.cells T [.osl H.length 0 0 k])++[.row t k []]):=by
 intro fr E σ N a w r;have L:h0<=H.length:=XV hh;have O:i<H.length:=(XP.1 hH).1;have ext:Ext E σ w E (σ++[none]) w:=⟨λ_ q=>q,λ_ _=>rfl,λ_ _ q=>q,λ_ _ h=>YM h⟩;have s:=r.sim.phantom t k;have n:(H++[Blk.row t k []])[i]?=some (.cells T [.nils]):=by rw[XQ O];exact hH
 have e0:H.set i (.cells T [.osl H.length 0 0 k])++[.row t k []]=(H++[Blk.row t k []]).set i (.cells T [.osl H.length 0 0 k]):=by
  rw[List.set_append_left _ _ O]
 have g:∀(j:Nat) (v:Blk),((H++[Blk.row t k []]).set i (.cells T [.osl H.length 0 0 k]))[j]?=some v->(j=i/\v=.cells T [.osl H.length 0 0 k])\/(j≠i/\(H++[Blk.row t k []])[j]?=some v):=by
  intro j v h;by_cases e:j=i
  .subst e;rw[Xa (by simp;omega)]at h;exact .inl ⟨rfl,by simpa using h.symm⟩
  .rw[XT (λq=>e q.symm)]at h;exact .inr ⟨e,h⟩
 have f:∀(j:Nat) (v:Blk),((H++[Blk.row t k []]).set i (.cells T [.osl H.length 0 0 k]))[j]?=some v->v.live=true->∃u,(H++[Blk.row t k []])[j]?=some u/\u.live=true:=by
  intro j v h X;rcases g j v h with⟨rfl,rfl⟩|⟨_,h⟩
  .exact⟨_,n,rfl⟩
  .exact⟨v,h,X⟩
 refine⟨E,σ++[none],⟨?_,λq=>(r.env q).mono ext,r.size,r.defers⟩,λ_ q=>q,Qt (by rw[r.sim.len];exact L)⟩;rw[e0];refine⟨by rw[X8];exact s.len,s.roOk,s.frLt,s.roFr,λj b v z B J=>?_,λj Q b v u z B J R Y V=>?_,λj y v z B=>?_,
  s.hidTo (· = ·) QZ (XX _) (λ_ _ _ _ _ _ _ q=>q) (λ_ _ _ _ _ _ _ q=>q) λj d y m p P=>.inl ?_⟩
 rotate_left 3
 .rcases g j y p with⟨rfl,rfl⟩|⟨_,h⟩
  .exact⟨j,_,rfl,m,n,λ_=>rfl,λ_ q=>q.elim⟩
  .exact⟨j,y,rfl,m,h,id,λ_ q=>q⟩
 .obtain⟨u,m,p⟩:=f j v B J;exact s.own j b u z m p
 .obtain⟨x,m,p⟩:=f j v J Y;obtain⟨x',G,F⟩:=f Q u R V;exact s.inj j Q b x x' z B m G p F
 .rcases g j v B with⟨rfl,rfl⟩|⟨_,h⟩
  .have:=s.blk j y _ z n;cases y with
   |none=>exact this
   |some b=>
    obtain⟨l,m,⟨v1,M,rfl,p,P⟩,W⟩:=this;refine⟨_,m,⟨v1,M,rfl,.inl ⟨rfl,p⟩,?_⟩,W⟩;obtain rfl:M=[]:=P;rfl
  .exact s.blk j y v z h
theorem Qld{h0 i:Nat}{env:Env}{H:Qd}{es:List (A×A)}(hH:H[i]?=some (.map es)):Le h0 env H env (H.set i (.fmap es)):=by
 intro f e σ N a w r;have d:∃s,σ[i]?=some s:=by
  have:i<σ.length:=by rw[r.sim.len];exact(XP.1 hH).1
  exact⟨_,XO this⟩
 obtain⟨s,d⟩:=d;cases s with
 |none=>exact(r.sim.blk i _ _ d hH).elim
 |some b=>
  refine⟨_,σ,⟨r.sim.shutMap d hH,λq=>(r.env q).mono ⟨λ_ q=>.inl q,λ_ _=>rfl,λ_ _ q=>q,λ_ _ q=>q⟩,r.size,r.defers⟩,λ_ q=>.inl q,rfl⟩
def anyN{T:Type}(l:List T)(x:T)(rem:List T):Prop:=l.Perm (x::rem)
def QnZ(ts te:Nat)(ld:Op):Code:=.block 1 (.region 3 #[{dst:=some 8,op:=.load ts (.tmp 2),type:=ts,pos:="iter.go:52",after:= #[],guard:=none},{dst:=some 9,op:=ld,type:=te,pos:="iter.go:52",after:= #[],guard:=none},
 {dst:=some 10,op:=.buildSlice ts 1 #[(0,.tmp 9)],type:=ts,pos:="iter.go:52",after:= #[{on:=1,ground:=.data}],guard:=none},
 {dst:=some 11,op:=.call {callee:=.builtin .append,args:= #[.tmp 8,.tmp 10],argTypes:= #[ts,ts]},type:=ts,pos:="iter.go:52",after:= #[{on:=0,ground:=.data},{on:=2,ground:=.data}],guard:=none},
 {dst:=none,op:=.store ts (.tmp 2) (.tmp 11),type:=0,pos:="iter.go:52",after:= #[{on:=3,ground:=.data},{on:=3,ground:=.chain},{on:=0,ground:=.phase},{on:=1,ground:=.phase},{on:=2,ground:=.phase},{on:=3,ground:=.phase}],guard:=none}] false)
def QqD(ts tq te:Nat)(asg:Code)(ld:Op):Code:=(Code.region 0 #[{dst:=some 2,op:=.box ts (.tmp 0),type:=0,pos:="iter.go:50",after:= #[],guard:=none},{dst:=some 4,op:=.assign (.const (.slice none 0 0)),type:=ts,pos:="iter.go:50",after:= #[],guard:=none}] false).seq
 (((Code.region 1 #[{dst:=some 6,op:=.move (.tmp 1),type:=tq,pos:="iter.go:51",after:= #[],guard:=none}] false).seq (.block 0 (.rangeFunc (.tmp 6) #[7] asg (QnZ ts te ld)))).seq
  ((Code.region 4 #[{dst:=some 12,op:=.load ts (.tmp 2),type:=ts,pos:="iter.go:54",after:= #[],guard:=none},{dst:=some 4,op:=.assign (.tmp 12),type:=ts,pos:="iter.go:54",after:= #[{on:=0,ground:=.data},{on:=0,ground:=.phase}],guard:=none}] false).seq .ret))
def QqE(te:Nat):Code:=.region 2 #[{dst:=some 5,op:=.assign (.tmp 7),type:=te,pos:="iter.go:51",after:= #[],guard:=none}] false
section
variable {P:Program} {T:Type} {ts tq te k tm:Nat} {g:FuncId} {es:List (A×A)} {e:T->List A} {ea:T->A} {xs:List T}
abbrev apH(ts te k tm:Nat)(es:List (A×A))(e:T->List A)(done:List T):Qd:=[.dead,.fmap es,.cells ts [.osl 3 0 done.length k],.row te k (done.map e)]
abbrev apE(g:FuncId):Env:=[(6,.fn (.func g) [] [.ptr 0 0]),(4,.nils),(2,.ptr 2 0),(0,.nils),(1,.fn (.func g) [] [.ptr 0 0])]
theorem Qpa{N:Nat}(L:N=13){done:List T}{x:T}{env:Env}{H:Qd}{K:Qd->Prop}{j:Op}(E:QV P ts te k)(O:∀w,(isAgg ts).run P w=.ok false w)(z:∀w,(sizeOf ts).run P w=.ok 1 w)(u:app done [x]=some (done++[x]))
  (J:(e x).length=k)(d:Nat.ble k 16777216=true)(h:Yf (ea x)=true)(a:Q9 (ea x)=e x)(g:(e x).all Yt=true)(V:Yn (e x)=true)(F:Nat.ble 3 H.length=true)
  (p:lk env 2=.ptr 2 0)(r:H[2]?=some (.cells ts [.osl 3 0 done.length k]))(l:H[3]?=some (.row te k (done.map e)))
  (b:∀env',(∀s,s≠8->lk env' s=lk env s)->∀pos,OpV P {dst:=some 9,op:=j,type:=te,pos:=pos,after:= #[],guard:=none} env' H (ea x))
  (B:∀env',∃H2,Le 3 env' (((((H++[Blk.row te k [e x]]).set 3 .dead)++[Blk.row te k ((done++[x]).map e)]).set 2 (.cells ts [.osl (H.length+1) 0 (done++[x]).length k]))) [] H2/\K H2){env0:Env}{Q:QD}:
  TC P 3 N (QnZ ts te j) env H (Qkf 3 env0 Q K):=by
 subst L;have R:3<=H.length:=XV F;have G:3<H.length:=(XP.1 l).1;refine TC.block (TC.region ?_);refine QH rfl rfl rfl (OpV.load (v:=.osl 3 0 done.length k) (cs:=[]) rfl O p (Pts.cells r rfl)) ?_;refine QH rfl rfl rfl (x:=ea x) ?_ ?_
 .refine b _ (λs M=>?_) _;simp only[up,lk];have:Nat.beq s 8=false:=by
   rw[VQ];intro q;exact M (XU q)
  rw[this];rfl
 refine Y6 (by omega) rfl rfl rfl (OpH.lit (xs:=[.tmp 9]) (es:=[e x]) E rfl rfl (by simpa using d) ?_ ?_ ⟨J,trivial⟩ (by simpa using g) (by simpa using V)) ?_
 .simp[opA,lk,up,h]
 .simp[Q6,opA,lk,up,a]
 refine Y6 (x:=.osl (H.length+1) 0 (done++[x]).length k) (H':=((H++[Blk.row te k [e x]]).set 3 .dead)++[Blk.row te k ((done++[x]).map e)]) (by simp;omega) rfl rfl rfl ?_ ?_
 .have:=QB (P:=P) (o:={dst:=some 11,op:=.call {callee:=.builtin .append,args:= #[.tmp 8,.tmp 10],argTypes:= #[ts,ts]},type:=ts,pos:="iter.go:52",after:= #[{on:=0,ground:=.data},{on:=2,ground:=.data}],guard:=none})
   (env:=up (up (up env 8 (.osl 3 0 done.length k)) 9 (ea x)) 10 (.osl H.length 0 1 k)) (H:=H++[Blk.row te k [e x]]) (x:=.tmp 8) (y:=.tmp 10) (e:=e) (m:=[x]) (i:=3) (n:=done.length) (ya:=.osl H.length 0 1 k) u E E.sl (Y7 (t:=te) (by simp) rfl) rfl rfl rfl rfl (by rw[XQ G];exact l) rfl
  simpa using this
 refine QbA (by simp;omega) rfl rfl (OpU.store (i:=2) (off:=0) (T:=ts) (n:=1) (cs:=[.osl 3 0 done.length k]) (vs:=[.osl (H.length+1) 0 (done++[x]).length k]) (cs':=[.osl (H.length+1) 0 (done++[x]).length k]) (v:=.osl (H.length+1) 0 (done++[x]).length k) rfl ?_ ?_ z rfl rfl rfl rfl rfl rfl rfl) ?_
 .exact p
 .have f:2<H.length:=by omega
  rw[XQ (by simp;omega),XT (by decide),XQ f];exact r
 .refine WO.nil ?_;exact B _
theorem QnY{xs done l rem:List T}{x:T}(hl:Nat.ble xs.length Qy=true)(b:(done++l).Perm xs)(a:l.Perm (x::rem)):app done [x]=some (done++[x])/\((done++[x])++rem).Perm xs:=by
 have e:=b.length_eq;have d:=a.length_eq;have f:=XV hl;simp at e d;refine⟨?_,?_⟩
 .unfold app;have:Nat.ble (done.length+[x].length) Qy=true:=XW (by simp;omega);rw[this];rfl
 .refine List.Perm.trans ?_ b;simp only[Vm,List.singleton_append];exact(List.Perm.append_left done a).symm
theorem Qg6{j:FuncId}{fn:Func}(s:P.funcs[j]?=some fn)(q:fn.body=some (QqD ts tq te (QqE te) (.move (.tmp 5))))(F:fn.ntmps=13)(n:fn.results= #[.tmp 4])(E:QV P ts te 1)(m:∀w,(isAgg ts).run P w=.ok false w)(u:∀w,(sizeOf ts).run P w=.ok 1 w)
  (J:∀args w,(callFunc g args).run P w=.ok (.enter g args) w)(b:QhN P g [.ptr 0 0] [.cells tm [.map 1],.fmap es] (λx=>[ea x]) anyN xs)(hl:Nat.ble xs.length Qy=true)
  (M:∀x,QbR (ea x)=true)(f:∀x,Yf (ea x)=true)(e:∀x,Q9 (ea x)=[ea x])(h:∀x,Yt (ea x)=true)(G:∀x,Yr (ea x)=true):
  C P j [.nils,.fn (.func g) [] [.ptr 0 0]] [.cells tm [.map 1],.fmap es] (λr H1=>∃p:List T,p.Perm xs/\r=.osl 2 0 p.length 1/\H1=[.dead,.fmap es,.row te 1 (p.map λx=>[ea x])]):=by
 refine Qb s q F rfl ?_;refine TC.seq (TC.region ?_);refine Y6 (XV rfl) rfl rfl rfl (OpH.box (v:=.nils) (cs:=[.nils]) rfl rfl rfl rfl rfl) ?_;refine QH rfl rfl rfl (OpV.assign (v:=.nils) rfl rfl) ?_;refine WO.nil ?_;refine TC.seq (TC.seq (TC.region ?_));refine QH rfl rfl rfl (OpV.move (v:=.fn (.func g) [] [.ptr 0 0]) rfl rfl) ?_;refine WO.nil ?_;refine TC.block ?_;refine TC.rangeFunc (env:=apE g) (ps:=[7]) (S:=List T) [0,1] (apH ts te 1 tm es (λx=>[ea x])) (λdone l=>(done++l).Perm xs) [] (XV rfl) rfl rfl rfl (by decide) rfl J b (λx=>rfl) ?_ (List.Perm.refl _) ?_ ?_
 .exact Qjk (h0:=3) (i:=2) (t:=te) (k:=1) (H:=[.dead,.fmap es,.cells ts [.nils]]) rfl rfl
 .intro done l x rem d L;obtain⟨y,B⟩:=QnY hl d L;refine TC.region (QH rfl rfl rfl (OpV.assign (v:=ea x) rfl rfl) (WO.nil ⟨rfl,?_⟩));refine Qpa (ea:=ea) rfl E m u y rfl rfl (f x) (e x) (by simp[h x]) (by simp[Yn,G x]) rfl rfl rfl rfl ?_ ?_
  .intro a z pos;exact OpV.move rfl (by show lk a 5=ea x;rw[z 5 (by decide)];rfl)
  .intro a;exact⟨_,Lr (H':=apH ts te 1 tm es (λx=>[ea x]) (done++[x])) [0,1,2,5],_,B,rfl⟩
 .intro done d;rw[Vk]at d;refine TC.seq (TC.region ?_);refine QH rfl rfl rfl (OpV.load (v:=.osl 3 0 done.length 1) (cs:=[]) rfl m rfl (Pts.cells rfl rfl)) ?_;refine QH rfl rfl rfl (OpV.assign (v:=.osl 3 0 done.length 1) rfl rfl) ?_;refine WO.nil ?_;refine TC.ret ?_;exact⟨[(4,.osl 2 0 done.length 1)],[.dead,.fmap es,.row te 1 (done.map λx=>[ea x])],_,Lr [0,1,3],Qcy.one n rfl,done,d,rfl,rfl⟩
end
theorem TCy.le{T:Type}{X:Ctx T}{P:Program}{h0 N:Nat}{c:Code}{env env':Env}{H H':Qd}{l:YSt T}{Q:YG T}(d:Le h0 env H env' H')(h:TCy X P h0 N c env' H' l Q):TCy X P h0 N c env H l Q:=by
 intro p x m n σ a w g r hj hrd;obtain⟨f,σ',u,s,t⟩:=d m n σ N a w r;obtain⟨⟨y,i,k⟩,j⟩:=hj;exact Code.wpIn_mono (λe a w q=>q.grow s (XX _) t (Grow.refl _ _ _)) (h p x m f σ' a w g u ⟨⟨y,λb z=>s b (i b z),k⟩,j⟩ hrd)
mutual
theorem Qh9:∀{a:A},QbR a=true->Yr a=true
 |.any,_=>rfl
 |.bool _,_=>rfl
 |.int _ _,_=>rfl
 |.str _,_=>rfl
 |.nilp,_=>rfl
 |.ptr _ _,h=>by simp[QbR]at h
 |.rp _,_=>rfl
 |.nils,_=>rfl
 |.rsl _ _,_=>rfl
 |.osl _ _ _ _,h=>by simp[QbR]at h
 |.agg cs,h=>by simp only[QbR]at h;simp only[Yr];exact Qgi h
 |.fn _ a c,h=>by simp[QbR]at h
 |.nilf,_=>rfl
 |.iface _ v,h=>by simp[QbR]at h
 |.nilif,_=>rfl
 |.map _,h=>by simp[QbR]at h
 |.nilm,_=>rfl
 |.tup vs,h=>by simp[QbR]at h
theorem Qgi:∀{l:List A},QeR l=true->Yn l=true
 |[],_=>rfl
 |a::r,h=>by
  simp only[QeR,X0]at h;simp only[Yn,X0];exact⟨Qh9 h.1,Qgi h.2⟩
end
theorem Qh1{P:Program}{o:Oper}{env:Env}{H:Qd}{y z:Operand}{l:Nat}{a:A}{h:Array TypeId}(f:o.op=.call {callee:=.value y,args:= #[z],argTypes:=h})(j:opA env y=.fn (.yield l) [] [])(g:opA env z=a)(i:Yr a=true){N:Nat}:
  ∀fr ro σ act w,Rel fr ro σ H env N act w->∃vs:List Value,LR ro [] w [a] vs/\(execOp act.eval o).run P w=(Instr.yield l vs.toArray).run P w:=by
 intro fr ro σ act w r;have b:=Qg r y;rw[j]at b;obtain⟨m,e,b,n,k⟩:=b;obtain rfl:m=[]:=n;obtain rfl:e=[]:=k;have d:=Qg r z;rw[g]at d;refine⟨[act.eval z],⟨_,_,rfl,VR.data i d,rfl⟩,?_⟩;generalize act.eval=ev at*;simp[execOp,f,resolve,invoke,go_sem,b]
theorem Qlk{P:Program}{o:Oper}{env:Env}{H:Qd}{y d b:Operand}{l:Nat}{e g:A}{q:Array TypeId}(p:o.op=.call {callee:=.value y,args:= #[d,b],argTypes:=q})(s:opA env y=.fn (.yield l) [] [])(i:opA env d=e)(j:opA env b=g)(f:Yr e=true)(h:Yr g=true){N:Nat}:
  ∀fr ro σ act w,Rel fr ro σ H env N act w->∃vs:List Value,LR ro [] w [e,g] vs/\(execOp act.eval o).run P w=(Instr.yield l vs.toArray).run P w:=by
 intro fr ro σ act w r;have a:=Qg r y;rw[s]at a;obtain⟨u,n,a,x,t⟩:=a;obtain rfl:u=[]:=x;obtain rfl:n=[]:=t;have k:=Qg r d;rw[i]at k;have m:=Qg r b;rw[j]at m;refine⟨[act.eval d,act.eval b],⟨_,_,rfl,VR.data f k,_,_,rfl,VR.data h m,rfl⟩,?_⟩;generalize act.eval=ev at*;simp[execOp,p,resolve,invoke,go_sem,a]
def Qnc(tm tb ty tk:Nat)(asg:Array Oper)(ld:Op):Code:=
 (Code.region 0 #[{dst:=some 4,op:=.load tm (.tmp 1),type:=tm,pos:="iter.go:27",after:= #[],guard:=none},{dst:=some 5,op:=.range tm (.tmp 4),type:=0,pos:="iter.go:27",after:= #[{on:=0,ground:=.data}],guard:=none}] false).seq
 (.block 0 (Code.loop ((Code.region 1 #[{dst:=some 6,op:=.next (.tmp 5) false,type:=0,pos:="iter.go:27",after:= #[],guard:=none},{dst:=some 7,op:=.extract (.tmp 6) 0,type:=tb,pos:="iter.go:27",after:= #[{on:=0,ground:=.data}],guard:=none}] false).seq
  ((Code.cond (.tmp 7) .skip (.exit 0)).seq (.block 1 ((Code.region 2 asg false).seq
   ((Code.region 3 #[{dst:=some 10,op:=.move (.tmp 0),type:=ty,pos:="iter.go:28",after:= #[],guard:=none},{dst:=some 11,op:=ld,type:=tk,pos:="iter.go:28",after:= #[],guard:=none},
    {dst:=some 12,op:=.call {callee:=.value (.tmp 10),args:= #[.tmp 11],argTypes:= #[tk]},type:=tb,pos:="iter.go:28",after:= #[{on:=0,ground:=.data},{on:=1,ground:=.data}],guard:=none},
    {dst:=some 13,op:=.unOp .not tb (.tmp 12),type:=tb,pos:="iter.go:28",after:= #[{on:=2,ground:=.data}],guard:=none}] false).seq (.cond (.tmp 13) .ret .skip))))))))
def Qqk(tk:Nat):Array Oper:= #[{dst:=some 8,op:=.entry (.tmp 5),type:=0,pos:="iter.go:27",after:= #[],guard:=none},{dst:=some 9,op:=.extract (.tmp 8) 0,type:=tk,pos:="iter.go:27",after:= #[{on:=0,ground:=.data}],guard:=none},
 {dst:=some 3,op:=.assign (.tmp 9),type:=tk,pos:="iter.go:27",after:= #[{on:=1,ground:=.data},{on:=0,ground:=.phase},{on:=1,ground:=.phase}],guard:=none}]
section
variable {P:Program} {K V:Type} {tm tb ty tk kt et:Nat} {ek:K->A} {ev:V->A} {m:List (K×V)} {T:Type}
abbrev kyE(l:Nat):Env:=[(0,.fn (.yield l) [] []),(1,.ptr 0 0),(5,.ptr 2 0)]
abbrev kyH(tm:Nat)(ek:K->A)(ev:V->A)(m l:List (K×V)):Qd:=[.cells tm [.map 1],.fmap (Qj ek ev m),.iter none (Qj ek ev l)]
theorem Qlw{g:FuncId}{fn:Func}{d:Array Oper}{u:Op}(F:P.funcs[g]?=some fn)(E:fn.body=some (Qnc tm tb ty tk d u))(M:fn.ntmps=14)(B:fn.results= #[])(O:∀w,(isAgg tm).run P w=.ok false w)(L:P.underlying tm=some (.map kt et))(R:∀x,QbR (ek x)=true)
  (round:∀(X:Ctx K) (e:K×V) (l:List (K×V)) (env:Env) (H:Qd) (f:YSt K) (Q:YG K),lk env 0=.fn (.yield X.l) [] []->lk env 1=.ptr 0 0->lk env 5=.ptr 2 0->H=[.cells tm [.map 1],.fmap (Qj ek ev m),.iter (some (ek e.1,ev e.2)) (Qj ek ev l)]->
   (∀env' H',lk env' 0=.fn (.yield X.l) [] []->lk env' 1=.ptr 0 0->lk env' 5=.ptr 2 0->(∀env2 b,lk env2 0=.fn (.yield X.l) [] []->lk env2 1=.ptr 0 0->lk env2 5=.ptr 2 0->Le 2 (up (up env2 12 (.bool b)) 13 (.bool (!b))) H' (kyE X.l) (kyH tm ek ev m l))->
    (∀pos env2,(∀s,s≠10->lk env2 s=lk env' s)->OpV P {dst:=some 11,op:=u,type:=tk,pos:=pos,after:= #[],guard:=none} env2 H' (ek e.1))->Nat.ble 2 H'.length=true->Q .normal env' H' f)->
   TCy X P 2 14 (.region 2 d false) env H f Q):
  QhN P g [.ptr 0 0] [.cells tm [.map 1],.fmap (Qj ek ev m)] (λx=>[ek x]) anyN (m.map Prod.fst):=by
 refine Qdo F E M rfl B ?_;intro X hE hNx;refine TCy.seq (TCy.lift (TC.region ?_));refine QH rfl rfl rfl (OpV.load (v:=.map 1) (cs:=[]) rfl O rfl (Pts.cells rfl rfl)) ?_;refine Y6 (XV rfl) rfl rfl rfl (QfV L) ?_;refine WO.nil ?_;refine TCy.block ?_;refine QgW (I:=λn env H f=>∃l:List (K×V),l.length=n/\f=.on (l.map Prod.fst)/\Le 2 env H (kyE X.l) (kyH tm ek ev m l)) ?_ ⟨m,rfl,rfl,Lr [0,1,2]⟩;rintro n env H f ⟨l,T,rfl,j⟩;refine TCy.le j ?_;refine TCy.seq (TCy.lift (TC.region ?_));refine Qkd (XV rfl) rfl rfl rfl (OpE.next rfl rfl rfl) ?_;rintro v H' (⟨k,rfl,rfl⟩|⟨W,N,k,rfl,rfl⟩)
 .have J:l=[]:=List.map_eq_nil_iff.1 k;subst J;refine QH rfl rfl rfl (OpV.extract (v:=.bool false) rfl rfl rfl) ?_;refine WO.nil ?_;refine TCy.seq (TCy.cond (t:=false) rfl (λe=>by cases e) (λ_=>?_));exact TCy.exit ⟨.inl rfl,.inl rfl⟩
 .obtain⟨G,r,p⟩:=Qgq k rfl;cases G with
  |nil=>cases p
  |cons e i=>
   simp only[Vn,List.cons.injEq]at p;obtain⟨rfl,rfl⟩:=p;have h:i.length<n:=by rw[<- T, <- r.length_eq];simp
   refine QH rfl rfl rfl (OpV.extract (v:=.bool true) rfl rfl rfl) ?_;refine WO.nil ?_;refine TCy.seq (TCy.cond (t:=true) rfl (λ_=>?_) (λe=>by cases e));refine TCy.skip ?_;refine TCy.block ?_;refine TCy.seq (round X e i _ _ _ _ rfl rfl rfl rfl ?_);intro env' H' g0 g1 g5 hfin hld hL;refine TCy.seq (TCy.region ?_);refine WOy.step (QH rfl rfl rfl (OpV.move (v:=.fn (.yield X.l) [] []) rfl g0) (WO.nil ⟨rfl,?_⟩));refine WOy.step (QH rfl rfl rfl (x:=ek e.1) (hld _ _ λs q=>?_) (WO.nil ⟨rfl,?_⟩))
   .simp only[up,lk];have:Nat.beq s 10=false:=by rw[VQ];intro z;exact q (XU z)
    rw[this];rfl
   refine WOy.yield (x:=e.1) (rem:=i.map Prod.fst) ?_ rfl rfl rfl ?_ ?_
   .rw[hNx];exact r.symm.map Prod.fst
   .rw[hE];refine Qh1 (y:=.tmp 10) (z:=.tmp 11) (l:=X.l) (a:=ek e.1) rfl ?_ ?_ (Qh9 (R _))
    .rfl
    .rfl
   .intro b;refine WOy.step (QH rfl rfl rfl (OpV.not (b:=b) rfl rfl) (WO.nil ⟨rfl,?_⟩));refine WOy.nil ?_;refine TCy.cond (t:= !b) rfl (λq=>?_) (λq=>?_)
    .obtain rfl:b=false:=by simpa using q
     exact TCy.ret ⟨.inr rfl,.inr ⟨_,rfl⟩⟩
    .obtain rfl:b=true:=by simpa using q
     refine TCy.skip ?_;exact⟨_,h,i,rfl,rfl,hfin _ true g0 g1 g5⟩
theorem QfM{g:FuncId}{fn:Func}(k:P.funcs[g]?=some fn)(j:fn.body=some (Qnc tm tb ty tk (Qqk tk) (.move (.tmp 3))))(p:fn.ntmps=14)(f:fn.results= #[])(q:∀w,(isAgg tm).run P w=.ok false w)(n:P.underlying tm=some (.map kt et))(r:∀x,QbR (ek x)=true):
  QhN P g [.ptr 0 0] [.cells tm [.map 1],.fmap (Qj ek ev m)] (λx=>[ek x]) anyN (m.map Prod.fst):=by
 refine Qlw (et:=et) (kt:=kt) k j p f q n r ?_;intro X e l env H st Q g0 g1 g5 hH hk;subst hH;refine TCy.lift (TC.region ?_);refine QH rfl rfl rfl (OpV.entry (e:=(ek e.1,ev e.2)) rfl g5 rfl) ?_;refine QH rfl rfl rfl (OpV.extract (v:=ek e.1) rfl rfl rfl) ?_;refine QH rfl rfl rfl (OpV.assign (v:=ek e.1) rfl rfl) ?_;refine WO.nil ?_;refine hk _ _ g0 g1 g5 ?_ ?_ rfl
 .intro a b s t h;exact Le.trans (Qg3 (i:=2) (es:=Qj ek ev l) rfl rfl) (Lr [0,1,2] (hE:=⟨s,t,h,trivial⟩))
 .intro pos a d;exact OpV.move rfl (by show lk a 3=_;rw[d 3 (by decide)];rfl)
end
def QqA(ts tq fA:Nat):Code:=(Code.region 0 #[{dst:=some 2,op:=.assign (.const (.slice none 0 0)),type:=ts,pos:="iter.go:59",after:= #[],guard:=none}] false).seq
 ((Code.region 1 #[{dst:=some 3,op:=.move (.tmp 0),type:=tq,pos:="iter.go:60",after:= #[],guard:=none},
  {dst:=some 4,op:=.call {callee:=.value (.func fA),args:= #[.const (.slice none 0 0),.tmp 3],argTypes:= #[ts,tq]},type:=ts,pos:="iter.go:60",after:= #[{on:=0,ground:=.data}],guard:=none},
  {dst:=some 2,op:=.assign (.tmp 4),type:=ts,pos:="iter.go:60",after:= #[{on:=1,ground:=.data},{on:=1,ground:=.chain},{on:=0,ground:=.phase},{on:=1,ground:=.phase}],guard:=none}] false).seq .ret)
theorem Qg5{P:Program}{T:Type}{f l i k j:Nat}{g:FuncId}{es:List (A×A)}{e:T->List A}{xs:List T}{fC a:FuncId}{fn:Func}(q:P.funcs[fC]?=some fn)(n:fn.body=some (QqA f l a))(s:fn.ntmps=5)(m:fn.results= #[.tmp 2])
  (b:∀(env:Env) (H:Qd),lk env 3=.fn (.func g) [] [.ptr 0 0]->OpC P {dst:=some 4,op:=.call {callee:=.value (.func a),args:= #[.const (.slice none 0 0),.tmp 3],argTypes:= #[f,l]},type:=f,pos:="iter.go:60",after:= #[{on:=0,ground:=.data}],guard:=none} env H a [.nils,.fn (.func g) [] [.ptr 0 0]])
  (t:C P a [.nils,.fn (.func g) [] [.ptr 0 0]] [.cells j [.map 1],.fmap es] (λr H1=>∃p:List T,p.Perm xs/\r=.osl 2 0 p.length k/\H1=[.dead,.fmap es,.row i k (p.map e)])):
  C P fC [.fn (.func g) [] [.ptr 0 0]] [.cells j [.map 1],.fmap es] (λr H1=>∃p:List T,p.Perm xs/\r=.osl 2 0 p.length k/\H1=[.dead,.fmap es,.row i k (p.map e)]):=by
 refine Qb q n s rfl ?_;refine TC.seq (TC.region ?_);refine QH rfl rfl rfl (OpV.assign (v:=.nils) rfl rfl) ?_;refine WO.nil ?_;refine TC.seq (TC.region ?_);refine QH rfl rfl rfl (OpV.move (v:=.fn (.func g) [] [.ptr 0 0]) rfl rfl) ?_;refine WO.call (d:=some 4) [0,1] (XV rfl) rfl rfl (λx h=>by cases h;decide) (b _ _ rfl) rfl rfl (by decide) t ?_;rintro r H1 ⟨p,u,rfl,rfl⟩;refine QH rfl rfl rfl (OpV.assign (v:=.osl 2 0 p.length k) rfl rfl) ?_;refine WO.nil ?_;refine TC.ret ?_;exact⟨[(2,.osl 2 0 p.length k)],[.dead,.fmap es,.row i k (p.map e)],_,Lr [0,1,2],Qcy.one m rfl,p,u,rfl,rfl⟩
def QlV{K R:Type}[DecidableEq R](l:List K)(k:List K->Option R):Option R:=bif Nat.ble l.length Qy then anyP k l else none
theorem Qk7{K R:Type}[DecidableEq R]{l:List K}{k:List K->Option R}{r:R}(h:QlV l k=some r):Nat.ble l.length Qy=true/\ ∀p,p.Perm l->k p=some r:=by
 unfold QlV at h;cases q:Nat.ble l.length Qy with
 |true=>rw[q]at h;exact⟨rfl,Qk6 h⟩
 |false=>rw[q]at h;cases h
end Go.Sw
namespace Go.Sw
section
variable {P:Program} {o:Oper} {env:Env} {H:Qd} {fr ro:Nat->Prop} {σ:Sig} {w:World}
theorem Qmj{h0 i t b1 b2:Nat}{es:List (List A)}{l:List Ent}(hH:H[i]?=some (.rowr t 3 es))(he:l.map (eC b1 b2)=es):Le h0 env H env (H.set i (.ents t b1 b2 l)):=by
 subst he;intro e d σ N a w r;refine⟨d,σ,⟨r.sim.weaken (x':=.ents t b1 b2 l) hH rfl ?_,r.env,r.size,r.defers⟩,λ_ q=>q,rfl⟩;intro y h;cases y with
 |none=>exact h.elim
 |some b=>exact h
theorem Qdg{b1 b2:Nat}:∀(l:List Ent),allK 3 (l.map (eC b1 b2))
 |[]=>trivial
 |e::l=>⟨rfl,Qdg l⟩
theorem Sim.phantomE(s:Sim fr ro σ H w)(t b1 b2:Nat):Sim fr ro (σ++[none]) (H++[.ents t b1 b2 []]) w:=by
 have ext:Ext ro σ w ro (σ++[none]) w:=⟨λ_ q=>q,λ_ _=>rfl,λ_ _ q=>q,λ_ _ h=>YM h⟩;have F:=s.len;have a:∀(j:Nat) (v:Blk),(H++[Blk.ents t b1 b2 []])[j]?=some v->(j<H.length/\H[j]?=some v)\/(j=H.length/\v=.ents t b1 b2 []):=by
  intro j v h;rcases Nat.lt_trichotomy j H.length with q|q|q
  .rw[XQ q]at h;exact .inl ⟨q,h⟩
  .subst q;simp at h;exact .inr ⟨rfl,h.symm⟩
  .rw[XS (by simp;omega)]at h;cases h
 have hσ:∀(j:Nat) (z:Option Nat),(σ++[none])[j]?=some z->(j<σ.length/\σ[j]?=some z)\/(j=σ.length/\z=none):=by
  intro j z h;rcases Nat.lt_trichotomy j σ.length with q|q|q
  .rw[XQ q]at h;exact .inl ⟨q,h⟩
  .subst q;simp at h;exact .inr ⟨rfl,h.symm⟩
  .rw[XS (by simp;omega)]at h;cases h
 refine⟨by simp[F],s.roOk,s.frLt,s.roFr,λi b x k g m=>?_,λi j b x y k g m u J B=>?_,λi z x k g=>?_,
  s.hidTo (· = ·) QZ (XX _) (λ_ _ _ _ _ _ _ q=>q) (λ_ _ _ _ _ _ _ q=>q) λj d y L E M=>.inl ?_⟩
 rotate_left 3
 .rcases hσ j _ L with⟨l,f⟩|⟨_,r⟩
  .rcases a j y E with⟨_,e⟩|⟨e,_⟩
   .exact⟨j,y,rfl,f,e,id,λ_ q=>q⟩
   .omega
  .cases r
 .rcases hσ i _ k with⟨l,f⟩|⟨_,r⟩
  .rcases a i x g with⟨_,e⟩|⟨e,_⟩
   .exact s.own i b x f e m
   .omega
  .cases r
 .rcases hσ i _ k with⟨l,f⟩|⟨_,r⟩
  .rcases hσ j _ g with⟨G,n⟩|⟨_,r⟩
   .rcases a i x m with⟨_,e⟩|⟨e,_⟩
    .rcases a j y u with⟨_,p⟩|⟨p,_⟩
     .exact s.inj i j b x y f n e p J B
     .omega
    .omega
   .cases r
  .cases r
 .rcases hσ i _ k with⟨l,f⟩|⟨l,rfl⟩
  .rcases a i x g with⟨_,e⟩|⟨e,_⟩
   .exact(s.blk i z x f e).keep ext (λ_ _ _=>rfl) (λ_ _ _ _=>rfl)
   .omega
  .rcases a i x g with⟨e,_⟩|⟨_,rfl⟩
   .omega
   .rfl
theorem Le.phantomE{h0 i m t T b1 b2:Nat}{cs:List A}(E:Nat.ble h0 H.length=true)(hH:H[i]?=some (.cells T cs))(e:cs[m]?=some .nils):
  Le h0 env H env (H.set i (.cells T (cs.set m (.osl H.length 0 0 3)))++[.ents t b1 b2 []]):=by
 intro G f σ N a w r;have j:h0<=H.length:=XV E;have z:i<H.length:=(XP.1 hH).1;have ext:Ext f σ w f (σ++[none]) w:=⟨λ_ q=>q,λ_ _=>rfl,λ_ _ q=>q,λ_ _ h=>YM h⟩;have s:=r.sim.phantomE t b1 b2;have d:(H++[Blk.ents t b1 b2 []])[i]?=some (.cells T cs):=by rw[XQ z];exact hH
 have u:H.set i (.cells T (cs.set m (.osl H.length 0 0 3)))++[.ents t b1 b2 []]=(H++[Blk.ents t b1 b2 []]).set i (.cells T (cs.set m (.osl H.length 0 0 3))):=by
  rw[List.set_append_left _ _ z]
 rw[u];refine⟨f,σ++[none],⟨s.weaken d rfl ?_,λq=>(r.env q).mono ext,r.size,r.defers⟩,λ_ q=>q,Qt (by rw[r.sim.len];exact j)⟩;intro y h;cases y with
 |none=>exact h
 |some b=>
  obtain⟨l,p,B,k⟩:=h;refine⟨l,p,?_,k⟩;clear p k d u hH
  induction cs generalizing m l with
  |nil=>cases e
  |cons c cs F=>
   obtain⟨v,g,rfl,n,x⟩:=B;cases m with
   |zero=>
    simp at e;subst e;exact⟨v,g,rfl,.inl ⟨rfl,n⟩,x⟩
   |succ m=>exact⟨v,g,rfl,n,F (by simpa using e) g x⟩
theorem QQ{h0 i m T:Nat}{cs:List A}(hH:H[i]?=some (.cells T cs)):Le h0 env H env (H.set i (.cells T (cs.set m .any))):=by
 intro s k σ N a w r;refine⟨k,σ,⟨r.sim.weaken hH rfl ?_,r.env,r.size,r.defers⟩,λ_ q=>q,rfl⟩;intro y h;cases y with
 |none=>exact h
 |some b=>
  obtain⟨l,g,e,f⟩:=h;refine⟨l,g,?_,f⟩;clear g f hH
  induction cs generalizing m l with
  |nil=>exact e
  |cons c cs p=>
   obtain⟨v,d,rfl,n,j⟩:=e;cases m with
   |zero=>exact⟨v,d,rfl,trivial,j⟩
   |succ m=>exact⟨v,d,rfl,n,p d j⟩
theorem srcE{j m t b1 b2:Nat}{l:List Ent}{v:Value}(s:Sim fr ro σ H w)(hH:H[j]?=some (.ents t b1 b2 l))(e:l.length=m)(h:VR ro σ w (.osl j 0 m 3) v):
  (∃a c,v=.slice a m c)/\ ∃vs:List Value,(∀w':World,w'.heap=w.heap->(Builtin.firstCells 3 m v).run P w'=.ok vs.toArray w')/\LR ro σ w (l.map (eC b1 b2)).flatten vs/\ ∀v∈vs,Qq v:=by
 rcases h with⟨rfl,rfl⟩|⟨b,p,d,B,J,r,rfl,i,L,E,z⟩
 .have:l=[]:=VN.1 e;subst this;exact⟨⟨none,0,rfl⟩,[],λ_ _=>Y4,rfl,by simp⟩
 .refine⟨⟨_,d,rfl⟩,?_⟩;obtain⟨G,f,y⟩:=s.blk j _ _ r hH;have u:=YX (pre:=[]) (by simpa using f) y;by_cases x:0<d
  .obtain rfl:=i x;obtain⟨q,F,g⟩:=u.flat;have:=Qb9 (P:=P) (k:=3) (n:=m) (c:=d) q (by rw[g];simp[e]);simpa using this
  .obtain rfl:m=0:=by omega
   have:l=[]:=VN.1 e;subst this;exact⟨[],λ_ _=>Y4,rfl,by simp⟩
theorem Qob{c:Call}{T T' t e' i j n m b1 b2:Nat}{x y:Operand}{l k:List Ent}(E:QV P T t 3)(hd:∀w,(underlying T').run P w=.ok (.slice e') w)(J:Nat.ble (l.length+k.length) Qy=true)(W:Nat.blt 0 n=true)
  (ho:o.op=.call c:=by exact rfl)(hc:c={callee:=.builtin .append,args:= #[x,y],argTypes:= #[T,T']}:=by exact rfl)(hx:opA env x=.osl i 0 n 3:=by exact rfl)(hH:H[i]?=some (.ents t b1 b2 l):=by exact rfl)(hn:l.length=n:=by exact rfl)
  (hy:opA env y=.osl j 0 m 3:=by exact rfl)(hHj:H[j]?=some (.ents t b1 b2 k):=by exact rfl)(hm:k.length=m:=by exact rfl):
  OpH P o env H (.osl H.length 0 (l++k).length 3) (H.set i .dead++[.ents t b1 b2 (l++k)]):=by
 intro fr s σ N a w r;have R:=XV J;have ah:0<n:=by simpa using W
 have z:=Qg r x;rw[hx]at z;have h2:=Qg r y;rw[hy]at h2;obtain⟨⟨ay,cy,O⟩,vs,q3,L,Y⟩:=srcE (P:=P) r.sim hHj hm h2;rw[O]at q3;obtain⟨_,e,o1,o2,o3⟩:=srcE (P:=P) r.sim hH hn z;have M:i<H.length:=(XP.1 hH).1;have ai:(H.set i .dead).length=H.length:=X8;rw[X7,hn,hm];rcases z with⟨q,_⟩|⟨b,p,cap,t',mm,h3,z,h4,h5,V,h7⟩
 .omega
 have F:=r.sim.blk i _ _ h3 hH;obtain⟨lb,g1,g2⟩:=F;have B:vs.length=m*3:=by rw[L.length,Yy (Qdg k)];simp[hm]
 have ac:e.length=n*3:=by rw[o2.length,Yy (Qdg l)];simp[hn]
 rw[z]at o1;by_cases f:n+m<=cap
 .obtain rfl:p=0*3:=h4 (by omega);have h:=QcW (t:=o.type) E hd (ad:=some ⟨b,0*3,none⟩) (n:=n) (m:=m) (cap:=cap) (c:=cy) (ax:=ay) f (q3 w rfl);have u:(n+m)*3<=lb.length:=by
   have:w.shape? b=some (t,lb.length):=by unfold World.shape?;rw[g1];simp
   rw[this]at V;cases V;exact XZ (XF 3 f) (by simpa using h7)
  rw[XD]at u;have Q:=Q3 (P:=P) (vs:=vs) (n*3) 0 g1 (by rw[B];simpa using u) Y;have g:=r.sim.set (x':=.ents t b1 b2 (l++k)) (obj:=.cells (splice lb (n*3) vs).toArray t (0,0)) h3 hH rfl
   (λy hy=>Qae g1 (Q2 (by rw[B];exact u)) y hy)
   (λex ab=>⟨_,ab,by
    have:=(g2.app (n:=n) (by simp[hn]) (Qdg k) L Y).mono ex;rw[VM (by simp[hn])]at this;rw[Xf];exact this⟩)
  have sm:=g.1.moved (i:=i) (Xa M) h3;rw[List.set_set]at sm;refine⟨.slice (some ⟨b,0*3,none⟩) (n+m) cap,_,s,[some b],?_,.inr ⟨b,0*3,cap,t',mm,?_,rfl,h4,f,?_,h7⟩,sm,g.2⟩
  .refine Y5 ho hc _ ?_;rw[z,O,h];simp only[Ji,Nat.zero_mul,Xy,Vr,Q,Result.andThen,Vs];simp
  .rw[<- r.sim.len];simp
  .exact g.2.shape _ _ V
 .obtain⟨d,nc,aa,X,h⟩:=Qib (t:=o.type) E hd rfl (by omega) (by omega) q3 o1
  let w0:World:={w with drawn:=w.drawn+1}
  have G:Sim fr s σ (H.set i .dead) w0:=(r.sim.kill i).heap rfl;have e0:Qh fr s w s w0:=Qh.heap rfl rfl rfl rfl (Nat.le_succ _);have ae:LR s σ w0 ((l++k).map (eC b1 b2)).flatten (e++vs):=by
   rw[Xf,Xt];exact(o2.append L).mono (Ext.heap (w:=w) (w':=w0) rfl)
  have af:∀v∈e++vs,Qq v:=λv hv=>by rcases VH.1 hv with q|q;exact o3 v q;exact Y v q
  have s1:=G.alloc (x:=.ents t b1 b2 (l++k)) (obj:=.cells ((e++vs)++d).toArray t) ⟨(e++vs)++d,Yg _ _,(Jt (Qdg _) ae af).mono ((Qh.alloc (fr:=fr) _ G.roLt G.frLt).ext σ _)⟩;have ag:Qh fr s w0 s (w0.alloc (.cells ((e++vs)++d).toArray t)):=Qh.alloc _ G.roLt G.frLt;refine⟨_,_,s,[some w.heap.size],Y5 ho hc a.eval (by rw[z,O];exact h),.inr ⟨w.heap.size,0,nc,t,(e++vs++d).length,?_,rfl,λ_=>by simp,aa,?_,?_⟩,s1,e0.trans ag⟩
  .rw[<- r.sim.len];simp
  .have:=Yg w0 (.cells ((e++vs)++d).toArray t);unfold World.shape?;rw[show w.heap.size=w0.heap.size from rfl,this];simp
  .simp only[X7,X,ac,B,Xy];omega
theorem Qg1{c:Call}{T T' t e' i j n m b1 b2:Nat}{x y:Operand}{a b r:List Ent}(h:app a b=some r)(E:QV P T t 3)(e:∀w,(underlying T').run P w=.ok (.slice e') w)(d:Nat.blt 0 n=true)
  (f:o.op=.call c:=by exact rfl)(hc:c={callee:=.builtin .append,args:= #[x,y],argTypes:= #[T,T']}:=by exact rfl)(hx:opA env x=.osl i 0 n 3:=by exact rfl)(hH:H[i]?=some (.ents t b1 b2 a):=by exact rfl)(hn:a.length=n:=by exact rfl)
  (hy:opA env y=.osl j 0 m 3:=by exact rfl)(hHj:H[j]?=some (.ents t b1 b2 b):=by exact rfl)(hm:b.length=m:=by exact rfl):
  OpH P o env H (.osl H.length 0 r.length 3) (H.set i .dead++[.ents t b1 b2 r]):=by
 obtain⟨g,rfl⟩:=Qka h;exact Qob E e (XW g) d f hc hx hH hn hy hHj hm
theorem Pts.ents{i off t e f b1 b2:Nat}{l:List Ent}{x:Ent}{cs':List A}(he:l[e]?=some x)(hH:H[i]?=some (.ents t b1 b2 l):=by exact rfl)(ho:off=e*3+f:=by exact rfl)(hcs:(eC b1 b2 x).drop f=cs':=by exact rfl):Pts H (.ptr i off) cs':=by
 intro n m σ w v s h;obtain⟨b,j,g⟩:=h;obtain⟨p,d,k⟩:=s.blk i _ _ j hH;have a:(l.map (eC b1 b2))[e]?=some (eC b1 b2 x):=by rw[Xq,he];rfl
 have:=((YX (pre:=[]) (by simpa using d) k).get e a).2.drop f;refine⟨b,off,g,?_⟩;rw[<- hcs,ho];simpa using this
def Qf6(cs:List A)(s:Int)(e:Ent):Option Int:=bif e.fl then(bif e.off==0 then some s else none)else match cs[e.off]? with
 |some (.int .i64 v)=>some v
 |_=>none
def QjF{F:Type}(put:F->Nat->Int->Option F)(x:F)(s:Int)(e:Ent)(v:Int):Option (F×Int):=
 bif e.fl then(bif e.off==0 then some (x,v)else none)else(put x e.off v).map λy=>(y,s)
abbrev QhG(b1 b2:Nat)(e:Ent):A:=.ptr (bif e.fl then b2 else b1) e.off
theorem QnL{l:List A}{i:Nat}{a:A}(h:l[i]?=some a):∃r,l.drop i=a::r:=by
 obtain⟨b,rfl⟩:=XP.1 h;exact⟨_,Xr b⟩
theorem Qcl{t b1 b2 T1 T2:Nat}{x:Operand}{e:Ent}{cs:List A}{s v:Int}(h:Qf6 cs s e=some v)(i:∀w,(isAgg t).run P w=.ok false w)(g:o.op=.load t x:=by exact rfl)(hx:opA env x=QhG b1 b2 e:=by exact rfl)
  (h1:H[b1]?=some (.cells T1 cs):=by exact rfl)(h2:H[b2]?=some (.cells T2 [.int .i64 s]):=by exact rfl):OpV P o env H (.int .i64 v):=by
 unfold Qf6 at h;unfold QhG at hx;cases f:e.fl with
 |true=>
  rw[f]at h hx;simp only[Vt]at h hx;cases b:e.off==0 with
  |false=>rw[b]at h;cases h
  |true=>
   rw[b]at h;have m:e.off=0:=by simpa using b
   rw[m]at hx;have j:s=v:=by simpa using h
   subst j;exact OpV.load g i hx (Pts.cells (cs':=[.int .i64 s]) h2 rfl)
 |false=>
  rw[f]at h hx;simp only[Vu]at h hx;cases d:cs[e.off]? with
  |none=>rw[d]at h;cases h
  |some a=>
   rw[d]at h;obtain⟨r,l⟩:=QnL d;cases a with
   |int k n=>
    cases k<;>first|(cases h;exact OpV.load g i hx (Pts.cells h1 l))|cases h
   |_=>cases h
theorem Qjv{l:List A}{i:Nat}{a:A}(h:i<l.length):splice l i [a]=l.set i a:=by
 unfold splice;rw[List.set_eq_take_append_cons_drop,Vx h];simp
theorem Qh7{i:Nat}{b:Blk}(h:H[i]?=some b):H.set i b=H:=by
 apply List.ext_getElem?;intro j;rw[Xb];by_cases e:i=j
 .subst e;rw[Vx rfl,Vx (XP.1 h).1,h]
 .rw[Vw e]
theorem Qkl{F:Type}{c:F->List A}{put:F->Nat->Int->Option F}{t b1 b2 T1 T2:Nat}{x y:Operand}{e:Ent}{f f':F}{s s' v:Int}(h:QjF put f s e v=some (f',s'))(a:∀x o v y,put x o v=some y->c y=(c x).set o (.int .i64 v)/\o<(c x).length)
  (l:∀w,(sizeOf t).run P w=.ok 1 w)(k:o.op=.store t x y:=by exact rfl)(hx:opA env x=QhG b1 b2 e:=by exact rfl)(h1:H[b1]?=some (.cells T1 (c f)):=by exact rfl)(h2:H[b2]?=some (.cells T2 [.int .i64 s]):=by exact rfl)(hy:opA env y=.int .i64 v:=by exact rfl)
  (hb:Nat.beq b1 b2=false:=by exact rfl):OpU P o env H ((H.set b1 (.cells T1 (c f'))).set b2 (.cells T2 [.int .i64 s'])):=by
 have d:b1≠b2:=λq=>by subst q;rw[VJ]at hb;cases hb
 unfold QjF at h;unfold QhG at hx;cases j:e.fl with
 |true=>
  rw[j]at h hx;simp only[Vt]at h hx;cases b:e.off==0 with
  |false=>rw[b]at h;cases h
  |true=>
   rw[b]at h;have r:e.off=0:=by simpa using b
   rw[r]at hx;obtain⟨rfl,rfl⟩:f=f'/\v=s':=by simpa using h
   rw[Qh7 h1];exact OpU.store (cs:=[.int .i64 s]) (vs:=[.int .i64 v]) (cs':=[.int .i64 v]) (v:=.int .i64 v) k hx h2 l hy rfl rfl rfl rfl rfl rfl
 |false=>
  rw[j]at h hx;simp only[Vu]at h hx;cases i:put f e.off v with
  |none=>rw[i]at h;cases h
  |some g=>
   rw[i]at h;obtain⟨rfl,rfl⟩:g=f'/\s=s':=by simpa using h
   obtain⟨n,m⟩:=a _ _ _ _ i;have p:(H.set b1 (.cells T1 (c g)))[b2]?=some (.cells T2 [.int .i64 s]):=by rw[XT d];exact h2
   rw[Qh7 p];exact OpU.store (cs:=c f) (vs:=[.int .i64 v]) (cs':=c g) (v:=.int .i64 v) k hx h1 l hy rfl rfl rfl rfl (XW m) (by rw[Qjv m,n])
end
section
variable {P:Program} {h0 N:Nat} {A B C:Code} {env:Env} {H:Qd} {Q:QD}
theorem Qn6{S B1:Type}{b:Ctl S B1}(Eb:S->Env)(Hb:S->Qd)(h:TC P h0 N A env H (Seq P h0 N B (Qf2 h0 b Eb Hb (Seq P h0 N C Q))))(k:∀s env H,b=.cont s->Le h0 env H (Eb s) (Hb s)->Seq P h0 N C Q .normal env H):TC P h0 N (.seq A (.seq B C)) env H Q:=by
 refine TC.seq (h.mono λx env' H' q=>?_);cases x with
 |normal=>exact TC.seq (QhM Eb Hb q k)
 |exit id=>exact q
 |ret=>exact q
end
end Go.Sw
namespace Go.Sw
section
variable {P:Program} {o:Oper} {env:Env} {H:Qd}
theorem Qfp{f g:Nat->Option (Nat×Nat)}:∀(parts:List (Nat×Value)) (cs:Array Value),(∀p∈parts,f p.1=g p.1)->Instr.fill f cs parts=Instr.fill g cs parts
 |[],cs,_=>rfl
 |(i,v)::rest,cs,h=>by
  unfold Instr.fill;rw[h (i,v) (by simp)];have ih:=λcs=>Qfp rest cs (λp hp=>h p (by simp[hp]));cases g i with
  |none=>rfl
  |some p=>
   obtain⟨off,size⟩:=p;simp only;split
   .rfl
   .exact ih _
theorem JF{t e n k:Nat}{z:Value}{zs cs:List A}{parts:List (Nat×Operand)}(x:∀w,(zeroValue t).run P w=.ok z w)(s:ZR (.agg zs) z)(h:∀w,(underlying t).run P w=.ok (.array n e) w)(y:∀w,(sizeOf e).run P w=.ok k w)
  (j:(parts.all λp=>Nat.blt p.1 n)=true)(u:o.op=.build t parts.toArray:=by exact rfl)(hf:Qec env ((List.range n).map λi=>(i*k,k)) zs parts=some cs:=by exact rfl):OpV P o env H (.agg cs):=by
 intro J f σ N a w r;obtain⟨l,rfl,m⟩:=s f σ w;obtain⟨b,G,B⟩:=Qfq r parts zs l cs m hf;refine⟨.agg b.toArray,?_,b,rfl,B⟩;have F:Instr.fill (λi=>some (i*k,k)) l.toArray (parts.map λp=>(p.1,a.eval p.2))=some b.toArray:=by
  rw[<- G];refine Qfp _ _ ?_;intro p E;obtain⟨q,g,rfl⟩:=Xe.1 E;have d:q.1<n:=by simpa using Xu.1 j q g
  simp[d]
 generalize hρ:a.eval=ρ at*;simp only[execOp,u,Instr.build,Vr,x,Result.andThen,h,y,XM,Vs,Value.cells,F]
def YN(k:IntKind)(m n:Int):Int:=k.wrap (BitVec.ofInt k.bits m&&& BitVec.ofInt k.bits n).toNat
def orI(k:IntKind)(m n:Int):Int:=k.wrap (BitVec.ofInt k.bits m|||BitVec.ofInt k.bits n).toNat
def QeJ(k:IntKind)(m n:Int):Int:=k.wrap (BitVec.ofInt k.bits m^^^BitVec.ofInt k.bits n).toNat
def QeP(k:IntKind)(m n:Int):Int:=k.wrap (m*2^(min n.toNat k.bits))
def Yi(k:IntKind)(m n:Int):Int:=m.fdiv (2^(min n.toNat k.bits))
theorem OpV.and{t u:TypeId}{x y:Operand}{k:IntKind}{m n:Int}(e:o.op=.binOp .and t x y u)(d:opA env x=.int k m)(b:opA env y=.int k n):OpV P o env H (.int k (YN k m n)):=by
 intro i h σ N a w r;have g:=QS r d;have f:=QS r b;refine⟨_,?_,rfl⟩;generalize a.eval=ρ at*;simp[execOp,e,g,f,Go.binOp,eqGuard,Op.intBits,go_sem,YN]
theorem OpV.or{t u:TypeId}{x y:Operand}{k:IntKind}{m n:Int}(e:o.op=.binOp .or t x y u)(d:opA env x=.int k m)(b:opA env y=.int k n):OpV P o env H (.int k (orI k m n)):=by
 intro i h σ N a w r;have g:=QS r d;have f:=QS r b;refine⟨_,?_,rfl⟩;generalize a.eval=ρ at*;simp[execOp,e,g,f,Go.binOp,eqGuard,Op.intBits,go_sem,orI]
theorem OpV.xor{t u:TypeId}{x y:Operand}{k:IntKind}{m n:Int}(e:o.op=.binOp .xor t x y u)(d:opA env x=.int k m)(b:opA env y=.int k n):OpV P o env H (.int k (QeJ k m n)):=by
 intro i h σ N a w r;have g:=QS r d;have f:=QS r b;refine⟨_,?_,rfl⟩;generalize a.eval=ρ at*;simp[execOp,e,g,f,Go.binOp,eqGuard,Op.intBits,go_sem,QeJ]
theorem OpV.shl{t u:TypeId}{x y:Operand}{k b:IntKind}{m n:Int}(d:o.op=.binOp .shl t x y u)(f:opA env x=.int k m)(h:opA env y=.int b n)(i:0<=n):OpV P o env H (.int k (QeP k m n)):=by
 intro l j σ N a w r;have g:=QS r f;have e:=QS r h;refine⟨_,?_,rfl⟩;generalize a.eval=ρ at*;simp[execOp,d,g,e,Go.binOp,eqGuard,Op.shift,go_sem,QeP,Int.not_lt.2 i]
theorem OpV.shr{t u:TypeId}{x y:Operand}{k b:IntKind}{m n:Int}(d:o.op=.binOp .shr t x y u)(f:opA env x=.int k m)(h:opA env y=.int b n)(i:0<=n):OpV P o env H (.int k (Yi k m n)):=by
 intro l j σ N a w r;have g:=QS r f;have e:=QS r h;refine⟨_,?_,rfl⟩;generalize a.eval=ρ at*;simp[execOp,d,g,e,Go.binOp,eqGuard,Op.shift,go_sem,Yi,Int.not_lt.2 i]
theorem YU{h0 i m t k T:Nat}{cs:List A}(F:Nat.ble h0 H.length=true)(hH:H[i]?=some (.cells T cs))(e:cs[m]?=some .nils):
  Le h0 env H env (H.set i (.cells T (cs.set m (.osl H.length 0 0 k)))++[.row t k []]):=by
 intro J f σ N a w r;have j:h0<=H.length:=XV F;have B:i<H.length:=(XP.1 hH).1;have ext:Ext f σ w f (σ++[none]) w:=⟨λ_ q=>q,λ_ _=>rfl,λ_ _ q=>q,λ_ _ h=>YM h⟩;have s:=r.sim.phantom t k;have d:(H++[Blk.row t k []])[i]?=some (.cells T cs):=by rw[XQ B];exact hH
 have x:H.set i (.cells T (cs.set m (.osl H.length 0 0 k)))++[.row t k []]=(H++[Blk.row t k []]).set i (.cells T (cs.set m (.osl H.length 0 0 k))):=by
  rw[List.set_append_left _ _ B]
 rw[x];refine⟨f,σ++[none],⟨s.weaken d rfl ?_,λq=>(r.env q).mono ext,r.size,r.defers⟩,λ_ q=>q,Qt (by rw[r.sim.len];exact j)⟩;intro y h;cases y with
 |none=>exact h
 |some b=>
  obtain⟨l,u,E,n⟩:=h;refine⟨l,u,?_,n⟩;clear u n d x hH
  induction cs generalizing m l with
  |nil=>cases e
  |cons c cs G=>
   obtain⟨v,g,rfl,p,z⟩:=E;cases m with
   |zero=>
    simp at e;subst e;exact⟨v,g,rfl,.inl ⟨rfl,p⟩,z⟩
   |succ m=>exact⟨v,g,rfl,p,G (by simpa using e) g z⟩
theorem Qg2{h0 i s g n k:Nat}{x:Blk}(y:lk env s=.osl i g n k)(hH:H[i]?=some x)(l:Nat.ble h0 H.length=true):Le h0 env H (up env s (.osl H.length g n k)) (H.set i .dead++[x]):=by
 intro E e σ N a w r;have B:i<σ.length:=by rw[r.sim.len];exact(XP.1 hH).1
 have hσ:σ[i]?=some σ[i]:=XO B;have ext:Ext e σ w e (σ++[σ[i]]) w:=⟨λ_ q=>q,λ_ _=>rfl,λ_ _ q=>q,λ_ _ h=>YM h⟩;refine⟨e,σ++[σ[i]],⟨r.sim.moved hH hσ,?_,r.size,r.defers⟩,λ_ q=>q,Qt (by rw[r.sim.len];exact XV l)⟩;intro d;simp only[lk];by_cases q:d=s
 .subst q;rw[VJ];have:=r.env d;rw[y]at this;rcases this with h|⟨b,p,f,t,m,u,j⟩
  .exact .inl h
  .refine .inr ⟨b,p,f,t,m,?_,j⟩;rw[u]at hσ;rw[<- r.sim.len];simpa using hσ.symm
 .have:Nat.beq d s=false:=by
   rw[VQ];intro z;exact q (XU z)
  rw[this];exact(r.env d).mono ext
def Qbx(n:Int):UInt8:=n.toNat.toUInt8
def Ql0(P:Program)(H:Qd)(x:A)(l:List Int):Prop:=
 ∀fr ro σ w v,Sim fr ro σ H w->VR ro σ w x v->(∃a c,v=.slice a 0 c/\l=[])\/ ∃b off c,v=.slice (some ⟨b,off,none⟩) l.length c/\(l=[]\/CR ro σ w b (l.map λn=>A.int .u8 n) off)
theorem Qhw:∀(l:List Int),(l.map (λn=>[A.int .u8 n])).flatten=l.map λn=>A.int .u8 n
 |[]=>rfl
 |n::l=>by simp[Qhw l]
theorem Ql0.nils:Ql0 P H .nils []:=λfr ro σ w v s h=>.inl ⟨none,0,h,rfl⟩
theorem Ql0.row{i t n:Nat}{l:List Int}(hH:H[i]?=some (.row t 1 (l.map λn=>[A.int .u8 n])):=by exact rfl)(hn:l.length=n:=by exact rfl):Ql0 P H (.osl i 0 n 1) l:=by
 intro y q σ w v s h;rcases h with⟨rfl,rfl⟩|⟨b,p,a,r,m,j,rfl,g,B,x,u⟩
 .exact .inl ⟨none,0,rfl,VN.1 hn⟩
 .refine .inr ⟨b,p,a,by rw[hn],?_⟩;by_cases d:l=[]
  .exact .inl d
  .have:0<a:=by have:=List.length_pos_iff.2 d;omega
   obtain rfl:=g this;obtain⟨z,f,k⟩:=s.blk i _ _ j hH;have e:=(YX (pre:=[]) (by simpa using f) k).flat.1;rw[Qhw]at e;exact .inr (by simpa using e.lift)
theorem Ql0.rsl{l:List Int}:Ql0 P H (.rsl 1 (l.map λn=>[A.int .u8 n])) l:=by
 intro j h σ w v s ⟨a,c,h1,h2,e⟩;subst h1;rw[X6]at*;rcases e with e|⟨b,d,rfl,i,g⟩
 .have:l=[]:=List.map_eq_nil_iff.1 e;subst this;exact .inl ⟨a,c,by simp,rfl⟩
 .have f:=g.flat.1;rw[Qhw]at f;exact .inr ⟨b,d,c,rfl,.inr f.lift⟩
theorem Qcr{ro:Nat->Prop}{σ:Sig}{w:World}{b:Nat}:∀(l:List Int) (off:Nat) (a:ByteArray),CR ro σ w b (l.map λn=>A.int .u8 n) off->(Extern.Bytes.loadBytes ⟨b,off,none⟩ l.length a).run P w=.ok ⟨a.data++(l.map Qbx).toArray⟩ w
 |[],off,a,_=>by simp[Extern.Bytes.loadBytes,go_sem]
 |n::l,off,a,⟨⟨v,h1,hp,h2⟩,h3⟩=>by
  have h2':v=.int .u8 n:=h2;subst h2';have ih:=Qcr l (off+1) (a.push n.toNat.toUInt8) h3;have hl:(Go.load ⟨b,off,none⟩).run P w=.ok (.int .u8 n) w:=by simp[Go.load,Sem.run,h1]
  simp only[X5,Extern.Bytes.loadBytes,Vr,hl,Result.andThen];have d:(⟨b,off,none⟩:Addr).add 1=⟨b,off+1,none⟩:=by simp[Ji]
  rw[d,ih];simp[Qbx,ByteArray.push]
theorem Qd3{fr ro:Nat->Prop}{σ:Sig}{w:World}{x:A}{l:List Int}{v:Value}(h:Ql0 P H x l)(s:Sim fr ro σ H w)(f:VR ro σ w x v):(Extern.Bytes.bytesOf v).run P w=.ok ⟨(l.map Qbx).toArray⟩ w:=by
 rcases h fr ro σ w v s f with⟨a,c,rfl,rfl⟩|⟨b,e,c,rfl,d⟩
 .cases a with
  |none=>simp[Extern.Bytes.bytesOf,go_sem];rfl
  |some a=>simp[Extern.Bytes.bytesOf,Extern.Bytes.loadBytes,go_sem];rfl
 .rcases d with rfl|d
  .simp[Extern.Bytes.bytesOf,Extern.Bytes.loadBytes,go_sem];rfl
  .have:=Qcr (P:=P) l e .empty d;simp only[Extern.Bytes.bytesOf,this];congr 2;simp[ByteArray.empty,ByteArray.emptyWithCapacity];rfl
def cmpB(l m:List Int):Int:=Lib.compareBytes (l.map Qbx) (m.map Qbx)
theorem OpV.cmpB{c:Call}{f:FuncId}{fn:Func}{x y:Operand}{t:Array TypeId}{ax g:A}{l m:List Int}(k:P.funcs[f]?=some fn)(b:(fn.name=="runtime.NumGoroutine")=false)(j:fn.body.isNone=true)(u:Extern.findNext fn=none)(he:Extern.find fn=some Extern.BytealgCompare.compare)
  (q:Ql0 P H ax l)(p:Ql0 P H g m)(n:o.op=.call c:=by exact rfl)(hc:c={callee:=.value (.func f),args:= #[x,y],argTypes:=t}:=by exact rfl)(hx:opA env x=ax:=by exact rfl)(hy:opA env y=g:=by exact rfl):OpV P o env H (.int .i64 (cmpB l m)):=by
 intro F E σ N a w r;have h:=Qg r x;rw[hx]at h;have d:=Qg r y;rw[hy]at d;have B:=Qd3 q r.sim h;have s:=Qd3 p r.sim d;refine⟨.int .i64 (Sw.cmpB l m),?_,rfl⟩;subst hc;have e:a.eval (.func f)=.func (.func f) #[] #[]:=rfl;have z:(callFunc f #[a.eval x,a.eval y]).run P w=.ok (.value (.int .i64 (Sw.cmpB l m))) w:=by
  rw[run_callFunc_extern k b j u he];have i:Sem.run P (Extern.BytealgCompare.compare #[a.eval x,a.eval y]) w=.ok (.int .i64 (Sw.cmpB l m)) w:=by
   change Sem.run P (do pure (goInt (Extern.BytealgCompare.cmp (<- Extern.Bytes.bytesOf (a.eval x)) (<- Extern.Bytes.bytesOf (a.eval y))))) w=_;simp only[Vr,B,s,Result.andThen,Vs,Lib.cmp_eq];rfl
  rw[i];rfl
 generalize a.eval=ρ at*;simp only[execOp,n,resolve,e,Deferred.ofValue,invoke,Vr,Vs,Result.andThen];simpa using z
theorem Q1{t et n k b off j:Nat}{x y:Operand}{i:Int}{p:IntKind}(h:(i==(j:Int))=true)(u:Nat.blt j n=true)(E:∀w,(underlying t).run P w=.ok (.array n et) w)(J:∀w,(sizeOf et).run P w=.ok k w)(g:Nat.ble 2 n=true)
  (z:o.op=.indexAddr t x y:=by exact rfl)(hx:opA env x=.ptr b off:=by exact rfl)(hy:opA env y=.int p i:=by exact rfl):OpV P o env H (.ptr b (off+j*k)):=by
 intro M O σ N a w r;have f:=Qg r x;rw[hx]at f;obtain⟨e,f,G⟩:=f;have s:=Qg r y;rw[hy]at s;have m:a.eval y=.int p i:=s;have F:i=(j:Int):=by simpa using h
 have l:j<n:=by simpa using u
 have B:2<=n:=XV g;subst F;refine⟨.pointer (some ⟨e,off+j*k,none⟩),?_,e,f,rfl⟩;have L:0<=(j:Int)/\(j:Int)<(n:Int):=by omega
 have d:(⟨e,off,none⟩:Addr).add ((j:Int).toNat*k)=⟨e,off+j*k,none⟩:=by
  unfold Addr.add;split
  .rename_i q;simp at q;simp[q]
  .simp
 generalize a.eval=ρ at*;simp[execOp,z,G,m,Instr.indexAt,asIntOf,E,J,Instr.sureAddr,L,d,go_sem,Result.andThen,l]
end
end Go.Sw
namespace Go.Sw
theorem Qnb{P:Program}{W:World}{name:String}{d:DataW Unit}:∀{a:List (String×DataW Unit)} {ps:List MemPlace},DataW.LaidVars P W a ps->(name,d)∈a->
  ∃(g:Nat) (t:TypeId) (cs:Array Value) (b:Nat) (p:List MemPlace),P.globalNamed name=some g/\(P.globals[g]?).map (·.type)=some t/\W.var? P name=some cs/\DataW.trod (λ_=>()) P W 0 (λ_=>true) false b t cs.toList=some (d,p):=by
 intro a
 induction a with
 |nil=>intro ps h f;cases f
 |cons x a m=>
  intro ps h f;obtain⟨g,t,cs,b,p,q,l,k,n,j,i,r⟩:=h;rcases Va.1 f with e|f
  .subst e;exact⟨g,t,cs,b,p,l,k,n,j⟩
  .exact m i f
theorem Yl{P:Program}{W:World}{name:String}{a b:Int}{g t e:Nat}{l i:Field}{d:List (String×DataW Unit)}{ps:List MemPlace}(h:DataW.LaidVars P W d ps)(z:(name,DataW.agg [.lit (.int .i64 a),.lit (.int .i64 b)])∈d)
  (hg:P.globalNamed name=some g)(k:(P.globals[g]?).map (·.type)=some t)(L:P.underlying t=some (.struct #[l,i]))(H:l.type=e)(y:i.type=e)(E:l.offset=0)(J:i.offset=1)(he:P.underlying e=some (.int .i64))(f:P.cellsOf e=1)(m:P.cellsOf t=2):
  W.cell? ⟨g,0,none⟩=some (.int .i64 a)/\W.cell? ⟨g,1,none⟩=some (.int .i64 b):=by
 obtain⟨g',Y,V,u,p,G,Q,s,N⟩:=Qnb h z;obtain rfl:=X4 (hg.symm.trans G);obtain rfl:=X4 (k.symm.trans Q);obtain⟨X,y1,n,F,T,r,q⟩:=Go.ChangeShapes.trod_struct2 L N;rw[H,E,f]at r;rw[y,J,f]at q;obtain⟨R,w,B,_⟩:=DataW.trod_int he r;obtain⟨x,O,M,_⟩:=DataW.trod_int he q;subst B M;have j:a=R/\b=x:=by simpa using congrArg Prod.fst F
 obtain⟨rfl,rfl⟩:=j;rw[World.var?_cell hg s,World.var?_cell hg s];rw[m]at T;constructor
 .have:=congrArg (·[0]?) w;simpa[List.getElem?_take]using this
 .have:=congrArg (·[0]?) O;simpa[List.getElem?_take,List.getElem?_drop]using this
theorem JA{w:World}{g:Nat}{a b:Int}(s:w.cell? ⟨g,0,none⟩=some (.int .i64 a)/\w.cell? ⟨g,1,none⟩=some (.int .i64 b)):∀(zs:List Int),some [a,b]=some zs->∀(i:Nat) (z:Int),zs[i]?=some z->w.cell? ⟨g,i,none⟩=some (.int .i64 z)
 |zs,h,0,z,hi=>by cases h;cases hi;exact s.1
 |zs,h,1,z,hi=>by cases h;cases hi;exact s.2
 |zs,h,i+2,z,hi=>by cases h;simp at hi
end Go.Sw
