/- The rules by which the code is walked, with what they rest on (part 2). -/
import Derived.Test.YtckiejaapddafaaGreatDoorL1
import Derived.Shelf.SlSortCmp.NoneTotal
import Derived.Below
import GoSem.ClaimChange
import Derived.Shelf.Strings.Search3
import Derived.Lib.LazyBuf
import Derived.Shelf.Sort.Plain
import Derived.Shelf.Slices.In.SortNone
import Derived.Shelf.Slices.CompactI
import Derived.RangeFuncIn
import Derived.RangeFuncSeq
import Derived.RangeFuncNested
import Derived.Lib.Bytealg
import Derived.Laws.Externs
import Derived.LaidLaws
import Derived.Lib.LaidTab
import Derived.ChangeArms
import Derived.ChangeSame
set_option linter.unusedVariables false
set_option linter.unusedSectionVars false
set_option linter.unusedSimpArgs false
namespace Go.Sw
def mk{α:Type}(n:Int)(z:α):Option (List α):=bif decide (0<=n)&&decide (n<=4294967296)then some (List.replicate n.toNat z)else none
theorem mk_ok{α:Type}{n:Int}{z:α}{l:List α}(h:mk n z=some l):0<=n/\n<=4294967296/\List.replicate n.toNat z=l:=by
 unfold mk at h;cases q:(decide (0<=n)&&decide (n<=4294967296))with
 |true=>rw[q]at h;simp at q;exact⟨q.1,q.2,X4 h⟩
 |false=>rw[q]at h;cases h
theorem Qgg{α:Type}[Inhabited α](zl:List α)(k:Nat)(hk:zl.length=k)(h0:0<k):∀n,(List.range (n*k)).map (λi=>zl.toArray[i%zl.toArray.size]!)=(List.replicate n zl).flatten
 |0=>by simp
 |n+1=>by
  rw[Xm,List.range_add,Xg,Qgg zl k hk h0 n,List.replicate_succ',Xt];congr 1;simp only[Vq,List.flatten_nil,Vk,List.map_map];apply List.ext_getElem
  .simp[hk]
  .intro i h1 h2;simp only[X6,Xw]at h1;simp only[List.getElem_map,List.getElem_range,Function.comp,List.size_toArray,hk];rw[Nat.mul_comm,Nat.mul_add_mod,Nat.mod_eq_of_lt h1];simp[hk,h1]
section
variable {P:Program} {o:Oper} {env:Env} {H:Qd} {ro:Nat->Prop} {σ:Sig} {w:World}
theorem LR.replicate{az:List A}{l:List Value}(h:LR ro σ w az l):∀n,LR ro σ w (List.replicate n az).flatten (List.replicate n l).flatten
 |0=>rfl
 |n+1=>by
  rw[List.replicate_succ,List.replicate_succ];exact h.append (LR.replicate h n)
theorem QoQ{α:Type}{e:α->List A}{T et k:Nat}{x y:Operand}{M X:IntKind}{n:Int}{zv:α}{l:List α}{z:Value}{a:A}(Y:mk n zv=some l)(E:QT P T et k)(hz:∀w,(zeroValue et).run P w=.ok z w)(ac:ZR a z)
  (hk:Yb a=true)(hc:QZ a=e zv)(hp:(QZ a).all Yj=true)(g:Nat.beq (e zv).length k=true)
  (ho:o.op=.makeSlice T x y:=by exact rfl)(hx:opA env x=.int M n:=by exact rfl)(hy:opA env y=.int X n:=by exact rfl):
  OpH P o env H (.osl H.length 0 l.length k) (H++[.row et k (l.map e)]):=by
 intro fr ro σ N act w r;obtain⟨n0,n1,hl⟩:=mk_ok Y;have V:=Qg r x;rw[hx]at V;have h2:=Qg r y;rw[hy]at h2;have Q:act.eval x=.int M n:=V;have O:act.eval y=.int X n:=h2;obtain⟨i,hi,ak⟩:=E.bytes;obtain⟨d,c1,L⟩:=(ac ro [] w).cells hk;have p:d.length=k:=by
  rw[L.length,hc];exact XU g
 have ai:(if n.toNat*k=0 then(#[]:Array Value)else d.toArray)=d.toArray\/n.toNat*k=0:=by
  by_cases q:n.toNat*k=0
  .exact .inr q
  .exact .inl (Vw q)
 have b:∀(ZZ:Array Value),(ZZ=d.toArray\/n.toNat*k=0)->(Array.range (n.toNat*k)).map (λj=>ZZ[j%ZZ.size]!)=((List.replicate n.toNat d).flatten).toArray:=by
  intro ZZ hZ;by_cases q:n.toNat*k=0
  .rw[q];have:(List.replicate n.toNat d).flatten=[]:=by
    apply VN.1;simp[p,q]
   rw[this];simp
  .obtain rfl:ZZ=d.toArray:=hZ.resolve_right q;have R:0<k:=by
    rcases Nat.eq_zero_or_pos k with h|h
    .rw[h,Nat.mul_zero]at q;exact absurd rfl q
    .exact h
   rw[<- Qgg d k p R n.toNat];simp[XM, <- List.toArray_range]
 have G:=L.replicate n.toNat;have ab:allK k (List.replicate n.toNat (e zv)):=by
  have:∀m,allK k (List.replicate m (e zv)):=by
   intro m
   induction m with
   |zero=>trivial
   |succ m ih=>exact⟨XU g,ih⟩
  exact this _
 have f:∀v∈(List.replicate n.toNat d).flatten,Qq v:=by
  intro v J;obtain⟨m,Y,J⟩:=List.mem_flatten.1 J;rw[List.eq_of_mem_replicate Y]at J;exact L.plain hp v J
 rw[hc]at G;have hs:=r.sim.allocRow (t:=et) (rest:=[]) ab G f;rw[Vk]at hs;have B:l.map e=List.replicate n.toNat (e zv):=by rw[<- hl,List.map_replicate]
 have s:l.length=n.toNat:=by rw[<- hl];simp
 have ae:(w.alloc (.cells ((List.replicate n.toNat d).flatten).toArray et)).shape? w.heap.size=some (et,n.toNat*k):=by
  unfold World.shape?;rw[Q9];simp[p]
 refine⟨.slice (some ⟨w.heap.size,0,none⟩) n.toNat n.toNat,w.alloc (.cells ((List.replicate n.toNat d).flatten).toArray et),ro,[some w.heap.size],?_,?_,B▸hs,Qh.alloc _ r.sim.roLt r.sim.frLt⟩
 .have hw:IntKind.i64.wrap n=n:=by
   unfold IntKind.wrap;simp[IntKind.bits,IntKind.signed];omega
  have aa:∀(x:Nat) (W:World),(askRoom x).run P W=.ok () W:=by
   intro x W;unfold askRoom;split<;>rfl
  have F:∀(c:Array Value) (W:World),(newRow et c).run P W=.ok ⟨W.heap.size,0,none⟩ (W.alloc (.cells c et)):=λc W=>rfl;have af:¬(n<0):=by omega
  have ah:¬((i.bytes:Int)*n>2^48):=by
   have V:(i.bytes:Int)*n<=4096*4294967296:=Int.mul_le_mul (by omega) n1 n0 (by omega);omega
  have u:(Instr.makeSlice T (.int M n) (.int X n)).run P w=.ok (.slice (some ⟨w.heap.size,0,none⟩) n.toNat n.toNat) (w.alloc (.cells ((List.replicate n.toNat d).flatten).toArray et)):=by
   have aj:¬(n>n):=by omega
   have ag:∀(k:IntKind) (m:Int) (W:World),(asInt (.int k m)).run P W=.ok m W:=λk m W=>rfl;unfold Instr.makeSlice;simp only[Vr,E.sl,E.size,hi,Result.andThen,ag,Vs,hw,aa,XL];rw[Vw (by simp[af,ah];omega)];by_cases q:n.toNat*k=0
   .simp only[q,if_true,Vs];have:=b #[] (.inr q);rw[q]at this;simp only[this,F]
   .simp only[q,if_false,hz,Vs,c1,b d.toArray (.inl rfl),F]
  generalize act.eval=ρ at*;simp only[execOp,ho,Q,O,Vr,u,Result.andThen];rfl
 .right;refine⟨w.heap.size,0,n.toNat,et,n.toNat*k,?_,by rw[s],λ_=>by simp,by rw[s];exact XX _,ae,by simp⟩;rw[<- r.sim.len];simp
end
end Go.Sw
namespace Go.Sw
open Go.Sort Go.Proofs Go.Shelf
section
variable {α:Type}
def ins(lt:α->α->Bool)(x:α):List α->List α
 |[]=>[x]
 |y::l=>bif lt y x then y::ins lt x l else x::y::l
def YF(lt:α->α->Bool):List α->List α
 |[]=>[]
 |x::l=>ins lt x (YF lt l)
theorem Qfa(lt:α->α->Bool)(x:α):∀l,(ins lt x l).Perm (x::l)
 |[]=>.refl _
 |y::l=>by
  unfold ins;cases lt y x
  .exact .refl _
  .exact((Qfa lt x l).cons y).trans (List.Perm.swap _ _ _)
theorem Qn(lt:α->α->Bool):∀l,(YF lt l).Perm l
 |[]=>.refl _
 |x::l=>(Qfa lt x _).trans ((Qn lt l).cons x)
structure Qec (lt:α->α->Bool) (l:List α):Prop where
 irrefl:∀x∈l,lt x x=false
 trans:∀x∈l,∀y∈l,∀z∈l,lt x y=true->lt y z=true->lt x z=true
 ntrans:∀x∈l,∀y∈l,∀z∈l,lt x y=false->lt y z=false->lt x z=false
theorem Qec.mono{lt:α->α->Bool}{l m:List α}(h:Qec lt l)(hm:∀x∈m,x∈l):Qec lt m:=
 ⟨λx hx=>h.irrefl x (hm x hx),λx hx y hy z hz=>h.trans x (hm x hx) y (hm y hy) z (hm z hz),λx hx y hy z hz=>h.ntrans x (hm x hx) y (hm y hy) z (hm z hz)⟩
theorem Qec.asymm{lt:α->α->Bool}{l:List α}(h:Qec lt l){x y:α}(b:x∈l)(d:y∈l)(a:lt x y=true):lt y x=false:=by
 cases q:lt y x
 .rfl
 .rw[<- h.irrefl x b,h.trans x b y d x b a q]
theorem Qe9{lt:α->α->Bool}{x:α}:∀{l:List α},Qec lt (x::l)->l.Pairwise (λa b=>lt b a=false)->(ins lt x l).Pairwise (λa b=>lt b a=false)
 |[],_,_=>by simp[ins]
 |y::l,h,hp=>by
  obtain⟨h1,h2⟩:=Xc.1 hp;unfold ins;cases q:lt y x
  .refine Xc.2 ⟨λz hz=>?_,hp⟩;rcases Va.1 hz with rfl|hz
   .exact q
   .exact h.ntrans z (by simp[hz]) y (by simp) x (by simp) (h1 z hz) q
  .refine Xc.2 ⟨λz hz=>?_,Qe9 (h.mono (by intro z hz;rcases Va.1 hz with rfl|hz<;>simp[*])) h2⟩;rcases Va.1 ((Qfa lt x l).mem_iff.1 hz)with rfl|hz
   .exact h.asymm (by simp) (by simp) q
   .exact h1 z hz
theorem QS{lt:α->α->Bool}:∀{l:List α},Qec lt l->(YF lt l).Pairwise (λa b=>lt b a=false)
 |[],_=>by simp[YF]
 |x::l,h=>Qe9 (h.mono (by
   intro z hz;rcases Va.1 hz with rfl|hz
   .simp
   .exact X9 _ ((Qn lt l).mem_iff.1 hz))) (QS (h.mono λz hz=>X9 _ hz))
theorem Jn{lt:α->α->Bool}:∀{l m:List α},l.Perm m->(∀x∈l,∀y∈l,lt x y=false->lt y x=false->x=y)->l.Pairwise (λa b=>lt b a=false)->m.Pairwise (λa b=>lt b a=false)->l=m
 |[],m,h,_,_,_=>by rw[List.nil_perm.1 h]
 |x::l,[],h,_,_,_=>by have:=h.length_eq;simp at this
 |x::l,y::m,h,ha,hl,hm=>by
  obtain⟨l1,l2⟩:=Xc.1 hl;obtain⟨m1,m2⟩:=Xc.1 hm;have hy:y∈x::l:=h.mem_iff.2 (by simp);have hx:x∈y::m:=h.mem_iff.1 (by simp);have hxy:x=y:=by
   rcases Va.1 hy with e|d
   .exact e.symm
   .rcases Va.1 hx with e|i
    .exact e
    .exact ha x (by simp) y (by simp[d]) (m1 x i) (l1 y d)
  subst hxy;rw[Jn ((List.perm_cons x).1 h) (λa f b g=>ha a (by simp[f]) b (by simp[g])) l2 m2]
def ltO(cf:α->α->Option Int)(x y:α):Bool:=match cf x y with
 |some c=>decide (c<0)
 |none=>false
def QiO[DecidableEq α](cf:α->α->Option Int)(l:List α):Bool:=
 l.all λx=> !ltO cf x x&&l.all λy=>(cf x y).isSome&&(ltO cf x y||ltO cf y x||decide (x=y))&&l.all λz=>(!ltO cf x y|| !ltO cf y z||ltO cf x z)&&(ltO cf x y||ltO cf y z|| !ltO cf x z)
def QbN[DecidableEq α](cf:α->α->Option Int)(l:List α):Option (List α):=bif Nat.ble l.length Qy&&QiO cf l then some (YF (ltO cf) l)else none
theorem QcM[DecidableEq α]{cf:α->α->Option Int}{l l':List α}(h:QbN cf l=some l'):
  l.length<=Qy/\(∀x∈l,∀y∈l,∃c,cf x y=some c)/\Qec (ltO cf) l/\(∀x∈l,∀y∈l,ltO cf x y=false->ltO cf y x=false->x=y)/\YF (ltO cf) l=l':=by
 unfold QbN at h;cases g:Nat.ble l.length Qy with
 |false=>rw[g]at h;cases h
 |true=>
 rw[g,VE]at h;cases q:QiO cf l with
 |false=>rw[q]at h;cases h
 |true=>
  rw[q]at h;refine⟨XV g,?_⟩;unfold QiO at q;simp only[Xu,X0,Bool.not_eq_true',Bool.or_eq_true,Vv]at q;refine⟨λx b y d=>Option.isSome_iff_exists.1 ((q x b).2 y d).1.1,⟨λx b=>(q x b).1,λx b y d z i e f=>?_,λx b y d z i e f=>?_⟩,λx b y d e f=>?_,X4 h⟩
  .rcases(((q x b).2 y d).2 z i).1 with(a|a)|a
   .rw[e]at a;cases a
   .rw[f]at a;cases a
   .exact a
  .rcases(((q x b).2 y d).2 z i).2 with(a|a)|a
   .rw[e]at a;cases a
   .rw[f]at a;cases a
   .exact a
  .rcases((q x b).2 y d).1.2 with(a|a)|a
   .rw[e]at a;cases a
   .rw[f]at a;cases a
   .exact a
theorem Qmf[DecidableEq α]{cf:α->α->Option Int}{l:List α}(h:l.length<=Qy)(c:α->α->Int)(m:∀x∈l,∀y∈l,cf x y=some (c x y))(hi:∀x∈l,¬c x x<0)
  (p:∀x∈l,∀y∈l,∀z∈l,c x y<0->c y z<0->c x z<0)(r:∀x∈l,∀y∈l,∀z∈l,¬c x y<0->¬c y z<0->¬c x z<0)(n:∀x∈l,∀y∈l,¬c x y<0->¬c y x<0->x=y):
  QbN cf l=some (YF (ltO cf) l):=by
 have g:∀x∈l,∀y∈l,ltO cf x y=decide (c x y<0):=λx e y f=>by unfold ltO;rw[m x e y f]
 have q:QiO cf l=true:=by
  unfold QiO;simp only[Xu,X0,Bool.not_eq_true',Bool.or_eq_true,Vv];intro x e;refine⟨by rw[g x e x e];simpa using hi x e,λy f=>⟨⟨by rw[m x e y f];rfl,?_⟩,λz i=>?_⟩⟩
  .rw[g x e y f,g y f x e];by_cases j:c x y<0
   .simp[j]
   .by_cases k:c y x<0
    .simp[k]
    .exact .inr (n x e y f j k)
  .rw[g x e y f,g y f z i,g x e z i];have j:=p x e y f z i;have k:=r x e y f z i;by_cases a:c x y<0<;>by_cases b:c y z<0<;>by_cases d:c x z<0<;>simp_all
 unfold QbN;rw[q,XW h];rfl
theorem QaH[DecidableEq α]{cf:α->α->Option Int}{l l':List α}(h:QbN cf l=some l'):l.length=l'.length:=by
 rw[<- (QcM h).2.2.2.2];exact(Qn _ _).length_eq.symm
theorem Yx{l l':List α}{i:Int}{x:α}(h:Qct l i x=some l'):l.length=l'.length:=by
 unfold Qct at h;cases q:(decide (0<=i)&&decide (i<(l.length:Int)))with
 |true=>rw[q]at h;rw[<- X4 h];simp
 |false=>rw[q]at h;cases h
theorem Qo{h0:Nat}{env:Env}{H:Qd}{s:Nat}{a a':A}(h:lk env s=a)(e:a=a'):Le h0 env H (up env s a') H:=by
 intro f d σ N act w r;refine⟨d,σ,⟨r.sim,λb=>?_,r.size,r.defers⟩,λ_ q=>q,rfl⟩;subst e;have:lk (up env s a) b=lk env b:=by
  simp only[lk];cases q:Nat.beq b s with
  |true=>rw[XU q,h];rfl
  |false=>rfl
 rw[this];exact r.env b
end
section
variable {fr ro:Nat->Prop} {σ:Sig} {H:Qd} {w w':World}
theorem Qd7(hh:∀b,b<w.heap.size->w'.heap[b]?=w.heap[b]?)(hro:∀b,ro b->b<w.heap.size)(σ:Sig):Ext ro σ w ro σ w':=
 ⟨λ_ q=>q,λb hb=>hh b (hro b hb),λb x hx=>by unfold World.shape? at hx⊢;rw[hh b (QbO hx)];exact hx,λ_ _ q=>q⟩
theorem Sim.grown(s:Sim fr ro σ H w)(a:∀b,b<w.heap.size->w'.heap[b]?=w.heap[b]?)(g:w.heap.size<=w'.heap.size):Sim fr ro σ H w':=by
 refine⟨s.len,s.roOk.to (λ_ q=>q) (λb q=>a b (s.roLt b q)) (λb h=>Vj (s.roLt b h) g),λb h=>Vj (s.frLt b h) g,s.roFr,λi b x e f n=>?_,s.inj,λi y x e f=>?_,s.hidTo (· = ·) QY g (λ_ _ _ _ _ _ _ q=>q) (λ_ _ _ _ _ _ _ q=>q) λj d y k m r=>.inl ⟨j,y,rfl,k,m,id,λc q=>s.hidKeep k m (λz=>a d (s.own j d y k m z).1) (λb q=>a b (s.roLt b q)) q⟩⟩
 .obtain⟨p,q⟩:=s.own i b x e f n;exact⟨Vj p g,q⟩
 .refine(s.blk i y x e f).keep (Qd7 a s.roLt σ) ?_ ?_
  .rintro b rfl l;exact a b (s.own i b x e f l).1
  .rintro b c rfl l;exact a c (s.hid i b x c e f l).lt
theorem Qh.grown(hh:∀b,b<w.heap.size->w'.heap[b]?=w.heap[b]?)(hs:w.heap.size<=w'.heap.size)(s:Sim fr ro σ H w)(ho:w'.os=w.os)(ht:w'.tape=w.tape)(hu:w'.output=w.output)(hd:w.drawn<=w'.drawn):Qh fr ro w ro w':=
 ⟨λ_ q=>q,λb h=>hh b (s.roLt b h),λb h=>hh b (s.frLt b h),hs,(Qd7 hh s.roLt σ).shape,ho,ht,hu,hd⟩
theorem QkA(h:∀b,b<w.heap.size->w'.heap[b]?=w.heap[b]?)(m:w.heap.size<=w'.heap.size)(j:w'.os=w.os)(e:w'.tape=w.tape)(f:w'.output=w.output)(l:w.drawn<=w'.drawn):
  ∃q os',w'=grow (w.drewN q) os':=by
 refine⟨w'.drawn-w.drawn,w'.heap.extract w.heap.size w'.heap.size,?_⟩;obtain⟨a,s,d,t,r⟩:=w';simp only at h m j e f l;subst j e f;unfold grow World.drewN;have p:a=w.heap++a.extract w.heap.size a.size:=by
  apply Array.ext_getElem?;intro i;rw[Array.getElem?_append];split
  .rename_i g;exact h i g
  .rename_i g;rw[Array.getElem?_extract];split
   .rename_i n;congr 1;omega
   .rename_i n;rw[Array.getElem?_eq_none];omega
 have k:d=w.drawn+(d-w.drawn):=by omega
 rw[<- p, <- k]
end
end Go.Sw
namespace Go.Sw
open Go.Sort Go.Proofs Go.Shelf
theorem Qd5{α:Type}{k:Nat}:∀(vs:List (List α)) (j:Nat),(∀v∈vs,v.length=k)->j<vs.length*k->vs.flatten[j]?=(vs[j/k]?).bind λv=>v[j%k]?
 |[],j,_,h=>by simp at h
 |v::vs,j,hk,h=>by
  have hv:=hk v (by simp);have k0:0<k:=by
   rcases Nat.eq_zero_or_pos k with q|q
   .subst q;simp at h
   .exact q
  rw[Vq];by_cases q:j<k
  .rw[XQ (by omega),Nat.div_eq_of_lt q,Nat.mod_eq_of_lt q];simp
  .rw[XR (by omega),hv,Qd5 vs (j-k) (λv hv=>hk v (by simp[hv])) (by simp[Xm]at h;omega)];have b:j/k=(j-k)/k+1:=by rw[Nat.div_eq_sub_div k0 (by omega)]
   have a:j%k=(j-k)%k:=Nat.mod_eq_sub_mod (by omega);rw[b,a,XJ]
theorem Qao{α:Type}{k:Nat}:∀(vs:List (List α)),(∀v∈vs,v.length=k)->vs.flatten.length=vs.length*k
 |[],_=>by simp
 |v::vs,h=>by rw[Vq,X7,Qao vs (λv hv=>h v (by simp[hv])),h v (by simp),X5,Xm];omega
theorem Qac{α:Type}(F:List α)(j:Nat):F.toArray[j]?=F[j]? :=by simp
theorem Qfd{α:Type}[Inhabited α](F:List α)(j:Nat)(h:j<F.length):F[j]?=some (F.toArray[j]!):=by simp[h]
theorem Qio{β:Type}[Inhabited β]{enc:β->List Value}{k:Nat}(a:∀x,(enc x).length=k)(d:Array β):flatK enc k d=((d.toList.map enc).flatten).toArray:=by
 have f:∀v∈d.toList.map enc,v.length=k:=by
  intro v j;obtain⟨x,_,rfl⟩:=Xf.1 j;exact a x
 apply Array.ext_getElem?;intro t;rw[Qac ((d.toList.map enc).flatten) t];by_cases h:t<d.size*k
 .rw[Qd5 _ t f (by simpa using h)];have l:0<k:=by
   rcases Nat.eq_zero_or_pos k with q|q
   .subst q;simp at h
   .exact q
  have g:t/k<d.size:=Nat.div_lt_of_lt_mul (by rw[Nat.mul_comm];exact h);have i:t%k<k:=Nat.mod_lt _ l;have b:t<(flatK enc k d).size:=by simpa using h
  have e:=get_flatK enc k d t h;rw[getElem!_pos (flatK enc k d) t b]at e;rw[Array.getElem?_eq_getElem b,e];simp[g];rw[XO (by rw[a];exact i)];rfl
 .have e:(d.toList.map enc).flatten.length=d.size*k:=by rw[Qao _ f];simp
  rw[Array.getElem?_eq_none (by simpa using h),XS (by rw[e];omega)]
section
variable {ro:Nat->Prop} {σ:Sig} {w:World} {T:Type} {enc:T->List A} {k:Nat}
theorem RL.parts:∀{l:List T} {lv:List Value},RL ro σ w k (l.map enc) lv->
  ∃(ps:List (T×List Value)) (rest:List Value),ps.map (·.1)=l/\lv=(ps.map (·.2)).flatten++rest/\ ∀p∈ps,p.2.length=k/\LR ro σ w (enc p.1) p.2/\ ∀v∈p.2,Qq v
 |[],lv,_=>⟨[],lv,rfl,rfl,by simp⟩
 |x::l,lv,h=>by
  obtain⟨l1,l2,rfl,h1,⟨h2,h3⟩,h4⟩:=h;obtain⟨ps,rest,e1,rfl,h5⟩:=RL.parts (l:=l) h4;refine⟨(x,l1)::ps,rest,by simp[e1],by simp,?_⟩;intro p hp;rcases Va.1 hp with rfl|hp
  .exact⟨by rw[h2.length];exact h1,h2,h3⟩
  .exact h5 p hp
theorem Qb2(hk:∀x:T,(enc x).length=k):∀{ps:List (T×List Value)} {rest:List Value},(∀p∈ps,LR ro σ w (enc p.1) p.2/\ ∀v∈p.2,Qq v)->RL ro σ w k ((ps.map (·.1)).map enc) ((ps.map (·.2)).flatten++rest)
 |[],_,_=>trivial
 |p::ps,rest,h=>by
  refine⟨p.2,(ps.map (·.2)).flatten++rest,by simp,hk _,h p (by simp),Qb2 hk λq hq=>h q (by simp[hq])⟩
end
structure Elt (ro:Nat->Prop) (w:World) {T:Type} (enc:T->List A) (k:Nat) (l:List T) where
 x:T
 vs:List Value
 mem:x∈l
 len:vs.length=k
 rel:LR ro [] w (enc x) vs
 plain:∀v∈vs,Qq v
theorem Qgh{v:Value}(h:Qq v):v.oneCell'=true:=by cases v<;>first|rfl|exact h.elim
theorem QoU{P:Program}{ρ:Ren}(L:SlLaysF0.n6 P ρ){T:Type}[DecidableEq T]{enc:T->List A}{k t g:Nat}{cap:List A}{l l':List T}{cf:T->T->Option Int}(hs:QbN cf l=some l')
  (bc:∀x y c,cf x y=some c->C P g ([.agg (enc x),.agg (enc y)]++cap) [] (λa H=>a=.int .i64 c/\H=[]))
  (aE:∀w,(isAgg (ρ.t 24)).run P w=.ok true w)(zE:∀w,(Go.sizeOf (ρ.t 24)).run P w=.ok k w)(eg:∀args w,(callFunc g args).run P w=.ok (.enter g args) w)
  (hk:∀x,(enc x).length=k)(hd:Yf cap=true):
  C P (ρ.f 6) [.osl 0 0 l.length k,.fn (.func g) [] cap] [.row t k (l.map enc)] (λa H=>a=.tup []/\H=[.row t k (l'.map enc)]):=by
 intro fr J σ vals w s hv;obtain⟨vs,r1,rfl,bn,vf,r2,rfl,bh,hr⟩:=hv;cases(show r2=[]from hr);obtain⟨lf,lc,rfl,h1,a9⟩:=bh;cases(show lf=[]from h1);have aq:LR J [] w cap lc:=LR.data hd a9;obtain⟨bb,ak,M,an,a2⟩:=QcM hs;have E:∀(ad:Option Addr) (c:Nat),vs=.slice ad 0 c->l=[]->
   Calls P (ρ.f 6) [vs,.func (.func g) #[] lc.toArray].toArray w λe w'=>∃v r H' af τ,e=.returned v/\(r=.tup []/\H'=[.row t k (l'.map enc)])/\Sim fr af (σ++τ) H' w'/\VR af (σ++τ) w' r v/\Qh fr J w af w':=by
  rintro ad c rfl rfl;have ae:l'=[]:=by rw[<- a2];rfl
  subst ae;refine(AnyF.slices_SortFunc_none L ad c (.func (.func g) #[] lc.toArray) w).mono ?_;rintro e w' ⟨rfl,rfl⟩;exact⟨_,_,_,J,[],rfl,⟨rfl,rfl⟩,by simpa using s,⟨[],rfl,rfl⟩,Qh.refl _ _ _⟩
 rcases bn with⟨h0,rfl⟩|⟨b,p,cp,t',m,q1,rfl,q2,q3,q4,q5⟩
 .exact E none 0 rfl (VN.1 h0)
 .by_cases ae:l=[]
  .subst ae;exact E _ cp rfl rfl
  .have bq:0<l.length:=List.length_pos_iff.2 ae;obtain rfl:=q2 (Vj bq q3);obtain⟨lv,e1,e2⟩:=s.blk 0 _ _ q1 rfl;obtain⟨hb,ai,a6⟩:=s.own 0 b _ q1 rfl rfl;obtain⟨V,G,a1,rfl,ah⟩:=RL.parts e2
   let α:=Elt J w enc k l
   have a5:∀p∈V,p.1∈l:=λp hp=>by rw[<- a1];exact VK hp
   let ds:List α:=V.attach.map λp=>⟨p.1.1,p.1.2,a5 _ p.2,(ah _ p.2).1,(ah _ p.2).2.1,(ah _ p.2).2.2⟩
   have a3:∀{γ:Type} (f:T×List Value->γ),V.attach.map (λp=>f p.1)=V.map f:=λf=>by simp
   have R:ds.map (·.x)=l:=by
    show(V.attach.map _).map _=_;rw[List.map_map];exact(a3 (·.1)).trans a1
   have aj:ds.map (·.vs)=V.map (·.2):=by
    show(V.attach.map _).map _=_;rw[List.map_map];exact a3 (·.2)
   have ax:ds.length=l.length:=by rw[<- R];simp
   have a0:ds≠[]:=by intro q;rw[q]at ax;simp at ax;omega
   let inh:Inhabited α:=⟨ds.head a0⟩
   let enc':α->List Value:=λa=>a.vs
   let cf':α->α->Int:=λx y=>(cf x.x y.x).getD 0
   have ac:∀x y:α,ltOf cf' x y=ltO cf x.x y.x:=by
    intro x y;obtain⟨c,B⟩:=ak x.x x.mem y.x y.mem;simp only[ltOf,ltO,cf',B,Option.getD_some]
   have hO:SWO (ltOf cf'):=⟨λx=>by rw[ac];exact M.irrefl _ x.mem,λx y z a b=>by rw[ac]at*;exact M.trans _ x.mem _ y.mem _ z.mem a b,
    λx y z a b=>by rw[ac]at*;exact M.ntrans _ x.mem _ y.mem _ z.mem a b⟩
   have ab:∀x:α,(enc' x).length=k:=λx=>x.len;have aw:flatK enc' k ds.toArray=((V.map (·.2)).flatten).toArray:=by
    rw[Qio ab];show((ds.map λa=>a.vs).flatten).toArray=_;rw[aj]
   have bg:∀v∈V.map (·.2),v.length=k:=by
    intro v hv;obtain⟨p,hp,rfl⟩:=Xf.1 hv;exact(ah p hp).1
   have X:(V.map (·.2)).flatten.length=ds.length*k:=by rw[Qao _ bg, <- aj];simp
   have hH:HoldsK enc' k w b (0*k) ds.toArray:=by
    intro j hj;rw[aw]at hj⊢;simp only[List.size_toArray]at hj;constructor
    .unfold World.cell?;simp only[e1,Option.isSome_none,Xj,if_false,Nat.zero_mul,Xy];rw[Qac,XQ hj];exact Qfd _ _ hj
    .unfold World.frozen?;simp only[e1];simp
   have ay:∀(d:Array α),d.size=ds.toArray.size->(putRowK enc' k w b (0*k) d).heap=w.heap.setIfInBounds b (.cells (((d.toList.map enc').flatten++G)).toArray t (0,0)):=by
    intro d u;have ag:(d.toList.map enc').flatten.length=(V.map (·.2)).flatten.length:=by
     rw[Qao _ (k:=k) (by intro v hv;obtain⟨x,_,rfl⟩:=Xf.1 hv;exact ab x),X];simp at u⊢;rw[u]
    unfold putRowK putRow mapBlock;show w.heap.modify b _=_;rw[Qbe e1];simp only[onCells];congr 2;rw[Qio ab];unfold putCells;apply Array.ext_getElem?;intro i;simp only[Array.getElem?_mapIdx,Qac,Nat.zero_mul,XY,true_and,Xy,Xx,List.size_toArray,id_eq];by_cases hi:i<(d.toList.map enc').flatten.length
    .rw[XQ hi,XQ (by rw[<- ag];exact hi),XO (by rw[<- ag];exact hi),Qfd _ _ hi];exact congrArg some (Vx hi)
    .rw[XR (by omega),XR (by omega),ag];cases(G[i-(V.map (·.2)).flatten.length]?)with
     |none=>rfl
     |some v=>
      rw[<- ag];exact congrArg some (Vw hi)
   have O:∀(m:Nat) (os:Array Obj) (d:Array α),d.size=ds.toArray.size->
     (∀c,c<w.heap.size->c≠b->(sortWorldK enc' k w b (0*k) m d os).heap[c]?=w.heap[c]?)/\(sortWorldK enc' k w b (0*k) m d os).heap[b]?=some (.cells (((d.toList.map enc').flatten++G)).toArray t (0,0))/\
     w.heap.size<=(sortWorldK enc' k w b (0*k) m d os).heap.size:=by
    intro m os d u;have e:(sortWorldK enc' k w b (0*k) m d os).heap=w.heap.setIfInBounds b (.cells (((d.toList.map enc').flatten++G)).toArray t (0,0))++os:=by
     rw[<- ay d u];rfl
    rw[e];refine⟨λc B bk=>?_,?_,by simp⟩
    .rw[Array.getElem?_append_left (by simpa using B),Vi,Vw (λq=>bk q.symm)]
    .rw[Array.getElem?_append_left (by simpa using hb),Vi,Vx rfl,Vx hb]
   have Q:∀(m:Nat) (os:Array Obj) (d:Array α),d.size=ds.toArray.size->∀c y,w.shape? c=some y->(sortWorldK enc' k w b (0*k) m d os).shape? c=some y:=by
    intro m os d u c y hy;obtain⟨g1,g2,g3⟩:=O m os d u;by_cases B:c=b
    .subst B;unfold World.shape? at hy⊢;rw[e1]at hy;rw[g2];simp only[Option.some.injEq]at hy⊢;rw[<- hy];congr 1;simp only[List.size_toArray,X7];rw[Qao _ (k:=k) (by intro v hv;obtain⟨x,_,rfl⟩:=Xf.1 hv;exact ab x),X];simp at u⊢;rw[u]
    .unfold World.shape? at hy⊢;rw[g1 c (QbO hy) B];exact hy
   have al:∀(m:Nat) (os:Array Obj) (d:Array α),d.size=ds.toArray.size->∀τ,Ext J τ w J τ (sortWorldK enc' k w b (0*k) m d os):=by
    intro m os d u τ;obtain⟨g1,g2,g3⟩:=O m os d u;exact⟨λ_ q=>q,λc B=>g1 c (s.roLt c B) (λq=>ai (q▸B)),Q m os d u,λ_ _ q=>q⟩
   have be:CmpLays P g lc.toArray enc' k cf' b (0*k) ds.toArray.size w:=by
    intro m os dk az x y;obtain⟨c,B⟩:=ak x.x x.mem y.x y.mem;have F:=al m os dk az [];have bp:=bc _ _ _ B;generalize hW:sortWorldK enc' k w b (0*k) m dk os=W at*;have bo:w.heap.size<=W.heap.size:=by rw[<- hW];exact(O m os dk az).2.2
    have sW:Sim (λc=>c<W.heap.size/\ ¬J c) J [] [] W:=
     ⟨rfl,s.roOk.to (λ_ q=>q) F.keep (λc B=>Vj (s.roLt c B) bo),λc B=>B.1,λc B hf=>hf.2 B,λi b x h=>by simp at h,λi j b x y h=>by simp at h,λi y x h=>by simp at h,λi b x c h=>by simp at h⟩
    have ao:LR J [] W ([.agg (enc x.x),.agg (enc y.x)]++cap) ([.agg x.vs.toArray,.agg y.vs.toArray]++lc):=
     LR.append (show LR J [] W [A.agg (enc x.x),A.agg (enc y.x)] [Value.agg x.vs.toArray,Value.agg y.vs.toArray]from⟨_,_,rfl,⟨x.vs,rfl,x.rel.mono F⟩,_,_,rfl,⟨y.vs,rfl,y.rel.mono F⟩,rfl⟩) (aq.mono F)
    have N:=bp _ J [] _ W sW ao;have bi:(([Value.agg x.vs.toArray,Value.agg y.vs.toArray]++lc).toArray:Array Value)= #[Value.agg (enc' x).toArray,Value.agg (enc' y).toArray]++lc.toArray:=by simp[enc']
    rw[bi]at N;refine N.mono ?_;rintro e w' ⟨v,r,H',af,τ,rfl,⟨rfl,rfl⟩,s',bd,ev⟩;refine⟨?_,?_⟩
    .rw[show v=.int .i64 c from bd];simp only[cf',B,Option.getD_some]
    .refine QkA (λc B=>?_) ev.size ev.os ev.tape ev.output ev.drawn;by_cases ba:J c
     .exact ev.keepRo c ba
     .exact ev.keepFr c ⟨B,ba⟩
   have Y:ds.toArray.size=l.length:=by simpa using ax
   have am:=AnyQ.slices_SortFunc L k aE zE enc' ab (λx v hv=>Qgh (x.plain v hv)) cf' hO g lc.toArray b (0*k) cp ds.toArray w eg be hH hb (by rw[Y];unfold Qy at bb;omega);rw[Y]at am;refine am.mono ?_;rintro e w' ⟨rfl,d,n,os,aa,ar,rfl⟩;have u:d.size=ds.toArray.size:=aa.1;obtain⟨g1,g2,g3⟩:=O n os d u;have au:d.toList.Perm ds:=by
    have h:=aa.2.2;have x1:d.extract 0 l.length=d:=by rw[<- Y, <- u];exact Array.extract_size
    have x2:ds.toArray.extract 0 l.length=ds.toArray:=by rw[<- Y];exact Array.extract_size
    rw[x1,x2]at h;simpa using h
   have a7:d.toList.map (·.x)=l':=by
    rw[<- a2];refine Jn (lt:=ltO cf) ?_ ?_ ?_ (QS M)
    .exact((au.map (·.x)).trans (by rw[R])).trans (Qn _ _).symm
    .intro x hx y hy;have bf:x∈l:=by rw[<- R];exact(au.map (·.x)).mem_iff.1 hx
     have bj:y∈l:=by rw[<- R];exact(au.map (·.x)).mem_iff.1 hy
     exact an x bf y bj
    .rw[VI];intro i j hi hj bl;simp only[X6]at hi hj;simp only[List.getElem_map];rw[<- ac];have:=ar i j (XY _) bl (by rw[<- Y, <- u];simpa using hj);rw[getElem!_pos d j (by simpa using hj),getElem!_pos d i (by simpa using hi)]at this;simpa using this
   have bm:RL J [] (sortWorldK enc' k w b (0*k) n d os) k (l'.map enc) ((d.toList.map enc').flatten++G):=by
    have e3:d.toList.map enc'=(d.toList.map λa=>(a.x,a.vs)).map (·.2):=by simp[enc']
    have e4:l'=(d.toList.map λa=>(a.x,a.vs)).map (·.1):=by rw[<- a7];simp
    rw[e3,e4];refine Qb2 hk ?_;intro p hp;obtain⟨a,_,rfl⟩:=Xf.1 hp;exact⟨a.rel.mono (al n os d u []),a.plain⟩
   have a4:Qh fr J w J (sortWorldK enc' k w b (0*k) n d os):=
    ⟨λ_ q=>q,λc B=>g1 c (s.roLt c B) (λq=>ai (q▸B)),λc B=>g1 c (s.frLt c B) (λq=>a6 (q▸B)),g3,Q n os d u,rfl,rfl,rfl,Nat.le_add_right _ _⟩
   have av:σ.length=1:=s.len;have a8:Sim fr J σ [.row t k (l'.map enc)] (sortWorldK enc' k w b (0*k) n d os):=by
    have i0:∀{i:Nat} {x:Blk},([.row t k (l'.map enc)]:Qd)[i]?=some x->i=0/\x=.row t k (l'.map enc):=by
     intro i x h;cases i with
     |zero=>simp at h;exact⟨rfl,h.symm⟩
     |succ i=>simp at h
    refine⟨av,s.roOk.to (λ_ q=>q) a4.keepRo (λc B=>Vj (s.roLt c B) g3),λc B=>Vj (s.frLt c B) g3,s.roFr,λi c x h1 h2 h3=>?_,λi j c x y h1 h2 h3 h4 _ _=>?_,λi y x h1 h2=>?_,λi b x c h1 h2 h3=>by obtain⟨rfl,rfl⟩:=i0 h2;exact h3.elim⟩
    .obtain⟨rfl,rfl⟩:=i0 h2;obtain⟨p1,p2⟩:=s.own 0 c _ h1 rfl rfl;exact⟨Vj p1 g3,p2⟩
    .rw[(i0 h3).1,(i0 h4).1]
    .obtain⟨rfl,rfl⟩:=i0 h2;rw[q1]at h1;cases h1;exact⟨_,g2,bm⟩
   exact⟨_,_,_,J,[],rfl,⟨rfl,rfl⟩,by simpa using a8,⟨[],rfl,rfl⟩,a4⟩
end Go.Sw
namespace Go.Sw
section
variable {P:Program} {o:Oper} {env:Env} {H:Qd} {fr ro:Nat->Prop} {σ:Sig} {w:World}
theorem Sim.addRo(s:Sim fr ro σ H w){b:Nat}(z:b<w.heap.size)(r:¬fr b)(E:∀(i:Nat) (x:Blk),σ[i]?=some (some b)->H[i]?=some x->x.live=true->False)
  (g:∀(i d:Nat) (x:Blk),σ[i]?=some (some d)->H[i]?=some x->Hid w x d b->False):Sim fr (λc=>ro c\/c=b) σ H w:=by
 refine⟨s.len,s.roOk.to (λ_ q=>.inl q) (λ_ _=>rfl) ?_,s.frLt,?_,?_,s.inj,?_,s.hidTo (· = ·) QY (XX _) (λj d x c B n p t=>t.elim id λq=>(g j d x B n (q▸p)).elim) (λ_ _ _ _ _ _ _ q=>q) λj d y k u F=>.inl ⟨j,y,rfl,k,u,id,λ_ q=>q⟩⟩
 .rintro c (q|rfl)
  .exact s.roLt c q
  .exact z
 .rintro c (q|rfl)
  .exact s.roFr c q
  .exact r
 .intro i c x a e f;obtain⟨l,m,h⟩:=s.own i c x a e f;refine⟨l,?_,h⟩;rintro(q|rfl)
  .exact m q
  .exact E i x a e f
 .intro i y x a e;exact(s.blk i y x a e).keep ⟨λ_ q=>.inl q,λ_ _=>rfl,λ_ _ q=>q,λ_ _ q=>q⟩ (λ_ _ _=>rfl) (λ_ _ _ _=>rfl)
theorem Yr{T e k n:Nat}{xs:List Operand}{es:List (List A)}(E:QT P T e k)(X:o.op=.buildSlice T n (QaD 0 xs).toArray)(L:xs.length=n)(G:Nat.ble (n*k) 16777216=true)
  (V:(xs.all λx=>Yb (opA env x))=true)(F:Q8 env xs=es)(M:allK k es)(Y:es.flatten.all Yj=true)(W:Yf es.flatten=true):
  OpH P o env H (.rsl k es) H:=by
 intro Q p σ N a w r;subst F;obtain⟨l,O,J⟩:=QaK r E L G V M;have y:LR p [] w (Q8 env xs).flatten l:=J.data W;have f:∀b,b<w.heap.size->(w.alloc (.cells l.toArray e)).heap[b]?=w.heap[b]? :=λb hb=>Yd _ _ b hb;have t:w.heap.size<=(w.alloc (.cells l.toArray e)).heap.size:=by rw[Q6];omega
 have s1:=r.sim.grown f t;have s:Qh Q p w p (w.alloc (.cells l.toArray e)):=Qh.alloc _ r.sim.roLt r.sim.frLt;have R:=s1.addRo (b:=w.heap.size) (by rw[Q6];omega) (λq=>Nat.lt_irrefl _ (r.sim.frLt _ q)) (λi x h j u=>Nat.lt_irrefl _ (r.sim.own i _ x h j u).1)
  (λi d x h j u=>Nat.lt_irrefl _ (r.sim.hid i d x _ h j (r.sim.hidKeep h j (λz=>f d (r.sim.own i d x h j z).1) (λb q=>f b (r.sim.roLt b q)) u)).lt)
 have B:RL p [] (w.alloc (.cells l.toArray e)) k (Q8 env xs) l:=by
  have:=Jr (rest:=[]) M (y.mono (s.ext0 [])) (J.plain Y)
  rwa [Vk]at this
 have g:(Q8 env xs).length=n:=by simp[Q8,L]
 refine⟨_,_,λc=>p c\/c=w.heap.size,[],Qat X a.eval O,?_,by simpa using R,s.trans (YI λ_ q=>.inl q)⟩;refine⟨some ⟨w.heap.size,0,none⟩,n,by rw[g],by rw[g];exact XX _,.inr ⟨w.heap.size,0,rfl,.inr rfl,?_⟩⟩;have m:(w.alloc (.cells l.toArray e)).heap[w.heap.size]?=some (.cells (([]:List Value)++l).toArray e (0,0)):=Q9 _ _;have:=YV (pre:=[]) m B;exact this.keep ⟨λ_ q=>.inl q,λ_ _=>rfl,λ_ _ q=>q,λ_ _ q=>q⟩ rfl
end
inductive Qj7:List A->List A->Prop
 |nil:Qj7 [] []
 |eq {a:A} {l m:List A} (h:Qj7 l m):Qj7 (a::l) (a::m)
 |nl {k:Nat} {l m:List A} (h:Qj7 l m):Qj7 (.nils::l) (.rsl k []::m)
theorem LR.nils{ro:Nat->Prop}{σ:Sig}{w:World}{f g:List A}(h:Qj7 f g):∀{l:List Value},LR ro σ w f l->LR ro σ w g l:=by
 induction h with
 |nil=>intro l h;exact h
 |eq _ ih=>rintro l ⟨v,b,e,a,d⟩;exact⟨v,b,e,a,ih d⟩
 |nl _ ih=>rintro l ⟨v,b,e,a,d⟩;exact⟨v,b,e,⟨none,0,a,XX _,.inl rfl⟩,ih d⟩
theorem C.nils{P:Program}{f:FuncId}{l1 bs:List A}{H:Qd}{Q:A->Qd->Prop}(hl:Qj7 l1 bs)(h:C P f bs H Q):C P f l1 H Q:=
 λfr ro σ vals w s l=>h fr ro σ vals w s (LR.nils hl l)
end Go.Sw
namespace Go.Sw
def Qk(k:IntKind)(n:Int):Prop:=k.min<=n/\n<=k.max
def Qea(w:World):Nat->Prop:=λb=>b<w.heap.size
structure QnS {H:Type} (μ:DataW H->Nat):Prop where
 str:∀bytes,bytes.length<=μ (.lit (.string bytes))
 sl:∀e s,e.length<=μ (.slice e s)
 sle:∀e s,∀d∈e,μ d<=μ (.slice e s)
 ag:∀ps,∀d∈ps,μ d<=μ (.agg ps)
def RB(P:Program)(n:Nat)(t:TypeId)(T:Type)(e:T->List A)(wf:T->Prop):Prop:=
 ∀(H:Type) (enc:TypeId×Value->H) (w:World) (base:Nat) (spare:Nat->Bool) (held:Bool) (m:Nat) (cs:List Value) d,m<n->DataW.trod enc P w base spare held m t cs=some d->
  ∀μ:DataW H->Nat,QnS μ->μ d.1<=1048576->∃x:T,wf x/\LR (Qea w) [] w (e x) cs/\ ∀v∈cs,Qq v
section
variable {P:Program} {n:Nat} {t:TypeId} {T:Type} {e:T->List A} {wf:T->Prop}
theorem RB.down(h:RB P (n+1) t T e wf):RB P n t T e wf:=λH enc w base spare held m cs d hm=>h H enc w base spare held m cs d (Nat.lt_succ_of_lt hm)
theorem Qez(h:∀n,RB P n t T e wf->RB P (n+1) t T e wf):∀n,RB P n t T e wf
 |0=>λH enc w base spare held m cs d hm=>absurd hm (Xn _)
 |n+1=>h n (Qez h n)
theorem QW{T':Type}{b:T'->List A}{a:T'->Prop}(h:RB P n t T e wf)(g:T->T')(he:∀x,b (g x)=e x)(i:∀x,wf x->a (g x)):RB P n t T' b a:=by
 intro H enc w base spare held m cs d hm hd μ hμ hwt;obtain⟨x,f,k,j⟩:=h H enc w base spare held m cs d hm hd μ hμ hwt;exact⟨g x,i x f,by rw[he];exact k,j⟩
theorem RB.int{k:IntKind}(a:P.underlying t=some (.int k)):RB P n t Int (Qf k) (Qk k):=by
 intro H enc w base spare held m cs d hm hd μ hμ hwt;cases m with
 |zero=>simp[DataW.trod]at hd
 |succ m=>
  rcases cs with _|⟨v,_|⟨f,r⟩⟩
  .simp[DataW.trod,a]at hd
  .cases v<;>simp[DataW.trod,a]at hd;rename_i g e;obtain⟨⟨rfl,b⟩,_⟩:=hd;refine⟨e,?_,⟨_,_,rfl,rfl,rfl⟩,by simp[Qq]⟩;simpa[Lit.wf,Qk]using b
  .simp[DataW.trod,a]at hd
theorem RB.bool(a:P.underlying t=some .bool):RB P n t Bool Qa7 (λ_=>True):=by
 intro H enc w base spare held m cs d hm hd μ hμ hwt;cases m with
 |zero=>simp[DataW.trod]at hd
 |succ m=>
  rcases cs with _|⟨v,_|⟨e,r⟩⟩
  .simp[DataW.trod,a]at hd
  .cases v<;>simp[DataW.trod,a]at hd;rename_i b;exact⟨b,trivial,⟨_,_,rfl,rfl,rfl⟩,by simp[Qq]⟩
  .simp[DataW.trod,a]at hd
theorem RB.string(a:P.underlying t=some .string):RB P n t (List UInt8) encS (λs=>s.length<=1048576):=by
 intro H enc w base spare held m cs d hm hd μ hμ hwt;cases m with
 |zero=>simp[DataW.trod]at hd
 |succ m=>
  rcases cs with _|⟨v,_|⟨b,r⟩⟩
  .simp[DataW.trod,a]at hd
  .cases v<;>simp[DataW.trod,a]at hd;rename_i s;obtain⟨_,rfl⟩:=hd;exact⟨s.data.toList,XZ (hμ.str _) hwt,⟨_,_,rfl,rfl,rfl⟩,by simp[Qq]⟩
  .simp[DataW.trod,a]at hd
theorem Qcz{α:Type}{f:Nat->Option α}:∀{n:Nat} {l:List α},(List.range n).mapM f=some l->l.length=n/\ ∀i,i<n->∃y,f i=some y/\l[i]?=some y
 |0,l,h=>by simp at h;subst h;exact⟨rfl,λi hi=>absurd hi (Xn _)⟩
 |n+1,l,h=>by
  rw[List.range_succ,List.mapM_append]at h;cases h1:(List.range n).mapM f with
  |none=>simp[h1]at h
  |some l1=>
   cases h2:f n with
   |none=>simp[h1,h2]at h
   |some y=>
    simp[h1,h2]at h;subst h;obtain⟨e1,e2⟩:=Qcz h1;refine⟨by simp[e1],λi hi=>?_⟩;rcases Xp.1 hi with q|rfl
    .obtain⟨z,z1,z2⟩:=e2 i q;exact⟨z,z1,by rw[XQ (by omega)];exact z2⟩
    .exact⟨y,h2,by rw[XR (by omega)];simp[e1]⟩
theorem Qeg{w:World}{ro:Nat->Prop}{b:Nat}:∀{cs:List A} {l:List Value} {off:Nat},LR ro [] w cs l->(∀v∈l,Qq v)->(∀i,i<l.length->w.cell? ⟨b,off+i,none⟩=l[i]?)->CR ro [] w b cs off
 |[],_,_,_,_,_=>trivial
 |a::cs,l,off,h,hp,hc=>by
  obtain⟨v,l',rfl,h1,h2⟩:=h;refine⟨⟨v,by simpa using hc 0 (by simp),hp v (by simp),h1⟩,Qeg h2 (λv hv=>hp v (by simp[hv])) λi hi=>?_⟩;have:=hc (i+1) (by simpa using hi);rw[show off+1+i=off+(i+1)by omega,this];simp
theorem RB.slice{E:TypeId}{k:Nat}{s:TypeId}(M:P.underlying s=some (.slice E))(hk:P.cellsOf E=k)(h0:Nat.blt 0 k=true)(hl:∀x,(e x).length=k)(h:RB P n E T e wf):
  RB P (n+1) s (List T) (Qni k e) (λl=>l.length<=1048576/\ ∀x∈l,wf x):=by
 intro H enc w base spare held m cs d hm hd μ hμ hwt;have k0:0<k:=by simpa using h0
 cases m with
 |zero=>simp[DataW.trod]at hd
 |succ m=>
  rcases cs with _|⟨v,_|⟨v2,r⟩⟩
  .simp[DataW.trod,M]at hd
  .cases v<;>try (simp[DataW.trod,M]at hd;done)
   rename_i a len t;cases a with
   |none=>
    rcases len with _|len
    .rcases t with _|t
     .refine⟨[],⟨by simp,by simp⟩,⟨_,_,rfl,⟨none,0,rfl,XX _,.inl rfl⟩,rfl⟩,by simp[Qq]⟩
     .simp[DataW.trod,M]at hd
    .simp[DataW.trod,M]at hd
   |some a=>
    simp only[DataW.trod,M]at hd;split at hd
    .rename_i hc;obtain⟨c1,c2,c3⟩:=hc;cases L:(List.range len).mapM (λi=>(w.cells? base (a.add (i*P.cellsOf E)) (P.cellsOf E)).bind (DataW.trod enc P w base spare held m E))with
     |none=>rw[L]at hd;cases hd
     |some f=>
      rw[L]at hd;simp only[XN,Option.map_eq_some_iff]at hd;obtain⟨u,_,rfl⟩:=hd;have F:f.length<=1048576:=by
       have h1:=hμ.sl (f.map (·.1)) (u.map (·.1));rw[X6]at h1;exact XZ h1 hwt
      have W:∀y∈f,μ y.1<=1048576:=λy N=>XZ (hμ.sle _ (u.map (·.1)) _ (VK N)) hwt;obtain⟨e1,e2⟩:=Qcz L;have O:∀i,i<len->∃(x:T) (l:List Value),wf x/\LR (Qea w) [] w (e x) l/\(∀v∈l,Qq v)/\l.length=k/\ ∀j,j<k->w.cell? ((a.add (i*k)).add j)=l[j]? :=by
       intro i X;obtain⟨y,y1,y2⟩:=e2 i X;rw[hk]at y1;cases g:w.cells? base (a.add (i*k)) k with
       |none=>rw[g]at y1;cases y1
       |some l=>
        rw[g]at y1;obtain⟨x,x1,x2,x3⟩:=h H enc w base spare held m l y (by omega) y1 μ hμ (W y (VL y2));refine⟨x,l,x1,x2,x3,by rw[x2.length];exact hl x,λj hj=>?_⟩;unfold World.cells? at g;split at g
        .obtain⟨_,z2⟩:=Qcz g;obtain⟨v,v1,v2⟩:=z2 j hj;rw[v2, <- v1]
        .cases g
      by_cases Q:len=0
      .subst Q;exact⟨[],⟨by simp,by simp⟩,⟨_,_,rfl,⟨some a,t,rfl,XY _,.inl rfl⟩,rfl⟩,by simp[Qq]⟩
      .have first:a.spot=none/\a.block<w.heap.size:=by
        obtain⟨x',l,p1,p2,p3,p4,Y⟩:=O 0 (by omega);have B:=Y 0 k0;have aa:l[0]?=some l[0]:=XO (by omega);have ea:(a.add (0*k)).add 0=a:=by simp[Addr.add]
        rw[aa,ea]at B;unfold World.cell? at B;split at B
        .rename_i hh;constructor
         .cases q:a.spot with
          |none=>rfl
          |some z=>simp[q]at B
         .exact(Vg.1 hh).1
        .cases B
       obtain⟨p,hb⟩:=first
       have V:∀n,a.add n=⟨a.block,a.off+n,none⟩:=by
        intro n;cases a;simp only at p;subst p;unfold Addr.add;split
        .rename_i q;subst q;rfl
        .rfl
       have J:∀(b o n:Nat),(⟨b,o,none⟩:Addr).add n=⟨b,o+n,none⟩:=by
        intro b o n;unfold Addr.add;split
        .rename_i q;subst q;rfl
        .rfl
       have pick:∀q i,len-i=q->i<=len->∃G:List T,G.length=len-i/\(∀x∈G,wf x)/\RR (Qea w) [] w a.block k (G.map e) (a.off+i*k):=by
        intro q
        induction q with
        |zero=>intro i hq X;exact⟨[],by simp[hq],by simp,trivial⟩
        |succ q ih=>
         intro i hq X;obtain⟨G,w1,w2,R⟩:=ih (i+1) (by omega) (by omega);obtain⟨x,l,p1,p2,p3,p4,Y⟩:=O i (by omega);refine⟨x::G,by simp[w1];omega,by intro y N;rcases Va.1 N with rfl|N;exact p1;exact w2 y N,hl x,?_,?_⟩
         .refine Qeg p2 p3 λj hj=>?_;have B:=Y j (by omega);rw[V,J]at B;exact B
         .rw[Xm, <- Nat.add_assoc]at R;exact R
       obtain⟨G,w1,w2,R⟩:=pick len 0 (by omega) (XY _);rw[Nat.zero_mul,Xz]at R;rw[Xx]at w1;refine⟨G,⟨by rw[w1, <- e1];exact F,w2⟩,⟨_,_,rfl,⟨some a,t,by simp[w1],by simp[w1];exact c2,.inr ⟨a.block,a.off,?_,hb,R⟩⟩,rfl⟩,by simp[Qq]⟩;cases a;simp only at p;subst p;rfl
    .cases hd
  .simp[DataW.trod,M]at hd
def RF(P:Program)(n:Nat)(fs:List Field)(off L:Nat)(T:Type)(e:T->List A)(wf:T->Prop):Prop:=
 ∀(H:Type) (enc:TypeId×Value->H) (w:World) (base:Nat) (spare:Nat->Bool) (held:Bool) (m:Nat) (cs:List Value) ds,m<n->cs.length=L->
  fs.mapM (λf=>DataW.trod enc P w base spare held m f.type ((cs.drop f.offset).take (P.cellsOf f.type)))=some ds->
  ∀μ:DataW H->Nat,QnS μ->(∀y∈ds,μ y.1<=1048576)->∃x:T,wf x/\LR (Qea w) [] w (e x) (cs.drop off)/\ ∀v∈cs.drop off,Qq v
theorem RF.nil{L:Nat}:RF P n [] L L Unit (λ_=>[]) (λ_=>True):=by
 intro H enc w base spare held m cs ds hm hl hd μ hμ hwt;have:cs.drop L=[]:=List.drop_eq_nil_of_le (by omega);rw[this];exact⟨(),trivial,rfl,by simp⟩
theorem RF.cons{f:Field}{fs:List Field}{off L k:Nat}{T2:Type}{s:T2->List A}{g:T2->Prop}(J:f.offset=off)(t:P.cellsOf f.type=k)(h:RB P n f.type T e wf)(r:RF P n fs (off+k) L T2 s g):
  RF P n (f::fs) off L (T×T2) (λp=>e p.1++s p.2) (λp=>wf p.1/\g p.2):=by
 intro H enc w base spare held m cs ds hm hl hd μ hμ hwt;rw[List.mapM_cons]at hd;cases a:DataW.trod enc P w base spare held m f.type ((cs.drop f.offset).take (P.cellsOf f.type))with
 |none=>simp[a]at hd
 |some d=>
  cases l:fs.mapM (λf=>DataW.trod enc P w base spare held m f.type ((cs.drop f.offset).take (P.cellsOf f.type)))with
  |none=>simp[a,l]at hd
  |some b=>
   have j:ds=d::b:=by
    rw[a,l]at hd;exact(X4 hd).symm
   subst j;rw[J,t]at a;obtain⟨x,G,z,F⟩:=h H enc w base spare held m _ d hm a μ hμ (hwt d (by simp));obtain⟨y,y1,y2,u⟩:=r H enc w base spare held m cs b hm hl l μ hμ (λy B=>hwt y (by simp[B]));have i:cs.drop off=(cs.drop off).take k++cs.drop (off+k):=by rw[<- List.drop_drop,XC]
   refine⟨(x,y),⟨G,y1⟩,by rw[i];exact z.append y2,?_⟩;rw[i];intro v E;rcases VH.1 E with q|q
   .exact F v q
   .exact u v q
theorem RB.struct{fs:Array Field}{L:Nat}(i:P.underlying t=some (.struct fs))(k:P.cellsOf t=L)(h:RF P n fs.toList 0 L T e wf):RB P (n+1) t T e wf:=by
 intro H enc w base spare held m cs d hm hd μ hμ hwt;cases m with
 |zero=>simp[DataW.trod]at hd
 |succ m=>
  unfold DataW.trod at hd;simp only[i]at hd;split at hd
  .rename_i j;cases a:fs.toList.mapM (λf=>DataW.trod enc P w base spare held m f.type ((cs.drop f.offset).take (P.cellsOf f.type)))with
   |none=>rw[a]at hd;cases hd
   |some g=>
    rw[a]at hd;simp only[Xk,Option.some.injEq]at hd;subst hd;have:=h H enc w base spare held m cs g (by omega) (by rw[j,k]) a μ hμ (λy b=>XZ (hμ.ag _ _ (VK b)) hwt);simpa using this
  .cases hd
end
theorem C.law{P:Program}{f:FuncId}{args:List A}{W:World}{vals:List Value}(h:C P f args [] (λa H=>a=.bool true/\H=[]))(hl:LR (Qea W) [] W args vals)(d:GP W):
  Calls P f vals.toArray W λe W'=>e=.returned (.bool true)/\Go.RowKit.Below W.heap.size W W':=by
 have s:Sim (λ_=>False) (Qea W) [] [] W:=
  ⟨rfl,⟨λ_ h=>h,λb m=>d.size b m,d⟩,λ_ h=>h.elim,λ_ _ h=>h,λi b x h=>by simp at h,λi j b x y h=>by simp at h,λi y x h=>by simp at h,λi b x c h=>by simp at h⟩
 refine(h _ _ _ _ W s hl).mono ?_;rintro e W' ⟨v,r,H',l,τ,rfl,⟨rfl,rfl⟩,_,n,ev⟩;exact⟨by rw[show v=.bool true from n],⟨ev.os,ev.tape,ev.output,ev.size,λk g=>ev.keepRo k g⟩⟩
theorem Qh6{P:Program}{W:World}{a:Nat}{t:TypeId}{v:Value}{fs:Array Field}(b:P.underlying t=some (.struct fs))(h:Value.okWide P W .any a t v):∃cs,v=.agg cs:=by
 unfold Value.okWide at h;rw[b]at h;obtain⟨cs,rfl,_⟩:=h;exact⟨cs,rfl⟩
theorem QeU{P:Program}{W:World}{t:TypeId}{cs:Array Value}{T:Type}{e:T->List A}{wf:T->Prop}{H:Type}{enc:TypeId×Value->H}{b:Nat}{a:Nat->Bool}{held:Bool}{d:DataW H}{ps:List MemPlace}
  (h:∀n,RB P n t T e wf)(i:DataW.Trod enc P W b a held t (.agg cs) d ps){μ:DataW H->Nat}(hμ:QnS μ)(f:μ d<=1048576):∃x:T,wf x/\VR (Qea W) [] W (.agg (e x)) (.agg cs):=by
 obtain⟨m,j⟩:=i;obtain⟨x,g,k,_⟩:=h (m+1) H enc W b a held m _ _ (Xo _) j μ hμ f;exact⟨x,g,cs.toList,by simp,k⟩
theorem Qk4{P:Program}{W:World}{t:TypeId}{a:Option Addr}{len cap:Nat}{T:Type}{e:T->List A}{k:Nat}{wf:List T->Prop}{H:Type}{enc:TypeId×Value->H}{f:Nat}{b:Nat->Bool}{held:Bool}{d:DataW H}{ps:List MemPlace}
  (h:∀n,RB P n t (List T) (Qni k e) wf)(q:DataW.Trod enc P W f b held t (.slice a len cap) d ps){μ:DataW H->Nat}(hμ:QnS μ)(g:μ d<=1048576):∃x:List T,wf x/\VR (Qea W) [] W (.rsl k (x.map e)) (.slice a len cap):=by
 obtain⟨m,p⟩:=q;obtain⟨x,j,⟨v,r,i,l,s⟩,_⟩:=h (m+1) H enc W f b held m _ _ (Xo _) p μ hμ g;refine⟨x,j,?_⟩;have:(Value.slice a len cap).cells.toList=[.slice a len cap]:=rfl;rw[this]at i;cases i;exact l
theorem Qjf{P:Program}{W:World}(h:W.ShapedOpen P){g t u:Nat}{z:Value}(hg:Nat.blt g P.globals.size=true)(l:(((begin P (λ_ _=>0) default).world.heap[g]?).bind Obj.row?)=some (#[z],t))
  (x:P.buildable t=true)(p:P.cellTypes P.depth t=some [u])(s:P.underlying u=some (.int .i64)):∃m:Int,W.cell? ⟨g,0,none⟩=some (.int .i64 m):=by
 obtain⟨d,r,j,w⟩:=h.1 g _ _ (by simpa using hg) l;obtain⟨B,i,_,q⟩:=w x;rw[p]at i;cases i;have E:d.size=1:=j;have a:d[0]?=some d[0]:=Array.getElem?_eq_getElem (by omega);obtain⟨y,e,b⟩:=q 0 _ a;simp at e;subst e;unfold Cell.ok at b;rw[s]at b;cases f:d[0]<;>rw[f]at b<;>simp at b;rename_i k n;obtain⟨rfl,_⟩:=b;refine⟨n,?_⟩;simp only[World.cell?,r];rw[a,f];rfl
end Go.Sw
namespace Go.Sw
theorem Qju{S B:Type}{step:S->Option (Ctl S B)}(d:Nat->S)(b:B)(k:Nat)(h:∀i,i<k->step (d i)=some (.cont (d (i+1))))(f:step (d k)=some (.done b)):∀n,k<n->iter step n (d 0)=some b:=by
 have e:∀m i n,k-i=m->i<=k->m<n->iter step n (d i)=some b:=by
  intro m
  induction m with
  |zero=>
   intro i n g p l;have:i=k:=by omega
   subst this;obtain⟨a,rfl⟩:∃a,n=a+1:=⟨n-1,by omega⟩;simp[iter,f]
  |succ m j=>
   intro i n g p l;obtain⟨a,rfl⟩:∃a,n=a+1:=⟨n-1,by omega⟩;simp only[iter,h i (by omega)];exact j (i+1) a (by omega) (by omega) (by omega)
 intro n q;exact e k 0 n (by omega) (XY _) q
theorem QmU{S B:Type}{step:S->Option (Ctl S B)}(s0:S)(a:Nat->S)(b:B)(k:Nat)(h0:a 0=s0)(f:∀i,i<k->step (a i)=some (.cont (a (i+1))))(e:step (a k)=some (.done b))(n:Nat)(d:k<n):iter step n s0=some b:=by
 rw[<- h0];exact Qju a b k f e n d
theorem YT{α:Type}{l:List α}{i:Nat}{x:α}(h:l[i]?=some x):idx l (i:Int)=some x:=by
 unfold idx;have:decide ((0:Int)<=i)=true:=by simp
 rw[this];simpa using h
theorem Qbz{α:Type}(l:List α)(x:α)(h:l.length<4294967296):app l [x]=some (l++[x]):=by
 unfold app;have:Nat.ble (l.length+[x].length) Qy=true:=by
  apply XW;unfold Qy;simp;omega
 rw[this];rfl
theorem QiR{α:Type}(l m:List α)(h:l.length+m.length<=4294967296):app l m=some (l++m):=by
 unfold app;have:Nat.ble (l.length+m.length) Qy=true:=XW h;rw[this];rfl
theorem Yw{n:Int}(h0: -9223372036854775808<=n)(a:n<=9223372036854775807):IntKind.i64.wrap n=n:=by
 unfold IntKind.wrap;simp[IntKind.bits,IntKind.signed];omega
theorem YY{i:Nat}(h:i<9223372036854775807):IntKind.i64.wrap ((i:Int)+1)=((i+1:Nat):Int):=by
 rw[Yw (by omega) (by omega)];omega
theorem Ys{p:Prop}[Decidable p](h:p):decide p=true:=Vy h
theorem YK{p:Prop}[Decidable p](h:¬p):decide p=false:=VB h
end Go.Sw
namespace Go.Sw
open Go.Proofs Go.Shelf
def cat(a b:List UInt8):Option (List UInt8):=bif Nat.ble (a.length+b.length) 4294967296 then some (a++b)else none
theorem Qp9{a b r:List UInt8}(h:cat a b=some r):a.length+b.length<=4294967296/\a++b=r:=by
 unfold cat at h;cases q:Nat.ble (a.length+b.length) 4294967296 with
 |true=>rw[q]at h;exact⟨XV q,X4 h⟩
 |false=>rw[q]at h;cases h
def Qfc(s t:List UInt8):Option Bool:=bif Nat.blt s.length 4294967281 then some (Lib.contains s t)else none
section
variable {P:Program} {o:Oper} {env:Env} {H:Qd}
theorem QfN{t u:TypeId}{x y:Operand}{p q r:List UInt8}(i:cat p q=some r)(h:o.op=.binOp .add t x y u:=by exact rfl)(hx:opA env x=.str p:=by exact rfl)(hy:opA env y=.str q:=by exact rfl):OpV P o env H (.str r):=by
 intro n s σ N a w rr;obtain⟨m,j⟩:=Qp9 i;have g:=Qg rr x;rw[hx]at g;have f:=Qg rr y;rw[hy]at f;have d:a.eval x=.string ⟨p.toArray⟩:=g;have e:a.eval y=.string ⟨q.toArray⟩:=f;have k:(⟨p.toArray⟩:ByteArray)++⟨q.toArray⟩=⟨r.toArray⟩:=by
  rw[<- j];apply ByteArray.ext;simp
 refine⟨.string ⟨r.toArray⟩,?_,rfl⟩;have b:¬((((⟨p.toArray⟩:ByteArray).size+(⟨q.toArray⟩:ByteArray).size:Nat):Int)>IntKind.i64.max):=by
  have:IntKind.i64.max=9223372036854775807:=by decide
  rw[this];simp only[ByteArray.size,List.size_toArray];omega
 generalize a.eval=ρ at*;have l:(eqGuard BinOp.add t x y (.string ⟨p.toArray⟩) (.string ⟨q.toArray⟩)).run P w=.ok () w:=by simp[eqGuard]
 simp only[execOp,h,d,e,binOp_string_add,Op.stringOp,Vw b,k,Vr,Vs,Result.andThen,l]
def Qek{α:Type}(n:Nat)(l:List α)(i:Int):Option α:=bif Nat.beq l.length n then idx l i else none
theorem Qa1{α:Type}{n:Nat}{l:List α}{i:Int}{x:α}(h:Qek n l i=some x):l.length=n/\idx l i=some x:=by
 unfold Qek at h;cases q:Nat.beq l.length n with
 |true=>rw[q]at h;exact⟨XU q,h⟩
 |false=>rw[q]at h;cases h
def arr{α:Type}(n:Nat)(l:List α):Option (List α):=bif Nat.beq l.length n then some l else none
theorem Jp{α:Type}{n:Nat}{l l':List α}(h:arr n l=some l'):l.length=n/\l=l':=by
 unfold arr at h;cases q:Nat.beq l.length n with
 |true=>rw[q]at h;exact⟨XU q,X4 h⟩
 |false=>rw[q]at h;cases h
theorem Qbx{α:Type}{n:Nat}{l l':List α}(h:arr n l=some l'):l'.length=n:=(Jp h).2▸(Jp h).1
section
variable {α:Type} {e:α->List A} {t et k n b:Nat} {x y:Operand} {l:List α}
theorem Qaj{i:Int}{v:α}{m:IntKind}(h:Qek n l i=some v)(z:∀w,(underlying t).run P w=.ok (.array n et) w)(G:∀w,(sizeOf et).run P w=.ok k w)(u:Nat.ble 2 n=true)
  (B:o.op=.indexAddr t x y:=by exact rfl)(hx:opA env x=.ptr b 0:=by exact rfl)(hy:opA env y=.int m i:=by exact rfl):OpV P o env H (.ptr b (i.toNat*k)):=by
 intro M O σ N a w r;obtain⟨Q,J⟩:=Qa1 h;obtain⟨L,E⟩:=Qas J;have p:i.toNat<l.length:=(XP.1 E).1;have e:=Qg r x;rw[hx]at e;obtain⟨f,e,s⟩:=e;have j:=Qg r y;rw[hy]at j;have g:a.eval y=.int m i:=j;refine⟨.pointer (some ⟨f,i.toNat*k,none⟩),?_,f,e,rfl⟩;have F:0<=i/\i<(n:Int):=by omega
 have d:(⟨f,0,none⟩:Addr).add (i.toNat*k)=⟨f,i.toNat*k,none⟩:=by
  unfold Addr.add;split
  .rename_i q;rw[q]
  .simp
 generalize a.eval=ρ at*;simp[execOp,B,s,g,Instr.indexAt,asIntOf,z,G,Instr.sureAddr,F,d,go_sem,Result.andThen]
theorem QkR{cs:List A}(hH:H[b]?=some (.row t k (l.map e)):=by exact rfl)(hcs:(l.map e).flatten=cs:=by exact rfl):Pts H (.ptr b 0) cs:=by
 intro j n σ w v s h;obtain⟨g,a,d⟩:=h;obtain⟨m,i,f⟩:=s.blk b _ _ a hH;refine⟨g,0,d,?_⟩;have:=(RR.flat (YV (pre:=[]) (by simpa using i) f)).1;subst hcs;exact this.lift
theorem Qin(a:∀x,(e x).length=k)(L:List α):(L.map e).flatten.length=L.length*k:=by
 induction L with
 |nil=>simp
 |cons c L ih=>simp only[Vn,Vq,X7,a c,ih,X5,Xm];omega
theorem Qi0{d:Nat}{l':List α}(h:arr n l=some l')(g:∀x,(e x).length=k)(a:n*k=d)(j:∀w,(isAgg t).run P w=.ok true w)(m:∀w,(sizeOf t).run P w=.ok d w){T:Nat}
  (p:o.op=.load t x:=by exact rfl)(hx:opA env x=.ptr b 0:=by exact rfl)(hH:H[b]?=some (.row T k (l.map e)):=by exact rfl):OpV P o env H (.agg (l'.map e).flatten):=by
 obtain⟨i,rfl⟩:=Jp h;have f:=Qin g l;rw[i,a]at f;exact Qm p j m hx (QkR hH rfl) (VM (by omega)) f
theorem QlH{r:Nat}{n2 T:Nat}(hl:l.length=n)(f:∀x,(e x).length=k)(a:n*k=n2)(h:∀w,(isAgg t).run P w=.ok true w)(g:∀w,(sizeOf t).run P w=.ok n2 w)
  (i:lk env r=.ptr b 0:=by exact rfl)(hH:H[b]?=some (.row T k (l.map e)):=by exact rfl):Qdf P env H (.cell r t) (.agg (l.map e).flatten):=by
 have d:=Qin f l;rw[hl,a]at d;have:=Qee (b:=r) (p:=.ptr b 0) (n:=n2) h g (QkR hH rfl) i (by rw[VM (by omega)];exact d)
 rwa [VM (by omega)]at this
theorem QiS{c:List A}{k:Nat}(h:c.length=k):∀n,allK k (List.replicate n c)
 |0=>trivial
 |n+1=>⟨h,QiS h n⟩
theorem Je{vs:Array Value}{z:α}(q:∀w,(zeroValue t).run P w=.ok (.agg vs) w)(l:(YS (List.replicate n (e z)).flatten).toArray=vs)(m:QeL (List.replicate n (e z)).flatten=true)(i:(List.replicate n (e z)).flatten.all Yj=true)(g:Nat.beq (e z).length k=true)
  (h:o.op=.alloc t:=by exact rfl):OpH P o env H (.ptr H.length 0) (H++[.row t k ((List.replicate n z).map e)]):=by
 intro s f σ N a w r;have d:LR f [] w (List.replicate n (e z)).flatten (YS (List.replicate n (e z)).flatten):=QfV m;have b:=r.sim.allocRow (t:=t) (rest:=[]) (QiS (XU g) n) d (d.plain i);rw[Vk]at b;have j:(List.replicate n z).map e=List.replicate n (e z):=List.map_replicate;refine⟨.pointer (some ⟨w.heap.size,0,none⟩),w.alloc (.cells (YS (List.replicate n (e z)).flatten).toArray t),f,[some w.heap.size],?_,⟨w.heap.size,?_,rfl⟩,j▸b,Qh.alloc _ r.sim.roLt r.sim.frLt⟩
 .generalize a.eval=ρ at*;have p:(newVar t (.agg vs)).run P w=.ok ⟨w.heap.size,0,none⟩ (w.alloc (.cells vs t)):=rfl;rw[l];simp only[execOp,h,Instr.alloc,Vr,q,Result.andThen,p];rfl
 .rw[<- r.sim.len];simp
theorem Jd{T n2:Nat}{l':List α}{vs:List A}(h:l.length=n)(h':l'.length=n)(hk:∀x,(e x).length=k)(u:n*k=n2)(hs:∀w,(sizeOf t).run P w=.ok n2 w)
  (hp:∀x,(e x).all Yj=true)(hd:∀x,Yf (e x)=true)(J:(l'.map e).flatten=vs)
  (ho:o.op=.store t x y:=by exact rfl)(F:opA env x=.ptr b 0:=by exact rfl)(hH:H[b]?=some (.row T k (l.map e)):=by exact rfl)(O:opA env y=.agg vs:=by exact rfl):
  OpU P o env H (H.set b (.row T k (l'.map e))):=by
 intro fr ro σ N a w r;subst J;have d:=Qg r x;rw[F]at d;obtain⟨bb,d,M⟩:=d;have h3:=Qg r y;rw[O]at h3;obtain⟨m,h4,G⟩:=h3;obtain⟨j,q1,q2⟩:=r.sim.blk b _ _ d hH;have s:∀(L:List α),allK k (L.map e):=by
  intro L
  induction L with
  |nil=>trivial
  |cons c L g=>exact⟨hk c,g⟩
 have W:(l'.map e).flatten.length=n2:=by rw[Yu (s l'),X6,h',u]
 have hm:m.length=n2:=by rw[G.length,W]
 have B:∀L:List α,(L.map e).flatten.all Yj=true:=by
  intro L
  induction L with
  |nil=>rfl
  |cons c L g=>simp only[Vn,Vq,List.all_append,hp c,g,Bool.and_self]
 have X:∀E p:List A,Yf E=true->Yf p=true->Yf (E++p)=true:=by
  intro E
  induction E with
  |nil=>intro p _ h;exact h
  |cons c E g=>
   intro p d M;simp only[Yf,X0,VO]at d⊢;exact⟨d.1,g p d.2 M⟩
 have Q:∀L:List α,Yf (L.map e).flatten=true:=by
  intro L
  induction L with
  |nil=>rfl
  |cons c L g=>simp only[Vn,Vq];exact X _ _ (hd c) g
 have Y:n2<=j.length:=by
  have:=q2.length;rw[X6,h,u]at this;exact this
 have i:=Q5 (P:=P) (vs:=m) 0 0 q1 (by omega) (G.plain (B l'));have z:splice j 0 m=m++j.drop n2:=by unfold splice;simp[hm]
 have f:=r.sim.set (x':=.row T k (l'.map e)) (obj:=.cells (splice j 0 m).toArray T (0,0)) d hH rfl
  (λy O=>Qaf q1 (Q4 (by omega)) y O)
  (λex q=>by
   have F:=(G.data (Q l')).mono ex.nil;rw[z]at F q⊢;exact⟨_,q,Jr (s l') F (G.plain (B l'))⟩)
 refine⟨_,ro,[],?_,by simpa using f.1,f.2⟩;generalize a.eval=ρ at*;have R:(ρ y).cells.size=n2:=by rw[h4];simp[Value.cells,hm]
 have V:(storeVar t ⟨bb,0,none⟩ (ρ y)).run P w=.ok () {w with heap:=w.heap.setIfInBounds bb (.cells (splice j 0 m).toArray T (0,0))}:=by
  unfold storeVar;rw[Vr,hs];simp only[Result.andThen];rw[Vw (by simp[R]),h4];have ec:(Value.agg m.toArray).cells.toList=m:=by simp[Value.cells]
  rw[ec];simpa using i
 simp only[execOp,ho,M,Instr.storeAt,Instr.sureAddr,pure_bind,Vr,V];rfl
end
end
theorem C.contains{P:Program}{ρ:Ren}(L:Lays.n144 P ρ)(hg:ρ.g 1=Qlh){s t:List UInt8}{r:Bool}(h:Qfc s t=some r):C P (ρ.f 144) [.str s,.str t] [] (λa H=>a=.bool r/\H=[]):=by
 unfold Qfc at h;cases q:Nat.blt s.length 4294967281 with
 |false=>rw[q]at h;cases h
 |true=>
  rw[q]at h;obtain rfl:=X4 h;intro B y σ vals w sim hv;obtain⟨l,z,rfl,i,b,j,rfl,n,k⟩:=hv;cases(show j=[]from k);obtain⟨m,p⟩:=sim.roOk.gp.max;have u:l=.string ⟨s.toArray⟩:=i;have d:b=.string ⟨t.toArray⟩:=n;subst u d;have x:s.length<4294967281:=by simpa using q
  refine(Any.strings_Contains L ⟨s.toArray⟩ ⟨t.toArray⟩ m w (by simpa[ByteArray.size]using x) (by rw[hg];exact p)).mono ?_;rintro e E ⟨rfl,rfl⟩;exact⟨_,_,_,y,[],rfl,⟨rfl,rfl⟩,by simpa using sim,rfl,Qh.refl _ _ _⟩
section
variable {P:Program} {o:Oper} {env:Env} {H:Qd} {fr ro:Nat->Prop} {σ:Sig} {w:World}
theorem Sim.touch(s:Sim fr ro σ H w){b:Nat}{obj:Obj}(n:¬ro b)(r:¬fr b)(B:∀(i:Nat) (x:Blk),σ[i]?=some (some b)->H[i]?=some x->x.live=true->False)
  (l:∀(i d:Nat) (x:Blk),σ[i]?=some (some d)->H[i]?=some x->Hid w x d b->False)
  (p:∀y,w.shape? b=some y->({w with heap:=w.heap.setIfInBounds b obj}:World).shape? b=some y):
  Sim fr ro σ H {w with heap:=w.heap.setIfInBounds b obj}/\Qh fr ro w ro {w with heap:=w.heap.setIfInBounds b obj}:=by
 have a:∀c,c≠b->({w with heap:=w.heap.setIfInBounds b obj}:World).heap[c]?=w.heap[c]? :=by
  intro c E;show(w.heap.setIfInBounds b obj)[c]?=_;rw[Vi,Vw (λq=>E q.symm)]
 have f:({w with heap:=w.heap.setIfInBounds b obj}:World).heap.size=w.heap.size:=by simp
 have ev:Qh fr ro w ro {w with heap:=w.heap.setIfInBounds b obj}:=
  ⟨λ_ h=>h,λc h=>a c (λq=>n (q▸h)),λc h=>a c (λq=>r (q▸h)),by rw[f];exact XX _,by
   intro c y h;by_cases q:c=b
   .subst q;exact p y h
   .unfold World.shape? at h⊢;rw[a c q];exact h,rfl,rfl,rfl,XX _⟩
 refine⟨⟨s.len,s.roOk.to (λ_ q=>q) ev.keepRo (λc h=>by rw[f];exact s.roLt c h),λc h=>by rw[f];exact s.frLt c h,s.roFr,?_,s.inj,?_,s.hidTo (· = ·) QY (by rw[f];exact XX _) (λ_ _ _ _ _ _ _ q=>q) (λ_ _ _ _ _ _ _ q=>q) λj d y m u G=>.inl ⟨j,y,rfl,m,u,id,λc q=>s.hidKeep m u (λz=>a d (λe=>B j y (e▸m) u z)) ev.keepRo q⟩⟩,ev⟩
 .intro i c x g k F;rw[f];exact s.own i c x g k F
 .intro i y x g k;refine(s.blk i y x g k).keep (ev.ext0 σ) ?_ ?_
  .rintro c rfl t;exact a c (λq=>by subst q;exact B i x g k t)
  .rintro d c rfl t;exact a c (λq=>l i d x g k (q▸t))
theorem QlU{T E i n t:Nat}{x:Operand}{es:List (List A)}(ht:P.underlying T=some (.slice E))(hE:P.underlying E=some (.int .u8))(hn:es.length=n)(h0:Nat.blt 0 n=true)
  (ho:o.op=.convert T T x:=by exact rfl)(hx:opA env x=.osl i 0 n 1:=by exact rfl)(hH:H[i]?=some (.row t 1 es):=by exact rfl):
  OpH P o env H (.rsl 1 es) (H.set i .dead):=by
 intro fr O σ N a w r;subst hn;have B:=Qg r x;rw[hx]at B;rcases B with⟨hz,_⟩|⟨b,p,G,t',m,B,h2,h6,h3,h4,h5⟩
 .rw[hz]at h0;simp at h0
 .have aa:0<es.length:=by simpa using h0
  obtain rfl:=h6 (by omega);obtain⟨R,J,h⟩:=r.sim.own i b _ B hH rfl;obtain⟨l,Y,q2⟩:=r.sim.blk i _ _ B hH;have s1:=r.sim.kill i;have g:∀(j:Nat) (y:Blk),σ[j]?=some (some b)->(H.set i .dead)[j]?=some y->y.live=true->False:=by
   intro j y F f u;by_cases q:j=i
   .subst q;rw[Xb]at f;simp only[if_true]at f;split at f
    .cases f;simp[Blk.live]at u
    .simp at f
   .rw[XT (λz=>q z.symm)]at f;exact q (r.sim.inj j i b y _ F B f hH u rfl)
  have M:∀(j d:Nat) (y:Blk),σ[j]?=some (some d)->(H.set i .dead)[j]?=some y->Hid w y d b->False:=by
   intro j d y F f u;by_cases q:j=i
   .subst q;rw[Xb]at f;simp only[if_true]at f;split at f
    .cases f;exact u.elim
    .simp at f
   .rw[XT (λz=>q z.symm)]at f;exact(r.sim.hid j d y b F f u).ne i b _ B hH rfl rfl
  let fz:Nat×Nat:=(l.length,l.length+1)
  have W:∀y,w.shape? b=some y->({w with heap:=w.heap.setIfInBounds b (.cells l.toArray t fz)}:World).shape? b=some y:=by
   intro y Q;unfold World.shape? at Q⊢;rw[Y]at Q;have e:(w.heap.setIfInBounds b (.cells l.toArray t fz))[b]?=some (.cells l.toArray t fz):=by rw[Vi,Vx rfl,Vx R]
   simp only[e];exact Q
  obtain⟨s2,k⟩:=s1.touch (obj:=.cells l.toArray t fz) J h g M W;have s3:=s2.addRo (b:=b) (by simpa using R) h g (λj d y F f u=>M j d y F f (s1.hidKeep F f (λz=>by
   show(w.heap.setIfInBounds b _)[d]?=_;rw[Vi,Vw (λe:b=d=>g j y (by rw[e];exact F) f z)]) k.keepRo u))
  have s:({w with heap:=w.heap.setIfInBounds b (.cells l.toArray t fz)}:World).heap[b]?=some (.cells (([]:List Value)++l).toArray t fz):=by
   show(w.heap.setIfInBounds b _)[b]?=_;rw[Vi,Vx rfl,Vx R];rfl
  have L:Ext O [] w O [] {w with heap:=w.heap.setIfInBounds b (.cells l.toArray t fz)}:=k.ext0 [];refine⟨.slice (some ⟨b,0*1,none⟩) es.length G,_,λc=>O c\/c=b,[],?_,?_,by simpa using s3,k.trans (YI λ_ q=>.inl q)⟩
  .have hf:w.freeze ⟨b,l.length,none⟩ 1={w with heap:=w.heap.setIfInBounds b (.cells l.toArray t fz)}:=by
    unfold World.freeze;simp only[Nat.one_ne_zero,if_false];rw[Qbe Y];rfl
   have X:(markStringish ⟨b,0*1,none⟩).run P w=.ok () {w with heap:=w.heap.setIfInBounds b (.cells l.toArray t fz)}:=by
    rw[<- hf];unfold markStringish;simp[shape,freeze,Sem.run,World.shape?,Y,Result.andThen]
   have hu:∀w,(underlying T).run P w=.ok (.slice E) w:=run_underlying ht;have V:∀w,(underlying E).run P w=.ok (.int .u8) w:=run_underlying hE;generalize a.eval=ρ at*;simp only[execOp,ho,h2,convert,Vr,hu,V,Result.andThen,beq_self_eq_true,X,Vs]
  .refine⟨some ⟨b,0*1,none⟩,G,rfl,h3,.inr ⟨b,0*1,rfl,.inr rfl,?_⟩⟩;have:=YV (pre:=[]) s (q2.mono L);exact(by simpa using this:RR O [] _ b 1 es (0*1)).keep ⟨λ_ q=>.inl q,λ_ _=>rfl,λ_ _ q=>q,λ_ _ q=>q⟩ rfl
end
mutual
theorem Qdt(ρ:Nat->Nat):∀{a:A},Yn a=true->Yz ρ a=a
 |.any,_=>rfl
 |.bool _,_=>rfl
 |.int _ _,_=>rfl
 |.str _,_=>rfl
 |.nilp,_=>rfl
 |.ptr _ _,h=>by simp[Yn]at h
 |.rp _,_=>rfl
 |.nils,_=>rfl
 |.rsl _ _,_=>rfl
 |.osl _ _ _ _,h=>by simp[Yn]at h
 |.agg cs,h=>by simp only[Yn]at h;simp only[Yz,Qag ρ h]
 |.fn f a c,h=>by simp only[Yn,X0]at h;simp only[Yz,Qag ρ h.1,Qag ρ h.2]
 |.nilf,_=>rfl
 |.iface t a,h=>by simp only[Yn]at h;simp only[Yz,Qdt ρ h]
 |.nilif,_=>rfl
 |.map _,h=>by simp[Yn]at h
 |.nilm,_=>rfl
 |.tup vs,h=>by simp only[Yn]at h;simp only[Yz,Qag ρ h]
theorem Qag(ρ:Nat->Nat):∀{l:List A},Yf l=true->Qaa ρ l=l
 |[],_=>rfl
 |a::l,h=>by simp only[Yf,X0]at h;simp only[Qaa,Qdt ρ h.1,Qag ρ h.2]
end
theorem Qgq{α:Type}{e:α->List A}(b:∀x,Yf (e x)=true):∀L:List α,Yf (L.map e).flatten=true
 |[]=>rfl
 |c::L=>by
  have hdt:∀cs ds:List A,Yf cs=true->Yf ds=true->Yf (cs++ds)=true:=by
   intro cs
   induction cs with
   |nil=>intro ds _ h;exact h
   |cons c cs d=>
    intro ds a f;simp only[Yf,X0,VO]at a⊢;exact⟨a.1,d ds a.2 f⟩
  simp only[Vn,Vq];exact hdt _ _ (b c) (Qgq b L)
theorem Qoe{α:Type}{e:α->List A}(hd:∀x,Yf (e x)=true)(ρ:Nat->Nat)(l:List α):Yz ρ (.agg (l.map e).flatten)=.agg (l.map e).flatten:=
 Qdt ρ (by simp only[Yn];exact Qgq hd l)
end Go.Sw
namespace Go.Sw
section
variable {P:Program} {o:Oper} {env:Env} {H:Qd}
theorem QeA{c:Call}{f T:Nat}{x:Operand}{xs:List Operand}{n:Array TypeId}{name:String}{v:A}{args:List A}(b:∀(a:Array Value) (w:World),(callFunc f a).run P w=.ok (.enter f a) w)(i:o.op=.call c)
  (j:c={callee:=.invoke x name,args:=xs.toArray,argTypes:=n})(p:opA env x=.iface T v)(hargs:v::xs.map (opA env)=args)
  (k:∀(u:Value) (w:World),(method (P.types.size+Made.depth) T u name).run P w=.ok (f,u) w):OpC P o env H f args:=by
 intro q s σ N a w r;have d:=Qg r x;rw[p]at d;obtain⟨u,d,m⟩:=d;refine⟨u::xs.map a.eval,?_,hargs▸⟨u,xs.map a.eval,rfl,m,Qbm r xs⟩⟩;subst j;generalize a.eval=ρ at*;have e:(#[ρ x]++(xs.toArray.map ρ):Array Value)=(.iface T u::xs.map ρ).toArray:=by rw[d];simp
 have h:((.iface T u::xs.map ρ).toArray.extract 1 (.iface T u::xs.map ρ).toArray.size:Array Value)=(xs.map ρ).toArray:=by
  simp[VM]
 have g:∀l:Array Value,(callMethod (.iface T u) name l).run P w=.ok (.enter f (#[u]++l)) w:=by
  intro l;simp only[callMethod,Vr,run_program,Result.andThen,k,b]
 simp only[execOp,i,resolve,e,invoke,Vr,Vs,Result.andThen];simp only[XK,XI,h,g];simp
theorem QbD{T I:Nat}{x:Operand}{v:A}{d:TypeDesc}(e:∀w,(underlying T).run P w=.ok d w)(g:∀m,d≠ .interface m)(f:o.op=.typeAssert x I T true:=by exact rfl)(hx:opA env x=.iface T v:=by exact rfl):
  OpV P o env H (.tup [v,.bool true]):=by
 intro j i σ N a w r;have b:=Qg r x;rw[hx]at b;obtain⟨u,b,h⟩:=b;refine⟨.tuple #[u,.bool true],?_,[u,.bool true],rfl,_,_,rfl,h,_,_,rfl,rfl,rfl⟩;generalize a.eval=ρ at*;cases d<;>first|(simp[execOp,f,b,Instr.typeAssert,e,go_sem];done)|exact(g _ rfl).elim
theorem QhA{T T' I:Nat}{x:Operand}{v z:A}{zv:Value}{d:TypeDesc}(i:∀w,(underlying T).run P w=.ok d w)(g:∀m,d≠ .interface m)(b:Nat.beq T' T=false)(k:∀w,(zeroValue T).run P w=.ok zv w)(f:ZR z zv)
  (h:o.op=.typeAssert x I T true:=by exact rfl)(hx:opA env x=.iface T' v:=by exact rfl):
  OpV P o env H (.tup [z,.bool false]):=by
 intro l p σ N a w r;have e:=Qg r x;rw[hx]at e;obtain⟨u,e,n⟩:=e;have j:T'≠T:=λq=>by rw[q,VJ]at b;cases b
 refine⟨.tuple #[zv,.bool false],?_,[zv,.bool false],rfl,_,_,rfl,f _ _ _,_,_,rfl,rfl,rfl⟩;generalize a.eval=ρ at*;cases d<;>first|(simp[execOp,h,e,Instr.typeAssert,i,j,k,go_sem];done)|exact(g _ rfl).elim
end
def TL(P:Program)(h0 N:Nat)(c:Code)(env:Env)(H:Qd)(Q:QB):Prop:=
 ∀rd fr ro σ a w,Rel fr ro σ H env N a w->Qem rd fr w->∀(b:Frame) (k:List Item) (cs:List Frame),b.roundOf=(WF rd).round->(WF rd).fn b.fn->(WF rd).room (cs.length+1+0)->∃e a' w',QaQ h0 fr ro σ w N a.defers Q e a' w'/\ArrivesIn (Machine.fenced P (WF rd)) P (lone (b.atR a (.code c::.inLoop c::k)) cs w) b k cs e a' w'
def QjV(P:Program)(h0 N:Nat)(c:Code)(Q:QB):QB
 |.normal,env,H=>TL P h0 N c env H Q
 |.exit id,env,H=>Q (.exit id) env H
 |.ret,env,H=>Q .ret env H
section
variable {P:Program} {h0 N:Nat} {c:Code} {env:Env} {H:Qd} {Q:QB}
theorem QnG(h:TL P h0 N c env H Q):TC P h0 N (.loop c) env H Q:=by
 intro g f m σ a w r hrd b k cs hro hb hr;obtain⟨e,j,i,l,d⟩:=h g f m σ a w r hrd b k cs hro hb hr;exact⟨e,j,i,l,.of_steps (.one (fenced_calm hb hr rfl) stepR_loop) d⟩
theorem TL.round(h:TC P h0 N c env H (QjV P h0 N c Q)):TL P h0 N c env H Q:=by
 intro z F G σ a w r hrd b k cs hro hb hr;obtain⟨e,l,m,M,d⟩:=h z F G σ a w r hrd b (.inLoop c::k) cs hro hb hr;obtain⟨x,f,H',j,σ',i,n,p,y,s,E,t⟩:=M;have B:∀x,Q x f H'->ExR e x->QaQ h0 F G σ w N a.defers Q e l m:=λx q O=>⟨x,f,H',j,σ',i,O,q,y,s,E,t⟩;cases e with
 |normal=>
  obtain rfl:x=.normal:=n;obtain⟨J,L,w2,u,g⟩:=p z i j σ' l m y (hrd.to s t.sub) b k cs hro hb hr;exact⟨J,L,w2,u.grow s E t,.of_steps (StepsIn.trans d (.one (fenced_calm hb hr rfl) stepR_inLoop)) g⟩
 |exit id=>
  obtain rfl:x=.exit id:=n;exact⟨_,l,m,B _ p rfl,.pass (x:=.inLoop c) rfl (λ_ _=>.inl (by simp)) d⟩
 |ret=>
  obtain rfl:x=.ret:=n;exact⟨_,l,m,B _ p rfl,.pass (x:=.inLoop c) rfl (λ_ _=>.inl (by simp)) d⟩
 |_=>exact n.elim
theorem unrN(h:TC P h0 N c env H (QjV P h0 N c Q)):QjV P h0 N c Q .normal env H:=TL.round h
theorem unrX{id:Nat}(h:Q (.exit id) env H):QjV P h0 N c Q (.exit id) env H:=h
theorem unrR(h:Q .ret env H):QjV P h0 N c Q .ret env H:=h
theorem QlD(h:TC P h0 N c env H (QjV P h0 N c Q)):TC P h0 N (.loop c) env H Q:=QnG (TL.round h)
end
section
variable {P:Program} {o:Oper} {env:Env} {H:Qd}
theorem OpV.ixL{t et k b n j:Nat}{x y:Operand}{g:IntKind}{i:Int}(d:Nat.blt j n=true)(hi:i=(j:Int))(e:∀w,(underlying t).run P w=.ok (.slice et) w)(a:∀w,(sizeOf et).run P w=.ok k w)
  (f:o.op=.indexAddr t x y:=by exact rfl)(hx:opA env x=.osl b 0 n k:=by exact rfl)(hy:opA env y=.int g i:=by exact rfl):OpV P o env H (.ptr b (j*k)):=by
 subst hi;have h:=QhB (H:=H) f e a hx hy (by omega) (by simpa using d)
 rwa [Int.toNat_natCast,Nat.zero_mul,Xy]at h
end
theorem QfL{ro:Nat->Prop}{σ:Sig}{w:World}{k:Nat}:∀{es:List (List A)} {l l':List Value},RL ro σ w k es l->l.take (es.length*k)=l'.take (es.length*k)->RL ro σ w k es l'
 |[],_,_,_,_=>trivial
 |c::es,l,l',h,hp=>by
  obtain⟨l1,l2,rfl,h1,h2,h3⟩:=h;have hl1:l1.length=k:=by rw[h2.1.length];exact h1
  have a:l'.take k=l1:=by
   have:=congrArg (List.take k) hp;simp only[List.take_take,X5,Xm]at this;rw[XE (by omega)]at this;rw[<- this, <- hl1];simp
  refine⟨l1,l'.drop k,by rw[<- a,XC],h1,h2,QfL h3 ?_⟩;have:=congrArg (List.drop k) hp;simp only[X5,Xm,List.drop_take]at this;rw[show es.length*k+k-k=es.length*k by omega]at this;rw[<- this, <- hl1];simp
section
variable {P:Program} {o:Oper} {env:Env} {H:Qd}
theorem Qf5{c:Call}{T et k b s n t:Nat}{x:Operand}{es es':List (List A)}{z:Value}(ht:P.underlying T=some (.slice et))(hz:∀w,(zeroValue et).run P w=.ok z w)(J:z.cells.size=k)(M:∀v∈z.cells,Qq v)
  (Q:es.take s=es')(hb:s+n=es.length)(ho:o.op=.call c:=by exact rfl)(hc:c={callee:=.builtin .clear,args:= #[x],argTypes:= #[T]}:=by exact rfl)
  (hx:opA env x=.osl b s n k:=by exact rfl)(hH:H[b]?=some (.row t k es):=by exact rfl):OpH P o env H (.tup []) (H.set b (.row t k es')):=by
 intro W G σ N a w r;subst Q hc;have L:∀w,(underlying T).run P w=.ok (.slice et) w:=run_underlying ht;have h:=Qg r x;rw[hx]at h;have j:Sim W G σ (H.set b (.row t k (es.take s))) w:=by
  refine r.sim.weaken hH rfl ?_;intro y E;cases y with
  |none=>rw[show es=[]from E];simp[BR]
  |some bb=>obtain⟨l,g1,g2⟩:=E;exact⟨l,g1,RL.take s g2⟩
 have f:∀v,a.eval x=v->(Builtin.clear_ #[T] o.type #[v]).run P w=.ok (.tuple #[]) w->
   ∃v w' ro' τ,(execOp a.eval o).run P w=.ok (.value v) w'/\VR ro' (σ++τ) w' (.tup []) v/\Sim W ro' (σ++τ) (H.set b (.row t k (es.take s))) w'/\Qh W G w ro' w':=by
  intro v F d;refine⟨.tuple #[],w,G,[],?_,⟨[],rfl,rfl⟩,by simpa using j,Qh.refl _ _ _⟩;generalize a.eval=ρ at*;simp only[execOp,ho,resolve,Vr,Vs,Result.andThen,invoke,builtin,XM,Vn,Vp,F,d]
 rcases h with⟨hn,h⟩|⟨bb,p,R,t',m,h,h2,h3,h4,h5,h6⟩
 .refine f _ h ?_;simp[Builtin.clear_,L,Result.andThen]
 .by_cases hn:n=0
  .subst hn;refine f _ h2 ?_;simp[Builtin.clear_,L,Result.andThen]
  .obtain rfl:=h3 (by omega);obtain⟨l,q1,q2⟩:=r.sim.blk b _ _ h hH;have aa:=q2.length
   let vs:=(Builtin.zeroCells z.cells n).toList
   have ab:vs.length=n*k:=by simp[vs,Builtin.zeroCells,J]
   have O:∀v∈vs,Qq v:=by
    intro v F;simp only[vs,Builtin.zeroCells,Array.toList_map,Xf,Array.toList_range,List.mem_range]at F;obtain⟨i,hi,rfl⟩:=F;have B:0<z.cells.size:=by
     rcases Nat.eq_zero_or_pos z.cells.size with q|q
     .rw[q,Nat.mul_zero]at hi;omega
     .exact q
    have u:i%z.cells.size<z.cells.size:=Nat.mod_lt _ B;rw[getElem!_pos z.cells _ u];exact M _ (Array.getElem_mem u)
   have ac:s*k+n*k=es.length*k:=by rw[<- XD,hb]
   have d:=Q5 (P:=P) (vs:=vs) (s*k) 0 q1 (by omega) O;have g:=r.sim.set (x':=.row t k (es.take s)) (obj:=.cells (splice l (s*k) vs).toArray t (0,0)) h hH rfl
    (λy E=>Qaf q1 (Q4 (by omega)) y E)
    (λex Y=>⟨_,Y,by
     refine(QfL (RL.take s q2) ?_).mono ex.nil;have hl:(es.take s).length*k<=s*k:=XF k (by simp;omega);have V:(es.take s).length*k<=(l.take (s*k)).length:=by rw[XA (i:=s*k),XE (by omega)];exact hl
     have e:=Vb (l₂:=vs++l.drop (s*k+vs.length)) V;unfold splice;rw[Vm,e,List.take_take,XE hl]⟩)
   refine⟨.tuple #[],_,G,[],?_,⟨[],rfl,rfl⟩,by simpa using g.1,g.2⟩;have X:(Builtin.clear_ #[T] o.type #[.slice (some ⟨bb,s*k,none⟩) n R]).run P w=.ok (.tuple #[]) {w with heap:=w.heap.setIfInBounds bb (.cells (splice l (s*k) vs).toArray t (0,0))}:=by
    obtain⟨n',rfl⟩:∃n',n=n'+1:=⟨n-1,by omega⟩;simp only[Xz]at d;simp only[Builtin.clear_,XK,XI,Vr,L,hz,Result.andThen,d,Vs,vs]
   generalize a.eval=ρ at*;simp only[execOp,ho,resolve,Vr,Vs,Result.andThen,invoke,builtin,XM,Vn,Vp,h2,X]
end
def isNil{α R:Type}[DecidableEq R](l:List α)(x y:Option R):Option R:=bif l.isEmpty then(bif decide (x=y)then x else none)else y
theorem Qie{α R:Type}[DecidableEq R]{l:List α}{x y:Option R}{r:R}(h:isNil l x y=some r)(b:Bool)(f:l≠[]->b=false):(b=true->x=some r)/\(b=false->y=some r):=by
 unfold isNil at h;cases q:l.isEmpty with
 |true=>
  rw[q]at h;by_cases a:x=y
  .subst a;simp at h;exact⟨λ_=>h,λ_=>h⟩
  .simp[a]at h
 |false=>
  rw[q]at h;have d:l≠[]:=by rintro rfl;cases q
  refine⟨λe=>?_,λ_=>h⟩;rw[f d]at e;cases e
section
variable {P:Program} {o:Oper} {env:Env} {H:Qd} {h0 N:Nat} {Q:QB}
theorem QlV{α:Type}{e:α->List A}{T E k:Nat}{u:TypeId}{x:Operand}{l:List α}(j:P.underlying T=some (.slice E))(i:o.op=.binOp .eql T x (.const (.slice none 0 0)) u)(q:opA env x=.rsl k (l.map e)):
  OpE P o env H (λv H'=>∃b:Bool,v=.bool b/\(l≠[]->b=false)/\H'=H):=by
 intro t m σ N a w r;have g:=Qg r x;rw[q]at g;obtain⟨ad,f,g,y,d⟩:=g;refine⟨.bool ad.isNone,H,.bool ad.isNone,w,m,[],⟨ad.isNone,rfl,λp=>?_,rfl⟩,?_,rfl,by simpa using r.sim,Qh.refl _ _ _⟩
 .rcases d with d|⟨b,s,d,_⟩
  .exact absurd (List.map_eq_nil_iff.1 d) p
  .rw[d];rfl
 .have h:a.eval (.const (.slice none 0 0))=.slice none 0 0:=rfl;generalize a.eval=ρ at*;have n:(eqGuard .eql T x (.const (.slice none 0 0)) (.slice ad (l.map e).length f) (.slice none 0 0)).run P w=.ok () w:=by simp[eqGuard]
  simp only[execOp,i,g,h,Vr,n,Result.andThen,Go.run_eql_slice_nil w T E ad _ f j,Vs]
theorem QiT{α:Type}{e:α->List A}{T E k d:Nat}{u:TypeId}{x:Operand}{l:List α}{all:Array Oper}{L:List Oper}(a:P.underlying T=some (.slice E))(h:opA env x=.rsl k (l.map e))
  (f:∀b:Bool,(l≠[]->b=false)->WO P h0 N all L (up env d (.bool b)) H Q)
  (i:o.op=.binOp .eql T x (.const (.slice none 0 0)) u:=by exact rfl)(hg:Qp all o env true:=by exact rfl)(hd:o.dst=some d:=by exact rfl)(hN:Nat.blt d N=true:=by exact rfl)(hh:Nat.ble h0 H.length=true:=by exact rfl):WO P h0 N all (o::L) env H Q:=by
 refine QjU (XV hh) hg hd hN (QlV a i h) ?_;rintro v H' ⟨b,rfl,g,rfl⟩;exact f b g
end
theorem slc0{α:Type}{l x:List α}{i:Int}(h:slc l 0 i=some x):0<=i/\i.toNat<=l.length/\l.take i.toNat=x/\x.length=i.toNat:=by
 obtain⟨_,b,e,d⟩:=Qdq h;have a:l.take i.toNat=x:=by simpa using d
 exact⟨b,by omega,a,by rw[<- a,XA];omega⟩
section
variable {P:Program} {o:Oper} {env:Env} {H:Qd} {α:Type} {e:α->List A} {T et k b t:Nat} {x y:Operand} {l l':List α} {i:Int}
theorem Qj1(h:slc l 0 i=some l')(E1:∀w,(underlying T).run P w=.ok (.slice et) w)(E2:∀w,(sizeOf et).run P w=.ok k w)(d:o.op=.slice T x (some y) none none:=by exact rfl)
  (hx:opA env x=.osl b 0 l.length k:=by exact rfl)(hy:opA env y=.int .i64 i:=by exact rfl):OpV P o env H (.osl b (0+i.toNat) (l.length-i.toNat) k):=by
 obtain⟨a,e,_,_⟩:=slc0 h;exact QfP E1 E2 d hx (.inr ⟨y,i,rfl,hy,a,rfl⟩) (.inl ⟨rfl,rfl⟩) e (XX _)
theorem Qj2(h:slc l 0 i=some l')(E1:∀w,(underlying T).run P w=.ok (.slice et) w)(E2:∀w,(sizeOf et).run P w=.ok k w)(a:o.op=.slice T x none (some y) none:=by exact rfl)
  (hx:opA env x=.osl b 0 l.length k:=by exact rfl)(hy:opA env y=.int .i64 i:=by exact rfl):OpV P o env H (.osl b 0 l'.length k):=by
 obtain⟨d,f,_,e⟩:=slc0 h;have:=QfP (H:=H) E1 E2 a hx (.inl ⟨rfl,rfl⟩) (.inr ⟨y,i,rfl,hy,d,rfl⟩) (XY _) f;rw[e];simpa using this
theorem Qj6{c:Call}{z:Value}(h:slc l 0 i=some l')(g:P.underlying T=some (.slice et))(j:∀w,(zeroValue et).run P w=.ok z w)(d:z.cells.size=k)(a:∀v∈z.cells,Qq v)(m:o.op=.call c:=by exact rfl)(hc:c={callee:=.builtin .clear,args:= #[x],argTypes:= #[T]}:=by exact rfl)
  (hx:opA env x=.osl b (0+i.toNat) (l.length-i.toNat) k:=by exact rfl)(hH:H[b]?=some (.row t k (l.map e)):=by exact rfl):OpH P o env H (.tup []) (H.set b (.row t k (l'.map e))):=by
 obtain⟨n,p,f,q⟩:=slc0 h;refine Qf5 g j d a ?_ ?_ m hc hx hH
 .rw[Xy, <- f,List.map_take]
 .rw[X6];omega
end
end Go.Sw
namespace Go.Sw
open Go.Sort Go.Proofs Go.Shelf
def ltI(x y:Int):Bool:=decide (x<y)
def sortI(l:List Int):Option (List Int):=bif Nat.ble l.length Qy then some (YF ltI l)else none
theorem QhT{l l':List Int}(h:sortI l=some l'):l.length<=Qy/\YF ltI l=l':=by
 unfold sortI at h;cases e:Nat.ble l.length Qy with
 |false=>rw[e]at h;simp at h
 |true=>rw[e]at h;exact⟨XV e,X4 h⟩
theorem Qae{l l':List Int}(h:sortI l=some l'):l.length=l'.length:=by
 rw[<- (QhT h).2];exact(Qn _ _).length_eq.symm
theorem QcW(l:List Int):Qec ltI l:=
 ⟨λx _=>by simp[ltI],λx _ y _ z _ a b=>by simp[ltI]at*;omega,λx _ y _ z _ a b=>by simp[ltI]at*;omega⟩
theorem Qej(l:List Int):(l.mergeSort λx y=>decide (x<=y))=YF ltI l:=by
 refine Jn (lt:=ltI) ?_ ?_ ?_ (QS (QcW l))
 .exact(List.mergeSort_perm _ _).trans (Qn _ _).symm
 .intro x _ y _ a b;simp[ltI]at*;omega
 .refine(List.pairwise_mergeSort (le:=λx y=>decide (x<=y)) ?_ ?_ l).imp ?_
  .intro a b c;simp;omega
  .intro a b;simp;omega
  .intro a b;simp[ltI]
theorem QkQ{ro:Nat->Prop}{σ:Sig}{w:World}:∀{l:List Int} {lv:List Value},RL ro σ w 1 (l.map λx=>[A.int .i64 x]) lv->∃rest,lv=l.map (Value.int .i64)++rest
 |[],lv,_=>⟨lv,rfl⟩
 |x::l,lv,h=>by
  obtain⟨l1,l2,rfl,h1,⟨h2,h3⟩,h4⟩:=h;obtain⟨rest,rfl⟩:=QkQ (l:=l) h4;obtain⟨v,r,rfl,hv,hr⟩:=h2;cases(show r=[]from hr);exact⟨rest,by rw[show v=.int .i64 x from hv];simp⟩
theorem QfM{ro:Nat->Prop}{σ:Sig}{w:World}:∀(l:List Int) (rest:List Value),RL ro σ w 1 (l.map λx=>[A.int .i64 x]) (l.map (Value.int .i64)++rest)
 |[],_=>trivial
 |x::l,rest=>⟨[.int .i64 x],l.map (Value.int .i64)++rest,by simp,rfl,⟨⟨_,_,rfl,rfl,rfl⟩,by simp[Qq]⟩,QfM l rest⟩
theorem QkZ{P:Program}{ρ:Ren}(L:Lays.n189 P ρ){t:Nat}{l l':List Int}(hs:sortI l=some l'):
  C P (ρ.f 189) [.osl 0 0 l.length 1] [.row t 1 (l.map λx=>[A.int .i64 x])] (λa H=>a=.tup []/\H=[.row t 1 (l'.map λx=>[A.int .i64 x])]):=by
 intro fr O σ vals w s hv;obtain⟨vs,r1,rfl,ac,hr⟩:=hv;cases(show r1=[]from hr);obtain⟨aa,V⟩:=QhT hs;have d:∀(ad:Option Addr) (c:Nat),vs=.slice ad 0 c->l=[]->
   Calls P (ρ.f 189) [vs].toArray w λe w'=>∃v r H' ro' τ,e=.returned v/\(r=.tup []/\H'=[.row t 1 (l'.map λx=>[A.int .i64 x])])/\Sim fr ro' (σ++τ) H' w'/\VR ro' (σ++τ) w' r v/\Qh fr O w ro' w':=by
  rintro ad c rfl rfl;have F:l'=[]:=by rw[<- V];rfl
  subst F;refine(Any.slices_Sort_int_none L ad c w).mono ?_;rintro e w' ⟨rfl,rfl⟩;exact⟨_,_,_,O,[],rfl,⟨rfl,rfl⟩,by simpa using s,⟨[],rfl,rfl⟩,Qh.refl _ _ _⟩
 rcases ac with⟨h0,rfl⟩|⟨b,p,cp,t',m,q1,rfl,q2,q3,q4,q5⟩
 .exact d none 0 rfl (VN.1 h0)
 .by_cases F:l=[]
  .subst F;exact d _ cp rfl rfl
  .have ai:0<l.length:=List.length_pos_iff.2 F;obtain rfl:=q2 (Vj ai q3);obtain⟨lv,e1,e2⟩:=s.blk 0 _ _ q1 rfl;obtain⟨hb,R,Q⟩:=s.own 0 b _ q1 rfl rfl;obtain⟨u,rfl⟩:=QkQ e2;have hH:Holds (Value.int .i64) w b 0 l.toArray:=by
    intro j hj;simp only[List.size_toArray]at hj;constructor
    .unfold World.cell?;simp only[e1,Option.isSome_none,Xj,if_false,Xy];rw[Qac,XQ (by simpa using hj)];simp[hj]
    .unfold World.frozen?;simp only[e1];simp
   have z:=Any.slices_Sort_int L b 0 cp l w hH hb (by unfold Qy at aa;omega);rw[Qej,V]at z;simp only[Nat.zero_mul]at z⊢;refine z.mono ?_;rintro e w' ⟨rfl,n,os,rfl⟩;have E:l.length=l'.length:=Qae hs;generalize hW:grow (putRow (Value.int .i64) (Sort.ahead w n) b 0 l'.toArray) os=W;have g:W.heap=w.heap.setIfInBounds b (.cells ((l'.map (Value.int .i64)++u)).toArray t (0,0))++os:=by
    rw[<- hW];show(w.heap.modify b _)++os=_;rw[Qbe e1];simp only[onCells];congr 3;unfold putCells;apply Array.ext_getElem?;intro i;simp only[Array.getElem?_mapIdx,Qac,XY,true_and,Xy,Xx,List.size_toArray];by_cases hi:i<l'.length
    .rw[XQ (by simpa[E]using hi),XQ (by simpa using hi)];simp[hi,E]
    .rw[XR (by simp;omega),XR (by simp;omega)];simp only[X6,E];cases(u[i-l'.length]?)with
     |none=>rfl
     |some v=>exact congrArg some (Vw hi)
   have g1:∀c,c<w.heap.size->c≠b->W.heap[c]?=w.heap[c]? :=by
    intro c k ag;rw[g,Array.getElem?_append_left (by simpa using k),Vi,Vw (λq=>ag q.symm)]
   have g2:W.heap[b]?=some (.cells ((l'.map (Value.int .i64)++u)).toArray t (0,0)):=by
    rw[g,Array.getElem?_append_left (by simpa using hb),Vi,Vx rfl,Vx hb]
   have g3:w.heap.size<=W.heap.size:=by rw[g];simp
   have B:∀c y,w.shape? c=some y->W.shape? c=some y:=by
    intro c y G;by_cases k:c=b
    .subst k;unfold World.shape? at G⊢;rw[e1]at G;rw[g2];simp only[Option.some.injEq]at G⊢;rw[<- G];simp[E]
    .unfold World.shape? at G⊢;rw[g1 c (QbO G) k];exact G
   have ah:W.os=w.os:=by rw[<- hW];rfl
   have af:W.tape=w.tape:=by rw[<- hW];rfl
   have ae:W.output=w.output:=by rw[<- hW];rfl
   have ab:w.drawn<=W.drawn:=by rw[<- hW];exact Nat.le_add_right _ _
   have Y:Qh fr O w O W:=
    ⟨λ_ q=>q,λc k=>g1 c (s.roLt c k) (λq=>R (q▸k)),λc k=>g1 c (s.frLt c k) (λq=>Q (q▸k)),g3,B,ah,af,ae,ab⟩
   have J:σ.length=1:=s.len;have X:Sim fr O σ [.row t 1 (l'.map λx=>[A.int .i64 x])] W:=by
    have T:∀{i:Nat} {x:Blk},([.row t 1 (l'.map λx=>[A.int .i64 x])]:Qd)[i]?=some x->i=0/\x=.row t 1 (l'.map λx=>[A.int .i64 x]):=by
     intro i x h;cases i with
     |zero=>simp at h;exact⟨rfl,h.symm⟩
     |succ i=>simp at h
    refine⟨J,s.roOk.to (λ_ q=>q) Y.keepRo (λc k=>Vj (s.roLt c k) g3),λc k=>Vj (s.frLt c k) g3,s.roFr,λi c x N M h3=>?_,λi j c x y N M h3 h4 _ _=>?_,λi y x N M=>?_,λi b x c N M h3=>by obtain⟨rfl,rfl⟩:=T M;exact h3.elim⟩
    .obtain⟨rfl,rfl⟩:=T M;obtain⟨p1,p2⟩:=s.own 0 c _ N rfl rfl;exact⟨Vj p1 g3,p2⟩
    .rw[(T h3).1,(T h4).1]
    .obtain⟨rfl,rfl⟩:=T M;rw[q1]at N;cases N;exact⟨_,g2,QfM l' u⟩
   exact⟨_,_,_,O,[],rfl,⟨rfl,rfl⟩,by simpa using X,⟨[],rfl,rfl⟩,Y⟩
def QaO(p:Int):List Int->List Int
 |[]=>[]
 |y::l=>bif y==p then QaO p l else y::QaO y l
def QiN:List Int->List Int
 |[]=>[]
 |x::l=>x::QaO x l
section
variable {P:Program} {o:Oper} {env:Env} {H:Qd} {α:Type} {e:α->List A} {T et k b t:Nat} {x y:Operand}
theorem Qcf{lo hi:Option Operand}{l r:List α}{a c:Int}(h:slc l a c=some r)(E1:∀w,(underlying T).run P w=.ok (.slice et) w)(E2:∀w,(sizeOf et).run P w=.ok k w)
  (f:lo=none/\a=0\/ ∃y,lo=some y/\opA env y=.int .i64 a)(g:hi=none/\c=l.length\/ ∃y,hi=some y/\opA env y=.int .i64 c)
  (j:o.op=.slice T x lo hi none:=by exact rfl)(hx:opA env x=.osl b 0 l.length k:=by exact rfl):OpV P o env H (.osl b (0+a.toNat) (c.toNat-a.toNat) k):=by
 obtain⟨i,m,n,_⟩:=Qdq h;refine QfP (l:=a.toNat) (h:=c.toNat) E1 E2 j hx ?_ ?_ (by omega) (by omega)
 .rcases f with⟨e,d⟩|⟨y,e,d⟩
  .exact .inl ⟨e,by rw[d];rfl⟩
  .exact .inr ⟨y,a,e,d,i,rfl⟩
 .rcases g with⟨e,d⟩|⟨y,e,d⟩
  .exact .inl ⟨e,by rw[d];simp⟩
  .exact .inr ⟨y,c,e,d,by omega,rfl⟩
end
end Go.Sw
namespace Go.Sw
inductive Bx where
 |mk (a:A)
def lkB:Env->Nat->Bx
 |[],_=>.mk .any
 |(d,a)::r,s=>bif Nat.beq s d then .mk a else lkB r s
theorem Qjt:∀{env:Env} {s:Nat} {a:A},lkB env s=.mk a->lk env s=a
 |[],s,a,h=>by cases h;rfl
 |(d,b)::r,s,a,h=>by
  unfold lkB at h;unfold lk;cases q:Nat.beq s d with
  |true=>rw[q]at h;cases h;rfl
  |false=>rw[q]at h;exact Qjt h
inductive FBy where
 |mk (l:List UInt8)
def fby:List UInt8->FBy
 |[]=>.mk []
 |a::r=>match fby r with
  |.mk r'=>.mk (a::r')
theorem Qm6:∀l:List UInt8,fby l=.mk l
 |[]=>rfl
 |a::r=>by unfold fby;rw[Qm6 r]
def opB(env:Env):Operand->Bx
 |.tmp t=>lkB env t
 |.const (.bool b)=>.mk (.bool b)
 |.const (.int k n)=>.mk (.int k n)
 |.const (.string s)=>match fby s.data.toList with
  |.mk l=>.mk (.str l)
 |.const (.pointer none)=>.mk .nilp
 |.const (.slice none 0 0)=>.mk .nils
 |.const (.map none)=>.mk .nilm
 |.const .nilFunc=>.mk .nilf
 |.const .nilIface=>.mk .nilif
 |.func f=>.mk (.fn (.func f) [] [])
 |_=>.mk .any
theorem QE{env:Env}{x:Operand}{a:A}(h:opB env x=.mk a):opA env x=a:=by
 cases x with
 |tmp t=>exact Qjt h
 |const v=>
  cases v with
  |slice b n k=>cases b with
   |none=>cases n with
    |zero=>cases k<;>(cases h;rfl)
    |succ n=>cases h;rfl
   |some b=>cases h;rfl
  |pointer p=>cases p<;>(cases h;rfl)
  |map p=>cases p<;>(cases h;rfl)
  |string s=>
   have d:(match fby s.data.toList with|.mk l=>Bx.mk (.str l))=.mk a:=h;rw[Qm6]at d;cases d;rfl
  |_=>cases h;rfl
 |global g=>cases h;rfl
 |func f=>cases h;rfl
def YU{α:Type}:List α->Nat->Option α
 |[],_=>none
 |a::_,0=>some a
 |_::r,n+1=>YU r n
theorem QaF{α:Type}:∀(l:List α) (n:Nat),YU l n=l[n]?
 |[],n=>by simp[YU]
 |a::r,0=>rfl
 |a::r,n+1=>by simp[YU,QaF r n]
def arB:BinOp->IntKind->Int->Int->Option A
 |.add,k,m,n=>some (.int k (k.wrap (m+n)))
 |.sub,k,m,n=>some (.int k (k.wrap (m-n)))
 |.mul,k,m,n=>some (.int k (k.wrap (m*n)))
 |.eql,_,m,n=>some (.bool (m==n))
 |.neq,_,m,n=>some (.bool (m != n))
 |.lss,_,m,n=>some (.bool (decide (m<n)))
 |.leq,_,m,n=>some (.bool (decide (m<=n)))
 |.gtr,_,m,n=>some (.bool (decide (n<m)))
 |.geq,_,m,n=>some (.bool (decide (n<=m)))
 |_,_,_,_=>none
def srB:BinOp->List UInt8->List UInt8->Option A
 |.eql,p,q=>some (.bool (p==q))
 |.neq,p,q=>some (.bool (p != q))
 |.lss,p,q=>some (.bool (Op.bytesLess p q))
 |_,_,_=>none
def biB(b:BinOp):Bx->Bx->Option A
 |.mk (.int k m),.mk (.int k' n)=>if k=k' then arB b k m n else none
 |.mk (.str p),.mk (.str q)=>srB b p q
 |_,_=>none
def unB:UnOp->Bx->Option A
 |.not,.mk (.bool b)=>some (.bool !b)
 |.neg,.mk (.int k n)=>some (.int k (k.wrap (0-n)))
 |_,_=>none
def exB:Bx->Nat->Option A
 |.mk (.tup vs),i=>YU vs i
 |_,_=>none
def nlB:Bx->Option A
 |.mk (.ptr i j)=>some (.ptr i j)
 |.mk (.rp cs)=>some (.rp cs)
 |_=>none
def piB:Bx->Bx->Bx->Option A
 |.mk (.bool true),.mk a,_=>some a
 |.mk (.bool false),_,.mk a=>some a
 |_,_,_=>none
def svB(env:Env):Op->Option A
 |.move x=>match opB env x with|.mk a=>some a
 |.assign x=>match opB env x with|.mk a=>some a
 |.nilCheck x=>nlB (opB env x)
 |.extract x i=>exB (opB env x) i
 |.unOp u _ x=>unB u (opB env x)
 |.pick c x y=>piB (opB env c) (opB env x) (opB env y)
 |.binOp b _ x y _=>biB b (opB env x) (opB env y)
 |_=>none
def pr(d:Nat):Option A->Option (Nat×A)
 |some a=>some (d,a)
 |none=>none
def stB(o:Oper)(env:Env):Option (Nat×A):=
 match o.dst with
 |some d=>pr d (svB env o.op)
 |none=>none
section
variable {P:Program} {h0 N:Nat} {all:Array Oper} {o:Oper} {l:List Oper} {env:Env} {H H':Qd} {Q:QB} {d:Nat} {x:A}
theorem QbM{p:Op}(d:o.op=p)(h:svB env p=some x):OpV P o env H x:=by
 unfold svB at h;split at h
 .rename_i y;cases q:opB env y with|mk a=>rw[q]at h;cases h;exact OpV.move d (QE q)
 .rename_i y;cases q:opB env y with|mk a=>rw[q]at h;cases h;exact OpV.assign d (QE q)
 .rename_i y;unfold nlB at h;split at h
  .rename_i i j q;cases h;exact Yy d (QE q) rfl
  .rename_i w q;cases h;exact Yy d (QE q) rfl
  .cases h
 .rename_i y i;unfold exB at h;split at h
  .rename_i vs _ q;rw[QaF]at h;exact OpV.extract d (QE q) h
  .cases h
 .rename_i u t y;unfold unB at h;split at h
  .rename_i b q;cases h;exact OpV.not d (QE q)
  .rename_i k n q;cases h;exact OpV.neg d (QE q)
  .cases h
 .rename_i c y z;unfold piB at h;split at h
  .rename_i a _ r l;cases h;exact OpV.pick d (QE r) (by rw[Vx rfl];exact QE l)
  .rename_i a r l;cases h;exact OpV.pick d (QE r) (by rw[Vw (by decide)];exact QE l)
  .cases h
 .rename_i b t y z u;unfold biB at h;split at h
  .rename_i k m s n r l;split at h
   .rename_i e;subst e;have f:=QE r;have g:=QE l;unfold arB at h;split at h
    .cases h;exact OpV.add d f g
    .cases h;exact OpV.sub d f g
    .cases h;exact OpV.mul d f g
    .cases h;exact OpV.eql d f g
    .cases h;exact OpV.neq d f g
    .cases h;exact OpV.lss d f g
    .cases h;exact OpV.leq d f g
    .cases h;exact OpV.gtr d f g
    .cases h;exact OpV.geq d f g
    .cases h
   .cases h
  .rename_i p q r l;have f:=QE r;have g:=QE l;unfold srB at h;split at h
   .cases h;exact QdO d f g
   .cases h;exact QlJ d f g
   .cases h;exact QlK d f g
   .cases h
  .cases h
 .cases h
theorem Qg0(h:stB o env=some (d,x)):o.dst=some d/\OpV P o env H x:=by
 unfold stB at h;split at h
 .rename_i b q;cases e:svB env o.op with
  |none=>rw[e]at h;cases h
  |some a=>rw[e]at h;cases h;exact⟨q,QbM rfl e⟩
 .cases h
theorem S(e:stB o env=some (d,x))(k:WO P h0 N all l (up env d x) H Q)(hg:Qp all o env true:=by exact rfl)(hN:Nat.blt d N=true:=by exact rfl):WO P h0 N all (o::l) env H Q:=
 QF hg (Qg0 (P:=P) (H:=H) e).1 hN (Qg0 e).2 k
theorem Sg(hg:Qp all o env true)(e:stB o env=some (d,x))(k:WO P h0 N all l (up env d x) H Q)(a:Nat.blt d N=true:=by exact rfl):WO P h0 N all (o::l) env H Q:=
 QF hg (Qg0 (P:=P) (H:=H) e).1 a (Qg0 e).2 k
theorem K(hg:Qp all o env false)(b:o.dst=some d)(k:WO P h0 N all l (up env d (.tup [])) H Q)(a:Nat.blt d N=true:=by exact rfl):WO P h0 N all (o::l) env H Q:=
 WO.skip hg b a k
theorem KF{j s:Nat}{c y:Bool}(e:y= !c)(b:o.dst=some d)(k:WO P h0 N all l (up env d (.tup [])) H Q)(a:Nat.blt d N=true:=by exact rfl)(hg:o.guard=some (j,c):=by exact rfl)(hs:(all[j]?).bind (·.dst)=some s:=by exact rfl)(hl:lk env s=.bool y:=by exact rfl):WO P h0 N all (o::l) env H Q:=
 WO.skip (gF e hg hs hl) b a k
def p2B(v:Bool):Bx->Bx->Bx->Option (Bool×A)
 |.mk (.bool b),.mk a,.mk a'=>match v with|true=>some (b,a)|false=>some (b,a')
 |_,_,_=>none
def pr2(d:Nat):Option (Bool×A)->Option (Nat×Bool×A)
 |some a=>some (d,a)
 |none=>none
def pkB(v:Bool)(o:Oper)(env:Env):Option (Nat×Bool×A):=
 match o.dst,o.op with
 |some d,.pick c x y=>pr2 d (p2B v (opB env c) (opB env x) (opB env y))
 |_,_=>none
theorem QpK{v b:Bool}{p q r:Bx}(h:p2B v p q r=some (b,x)):∃a a',p=.mk (.bool b)/\q=.mk a/\r=.mk a'/\(bif v then a else a')=x:=by
 obtain⟨p⟩:=p;obtain⟨q⟩:=q;obtain⟨r⟩:=r;cases p<;>first|(cases h;done)|skip
 cases v<;>cases h<;>exact⟨_,_,rfl,rfl,rfl,rfl⟩
theorem QmD{v b:Bool}(h:pkB v o env=some (d,b,x))(g:b=v):o.dst=some d/\OpV P o env H x:=by
 unfold pkB at h;split at h
 .rename_i n c y z m i;cases e:p2B v (opB env c) (opB env y) (opB env z)with
  |none=>rw[e]at h;cases h
  |some s=>
   rw[e]at h;cases h;obtain⟨a,p,j,f,l,k⟩:=QpK e;refine⟨m,OpV.pick i (QE j) ?_⟩;rw[QE f,QE l,g];cases v<;>exact k
 .cases h
theorem Pk{v b:Bool}(a:b=v)(e:pkB v o env=some (d,b,x))(k:WO P h0 N all l (up env d x) H Q)(hg:Qp all o env true:=by exact rfl)(hN:Nat.blt d N=true:=by exact rfl):WO P h0 N all (o::l) env H Q:=
 QF hg (QmD (P:=P) (H:=H) e a).1 hN (QmD e a).2 k
def fpB(o:Oper)(env:Env):Option (Nat×Nat×Nat×Nat×Nat):=
 match o.dst,o.op with
 |some d,.fieldAddr T x f=>match opB env x with
  |.mk (.ptr i p)=>some (d,T,f,i,p)
  |_=>none
 |_,_=>none
theorem Qhj{T f off n i p:Nat}(b:QI P T f off n)(h:fpB o env=some (d,T,f,i,p)):o.dst=some d/\OpV P o env H (.ptr i (p+off)):=by
 unfold fpB at h;split at h
 .rename_i g a;split at h
  .rename_i e;cases h;exact⟨g,Yp b a (QE e)⟩
  .cases h
 .cases h
theorem Fp{T f off n i p:Nat}(a:QI P T f off n)(e:fpB o env=some (d,T,f,i,p))(k:WO P h0 N all l (up env d (.ptr i (p+off))) H Q)(hg:Qp all o env true:=by exact rfl)(hN:Nat.blt d N=true:=by exact rfl):WO P h0 N all (o::l) env H Q:=
 QF hg (Qhj (H:=H) a e).1 hN (Qhj a e).2 k
theorem Fpg{T f off n i p:Nat}(hg:Qp all o env true)(a:QI P T f off n)(e:fpB o env=some (d,T,f,i,p))(k:WO P h0 N all l (up env d (.ptr i (p+off))) H Q)(b:Nat.blt d N=true:=by exact rfl):WO P h0 N all (o::l) env H Q:=
 QF hg (Qhj (H:=H) a e).1 b (Qhj a e).2 k
inductive Lx where
 |mk (l:List A)
def QfB:Nat->List A->Lx
 |0,l=>.mk l
 |n+1,_::r=>QfB n r
 |_+1,[]=>.mk []
theorem Qc7:∀{n:Nat} {l r:List A},QfB n l=.mk r->l.drop n=r
 |0,l,r,h=>by cases h;rfl
 |n+1,a::l,r,h=>by rw[List.drop_succ_cons];exact Qc7 h
 |n+1,[],r,h=>by cases h;rfl
def frB(off:Nat)(o:Oper)(env:Env):Option (Nat×Nat×Nat×List A):=
 match o.dst,o.op with
 |some d,.fieldAddr T x f=>match opB env x with
  |.mk (.rp cs)=>match QfB off cs with
   |.mk r=>some (d,T,f,r)
  |_=>none
 |_,_=>none
theorem Qhi{T f off n:Nat}{r:List A}(g:QI P T f off n)(h:frB off o env=some (d,T,f,r)):o.dst=some d/\OpV P o env H (.rp r):=by
 unfold frB at h;split at h
 .rename_i j b;split at h
  .rename_i i e;cases a:QfB off i with|mk r'=>rw[a]at h;cases h;exact⟨j,Qw g b (QE e) (Qc7 a)⟩
  .cases h
 .cases h
theorem Fr{T f off n:Nat}{r:List A}(a:QI P T f off n)(e:frB off o env=some (d,T,f,r))(k:WO P h0 N all l (up env d (.rp r)) H Q)(hg:Qp all o env true:=by exact rfl)(hN:Nat.blt d N=true:=by exact rfl):WO P h0 N all (o::l) env H Q:=
 QF hg (Qhi (H:=H) a e).1 hN (Qhi a e).2 k
theorem Frg{T f off n:Nat}{r:List A}(hg:Qp all o env true)(a:QI P T f off n)(e:frB off o env=some (d,T,f,r))(k:WO P h0 N all l (up env d (.rp r)) H Q)(b:Nat.blt d N=true:=by exact rfl):WO P h0 N all (o::l) env H Q:=
 QF hg (Qhi (H:=H) a e).1 b (Qhi a e).2 k
def ctB:Option Blk->Nat->Option A
 |some (.cells _ cs),off=>YU cs off
 |_,_=>none
def lvB(H:Qd):Bx->Option A
 |.mk (.ptr i off)=>ctB (YU H i) off
 |.mk (.rp (a::_))=>some a
 |_=>none
def pr3(d t:Nat):Option A->Option (Nat×Nat×A)
 |some a=>some (d,t,a)
 |none=>none
def ldB(o:Oper)(env:Env)(H:Qd):Option (Nat×Nat×A):=
 match o.dst,o.op with
 |some d,.load t x=>pr3 d t (lvB H (opB env x))
 |_,_=>none
theorem Qhd{t:Nat}(k:∀w,(isAgg t).run P w=.ok false w)(h:ldB o env H=some (d,t,x)):o.dst=some d/\OpV P o env H x:=by
 unfold ldB at h;split at h
 .rename_i p s y n l;cases e:lvB H (opB env y)with
  |none=>rw[e]at h;cases h
  |some a=>
   rw[e]at h;cases h;refine⟨n,?_⟩;unfold lvB at e;split at e
   .rename_i i b j;unfold ctB at e;split at e
    .rename_i b q T0 T cs q4;rw[QaF]at e q4;obtain⟨f,m⟩:∃f,cs.drop b=x::f:=by
      have g:=(XP.1 e).1;refine⟨cs.drop (b+1),?_⟩;rw[Xr g,(XP.1 e).2]
     exact OpV.load l k (QE j) (Pts.cells q4 m)
    .cases e
   .rename_i a r j;cases e;exact OpV.load l k (QE j) Pts.rp
   .cases e
 .cases h
theorem Ld{t:Nat}(a:∀w,(isAgg t).run P w=.ok false w)(e:ldB o env H=some (d,t,x))(k:WO P h0 N all l (up env d x) H Q)(hg:Qp all o env true:=by exact rfl)(hN:Nat.blt d N=true:=by exact rfl):WO P h0 N all (o::l) env H Q:=
 QF hg (Qhd a e).1 hN (Qhd a e).2 k
theorem Ldg{t:Nat}(hg:Qp all o env true)(a:∀w,(isAgg t).run P w=.ok false w)(e:ldB o env H=some (d,t,x))(k:WO P h0 N all l (up env d x) H Q)(b:Nat.blt d N=true:=by exact rfl):WO P h0 N all (o::l) env H Q:=
 QF hg (Qhd a e).1 b (Qhd a e).2 k
def ixB(o:Oper)(env:Env):Option (Nat×Nat×Nat×List (List A)×IntKind×Int):=
 match o.dst,o.op with
 |some d,.indexAddr t x y=>match opB env x,opB env y with
  |.mk (.rsl k es),.mk (.int kk i)=>some (d,t,k,es,kk,i)
  |_,_=>none
 |_,_=>none
theorem Ix{α:Type}{e:α->List A}{t et k:Nat}{L:List α}{m:IntKind}{i:Int}{v:α}(h:idx L i=some v)(j:∀w,(underlying t).run P w=.ok (.slice et) w)(g:∀w,(sizeOf et).run P w=.ok k w)
  (q:ixB o env=some (d,t,k,L.map e,m,i))(k:WO P h0 N all l (up env d (.rp (e v))) H Q)(hg:Qp all o env true:=by exact rfl)(hN:Nat.blt d N=true:=by exact rfl):WO P h0 N all (o::l) env H Q:=by
 unfold ixB at q;split at q
 .rename_i p a;split at q
  .rename_i f n;simp only[Option.some.injEq,Prod.mk.injEq]at q;obtain⟨rfl,rfl,rfl,b,rfl,rfl⟩:=q;exact QF hg p hN (QkS h j g a (by rw[QE f,b]) (QE n)) k
  .cases q
 .cases q
def lnB(o:Oper)(env:Env):Option (Nat×Nat×Bx):=
 match o.dst,o.op with
 |some d,.call c=>match c with
  |{callee:=.builtin .len,args:=⟨[x]⟩,argTypes:=⟨[t]⟩}=>some (d,t,opB env x)
  |_=>none
 |_,_=>none
theorem QpQ{t:Nat}{b:Bx}(q:lnB o env=some (d,t,b)):∃x,o.dst=some d/\o.op=.call {callee:=.builtin .len,args:= #[x],argTypes:= #[t]}/\opB env x=b:=by
 unfold lnB at q;split at q
 .rename_i e a;split at q
  .cases q;exact⟨_,e,a,rfl⟩
  .cases q
 .cases q
theorem LnM{α:Type}{e:α->List A}{t et k:Nat}{L:List α}(b:∀w,(underlying t).run P w=.ok (.slice et) w)(q:lnB o env=some (d,t,.mk (.rsl k (L.map e))))
  (k:WO P h0 N all l (up env d (.int .i64 L.length)) H Q)(hg:Qp all o env true:=by exact rfl)(hN:Nat.blt d N=true:=by exact rfl):WO P h0 N all (o::l) env H Q:=by
 obtain⟨x,g,a,f⟩:=QpQ q;exact QF hg g hN (QnM b a rfl (QE f)) k
end
section
variable {P:Program} {h0 N:Nat} {all:Array Oper} {env env':Env} {H H':Qd} {Q:QB} {c c':Code}
theorem Nx(h:TC P h0 N c env H Q):WO P h0 N all [] env H (Seq P h0 N c Q):=WO.nil (Qmk h)
theorem Rg{id:Nat}{l:List Oper}(h:WO P h0 N l.toArray l env H (Seq P h0 N c Q)):TC P h0 N (.seq (.region id l.toArray false) c) env H Q:=TC.seq (TC.region h)
theorem SkN(h:TC P h0 N c env H Q):TC P h0 N .skip env H (Seq P h0 N c Q):=TC.skip (Qmk h)
theorem ExX{id:Nat}(h:Q (.exit id) env H):TC P h0 N (.exit id) env H (Seq P h0 N c Q):=TC.exit (seqX h)
theorem Oi{α:Type}{x y:α}(h:some x=some y):x=y:=X4 h
theorem Bd{α β:Type}{x:Option α}{f:α->Option β}{r:β}{G:Prop}(h:x.bind f=some r)(k:∀a,x=some a->f a=some r->G):G:=by
 obtain⟨a,b,d⟩:=Ju h;exact k a b d
theorem If{α:Type}{c:Bool}{x y:Option α}{r:α}{G:Prop}(h:(bif c then x else y)=some r)(t:c=true->x=some r->G)(e:c=false->y=some r->G):G:=by
 cases c with
 |true=>exact t rfl h
 |false=>exact e rfl h
theorem Cn{α:Type}{x:Operand}{t:Bool}{p q:Option α}{r:α}(hx:opB env x=.mk (.bool t))(h:(bif t then p else q)=some r)(ht:t=true->p=some r->TC P h0 N c env H Q)(hf:t=false->q=some r->TC P h0 N c' env H Q):TC P h0 N (.cond x c c') env H Q:=
 TC.cond (QE hx) (λe=>ht e (ifT e h)) (λe=>hf e (ifF e h))
theorem Y9{α:Type}{x:Operand}{t:Bool}{p q:Option α}{r:α}(hx:opB env x=.mk (.bool t))(h:(bif t then p else q)=some r)(hf:t=false->q=some r->TC P h0 N c' env H Q)(ht:t=true->p=some r->TC P h0 N c env H Q):TC P h0 N (.cond x c c') env H Q:=
 TC.cond (QE hx) (λe=>ht e (ifT e h)) (λe=>hf e (ifF e h))
theorem CnF{x:Operand}{t:Bool}(h:t=false)(hx:opB env x=.mk (.bool t))(hf:TC P h0 N c' env H Q):TC P h0 N (.cond x c c') env H Q:=QfI (QE hx) h hf
theorem Lr(π:List Nat)(a:π.take h0=List.range h0:=by exact rfl)(hH:π.map (λp=>H[p]?)=(H'.map (QU (rho π H.length))).map some:=by exact rfl)(hπ:π.Nodup:=by decide)
  (hE:Qef (rho π H.length) env env':=by(repeat' (first|exact trivial|refine⟨rfl,?_⟩))):Le h0 env H env' H':=QnU π a hH hπ hE
end
end Go.Sw
namespace Go.Sw
def Ev{α:Type}(f:Nat->Option α)(v:α):Prop:=∃N,∀n,N<=n->f n=some v
section
variable {α β:Type} {f g:Nat->Option α} {v w:α}
theorem Qa(v:α):Ev (λ_=>some v) v:=⟨0,λ_ _=>rfl⟩
theorem Ev.const{o:Option α}(h:o=some v):Ev (λ_=>o) v:=⟨0,λ_ _=>h⟩
theorem Ev.bind{k:Nat->α->Option β}{b:β}(h:Ev f v)(a:Ev (λn=>k n v) b):Ev (λn=>(f n).bind (k n)) b:=by
 obtain⟨N,h⟩:=h;obtain⟨M,a⟩:=a;exact⟨max N M,λn d=>by show(f n).bind (k n)=some b;rw[h n (by omega),XN];exact a n (by omega)⟩
theorem QaU{o:Option α}{k:Nat->α->Option β}{b:β}(h:o=some v)(hk:Ev (λn=>k n v) b):Ev (λn=>o.bind (k n)) b:=Ev.bind (Ev.const h) hk
theorem Qb4{c:Bool}(a:c=true->Ev f v)(b:c=false->Ev g w):Ev (λn=>bif c then f n else g n) (bif c then v else w):=by
 cases c with
 |true=>exact a rfl
 |false=>exact b rfl
theorem QkW(h:Ev f v):Ev (λn=>bif true then f n else g n) v:=h
theorem Qax(h:Ev g v):Ev (λn=>bif false then f n else g n) v:=h
theorem Ev.and{c d:Bool}{h:Nat->Option Bool}(a:c=true->Ev h d):Ev (λn=>bif c then h n else some false) (c&&d):=by
 cases c with
 |true=>exact a rfl
 |false=>exact Qa _
theorem Ev.or{c d:Bool}{h:Nat->Option Bool}(a:c=false->Ev h d):Ev (λn=>bif c then some true else h n) (c||d):=by
 cases c with
 |true=>exact Qa _
 |false=>exact a rfl
theorem Ev.eq(h:Ev f v)(e:v=w):Ev f w:=e▸h
theorem Ev.congr(h:Ev f v)(e:∀n,g n=f n):Ev g v:=by
 obtain⟨N,h⟩:=h;exact⟨N,λn a=>by rw[e];exact h n a⟩
theorem Jj(h:Ev (λn=>f (n+1)) v):Ev f v:=by
 obtain⟨N,h⟩:=h;refine⟨N+1,λn a=>?_⟩;obtain⟨m,rfl⟩:∃m,n=m+1:=⟨n-1,by omega⟩;exact h m (by omega)
theorem Ev.ex(h:Ev f v):∃n,f n=some v:=let⟨N,h⟩:=h;⟨N,h N (XX _)⟩
theorem Ev.all{k:Nat}{F:Nat->Nat->Option α}{V:Nat->α}(h:∀i,i<k->Ev (F i) (V i)):∃N,∀n,N<=n->∀i,i<k->F i n=some (V i):=by
 induction k with
 |zero=>exact⟨0,λn _ i a=>absurd a (Xn _)⟩
 |succ k b=>
  obtain⟨N,e⟩:=b λi a=>h i (by omega);obtain⟨M,d⟩:=h k (by omega);refine⟨max N M,λn f i a=>?_⟩;rcases Xp.1 a with q|rfl
  .exact e n (by omega) i q
  .exact d n (by omega)
end
section
variable {S B α:Type} {step:Nat->S->Option (Ctl S B)}
theorem Ev.iter{s0:S}(a:Nat->S)(k:Nat){b:B}(h0:a 0=s0)(g:∀i,i<k->Ev (λn=>step n (a i)) (.cont (a (i+1))))(e:Ev (λn=>step n (a k)) (.done b)):
  Ev (λn=>Go.Sw.iter (step n) n s0) b:=by
 obtain⟨N,d⟩:=Ev.all g;obtain⟨M,h⟩:=e;exact⟨max (max N M) (k+1),λn j=>QmU s0 a b k h0 (λi f=>d n (by omega) i f) (h n (by omega)) n (by omega)⟩
theorem Qch{step:S->Option (Ctl S B)}{s:S}{b:B}(m:Nat)(h:Go.Sw.iter step m s=some b):Ev (λn=>Go.Sw.iter step n s) b:=by
 have mono:∀m s,Go.Sw.iter step m s=some b->∀n,m<=n->Go.Sw.iter step n s=some b:=by
  intro m
  induction m with
  |zero=>intro s h;cases h
  |succ m f=>
   intro s h n d;obtain⟨a,rfl⟩:∃a,n=a+1:=⟨n-1,by omega⟩;simp only[Go.Sw.iter]at h⊢;cases e:step s with
   |none=>rw[e]at h;cases h
   |some c=>
    rw[e]at h;cases c with
    |cont g=>exact f g h a (by omega)
    |done i=>exact h
 exact⟨m,λn d=>mono m s h n d⟩
structure At (l:List α) (i:Nat) (x:α):Prop where
 get:l[i]?=some x
 lt:decide ((i:Int)<(l.length:Int))=true
 ix:idx l (i:Int)=some x
 nx:IntKind.i64.wrap ((i:Int)+1)=((i+1:Nat):Int)
theorem JG{l:List α}{i:Nat}{x:α}(hl:l.length<=4611686018427387904)(h:l[i]?=some x):At l i x:=by
 have a:=(XP.1 h).1;exact⟨h,Vy (by omega),YT h,YY (by omega)⟩
theorem At.mem{l:List α}{i:Nat}{x:α}(h:At l i x):x∈l:=VL h.get
theorem At.lt'{l:List α}{i:Nat}{x:α}(h:At l i x):i<l.length:=(XP.1 h.get).1
theorem At.take{l:List α}{i:Nat}{x:α}(h:At l i x):l.take (i+1)=l.take i++[x]:=by
 rw[List.take_add_one,h.get];rfl
theorem Qbi(l:List α):decide ((l.length:Int)<(l.length:Int))=false:=VB (by omega)
theorem Qa3{s0:S}(l:List α)(q:α->Bool)(d:Nat->S)(t b:B)(hl:l.length<=4611686018427387904)(h0:d 0=s0)
  (s:∀i x,At l i x->q x=false->Ev (λn=>step n (d i)) (.cont (d (i+1))))
  (f:∀i x,At l i x->q x=true->Ev (λn=>step n (d i)) (.done t))
  (H:Ev (λn=>step n (d l.length)) (.done b)):Ev (λn=>Go.Sw.iter (step n) n s0) (bif l.any q then t else b):=by
 have r:∀k,k<=l.length->(∀i x,l[i]?=some x->i<k->q x=false)\/ ∃i x,l[i]?=some x/\i<k/\q x=true/\ ∀j y,l[j]?=some y->j<i->q y=false:=by
  intro k
  induction k with
  |zero=>intro _;exact .inl λi x _ a=>absurd a (Xn _)
  |succ k w=>
   intro J;rcases w (by omega)with h|⟨i,x,m,E,p⟩
   .have u:l[k]?=some l[k]:=XO (by omega);cases e:q l[k]with
    |true=>exact .inr ⟨k,_,u,Xo _,e,h⟩
    |false=>
     refine .inl λi x f a=>?_;rcases Xp.1 a with z|rfl
     .exact h i x f z
     .rw[u]at f;cases f;exact e
   .exact .inr ⟨i,x,m,by omega,p⟩
 rcases r l.length (XX _)with h|⟨i,x,m,E,p,G⟩
 .have:l.any q=false:=by
   rw[VQ];intro e;obtain⟨x,f,e⟩:=Xv.1 e;obtain⟨i,a,rfl⟩:=List.getElem_of_mem f;rw[h i _ (XO a) a]at e;cases e
  rw[this];exact Ev.iter d l.length h0 (λi a=>s i _ (JG hl (XO a)) (h i _ (XO a) a)) H
 .have:l.any q=true:=Xv.2 ⟨x,VL m,p⟩;rw[this];refine Ev.iter d i h0 (λj F=>?_) (f i x (JG hl m) p);have g:l[j]?=some l[j]:=XO (by omega);exact s j _ (JG hl g) (G j _ g F)
theorem Yt{β:Type}{s0:S}(l:List α)(g:β->α->β)(b:β)(e:β->Nat->S)(d:β->B)(hl:l.length<=4611686018427387904)(h0:e b 0=s0)
  (h:∀i x a,At l i x->a=(l.take i).foldl g b->Ev (λn=>step n (e a i)) (.cont (e (g a x) (i+1))))
  (k:Ev (λn=>step n (e (l.foldl g b) l.length)) (.done (d (l.foldl g b)))):Ev (λn=>Go.Sw.iter (step n) n s0) (d (l.foldl g b)):=by
 refine Ev.iter (λi=>e ((l.take i).foldl g b) i) l.length (by simpa using h0) (λi j=>?_) (by simpa using k);have f:=JG (x:=l[i]) hl (XO j);have:=h i _ _ f rfl;rw[f.take,XG];exact this
theorem Ev.contains(l:List α)(q:α->Bool)(g:Nat->α->Option Bool)(hl:l.length<=4611686018427387904)(hg:∀x∈l,Ev (λn=>g n x) (q x)):
  Ev (λn=>(((Go.Sw.iter (λs:Int=>bif decide (s<(l.length:Int))then(idx l s).bind λx=>(g n x).bind λr=>(bif r then some (Ctl.done (Ctl.done s))else some (Ctl.cont (IntKind.i64.wrap (s+1))))else some (Ctl.done (Ctl.cont ()))) n (0:Int):Option (Ctl Unit Int)).bind λb=>
   match b with
   |.cont _=>some (-1)
   |.done s=>some s):Option Int).bind λr=>some (decide (0<=r))) (l.any q):=by
 cases e:l.any q with
 |false=>
  refine Ev.bind (v:=(-1:Int)) (Ev.bind (v:=Ctl.cont ()) (Ev.iter (λi=>(i:Int)) l.length rfl (λi d=>?_) ?_) (Qa _)) (Qa _)
  .have a:=JG (x:=l[i]) hl (XO d);simp only[a.lt,Vt,a.ix,XN];have G:q l[i]=false:=by
    rw[VQ];intro h;rw[Xv.2 ⟨_,a.mem,h⟩]at e;cases e
   refine Ev.bind ((hg _ a.mem).eq G) ?_;simp only[Vu,a.nx];exact Qa _
  .simp only[Qbi,Vu];exact Qa _
 |true=>
  obtain⟨x,f,h⟩:=Xv.1 e;have p:∀k,k<=l.length->(∀(i:Nat) (x:α),l[i]?=some x->i<k->q x=false)\/ ∃(i:Nat) (x:α),l[i]?=some x/\i<k/\q x=true/\ ∀(j:Nat) (y:α),l[j]?=some y->j<i->q y=false:=by
   intro k
   induction k with
   |zero=>intro _;exact .inl λi x _ d=>absurd d (Xn _)
   |succ k w=>
    intro H;rcases w (by omega)with h|⟨i,x,t,E,u⟩
    .have hg:l[k]?=some l[k]:=XO (by omega);cases e:q l[k]with
     |true=>exact .inr ⟨k,_,hg,Xo _,e,h⟩
     |false=>
      refine .inl λi x f d=>?_;rcases Xp.1 d with z|rfl
      .exact h i x f z
      .rw[hg]at f;cases f;exact e
    .exact .inr ⟨i,x,t,by omega,u⟩
  rcases p l.length (XX _)with B|⟨i,x,t,E,u,F⟩
  .obtain⟨j,m,rfl⟩:=List.getElem_of_mem f;rw[B j _ (XO m) m]at h;cases h
  .refine Ev.bind (v:=(i:Int)) (Ev.bind (v:=Ctl.done (i:Int)) (Ev.iter (λi=>(i:Int)) i rfl (λj m=>?_) ?_) (Qa _)) ?_
   .have a:=JG (x:=l[j]) hl (XO (by omega));simp only[a.lt,Vt,a.ix,XN];refine Ev.bind ((hg _ a.mem).eq (F j _ a.get m)) ?_;simp only[Vu,a.nx];exact Qa _
   .have a:=JG hl t;simp only[a.lt,Vt,a.ix,XN];refine Ev.bind ((hg _ a.mem).eq u) ?_;exact Qa _
   .rw[Vy (by omega)];exact Qa _
end
section
variable {S B α:Type} {step:Nat->S->Option (Ctl S B)}
theorem QhI{s0:S}(a:Nat->S)(k:Nat)(R:Nat->B)(h0:a 0=s0)(l:∀i,i<k->(Ev (λn=>step n (a i)) (.cont (a (i+1)))/\R i=R (i+1))\/Ev (λn=>step n (a i)) (.done (R i)))
  (r:Ev (λn=>step n (a k)) (.done (R k))):Ev (λn=>Go.Sw.iter (step n) n s0) (R 0):=by
 have e:∀m,m<=k->(∀i,i<m->Ev (λn=>step n (a i)) (.cont (a (i+1)))/\R i=R (i+1))\/ ∃j,j<m/\(∀i,i<j->Ev (λn=>step n (a i)) (.cont (a (i+1)))/\R i=R (i+1))/\Ev (λn=>step n (a j)) (.done (R j)):=by
  intro m
  induction m with
  |zero=>intro _;exact .inl λi b=>absurd b (Xn _)
  |succ m f=>
   intro s;rcases f (by omega)with h|⟨j,g,d⟩
   .rcases l m (by omega)with q|q
    .refine .inl λi b=>?_;rcases Xp.1 b with z|rfl
     .exact h i z
     .exact q
    .exact .inr ⟨m,Xo _,h,q⟩
   .exact .inr ⟨j,by omega,d⟩
 have same:∀m,(∀i,i<m->R i=R (i+1))->R 0=R m:=by
  intro m
  induction m with
  |zero=>intro _;rfl
  |succ m f=>intro h;exact(f λi b=>h i (by omega)).trans (h m (Xo _))
 rcases e k (XX _)with h|⟨j,g,d,p⟩
 .rw[same k λi b=>(h i b).2];exact Ev.iter a k h0 (λi b=>(h i b).1) r
 .rw[same j λi b=>(d i b).2];exact Ev.iter a j h0 (λi b=>(d i b).1) p
theorem At.drop{l:List α}{i:Nat}{x:α}(h:At l i x):l.drop i=x::l.drop (i+1):=by
 have:=h.lt';rw[Xr this,(XP.1 h.get).2]
theorem QhH{s0:S}(l:List α)(st:Nat->S)(R:Nat->B)(hl:l.length<=4611686018427387904)(h0:st 0=s0)
  (hc:∀i x,At l i x->(Ev (λn=>step n (st i)) (.cont (st (i+1)))/\R i=R (i+1))\/Ev (λn=>step n (st i)) (.done (R i)))
  (hd:Ev (λn=>step n (st l.length)) (.done (R l.length))):Ev (λn=>Go.Sw.iter (step n) n s0) (R 0):=
 QhI st l.length R h0 (λi hi=>hc i _ (JG hl (XO hi))) hd
end
section
variable {α β:Type} [DecidableEq α]
theorem Qah(p:α×β)(l:List (α×β))(k:α):YB (p::l) k=if p.1=k then some p.2 else YB l k:=by
 unfold YB;by_cases h:p.1=k<;>simp[List.find?_cons,h]
theorem Qk8(p:α×β)(l:List (α×β))(k:α)(v:β):QH (p::l) k v=if p.1=k then(p.1,v)::l.map (λq=>bif decide (q.1=k)then(q.1,v)else q)else p::QH l k v:=by
 unfold QH;by_cases h:p.1=k
 .simp[h]
 .simp only[List.any_cons,h,decide_false,Bool.false_or,if_false,Vn,Vu];cases l.any λp=>decide (p.1=k)<;>simp
theorem QmM(l:List (α×β))(k a:α)(v:β)(h:a≠k):YB (l.map λq=>bif decide (q.1=k)then(q.1,v)else q) a=YB l a:=by
 induction l with
 |nil=>rfl
 |cons p l b=>
  rw[Vn,Qah,Qah,b];by_cases e:p.1=k
  .have:¬k=a:=λq=>h q.symm;simp[e,this]
  .simp[e]
theorem YZ(l:List (α×β))(k a:α)(v:β):YB (QH l k v) a=if a=k then some v else YB l a:=by
 induction l with
 |nil=>
  show YB ([]++[(k,v)]) a=_;rw[Vl,Qah];by_cases h:a=k
  .subst h;simp
  .rw[Vw λq=>h q.symm,Vw h]
 |cons p l b=>
  rw[Qk8];by_cases e:p.1=k
  .rw[Vx e,Qah,Qah];by_cases h:a=k
   .subst h;simp[e]
   .have:p.1≠a:=λq=>h (q.symm.trans e);simp only[this,if_false,h];exact QmM l k a v h
  .rw[Vw e,Qah,Qah,b];by_cases h:p.1=a
   .rw[Vx h,Vw λq=>e (h.trans q),Vx h]
   .rw[Vw h,Vw h]
theorem Qk9(k:α)(z:β):QV ([]:List (α×β)) k z=z:=rfl
theorem Qe1(l:List (α×β))(k a:α)(v z:β):QV (QH l k v) a z=if a=k then v else QV l a z:=by
 unfold QV;rw[YZ];by_cases h:a=k<;>simp[h]
theorem QdB(l:List (α×β))(k:α)(v:β):(QH l k v).map (·.1)=if k∈l.map (·.1)then l.map (·.1)else l.map (·.1)++[k]:=by
 unfold QH;have e:(l.any λp=>decide (p.1=k))=decide (k∈l.map (·.1)):=by
  rw[X3];simp only[Xv,Vv,Xf]
 rw[e];by_cases h:k∈l.map (·.1)
 .rw[Vy h,Vx h,Vt,List.map_map];apply List.map_congr_left;intro p _;simp only[Function.comp];cases decide (p.1=k)<;>rfl
 .rw[VB h,Vw h,Vu,Xg];rfl
def Ym{γ:Type}(key:γ->α)(v:β)(l:List γ):List (α×β):=l.foldl (λm x=>QH m (key x) v) []
theorem Qha{γ:Type}(a:γ->α)(v:β)(l:List γ)(x:γ):Ym a v (l++[x])=QH (Ym a v l) (a x) v:=by
 unfold Ym;rw[XG];rfl
theorem Qd1{γ:Type}(a:γ->α)(v z:β)(l:List γ)(k:α):QV (Ym a v l) k z=if k∈l.map a then v else z:=by
 have b:∀(l:List γ) (m:List (α×β)),QV (l.foldl (λm x=>QH m (a x) v) m) k z=if k∈l.map a then v else QV m k z:=by
  intro l
  induction l with
  |nil=>intro m;simp
  |cons x l d=>
   intro m;rw[XH,d,Qe1];by_cases h:k∈l.map a
   .rw[Vx h,Vx (by simp only[Vn];exact X9 _ h)]
   .rw[Vw h];by_cases e:k=a x
    .rw[Vx e,Vx (by simp[e])]
    .rw[Vw e,Vw (by simp only[Vn,Va,not_or];exact⟨e,h⟩)]
 exact b l []
theorem Qcl{γ:Type}(d:γ->α)(v:β)(l:List γ):(Ym d v l).length<=l.length/\((Ym d v l).length=l.length↔(l.map d).Nodup):=by
 have k:∀(l:List γ) (m:List (α×β)),(m.map (·.1)).Nodup->(l.foldl (λm x=>QH m (d x) v) m).length<=m.length+l.length/\((l.foldl (λm x=>QH m (d x) v) m).length=m.length+l.length↔(m.map (·.1)++l.map d).Nodup):=by
  intro l
  induction l with
  |nil=>intro m i;simpa using i
  |cons x l n=>
   intro m i;have g:=QdB m (d x) v;have f:(QH m (d x) v).length=((QH m (d x) v).map (·.1)).length:=by simp
   by_cases h:d x∈m.map (·.1)
   .rw[Vx h]at g;obtain⟨r,j⟩:=n (QH m (d x) v) (by rw[g];exact i);have e:(QH m (d x) v).length=m.length:=by rw[f,g];simp
    rw[XH];refine⟨by simp only[X5];omega,⟨λq=>?_,λq=>?_⟩⟩
    .simp only[X5]at q;omega
    .exfalso;have:=(List.nodup_append.1 q).2.2 _ h (d x) (by simp);exact this rfl
   .rw[Vw h]at g;have t:((QH m (d x) v).map (·.1)).Nodup:=by
     rw[g];refine List.nodup_append.2 ⟨i,by simp,?_⟩;intro a s b p e;simp only[VF]at p;exact h (by rw[<- p, <- e];exact s)
    obtain⟨r,j⟩:=n (QH m (d x) v) t;have e:(QH m (d x) v).length=m.length+1:=by rw[f,g];simp
    rw[XH];refine⟨by simp only[X5];omega,?_⟩;rw[g]at j;rw[show m.length+(x::l).length=(QH m (d x) v).length+l.length by rw[e];simp;omega,j];simp[Vm]
 have:=k l [] (by simp);simpa[Ym]using this
end
theorem Jk{α:Type}(l:List α)(p:α->Bool)(g:Nat->α->Option Bool)(hl:l.length<=4611686018427387904)(hg:∀x∈l,Ev (λn=>g n x) (p x)):
  Ev (λn=>((((Go.Sw.iter (λs:Int=>bif decide (s<(l.length:Int))then(idx l s).bind λx=>((g n x).bind λr1=>some (!r1)).bind λr=>(bif r then some (Ctl.done (Ctl.done s))else some (Ctl.cont (IntKind.i64.wrap (s+1))))else some (Ctl.done (Ctl.cont ()))) n (0:Int):Option (Ctl Unit Int)).bind λb=>
   match b with
   |.cont _=>some (-1)
   |.done s=>some s):Option Int).bind λr=>some (decide (0<=r)):Option Bool).bind λr=>some (!r)) (l.all p):=by
 refine Ev.bind (Ev.contains l (λx=> !p x) (λn x=>(g n x).bind λr1=>some (!r1)) hl λx a=>Ev.bind (hg x a) (Qa _)) ((Qa _).eq ?_);rw[List.not_any_eq_all_not];simp
theorem Ev.inner{α κ B:Type}[DecidableEq κ]{step:Nat->Int->Option (Ctl Int B)}(l:List α)(i:Nat)(a:α->κ)(k:κ)(r b:B)(hl:l.length<=4611686018427387904)(hi:i<=l.length)
  (s:∀j y,j<i->At l j y->decide (a y=k)=false->Ev (λn=>step n (j:Int)) (.cont ((j+1:Nat):Int)))
  (w:∀j y,j<i->At l j y->decide (a y=k)=true->Ev (λn=>step n (j:Int)) (.done r))
  (u:Ev (λn=>step n (i:Int)) (.done b)):Ev (λn=>Go.Sw.iter (step n) n 0) (bif ((l.take i).map a).contains k then r else b):=by
 have e:((l.take i).map a).contains k=(l.take i).any λy=>decide (a y=k):=by
  rw[X3];simp only[List.contains_eq_mem,Vv,Xf,Xv]
 rw[e];have g:(l.take i).length=i:=by simp;omega
 have h:∀j y,At (l.take i) j y->j<i/\At l j y:=by
  intro j y f;have t:=f.lt';have d:=f.get;rw[List.getElem?_take]at d;split at d
  .exact⟨by omega,JG hl d⟩
  .cases d
 refine Qa3 (l.take i) (λy=>decide (a y=k)) (λi=>(i:Int)) _ _ (by omega) rfl (λj y f q=>?_) (λj y f q=>?_) ?_
 .obtain⟨m,p⟩:=h j y f;exact s j y m p q
 .obtain⟨m,p⟩:=h j y f;exact w j y m p q
 .rw[g];exact u
theorem QbH{α κ β:Type}[DecidableEq κ]{step:Nat->List (κ×β)×Int->Option (Ctl (List (κ×β)×Int) (List (κ×β)))}(l:List α)(key:α->κ)(v:β)(hl:l.length<=4611686018427387904)
  (hc:∀i x m,At l i x->Ev (λn=>step n (m,(i:Int))) (.cont (QH m (key x) v,((i+1:Nat):Int))))
  (hd:∀m,Ev (λn=>step n (m,(l.length:Int))) (.done m)):Ev (λn=>Go.Sw.iter (step n) n ([],0)) (Ym key v l):=
 Yt l (λm x=>QH m (key x) v) [] (λm i=>(m,(i:Int))) (λm=>m) hl rfl (λi x m ha _=>hc i x m ha) (hd _)
theorem Ev.shift{α:Type}{f:Nat->Option α}{v:α}(h:Ev f v):Ev (λn=>f (n+1)) v:=by
 obtain⟨N,h⟩:=h;exact⟨N,λn a=>h (n+1) (by omega)⟩
def EvI{S B:Type}(step:Nat->S->Option (Ctl S B))(s:S)(b:B):Prop:=∃N,∀n k,N<=n->N<=k->Go.Sw.iter (step n) k s=some b
section
variable {S B:Type} {step:Nat->S->Option (Ctl S B)} {s s':S} {b:B}
theorem EvI.done(h:Ev (λn=>step n s) (.done b)):EvI step s b:=by
 obtain⟨N,h⟩:=h;refine⟨N+1,λn k e d=>?_⟩;obtain⟨a,rfl⟩:∃a,k=a+1:=⟨k-1,by omega⟩;have:=h n (by omega);simp only[Go.Sw.iter,this]
theorem EvI.cont(h:Ev (λn=>step n s) (.cont s'))(q:EvI step s' b):EvI step s b:=by
 obtain⟨N,h⟩:=h;obtain⟨M,q⟩:=q;refine⟨max N M+1,λn k e d=>?_⟩;obtain⟨a,rfl⟩:∃a,k=a+1:=⟨k-1,by omega⟩;have:=h n (by omega);simp only[Go.Sw.iter,this];exact q n a (by omega) (by omega)
theorem EvI.ev(h:EvI step s b):Ev (λn=>Go.Sw.iter (step n) n s) b:=by
 obtain⟨N,h⟩:=h;exact⟨N,λn a=>h n n a a⟩
theorem EvI.eq{b':B}(h:EvI step s b)(e:b=b'):EvI step s b':=e▸h
end
theorem Q2{α:Type}{l r:List α}{i:Nat}{x:α}(hl:l.length<=4611686018427387904)(h:l.drop i=x::r):At l i x/\l.drop (i+1)=r:=by
 have a:l[i]?=some x:=by
  have:=congrArg (λl=>l[0]?) h;simpa using this
 refine⟨JG hl a,?_⟩;have:=(JG hl a).drop;rw[h]at this;exact(List.cons.inj this).2.symm
theorem YM{α:Type}{l:List α}{i:Nat}(h:l.drop i=[])(hi:i<=l.length):decide ((i:Int)<(l.length:Int))=false:=by
 have:=Xs.1 h;exact VB (by omega)
end Go.Sw
namespace Go.Sw
theorem Z.{u}{α:Sort u}{a:α}:a=a:=rfl
section
variable {P:Program} {h0 N:Nat} {all:Array Oper} {env:Env} {H H':Qd} {Q:QB} {l:List Oper} {o:Oper} {d:Nat}
theorem aV(x:A)(H:Qd){x':A}{H':Qd}(a:x'=x)(hH:H'=H)(k:WO P h0 N all l (up env d x) H Q):WO P h0 N all l (up env d x') H' Q:=by subst a;subst hH;exact k
theorem vX(x:A)(a:OpV P o env H x)(k:WO P h0 N all l (up env d x) H Q)(hg:Qp all o env true:=by exact rfl)(hd:o.dst=some d:=by exact rfl)(hN:Nat.blt d N=true:=by exact rfl):WO P h0 N all (o::l) env H Q:=
 QF hg hd hN a k
theorem Wp:WO P h0 N all [] env H (Y6 env H):=WO.nil Y6.mk
end
end Go.Sw
namespace Go.Sw
section
variable {P:Program} {o:Oper} {env:Env} {H:Qd}
theorem QoT{ro:Nat->Prop}{σ:Sig}{w:World}(g:GP w){b:Nat}{zs:List Int}(h:Qjw[b]?=some zs):∀(i:Nat),CR ro σ w b ((zs.drop i).map (A.int .i64)) i:=by
 intro i;generalize hl:zs.drop i=l
 induction l generalizing i with
 |nil=>trivial
 |cons z l d=>
  have e:zs[i]?=some z:=by
   have:=congrArg (·[0]?) hl;simpa using this
  have a:zs.drop (i+1)=l:=by
   rw[<- List.drop_drop,hl];rfl
  exact⟨⟨_,g.tab b zs h i z e,by simp[Qq],rfl⟩,d (i+1) a⟩
theorem QgL{t n g:Nat}{zs:List Int}(h:∀w,(isAgg t).run P w=.ok true w)(e:∀w,(sizeOf t).run P w=.ok n w)(hg:Qjw[g]?=some zs)(hl:zs.length=n)(f:o.op=.load t (.global g):=by exact rfl):
  OpV P o env H (.agg (zs.map (A.int .i64))):=by
 intro k ro σ N a w r;obtain⟨l,i,_,d⟩:=YE (P:=P) (b:=g) (cs:=zs.map (A.int .i64)) (off:=0) 0 (by simpa using QoT (ro:=ro) (σ:=σ) r.sim.roOk.gp hg 0);have d:=d w #[] rfl;rw[X6,hl]at d;refine⟨.agg l.toArray,?_,l,rfl,i⟩;have j:a.eval (.global g)=.pointer (some ⟨g,0,none⟩):=rfl;generalize a.eval=ρ at*;simp[execOp,f,j,Instr.loadAt,Instr.sureAddr,loadVar,h,e,loadCells,d,go_sem]
end
end Go.Sw
namespace Go.Sw
open Go.Proofs
section
variable {P:Program}
def toV(agg:Bool)(l:List Value):Value:=bif agg then .agg l.toArray else l.headD .nilFunc
structure Ql2 (P:Program) (t:TypeId) (h k:Nat) (agg:Bool) (ok:List Value->Prop):Prop where
 len:∀l,ok l->l.length=k
 ia:∀w,(isAgg t).run P w=.ok agg w
 so:∀w,(sizeOf t).run P w=.ok k w
 eq:∀(w:World) (d:Nat) (l m:List Value),ok l->ok m->∃b:Bool,(Op.equalIn (d+h) t (toV agg l) (toV agg m)).run P w=.ok b w/\(b=true↔l=m)
structure QnZ (P:Program) (fs:List Field) (h off k:Nat) (ok:List Value->Prop):Prop where
 len:∀l,ok l->l.length=k
 eq:∀(w:World) (d:Nat) (p q l m:List Value),p.length=off->q.length=off->ok l->ok m->∃b:Bool,(Op.eqFields (d+h) (p++l).toArray (q++m).toArray fs).run P w=.ok b w/\(b=true↔l=m)
theorem Ql2.int{t:TypeId}{k:IntKind}(e:P.underlying t=some (.int k))(b:∀w,(isAgg t).run P w=.ok false w)(a:∀w,(sizeOf t).run P w=.ok 1 w)(h:Nat):Ql2 P t (h+1) 1 false (λl=>∃n:Int,l=[.int k n]):=by
 refine⟨?_,b,a,?_⟩
 .rintro _ ⟨n,rfl⟩;rfl
 .rintro w d _ _ ⟨n,rfl⟩ ⟨m,rfl⟩;exact⟨_,run_equalIn_int w (d+h) t k k n m e,by simp⟩
theorem Ql2.bool{t:TypeId}(e:P.underlying t=some .bool)(b:∀w,(isAgg t).run P w=.ok false w)(a:∀w,(sizeOf t).run P w=.ok 1 w)(h:Nat):Ql2 P t (h+1) 1 false (λl=>∃n:Bool,l=[.bool n]):=by
 refine⟨?_,b,a,?_⟩
 .rintro _ ⟨n,rfl⟩;rfl
 .rintro w d _ _ ⟨n,rfl⟩ ⟨m,rfl⟩;exact⟨_,run_equalIn_bool' w (d+h) t n m e,by simp⟩
theorem QnZ.nil(h off:Nat):QnZ P [] h off 0 (λl=>l=[]):=by
 refine⟨?_,?_⟩
 .rintro _ rfl;rfl
 .rintro w d p q _ _ _ _ rfl rfl;exact⟨true,by simp[Op.eqFields],by simp⟩
theorem Qh2{t:TypeId}{k:Nat}{agg:Bool}{w:World}(b:∀w,(isAgg t).run P w=.ok agg w)(f:∀w,(sizeOf t).run P w=.ok k w)(p a e:List Value)(hl:a.length=k)(d:agg=false->k=1):
  (part t (p++(a++e)).toArray p.length).run P w=.ok (toV agg a) w:=by
 unfold part;cases agg with
 |true=>
  simp[b,f,go_sem,toV];rw[<- hl];simp[List.extract]
 |false=>
  have:=d rfl;subst this
  match a,hl with
  |[v],_=>simp[b,go_sem,toV]
theorem QnZ.cons{f:Field}{fs:List Field}{h off m z:Nat}{agg:Bool}{k j:List Value->Prop}(N:Nat.beq f.offset off=true)(Q:f.name≠"_")(g:Ql2 P f.type h m agg k)(x:agg=false->m=1)(u:QnZ P fs h (off+m) z j):
  QnZ P (f::fs) h off (m+z) (λl=>∃l1 l2,l=l1++l2/\k l1/\j l2):=by
 have s:f.offset=off:=XU N;refine⟨?_,?_⟩
 .rintro _ ⟨l1,l2,rfl,a,b⟩;rw[X7,g.len _ a,u.len _ b]
 .rintro w d p q _ _ B G ⟨l1,l2,rfl,r,O⟩ ⟨i,t,rfl,n,M⟩;have F:=Qh2 (P:=P) (w:=w) g.ia g.so p l1 l2 (g.len _ r) x;have y:=Qh2 (P:=P) (w:=w) g.ia g.so q i t (g.len _ n) x;rw[B]at F;rw[G]at y;obtain⟨E,T,L⟩:=g.eq w d l1 i r n;obtain⟨J,H,V⟩:=u.eq w d (p++l1) (q++i) l2 t (by rw[X7,B,g.len _ r]) (by rw[X7,G,g.len _ n]) O M;rw[Vm,Vm]at H;have R:l1.length=i.length:=by rw[g.len _ r,g.len _ n]
  refine⟨E&&J,?_,?_⟩
  .generalize(p++(l1++l2)).toArray=X at*;generalize(q++(i++t)).toArray=Y at*;cases E<;>simp[Op.eqFields,Q,s,Vr,Result.andThen,F,y,T,H]
  .rw[X0,L,V];constructor
   .rintro⟨rfl,rfl⟩;rfl
   .intro e;exact List.append_inj e R
theorem Ql2.struct{t:TypeId}{h k:Nat}{ok:List Value->Prop}(j:P.underlying t=some (.struct (P.fieldsOf t)))(f:P.stoodInHeld t=false)(p:∀w,(isAgg t).run P w=.ok true w)(n:∀w,(sizeOf t).run P w=.ok k w)(e:QnZ P (P.fieldsOf t).toList h 0 k ok):Ql2 P t (h+1) k true ok:=by
 refine⟨e.len,p,n,λw d l m a b=>?_⟩;obtain⟨r,i,g⟩:=e.eq w d [] [] l m rfl rfl a b;refine⟨r,?_,g⟩;show(Op.equalIn (d+h+1) t (.agg l.toArray) (.agg m.toArray)).run P w=_;rw[run_equalIn_agg w (d+h) t _ _ j f];simpa using i
theorem QO{t:TypeId}{h k:Nat}{fs:Array Field}{ok:List Value->Prop}(a:P.underlying t=some (.struct fs))(b:P.stoodInHeld t=false)(g:∀w,(isAgg t).run P w=.ok true w)(f:∀w,(sizeOf t).run P w=.ok k w)(d:QnZ P fs.toList h 0 k ok):Ql2 P t (h+1) k true ok:=by
 have e:P.fieldsOf t=fs:=by simp[Program.fieldsOf,a]
 exact Ql2.struct (by rw[e];exact a) b g f (by rw[e];exact d)
structure EqD (P:Program) (t:TypeId) {α:Type} (cells:α->List A):Prop where
 scl:∀x,QeL (cells x)=true
 inj:∀x y,YS (cells x)=YS (cells y)->x=y
 guard:P.eqGuardType P.depth t=false
 eq:∀(w:World) x y,∃b:Bool,(Op.equalIn 10000 t (.agg (YS (cells x)).toArray) (.agg (YS (cells y)).toArray)).run P w=.ok b w/\(b=true↔YS (cells x)=YS (cells y))
theorem QhJ{α:Type}{cells:α->List A}{t h k:Nat}{ok:List Value->Prop}(E:Ql2 P t h k true ok)(d:Nat.ble h 10000=true)(a:∀x,ok (YS (cells x)))(b:∀x,QeL (cells x)=true)(hi:∀x y,YS (cells x)=YS (cells y)->x=y)(hg:P.eqGuardType P.depth t=false):EqD P t cells:=by
 refine⟨b,hi,hg,λw x y=>?_⟩;have:=E.eq w (10000-h) (YS (cells x)) (YS (cells y)) (a x) (a y)
 rwa [show 10000-h+h=10000 by have:=XV d;omega]at this
variable {o:Oper} {env:Env} {H:Qd}
theorem QlQ{α:Type}[DecidableEq α]{cells:α->List A}{t u:TypeId}{x y:Operand}{p q:α}(E:EqD P t cells)(z:opA env x=.agg (cells p))(l:opA env y=.agg (cells q))(j:o.op=.binOp .eql t x y u:=by exact rfl):OpV P o env H (.bool (p==q)):=by
 intro B F σ N a w r;have g:=Qg r x;have h:=Qg r y;rw[z]at g;rw[l]at h;have m:=VR.val (a:=.agg (cells p)) (E.scl p) g;have i:=VR.val (a:=.agg (cells q)) (E.scl q) h;obtain⟨b,k,n⟩:=E.eq w p q;have s:b=(p==q):=by
  rw[X3,n,VC];exact⟨E.inj p q,λe=>by rw[e]⟩
 refine⟨.bool (p==q),?_,rfl⟩;rw[<- s];generalize a.eval=ρ at*;have d:ρ x=.agg (YS (cells p)).toArray:=m;have f:ρ y=.agg (YS (cells q)).toArray:=i;simp[execOp,j,d,f,go_sem,run_eqGuard_agg _ _ _ _ _ _ _ E.guard,run_eql_struct,k]
theorem QgM{α:Type}[DecidableEq α]{cells:α->List A}{t u:TypeId}{x y:Operand}{p q:α}(E:EqD P t cells)(z:opA env x=.agg (cells p))(l:opA env y=.agg (cells q))(j:o.op=.binOp .neq t x y u:=by exact rfl):OpV P o env H (.bool (p != q)):=by
 intro B F σ N a w r;have g:=Qg r x;have h:=Qg r y;rw[z]at g;rw[l]at h;have m:=VR.val (a:=.agg (cells p)) (E.scl p) g;have i:=VR.val (a:=.agg (cells q)) (E.scl q) h;obtain⟨b,k,n⟩:=E.eq w p q;have s:b=(p==q):=by
  rw[X3,n,VC];exact⟨E.inj p q,λe=>by rw[e]⟩
 refine⟨.bool (p != q),?_,rfl⟩;rw[bne, <- s];generalize a.eval=ρ at*;have d:ρ x=.agg (YS (cells p)).toArray:=m;have f:ρ y=.agg (YS (cells q)).toArray:=i;simp[execOp,j,d,f,go_sem,run_eqGuard_agg _ _ _ _ _ _ _ E.guard,run_neq_struct,k]
end
end Go.Sw
namespace Go.Sw
structure QfK (g g':Nat->Prop) (W W':World):Prop where
 sub:∀b,g b->g' b
 new:∀b,g' b->g b\/W.heap.size<=b
 lt:∀b,g' b->b<W'.heap.size
 all:∀b,W.heap.size<=b->b<W'.heap.size->g' b
 keep:∀b,b<W.heap.size->¬g b->W'.heap[b]?=W.heap[b]?
 size:W.heap.size<=W'.heap.size
 shape:∀b x,W.shape? b=some x->W'.shape? b=some x
 os:W'.os=W.os
 tape:W'.tape=W.tape
 output:W'.output=W.output
 drawn:W.drawn<=W'.drawn
abbrev Jv(T:Type):=List T->(Nat->Prop)->(Nat->Prop)->World->Prop
structure Qpi {T:Type} (J:Jv T):Prop where
 ev:∀rem q g W W' ro',J rem q g W->Qh g q W ro' W'->J rem q g W'
 up:∀rem q g g' W,J rem q g W->(∀b,g b->g' b)->(∀b,g' b->b<W.heap.size)->J rem q g' W
theorem Sim.round{fr g g' ro:Nat->Prop}{σ:Sig}{H:Qd}{W W':World}(s:Sim fr ro σ H W)(a:∀b,g b->fr b)(k:QfK g g' W W'):Sim (λb=>fr b\/g' b) ro σ H W'/\Qh (λb=>b<W.heap.size/\ ¬g b) ro W ro W':=by
 have e:∀b,ro b->W'.heap[b]?=W.heap[b]? :=λb q=>k.keep b (s.roLt b q) (λr=>s.roFr b q (a b r));have m:Ext ro σ W ro σ W':=by
  have ev:Qh (λ_=>False) ro W ro W':=⟨λ_ q=>q,e,λ_ q=>q.elim,k.size,k.shape,k.os,k.tape,k.output,k.drawn⟩;have:=ev.ext σ [];simpa using this
 refine⟨⟨s.len,s.roOk.to (λ_ q=>q) e (λb q=>Vj (s.roLt b q) k.size),λb q=>q.elim (λq=>Vj (s.frLt b q) k.size) (k.lt b),λb q r=>?_,λi b x h f w=>?_,s.inj,λi y x h f=>?_,
  s.hidTo (· = ·) QY k.size (λ_ _ _ _ _ _ _ q=>q) (λi b x c h f w F=>F.elim id λq=>(k.new c q).elim (a c) λl=>(by have:=(s.hid i b x c h f w).lt;omega)) λj d y p t G=>.inl ⟨j,y,rfl,p,t,id,λc q=>s.hidKeep p t (λz=>k.keep d (s.own j d y p t z).1 λr=>(s.own j d y p t z).2.2 (a d r)) e q⟩⟩,
  ⟨λ_ q=>q,e,λb q=>k.keep b q.1 q.2,k.size,k.shape,k.os,k.tape,k.output,k.drawn⟩⟩
 .rcases r with r|r
  .exact s.roFr b q r
  .rcases k.new b r with l|l
   .exact s.roFr b q (a b l)
   .have:=s.roLt b q;omega
 .obtain⟨u,E,n⟩:=s.own i b x h f w;refine⟨Vj u k.size,E,λr=>?_⟩;rcases r with r|r
  .exact n r
  .rcases k.new b r with l|l
   .exact n (a b l)
   .omega
 .refine(s.blk i y x h f).keep m ?_ ?_
  .rintro b rfl B;obtain⟨u,E,n⟩:=s.own i b x h f B;exact k.keep b u (λr=>n (a b r))
  .rintro b c rfl B;have q:=s.hid i b x c h f B;exact k.keep c q.lt (λr=>q.fr (a c r))
def Qqf{T:Type}(J Jx:Jv T)(g ri:Nat->Prop)(W1:World)(rem:List T):Ending->World->Prop:=λe W'=>
 ∃g' q',(∀b,q' b->ri b)/\QfK g g' W1 W'/\((e=.returned (.bool true)/\J rem q' g' W')\/(e=.returned (.bool false)/\Jx rem q' g' W'))
structure Ctx (T:Type) where
 l:Nat
 J:Jv T
 Jx:Jv T
 enc:T->List A
 nx:List T->T->List T->Prop
structure Ctx.ok {T:Type} (X:Ctx T) (P:Program):Prop where
 b:Qpi X.J
 bx:Qpi X.Jx
 round:∀l x rem q g ri W1 vs,X.nx l x rem->X.J l q g W1->(∀b,q b->ri b)->(∀b,ri b->b<W1.heap.size/\ ¬g b)->LR ri [] W1 (X.enc x) vs->YieldAt Fence.wide 0 P X.l vs.toArray W1 (Qqf X.J X.Jx g ri W1 rem)
def Qhz{T:Type}(P:Program)(f:FuncId)(caps:List A)(H:Qd)(enc:T->List A)(nx:List T->T->List T->Prop)(xs:List T):Prop:=
 ∀(X:Ctx T),X.enc=enc->X.nx=nx->X.ok P->∀fr ro σ w capv q,Sim fr ro σ H w->(∀b,q b->ro b)->LR ro σ w caps capv->X.J xs q fr w->
  Calls P f ((Value.func (.yield X.l) #[] #[]::capv)).toArray w λe W'=>(∃v,e=.returned v)/\ ∃g q',(∀b,fr b->g b)/\((X.J [] q' g W')\/(∃rem,X.Jx rem q' g W'))
inductive YSt (T:Type) where
 |on (rem:List T)
 |off (rem:List T)
def Ctx.J'{T:Type}(X:Ctx T):YSt T->(Nat->Prop)->(Nat->Prop)->World->Prop
 |.on rem=>X.J rem
 |.off rem=>X.Jx rem
def Ctx.at{T:Type}(X:Ctx T)(st:YSt T)(g ro:Nat->Prop)(W:World):Prop:=∃q,(∀b,q b->ro b)/\X.J' st q g W
theorem Qh.roMono{fr ro ro0 ro':Nat->Prop}{w w':World}(h:Qh fr ro w ro' w')(s:∀b,ro0 b->ro b):Qh fr ro0 w ro' w':=
 ⟨λb q=>h.sub b (s b q),λb q=>h.keepRo b (s b q),h.keepFr,h.size,h.shape,h.os,h.tape,h.output,h.drawn⟩
theorem Ctx.ok.ev{T:Type}{X:Ctx T}{P:Program}(h:X.ok P){e:YSt T}{g ro ro':Nat->Prop}{W W':World}(a:X.at e g ro W)(he:Qh g ro W ro' W'):X.at e g ro' W':=by
 obtain⟨q,d,a⟩:=a;refine⟨q,λb z=>he.sub b (d b z),?_⟩;cases e with
 |on rem=>exact h.b.ev rem q g W W' ro' a (he.roMono d)
 |off rem=>exact h.bx.ev rem q g W W' ro' a (he.roMono d)
theorem Ctx.ok.up{T:Type}{X:Ctx T}{P:Program}(h:X.ok P){d:YSt T}{g g' ro:Nat->Prop}{W:World}(a:X.at d g ro W)(hg:∀b,g b->g' b)(hl:∀b,g' b->b<W.heap.size):X.at d g' ro W:=by
 obtain⟨q,e,a⟩:=a;refine⟨q,e,?_⟩;cases d with
 |on rem=>exact h.b.up rem q g g' W a hg hl
 |off rem=>exact h.bx.up rem q g g' W a hg hl
abbrev YA(T:Type):=AEx->Env->Qd->YSt T->Prop
structure In (g fr:Nat->Prop) (ds:List Deferred):Prop where
 sub:∀b,g b->fr b
 beside:∀D,({target:=.collected D,args:= #[]}:Deferred)∈ds->¬g D
def Qdg{T:Type}(X:Ctx T)(h0:Nat)(fr ro:Nat->Prop)(σ:Sig)(w:World)(N:Nat)(ds:List Deferred)(Q:YA T):Exit->Act->World->Prop:=
 λe a' w'=>∃x env' H' st ro' σ' fr' g',ExR e x/\Q x env' H' st/\Rel fr' ro' σ' H' env' N a' w'/\(X.at st g' ro' w'/\In g' fr' a'.defers)/\(∀b,ro b->ro' b)/\w.heap.size<=w'.heap.size/\σ'.take h0=σ.take h0/\Grow fr w ds fr' a'.defers
theorem Qdg.grow{T:Type}{X:Ctx T}{h0:Nat}{fr g ro a:Nat->Prop}{σ σ1:Sig}{w w1:World}{N:Nat}{l f:List Deferred}{Q:YA T}{e:Exit}{a':Act}{w':World}
  (h:Qdg X h0 g a σ1 w1 N f Q e a' w')(z:∀b,ro b->a b)(k:w.heap.size<=w1.heap.size)(B:σ1.take h0=σ.take h0)(hg:Grow fr w l g f):Qdg X h0 fr ro σ w N l Q e a' w':=by
 obtain⟨x,d,H',n,j,σ',i,r,m,p,y,F,t,s,E,u⟩:=h;exact⟨x,d,H',n,j,σ',i,r,m,p,y,F,λb q=>t b (z b q),XZ k s,E.trans B,hg.trans k u⟩
def TCy{T:Type}(X:Ctx T)(P:Program)(h0 N:Nat)(c:Code)(env:Env)(H:Qd)(st:YSt T)(Q:YA T):Prop:=
 X.ok P->∀rd fr ro σ a w g,Rel fr ro σ H env N a w->X.at st g ro w/\In g fr a.defers->rd=none->c.wpIn (WF rd) 0 P (Qdg X h0 fr ro σ w N a.defers Q) a w
def WOy{T:Type}(X:Ctx T)(P:Program)(h0 N:Nat)(all:Array Oper)(l:List Oper)(env:Env)(H:Qd)(st:YSt T)(Q:YA T):Prop:=
 X.ok P->∀rd fr ro σ a w g,Rel fr ro σ H env N a w->X.at st g ro w/\In g fr a.defers->rd=none->wpL P rd all (Qdg X h0 fr ro σ w N a.defers Q) l a w
theorem In.later{fr a g:Nat->Prop}{w:World}{ds ds':List Deferred}(h:In g fr ds)(hl:∀b,fr b->b<w.heap.size)(hg:Grow fr w ds a ds'):In g a ds':=by
 refine⟨λb q=>hg.sub b (h.sub b q),λD hD q=>?_⟩;rcases hg.ds _ hD with r|⟨D',e,r⟩
 .exact h.beside D r q
 .have:D=D':=by simpa using e
  subst this;have:=hl D (h.sub D q);omega
section
variable {T:Type} {X:Ctx T} {P:Program} {h0 N:Nat} {c c':Code} {env:Env} {H:Qd} {st:YSt T} {Q:YA T}
theorem QlI{fr ro:Nat->Prop}{σ:Sig}{w:World}{f:List Deferred}{e:Exit}{a':Act}{w':World}(p:X.ok P)(h:QaQ h0 fr ro σ w N f (λx env H=>Q x env H st) e a' w'){g:Nat->Prop}(hl:∀b,fr b->b<w.heap.size)(i:X.at st g ro w/\In g fr f):
  Qdg X h0 fr ro σ w N f Q e a' w':=by
 obtain⟨x,a,H',d,σ',k,n,r,q,j,m,l⟩:=h;exact⟨x,a,H',st,d,σ',k,g,n,r,q,⟨p.ev i.1 (j.frMono i.2.sub),i.2.later hl l⟩,j.sub,j.size,m,l⟩
theorem TCy.lift(h:TC P h0 N c env H (λx env H=>Q x env H st)):TCy X P h0 N c env H st Q:=
 λhX rd fr ro σ a w g r hj hrd=>Code.wpIn_mono (λe a' w' q=>QlI hX q r.sim.frLt hj) (h rd fr ro σ a w r (hrd▸Qem.none))
def SeqY(X:Ctx T)(P:Program)(h0 N:Nat)(c:Code)(Q:YA T):YA T
 |.normal,env,H,st=>TCy X P h0 N c env H st Q
 |.exit id,env,H,st=>Q (.exit id) env H st
 |.ret,env,H,st=>Q .ret env H st
theorem TCy.seq(h:TCy X P h0 N c env H st (SeqY X P h0 N c' Q)):TCy X P h0 N (.seq c c') env H st Q:=by
 intro z y E F σ a w g r hj hrd;refine wpIn_seq (Code.wpIn_mono ?_ (h z y E F σ a w g r hj hrd));rintro e B G ⟨x,b,H',i,f,σ',d,p,j,k,t,n,s,l,u,m⟩;cases e with
 |normal=>
  obtain rfl:x=.normal:=j;exact Code.wpIn_mono (λe a w q=>q.grow s l u m) (k z y d f σ' B G p t n hrd)
 |exit id=>
  obtain rfl:x=.exit id:=j;exact⟨_,b,H',i,f,σ',d,p,rfl,k,t,n,s,l,u,m⟩
 |ret=>
  obtain rfl:x=.ret:=j;exact⟨_,b,H',i,f,σ',d,p,rfl,k,t,n,s,l,u,m⟩
 |_=>exact j.elim
theorem TCy.region{id:Nat}{l:List Oper}(h:WOy X P h0 N l.toArray l env H st Q):TCy X P h0 N (.region id l.toArray false) env H st Q:=
 λhX rd fr ro σ a w g r hj hrd=>wpIn_region_lit (h hX rd fr ro σ a w g r hj hrd)
theorem TCy.cond{x:Operand}{t:Bool}(l:opA env x=.bool t)(j:t=true->TCy X P h0 N c env H st Q)(k:t=false->TCy X P h0 N c' env H st Q):TCy X P h0 N (.cond x c c') env H st Q:=by
 intro b f d i σ a w g r hj hrd;have h:=Qg r x;rw[l]at h;exact wpIn_cond_split h (λe=>j e b f d i σ a w g r hj hrd) (λe=>k e b f d i σ a w g r hj hrd)
theorem WOy.nil{all:Array Oper}(h:Q .normal env H st):WOy X P h0 N all [] env H st Q:=
 λhX rd fr ro σ a w g r hj hrd=>⟨_,env,H,st,ro,σ,fr,g,rfl,h,r,hj,λ_ q=>q,XX _,rfl,Grow.refl _ _ _⟩
end
theorem Qjd{P:Program}{rd:Option Nat}{o:Oper}{a:Act}{K K':Act->World->Prop}{Q Q':Exit->Act->World->Prop}(b:∀a w,K a w->K' a w)(i:∀ch a w,Q (.panic ch) a w->Q' (.panic ch) a w)(m:∀a w,Q .outgrown a w->Q' .outgrown a w)
  {r:Result Next}(h:o.uponIn (WF rd) 0 P a K Q r):o.uponIn (WF rd) 0 P a K' Q' r:=by
 cases r with
 |ok x w=>
  cases x with
  |value v=>exact b _ _ h
  |skip=>exact b _ _ h
  |defer d=>exact b _ _ h
  |enter f g=>
   refine⟨h.1,CallsIn.mono h.2 ?_⟩;intro e n q;cases e with
   |returned v=>exact b _ _ q
   |panicked c=>exact i _ _ _ q
   |outgrown=>obtain⟨a,w,q⟩:=q;exact⟨a,w,m _ _ q⟩
  |row r g=>exact⟨h.1,RowsIn.mono h.2 λv n q=>b _ _ q⟩
  |round l f k assign j=>
   refine⟨h.1,RoundIn.mono h.2 ?_⟩;intro e n q;cases e with
   |returned v=>exact b _ _ q
   |panicked c=>exact i _ _ _ q
   |outgrown=>obtain⟨a,w,q⟩:=q;exact⟨a,w,m _ _ q⟩
  |_=>exact h
 |halt x w=>
  cases x with
  |panic v=>exact i _ _ _ h
  |_=>exact h
section
variable {T:Type} {X:Ctx T} {P:Program} {h0 N:Nat} {env:Env} {H:Qd} {st:YSt T} {Q:YA T}
theorem WOy.step{all:Array Oper}{o:Oper}{rest:List Oper}(h:WO P h0 N all [o] env H (λx env' H'=>x=.normal/\WOy X P h0 N all rest env' H' st Q)):WOy X P h0 N all (o::rest) env H st Q:=by
 intro z m p s σ a w g r hj hrd;have u:∀i j,Qb3 h0 p s σ w N a.defers (λx env' H'=>x=.normal/\WOy X P h0 N all rest env' H' st Q) .normal i j->wpL P m all (Qdg X h0 p s σ w N a.defers Q) rest i j:=by
  rintro i j ⟨x,env',H',f,σ',d,J,⟨_,E⟩,G,n,F,y,B⟩;have t:X.at st g f j/\In g d i.defers:=⟨z.ev hj.1 (n.frMono hj.2.sub),by rw[y];exact hj.2.later r.sim.frLt B⟩;have:=E z m d f σ' i j g G t hrd;refine Yh (λe k w2 q=>?_) _ _ _ this;exact q.grow n.sub n.size F (by rw[y];exact B)
 have b:=h m p s σ a w r (hrd▸Qem.none);unfold wpL wpListIn at b⊢;split
 .rename_i l;rw[Vx l]at b;refine⟨b.1,Qjd (λk w2 q=>?_) (λL k w2 q=>?_) (λk w2 q=>?_) b.2⟩
  .unfold wpListIn at q;exact u k w2 q
  .obtain⟨x,_,_,_,_,_,q,_⟩:=q;exact q.elim
  .obtain⟨x,_,_,_,_,_,q,_⟩:=q;exact q.elim
 .rename_i l;rw[Vw l]at b;refine⟨b.1,?_⟩;have q:=b.2;unfold wpListIn at q;exact u _ _ q
theorem WOy.yield{all:Array Oper}{o:Oper}{rest:List Oper}{d:Nat}{x:T}{L rem:List T}(M:X.nx L x rem)(hg:Qp all o env true)(E:o.dst=some d)(hN:Nat.blt d N=true)
  (O:∀fr ro σ a w,Rel fr ro σ H env N a w->∃vs:List Value,LR ro [] w (X.enc x) vs/\(execOp a.eval o).run P w=(Instr.yield X.l vs.toArray).run P w)
  (k:∀b:Bool,WOy X P h0 N all rest (up env d (.bool b)) H (bif b then .on rem else .off rem) Q):WOy X P h0 N all (o::rest) env H (.on L) Q:=by
 intro W J fr ro σ a w g r hj hrd;obtain⟨vs,hv,he⟩:=O fr ro σ a w r;obtain⟨q,hq,R⟩:=hj.1;obtain⟨fn,tmps,assign,V,h1,Y⟩:=W.round L x rem q g ro w vs M R hq (λb z=>⟨r.sim.roLt b z,λy=>r.sim.roFr b z (hj.2.sub b y)⟩) hv;have h3:=he.trans h1;unfold wpL wpListIn;rw[Vx (YD hg r)];refine⟨λ_ _=>trivial,?_⟩;rw[QcO h3 (λd e=>by cases e)];refine⟨λh=>by simp[WF,Fence.wide]at h,?_⟩;refine RoundIn.mono (F:=WF J) (n:=0) Y ?_;rintro e j ⟨i,p,m,t,f⟩;obtain⟨s',ev⟩:=r.sim.round hj.2.sub t;have G:d<N:=by simpa using hN
 have u:Ext ro σ w ro σ j:=by have:=ev.ext σ [];simpa using this
 have fin:∀b:Bool,X.at (bif b then .on rem else .off rem) i ro j->wpL P J all (Qdg X h0 fr ro σ w N a.defers Q) rest (a.put o.dst (.bool b)) j:=by
  intro b f;have hm:Qdj (λb=>fr b\/i b) a.defers j:=by
   refine⟨r.defers.1,λd E=>?_⟩;obtain⟨D,rfl,B,q2⟩:=r.defers.2 d E;exact⟨D,rfl,.inl B,(t.keep D (r.sim.frLt D B) (hj.2.beside D E)).trans q2⟩
  have hi:In i (λb=>fr b\/i b) a.defers:=by
   refine⟨λb q=>.inr q,λD hD q=>?_⟩;rcases t.new D q with p|p
   .exact hj.2.beside D hD p
   .obtain⟨D',e,B,_⟩:=r.defers.2 _ hD;have:D=D':=by simpa using e
    subst this;have:=r.sim.frLt D B;omega
  have r':Rel (λb=>fr b\/i b) ro σ H (up env d (.bool b)) N {a with tmps:=a.tmps.setIfInBounds d (.bool b)} j:=
   ⟨s',VR.up (fr:=fr) (λs=>(r.env s).mono u) (by rw[r.size];exact G) rfl,by simpa using r.size,hm⟩
  have:=k b W J _ ro σ _ j i r' ⟨f,hi⟩ hrd;simp only[E,Act.put];refine Yh (λe a2 w2 q=>q.grow (λ_ q=>q) t.size rfl ⟨λ_ q=>.inl q,λb q=>?_,λ_ q=>.inl q⟩) _ _ _ this;rcases q with q|q
  .exact .inl q
  .rcases t.new b q with q|q
   .exact .inl (hj.2.sub b q)
   .exact .inr q
 rcases f with⟨rfl,f⟩|⟨rfl,f⟩
 .exact fin true ⟨p,m,f⟩
 .exact fin false ⟨p,m,f⟩
end
def EndY{T:Type}:YA T:=λx env H st=>(x=.normal\/x=.ret)/\(st=.on []\/ ∃rem,st=.off rem)
theorem Qdd{T:Type}{P:Program}{f:FuncId}{fn:Func}{c:Code}{N:Nat}{a:List A}{H:Qd}{enc:T->List A}{nx:List T->T->List T->Prop}{xs:List T}
  (hf:P.funcs[f]?=some fn)(hb:fn.body=some c)(hN:fn.ntmps=N)(hA:Nat.ble (a.length+1) N=true)(Y:fn.results= #[])
  (h:∀X:Ctx T,X.enc=enc->X.nx=nx->TCy X P H.length N c (QgB 0 (.fn (.yield X.l) [] []::a)) H (.on xs) EndY):Qhz P f a H enc nx xs:=by
 intro X hE hNx hX fr ro0 σ w capv q0 hs hq0 hl hj;have r:LR ro0 σ w (.fn (.yield X.l) [] []::a) (Value.func (.yield X.l) #[] #[]::capv):=⟨_,_,rfl,⟨[],[],rfl,rfl,rfl⟩,hl⟩;have m:=r.length;have aa:a.length+1<=N:=by simpa using hA
 refine(callsIn_wide (n:=0)).1 (callsIn_of_wp_marks hf hb trivial (Code.wpIn_mono ?_ (h X hE hNx hX none fr ro0 σ _ w fr ⟨hs,?_,?_,List.nodup_nil,λd y=>by cases y⟩ ⟨⟨q0,hq0,hj⟩,λ_ q=>q,λD hD=>by cases hD⟩ rfl)))
 .rintro e L R ⟨x,V,H1,st,E,σ1,ab,M,Q,⟨W,B⟩,k,⟨h4,j⟩,h5,h6,h7,h8⟩;have t:LeavesInM Fence.wide 0 P fn L.tmps (λe W'=>(∃v,e=.returned v)/\ ∃g q',(∀b,fr b->g b)/\((X.J [] q' g W')\/(∃rem,X.Jx rem q' g W'))) L.defers .returning R:=by
   refine Qbs (ro:=E) (fr:=M) (σ:=σ1) (H:=H1) L.defers R k.defers.1 (λd y=>?_) (k.sim.frMono j.sub) (λw2 s2 p=>?_)
   .obtain⟨D,rfl,O,q2⟩:=k.defers.2 d y;exact⟨D,rfl,λq=>k.sim.roFr D q O,j.beside D y,λi x z G F=>(k.sim.own i D x z G F).2.2 O,λi d x z G F=>(k.sim.hid i d x D z G F).fr O,q2⟩
   .have u:=hX.up (hX.ev h4 p) (g':=λb=>M b\/fr b) (λb q=>.inl q) (λb q=>Vj (k.sim.frLt b (q.elim (j.sub b) (h8.sub b))) p.size);obtain⟨q9,_,u⟩:=u;refine⟨.tuple #[],by simp[results,Y,go_sem],⟨_,rfl⟩,λb=>M b\/fr b,q9,λb q=>.inr q,?_⟩;rcases B with rfl|⟨rem,rfl⟩
    .exact .inl u
    .exact .inr ⟨rem,u⟩
  cases e with
  |normal=>exact t
  |ret=>exact t
  |exit id=>
   obtain rfl:x=.exit id:=Q;rcases W with q|q<;>cases q
  |_=>exact Q.elim
 .intro s;have:=Qe6 (i:=0) [] rfl r (Array.replicate (fn.ntmps-(Value.func (.yield X.l) #[] #[]::capv).toArray.size) undef) s;simpa using this
 .simp only[X5]at m;simp[hN];omega
section
variable {T:Type} {X:Ctx T} {P:Program} {h0 N:Nat} {c c':Code} {env:Env} {H:Qd} {st:YSt T} {Q Q':YA T}
theorem TCy.mono(h:TCy X P h0 N c env H st Q)(s:∀x env H st,Q x env H st->Q' x env H st):TCy X P h0 N c env H st Q':=by
 intro j m l t σ a w g r hj hrd;refine Code.wpIn_mono ?_ (h j m l t σ a w g r hj hrd);rintro e y u ⟨x,b,H',f,d,σ',i,q,k,p,n⟩;exact⟨x,b,H',f,d,σ',i,q,k,s _ _ _ _ p,n⟩
theorem TCy.skip(h:Q .normal env H st):TCy X P h0 N .skip env H st Q:=TCy.lift (TC.skip h)
theorem TCy.ret(h:Q .ret env H st):TCy X P h0 N .ret env H st Q:=TCy.lift (TC.ret h)
theorem TCy.exit{id:Nat}(h:Q (.exit id) env H st):TCy X P h0 N (.exit id) env H st Q:=TCy.lift (TC.exit h)
def BloY(id:Nat)(Q:YA T):YA T
 |.normal,env,H,st=>Q .normal env H st
 |.exit id',env,H,st=>bif Nat.beq id' id then Q .normal env H st else Q (.exit id') env H st
 |.ret,env,H,st=>Q .ret env H st
theorem TCy.block{id:Nat}(h:TCy X P h0 N c env H st (BloY id Q)):TCy X P h0 N (.block id c) env H st Q:=by
 intro p t s u σ a w g r hj hrd;refine wpIn_block (Code.wpIn_mono ?_ (h p t s u σ a w g r hj hrd));rintro e B z ⟨x,b,H',i,f,σ',j,n,l,k,m⟩;cases e with
 |normal=>
  obtain rfl:x=.normal:=l;exact⟨_,b,H',i,f,σ',j,n,rfl,k,m⟩
 |exit d=>
  obtain rfl:x=.exit d:=l;show Exit.inBlock id _ _ _ _;unfold Exit.inBlock;simp only[BloY]at k;by_cases q:d=id
  .subst q;rw[VJ,Vt]at k;simp only[if_true];exact⟨.normal,b,H',i,f,σ',j,n,rfl,k,m⟩
  .have y:Nat.beq d id=false:=by
    cases e:Nat.beq d id with
    |false=>rfl
    |true=>exact absurd (XU e) q
   rw[y,Vu]at k;simp only[q,if_false];exact⟨.exit d,b,H',i,f,σ',j,n,rfl,k,m⟩
 |ret=>
  obtain rfl:x=.ret:=l;exact⟨_,b,H',i,f,σ',j,n,rfl,k,m⟩
 |_=>exact l.elim
end
section
variable {T:Type} {X:Ctx T} {P:Program} {h0 N:Nat} {c:Code} {env:Env} {H:Qd} {st:YSt T} {Q:YA T}
def QlW(I:Env->Qd->YSt T->Prop)(Q:YA T):YA T
 |.normal,env,H,st=>I env H st
 |.exit id,env,H,st=>Q (.exit id) env H st
 |.ret,env,H,st=>Q .ret env H st
theorem QgI{I:Nat->Env->Qd->YSt T->Prop}(body:∀n env H st,I n env H st->TCy X P h0 N c env H st (QlW (λenv H st=>∃n',n'<n/\I n' env H st) Q)){n:Nat}(E:I n env H st):TCy X P h0 N (.loop c) env H st Q:=by
 intro hX M y z σ a w g r hj hrd b k cs hro hb hr;have G:∀m n env H st fr1 ro1 σ1 a1 w1 g1,n<m->I n env H st->Rel fr1 ro1 σ1 H env N a1 w1->(∀b,z b->ro1 b)->w.heap.size<=w1.heap.size->σ1.take h0=σ.take h0->Grow y w a.defers fr1 a1.defers->X.at st g1 ro1 w1/\In g1 fr1 a1.defers->
   ∃e h i,Qdg X h0 y z σ w N a.defers Q e h i/\ArrivesIn (Machine.fenced P (WF M)) P (lone (b.atR a1 (.code c::.inLoop c::k)) cs w1) b k cs e h i:=by
  intro m
  induction m with
  |zero=>intro n env H st fr1 ro1 σ1 a1 w1 g1 hn;exact absurd hn (Xn _)
  |succ m ih=>
   intro n env H st fr1 ro1 σ1 a1 w1 g1 hn E r1 s1 z1 t1 gr1 j1;obtain⟨e,h,i,F,d⟩:=body n env H st E hX M fr1 ro1 σ1 a1 w1 g1 r1 j1 hrd b (.inLoop c::k) cs hro hb hr;obtain⟨x,f,H',l,t,σ',s,W,B,u,L,R,q5,V,q7,q8⟩:=F;have Y:=λb q=>q5 b (s1 b q);have p:=gr1.trans z1 q8;have O:∀x,Q x f H' l->ExR e x->Qdg X h0 y z σ w N a.defers Q e h i:=λx q q'=>⟨x,f,H',l,t,σ',s,W,q',q,L,R,Y,XZ z1 V,q7.trans t1,p⟩;cases e with
   |normal=>
    obtain rfl:x=.normal:=B;obtain⟨n',aa,u⟩:=u;obtain⟨e2,a2,w2,J,j⟩:=ih n' f H' l s t σ' h i W (by omega) u L Y (XZ z1 V) (q7.trans t1) p R;exact⟨e2,a2,w2,J,.of_steps (StepsIn.trans d (.one (fenced_calm hb hr rfl) stepR_inLoop)) j⟩
   |exit id=>
    obtain rfl:x=.exit id:=B;exact⟨_,h,i,O _ u rfl,.pass (x:=.inLoop c) rfl (λ_ _=>.inl (by simp)) d⟩
   |ret=>
    obtain rfl:x=.ret:=B;exact⟨_,h,i,O _ u rfl,.pass (x:=.inLoop c) rfl (λ_ _=>.inl (by simp)) d⟩
   |_=>exact B.elim
 obtain⟨e,h,i,F,d⟩:=G (n+1) n env H st y z σ a w g (Xo _) E r (λ_ q=>q) (XX _) rfl (Grow.refl _ _ _) hj;exact⟨e,h,i,F,.of_steps (.one (fenced_calm hb hr rfl) stepR_loop) d⟩
end
end Go.Sw
namespace Go.Sw
theorem Sim.part{fr ro:Nat->Prop}{σ:Sig}{H:Qd}{w:World}(s0:Sim fr ro σ H w){π:List Nat}{Hc:Qd}(hH:π.map (λp=>H[p]?)=(Hc.map (QU (rho π H.length))).map some)(hπ:π.Nodup):
  Sim (λb=>fr b\/(∃i x,σ[i]?=some (some b)/\H[i]?=some x/\x.live=true/\i∉π)\/ ∃i x d,σ[i]?=some (some d)/\H[i]?=some x/\Hid w x d b/\i∉π) ro (Ye σ π) Hc w/\ ∀j:Nat,σ[rho π H.length j]?=(Ye σ π)[j]? :=by
 have hp:∀p∈π,p<H.length:=λp q=>Ji hH q;have hσl:=s0.len;have n:∀(j p:Nat),π[j]?=some p->H[p]?=(Hc[j]?).map (QU (rho π H.length)):=by
  intro j p a;have:=congrArg (λl=>l[j]?) hH;simp only[Xq,a,Xk]at this;cases e:Hc[j]? with
  |none=>rw[e]at this;simp at this
  |some x=>rw[e]at this;simpa using this
 have L:π.length=Hc.length:=by simpa using congrArg List.length hH
 have hσc:∀j:Nat,σ[rho π H.length j]?=(Ye σ π)[j]? :=by
  intro j;have:=Qeo (τ:=[]) hσl hp j;simpa using this
 have hπj:∀(j b:Nat),(Ye σ π)[j]?=some (some b)->∃p,π[j]?=some p/\σ[p]?=some (some b):=by
  intro j b a;simp only[Ye,Xq]at a;cases e:π[j]? with
  |none=>rw[e]at a;simp at a
  |some p=>
   rw[e]at a;simp at a;refine⟨p,rfl,?_⟩;cases r:σ[p]? with
   |none=>rw[r]at a;simp at a
   |some s=>rw[r]at a;simp at a;rw[a]
 refine⟨?_,hσc⟩
 .refine⟨by simp[Ye,L],s0.roOk,?_,?_,?_,?_,?_,?_⟩
  .rintro b (O|⟨i,x,g,m,h,N⟩|⟨i,x,d,g,m,h,N⟩)
   .exact s0.frLt b O
   .exact(s0.own i b x g m h).1
   .exact(s0.hid i d x b g m h).lt
  .rintro b O (Q|⟨i,x,g,m,h,N⟩|⟨i,x,d,g,m,h,N⟩)
   .exact s0.roFr b O Q
   .exact(s0.own i b x g m h).2.1 O
   .exact(s0.hid i d x b g m h).ro O
  .intro j b x g m h;obtain⟨p,f,r⟩:=hπj j b g;have B:H[p]?=some (QU (rho π H.length) x):=by rw[n j p f,m];rfl
   obtain⟨o1,o2,o3⟩:=s0.own p b _ r B (by rw[QM];exact h);refine⟨o1,o2,?_⟩;rintro(Q|⟨i,y,y1,y2,F,M⟩|⟨i,y,d,y1,y2,F,M⟩)
   .exact o3 Q
   .have:=s0.inj i p b _ _ y1 r y2 B F (by rw[QM];exact h);subst this;exact M (VL f)
   .exact(s0.hid i d y b y1 y2 F).ne p b _ r B (by rw[QM];exact h) rfl
  .intro i j b x y g m h N q5 q6;obtain⟨p,f,r⟩:=hπj i b g;obtain⟨t,u,V⟩:=hπj j b m;have B:H[p]?=some (QU (rho π H.length) x):=by rw[n i p f,h];rfl
   have W:H[t]?=some (QU (rho π H.length) y):=by rw[n j t u,N];rfl
   have:=s0.inj p t b _ _ r V B W (by rw[QM];exact q5) (by rw[QM];exact q6);subst this;have G:i<π.length:=by
    rcases VG i π.length with q|q
    .exact q
    .rw[XS q]at f;simp at f
   have a:j<π.length:=by
    rcases VG j π.length with q|q
    .exact q
    .rw[XS q]at u;simp at u
   rw[XO G]at f;rw[XO a]at u;have z:=(X4 f).trans (X4 u).symm;rcases Nat.lt_trichotomy i j with q|q|q
   .exact(VI.1 hπ i j G a q z).elim
   .exact q
   .exact(VI.1 hπ j i a G q z.symm).elim
  .intro j s x g m;have a:j<π.length:=by
    rcases VG j π.length with q|q
    .exact q
    .rw[XS (by simpa[Ye]using q)]at g;simp at g
   have f:π[j]?=some π[j]:=XO a;have B:H[π[j]]?=some (QU (rho π H.length) x):=by rw[n j _ f,m];rfl
   have r:σ[π[j]]?=some s:=by
    have:=hσc j;rw[g]at this;simpa[rho,f]using this
   exact(QhN hσc).1 (s0.blk _ s _ r B)
  .intro j b x c g m h;obtain⟨p,f,r⟩:=hπj j b g;have B:H[p]?=some (QU (rho π H.length) x):=by rw[n j p f,m];rfl
   have k:=s0.hid p b _ c r B ((Qam _ _ _ _ _).2 h);refine⟨k.lt,k.ro,?_,?_,?_⟩
   .rintro(Q|⟨i,y,y1,y2,F,M⟩|⟨i,y,d,y1,y2,F,M⟩)
    .exact k.fr Q
    .exact k.ne i c y y1 y2 F rfl
    .obtain⟨rfl,rfl⟩:=k.one i d y y1 y2 F;exact M (VL f)
   .intro E P y Y X R;obtain⟨t,J,T⟩:=hπj E P Y;exact k.ne t P _ T (show H[t]?=some (QU (rho π H.length) y)by rw[n E t J,X];rfl) (by rw[QM];exact R)
   .intro E P y Y X R;obtain⟨t,J,T⟩:=hπj E P Y;obtain⟨z4,z5⟩:=k.one t P _ T (show H[t]?=some (QU (rho π H.length) y)by rw[n E t J,X];rfl) ((Qam _ _ _ _ _).2 R);subst z5;have G:E<π.length:=(XP.1 J).1;have a:j<π.length:=(XP.1 f).1;rw[XO G]at J;rw[XO a]at f;have z:=(X4 J).trans (X4 f).symm;refine⟨z4,?_⟩;rcases Nat.lt_trichotomy E j with q|q|q
    .exact(VI.1 hπ E j G a q z).elim
    .exact q
    .exact(VI.1 hπ j E a G q z.symm).elim
theorem Sim.frames{fr fr' ro:Nat->Prop}{σ:Sig}{H:Qd}{w:World}(s:Sim fr ro σ H w)(lt:∀b,fr' b->b<w.heap.size)(hro:∀b,ro b->¬fr' b)(own:∀(i b:Nat) (x:Blk),σ[i]?=some (some b)->H[i]?=some x->x.live=true->¬fr' b)
  (hd:∀(i b:Nat) (x:Blk) (c:Nat),σ[i]?=some (some b)->H[i]?=some x->Hid w x b c->¬fr' c):Sim fr' ro σ H w:=
 ⟨s.len,s.roOk,lt,hro,λi b x q1 q2 q3=>⟨(s.own i b x q1 q2 q3).1,(s.own i b x q1 q2 q3).2.1,own i b x q1 q2 q3⟩,s.inj,s.blk,
  s.hidTo (· = ·) QY (XX _) (λ_ _ _ _ _ _ _ q=>q) (λi b x c q1 q2 q3 q4=>(hd i b x c q1 q2 q3 q4).elim) λj d y g1 g2 g3=>.inl ⟨j,y,rfl,g1,g2,id,λ_ q=>q⟩⟩
def Qkv(H:Qd)(p:Nat):Qd:=match H[p]? with
 |some x=>bif x.holds then H.set p .dead else H
 |none=>H
def Qd3:Qd->List Nat->Qd
 |H,[]=>H
 |H,p::π=>Qd3 (Qkv H p) π
theorem Qd4(H:Qd)(p:Nat):(Qkv H p=H/\ ∀x,H[p]?=some x->x.holds=false)\/Qkv H p=H.set p .dead:=by
 unfold Qkv;cases h:H[p]? with
 |none=>exact .inl ⟨rfl,λx q=>by cases q⟩
 |some x=>
  cases q:x.holds with
  |false=>exact .inl ⟨by simp[q],λy a=>by cases a;exact q⟩
  |true=>exact .inr (by simp[q])
theorem Qe7:∀(π:List Nat) (H:Qd) (i:Nat) (x:Blk),(Qd3 H π)[i]?=some x->x=.dead\/(H[i]?=some x/\(x.holds=true->i∉π))
 |[],H,i,x,h=>.inr ⟨h,λ_=>by simp⟩
 |p::π,H,i,x,h=>by
  rcases Qe7 π _ i x h with h|⟨h1,h2⟩
  .exact .inl h
  .rcases Qd4 H p with⟨e,hl⟩|e
   .rw[e]at h1;refine .inr ⟨h1,λhx=>?_⟩;simp only[Va,not_or];refine⟨λq=>?_,h2 hx⟩;subst q;have:=hl x h1;rw[this]at hx;cases hx
   .rw[e]at h1;by_cases q:p=i
    .subst q;rw[Xb]at h1;simp at h1;exact .inl h1.2.symm
    .rw[XT q]at h1;exact .inr ⟨h1,λhx=>by simp only[Va,not_or];exact⟨λr=>q r.symm,h2 hx⟩⟩
theorem QdM{fr ro:Nat->Prop}{σ:Sig}{w:World}:∀(π:List Nat) {H:Qd} (s:Sim fr ro σ H w),Sim fr ro σ (Qd3 H π) w
 |[],_,s=>s
 |p::π,H,s=>by
  rw[Qd3];rcases Qd4 H p with h|h
  .rw[h.1];exact QdM π s
  .rw[h];exact QdM π (s.kill p)
theorem Sim.put{fr ro:Nat->Prop}{σ:Sig}{H:Qd}{w:World}(s:Sim fr ro σ H w){b:Nat}{obj:Obj}(l:fr b)(n:w.shape? b=none):
  Sim fr ro σ H (w.putObj b obj)/\Qh (λc=>c≠b) ro w ro (w.putObj b obj):=by
 have a:∀c,c≠b->(w.putObj b obj).heap[c]?=w.heap[c]? :=λc B=>World.putObj_heap_other B;have f:(w.putObj b obj).heap.size=w.heap.size:=by simp
 have t:∀c,ro c->c≠b:=λc q e=>s.roFr c q (e▸l);have ev:Qh (λc=>c≠b) ro w ro (w.putObj b obj):=by
  refine⟨λ_ q=>q,λc q=>a c (t c q),λc q=>a c q,by rw[f];exact XX _,λc x q=>?_,rfl,rfl,rfl,XX _⟩;by_cases e:c=b
  .subst e;rw[n]at q;cases q
  .unfold World.shape? at q⊢;rw[a c e];exact q
 have h:Ext ro σ w ro σ (w.putObj b obj):=by have:=ev.ext σ [];simpa using this
 refine⟨⟨s.len,s.roOk.to (λ_ q=>q) ev.keepRo (λc q=>by rw[f];exact s.roLt c q),λc q=>by rw[f];exact s.frLt c q,s.roFr,λi c x g k G=>?_,s.inj,λi y x g k=>?_,
  s.hidTo (· = ·) QY (by rw[f];exact XX _) (λ_ _ _ _ _ _ _ q=>q) (λ_ _ _ _ _ _ _ q=>q) λj d y m r J=>.inl ⟨j,y,rfl,m,r,id,λc q=>s.hidKeep m r (λz=>a d (λe=>(s.own j d y m r z).2.2 (e▸l))) ev.keepRo q⟩⟩,ev⟩
 .obtain⟨E,F,u⟩:=s.own i c x g k G;exact⟨by rw[f];exact E,F,u⟩
 .refine(s.blk i y x g k).keep h ?_ ?_
  .rintro c rfl p;exact a c (λe=>(s.own i c x g k p).2.2 (e▸l))
  .rintro d c rfl p;exact a c (λe=>(s.hid i d x c g k p).fr (e▸l))
theorem Qbr{w:World}{l:Nat}{r:Loop}(h:w.heap[l]?=some (.loop r)):w.shape? l=none:=by
 unfold World.shape?;rw[h]
structure Fix where
 fr:Nat->Prop
 ro:Nat->Prop
 σ:Sig
 w:World
 h1:Nat
 env:Env
 tmps:Array Value
 ds1:List Deferred
 l:Nat
 rc:LoopState->Option Code->Loop
 fr1:Nat->Prop
structure Fix.Ok (D:Fix):Prop where
 sub:∀b,D.fr b->D.fr1 b
 l1:D.fr1 D.l
 lf:¬D.fr D.l
 len:D.σ.length=D.h1
structure RJ (D:Fix) (ro1:Nat->Prop) (σ1:Sig) (H:Qd) (st:LoopState) (pe:Option Code) (q g:Nat->Prop) (W:World):Prop where
 sim:Sim D.fr1 ro1 σ1 H W
 env:∀t,VR ro1 D.σ W (lk D.env t) (D.tmps.getD t undef)
 sig:σ1.take D.h1=D.σ
 ev:Qh D.fr D.ro D.w ro1 W
 marks:Qdj D.fr1 D.ds1 W
 rc:W.heap[D.l]?=some (.loop (D.rc st pe))
 roG:∀b,ro1 b->q b\/g b
 frG:∀b,D.fr1 b->g b
 own:∀(i b:Nat) (x:Blk),σ1[i]?=some (some b)->H[i]?=some x->x.live=true->g b
 hidG:∀(i b:Nat) (x:Blk) (c:Nat),σ1[i]?=some (some b)->H[i]?=some x->Hid W x b c->g c
 lt:∀b,g b->b<W.heap.size
theorem QdU{σ σ1:Sig}{a:Nat}(h:σ1.take a=σ){i b:Nat}(q:σ[i]?=some (some b)):σ1[i]?=some (some b):=by
 subst h;rw[List.getElem?_take]at q;split at q
 .exact q
 .cases q
section
variable {D:Fix} {ro1:Nat->Prop} {σ1:Sig} {H:Qd} {st:LoopState} {pe:Option Code} {qR g:Nat->Prop} {W:World}
theorem RJ.step(r:D.Ok)(j:RJ D ro1 σ1 H st pe qR g W){ro':Nat->Prop}{W':World}(e:Qh g qR W ro' W'):RJ D ro1 σ1 H st pe qR g W':=by
 have a:∀b,ro1 b->W'.heap[b]?=W.heap[b]? :=λb q=>(j.roG b q).elim (e.keepRo b) (e.keepFr b);have ev:Qh D.fr1 ro1 W ro1 W':=⟨λ_ q=>q,a,λb q=>e.keepFr b (j.frG b q),e.size,e.shape,e.os,e.tape,e.output,e.drawn⟩;have k:∀σ,Ext ro1 σ W ro1 σ W':=λ σ=>by have:=ev.ext σ [];simpa using this
 refine⟨⟨j.sim.len,j.sim.roOk.to (λ_ q=>q) a (λb q=>Vj (j.sim.roLt b q) e.size),λb q=>Vj (j.sim.frLt b q) e.size,j.sim.roFr,λi b x h f m=>?_,j.sim.inj,λi z x h f=>?_,
  j.sim.hidTo (· = ·) QY e.size (λ_ _ _ _ _ _ _ q=>q) (λ_ _ _ _ _ _ _ q=>q) λi d y l p w=>.inl ⟨i,y,rfl,l,p,id,λc q=>j.sim.hidKeep l p (λz=>e.keepFr d (j.own i d y l p z)) a q⟩⟩,
  λt=>(j.env t).mono (k _),j.sig,j.ev.trans (ev.frMono r.sub),j.marks.keep ev,(ev.keepFr _ r.l1).trans j.rc,j.roG,j.frG,j.own,λi b x c h f m=>j.hidG i b x c h f (j.sim.hidKeep h f (λz=>e.keepFr b (j.own i b x h f z)) a m),λb q=>Vj (j.lt b q) e.size⟩
 .obtain⟨s,u⟩:=j.sim.own i b x h f m;exact⟨Vj s e.size,u⟩
 .refine(j.sim.blk i z x h f).keep (k _) ?_ ?_
  .rintro b rfl n;exact e.keepFr b (j.own i b x h f n)
  .rintro b c rfl n;exact e.keepFr c (j.hidG i b x c h f n)
theorem RJ.up{g':Nat->Prop}(j:RJ D ro1 σ1 H st pe qR g W)(h:∀b,g b->g' b)(hl:∀b,g' b->b<W.heap.size):RJ D ro1 σ1 H st pe qR g' W:=
 {j with roG:=λb q=>(j.roG b q).imp id (h b),frG:=λb q=>h b (j.frG b q),own:=λi b x q1 q2 q3=>h b (j.own i b x q1 q2 q3),hidG:=λi b x c q1 q2 q3=>h c (j.hidG i b x c q1 q2 q3),lt:=hl}
def FrB(D:Fix)(ro1 g:Nat->Prop)(W:World):Nat->Prop:=λb=>(D.fr1 b\/(¬g b/\ ¬ro1 b))/\b<W.heap.size
theorem RJ.simB(j:RJ D ro1 σ1 H st pe qR g W):Sim (FrB D ro1 g W) ro1 σ1 H W:=by
 refine j.sim.frames (λb q=>q.2) (λb q r=>?_) (λi b x e a d r=>?_) (λi b x c e a d r=>r.1.elim (j.sim.hid i b x c e a d).fr λr=>r.1 (j.hidG i b x c e a d))
 .rcases r.1 with r|r
  .exact j.sim.roFr b q r
  .exact r.2 q
 .rcases r.1 with r|r
  .exact(j.sim.own i b x e a d).2.2 r
  .exact r.1 (j.own i b x e a d)
theorem RJ.fin(G:D.Ok)(j:RJ D ro1 σ1 H st pe qR g W){w ro':Nat->Prop}{σ':Sig}{H':Qd}{W':World}{st':LoopState}{pe':Option Code}
  (ev:Qh (λb=>FrB D ro1 g W b/\b≠D.l) ro1 W ro' W')(s:Sim w ro' σ' H' W')(u:∀b,FrB D ro1 g W b->w b)(hσ:σ'.take D.h1=σ1.take D.h1)(P:W'.heap[D.l]?=some (.loop (D.rc st' pe'))):
  RJ D ro' σ' H' st' pe' qR (λb=>g b\/(W.heap.size<=b/\b<W'.heap.size)) W'/\QfK g (λb=>g b\/(W.heap.size<=b/\b<W'.heap.size)) W W':=by
 have n:∀b,D.fr1 b->FrB D ro1 g W b:=λb q=>⟨.inl q,j.sim.frLt b q⟩;have L:W.shape? D.l=none:=Qbr j.rc;have z:Qh D.fr ro1 W ro' W':=ev.frMono λb q=>⟨n b (G.sub b q),λe=>G.lf (e▸q)⟩;have y:Ext ro1 D.σ W ro' D.σ W':=ev.ext0 D.σ;have E:∀b,b<W.heap.size->b<W'.heap.size:=λb q=>Vj q ev.size;have m:∀b,b<W.heap.size->¬FrB D ro1 g W b->g b\/ro1 b:=by
  intro b h O;by_cases f:g b
  .exact .inl f
  .by_cases a:ro1 b
   .exact .inr a
   .exact absurd ⟨.inr ⟨f,a⟩,h⟩ O
 refine⟨⟨s.frames (λb q=>E b (j.sim.frLt b q)) (λb q r=>s.roFr b q (u b (n b r))) (λi b x f a p r=>(s.own i b x f a p).2.2 (u b (n b r))) (λi b x c f a p r=>(s.hid i b x c f a p).fr (u c (n c r))),
  λt=>(j.env t).mono y,hσ.trans j.sig,j.ev.trans z,⟨j.marks.1,λd T=>?_⟩,P,λb q=>?_,λb q=>.inl (j.frG b q),λi b x f a p=>?_,λi b x c f a p=>?_,λb q=>q.elim (λq=>E b (j.lt b q)) (λq=>q.2)⟩,
  ⟨λb q=>.inl q,λb q=>q.imp id (λq=>q.1),λb q=>q.elim (λq=>E b (j.lt b q)) (λq=>q.2),λb f a=>.inr ⟨f,a⟩,λb f a=>?_,ev.size,ev.shape,ev.os,ev.tape,ev.output,ev.drawn⟩⟩
 .obtain⟨B,Q,J,F⟩:=j.marks.2 d T;refine⟨B,Q,J,(ev.keepFr B ⟨n B J,λe=>?_⟩).trans F⟩;subst e;rw[j.rc]at F;cases F
 .rcases VG b W.heap.size with h|h
  .rcases m b h (λr=>s.roFr b q (u b r))with r|r
   .exact .inr (.inl r)
   .exact(j.roG b r).imp id .inl
  .exact .inr (.inr ⟨h,s.roLt b q⟩)
 .obtain⟨R,N,M⟩:=s.own i b x f a p;rcases VG b W.heap.size with h|h
  .rcases m b h (λr=>M (u b r))with r|r
   .exact .inl r
   .exact absurd (ev.sub b r) N
  .exact .inr ⟨h,R⟩
 .have k:=s.hid i b x c f a p;rcases VG c W.heap.size with h|h
  .rcases m c h (λr=>k.fr (u c r))with r|r
   .exact .inl r
   .exact absurd (ev.sub c r) k.ro
  .exact .inr ⟨h,k.lt⟩
 .by_cases r:ro1 b
  .exact ev.keepRo b r
  .exact ev.keepFr b ⟨⟨.inr ⟨a,r⟩,f⟩,λe=>a (j.frG b (e▸G.l1))⟩
end
theorem Sim.roAdd{fr ro e:Nat->Prop}{σ:Sig}{H:Qd}{w:World}(s:Sim fr ro σ H w)(l:∀b,e b->b<w.heap.size)(m:∀b,e b->¬fr b)(g:∀(i b:Nat) (x:Blk),σ[i]?=some (some b)->H[i]?=some x->x.live=true->¬e b)
  (h:∀(i b:Nat) (x:Blk) (c:Nat),σ[i]?=some (some b)->H[i]?=some x->Hid w x b c->¬e c):Sim fr (λb=>ro b\/e b) σ H w:=by
 have ext:Ext ro σ w (λb=>ro b\/e b) σ w:=⟨λ_ q=>.inl q,λ_ _=>rfl,λ_ _ q=>q,λ_ _ q=>q⟩;refine⟨s.len,s.roOk.to (λ_ q=>.inl q) (λ_ _=>rfl) (λb q=>q.elim (s.roLt b) (l b)),s.frLt,λb q=>q.elim (s.roFr b) (m b),λi b x f a k=>?_,s.inj,λi y x f a=>(s.blk i y x f a).keep ext (λ_ _ _=>rfl) (λ_ _ _ _=>rfl),
  s.hidTo (· = ·) QY (XX _) (λi b x c f a k u=>u.elim id λq=>(h i b x c f a k q).elim) (λ_ _ _ _ _ _ _ q=>q) λj d y p z B=>.inl ⟨j,y,rfl,p,z,id,λ_ q=>q⟩⟩
 obtain⟨r,t,n⟩:=s.own i b x f a k;exact⟨r,λq=>q.elim t (g i b x f a k),n⟩
theorem RJ.roAdd{D:Fix}{ro1:Nat->Prop}{σ1:Sig}{H:Qd}{st:LoopState}{pe:Option Code}{qR ri g:Nat->Prop}{W:World}(j:RJ D ro1 σ1 H st pe qR g W)(hq:∀b,qR b->ri b)(hI:∀b,ri b->b<W.heap.size/\ ¬g b):RJ D (λb=>ro1 b\/ri b) σ1 H st pe ri g W:=
 {j with
  sim:=j.sim.roAdd (λb q=>(hI b q).1) (λb q z=>(hI b q).2 (j.frG b z)) (λi b x q1 q2 q3 z=>(hI b z).2 (j.own i b x q1 q2 q3)) (λi b x c q1 q2 q3 z=>(hI c z).2 (j.hidG i b x c q1 q2 q3))
  env:=λt=>(j.env t).mono ⟨λ_ q=>.inl q,λ_ _=>rfl,λ_ _ q=>q,λ_ _ q=>q⟩
  ev:=j.ev.trans (YI λ_ q=>.inl q)
  roG:=λb q=>q.elim (λq=>(j.roG b q).imp (hq b) id) .inl}
def Ql8:List Nat->List A->Env->Env
 |p::ps,a::zs,env=>Ql8 ps zs (up env p a)
 |_,_,env=>env
def Qjg:List Nat->List Value->Array Value->Array Value
 |p::ps,v::vs,t=>Qjg ps vs (t.setIfInBounds p v)
 |_,_,t=>t
theorem Qf9:∀(ps:List Nat) (vs:List Value) (t:Array Value),(Qjg ps vs t).size=t.size
 |[],_,_=>rfl
 |_::_,[],_=>rfl
 |p::ps,v::vs,t=>by simp[Qjg,Qf9 ps]
theorem Qga:∀(ps:List Nat) (vs:List Value) (t:Array Value),(ps.toArray.zip vs.toArray).foldl (λt (p,v)=>t.setIfInBounds p v) t=Qjg ps vs t
 |[],vs,t=>by rw[<- Array.foldl_toList,Array.toList_zip];rfl
 |p::ps,[],t=>by rw[<- Array.foldl_toList,Array.toList_zip];rfl
 |p::ps,v::vs,t=>by
  have:=Qga ps vs (t.setIfInBounds p v);rw[<- Array.foldl_toList,Array.toList_zip]at this⊢;exact this
theorem Qkh{ro:Nat->Prop}{σ:Sig}{w:World}:∀(ps:List Nat) (zs:List A) (vs:List Value) (env:Env) (t:Array Value),LR ro σ w zs vs->(∀p∈ps,p<t.size)->(∀s,VR ro σ w (lk env s) (t.getD s undef))->
  ∀s,VR ro σ w (lk (Ql8 ps zs env) s) ((Qjg ps vs t).getD s undef)
 |[],_,_,_,_,_,_,h=>h
 |p::ps,[],vs,_,_,hv,_,h=>by
  obtain rfl:vs=[]:=hv;exact h
 |p::ps,a::zs,vs,env,t,hv,hp,h=>by
  obtain⟨v,vs',rfl,h0,hv'⟩:=hv;have h1:=VR.up (fr:=λ_=>False) (a:={tmps:=t,defers:=[]}) h (hp p (by simp)) h0;exact Qkh ps zs vs' (up env p a) (t.setIfInBounds p v) hv' (λq hq=>by simpa using hp q (by simp[hq])) h1
def QjW(h1:Nat)(env:Env)(Q:QB)(K:Qd->Prop):QB
 |.normal,env',H'=>∃H2,Le h1 env' H' [] H2/\K H2
 |.exit id,env',H'=>∃H2,Le h1 env' H' [] H2/\Q (.exit id) env H2
 |.ret,env',H'=>∃H2,Le h1 env' H' [] H2/\Q .ret env H2
def Jump(Q:QB)(env:Env)(c:Code)(H:Qd):Prop:=(∃id,c=.exit id/\Q (.exit id) env H)\/(c=.ret/\Q .ret env H)
section
variable {D:Fix} {ro0:Nat->Prop} {σ1:Sig} {H:Qd} {qR ri g:Nat->Prop} {W:World} {P:Program} {N:Nat} {Q:QB} {K:Qd->Prop}
theorem RJ.round{fn:FuncId}{ps:List Nat}{assign body:Code}{df:Nat}{cs:List A}{vs:List Value}(hD:D.Ok)(x:D.rc=λst pe=>{state:=st,pending:=pe,fn:=fn,tmps:=D.tmps,params:=ps.toArray,assign:=assign,body:=body,defers:=df})
  (hN:D.tmps.size=N)(ah:∀p∈ps,p<N)(V:cs.length=ps.length)(hq:∀b,qR b->ri b)(hI:∀b,ri b->b<W.heap.size/\ ¬g b)(L:LR ri [] W cs vs)(j0:RJ D ro0 σ1 H .ready none qR g W)
  (h:TC P D.h1 N assign (Ql8 ps cs D.env) H λe env1 H1=>e=.normal/\TC P D.h1 N body env1 H1 (QjW D.h1 D.env Q K)):
  YieldAt Fence.wide 0 P D.l vs.toArray W λe W'=>∃g',QfK g g' W W'/\((e=.returned (.bool true)/\ ∃H2 ro2 σ2,K H2/\RJ D ro2 σ2 H2 .ready none ri g' W')\/
   (e=.returned (.bool false)/\ ∃H2 c ro2 σ2,Jump Q D.env c H2/\RJ D ro2 σ2 H2 .done (some c) ri g' W')):=by
 have ae:vs.length=cs.length:=L.length;have j:=j0.roAdd hq hI;have y:LR (λb=>ro0 b\/ri b) σ1 W cs vs:=L.mono ⟨λ_ q=>.inr q,λ_ _=>rfl,λ_ _ q=>q,λi b q=>by simp at q⟩;clear j0;generalize(λb=>ro0 b\/ri b)=ro1 at j y;have aj:∀b,D.fr1 b->FrB D ro1 g W b:=λb q=>⟨.inl q,j.sim.frLt b q⟩;have m:=aj _ hD.l1;have J:=j.rc;have hy:=run_yield (P:=P) (r:=D.rc .ready none) (args:=vs.toArray) J (by rw[x];simp[ae,V]);refine⟨fn,Qjg ps vs D.tmps,assign,body,?_,?_⟩
 .rw[hy,x];simp only[];rw[<- Qga]
 .refine roundIn_of_wpIn trivial ?_;show Code.wpIn (WF (some D.l)) 0 P _ _ _ _;have O:∀s,VR ro1 σ1 W (lk D.env s) (D.tmps.getD s undef):=λs=>(j.env s).mono ⟨λ_ q=>q,λ_ _=>rfl,λ_ _ q=>q,λi b q=>QdU j.sig q⟩;have af:Qem (some D.l) (FrB D ro1 g W) W:=λl e=>by cases e;exact⟨m,_,J⟩
  have w1:=h (some D.l) (FrB D ro1 g W) ro1 σ1 {tmps:=Qjg ps vs D.tmps,defers:=[]} W ⟨j.simB,Qkh ps cs vs D.env D.tmps y (by rw[hN];exact ah) O,by simp[Qf9,hN],List.nodup_nil,λd hd=>by cases hd⟩ af;refine Code.wpIn_mono ?_ w1;rintro e a1 w1 ⟨x1,env1,H1,ro2,σ2,u,h1,⟨rfl,h2⟩,h3,h4,h5,h6⟩;cases e with
  |normal=>
   have k:w1.heap[D.l]?=some (.loop (D.rc .ready none)):=(h4.keepFr _ m).trans J;refine⟨_,run_beginRound k (by rw[x]),?_⟩;obtain⟨s2,E⟩:=h3.sim.put (obj:=.loop {D.rc .ready none with state:=.busy}) (h6.sub _ m) (Qbr k);have Y:D.l<w1.heap.size:=by rw[Vg]at k;exact k.1
   have M:(w1.putObj D.l (.loop {D.rc .ready none with state:=.busy})).heap[D.l]?=some (.loop {D.rc .ready none with state:=.busy}):=World.putObj_heap_same Y;generalize hw2:w1.putObj D.l (.loop {D.rc .ready none with state:=.busy})=w2 at*;have ac:Qdj u a1.defers w2:=by
    refine⟨h3.defers.1,λd hd=>?_⟩;obtain⟨B,e1,e2,e3⟩:=h3.defers.2 d hd;refine⟨B,e1,e2,(E.keepFr B (λe=>?_)).trans e3⟩;subst e;rw[k]at e3;cases e3
   have r2:Rel u ro2 σ2 H1 env1 N a1 w2:=⟨s2,λs=>(h3.env s).mono (E.ext0 σ2),h3.size,ac⟩;have F:u D.l:=h6.sub _ m;refine Code.wpIn_mono ?_ (h2 (some D.l) u ro2 σ2 a1 w2 r2 (λl e=>by cases e;exact⟨F,_,M⟩));rintro e a3 w3 ⟨x3,aa,H3,z,σ3,R,g1,g2,g3,g4,g5,g6⟩;have n:w3.heap[D.l]?=some (.loop {D.rc .ready none with state:=.busy}):=(g4.keepFr _ F).trans M;have G:∀(H2:Qd) (jump:Option Code),Le D.h1 aa H3 [] H2->∃v t,(Instr.endRound D.l jump).run P w3=.ok v t/\v=.bool jump.isNone/\ ∃g',QfK g g' W t/\ ∃a σ4,RJ D a σ4 H2 (if jump.isNone then .ready else .done) jump ri g' t:=by
    intro H2 jump f;obtain⟨a,σ4,r4,s4,t4⟩:=f R z σ3 N a3 w3 g3;refine⟨_,_,run_endRound jump n,rfl,?_⟩;have ab:R D.l:=g6.sub _ F;obtain⟨s5,ag⟩:=r4.sim.put (obj:=.loop {{D.rc .ready none with state:=.busy}with state:=if jump.isNone then .ready else .done,pending:=jump}) ab (Qbr n);have T:D.l<w3.heap.size:=by rw[Vg]at n;exact n.1
    have ai:=World.putObj_heap_same (w:=w3) (r:=D.l) (o:=.loop {{D.rc .ready none with state:=.busy}with state:=if jump.isNone then .ready else .done,pending:=jump}) T;have e1:Qh (λb=>FrB D ro1 g W b/\b≠D.l) ro1 W ro2 w1:=h4.frMono λb q=>q.1;have e2:Qh (λb=>FrB D ro1 g W b/\b≠D.l) ro2 w1 ro2 w2:=E.frMono λb q=>q.2;have e3:Qh (λb=>FrB D ro1 g W b/\b≠D.l) ro2 w2 z w3:=g4.frMono λb q=>h6.sub b q.1;have e4:Qh (λb=>FrB D ro1 g W b/\b≠D.l) z w3 a w3:=YI s4;have e5:=(((e1.trans e2).trans e3).trans e4).trans (ag.frMono λb (q:FrB D ro1 g W b/\b≠D.l)=>q.2);obtain⟨q1,q2⟩:=j.fin hD e5 s5 (λb q=>g6.sub b (h6.sub b q)) (by rw[t4,g5,h5]) (st':=if jump.isNone then .ready else .done) (pe':=jump) (by rw[ai,x]);exact⟨_,q2,a,σ4,q1⟩
   cases e with
   |normal=>
    obtain rfl:x3=.normal:=g1;obtain⟨H2,f,hK⟩:=g2;obtain⟨v,t,k1,rfl,g',X,a,σ4,k3⟩:=G H2 none f;exact⟨_,t,k1,g',X,.inl ⟨rfl,H2,a,σ4,hK,k3⟩⟩
   |exit id=>
    obtain rfl:x3=.exit id:=g1;obtain⟨H2,f,hK⟩:=g2;obtain⟨v,t,k1,rfl,g',X,a,σ4,k3⟩:=G H2 (some (.exit id)) f;exact⟨_,t,k1,g',X,.inr ⟨rfl,H2,_,a,σ4,.inl ⟨id,rfl,hK⟩,k3⟩⟩
   |ret=>
    obtain rfl:x3=.ret:=g1;obtain⟨H2,f,hK⟩:=g2;obtain⟨v,t,k1,rfl,g',X,a,σ4,k3⟩:=G H2 (some .ret) f;exact⟨_,t,k1,g',X,.inr ⟨rfl,H2,_,a,σ4,.inr ⟨rfl,hK⟩,k3⟩⟩
   |_=>exact g1.elim
  |exit id=>cases h1
  |ret=>cases h1
  |_=>exact h1.elim
end
theorem Sim.beside{fr ro:Nat->Prop}{σ:Sig}{H:Qd}{w w1:World}(s:Sim fr ro σ H w)(ev:Qh fr ro w ro w1)(a:∀b,b<w.heap.size->w1.heap[b]?=w.heap[b]?):Sim (λb=>fr b\/(w.heap.size<=b/\b<w1.heap.size)) ro σ H w1:=by
 have g:Ext ro σ w ro σ w1:=ev.ext0 σ;refine⟨s.len,s.roOk.to (λ_ q=>q) ev.keepRo (λb q=>Vj (s.roLt b q) ev.size),λb q=>q.elim (λq=>Vj (s.frLt b q) ev.size) (λq=>q.2),λb q r=>?_,λi b x f e k=>?_,s.inj,λi z x f e=>?_,
  s.hidTo (· = ·) QY ev.size (λ_ _ _ _ _ _ _ q=>q) (λi b x c f e k u=>u.elim id λq=>(by have:=(s.hid i b x c f e k).lt;omega)) λj d y h m B=>.inl ⟨j,y,rfl,h,m,id,λc q=>s.hidKeep h m (λz=>a d (s.own j d y h m z).1) ev.keepRo q⟩⟩
 .rcases r with r|r
  .exact s.roFr b q r
  .have:=s.roLt b q;omega
 .obtain⟨p,t,n⟩:=s.own i b x f e k;refine⟨Vj p ev.size,t,λr=>?_⟩;rcases r with r|r
  .exact n r
  .omega
 .refine(s.blk i z x f e).keep g ?_ ?_
  .rintro b rfl l;exact a b (s.own i b x f e l).1
  .rintro b c rfl l;exact a c (s.hid i b x c f e l).lt
theorem Qcd{w:World}{o:Obj}{b:Nat}(a:b<w.heap.size):(w.alloc o).heap[b]?=w.heap[b]? :=by
 show(w.heap.push o)[b]?=_;rw[Array.getElem?_push,Vw (by omega)]
theorem Qnh{P:Program}{fn:FuncId}{tmps:Array Value}{ps:Array Tmp}{assign body:Code}{rd:Option Nat}{fr ro:Nat->Prop}{w:World}(i:Qem rd fr w)(h:∀b,ro b->b<w.heap.size)(j:∀b,fr b->b<w.heap.size):
  ∃l mark w1 df,(Instr.enterLoop fn tmps ps assign body rd).run P w=.ok (l,mark) w1/\w.heap.size<=l/\l<w1.heap.size/\w1.heap[l]?=some (.loop {state:=.ready,pending:=none,fn:=fn,tmps:=tmps,params:=ps,assign:=assign,body:=body,defers:=df})/\
   (∀b,b<w.heap.size->w1.heap[b]?=w.heap[b]?)/\mark.Nodup/\(∀d∈mark,∃D,d={target:=.collected D,args:= #[]}/\w.heap.size<=D/\D<w1.heap.size/\w1.heap[D]?=some (.deferred (some [])))/\Qh fr ro w ro w1:=by
 have e:∀w1:World,(∀b,b<w.heap.size->w1.heap[b]?=w.heap[b]?)->w.heap.size<=w1.heap.size->w1.os=w.os->w1.tape=w.tape->w1.output=w.output->w1.drawn=w.drawn->Qh fr ro w ro w1:=by
  intro w1 g s r u n y;refine⟨λ_ q=>q,λb q=>g b (h b q),λb q=>g b (j b q),s,λb x q=>?_,r,u,n,by rw[y];exact XX _⟩;have f:b<w.heap.size:=by
   rcases VG b w.heap.size with z|z
   .exact z
   .unfold World.shape? at q;rw[Array.getElem?_eq_none (by simpa using z)]at q;cases q
  unfold World.shape? at q⊢;rw[g b f];exact q
 cases rd with
 |none=>
  have a:∀b,b<w.heap.size->((w.alloc (.deferred (some []))).alloc (.loop {state:=.ready,pending:=none,fn:=fn,tmps:=tmps,params:=ps,assign:=assign,body:=body,defers:=w.heap.size})).heap[b]?=w.heap[b]? :=λb f=>
   (Qcd (by simp;omega)).trans (Qcd f)
  refine⟨_,_,_,w.heap.size,run_enterLoop_outer fn tmps ps assign body,by omega,by simp,?_,a,by simp,?_,e _ a (by simp;omega) rfl rfl rfl rfl⟩
  .have:=World.alloc_heap_new (w.alloc (.deferred (some []))) (.loop {state:=.ready,pending:=none,fn:=fn,tmps:=tmps,params:=ps,assign:=assign,body:=body,defers:=w.heap.size})
   rwa [World.size_alloc]at this
  .intro d k;obtain rfl:=VF.1 k;exact⟨_,rfl,XX _,by simp;omega,(Qcd (by simp)).trans (World.alloc_heap_new w _)⟩
 |some p=>
  obtain⟨_,m,t⟩:=i p rfl;have a:∀b,b<w.heap.size->(w.alloc (.loop {state:=.ready,pending:=none,fn:=fn,tmps:=tmps,params:=ps,assign:=assign,body:=body,defers:=m.defers})).heap[b]?=w.heap[b]? :=λb f=>Qcd f;exact⟨_,_,_,m.defers,run_enterLoop_inner t fn tmps ps assign body,XX _,by simp,World.alloc_heap_new w _,a,List.nodup_nil,(λd k=>absurd k List.not_mem_nil),e _ a (by simp) rfl rfl rfl rfl⟩
theorem TC.rangeFunc{P:Program}{h0 N:Nat}{af:Operand}{ps:List Nat}{assign body:Code}{env:Env}{H:Qd}{Q:QB}{f:FuncId}{ag ae:List A}{Hc:Qd}{T S:Type}{enc:T->List A}{nx:List T->T->List T->Prop}{xs:List T}
  (π:List Nat)(Hp:S->Qd)(V:S->List T->Prop)(s0:S)(hh:h0<=H.length)(hg:opA env af=.fn (.func f) [] ag)(hargs:ag=Qaa (rho π H.length) ae)(hH:π.map (λp=>H[p]?)=(Hc.map (QU (rho π H.length))).map some)(hπ:π.Nodup)
  (a6:(ps.all λp=>Nat.blt p N)=true)(eg:∀args w,(callFunc f args).run P w=.ok (.enter f args) w)(aw:Qhz P f ae Hc enc nx xs)(az:∀x,(enc x).length=ps.length)
  (a3:Le H.length env (Qd3 H π) env (Hp s0))(hV:V s0 xs)
  (ak:∀s l x rem,V s l->nx l x rem->TC P H.length N assign (Ql8 ps (enc x) env) (Hp s) λe env1 H1=>e=.normal/\TC P H.length N body env1 H1 (QjW H.length env Q λH2=>∃s',V s' rem/\H2=Hp s'))
  (ao:∀s,V s []->Q .normal env (Hp s)):TC P h0 N (.rangeFunc af ps.toArray assign body) env H Q:=by
 intro rd fr ro σ a w r hrd;have hv:=Qg r af;rw[hg]at hv;obtain⟨l1,E,hv,bf,a2⟩:=hv;obtain rfl:l1=[]:=bf;refine wpIn_rangeFunc ?_;intro fn bi;obtain⟨l,G,w1,df,he,hl,a7,ax,a1,a4,al,aa⟩:=Qnh (P:=P) (fn:=fn) (tmps:=a.tmps) (ps:=ps.toArray) (assign:=assign) (body:=body) (ro:=ro) hrd r.sim.roLt r.sim.frLt;have s1:=r.sim.beside aa a1
 let D:Fix:=⟨fr,ro,σ,w,H.length,env,a.tmps,G++a.defers,l,(λst pe=>{state:=st,pending:=pe,fn:=fn,tmps:=a.tmps,params:=ps.toArray,assign:=assign,body:=body,defers:=df}),(λb=>fr b\/(w.heap.size<=b/\b<w1.heap.size))⟩
 have ah:¬fr l:=λq=>by have:=r.sim.frLt l q;omega
 have hD:D.Ok:=⟨λb q=>.inl q,.inr ⟨hl,a7⟩,ah,r.sim.len⟩;have L:Qdj D.fr1 (G++a.defers) w1:=by
  refine⟨List.nodup_append.2 ⟨a4,r.defers.1,λd R d' bg e=>?_⟩,λd R=>?_⟩
  .subst e;obtain⟨B,e1,e2,_⟩:=al d R;obtain⟨B',av,ba,_⟩:=r.defers.2 d bg;rw[e1]at av;have:B=B':=by simpa using av
   subst this;have:=r.sim.frLt B ba;omega
  .rcases VH.1 R with R|R
   .obtain⟨B,e1,e2,e3,e4⟩:=al d R;exact⟨B,e1,.inr ⟨e2,e3⟩,e4⟩
   .obtain⟨B,e1,e2,e3⟩:=(r.defers.keep aa).2 d R;exact⟨B,e1,.inl e2,e3⟩
 obtain⟨sp,hσc⟩:=s1.part hH hπ;have ai:LR ro (Ye σ π) w1 ae E:=(QbG hσc).1 (hargs▸a2.mono (aa.ext0 σ))
 let frX:Nat->Prop:=λb=>D.fr1 b\/(∃(j:Nat) (x:Blk),(Ye σ π)[j]?=some (some b)/\Hc[j]?=some x/\x.live=true)\/ ∃(j:Nat) (x:Blk) (d:Nat),(Ye σ π)[j]?=some (some d)/\Hc[j]?=some x/\Hid w1 x d b
 have sX:Sim frX ro σ (Qd3 H π) w1:=by
  refine(QdM π s1).frames (λb q=>?_) (λb q r=>?_) (λi b x n m k r=>?_) (λi b x c n m k r=>?_)
  .rcases q with q|⟨j,x,n,m,k⟩|⟨j,x,d,n,m,k⟩
   .exact s1.frLt b q
   .exact(sp.own j b x n m k).1
   .exact(sp.hid j d x b n m k).lt
  .rcases r with r|⟨j,x,n,m,k⟩|⟨j,x,d,n,m,k⟩
   .exact s1.roFr b q r
   .exact(sp.own j b x n m k).2.1 q
   .exact(sp.hid j d x b n m k).ro q
  .rcases Qe7 _ _ _ _ m with rfl|⟨m,hi⟩
   .cases k
   .rcases r with r|⟨j,y,p1,p2,Y⟩|⟨j,y,d,p1,p2,Y⟩
    .exact(s1.own i b x n m k).2.2 r
    .exact(sp.own j b y p1 p2 Y).2.2 (.inr (.inl ⟨i,x,n,m,k,hi (QbJ k)⟩))
    .exact(sp.hid j d y b p1 p2 Y).fr (.inr (.inl ⟨i,x,n,m,k,hi (QbJ k)⟩))
  .rcases Qe7 _ _ _ _ m with rfl|⟨m,hi⟩
   .exact k.elim
   .rcases r with r|⟨j,y,p1,p2,Y⟩|⟨j,y,d,p1,p2,Y⟩
    .exact(s1.hid i b x c n m k).fr r
    .exact(sp.own j c y p1 p2 Y).2.2 (.inr (.inr ⟨i,x,b,n,m,k,hi k.holds⟩))
    .exact(sp.hid j d y c p1 p2 Y).fr (.inr (.inr ⟨i,x,b,n,m,k,hi k.holds⟩))
 have rX:Rel frX ro σ (Qd3 H π) env N {a with defers:=G++a.defers} w1:=
  ⟨sX,λs=>(r.env s).mono (aa.ext0 σ),r.size,L.1,λd R=>let⟨B,e1,e2,e3⟩:=L.2 d R;⟨B,e1,.inl e2,e3⟩⟩
 obtain⟨ac,σ',r',ab,a5⟩:=a3 frX ro σ N _ w1 rX;have hσt:σ.take H.length=σ:=by rw[<- r.sim.len,Vd]
 let g0:Nat->Prop:=λb=>D.fr1 b\/(ac b/\ ¬ro b)\/(∃(i:Nat) (x:Blk),σ'[i]?=some (some b)/\(Hp s0)[i]?=some x/\x.live=true)\/ ∃(i:Nat) (x:Blk) (d:Nat),σ'[i]?=some (some d)/\(Hp s0)[i]?=some x/\Hid w1 x d b
 have j0:RJ D ac σ' (Hp s0) .ready none ro g0 w1:=by
  refine⟨r'.sim.frMono λb q=>.inl q,λt=>(r.env t).mono ⟨ab,aa.keepRo,aa.shape,λ_ _ q=>q⟩,a5.trans hσt,aa.trans (YI ab),L,ax,λb q=>?_,λb q=>.inl q,λi b x n m k=>.inr (.inr (.inl ⟨i,x,n,m,k⟩)),λi b x c n m k=>.inr (.inr (.inr ⟨i,x,b,n,m,k⟩)),λb q=>?_⟩
  .by_cases z:ro b
   .exact .inl z
   .exact .inr (.inr (.inl ⟨q,z⟩))
  .rcases q with q|q|⟨i,x,n,m,k⟩|⟨i,x,d,n,m,k⟩
   .exact s1.frLt b q
   .exact r'.sim.roLt b q.1
   .exact(r'.sim.own i b x n m k).1
   .exact(r'.sim.hid i d x b n m k).lt
 have sI:Sim g0 ro (Ye σ π) Hc w1:=by
  refine sp.frames (λb q=>j0.lt b q) (λb q z=>?_) (λj b x n m k z=>?_) (λj b x c n m k z=>?_)
  .rcases z with z|z|⟨i,x,n,m,k⟩|⟨i,x,d,n,m,k⟩
   .exact s1.roFr b q z
   .exact z.2 q
   .exact(r'.sim.own i b x n m k).2.1 (ab b q)
   .exact(r'.sim.hid i d x b n m k).ro (ab b q)
  .have hX:frX b:=.inr (.inl ⟨j,x,n,m,k⟩);rcases z with z|z|⟨i,y,p1,p2,Y⟩|⟨i,y,d,p1,p2,Y⟩
   .exact(sp.own j b x n m k).2.2 (.inl z)
   .exact r'.sim.roFr b z.1 hX
   .exact(r'.sim.own i b y p1 p2 Y).2.2 hX
   .exact(r'.sim.hid i d y b p1 p2 Y).fr hX
  .have hX:frX c:=.inr (.inr ⟨j,x,b,n,m,k⟩);rcases z with z|z|⟨i,y,p1,p2,Y⟩|⟨i,y,d,p1,p2,Y⟩
   .exact(sp.hid j b x c n m k).fr (.inl z)
   .exact r'.sim.roFr c z.1 hX
   .exact(r'.sim.own i c y p1 p2 Y).2.2 hX
   .exact(r'.sim.hid i d y c p1 p2 Y).fr hX
 let X:Ctx T:={l:=l,J:=λrem q g W=>∃s F σ1,V s rem/\RJ D F σ1 (Hp s) .ready none q g W,Jx:=λ_ q g W=>∃H2 c F σ1,Jump Q env c H2/\RJ D F σ1 H2 .done (some c) q g W,enc:=enc,nx:=nx}
 have au:∀p∈ps,p<N:=λp hp=>by simpa using Xu.1 a6 p hp
 have hX:X.ok P:=by
  refine⟨⟨λrem q g W W' ac ⟨s,F,σ1,M,O⟩ he=>⟨s,F,σ1,M,O.step hD he⟩,λrem q g g' W ⟨s,F,σ1,M,O⟩ hg hl=>⟨s,F,σ1,M,O.up hg hl⟩⟩,
   ⟨λrem q g W W' ac ⟨H2,c,F,σ1,M,O⟩ he=>⟨H2,c,F,σ1,M,O.step hD he⟩,λrem q g g' W ⟨H2,c,F,σ1,M,O⟩ hg hl=>⟨H2,c,F,σ1,M,O.up hg hl⟩⟩,?_⟩
  rintro lr x rem q g ri W vs a9 ⟨s,F,σ1,M,O⟩ hq hI bd;obtain⟨bb,tm,be,a8,y1,y2⟩:=RJ.round (D:=D) (Q:=Q) (K:=λH2=>∃s',V s' rem/\H2=Hp s') hD rfl r.size au (az x) hq hI bd O (ak s lr x rem M a9);refine⟨bb,tm,be,a8,y1,RoundIn.mono y2 ?_⟩;rintro e W' ⟨g',k1,k2⟩;refine⟨g',ri,λ_ z=>z,k1,?_⟩;rcases k2 with⟨rfl,H2,u,σ2,⟨s',bc,rfl⟩,k3⟩|⟨rfl,H2,c,u,σ2,k3,k4⟩
  .exact .inl ⟨rfl,s',u,σ2,bc,k3⟩
  .exact .inr ⟨rfl,H2,c,u,σ2,k3,k4⟩
 have a0:∀(ev:Operand->Value),ev af=.func (.func f) #[] E.toArray->ev (.const (.func (.yield l) #[] #[]))=.func (.yield l) #[] #[]->(resolve ev (rangeCall af l) 0).run P w1=.ok {target:=.fn (.func f) E.toArray,args:= #[.func (.yield l) #[] #[]]} w1:=by
  intro ev M O;simp[resolve,go_sem,M,O]
 refine⟨l,G,w1,{target:=.fn (.func f) E.toArray,args:= #[.func (.yield l) #[] #[]]},w1,f, #[.func (.yield l) #[] #[]]++E.toArray,w1,he,a0 a.eval hv rfl,λ_ _=>trivial,by simp[invoke,go_sem,eg],λh=>by simp[WF,Fence.wide]at h,?_⟩;refine WF.calls.2 ?_;have aj:=aw X rfl rfl hX g0 ro (Ye σ π) w1 E ro sI (λ_ z=>z) ai ⟨s0,ac,σ',hV,j0⟩;have am:(#[.func (.yield l) #[] #[]]++E.toArray:Array Value)=((Value.func (.yield X.l) #[] #[]::E)).toArray:=by simp[X]
 rw[am];refine Calls.mono aj ?_;rintro e W' ⟨⟨v,rfl⟩,g2,qz,bh,ar⟩;have fin:∀(H2:Qd) (st:LoopState) (pe:Option Code) (u:Nat->Prop) (σ2:Sig),st≠ .busy->RJ D u σ2 H2 st pe qz g2 W'->∃w4,(Instr.endLoop l).run P W'=.ok pe w4/\Rel D.fr1 u σ2 H2 env N {a with defers:=G++a.defers} w4/\Qh fr ro w u w4:=by
  intro H2 st pe u σ2 hst j;refine⟨_,run_endLoop j.rc (by exact hst),?_⟩;obtain⟨s5,an⟩:=j.sim.put (obj:=.loop {(D.rc st pe)with state:=.exhausted}) hD.l1 (Qbr j.rc);have hr:=j.rc;refine⟨⟨s5,λt=>((j.env t).mono ⟨λ_ q=>q,λ_ _=>rfl,λ_ _ q=>q,λi b q=>QdU j.sig q⟩).mono (an.ext0 σ2),r.size,j.marks.1,λd R=>?_⟩,j.ev.trans (an.frMono λb q e=>ah (by have e':b=l:=e;rw[<- e'];exact q))⟩;obtain⟨B,e1,e2,e3⟩:=j.marks.2 d R;refine⟨B,e1,e2,(an.keepFr B (λe=>?_)).trans e3⟩;subst e;rw[hr]at e3;cases e3
 have ay:Grow fr w a.defers D.fr1 (G++a.defers):=by
  refine⟨λb q=>.inl q,λb q=>q.imp id (λq=>q.1),λd R=>?_⟩;rcases VH.1 R with R|R
  .obtain⟨B,e1,e2,_⟩:=al d R;exact .inr ⟨B,e1,e2⟩
  .exact .inl R
 have aq:∀{σ2:Sig},σ2.take H.length=σ->σ2.take h0=σ.take h0:=by
  intro σ2 h;have:=congrArg (List.take h0) h
  rwa [List.take_take,XE hh]at this
 rcases ar with⟨s,u,σ2,M,O⟩|⟨rem,H2,c,u,σ2,M,O⟩
 .obtain⟨w4,f1,f2,f3⟩:=fin _ _ _ u σ2 (by intro e;cases e) O;exact⟨none,w4,f1,.normal,env,_,u,σ2,_,rfl,ao s M,f2,f3,aq O.sig,ay⟩
 .obtain⟨w4,f1,f2,f3⟩:=fin _ _ _ u σ2 (by intro e;cases e) O;refine⟨some c,w4,f1,?_⟩;have hc:TC P h0 N c env H2 Q:=by
   rcases M with⟨id,rfl,M⟩|⟨rfl,M⟩
   .exact TC.exit M
   .exact TC.ret M
  exact Code.wpIn_mono (λe a w q=>q.grow f3 (aq O.sig) ay) (hc rd D.fr1 u σ2 _ w4 f2 (hrd.to f3 λb q=>.inl q))
end Go.Sw
namespace Go.Sw
theorem Qi4{h0 i k t T:Nat}{env:Env}{H:Qd}(hh:Nat.ble h0 H.length=true)(hH:H[i]?=some (.cells T [.nils])):Le h0 env H env (H.set i (.cells T [.osl H.length 0 0 k])++[.row t k []]):=by
 intro fr J σ N a w r;have L:h0<=H.length:=XV hh;have O:i<H.length:=(XP.1 hH).1;have ext:Ext J σ w J (σ++[none]) w:=⟨λ_ q=>q,λ_ _=>rfl,λ_ _ q=>q,λ_ _ h=>YJ h⟩;have s:=r.sim.phantom t k;have n:(H++[Blk.row t k []])[i]?=some (.cells T [.nils]):=by rw[XQ O];exact hH
 have R:H.set i (.cells T [.osl H.length 0 0 k])++[.row t k []]=(H++[Blk.row t k []]).set i (.cells T [.osl H.length 0 0 k]):=by
  rw[List.set_append_left _ _ O]
 have g:∀(j:Nat) (v:Blk),((H++[Blk.row t k []]).set i (.cells T [.osl H.length 0 0 k]))[j]?=some v->(j=i/\v=.cells T [.osl H.length 0 0 k])\/(j≠i/\(H++[Blk.row t k []])[j]?=some v):=by
  intro j v h;by_cases e:j=i
  .subst e;rw[Xa (by simp;omega)]at h;exact .inl ⟨rfl,by simpa using h.symm⟩
  .rw[XT (λq=>e q.symm)]at h;exact .inr ⟨e,h⟩
 have f:∀(j:Nat) (v:Blk),((H++[Blk.row t k []]).set i (.cells T [.osl H.length 0 0 k]))[j]?=some v->v.live=true->∃u,(H++[Blk.row t k []])[j]?=some u/\u.live=true:=by
  intro j v h hv;rcases g j v h with⟨rfl,rfl⟩|⟨_,h⟩
  .exact⟨_,n,rfl⟩
  .exact⟨v,h,hv⟩
 refine⟨J,σ++[none],⟨?_,λq=>(r.env q).mono ext,r.size,r.defers⟩,λ_ q=>q,Qv (by rw[r.sim.len];exact L)⟩;rw[R];refine⟨by rw[X8];exact s.len,s.roOk,s.frLt,s.roFr,λj b v z B E=>?_,λj Q b v u z B E Y V q6=>?_,λj y v z B=>?_,
  s.hidTo (· = ·) QY (XX _) (λ_ _ _ _ _ _ _ q=>q) (λ_ _ _ _ _ _ _ q=>q) λj d y m p P=>.inl ?_⟩
 rotate_left 3
 .rcases g j y p with⟨rfl,rfl⟩|⟨_,h⟩
  .exact⟨j,_,rfl,m,n,λ_=>rfl,λ_ q=>q.elim⟩
  .exact⟨j,y,rfl,m,h,id,λ_ q=>q⟩
 .obtain⟨u,m,p⟩:=f j v B E;exact s.own j b u z m p
 .obtain⟨x,m,p⟩:=f j v E V;obtain⟨x',F,G⟩:=f Q u Y q6;exact s.inj j Q b x x' z B m F p G
 .rcases g j v B with⟨rfl,rfl⟩|⟨_,h⟩
  .have:=s.blk j y _ z n;cases y with
   |none=>exact this
   |some b=>
    obtain⟨l,m,⟨W,M,rfl,p,P⟩,X⟩:=this;refine⟨_,m,⟨W,M,rfl,.inl ⟨rfl,p⟩,?_⟩,X⟩;obtain rfl:M=[]:=P;rfl
  .exact s.blk j y v z h
theorem QkU{h0 i:Nat}{env:Env}{H:Qd}{es:List (A×A)}(hH:H[i]?=some (.map es)):Le h0 env H env (H.set i (.fmap es)):=by
 intro f e σ N a w r;have d:∃s,σ[i]?=some s:=by
  have:i<σ.length:=by rw[r.sim.len];exact(XP.1 hH).1
  exact⟨_,XO this⟩
 obtain⟨s,d⟩:=d;cases s with
 |none=>exact(r.sim.blk i _ _ d hH).elim
 |some b=>
  refine⟨_,σ,⟨r.sim.shutMap d hH,λq=>(r.env q).mono ⟨λ_ q=>.inl q,λ_ _=>rfl,λ_ _ q=>q,λ_ _ q=>q⟩,r.size,r.defers⟩,λ_ q=>.inl q,rfl⟩
def anyN{T:Type}(l:List T)(x:T)(rem:List T):Prop:=l.Perm (x::rem)
def QnA(ts te:Nat)(ld:Op):Code:=.block 1 (.region 3 #[{dst:=some 8,op:=.load ts (.tmp 2),type:=ts,pos:="iter.go:52",after:= #[],guard:=none},{dst:=some 9,op:=ld,type:=te,pos:="iter.go:52",after:= #[],guard:=none},
 {dst:=some 10,op:=.buildSlice ts 1 #[(0,.tmp 9)],type:=ts,pos:="iter.go:52",after:= #[{on:=1,ground:=.data}],guard:=none},
 {dst:=some 11,op:=.call {callee:=.builtin .append,args:= #[.tmp 8,.tmp 10],argTypes:= #[ts,ts]},type:=ts,pos:="iter.go:52",after:= #[{on:=0,ground:=.data},{on:=2,ground:=.data}],guard:=none},
 {dst:=none,op:=.store ts (.tmp 2) (.tmp 11),type:=0,pos:="iter.go:52",after:= #[{on:=3,ground:=.data},{on:=3,ground:=.chain},{on:=0,ground:=.phase},{on:=1,ground:=.phase},{on:=2,ground:=.phase},{on:=3,ground:=.phase}],guard:=none}] false)
def Qqb(ts tq te:Nat)(asg:Code)(ld:Op):Code:=(Code.region 0 #[{dst:=some 2,op:=.box ts (.tmp 0),type:=0,pos:="iter.go:50",after:= #[],guard:=none},{dst:=some 4,op:=.assign (.const (.slice none 0 0)),type:=ts,pos:="iter.go:50",after:= #[],guard:=none}] false).seq
 (((Code.region 1 #[{dst:=some 6,op:=.move (.tmp 1),type:=tq,pos:="iter.go:51",after:= #[],guard:=none}] false).seq (.block 0 (.rangeFunc (.tmp 6) #[7] asg (QnA ts te ld)))).seq
  ((Code.region 4 #[{dst:=some 12,op:=.load ts (.tmp 2),type:=ts,pos:="iter.go:54",after:= #[],guard:=none},{dst:=some 4,op:=.assign (.tmp 12),type:=ts,pos:="iter.go:54",after:= #[{on:=0,ground:=.data},{on:=0,ground:=.phase}],guard:=none}] false).seq .ret))
def Qqc(te:Nat):Code:=.region 2 #[{dst:=some 5,op:=.assign (.tmp 7),type:=te,pos:="iter.go:51",after:= #[],guard:=none}] false
section
variable {P:Program} {T:Type} {ts tq te k tm:Nat} {g:FuncId} {es:List (A×A)} {e:T->List A} {ea:T->A} {xs:List T}
abbrev apH(ts te k tm:Nat)(es:List (A×A))(e:T->List A)(done:List T):Qd:=[.dead,.fmap es,.cells ts [.osl 3 0 done.length k],.row te k (done.map e)]
abbrev apE(g:FuncId):Env:=[(6,.fn (.func g) [] [.ptr 0 0]),(4,.nils),(2,.ptr 2 0),(0,.nils),(1,.fn (.func g) [] [.ptr 0 0])]
theorem QoH{N:Nat}(B:N=13){done:List T}{x:T}{env:Env}{H:Qd}{K:Qd->Prop}{p:Op}(E:QT P ts te k)(L:∀w,(isAgg ts).run P w=.ok false w)(F:∀w,(sizeOf ts).run P w=.ok 1 w)(G:app done [x]=some (done++[x]))
  (J:(e x).length=k)(a:Nat.ble k 16777216=true)(d:Yb (ea x)=true)(g:QZ (ea x)=e x)(h:(e x).all Yj=true)(V:Yf (e x)=true)(z:Nat.ble 3 H.length=true)
  (l:lk env 2=.ptr 2 0)(j:H[2]?=some (.cells ts [.osl 3 0 done.length k]))(r:H[3]?=some (.row te k (done.map e)))
  (b:∀env',(∀s,s≠8->lk env' s=lk env s)->∀pos,OpV P {dst:=some 9,op:=p,type:=te,pos:=pos,after:= #[],guard:=none} env' H (ea x))
  (u:∀env',∃H2,Le 3 env' (((((H++[Blk.row te k [e x]]).set 3 .dead)++[Blk.row te k ((done++[x]).map e)]).set 2 (.cells ts [.osl (H.length+1) 0 (done++[x]).length k]))) [] H2/\K H2){env0:Env}{Q:QB}:
  TC P 3 N (QnA ts te p) env H (QjW 3 env0 Q K):=by
 subst B;have O:3<=H.length:=XV z;have M:3<H.length:=(XP.1 r).1;refine TC.block (TC.region ?_);refine QF rfl rfl rfl (OpV.load (v:=.osl 3 0 done.length k) (cs:=[]) rfl L l (Pts.cells j rfl)) ?_;refine QF rfl rfl rfl (x:=ea x) ?_ ?_
 .refine b _ (λs R=>?_) _;simp only[up,lk];have:Nat.beq s 8=false:=by
   rw[VQ];intro q;exact R (XU q)
  rw[this];rfl
 refine Y4 (by omega) rfl rfl rfl (OpH.lit (xs:=[.tmp 9]) (es:=[e x]) E rfl rfl (by simpa using a) ?_ ?_ ⟨J,trivial⟩ (by simpa using h) (by simpa using V)) ?_
 .simp[opA,lk,up,d]
 .simp[Q8,opA,lk,up,g]
 refine Y4 (x:=.osl (H.length+1) 0 (done++[x]).length k) (H':=((H++[Blk.row te k [e x]]).set 3 .dead)++[Blk.row te k ((done++[x]).map e)]) (by simp;omega) rfl rfl rfl ?_ ?_
 .have:=QC (P:=P) (o:={dst:=some 11,op:=.call {callee:=.builtin .append,args:= #[.tmp 8,.tmp 10],argTypes:= #[ts,ts]},type:=ts,pos:="iter.go:52",after:= #[{on:=0,ground:=.data},{on:=2,ground:=.data}],guard:=none})
   (env:=up (up (up env 8 (.osl 3 0 done.length k)) 9 (ea x)) 10 (.osl H.length 0 1 k)) (H:=H++[Blk.row te k [e x]]) (x:=.tmp 8) (y:=.tmp 10) (e:=e) (m:=[x]) (i:=3) (n:=done.length) (ya:=.osl H.length 0 1 k) G E E.sl (Y5 (t:=te) (by simp) rfl) rfl rfl rfl rfl (by rw[XQ M];exact r) rfl
  simpa using this
 refine QbB (by simp;omega) rfl rfl (OpU.store (i:=2) (off:=0) (T:=ts) (n:=1) (cs:=[.osl 3 0 done.length k]) (vs:=[.osl (H.length+1) 0 (done++[x]).length k]) (cs':=[.osl (H.length+1) 0 (done++[x]).length k]) (v:=.osl (H.length+1) 0 (done++[x]).length k) rfl ?_ ?_ F rfl rfl rfl rfl rfl rfl rfl) ?_
 .exact l
 .have f:2<H.length:=by omega
  rw[XQ (by simp;omega),XT (by decide),XQ f];exact j
 .refine WO.nil ?_;exact u _
theorem Qnz{xs done l rem:List T}{x:T}(hl:Nat.ble xs.length Qy=true)(a:(done++l).Perm xs)(b:l.Perm (x::rem)):app done [x]=some (done++[x])/\((done++[x])++rem).Perm xs:=by
 have d:=a.length_eq;have e:=b.length_eq;have f:=XV hl;simp at d e;refine⟨?_,?_⟩
 .unfold app;have:Nat.ble (done.length+[x].length) Qy=true:=XW (by simp;omega);rw[this];rfl
 .refine List.Perm.trans ?_ a;simp only[Vm,List.singleton_append];exact(List.Perm.append_left done b).symm
theorem QgT{j:FuncId}{fn:Func}(J:P.funcs[j]?=some fn)(F:fn.body=some (Qqb ts tq te (Qqc te) (.move (.tmp 5))))(y:fn.ntmps=13)(z:fn.results= #[.tmp 4])(E:QT P ts te 1)(m:∀w,(isAgg ts).run P w=.ok false w)(B:∀w,(sizeOf ts).run P w=.ok 1 w)
  (s:∀args w,(callFunc g args).run P w=.ok (.enter g args) w)(b:Qhz P g [.ptr 0 0] [.cells tm [.map 1],.fmap es] (λx=>[ea x]) anyN xs)(hl:Nat.ble xs.length Qy=true)
  (M:∀x,QbQ (ea x)=true)(e:∀x,Yb (ea x)=true)(f:∀x,QZ (ea x)=[ea x])(h:∀x,Yj (ea x)=true)(G:∀x,Yn (ea x)=true):
  C P j [.nils,.fn (.func g) [] [.ptr 0 0]] [.cells tm [.map 1],.fmap es] (λr H1=>∃p:List T,p.Perm xs/\r=.osl 2 0 p.length 1/\H1=[.dead,.fmap es,.row te 1 (p.map λx=>[ea x])]):=by
 refine Qb J F y rfl ?_;refine TC.seq (TC.region ?_);refine Y4 (XV rfl) rfl rfl rfl (OpH.box (v:=.nils) (cs:=[.nils]) rfl rfl rfl rfl rfl) ?_;refine QF rfl rfl rfl (OpV.assign (v:=.nils) rfl rfl) ?_;refine WO.nil ?_;refine TC.seq (TC.seq (TC.region ?_));refine QF rfl rfl rfl (OpV.move (v:=.fn (.func g) [] [.ptr 0 0]) rfl rfl) ?_;refine WO.nil ?_;refine TC.block ?_;refine TC.rangeFunc (env:=apE g) (ps:=[7]) (S:=List T) [0,1] (apH ts te 1 tm es (λx=>[ea x])) (λdone l=>(done++l).Perm xs) [] (XV rfl) rfl rfl rfl (by decide) rfl s b (λx=>rfl) ?_ (List.Perm.refl _) ?_ ?_
 .exact Qi4 (h0:=3) (i:=2) (t:=te) (k:=1) (H:=[.dead,.fmap es,.cells ts [.nils]]) rfl rfl
 .intro done l x rem d L;obtain⟨n,u⟩:=Qnz hl d L;refine TC.region (QF rfl rfl rfl (OpV.assign (v:=ea x) rfl rfl) (WO.nil ⟨rfl,?_⟩));refine QoH (ea:=ea) rfl E m B n rfl rfl (e x) (f x) (by simp[h x]) (by simp[Yf,G x]) rfl rfl rfl rfl ?_ ?_
  .intro a q pos;exact OpV.move rfl (by show lk a 5=ea x;rw[q 5 (by decide)];rfl)
  .intro a;exact⟨_,Lr (H':=apH ts te 1 tm es (λx=>[ea x]) (done++[x])) [0,1,2,5],_,u,rfl⟩
 .intro done d;rw[Vk]at d;refine TC.seq (TC.region ?_);refine QF rfl rfl rfl (OpV.load (v:=.osl 3 0 done.length 1) (cs:=[]) rfl m rfl (Pts.cells rfl rfl)) ?_;refine QF rfl rfl rfl (OpV.assign (v:=.osl 3 0 done.length 1) rfl rfl) ?_;refine WO.nil ?_;refine TC.ret ?_;exact⟨[(4,.osl 2 0 done.length 1)],[.dead,.fmap es,.row te 1 (done.map λx=>[ea x])],_,Lr [0,1,3],Qcr.one z rfl,done,d,rfl,rfl⟩
end
theorem TCy.le{T:Type}{X:Ctx T}{P:Program}{h0 N:Nat}{c:Code}{env env':Env}{H H':Qd}{l:YSt T}{Q:YA T}(k:Le h0 env H env' H')(h:TCy X P h0 N c env' H' l Q):TCy X P h0 N c env H l Q:=by
 intro n p m y σ a w g r hj hrd;obtain⟨d,σ',x,s,t⟩:=k m y σ N a w r;obtain⟨⟨u,j,i⟩,f⟩:=hj;exact Code.wpIn_mono (λe a w q=>q.grow s (XX _) t (Grow.refl _ _ _)) (h n p m d σ' a w g x ⟨⟨u,λb z=>s b (j b z),i⟩,f⟩ hrd)
mutual
theorem QhV:∀{a:A},QbQ a=true->Yn a=true
 |.any,_=>rfl
 |.bool _,_=>rfl
 |.int _ _,_=>rfl
 |.str _,_=>rfl
 |.nilp,_=>rfl
 |.ptr _ _,h=>by simp[QbQ]at h
 |.rp _,_=>rfl
 |.nils,_=>rfl
 |.rsl _ _,_=>rfl
 |.osl _ _ _ _,h=>by simp[QbQ]at h
 |.agg cs,h=>by simp only[QbQ]at h;simp only[Yn];exact Qgb h
 |.fn _ a c,h=>by simp[QbQ]at h
 |.nilf,_=>rfl
 |.iface _ v,h=>by simp[QbQ]at h
 |.nilif,_=>rfl
 |.map _,h=>by simp[QbQ]at h
 |.nilm,_=>rfl
 |.tup vs,h=>by simp[QbQ]at h
theorem Qgb:∀{l:List A},QeL l=true->Yf l=true
 |[],_=>rfl
 |a::r,h=>by
  simp only[QeL,X0]at h;simp only[Yf,X0];exact⟨QhV h.1,Qgb h.2⟩
end
theorem QhO{P:Program}{o:Oper}{env:Env}{H:Qd}{y z:Operand}{l:Nat}{a:A}{m:Array TypeId}(n:o.op=.call {callee:=.value y,args:= #[z],argTypes:=m})(h:opA env y=.fn (.yield l) [] [])(k:opA env z=a)(j:Yn a=true){N:Nat}:
  ∀fr ro σ act w,Rel fr ro σ H env N act w->∃vs:List Value,LR ro [] w [a] vs/\(execOp act.eval o).run P w=(Instr.yield l vs.toArray).run P w:=by
 intro fr ro σ act w r;have b:=Qg r y;rw[h]at b;obtain⟨e,g,b,i,f⟩:=b;obtain rfl:e=[]:=i;obtain rfl:g=[]:=f;have d:=Qg r z;rw[k]at d;refine⟨[act.eval z],⟨_,_,rfl,VR.data j d,rfl⟩,?_⟩;generalize act.eval=ev at*;simp[execOp,n,resolve,invoke,go_sem,b]
theorem Qk0{P:Program}{o:Oper}{env:Env}{H:Qd}{y d b:Operand}{l:Nat}{j e:A}{u:Array TypeId}(x:o.op=.call {callee:=.value y,args:= #[d,b],argTypes:=u})(s:opA env y=.fn (.yield l) [] [])(f:opA env d=j)(i:opA env b=e)(h:Yn j=true)(g:Yn e=true){N:Nat}:
  ∀fr ro σ act w,Rel fr ro σ H env N act w->∃vs:List Value,LR ro [] w [j,e] vs/\(execOp act.eval o).run P w=(Instr.yield l vs.toArray).run P w:=by
 intro fr ro σ act w r;have a:=Qg r y;rw[s]at a;obtain⟨n,q,a,t,p⟩:=a;obtain rfl:n=[]:=t;obtain rfl:q=[]:=p;have m:=Qg r d;rw[f]at m;have k:=Qg r b;rw[i]at k;refine⟨[act.eval d,act.eval b],⟨_,_,rfl,VR.data h m,_,_,rfl,VR.data g k,rfl⟩,?_⟩;generalize act.eval=ev at*;simp[execOp,x,resolve,invoke,go_sem,a]
def QmS(tm tb ty tk:Nat)(asg:Array Oper)(ld:Op):Code:=
 (Code.region 0 #[{dst:=some 4,op:=.load tm (.tmp 1),type:=tm,pos:="iter.go:27",after:= #[],guard:=none},{dst:=some 5,op:=.range tm (.tmp 4),type:=0,pos:="iter.go:27",after:= #[{on:=0,ground:=.data}],guard:=none}] false).seq
 (.block 0 (Code.loop ((Code.region 1 #[{dst:=some 6,op:=.next (.tmp 5) false,type:=0,pos:="iter.go:27",after:= #[],guard:=none},{dst:=some 7,op:=.extract (.tmp 6) 0,type:=tb,pos:="iter.go:27",after:= #[{on:=0,ground:=.data}],guard:=none}] false).seq
  ((Code.cond (.tmp 7) .skip (.exit 0)).seq (.block 1 ((Code.region 2 asg false).seq
   ((Code.region 3 #[{dst:=some 10,op:=.move (.tmp 0),type:=ty,pos:="iter.go:28",after:= #[],guard:=none},{dst:=some 11,op:=ld,type:=tk,pos:="iter.go:28",after:= #[],guard:=none},
    {dst:=some 12,op:=.call {callee:=.value (.tmp 10),args:= #[.tmp 11],argTypes:= #[tk]},type:=tb,pos:="iter.go:28",after:= #[{on:=0,ground:=.data},{on:=1,ground:=.data}],guard:=none},
    {dst:=some 13,op:=.unOp .not tb (.tmp 12),type:=tb,pos:="iter.go:28",after:= #[{on:=2,ground:=.data}],guard:=none}] false).seq (.cond (.tmp 13) .ret .skip))))))))
def QpR(tk:Nat):Array Oper:= #[{dst:=some 8,op:=.entry (.tmp 5),type:=0,pos:="iter.go:27",after:= #[],guard:=none},{dst:=some 9,op:=.extract (.tmp 8) 0,type:=tk,pos:="iter.go:27",after:= #[{on:=0,ground:=.data}],guard:=none},
 {dst:=some 3,op:=.assign (.tmp 9),type:=tk,pos:="iter.go:27",after:= #[{on:=1,ground:=.data},{on:=0,ground:=.phase},{on:=1,ground:=.phase}],guard:=none}]
section
variable {P:Program} {K V:Type} {tm tb ty tk kt et:Nat} {ek:K->A} {ev:V->A} {m:List (K×V)} {T:Type}
abbrev kyE(l:Nat):Env:=[(0,.fn (.yield l) [] []),(1,.ptr 0 0),(5,.ptr 2 0)]
abbrev kyH(tm:Nat)(ek:K->A)(ev:V->A)(m l:List (K×V)):Qd:=[.cells tm [.map 1],.fmap (Qj ek ev m),.iter none (Qj ek ev l)]
theorem Qlc{g:FuncId}{fn:Func}{d:Array Oper}{r:Op}(O:P.funcs[g]?=some fn)(G:fn.body=some (QmS tm tb ty tk d r))(E:fn.ntmps=14)(F:fn.results= #[])(M:∀w,(isAgg tm).run P w=.ok false w)(J:P.underlying tm=some (.map kt et))(N:∀x,QbQ (ek x)=true)
  (round:∀(X:Ctx K) (e:K×V) (l:List (K×V)) (env:Env) (H:Qd) (f:YSt K) (Q:YA K),lk env 0=.fn (.yield X.l) [] []->lk env 1=.ptr 0 0->lk env 5=.ptr 2 0->H=[.cells tm [.map 1],.fmap (Qj ek ev m),.iter (some (ek e.1,ev e.2)) (Qj ek ev l)]->
   (∀env' H',lk env' 0=.fn (.yield X.l) [] []->lk env' 1=.ptr 0 0->lk env' 5=.ptr 2 0->(∀env2 b,lk env2 0=.fn (.yield X.l) [] []->lk env2 1=.ptr 0 0->lk env2 5=.ptr 2 0->Le 2 (up (up env2 12 (.bool b)) 13 (.bool (!b))) H' (kyE X.l) (kyH tm ek ev m l))->
    (∀pos env2,(∀s,s≠10->lk env2 s=lk env' s)->OpV P {dst:=some 11,op:=r,type:=tk,pos:=pos,after:= #[],guard:=none} env2 H' (ek e.1))->Nat.ble 2 H'.length=true->Q .normal env' H' f)->
   TCy X P 2 14 (.region 2 d false) env H f Q):
  Qhz P g [.ptr 0 0] [.cells tm [.map 1],.fmap (Qj ek ev m)] (λx=>[ek x]) anyN (m.map Prod.fst):=by
 refine Qdd O G E rfl F ?_;intro X hE hNx;refine TCy.seq (TCy.lift (TC.region ?_));refine QF rfl rfl rfl (OpV.load (v:=.map 1) (cs:=[]) rfl M rfl (Pts.cells rfl rfl)) ?_;refine Y4 (XV rfl) rfl rfl rfl (QfR J) ?_;refine WO.nil ?_;refine TCy.block ?_;refine QgI (I:=λn env H f=>∃l:List (K×V),l.length=n/\f=.on (l.map Prod.fst)/\Le 2 env H (kyE X.l) (kyH tm ek ev m l)) ?_ ⟨m,rfl,rfl,Lr [0,1,2]⟩;rintro n env H f ⟨l,T,rfl,k⟩;refine TCy.le k ?_;refine TCy.seq (TCy.lift (TC.region ?_));refine QjU (XV rfl) rfl rfl rfl (OpE.next rfl rfl rfl) ?_;rintro v H' (⟨j,rfl,rfl⟩|⟨W,L,j,rfl,rfl⟩)
 .have R:l=[]:=List.map_eq_nil_iff.1 j;subst R;refine QF rfl rfl rfl (OpV.extract (v:=.bool false) rfl rfl rfl) ?_;refine WO.nil ?_;refine TCy.seq (TCy.cond (t:=false) rfl (λe=>by cases e) (λ_=>?_));exact TCy.exit ⟨.inl rfl,.inl rfl⟩
 .obtain⟨B,u,p⟩:=Qgi j rfl;cases B with
  |nil=>cases p
  |cons e i=>
   simp only[Vn,List.cons.injEq]at p;obtain⟨rfl,rfl⟩:=p;have h:i.length<n:=by rw[<- T, <- u.length_eq];simp
   refine QF rfl rfl rfl (OpV.extract (v:=.bool true) rfl rfl rfl) ?_;refine WO.nil ?_;refine TCy.seq (TCy.cond (t:=true) rfl (λ_=>?_) (λe=>by cases e));refine TCy.skip ?_;refine TCy.block ?_;refine TCy.seq (round X e i _ _ _ _ rfl rfl rfl rfl ?_);intro env' H' g0 g1 g5 hfin hld hL;refine TCy.seq (TCy.region ?_);refine WOy.step (QF rfl rfl rfl (OpV.move (v:=.fn (.yield X.l) [] []) rfl g0) (WO.nil ⟨rfl,?_⟩));refine WOy.step (QF rfl rfl rfl (x:=ek e.1) (hld _ _ λs q=>?_) (WO.nil ⟨rfl,?_⟩))
   .simp only[up,lk];have:Nat.beq s 10=false:=by rw[VQ];intro z;exact q (XU z)
    rw[this];rfl
   refine WOy.yield (x:=e.1) (rem:=i.map Prod.fst) ?_ rfl rfl rfl ?_ ?_
   .rw[hNx];exact u.symm.map Prod.fst
   .rw[hE];refine QhO (y:=.tmp 10) (z:=.tmp 11) (l:=X.l) (a:=ek e.1) rfl ?_ ?_ (QhV (N _))
    .rfl
    .rfl
   .intro b;refine WOy.step (QF rfl rfl rfl (OpV.not (b:=b) rfl rfl) (WO.nil ⟨rfl,?_⟩));refine WOy.nil ?_;refine TCy.cond (t:= !b) rfl (λq=>?_) (λq=>?_)
    .obtain rfl:b=false:=by simpa using q
     exact TCy.ret ⟨.inr rfl,.inr ⟨_,rfl⟩⟩
    .obtain rfl:b=true:=by simpa using q
     refine TCy.skip ?_;exact⟨_,h,i,rfl,rfl,hfin _ true g0 g1 g5⟩
theorem QfJ{g:FuncId}{fn:Func}(r:P.funcs[g]?=some fn)(t:fn.body=some (QmS tm tb ty tk (QpR tk) (.move (.tmp 3))))(q:fn.ntmps=14)(s:fn.results= #[])(j:∀w,(isAgg tm).run P w=.ok false w)(f:P.underlying tm=some (.map kt et))(n:∀x,QbQ (ek x)=true):
  Qhz P g [.ptr 0 0] [.cells tm [.map 1],.fmap (Qj ek ev m)] (λx=>[ek x]) anyN (m.map Prod.fst):=by
 refine Qlc (et:=et) (kt:=kt) r t q s j f n ?_;intro X e l env H st Q g0 g1 g5 hH hk;subst hH;refine TCy.lift (TC.region ?_);refine QF rfl rfl rfl (OpV.entry (e:=(ek e.1,ev e.2)) rfl g5 rfl) ?_;refine QF rfl rfl rfl (OpV.extract (v:=ek e.1) rfl rfl rfl) ?_;refine QF rfl rfl rfl (OpV.assign (v:=ek e.1) rfl rfl) ?_;refine WO.nil ?_;refine hk _ _ g0 g1 g5 ?_ ?_ rfl
 .intro a b d p k;exact Le.trans (QgQ (i:=2) (es:=Qj ek ev l) rfl rfl) (Lr [0,1,2] (hE:=⟨d,p,k,trivial⟩))
 .intro pos a h;exact OpV.move rfl (by show lk a 3=_;rw[h 3 (by decide)];rfl)
end
def Qp8(ts tq fA:Nat):Code:=(Code.region 0 #[{dst:=some 2,op:=.assign (.const (.slice none 0 0)),type:=ts,pos:="iter.go:59",after:= #[],guard:=none}] false).seq
 ((Code.region 1 #[{dst:=some 3,op:=.move (.tmp 0),type:=tq,pos:="iter.go:60",after:= #[],guard:=none},
  {dst:=some 4,op:=.call {callee:=.value (.func fA),args:= #[.const (.slice none 0 0),.tmp 3],argTypes:= #[ts,tq]},type:=ts,pos:="iter.go:60",after:= #[{on:=0,ground:=.data}],guard:=none},
  {dst:=some 2,op:=.assign (.tmp 4),type:=ts,pos:="iter.go:60",after:= #[{on:=1,ground:=.data},{on:=1,ground:=.chain},{on:=0,ground:=.phase},{on:=1,ground:=.phase}],guard:=none}] false).seq .ret)
theorem QgS{P:Program}{T:Type}{f j i k l:Nat}{g:FuncId}{es:List (A×A)}{e:T->List A}{xs:List T}{fC a:FuncId}{fn:Func}(s:P.funcs[fC]?=some fn)(u:fn.body=some (Qp8 f j a))(q:fn.ntmps=5)(t:fn.results= #[.tmp 2])
  (b:∀(env:Env) (H:Qd),lk env 3=.fn (.func g) [] [.ptr 0 0]->OpC P {dst:=some 4,op:=.call {callee:=.value (.func a),args:= #[.const (.slice none 0 0),.tmp 3],argTypes:= #[f,j]},type:=f,pos:="iter.go:60",after:= #[{on:=0,ground:=.data}],guard:=none} env H a [.nils,.fn (.func g) [] [.ptr 0 0]])
  (m:C P a [.nils,.fn (.func g) [] [.ptr 0 0]] [.cells l [.map 1],.fmap es] (λr H1=>∃p:List T,p.Perm xs/\r=.osl 2 0 p.length k/\H1=[.dead,.fmap es,.row i k (p.map e)])):
  C P fC [.fn (.func g) [] [.ptr 0 0]] [.cells l [.map 1],.fmap es] (λr H1=>∃p:List T,p.Perm xs/\r=.osl 2 0 p.length k/\H1=[.dead,.fmap es,.row i k (p.map e)]):=by
 refine Qb s u q rfl ?_;refine TC.seq (TC.region ?_);refine QF rfl rfl rfl (OpV.assign (v:=.nils) rfl rfl) ?_;refine WO.nil ?_;refine TC.seq (TC.region ?_);refine QF rfl rfl rfl (OpV.move (v:=.fn (.func g) [] [.ptr 0 0]) rfl rfl) ?_;refine WO.call (d:=some 4) [0,1] (XV rfl) rfl rfl (λx h=>by cases h;decide) (b _ _ rfl) rfl rfl (by decide) m ?_;rintro r H1 ⟨p,n,rfl,rfl⟩;refine QF rfl rfl rfl (OpV.assign (v:=.osl 2 0 p.length k) rfl rfl) ?_;refine WO.nil ?_;refine TC.ret ?_;exact⟨[(2,.osl 2 0 p.length k)],[.dead,.fmap es,.row i k (p.map e)],_,Lr [0,1,2],Qcr.one t rfl,p,n,rfl,rfl⟩
def QnB{K R:Type}[DecidableEq R](l:List K)(k:List K->Option R):Option R:=bif Nat.ble l.length Qy then anyP k l else none
theorem QkO{K R:Type}[DecidableEq R]{l:List K}{k:List K->Option R}{r:R}(h:QnB l k=some r):Nat.ble l.length Qy=true/\ ∀p,p.Perm l->k p=some r:=by
 unfold QnB at h;cases q:Nat.ble l.length Qy with
 |true=>rw[q]at h;exact⟨rfl,QkM h⟩
 |false=>rw[q]at h;cases h
end Go.Sw
namespace Go.Sw
section
variable {P:Program} {o:Oper} {env:Env} {H:Qd} {fr ro:Nat->Prop} {σ:Sig} {w:World}
theorem QlX{h0 i t b1 b2:Nat}{es:List (List A)}{l:List Ent}(hH:H[i]?=some (.rowr t 3 es))(he:l.map (eC b1 b2)=es):Le h0 env H env (H.set i (.ents t b1 b2 l)):=by
 subst he;intro e d σ N a w r;refine⟨d,σ,⟨r.sim.weaken (x':=.ents t b1 b2 l) hH rfl ?_,r.env,r.size,r.defers⟩,λ_ q=>q,rfl⟩;intro y h;cases y with
 |none=>exact h.elim
 |some b=>exact h
theorem Qc6{b1 b2:Nat}:∀(l:List Ent),allK 3 (l.map (eC b1 b2))
 |[]=>trivial
 |e::l=>⟨rfl,Qc6 l⟩
theorem Sim.phantomE(s:Sim fr ro σ H w)(t b1 b2:Nat):Sim fr ro (σ++[none]) (H++[.ents t b1 b2 []]) w:=by
 have ext:Ext ro σ w ro (σ++[none]) w:=⟨λ_ q=>q,λ_ _=>rfl,λ_ _ q=>q,λ_ _ h=>YJ h⟩;have G:=s.len;have a:∀(j:Nat) (v:Blk),(H++[Blk.ents t b1 b2 []])[j]?=some v->(j<H.length/\H[j]?=some v)\/(j=H.length/\v=.ents t b1 b2 []):=by
  intro j v h;rcases Nat.lt_trichotomy j H.length with q|q|q
  .rw[XQ q]at h;exact .inl ⟨q,h⟩
  .subst q;simp at h;exact .inr ⟨rfl,h.symm⟩
  .rw[XS (by simp;omega)]at h;cases h
 have hσ:∀(j:Nat) (z:Option Nat),(σ++[none])[j]?=some z->(j<σ.length/\σ[j]?=some z)\/(j=σ.length/\z=none):=by
  intro j z h;rcases Nat.lt_trichotomy j σ.length with q|q|q
  .rw[XQ q]at h;exact .inl ⟨q,h⟩
  .subst q;simp at h;exact .inr ⟨rfl,h.symm⟩
  .rw[XS (by simp;omega)]at h;cases h
 refine⟨by simp[G],s.roOk,s.frLt,s.roFr,λi b x k g m=>?_,λi j b x y k g m L F E=>?_,λi z x k g=>?_,
  s.hidTo (· = ·) QY (XX _) (λ_ _ _ _ _ _ _ q=>q) (λ_ _ _ _ _ _ _ q=>q) λj d y B J M=>.inl ?_⟩
 rotate_left 3
 .rcases hσ j _ B with⟨l,f⟩|⟨_,r⟩
  .rcases a j y J with⟨_,e⟩|⟨e,_⟩
   .exact⟨j,y,rfl,f,e,id,λ_ q=>q⟩
   .omega
  .cases r
 .rcases hσ i _ k with⟨l,f⟩|⟨_,r⟩
  .rcases a i x g with⟨_,e⟩|⟨e,_⟩
   .exact s.own i b x f e m
   .omega
  .cases r
 .rcases hσ i _ k with⟨l,f⟩|⟨_,r⟩
  .rcases hσ j _ g with⟨u,n⟩|⟨_,r⟩
   .rcases a i x m with⟨_,e⟩|⟨e,_⟩
    .rcases a j y L with⟨_,p⟩|⟨p,_⟩
     .exact s.inj i j b x y f n e p F E
     .omega
    .omega
   .cases r
  .cases r
 .rcases hσ i _ k with⟨l,f⟩|⟨l,rfl⟩
  .rcases a i x g with⟨_,e⟩|⟨e,_⟩
   .exact(s.blk i z x f e).keep ext (λ_ _ _=>rfl) (λ_ _ _ _=>rfl)
   .omega
  .rcases a i x g with⟨e,_⟩|⟨_,rfl⟩
   .omega
   .rfl
theorem Le.phantomE{h0 i m t T b1 b2:Nat}{cs:List A}(E:Nat.ble h0 H.length=true)(hH:H[i]?=some (.cells T cs))(e:cs[m]?=some .nils):
  Le h0 env H env (H.set i (.cells T (cs.set m (.osl H.length 0 0 3)))++[.ents t b1 b2 []]):=by
 intro G j σ N a w r;have f:h0<=H.length:=XV E;have x:i<H.length:=(XP.1 hH).1;have ext:Ext j σ w j (σ++[none]) w:=⟨λ_ q=>q,λ_ _=>rfl,λ_ _ q=>q,λ_ _ h=>YJ h⟩;have s:=r.sim.phantomE t b1 b2;have d:(H++[Blk.ents t b1 b2 []])[i]?=some (.cells T cs):=by rw[XQ x];exact hH
 have p:H.set i (.cells T (cs.set m (.osl H.length 0 0 3)))++[.ents t b1 b2 []]=(H++[Blk.ents t b1 b2 []]).set i (.cells T (cs.set m (.osl H.length 0 0 3))):=by
  rw[List.set_append_left _ _ x]
 rw[p];refine⟨j,σ++[none],⟨s.weaken d rfl ?_,λq=>(r.env q).mono ext,r.size,r.defers⟩,λ_ q=>q,Qv (by rw[r.sim.len];exact f)⟩;intro y h;cases y with
 |none=>exact h
 |some b=>
  obtain⟨l,n,F,k⟩:=h;refine⟨l,n,?_,k⟩;clear n k d p hH
  induction cs generalizing m l with
  |nil=>cases e
  |cons c cs B=>
   obtain⟨v,g,rfl,z,u⟩:=F;cases m with
   |zero=>
    simp at e;subst e;exact⟨v,g,rfl,.inl ⟨rfl,z⟩,u⟩
   |succ m=>exact⟨v,g,rfl,z,B (by simpa using e) g u⟩
theorem QN{h0 i m T:Nat}{cs:List A}(hH:H[i]?=some (.cells T cs)):Le h0 env H env (H.set i (.cells T (cs.set m .any))):=by
 intro s p σ N a w r;refine⟨p,σ,⟨r.sim.weaken hH rfl ?_,r.env,r.size,r.defers⟩,λ_ q=>q,rfl⟩;intro y h;cases y with
 |none=>exact h
 |some b=>
  obtain⟨l,f,j,e⟩:=h;refine⟨l,f,?_,e⟩;clear f e hH
  induction cs generalizing m l with
  |nil=>exact j
  |cons c cs k=>
   obtain⟨v,d,rfl,n,g⟩:=j;cases m with
   |zero=>exact⟨v,d,rfl,trivial,g⟩
   |succ m=>exact⟨v,d,rfl,n,k d g⟩
theorem srcE{j m t b1 b2:Nat}{l:List Ent}{v:Value}(s:Sim fr ro σ H w)(hH:H[j]?=some (.ents t b1 b2 l))(e:l.length=m)(h:VR ro σ w (.osl j 0 m 3) v):
  (∃a c,v=.slice a m c)/\ ∃vs:List Value,(∀w':World,w'.heap=w.heap->(Builtin.firstCells 3 m v).run P w'=.ok vs.toArray w')/\LR ro σ w (l.map (eC b1 b2)).flatten vs/\ ∀v∈vs,Qq v:=by
 rcases h with⟨rfl,rfl⟩|⟨b,p,d,L,B,f,rfl,r,E,G,z⟩
 .have:l=[]:=VN.1 e;subst this;exact⟨⟨none,0,rfl⟩,[],λ_ _=>Y1,rfl,by simp⟩
 .refine⟨⟨_,d,rfl⟩,?_⟩;obtain⟨F,x,u⟩:=s.blk j _ _ f hH;have q:=YV (pre:=[]) (by simpa using x) u;by_cases g:0<d
  .obtain rfl:=r g;obtain⟨i,J,y⟩:=q.flat;have:=Qb5 (P:=P) (k:=3) (n:=m) (c:=d) i (by rw[y];simp[e]);simpa using this
  .obtain rfl:m=0:=by omega
   have:l=[]:=VN.1 e;subst this;exact⟨[],λ_ _=>Y1,rfl,by simp⟩
theorem QnQ{c:Call}{T T' t e' i j n m b1 b2:Nat}{x y:Operand}{l k:List Ent}(E:QT P T t 3)(hd:∀w,(underlying T').run P w=.ok (.slice e') w)(G:Nat.ble (l.length+k.length) Qy=true)(M:Nat.blt 0 n=true)
  (ho:o.op=.call c:=by exact rfl)(hc:c={callee:=.builtin .append,args:= #[x,y],argTypes:= #[T,T']}:=by exact rfl)(hx:opA env x=.osl i 0 n 3:=by exact rfl)(hH:H[i]?=some (.ents t b1 b2 l):=by exact rfl)(hn:l.length=n:=by exact rfl)
  (R:opA env y=.osl j 0 m 3:=by exact rfl)(hHj:H[j]?=some (.ents t b1 b2 k):=by exact rfl)(hm:k.length=m:=by exact rfl):
  OpH P o env H (.osl H.length 0 (l++k).length 3) (H.set i .dead++[.ents t b1 b2 (l++k)]):=by
 intro fr s σ N a w r;have ai:=XV G;have aj:0<n:=by simpa using M
 have B:=Qg r x;rw[hx]at B;have h2:=Qg r y;rw[R]at h2;obtain⟨⟨ay,cy,X⟩,vs,O,q4,W⟩:=srcE (P:=P) r.sim hHj hm h2;rw[X]at O;obtain⟨_,e,o1,o2,o3⟩:=srcE (P:=P) r.sim hH hn B;have L:i<H.length:=(XP.1 hH).1;have ak:(H.set i .dead).length=H.length:=X8;rw[X7,hn,hm];rcases B with⟨q,_⟩|⟨b,p,cap,t',mm,h3,B,h4,h5,V,h7⟩
 .omega
 have F:=r.sim.blk i _ _ h3 hH;obtain⟨Y,g1,g2⟩:=F;have u:vs.length=m*3:=by rw[q4.length,Yu (Qc6 k)];simp[hm]
 have ag:e.length=n*3:=by rw[o2.length,Yu (Qc6 l)];simp[hn]
 rw[B]at o1;by_cases h:n+m<=cap
 .obtain rfl:p=0*3:=h4 (by omega);have f:=QcP (t:=o.type) E hd (ad:=some ⟨b,0*3,none⟩) (n:=n) (m:=m) (cap:=cap) (c:=cy) (ax:=ay) h (O w rfl);have z:(n+m)*3<=Y.length:=by
   have:w.shape? b=some (t,Y.length):=by unfold World.shape?;rw[g1];simp
   rw[this]at V;cases V;exact XZ (XF 3 h) (by simpa using h7)
  rw[XD]at z;have aa:=Q5 (P:=P) (vs:=vs) (n*3) 0 g1 (by rw[u];simpa using z) W;have g:=r.sim.set (x':=.ents t b1 b2 (l++k)) (obj:=.cells (splice Y (n*3) vs).toArray t (0,0)) h3 hH rfl
   (λy R=>Qaf g1 (Q4 (by rw[u];exact z)) y R)
   (λex ab=>⟨_,ab,by
    have:=(g2.app (n:=n) (by simp[hn]) (Qc6 k) q4 W).mono ex;rw[VM (by simp[hn])]at this;rw[Xg];exact this⟩)
  have sm:=g.1.moved (i:=i) (Xa L) h3;rw[List.set_set]at sm;refine⟨.slice (some ⟨b,0*3,none⟩) (n+m) cap,_,s,[some b],?_,.inr ⟨b,0*3,cap,t',mm,?_,rfl,h4,h,?_,h7⟩,sm,g.2⟩
  .refine Y2 ho hc _ ?_;rw[B,X,f];simp only[Jf,Nat.zero_mul,Xy,Vr,aa,Result.andThen,Vs];simp
  .rw[<- r.sim.len];simp
  .exact g.2.shape _ _ V
 .obtain⟨d,nc,Q,af,f⟩:=QhX (t:=o.type) E hd rfl (by omega) (by omega) O o1
  let w0:World:={w with drawn:=w.drawn+1}
  have J:Sim fr s σ (H.set i .dead) w0:=(r.sim.kill i).heap rfl;have e0:Qh fr s w s w0:=Qh.heap rfl rfl rfl rfl (Nat.le_succ _);have ac:LR s σ w0 ((l++k).map (eC b1 b2)).flatten (e++vs):=by
   rw[Xg,Xt];exact(o2.append q4).mono (Ext.heap (w:=w) (w':=w0) rfl)
  have ah:∀v∈e++vs,Qq v:=λv hv=>by rcases VH.1 hv with q|q;exact o3 v q;exact W v q
  have s1:=J.alloc (x:=.ents t b1 b2 (l++k)) (obj:=.cells ((e++vs)++d).toArray t) ⟨(e++vs)++d,Q9 _ _,(Jr (Qc6 _) ac ah).mono ((Qh.alloc (fr:=fr) _ J.roLt J.frLt).ext σ _)⟩;have ae:Qh fr s w0 s (w0.alloc (.cells ((e++vs)++d).toArray t)):=Qh.alloc _ J.roLt J.frLt;refine⟨_,_,s,[some w.heap.size],Y2 ho hc a.eval (by rw[B,X];exact f),.inr ⟨w.heap.size,0,nc,t,(e++vs++d).length,?_,rfl,λ_=>by simp,Q,?_,?_⟩,s1,e0.trans ae⟩
  .rw[<- r.sim.len];simp
  .have:=Q9 w0 (.cells ((e++vs)++d).toArray t);unfold World.shape?;rw[show w.heap.size=w0.heap.size from rfl,this];simp
  .simp only[X7,af,ag,u,Xy];omega
theorem QgO{c:Call}{T T' t e' i j n m b1 b2:Nat}{x y:Operand}{a b r:List Ent}(h:app a b=some r)(E:QT P T t 3)(e:∀w,(underlying T').run P w=.ok (.slice e') w)(d:Nat.blt 0 n=true)
  (g:o.op=.call c:=by exact rfl)(hc:c={callee:=.builtin .append,args:= #[x,y],argTypes:= #[T,T']}:=by exact rfl)(hx:opA env x=.osl i 0 n 3:=by exact rfl)(hH:H[i]?=some (.ents t b1 b2 a):=by exact rfl)(hn:a.length=n:=by exact rfl)
  (hy:opA env y=.osl j 0 m 3:=by exact rfl)(hHj:H[j]?=some (.ents t b1 b2 b):=by exact rfl)(hm:b.length=m:=by exact rfl):
  OpH P o env H (.osl H.length 0 r.length 3) (H.set i .dead++[.ents t b1 b2 r]):=by
 obtain⟨f,rfl⟩:=QjR h;exact QnQ E e (XW f) d g hc hx hH hn hy hHj hm
theorem Pts.ents{i off t e f b1 b2:Nat}{l:List Ent}{x:Ent}{cs':List A}(he:l[e]?=some x)(hH:H[i]?=some (.ents t b1 b2 l):=by exact rfl)(ho:off=e*3+f:=by exact rfl)(hcs:(eC b1 b2 x).drop f=cs':=by exact rfl):Pts H (.ptr i off) cs':=by
 intro m p σ w v s h;obtain⟨b,d,g⟩:=h;obtain⟨n,k,j⟩:=s.blk i _ _ d hH;have a:(l.map (eC b1 b2))[e]?=some (eC b1 b2 x):=by rw[Xq,he];rfl
 have:=((YV (pre:=[]) (by simpa using k) j).get e a).2.drop f;refine⟨b,off,g,?_⟩;rw[<- hcs,ho];simpa using this
def Qf0(cs:List A)(s:Int)(e:Ent):Option Int:=bif e.fl then(bif e.off==0 then some s else none)else match cs[e.off]? with
 |some (.int .i64 v)=>some v
 |_=>none
def Qjm{F:Type}(put:F->Nat->Int->Option F)(x:F)(s:Int)(e:Ent)(v:Int):Option (F×Int):=
 bif e.fl then(bif e.off==0 then some (x,v)else none)else(put x e.off v).map λy=>(y,s)
abbrev Qhu(b1 b2:Nat)(e:Ent):A:=.ptr (bif e.fl then b2 else b1) e.off
theorem Qnm{l:List A}{i:Nat}{a:A}(h:l[i]?=some a):∃r,l.drop i=a::r:=by
 obtain⟨b,rfl⟩:=XP.1 h;exact⟨_,Xr b⟩
theorem Qce{t b1 b2 T1 T2:Nat}{x:Operand}{e:Ent}{cs:List A}{s v:Int}(h:Qf0 cs s e=some v)(f:∀w,(isAgg t).run P w=.ok false w)(i:o.op=.load t x:=by exact rfl)(hx:opA env x=Qhu b1 b2 e:=by exact rfl)
  (h1:H[b1]?=some (.cells T1 cs):=by exact rfl)(h2:H[b2]?=some (.cells T2 [.int .i64 s]):=by exact rfl):OpV P o env H (.int .i64 v):=by
 unfold Qf0 at h;unfold Qhu at hx;cases g:e.fl with
 |true=>
  rw[g]at h hx;simp only[Vt]at h hx;cases b:e.off==0 with
  |false=>rw[b]at h;cases h
  |true=>
   rw[b]at h;have j:e.off=0:=by simpa using b
   rw[j]at hx;have m:s=v:=by simpa using h
   subst m;exact OpV.load i f hx (Pts.cells (cs':=[.int .i64 s]) h2 rfl)
 |false=>
  rw[g]at h hx;simp only[Vu]at h hx;cases d:cs[e.off]? with
  |none=>rw[d]at h;cases h
  |some a=>
   rw[d]at h;obtain⟨r,l⟩:=Qnm d;cases a with
   |int k n=>
    cases k<;>first|(cases h;exact OpV.load i f hx (Pts.cells h1 l))|cases h
   |_=>cases h
theorem Qje{l:List A}{i:Nat}{a:A}(h:i<l.length):splice l i [a]=l.set i a:=by
 unfold splice;rw[List.set_eq_take_append_cons_drop,Vx h];simp
theorem QhU{i:Nat}{b:Blk}(h:H[i]?=some b):H.set i b=H:=by
 apply List.ext_getElem?;intro j;rw[Xb];by_cases e:i=j
 .subst e;rw[Vx rfl,Vx (XP.1 h).1,h]
 .rw[Vw e]
theorem Qj4{F:Type}{c:F->List A}{put:F->Nat->Int->Option F}{t b1 b2 T1 T2:Nat}{x y:Operand}{e:Ent}{f f':F}{s s' v:Int}(h:Qjm put f s e v=some (f',s'))(a:∀x o v y,put x o v=some y->c y=(c x).set o (.int .i64 v)/\o<(c x).length)
  (k:∀w,(sizeOf t).run P w=.ok 1 w)(m:o.op=.store t x y:=by exact rfl)(hx:opA env x=Qhu b1 b2 e:=by exact rfl)(h1:H[b1]?=some (.cells T1 (c f)):=by exact rfl)(h2:H[b2]?=some (.cells T2 [.int .i64 s]):=by exact rfl)(hy:opA env y=.int .i64 v:=by exact rfl)
  (hb:Nat.beq b1 b2=false:=by exact rfl):OpU P o env H ((H.set b1 (.cells T1 (c f'))).set b2 (.cells T2 [.int .i64 s'])):=by
 have b:b1≠b2:=λq=>by subst q;rw[VJ]at hb;cases hb
 unfold Qjm at h;unfold Qhu at hx;cases l:e.fl with
 |true=>
  rw[l]at h hx;simp only[Vt]at h hx;cases d:e.off==0 with
  |false=>rw[d]at h;cases h
  |true=>
   rw[d]at h;have p:e.off=0:=by simpa using d
   rw[p]at hx;obtain⟨rfl,rfl⟩:f=f'/\v=s':=by simpa using h
   rw[QhU h1];exact OpU.store (cs:=[.int .i64 s]) (vs:=[.int .i64 v]) (cs':=[.int .i64 v]) (v:=.int .i64 v) m hx h2 k hy rfl rfl rfl rfl rfl rfl
 |false=>
  rw[l]at h hx;simp only[Vu]at h hx;cases i:put f e.off v with
  |none=>rw[i]at h;cases h
  |some g=>
   rw[i]at h;obtain⟨rfl,rfl⟩:g=f'/\s=s':=by simpa using h
   obtain⟨r,j⟩:=a _ _ _ _ i;have n:(H.set b1 (.cells T1 (c g)))[b2]?=some (.cells T2 [.int .i64 s]):=by rw[XT b];exact h2
   rw[QhU n];exact OpU.store (cs:=c f) (vs:=[.int .i64 v]) (cs':=c g) (v:=.int .i64 v) m hx h1 k hy rfl rfl rfl rfl (XW j) (by rw[Qje j,r])
end
section
variable {P:Program} {h0 N:Nat} {A B C:Code} {env:Env} {H:Qd} {Q:QB}
theorem QnJ{S B1:Type}{b:Ctl S B1}(Eb:S->Env)(Hb:S->Qd)(h:TC P h0 N A env H (Seq P h0 N B (QfW h0 b Eb Hb (Seq P h0 N C Q))))(k:∀s env H,b=.cont s->Le h0 env H (Eb s) (Hb s)->Seq P h0 N C Q .normal env H):TC P h0 N (.seq A (.seq B C)) env H Q:=by
 refine TC.seq (h.mono λx env' H' q=>?_);cases x with
 |normal=>exact TC.seq (Qhy Eb Hb q k)
 |exit id=>exact q
 |ret=>exact q
end
end Go.Sw
namespace Go.Sw
section
variable {P:Program} {o:Oper} {env:Env} {H:Qd}
theorem Qfj{f g:Nat->Option (Nat×Nat)}:∀(parts:List (Nat×Value)) (cs:Array Value),(∀p∈parts,f p.1=g p.1)->Instr.fill f cs parts=Instr.fill g cs parts
 |[],cs,_=>rfl
 |(i,v)::rest,cs,h=>by
  unfold Instr.fill;rw[h (i,v) (by simp)];have ih:=λcs=>Qfj rest cs (λp hp=>h p (by simp[hp]));cases g i with
  |none=>rfl
  |some p=>
   obtain⟨off,size⟩:=p;simp only;split
   .rfl
   .exact ih _
theorem JD{t e n k:Nat}{z:Value}{zs cs:List A}{parts:List (Nat×Operand)}(E:∀w,(zeroValue t).run P w=.ok z w)(j:ZR (.agg zs) z)(u:∀w,(underlying t).run P w=.ok (.array n e) w)(m:∀w,(sizeOf e).run P w=.ok k w)
  (F:(parts.all λp=>Nat.blt p.1 n)=true)(g:o.op=.build t parts.toArray:=by exact rfl)(hf:Qd6 env ((List.range n).map λi=>(i*k,k)) zs parts=some cs:=by exact rfl):OpV P o env H (.agg cs):=by
 intro J G σ N a w r;obtain⟨l,rfl,x⟩:=j G σ w;obtain⟨d,s,f⟩:=Qfk r parts zs l cs x hf;refine⟨.agg d.toArray,?_,d,rfl,f⟩;have B:Instr.fill (λi=>some (i*k,k)) l.toArray (parts.map λp=>(p.1,a.eval p.2))=some d.toArray:=by
  rw[<- s];refine Qfj _ _ ?_;intro p h;obtain⟨q,y,rfl⟩:=Xf.1 h;have b:q.1<n:=by simpa using Xu.1 F q y
  simp[b]
 generalize hρ:a.eval=ρ at*;simp only[execOp,g,Instr.build,Vr,E,Result.andThen,u,m,XM,Vs,Value.cells,B]
def YL(k:IntKind)(m n:Int):Int:=k.wrap (BitVec.ofInt k.bits m&&& BitVec.ofInt k.bits n).toNat
def orI(k:IntKind)(m n:Int):Int:=k.wrap (BitVec.ofInt k.bits m|||BitVec.ofInt k.bits n).toNat
def QeD(k:IntKind)(m n:Int):Int:=k.wrap (BitVec.ofInt k.bits m^^^BitVec.ofInt k.bits n).toNat
def QeJ(k:IntKind)(m n:Int):Int:=k.wrap (m*2^(min n.toNat k.bits))
def Yg(k:IntKind)(m n:Int):Int:=m.fdiv (2^(min n.toNat k.bits))
theorem OpV.and{t u:TypeId}{x y:Operand}{k:IntKind}{m n:Int}(e:o.op=.binOp .and t x y u)(g:opA env x=.int k m)(b:opA env y=.int k n):OpV P o env H (.int k (YL k m n)):=by
 intro h i σ N a w r;have d:=QQ r g;have f:=QQ r b;refine⟨_,?_,rfl⟩;generalize a.eval=ρ at*;simp[execOp,e,d,f,Go.binOp,eqGuard,Op.intBits,go_sem,YL]
theorem OpV.or{t u:TypeId}{x y:Operand}{k:IntKind}{m n:Int}(e:o.op=.binOp .or t x y u)(g:opA env x=.int k m)(b:opA env y=.int k n):OpV P o env H (.int k (orI k m n)):=by
 intro h i σ N a w r;have d:=QQ r g;have f:=QQ r b;refine⟨_,?_,rfl⟩;generalize a.eval=ρ at*;simp[execOp,e,d,f,Go.binOp,eqGuard,Op.intBits,go_sem,orI]
theorem OpV.xor{t u:TypeId}{x y:Operand}{k:IntKind}{m n:Int}(e:o.op=.binOp .xor t x y u)(g:opA env x=.int k m)(b:opA env y=.int k n):OpV P o env H (.int k (QeD k m n)):=by
 intro h i σ N a w r;have d:=QQ r g;have f:=QQ r b;refine⟨_,?_,rfl⟩;generalize a.eval=ρ at*;simp[execOp,e,d,f,Go.binOp,eqGuard,Op.intBits,go_sem,QeD]
theorem OpV.shl{t u:TypeId}{x y:Operand}{k g:IntKind}{m n:Int}(d:o.op=.binOp .shl t x y u)(i:opA env x=.int k m)(f:opA env y=.int g n)(h:0<=n):OpV P o env H (.int k (QeJ k m n)):=by
 intro j l σ N a w r;have b:=QQ r i;have e:=QQ r f;refine⟨_,?_,rfl⟩;generalize a.eval=ρ at*;simp[execOp,d,b,e,Go.binOp,eqGuard,Op.shift,go_sem,QeJ,Int.not_lt.2 h]
theorem OpV.shr{t u:TypeId}{x y:Operand}{k g:IntKind}{m n:Int}(d:o.op=.binOp .shr t x y u)(i:opA env x=.int k m)(f:opA env y=.int g n)(h:0<=n):OpV P o env H (.int k (Yg k m n)):=by
 intro j l σ N a w r;have b:=QQ r i;have e:=QQ r f;refine⟨_,?_,rfl⟩;generalize a.eval=ρ at*;simp[execOp,d,b,e,Go.binOp,eqGuard,Op.shift,go_sem,Yg,Int.not_lt.2 h]
theorem YR{h0 i m t k T:Nat}{cs:List A}(F:Nat.ble h0 H.length=true)(hH:H[i]?=some (.cells T cs))(e:cs[m]?=some .nils):
  Le h0 env H env (H.set i (.cells T (cs.set m (.osl H.length 0 0 k)))++[.row t k []]):=by
 intro J j σ N a w r;have f:h0<=H.length:=XV F;have z:i<H.length:=(XP.1 hH).1;have ext:Ext j σ w j (σ++[none]) w:=⟨λ_ q=>q,λ_ _=>rfl,λ_ _ q=>q,λ_ _ h=>YJ h⟩;have s:=r.sim.phantom t k;have d:(H++[Blk.row t k []])[i]?=some (.cells T cs):=by rw[XQ z];exact hH
 have u:H.set i (.cells T (cs.set m (.osl H.length 0 0 k)))++[.row t k []]=(H++[Blk.row t k []]).set i (.cells T (cs.set m (.osl H.length 0 0 k))):=by
  rw[List.set_append_left _ _ z]
 rw[u];refine⟨j,σ++[none],⟨s.weaken d rfl ?_,λq=>(r.env q).mono ext,r.size,r.defers⟩,λ_ q=>q,Qv (by rw[r.sim.len];exact f)⟩;intro y h;cases y with
 |none=>exact h
 |some b=>
  obtain⟨l,p,G,n⟩:=h;refine⟨l,p,?_,n⟩;clear p n d u hH
  induction cs generalizing m l with
  |nil=>cases e
  |cons c cs E=>
   obtain⟨v,g,rfl,B,x⟩:=G;cases m with
   |zero=>
    simp at e;subst e;exact⟨v,g,rfl,.inl ⟨rfl,B⟩,x⟩
   |succ m=>exact⟨v,g,rfl,B,E (by simpa using e) g x⟩
theorem QgP{h0 i s g n k:Nat}{x:Blk}(y:lk env s=.osl i g n k)(hH:H[i]?=some x)(B:Nat.ble h0 H.length=true):Le h0 env H (up env s (.osl H.length g n k)) (H.set i .dead++[x]):=by
 intro E f σ N a w r;have z:i<σ.length:=by rw[r.sim.len];exact(XP.1 hH).1
 have hσ:σ[i]?=some σ[i]:=XO z;have ext:Ext f σ w f (σ++[σ[i]]) w:=⟨λ_ q=>q,λ_ _=>rfl,λ_ _ q=>q,λ_ _ h=>YJ h⟩;refine⟨f,σ++[σ[i]],⟨r.sim.moved hH hσ,?_,r.size,r.defers⟩,λ_ q=>q,Qv (by rw[r.sim.len];exact XV B)⟩;intro d;simp only[lk];by_cases q:d=s
 .subst q;rw[VJ];have:=r.env d;rw[y]at this;rcases this with h|⟨b,p,e,t,m,j,u⟩
  .exact .inl h
  .refine .inr ⟨b,p,e,t,m,?_,u⟩;rw[j]at hσ;rw[<- r.sim.len];simpa using hσ.symm
 .have:Nat.beq d s=false:=by
   rw[VQ];intro l;exact q (XU l)
  rw[this];exact(r.env d).mono ext
def Qbw(n:Int):UInt8:=n.toNat.toUInt8
def QlF(P:Program)(H:Qd)(x:A)(l:List Int):Prop:=
 ∀fr ro σ w v,Sim fr ro σ H w->VR ro σ w x v->(∃a c,v=.slice a 0 c/\l=[])\/ ∃b off c,v=.slice (some ⟨b,off,none⟩) l.length c/\(l=[]\/CR ro σ w b (l.map λn=>A.int .u8 n) off)
theorem Qhl:∀(l:List Int),(l.map (λn=>[A.int .u8 n])).flatten=l.map λn=>A.int .u8 n
 |[]=>rfl
 |n::l=>by simp[Qhl l]
theorem QlF.nils:QlF P H .nils []:=λfr ro σ w v s h=>.inl ⟨none,0,h,rfl⟩
theorem QlF.row{i t n:Nat}{l:List Int}(hH:H[i]?=some (.row t 1 (l.map λn=>[A.int .u8 n])):=by exact rfl)(hn:l.length=n:=by exact rfl):QlF P H (.osl i 0 n 1) l:=by
 intro r B σ w v s h;rcases h with⟨rfl,rfl⟩|⟨b,p,a,z,m,f,rfl,g,u,y,q⟩
 .exact .inl ⟨none,0,rfl,VN.1 hn⟩
 .refine .inr ⟨b,p,a,by rw[hn],?_⟩;by_cases e:l=[]
  .exact .inl e
  .have:0<a:=by have:=List.length_pos_iff.2 e;omega
   obtain rfl:=g this;obtain⟨x,k,j⟩:=s.blk i _ _ f hH;have d:=(YV (pre:=[]) (by simpa using k) j).flat.1;rw[Qhl]at d;exact .inr (by simpa using d.lift)
theorem QlF.rsl{l:List Int}:QlF P H (.rsl 1 (l.map λn=>[A.int .u8 n])) l:=by
 intro h j σ w v s ⟨a,c,h1,h2,d⟩;subst h1;rw[X6]at*;rcases d with d|⟨b,e,rfl,i,g⟩
 .have:l=[]:=List.map_eq_nil_iff.1 d;subst this;exact .inl ⟨a,c,by simp,rfl⟩
 .have f:=g.flat.1;rw[Qhl]at f;exact .inr ⟨b,e,c,rfl,.inr f.lift⟩
theorem Qck{ro:Nat->Prop}{σ:Sig}{w:World}{b:Nat}:∀(l:List Int) (off:Nat) (a:ByteArray),CR ro σ w b (l.map λn=>A.int .u8 n) off->(Extern.Bytes.loadBytes ⟨b,off,none⟩ l.length a).run P w=.ok ⟨a.data++(l.map Qbw).toArray⟩ w
 |[],off,a,_=>by simp[Extern.Bytes.loadBytes,go_sem]
 |n::l,off,a,⟨⟨v,h1,hp,h2⟩,h3⟩=>by
  have h2':v=.int .u8 n:=h2;subst h2';have ih:=Qck l (off+1) (a.push n.toNat.toUInt8) h3;have hl:(Go.load ⟨b,off,none⟩).run P w=.ok (.int .u8 n) w:=by simp[Go.load,Sem.run,h1]
  simp only[X5,Extern.Bytes.loadBytes,Vr,hl,Result.andThen];have d:(⟨b,off,none⟩:Addr).add 1=⟨b,off+1,none⟩:=by simp[Jf]
  rw[d,ih];simp[Qbw,ByteArray.push]
theorem QdW{fr ro:Nat->Prop}{σ:Sig}{w:World}{x:A}{l:List Int}{v:Value}(h:QlF P H x l)(s:Sim fr ro σ H w)(f:VR ro σ w x v):(Extern.Bytes.bytesOf v).run P w=.ok ⟨(l.map Qbw).toArray⟩ w:=by
 rcases h fr ro σ w v s f with⟨a,c,rfl,rfl⟩|⟨b,d,c,rfl,e⟩
 .cases a with
  |none=>simp[Extern.Bytes.bytesOf,go_sem];rfl
  |some a=>simp[Extern.Bytes.bytesOf,Extern.Bytes.loadBytes,go_sem];rfl
 .rcases e with rfl|e
  .simp[Extern.Bytes.bytesOf,Extern.Bytes.loadBytes,go_sem];rfl
  .have:=Qck (P:=P) l d .empty e;simp only[Extern.Bytes.bytesOf,this];congr 2;simp[ByteArray.empty,ByteArray.emptyWithCapacity];rfl
def cmpB(l m:List Int):Int:=Lib.compareBytes (l.map Qbw) (m.map Qbw)
theorem OpV.cmpB{c:Call}{f:FuncId}{fn:Func}{x y:Operand}{t:Array TypeId}{ax h:A}{l m:List Int}(u:P.funcs[f]?=some fn)(b:(fn.name=="runtime.NumGoroutine")=false)(B:fn.body.isNone=true)(p:Extern.findNext fn=none)(he:Extern.find fn=some Extern.BytealgCompare.compare)
  (k:QlF P H ax l)(q:QlF P H h m)(n:o.op=.call c:=by exact rfl)(hc:c={callee:=.value (.func f),args:= #[x,y],argTypes:=t}:=by exact rfl)(hx:opA env x=ax:=by exact rfl)(hy:opA env y=h:=by exact rfl):OpV P o env H (.int .i64 (cmpB l m)):=by
 intro E F σ N a w r;have g:=Qg r x;rw[hx]at g;have d:=Qg r y;rw[hy]at d;have s:=QdW k r.sim g;have i:=QdW q r.sim d;refine⟨.int .i64 (Sw.cmpB l m),?_,rfl⟩;subst hc;have e:a.eval (.func f)=.func (.func f) #[] #[]:=rfl;have z:(callFunc f #[a.eval x,a.eval y]).run P w=.ok (.value (.int .i64 (Sw.cmpB l m))) w:=by
  rw[run_callFunc_extern u b B p he];have j:Sem.run P (Extern.BytealgCompare.compare #[a.eval x,a.eval y]) w=.ok (.int .i64 (Sw.cmpB l m)) w:=by
   change Sem.run P (do pure (goInt (Extern.BytealgCompare.cmp (<- Extern.Bytes.bytesOf (a.eval x)) (<- Extern.Bytes.bytesOf (a.eval y))))) w=_;simp only[Vr,s,i,Result.andThen,Vs,Lib.cmp_eq];rfl
  rw[j];rfl
 generalize a.eval=ρ at*;simp only[execOp,n,resolve,e,Deferred.ofValue,invoke,Vr,Vs,Result.andThen];simpa using z
theorem Q1{t et n k b off j:Nat}{x y:Operand}{i:Int}{s:IntKind}(l:(i==(j:Int))=true)(J:Nat.blt j n=true)(z:∀w,(underlying t).run P w=.ok (.array n et) w)(G:∀w,(sizeOf et).run P w=.ok k w)(g:Nat.ble 2 n=true)
  (B:o.op=.indexAddr t x y:=by exact rfl)(hx:opA env x=.ptr b off:=by exact rfl)(hy:opA env y=.int s i:=by exact rfl):OpV P o env H (.ptr b (off+j*k)):=by
 intro M O σ N a w r;have e:=Qg r x;rw[hx]at e;obtain⟨f,e,u⟩:=e;have p:=Qg r y;rw[hy]at p;have m:a.eval y=.int s i:=p;have L:i=(j:Int):=by simpa using l
 have h:j<n:=by simpa using J
 have F:2<=n:=XV g;subst L;refine⟨.pointer (some ⟨f,off+j*k,none⟩),?_,f,e,rfl⟩;have E:0<=(j:Int)/\(j:Int)<(n:Int):=by omega
 have d:(⟨f,off,none⟩:Addr).add ((j:Int).toNat*k)=⟨f,off+j*k,none⟩:=by
  unfold Addr.add;split
  .rename_i q;simp at q;simp[q]
  .simp
 generalize a.eval=ρ at*;simp[execOp,B,u,m,Instr.indexAt,asIntOf,z,G,Instr.sureAddr,E,d,go_sem,Result.andThen,h]
end
end Go.Sw
namespace Go.Sw
theorem QmR{P:Program}{W:World}{name:String}{d:DataW Unit}:∀{a:List (String×DataW Unit)} {ps:List MemPlace},DataW.LaidVars P W a ps->(name,d)∈a->
  ∃(g:Nat) (t:TypeId) (cs:Array Value) (b:Nat) (p:List MemPlace),P.globalNamed name=some g/\(P.globals[g]?).map (·.type)=some t/\W.var? P name=some cs/\DataW.trod (λ_=>()) P W 0 (λ_=>true) false b t cs.toList=some (d,p):=by
 intro a
 induction a with
 |nil=>intro ps h f;cases f
 |cons x a k=>
  intro ps h f;obtain⟨g,t,cs,b,p,q,j,m,l,n,i,r⟩:=h;rcases Va.1 f with e|f
  .subst e;exact⟨g,t,cs,b,p,j,m,l,n⟩
  .exact k i f
theorem Yi{P:Program}{W:World}{name:String}{a b:Int}{g t e:Nat}{i l:Field}{d:List (String×DataW Unit)}{ps:List MemPlace}(h:DataW.LaidVars P W d ps)(Q:(name,DataW.agg [.lit (.int .i64 a),.lit (.int .i64 b)])∈d)
  (hg:P.globalNamed name=some g)(m:(P.globals[g]?).map (·.type)=some t)(B:P.underlying t=some (.struct #[i,l]))(G:i.type=e)(J:l.type=e)(w:i.offset=0)(R:l.offset=1)(he:P.underlying e=some (.int .i64))(f:P.cellsOf e=1)(k:P.cellsOf t=2):
  W.cell? ⟨g,0,none⟩=some (.int .i64 a)/\W.cell? ⟨g,1,none⟩=some (.int .i64 b):=by
 obtain⟨Y,X,cs,q,p,N,z,u,L⟩:=QmR h Q;obtain rfl:=X4 (hg.symm.trans N);obtain rfl:=X4 (m.symm.trans z);obtain⟨V,y1,n,T,H,r,s⟩:=Go.ChangeShapes.trod_struct2 B L;rw[G,w,f]at r;rw[J,R,f]at s;obtain⟨F,x,M,_⟩:=DataW.trod_int he r;obtain⟨y,E,O,_⟩:=DataW.trod_int he s;subst M O;have j:a=F/\b=y:=by simpa using congrArg Prod.fst T
 obtain⟨rfl,rfl⟩:=j;rw[World.var?_cell hg u,World.var?_cell hg u];rw[k]at H;constructor
 .have:=congrArg (·[0]?) x;simpa[List.getElem?_take]using this
 .have:=congrArg (·[0]?) E;simpa[List.getElem?_take,List.getElem?_drop]using this
theorem Jy{w:World}{g:Nat}{a b:Int}(s:w.cell? ⟨g,0,none⟩=some (.int .i64 a)/\w.cell? ⟨g,1,none⟩=some (.int .i64 b)):∀(zs:List Int),some [a,b]=some zs->∀(i:Nat) (z:Int),zs[i]?=some z->w.cell? ⟨g,i,none⟩=some (.int .i64 z)
 |zs,h,0,z,hi=>by cases h;cases hi;exact s.1
 |zs,h,1,z,hi=>by cases h;cases hi;exact s.2
 |zs,h,i+2,z,hi=>by cases h;simp at hi
end Go.Sw
