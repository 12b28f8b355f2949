/- The rules by which the code is walked, with what they rest on (part 2). -/
import Derived.Test.YtckiejaapddafaaGreatDoorL1
import Derived.Shelf.SlSortCmp.NoneTotal
import Derived.Below
import GoSem.ClaimChange
import Derived.Shelf.Strings.Search3
import Derived.Lib.LazyBuf
import Derived.Shelf.Sort.Plain
import Derived.Shelf.Slices.In.SortNone
import Derived.Shelf.Slices.CompactI
import Derived.RangeFuncIn
import Derived.RangeFuncSeq
import Derived.RangeFuncNested
import Derived.Lib.Bytealg
import Derived.Laws.Externs
import Derived.LaidLaws
import Derived.Lib.LaidTab
import Derived.ChangeArms
import Derived.ChangeSame
set_option linter.unusedVariables false
set_option linter.unusedSectionVars false
set_option linter.unusedSimpArgs false
namespace Go.Sw
def mk{α:Type}(n:Int)(z:α):Option (List α):=bif decide (0<=n)&&decide (n<=4294967296)then some (List.replicate n.toNat z)else none
theorem mk_ok{α:Type}{n:Int}{z:α}{l:List α}(h:mk n z=some l):0<=n/\n<=4294967296/\List.replicate n.toNat z=l:=by
 unfold mk at h;cases q:(decide (0<=n)&&decide (n<=4294967296))with
 |true=>rw[q]at h;simp at q;exact⟨q.1,q.2,X2 h⟩
 |false=>rw[q]at h;cases h
theorem Qge{α:Type}[Inhabited α](zl:List α)(k:Nat)(hk:zl.length=k)(h0:0<k):∀n,(List.range (n*k)).map (λi=>zl.toArray[i%zl.toArray.size]!)=(List.replicate n zl).flatten
 |0=>by simp
 |n+1=>by
  rw[Xl,List.range_add,Xf,Qge zl k hk h0 n,List.replicate_succ',Xs];congr 1;simp only[Vn,List.flatten_nil,Vi,List.map_map];apply List.ext_getElem
  .simp[hk]
  .intro i h1 h2;simp only[X4,Xv]at h1;simp only[List.getElem_map,List.getElem_range,Function.comp,List.size_toArray,hk];rw[Nat.mul_comm,Nat.mul_add_mod,Nat.mod_eq_of_lt h1];simp[hk,h1]
section
variable {P:Program} {o:Oper} {env:Env} {H:Qd} {ro:Nat->Prop} {σ:Sig} {w:World}
theorem LR.replicate{az:List A}{l:List Value}(h:LR ro σ w az l):∀n,LR ro σ w (List.replicate n az).flatten (List.replicate n l).flatten
 |0=>rfl
 |n+1=>by
  rw[List.replicate_succ,List.replicate_succ];exact h.append (LR.replicate h n)
theorem QoM{α:Type}{e:α->List A}{T et k:Nat}{x y:Operand}{kx Y:IntKind}{n:Int}{zv:α}{l:List α}{z:Value}{a:A}(X:mk n zv=some l)(E:QU P T et k)(hz:∀w,(zeroValue et).run P w=.ok z w)(ab:ZR a z)
  (hk:Yb a=true)(hc:Q0 a=e zv)(hp:(Q0 a).all Yl=true)(g:Nat.beq (e zv).length k=true)
  (ho:o.op=.makeSlice T x y:=by exact rfl)(hx:opA env x=.int kx n:=by exact rfl)(hy:opA env y=.int Y n:=by exact rfl):
  OpH P o env H (.osl H.length 0 l.length k) (H++[.row et k (l.map e)]):=by
 intro fr ro σ N act w r;obtain⟨n0,n1,hl⟩:=mk_ok X;have R:=Qg r x;rw[hx]at R;have h2:=Qg r y;rw[hy]at h2;have af:act.eval x=.int kx n:=R;have L:act.eval y=.int Y n:=h2;obtain⟨i,hi,ah⟩:=E.bytes;obtain⟨d,c1,c2⟩:=(ab ro [] w).cells hk;have p:d.length=k:=by
  rw[c2.length,hc];exact XT g
 have ag:(if n.toNat*k=0 then(#[]:Array Value)else d.toArray)=d.toArray\/n.toNat*k=0:=by
  by_cases q:n.toNat*k=0
  .exact .inr q
  .exact .inl (Vu q)
 have b:∀(ZZ:Array Value),(ZZ=d.toArray\/n.toNat*k=0)->(Array.range (n.toNat*k)).map (λj=>ZZ[j%ZZ.size]!)=((List.replicate n.toNat d).flatten).toArray:=by
  intro ZZ hZ;by_cases q:n.toNat*k=0
  .rw[q];have:(List.replicate n.toNat d).flatten=[]:=by
    apply VL.1;simp[p,q]
   rw[this];simp
  .obtain rfl:ZZ=d.toArray:=hZ.resolve_right q;have V:0<k:=by
    rcases Nat.eq_zero_or_pos k with h|h
    .rw[h,Nat.mul_zero]at q;exact absurd rfl q
    .exact h
   rw[<- Qge d k p V n.toNat];simp[XL, <- List.toArray_range]
 have G:=c2.replicate n.toNat;have O:allK k (List.replicate n.toNat (e zv)):=by
  have:∀m,allK k (List.replicate m (e zv)):=by
   intro m
   induction m with
   |zero=>trivial
   |succ m ih=>exact⟨XT g,ih⟩
  exact this _
 have f:∀v∈(List.replicate n.toNat d).flatten,Qs v:=by
  intro v J;obtain⟨m,X,J⟩:=List.mem_flatten.1 J;rw[List.eq_of_mem_replicate X]at J;exact c2.plain hp v J
 rw[hc]at G;have hs:=r.sim.allocRow (t:=et) (rest:=[]) O G f;rw[Vi]at hs;have F:l.map e=List.replicate n.toNat (e zv):=by rw[<- hl,List.map_replicate]
 have B:l.length=n.toNat:=by rw[<- hl];simp
 have aa:(w.alloc (.cells ((List.replicate n.toNat d).flatten).toArray et)).shape? w.heap.size=some (et,n.toNat*k):=by
  unfold World.shape?;rw[Q9];simp[p]
 refine⟨.slice (some ⟨w.heap.size,0,none⟩) n.toNat n.toNat,w.alloc (.cells ((List.replicate n.toNat d).flatten).toArray et),ro,[some w.heap.size],?_,?_,F▸hs,Qh.alloc _ r.sim.roLt r.sim.frLt⟩
 .have hw:IntKind.i64.wrap n=n:=by
   unfold IntKind.wrap;simp[IntKind.bits,IntKind.signed];omega
  have ae:∀(x:Nat) (W:World),(askRoom x).run P W=.ok () W:=by
   intro x W;unfold askRoom;split<;>rfl
  have u:∀(c:Array Value) (W:World),(newRow et c).run P W=.ok ⟨W.heap.size,0,none⟩ (W.alloc (.cells c et)):=λc W=>rfl;have Q:¬(n<0):=by omega
  have M:¬((i.bytes:Int)*n>2^48):=by
   have R:(i.bytes:Int)*n<=4096*4294967296:=Int.mul_le_mul (by omega) n1 n0 (by omega);omega
  have s:(Instr.makeSlice T (.int kx n) (.int Y n)).run P w=.ok (.slice (some ⟨w.heap.size,0,none⟩) n.toNat n.toNat) (w.alloc (.cells ((List.replicate n.toNat d).flatten).toArray et)):=by
   have ai:¬(n>n):=by omega
   have ac:∀(k:IntKind) (m:Int) (W:World),(asInt (.int k m)).run P W=.ok m W:=λk m W=>rfl;unfold Instr.makeSlice;simp only[Vp,E.sl,E.size,hi,Result.andThen,ac,Vq,hw,ae,XK];rw[Vu (by simp[Q,M];omega)];by_cases q:n.toNat*k=0
   .simp only[q,if_true,Vq];have:=b #[] (.inr q);rw[q]at this;simp only[this,u]
   .simp only[q,if_false,hz,Vq,c1,b d.toArray (.inl rfl),u]
  generalize act.eval=ρ at*;simp only[execOp,ho,af,L,Vp,s,Result.andThen];rfl
 .right;refine⟨w.heap.size,0,n.toNat,et,n.toNat*k,?_,by rw[B],λ_=>by simp,by rw[B];exact XW _,aa,by simp⟩;rw[<- r.sim.len];simp
end
end Go.Sw
namespace Go.Sw
open Go.Sort Go.Proofs Go.Shelf
section
variable {α:Type}
def ins(lt:α->α->Bool)(x:α):List α->List α
 |[]=>[x]
 |y::l=>bif lt y x then y::ins lt x l else x::y::l
def YD(lt:α->α->Bool):List α->List α
 |[]=>[]
 |x::l=>ins lt x (YD lt l)
theorem Qe8(lt:α->α->Bool)(x:α):∀l,(ins lt x l).Perm (x::l)
 |[]=>.refl _
 |y::l=>by
  unfold ins;cases lt y x
  .exact .refl _
  .exact((Qe8 lt x l).cons y).trans (List.Perm.swap _ _ _)
theorem Qo(lt:α->α->Bool):∀l,(YD lt l).Perm l
 |[]=>.refl _
 |x::l=>(Qe8 lt x _).trans ((Qo lt l).cons x)
structure Qd9 (lt:α->α->Bool) (l:List α):Prop where
 irrefl:∀x∈l,lt x x=false
 trans:∀x∈l,∀y∈l,∀z∈l,lt x y=true->lt y z=true->lt x z=true
 ntrans:∀x∈l,∀y∈l,∀z∈l,lt x y=false->lt y z=false->lt x z=false
theorem Qd9.mono{lt:α->α->Bool}{l m:List α}(h:Qd9 lt l)(hm:∀x∈m,x∈l):Qd9 lt m:=
 ⟨λx hx=>h.irrefl x (hm x hx),λx hx y hy z hz=>h.trans x (hm x hx) y (hm y hy) z (hm z hz),λx hx y hy z hz=>h.ntrans x (hm x hx) y (hm y hy) z (hm z hz)⟩
theorem Qd9.asymm{lt:α->α->Bool}{l:List α}(h:Qd9 lt l){x y:α}(a:x∈l)(d:y∈l)(b:lt x y=true):lt y x=false:=by
 cases q:lt y x
 .rfl
 .rw[<- h.irrefl x a,h.trans x a y d x a b q]
theorem Qe7{lt:α->α->Bool}{x:α}:∀{l:List α},Qd9 lt (x::l)->l.Pairwise (λa b=>lt b a=false)->(ins lt x l).Pairwise (λa b=>lt b a=false)
 |[],_,_=>by simp[ins]
 |y::l,h,hp=>by
  obtain⟨h1,h2⟩:=Xc.1 hp;unfold ins;cases q:lt y x
  .refine Xc.2 ⟨λz hz=>?_,hp⟩;rcases X8.1 hz with rfl|hz
   .exact q
   .exact h.ntrans z (by simp[hz]) y (by simp) x (by simp) (h1 z hz) q
  .refine Xc.2 ⟨λz hz=>?_,Qe7 (h.mono (by intro z hz;rcases X8.1 hz with rfl|hz<;>simp[*])) h2⟩;rcases X8.1 ((Qe8 lt x l).mem_iff.1 hz)with rfl|hz
   .exact h.asymm (by simp) (by simp) q
   .exact h1 z hz
theorem QR{lt:α->α->Bool}:∀{l:List α},Qd9 lt l->(YD lt l).Pairwise (λa b=>lt b a=false)
 |[],_=>by simp[YD]
 |x::l,h=>Qe7 (h.mono (by
   intro z hz;rcases X8.1 hz with rfl|hz
   .simp
   .exact X7 _ ((Qo lt l).mem_iff.1 hz))) (QR (h.mono λz hz=>X7 _ hz))
theorem Jk{lt:α->α->Bool}:∀{l m:List α},l.Perm m->(∀x∈l,∀y∈l,lt x y=false->lt y x=false->x=y)->l.Pairwise (λa b=>lt b a=false)->m.Pairwise (λa b=>lt b a=false)->l=m
 |[],m,h,_,_,_=>by rw[List.nil_perm.1 h]
 |x::l,[],h,_,_,_=>by have:=h.length_eq;simp at this
 |x::l,y::m,h,ha,hl,hm=>by
  obtain⟨l1,l2⟩:=Xc.1 hl;obtain⟨m1,m2⟩:=Xc.1 hm;have hy:y∈x::l:=h.mem_iff.2 (by simp);have hx:x∈y::m:=h.mem_iff.1 (by simp);have hxy:x=y:=by
   rcases X8.1 hy with e|d
   .exact e.symm
   .rcases X8.1 hx with e|f
    .exact e
    .exact ha x (by simp) y (by simp[d]) (m1 x f) (l1 y d)
  subst hxy;rw[Jk ((List.perm_cons x).1 h) (λa g b i=>ha a (by simp[g]) b (by simp[i])) l2 m2]
def ltO(cf:α->α->Option Int)(x y:α):Bool:=match cf x y with
 |some c=>decide (c<0)
 |none=>false
def QiI[DecidableEq α](cf:α->α->Option Int)(l:List α):Bool:=
 l.all λx=> !ltO cf x x&&l.all λy=>(cf x y).isSome&&(ltO cf x y||ltO cf y x||decide (x=y))&&l.all λz=>(!ltO cf x y|| !ltO cf y z||ltO cf x z)&&(ltO cf x y||ltO cf y z|| !ltO cf x z)
def QbM[DecidableEq α](cf:α->α->Option Int)(l:List α):Option (List α):=bif Nat.ble l.length Qy&&QiI cf l then some (YD (ltO cf) l)else none
theorem QcN[DecidableEq α]{cf:α->α->Option Int}{l l':List α}(h:QbM cf l=some l'):
  l.length<=Qy/\(∀x∈l,∀y∈l,∃c,cf x y=some c)/\Qd9 (ltO cf) l/\(∀x∈l,∀y∈l,ltO cf x y=false->ltO cf y x=false->x=y)/\YD (ltO cf) l=l':=by
 unfold QbM at h;cases i:Nat.ble l.length Qy with
 |false=>rw[i]at h;cases h
 |true=>
 rw[i,VC]at h;cases q:QiI cf l with
 |false=>rw[q]at h;cases h
 |true=>
  rw[q]at h;refine⟨XU i,?_⟩;unfold QiI at q;simp only[Xt,XZ,Bool.not_eq_true',Bool.or_eq_true,Vt]at q;refine⟨λx b y d=>Option.isSome_iff_exists.1 ((q x b).2 y d).1.1,⟨λx b=>(q x b).1,λx b y d z g f e=>?_,λx b y d z g f e=>?_⟩,λx b y d f e=>?_,X2 h⟩
  .rcases(((q x b).2 y d).2 z g).1 with(a|a)|a
   .rw[f]at a;cases a
   .rw[e]at a;cases a
   .exact a
  .rcases(((q x b).2 y d).2 z g).2 with(a|a)|a
   .rw[f]at a;cases a
   .rw[e]at a;cases a
   .exact a
  .rcases((q x b).2 y d).1.2 with(a|a)|a
   .rw[f]at a;cases a
   .rw[e]at a;cases a
   .exact a
theorem Qmc[DecidableEq α]{cf:α->α->Option Int}{l:List α}(h:l.length<=Qy)(c:α->α->Int)(m:∀x∈l,∀y∈l,cf x y=some (c x y))(hi:∀x∈l,¬c x x<0)
  (p:∀x∈l,∀y∈l,∀z∈l,c x y<0->c y z<0->c x z<0)(r:∀x∈l,∀y∈l,∀z∈l,¬c x y<0->¬c y z<0->¬c x z<0)(n:∀x∈l,∀y∈l,¬c x y<0->¬c y x<0->x=y):
  QbM cf l=some (YD (ltO cf) l):=by
 have g:∀x∈l,∀y∈l,ltO cf x y=decide (c x y<0):=λx e y f=>by unfold ltO;rw[m x e y f]
 have q:QiI cf l=true:=by
  unfold QiI;simp only[Xt,XZ,Bool.not_eq_true',Bool.or_eq_true,Vt];intro x e;refine⟨by rw[g x e x e];simpa using hi x e,λy f=>⟨⟨by rw[m x e y f];rfl,?_⟩,λz i=>?_⟩⟩
  .rw[g x e y f,g y f x e];by_cases k:c x y<0
   .simp[k]
   .by_cases j:c y x<0
    .simp[j]
    .exact .inr (n x e y f k j)
  .rw[g x e y f,g y f z i,g x e z i];have k:=p x e y f z i;have j:=r x e y f z i;by_cases a:c x y<0<;>by_cases b:c y z<0<;>by_cases d:c x z<0<;>simp_all
 unfold QbM;rw[q,XV h];rfl
theorem QaI[DecidableEq α]{cf:α->α->Option Int}{l l':List α}(h:QbM cf l=some l'):l.length=l'.length:=by
 rw[<- (QcN h).2.2.2.2];exact(Qo _ _).length_eq.symm
theorem Yw{l l':List α}{i:Int}{x:α}(h:Qct l i x=some l'):l.length=l'.length:=by
 unfold Qct at h;cases q:(decide (0<=i)&&decide (i<(l.length:Int)))with
 |true=>rw[q]at h;rw[<- X2 h];simp
 |false=>rw[q]at h;cases h
theorem Qp{h0:Nat}{env:Env}{H:Qd}{s:Nat}{a a':A}(h:lk env s=a)(e:a=a'):Le h0 env H (up env s a') H:=by
 intro f d σ N act w r;refine⟨d,σ,⟨r.sim,λb=>?_,r.size,r.defers⟩,λ_ q=>q,rfl⟩;subst e;have:lk (up env s a) b=lk env b:=by
  simp only[lk];cases q:Nat.beq b s with
  |true=>rw[XT q,h];rfl
  |false=>rfl
 rw[this];exact r.env b
end
section
variable {fr ro:Nat->Prop} {σ:Sig} {H:Qd} {w w':World}
theorem Qd4(hh:∀b,b<w.heap.size->w'.heap[b]?=w.heap[b]?)(hro:∀b,ro b->b<w.heap.size)(σ:Sig):Ext ro σ w ro σ w':=
 ⟨λ_ q=>q,λb hb=>hh b (hro b hb),λb x hx=>by unfold World.shape? at hx⊢;rw[hh b (QbN hx)];exact hx,λ_ _ q=>q⟩
theorem Sim.grown(s:Sim fr ro σ H w)(a:∀b,b<w.heap.size->w'.heap[b]?=w.heap[b]?)(g:w.heap.size<=w'.heap.size):Sim fr ro σ H w':=by
 refine⟨s.len,s.roOk.to (λ_ q=>q) (λb q=>a b (s.roLt b q)) (λb h=>Vh (s.roLt b h) g),λb h=>Vh (s.frLt b h) g,s.roFr,λi b x f e n=>?_,s.inj,λi y x f e=>?_,s.hidTo (· = ·) QZ g (λ_ _ _ _ _ _ _ q=>q) (λ_ _ _ _ _ _ _ q=>q) λj d y k m r=>.inl ⟨j,y,rfl,k,m,id,λc q=>s.hidKeep k m (λz=>a d (s.own j d y k m z).1) (λb q=>a b (s.roLt b q)) q⟩⟩
 .obtain⟨p,q⟩:=s.own i b x f e n;exact⟨Vh p g,q⟩
 .refine(s.blk i y x f e).keep (Qd4 a s.roLt σ) ?_ ?_
  .rintro b rfl l;exact a b (s.own i b x f e l).1
  .rintro b c rfl l;exact a c (s.hid i b x c f e l).lt
theorem Qh.grown(hh:∀b,b<w.heap.size->w'.heap[b]?=w.heap[b]?)(hs:w.heap.size<=w'.heap.size)(s:Sim fr ro σ H w)(ho:w'.os=w.os)(ht:w'.tape=w.tape)(hu:w'.output=w.output)(hd:w.drawn<=w'.drawn):Qh fr ro w ro w':=
 ⟨λ_ q=>q,λb h=>hh b (s.roLt b h),λb h=>hh b (s.frLt b h),hs,(Qd4 hh s.roLt σ).shape,ho,ht,hu,hd⟩
theorem QkA(h:∀b,b<w.heap.size->w'.heap[b]?=w.heap[b]?)(k:w.heap.size<=w'.heap.size)(d:w'.os=w.os)(j:w'.tape=w.tape)(e:w'.output=w.output)(p:w.drawn<=w'.drawn):
  ∃q os',w'=grow (w.drewN q) os':=by
 refine⟨w'.drawn-w.drawn,w'.heap.extract w.heap.size w'.heap.size,?_⟩;obtain⟨a,t,g,s,r⟩:=w';simp only at h k d j e p;subst d j e;unfold grow World.drewN;have l:a=w.heap++a.extract w.heap.size a.size:=by
  apply Array.ext_getElem?;intro i;rw[Array.getElem?_append];split
  .rename_i f;exact h i f
  .rename_i f;rw[Array.getElem?_extract];split
   .rename_i m;congr 1;omega
   .rename_i m;rw[Array.getElem?_eq_none];omega
 have n:g=w.drawn+(g-w.drawn):=by omega
 rw[<- l, <- n]
end
end Go.Sw
namespace Go.Sw
open Go.Sort Go.Proofs Go.Shelf
theorem Qd2{α:Type}{k:Nat}:∀(vs:List (List α)) (j:Nat),(∀v∈vs,v.length=k)->j<vs.length*k->vs.flatten[j]?=(vs[j/k]?).bind λv=>v[j%k]?
 |[],j,_,h=>by simp at h
 |v::vs,j,hk,h=>by
  have hv:=hk v (by simp);have k0:0<k:=by
   rcases Nat.eq_zero_or_pos k with q|q
   .subst q;simp at h
   .exact q
  rw[Vn];by_cases q:j<k
  .rw[XP (by omega),Nat.div_eq_of_lt q,Nat.mod_eq_of_lt q];simp
  .rw[XQ (by omega),hv,Qd2 vs (j-k) (λv hv=>hk v (by simp[hv])) (by simp[Xl]at h;omega)];have a:j/k=(j-k)/k+1:=by rw[Nat.div_eq_sub_div k0 (by omega)]
   have b:j%k=(j-k)%k:=Nat.mod_eq_sub_mod (by omega);rw[a,b,XI]
theorem Qap{α:Type}{k:Nat}:∀(vs:List (List α)),(∀v∈vs,v.length=k)->vs.flatten.length=vs.length*k
 |[],_=>by simp
 |v::vs,h=>by rw[Vn,X5,Qap vs (λv hv=>h v (by simp[hv])),h v (by simp),X3,Xl];omega
theorem Qac{α:Type}(F:List α)(j:Nat):F.toArray[j]?=F[j]? :=by simp
theorem Qfb{α:Type}[Inhabited α](F:List α)(j:Nat)(h:j<F.length):F[j]?=some (F.toArray[j]!):=by simp[h]
theorem Qik{β:Type}[Inhabited β]{enc:β->List Value}{k:Nat}(a:∀x,(enc x).length=k)(d:Array β):flatK enc k d=((d.toList.map enc).flatten).toArray:=by
 have b:∀v∈d.toList.map enc,v.length=k:=by
  intro v g;obtain⟨x,_,rfl⟩:=Xe.1 g;exact a x
 apply Array.ext_getElem?;intro t;rw[Qac ((d.toList.map enc).flatten) t];by_cases h:t<d.size*k
 .rw[Qd2 _ t b (by simpa using h)];have i:0<k:=by
   rcases Nat.eq_zero_or_pos k with q|q
   .subst q;simp at h
   .exact q
  have l:t/k<d.size:=Nat.div_lt_of_lt_mul (by rw[Nat.mul_comm];exact h);have j:t%k<k:=Nat.mod_lt _ i;have f:t<(flatK enc k d).size:=by simpa using h
  have e:=get_flatK enc k d t h;rw[getElem!_pos (flatK enc k d) t f]at e;rw[Array.getElem?_eq_getElem f,e];simp[l];rw[XN (by rw[a];exact j)];rfl
 .have e:(d.toList.map enc).flatten.length=d.size*k:=by rw[Qap _ b];simp
  rw[Array.getElem?_eq_none (by simpa using h),XR (by rw[e];omega)]
section
variable {ro:Nat->Prop} {σ:Sig} {w:World} {T:Type} {enc:T->List A} {k:Nat}
theorem RL.parts:∀{l:List T} {lv:List Value},RL ro σ w k (l.map enc) lv->
  ∃(ps:List (T×List Value)) (rest:List Value),ps.map (·.1)=l/\lv=(ps.map (·.2)).flatten++rest/\ ∀p∈ps,p.2.length=k/\LR ro σ w (enc p.1) p.2/\ ∀v∈p.2,Qs v
 |[],lv,_=>⟨[],lv,rfl,rfl,by simp⟩
 |x::l,lv,h=>by
  obtain⟨l1,l2,rfl,h1,⟨h2,h3⟩,h4⟩:=h;obtain⟨ps,rest,e1,rfl,h5⟩:=RL.parts (l:=l) h4;refine⟨(x,l1)::ps,rest,by simp[e1],by simp,?_⟩;intro p hp;rcases X8.1 hp with rfl|hp
  .exact⟨by rw[h2.length];exact h1,h2,h3⟩
  .exact h5 p hp
theorem Qb2(hk:∀x:T,(enc x).length=k):∀{ps:List (T×List Value)} {rest:List Value},(∀p∈ps,LR ro σ w (enc p.1) p.2/\ ∀v∈p.2,Qs v)->RL ro σ w k ((ps.map (·.1)).map enc) ((ps.map (·.2)).flatten++rest)
 |[],_,_=>trivial
 |p::ps,rest,h=>by
  refine⟨p.2,(ps.map (·.2)).flatten++rest,by simp,hk _,h p (by simp),Qb2 hk λq hq=>h q (by simp[hq])⟩
end
structure Elt (ro:Nat->Prop) (w:World) {T:Type} (enc:T->List A) (k:Nat) (l:List T) where
 x:T
 vs:List Value
 mem:x∈l
 len:vs.length=k
 rel:LR ro [] w (enc x) vs
 plain:∀v∈vs,Qs v
theorem Qgf{v:Value}(h:Qs v):v.oneCell'=true:=by cases v<;>first|rfl|exact h.elim
theorem QoQ{P:Program}{ρ:Ren}(L:SlLaysF0.n6 P ρ){T:Type}[DecidableEq T]{enc:T->List A}{k t g:Nat}{cap:List A}{l l':List T}{cf:T->T->Option Int}(hs:QbM cf l=some l')
  (a4:∀x y c,cf x y=some c->C P g ([.agg (enc x),.agg (enc y)]++cap) [] (λa H=>a=.int .i64 c/\H=[]))
  (aE:∀w,(isAgg (ρ.t 24)).run P w=.ok true w)(zE:∀w,(Go.sizeOf (ρ.t 24)).run P w=.ok k w)(eg:∀args w,(callFunc g args).run P w=.ok (.enter g args) w)
  (hk:∀x,(enc x).length=k)(hd:Yf cap=true):
  C P (ρ.f 6) [.osl 0 0 l.length k,.fn (.func g) [] cap] [.row t k (l.map enc)] (λa H=>a=.tup []/\H=[.row t k (l'.map enc)]):=by
 intro fr G σ vals w s hv;obtain⟨vs,r1,rfl,bm,vf,r2,rfl,bq,hr⟩:=hv;cases(show r2=[]from hr);obtain⟨lf,lc,rfl,h1,az⟩:=bq;cases(show lf=[]from h1);have au:LR G [] w cap lc:=LR.data hd az;obtain⟨a1,al,R,aw,bc⟩:=QcN hs;have E:∀(ad:Option Addr) (c:Nat),vs=.slice ad 0 c->l=[]->
   Calls P (ρ.f 6) [vs,.func (.func g) #[] lc.toArray].toArray w λe w'=>∃v r H' ac τ,e=.returned v/\(r=.tup []/\H'=[.row t k (l'.map enc)])/\Sim fr ac (σ++τ) H' w'/\VR ac (σ++τ) w' r v/\Qh fr G w ac w':=by
  rintro ad c rfl rfl;have ae:l'=[]:=by rw[<- bc];rfl
  subst ae;refine(AnyF.slices_SortFunc_none L ad c (.func (.func g) #[] lc.toArray) w).mono ?_;rintro e w' ⟨rfl,rfl⟩;exact⟨_,_,_,G,[],rfl,⟨rfl,rfl⟩,by simpa using s,⟨[],rfl,rfl⟩,Qh.refl _ _ _⟩
 rcases bm with⟨h0,rfl⟩|⟨b,p,cp,t',m,q1,rfl,q2,q3,q4,q5⟩
 .exact E none 0 rfl (VL.1 h0)
 .by_cases ae:l=[]
  .subst ae;exact E _ cp rfl rfl
  .have bh:0<l.length:=List.length_pos_iff.2 ae;obtain rfl:=q2 (Vh bh q3);obtain⟨lv,e1,e2⟩:=s.blk 0 _ _ q1 rfl;obtain⟨hb,am,a3⟩:=s.own 0 b _ q1 rfl rfl;obtain⟨V,J,ba,rfl,af⟩:=RL.parts e2
   let α:=Elt G w enc k l
   have a9:∀p∈V,p.1∈l:=λp hp=>by rw[<- ba];exact VI hp
   let ds:List α:=V.attach.map λp=>⟨p.1.1,p.1.2,a9 _ p.2,(af _ p.2).1,(af _ p.2).2.1,(af _ p.2).2.2⟩
   have bb:∀{γ:Type} (f:T×List Value->γ),V.attach.map (λp=>f p.1)=V.map f:=λf=>by simp
   have N:ds.map (·.x)=l:=by
    show(V.attach.map _).map _=_;rw[List.map_map];exact(bb (·.1)).trans ba
   have aj:ds.map (·.vs)=V.map (·.2):=by
    show(V.attach.map _).map _=_;rw[List.map_map];exact bb (·.2)
   have ay:ds.length=l.length:=by rw[<- N];simp
   have a6:ds≠[]:=by intro q;rw[q]at ay;simp at ay;omega
   let inh:Inhabited α:=⟨ds.head a6⟩
   let enc':α->List Value:=λa=>a.vs
   let cf':α->α->Int:=λx y=>(cf x.x y.x).getD 0
   have ah:∀x y:α,ltOf cf' x y=ltO cf x.x y.x:=by
    intro x y;obtain⟨c,B⟩:=al x.x x.mem y.x y.mem;simp only[ltOf,ltO,cf',B,Option.getD_some]
   have hO:SWO (ltOf cf'):=⟨λx=>by rw[ah];exact R.irrefl _ x.mem,λx y z a b=>by rw[ah]at*;exact R.trans _ x.mem _ y.mem _ z.mem a b,
    λx y z a b=>by rw[ah]at*;exact R.ntrans _ x.mem _ y.mem _ z.mem a b⟩
   have ab:∀x:α,(enc' x).length=k:=λx=>x.len;have ax:flatK enc' k ds.toArray=((V.map (·.2)).flatten).toArray:=by
    rw[Qik ab];show((ds.map λa=>a.vs).flatten).toArray=_;rw[aj]
   have bn:∀v∈V.map (·.2),v.length=k:=by
    intro v hv;obtain⟨p,hp,rfl⟩:=Xe.1 hv;exact(af p hp).1
   have Y:(V.map (·.2)).flatten.length=ds.length*k:=by rw[Qap _ bn, <- aj];simp
   have hH:HoldsK enc' k w b (0*k) ds.toArray:=by
    intro j hj;rw[ax]at hj⊢;simp only[List.size_toArray]at hj;constructor
    .unfold World.cell?;simp only[e1,Option.isSome_none,Xi,if_false,Nat.zero_mul,Xx];rw[Qac,XP hj];exact Qfb _ _ hj
    .unfold World.frozen?;simp only[e1];simp
   have aq:∀(d:Array α),d.size=ds.toArray.size->(putRowK enc' k w b (0*k) d).heap=w.heap.setIfInBounds b (.cells (((d.toList.map enc').flatten++J)).toArray t (0,0)):=by
    intro d u;have ag:(d.toList.map enc').flatten.length=(V.map (·.2)).flatten.length:=by
     rw[Qap _ (k:=k) (by intro v hv;obtain⟨x,_,rfl⟩:=Xe.1 hv;exact ab x),Y];simp at u⊢;rw[u]
    unfold putRowK putRow mapBlock;show w.heap.modify b _=_;rw[Qbg e1];simp only[onCells];congr 2;rw[Qik ab];unfold putCells;apply Array.ext_getElem?;intro i;simp only[Array.getElem?_mapIdx,Qac,Nat.zero_mul,XX,true_and,Xx,Xw,List.size_toArray,id_eq];by_cases hi:i<(d.toList.map enc').flatten.length
    .rw[XP hi,XP (by rw[<- ag];exact hi),XN (by rw[<- ag];exact hi),Qfb _ _ hi];exact congrArg some (Vv hi)
    .rw[XQ (by omega),XQ (by omega),ag];cases(J[i-(V.map (·.2)).flatten.length]?)with
     |none=>rfl
     |some v=>
      rw[<- ag];exact congrArg some (Vu hi)
   have Q:∀(m:Nat) (os:Array Obj) (d:Array α),d.size=ds.toArray.size->
     (∀c,c<w.heap.size->c≠b->(sortWorldK enc' k w b (0*k) m d os).heap[c]?=w.heap[c]?)/\(sortWorldK enc' k w b (0*k) m d os).heap[b]?=some (.cells (((d.toList.map enc').flatten++J)).toArray t (0,0))/\
     w.heap.size<=(sortWorldK enc' k w b (0*k) m d os).heap.size:=by
    intro m os d u;have e:(sortWorldK enc' k w b (0*k) m d os).heap=w.heap.setIfInBounds b (.cells (((d.toList.map enc').flatten++J)).toArray t (0,0))++os:=by
     rw[<- aq d u];rfl
    rw[e];refine⟨λc B bf=>?_,?_,by simp⟩
    .rw[Array.getElem?_append_left (by simpa using B),Vg,Vu (λq=>bf q.symm)]
    .rw[Array.getElem?_append_left (by simpa using hb),Vg,Vv rfl,Vv hb]
   have O:∀(m:Nat) (os:Array Obj) (d:Array α),d.size=ds.toArray.size->∀c y,w.shape? c=some y->(sortWorldK enc' k w b (0*k) m d os).shape? c=some y:=by
    intro m os d u c y hy;obtain⟨g1,g2,g3⟩:=Q m os d u;by_cases B:c=b
    .subst B;unfold World.shape? at hy⊢;rw[e1]at hy;rw[g2];simp only[Option.some.injEq]at hy⊢;rw[<- hy];congr 1;simp only[List.size_toArray,X5];rw[Qap _ (k:=k) (by intro v hv;obtain⟨x,_,rfl⟩:=Xe.1 hv;exact ab x),Y];simp at u⊢;rw[u]
    .unfold World.shape? at hy⊢;rw[g1 c (QbN hy) B];exact hy
   have ai:∀(m:Nat) (os:Array Obj) (d:Array α),d.size=ds.toArray.size->∀τ,Ext G τ w G τ (sortWorldK enc' k w b (0*k) m d os):=by
    intro m os d u τ;obtain⟨g1,g2,g3⟩:=Q m os d u;exact⟨λ_ q=>q,λc B=>g1 c (s.roLt c B) (λq=>am (q▸B)),O m os d u,λ_ _ q=>q⟩
   have bp:CmpLays P g lc.toArray enc' k cf' b (0*k) ds.toArray.size w:=by
    intro m os dk a5 x y;obtain⟨c,B⟩:=al x.x x.mem y.x y.mem;have F:=ai m os dk a5 [];have bl:=a4 _ _ _ B;generalize hW:sortWorldK enc' k w b (0*k) m dk os=W at*;have bd:w.heap.size<=W.heap.size:=by rw[<- hW];exact(Q m os dk a5).2.2
    have sW:Sim (λc=>c<W.heap.size/\ ¬G c) G [] [] W:=
     ⟨rfl,s.roOk.to (λ_ q=>q) F.keep (λc B=>Vh (s.roLt c B) bd),λc B=>B.1,λc B hf=>hf.2 B,λi b x h=>by simp at h,λi j b x y h=>by simp at h,λi y x h=>by simp at h,λi b x c h=>by simp at h⟩
    have ao:LR G [] W ([.agg (enc x.x),.agg (enc y.x)]++cap) ([.agg x.vs.toArray,.agg y.vs.toArray]++lc):=
     LR.append (show LR G [] W [A.agg (enc x.x),A.agg (enc y.x)] [Value.agg x.vs.toArray,Value.agg y.vs.toArray]from⟨_,_,rfl,⟨x.vs,rfl,x.rel.mono F⟩,_,_,rfl,⟨y.vs,rfl,y.rel.mono F⟩,rfl⟩) (au.mono F)
    have M:=bl _ G [] _ W sW ao;have bi:(([Value.agg x.vs.toArray,Value.agg y.vs.toArray]++lc).toArray:Array Value)= #[Value.agg (enc' x).toArray,Value.agg (enc' y).toArray]++lc.toArray:=by simp[enc']
    rw[bi]at M;refine M.mono ?_;rintro e w' ⟨v,r,H',ac,τ,rfl,⟨rfl,rfl⟩,s',bj,ev⟩;refine⟨?_,?_⟩
    .rw[show v=.int .i64 c from bj];simp only[cf',B,Option.getD_some]
    .refine QkA (λc B=>?_) ev.size ev.os ev.tape ev.output ev.drawn;by_cases a7:G c
     .exact ev.keepRo c a7
     .exact ev.keepFr c ⟨B,a7⟩
   have aa:ds.toArray.size=l.length:=by simpa using ay
   have ak:=AnyQ.slices_SortFunc L k aE zE enc' ab (λx v hv=>Qgf (x.plain v hv)) cf' hO g lc.toArray b (0*k) cp ds.toArray w eg bp hH hb (by rw[aa];unfold Qy at a1;omega);rw[aa]at ak;refine ak.mono ?_;rintro e w' ⟨rfl,d,n,os,X,an,rfl⟩;have u:d.size=ds.toArray.size:=X.1;obtain⟨g1,g2,g3⟩:=Q n os d u;have ar:d.toList.Perm ds:=by
    have h:=X.2.2;have x1:d.extract 0 l.length=d:=by rw[<- aa, <- u];exact Array.extract_size
    have x2:ds.toArray.extract 0 l.length=ds.toArray:=by rw[<- aa];exact Array.extract_size
    rw[x1,x2]at h;simpa using h
   have a0:d.toList.map (·.x)=l':=by
    rw[<- bc];refine Jk (lt:=ltO cf) ?_ ?_ ?_ (QR R)
    .exact((ar.map (·.x)).trans (by rw[N])).trans (Qo _ _).symm
    .intro x hx y hy;have bg:x∈l:=by rw[<- N];exact(ar.map (·.x)).mem_iff.1 hx
     have be:y∈l:=by rw[<- N];exact(ar.map (·.x)).mem_iff.1 hy
     exact aw x bg y be
    .rw[VG];intro i j hi hj bo;simp only[X4]at hi hj;simp only[List.getElem_map];rw[<- ah];have:=an i j (XX _) bo (by rw[<- aa, <- u];simpa using hj);rw[getElem!_pos d j (by simpa using hj),getElem!_pos d i (by simpa using hi)]at this;simpa using this
   have bk:RL G [] (sortWorldK enc' k w b (0*k) n d os) k (l'.map enc) ((d.toList.map enc').flatten++J):=by
    have e3:d.toList.map enc'=(d.toList.map λa=>(a.x,a.vs)).map (·.2):=by simp[enc']
    have e4:l'=(d.toList.map λa=>(a.x,a.vs)).map (·.1):=by rw[<- a0];simp
    rw[e3,e4];refine Qb2 hk ?_;intro p hp;obtain⟨a,_,rfl⟩:=Xe.1 hp;exact⟨a.rel.mono (ai n os d u []),a.plain⟩
   have a2:Qh fr G w G (sortWorldK enc' k w b (0*k) n d os):=
    ⟨λ_ q=>q,λc B=>g1 c (s.roLt c B) (λq=>am (q▸B)),λc B=>g1 c (s.frLt c B) (λq=>a3 (q▸B)),g3,O n os d u,rfl,rfl,rfl,Nat.le_add_right _ _⟩
   have av:σ.length=1:=s.len;have a8:Sim fr G σ [.row t k (l'.map enc)] (sortWorldK enc' k w b (0*k) n d os):=by
    have i0:∀{i:Nat} {x:Blk},([.row t k (l'.map enc)]:Qd)[i]?=some x->i=0/\x=.row t k (l'.map enc):=by
     intro i x h;cases i with
     |zero=>simp at h;exact⟨rfl,h.symm⟩
     |succ i=>simp at h
    refine⟨av,s.roOk.to (λ_ q=>q) a2.keepRo (λc B=>Vh (s.roLt c B) g3),λc B=>Vh (s.frLt c B) g3,s.roFr,λi c x h1 h2 h3=>?_,λi j c x y h1 h2 h3 h4 _ _=>?_,λi y x h1 h2=>?_,λi b x c h1 h2 h3=>by obtain⟨rfl,rfl⟩:=i0 h2;exact h3.elim⟩
    .obtain⟨rfl,rfl⟩:=i0 h2;obtain⟨p1,p2⟩:=s.own 0 c _ h1 rfl rfl;exact⟨Vh p1 g3,p2⟩
    .rw[(i0 h3).1,(i0 h4).1]
    .obtain⟨rfl,rfl⟩:=i0 h2;rw[q1]at h1;cases h1;exact⟨_,g2,bk⟩
   exact⟨_,_,_,G,[],rfl,⟨rfl,rfl⟩,by simpa using a8,⟨[],rfl,rfl⟩,a2⟩
end Go.Sw
namespace Go.Sw
section
variable {P:Program} {o:Oper} {env:Env} {H:Qd} {fr ro:Nat->Prop} {σ:Sig} {w:World}
theorem Sim.addRo(s:Sim fr ro σ H w){b:Nat}(g:b<w.heap.size)(t:¬fr b)(k:∀(i:Nat) (x:Blk),σ[i]?=some (some b)->H[i]?=some x->x.live=true->False)
  (z:∀(i d:Nat) (x:Blk),σ[i]?=some (some d)->H[i]?=some x->Hid w x d b->False):Sim fr (λc=>ro c\/c=b) σ H w:=by
 refine⟨s.len,s.roOk.to (λ_ q=>.inl q) (λ_ _=>rfl) ?_,s.frLt,?_,?_,s.inj,?_,s.hidTo (· = ·) QZ (XW _) (λj d x c B p n r=>r.elim id λq=>(z j d x B p (q▸n)).elim) (λ_ _ _ _ _ _ _ q=>q) λj d y l E F=>.inl ⟨j,y,rfl,l,E,id,λ_ q=>q⟩⟩
 .rintro c (q|rfl)
  .exact s.roLt c q
  .exact g
 .rintro c (q|rfl)
  .exact s.roFr c q
  .exact t
 .intro i c x e a f;obtain⟨u,h,m⟩:=s.own i c x e a f;refine⟨u,?_,m⟩;rintro(q|rfl)
  .exact h q
  .exact k i x e a f
 .intro i y x e a;exact(s.blk i y x e a).keep ⟨λ_ q=>.inl q,λ_ _=>rfl,λ_ _ q=>q,λ_ _ q=>q⟩ (λ_ _ _=>rfl) (λ_ _ _ _=>rfl)
theorem YN{T e k n:Nat}{xs:List Operand}{es:List (List A)}(E:QU P T e k)(X:o.op=.buildSlice T n (QaE 0 xs).toArray)(L:xs.length=n)(y:Nat.ble (n*k) 16777216=true)
  (R:(xs.all λx=>Yb (opA env x))=true)(G:Q8 env xs=es)(J:allK k es)(W:es.flatten.all Yl=true)(hd:Yf es.flatten=true):
  OpH P o env H (.rsl k es) H:=by
 intro fr p σ N a w r;subst G;obtain⟨l,Y,M⟩:=QaM r E L y R J;have u:LR p [] w (Q8 env xs).flatten l:=M.data hd;have f:∀b,b<w.heap.size->(w.alloc (.cells l.toArray e)).heap[b]?=w.heap[b]? :=λb O=>Yc _ _ b O;have m:w.heap.size<=(w.alloc (.cells l.toArray e)).heap.size:=by rw[Q6];omega
 have V:=r.sim.grown f m;have h:Qh fr p w p (w.alloc (.cells l.toArray e)):=Qh.alloc _ r.sim.roLt r.sim.frLt;have Q:=V.addRo (b:=w.heap.size) (by rw[Q6];omega) (λq=>Nat.lt_irrefl _ (r.sim.frLt _ q)) (λi x t j F=>Nat.lt_irrefl _ (r.sim.own i _ x t j F).1)
  (λi d x t j F=>Nat.lt_irrefl _ (r.sim.hid i d x _ t j (r.sim.hidKeep t j (λz=>f d (r.sim.own i d x t j z).1) (λb q=>f b (r.sim.roLt b q)) F)).lt)
 have B:RL p [] (w.alloc (.cells l.toArray e)) k (Q8 env xs) l:=by
  have:=Jn (rest:=[]) J (u.mono (h.ext0 [])) (M.plain W)
  rwa [Vi]at this
 have g:(Q8 env xs).length=n:=by simp[Q8,L]
 refine⟨_,_,λc=>p c\/c=w.heap.size,[],Qav X a.eval Y,?_,by simpa using Q,h.trans (YG λ_ q=>.inl q)⟩;refine⟨some ⟨w.heap.size,0,none⟩,n,by rw[g],by rw[g];exact XW _,.inr ⟨w.heap.size,0,rfl,.inr rfl,?_⟩⟩;have s:(w.alloc (.cells l.toArray e)).heap[w.heap.size]?=some (.cells (([]:List Value)++l).toArray e (0,0)):=Q9 _ _;have:=YS (pre:=[]) s B;exact this.keep ⟨λ_ q=>.inl q,λ_ _=>rfl,λ_ _ q=>q,λ_ _ q=>q⟩ rfl
end
inductive Qj6:List A->List A->Prop
 |nil:Qj6 [] []
 |eq {a:A} {l m:List A} (h:Qj6 l m):Qj6 (a::l) (a::m)
 |nl {k:Nat} {l m:List A} (h:Qj6 l m):Qj6 (.nils::l) (.rsl k []::m)
theorem LR.nils{ro:Nat->Prop}{σ:Sig}{w:World}{f g:List A}(h:Qj6 f g):∀{l:List Value},LR ro σ w f l->LR ro σ w g l:=by
 induction h with
 |nil=>intro l h;exact h
 |eq _ ih=>rintro l ⟨v,d,e,b,a⟩;exact⟨v,d,e,b,ih a⟩
 |nl _ ih=>rintro l ⟨v,d,e,b,a⟩;exact⟨v,d,e,⟨none,0,b,XW _,.inl rfl⟩,ih a⟩
theorem C.nils{P:Program}{f:FuncId}{l1 bs:List A}{H:Qd}{Q:A->Qd->Prop}(hl:Qj6 l1 bs)(h:C P f bs H Q):C P f l1 H Q:=
 λfr ro σ vals w s l=>h fr ro σ vals w s (LR.nils hl l)
end Go.Sw
namespace Go.Sw
def Qm(k:IntKind)(n:Int):Prop:=k.min<=n/\n<=k.max
def Qd7(w:World):Nat->Prop:=λb=>b<w.heap.size
structure QnQ {H:Type} (μ:DataW H->Nat):Prop where
 str:∀bytes,bytes.length<=μ (.lit (.string bytes))
 sl:∀e s,e.length<=μ (.slice e s)
 sle:∀e s,∀d∈e,μ d<=μ (.slice e s)
 ag:∀ps,∀d∈ps,μ d<=μ (.agg ps)
def RB(P:Program)(n:Nat)(t:TypeId)(T:Type)(e:T->List A)(wf:T->Prop):Prop:=
 ∀(H:Type) (enc:TypeId×Value->H) (w:World) (base:Nat) (spare:Nat->Bool) (held:Bool) (m:Nat) (cs:List Value) d,m<n->DataW.trod enc P w base spare held m t cs=some d->
  ∀μ:DataW H->Nat,QnQ μ->μ d.1<=1048576->∃x:T,wf x/\LR (Qd7 w) [] w (e x) cs/\ ∀v∈cs,Qs v
section
variable {P:Program} {n:Nat} {t:TypeId} {T:Type} {e:T->List A} {wf:T->Prop}
theorem RB.down(h:RB P (n+1) t T e wf):RB P n t T e wf:=λH enc w base spare held m cs d hm=>h H enc w base spare held m cs d (Nat.lt_succ_of_lt hm)
theorem Qex(h:∀n,RB P n t T e wf->RB P (n+1) t T e wf):∀n,RB P n t T e wf
 |0=>λH enc w base spare held m cs d hm=>absurd hm (Xm _)
 |n+1=>h n (Qex h n)
theorem QX{T':Type}{b:T'->List A}{a:T'->Prop}(h:RB P n t T e wf)(g:T->T')(he:∀x,b (g x)=e x)(i:∀x,wf x->a (g x)):RB P n t T' b a:=by
 intro H enc w base spare held m cs d hm hd μ hμ hwt;obtain⟨x,j,f,k⟩:=h H enc w base spare held m cs d hm hd μ hμ hwt;exact⟨g x,i x j,by rw[he];exact f,k⟩
theorem RB.int{k:IntKind}(a:P.underlying t=some (.int k)):RB P n t Int (Qf k) (Qm k):=by
 intro H enc w base spare held m cs d hm hd μ hμ hwt;cases m with
 |zero=>simp[DataW.trod]at hd
 |succ m=>
  rcases cs with _|⟨v,_|⟨g,r⟩⟩
  .simp[DataW.trod,a]at hd
  .cases v<;>simp[DataW.trod,a]at hd;rename_i f e;obtain⟨⟨rfl,b⟩,_⟩:=hd;refine⟨e,?_,⟨_,_,rfl,rfl,rfl⟩,by simp[Qs]⟩;simpa[Lit.wf,Qm]using b
  .simp[DataW.trod,a]at hd
theorem RB.bool(a:P.underlying t=some .bool):RB P n t Bool Qa9 (λ_=>True):=by
 intro H enc w base spare held m cs d hm hd μ hμ hwt;cases m with
 |zero=>simp[DataW.trod]at hd
 |succ m=>
  rcases cs with _|⟨v,_|⟨e,r⟩⟩
  .simp[DataW.trod,a]at hd
  .cases v<;>simp[DataW.trod,a]at hd;rename_i b;exact⟨b,trivial,⟨_,_,rfl,rfl,rfl⟩,by simp[Qs]⟩
  .simp[DataW.trod,a]at hd
theorem RB.string(a:P.underlying t=some .string):RB P n t (List UInt8) encS (λs=>s.length<=1048576):=by
 intro H enc w base spare held m cs d hm hd μ hμ hwt;cases m with
 |zero=>simp[DataW.trod]at hd
 |succ m=>
  rcases cs with _|⟨v,_|⟨b,r⟩⟩
  .simp[DataW.trod,a]at hd
  .cases v<;>simp[DataW.trod,a]at hd;rename_i s;obtain⟨_,rfl⟩:=hd;exact⟨s.data.toList,XY (hμ.str _) hwt,⟨_,_,rfl,rfl,rfl⟩,by simp[Qs]⟩
  .simp[DataW.trod,a]at hd
theorem Qcz{α:Type}{f:Nat->Option α}:∀{n:Nat} {l:List α},(List.range n).mapM f=some l->l.length=n/\ ∀i,i<n->∃y,f i=some y/\l[i]?=some y
 |0,l,h=>by simp at h;subst h;exact⟨rfl,λi hi=>absurd hi (Xm _)⟩
 |n+1,l,h=>by
  rw[List.range_succ,List.mapM_append]at h;cases h1:(List.range n).mapM f with
  |none=>simp[h1]at h
  |some l1=>
   cases h2:f n with
   |none=>simp[h1,h2]at h
   |some y=>
    simp[h1,h2]at h;subst h;obtain⟨e1,e2⟩:=Qcz h1;refine⟨by simp[e1],λi hi=>?_⟩;rcases Xo.1 hi with q|rfl
    .obtain⟨z,z1,z2⟩:=e2 i q;exact⟨z,z1,by rw[XP (by omega)];exact z2⟩
    .exact⟨y,h2,by rw[XQ (by omega)];simp[e1]⟩
theorem Qee{w:World}{ro:Nat->Prop}{b:Nat}:∀{cs:List A} {l:List Value} {off:Nat},LR ro [] w cs l->(∀v∈l,Qs v)->(∀i,i<l.length->w.cell? ⟨b,off+i,none⟩=l[i]?)->CR ro [] w b cs off
 |[],_,_,_,_,_=>trivial
 |a::cs,l,off,h,hp,hc=>by
  obtain⟨v,l',rfl,h1,h2⟩:=h;refine⟨⟨v,by simpa using hc 0 (by simp),hp v (by simp),h1⟩,Qee h2 (λv hv=>hp v (by simp[hv])) λi hi=>?_⟩;have:=hc (i+1) (by simpa using hi);rw[show off+1+i=off+(i+1)by omega,this];simp
theorem RB.slice{E:TypeId}{k:Nat}{s:TypeId}(M:P.underlying s=some (.slice E))(hk:P.cellsOf E=k)(h0:Nat.blt 0 k=true)(hl:∀x,(e x).length=k)(h:RB P n E T e wf):
  RB P (n+1) s (List T) (Qni k e) (λl=>l.length<=1048576/\ ∀x∈l,wf x):=by
 intro H enc w base spare held m cs d hm hd μ hμ hwt;have k0:0<k:=by simpa using h0
 cases m with
 |zero=>simp[DataW.trod]at hd
 |succ m=>
  rcases cs with _|⟨v,_|⟨v2,r⟩⟩
  .simp[DataW.trod,M]at hd
  .cases v<;>try (simp[DataW.trod,M]at hd;done)
   rename_i a len t;cases a with
   |none=>
    rcases len with _|len
    .rcases t with _|t
     .refine⟨[],⟨by simp,by simp⟩,⟨_,_,rfl,⟨none,0,rfl,XW _,.inl rfl⟩,rfl⟩,by simp[Qs]⟩
     .simp[DataW.trod,M]at hd
    .simp[DataW.trod,M]at hd
   |some a=>
    simp only[DataW.trod,M]at hd;split at hd
    .rename_i hc;obtain⟨c1,c2,c3⟩:=hc;cases F:(List.range len).mapM (λi=>(w.cells? base (a.add (i*P.cellsOf E)) (P.cellsOf E)).bind (DataW.trod enc P w base spare held m E))with
     |none=>rw[F]at hd;cases hd
     |some f=>
      rw[F]at hd;simp only[XM,Option.map_eq_some_iff]at hd;obtain⟨u,_,rfl⟩:=hd;have J:f.length<=1048576:=by
       have h1:=hμ.sl (f.map (·.1)) (u.map (·.1));rw[X4]at h1;exact XY h1 hwt
      have aa:∀y∈f,μ y.1<=1048576:=λy N=>XY (hμ.sle _ (u.map (·.1)) _ (VI N)) hwt;obtain⟨e1,e2⟩:=Qcz F;have Q:∀i,i<len->∃(x:T) (l:List Value),wf x/\LR (Qd7 w) [] w (e x) l/\(∀v∈l,Qs v)/\l.length=k/\ ∀j,j<k->w.cell? ((a.add (i*k)).add j)=l[j]? :=by
       intro i W;obtain⟨y,y1,y2⟩:=e2 i W;rw[hk]at y1;cases g:w.cells? base (a.add (i*k)) k with
       |none=>rw[g]at y1;cases y1
       |some l=>
        rw[g]at y1;obtain⟨x,x1,x2,x3⟩:=h H enc w base spare held m l y (by omega) y1 μ hμ (aa y (VJ y2));refine⟨x,l,x1,x2,x3,by rw[x2.length];exact hl x,λj hj=>?_⟩;unfold World.cells? at g;split at g
        .obtain⟨_,z2⟩:=Qcz g;obtain⟨v,v1,v2⟩:=z2 j hj;rw[v2, <- v1]
        .cases g
      by_cases V:len=0
      .subst V;exact⟨[],⟨by simp,by simp⟩,⟨_,_,rfl,⟨some a,t,rfl,XX _,.inl rfl⟩,rfl⟩,by simp[Qs]⟩
      .have first:a.spot=none/\a.block<w.heap.size:=by
        obtain⟨x',l,p1,p2,p3,p4,X⟩:=Q 0 (by omega);have B:=X 0 k0;have Y:l[0]?=some l[0]:=XN (by omega);have ea:(a.add (0*k)).add 0=a:=by simp[Addr.add]
        rw[Y,ea]at B;unfold World.cell? at B;split at B
        .rename_i hh;constructor
         .cases q:a.spot with
          |none=>rfl
          |some z=>simp[q]at B
         .exact(Ve.1 hh).1
        .cases B
       obtain⟨p,hb⟩:=first
       have R:∀n,a.add n=⟨a.block,a.off+n,none⟩:=by
        intro n;cases a;simp only at p;subst p;unfold Addr.add;split
        .rename_i q;subst q;rfl
        .rfl
       have L:∀(b o n:Nat),(⟨b,o,none⟩:Addr).add n=⟨b,o+n,none⟩:=by
        intro b o n;unfold Addr.add;split
        .rename_i q;subst q;rfl
        .rfl
       have pick:∀q i,len-i=q->i<=len->∃G:List T,G.length=len-i/\(∀x∈G,wf x)/\RR (Qd7 w) [] w a.block k (G.map e) (a.off+i*k):=by
        intro q
        induction q with
        |zero=>intro i hq W;exact⟨[],by simp[hq],by simp,trivial⟩
        |succ q ih=>
         intro i hq W;obtain⟨G,w1,w2,O⟩:=ih (i+1) (by omega) (by omega);obtain⟨x,l,p1,p2,p3,p4,X⟩:=Q i (by omega);refine⟨x::G,by simp[w1];omega,by intro y N;rcases X8.1 N with rfl|N;exact p1;exact w2 y N,hl x,?_,?_⟩
         .refine Qee p2 p3 λj hj=>?_;have B:=X j (by omega);rw[R,L]at B;exact B
         .rw[Xl, <- Nat.add_assoc]at O;exact O
       obtain⟨G,w1,w2,O⟩:=pick len 0 (by omega) (XX _);rw[Nat.zero_mul,Xy]at O;rw[Xw]at w1;refine⟨G,⟨by rw[w1, <- e1];exact J,w2⟩,⟨_,_,rfl,⟨some a,t,by simp[w1],by simp[w1];exact c2,.inr ⟨a.block,a.off,?_,hb,O⟩⟩,rfl⟩,by simp[Qs]⟩;cases a;simp only at p;subst p;rfl
    .cases hd
  .simp[DataW.trod,M]at hd
def RF(P:Program)(n:Nat)(fs:List Field)(off L:Nat)(T:Type)(e:T->List A)(wf:T->Prop):Prop:=
 ∀(H:Type) (enc:TypeId×Value->H) (w:World) (base:Nat) (spare:Nat->Bool) (held:Bool) (m:Nat) (cs:List Value) ds,m<n->cs.length=L->
  fs.mapM (λf=>DataW.trod enc P w base spare held m f.type ((cs.drop f.offset).take (P.cellsOf f.type)))=some ds->
  ∀μ:DataW H->Nat,QnQ μ->(∀y∈ds,μ y.1<=1048576)->∃x:T,wf x/\LR (Qd7 w) [] w (e x) (cs.drop off)/\ ∀v∈cs.drop off,Qs v
theorem RF.nil{L:Nat}:RF P n [] L L Unit (λ_=>[]) (λ_=>True):=by
 intro H enc w base spare held m cs ds hm hl hd μ hμ hwt;have:cs.drop L=[]:=List.drop_eq_nil_of_le (by omega);rw[this];exact⟨(),trivial,rfl,by simp⟩
theorem RF.cons{f:Field}{fs:List Field}{off L k:Nat}{T2:Type}{s:T2->List A}{i:T2->Prop}(F:f.offset=off)(B:P.cellsOf f.type=k)(h:RB P n f.type T e wf)(r:RF P n fs (off+k) L T2 s i):
  RF P n (f::fs) off L (T×T2) (λp=>e p.1++s p.2) (λp=>wf p.1/\i p.2):=by
 intro H enc w base spare held m cs ds hm hl hd μ hμ hwt;rw[List.mapM_cons]at hd;cases g:DataW.trod enc P w base spare held m f.type ((cs.drop f.offset).take (P.cellsOf f.type))with
 |none=>simp[g]at hd
 |some d=>
  cases j:fs.mapM (λf=>DataW.trod enc P w base spare held m f.type ((cs.drop f.offset).take (P.cellsOf f.type)))with
  |none=>simp[g,j]at hd
  |some a=>
   have l:ds=d::a:=by
    rw[g,j]at hd;exact(X2 hd).symm
   subst l;rw[F,B]at g;obtain⟨x,G,t,E⟩:=h H enc w base spare held m _ d hm g μ hμ (hwt d (by simp));obtain⟨y,y1,y2,J⟩:=r H enc w base spare held m cs a hm hl j μ hμ (λy z=>hwt y (by simp[z]));have b:cs.drop off=(cs.drop off).take k++cs.drop (off+k):=by rw[<- List.drop_drop,XB]
   refine⟨(x,y),⟨G,y1⟩,by rw[b];exact t.append y2,?_⟩;rw[b];intro v u;rcases VF.1 u with q|q
   .exact E v q
   .exact J v q
theorem RB.struct{fs:Array Field}{L:Nat}(i:P.underlying t=some (.struct fs))(k:P.cellsOf t=L)(h:RF P n fs.toList 0 L T e wf):RB P (n+1) t T e wf:=by
 intro H enc w base spare held m cs d hm hd μ hμ hwt;cases m with
 |zero=>simp[DataW.trod]at hd
 |succ m=>
  unfold DataW.trod at hd;simp only[i]at hd;split at hd
  .rename_i b;cases a:fs.toList.mapM (λf=>DataW.trod enc P w base spare held m f.type ((cs.drop f.offset).take (P.cellsOf f.type)))with
   |none=>rw[a]at hd;cases hd
   |some j=>
    rw[a]at hd;simp only[Xj,Option.some.injEq]at hd;subst hd;have:=h H enc w base spare held m cs j (by omega) (by rw[b,k]) a μ hμ (λy g=>XY (hμ.ag _ _ (VI g)) hwt);simpa using this
  .cases hd
end
theorem C.law{P:Program}{f:FuncId}{args:List A}{W:World}{vals:List Value}(h:C P f args [] (λa H=>a=.bool true/\H=[]))(hl:LR (Qd7 W) [] W args vals)(d:GP W):
  Calls P f vals.toArray W λe W'=>e=.returned (.bool true)/\Go.RowKit.Below W.heap.size W W':=by
 have s:Sim (λ_=>False) (Qd7 W) [] [] W:=
  ⟨rfl,⟨λ_ h=>h,λb m=>d.size b m,d⟩,λ_ h=>h.elim,λ_ _ h=>h,λi b x h=>by simp at h,λi j b x y h=>by simp at h,λi y x h=>by simp at h,λi b x c h=>by simp at h⟩
 refine(h _ _ _ _ W s hl).mono ?_;rintro e W' ⟨v,r,H',g,τ,rfl,⟨rfl,rfl⟩,_,l,ev⟩;exact⟨by rw[show v=.bool true from l],⟨ev.os,ev.tape,ev.output,ev.size,λk n=>ev.keepRo k n⟩⟩
theorem QmD{P:Program}{W:World}{a:Nat}{t:TypeId}{v:Value}{fs:Array Field}(b:P.underlying t=some (.struct fs))(h:Value.okWide P W .any a t v):∃cs,v=.agg cs:=by
 unfold Value.okWide at h;rw[b]at h;obtain⟨cs,rfl,_⟩:=h;exact⟨cs,rfl⟩
theorem Qji{P:Program}{W:World}{t:TypeId}{cs:Array Value}{T:Type}{e:T->List A}{wf:T->Prop}{H:Type}{enc:TypeId×Value->H}{b:Nat}{a:Nat->Bool}{held:Bool}{d:DataW H}{ps:List MemPlace}
  (h:∀n,RB P n t T e wf)(j:DataW.Trod enc P W b a held t (.agg cs) d ps){μ:DataW H->Nat}(hμ:QnQ μ)(f:μ d<=1048576):∃x:T,wf x/\VR (Qd7 W) [] W (.agg (e x)) (.agg cs):=by
 obtain⟨m,k⟩:=j;obtain⟨x,i,g,_⟩:=h (m+1) H enc W b a held m _ _ (Xn _) k μ hμ f;exact⟨x,i,cs.toList,by simp,g⟩
theorem Qk4{P:Program}{W:World}{t:TypeId}{a:Option Addr}{len cap:Nat}{T:Type}{e:T->List A}{k:Nat}{wf:List T->Prop}{H:Type}{enc:TypeId×Value->H}{f:Nat}{b:Nat->Bool}{held:Bool}{d:DataW H}{ps:List MemPlace}
  (h:∀n,RB P n t (List T) (Qni k e) wf)(p:DataW.Trod enc P W f b held t (.slice a len cap) d ps){μ:DataW H->Nat}(hμ:QnQ μ)(g:μ d<=1048576):∃x:List T,wf x/\VR (Qd7 W) [] W (.rsl k (x.map e)) (.slice a len cap):=by
 obtain⟨m,q⟩:=p;obtain⟨x,j,⟨v,r,i,l,s⟩,_⟩:=h (m+1) H enc W f b held m _ _ (Xn _) q μ hμ g;refine⟨x,j,?_⟩;have:(Value.slice a len cap).cells.toList=[.slice a len cap]:=rfl;rw[this]at i;cases i;exact l
theorem Qjc{P:Program}{W:World}(h:W.ShapedOpen P){g t u:Nat}{z:Value}(hg:Nat.blt g P.globals.size=true)(s:(((begin P (λ_ _=>0) default).world.heap[g]?).bind Obj.row?)=some (#[z],t))
  (j:P.buildable t=true)(l:P.cellTypes P.depth t=some [u])(p:P.underlying u=some (.int .i64)):∃m:Int,W.cell? ⟨g,0,none⟩=some (.int .i64 m):=by
 obtain⟨d,r,w,x⟩:=h.1 g _ _ (by simpa using hg) s;obtain⟨E,f,_,q⟩:=x j;rw[l]at f;cases f;have B:d.size=1:=w;have a:d[0]?=some d[0]:=Array.getElem?_eq_getElem (by omega);obtain⟨y,i,b⟩:=q 0 _ a;simp at i;subst i;unfold Cell.ok at b;rw[p]at b;cases e:d[0]<;>rw[e]at b<;>simp at b;rename_i k n;obtain⟨rfl,_⟩:=b;refine⟨n,?_⟩;simp only[World.cell?,r];rw[a,e];rfl
end Go.Sw
namespace Go.Sw
theorem Qjr{S B:Type}{step:S->Option (Ctl S B)}(d:Nat->S)(b:B)(k:Nat)(f:∀i,i<k->step (d i)=some (.cont (d (i+1))))(p:step (d k)=some (.done b)):∀n,k<n->iter step n (d 0)=some b:=by
 have e:∀m i n,k-i=m->i<=k->m<n->iter step n (d i)=some b:=by
  intro m
  induction m with
  |zero=>
   intro i n h g j;have:i=k:=by omega
   subst this;obtain⟨a,rfl⟩:∃a,n=a+1:=⟨n-1,by omega⟩;simp[iter,p]
  |succ m l=>
   intro i n h g j;obtain⟨a,rfl⟩:∃a,n=a+1:=⟨n-1,by omega⟩;simp only[iter,f i (by omega)];exact l (i+1) a (by omega) (by omega) (by omega)
 intro n q;exact e k 0 n (by omega) (XX _) q
theorem QmT{S B:Type}{step:S->Option (Ctl S B)}(s0:S)(a:Nat->S)(b:B)(k:Nat)(h0:a 0=s0)(e:∀i,i<k->step (a i)=some (.cont (a (i+1))))(f:step (a k)=some (.done b))(n:Nat)(d:k<n):iter step n s0=some b:=by
 rw[<- h0];exact Qjr a b k e f n d
theorem YZ{α:Type}{l:List α}{i:Nat}{x:α}(h:l[i]?=some x):idx l (i:Int)=some x:=by
 unfold idx;have:decide ((0:Int)<=i)=true:=by simp
 rw[this];simpa using h
theorem Qby{α:Type}(l:List α)(x:α)(h:l.length<4294967296):app l [x]=some (l++[x]):=by
 unfold app;have:Nat.ble (l.length+[x].length) Qy=true:=by
  apply XV;unfold Qy;simp;omega
 rw[this];rfl
theorem QiM{α:Type}(l m:List α)(h:l.length+m.length<=4294967296):app l m=some (l++m):=by
 unfold app;have:Nat.ble (l.length+m.length) Qy=true:=XV h;rw[this];rfl
theorem Yi{n:Int}(h0: -9223372036854775808<=n)(a:n<=9223372036854775807):IntKind.i64.wrap n=n:=by
 unfold IntKind.wrap;simp[IntKind.bits,IntKind.signed];omega
theorem YW{i:Nat}(h:i<9223372036854775807):IntKind.i64.wrap ((i:Int)+1)=((i+1:Nat):Int):=by
 rw[Yi (by omega) (by omega)];omega
theorem Ys{p:Prop}[Decidable p](h:p):decide p=true:=Vw h
theorem YJ{p:Prop}[Decidable p](h:¬p):decide p=false:=Vz h
end Go.Sw
namespace Go.Sw
open Go.Proofs Go.Shelf
def cat(a b:List UInt8):Option (List UInt8):=bif Nat.ble (a.length+b.length) 4294967296 then some (a++b)else none
theorem Qp1{a b r:List UInt8}(h:cat a b=some r):a.length+b.length<=4294967296/\a++b=r:=by
 unfold cat at h;cases q:Nat.ble (a.length+b.length) 4294967296 with
 |true=>rw[q]at h;exact⟨XU q,X2 h⟩
 |false=>rw[q]at h;cases h
def Qfa(s t:List UInt8):Option Bool:=bif Nat.blt s.length 4294967281 then some (Lib.contains s t)else none
section
variable {P:Program} {o:Oper} {env:Env} {H:Qd}
theorem QfJ{t u:TypeId}{x y:Operand}{p q r:List UInt8}(h:cat p q=some r)(j:o.op=.binOp .add t x y u:=by exact rfl)(hx:opA env x=.str p:=by exact rfl)(hy:opA env y=.str q:=by exact rfl):OpV P o env H (.str r):=by
 intro s n σ N a w rr;obtain⟨m,k⟩:=Qp1 h;have f:=Qg rr x;rw[hx]at f;have g:=Qg rr y;rw[hy]at g;have e:a.eval x=.string ⟨p.toArray⟩:=f;have d:a.eval y=.string ⟨q.toArray⟩:=g;have i:(⟨p.toArray⟩:ByteArray)++⟨q.toArray⟩=⟨r.toArray⟩:=by
  rw[<- k];apply ByteArray.ext;simp
 refine⟨.string ⟨r.toArray⟩,?_,rfl⟩;have b:¬((((⟨p.toArray⟩:ByteArray).size+(⟨q.toArray⟩:ByteArray).size:Nat):Int)>IntKind.i64.max):=by
  have:IntKind.i64.max=9223372036854775807:=by decide
  rw[this];simp only[ByteArray.size,List.size_toArray];omega
 generalize a.eval=ρ at*;have l:(eqGuard BinOp.add t x y (.string ⟨p.toArray⟩) (.string ⟨q.toArray⟩)).run P w=.ok () w:=by simp[eqGuard]
 simp only[execOp,j,e,d,binOp_string_add,Op.stringOp,Vu b,i,Vp,Vq,Result.andThen,l]
def Qei{α:Type}(n:Nat)(l:List α)(i:Int):Option α:=bif Nat.beq l.length n then idx l i else none
theorem Qa3{α:Type}{n:Nat}{l:List α}{i:Int}{x:α}(h:Qei n l i=some x):l.length=n/\idx l i=some x:=by
 unfold Qei at h;cases q:Nat.beq l.length n with
 |true=>rw[q]at h;exact⟨XT q,h⟩
 |false=>rw[q]at h;cases h
def arr{α:Type}(n:Nat)(l:List α):Option (List α):=bif Nat.beq l.length n then some l else none
theorem Jm{α:Type}{n:Nat}{l l':List α}(h:arr n l=some l'):l.length=n/\l=l':=by
 unfold arr at h;cases q:Nat.beq l.length n with
 |true=>rw[q]at h;exact⟨XT q,X2 h⟩
 |false=>rw[q]at h;cases h
theorem Qbx{α:Type}{n:Nat}{l l':List α}(h:arr n l=some l'):l'.length=n:=(Jm h).2▸(Jm h).1
section
variable {α:Type} {e:α->List A} {t et k n b:Nat} {x y:Operand} {l:List α}
theorem Qak{i:Int}{v:α}{m:IntKind}(h:Qei n l i=some v)(z:∀w,(underlying t).run P w=.ok (.array n et) w)(p:∀w,(sizeOf et).run P w=.ok k w)(s:Nat.ble 2 n=true)
  (E:o.op=.indexAddr t x y:=by exact rfl)(hx:opA env x=.ptr b 0:=by exact rfl)(hy:opA env y=.int m i:=by exact rfl):OpV P o env H (.ptr b (i.toNat*k)):=by
 intro Q O σ N a w r;obtain⟨M,J⟩:=Qa3 h;obtain⟨L,u⟩:=Qau J;have G:i.toNat<l.length:=(XO.1 u).1;have f:=Qg r x;rw[hx]at f;obtain⟨e,f,F⟩:=f;have j:=Qg r y;rw[hy]at j;have g:a.eval y=.int m i:=j;refine⟨.pointer (some ⟨e,i.toNat*k,none⟩),?_,e,f,rfl⟩;have B:0<=i/\i<(n:Int):=by omega
 have d:(⟨e,0,none⟩:Addr).add (i.toNat*k)=⟨e,i.toNat*k,none⟩:=by
  unfold Addr.add;split
  .rename_i q;rw[q]
  .simp
 generalize a.eval=ρ at*;simp[execOp,E,F,g,Instr.indexAt,asIntOf,z,p,Instr.sureAddr,B,d,go_sem,Result.andThen]
theorem QkR{cs:List A}(hH:H[b]?=some (.row t k (l.map e)):=by exact rfl)(hcs:(l.map e).flatten=cs:=by exact rfl):Pts H (.ptr b 0) cs:=by
 intro m n σ w v s h;obtain⟨f,d,a⟩:=h;obtain⟨j,i,g⟩:=s.blk b _ _ d hH;refine⟨f,0,a,?_⟩;have:=(RR.flat (YS (pre:=[]) (by simpa using i) g)).1;subst hcs;exact this.lift
theorem Qij(a:∀x,(e x).length=k)(L:List α):(L.map e).flatten.length=L.length*k:=by
 induction L with
 |nil=>simp
 |cons c L ih=>simp only[Vl,Vn,X5,a c,ih,X3,Xl];omega
theorem QiW{d:Nat}{l':List α}(h:arr n l=some l')(i:∀x,(e x).length=k)(a:n*k=d)(m:∀w,(isAgg t).run P w=.ok true w)(j:∀w,(sizeOf t).run P w=.ok d w){T:Nat}
  (g:o.op=.load t x:=by exact rfl)(hx:opA env x=.ptr b 0:=by exact rfl)(hH:H[b]?=some (.row T k (l.map e)):=by exact rfl):OpV P o env H (.agg (l'.map e).flatten):=by
 obtain⟨p,rfl⟩:=Jm h;have f:=Qij i l;rw[p,a]at f;exact Qk g m j hx (QkR hH rfl) (VK (by omega)) f
theorem QlD{r:Nat}{n2 T:Nat}(hl:l.length=n)(f:∀x,(e x).length=k)(a:n*k=n2)(h:∀w,(isAgg t).run P w=.ok true w)(g:∀w,(sizeOf t).run P w=.ok n2 w)
  (i:lk env r=.ptr b 0:=by exact rfl)(hH:H[b]?=some (.row T k (l.map e)):=by exact rfl):Qdg P env H (.cell r t) (.agg (l.map e).flatten):=by
 have d:=Qij f l;rw[hl,a]at d;have:=Qeb (b:=r) (p:=.ptr b 0) (n:=n2) h g (QkR hH rfl) i (by rw[VK (by omega)];exact d)
 rwa [VK (by omega)]at this
theorem QiN{c:List A}{k:Nat}(h:c.length=k):∀n,allK k (List.replicate n c)
 |0=>trivial
 |n+1=>⟨h,QiN h n⟩
theorem Jc{vs:Array Value}{z:α}(l:∀w,(zeroValue t).run P w=.ok (.agg vs) w)(g:(YT (List.replicate n (e z)).flatten).toArray=vs)(i:QeK (List.replicate n (e z)).flatten=true)(h:(List.replicate n (e z)).flatten.all Yl=true)(j:Nat.beq (e z).length k=true)
  (m:o.op=.alloc t:=by exact rfl):OpH P o env H (.ptr H.length 0) (H++[.row t k ((List.replicate n z).map e)]):=by
 intro s f σ N a w r;have d:LR f [] w (List.replicate n (e z)).flatten (YT (List.replicate n (e z)).flatten):=QfQ i;have b:=r.sim.allocRow (t:=t) (rest:=[]) (QiN (XT j) n) d (d.plain h);rw[Vi]at b;have q:(List.replicate n z).map e=List.replicate n (e z):=List.map_replicate;refine⟨.pointer (some ⟨w.heap.size,0,none⟩),w.alloc (.cells (YT (List.replicate n (e z)).flatten).toArray t),f,[some w.heap.size],?_,⟨w.heap.size,?_,rfl⟩,q▸b,Qh.alloc _ r.sim.roLt r.sim.frLt⟩
 .generalize a.eval=ρ at*;have p:(newVar t (.agg vs)).run P w=.ok ⟨w.heap.size,0,none⟩ (w.alloc (.cells vs t)):=rfl;rw[g];simp only[execOp,m,Instr.alloc,Vp,l,Result.andThen,p];rfl
 .rw[<- r.sim.len];simp
theorem Jb{T n2:Nat}{l':List α}{vs:List A}(h:l.length=n)(h':l'.length=n)(hk:∀x,(e x).length=k)(E:n*k=n2)(hs:∀w,(sizeOf t).run P w=.ok n2 w)
  (hp:∀x,(e x).all Yl=true)(hd:∀x,Yf (e x)=true)(M:(l'.map e).flatten=vs)
  (ho:o.op=.store t x y:=by exact rfl)(F:opA env x=.ptr b 0:=by exact rfl)(hH:H[b]?=some (.row T k (l.map e)):=by exact rfl)(J:opA env y=.agg vs:=by exact rfl):
  OpU P o env H (H.set b (.row T k (l'.map e))):=by
 intro fr ro σ N a w r;subst M;have d:=Qg r x;rw[F]at d;obtain⟨bb,d,X⟩:=d;have h3:=Qg r y;rw[J]at h3;obtain⟨m,Y,G⟩:=h3;obtain⟨u,q1,q2⟩:=r.sim.blk b _ _ d hH;have p:∀(L:List α),allK k (L.map e):=by
  intro L
  induction L with
  |nil=>trivial
  |cons c L g=>exact⟨hk c,g⟩
 have Q:(l'.map e).flatten.length=n2:=by rw[Yu (p l'),X4,h',E]
 have hm:m.length=n2:=by rw[G.length,Q]
 have j:∀L:List α,(L.map e).flatten.all Yl=true:=by
  intro L
  induction L with
  |nil=>rfl
  |cons c L g=>simp only[Vl,Vn,List.all_append,hp c,g,Bool.and_self]
 have W:∀B i:List A,Yf B=true->Yf i=true->Yf (B++i)=true:=by
  intro B
  induction B with
  |nil=>intro i _ h;exact h
  |cons c B g=>
   intro i d X;simp only[Yf,XZ,VM]at d⊢;exact⟨d.1,g i d.2 X⟩
 have R:∀L:List α,Yf (L.map e).flatten=true:=by
  intro L
  induction L with
  |nil=>rfl
  |cons c L g=>simp only[Vl,Vn];exact W _ _ (hd c) g
 have aa:n2<=u.length:=by
  have:=q2.length;rw[X4,h,E]at this;exact this
 have q:=Q5 (P:=P) (vs:=m) 0 0 q1 (by omega) (G.plain (j l'));have s:splice u 0 m=m++u.drop n2:=by unfold splice;simp[hm]
 have f:=r.sim.set (x':=.row T k (l'.map e)) (obj:=.cells (splice u 0 m).toArray T (0,0)) d hH rfl
  (λy J=>Qaf q1 (Q4 (by omega)) y J)
  (λex z=>by
   have F:=(G.data (R l')).mono ex.nil;rw[s]at F z⊢;exact⟨_,z,Jn (p l') F (G.plain (j l'))⟩)
 refine⟨_,ro,[],?_,by simpa using f.1,f.2⟩;generalize a.eval=ρ at*;have V:(ρ y).cells.size=n2:=by rw[Y];simp[Value.cells,hm]
 have O:(storeVar t ⟨bb,0,none⟩ (ρ y)).run P w=.ok () {w with heap:=w.heap.setIfInBounds bb (.cells (splice u 0 m).toArray T (0,0))}:=by
  unfold storeVar;rw[Vp,hs];simp only[Result.andThen];rw[Vu (by simp[V]),Y];have ec:(Value.agg m.toArray).cells.toList=m:=by simp[Value.cells]
  rw[ec];simpa using q
 simp only[execOp,ho,X,Instr.storeAt,Instr.sureAddr,pure_bind,Vp,O];rfl
end
end
theorem C.contains{P:Program}{ρ:Ren}(L:Lays.n144 P ρ)(hg:ρ.g 1=Qlg){s t:List UInt8}{r:Bool}(h:Qfa s t=some r):C P (ρ.f 144) [.str s,.str t] [] (λa H=>a=.bool r/\H=[]):=by
 unfold Qfa at h;cases q:Nat.blt s.length 4294967281 with
 |false=>rw[q]at h;cases h
 |true=>
  rw[q]at h;obtain rfl:=X2 h;intro z d σ vals w sim hv;obtain⟨y,B,rfl,l,u,p,rfl,j,n⟩:=hv;cases(show p=[]from n);obtain⟨m,i⟩:=sim.roOk.gp.max;have k:y=.string ⟨s.toArray⟩:=l;have x:u=.string ⟨t.toArray⟩:=j;subst k x;have b:s.length<4294967281:=by simpa using q
  refine(Any.strings_Contains L ⟨s.toArray⟩ ⟨t.toArray⟩ m w (by simpa[ByteArray.size]using b) (by rw[hg];exact i)).mono ?_;rintro e E ⟨rfl,rfl⟩;exact⟨_,_,_,d,[],rfl,⟨rfl,rfl⟩,by simpa using sim,rfl,Qh.refl _ _ _⟩
section
variable {P:Program} {o:Oper} {env:Env} {H:Qd} {fr ro:Nat->Prop} {σ:Sig} {w:World}
theorem Sim.touch(s:Sim fr ro σ H w){b:Nat}{obj:Obj}(m:¬ro b)(n:¬fr b)(B:∀(i:Nat) (x:Blk),σ[i]?=some (some b)->H[i]?=some x->x.live=true->False)
  (g:∀(i d:Nat) (x:Blk),σ[i]?=some (some d)->H[i]?=some x->Hid w x d b->False)
  (r:∀y,w.shape? b=some y->({w with heap:=w.heap.setIfInBounds b obj}:World).shape? b=some y):
  Sim fr ro σ H {w with heap:=w.heap.setIfInBounds b obj}/\Qh fr ro w ro {w with heap:=w.heap.setIfInBounds b obj}:=by
 have a:∀c,c≠b->({w with heap:=w.heap.setIfInBounds b obj}:World).heap[c]?=w.heap[c]? :=by
  intro c E;show(w.heap.setIfInBounds b obj)[c]?=_;rw[Vg,Vu (λq=>E q.symm)]
 have f:({w with heap:=w.heap.setIfInBounds b obj}:World).heap.size=w.heap.size:=by simp
 have ev:Qh fr ro w ro {w with heap:=w.heap.setIfInBounds b obj}:=
  ⟨λ_ h=>h,λc h=>a c (λq=>m (q▸h)),λc h=>a c (λq=>n (q▸h)),by rw[f];exact XW _,by
   intro c y h;by_cases q:c=b
   .subst q;exact r y h
   .unfold World.shape? at h⊢;rw[a c q];exact h,rfl,rfl,rfl,XW _⟩
 refine⟨⟨s.len,s.roOk.to (λ_ q=>q) ev.keepRo (λc h=>by rw[f];exact s.roLt c h),λc h=>by rw[f];exact s.frLt c h,s.roFr,?_,s.inj,?_,s.hidTo (· = ·) QZ (by rw[f];exact XW _) (λ_ _ _ _ _ _ _ q=>q) (λ_ _ _ _ _ _ _ q=>q) λj d y p u G=>.inl ⟨j,y,rfl,p,u,id,λc q=>s.hidKeep p u (λz=>a d (λe=>B j y (e▸p) u z)) ev.keepRo q⟩⟩,ev⟩
 .intro i c x l k F;rw[f];exact s.own i c x l k F
 .intro i y x l k;refine(s.blk i y x l k).keep (ev.ext0 σ) ?_ ?_
  .rintro c rfl t;exact a c (λq=>by subst q;exact B i x l k t)
  .rintro d c rfl t;exact a c (λq=>g i d x l k (q▸t))
theorem QlR{T E i n t:Nat}{x:Operand}{es:List (List A)}(ht:P.underlying T=some (.slice E))(hE:P.underlying E=some (.int .u8))(hn:es.length=n)(h0:Nat.blt 0 n=true)
  (ho:o.op=.convert T T x:=by exact rfl)(hx:opA env x=.osl i 0 n 1:=by exact rfl)(hH:H[i]?=some (.row t 1 es):=by exact rfl):
  OpH P o env H (.rsl 1 es) (H.set i .dead):=by
 intro fr O σ N a w r;subst hn;have s:=Qg r x;rw[hx]at s;rcases s with⟨hz,_⟩|⟨b,p,M,t',m,s,h2,h6,h3,h4,h5⟩
 .rw[hz]at h0;simp at h0
 .have aa:0<es.length:=by simpa using h0
  obtain rfl:=h6 (by omega);obtain⟨Q,J,h⟩:=r.sim.own i b _ s hH rfl;obtain⟨l,W,q2⟩:=r.sim.blk i _ _ s hH;have s1:=r.sim.kill i;have g:∀(j:Nat) (y:Blk),σ[j]?=some (some b)->(H.set i .dead)[j]?=some y->y.live=true->False:=by
   intro j y u f F;by_cases q:j=i
   .subst q;rw[Xb]at f;simp only[if_true]at f;split at f
    .cases f;simp[Blk.live]at F
    .simp at f
   .rw[XS (λz=>q z.symm)]at f;exact q (r.sim.inj j i b y _ u s f hH F rfl)
  have L:∀(j d:Nat) (y:Blk),σ[j]?=some (some d)->(H.set i .dead)[j]?=some y->Hid w y d b->False:=by
   intro j d y u f F;by_cases q:j=i
   .subst q;rw[Xb]at f;simp only[if_true]at f;split at f
    .cases f;exact F.elim
    .simp at f
   .rw[XS (λz=>q z.symm)]at f;exact(r.sim.hid j d y b u f F).ne i b _ s hH rfl rfl
  let fz:Nat×Nat:=(l.length,l.length+1)
  have Y:∀y,w.shape? b=some y->({w with heap:=w.heap.setIfInBounds b (.cells l.toArray t fz)}:World).shape? b=some y:=by
   intro y R;unfold World.shape? at R⊢;rw[W]at R;have e:(w.heap.setIfInBounds b (.cells l.toArray t fz))[b]?=some (.cells l.toArray t fz):=by rw[Vg,Vv rfl,Vv Q]
   simp only[e];exact R
  obtain⟨s2,k⟩:=s1.touch (obj:=.cells l.toArray t fz) J h g L Y;have s3:=s2.addRo (b:=b) (by simpa using Q) h g (λj d y u f F=>L j d y u f (s1.hidKeep u f (λz=>by
   show(w.heap.setIfInBounds b _)[d]?=_;rw[Vg,Vu (λe:b=d=>g j y (by rw[e];exact u) f z)]) k.keepRo F))
  have B:({w with heap:=w.heap.setIfInBounds b (.cells l.toArray t fz)}:World).heap[b]?=some (.cells (([]:List Value)++l).toArray t fz):=by
   show(w.heap.setIfInBounds b _)[b]?=_;rw[Vg,Vv rfl,Vv Q];rfl
  have G:Ext O [] w O [] {w with heap:=w.heap.setIfInBounds b (.cells l.toArray t fz)}:=k.ext0 [];refine⟨.slice (some ⟨b,0*1,none⟩) es.length M,_,λc=>O c\/c=b,[],?_,?_,by simpa using s3,k.trans (YG λ_ q=>.inl q)⟩
  .have hf:w.freeze ⟨b,l.length,none⟩ 1={w with heap:=w.heap.setIfInBounds b (.cells l.toArray t fz)}:=by
    unfold World.freeze;simp only[Nat.one_ne_zero,if_false];rw[Qbg W];rfl
   have V:(markStringish ⟨b,0*1,none⟩).run P w=.ok () {w with heap:=w.heap.setIfInBounds b (.cells l.toArray t fz)}:=by
    rw[<- hf];unfold markStringish;simp[shape,freeze,Sem.run,World.shape?,W,Result.andThen]
   have hu:∀w,(underlying T).run P w=.ok (.slice E) w:=run_underlying ht;have X:∀w,(underlying E).run P w=.ok (.int .u8) w:=run_underlying hE;generalize a.eval=ρ at*;simp only[execOp,ho,h2,convert,Vp,hu,X,Result.andThen,beq_self_eq_true,V,Vq]
  .refine⟨some ⟨b,0*1,none⟩,M,rfl,h3,.inr ⟨b,0*1,rfl,.inr rfl,?_⟩⟩;have:=YS (pre:=[]) B (q2.mono G);exact(by simpa using this:RR O [] _ b 1 es (0*1)).keep ⟨λ_ q=>.inl q,λ_ _=>rfl,λ_ _ q=>q,λ_ _ q=>q⟩ rfl
end
mutual
theorem Qds(ρ:Nat->Nat):∀{a:A},Yp a=true->Yy ρ a=a
 |.any,_=>rfl
 |.bool _,_=>rfl
 |.int _ _,_=>rfl
 |.str _,_=>rfl
 |.nilp,_=>rfl
 |.ptr _ _,h=>by simp[Yp]at h
 |.rp _,_=>rfl
 |.nils,_=>rfl
 |.rsl _ _,_=>rfl
 |.osl _ _ _ _,h=>by simp[Yp]at h
 |.agg cs,h=>by simp only[Yp]at h;simp only[Yy,Qag ρ h]
 |.fn f a c,h=>by simp only[Yp,XZ]at h;simp only[Yy,Qag ρ h.1,Qag ρ h.2]
 |.nilf,_=>rfl
 |.iface t a,h=>by simp only[Yp]at h;simp only[Yy,Qds ρ h]
 |.nilif,_=>rfl
 |.map _,h=>by simp[Yp]at h
 |.nilm,_=>rfl
 |.tup vs,h=>by simp only[Yp]at h;simp only[Yy,Qag ρ h]
theorem Qag(ρ:Nat->Nat):∀{l:List A},Yf l=true->Qaa ρ l=l
 |[],_=>rfl
 |a::l,h=>by simp only[Yf,XZ]at h;simp only[Qaa,Qds ρ h.1,Qag ρ h.2]
end
theorem Qgp{α:Type}{e:α->List A}(b:∀x,Yf (e x)=true):∀L:List α,Yf (L.map e).flatten=true
 |[]=>rfl
 |c::L=>by
  have hdt:∀cs ds:List A,Yf cs=true->Yf ds=true->Yf (cs++ds)=true:=by
   intro cs
   induction cs with
   |nil=>intro ds _ h;exact h
   |cons c cs f=>
    intro ds a d;simp only[Yf,XZ,VM]at a⊢;exact⟨a.1,f ds a.2 d⟩
  simp only[Vl,Vn];exact hdt _ _ (b c) (Qgp b L)
theorem Qoc{α:Type}{e:α->List A}(hd:∀x,Yf (e x)=true)(ρ:Nat->Nat)(l:List α):Yy ρ (.agg (l.map e).flatten)=.agg (l.map e).flatten:=
 Qds ρ (by simp only[Yp];exact Qgp hd l)
end Go.Sw
namespace Go.Sw
section
variable {P:Program} {o:Oper} {env:Env} {H:Qd}
theorem Qey{c:Call}{f T:Nat}{x:Operand}{xs:List Operand}{k:Array TypeId}{name:String}{v:A}{args:List A}(b:∀(a:Array Value) (w:World),(callFunc f a).run P w=.ok (.enter f a) w)(j:o.op=.call c)
  (i:c={callee:=.invoke x name,args:=xs.toArray,argTypes:=k})(m:opA env x=.iface T v)(hargs:v::xs.map (opA env)=args)
  (p:∀(u:Value) (w:World),(method (P.types.size+Made.depth) T u name).run P w=.ok (f,u) w):OpC P o env H f args:=by
 intro s q σ N a w r;have d:=Qg r x;rw[m]at d;obtain⟨u,d,n⟩:=d;refine⟨u::xs.map a.eval,?_,hargs▸⟨u,xs.map a.eval,rfl,n,Qbn r xs⟩⟩;subst i;generalize a.eval=ρ at*;have e:(#[ρ x]++(xs.toArray.map ρ):Array Value)=(.iface T u::xs.map ρ).toArray:=by rw[d];simp
 have g:((.iface T u::xs.map ρ).toArray.extract 1 (.iface T u::xs.map ρ).toArray.size:Array Value)=(xs.map ρ).toArray:=by
  simp[VK]
 have h:∀l:Array Value,(callMethod (.iface T u) name l).run P w=.ok (.enter f (#[u]++l)) w:=by
  intro l;simp only[callMethod,Vp,run_program,Result.andThen,p,b]
 simp only[execOp,j,resolve,e,invoke,Vp,Vq,Result.andThen];simp only[XJ,XH,g,h];simp
theorem QbB{T I:Nat}{x:Operand}{v:A}{d:TypeDesc}(g:∀w,(underlying T).run P w=.ok d w)(h:∀m,d≠ .interface m)(f:o.op=.typeAssert x I T true:=by exact rfl)(hx:opA env x=.iface T v:=by exact rfl):
  OpV P o env H (.tup [v,.bool true]):=by
 intro j i σ N a w r;have b:=Qg r x;rw[hx]at b;obtain⟨u,b,e⟩:=b;refine⟨.tuple #[u,.bool true],?_,[u,.bool true],rfl,_,_,rfl,e,_,_,rfl,rfl,rfl⟩;generalize a.eval=ρ at*;cases d<;>first|(simp[execOp,f,b,Instr.typeAssert,g,go_sem];done)|exact(h _ rfl).elim
theorem Qhz{T T' I:Nat}{x:Operand}{v z:A}{zv:Value}{d:TypeDesc}(i:∀w,(underlying T).run P w=.ok d w)(j:∀m,d≠ .interface m)(b:Nat.beq T' T=false)(h:∀w,(zeroValue T).run P w=.ok zv w)(f:ZR z zv)
  (g:o.op=.typeAssert x I T true:=by exact rfl)(hx:opA env x=.iface T' v:=by exact rfl):
  OpV P o env H (.tup [z,.bool false]):=by
 intro p n σ N a w r;have e:=Qg r x;rw[hx]at e;obtain⟨u,e,l⟩:=e;have k:T'≠T:=λq=>by rw[q,VH]at b;cases b
 refine⟨.tuple #[zv,.bool false],?_,[zv,.bool false],rfl,_,_,rfl,f _ _ _,_,_,rfl,rfl,rfl⟩;generalize a.eval=ρ at*;cases d<;>first|(simp[execOp,g,e,Instr.typeAssert,i,k,h,go_sem];done)|exact(j _ rfl).elim
end
def TL(P:Program)(h0 N:Nat)(c:Code)(env:Env)(H:Qd)(Q:QB):Prop:=
 ∀rd fr ro σ a w,Rel fr ro σ H env N a w->Qek rd fr w->∀(b:Frame) (k:List Item) (cs:List Frame),b.roundOf=(WF rd).round->(WF rd).fn b.fn->(WF rd).room (cs.length+1+0)->∃e a' w',QaS h0 fr ro σ w N a.defers Q e a' w'/\ArrivesIn (Machine.fenced P (WF rd)) P (lone (b.atR a (.code c::.inLoop c::k)) cs w) b k cs e a' w'
def QjU(P:Program)(h0 N:Nat)(c:Code)(Q:QB):QB
 |.normal,env,H=>TL P h0 N c env H Q
 |.exit id,env,H=>Q (.exit id) env H
 |.ret,env,H=>Q .ret env H
section
variable {P:Program} {h0 N:Nat} {c:Code} {env:Env} {H:Qd} {Q:QB}
theorem QnF(h:TL P h0 N c env H Q):TC P h0 N (.loop c) env H Q:=by
 intro l j i σ a w r hrd b k cs hro hb hr;obtain⟨e,f,m,g,d⟩:=h l j i σ a w r hrd b k cs hro hb hr;exact⟨e,f,m,g,.of_steps (.one (fenced_calm hb hr rfl) stepR_loop) d⟩
theorem TL.round(h:TC P h0 N c env H (QjU P h0 N c Q)):TL P h0 N c env H Q:=by
 intro E y G σ a w r hrd b k cs hro hb hr;obtain⟨e,l,n,O,d⟩:=h E y G σ a w r hrd b (.inLoop c::k) cs hro hb hr;obtain⟨x,f,H',i,σ',j,m,t,z,p,B,u⟩:=O;have F:∀x,Q x f H'->ExR e x->QaS h0 y G σ w N a.defers Q e l n:=λx q J=>⟨x,f,H',i,σ',j,J,q,z,p,B,u⟩;cases e with
 |normal=>
  obtain rfl:x=.normal:=m;obtain⟨L,M,w2,s,g⟩:=t E j i σ' l n z (hrd.to p u.sub) b k cs hro hb hr;exact⟨L,M,w2,s.grow p B u,.of_steps (StepsIn.trans d (.one (fenced_calm hb hr rfl) stepR_inLoop)) g⟩
 |exit id=>
  obtain rfl:x=.exit id:=m;exact⟨_,l,n,F _ t rfl,.pass (x:=.inLoop c) rfl (λ_ _=>.inl (by simp)) d⟩
 |ret=>
  obtain rfl:x=.ret:=m;exact⟨_,l,n,F _ t rfl,.pass (x:=.inLoop c) rfl (λ_ _=>.inl (by simp)) d⟩
 |_=>exact m.elim
theorem unrN(h:TC P h0 N c env H (QjU P h0 N c Q)):QjU P h0 N c Q .normal env H:=TL.round h
theorem unrX{id:Nat}(h:Q (.exit id) env H):QjU P h0 N c Q (.exit id) env H:=h
theorem unrR(h:Q .ret env H):QjU P h0 N c Q .ret env H:=h
theorem Qlz(h:TC P h0 N c env H (QjU P h0 N c Q)):TC P h0 N (.loop c) env H Q:=QnF (TL.round h)
end
section
variable {P:Program} {o:Oper} {env:Env} {H:Qd}
theorem OpV.ixL{t et k b n j:Nat}{x y:Operand}{h:IntKind}{i:Int}(f:Nat.blt j n=true)(hi:i=(j:Int))(g:∀w,(underlying t).run P w=.ok (.slice et) w)(e:∀w,(sizeOf et).run P w=.ok k w)
  (d:o.op=.indexAddr t x y:=by exact rfl)(hx:opA env x=.osl b 0 n k:=by exact rfl)(hy:opA env y=.int h i:=by exact rfl):OpV P o env H (.ptr b (j*k)):=by
 subst hi;have a:=QhA (H:=H) d g e hx hy (by omega) (by simpa using f)
 rwa [Int.toNat_natCast,Nat.zero_mul,Xx]at a
end
theorem QfH{ro:Nat->Prop}{σ:Sig}{w:World}{k:Nat}:∀{es:List (List A)} {l l':List Value},RL ro σ w k es l->l.take (es.length*k)=l'.take (es.length*k)->RL ro σ w k es l'
 |[],_,_,_,_=>trivial
 |c::es,l,l',h,hp=>by
  obtain⟨l1,l2,rfl,h1,h2,h3⟩:=h;have hl1:l1.length=k:=by rw[h2.1.length];exact h1
  have a:l'.take k=l1:=by
   have:=congrArg (List.take k) hp;simp only[List.take_take,X3,Xl]at this;rw[XD (by omega)]at this;rw[<- this, <- hl1];simp
  refine⟨l1,l'.drop k,by rw[<- a,XB],h1,h2,QfH h3 ?_⟩;have:=congrArg (List.drop k) hp;simp only[X3,Xl,List.drop_take]at this;rw[show es.length*k+k-k=es.length*k by omega]at this;rw[<- this, <- hl1];simp
section
variable {P:Program} {o:Oper} {env:Env} {H:Qd}
theorem Qf2{c:Call}{T et k b s n t:Nat}{x:Operand}{es es':List (List A)}{z:Value}(ht:P.underlying T=some (.slice et))(hz:∀w,(zeroValue et).run P w=.ok z w)(O:z.cells.size=k)(M:∀v∈z.cells,Qs v)
  (Q:es.take s=es')(hb:s+n=es.length)(ho:o.op=.call c:=by exact rfl)(hc:c={callee:=.builtin .clear,args:= #[x],argTypes:= #[T]}:=by exact rfl)
  (hx:opA env x=.osl b s n k:=by exact rfl)(hH:H[b]?=some (.row t k es):=by exact rfl):OpH P o env H (.tup []) (H.set b (.row t k es')):=by
 intro R G σ N a w r;subst Q hc;have L:∀w,(underlying T).run P w=.ok (.slice et) w:=run_underlying ht;have j:=Qg r x;rw[hx]at j;have h:Sim R G σ (H.set b (.row t k (es.take s))) w:=by
  refine r.sim.weaken hH rfl ?_;intro y E;cases y with
  |none=>rw[show es=[]from E];simp[BR]
  |some V=>obtain⟨l,g1,g2⟩:=E;exact⟨l,g1,RL.take s g2⟩
 have f:∀v,a.eval x=v->(Builtin.clear_ #[T] o.type #[v]).run P w=.ok (.tuple #[]) w->
   ∃v w' ro' τ,(execOp a.eval o).run P w=.ok (.value v) w'/\VR ro' (σ++τ) w' (.tup []) v/\Sim R ro' (σ++τ) (H.set b (.row t k (es.take s))) w'/\Qh R G w ro' w':=by
  intro v F d;refine⟨.tuple #[],w,G,[],?_,⟨[],rfl,rfl⟩,by simpa using h,Qh.refl _ _ _⟩;generalize a.eval=ρ at*;simp only[execOp,ho,resolve,Vp,Vq,Result.andThen,invoke,builtin,XL,Vl,Vm,F,d]
 rcases j with⟨hn,j⟩|⟨V,p,Y,t',m,j,h2,h3,h4,h5,h6⟩
 .refine f _ j ?_;simp[Builtin.clear_,L,Result.andThen]
 .by_cases hn:n=0
  .subst hn;refine f _ h2 ?_;simp[Builtin.clear_,L,Result.andThen]
  .obtain rfl:=h3 (by omega);obtain⟨l,q1,q2⟩:=r.sim.blk b _ _ j hH;have ab:=q2.length
   let vs:=(Builtin.zeroCells z.cells n).toList
   have ac:vs.length=n*k:=by simp[vs,Builtin.zeroCells,O]
   have W:∀v∈vs,Qs v:=by
    intro v F;simp only[vs,Builtin.zeroCells,Array.toList_map,Xe,Array.toList_range,List.mem_range]at F;obtain⟨i,hi,rfl⟩:=F;have u:0<z.cells.size:=by
     rcases Nat.eq_zero_or_pos z.cells.size with q|q
     .rw[q,Nat.mul_zero]at hi;omega
     .exact q
    have B:i%z.cells.size<z.cells.size:=Nat.mod_lt _ u;rw[getElem!_pos z.cells _ B];exact M _ (Array.getElem_mem B)
   have ae:s*k+n*k=es.length*k:=by rw[<- XC,hb]
   have d:=Q5 (P:=P) (vs:=vs) (s*k) 0 q1 (by omega) W;have g:=r.sim.set (x':=.row t k (es.take s)) (obj:=.cells (splice l (s*k) vs).toArray t (0,0)) j hH rfl
    (λy E=>Qaf q1 (Q4 (by omega)) y E)
    (λex X=>⟨_,X,by
     refine(QfH (RL.take s q2) ?_).mono ex.nil;have hl:(es.take s).length*k<=s*k:=XE k (by simp;omega);have J:(es.take s).length*k<=(l.take (s*k)).length:=by rw[Xz (i:=s*k),XD (by omega)];exact hl
     have e:=X9 (l₂:=vs++l.drop (s*k+vs.length)) J;unfold splice;rw[Vk,e,List.take_take,XD hl]⟩)
   refine⟨.tuple #[],_,G,[],?_,⟨[],rfl,rfl⟩,by simpa using g.1,g.2⟩;have aa:(Builtin.clear_ #[T] o.type #[.slice (some ⟨V,s*k,none⟩) n Y]).run P w=.ok (.tuple #[]) {w with heap:=w.heap.setIfInBounds V (.cells (splice l (s*k) vs).toArray t (0,0))}:=by
    obtain⟨n',rfl⟩:∃n',n=n'+1:=⟨n-1,by omega⟩;simp only[Xy]at d;simp only[Builtin.clear_,XJ,XH,Vp,L,hz,Result.andThen,d,Vq,vs]
   generalize a.eval=ρ at*;simp only[execOp,ho,resolve,Vp,Vq,Result.andThen,invoke,builtin,XL,Vl,Vm,h2,aa]
end
def isNil{α R:Type}[DecidableEq R](l:List α)(x y:Option R):Option R:=bif l.isEmpty then(bif decide (x=y)then x else none)else y
theorem Qia{α R:Type}[DecidableEq R]{l:List α}{x y:Option R}{r:R}(h:isNil l x y=some r)(b:Bool)(d:l≠[]->b=false):(b=true->x=some r)/\(b=false->y=some r):=by
 unfold isNil at h;cases q:l.isEmpty with
 |true=>
  rw[q]at h;by_cases a:x=y
  .subst a;simp at h;exact⟨λ_=>h,λ_=>h⟩
  .simp[a]at h
 |false=>
  rw[q]at h;have f:l≠[]:=by rintro rfl;cases q
  refine⟨λe=>?_,λ_=>h⟩;rw[d f]at e;cases e
section
variable {P:Program} {o:Oper} {env:Env} {H:Qd} {h0 N:Nat} {Q:QB}
theorem QlS{α:Type}{e:α->List A}{T E k:Nat}{u:TypeId}{x:Operand}{l:List α}(h:P.underlying T=some (.slice E))(j:o.op=.binOp .eql T x (.const (.slice none 0 0)) u)(m:opA env x=.rsl k (l.map e)):
  OpE P o env H (λv H'=>∃b:Bool,v=.bool b/\(l≠[]->b=false)/\H'=H):=by
 intro y s σ N a w r;have g:=Qg r x;rw[m]at g;obtain⟨ad,f,g,t,d⟩:=g;refine⟨.bool ad.isNone,H,.bool ad.isNone,w,s,[],⟨ad.isNone,rfl,λp=>?_,rfl⟩,?_,rfl,by simpa using r.sim,Qh.refl _ _ _⟩
 .rcases d with d|⟨b,q,d,_⟩
  .exact absurd (List.map_eq_nil_iff.1 d) p
  .rw[d];rfl
 .have i:a.eval (.const (.slice none 0 0))=.slice none 0 0:=rfl;generalize a.eval=ρ at*;have n:(eqGuard .eql T x (.const (.slice none 0 0)) (.slice ad (l.map e).length f) (.slice none 0 0)).run P w=.ok () w:=by simp[eqGuard]
  simp only[execOp,j,g,i,Vp,n,Result.andThen,Go.run_eql_slice_nil w T E ad _ f h,Vq]
theorem QiO{α:Type}{e:α->List A}{T E k d:Nat}{u:TypeId}{x:Operand}{l:List α}{all:Array Oper}{L:List Oper}(h:P.underlying T=some (.slice E))(i:opA env x=.rsl k (l.map e))
  (g:∀b:Bool,(l≠[]->b=false)->WO P h0 N all L (up env d (.bool b)) H Q)
  (f:o.op=.binOp .eql T x (.const (.slice none 0 0)) u:=by exact rfl)(hg:Qq all o env true:=by exact rfl)(hd:o.dst=some d:=by exact rfl)(hN:Nat.blt d N=true:=by exact rfl)(hh:Nat.ble h0 H.length=true:=by exact rfl):WO P h0 N all (o::L) env H Q:=by
 refine QjT (XU hh) hg hd hN (QlS h f i) ?_;rintro v H' ⟨b,rfl,a,rfl⟩;exact g b a
end
theorem slc0{α:Type}{l x:List α}{i:Int}(h:slc l 0 i=some x):0<=i/\i.toNat<=l.length/\l.take i.toNat=x/\x.length=i.toNat:=by
 obtain⟨_,b,e,d⟩:=Qdq h;have a:l.take i.toNat=x:=by simpa using d
 exact⟨b,by omega,a,by rw[<- a,Xz];omega⟩
section
variable {P:Program} {o:Oper} {env:Env} {H:Qd} {α:Type} {e:α->List A} {T et k b t:Nat} {x y:Operand} {l l':List α} {i:Int}
theorem Qj0(h:slc l 0 i=some l')(E1:∀w,(underlying T).run P w=.ok (.slice et) w)(E2:∀w,(sizeOf et).run P w=.ok k w)(d:o.op=.slice T x (some y) none none:=by exact rfl)
  (hx:opA env x=.osl b 0 l.length k:=by exact rfl)(hy:opA env y=.int .i64 i:=by exact rfl):OpV P o env H (.osl b (0+i.toNat) (l.length-i.toNat) k):=by
 obtain⟨e,a,_,_⟩:=slc0 h;exact QfL E1 E2 d hx (.inr ⟨y,i,rfl,hy,e,rfl⟩) (.inl ⟨rfl,rfl⟩) a (XW _)
theorem Qj1(h:slc l 0 i=some l')(E1:∀w,(underlying T).run P w=.ok (.slice et) w)(E2:∀w,(sizeOf et).run P w=.ok k w)(d:o.op=.slice T x none (some y) none:=by exact rfl)
  (hx:opA env x=.osl b 0 l.length k:=by exact rfl)(hy:opA env y=.int .i64 i:=by exact rfl):OpV P o env H (.osl b 0 l'.length k):=by
 obtain⟨f,a,_,e⟩:=slc0 h;have:=QfL (H:=H) E1 E2 d hx (.inl ⟨rfl,rfl⟩) (.inr ⟨y,i,rfl,hy,f,rfl⟩) (XX _) a;rw[e];simpa using this
theorem Qj5{c:Call}{z:Value}(h:slc l 0 i=some l')(m:P.underlying T=some (.slice et))(g:∀w,(zeroValue et).run P w=.ok z w)(d:z.cells.size=k)(a:∀v∈z.cells,Qs v)(f:o.op=.call c:=by exact rfl)(hc:c={callee:=.builtin .clear,args:= #[x],argTypes:= #[T]}:=by exact rfl)
  (hx:opA env x=.osl b (0+i.toNat) (l.length-i.toNat) k:=by exact rfl)(hH:H[b]?=some (.row t k (l.map e)):=by exact rfl):OpH P o env H (.tup []) (H.set b (.row t k (l'.map e))):=by
 obtain⟨p,n,j,q⟩:=slc0 h;refine Qf2 m g d a ?_ ?_ f hc hx hH
 .rw[Xx, <- j,List.map_take]
 .rw[X4];omega
end
end Go.Sw
namespace Go.Sw
open Go.Sort Go.Proofs Go.Shelf
def ltI(x y:Int):Bool:=decide (x<y)
def sortI(l:List Int):Option (List Int):=bif Nat.ble l.length Qy then some (YD ltI l)else none
theorem QhP{l l':List Int}(h:sortI l=some l'):l.length<=Qy/\YD ltI l=l':=by
 unfold sortI at h;cases e:Nat.ble l.length Qy with
 |false=>rw[e]at h;simp at h
 |true=>rw[e]at h;exact⟨XU e,X2 h⟩
theorem Qae{l l':List Int}(h:sortI l=some l'):l.length=l'.length:=by
 rw[<- (QhP h).2];exact(Qo _ _).length_eq.symm
theorem QcW(l:List Int):Qd9 ltI l:=
 ⟨λx _=>by simp[ltI],λx _ y _ z _ a b=>by simp[ltI]at*;omega,λx _ y _ z _ a b=>by simp[ltI]at*;omega⟩
theorem Qeh(l:List Int):(l.mergeSort λx y=>decide (x<=y))=YD ltI l:=by
 refine Jk (lt:=ltI) ?_ ?_ ?_ (QR (QcW l))
 .exact(List.mergeSort_perm _ _).trans (Qo _ _).symm
 .intro x _ y _ a b;simp[ltI]at*;omega
 .refine(List.pairwise_mergeSort (le:=λx y=>decide (x<=y)) ?_ ?_ l).imp ?_
  .intro a b c;simp;omega
  .intro a b;simp;omega
  .intro a b;simp[ltI]
theorem QkQ{ro:Nat->Prop}{σ:Sig}{w:World}:∀{l:List Int} {lv:List Value},RL ro σ w 1 (l.map λx=>[A.int .i64 x]) lv->∃rest,lv=l.map (Value.int .i64)++rest
 |[],lv,_=>⟨lv,rfl⟩
 |x::l,lv,h=>by
  obtain⟨l1,l2,rfl,h1,⟨h2,h3⟩,h4⟩:=h;obtain⟨rest,rfl⟩:=QkQ (l:=l) h4;obtain⟨v,r,rfl,hv,hr⟩:=h2;cases(show r=[]from hr);exact⟨rest,by rw[show v=.int .i64 x from hv];simp⟩
theorem QfI{ro:Nat->Prop}{σ:Sig}{w:World}:∀(l:List Int) (rest:List Value),RL ro σ w 1 (l.map λx=>[A.int .i64 x]) (l.map (Value.int .i64)++rest)
 |[],_=>trivial
 |x::l,rest=>⟨[.int .i64 x],l.map (Value.int .i64)++rest,by simp,rfl,⟨⟨_,_,rfl,rfl,rfl⟩,by simp[Qs]⟩,QfI l rest⟩
theorem QkY{P:Program}{ρ:Ren}(L:Lays.n189 P ρ){t:Nat}{l l':List Int}(hs:sortI l=some l'):
  C P (ρ.f 189) [.osl 0 0 l.length 1] [.row t 1 (l.map λx=>[A.int .i64 x])] (λa H=>a=.tup []/\H=[.row t 1 (l'.map λx=>[A.int .i64 x])]):=by
 intro fr N σ vals w s hv;obtain⟨vs,r1,rfl,ae,hr⟩:=hv;cases(show r1=[]from hr);obtain⟨Q,ab⟩:=QhP hs;have d:∀(ad:Option Addr) (c:Nat),vs=.slice ad 0 c->l=[]->
   Calls P (ρ.f 189) [vs].toArray w λe T=>∃v r H' ro' τ,e=.returned v/\(r=.tup []/\H'=[.row t 1 (l'.map λx=>[A.int .i64 x])])/\Sim fr ro' (σ++τ) H' T/\VR ro' (σ++τ) T r v/\Qh fr N w ro' T:=by
  rintro ad c rfl rfl;have F:l'=[]:=by rw[<- ab];rfl
  subst F;refine(Any.slices_Sort_int_none L ad c w).mono ?_;rintro e T ⟨rfl,rfl⟩;exact⟨_,_,_,N,[],rfl,⟨rfl,rfl⟩,by simpa using s,⟨[],rfl,rfl⟩,Qh.refl _ _ _⟩
 rcases ae with⟨h0,rfl⟩|⟨b,p,cp,t',m,q1,rfl,q2,q3,q4,q5⟩
 .exact d none 0 rfl (VL.1 h0)
 .by_cases F:l=[]
  .subst F;exact d _ cp rfl rfl
  .have ah:0<l.length:=List.length_pos_iff.2 F;obtain rfl:=q2 (Vh ah q3);obtain⟨lv,e1,e2⟩:=s.blk 0 _ _ q1 rfl;obtain⟨hb,Y,aa⟩:=s.own 0 b _ q1 rfl rfl;obtain⟨u,rfl⟩:=QkQ e2;have hH:Holds (Value.int .i64) w b 0 l.toArray:=by
    intro j hj;simp only[List.size_toArray]at hj;constructor
    .unfold World.cell?;simp only[e1,Option.isSome_none,Xi,if_false,Xx];rw[Qac,XP (by simpa using hj)];simp[hj]
    .unfold World.frozen?;simp only[e1];simp
   have z:=Any.slices_Sort_int L b 0 cp l w hH hb (by unfold Qy at Q;omega);rw[Qeh,ab]at z;simp only[Nat.zero_mul]at z⊢;refine z.mono ?_;rintro e T ⟨rfl,n,os,rfl⟩;have E:l.length=l'.length:=Qae hs;generalize hW:grow (putRow (Value.int .i64) (Sort.ahead w n) b 0 l'.toArray) os=W;have g:W.heap=w.heap.setIfInBounds b (.cells ((l'.map (Value.int .i64)++u)).toArray t (0,0))++os:=by
    rw[<- hW];show(w.heap.modify b _)++os=_;rw[Qbg e1];simp only[onCells];congr 3;unfold putCells;apply Array.ext_getElem?;intro i;simp only[Array.getElem?_mapIdx,Qac,XX,true_and,Xx,Xw,List.size_toArray];by_cases hi:i<l'.length
    .rw[XP (by simpa[E]using hi),XP (by simpa using hi)];simp[hi,E]
    .rw[XQ (by simp;omega),XQ (by simp;omega)];simp only[X4,E];cases(u[i-l'.length]?)with
     |none=>rfl
     |some v=>exact congrArg some (Vu hi)
   have g1:∀c,c<w.heap.size->c≠b->W.heap[c]?=w.heap[c]? :=by
    intro c k af;rw[g,Array.getElem?_append_left (by simpa using k),Vg,Vu (λq=>af q.symm)]
   have g2:W.heap[b]?=some (.cells ((l'.map (Value.int .i64)++u)).toArray t (0,0)):=by
    rw[g,Array.getElem?_append_left (by simpa using hb),Vg,Vv rfl,Vv hb]
   have g3:w.heap.size<=W.heap.size:=by rw[g];simp
   have B:∀c y,w.shape? c=some y->W.shape? c=some y:=by
    intro c y G;by_cases k:c=b
    .subst k;unfold World.shape? at G⊢;rw[e1]at G;rw[g2];simp only[Option.some.injEq]at G⊢;rw[<- G];simp[E]
    .unfold World.shape? at G⊢;rw[g1 c (QbN G) k];exact G
   have ac:W.os=w.os:=by rw[<- hW];rfl
   have ag:W.tape=w.tape:=by rw[<- hW];rfl
   have ai:W.output=w.output:=by rw[<- hW];rfl
   have aj:w.drawn<=W.drawn:=by rw[<- hW];exact Nat.le_add_right _ _
   have V:Qh fr N w N W:=
    ⟨λ_ q=>q,λc k=>g1 c (s.roLt c k) (λq=>Y (q▸k)),λc k=>g1 c (s.frLt c k) (λq=>aa (q▸k)),g3,B,ac,ag,ai,aj⟩
   have J:σ.length=1:=s.len;have R:Sim fr N σ [.row t 1 (l'.map λx=>[A.int .i64 x])] W:=by
    have X:∀{i:Nat} {x:Blk},([.row t 1 (l'.map λx=>[A.int .i64 x])]:Qd)[i]?=some x->i=0/\x=.row t 1 (l'.map λx=>[A.int .i64 x]):=by
     intro i x h;cases i with
     |zero=>simp at h;exact⟨rfl,h.symm⟩
     |succ i=>simp at h
    refine⟨J,s.roOk.to (λ_ q=>q) V.keepRo (λc k=>Vh (s.roLt c k) g3),λc k=>Vh (s.frLt c k) g3,s.roFr,λi c x M O h3=>?_,λi j c x y M O h3 h4 _ _=>?_,λi y x M O=>?_,λi b x c M O h3=>by obtain⟨rfl,rfl⟩:=X O;exact h3.elim⟩
    .obtain⟨rfl,rfl⟩:=X O;obtain⟨p1,p2⟩:=s.own 0 c _ M rfl rfl;exact⟨Vh p1 g3,p2⟩
    .rw[(X h3).1,(X h4).1]
    .obtain⟨rfl,rfl⟩:=X O;rw[q1]at M;cases M;exact⟨_,g2,QfI l' u⟩
   exact⟨_,_,_,N,[],rfl,⟨rfl,rfl⟩,by simpa using R,⟨[],rfl,rfl⟩,V⟩
def QaR(p:Int):List Int->List Int
 |[]=>[]
 |y::l=>bif y==p then QaR p l else y::QaR y l
def QiH:List Int->List Int
 |[]=>[]
 |x::l=>x::QaR x l
section
variable {P:Program} {o:Oper} {env:Env} {H:Qd} {α:Type} {e:α->List A} {T et k b t:Nat} {x y:Operand}
theorem Qcf{lo hi:Option Operand}{l r:List α}{a c:Int}(h:slc l a c=some r)(E1:∀w,(underlying T).run P w=.ok (.slice et) w)(E2:∀w,(sizeOf et).run P w=.ok k w)
  (f:lo=none/\a=0\/ ∃y,lo=some y/\opA env y=.int .i64 a)(g:hi=none/\c=l.length\/ ∃y,hi=some y/\opA env y=.int .i64 c)
  (i:o.op=.slice T x lo hi none:=by exact rfl)(hx:opA env x=.osl b 0 l.length k:=by exact rfl):OpV P o env H (.osl b (0+a.toNat) (c.toNat-a.toNat) k):=by
 obtain⟨j,n,m,_⟩:=Qdq h;refine QfL (l:=a.toNat) (h:=c.toNat) E1 E2 i hx ?_ ?_ (by omega) (by omega)
 .rcases f with⟨e,d⟩|⟨y,e,d⟩
  .exact .inl ⟨e,by rw[d];rfl⟩
  .exact .inr ⟨y,a,e,d,j,rfl⟩
 .rcases g with⟨e,d⟩|⟨y,e,d⟩
  .exact .inl ⟨e,by rw[d];simp⟩
  .exact .inr ⟨y,c,e,d,by omega,rfl⟩
end
end Go.Sw
namespace Go.Sw
inductive Bx where
 |mk (a:A)
def lkB:Env->Nat->Bx
 |[],_=>.mk .any
 |(d,a)::r,s=>bif Nat.beq s d then .mk a else lkB r s
theorem Qjq:∀{env:Env} {s:Nat} {a:A},lkB env s=.mk a->lk env s=a
 |[],s,a,h=>by cases h;rfl
 |(d,b)::r,s,a,h=>by
  unfold lkB at h;unfold lk;cases q:Nat.beq s d with
  |true=>rw[q]at h;cases h;rfl
  |false=>rw[q]at h;exact Qjq h
inductive FBy where
 |mk (l:List UInt8)
def fby:List UInt8->FBy
 |[]=>.mk []
 |a::r=>match fby r with
  |.mk r'=>.mk (a::r')
theorem Qm5:∀l:List UInt8,fby l=.mk l
 |[]=>rfl
 |a::r=>by unfold fby;rw[Qm5 r]
def opB(env:Env):Operand->Bx
 |.tmp t=>lkB env t
 |.const (.bool b)=>.mk (.bool b)
 |.const (.int k n)=>.mk (.int k n)
 |.const (.string s)=>match fby s.data.toList with
  |.mk l=>.mk (.str l)
 |.const (.pointer none)=>.mk .nilp
 |.const (.slice none 0 0)=>.mk .nils
 |.const (.map none)=>.mk .nilm
 |.const .nilFunc=>.mk .nilf
 |.const .nilIface=>.mk .nilif
 |.func f=>.mk (.fn (.func f) [] [])
 |_=>.mk .any
theorem QE{env:Env}{x:Operand}{a:A}(h:opB env x=.mk a):opA env x=a:=by
 cases x with
 |tmp t=>exact Qjq h
 |const v=>
  cases v with
  |slice b n k=>cases b with
   |none=>cases n with
    |zero=>cases k<;>(cases h;rfl)
    |succ n=>cases h;rfl
   |some b=>cases h;rfl
  |pointer p=>cases p<;>(cases h;rfl)
  |map p=>cases p<;>(cases h;rfl)
  |string s=>
   have d:(match fby s.data.toList with|.mk l=>Bx.mk (.str l))=.mk a:=h;rw[Qm5]at d;cases d;rfl
  |_=>cases h;rfl
 |global g=>cases h;rfl
 |func f=>cases h;rfl
def YU{α:Type}:List α->Nat->Option α
 |[],_=>none
 |a::_,0=>some a
 |_::r,n+1=>YU r n
theorem QaG{α:Type}:∀(l:List α) (n:Nat),YU l n=l[n]?
 |[],n=>by simp[YU]
 |a::r,0=>rfl
 |a::r,n+1=>by simp[YU,QaG r n]
def arB:BinOp->IntKind->Int->Int->Option A
 |.add,k,m,n=>some (.int k (k.wrap (m+n)))
 |.sub,k,m,n=>some (.int k (k.wrap (m-n)))
 |.mul,k,m,n=>some (.int k (k.wrap (m*n)))
 |.eql,_,m,n=>some (.bool (m==n))
 |.neq,_,m,n=>some (.bool (m != n))
 |.lss,_,m,n=>some (.bool (decide (m<n)))
 |.leq,_,m,n=>some (.bool (decide (m<=n)))
 |.gtr,_,m,n=>some (.bool (decide (n<m)))
 |.geq,_,m,n=>some (.bool (decide (n<=m)))
 |_,_,_,_=>none
def srB:BinOp->List UInt8->List UInt8->Option A
 |.eql,p,q=>some (.bool (p==q))
 |.neq,p,q=>some (.bool (p != q))
 |.lss,p,q=>some (.bool (Op.bytesLess p q))
 |_,_,_=>none
def biB(b:BinOp):Bx->Bx->Option A
 |.mk (.int k m),.mk (.int k' n)=>if k=k' then arB b k m n else none
 |.mk (.str p),.mk (.str q)=>srB b p q
 |_,_=>none
def unB:UnOp->Bx->Option A
 |.not,.mk (.bool b)=>some (.bool !b)
 |.neg,.mk (.int k n)=>some (.int k (k.wrap (0-n)))
 |_,_=>none
def exB:Bx->Nat->Option A
 |.mk (.tup vs),i=>YU vs i
 |_,_=>none
def nlB:Bx->Option A
 |.mk (.ptr i j)=>some (.ptr i j)
 |.mk (.rp cs)=>some (.rp cs)
 |_=>none
def piB:Bx->Bx->Bx->Option A
 |.mk (.bool true),.mk a,_=>some a
 |.mk (.bool false),_,.mk a=>some a
 |_,_,_=>none
def svB(env:Env):Op->Option A
 |.move x=>match opB env x with|.mk a=>some a
 |.assign x=>match opB env x with|.mk a=>some a
 |.nilCheck x=>nlB (opB env x)
 |.extract x i=>exB (opB env x) i
 |.unOp u _ x=>unB u (opB env x)
 |.pick c x y=>piB (opB env c) (opB env x) (opB env y)
 |.binOp b _ x y _=>biB b (opB env x) (opB env y)
 |_=>none
def pr(d:Nat):Option A->Option (Nat×A)
 |some a=>some (d,a)
 |none=>none
def stB(o:Oper)(env:Env):Option (Nat×A):=
 match o.dst with
 |some d=>pr d (svB env o.op)
 |none=>none
section
variable {P:Program} {h0 N:Nat} {all:Array Oper} {o:Oper} {l:List Oper} {env:Env} {H H':Qd} {Q:QB} {d:Nat} {x:A}
theorem QbL{p:Op}(d:o.op=p)(h:svB env p=some x):OpV P o env H x:=by
 unfold svB at h;split at h
 .rename_i y;cases q:opB env y with|mk a=>rw[q]at h;cases h;exact OpV.move d (QE q)
 .rename_i y;cases q:opB env y with|mk a=>rw[q]at h;cases h;exact OpV.assign d (QE q)
 .rename_i y;unfold nlB at h;split at h
  .rename_i i j q;cases h;exact Yx d (QE q) rfl
  .rename_i w q;cases h;exact Yx d (QE q) rfl
  .cases h
 .rename_i y i;unfold exB at h;split at h
  .rename_i vs _ q;rw[QaG]at h;exact OpV.extract d (QE q) h
  .cases h
 .rename_i u t y;unfold unB at h;split at h
  .rename_i b q;cases h;exact OpV.not d (QE q)
  .rename_i k n q;cases h;exact OpV.neg d (QE q)
  .cases h
 .rename_i c y z;unfold piB at h;split at h
  .rename_i a _ r l;cases h;exact OpV.pick d (QE r) (by rw[Vv rfl];exact QE l)
  .rename_i a r l;cases h;exact OpV.pick d (QE r) (by rw[Vu (by decide)];exact QE l)
  .cases h
 .rename_i b t y z u;unfold biB at h;split at h
  .rename_i k m s n r l;split at h
   .rename_i e;subst e;have g:=QE r;have f:=QE l;unfold arB at h;split at h
    .cases h;exact OpV.add d g f
    .cases h;exact OpV.sub d g f
    .cases h;exact OpV.mul d g f
    .cases h;exact OpV.eql d g f
    .cases h;exact OpV.neq d g f
    .cases h;exact OpV.lss d g f
    .cases h;exact OpV.leq d g f
    .cases h;exact OpV.gtr d g f
    .cases h;exact OpV.geq d g f
    .cases h
   .cases h
  .rename_i p q r l;have g:=QE r;have f:=QE l;unfold srB at h;split at h
   .cases h;exact QdL d g f
   .cases h;exact QlF d g f
   .cases h;exact QlG d g f
   .cases h
  .cases h
 .cases h
theorem Qg0(h:stB o env=some (d,x)):o.dst=some d/\OpV P o env H x:=by
 unfold stB at h;split at h
 .rename_i b q;cases e:svB env o.op with
  |none=>rw[e]at h;cases h
  |some a=>rw[e]at h;cases h;exact⟨q,QbL rfl e⟩
 .cases h
theorem S(e:stB o env=some (d,x))(k:WO P h0 N all l (up env d x) H Q)(hg:Qq all o env true:=by exact rfl)(hN:Nat.blt d N=true:=by exact rfl):WO P h0 N all (o::l) env H Q:=
 QF hg (Qg0 (P:=P) (H:=H) e).1 hN (Qg0 e).2 k
theorem Sg(hg:Qq all o env true)(e:stB o env=some (d,x))(k:WO P h0 N all l (up env d x) H Q)(a:Nat.blt d N=true:=by exact rfl):WO P h0 N all (o::l) env H Q:=
 QF hg (Qg0 (P:=P) (H:=H) e).1 a (Qg0 e).2 k
theorem K(hg:Qq all o env false)(b:o.dst=some d)(k:WO P h0 N all l (up env d (.tup [])) H Q)(a:Nat.blt d N=true:=by exact rfl):WO P h0 N all (o::l) env H Q:=
 WO.skip hg b a k
theorem KF{j s:Nat}{c y:Bool}(e:y= !c)(b:o.dst=some d)(k:WO P h0 N all l (up env d (.tup [])) H Q)(a:Nat.blt d N=true:=by exact rfl)(hg:o.guard=some (j,c):=by exact rfl)(hs:(all[j]?).bind (·.dst)=some s:=by exact rfl)(hl:lk env s=.bool y:=by exact rfl):WO P h0 N all (o::l) env H Q:=
 WO.skip (gF e hg hs hl) b a k
def p2B(v:Bool):Bx->Bx->Bx->Option (Bool×A)
 |.mk (.bool b),.mk a,.mk a'=>match v with|true=>some (b,a)|false=>some (b,a')
 |_,_,_=>none
def pr2(d:Nat):Option (Bool×A)->Option (Nat×Bool×A)
 |some a=>some (d,a)
 |none=>none
def pkB(v:Bool)(o:Oper)(env:Env):Option (Nat×Bool×A):=
 match o.dst,o.op with
 |some d,.pick c x y=>pr2 d (p2B v (opB env c) (opB env x) (opB env y))
 |_,_=>none
theorem QpD{v b:Bool}{p q r:Bx}(h:p2B v p q r=some (b,x)):∃a a',p=.mk (.bool b)/\q=.mk a/\r=.mk a'/\(bif v then a else a')=x:=by
 obtain⟨p⟩:=p;obtain⟨q⟩:=q;obtain⟨r⟩:=r;cases p<;>first|(cases h;done)|skip
 cases v<;>cases h<;>exact⟨_,_,rfl,rfl,rfl,rfl⟩
theorem QmB{v b:Bool}(h:pkB v o env=some (d,b,x))(f:b=v):o.dst=some d/\OpV P o env H x:=by
 unfold pkB at h;split at h
 .rename_i p c y z l j;cases e:p2B v (opB env c) (opB env y) (opB env z)with
  |none=>rw[e]at h;cases h
  |some s=>
   rw[e]at h;cases h;obtain⟨a,n,g,k,m,i⟩:=QpD e;refine⟨l,OpV.pick j (QE g) ?_⟩;rw[QE k,QE m,f];cases v<;>exact i
 .cases h
theorem Pk{v b:Bool}(a:b=v)(e:pkB v o env=some (d,b,x))(k:WO P h0 N all l (up env d x) H Q)(hg:Qq all o env true:=by exact rfl)(hN:Nat.blt d N=true:=by exact rfl):WO P h0 N all (o::l) env H Q:=
 QF hg (QmB (P:=P) (H:=H) e a).1 hN (QmB e a).2 k
def fpB(o:Oper)(env:Env):Option (Nat×Nat×Nat×Nat×Nat):=
 match o.dst,o.op with
 |some d,.fieldAddr T x f=>match opB env x with
  |.mk (.ptr i p)=>some (d,T,f,i,p)
  |_=>none
 |_,_=>none
theorem Qhi{T f off n i p:Nat}(a:QM P T f off n)(h:fpB o env=some (d,T,f,i,p)):o.dst=some d/\OpV P o env H (.ptr i (p+off)):=by
 unfold fpB at h;split at h
 .rename_i e g;split at h
  .rename_i b;cases h;exact⟨e,Yr a g (QE b)⟩
  .cases h
 .cases h
theorem Fp{T f off n i p:Nat}(a:QM P T f off n)(e:fpB o env=some (d,T,f,i,p))(k:WO P h0 N all l (up env d (.ptr i (p+off))) H Q)(hg:Qq all o env true:=by exact rfl)(hN:Nat.blt d N=true:=by exact rfl):WO P h0 N all (o::l) env H Q:=
 QF hg (Qhi (H:=H) a e).1 hN (Qhi a e).2 k
theorem Fpg{T f off n i p:Nat}(hg:Qq all o env true)(a:QM P T f off n)(e:fpB o env=some (d,T,f,i,p))(k:WO P h0 N all l (up env d (.ptr i (p+off))) H Q)(b:Nat.blt d N=true:=by exact rfl):WO P h0 N all (o::l) env H Q:=
 QF hg (Qhi (H:=H) a e).1 b (Qhi a e).2 k
inductive Lx where
 |mk (l:List A)
def Qfz:Nat->List A->Lx
 |0,l=>.mk l
 |n+1,_::r=>Qfz n r
 |_+1,[]=>.mk []
theorem Qc8:∀{n:Nat} {l r:List A},Qfz n l=.mk r->l.drop n=r
 |0,l,r,h=>by cases h;rfl
 |n+1,a::l,r,h=>by rw[List.drop_succ_cons];exact Qc8 h
 |n+1,[],r,h=>by cases h;rfl
def frB(off:Nat)(o:Oper)(env:Env):Option (Nat×Nat×Nat×List A):=
 match o.dst,o.op with
 |some d,.fieldAddr T x f=>match opB env x with
  |.mk (.rp cs)=>match Qfz off cs with
   |.mk r=>some (d,T,f,r)
  |_=>none
 |_,_=>none
theorem Qhh{T f off n:Nat}{r:List A}(e:QM P T f off n)(h:frB off o env=some (d,T,f,r)):o.dst=some d/\OpV P o env H (.rp r):=by
 unfold frB at h;split at h
 .rename_i j g;split at h
  .rename_i i b;cases a:Qfz off i with|mk r'=>rw[a]at h;cases h;exact⟨j,Qw e g (QE b) (Qc8 a)⟩
  .cases h
 .cases h
theorem Fr{T f off n:Nat}{r:List A}(a:QM P T f off n)(e:frB off o env=some (d,T,f,r))(k:WO P h0 N all l (up env d (.rp r)) H Q)(hg:Qq all o env true:=by exact rfl)(hN:Nat.blt d N=true:=by exact rfl):WO P h0 N all (o::l) env H Q:=
 QF hg (Qhh (H:=H) a e).1 hN (Qhh a e).2 k
theorem Frg{T f off n:Nat}{r:List A}(hg:Qq all o env true)(a:QM P T f off n)(e:frB off o env=some (d,T,f,r))(k:WO P h0 N all l (up env d (.rp r)) H Q)(b:Nat.blt d N=true:=by exact rfl):WO P h0 N all (o::l) env H Q:=
 QF hg (Qhh (H:=H) a e).1 b (Qhh a e).2 k
def ctB:Option Blk->Nat->Option A
 |some (.cells _ cs),off=>YU cs off
 |_,_=>none
def lvB(H:Qd):Bx->Option A
 |.mk (.ptr i off)=>ctB (YU H i) off
 |.mk (.rp (a::_))=>some a
 |_=>none
def pr3(d t:Nat):Option A->Option (Nat×Nat×A)
 |some a=>some (d,t,a)
 |none=>none
def ldB(o:Oper)(env:Env)(H:Qd):Option (Nat×Nat×A):=
 match o.dst,o.op with
 |some d,.load t x=>pr3 d t (lvB H (opB env x))
 |_,_=>none
theorem Qhd{t:Nat}(k:∀w,(isAgg t).run P w=.ok false w)(h:ldB o env H=some (d,t,x)):o.dst=some d/\OpV P o env H x:=by
 unfold ldB at h;split at h
 .rename_i s q y n l;cases e:lvB H (opB env y)with
  |none=>rw[e]at h;cases h
  |some a=>
   rw[e]at h;cases h;refine⟨n,?_⟩;unfold lvB at e;split at e
   .rename_i i b g;unfold ctB at e;split at e
    .rename_i b p T0 T cs q4;rw[QaG]at e q4;obtain⟨f,m⟩:∃f,cs.drop b=x::f:=by
      have j:=(XO.1 e).1;refine⟨cs.drop (b+1),?_⟩;rw[Xq j,(XO.1 e).2]
     exact OpV.load l k (QE g) (Pts.cells q4 m)
    .cases e
   .rename_i a r g;cases e;exact OpV.load l k (QE g) Pts.rp
   .cases e
 .cases h
theorem Ld{t:Nat}(a:∀w,(isAgg t).run P w=.ok false w)(e:ldB o env H=some (d,t,x))(k:WO P h0 N all l (up env d x) H Q)(hg:Qq all o env true:=by exact rfl)(hN:Nat.blt d N=true:=by exact rfl):WO P h0 N all (o::l) env H Q:=
 QF hg (Qhd a e).1 hN (Qhd a e).2 k
theorem Ldg{t:Nat}(hg:Qq all o env true)(a:∀w,(isAgg t).run P w=.ok false w)(e:ldB o env H=some (d,t,x))(k:WO P h0 N all l (up env d x) H Q)(b:Nat.blt d N=true:=by exact rfl):WO P h0 N all (o::l) env H Q:=
 QF hg (Qhd a e).1 b (Qhd a e).2 k
def ixB(o:Oper)(env:Env):Option (Nat×Nat×Nat×List (List A)×IntKind×Int):=
 match o.dst,o.op with
 |some d,.indexAddr t x y=>match opB env x,opB env y with
  |.mk (.rsl k es),.mk (.int kk i)=>some (d,t,k,es,kk,i)
  |_,_=>none
 |_,_=>none
theorem Ix{α:Type}{e:α->List A}{t et k:Nat}{L:List α}{n:IntKind}{i:Int}{v:α}(h:idx L i=some v)(m:∀w,(underlying t).run P w=.ok (.slice et) w)(a:∀w,(sizeOf et).run P w=.ok k w)
  (q:ixB o env=some (d,t,k,L.map e,n,i))(k:WO P h0 N all l (up env d (.rp (e v))) H Q)(hg:Qq all o env true:=by exact rfl)(hN:Nat.blt d N=true:=by exact rfl):WO P h0 N all (o::l) env H Q:=by
 unfold ixB at q;split at q
 .rename_i p j;split at q
  .rename_i b g;simp only[Option.some.injEq,Prod.mk.injEq]at q;obtain⟨rfl,rfl,rfl,f,rfl,rfl⟩:=q;exact QF hg p hN (QkS h m a j (by rw[QE b,f]) (QE g)) k
  .cases q
 .cases q
def lnB(o:Oper)(env:Env):Option (Nat×Nat×Bx):=
 match o.dst,o.op with
 |some d,.call c=>match c with
  |{callee:=.builtin .len,args:=⟨[x]⟩,argTypes:=⟨[t]⟩}=>some (d,t,opB env x)
  |_=>none
 |_,_=>none
theorem QpJ{t:Nat}{b:Bx}(q:lnB o env=some (d,t,b)):∃x,o.dst=some d/\o.op=.call {callee:=.builtin .len,args:= #[x],argTypes:= #[t]}/\opB env x=b:=by
 unfold lnB at q;split at q
 .rename_i a e;split at q
  .cases q;exact⟨_,a,e,rfl⟩
  .cases q
 .cases q
theorem LnM{α:Type}{e:α->List A}{t et k:Nat}{L:List α}(a:∀w,(underlying t).run P w=.ok (.slice et) w)(q:lnB o env=some (d,t,.mk (.rsl k (L.map e))))
  (k:WO P h0 N all l (up env d (.int .i64 L.length)) H Q)(hg:Qq all o env true:=by exact rfl)(hN:Nat.blt d N=true:=by exact rfl):WO P h0 N all (o::l) env H Q:=by
 obtain⟨x,f,g,b⟩:=QpJ q;exact QF hg f hN (QiY a g rfl (QE b)) k
end
section
variable {P:Program} {h0 N:Nat} {all:Array Oper} {env env':Env} {H H':Qd} {Q:QB} {c c':Code}
theorem Nx(h:TC P h0 N c env H Q):WO P h0 N all [] env H (Seq P h0 N c Q):=WO.nil (Qmh h)
theorem Rg{id:Nat}{l:List Oper}(h:WO P h0 N l.toArray l env H (Seq P h0 N c Q)):TC P h0 N (.seq (.region id l.toArray false) c) env H Q:=TC.seq (TC.region h)
theorem SkN(h:TC P h0 N c env H Q):TC P h0 N .skip env H (Seq P h0 N c Q):=TC.skip (Qmh h)
theorem ExX{id:Nat}(h:Q (.exit id) env H):TC P h0 N (.exit id) env H (Seq P h0 N c Q):=TC.exit (seqX h)
theorem Oi{α:Type}{x y:α}(h:some x=some y):x=y:=X2 h
theorem Bd{α β:Type}{x:Option α}{f:α->Option β}{r:β}{G:Prop}(h:x.bind f=some r)(k:∀a,x=some a->f a=some r->G):G:=by
 obtain⟨a,d,b⟩:=Jq h;exact k a d b
theorem If{α:Type}{c:Bool}{x y:Option α}{r:α}{G:Prop}(h:(bif c then x else y)=some r)(t:c=true->x=some r->G)(e:c=false->y=some r->G):G:=by
 cases c with
 |true=>exact t rfl h
 |false=>exact e rfl h
theorem Cn{α:Type}{x:Operand}{t:Bool}{p q:Option α}{r:α}(hx:opB env x=.mk (.bool t))(h:(bif t then p else q)=some r)(ht:t=true->p=some r->TC P h0 N c env H Q)(hf:t=false->q=some r->TC P h0 N c' env H Q):TC P h0 N (.cond x c c') env H Q:=
 TC.cond (QE hx) (λe=>ht e (ifT e h)) (λe=>hf e (ifF e h))
theorem Y8{α:Type}{x:Operand}{t:Bool}{p q:Option α}{r:α}(hx:opB env x=.mk (.bool t))(h:(bif t then p else q)=some r)(hf:t=false->q=some r->TC P h0 N c' env H Q)(ht:t=true->p=some r->TC P h0 N c env H Q):TC P h0 N (.cond x c c') env H Q:=
 TC.cond (QE hx) (λe=>ht e (ifT e h)) (λe=>hf e (ifF e h))
theorem CnF{x:Operand}{t:Bool}(h:t=false)(hx:opB env x=.mk (.bool t))(hf:TC P h0 N c' env H Q):TC P h0 N (.cond x c c') env H Q:=QfE (QE hx) h hf
theorem Lr(π:List Nat)(a:π.take h0=List.range h0:=by exact rfl)(hH:π.map (λp=>H[p]?)=(H'.map (QV (rho π H.length))).map some:=by exact rfl)(hπ:π.Nodup:=by decide)
  (hE:Qec (rho π H.length) env env':=by(repeat' (first|exact trivial|refine⟨rfl,?_⟩))):Le h0 env H env' H':=QnS π a hH hπ hE
end
end Go.Sw
namespace Go.Sw
def Ev{α:Type}(f:Nat->Option α)(v:α):Prop:=∃N,∀n,N<=n->f n=some v
section
variable {α β:Type} {f g:Nat->Option α} {v w:α}
theorem Qa(v:α):Ev (λ_=>some v) v:=⟨0,λ_ _=>rfl⟩
theorem Ev.const{o:Option α}(h:o=some v):Ev (λ_=>o) v:=⟨0,λ_ _=>h⟩
theorem Ev.bind{k:Nat->α->Option β}{b:β}(h:Ev f v)(a:Ev (λn=>k n v) b):Ev (λn=>(f n).bind (k n)) b:=by
 obtain⟨N,h⟩:=h;obtain⟨M,a⟩:=a;exact⟨max N M,λn d=>by show(f n).bind (k n)=some b;rw[h n (by omega),XM];exact a n (by omega)⟩
theorem QaW{o:Option α}{k:Nat->α->Option β}{b:β}(h:o=some v)(hk:Ev (λn=>k n v) b):Ev (λn=>o.bind (k n)) b:=Ev.bind (Ev.const h) hk
theorem Qb4{c:Bool}(a:c=true->Ev f v)(b:c=false->Ev g w):Ev (λn=>bif c then f n else g n) (bif c then v else w):=by
 cases c with
 |true=>exact a rfl
 |false=>exact b rfl
theorem QfR(h:Ev f v):Ev (λn=>bif true then f n else g n) v:=h
theorem JC(h:Ev g v):Ev (λn=>bif false then f n else g n) v:=h
theorem Ev.and{c d:Bool}{h:Nat->Option Bool}(a:c=true->Ev h d):Ev (λn=>bif c then h n else some false) (c&&d):=by
 cases c with
 |true=>exact a rfl
 |false=>exact Qa _
theorem Ev.or{c d:Bool}{h:Nat->Option Bool}(a:c=false->Ev h d):Ev (λn=>bif c then some true else h n) (c||d):=by
 cases c with
 |true=>exact Qa _
 |false=>exact a rfl
theorem Ev.eq(h:Ev f v)(e:v=w):Ev f w:=e▸h
theorem Ev.congr(h:Ev f v)(e:∀n,g n=f n):Ev g v:=by
 obtain⟨N,h⟩:=h;exact⟨N,λn a=>by rw[e];exact h n a⟩
theorem Jg(h:Ev (λn=>f (n+1)) v):Ev f v:=by
 obtain⟨N,h⟩:=h;refine⟨N+1,λn a=>?_⟩;obtain⟨m,rfl⟩:∃m,n=m+1:=⟨n-1,by omega⟩;exact h m (by omega)
theorem Ev.ex(h:Ev f v):∃n,f n=some v:=let⟨N,h⟩:=h;⟨N,h N (XW _)⟩
theorem Ev.all{k:Nat}{F:Nat->Nat->Option α}{V:Nat->α}(h:∀i,i<k->Ev (F i) (V i)):∃N,∀n,N<=n->∀i,i<k->F i n=some (V i):=by
 induction k with
 |zero=>exact⟨0,λn _ i a=>absurd a (Xm _)⟩
 |succ k e=>
  obtain⟨N,b⟩:=e λi a=>h i (by omega);obtain⟨M,d⟩:=h k (by omega);refine⟨max N M,λn f i a=>?_⟩;rcases Xo.1 a with q|rfl
  .exact b n (by omega) i q
  .exact d n (by omega)
end
section
variable {S B α:Type} {step:Nat->S->Option (Ctl S B)}
theorem Ev.iter{s0:S}(a:Nat->S)(k:Nat){b:B}(h0:a 0=s0)(g:∀i,i<k->Ev (λn=>step n (a i)) (.cont (a (i+1))))(h:Ev (λn=>step n (a k)) (.done b)):
  Ev (λn=>Go.Sw.iter (step n) n s0) b:=by
 obtain⟨N,d⟩:=Ev.all g;obtain⟨M,e⟩:=h;exact⟨max (max N M) (k+1),λn j=>QmT s0 a b k h0 (λi f=>d n (by omega) i f) (e n (by omega)) n (by omega)⟩
theorem Qch{step:S->Option (Ctl S B)}{s:S}{b:B}(m:Nat)(h:Go.Sw.iter step m s=some b):Ev (λn=>Go.Sw.iter step n s) b:=by
 have mono:∀m s,Go.Sw.iter step m s=some b->∀n,m<=n->Go.Sw.iter step n s=some b:=by
  intro m
  induction m with
  |zero=>intro s h;cases h
  |succ m g=>
   intro s h n d;obtain⟨a,rfl⟩:∃a,n=a+1:=⟨n-1,by omega⟩;simp only[Go.Sw.iter]at h⊢;cases e:step s with
   |none=>rw[e]at h;cases h
   |some c=>
    rw[e]at h;cases c with
    |cont f=>exact g f h a (by omega)
    |done i=>exact h
 exact⟨m,λn d=>mono m s h n d⟩
structure At (l:List α) (i:Nat) (x:α):Prop where
 get:l[i]?=some x
 lt:decide ((i:Int)<(l.length:Int))=true
 ix:idx l (i:Int)=some x
 nx:IntKind.i64.wrap ((i:Int)+1)=((i+1:Nat):Int)
theorem JD{l:List α}{i:Nat}{x:α}(hl:l.length<=4611686018427387904)(h:l[i]?=some x):At l i x:=by
 have a:=(XO.1 h).1;exact⟨h,Vw (by omega),YZ h,YW (by omega)⟩
theorem At.mem{l:List α}{i:Nat}{x:α}(h:At l i x):x∈l:=VJ h.get
theorem At.lt'{l:List α}{i:Nat}{x:α}(h:At l i x):i<l.length:=(XO.1 h.get).1
theorem At.take{l:List α}{i:Nat}{x:α}(h:At l i x):l.take (i+1)=l.take i++[x]:=by
 rw[List.take_add_one,h.get];rfl
theorem Qbj(l:List α):decide ((l.length:Int)<(l.length:Int))=false:=Vz (by omega)
theorem Qa5{s0:S}(l:List α)(q:α->Bool)(d:Nat->S)(t b:B)(hl:l.length<=4611686018427387904)(h0:d 0=s0)
  (s:∀i x,At l i x->q x=false->Ev (λn=>step n (d i)) (.cont (d (i+1))))
  (f:∀i x,At l i x->q x=true->Ev (λn=>step n (d i)) (.done t))
  (H:Ev (λn=>step n (d l.length)) (.done b)):Ev (λn=>Go.Sw.iter (step n) n s0) (bif l.any q then t else b):=by
 have r:∀k,k<=l.length->(∀i x,l[i]?=some x->i<k->q x=false)\/ ∃i x,l[i]?=some x/\i<k/\q x=true/\ ∀j y,l[j]?=some y->j<i->q y=false:=by
  intro k
  induction k with
  |zero=>intro _;exact .inl λi x _ a=>absurd a (Xm _)
  |succ k F=>
   intro J;rcases F (by omega)with h|⟨i,x,m,w,p⟩
   .have u:l[k]?=some l[k]:=XN (by omega);cases e:q l[k]with
    |true=>exact .inr ⟨k,_,u,Xn _,e,h⟩
    |false=>
     refine .inl λi x f a=>?_;rcases Xo.1 a with z|rfl
     .exact h i x f z
     .rw[u]at f;cases f;exact e
   .exact .inr ⟨i,x,m,by omega,p⟩
 rcases r l.length (XW _)with h|⟨i,x,m,w,p,E⟩
 .have:l.any q=false:=by
   rw[VO];intro e;obtain⟨x,f,e⟩:=Xu.1 e;obtain⟨i,a,rfl⟩:=List.getElem_of_mem f;rw[h i _ (XN a) a]at e;cases e
  rw[this];exact Ev.iter d l.length h0 (λi a=>s i _ (JD hl (XN a)) (h i _ (XN a) a)) H
 .have:l.any q=true:=Xu.2 ⟨x,VJ m,p⟩;rw[this];refine Ev.iter d i h0 (λj G=>?_) (f i x (JD hl m) p);have g:l[j]?=some l[j]:=XN (by omega);exact s j _ (JD hl g) (E j _ g G)
theorem Yt{β:Type}{s0:S}(l:List α)(g:β->α->β)(b:β)(d:β->Nat->S)(e:β->B)(hl:l.length<=4611686018427387904)(h0:d b 0=s0)
  (j:∀i x a,At l i x->a=(l.take i).foldl g b->Ev (λn=>step n (d a i)) (.cont (d (g a x) (i+1))))
  (k:Ev (λn=>step n (d (l.foldl g b) l.length)) (.done (e (l.foldl g b)))):Ev (λn=>Go.Sw.iter (step n) n s0) (e (l.foldl g b)):=by
 refine Ev.iter (λi=>d ((l.take i).foldl g b) i) l.length (by simpa using h0) (λi h=>?_) (by simpa using k);have f:=JD (x:=l[i]) hl (XN h);have:=j i _ _ f rfl;rw[f.take,XF];exact this
theorem Ev.contains(l:List α)(q:α->Bool)(g:Nat->α->Option Bool)(hl:l.length<=4611686018427387904)(hg:∀x∈l,Ev (λn=>g n x) (q x)):
  Ev (λn=>(((Go.Sw.iter (λs:Int=>bif decide (s<(l.length:Int))then(idx l s).bind λx=>(g n x).bind λr=>(bif r then some (Ctl.done (Ctl.done s))else some (Ctl.cont (IntKind.i64.wrap (s+1))))else some (Ctl.done (Ctl.cont ()))) n (0:Int):Option (Ctl Unit Int)).bind λb=>
   match b with
   |.cont _=>some (-1)
   |.done s=>some s):Option Int).bind λr=>some (decide (0<=r))) (l.any q):=by
 cases e:l.any q with
 |false=>
  refine Ev.bind (v:=(-1:Int)) (Ev.bind (v:=Ctl.cont ()) (Ev.iter (λi=>(i:Int)) l.length rfl (λi f=>?_) ?_) (Qa _)) (Qa _)
  .have a:=JD (x:=l[i]) hl (XN f);simp only[a.lt,Vr,a.ix,XM];have G:q l[i]=false:=by
    rw[VO];intro h;rw[Xu.2 ⟨_,a.mem,h⟩]at e;cases e
   refine Ev.bind ((hg _ a.mem).eq G) ?_;simp only[Vs,a.nx];exact Qa _
  .simp only[Qbj,Vs];exact Qa _
 |true=>
  obtain⟨x,d,h⟩:=Xu.1 e;have p:∀k,k<=l.length->(∀(i:Nat) (x:α),l[i]?=some x->i<k->q x=false)\/ ∃(i:Nat) (x:α),l[i]?=some x/\i<k/\q x=true/\ ∀(j:Nat) (y:α),l[j]?=some y->j<i->q y=false:=by
   intro k
   induction k with
   |zero=>intro _;exact .inl λi x _ f=>absurd f (Xm _)
   |succ k E=>
    intro H;rcases E (by omega)with h|⟨i,x,u,w,t⟩
    .have hg:l[k]?=some l[k]:=XN (by omega);cases e:q l[k]with
     |true=>exact .inr ⟨k,_,hg,Xn _,e,h⟩
     |false=>
      refine .inl λi x d f=>?_;rcases Xo.1 f with z|rfl
      .exact h i x d z
      .rw[hg]at d;cases d;exact e
    .exact .inr ⟨i,x,u,by omega,t⟩
  rcases p l.length (XW _)with F|⟨i,x,u,w,t,B⟩
  .obtain⟨j,m,rfl⟩:=List.getElem_of_mem d;rw[F j _ (XN m) m]at h;cases h
  .refine Ev.bind (v:=(i:Int)) (Ev.bind (v:=Ctl.done (i:Int)) (Ev.iter (λi=>(i:Int)) i rfl (λj m=>?_) ?_) (Qa _)) ?_
   .have a:=JD (x:=l[j]) hl (XN (by omega));simp only[a.lt,Vr,a.ix,XM];refine Ev.bind ((hg _ a.mem).eq (B j _ a.get m)) ?_;simp only[Vs,a.nx];exact Qa _
   .have a:=JD hl u;simp only[a.lt,Vr,a.ix,XM];refine Ev.bind ((hg _ a.mem).eq t) ?_;exact Qa _
   .rw[Vw (by omega)];exact Qa _
end
section
variable {S B α:Type} {step:Nat->S->Option (Ctl S B)}
theorem QhH{s0:S}(a:Nat->S)(k:Nat)(R:Nat->B)(h0:a 0=s0)(g:∀i,i<k->(Ev (λn=>step n (a i)) (.cont (a (i+1)))/\R i=R (i+1))\/Ev (λn=>step n (a i)) (.done (R i)))
  (r:Ev (λn=>step n (a k)) (.done (R k))):Ev (λn=>Go.Sw.iter (step n) n s0) (R 0):=by
 have e:∀m,m<=k->(∀i,i<m->Ev (λn=>step n (a i)) (.cont (a (i+1)))/\R i=R (i+1))\/ ∃j,j<m/\(∀i,i<j->Ev (λn=>step n (a i)) (.cont (a (i+1)))/\R i=R (i+1))/\Ev (λn=>step n (a j)) (.done (R j)):=by
  intro m
  induction m with
  |zero=>intro _;exact .inl λi b=>absurd b (Xm _)
  |succ m f=>
   intro s;rcases f (by omega)with h|⟨j,l,d⟩
   .rcases g m (by omega)with q|q
    .refine .inl λi b=>?_;rcases Xo.1 b with z|rfl
     .exact h i z
     .exact q
    .exact .inr ⟨m,Xn _,h,q⟩
   .exact .inr ⟨j,by omega,d⟩
 have same:∀m,(∀i,i<m->R i=R (i+1))->R 0=R m:=by
  intro m
  induction m with
  |zero=>intro _;rfl
  |succ m f=>intro h;exact(f λi b=>h i (by omega)).trans (h m (Xn _))
 rcases e k (XW _)with h|⟨j,l,d,p⟩
 .rw[same k λi b=>(h i b).2];exact Ev.iter a k h0 (λi b=>(h i b).1) r
 .rw[same j λi b=>(d i b).2];exact Ev.iter a j h0 (λi b=>(d i b).1) p
theorem At.drop{l:List α}{i:Nat}{x:α}(h:At l i x):l.drop i=x::l.drop (i+1):=by
 have:=h.lt';rw[Xq this,(XO.1 h.get).2]
theorem QhG{s0:S}(l:List α)(st:Nat->S)(R:Nat->B)(hl:l.length<=4611686018427387904)(h0:st 0=s0)
  (hc:∀i x,At l i x->(Ev (λn=>step n (st i)) (.cont (st (i+1)))/\R i=R (i+1))\/Ev (λn=>step n (st i)) (.done (R i)))
  (hd:Ev (λn=>step n (st l.length)) (.done (R l.length))):Ev (λn=>Go.Sw.iter (step n) n s0) (R 0):=
 QhH st l.length R h0 (λi hi=>hc i _ (JD hl (XN hi))) hd
end
section
variable {α β:Type} [DecidableEq α]
theorem Qah(p:α×β)(l:List (α×β))(k:α):YA (p::l) k=if p.1=k then some p.2 else YA l k:=by
 unfold YA;by_cases h:p.1=k<;>simp[List.find?_cons,h]
theorem Qk8(p:α×β)(l:List (α×β))(k:α)(v:β):QJ (p::l) k v=if p.1=k then(p.1,v)::l.map (λq=>bif decide (q.1=k)then(q.1,v)else q)else p::QJ l k v:=by
 unfold QJ;by_cases h:p.1=k
 .simp[h]
 .simp only[List.any_cons,h,decide_false,Bool.false_or,if_false,Vl,Vs];cases l.any λp=>decide (p.1=k)<;>simp
theorem QmL(l:List (α×β))(k a:α)(v:β)(h:a≠k):YA (l.map λq=>bif decide (q.1=k)then(q.1,v)else q) a=YA l a:=by
 induction l with
 |nil=>rfl
 |cons p l b=>
  rw[Vl,Qah,Qah,b];by_cases e:p.1=k
  .have:¬k=a:=λq=>h q.symm;simp[e,this]
  .simp[e]
theorem YX(l:List (α×β))(k a:α)(v:β):YA (QJ l k v) a=if a=k then some v else YA l a:=by
 induction l with
 |nil=>
  show YA ([]++[(k,v)]) a=_;rw[Vj,Qah];by_cases h:a=k
  .subst h;simp
  .rw[Vu λq=>h q.symm,Vu h]
 |cons p l b=>
  rw[Qk8];by_cases e:p.1=k
  .rw[Vv e,Qah,Qah];by_cases h:a=k
   .subst h;simp[e]
   .have:p.1≠a:=λq=>h (q.symm.trans e);simp only[this,if_false,h];exact QmL l k a v h
  .rw[Vu e,Qah,Qah,b];by_cases h:p.1=a
   .rw[Vv h,Vu λq=>e (h.trans q),Vv h]
   .rw[Vu h,Vu h]
theorem Qk9(k:α)(z:β):QW ([]:List (α×β)) k z=z:=rfl
theorem Qe0(l:List (α×β))(k a:α)(v z:β):QW (QJ l k v) a z=if a=k then v else QW l a z:=by
 unfold QW;rw[YX];by_cases h:a=k<;>simp[h]
theorem Qdz(l:List (α×β))(k:α)(v:β):(QJ l k v).map (·.1)=if k∈l.map (·.1)then l.map (·.1)else l.map (·.1)++[k]:=by
 unfold QJ;have e:(l.any λp=>decide (p.1=k))=decide (k∈l.map (·.1)):=by
  rw[X0];simp only[Xu,Vt,Xe]
 rw[e];by_cases h:k∈l.map (·.1)
 .rw[Vw h,Vv h,Vr,List.map_map];apply List.map_congr_left;intro p _;simp only[Function.comp];cases decide (p.1=k)<;>rfl
 .rw[Vz h,Vu h,Vs,Xf];rfl
def Yo{γ:Type}(key:γ->α)(v:β)(l:List γ):List (α×β):=l.foldl (λm x=>QJ m (key x) v) []
theorem Qha{γ:Type}(a:γ->α)(v:β)(l:List γ)(x:γ):Yo a v (l++[x])=QJ (Yo a v l) (a x) v:=by
 unfold Yo;rw[XF];rfl
theorem QdY{γ:Type}(a:γ->α)(v z:β)(l:List γ)(k:α):QW (Yo a v l) k z=if k∈l.map a then v else z:=by
 have b:∀(l:List γ) (m:List (α×β)),QW (l.foldl (λm x=>QJ m (a x) v) m) k z=if k∈l.map a then v else QW m k z:=by
  intro l
  induction l with
  |nil=>intro m;simp
  |cons x l d=>
   intro m;rw[XG,d,Qe0];by_cases h:k∈l.map a
   .rw[Vv h,Vv (by simp only[Vl];exact X7 _ h)]
   .rw[Vu h];by_cases e:k=a x
    .rw[Vv e,Vv (by simp[e])]
    .rw[Vu e,Vu (by simp only[Vl,X8,not_or];exact⟨e,h⟩)]
 exact b l []
theorem Qcl{γ:Type}(d:γ->α)(v:β)(l:List γ):(Yo d v l).length<=l.length/\((Yo d v l).length=l.length↔(l.map d).Nodup):=by
 have j:∀(l:List γ) (m:List (α×β)),(m.map (·.1)).Nodup->(l.foldl (λm x=>QJ m (d x) v) m).length<=m.length+l.length/\((l.foldl (λm x=>QJ m (d x) v) m).length=m.length+l.length↔(m.map (·.1)++l.map d).Nodup):=by
  intro l
  induction l with
  |nil=>intro m i;simpa using i
  |cons x l p=>
   intro m i;have g:=Qdz m (d x) v;have f:(QJ m (d x) v).length=((QJ m (d x) v).map (·.1)).length:=by simp
   by_cases h:d x∈m.map (·.1)
   .rw[Vv h]at g;obtain⟨s,k⟩:=p (QJ m (d x) v) (by rw[g];exact i);have e:(QJ m (d x) v).length=m.length:=by rw[f,g];simp
    rw[XG];refine⟨by simp only[X3];omega,⟨λq=>?_,λq=>?_⟩⟩
    .simp only[X3]at q;omega
    .exfalso;have:=(List.nodup_append.1 q).2.2 _ h (d x) (by simp);exact this rfl
   .rw[Vu h]at g;have t:((QJ m (d x) v).map (·.1)).Nodup:=by
     rw[g];refine List.nodup_append.2 ⟨i,by simp,?_⟩;intro a r b n e;simp only[VD]at n;exact h (by rw[<- n, <- e];exact r)
    obtain⟨s,k⟩:=p (QJ m (d x) v) t;have e:(QJ m (d x) v).length=m.length+1:=by rw[f,g];simp
    rw[XG];refine⟨by simp only[X3];omega,?_⟩;rw[g]at k;rw[show m.length+(x::l).length=(QJ m (d x) v).length+l.length by rw[e];simp;omega,k];simp[Vk]
 have:=j l [] (by simp);simpa[Yo]using this
end
theorem Jh{α:Type}(l:List α)(p:α->Bool)(g:Nat->α->Option Bool)(hl:l.length<=4611686018427387904)(hg:∀x∈l,Ev (λn=>g n x) (p x)):
  Ev (λn=>((((Go.Sw.iter (λs:Int=>bif decide (s<(l.length:Int))then(idx l s).bind λx=>((g n x).bind λr1=>some (!r1)).bind λr=>(bif r then some (Ctl.done (Ctl.done s))else some (Ctl.cont (IntKind.i64.wrap (s+1))))else some (Ctl.done (Ctl.cont ()))) n (0:Int):Option (Ctl Unit Int)).bind λb=>
   match b with
   |.cont _=>some (-1)
   |.done s=>some s):Option Int).bind λr=>some (decide (0<=r)):Option Bool).bind λr=>some (!r)) (l.all p):=by
 refine Ev.bind (Ev.contains l (λx=> !p x) (λn x=>(g n x).bind λr1=>some (!r1)) hl λx a=>Ev.bind (hg x a) (Qa _)) ((Qa _).eq ?_);rw[List.not_any_eq_all_not];simp
theorem Ev.inner{α κ B:Type}[DecidableEq κ]{step:Nat->Int->Option (Ctl Int B)}(l:List α)(i:Nat)(a:α->κ)(k:κ)(r b:B)(hl:l.length<=4611686018427387904)(hi:i<=l.length)
  (s:∀j y,j<i->At l j y->decide (a y=k)=false->Ev (λn=>step n (j:Int)) (.cont ((j+1:Nat):Int)))
  (u:∀j y,j<i->At l j y->decide (a y=k)=true->Ev (λn=>step n (j:Int)) (.done r))
  (w:Ev (λn=>step n (i:Int)) (.done b)):Ev (λn=>Go.Sw.iter (step n) n 0) (bif ((l.take i).map a).contains k then r else b):=by
 have e:((l.take i).map a).contains k=(l.take i).any λy=>decide (a y=k):=by
  rw[X0];simp only[List.contains_eq_mem,Vt,Xe,Xu]
 rw[e];have h:(l.take i).length=i:=by simp;omega
 have g:∀j y,At (l.take i) j y->j<i/\At l j y:=by
  intro j y f;have t:=f.lt';have d:=f.get;rw[List.getElem?_take]at d;split at d
  .exact⟨by omega,JD hl d⟩
  .cases d
 refine Qa5 (l.take i) (λy=>decide (a y=k)) (λi=>(i:Int)) _ _ (by omega) rfl (λj y f q=>?_) (λj y f q=>?_) ?_
 .obtain⟨p,m⟩:=g j y f;exact s j y p m q
 .obtain⟨p,m⟩:=g j y f;exact u j y p m q
 .rw[h];exact w
theorem QbF{α κ β:Type}[DecidableEq κ]{step:Nat->List (κ×β)×Int->Option (Ctl (List (κ×β)×Int) (List (κ×β)))}(l:List α)(key:α->κ)(v:β)(hl:l.length<=4611686018427387904)
  (hc:∀i x m,At l i x->Ev (λn=>step n (m,(i:Int))) (.cont (QJ m (key x) v,((i+1:Nat):Int))))
  (hd:∀m,Ev (λn=>step n (m,(l.length:Int))) (.done m)):Ev (λn=>Go.Sw.iter (step n) n ([],0)) (Yo key v l):=
 Yt l (λm x=>QJ m (key x) v) [] (λm i=>(m,(i:Int))) (λm=>m) hl rfl (λi x m ha _=>hc i x m ha) (hd _)
theorem Ev.shift{α:Type}{f:Nat->Option α}{v:α}(h:Ev f v):Ev (λn=>f (n+1)) v:=by
 obtain⟨N,h⟩:=h;exact⟨N,λn a=>h (n+1) (by omega)⟩
def EvI{S B:Type}(step:Nat->S->Option (Ctl S B))(s:S)(b:B):Prop:=∃N,∀n k,N<=n->N<=k->Go.Sw.iter (step n) k s=some b
section
variable {S B:Type} {step:Nat->S->Option (Ctl S B)} {s s':S} {b:B}
theorem EvI.done(h:Ev (λn=>step n s) (.done b)):EvI step s b:=by
 obtain⟨N,h⟩:=h;refine⟨N+1,λn k d e=>?_⟩;obtain⟨a,rfl⟩:∃a,k=a+1:=⟨k-1,by omega⟩;have:=h n (by omega);simp only[Go.Sw.iter,this]
theorem EvI.cont(h:Ev (λn=>step n s) (.cont s'))(q:EvI step s' b):EvI step s b:=by
 obtain⟨N,h⟩:=h;obtain⟨M,q⟩:=q;refine⟨max N M+1,λn k d e=>?_⟩;obtain⟨a,rfl⟩:∃a,k=a+1:=⟨k-1,by omega⟩;have:=h n (by omega);simp only[Go.Sw.iter,this];exact q n a (by omega) (by omega)
theorem EvI.ev(h:EvI step s b):Ev (λn=>Go.Sw.iter (step n) n s) b:=by
 obtain⟨N,h⟩:=h;exact⟨N,λn a=>h n n a a⟩
theorem EvI.eq{b':B}(h:EvI step s b)(e:b=b'):EvI step s b':=e▸h
end
theorem Q3{α:Type}{l r:List α}{i:Nat}{x:α}(hl:l.length<=4611686018427387904)(h:l.drop i=x::r):At l i x/\l.drop (i+1)=r:=by
 have a:l[i]?=some x:=by
  have:=congrArg (λl=>l[0]?) h;simpa using this
 refine⟨JD hl a,?_⟩;have:=(JD hl a).drop;rw[h]at this;exact(List.cons.inj this).2.symm
theorem YL{α:Type}{l:List α}{i:Nat}(h:l.drop i=[])(hi:i<=l.length):decide ((i:Int)<(l.length:Int))=false:=by
 have:=Xr.1 h;exact Vz (by omega)
end Go.Sw
namespace Go.Sw
theorem Z.{u}{α:Sort u}{a:α}:a=a:=rfl
section
variable {P:Program} {h0 N:Nat} {all:Array Oper} {env:Env} {H H':Qd} {Q:QB} {l:List Oper} {o:Oper} {d:Nat}
theorem aV(x:A)(H:Qd){x':A}{H':Qd}(a:x'=x)(hH:H'=H)(k:WO P h0 N all l (up env d x) H Q):WO P h0 N all l (up env d x') H' Q:=by subst a;subst hH;exact k
theorem vX(x:A)(a:OpV P o env H x)(k:WO P h0 N all l (up env d x) H Q)(hg:Qq all o env true:=by exact rfl)(hd:o.dst=some d:=by exact rfl)(hN:Nat.blt d N=true:=by exact rfl):WO P h0 N all (o::l) env H Q:=
 QF hg hd hN a k
theorem Wp:WO P h0 N all [] env H (Y5 env H):=WO.nil Y5.mk
end
end Go.Sw
namespace Go.Sw
section
variable {P:Program} {o:Oper} {env:Env} {H:Qd}
theorem QoP{ro:Nat->Prop}{σ:Sig}{w:World}(g:GP w){b:Nat}{zs:List Int}(h:Qjt[b]?=some zs):∀(i:Nat),CR ro σ w b ((zs.drop i).map (A.int .i64)) i:=by
 intro i;generalize hl:zs.drop i=l
 induction l generalizing i with
 |nil=>trivial
 |cons z l d=>
  have e:zs[i]?=some z:=by
   have:=congrArg (·[0]?) hl;simpa using this
  have a:zs.drop (i+1)=l:=by
   rw[<- List.drop_drop,hl];rfl
  exact⟨⟨_,g.tab b zs h i z e,by simp[Qs],rfl⟩,d (i+1) a⟩
theorem QgM{t n g:Nat}{zs:List Int}(i:∀w,(isAgg t).run P w=.ok true w)(h:∀w,(sizeOf t).run P w=.ok n w)(hg:Qjt[g]?=some zs)(hl:zs.length=n)(f:o.op=.load t (.global g):=by exact rfl):
  OpV P o env H (.agg (zs.map (A.int .i64))):=by
 intro k ro σ N a w r;obtain⟨l,j,_,d⟩:=YC (P:=P) (b:=g) (cs:=zs.map (A.int .i64)) (off:=0) 0 (by simpa using QoP (ro:=ro) (σ:=σ) r.sim.roOk.gp hg 0);have d:=d w #[] rfl;rw[X4,hl]at d;refine⟨.agg l.toArray,?_,l,rfl,j⟩;have e:a.eval (.global g)=.pointer (some ⟨g,0,none⟩):=rfl;generalize a.eval=ρ at*;simp[execOp,f,e,Instr.loadAt,Instr.sureAddr,loadVar,i,h,loadCells,d,go_sem]
end
end Go.Sw
namespace Go.Sw
open Go.Proofs
section
variable {P:Program}
def toV(agg:Bool)(l:List Value):Value:=bif agg then .agg l.toArray else l.headD .nilFunc
structure QlZ (P:Program) (t:TypeId) (h k:Nat) (agg:Bool) (ok:List Value->Prop):Prop where
 len:∀l,ok l->l.length=k
 ia:∀w,(isAgg t).run P w=.ok agg w
 so:∀w,(sizeOf t).run P w=.ok k w
 eq:∀(w:World) (d:Nat) (l m:List Value),ok l->ok m->∃b:Bool,(Op.equalIn (d+h) t (toV agg l) (toV agg m)).run P w=.ok b w/\(b=true↔l=m)
structure QnX (P:Program) (fs:List Field) (h off k:Nat) (ok:List Value->Prop):Prop where
 len:∀l,ok l->l.length=k
 eq:∀(w:World) (d:Nat) (p q l m:List Value),p.length=off->q.length=off->ok l->ok m->∃b:Bool,(Op.eqFields (d+h) (p++l).toArray (q++m).toArray fs).run P w=.ok b w/\(b=true↔l=m)
theorem QlZ.int{t:TypeId}{k:IntKind}(e:P.underlying t=some (.int k))(b:∀w,(isAgg t).run P w=.ok false w)(a:∀w,(sizeOf t).run P w=.ok 1 w)(h:Nat):QlZ P t (h+1) 1 false (λl=>∃n:Int,l=[.int k n]):=by
 refine⟨?_,b,a,?_⟩
 .rintro _ ⟨n,rfl⟩;rfl
 .rintro w d _ _ ⟨n,rfl⟩ ⟨m,rfl⟩;exact⟨_,run_equalIn_int w (d+h) t k k n m e,by simp⟩
theorem QlZ.bool{t:TypeId}(e:P.underlying t=some .bool)(b:∀w,(isAgg t).run P w=.ok false w)(a:∀w,(sizeOf t).run P w=.ok 1 w)(h:Nat):QlZ P t (h+1) 1 false (λl=>∃n:Bool,l=[.bool n]):=by
 refine⟨?_,b,a,?_⟩
 .rintro _ ⟨n,rfl⟩;rfl
 .rintro w d _ _ ⟨n,rfl⟩ ⟨m,rfl⟩;exact⟨_,run_equalIn_bool' w (d+h) t n m e,by simp⟩
theorem QnX.nil(h off:Nat):QnX P [] h off 0 (λl=>l=[]):=by
 refine⟨?_,?_⟩
 .rintro _ rfl;rfl
 .rintro w d p q _ _ _ _ rfl rfl;exact⟨true,by simp[Op.eqFields],by simp⟩
theorem QhY{t:TypeId}{k:Nat}{agg:Bool}{w:World}(b:∀w,(isAgg t).run P w=.ok agg w)(d:∀w,(sizeOf t).run P w=.ok k w)(p a f:List Value)(hl:a.length=k)(e:agg=false->k=1):
  (part t (p++(a++f)).toArray p.length).run P w=.ok (toV agg a) w:=by
 unfold part;cases agg with
 |true=>
  simp[b,d,go_sem,toV];rw[<- hl];simp[List.extract]
 |false=>
  have:=e rfl;subst this
  match a,hl with
  |[v],_=>simp[b,go_sem,toV]
theorem QnX.cons{f:Field}{fs:List Field}{h off n x:Nat}{agg:Bool}{i j:List Value->Prop}(N:Nat.beq f.offset off=true)(L:f.name≠"_")(g:QlZ P f.type h n agg i)(u:agg=false->n=1)(F:QnX P fs h (off+n) x j):
  QnX P (f::fs) h off (n+x) (λl=>∃l1 l2,l=l1++l2/\i l1/\j l2):=by
 have s:f.offset=off:=XT N;refine⟨?_,?_⟩
 .rintro _ ⟨l1,l2,rfl,a,b⟩;rw[X5,g.len _ a,F.len _ b]
 .rintro w d p q _ _ E B ⟨l1,l2,rfl,r,T⟩ ⟨k,t,rfl,m,O⟩;have y:=QhY (P:=P) (w:=w) g.ia g.so p l1 l2 (g.len _ r) u;have H:=QhY (P:=P) (w:=w) g.ia g.so q k t (g.len _ m) u;rw[E]at y;rw[B]at H;obtain⟨G,V,R⟩:=g.eq w d l1 k r m;obtain⟨Q,z,M⟩:=F.eq w d (p++l1) (q++k) l2 t (by rw[X5,E,g.len _ r]) (by rw[X5,B,g.len _ m]) T O;rw[Vk,Vk]at z;have J:l1.length=k.length:=by rw[g.len _ r,g.len _ m]
  refine⟨G&&Q,?_,?_⟩
  .generalize(p++(l1++l2)).toArray=X at*;generalize(q++(k++t)).toArray=Y at*;cases G<;>simp[Op.eqFields,L,s,Vp,Result.andThen,y,H,V,z]
  .rw[XZ,R,M];constructor
   .rintro⟨rfl,rfl⟩;rfl
   .intro e;exact List.append_inj e J
theorem QlZ.struct{t:TypeId}{h k:Nat}{ok:List Value->Prop}(n:P.underlying t=some (.struct (P.fieldsOf t)))(j:P.stoodInHeld t=false)(i:∀w,(isAgg t).run P w=.ok true w)(g:∀w,(sizeOf t).run P w=.ok k w)(e:QnX P (P.fieldsOf t).toList h 0 k ok):QlZ P t (h+1) k true ok:=by
 refine⟨e.len,i,g,λw d l m a b=>?_⟩;obtain⟨r,f,p⟩:=e.eq w d [] [] l m rfl rfl a b;refine⟨r,?_,p⟩;show(Op.equalIn (d+h+1) t (.agg l.toArray) (.agg m.toArray)).run P w=_;rw[run_equalIn_agg w (d+h) t _ _ n j];simpa using f
theorem QS{t:TypeId}{h k:Nat}{fs:Array Field}{ok:List Value->Prop}(a:P.underlying t=some (.struct fs))(f:P.stoodInHeld t=false)(d:∀w,(isAgg t).run P w=.ok true w)(b:∀w,(sizeOf t).run P w=.ok k w)(g:QnX P fs.toList h 0 k ok):QlZ P t (h+1) k true ok:=by
 have e:P.fieldsOf t=fs:=by simp[Program.fieldsOf,a]
 exact QlZ.struct (by rw[e];exact a) f d b (by rw[e];exact g)
structure EqD (P:Program) (t:TypeId) {α:Type} (cells:α->List A):Prop where
 scl:∀x,QeK (cells x)=true
 inj:∀x y,YT (cells x)=YT (cells y)->x=y
 guard:P.eqGuardType P.depth t=false
 eq:∀(w:World) x y,∃b:Bool,(Op.equalIn 10000 t (.agg (YT (cells x)).toArray) (.agg (YT (cells y)).toArray)).run P w=.ok b w/\(b=true↔YT (cells x)=YT (cells y))
theorem QkX{α:Type}{cells:α->List A}{t h k:Nat}{ok:List Value->Prop}(E:QlZ P t h k true ok)(d:Nat.ble h 10000=true)(a:∀x,ok (YT (cells x)))(b:∀x,QeK (cells x)=true)(hi:∀x y,YT (cells x)=YT (cells y)->x=y)(hg:P.eqGuardType P.depth t=false):EqD P t cells:=by
 refine⟨b,hi,hg,λw x y=>?_⟩;have:=E.eq w (10000-h) (YT (cells x)) (YT (cells y)) (a x) (a y)
 rwa [show 10000-h+h=10000 by have:=XU d;omega]at this
variable {o:Oper} {env:Env} {H:Qd}
theorem QlN{α:Type}[DecidableEq α]{cells:α->List A}{t u:TypeId}{x y:Operand}{p q:α}(E:EqD P t cells)(l:opA env x=.agg (cells p))(k:opA env y=.agg (cells q))(j:o.op=.binOp .eql t x y u:=by exact rfl):OpV P o env H (.bool (p==q)):=by
 intro F B σ N a w r;have h:=Qg r x;have g:=Qg r y;rw[l]at h;rw[k]at g;have m:=VR.val (a:=.agg (cells p)) (E.scl p) h;have s:=VR.val (a:=.agg (cells q)) (E.scl q) g;obtain⟨b,z,n⟩:=E.eq w p q;have i:b=(p==q):=by
  rw[X0,n,VA];exact⟨E.inj p q,λe=>by rw[e]⟩
 refine⟨.bool (p==q),?_,rfl⟩;rw[<- i];generalize a.eval=ρ at*;have f:ρ x=.agg (YT (cells p)).toArray:=m;have d:ρ y=.agg (YT (cells q)).toArray:=s;simp[execOp,j,f,d,go_sem,run_eqGuard_agg _ _ _ _ _ _ _ E.guard,run_eql_struct,z]
theorem QlM{α:Type}[DecidableEq α]{cells:α->List A}{t u:TypeId}{x y:Operand}{p q:α}(E:EqD P t cells)(l:opA env x=.agg (cells p))(k:opA env y=.agg (cells q))(j:o.op=.binOp .neq t x y u:=by exact rfl):OpV P o env H (.bool (p != q)):=by
 intro F B σ N a w r;have h:=Qg r x;have g:=Qg r y;rw[l]at h;rw[k]at g;have m:=VR.val (a:=.agg (cells p)) (E.scl p) h;have s:=VR.val (a:=.agg (cells q)) (E.scl q) g;obtain⟨b,z,n⟩:=E.eq w p q;have i:b=(p==q):=by
  rw[X0,n,VA];exact⟨E.inj p q,λe=>by rw[e]⟩
 refine⟨.bool (p != q),?_,rfl⟩;rw[bne, <- i];generalize a.eval=ρ at*;have f:ρ x=.agg (YT (cells p)).toArray:=m;have d:ρ y=.agg (YT (cells q)).toArray:=s;simp[execOp,j,f,d,go_sem,run_eqGuard_agg _ _ _ _ _ _ _ E.guard,run_neq_struct,z]
end
end Go.Sw
namespace Go.Sw
structure QfG (g g':Nat->Prop) (W W':World):Prop where
 sub:∀b,g b->g' b
 new:∀b,g' b->g b\/W.heap.size<=b
 lt:∀b,g' b->b<W'.heap.size
 all:∀b,W.heap.size<=b->b<W'.heap.size->g' b
 keep:∀b,b<W.heap.size->¬g b->W'.heap[b]?=W.heap[b]?
 size:W.heap.size<=W'.heap.size
 shape:∀b x,W.shape? b=some x->W'.shape? b=some x
 os:W'.os=W.os
 tape:W'.tape=W.tape
 output:W'.output=W.output
 drawn:W.drawn<=W'.drawn
abbrev Jv(T:Type):=List T->(Nat->Prop)->(Nat->Prop)->World->Prop
structure Qpb {T:Type} (J:Jv T):Prop where
 ev:∀rem q g W W' ro',J rem q g W->Qh g q W ro' W'->J rem q g W'
 up:∀rem q g g' W,J rem q g W->(∀b,g b->g' b)->(∀b,g' b->b<W.heap.size)->J rem q g' W
theorem Sim.round{fr g g' ro:Nat->Prop}{σ:Sig}{H:Qd}{W W':World}(s:Sim fr ro σ H W)(a:∀b,g b->fr b)(k:QfG g g' W W'):Sim (λb=>fr b\/g' b) ro σ H W'/\Qh (λb=>b<W.heap.size/\ ¬g b) ro W ro W':=by
 have e:∀b,ro b->W'.heap[b]?=W.heap[b]? :=λb q=>k.keep b (s.roLt b q) (λr=>s.roFr b q (a b r));have m:Ext ro σ W ro σ W':=by
  have ev:Qh (λ_=>False) ro W ro W':=⟨λ_ q=>q,e,λ_ q=>q.elim,k.size,k.shape,k.os,k.tape,k.output,k.drawn⟩;have:=ev.ext σ [];simpa using this
 refine⟨⟨s.len,s.roOk.to (λ_ q=>q) e (λb q=>Vh (s.roLt b q) k.size),λb q=>q.elim (λq=>Vh (s.frLt b q) k.size) (k.lt b),λb q r=>?_,λi b x h f u=>?_,s.inj,λi y x h f=>?_,
  s.hidTo (· = ·) QZ k.size (λ_ _ _ _ _ _ _ q=>q) (λi b x c h f u F=>F.elim id λq=>(k.new c q).elim (a c) λl=>(by have:=(s.hid i b x c h f u).lt;omega)) λj d y n t G=>.inl ⟨j,y,rfl,n,t,id,λc q=>s.hidKeep n t (λz=>k.keep d (s.own j d y n t z).1 λr=>(s.own j d y n t z).2.2 (a d r)) e q⟩⟩,
  ⟨λ_ q=>q,e,λb q=>k.keep b q.1 q.2,k.size,k.shape,k.os,k.tape,k.output,k.drawn⟩⟩
 .rcases r with r|r
  .exact s.roFr b q r
  .rcases k.new b r with l|l
   .exact s.roFr b q (a b l)
   .have:=s.roLt b q;omega
 .obtain⟨B,E,p⟩:=s.own i b x h f u;refine⟨Vh B k.size,E,λr=>?_⟩;rcases r with r|r
  .exact p r
  .rcases k.new b r with l|l
   .exact p (a b l)
   .omega
 .refine(s.blk i y x h f).keep m ?_ ?_
  .rintro b rfl w;obtain⟨B,E,p⟩:=s.own i b x h f w;exact k.keep b B (λr=>p (a b r))
  .rintro b c rfl w;have q:=s.hid i b x c h f w;exact k.keep c q.lt (λr=>q.fr (a c r))
def Qp7{T:Type}(J Jx:Jv T)(g ri:Nat->Prop)(W1:World)(rem:List T):Ending->World->Prop:=λe W'=>
 ∃g' q',(∀b,q' b->ri b)/\QfG g g' W1 W'/\((e=.returned (.bool true)/\J rem q' g' W')\/(e=.returned (.bool false)/\Jx rem q' g' W'))
structure Ctx (T:Type) where
 l:Nat
 J:Jv T
 Jx:Jv T
 enc:T->List A
 nx:List T->T->List T->Prop
structure Ctx.ok {T:Type} (X:Ctx T) (P:Program):Prop where
 b:Qpb X.J
 bx:Qpb X.Jx
 round:∀l x rem q g ri W1 vs,X.nx l x rem->X.J l q g W1->(∀b,q b->ri b)->(∀b,ri b->b<W1.heap.size/\ ¬g b)->LR ri [] W1 (X.enc x) vs->YieldAt Fence.wide 0 P X.l vs.toArray W1 (Qp7 X.J X.Jx g ri W1 rem)
def Qhy{T:Type}(P:Program)(f:FuncId)(caps:List A)(H:Qd)(enc:T->List A)(nx:List T->T->List T->Prop)(xs:List T):Prop:=
 ∀(X:Ctx T),X.enc=enc->X.nx=nx->X.ok P->∀fr ro σ w capv q,Sim fr ro σ H w->(∀b,q b->ro b)->LR ro σ w caps capv->X.J xs q fr w->
  Calls P f ((Value.func (.yield X.l) #[] #[]::capv)).toArray w λe W'=>(∃v,e=.returned v)/\ ∃g q',(∀b,fr b->g b)/\((X.J [] q' g W')\/(∃rem,X.Jx rem q' g W'))
inductive YSt (T:Type) where
 |on (rem:List T)
 |off (rem:List T)
def Ctx.J'{T:Type}(X:Ctx T):YSt T->(Nat->Prop)->(Nat->Prop)->World->Prop
 |.on rem=>X.J rem
 |.off rem=>X.Jx rem
def Ctx.at{T:Type}(X:Ctx T)(st:YSt T)(g ro:Nat->Prop)(W:World):Prop:=∃q,(∀b,q b->ro b)/\X.J' st q g W
theorem Qh.roMono{fr ro ro0 ro':Nat->Prop}{w w':World}(h:Qh fr ro w ro' w')(s:∀b,ro0 b->ro b):Qh fr ro0 w ro' w':=
 ⟨λb q=>h.sub b (s b q),λb q=>h.keepRo b (s b q),h.keepFr,h.size,h.shape,h.os,h.tape,h.output,h.drawn⟩
theorem Ctx.ok.ev{T:Type}{X:Ctx T}{P:Program}(h:X.ok P){e:YSt T}{g ro ro':Nat->Prop}{W W':World}(a:X.at e g ro W)(he:Qh g ro W ro' W'):X.at e g ro' W':=by
 obtain⟨q,d,a⟩:=a;refine⟨q,λb z=>he.sub b (d b z),?_⟩;cases e with
 |on rem=>exact h.b.ev rem q g W W' ro' a (he.roMono d)
 |off rem=>exact h.bx.ev rem q g W W' ro' a (he.roMono d)
theorem Ctx.ok.up{T:Type}{X:Ctx T}{P:Program}(h:X.ok P){d:YSt T}{g g' ro:Nat->Prop}{W:World}(a:X.at d g ro W)(hg:∀b,g b->g' b)(hl:∀b,g' b->b<W.heap.size):X.at d g' ro W:=by
 obtain⟨q,e,a⟩:=a;refine⟨q,e,?_⟩;cases d with
 |on rem=>exact h.b.up rem q g g' W a hg hl
 |off rem=>exact h.bx.up rem q g g' W a hg hl
abbrev Yz(T:Type):=AEx->Env->Qd->YSt T->Prop
structure In (g fr:Nat->Prop) (ds:List Deferred):Prop where
 sub:∀b,g b->fr b
 beside:∀D,({target:=.collected D,args:= #[]}:Deferred)∈ds->¬g D
def Qdh{T:Type}(X:Ctx T)(h0:Nat)(fr ro:Nat->Prop)(σ:Sig)(w:World)(N:Nat)(ds:List Deferred)(Q:Yz T):Exit->Act->World->Prop:=
 λe a' w'=>∃x env' H' st ro' σ' fr' g',ExR e x/\Q x env' H' st/\Rel fr' ro' σ' H' env' N a' w'/\(X.at st g' ro' w'/\In g' fr' a'.defers)/\(∀b,ro b->ro' b)/\w.heap.size<=w'.heap.size/\σ'.take h0=σ.take h0/\Grow fr w ds fr' a'.defers
theorem Qdh.grow{T:Type}{X:Ctx T}{h0:Nat}{fr d ro f:Nat->Prop}{σ σ1:Sig}{w w1:World}{N:Nat}{k g:List Deferred}{Q:Yz T}{e:Exit}{a':Act}{w':World}
  (h:Qdh X h0 d f σ1 w1 N g Q e a' w')(t:∀b,ro b->f b)(l:w.heap.size<=w1.heap.size)(m:σ1.take h0=σ.take h0)(hg:Grow fr w k d g):Qdh X h0 fr ro σ w N k Q e a' w':=by
 obtain⟨x,a,H',u,i,σ',j,n,E,B,r,F,z,s,p,y⟩:=h;exact⟨x,a,H',u,i,σ',j,n,E,B,r,F,λb q=>z b (t b q),XY l s,p.trans m,hg.trans l y⟩
def TCy{T:Type}(X:Ctx T)(P:Program)(h0 N:Nat)(c:Code)(env:Env)(H:Qd)(st:YSt T)(Q:Yz T):Prop:=
 X.ok P->∀rd fr ro σ a w g,Rel fr ro σ H env N a w->X.at st g ro w/\In g fr a.defers->rd=none->c.wpIn (WF rd) 0 P (Qdh X h0 fr ro σ w N a.defers Q) a w
def WOy{T:Type}(X:Ctx T)(P:Program)(h0 N:Nat)(all:Array Oper)(l:List Oper)(env:Env)(H:Qd)(st:YSt T)(Q:Yz T):Prop:=
 X.ok P->∀rd fr ro σ a w g,Rel fr ro σ H env N a w->X.at st g ro w/\In g fr a.defers->rd=none->wpL P rd all (Qdh X h0 fr ro σ w N a.defers Q) l a w
theorem In.later{fr a g:Nat->Prop}{w:World}{ds ds':List Deferred}(h:In g fr ds)(hl:∀b,fr b->b<w.heap.size)(hg:Grow fr w ds a ds'):In g a ds':=by
 refine⟨λb q=>hg.sub b (h.sub b q),λD hD q=>?_⟩;rcases hg.ds _ hD with r|⟨D',e,r⟩
 .exact h.beside D r q
 .have:D=D':=by simpa using e
  subst this;have:=hl D (h.sub D q);omega
section
variable {T:Type} {X:Ctx T} {P:Program} {h0 N:Nat} {c c':Code} {env:Env} {H:Qd} {st:YSt T} {Q:Yz T}
theorem QlE{fr ro:Nat->Prop}{σ:Sig}{w:World}{k:List Deferred}{e:Exit}{a':Act}{w':World}(m:X.ok P)(h:QaS h0 fr ro σ w N k (λx env H=>Q x env H st) e a' w'){g:Nat->Prop}(hl:∀b,fr b->b<w.heap.size)(f:X.at st g ro w/\In g fr k):
  Qdh X h0 fr ro σ w N k Q e a' w':=by
 obtain⟨x,a,H',d,σ',j,q,p,r,i,n,l⟩:=h;exact⟨x,a,H',st,d,σ',j,g,q,p,r,⟨m.ev f.1 (i.frMono f.2.sub),f.2.later hl l⟩,i.sub,i.size,n,l⟩
theorem TCy.lift(h:TC P h0 N c env H (λx env H=>Q x env H st)):TCy X P h0 N c env H st Q:=
 λhX rd fr ro σ a w g r hj hrd=>Code.wpIn_mono (λe a' w' q=>QlE hX q r.sim.frLt hj) (h rd fr ro σ a w r (hrd▸Qek.none))
def SeqY(X:Ctx T)(P:Program)(h0 N:Nat)(c:Code)(Q:Yz T):Yz T
 |.normal,env,H,st=>TCy X P h0 N c env H st Q
 |.exit id,env,H,st=>Q (.exit id) env H st
 |.ret,env,H,st=>Q .ret env H st
theorem TCy.seq(h:TCy X P h0 N c env H st (SeqY X P h0 N c' Q)):TCy X P h0 N (.seq c c') env H st Q:=by
 intro z y F G σ a w g r hj hrd;refine wpIn_seq (Code.wpIn_mono ?_ (h z y F G σ a w g r hj hrd));rintro e B E ⟨x,b,H',i,d,σ',f,n,j,t,l,u,s,p,k,m⟩;cases e with
 |normal=>
  obtain rfl:x=.normal:=j;exact Code.wpIn_mono (λe a w q=>q.grow s p k m) (t z y f d σ' B E n l u hrd)
 |exit id=>
  obtain rfl:x=.exit id:=j;exact⟨_,b,H',i,d,σ',f,n,rfl,t,l,u,s,p,k,m⟩
 |ret=>
  obtain rfl:x=.ret:=j;exact⟨_,b,H',i,d,σ',f,n,rfl,t,l,u,s,p,k,m⟩
 |_=>exact j.elim
theorem TCy.region{id:Nat}{l:List Oper}(h:WOy X P h0 N l.toArray l env H st Q):TCy X P h0 N (.region id l.toArray false) env H st Q:=
 λhX rd fr ro σ a w g r hj hrd=>wpIn_region_lit (h hX rd fr ro σ a w g r hj hrd)
theorem TCy.cond{x:Operand}{t:Bool}(k:opA env x=.bool t)(j:t=true->TCy X P h0 N c env H st Q)(l:t=false->TCy X P h0 N c' env H st Q):TCy X P h0 N (.cond x c c') env H st Q:=by
 intro f i h d σ a w g r hj hrd;have b:=Qg r x;rw[k]at b;exact wpIn_cond_split b (λe=>j e f i h d σ a w g r hj hrd) (λe=>l e f i h d σ a w g r hj hrd)
theorem WOy.nil{all:Array Oper}(h:Q .normal env H st):WOy X P h0 N all [] env H st Q:=
 λhX rd fr ro σ a w g r hj hrd=>⟨_,env,H,st,ro,σ,fr,g,rfl,h,r,hj,λ_ q=>q,XW _,rfl,Grow.refl _ _ _⟩
end
theorem Qja{P:Program}{rd:Option Nat}{o:Oper}{a:Act}{K K':Act->World->Prop}{Q Q':Exit->Act->World->Prop}(b:∀a w,K a w->K' a w)(i:∀ch a w,Q (.panic ch) a w->Q' (.panic ch) a w)(k:∀a w,Q .outgrown a w->Q' .outgrown a w)
  {r:Result Next}(h:o.uponIn (WF rd) 0 P a K Q r):o.uponIn (WF rd) 0 P a K' Q' r:=by
 cases r with
 |ok x w=>
  cases x with
  |value v=>exact b _ _ h
  |skip=>exact b _ _ h
  |defer d=>exact b _ _ h
  |enter f g=>
   refine⟨h.1,CallsIn.mono h.2 ?_⟩;intro e n q;cases e with
   |returned v=>exact b _ _ q
   |panicked c=>exact i _ _ _ q
   |outgrown=>obtain⟨a,w,q⟩:=q;exact⟨a,w,k _ _ q⟩
  |row r g=>exact⟨h.1,RowsIn.mono h.2 λv n q=>b _ _ q⟩
  |round l f m assign j=>
   refine⟨h.1,RoundIn.mono h.2 ?_⟩;intro e n q;cases e with
   |returned v=>exact b _ _ q
   |panicked c=>exact i _ _ _ q
   |outgrown=>obtain⟨a,w,q⟩:=q;exact⟨a,w,k _ _ q⟩
  |_=>exact h
 |halt x w=>
  cases x with
  |panic v=>exact i _ _ _ h
  |_=>exact h
section
variable {T:Type} {X:Ctx T} {P:Program} {h0 N:Nat} {env:Env} {H:Qd} {st:YSt T} {Q:Yz T}
theorem WOy.step{all:Array Oper}{o:Oper}{rest:List Oper}(h:WO P h0 N all [o] env H (λx env' H'=>x=.normal/\WOy X P h0 N all rest env' H' st Q)):WOy X P h0 N all (o::rest) env H st Q:=by
 intro B s p t σ a w g r hj hrd;have u:∀f i,Qb3 h0 p t σ w N a.defers (λx env' H'=>x=.normal/\WOy X P h0 N all rest env' H' st Q) .normal f i->wpL P s all (Qdh X h0 p t σ w N a.defers Q) rest f i:=by
  rintro f i ⟨x,env',H',d,σ',j,J,⟨_,G⟩,E,l,F,z,y⟩;have n:X.at st g d i/\In g j f.defers:=⟨B.ev hj.1 (l.frMono hj.2.sub),by rw[z];exact hj.2.later r.sim.frLt y⟩;have:=G B s j d σ' f i g E n hrd;refine Yj (λe k w2 q=>?_) _ _ _ this;exact q.grow l.sub l.size F (by rw[z];exact y)
 have b:=h s p t σ a w r (hrd▸Qek.none);unfold wpL wpListIn at b⊢;split
 .rename_i m;rw[Vv m]at b;refine⟨b.1,Qja (λk w2 q=>?_) (λL k w2 q=>?_) (λk w2 q=>?_) b.2⟩
  .unfold wpListIn at q;exact u k w2 q
  .obtain⟨x,_,_,_,_,_,q,_⟩:=q;exact q.elim
  .obtain⟨x,_,_,_,_,_,q,_⟩:=q;exact q.elim
 .rename_i m;rw[Vu m]at b;refine⟨b.1,?_⟩;have q:=b.2;unfold wpListIn at q;exact u _ _ q
theorem WOy.yield{all:Array Oper}{o:Oper}{rest:List Oper}{d:Nat}{x:T}{J rem:List T}(R:X.nx J x rem)(hg:Qq all o env true)(E:o.dst=some d)(hN:Nat.blt d N=true)
  (L:∀fr ro σ a w,Rel fr ro σ H env N a w->∃vs:List Value,LR ro [] w (X.enc x) vs/\(execOp a.eval o).run P w=(Instr.yield X.l vs.toArray).run P w)
  (k:∀b:Bool,WOy X P h0 N all rest (up env d (.bool b)) H (bif b then .on rem else .off rem) Q):WOy X P h0 N all (o::rest) env H (.on J) Q:=by
 intro W M fr ro σ a w g r hj hrd;obtain⟨vs,hv,he⟩:=L fr ro σ a w r;obtain⟨q,hq,O⟩:=hj.1;obtain⟨fn,tmps,assign,V,h1,h2⟩:=W.round J x rem q g ro w vs R O hq (λb z=>⟨r.sim.roLt b z,λy=>r.sim.roFr b z (hj.2.sub b y)⟩) hv;have Y:=he.trans h1;unfold wpL wpListIn;rw[Vv (YB hg r)];refine⟨λ_ _=>trivial,?_⟩;rw[QcP Y (λd e=>by cases e)];refine⟨λh=>by simp[WF,Fence.wide]at h,?_⟩;refine RoundIn.mono (F:=WF M) (n:=0) h2 ?_;rintro e i ⟨j,p,t,m,f⟩;obtain⟨s',ev⟩:=r.sim.round hj.2.sub m;have G:d<N:=by simpa using hN
 have u:Ext ro σ w ro σ i:=by have:=ev.ext σ [];simpa using this
 have fin:∀b:Bool,X.at (bif b then .on rem else .off rem) j ro i->wpL P M all (Qdh X h0 fr ro σ w N a.defers Q) rest (a.put o.dst (.bool b)) i:=by
  intro b f;have hm:Qdk (λb=>fr b\/j b) a.defers i:=by
   refine⟨r.defers.1,λd E=>?_⟩;obtain⟨D,rfl,B,q2⟩:=r.defers.2 d E;exact⟨D,rfl,.inl B,(m.keep D (r.sim.frLt D B) (hj.2.beside D E)).trans q2⟩
  have hi:In j (λb=>fr b\/j b) a.defers:=by
   refine⟨λb q=>.inr q,λD hD q=>?_⟩;rcases m.new D q with p|p
   .exact hj.2.beside D hD p
   .obtain⟨D',e,B,_⟩:=r.defers.2 _ hD;have:D=D':=by simpa using e
    subst this;have:=r.sim.frLt D B;omega
  have r':Rel (λb=>fr b\/j b) ro σ H (up env d (.bool b)) N {a with tmps:=a.tmps.setIfInBounds d (.bool b)} i:=
   ⟨s',VR.up (fr:=fr) (λs=>(r.env s).mono u) (by rw[r.size];exact G) rfl,by simpa using r.size,hm⟩
  have:=k b W M _ ro σ _ i j r' ⟨f,hi⟩ hrd;simp only[E,Act.put];refine Yj (λe a2 w2 q=>q.grow (λ_ q=>q) m.size rfl ⟨λ_ q=>.inl q,λb q=>?_,λ_ q=>.inl q⟩) _ _ _ this;rcases q with q|q
  .exact .inl q
  .rcases m.new b q with q|q
   .exact .inl (hj.2.sub b q)
   .exact .inr q
 rcases f with⟨rfl,f⟩|⟨rfl,f⟩
 .exact fin true ⟨p,t,f⟩
 .exact fin false ⟨p,t,f⟩
end
def EndY{T:Type}:Yz T:=λx env H st=>(x=.normal\/x=.ret)/\(st=.on []\/ ∃rem,st=.off rem)
theorem Qde{T:Type}{P:Program}{f:FuncId}{fn:Func}{c:Code}{N:Nat}{a:List A}{H:Qd}{enc:T->List A}{nx:List T->T->List T->Prop}{xs:List T}
  (hf:P.funcs[f]?=some fn)(W:fn.body=some c)(hN:fn.ntmps=N)(hA:Nat.ble (a.length+1) N=true)(hR:fn.results= #[])
  (h:∀X:Ctx T,X.enc=enc->X.nx=nx->TCy X P H.length N c (QgB 0 (.fn (.yield X.l) [] []::a)) H (.on xs) EndY):Qhy P f a H enc nx xs:=by
 intro X hE hNx hX fr ro0 σ w capv q0 hs hq0 hl hj;have p:LR ro0 σ w (.fn (.yield X.l) [] []::a) (Value.func (.yield X.l) #[] #[]::capv):=⟨_,_,rfl,⟨[],[],rfl,rfl,rfl⟩,hl⟩;have t:=p.length;have ab:a.length+1<=N:=by simpa using hA
 refine(callsIn_wide (n:=0)).1 (callsIn_of_wp_marks hf W trivial (Code.wpIn_mono ?_ (h X hE hNx hX none fr ro0 σ _ w fr ⟨hs,?_,?_,List.nodup_nil,λd y=>by cases y⟩ ⟨⟨q0,hq0,hj⟩,λ_ q=>q,λD hD=>by cases hD⟩ rfl)))
 .rintro e E Q ⟨x,V,H1,st,O,σ1,aa,M,R,⟨h2,z⟩,j,⟨Y,k⟩,h5,h6,h7,h8⟩;have m:LeavesInM Fence.wide 0 P fn E.tmps (λe W'=>(∃v,e=.returned v)/\ ∃g q',(∀b,fr b->g b)/\((X.J [] q' g W')\/(∃rem,X.Jx rem q' g W'))) E.defers .returning Q:=by
   refine Qbs (ro:=O) (fr:=M) (σ:=σ1) (H:=H1) E.defers Q j.defers.1 (λd y=>?_) (j.sim.frMono k.sub) (λw2 s2 r=>?_)
   .obtain⟨D,rfl,F,q2⟩:=j.defers.2 d y;exact⟨D,rfl,λq=>j.sim.roFr D q F,k.beside D y,λi x L B G=>(j.sim.own i D x L B G).2.2 F,λi d x L B G=>(j.sim.hid i d x D L B G).fr F,q2⟩
   .have u:=hX.up (hX.ev Y r) (g':=λb=>M b\/fr b) (λb q=>.inl q) (λb q=>Vh (j.sim.frLt b (q.elim (k.sub b) (h8.sub b))) r.size);obtain⟨q9,_,u⟩:=u;refine⟨.tuple #[],by simp[results,hR,go_sem],⟨_,rfl⟩,λb=>M b\/fr b,q9,λb q=>.inr q,?_⟩;rcases z with rfl|⟨rem,rfl⟩
    .exact .inl u
    .exact .inr ⟨rem,u⟩
  cases e with
  |normal=>exact m
  |ret=>exact m
  |exit id=>
   obtain rfl:x=.exit id:=R;rcases h2 with q|q<;>cases q
  |_=>exact R.elim
 .intro s;have:=Qe4 (i:=0) [] rfl p (Array.replicate (fn.ntmps-(Value.func (.yield X.l) #[] #[]::capv).toArray.size) undef) s;simpa using this
 .simp only[X3]at t;simp[hN];omega
section
variable {T:Type} {X:Ctx T} {P:Program} {h0 N:Nat} {c c':Code} {env:Env} {H:Qd} {st:YSt T} {Q Q':Yz T}
theorem TCy.mono(h:TCy X P h0 N c env H st Q)(m:∀x env H st,Q x env H st->Q' x env H st):TCy X P h0 N c env H st Q':=by
 intro p t q s σ a w g r hj hrd;refine Code.wpIn_mono ?_ (h p t q s σ a w g r hj hrd);rintro e u y ⟨x,b,H',f,d,σ',i,j,l,k,n⟩;exact⟨x,b,H',f,d,σ',i,j,l,m _ _ _ _ k,n⟩
theorem TCy.skip(h:Q .normal env H st):TCy X P h0 N .skip env H st Q:=TCy.lift (TC.skip h)
theorem TCy.ret(h:Q .ret env H st):TCy X P h0 N .ret env H st Q:=TCy.lift (TC.ret h)
theorem TCy.exit{id:Nat}(h:Q (.exit id) env H st):TCy X P h0 N (.exit id) env H st Q:=TCy.lift (TC.exit h)
def BloY(id:Nat)(Q:Yz T):Yz T
 |.normal,env,H,st=>Q .normal env H st
 |.exit id',env,H,st=>bif Nat.beq id' id then Q .normal env H st else Q (.exit id') env H st
 |.ret,env,H,st=>Q .ret env H st
theorem TCy.block{id:Nat}(h:TCy X P h0 N c env H st (BloY id Q)):TCy X P h0 N (.block id c) env H st Q:=by
 intro s y t u σ a w g r hj hrd;refine wpIn_block (Code.wpIn_mono ?_ (h s y t u σ a w g r hj hrd));rintro e z B ⟨x,b,H',i,f,σ',j,l,m,k,n⟩;cases e with
 |normal=>
  obtain rfl:x=.normal:=m;exact⟨_,b,H',i,f,σ',j,l,rfl,k,n⟩
 |exit d=>
  obtain rfl:x=.exit d:=m;show Exit.inBlock id _ _ _ _;unfold Exit.inBlock;simp only[BloY]at k;by_cases q:d=id
  .subst q;rw[VH,Vr]at k;simp only[if_true];exact⟨.normal,b,H',i,f,σ',j,l,rfl,k,n⟩
  .have p:Nat.beq d id=false:=by
    cases e:Nat.beq d id with
    |false=>rfl
    |true=>exact absurd (XT e) q
   rw[p,Vs]at k;simp only[q,if_false];exact⟨.exit d,b,H',i,f,σ',j,l,rfl,k,n⟩
 |ret=>
  obtain rfl:x=.ret:=m;exact⟨_,b,H',i,f,σ',j,l,rfl,k,n⟩
 |_=>exact m.elim
end
section
variable {T:Type} {X:Ctx T} {P:Program} {h0 N:Nat} {c:Code} {env:Env} {H:Qd} {st:YSt T} {Q:Yz T}
def QlT(I:Env->Qd->YSt T->Prop)(Q:Yz T):Yz T
 |.normal,env,H,st=>I env H st
 |.exit id,env,H,st=>Q (.exit id) env H st
 |.ret,env,H,st=>Q .ret env H st
theorem QgJ{I:Nat->Env->Qd->YSt T->Prop}(body:∀n env H st,I n env H st->TCy X P h0 N c env H st (QlT (λenv H st=>∃n',n'<n/\I n' env H st) Q)){n:Nat}(G:I n env H st):TCy X P h0 N (.loop c) env H st Q:=by
 intro hX W z B σ a w g r hj hrd b k cs hro hb hr;have E:∀m n env H st fr1 ro1 σ1 a1 w1 g1,n<m->I n env H st->Rel fr1 ro1 σ1 H env N a1 w1->(∀b,B b->ro1 b)->w.heap.size<=w1.heap.size->σ1.take h0=σ.take h0->Grow z w a.defers fr1 a1.defers->X.at st g1 ro1 w1/\In g1 fr1 a1.defers->
   ∃e h i,Qdh X h0 z B σ w N a.defers Q e h i/\ArrivesIn (Machine.fenced P (WF W)) P (lone (b.atR a1 (.code c::.inLoop c::k)) cs w1) b k cs e h i:=by
  intro m
  induction m with
  |zero=>intro n env H st fr1 ro1 σ1 a1 w1 g1 hn;exact absurd hn (Xm _)
  |succ m ih=>
   intro n env H st fr1 ro1 σ1 a1 w1 g1 hn G r1 s1 z1 t1 gr1 j1;obtain⟨e,h,i,J,d⟩:=body n env H st G hX W fr1 ro1 σ1 a1 w1 g1 r1 j1 hrd b (.inLoop c::k) cs hro hb hr;obtain⟨x,f,H',l,p,σ',u,V,y,t,R,L,q5,q6,M,q8⟩:=J;have O:=λb q=>q5 b (s1 b q);have s:=gr1.trans z1 q8;have Y:∀x,Q x f H' l->ExR e x->Qdh X h0 z B σ w N a.defers Q e h i:=λx q q'=>⟨x,f,H',l,p,σ',u,V,q',q,R,L,O,XY z1 q6,M.trans t1,s⟩;cases e with
   |normal=>
    obtain rfl:x=.normal:=y;obtain⟨n',aa,t⟩:=t;obtain⟨e2,a2,w2,F,j⟩:=ih n' f H' l u p σ' h i V (by omega) t R O (XY z1 q6) (M.trans t1) s L;exact⟨e2,a2,w2,F,.of_steps (StepsIn.trans d (.one (fenced_calm hb hr rfl) stepR_inLoop)) j⟩
   |exit id=>
    obtain rfl:x=.exit id:=y;exact⟨_,h,i,Y _ t rfl,.pass (x:=.inLoop c) rfl (λ_ _=>.inl (by simp)) d⟩
   |ret=>
    obtain rfl:x=.ret:=y;exact⟨_,h,i,Y _ t rfl,.pass (x:=.inLoop c) rfl (λ_ _=>.inl (by simp)) d⟩
   |_=>exact y.elim
 obtain⟨e,h,i,J,d⟩:=E (n+1) n env H st z B σ a w g (Xn _) G r (λ_ q=>q) (XW _) rfl (Grow.refl _ _ _) hj;exact⟨e,h,i,J,.of_steps (.one (fenced_calm hb hr rfl) stepR_loop) d⟩
end
end Go.Sw
namespace Go.Sw
theorem Sim.part{fr ro:Nat->Prop}{σ:Sig}{H:Qd}{w:World}(s0:Sim fr ro σ H w){π:List Nat}{Hc:Qd}(hH:π.map (λp=>H[p]?)=(Hc.map (QV (rho π H.length))).map some)(hπ:π.Nodup):
  Sim (λb=>fr b\/(∃i x,σ[i]?=some (some b)/\H[i]?=some x/\x.live=true/\i∉π)\/ ∃i x d,σ[i]?=some (some d)/\H[i]?=some x/\Hid w x d b/\i∉π) ro (Yd σ π) Hc w/\ ∀j:Nat,σ[rho π H.length j]?=(Yd σ π)[j]? :=by
 have hp:∀p∈π,p<H.length:=λp q=>Jf hH q;have hσl:=s0.len;have h:∀(j p:Nat),π[j]?=some p->H[p]?=(Hc[j]?).map (QV (rho π H.length)):=by
  intro j p a;have:=congrArg (λl=>l[j]?) hH;simp only[Xp,a,Xj]at this;cases e:Hc[j]? with
  |none=>rw[e]at this;simp at this
  |some x=>rw[e]at this;simpa using this
 have P:π.length=Hc.length:=by simpa using congrArg List.length hH
 have hσc:∀j:Nat,σ[rho π H.length j]?=(Yd σ π)[j]? :=by
  intro j;have:=Qem (τ:=[]) hσl hp j;simpa using this
 have hπj:∀(j b:Nat),(Yd σ π)[j]?=some (some b)->∃p,π[j]?=some p/\σ[p]?=some (some b):=by
  intro j b a;simp only[Yd,Xp]at a;cases e:π[j]? with
  |none=>rw[e]at a;simp at a
  |some p=>
   rw[e]at a;simp at a;refine⟨p,rfl,?_⟩;cases r:σ[p]? with
   |none=>rw[r]at a;simp at a
   |some s=>rw[r]at a;simp at a;rw[a]
 refine⟨?_,hσc⟩
 .refine⟨by simp[Yd,P],s0.roOk,?_,?_,?_,?_,?_,?_⟩
  .rintro b (L|⟨i,x,g,n,m,M⟩|⟨i,x,d,g,n,m,M⟩)
   .exact s0.frLt b L
   .exact(s0.own i b x g n m).1
   .exact(s0.hid i d x b g n m).lt
  .rintro b L (N|⟨i,x,g,n,m,M⟩|⟨i,x,d,g,n,m,M⟩)
   .exact s0.roFr b L N
   .exact(s0.own i b x g n m).2.1 L
   .exact(s0.hid i d x b g n m).ro L
  .intro j b x g n m;obtain⟨p,f,r⟩:=hπj j b g;have E:H[p]?=some (QV (rho π H.length) x):=by rw[h j p f,n];rfl
   obtain⟨o1,o2,o3⟩:=s0.own p b _ r E (by rw[QN];exact m);refine⟨o1,o2,?_⟩;rintro(N|⟨i,y,y1,y2,G,O⟩|⟨i,y,d,y1,y2,G,O⟩)
   .exact o3 N
   .have:=s0.inj i p b _ _ y1 r y2 E G (by rw[QN];exact m);subst this;exact O (VJ f)
   .exact(s0.hid i d y b y1 y2 G).ne p b _ r E (by rw[QN];exact m) rfl
  .intro i j b x y g n m M q5 q6;obtain⟨p,f,r⟩:=hπj i b g;obtain⟨u,t,Y⟩:=hπj j b n;have E:H[p]?=some (QV (rho π H.length) x):=by rw[h i p f,m];rfl
   have W:H[u]?=some (QV (rho π H.length) y):=by rw[h j u t,M];rfl
   have:=s0.inj p u b _ _ r Y E W (by rw[QN];exact q5) (by rw[QN];exact q6);subst this;have F:i<π.length:=by
    rcases VE i π.length with q|q
    .exact q
    .rw[XR q]at f;simp at f
   have a:j<π.length:=by
    rcases VE j π.length with q|q
    .exact q
    .rw[XR q]at t;simp at t
   rw[XN F]at f;rw[XN a]at t;have z:=(X2 f).trans (X2 t).symm;rcases Nat.lt_trichotomy i j with q|q|q
   .exact(VG.1 hπ i j F a q z).elim
   .exact q
   .exact(VG.1 hπ j i a F q z.symm).elim
  .intro j s x g n;have a:j<π.length:=by
    rcases VE j π.length with q|q
    .exact q
    .rw[XR (by simpa[Yd]using q)]at g;simp at g
   have f:π[j]?=some π[j]:=XN a;have E:H[π[j]]?=some (QV (rho π H.length) x):=by rw[h j _ f,n];rfl
   have r:σ[π[j]]?=some s:=by
    have:=hσc j;rw[g]at this;simpa[rho,f]using this
   exact(QhL hσc).1 (s0.blk _ s _ r E)
  .intro j b x c g n m;obtain⟨p,f,r⟩:=hπj j b g;have E:H[p]?=some (QV (rho π H.length) x):=by rw[h j p f,n];rfl
   have k:=s0.hid p b _ c r E ((Qan _ _ _ _ _).2 m);refine⟨k.lt,k.ro,?_,?_,?_⟩
   .rintro(N|⟨i,y,y1,y2,G,O⟩|⟨i,y,d,y1,y2,G,O⟩)
    .exact k.fr N
    .exact k.ne i c y y1 y2 G rfl
    .obtain⟨rfl,rfl⟩:=k.one i d y y1 y2 G;exact O (VJ f)
   .intro B Q y V T R;obtain⟨u,J,X⟩:=hπj B Q V;exact k.ne u Q _ X (show H[u]?=some (QV (rho π H.length) y)by rw[h B u J,T];rfl) (by rw[QN];exact R)
   .intro B Q y V T R;obtain⟨u,J,X⟩:=hπj B Q V;obtain⟨z4,z5⟩:=k.one u Q _ X (show H[u]?=some (QV (rho π H.length) y)by rw[h B u J,T];rfl) ((Qan _ _ _ _ _).2 R);subst z5;have F:B<π.length:=(XO.1 J).1;have a:j<π.length:=(XO.1 f).1;rw[XN F]at J;rw[XN a]at f;have z:=(X2 J).trans (X2 f).symm;refine⟨z4,?_⟩;rcases Nat.lt_trichotomy B j with q|q|q
    .exact(VG.1 hπ B j F a q z).elim
    .exact q
    .exact(VG.1 hπ j B a F q z.symm).elim
theorem Sim.frames{fr fr' ro:Nat->Prop}{σ:Sig}{H:Qd}{w:World}(s:Sim fr ro σ H w)(lt:∀b,fr' b->b<w.heap.size)(hro:∀b,ro b->¬fr' b)(own:∀(i b:Nat) (x:Blk),σ[i]?=some (some b)->H[i]?=some x->x.live=true->¬fr' b)
  (hd:∀(i b:Nat) (x:Blk) (c:Nat),σ[i]?=some (some b)->H[i]?=some x->Hid w x b c->¬fr' c):Sim fr' ro σ H w:=
 ⟨s.len,s.roOk,lt,hro,λi b x q1 q2 q3=>⟨(s.own i b x q1 q2 q3).1,(s.own i b x q1 q2 q3).2.1,own i b x q1 q2 q3⟩,s.inj,s.blk,
  s.hidTo (· = ·) QZ (XW _) (λ_ _ _ _ _ _ _ q=>q) (λi b x c q1 q2 q3 q4=>(hd i b x c q1 q2 q3 q4).elim) λj d y g1 g2 g3=>.inl ⟨j,y,rfl,g1,g2,id,λ_ q=>q⟩⟩
def Qkv(H:Qd)(p:Nat):Qd:=match H[p]? with
 |some x=>bif x.holds then H.set p .dead else H
 |none=>H
def Qd0:Qd->List Nat->Qd
 |H,[]=>H
 |H,p::π=>Qd0 (Qkv H p) π
theorem Qd1(H:Qd)(p:Nat):(Qkv H p=H/\ ∀x,H[p]?=some x->x.holds=false)\/Qkv H p=H.set p .dead:=by
 unfold Qkv;cases h:H[p]? with
 |none=>exact .inl ⟨rfl,λx q=>by cases q⟩
 |some x=>
  cases q:x.holds with
  |false=>exact .inl ⟨by simp[q],λy a=>by cases a;exact q⟩
  |true=>exact .inr (by simp[q])
theorem Qe5:∀(π:List Nat) (H:Qd) (i:Nat) (x:Blk),(Qd0 H π)[i]?=some x->x=.dead\/(H[i]?=some x/\(x.holds=true->i∉π))
 |[],H,i,x,h=>.inr ⟨h,λ_=>by simp⟩
 |p::π,H,i,x,h=>by
  rcases Qe5 π _ i x h with h|⟨h1,h2⟩
  .exact .inl h
  .rcases Qd1 H p with⟨e,hl⟩|e
   .rw[e]at h1;refine .inr ⟨h1,λhx=>?_⟩;simp only[X8,not_or];refine⟨λq=>?_,h2 hx⟩;subst q;have:=hl x h1;rw[this]at hx;cases hx
   .rw[e]at h1;by_cases q:p=i
    .subst q;rw[Xb]at h1;simp at h1;exact .inl h1.2.symm
    .rw[XS q]at h1;exact .inr ⟨h1,λhx=>by simp only[X8,not_or];exact⟨λr=>q r.symm,h2 hx⟩⟩
theorem QdJ{fr ro:Nat->Prop}{σ:Sig}{w:World}:∀(π:List Nat) {H:Qd} (s:Sim fr ro σ H w),Sim fr ro σ (Qd0 H π) w
 |[],_,s=>s
 |p::π,H,s=>by
  rw[Qd0];rcases Qd1 H p with h|h
  .rw[h.1];exact QdJ π s
  .rw[h];exact QdJ π (s.kill p)
theorem Sim.put{fr ro:Nat->Prop}{σ:Sig}{H:Qd}{w:World}(s:Sim fr ro σ H w){b:Nat}{obj:Obj}(l:fr b)(p:w.shape? b=none):
  Sim fr ro σ H (w.putObj b obj)/\Qh (λc=>c≠b) ro w ro (w.putObj b obj):=by
 have a:∀c,c≠b->(w.putObj b obj).heap[c]?=w.heap[c]? :=λc B=>World.putObj_heap_other B;have f:(w.putObj b obj).heap.size=w.heap.size:=by simp
 have m:∀c,ro c->c≠b:=λc q e=>s.roFr c q (e▸l);have ev:Qh (λc=>c≠b) ro w ro (w.putObj b obj):=by
  refine⟨λ_ q=>q,λc q=>a c (m c q),λc q=>a c q,by rw[f];exact XW _,λc x q=>?_,rfl,rfl,rfl,XW _⟩;by_cases e:c=b
  .subst e;rw[p]at q;cases q
  .unfold World.shape? at q⊢;rw[a c e];exact q
 have h:Ext ro σ w ro σ (w.putObj b obj):=by have:=ev.ext σ [];simpa using this
 refine⟨⟨s.len,s.roOk.to (λ_ q=>q) ev.keepRo (λc q=>by rw[f];exact s.roLt c q),λc q=>by rw[f];exact s.frLt c q,s.roFr,λi c x k g F=>?_,s.inj,λi y x k g=>?_,
  s.hidTo (· = ·) QZ (by rw[f];exact XW _) (λ_ _ _ _ _ _ _ q=>q) (λ_ _ _ _ _ _ _ q=>q) λj d y n t J=>.inl ⟨j,y,rfl,n,t,id,λc q=>s.hidKeep n t (λz=>a d (λe=>(s.own j d y n t z).2.2 (e▸l))) ev.keepRo q⟩⟩,ev⟩
 .obtain⟨G,u,E⟩:=s.own i c x k g F;exact⟨by rw[f];exact G,u,E⟩
 .refine(s.blk i y x k g).keep h ?_ ?_
  .rintro c rfl r;exact a c (λe=>(s.own i c x k g r).2.2 (e▸l))
  .rintro d c rfl r;exact a c (λe=>(s.hid i d x c k g r).fr (e▸l))
theorem Qbr{w:World}{l:Nat}{r:Loop}(h:w.heap[l]?=some (.loop r)):w.shape? l=none:=by
 unfold World.shape?;rw[h]
structure Fix where
 fr:Nat->Prop
 ro:Nat->Prop
 σ:Sig
 w:World
 h1:Nat
 env:Env
 tmps:Array Value
 ds1:List Deferred
 l:Nat
 rc:LoopState->Option Code->Loop
 fr1:Nat->Prop
structure Fix.Ok (D:Fix):Prop where
 sub:∀b,D.fr b->D.fr1 b
 l1:D.fr1 D.l
 lf:¬D.fr D.l
 len:D.σ.length=D.h1
structure RJ (D:Fix) (ro1:Nat->Prop) (σ1:Sig) (H:Qd) (st:LoopState) (pe:Option Code) (q g:Nat->Prop) (W:World):Prop where
 sim:Sim D.fr1 ro1 σ1 H W
 env:∀t,VR ro1 D.σ W (lk D.env t) (D.tmps.getD t undef)
 sig:σ1.take D.h1=D.σ
 ev:Qh D.fr D.ro D.w ro1 W
 marks:Qdk D.fr1 D.ds1 W
 rc:W.heap[D.l]?=some (.loop (D.rc st pe))
 roG:∀b,ro1 b->q b\/g b
 frG:∀b,D.fr1 b->g b
 own:∀(i b:Nat) (x:Blk),σ1[i]?=some (some b)->H[i]?=some x->x.live=true->g b
 hidG:∀(i b:Nat) (x:Blk) (c:Nat),σ1[i]?=some (some b)->H[i]?=some x->Hid W x b c->g c
 lt:∀b,g b->b<W.heap.size
theorem QdR{σ σ1:Sig}{a:Nat}(h:σ1.take a=σ){i b:Nat}(q:σ[i]?=some (some b)):σ1[i]?=some (some b):=by
 subst h;rw[List.getElem?_take]at q;split at q
 .exact q
 .cases q
section
variable {D:Fix} {ro1:Nat->Prop} {σ1:Sig} {H:Qd} {st:LoopState} {pe:Option Code} {qR g:Nat->Prop} {W:World}
theorem RJ.step(r:D.Ok)(j:RJ D ro1 σ1 H st pe qR g W){ro':Nat->Prop}{W':World}(e:Qh g qR W ro' W'):RJ D ro1 σ1 H st pe qR g W':=by
 have f:∀b,ro1 b->W'.heap[b]?=W.heap[b]? :=λb q=>(j.roG b q).elim (e.keepRo b) (e.keepFr b);have ev:Qh D.fr1 ro1 W ro1 W':=⟨λ_ q=>q,f,λb q=>e.keepFr b (j.frG b q),e.size,e.shape,e.os,e.tape,e.output,e.drawn⟩;have k:∀σ,Ext ro1 σ W ro1 σ W':=λ σ=>by have:=ev.ext σ [];simpa using this
 refine⟨⟨j.sim.len,j.sim.roOk.to (λ_ q=>q) f (λb q=>Vh (j.sim.roLt b q) e.size),λb q=>Vh (j.sim.frLt b q) e.size,j.sim.roFr,λi b x h a m=>?_,j.sim.inj,λi z x h a=>?_,
  j.sim.hidTo (· = ·) QZ e.size (λ_ _ _ _ _ _ _ q=>q) (λ_ _ _ _ _ _ _ q=>q) λi d y l p w=>.inl ⟨i,y,rfl,l,p,id,λc q=>j.sim.hidKeep l p (λz=>e.keepFr d (j.own i d y l p z)) f q⟩⟩,
  λt=>(j.env t).mono (k _),j.sig,j.ev.trans (ev.frMono r.sub),j.marks.keep ev,(ev.keepFr _ r.l1).trans j.rc,j.roG,j.frG,j.own,λi b x c h a m=>j.hidG i b x c h a (j.sim.hidKeep h a (λz=>e.keepFr b (j.own i b x h a z)) f m),λb q=>Vh (j.lt b q) e.size⟩
 .obtain⟨u,s⟩:=j.sim.own i b x h a m;exact⟨Vh u e.size,s⟩
 .refine(j.sim.blk i z x h a).keep (k _) ?_ ?_
  .rintro b rfl n;exact e.keepFr b (j.own i b x h a n)
  .rintro b c rfl n;exact e.keepFr c (j.hidG i b x c h a n)
theorem RJ.up{g':Nat->Prop}(j:RJ D ro1 σ1 H st pe qR g W)(h:∀b,g b->g' b)(hl:∀b,g' b->b<W.heap.size):RJ D ro1 σ1 H st pe qR g' W:=
 {j with roG:=λb q=>(j.roG b q).imp id (h b),frG:=λb q=>h b (j.frG b q),own:=λi b x q1 q2 q3=>h b (j.own i b x q1 q2 q3),hidG:=λi b x c q1 q2 q3=>h c (j.hidG i b x c q1 q2 q3),lt:=hl}
def FrB(D:Fix)(ro1 g:Nat->Prop)(W:World):Nat->Prop:=λb=>(D.fr1 b\/(¬g b/\ ¬ro1 b))/\b<W.heap.size
theorem RJ.simB(j:RJ D ro1 σ1 H st pe qR g W):Sim (FrB D ro1 g W) ro1 σ1 H W:=by
 refine j.sim.frames (λb q=>q.2) (λb q r=>?_) (λi b x d e a r=>?_) (λi b x c d e a r=>r.1.elim (j.sim.hid i b x c d e a).fr λr=>r.1 (j.hidG i b x c d e a))
 .rcases r.1 with r|r
  .exact j.sim.roFr b q r
  .exact r.2 q
 .rcases r.1 with r|r
  .exact(j.sim.own i b x d e a).2.2 r
  .exact r.1 (j.own i b x d e a)
theorem RJ.fin(E:D.Ok)(j:RJ D ro1 σ1 H st pe qR g W){y ro':Nat->Prop}{σ':Sig}{H':Qd}{W':World}{st':LoopState}{pe':Option Code}
  (ev:Qh (λb=>FrB D ro1 g W b/\b≠D.l) ro1 W ro' W')(s:Sim y ro' σ' H' W')(u:∀b,FrB D ro1 g W b->y b)(hσ:σ'.take D.h1=σ1.take D.h1)(R:W'.heap[D.l]?=some (.loop (D.rc st' pe'))):
  RJ D ro' σ' H' st' pe' qR (λb=>g b\/(W.heap.size<=b/\b<W'.heap.size)) W'/\QfG g (λb=>g b\/(W.heap.size<=b/\b<W'.heap.size)) W W':=by
 have n:∀b,D.fr1 b->FrB D ro1 g W b:=λb q=>⟨.inl q,j.sim.frLt b q⟩;have L:W.shape? D.l=none:=Qbr j.rc;have F:Qh D.fr ro1 W ro' W':=ev.frMono λb q=>⟨n b (E.sub b q),λe=>E.lf (e▸q)⟩;have w:Ext ro1 D.σ W ro' D.σ W':=ev.ext0 D.σ;have z:∀b,b<W.heap.size->b<W'.heap.size:=λb q=>Vh q ev.size;have m:∀b,b<W.heap.size->¬FrB D ro1 g W b->g b\/ro1 b:=by
  intro b h O;by_cases f:g b
  .exact .inl f
  .by_cases a:ro1 b
   .exact .inr a
   .exact absurd ⟨.inr ⟨f,a⟩,h⟩ O
 refine⟨⟨s.frames (λb q=>z b (j.sim.frLt b q)) (λb q r=>s.roFr b q (u b (n b r))) (λi b x f a p r=>(s.own i b x f a p).2.2 (u b (n b r))) (λi b x c f a p r=>(s.hid i b x c f a p).fr (u c (n c r))),
  λt=>(j.env t).mono w,hσ.trans j.sig,j.ev.trans F,⟨j.marks.1,λd T=>?_⟩,R,λb q=>?_,λb q=>.inl (j.frG b q),λi b x f a p=>?_,λi b x c f a p=>?_,λb q=>q.elim (λq=>z b (j.lt b q)) (λq=>q.2)⟩,
  ⟨λb q=>.inl q,λb q=>q.imp id (λq=>q.1),λb q=>q.elim (λq=>z b (j.lt b q)) (λq=>q.2),λb f a=>.inr ⟨f,a⟩,λb f a=>?_,ev.size,ev.shape,ev.os,ev.tape,ev.output,ev.drawn⟩⟩
 .obtain⟨B,M,J,G⟩:=j.marks.2 d T;refine⟨B,M,J,(ev.keepFr B ⟨n B J,λe=>?_⟩).trans G⟩;subst e;rw[j.rc]at G;cases G
 .rcases VE b W.heap.size with h|h
  .rcases m b h (λr=>s.roFr b q (u b r))with r|r
   .exact .inr (.inl r)
   .exact(j.roG b r).imp id .inl
  .exact .inr (.inr ⟨h,s.roLt b q⟩)
 .obtain⟨Q,N,P⟩:=s.own i b x f a p;rcases VE b W.heap.size with h|h
  .rcases m b h (λr=>P (u b r))with r|r
   .exact .inl r
   .exact absurd (ev.sub b r) N
  .exact .inr ⟨h,Q⟩
 .have k:=s.hid i b x c f a p;rcases VE c W.heap.size with h|h
  .rcases m c h (λr=>k.fr (u c r))with r|r
   .exact .inl r
   .exact absurd (ev.sub c r) k.ro
  .exact .inr ⟨h,k.lt⟩
 .by_cases r:ro1 b
  .exact ev.keepRo b r
  .exact ev.keepFr b ⟨⟨.inr ⟨a,r⟩,f⟩,λe=>a (j.frG b (e▸E.l1))⟩
end
theorem Sim.roAdd{fr ro e:Nat->Prop}{σ:Sig}{H:Qd}{w:World}(s:Sim fr ro σ H w)(m:∀b,e b->b<w.heap.size)(l:∀b,e b->¬fr b)(h:∀(i b:Nat) (x:Blk),σ[i]?=some (some b)->H[i]?=some x->x.live=true->¬e b)
  (g:∀(i b:Nat) (x:Blk) (c:Nat),σ[i]?=some (some b)->H[i]?=some x->Hid w x b c->¬e c):Sim fr (λb=>ro b\/e b) σ H w:=by
 have ext:Ext ro σ w (λb=>ro b\/e b) σ w:=⟨λ_ q=>.inl q,λ_ _=>rfl,λ_ _ q=>q,λ_ _ q=>q⟩;refine⟨s.len,s.roOk.to (λ_ q=>.inl q) (λ_ _=>rfl) (λb q=>q.elim (s.roLt b) (m b)),s.frLt,λb q=>q.elim (s.roFr b) (l b),λi b x f a k=>?_,s.inj,λi y x f a=>(s.blk i y x f a).keep ext (λ_ _ _=>rfl) (λ_ _ _ _=>rfl),
  s.hidTo (· = ·) QZ (XW _) (λi b x c f a k t=>t.elim id λq=>(g i b x c f a k q).elim) (λ_ _ _ _ _ _ _ q=>q) λj d y p z B=>.inl ⟨j,y,rfl,p,z,id,λ_ q=>q⟩⟩
 obtain⟨u,n,r⟩:=s.own i b x f a k;exact⟨u,λq=>q.elim n (h i b x f a k),r⟩
theorem RJ.roAdd{D:Fix}{ro1:Nat->Prop}{σ1:Sig}{H:Qd}{st:LoopState}{pe:Option Code}{qR ri g:Nat->Prop}{W:World}(j:RJ D ro1 σ1 H st pe qR g W)(hq:∀b,qR b->ri b)(hI:∀b,ri b->b<W.heap.size/\ ¬g b):RJ D (λb=>ro1 b\/ri b) σ1 H st pe ri g W:=
 {j with
  sim:=j.sim.roAdd (λb q=>(hI b q).1) (λb q z=>(hI b q).2 (j.frG b z)) (λi b x q1 q2 q3 z=>(hI b z).2 (j.own i b x q1 q2 q3)) (λi b x c q1 q2 q3 z=>(hI c z).2 (j.hidG i b x c q1 q2 q3))
  env:=λt=>(j.env t).mono ⟨λ_ q=>.inl q,λ_ _=>rfl,λ_ _ q=>q,λ_ _ q=>q⟩
  ev:=j.ev.trans (YG λ_ q=>.inl q)
  roG:=λb q=>q.elim (λq=>(j.roG b q).imp (hq b) id) .inl}
def Ql5:List Nat->List A->Env->Env
 |p::ps,a::zs,env=>Ql5 ps zs (up env p a)
 |_,_,env=>env
def Qjd:List Nat->List Value->Array Value->Array Value
 |p::ps,v::vs,t=>Qjd ps vs (t.setIfInBounds p v)
 |_,_,t=>t
theorem Qf6:∀(ps:List Nat) (vs:List Value) (t:Array Value),(Qjd ps vs t).size=t.size
 |[],_,_=>rfl
 |_::_,[],_=>rfl
 |p::ps,v::vs,t=>by simp[Qjd,Qf6 ps]
theorem Qf7:∀(ps:List Nat) (vs:List Value) (t:Array Value),(ps.toArray.zip vs.toArray).foldl (λt (p,v)=>t.setIfInBounds p v) t=Qjd ps vs t
 |[],vs,t=>by rw[<- Array.foldl_toList,Array.toList_zip];rfl
 |p::ps,[],t=>by rw[<- Array.foldl_toList,Array.toList_zip];rfl
 |p::ps,v::vs,t=>by
  have:=Qf7 ps vs (t.setIfInBounds p v);rw[<- Array.foldl_toList,Array.toList_zip]at this⊢;exact this
theorem Qkg{ro:Nat->Prop}{σ:Sig}{w:World}:∀(ps:List Nat) (zs:List A) (vs:List Value) (env:Env) (t:Array Value),LR ro σ w zs vs->(∀p∈ps,p<t.size)->(∀s,VR ro σ w (lk env s) (t.getD s undef))->
  ∀s,VR ro σ w (lk (Ql5 ps zs env) s) ((Qjd ps vs t).getD s undef)
 |[],_,_,_,_,_,_,h=>h
 |p::ps,[],vs,_,_,hv,_,h=>by
  obtain rfl:vs=[]:=hv;exact h
 |p::ps,a::zs,vs,env,t,hv,hp,h=>by
  obtain⟨v,vs',rfl,h0,hv'⟩:=hv;have h1:=VR.up (fr:=λ_=>False) (a:={tmps:=t,defers:=[]}) h (hp p (by simp)) h0;exact Qkg ps zs vs' (up env p a) (t.setIfInBounds p v) hv' (λq hq=>by simpa using hp q (by simp[hq])) h1
def QjV(h1:Nat)(env:Env)(Q:QB)(K:Qd->Prop):QB
 |.normal,env',H'=>∃H2,Le h1 env' H' [] H2/\K H2
 |.exit id,env',H'=>∃H2,Le h1 env' H' [] H2/\Q (.exit id) env H2
 |.ret,env',H'=>∃H2,Le h1 env' H' [] H2/\Q .ret env H2
def Jump(Q:QB)(env:Env)(c:Code)(H:Qd):Prop:=(∃id,c=.exit id/\Q (.exit id) env H)\/(c=.ret/\Q .ret env H)
section
variable {D:Fix} {ro0:Nat->Prop} {σ1:Sig} {H:Qd} {qR ri g:Nat->Prop} {W:World} {P:Program} {N:Nat} {Q:QB} {K:Qd->Prop}
theorem RJ.round{fn:FuncId}{ps:List Nat}{assign body:Code}{df:Nat}{cs:List A}{vs:List Value}(hD:D.Ok)(x:D.rc=λst pe=>{state:=st,pending:=pe,fn:=fn,tmps:=D.tmps,params:=ps.toArray,assign:=assign,body:=body,defers:=df})
  (hN:D.tmps.size=N)(ag:∀p∈ps,p<N)(ac:cs.length=ps.length)(hq:∀b,qR b->ri b)(hI:∀b,ri b->b<W.heap.size/\ ¬g b)(V:LR ri [] W cs vs)(j0:RJ D ro0 σ1 H .ready none qR g W)
  (h:TC P D.h1 N assign (Ql5 ps cs D.env) H λe env1 H1=>e=.normal/\TC P D.h1 N body env1 H1 (QjV D.h1 D.env Q K)):
  YieldAt Fence.wide 0 P D.l vs.toArray W λe W'=>∃g',QfG g g' W W'/\((e=.returned (.bool true)/\ ∃H2 ro2 σ2,K H2/\RJ D ro2 σ2 H2 .ready none ri g' W')\/
   (e=.returned (.bool false)/\ ∃H2 c ro2 σ2,Jump Q D.env c H2/\RJ D ro2 σ2 H2 .done (some c) ri g' W')):=by
 have al:vs.length=cs.length:=V.length;have j:=j0.roAdd hq hI;have y:LR (λb=>ro0 b\/ri b) σ1 W cs vs:=V.mono ⟨λ_ q=>.inr q,λ_ _=>rfl,λ_ _ q=>q,λi b q=>by simp at q⟩;clear j0;generalize(λb=>ro0 b\/ri b)=ro1 at j y;have ae:∀b,D.fr1 b->FrB D ro1 g W b:=λb q=>⟨.inl q,j.sim.frLt b q⟩;have t:=ae _ hD.l1;have F:=j.rc;have hy:=run_yield (P:=P) (r:=D.rc .ready none) (args:=vs.toArray) F (by rw[x];simp[al,ac]);refine⟨fn,Qjd ps vs D.tmps,assign,body,?_,?_⟩
 .rw[hy,x];simp only[];rw[<- Qf7]
 .refine roundIn_of_wpIn trivial ?_;show Code.wpIn (WF (some D.l)) 0 P _ _ _ _;have aa:∀s,VR ro1 σ1 W (lk D.env s) (D.tmps.getD s undef):=λs=>(j.env s).mono ⟨λ_ q=>q,λ_ _=>rfl,λ_ _ q=>q,λi b q=>QdR j.sig q⟩;have ai:Qek (some D.l) (FrB D ro1 g W) W:=λl e=>by cases e;exact⟨t,_,F⟩
  have w1:=h (some D.l) (FrB D ro1 g W) ro1 σ1 {tmps:=Qjd ps vs D.tmps,defers:=[]} W ⟨j.simB,Qkg ps cs vs D.env D.tmps y (by rw[hN];exact ag) aa,by simp[Qf6,hN],List.nodup_nil,λd hd=>by cases hd⟩ ai;refine Code.wpIn_mono ?_ w1;rintro e a1 w1 ⟨x1,env1,H1,ro2,σ2,m,h1,⟨rfl,h2⟩,R,h4,h5,h6⟩;cases e with
  |normal=>
   have k:w1.heap[D.l]?=some (.loop (D.rc .ready none)):=(h4.keepFr _ t).trans F;refine⟨_,run_beginRound k (by rw[x]),?_⟩;obtain⟨s2,G⟩:=R.sim.put (obj:=.loop {D.rc .ready none with state:=.busy}) (h6.sub _ t) (Qbr k);have X:D.l<w1.heap.size:=by rw[Ve]at k;exact k.1
   have L:(w1.putObj D.l (.loop {D.rc .ready none with state:=.busy})).heap[D.l]?=some (.loop {D.rc .ready none with state:=.busy}):=World.putObj_heap_same X;generalize hw2:w1.putObj D.l (.loop {D.rc .ready none with state:=.busy})=w2 at*;have aj:Qdk m a1.defers w2:=by
    refine⟨R.defers.1,λd hd=>?_⟩;obtain⟨B,e1,e2,e3⟩:=R.defers.2 d hd;refine⟨B,e1,e2,(G.keepFr B (λe=>?_)).trans e3⟩;subst e;rw[k]at e3;cases e3
   have r2:Rel m ro2 σ2 H1 env1 N a1 w2:=⟨s2,λs=>(R.env s).mono (G.ext0 σ2),R.size,aj⟩;have E:m D.l:=h6.sub _ t;refine Code.wpIn_mono ?_ (h2 (some D.l) m ro2 σ2 a1 w2 r2 (λl e=>by cases e;exact⟨E,_,L⟩));rintro e a3 w3 ⟨x3,ab,H3,J,σ3,T,g1,g2,g3,g4,g5,g6⟩;have u:w3.heap[D.l]?=some (.loop {D.rc .ready none with state:=.busy}):=(g4.keepFr _ E).trans L;have z:∀(H2:Qd) (jump:Option Code),Le D.h1 ab H3 [] H2->∃v n,(Instr.endRound D.l jump).run P w3=.ok v n/\v=.bool jump.isNone/\ ∃g',QfG g g' W n/\ ∃a σ4,RJ D a σ4 H2 (if jump.isNone then .ready else .done) jump ri g' n:=by
    intro H2 jump f;obtain⟨a,σ4,r4,s4,t4⟩:=f T J σ3 N a3 w3 g3;refine⟨_,_,run_endRound jump u,rfl,?_⟩;have ah:T D.l:=g6.sub _ E;obtain⟨s5,af⟩:=r4.sim.put (obj:=.loop {{D.rc .ready none with state:=.busy}with state:=if jump.isNone then .ready else .done,pending:=jump}) ah (Qbr u);have M:D.l<w3.heap.size:=by rw[Ve]at u;exact u.1
    have ak:=World.putObj_heap_same (w:=w3) (r:=D.l) (o:=.loop {{D.rc .ready none with state:=.busy}with state:=if jump.isNone then .ready else .done,pending:=jump}) M;have e1:Qh (λb=>FrB D ro1 g W b/\b≠D.l) ro1 W ro2 w1:=h4.frMono λb q=>q.1;have e2:Qh (λb=>FrB D ro1 g W b/\b≠D.l) ro2 w1 ro2 w2:=G.frMono λb q=>q.2;have e3:Qh (λb=>FrB D ro1 g W b/\b≠D.l) ro2 w2 J w3:=g4.frMono λb q=>h6.sub b q.1;have e4:Qh (λb=>FrB D ro1 g W b/\b≠D.l) J w3 a w3:=YG s4;have e5:=(((e1.trans e2).trans e3).trans e4).trans (af.frMono λb (q:FrB D ro1 g W b/\b≠D.l)=>q.2);obtain⟨q1,q2⟩:=j.fin hD e5 s5 (λb q=>g6.sub b (h6.sub b q)) (by rw[t4,g5,h5]) (st':=if jump.isNone then .ready else .done) (pe':=jump) (by rw[ak,x]);exact⟨_,q2,a,σ4,q1⟩
   cases e with
   |normal=>
    obtain rfl:x3=.normal:=g1;obtain⟨H2,f,hK⟩:=g2;obtain⟨v,n,k1,rfl,g',O,a,σ4,Y⟩:=z H2 none f;exact⟨_,n,k1,g',O,.inl ⟨rfl,H2,a,σ4,hK,Y⟩⟩
   |exit id=>
    obtain rfl:x3=.exit id:=g1;obtain⟨H2,f,hK⟩:=g2;obtain⟨v,n,k1,rfl,g',O,a,σ4,Y⟩:=z H2 (some (.exit id)) f;exact⟨_,n,k1,g',O,.inr ⟨rfl,H2,_,a,σ4,.inl ⟨id,rfl,hK⟩,Y⟩⟩
   |ret=>
    obtain rfl:x3=.ret:=g1;obtain⟨H2,f,hK⟩:=g2;obtain⟨v,n,k1,rfl,g',O,a,σ4,Y⟩:=z H2 (some .ret) f;exact⟨_,n,k1,g',O,.inr ⟨rfl,H2,_,a,σ4,.inr ⟨rfl,hK⟩,Y⟩⟩
   |_=>exact g1.elim
  |exit id=>cases h1
  |ret=>cases h1
  |_=>exact h1.elim
end
theorem Sim.beside{fr ro:Nat->Prop}{σ:Sig}{H:Qd}{w w1:World}(s:Sim fr ro σ H w)(ev:Qh fr ro w ro w1)(a:∀b,b<w.heap.size->w1.heap[b]?=w.heap[b]?):Sim (λb=>fr b\/(w.heap.size<=b/\b<w1.heap.size)) ro σ H w1:=by
 have g:Ext ro σ w ro σ w1:=ev.ext0 σ;refine⟨s.len,s.roOk.to (λ_ q=>q) ev.keepRo (λb q=>Vh (s.roLt b q) ev.size),λb q=>q.elim (λq=>Vh (s.frLt b q) ev.size) (λq=>q.2),λb q r=>?_,λi b x f e k=>?_,s.inj,λi z x f e=>?_,
  s.hidTo (· = ·) QZ ev.size (λ_ _ _ _ _ _ _ q=>q) (λi b x c f e k t=>t.elim id λq=>(by have:=(s.hid i b x c f e k).lt;omega)) λj d y h m B=>.inl ⟨j,y,rfl,h,m,id,λc q=>s.hidKeep h m (λz=>a d (s.own j d y h m z).1) ev.keepRo q⟩⟩
 .rcases r with r|r
  .exact s.roFr b q r
  .have:=s.roLt b q;omega
 .obtain⟨u,n,p⟩:=s.own i b x f e k;refine⟨Vh u ev.size,n,λr=>?_⟩;rcases r with r|r
  .exact p r
  .omega
 .refine(s.blk i z x f e).keep g ?_ ?_
  .rintro b rfl l;exact a b (s.own i b x f e l).1
  .rintro b c rfl l;exact a c (s.hid i b x c f e l).lt
theorem Qcd{w:World}{o:Obj}{b:Nat}(a:b<w.heap.size):(w.alloc o).heap[b]?=w.heap[b]? :=by
 show(w.heap.push o)[b]?=_;rw[Array.getElem?_push,Vu (by omega)]
theorem Qnh{P:Program}{fn:FuncId}{tmps:Array Value}{ps:Array Tmp}{assign body:Code}{rd:Option Nat}{fr ro:Nat->Prop}{w:World}(j:Qek rd fr w)(g:∀b,ro b->b<w.heap.size)(h:∀b,fr b->b<w.heap.size):
  ∃l mark w1 df,(Instr.enterLoop fn tmps ps assign body rd).run P w=.ok (l,mark) w1/\w.heap.size<=l/\l<w1.heap.size/\w1.heap[l]?=some (.loop {state:=.ready,pending:=none,fn:=fn,tmps:=tmps,params:=ps,assign:=assign,body:=body,defers:=df})/\
   (∀b,b<w.heap.size->w1.heap[b]?=w.heap[b]?)/\mark.Nodup/\(∀d∈mark,∃D,d={target:=.collected D,args:= #[]}/\w.heap.size<=D/\D<w1.heap.size/\w1.heap[D]?=some (.deferred (some [])))/\Qh fr ro w ro w1:=by
 have f:∀w1:World,(∀b,b<w.heap.size->w1.heap[b]?=w.heap[b]?)->w.heap.size<=w1.heap.size->w1.os=w.os->w1.tape=w.tape->w1.output=w.output->w1.drawn=w.drawn->Qh fr ro w ro w1:=by
  intro w1 i s t u r y;refine⟨λ_ q=>q,λb q=>i b (g b q),λb q=>i b (h b q),s,λb x q=>?_,t,u,r,by rw[y];exact XW _⟩;have e:b<w.heap.size:=by
   rcases VE b w.heap.size with z|z
   .exact z
   .unfold World.shape? at q;rw[Array.getElem?_eq_none (by simpa using z)]at q;cases q
  unfold World.shape? at q⊢;rw[i b e];exact q
 cases rd with
 |none=>
  have a:∀b,b<w.heap.size->((w.alloc (.deferred (some []))).alloc (.loop {state:=.ready,pending:=none,fn:=fn,tmps:=tmps,params:=ps,assign:=assign,body:=body,defers:=w.heap.size})).heap[b]?=w.heap[b]? :=λb e=>
   (Qcd (by simp;omega)).trans (Qcd e)
  refine⟨_,_,_,w.heap.size,run_enterLoop_outer fn tmps ps assign body,by omega,by simp,?_,a,by simp,?_,f _ a (by simp;omega) rfl rfl rfl rfl⟩
  .have:=World.alloc_heap_new (w.alloc (.deferred (some []))) (.loop {state:=.ready,pending:=none,fn:=fn,tmps:=tmps,params:=ps,assign:=assign,body:=body,defers:=w.heap.size})
   rwa [World.size_alloc]at this
  .intro d k;obtain rfl:=VD.1 k;exact⟨_,rfl,XW _,by simp;omega,(Qcd (by simp)).trans (World.alloc_heap_new w _)⟩
 |some p=>
  obtain⟨_,m,n⟩:=j p rfl;have a:∀b,b<w.heap.size->(w.alloc (.loop {state:=.ready,pending:=none,fn:=fn,tmps:=tmps,params:=ps,assign:=assign,body:=body,defers:=m.defers})).heap[b]?=w.heap[b]? :=λb e=>Qcd e;exact⟨_,_,_,m.defers,run_enterLoop_inner n fn tmps ps assign body,XW _,by simp,World.alloc_heap_new w _,a,List.nodup_nil,(λd k=>absurd k List.not_mem_nil),f _ a (by simp) rfl rfl rfl rfl⟩
theorem TC.rangeFunc{P:Program}{h0 N:Nat}{ac:Operand}{ps:List Nat}{assign body:Code}{env:Env}{H:Qd}{Q:QB}{f:FuncId}{ag af:List A}{Hc:Qd}{T S:Type}{enc:T->List A}{nx:List T->T->List T->Prop}{xs:List T}
  (π:List Nat)(Hp:S->Qd)(V:S->List T->Prop)(s0:S)(hh:h0<=H.length)(hg:opA env ac=.fn (.func f) [] ag)(hargs:ag=Qaa (rho π H.length) af)(hH:π.map (λp=>H[p]?)=(Hc.map (QV (rho π H.length))).map some)(hπ:π.Nodup)
  (be:(ps.all λp=>Nat.blt p N)=true)(eg:∀args w,(callFunc f args).run P w=.ok (.enter f args) w)(au:Qhy P f af Hc enc nx xs)(ay:∀x,(enc x).length=ps.length)
  (a5:Le H.length env (Qd0 H π) env (Hp s0))(hV:V s0 xs)
  (al:∀s l x rem,V s l->nx l x rem->TC P H.length N assign (Ql5 ps (enc x) env) (Hp s) λe env1 H1=>e=.normal/\TC P H.length N body env1 H1 (QjV H.length env Q λH2=>∃s',V s' rem/\H2=Hp s'))
  (ao:∀s,V s []->Q .normal env (Hp s)):TC P h0 N (.rangeFunc ac ps.toArray assign body) env H Q:=by
 intro rd fr ro σ a w r hrd;have hv:=Qg r ac;rw[hg]at hv;obtain⟨l1,E,hv,a9,aq⟩:=hv;obtain rfl:l1=[]:=a9;refine wpIn_rangeFunc ?_;intro fn bi;obtain⟨l,G,w1,df,he,hl,bg,ar,a0,bf,am,aa⟩:=Qnh (P:=P) (fn:=fn) (tmps:=a.tmps) (ps:=ps.toArray) (assign:=assign) (body:=body) (ro:=ro) hrd r.sim.roLt r.sim.frLt;have s1:=r.sim.beside aa a0
 let D:Fix:=⟨fr,ro,σ,w,H.length,env,a.tmps,G++a.defers,l,(λst pe=>{state:=st,pending:=pe,fn:=fn,tmps:=a.tmps,params:=ps.toArray,assign:=assign,body:=body,defers:=df}),(λb=>fr b\/(w.heap.size<=b/\b<w1.heap.size))⟩
 have ah:¬fr l:=λq=>by have:=r.sim.frLt l q;omega
 have hD:D.Ok:=⟨λb q=>.inl q,.inr ⟨hl,bg⟩,ah,r.sim.len⟩;have M:Qdk D.fr1 (G++a.defers) w1:=by
  refine⟨List.nodup_append.2 ⟨bf,r.defers.1,λd R d' bc e=>?_⟩,λd R=>?_⟩
  .subst e;obtain⟨B,e1,e2,_⟩:=am d R;obtain⟨B',a2,a8,_⟩:=r.defers.2 d bc;rw[e1]at a2;have:B=B':=by simpa using a2
   subst this;have:=r.sim.frLt B a8;omega
  .rcases VF.1 R with R|R
   .obtain⟨B,e1,e2,e3,e4⟩:=am d R;exact⟨B,e1,.inr ⟨e2,e3⟩,e4⟩
   .obtain⟨B,e1,e2,e3⟩:=(r.defers.keep aa).2 d R;exact⟨B,e1,.inl e2,e3⟩
 obtain⟨sp,hσc⟩:=s1.part hH hπ;have aj:LR ro (Yd σ π) w1 af E:=(QbE hσc).1 (hargs▸aq.mono (aa.ext0 σ))
 let frX:Nat->Prop:=λb=>D.fr1 b\/(∃(j:Nat) (x:Blk),(Yd σ π)[j]?=some (some b)/\Hc[j]?=some x/\x.live=true)\/ ∃(j:Nat) (x:Blk) (d:Nat),(Yd σ π)[j]?=some (some d)/\Hc[j]?=some x/\Hid w1 x d b
 have sX:Sim frX ro σ (Qd0 H π) w1:=by
  refine(QdJ π s1).frames (λb q=>?_) (λb q r=>?_) (λi b x n m k r=>?_) (λi b x c n m k r=>?_)
  .rcases q with q|⟨j,x,n,m,k⟩|⟨j,x,d,n,m,k⟩
   .exact s1.frLt b q
   .exact(sp.own j b x n m k).1
   .exact(sp.hid j d x b n m k).lt
  .rcases r with r|⟨j,x,n,m,k⟩|⟨j,x,d,n,m,k⟩
   .exact s1.roFr b q r
   .exact(sp.own j b x n m k).2.1 q
   .exact(sp.hid j d x b n m k).ro q
  .rcases Qe5 _ _ _ _ m with rfl|⟨m,hi⟩
   .cases k
   .rcases r with r|⟨j,y,p1,p2,Y⟩|⟨j,y,d,p1,p2,Y⟩
    .exact(s1.own i b x n m k).2.2 r
    .exact(sp.own j b y p1 p2 Y).2.2 (.inr (.inl ⟨i,x,n,m,k,hi (QbH k)⟩))
    .exact(sp.hid j d y b p1 p2 Y).fr (.inr (.inl ⟨i,x,n,m,k,hi (QbH k)⟩))
  .rcases Qe5 _ _ _ _ m with rfl|⟨m,hi⟩
   .exact k.elim
   .rcases r with r|⟨j,y,p1,p2,Y⟩|⟨j,y,d,p1,p2,Y⟩
    .exact(s1.hid i b x c n m k).fr r
    .exact(sp.own j c y p1 p2 Y).2.2 (.inr (.inr ⟨i,x,b,n,m,k,hi k.holds⟩))
    .exact(sp.hid j d y c p1 p2 Y).fr (.inr (.inr ⟨i,x,b,n,m,k,hi k.holds⟩))
 have rX:Rel frX ro σ (Qd0 H π) env N {a with defers:=G++a.defers} w1:=
  ⟨sX,λs=>(r.env s).mono (aa.ext0 σ),r.size,M.1,λd R=>let⟨B,e1,e2,e3⟩:=M.2 d R;⟨B,e1,.inl e2,e3⟩⟩
 obtain⟨ae,σ',r',ab,a4⟩:=a5 frX ro σ N _ w1 rX;have hσt:σ.take H.length=σ:=by rw[<- r.sim.len,Vb]
 let g0:Nat->Prop:=λb=>D.fr1 b\/(ae b/\ ¬ro b)\/(∃(i:Nat) (x:Blk),σ'[i]?=some (some b)/\(Hp s0)[i]?=some x/\x.live=true)\/ ∃(i:Nat) (x:Blk) (d:Nat),σ'[i]?=some (some d)/\(Hp s0)[i]?=some x/\Hid w1 x d b
 have j0:RJ D ae σ' (Hp s0) .ready none ro g0 w1:=by
  refine⟨r'.sim.frMono λb q=>.inl q,λt=>(r.env t).mono ⟨ab,aa.keepRo,aa.shape,λ_ _ q=>q⟩,a4.trans hσt,aa.trans (YG ab),M,ar,λb q=>?_,λb q=>.inl q,λi b x n m k=>.inr (.inr (.inl ⟨i,x,n,m,k⟩)),λi b x c n m k=>.inr (.inr (.inr ⟨i,x,b,n,m,k⟩)),λb q=>?_⟩
  .by_cases z:ro b
   .exact .inl z
   .exact .inr (.inr (.inl ⟨q,z⟩))
  .rcases q with q|q|⟨i,x,n,m,k⟩|⟨i,x,d,n,m,k⟩
   .exact s1.frLt b q
   .exact r'.sim.roLt b q.1
   .exact(r'.sim.own i b x n m k).1
   .exact(r'.sim.hid i d x b n m k).lt
 have sI:Sim g0 ro (Yd σ π) Hc w1:=by
  refine sp.frames (λb q=>j0.lt b q) (λb q z=>?_) (λj b x n m k z=>?_) (λj b x c n m k z=>?_)
  .rcases z with z|z|⟨i,x,n,m,k⟩|⟨i,x,d,n,m,k⟩
   .exact s1.roFr b q z
   .exact z.2 q
   .exact(r'.sim.own i b x n m k).2.1 (ab b q)
   .exact(r'.sim.hid i d x b n m k).ro (ab b q)
  .have hX:frX b:=.inr (.inl ⟨j,x,n,m,k⟩);rcases z with z|z|⟨i,y,p1,p2,Y⟩|⟨i,y,d,p1,p2,Y⟩
   .exact(sp.own j b x n m k).2.2 (.inl z)
   .exact r'.sim.roFr b z.1 hX
   .exact(r'.sim.own i b y p1 p2 Y).2.2 hX
   .exact(r'.sim.hid i d y b p1 p2 Y).fr hX
  .have hX:frX c:=.inr (.inr ⟨j,x,b,n,m,k⟩);rcases z with z|z|⟨i,y,p1,p2,Y⟩|⟨i,y,d,p1,p2,Y⟩
   .exact(sp.hid j b x c n m k).fr (.inl z)
   .exact r'.sim.roFr c z.1 hX
   .exact(r'.sim.own i c y p1 p2 Y).2.2 hX
   .exact(r'.sim.hid i d y c p1 p2 Y).fr hX
 let X:Ctx T:={l:=l,J:=λrem q g W=>∃s F σ1,V s rem/\RJ D F σ1 (Hp s) .ready none q g W,Jx:=λ_ q g W=>∃H2 c F σ1,Jump Q env c H2/\RJ D F σ1 H2 .done (some c) q g W,enc:=enc,nx:=nx}
 have ax:∀p∈ps,p<N:=λp hp=>by simpa using Xt.1 be p hp
 have hX:X.ok P:=by
  refine⟨⟨λrem q g W W' ae ⟨s,F,σ1,L,O⟩ he=>⟨s,F,σ1,L,O.step hD he⟩,λrem q g g' W ⟨s,F,σ1,L,O⟩ hg hl=>⟨s,F,σ1,L,O.up hg hl⟩⟩,
   ⟨λrem q g W W' ae ⟨H2,c,F,σ1,L,O⟩ he=>⟨H2,c,F,σ1,L,O.step hD he⟩,λrem q g g' W ⟨H2,c,F,σ1,L,O⟩ hg hl=>⟨H2,c,F,σ1,L,O.up hg hl⟩⟩,?_⟩
  rintro lr x rem q g ri W vs ba ⟨s,F,σ1,L,O⟩ hq hI bd;obtain⟨bb,tm,a3,a6,y1,y2⟩:=RJ.round (D:=D) (Q:=Q) (K:=λH2=>∃s',V s' rem/\H2=Hp s') hD rfl r.size ax (ay x) hq hI bd O (al s lr x rem L ba);refine⟨bb,tm,a3,a6,y1,RoundIn.mono y2 ?_⟩;rintro e W' ⟨g',k1,k2⟩;refine⟨g',ri,λ_ z=>z,k1,?_⟩;rcases k2 with⟨rfl,H2,u,σ2,⟨s',a7,rfl⟩,k3⟩|⟨rfl,H2,c,u,σ2,k3,k4⟩
  .exact .inl ⟨rfl,s',u,σ2,a7,k3⟩
  .exact .inr ⟨rfl,H2,c,u,σ2,k3,k4⟩
 have av:∀(ev:Operand->Value),ev ac=.func (.func f) #[] E.toArray->ev (.const (.func (.yield l) #[] #[]))=.func (.yield l) #[] #[]->(resolve ev (rangeCall ac l) 0).run P w1=.ok {target:=.fn (.func f) E.toArray,args:= #[.func (.yield l) #[] #[]]} w1:=by
  intro ev L O;simp[resolve,go_sem,L,O]
 refine⟨l,G,w1,{target:=.fn (.func f) E.toArray,args:= #[.func (.yield l) #[] #[]]},w1,f, #[.func (.yield l) #[] #[]]++E.toArray,w1,he,av a.eval hv rfl,λ_ _=>trivial,by simp[invoke,go_sem,eg],λh=>by simp[WF,Fence.wide]at h,?_⟩;refine WF.calls.2 ?_;have ak:=au X rfl rfl hX g0 ro (Yd σ π) w1 E ro sI (λ_ z=>z) aj ⟨s0,ae,σ',hV,j0⟩;have an:(#[.func (.yield l) #[] #[]]++E.toArray:Array Value)=((Value.func (.yield X.l) #[] #[]::E)).toArray:=by simp[X]
 rw[an];refine Calls.mono ak ?_;rintro e W' ⟨⟨v,rfl⟩,g2,qz,bh,aw⟩;have fin:∀(H2:Qd) (st:LoopState) (pe:Option Code) (u:Nat->Prop) (σ2:Sig),st≠ .busy->RJ D u σ2 H2 st pe qz g2 W'->∃w4,(Instr.endLoop l).run P W'=.ok pe w4/\Rel D.fr1 u σ2 H2 env N {a with defers:=G++a.defers} w4/\Qh fr ro w u w4:=by
  intro H2 st pe u σ2 hst j;refine⟨_,run_endLoop j.rc (by exact hst),?_⟩;obtain⟨s5,ai⟩:=j.sim.put (obj:=.loop {(D.rc st pe)with state:=.exhausted}) hD.l1 (Qbr j.rc);have hr:=j.rc;refine⟨⟨s5,λt=>((j.env t).mono ⟨λ_ q=>q,λ_ _=>rfl,λ_ _ q=>q,λi b q=>QdR j.sig q⟩).mono (ai.ext0 σ2),r.size,j.marks.1,λd R=>?_⟩,j.ev.trans (ai.frMono λb q e=>ah (by have e':b=l:=e;rw[<- e'];exact q))⟩;obtain⟨B,e1,e2,e3⟩:=j.marks.2 d R;refine⟨B,e1,e2,(ai.keepFr B (λe=>?_)).trans e3⟩;subst e;rw[hr]at e3;cases e3
 have az:Grow fr w a.defers D.fr1 (G++a.defers):=by
  refine⟨λb q=>.inl q,λb q=>q.imp id (λq=>q.1),λd R=>?_⟩;rcases VF.1 R with R|R
  .obtain⟨B,e1,e2,_⟩:=am d R;exact .inr ⟨B,e1,e2⟩
  .exact .inl R
 have a1:∀{σ2:Sig},σ2.take H.length=σ->σ2.take h0=σ.take h0:=by
  intro σ2 h;have:=congrArg (List.take h0) h
  rwa [List.take_take,XD hh]at this
 rcases aw with⟨s,u,σ2,L,O⟩|⟨rem,H2,c,u,σ2,L,O⟩
 .obtain⟨w4,f1,f2,f3⟩:=fin _ _ _ u σ2 (by intro e;cases e) O;exact⟨none,w4,f1,.normal,env,_,u,σ2,_,rfl,ao s L,f2,f3,a1 O.sig,az⟩
 .obtain⟨w4,f1,f2,f3⟩:=fin _ _ _ u σ2 (by intro e;cases e) O;refine⟨some c,w4,f1,?_⟩;have hc:TC P h0 N c env H2 Q:=by
   rcases L with⟨id,rfl,L⟩|⟨rfl,L⟩
   .exact TC.exit L
   .exact TC.ret L
  exact Code.wpIn_mono (λe a w q=>q.grow f3 (a1 O.sig) az) (hc rd D.fr1 u σ2 _ w4 f2 (hrd.to f3 λb q=>.inl q))
end Go.Sw
namespace Go.Sw
theorem Qi1{h0 i k t T:Nat}{env:Env}{H:Qd}(X:Nat.ble h0 H.length=true)(hH:H[i]?=some (.cells T [.nils])):Le h0 env H env (H.set i (.cells T [.osl H.length 0 0 k])++[.row t k []]):=by
 intro fr F σ N a w r;have G:h0<=H.length:=XU X;have M:i<H.length:=(XO.1 hH).1;have ext:Ext F σ w F (σ++[none]) w:=⟨λ_ q=>q,λ_ _=>rfl,λ_ _ q=>q,λ_ _ h=>YH h⟩;have s:=r.sim.phantom t k;have n:(H++[Blk.row t k []])[i]?=some (.cells T [.nils]):=by rw[XP M];exact hH
 have e0:H.set i (.cells T [.osl H.length 0 0 k])++[.row t k []]=(H++[Blk.row t k []]).set i (.cells T [.osl H.length 0 0 k]):=by
  rw[List.set_append_left _ _ M]
 have g:∀(j:Nat) (v:Blk),((H++[Blk.row t k []]).set i (.cells T [.osl H.length 0 0 k]))[j]?=some v->(j=i/\v=.cells T [.osl H.length 0 0 k])\/(j≠i/\(H++[Blk.row t k []])[j]?=some v):=by
  intro j v h;by_cases e:j=i
  .subst e;rw[Xa (by simp;omega)]at h;exact .inl ⟨rfl,by simpa using h.symm⟩
  .rw[XS (λq=>e q.symm)]at h;exact .inr ⟨e,h⟩
 have f:∀(j:Nat) (v:Blk),((H++[Blk.row t k []]).set i (.cells T [.osl H.length 0 0 k]))[j]?=some v->v.live=true->∃u,(H++[Blk.row t k []])[j]?=some u/\u.live=true:=by
  intro j v h V;rcases g j v h with⟨rfl,rfl⟩|⟨_,h⟩
  .exact⟨_,n,rfl⟩
  .exact⟨v,h,V⟩
 refine⟨F,σ++[none],⟨?_,λq=>(r.env q).mono ext,r.size,r.defers⟩,λ_ q=>q,Qv (by rw[r.sim.len];exact G)⟩;rw[e0];refine⟨by rw[X6];exact s.len,s.roOk,s.frLt,s.roFr,λj b v z B J=>?_,λj O b v u z B J W q5 q6=>?_,λj y v z B=>?_,
  s.hidTo (· = ·) QZ (XW _) (λ_ _ _ _ _ _ _ q=>q) (λ_ _ _ _ _ _ _ q=>q) λj d y m p Q=>.inl ?_⟩
 rotate_left 3
 .rcases g j y p with⟨rfl,rfl⟩|⟨_,h⟩
  .exact⟨j,_,rfl,m,n,λ_=>rfl,λ_ q=>q.elim⟩
  .exact⟨j,y,rfl,m,h,id,λ_ q=>q⟩
 .obtain⟨u,m,p⟩:=f j v B J;exact s.own j b u z m p
 .obtain⟨x,m,p⟩:=f j v J q5;obtain⟨x',E,L⟩:=f O u W q6;exact s.inj j O b x x' z B m E p L
 .rcases g j v B with⟨rfl,rfl⟩|⟨_,h⟩
  .have:=s.blk j y _ z n;cases y with
   |none=>exact this
   |some b=>
    obtain⟨l,m,⟨Y,P,rfl,p,Q⟩,R⟩:=this;refine⟨_,m,⟨Y,P,rfl,.inl ⟨rfl,p⟩,?_⟩,R⟩;obtain rfl:P=[]:=Q;rfl
  .exact s.blk j y v z h
theorem QkU{h0 i:Nat}{env:Env}{H:Qd}{es:List (A×A)}(hH:H[i]?=some (.map es)):Le h0 env H env (H.set i (.fmap es)):=by
 intro e f σ N a w r;have d:∃s,σ[i]?=some s:=by
  have:i<σ.length:=by rw[r.sim.len];exact(XO.1 hH).1
  exact⟨_,XN this⟩
 obtain⟨s,d⟩:=d;cases s with
 |none=>exact(r.sim.blk i _ _ d hH).elim
 |some b=>
  refine⟨_,σ,⟨r.sim.shutMap d hH,λq=>(r.env q).mono ⟨λ_ q=>.inl q,λ_ _=>rfl,λ_ _ q=>q,λ_ _ q=>q⟩,r.size,r.defers⟩,λ_ q=>.inl q,rfl⟩
def anyN{T:Type}(l:List T)(x:T)(rem:List T):Prop:=l.Perm (x::rem)
def QnA(ts te:Nat)(ld:Op):Code:=.block 1 (.region 3 #[{dst:=some 8,op:=.load ts (.tmp 2),type:=ts,pos:="iter.go:52",after:= #[],guard:=none},{dst:=some 9,op:=ld,type:=te,pos:="iter.go:52",after:= #[],guard:=none},
 {dst:=some 10,op:=.buildSlice ts 1 #[(0,.tmp 9)],type:=ts,pos:="iter.go:52",after:= #[{on:=1,ground:=.data}],guard:=none},
 {dst:=some 11,op:=.call {callee:=.builtin .append,args:= #[.tmp 8,.tmp 10],argTypes:= #[ts,ts]},type:=ts,pos:="iter.go:52",after:= #[{on:=0,ground:=.data},{on:=2,ground:=.data}],guard:=none},
 {dst:=none,op:=.store ts (.tmp 2) (.tmp 11),type:=0,pos:="iter.go:52",after:= #[{on:=3,ground:=.data},{on:=3,ground:=.chain},{on:=0,ground:=.phase},{on:=1,ground:=.phase},{on:=2,ground:=.phase},{on:=3,ground:=.phase}],guard:=none}] false)
def Qp3(ts tq te:Nat)(asg:Code)(ld:Op):Code:=(Code.region 0 #[{dst:=some 2,op:=.box ts (.tmp 0),type:=0,pos:="iter.go:50",after:= #[],guard:=none},{dst:=some 4,op:=.assign (.const (.slice none 0 0)),type:=ts,pos:="iter.go:50",after:= #[],guard:=none}] false).seq
 (((Code.region 1 #[{dst:=some 6,op:=.move (.tmp 1),type:=tq,pos:="iter.go:51",after:= #[],guard:=none}] false).seq (.block 0 (.rangeFunc (.tmp 6) #[7] asg (QnA ts te ld)))).seq
  ((Code.region 4 #[{dst:=some 12,op:=.load ts (.tmp 2),type:=ts,pos:="iter.go:54",after:= #[],guard:=none},{dst:=some 4,op:=.assign (.tmp 12),type:=ts,pos:="iter.go:54",after:= #[{on:=0,ground:=.data},{on:=0,ground:=.phase}],guard:=none}] false).seq .ret))
def Qp4(te:Nat):Code:=.region 2 #[{dst:=some 5,op:=.assign (.tmp 7),type:=te,pos:="iter.go:51",after:= #[],guard:=none}] false
section
variable {P:Program} {T:Type} {ts tq te k tm:Nat} {g:FuncId} {es:List (A×A)} {e:T->List A} {ea:T->A} {xs:List T}
abbrev apH(ts te k tm:Nat)(es:List (A×A))(e:T->List A)(done:List T):Qd:=[.dead,.fmap es,.cells ts [.osl 3 0 done.length k],.row te k (done.map e)]
abbrev apE(g:FuncId):Env:=[(6,.fn (.func g) [] [.ptr 0 0]),(4,.nils),(2,.ptr 2 0),(0,.nils),(1,.fn (.func g) [] [.ptr 0 0])]
theorem QoE{N:Nat}(z:N=13){done:List T}{x:T}{env:Env}{H:Qd}{K:Qd->Prop}{r:Op}(E:QU P ts te k)(M:∀w,(isAgg ts).run P w=.ok false w)(L:∀w,(sizeOf ts).run P w=.ok 1 w)(u:app done [x]=some (done++[x]))
  (G:(e x).length=k)(d:Nat.ble k 16777216=true)(h:Yb (ea x)=true)(a:Q0 (ea x)=e x)(g:(e x).all Yl=true)(R:Yf (e x)=true)(V:Nat.ble 3 H.length=true)
  (p:lk env 2=.ptr 2 0)(j:H[2]?=some (.cells ts [.osl 3 0 done.length k]))(l:H[3]?=some (.row te k (done.map e)))
  (b:∀env',(∀s,s≠8->lk env' s=lk env s)->∀pos,OpV P {dst:=some 9,op:=r,type:=te,pos:=pos,after:= #[],guard:=none} env' H (ea x))
  (O:∀env',∃H2,Le 3 env' (((((H++[Blk.row te k [e x]]).set 3 .dead)++[Blk.row te k ((done++[x]).map e)]).set 2 (.cells ts [.osl (H.length+1) 0 (done++[x]).length k]))) [] H2/\K H2){env0:Env}{Q:QB}:
  TC P 3 N (QnA ts te r) env H (QjV 3 env0 Q K):=by
 subst z;have B:3<=H.length:=XU V;have J:3<H.length:=(XO.1 l).1;refine TC.block (TC.region ?_);refine QF rfl rfl rfl (OpV.load (v:=.osl 3 0 done.length k) (cs:=[]) rfl M p (Pts.cells j rfl)) ?_;refine QF rfl rfl rfl (x:=ea x) ?_ ?_
 .refine b _ (λs F=>?_) _;simp only[up,lk];have:Nat.beq s 8=false:=by
   rw[VO];intro q;exact F (XT q)
  rw[this];rfl
 refine Y3 (by omega) rfl rfl rfl (OpH.lit (xs:=[.tmp 9]) (es:=[e x]) E rfl rfl (by simpa using d) ?_ ?_ ⟨G,trivial⟩ (by simpa using g) (by simpa using R)) ?_
 .simp[opA,lk,up,h]
 .simp[Q8,opA,lk,up,a]
 refine Y3 (x:=.osl (H.length+1) 0 (done++[x]).length k) (H':=((H++[Blk.row te k [e x]]).set 3 .dead)++[Blk.row te k ((done++[x]).map e)]) (by simp;omega) rfl rfl rfl ?_ ?_
 .have:=QI (P:=P) (o:={dst:=some 11,op:=.call {callee:=.builtin .append,args:= #[.tmp 8,.tmp 10],argTypes:= #[ts,ts]},type:=ts,pos:="iter.go:52",after:= #[{on:=0,ground:=.data},{on:=2,ground:=.data}],guard:=none})
   (env:=up (up (up env 8 (.osl 3 0 done.length k)) 9 (ea x)) 10 (.osl H.length 0 1 k)) (H:=H++[Blk.row te k [e x]]) (x:=.tmp 8) (y:=.tmp 10) (e:=e) (m:=[x]) (i:=3) (n:=done.length) (ya:=.osl H.length 0 1 k) u E E.sl (Y4 (t:=te) (by simp) rfl) rfl rfl rfl rfl (by rw[XP J];exact l) rfl
  simpa using this
 refine Qbz (by simp;omega) rfl rfl (OpU.store (i:=2) (off:=0) (T:=ts) (n:=1) (cs:=[.osl 3 0 done.length k]) (vs:=[.osl (H.length+1) 0 (done++[x]).length k]) (cs':=[.osl (H.length+1) 0 (done++[x]).length k]) (v:=.osl (H.length+1) 0 (done++[x]).length k) rfl ?_ ?_ L rfl rfl rfl rfl rfl rfl rfl) ?_
 .exact p
 .have f:2<H.length:=by omega
  rw[XP (by simp;omega),XS (by decide),XP f];exact j
 .refine WO.nil ?_;exact O _
theorem Qnz{xs done l rem:List T}{x:T}(hl:Nat.ble xs.length Qy=true)(a:(done++l).Perm xs)(b:l.Perm (x::rem)):app done [x]=some (done++[x])/\((done++[x])++rem).Perm xs:=by
 have e:=a.length_eq;have d:=b.length_eq;have f:=XU hl;simp at e d;refine⟨?_,?_⟩
 .unfold app;have:Nat.ble (done.length+[x].length) Qy=true:=XV (by simp;omega);rw[this];rfl
 .refine List.Perm.trans ?_ a;simp only[Vk,List.singleton_append];exact(List.Perm.append_left done b).symm
theorem QgT{j:FuncId}{fn:Func}(G:P.funcs[j]?=some fn)(n:fn.body=some (Qp3 ts tq te (Qp4 te) (.move (.tmp 5))))(q:fn.ntmps=13)(u:fn.results= #[.tmp 4])(E:QU P ts te 1)(m:∀w,(isAgg ts).run P w=.ok false w)(y:∀w,(sizeOf ts).run P w=.ok 1 w)
  (J:∀args w,(callFunc g args).run P w=.ok (.enter g args) w)(b:Qhy P g [.ptr 0 0] [.cells tm [.map 1],.fmap es] (λx=>[ea x]) anyN xs)(hl:Nat.ble xs.length Qy=true)
  (M:∀x,QbP (ea x)=true)(h:∀x,Yb (ea x)=true)(e:∀x,Q0 (ea x)=[ea x])(f:∀x,Yl (ea x)=true)(L:∀x,Yp (ea x)=true):
  C P j [.nils,.fn (.func g) [] [.ptr 0 0]] [.cells tm [.map 1],.fmap es] (λr H1=>∃p:List T,p.Perm xs/\r=.osl 2 0 p.length 1/\H1=[.dead,.fmap es,.row te 1 (p.map λx=>[ea x])]):=by
 refine Qb G n q rfl ?_;refine TC.seq (TC.region ?_);refine Y3 (XU rfl) rfl rfl rfl (OpH.box (v:=.nils) (cs:=[.nils]) rfl rfl rfl rfl rfl) ?_;refine QF rfl rfl rfl (OpV.assign (v:=.nils) rfl rfl) ?_;refine WO.nil ?_;refine TC.seq (TC.seq (TC.region ?_));refine QF rfl rfl rfl (OpV.move (v:=.fn (.func g) [] [.ptr 0 0]) rfl rfl) ?_;refine WO.nil ?_;refine TC.block ?_;refine TC.rangeFunc (env:=apE g) (ps:=[7]) (S:=List T) [0,1] (apH ts te 1 tm es (λx=>[ea x])) (λdone l=>(done++l).Perm xs) [] (XU rfl) rfl rfl rfl (by decide) rfl J b (λx=>rfl) ?_ (List.Perm.refl _) ?_ ?_
 .exact Qi1 (h0:=3) (i:=2) (t:=te) (k:=1) (H:=[.dead,.fmap es,.cells ts [.nils]]) rfl rfl
 .intro done l x rem d s;obtain⟨F,B⟩:=Qnz hl d s;refine TC.region (QF rfl rfl rfl (OpV.assign (v:=ea x) rfl rfl) (WO.nil ⟨rfl,?_⟩));refine QoE (ea:=ea) rfl E m y F rfl rfl (h x) (e x) (by simp[f x]) (by simp[Yf,L x]) rfl rfl rfl rfl ?_ ?_
  .intro a z pos;exact OpV.move rfl (by show lk a 5=ea x;rw[z 5 (by decide)];rfl)
  .intro a;exact⟨_,Lr (H':=apH ts te 1 tm es (λx=>[ea x]) (done++[x])) [0,1,2,5],_,B,rfl⟩
 .intro done d;rw[Vi]at d;refine TC.seq (TC.region ?_);refine QF rfl rfl rfl (OpV.load (v:=.osl 3 0 done.length 1) (cs:=[]) rfl m rfl (Pts.cells rfl rfl)) ?_;refine QF rfl rfl rfl (OpV.assign (v:=.osl 3 0 done.length 1) rfl rfl) ?_;refine WO.nil ?_;refine TC.ret ?_;exact⟨[(4,.osl 2 0 done.length 1)],[.dead,.fmap es,.row te 1 (done.map λx=>[ea x])],_,Lr [0,1,3],Qcq.one u rfl,done,d,rfl,rfl⟩
end
theorem TCy.le{T:Type}{X:Ctx T}{P:Program}{h0 N:Nat}{c:Code}{env env':Env}{H H':Qd}{l:YSt T}{Q:Yz T}(j:Le h0 env H env' H')(h:TCy X P h0 N c env' H' l Q):TCy X P h0 N c env H l Q:=by
 intro x y m u σ a w g r hj hrd;obtain⟨d,σ',p,s,t⟩:=j m u σ N a w r;obtain⟨⟨n,f,k⟩,i⟩:=hj;exact Code.wpIn_mono (λe a w q=>q.grow s (XW _) t (Grow.refl _ _ _)) (h x y m d σ' a w g p ⟨⟨n,λb z=>s b (f b z),k⟩,i⟩ hrd)
mutual
theorem QhR:∀{a:A},QbP a=true->Yp a=true
 |.any,_=>rfl
 |.bool _,_=>rfl
 |.int _ _,_=>rfl
 |.str _,_=>rfl
 |.nilp,_=>rfl
 |.ptr _ _,h=>by simp[QbP]at h
 |.rp _,_=>rfl
 |.nils,_=>rfl
 |.rsl _ _,_=>rfl
 |.osl _ _ _ _,h=>by simp[QbP]at h
 |.agg cs,h=>by simp only[QbP]at h;simp only[Yp];exact Qf8 h
 |.fn _ a c,h=>by simp[QbP]at h
 |.nilf,_=>rfl
 |.iface _ v,h=>by simp[QbP]at h
 |.nilif,_=>rfl
 |.map _,h=>by simp[QbP]at h
 |.nilm,_=>rfl
 |.tup vs,h=>by simp[QbP]at h
theorem Qf8:∀{l:List A},QeK l=true->Yf l=true
 |[],_=>rfl
 |a::r,h=>by
  simp only[QeK,XZ]at h;simp only[Yf,XZ];exact⟨QhR h.1,Qf8 h.2⟩
end
theorem QhM{P:Program}{o:Oper}{env:Env}{H:Qd}{y z:Operand}{l:Nat}{a:A}{i:Array TypeId}(f:o.op=.call {callee:=.value y,args:= #[z],argTypes:=i})(g:opA env y=.fn (.yield l) [] [])(h:opA env z=a)(e:Yp a=true){N:Nat}:
  ∀fr ro σ act w,Rel fr ro σ H env N act w->∃vs:List Value,LR ro [] w [a] vs/\(execOp act.eval o).run P w=(Instr.yield l vs.toArray).run P w:=by
 intro fr ro σ act w r;have b:=Qg r y;rw[g]at b;obtain⟨m,k,b,j,n⟩:=b;obtain rfl:m=[]:=j;obtain rfl:k=[]:=n;have d:=Qg r z;rw[h]at d;refine⟨[act.eval z],⟨_,_,rfl,VR.data e d,rfl⟩,?_⟩;generalize act.eval=ev at*;simp[execOp,f,resolve,invoke,go_sem,b]
theorem QkZ{P:Program}{o:Oper}{env:Env}{H:Qd}{y b d:Operand}{l:Nat}{i j:A}{q:Array TypeId}(n:o.op=.call {callee:=.value y,args:= #[b,d],argTypes:=q})(p:opA env y=.fn (.yield l) [] [])(f:opA env b=i)(e:opA env d=j)(g:Yp i=true)(h:Yp j=true){N:Nat}:
  ∀fr ro σ act w,Rel fr ro σ H env N act w->∃vs:List Value,LR ro [] w [i,j] vs/\(execOp act.eval o).run P w=(Instr.yield l vs.toArray).run P w:=by
 intro fr ro σ act w r;have a:=Qg r y;rw[p]at a;obtain⟨u,t,a,s,x⟩:=a;obtain rfl:u=[]:=s;obtain rfl:t=[]:=x;have k:=Qg r b;rw[f]at k;have m:=Qg r d;rw[e]at m;refine⟨[act.eval b,act.eval d],⟨_,_,rfl,VR.data g k,_,_,rfl,VR.data h m,rfl⟩,?_⟩;generalize act.eval=ev at*;simp[execOp,n,resolve,invoke,go_sem,a]
def QmR(tm tb ty tk:Nat)(asg:Array Oper)(ld:Op):Code:=
 (Code.region 0 #[{dst:=some 4,op:=.load tm (.tmp 1),type:=tm,pos:="iter.go:27",after:= #[],guard:=none},{dst:=some 5,op:=.range tm (.tmp 4),type:=0,pos:="iter.go:27",after:= #[{on:=0,ground:=.data}],guard:=none}] false).seq
 (.block 0 (Code.loop ((Code.region 1 #[{dst:=some 6,op:=.next (.tmp 5) false,type:=0,pos:="iter.go:27",after:= #[],guard:=none},{dst:=some 7,op:=.extract (.tmp 6) 0,type:=tb,pos:="iter.go:27",after:= #[{on:=0,ground:=.data}],guard:=none}] false).seq
  ((Code.cond (.tmp 7) .skip (.exit 0)).seq (.block 1 ((Code.region 2 asg false).seq
   ((Code.region 3 #[{dst:=some 10,op:=.move (.tmp 0),type:=ty,pos:="iter.go:28",after:= #[],guard:=none},{dst:=some 11,op:=ld,type:=tk,pos:="iter.go:28",after:= #[],guard:=none},
    {dst:=some 12,op:=.call {callee:=.value (.tmp 10),args:= #[.tmp 11],argTypes:= #[tk]},type:=tb,pos:="iter.go:28",after:= #[{on:=0,ground:=.data},{on:=1,ground:=.data}],guard:=none},
    {dst:=some 13,op:=.unOp .not tb (.tmp 12),type:=tb,pos:="iter.go:28",after:= #[{on:=2,ground:=.data}],guard:=none}] false).seq (.cond (.tmp 13) .ret .skip))))))))
def QpK(tk:Nat):Array Oper:= #[{dst:=some 8,op:=.entry (.tmp 5),type:=0,pos:="iter.go:27",after:= #[],guard:=none},{dst:=some 9,op:=.extract (.tmp 8) 0,type:=tk,pos:="iter.go:27",after:= #[{on:=0,ground:=.data}],guard:=none},
 {dst:=some 3,op:=.assign (.tmp 9),type:=tk,pos:="iter.go:27",after:= #[{on:=1,ground:=.data},{on:=0,ground:=.phase},{on:=1,ground:=.phase}],guard:=none}]
section
variable {P:Program} {K V:Type} {tm tb ty tk kt et:Nat} {ek:K->A} {ev:V->A} {m:List (K×V)} {T:Type}
abbrev kyE(l:Nat):Env:=[(0,.fn (.yield l) [] []),(1,.ptr 0 0),(5,.ptr 2 0)]
abbrev kyH(tm:Nat)(ek:K->A)(ev:V->A)(m l:List (K×V)):Qd:=[.cells tm [.map 1],.fmap (Qi ek ev m),.iter none (Qi ek ev l)]
theorem Qlc{g:FuncId}{fn:Func}{h:Array Oper}{u:Op}(T:P.funcs[g]?=some fn)(E:fn.body=some (QmR tm tb ty tk h u))(F:fn.ntmps=14)(O:fn.results= #[])(R:∀w,(isAgg tm).run P w=.ok false w)(M:P.underlying tm=some (.map kt et))(G:∀x,QbP (ek x)=true)
  (round:∀(X:Ctx K) (e:K×V) (l:List (K×V)) (env:Env) (H:Qd) (d:YSt K) (Q:Yz K),lk env 0=.fn (.yield X.l) [] []->lk env 1=.ptr 0 0->lk env 5=.ptr 2 0->H=[.cells tm [.map 1],.fmap (Qi ek ev m),.iter (some (ek e.1,ev e.2)) (Qi ek ev l)]->
   (∀env' H',lk env' 0=.fn (.yield X.l) [] []->lk env' 1=.ptr 0 0->lk env' 5=.ptr 2 0->(∀env2 b,lk env2 0=.fn (.yield X.l) [] []->lk env2 1=.ptr 0 0->lk env2 5=.ptr 2 0->Le 2 (up (up env2 12 (.bool b)) 13 (.bool (!b))) H' (kyE X.l) (kyH tm ek ev m l))->
    (∀pos env2,(∀s,s≠10->lk env2 s=lk env' s)->OpV P {dst:=some 11,op:=u,type:=tk,pos:=pos,after:= #[],guard:=none} env2 H' (ek e.1))->Nat.ble 2 H'.length=true->Q .normal env' H' d)->
   TCy X P 2 14 (.region 2 h false) env H d Q):
  Qhy P g [.ptr 0 0] [.cells tm [.map 1],.fmap (Qi ek ev m)] (λx=>[ek x]) anyN (m.map Prod.fst):=by
 refine Qde T E F rfl O ?_;intro X hE hNx;refine TCy.seq (TCy.lift (TC.region ?_));refine QF rfl rfl rfl (OpV.load (v:=.map 1) (cs:=[]) rfl R rfl (Pts.cells rfl rfl)) ?_;refine Y3 (XU rfl) rfl rfl rfl (QfM M) ?_;refine WO.nil ?_;refine TCy.block ?_;refine QgJ (I:=λn env H d=>∃l:List (K×V),l.length=n/\d=.on (l.map Prod.fst)/\Le 2 env H (kyE X.l) (kyH tm ek ev m l)) ?_ ⟨m,rfl,rfl,Lr [0,1,2]⟩;rintro n env H d ⟨l,N,rfl,j⟩;refine TCy.le j ?_;refine TCy.seq (TCy.lift (TC.region ?_));refine QjT (XU rfl) rfl rfl rfl (OpE.next rfl rfl rfl) ?_;rintro v H' (⟨k,rfl,rfl⟩|⟨W,B,k,rfl,rfl⟩)
 .have J:l=[]:=List.map_eq_nil_iff.1 k;subst J;refine QF rfl rfl rfl (OpV.extract (v:=.bool false) rfl rfl rfl) ?_;refine WO.nil ?_;refine TCy.seq (TCy.cond (t:=false) rfl (λe=>by cases e) (λ_=>?_));exact TCy.exit ⟨.inl rfl,.inl rfl⟩
 .obtain⟨L,r,p⟩:=Qgg k rfl;cases L with
  |nil=>cases p
  |cons e i=>
   simp only[Vl,List.cons.injEq]at p;obtain⟨rfl,rfl⟩:=p;have f:i.length<n:=by rw[<- N, <- r.length_eq];simp
   refine QF rfl rfl rfl (OpV.extract (v:=.bool true) rfl rfl rfl) ?_;refine WO.nil ?_;refine TCy.seq (TCy.cond (t:=true) rfl (λ_=>?_) (λe=>by cases e));refine TCy.skip ?_;refine TCy.block ?_;refine TCy.seq (round X e i _ _ _ _ rfl rfl rfl rfl ?_);intro env' H' g0 g1 g5 hfin hld hL;refine TCy.seq (TCy.region ?_);refine WOy.step (QF rfl rfl rfl (OpV.move (v:=.fn (.yield X.l) [] []) rfl g0) (WO.nil ⟨rfl,?_⟩));refine WOy.step (QF rfl rfl rfl (x:=ek e.1) (hld _ _ λs q=>?_) (WO.nil ⟨rfl,?_⟩))
   .simp only[up,lk];have:Nat.beq s 10=false:=by rw[VO];intro z;exact q (XT z)
    rw[this];rfl
   refine WOy.yield (x:=e.1) (rem:=i.map Prod.fst) ?_ rfl rfl rfl ?_ ?_
   .rw[hNx];exact r.symm.map Prod.fst
   .rw[hE];refine QhM (y:=.tmp 10) (z:=.tmp 11) (l:=X.l) (a:=ek e.1) rfl ?_ ?_ (QhR (G _))
    .rfl
    .rfl
   .intro b;refine WOy.step (QF rfl rfl rfl (OpV.not (b:=b) rfl rfl) (WO.nil ⟨rfl,?_⟩));refine WOy.nil ?_;refine TCy.cond (t:= !b) rfl (λq=>?_) (λq=>?_)
    .obtain rfl:b=false:=by simpa using q
     exact TCy.ret ⟨.inr rfl,.inr ⟨_,rfl⟩⟩
    .obtain rfl:b=true:=by simpa using q
     refine TCy.skip ?_;exact⟨_,f,i,rfl,rfl,hfin _ true g0 g1 g5⟩
theorem QfF{g:FuncId}{fn:Func}(s:P.funcs[g]?=some fn)(d:fn.body=some (QmR tm tb ty tk (QpK tk) (.move (.tmp 3))))(f:fn.ntmps=14)(j:fn.results= #[])(n:∀w,(isAgg tm).run P w=.ok false w)(t:P.underlying tm=some (.map kt et))(k:∀x,QbP (ek x)=true):
  Qhy P g [.ptr 0 0] [.cells tm [.map 1],.fmap (Qi ek ev m)] (λx=>[ek x]) anyN (m.map Prod.fst):=by
 refine Qlc (et:=et) (kt:=kt) s d f j n t k ?_;intro X e l env H st Q g0 g1 g5 hH hk;subst hH;refine TCy.lift (TC.region ?_);refine QF rfl rfl rfl (OpV.entry (e:=(ek e.1,ev e.2)) rfl g5 rfl) ?_;refine QF rfl rfl rfl (OpV.extract (v:=ek e.1) rfl rfl rfl) ?_;refine QF rfl rfl rfl (OpV.assign (v:=ek e.1) rfl rfl) ?_;refine WO.nil ?_;refine hk _ _ g0 g1 g5 ?_ ?_ rfl
 .intro a b h r q;exact Le.trans (QgQ (i:=2) (es:=Qi ek ev l) rfl rfl) (Lr [0,1,2] (hE:=⟨h,r,q,trivial⟩))
 .intro pos a p;exact OpV.move rfl (by show lk a 3=_;rw[p 3 (by decide)];rfl)
end
def Qp0(ts tq fA:Nat):Code:=(Code.region 0 #[{dst:=some 2,op:=.assign (.const (.slice none 0 0)),type:=ts,pos:="iter.go:59",after:= #[],guard:=none}] false).seq
 ((Code.region 1 #[{dst:=some 3,op:=.move (.tmp 0),type:=tq,pos:="iter.go:60",after:= #[],guard:=none},
  {dst:=some 4,op:=.call {callee:=.value (.func fA),args:= #[.const (.slice none 0 0),.tmp 3],argTypes:= #[ts,tq]},type:=ts,pos:="iter.go:60",after:= #[{on:=0,ground:=.data}],guard:=none},
  {dst:=some 2,op:=.assign (.tmp 4),type:=ts,pos:="iter.go:60",after:= #[{on:=1,ground:=.data},{on:=1,ground:=.chain},{on:=0,ground:=.phase},{on:=1,ground:=.phase}],guard:=none}] false).seq .ret)
theorem QgS{P:Program}{T:Type}{b l f k j:Nat}{g:FuncId}{es:List (A×A)}{e:T->List A}{xs:List T}{fC a:FuncId}{fn:Func}(u:P.funcs[fC]?=some fn)(m:fn.body=some (Qp0 b l a))(n:fn.ntmps=5)(s:fn.results= #[.tmp 2])
  (i:∀(env:Env) (H:Qd),lk env 3=.fn (.func g) [] [.ptr 0 0]->OpC P {dst:=some 4,op:=.call {callee:=.value (.func a),args:= #[.const (.slice none 0 0),.tmp 3],argTypes:= #[b,l]},type:=b,pos:="iter.go:60",after:= #[{on:=0,ground:=.data}],guard:=none} env H a [.nils,.fn (.func g) [] [.ptr 0 0]])
  (t:C P a [.nils,.fn (.func g) [] [.ptr 0 0]] [.cells j [.map 1],.fmap es] (λr H1=>∃p:List T,p.Perm xs/\r=.osl 2 0 p.length k/\H1=[.dead,.fmap es,.row f k (p.map e)])):
  C P fC [.fn (.func g) [] [.ptr 0 0]] [.cells j [.map 1],.fmap es] (λr H1=>∃p:List T,p.Perm xs/\r=.osl 2 0 p.length k/\H1=[.dead,.fmap es,.row f k (p.map e)]):=by
 refine Qb u m n rfl ?_;refine TC.seq (TC.region ?_);refine QF rfl rfl rfl (OpV.assign (v:=.nils) rfl rfl) ?_;refine WO.nil ?_;refine TC.seq (TC.region ?_);refine QF rfl rfl rfl (OpV.move (v:=.fn (.func g) [] [.ptr 0 0]) rfl rfl) ?_;refine WO.call (d:=some 4) [0,1] (XU rfl) rfl rfl (λx h=>by cases h;decide) (i _ _ rfl) rfl rfl (by decide) t ?_;rintro r H1 ⟨p,q,rfl,rfl⟩;refine QF rfl rfl rfl (OpV.assign (v:=.osl 2 0 p.length k) rfl rfl) ?_;refine WO.nil ?_;refine TC.ret ?_;exact⟨[(2,.osl 2 0 p.length k)],[.dead,.fmap es,.row f k (p.map e)],_,Lr [0,1,2],Qcq.one s rfl,p,q,rfl,rfl⟩
def QnB{K R:Type}[DecidableEq R](l:List K)(k:List K->Option R):Option R:=bif Nat.ble l.length Qy then anyP k l else none
theorem QkO{K R:Type}[DecidableEq R]{l:List K}{k:List K->Option R}{r:R}(h:QnB l k=some r):Nat.ble l.length Qy=true/\ ∀p,p.Perm l->k p=some r:=by
 unfold QnB at h;cases q:Nat.ble l.length Qy with
 |true=>rw[q]at h;exact⟨rfl,QkM h⟩
 |false=>rw[q]at h;cases h
end Go.Sw
namespace Go.Sw
section
variable {P:Program} {o:Oper} {env:Env} {H:Qd} {fr ro:Nat->Prop} {σ:Sig} {w:World}
theorem QlU{h0 i t b1 b2:Nat}{es:List (List A)}{l:List Ent}(hH:H[i]?=some (.rowr t 3 es))(he:l.map (eC b1 b2)=es):Le h0 env H env (H.set i (.ents t b1 b2 l)):=by
 subst he;intro e d σ N a w r;refine⟨d,σ,⟨r.sim.weaken (x':=.ents t b1 b2 l) hH rfl ?_,r.env,r.size,r.defers⟩,λ_ q=>q,rfl⟩;intro y h;cases y with
 |none=>exact h.elim
 |some b=>exact h
theorem Qc7{b1 b2:Nat}:∀(l:List Ent),allK 3 (l.map (eC b1 b2))
 |[]=>trivial
 |e::l=>⟨rfl,Qc7 l⟩
theorem Sim.phantomE(s:Sim fr ro σ H w)(t b1 b2:Nat):Sim fr ro (σ++[none]) (H++[.ents t b1 b2 []]) w:=by
 have ext:Ext ro σ w ro (σ++[none]) w:=⟨λ_ q=>q,λ_ _=>rfl,λ_ _ q=>q,λ_ _ h=>YH h⟩;have G:=s.len;have a:∀(j:Nat) (v:Blk),(H++[Blk.ents t b1 b2 []])[j]?=some v->(j<H.length/\H[j]?=some v)\/(j=H.length/\v=.ents t b1 b2 []):=by
  intro j v h;rcases Nat.lt_trichotomy j H.length with q|q|q
  .rw[XP q]at h;exact .inl ⟨q,h⟩
  .subst q;simp at h;exact .inr ⟨rfl,h.symm⟩
  .rw[XR (by simp;omega)]at h;cases h
 have hσ:∀(j:Nat) (z:Option Nat),(σ++[none])[j]?=some z->(j<σ.length/\σ[j]?=some z)\/(j=σ.length/\z=none):=by
  intro j z h;rcases Nat.lt_trichotomy j σ.length with q|q|q
  .rw[XP q]at h;exact .inl ⟨q,h⟩
  .subst q;simp at h;exact .inr ⟨rfl,h.symm⟩
  .rw[XR (by simp;omega)]at h;cases h
 refine⟨by simp[G],s.roOk,s.frLt,s.roFr,λi b x k g m=>?_,λi j b x y k g m F B J=>?_,λi z x k g=>?_,
  s.hidTo (· = ·) QZ (XW _) (λ_ _ _ _ _ _ _ q=>q) (λ_ _ _ _ _ _ _ q=>q) λj d y u L M=>.inl ?_⟩
 rotate_left 3
 .rcases hσ j _ u with⟨l,f⟩|⟨_,r⟩
  .rcases a j y L with⟨_,e⟩|⟨e,_⟩
   .exact⟨j,y,rfl,f,e,id,λ_ q=>q⟩
   .omega
  .cases r
 .rcases hσ i _ k with⟨l,f⟩|⟨_,r⟩
  .rcases a i x g with⟨_,e⟩|⟨e,_⟩
   .exact s.own i b x f e m
   .omega
  .cases r
 .rcases hσ i _ k with⟨l,f⟩|⟨_,r⟩
  .rcases hσ j _ g with⟨E,n⟩|⟨_,r⟩
   .rcases a i x m with⟨_,e⟩|⟨e,_⟩
    .rcases a j y F with⟨_,p⟩|⟨p,_⟩
     .exact s.inj i j b x y f n e p B J
     .omega
    .omega
   .cases r
  .cases r
 .rcases hσ i _ k with⟨l,f⟩|⟨l,rfl⟩
  .rcases a i x g with⟨_,e⟩|⟨e,_⟩
   .exact(s.blk i z x f e).keep ext (λ_ _ _=>rfl) (λ_ _ _ _=>rfl)
   .omega
  .rcases a i x g with⟨e,_⟩|⟨_,rfl⟩
   .omega
   .rfl
theorem Le.phantomE{h0 i m t T b1 b2:Nat}{cs:List A}(E:Nat.ble h0 H.length=true)(hH:H[i]?=some (.cells T cs))(e:cs[m]?=some .nils):
  Le h0 env H env (H.set i (.cells T (cs.set m (.osl H.length 0 0 3)))++[.ents t b1 b2 []]):=by
 intro G j σ N a w r;have g:h0<=H.length:=XU E;have u:i<H.length:=(XO.1 hH).1;have ext:Ext j σ w j (σ++[none]) w:=⟨λ_ q=>q,λ_ _=>rfl,λ_ _ q=>q,λ_ _ h=>YH h⟩;have s:=r.sim.phantomE t b1 b2;have d:(H++[Blk.ents t b1 b2 []])[i]?=some (.cells T cs):=by rw[XP u];exact hH
 have k:H.set i (.cells T (cs.set m (.osl H.length 0 0 3)))++[.ents t b1 b2 []]=(H++[Blk.ents t b1 b2 []]).set i (.cells T (cs.set m (.osl H.length 0 0 3))):=by
  rw[List.set_append_left _ _ u]
 rw[k];refine⟨j,σ++[none],⟨s.weaken d rfl ?_,λq=>(r.env q).mono ext,r.size,r.defers⟩,λ_ q=>q,Qv (by rw[r.sim.len];exact g)⟩;intro y h;cases y with
 |none=>exact h
 |some b=>
  obtain⟨l,n,F,x⟩:=h;refine⟨l,n,?_,x⟩;clear n x d k hH
  induction cs generalizing m l with
  |nil=>cases e
  |cons c cs B=>
   obtain⟨v,f,rfl,z,p⟩:=F;cases m with
   |zero=>
    simp at e;subst e;exact⟨v,f,rfl,.inl ⟨rfl,z⟩,p⟩
   |succ m=>exact⟨v,f,rfl,z,B (by simpa using e) f p⟩
theorem QO{h0 i m T:Nat}{cs:List A}(hH:H[i]?=some (.cells T cs)):Le h0 env H env (H.set i (.cells T (cs.set m .any))):=by
 intro s k σ N a w r;refine⟨k,σ,⟨r.sim.weaken hH rfl ?_,r.env,r.size,r.defers⟩,λ_ q=>q,rfl⟩;intro y h;cases y with
 |none=>exact h
 |some b=>
  obtain⟨l,e,f,g⟩:=h;refine⟨l,e,?_,g⟩;clear e g hH
  induction cs generalizing m l with
  |nil=>exact f
  |cons c cs n=>
   obtain⟨v,d,rfl,p,j⟩:=f;cases m with
   |zero=>exact⟨v,d,rfl,trivial,j⟩
   |succ m=>exact⟨v,d,rfl,p,n d j⟩
theorem srcE{j m t b1 b2:Nat}{l:List Ent}{v:Value}(s:Sim fr ro σ H w)(hH:H[j]?=some (.ents t b1 b2 l))(e:l.length=m)(h:VR ro σ w (.osl j 0 m 3) v):
  (∃a c,v=.slice a m c)/\ ∃vs:List Value,(∀w':World,w'.heap=w.heap->(Builtin.firstCells 3 m v).run P w'=.ok vs.toArray w')/\LR ro σ w (l.map (eC b1 b2)).flatten vs/\ ∀v∈vs,Qs v:=by
 rcases h with⟨rfl,rfl⟩|⟨b,p,d,z,E,u,rfl,i,J,L,G⟩
 .have:l=[]:=VL.1 e;subst this;exact⟨⟨none,0,rfl⟩,[],λ_ _=>Y1,rfl,by simp⟩
 .refine⟨⟨_,d,rfl⟩,?_⟩;obtain⟨F,y,q⟩:=s.blk j _ _ u hH;have g:=YS (pre:=[]) (by simpa using y) q;by_cases f:0<d
  .obtain rfl:=i f;obtain⟨x,B,r⟩:=g.flat;have:=Qb5 (P:=P) (k:=3) (n:=m) (c:=d) x (by rw[r];simp[e]);simpa using this
  .obtain rfl:m=0:=by omega
   have:l=[]:=VL.1 e;subst this;exact⟨[],λ_ _=>Y1,rfl,by simp⟩
theorem QnO{c:Call}{T T' t e' i j n m b1 b2:Nat}{x y:Operand}{l k:List Ent}(E:QU P T t 3)(hd:∀w,(underlying T').run P w=.ok (.slice e') w)(F:Nat.ble (l.length+k.length) Qy=true)(L:Nat.blt 0 n=true)
  (ho:o.op=.call c:=by exact rfl)(hc:c={callee:=.builtin .append,args:= #[x,y],argTypes:= #[T,T']}:=by exact rfl)(hx:opA env x=.osl i 0 n 3:=by exact rfl)(hH:H[i]?=some (.ents t b1 b2 l):=by exact rfl)(hn:l.length=n:=by exact rfl)
  (M:opA env y=.osl j 0 m 3:=by exact rfl)(hHj:H[j]?=some (.ents t b1 b2 k):=by exact rfl)(hm:k.length=m:=by exact rfl):
  OpH P o env H (.osl H.length 0 (l++k).length 3) (H.set i .dead++[.ents t b1 b2 (l++k)]):=by
 intro fr s σ N a w r;have W:=XU F;have ah:0<n:=by simpa using L
 have u:=Qg r x;rw[hx]at u;have h2:=Qg r y;rw[M]at h2;obtain⟨⟨ay,cy,Q⟩,vs,q3,Y,q5⟩:=srcE (P:=P) r.sim hHj hm h2;rw[Q]at q3;obtain⟨_,e,o1,o2,o3⟩:=srcE (P:=P) r.sim hH hn u;have af:i<H.length:=(XO.1 hH).1;have ai:(H.set i .dead).length=H.length:=X6;rw[X5,hn,hm];rcases u with⟨q,_⟩|⟨b,p,cap,t',mm,R,u,h4,h5,h6,h7⟩
 .omega
 have J:=r.sim.blk i _ _ R hH;obtain⟨lb,g1,g2⟩:=J;have z:vs.length=m*3:=by rw[Y.length,Yu (Qc7 k)];simp[hm]
 have ag:e.length=n*3:=by rw[o2.length,Yu (Qc7 l)];simp[hn]
 rw[u]at o1;by_cases f:n+m<=cap
 .obtain rfl:p=0*3:=h4 (by omega);have h:=QcQ (t:=o.type) E hd (ad:=some ⟨b,0*3,none⟩) (n:=n) (m:=m) (cap:=cap) (c:=cy) (ax:=ay) f (q3 w rfl);have B:(n+m)*3<=lb.length:=by
   have:w.shape? b=some (t,lb.length):=by unfold World.shape?;rw[g1];simp
   rw[this]at h6;cases h6;exact XY (XE 3 f) (by simpa using h7)
  rw[XC]at B;have X:=Q5 (P:=P) (vs:=vs) (n*3) 0 g1 (by rw[z];simpa using B) q5;have g:=r.sim.set (x':=.ents t b1 b2 (l++k)) (obj:=.cells (splice lb (n*3) vs).toArray t (0,0)) R hH rfl
   (λy M=>Qaf g1 (Q4 (by rw[z];exact B)) y M)
   (λex ab=>⟨_,ab,by
    have:=(g2.app (n:=n) (by simp[hn]) (Qc7 k) Y q5).mono ex;rw[VK (by simp[hn])]at this;rw[Xf];exact this⟩)
  have sm:=g.1.moved (i:=i) (Xa af) R;rw[List.set_set]at sm;refine⟨.slice (some ⟨b,0*3,none⟩) (n+m) cap,_,s,[some b],?_,.inr ⟨b,0*3,cap,t',mm,?_,rfl,h4,f,?_,h7⟩,sm,g.2⟩
  .refine Y2 ho hc _ ?_;rw[u,Q,h];simp only[Jd,Nat.zero_mul,Xx,Vp,X,Result.andThen,Vq];simp
  .rw[<- r.sim.len];simp
  .exact g.2.shape _ _ h6
 .obtain⟨d,nc,ac,ae,h⟩:=QhT (t:=o.type) E hd rfl (by omega) (by omega) q3 o1
  let w0:World:={w with drawn:=w.drawn+1}
  have G:Sim fr s σ (H.set i .dead) w0:=(r.sim.kill i).heap rfl;have e0:Qh fr s w s w0:=Qh.heap rfl rfl rfl rfl (Nat.le_succ _);have aa:LR s σ w0 ((l++k).map (eC b1 b2)).flatten (e++vs):=by
   rw[Xf,Xs];exact(o2.append Y).mono (Ext.heap (w:=w) (w':=w0) rfl)
  have V:∀v∈e++vs,Qs v:=λv hv=>by rcases VF.1 hv with q|q;exact o3 v q;exact q5 v q
  have s1:=G.alloc (x:=.ents t b1 b2 (l++k)) (obj:=.cells ((e++vs)++d).toArray t) ⟨(e++vs)++d,Q9 _ _,(Jn (Qc7 _) aa V).mono ((Qh.alloc (fr:=fr) _ G.roLt G.frLt).ext σ _)⟩;have O:Qh fr s w0 s (w0.alloc (.cells ((e++vs)++d).toArray t)):=Qh.alloc _ G.roLt G.frLt;refine⟨_,_,s,[some w.heap.size],Y2 ho hc a.eval (by rw[u,Q];exact h),.inr ⟨w.heap.size,0,nc,t,(e++vs++d).length,?_,rfl,λ_=>by simp,ac,?_,?_⟩,s1,e0.trans O⟩
  .rw[<- r.sim.len];simp
  .have:=Q9 w0 (.cells ((e++vs)++d).toArray t);unfold World.shape?;rw[show w.heap.size=w0.heap.size from rfl,this];simp
  .simp only[X5,ae,ag,z,Xx];omega
theorem QgO{c:Call}{T T' t e' i j n m b1 b2:Nat}{x y:Operand}{d b r:List Ent}(h:app d b=some r)(E:QU P T t 3)(g:∀w,(underlying T').run P w=.ok (.slice e') w)(a:Nat.blt 0 n=true)
  (f:o.op=.call c:=by exact rfl)(hc:c={callee:=.builtin .append,args:= #[x,y],argTypes:= #[T,T']}:=by exact rfl)(hx:opA env x=.osl i 0 n 3:=by exact rfl)(hH:H[i]?=some (.ents t b1 b2 d):=by exact rfl)(hn:d.length=n:=by exact rfl)
  (hy:opA env y=.osl j 0 m 3:=by exact rfl)(hHj:H[j]?=some (.ents t b1 b2 b):=by exact rfl)(hm:b.length=m:=by exact rfl):
  OpH P o env H (.osl H.length 0 r.length 3) (H.set i .dead++[.ents t b1 b2 r]):=by
 obtain⟨e,rfl⟩:=QjQ h;exact QnO E g (XV e) a f hc hx hH hn hy hHj hm
theorem Pts.ents{i off t e f b1 b2:Nat}{l:List Ent}{x:Ent}{cs':List A}(he:l[e]?=some x)(hH:H[i]?=some (.ents t b1 b2 l):=by exact rfl)(ho:off=e*3+f:=by exact rfl)(hcs:(eC b1 b2 x).drop f=cs':=by exact rfl):Pts H (.ptr i off) cs':=by
 intro n p σ w v s h;obtain⟨b,g,d⟩:=h;obtain⟨m,k,j⟩:=s.blk i _ _ g hH;have a:(l.map (eC b1 b2))[e]?=some (eC b1 b2 x):=by rw[Xp,he];rfl
 have:=((YS (pre:=[]) (by simpa using k) j).get e a).2.drop f;refine⟨b,off,d,?_⟩;rw[<- hcs,ho];simpa using this
def QfW(cs:List A)(s:Int)(e:Ent):Option Int:=bif e.fl then(bif e.off==0 then some s else none)else match cs[e.off]? with
 |some (.int .i64 v)=>some v
 |_=>none
def Qjk{F:Type}(put:F->Nat->Int->Option F)(x:F)(s:Int)(e:Ent)(v:Int):Option (F×Int):=
 bif e.fl then(bif e.off==0 then some (x,v)else none)else(put x e.off v).map λy=>(y,s)
abbrev Qht(b1 b2:Nat)(e:Ent):A:=.ptr (bif e.fl then b2 else b1) e.off
theorem Qnm{l:List A}{i:Nat}{a:A}(h:l[i]?=some a):∃r,l.drop i=a::r:=by
 obtain⟨b,rfl⟩:=XO.1 h;exact⟨_,Xq b⟩
theorem Qce{t b1 b2 T1 T2:Nat}{x:Operand}{e:Ent}{cs:List A}{s v:Int}(h:QfW cs s e=some v)(g:∀w,(isAgg t).run P w=.ok false w)(f:o.op=.load t x:=by exact rfl)(hx:opA env x=Qht b1 b2 e:=by exact rfl)
  (h1:H[b1]?=some (.cells T1 cs):=by exact rfl)(h2:H[b2]?=some (.cells T2 [.int .i64 s]):=by exact rfl):OpV P o env H (.int .i64 v):=by
 unfold QfW at h;unfold Qht at hx;cases i:e.fl with
 |true=>
  rw[i]at h hx;simp only[Vr]at h hx;cases b:e.off==0 with
  |false=>rw[b]at h;cases h
  |true=>
   rw[b]at h;have l:e.off=0:=by simpa using b
   rw[l]at hx;have j:s=v:=by simpa using h
   subst j;exact OpV.load f g hx (Pts.cells (cs':=[.int .i64 s]) h2 rfl)
 |false=>
  rw[i]at h hx;simp only[Vs]at h hx;cases d:cs[e.off]? with
  |none=>rw[d]at h;cases h
  |some a=>
   rw[d]at h;obtain⟨r,m⟩:=Qnm d;cases a with
   |int k n=>
    cases k<;>first|(cases h;exact OpV.load f g hx (Pts.cells h1 m))|cases h
   |_=>cases h
theorem Qjb{l:List A}{i:Nat}{a:A}(h:i<l.length):splice l i [a]=l.set i a:=by
 unfold splice;rw[List.set_eq_take_append_cons_drop,Vv h];simp
theorem QhQ{i:Nat}{b:Blk}(h:H[i]?=some b):H.set i b=H:=by
 apply List.ext_getElem?;intro j;rw[Xb];by_cases e:i=j
 .subst e;rw[Vv rfl,Vv (XO.1 h).1,h]
 .rw[Vu e]
theorem Qj3{F:Type}{c:F->List A}{put:F->Nat->Int->Option F}{t b1 b2 T1 T2:Nat}{x y:Operand}{e:Ent}{f f':F}{s s' v:Int}(h:Qjk put f s e v=some (f',s'))(a:∀x o v y,put x o v=some y->c y=(c x).set o (.int .i64 v)/\o<(c x).length)
  (k:∀w,(sizeOf t).run P w=.ok 1 w)(j:o.op=.store t x y:=by exact rfl)(hx:opA env x=Qht b1 b2 e:=by exact rfl)(h1:H[b1]?=some (.cells T1 (c f)):=by exact rfl)(h2:H[b2]?=some (.cells T2 [.int .i64 s]):=by exact rfl)(hy:opA env y=.int .i64 v:=by exact rfl)
  (hb:Nat.beq b1 b2=false:=by exact rfl):OpU P o env H ((H.set b1 (.cells T1 (c f'))).set b2 (.cells T2 [.int .i64 s'])):=by
 have i:b1≠b2:=λq=>by subst q;rw[VH]at hb;cases hb
 unfold Qjk at h;unfold Qht at hx;cases l:e.fl with
 |true=>
  rw[l]at h hx;simp only[Vr]at h hx;cases d:e.off==0 with
  |false=>rw[d]at h;cases h
  |true=>
   rw[d]at h;have n:e.off=0:=by simpa using d
   rw[n]at hx;obtain⟨rfl,rfl⟩:f=f'/\v=s':=by simpa using h
   rw[QhQ h1];exact OpU.store (cs:=[.int .i64 s]) (vs:=[.int .i64 v]) (cs':=[.int .i64 v]) (v:=.int .i64 v) j hx h2 k hy rfl rfl rfl rfl rfl rfl
 |false=>
  rw[l]at h hx;simp only[Vs]at h hx;cases b:put f e.off v with
  |none=>rw[b]at h;cases h
  |some g=>
   rw[b]at h;obtain⟨rfl,rfl⟩:g=f'/\s=s':=by simpa using h
   obtain⟨r,m⟩:=a _ _ _ _ b;have p:(H.set b1 (.cells T1 (c g)))[b2]?=some (.cells T2 [.int .i64 s]):=by rw[XS i];exact h2
   rw[QhQ p];exact OpU.store (cs:=c f) (vs:=[.int .i64 v]) (cs':=c g) (v:=.int .i64 v) j hx h1 k hy rfl rfl rfl rfl (XV m) (by rw[Qjb m,r])
end
section
variable {P:Program} {h0 N:Nat} {A B C:Code} {env:Env} {H:Qd} {Q:QB}
theorem QnI{S B1:Type}{b:Ctl S B1}(Eb:S->Env)(Hb:S->Qd)(h:TC P h0 N A env H (Seq P h0 N B (QfS h0 b Eb Hb (Seq P h0 N C Q))))(k:∀s env H,b=.cont s->Le h0 env H (Eb s) (Hb s)->Seq P h0 N C Q .normal env H):TC P h0 N (.seq A (.seq B C)) env H Q:=by
 refine TC.seq (h.mono λx env' H' q=>?_);cases x with
 |normal=>exact TC.seq (Qhx Eb Hb q k)
 |exit id=>exact q
 |ret=>exact q
end
end Go.Sw
namespace Go.Sw
section
variable {P:Program} {o:Oper} {env:Env} {H:Qd}
theorem Qfh{f g:Nat->Option (Nat×Nat)}:∀(parts:List (Nat×Value)) (cs:Array Value),(∀p∈parts,f p.1=g p.1)->Instr.fill f cs parts=Instr.fill g cs parts
 |[],cs,_=>rfl
 |(i,v)::rest,cs,h=>by
  unfold Instr.fill;rw[h (i,v) (by simp)];have ih:=λcs=>Qfh rest cs (λp hp=>h p (by simp[hp]));cases g i with
  |none=>rfl
  |some p=>
   obtain⟨off,size⟩:=p;simp only;split
   .rfl
   .exact ih _
theorem Jz{t e n k:Nat}{z:Value}{zs cs:List A}{parts:List (Nat×Operand)}(u:∀w,(zeroValue t).run P w=.ok z w)(g:ZR (.agg zs) z)(j:∀w,(underlying t).run P w=.ok (.array n e) w)(s:∀w,(sizeOf e).run P w=.ok k w)
  (f:(parts.all λp=>Nat.blt p.1 n)=true)(m:o.op=.build t parts.toArray:=by exact rfl)(hf:Qd3 env ((List.range n).map λi=>(i*k,k)) zs parts=some cs:=by exact rfl):OpV P o env H (.agg cs):=by
 intro J E σ N a w r;obtain⟨l,rfl,y⟩:=g E σ w;obtain⟨b,x,F⟩:=Qfi r parts zs l cs y hf;refine⟨.agg b.toArray,?_,b,rfl,F⟩;have G:Instr.fill (λi=>some (i*k,k)) l.toArray (parts.map λp=>(p.1,a.eval p.2))=some b.toArray:=by
  rw[<- x];refine Qfh _ _ ?_;intro p h;obtain⟨q,B,rfl⟩:=Xe.1 h;have d:q.1<n:=by simpa using Xt.1 f q B
  simp[d]
 generalize hρ:a.eval=ρ at*;simp only[execOp,m,Instr.build,Vp,u,Result.andThen,j,s,XL,Vq,Value.cells,G]
def YK(k:IntKind)(m n:Int):Int:=k.wrap (BitVec.ofInt k.bits m&&& BitVec.ofInt k.bits n).toNat
def orI(k:IntKind)(m n:Int):Int:=k.wrap (BitVec.ofInt k.bits m|||BitVec.ofInt k.bits n).toNat
def QeB(k:IntKind)(m n:Int):Int:=k.wrap (BitVec.ofInt k.bits m^^^BitVec.ofInt k.bits n).toNat
def QeI(k:IntKind)(m n:Int):Int:=k.wrap (m*2^(min n.toNat k.bits))
def Yg(k:IntKind)(m n:Int):Int:=m.fdiv (2^(min n.toNat k.bits))
theorem OpV.and{t u:TypeId}{x y:Operand}{k:IntKind}{m n:Int}(e:o.op=.binOp .and t x y u)(g:opA env x=.int k m)(f:opA env y=.int k n):OpV P o env H (.int k (YK k m n)):=by
 intro i h σ N a w r;have d:=QQ r g;have b:=QQ r f;refine⟨_,?_,rfl⟩;generalize a.eval=ρ at*;simp[execOp,e,d,b,Go.binOp,eqGuard,Op.intBits,go_sem,YK]
theorem OpV.or{t u:TypeId}{x y:Operand}{k:IntKind}{m n:Int}(e:o.op=.binOp .or t x y u)(g:opA env x=.int k m)(f:opA env y=.int k n):OpV P o env H (.int k (orI k m n)):=by
 intro i h σ N a w r;have d:=QQ r g;have b:=QQ r f;refine⟨_,?_,rfl⟩;generalize a.eval=ρ at*;simp[execOp,e,d,b,Go.binOp,eqGuard,Op.intBits,go_sem,orI]
theorem OpV.xor{t u:TypeId}{x y:Operand}{k:IntKind}{m n:Int}(e:o.op=.binOp .xor t x y u)(g:opA env x=.int k m)(f:opA env y=.int k n):OpV P o env H (.int k (QeB k m n)):=by
 intro i h σ N a w r;have d:=QQ r g;have b:=QQ r f;refine⟨_,?_,rfl⟩;generalize a.eval=ρ at*;simp[execOp,e,d,b,Go.binOp,eqGuard,Op.intBits,go_sem,QeB]
theorem OpV.shl{t u:TypeId}{x y:Operand}{k b:IntKind}{m n:Int}(d:o.op=.binOp .shl t x y u)(f:opA env x=.int k m)(e:opA env y=.int b n)(i:0<=n):OpV P o env H (.int k (QeI k m n)):=by
 intro l j σ N a w r;have h:=QQ r f;have g:=QQ r e;refine⟨_,?_,rfl⟩;generalize a.eval=ρ at*;simp[execOp,d,h,g,Go.binOp,eqGuard,Op.shift,go_sem,QeI,Int.not_lt.2 i]
theorem OpV.shr{t u:TypeId}{x y:Operand}{k b:IntKind}{m n:Int}(d:o.op=.binOp .shr t x y u)(f:opA env x=.int k m)(e:opA env y=.int b n)(i:0<=n):OpV P o env H (.int k (Yg k m n)):=by
 intro l j σ N a w r;have h:=QQ r f;have g:=QQ r e;refine⟨_,?_,rfl⟩;generalize a.eval=ρ at*;simp[execOp,d,h,g,Go.binOp,eqGuard,Op.shift,go_sem,Yg,Int.not_lt.2 i]
theorem YR{h0 i m t k T:Nat}{cs:List A}(F:Nat.ble h0 H.length=true)(hH:H[i]?=some (.cells T cs))(e:cs[m]?=some .nils):
  Le h0 env H env (H.set i (.cells T (cs.set m (.osl H.length 0 0 k)))++[.row t k []]):=by
 intro J j σ N a w r;have g:h0<=H.length:=XU F;have x:i<H.length:=(XO.1 hH).1;have ext:Ext j σ w j (σ++[none]) w:=⟨λ_ q=>q,λ_ _=>rfl,λ_ _ q=>q,λ_ _ h=>YH h⟩;have s:=r.sim.phantom t k;have d:(H++[Blk.row t k []])[i]?=some (.cells T cs):=by rw[XP x];exact hH
 have n:H.set i (.cells T (cs.set m (.osl H.length 0 0 k)))++[.row t k []]=(H++[Blk.row t k []]).set i (.cells T (cs.set m (.osl H.length 0 0 k))):=by
  rw[List.set_append_left _ _ x]
 rw[n];refine⟨j,σ++[none],⟨s.weaken d rfl ?_,λq=>(r.env q).mono ext,r.size,r.defers⟩,λ_ q=>q,Qv (by rw[r.sim.len];exact g)⟩;intro y h;cases y with
 |none=>exact h
 |some b=>
  obtain⟨l,p,G,z⟩:=h;refine⟨l,p,?_,z⟩;clear p z d n hH
  induction cs generalizing m l with
  |nil=>cases e
  |cons c cs E=>
   obtain⟨v,f,rfl,B,u⟩:=G;cases m with
   |zero=>
    simp at e;subst e;exact⟨v,f,rfl,.inl ⟨rfl,B⟩,u⟩
   |succ m=>exact⟨v,f,rfl,B,E (by simpa using e) f u⟩
theorem QgP{h0 i s g n k:Nat}{x:Blk}(l:lk env s=.osl i g n k)(hH:H[i]?=some x)(B:Nat.ble h0 H.length=true):Le h0 env H (up env s (.osl H.length g n k)) (H.set i .dead++[x]):=by
 intro E e σ N a w r;have y:i<σ.length:=by rw[r.sim.len];exact(XO.1 hH).1
 have hσ:σ[i]?=some σ[i]:=XN y;have ext:Ext e σ w e (σ++[σ[i]]) w:=⟨λ_ q=>q,λ_ _=>rfl,λ_ _ q=>q,λ_ _ h=>YH h⟩;refine⟨e,σ++[σ[i]],⟨r.sim.moved hH hσ,?_,r.size,r.defers⟩,λ_ q=>q,Qv (by rw[r.sim.len];exact XU B)⟩;intro d;simp only[lk];by_cases q:d=s
 .subst q;rw[VH];have:=r.env d;rw[l]at this;rcases this with h|⟨b,p,f,t,m,z,u⟩
  .exact .inl h
  .refine .inr ⟨b,p,f,t,m,?_,u⟩;rw[z]at hσ;rw[<- r.sim.len];simpa using hσ.symm
 .have:Nat.beq d s=false:=by
   rw[VO];intro j;exact q (XT j)
  rw[this];exact(r.env d).mono ext
def Qbw(n:Int):UInt8:=n.toNat.toUInt8
def QlB(P:Program)(H:Qd)(x:A)(l:List Int):Prop:=
 ∀fr ro σ w v,Sim fr ro σ H w->VR ro σ w x v->(∃a c,v=.slice a 0 c/\l=[])\/ ∃b off c,v=.slice (some ⟨b,off,none⟩) l.length c/\(l=[]\/CR ro σ w b (l.map λn=>A.int .u8 n) off)
theorem Qhk:∀(l:List Int),(l.map (λn=>[A.int .u8 n])).flatten=l.map λn=>A.int .u8 n
 |[]=>rfl
 |n::l=>by simp[Qhk l]
theorem QlB.nils:QlB P H .nils []:=λfr ro σ w v s h=>.inl ⟨none,0,h,rfl⟩
theorem QlB.row{i t n:Nat}{l:List Int}(hH:H[i]?=some (.row t 1 (l.map λn=>[A.int .u8 n])):=by exact rfl)(hn:l.length=n:=by exact rfl):QlB P H (.osl i 0 n 1) l:=by
 intro z B σ w v s h;rcases h with⟨rfl,rfl⟩|⟨b,p,a,q,m,g,rfl,f,x,y,u⟩
 .exact .inl ⟨none,0,rfl,VL.1 hn⟩
 .refine .inr ⟨b,p,a,by rw[hn],?_⟩;by_cases e:l=[]
  .exact .inl e
  .have:0<a:=by have:=List.length_pos_iff.2 e;omega
   obtain rfl:=f this;obtain⟨r,k,j⟩:=s.blk i _ _ g hH;have d:=(YS (pre:=[]) (by simpa using k) j).flat.1;rw[Qhk]at d;exact .inr (by simpa using d.lift)
theorem QlB.rsl{l:List Int}:QlB P H (.rsl 1 (l.map λn=>[A.int .u8 n])) l:=by
 intro h j σ w v s ⟨a,c,h1,h2,d⟩;subst h1;rw[X4]at*;rcases d with d|⟨b,e,rfl,i,g⟩
 .have:l=[]:=List.map_eq_nil_iff.1 d;subst this;exact .inl ⟨a,c,by simp,rfl⟩
 .have f:=g.flat.1;rw[Qhk]at f;exact .inr ⟨b,e,c,rfl,.inr f.lift⟩
theorem Qck{ro:Nat->Prop}{σ:Sig}{w:World}{b:Nat}:∀(l:List Int) (off:Nat) (a:ByteArray),CR ro σ w b (l.map λn=>A.int .u8 n) off->(Extern.Bytes.loadBytes ⟨b,off,none⟩ l.length a).run P w=.ok ⟨a.data++(l.map Qbw).toArray⟩ w
 |[],off,a,_=>by simp[Extern.Bytes.loadBytes,go_sem]
 |n::l,off,a,⟨⟨v,h1,hp,h2⟩,h3⟩=>by
  have h2':v=.int .u8 n:=h2;subst h2';have ih:=Qck l (off+1) (a.push n.toNat.toUInt8) h3;have hl:(Go.load ⟨b,off,none⟩).run P w=.ok (.int .u8 n) w:=by simp[Go.load,Sem.run,h1]
  simp only[X3,Extern.Bytes.loadBytes,Vp,hl,Result.andThen];have d:(⟨b,off,none⟩:Addr).add 1=⟨b,off+1,none⟩:=by simp[Jd]
  rw[d,ih];simp[Qbw,ByteArray.push]
theorem QdT{fr ro:Nat->Prop}{σ:Sig}{w:World}{x:A}{l:List Int}{v:Value}(h:QlB P H x l)(s:Sim fr ro σ H w)(f:VR ro σ w x v):(Extern.Bytes.bytesOf v).run P w=.ok ⟨(l.map Qbw).toArray⟩ w:=by
 rcases h fr ro σ w v s f with⟨a,c,rfl,rfl⟩|⟨b,d,c,rfl,e⟩
 .cases a with
  |none=>simp[Extern.Bytes.bytesOf,go_sem];rfl
  |some a=>simp[Extern.Bytes.bytesOf,Extern.Bytes.loadBytes,go_sem];rfl
 .rcases e with rfl|e
  .simp[Extern.Bytes.bytesOf,Extern.Bytes.loadBytes,go_sem];rfl
  .have:=Qck (P:=P) l d .empty e;simp only[Extern.Bytes.bytesOf,this];congr 2;simp[ByteArray.empty,ByteArray.emptyWithCapacity];rfl
def cmpB(l m:List Int):Int:=Lib.compareBytes (l.map Qbw) (m.map Qbw)
theorem OpV.cmpB{c:Call}{f:FuncId}{fn:Func}{x y:Operand}{k:Array TypeId}{ax d:A}{l m:List Int}(t:P.funcs[f]?=some fn)(b:(fn.name=="runtime.NumGoroutine")=false)(i:fn.body.isNone=true)(s:Extern.findNext fn=none)(he:Extern.find fn=some Extern.BytealgCompare.compare)
  (u:QlB P H ax l)(q:QlB P H d m)(j:o.op=.call c:=by exact rfl)(hc:c={callee:=.value (.func f),args:= #[x,y],argTypes:=k}:=by exact rfl)(hx:opA env x=ax:=by exact rfl)(hy:opA env y=d:=by exact rfl):OpV P o env H (.int .i64 (cmpB l m)):=by
 intro E F σ N a w r;have h:=Qg r x;rw[hx]at h;have g:=Qg r y;rw[hy]at g;have p:=QdT u r.sim h;have z:=QdT q r.sim g;refine⟨.int .i64 (Sw.cmpB l m),?_,rfl⟩;subst hc;have e:a.eval (.func f)=.func (.func f) #[] #[]:=rfl;have B:(callFunc f #[a.eval x,a.eval y]).run P w=.ok (.value (.int .i64 (Sw.cmpB l m))) w:=by
  rw[run_callFunc_extern t b i s he];have n:Sem.run P (Extern.BytealgCompare.compare #[a.eval x,a.eval y]) w=.ok (.int .i64 (Sw.cmpB l m)) w:=by
   change Sem.run P (do pure (goInt (Extern.BytealgCompare.cmp (<- Extern.Bytes.bytesOf (a.eval x)) (<- Extern.Bytes.bytesOf (a.eval y))))) w=_;simp only[Vp,p,z,Result.andThen,Vq,Lib.cmp_eq];rfl
  rw[n];rfl
 generalize a.eval=ρ at*;simp only[execOp,j,resolve,e,Deferred.ofValue,invoke,Vp,Vq,Result.andThen];simpa using B
theorem Q2{t et n k b off j:Nat}{x y:Operand}{i:Int}{s:IntKind}(h:(i==(j:Int))=true)(L:Nat.blt j n=true)(z:∀w,(underlying t).run P w=.ok (.array n et) w)(u:∀w,(sizeOf et).run P w=.ok k w)(g:Nat.ble 2 n=true)
  (F:o.op=.indexAddr t x y:=by exact rfl)(hx:opA env x=.ptr b off:=by exact rfl)(hy:opA env y=.int s i:=by exact rfl):OpV P o env H (.ptr b (off+j*k)):=by
 intro O M σ N a w r;have f:=Qg r x;rw[hx]at f;obtain⟨e,f,G⟩:=f;have p:=Qg r y;rw[hy]at p;have l:a.eval y=.int s i:=p;have J:i=(j:Int):=by simpa using h
 have m:j<n:=by simpa using L
 have B:2<=n:=XU g;subst J;refine⟨.pointer (some ⟨e,off+j*k,none⟩),?_,e,f,rfl⟩;have E:0<=(j:Int)/\(j:Int)<(n:Int):=by omega
 have d:(⟨e,off,none⟩:Addr).add ((j:Int).toNat*k)=⟨e,off+j*k,none⟩:=by
  unfold Addr.add;split
  .rename_i q;simp at q;simp[q]
  .simp
 generalize a.eval=ρ at*;simp[execOp,F,G,l,Instr.indexAt,asIntOf,z,u,Instr.sureAddr,E,d,go_sem,Result.andThen,m]
end
end Go.Sw
namespace Go.Sw
theorem QmQ{P:Program}{W:World}{name:String}{d:DataW Unit}:∀{a:List (String×DataW Unit)} {ps:List MemPlace},DataW.LaidVars P W a ps->(name,d)∈a->
  ∃(g:Nat) (t:TypeId) (cs:Array Value) (b:Nat) (p:List MemPlace),P.globalNamed name=some g/\(P.globals[g]?).map (·.type)=some t/\W.var? P name=some cs/\DataW.trod (λ_=>()) P W 0 (λ_=>true) false b t cs.toList=some (d,p):=by
 intro a
 induction a with
 |nil=>intro ps h f;cases f
 |cons x a k=>
  intro ps h f;obtain⟨g,t,cs,b,p,q,l,j,m,n,i,r⟩:=h;rcases X8.1 f with e|f
  .subst e;exact⟨g,t,cs,b,p,l,j,m,n⟩
  .exact k i f
theorem Yk{P:Program}{W:World}{name:String}{a b:Int}{g t e:Nat}{m i:Field}{d:List (String×DataW Unit)}{ps:List MemPlace}(h:DataW.LaidVars P W d ps)(L:(name,DataW.agg [.lit (.int .i64 a),.lit (.int .i64 b)])∈d)
  (hg:P.globalNamed name=some g)(j:(P.globals[g]?).map (·.type)=some t)(H:P.underlying t=some (.struct #[m,i]))(M:m.type=e)(x:i.type=e)(z:m.offset=0)(B:i.offset=1)(he:P.underlying e=some (.int .i64))(f:P.cellsOf e=1)(l:P.cellsOf t=2):
  W.cell? ⟨g,0,none⟩=some (.int .i64 a)/\W.cell? ⟨g,1,none⟩=some (.int .i64 b):=by
 obtain⟨X,V,cs,s,p,F,Q,q,T⟩:=QmQ h L;obtain rfl:=X2 (hg.symm.trans F);obtain rfl:=X2 (j.symm.trans Q);obtain⟨Y,y1,n,y,R,u,r⟩:=Go.ChangeShapes.trod_struct2 H T;rw[M,z,f]at u;rw[x,B,f]at r;obtain⟨N,J,w,_⟩:=DataW.trod_int he u;obtain⟨E,G,O,_⟩:=DataW.trod_int he r;subst w O;have k:a=N/\b=E:=by simpa using congrArg Prod.fst y
 obtain⟨rfl,rfl⟩:=k;rw[World.var?_cell hg q,World.var?_cell hg q];rw[l]at R;constructor
 .have:=congrArg (·[0]?) J;simpa[List.getElem?_take]using this
 .have:=congrArg (·[0]?) G;simpa[List.getElem?_take,List.getElem?_drop]using this
theorem Js{w:World}{g:Nat}{a b:Int}(s:w.cell? ⟨g,0,none⟩=some (.int .i64 a)/\w.cell? ⟨g,1,none⟩=some (.int .i64 b)):∀(zs:List Int),some [a,b]=some zs->∀(i:Nat) (z:Int),zs[i]?=some z->w.cell? ⟨g,i,none⟩=some (.int .i64 z)
 |zs,h,0,z,hi=>by cases h;cases hi;exact s.1
 |zs,h,1,z,hi=>by cases h;cases hi;exact s.2
 |zs,h,i+2,z,hi=>by cases h;simp at hi
end Go.Sw
