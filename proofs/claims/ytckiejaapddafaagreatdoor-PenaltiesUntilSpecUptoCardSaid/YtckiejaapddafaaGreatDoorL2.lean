/- The rules by which the code is walked, with what they rest on (part 2). -/
import Derived.Test.YtckiejaapddafaaGreatDoorL1
import Derived.Shelf.SlSortCmp.NoneTotal
import Derived.Below
import GoSem.ClaimChange
import Derived.Shelf.Strings.Search3
import Derived.Lib.LazyBuf
import Derived.Shelf.Sort.Plain
import Derived.Shelf.Slices.In.SortNone
import Derived.Shelf.Slices.CompactI
import Derived.RangeFuncIn
import Derived.RangeFuncSeq
import Derived.RangeFuncNested
import Derived.Lib.Bytealg
import Derived.Laws.Externs
import Derived.LaidLaws
import Derived.Lib.LaidTab
import Derived.ChangeArms
import Derived.ChangeSame
set_option linter.unusedVariables false
set_option linter.unusedSectionVars false
set_option linter.unusedSimpArgs false
namespace Go.Sw
def mk{α:Type}(n:Int)(z:α):Option (List α):=bif decide (0<=n)&&decide (n<=4294967296)then some (List.replicate n.toNat z)else none
theorem mk_ok{α:Type}{n:Int}{z:α}{l:List α}(h:mk n z=some l):0<=n/\n<=4294967296/\List.replicate n.toNat z=l:=by
 unfold mk at h;cases q:(decide (0<=n)&&decide (n<=4294967296))with
 |true=>rw[q]at h;simp at q;exact⟨q.1,q.2,XV h⟩
 |false=>rw[q]at h;cases h
theorem Qel{α:Type}[Inhabited α](zl:List α)(k:Nat)(hk:zl.length=k)(h0:0<k):∀n,(List.range (n*k)).map (λi=>zl.toArray[i%zl.toArray.size]!)=(List.replicate n zl).flatten
 |0=>by simp
 |n+1=>by
  rw[Xj,List.range_add,Xf,Qel zl k hk h0 n,List.replicate_succ',Xp];congr 1;simp only[Vh,List.flatten_nil,Vc,List.map_map];apply List.ext_getElem
  .simp[hk]
  .intro i h1 h2;simp only[XX,Xs]at h1;simp only[List.getElem_map,List.getElem_range,Function.comp,List.size_toArray,hk];rw[Nat.mul_comm,Nat.mul_add_mod,Nat.mod_eq_of_lt h1];simp[hk,h1]
section
variable {P:Program} {o:Oper} {env:Env} {H:Qc} {ro:Nat->Prop} {σ:Sig} {w:World}
theorem LR.replicate{az:List A}{l:List Value}(h:LR ro σ w az l):∀n,LR ro σ w (List.replicate n az).flatten (List.replicate n l).flatten
 |0=>rfl
 |n+1=>by
  rw[List.replicate_succ,List.replicate_succ];exact h.append (LR.replicate h n)
theorem Qka{α:Type}{e:α->List A}{T et k:Nat}{x y:Operand}{L ky:IntKind}{n:Int}{zv:α}{l:List α}{z:Value}{a:A}(X:mk n zv=some l)(E:QM P T et k)(hz:∀w,(zeroValue et).run P w=.ok z w)(V:ZR a z)
  (hk:Q0 a=true)(hc:QX a=e zv)(hp:(QX a).all Yb=true)(g:Nat.beq (e zv).length k=true)
  (ho:o.op=.makeSlice T x y:=by exact rfl)(hx:opA env x=.int L n:=by exact rfl)(hy:opA env y=.int ky n:=by exact rfl):
  OpH P o env H (.osl H.length 0 l.length k) (H++[.row et k (l.map e)]):=by
 intro fr ro σ N act w r;obtain⟨n0,n1,hl⟩:=mk_ok X;have h1:=Qf r x;rw[hx]at h1;have h2:=Qf r y;rw[hy]at h2;have ac:act.eval x=.int L n:=h1;have O:act.eval y=.int ky n:=h2;obtain⟨i,hi,ag⟩:=E.bytes;obtain⟨d,c1,c2⟩:=(V ro [] w).cells hk;have p:d.length=k:=by
  rw[c2.length,hc];exact XO g
 have af:(if n.toNat*k=0 then(#[]:Array Value)else d.toArray)=d.toArray\/n.toNat*k=0:=by
  by_cases q:n.toNat*k=0
  .exact .inr q
  .exact .inl (Vn q)
 have b:∀(ZZ:Array Value),(ZZ=d.toArray\/n.toNat*k=0)->(Array.range (n.toNat*k)).map (λj=>ZZ[j%ZZ.size]!)=((List.replicate n.toNat d).flatten).toArray:=by
  intro ZZ hZ;by_cases q:n.toNat*k=0
  .rw[q];have:(List.replicate n.toNat d).flatten=[]:=by
    apply VB.1;simp[p,q]
   rw[this];simp
  .obtain rfl:ZZ=d.toArray:=hZ.resolve_right q;have M:0<k:=by
    rcases Nat.eq_zero_or_pos k with h|h
    .rw[h,Nat.mul_zero]at q;exact absurd rfl q
    .exact h
   rw[<- Qel d k p M n.toNat];simp[XG, <- List.toArray_range]
 have F:=c2.replicate n.toNat;have aa:allK k (List.replicate n.toNat (e zv)):=by
  have:∀m,allK k (List.replicate m (e zv)):=by
   intro m
   induction m with
   |zero=>trivial
   |succ m ih=>exact⟨XO g,ih⟩
  exact this _
 have f:∀v∈(List.replicate n.toNat d).flatten,Qn v:=by
  intro v J;obtain⟨m,X,J⟩:=List.mem_flatten.1 J;rw[List.eq_of_mem_replicate X]at J;exact c2.plain hp v J
 rw[hc]at F;have hs:=r.sim.allocRow (t:=et) (rest:=[]) aa F f;rw[Vc]at hs;have G:l.map e=List.replicate n.toNat (e zv):=by rw[<- hl,List.map_replicate]
 have u:l.length=n.toNat:=by rw[<- hl];simp
 have ab:(w.alloc (.cells ((List.replicate n.toNat d).flatten).toArray et)).shape? w.heap.size=some (et,n.toNat*k):=by
  unfold World.shape?;rw[Q1];simp[p]
 refine⟨.slice (some ⟨w.heap.size,0,none⟩) n.toNat n.toNat,w.alloc (.cells ((List.replicate n.toNat d).flatten).toArray et),ro,[some w.heap.size],?_,?_,G▸hs,Qg.alloc _ r.sim.roLt r.sim.frLt⟩
 .have hw:IntKind.i64.wrap n=n:=by
   unfold IntKind.wrap;simp[IntKind.bits,IntKind.signed];omega
  have R:∀(x:Nat) (W:World),(askRoom x).run P W=.ok () W:=by
   intro x W;unfold askRoom;split<;>rfl
  have B:∀(c:Array Value) (W:World),(newRow et c).run P W=.ok ⟨W.heap.size,0,none⟩ (W.alloc (.cells c et)):=λc W=>rfl;have ae:¬(n<0):=by omega
  have Y:¬((i.bytes:Int)*n>2^48):=by
   have h1:(i.bytes:Int)*n<=4096*4294967296:=Int.mul_le_mul (by omega) n1 n0 (by omega);omega
  have s:(Instr.makeSlice T (.int L n) (.int ky n)).run P w=.ok (.slice (some ⟨w.heap.size,0,none⟩) n.toNat n.toNat) (w.alloc (.cells ((List.replicate n.toNat d).flatten).toArray et)):=by
   have ah:¬(n>n):=by omega
   have Q:∀(k:IntKind) (m:Int) (W:World),(asInt (.int k m)).run P W=.ok m W:=λk m W=>rfl;unfold Instr.makeSlice;simp only[Vi,E.sl,E.size,hi,Result.andThen,Q,Vj,hw,R,XF];rw[Vn (by simp[ae,Y];omega)];by_cases q:n.toNat*k=0
   .simp only[q,if_true,Vj];have:=b #[] (.inr q);rw[q]at this;simp only[this,B]
   .simp only[q,if_false,hz,Vj,c1,b d.toArray (.inl rfl),B]
  generalize act.eval=ρ at*;simp only[execOp,ho,ac,O,Vi,s,Result.andThen];rfl
 .right;refine⟨w.heap.size,0,n.toNat,et,n.toNat*k,?_,by rw[u],λ_=>by simp,by rw[u];exact XR _,ab,by simp⟩;rw[<- r.sim.len];simp
end
end Go.Sw
namespace Go.Sw
open Go.Sort Go.Proofs Go.Shelf
section
variable {α:Type}
def ins(lt:α->α->Bool)(x:α):List α->List α
 |[]=>[x]
 |y::l=>bif lt y x then y::ins lt x l else x::y::l
def Qcb(lt:α->α->Bool):List α->List α
 |[]=>[]
 |x::l=>ins lt x (Qcb lt l)
theorem QdB(lt:α->α->Bool)(x:α):∀l,(ins lt x l).Perm (x::l)
 |[]=>.refl _
 |y::l=>by
  unfold ins;cases lt y x
  .exact .refl _
  .exact((QdB lt x l).cons y).trans (List.Perm.swap _ _ _)
theorem YW(lt:α->α->Bool):∀l,(Qcb lt l).Perm l
 |[]=>.refl _
 |x::l=>(QdB lt x _).trans ((YW lt l).cons x)
structure QdQ (lt:α->α->Bool) (l:List α):Prop where
 irrefl:∀x∈l,lt x x=false
 trans:∀x∈l,∀y∈l,∀z∈l,lt x y=true->lt y z=true->lt x z=true
 ntrans:∀x∈l,∀y∈l,∀z∈l,lt x y=false->lt y z=false->lt x z=false
theorem QdQ.mono{lt:α->α->Bool}{l m:List α}(h:QdQ lt l)(hm:∀x∈m,x∈l):QdQ lt m:=
 ⟨λx hx=>h.irrefl x (hm x hx),λx hx y hy z hz=>h.trans x (hm x hx) y (hm y hy) z (hm z hz),λx hx y hy z hz=>h.ntrans x (hm x hx) y (hm y hy) z (hm z hz)⟩
theorem QdQ.asymm{lt:α->α->Bool}{l:List α}(h:QdQ lt l){x y:α}(a:x∈l)(d:y∈l)(b:lt x y=true):lt y x=false:=by
 cases q:lt y x
 .rfl
 .rw[<- h.irrefl x a,h.trans x a y d x a b q]
theorem QdA{lt:α->α->Bool}{x:α}:∀{l:List α},QdQ lt (x::l)->l.Pairwise (λa b=>lt b a=false)->(ins lt x l).Pairwise (λa b=>lt b a=false)
 |[],_,_=>by simp[ins]
 |y::l,h,hp=>by
  obtain⟨h1,h2⟩:=Xc.1 hp;unfold ins;cases q:lt y x
  .refine Xc.2 ⟨λz hz=>?_,hp⟩;rcases X2.1 hz with rfl|hz
   .exact q
   .exact h.ntrans z (by simp[hz]) y (by simp) x (by simp) (h1 z hz) q
  .refine Xc.2 ⟨λz hz=>?_,QdA (h.mono (by intro z hz;rcases X2.1 hz with rfl|hz<;>simp[*])) h2⟩;rcases X2.1 ((QdB lt x l).mem_iff.1 hz)with rfl|hz
   .exact h.asymm (by simp) (by simp) q
   .exact h1 z hz
theorem QaB{lt:α->α->Bool}:∀{l:List α},QdQ lt l->(Qcb lt l).Pairwise (λa b=>lt b a=false)
 |[],_=>by simp[Qcb]
 |x::l,h=>QdA (h.mono (by
   intro z hz;rcases X2.1 hz with rfl|hz
   .simp
   .exact X0 _ ((YW lt l).mem_iff.1 hz))) (QaB (h.mono λz hz=>X0 _ hz))
theorem Qa6{lt:α->α->Bool}:∀{l m:List α},l.Perm m->(∀x∈l,∀y∈l,lt x y=false->lt y x=false->x=y)->l.Pairwise (λa b=>lt b a=false)->m.Pairwise (λa b=>lt b a=false)->l=m
 |[],m,h,_,_,_=>by rw[List.nil_perm.1 h]
 |x::l,[],h,_,_,_=>by have:=h.length_eq;simp at this
 |x::l,y::m,h,ha,hl,hm=>by
  obtain⟨l1,l2⟩:=Xc.1 hl;obtain⟨m1,m2⟩:=Xc.1 hm;have hy:y∈x::l:=h.mem_iff.2 (by simp);have hx:x∈y::m:=h.mem_iff.1 (by simp);have hxy:x=y:=by
   rcases X2.1 hy with e|d
   .exact e.symm
   .rcases X2.1 hx with e|g
    .exact e
    .exact ha x (by simp) y (by simp[d]) (m1 x g) (l1 y d)
  subst hxy;rw[Qa6 ((List.perm_cons x).1 h) (λa f b i=>ha a (by simp[f]) b (by simp[i])) l2 m2]
def ltO(cf:α->α->Option Int)(x y:α):Bool:=match cf x y with
 |some c=>decide (c<0)
 |none=>false
def Qi7[DecidableEq α](cf:α->α->Option Int)(l:List α):Bool:=
 l.all λx=> !ltO cf x x&&l.all λy=>(cf x y).isSome&&(ltO cf x y||ltO cf y x||decide (x=y))&&l.all λz=>(!ltO cf x y|| !ltO cf y z||ltO cf x z)&&(ltO cf x y||ltO cf y z|| !ltO cf x z)
def Qdn[DecidableEq α](cf:α->α->Option Int)(l:List α):Option (List α):=bif Nat.ble l.length QK&&Qi7 cf l then some (Qcb (ltO cf) l)else none
theorem Qdm[DecidableEq α]{d:α->α->Option Int}{l l':List α}(h:Qdn d l=some l'):
  l.length<=QK/\(∀x∈l,∀y∈l,∃c,d x y=some c)/\QdQ (ltO d) l/\(∀x∈l,∀y∈l,ltO d x y=false->ltO d y x=false->x=y)/\Qcb (ltO d) l=l':=by
 unfold Qdn at h;cases i:Nat.ble l.length QK with
 |false=>rw[i]at h;cases h
 |true=>
 rw[i,Bool.true_and]at h;cases q:Qi7 d l with
 |false=>rw[q]at h;cases h
 |true=>
  rw[q]at h;refine⟨XP i,?_⟩;unfold Qi7 at q;simp only[Xq,XU,Bool.not_eq_true',Bool.or_eq_true,Vm]at q;refine⟨λx b y e=>Option.isSome_iff_exists.1 ((q x b).2 y e).1.1,⟨λx b=>(q x b).1,λx b y e z j f g=>?_,λx b y e z j f g=>?_⟩,λx b y e f g=>?_,XV h⟩
  .rcases(((q x b).2 y e).2 z j).1 with(a|a)|a
   .rw[f]at a;cases a
   .rw[g]at a;cases a
   .exact a
  .rcases(((q x b).2 y e).2 z j).2 with(a|a)|a
   .rw[f]at a;cases a
   .rw[g]at a;cases a
   .exact a
  .rcases((q x b).2 y e).1.2 with(a|a)|a
   .rw[f]at a;cases a
   .rw[g]at a;cases a
   .exact a
theorem QaE[DecidableEq α]{a:α->α->Option Int}{l l':List α}(h:Qdn a l=some l'):l.length=l'.length:=by
 rw[<- (Qdm h).2.2.2.2];exact(YW _ _).length_eq.symm
theorem Yi{l l':List α}{i:Int}{x:α}(h:Qct l i x=some l'):l.length=l'.length:=by
 unfold Qct at h;cases q:(decide (0<=i)&&decide (i<(l.length:Int)))with
 |true=>rw[q]at h;rw[<- XV h];simp
 |false=>rw[q]at h;cases h
theorem Ql{h0:Nat}{env:Env}{H:Qc}{s:Nat}{a a':A}(h:lk env s=a)(e:a=a'):Le h0 env H (up env s a') H:=by
 intro f d σ N act w r;refine⟨d,σ,⟨r.sim,λb=>?_,r.size,r.defers⟩,λ_ q=>q,rfl⟩;subst e;have:lk (up env s a) b=lk env b:=by
  simp only[lk];cases q:Nat.beq b s with
  |true=>rw[XO q,h];rfl
  |false=>rfl
 rw[this];exact r.env b
end
section
variable {fr ro:Nat->Prop} {σ:Sig} {H:Qc} {w w':World}
theorem QcU(hh:∀b,b<w.heap.size->w'.heap[b]?=w.heap[b]?)(hro:∀b,ro b->b<w.heap.size)(σ:Sig):Ext ro σ w ro σ w':=
 ⟨λ_ q=>q,λb hb=>hh b (hro b hb),λb x hx=>by unfold World.shape? at hx⊢;rw[hh b (Qbp hx)];exact hx,λ_ _ q=>q⟩
theorem Sim.grown(s:Sim fr ro σ H w)(a:∀b,b<w.heap.size->w'.heap[b]?=w.heap[b]?)(g:w.heap.size<=w'.heap.size):Sim fr ro σ H w':=by
 refine⟨s.len,s.roOk.to (λ_ q=>q) (λb q=>a b (s.roLt b q)) (λb h=>Vb (s.roLt b h) g),λb h=>Vb (s.frLt b h) g,s.roFr,λi b x e f n=>?_,s.inj,λi y x e f=>?_,s.hidTo (· = ·) QP g (λ_ _ _ _ _ _ _ q=>q) (λ_ _ _ _ _ _ _ q=>q) λj d y k m r=>.inl ⟨j,y,rfl,k,m,id,λc q=>s.hidKeep k m (λz=>a d (s.own j d y k m z).1) (λb q=>a b (s.roLt b q)) q⟩⟩
 .obtain⟨p,q⟩:=s.own i b x e f n;exact⟨Vb p g,q⟩
 .refine(s.blk i y x e f).keep (QcU a s.roLt σ) ?_ ?_
  .rintro b rfl l;exact a b (s.own i b x e f l).1
  .rintro b c rfl l;exact a c (s.hid i b x c e f l).lt
theorem Qg.grown(hh:∀b,b<w.heap.size->w'.heap[b]?=w.heap[b]?)(hs:w.heap.size<=w'.heap.size)(s:Sim fr ro σ H w)(ho:w'.os=w.os)(ht:w'.tape=w.tape)(hu:w'.output=w.output)(hd:w.drawn<=w'.drawn):Qg fr ro w ro w':=
 ⟨λ_ q=>q,λb h=>hh b (s.roLt b h),λb h=>hh b (s.frLt b h),hs,(QcU hh s.roLt σ).shape,ho,ht,hu,hd⟩
theorem Qhe(e:∀b,b<w.heap.size->w'.heap[b]?=w.heap[b]?)(k:w.heap.size<=w'.heap.size)(j:w'.os=w.os)(f:w'.tape=w.tape)(d:w'.output=w.output)(l:w.drawn<=w'.drawn):
  ∃q os',w'=grow (w.drewN q) os':=by
 refine⟨w'.drawn-w.drawn,w'.heap.extract w.heap.size w'.heap.size,?_⟩;obtain⟨a,s,h,r,t⟩:=w';simp only at e k j f d l;subst j f d;unfold grow World.drewN;have m:a=w.heap++a.extract w.heap.size a.size:=by
  apply Array.ext_getElem?;intro i;rw[Array.getElem?_append];split
  .rename_i g;exact e i g
  .rename_i g;rw[Array.getElem?_extract];split
   .rename_i n;congr 1;omega
   .rename_i n;rw[Array.getElem?_eq_none];omega
 have p:h=w.drawn+(h-w.drawn):=by omega
 rw[<- m, <- p]
end
end Go.Sw
namespace Go.Sw
open Go.Sort Go.Proofs Go.Shelf
theorem QcS{α:Type}{k:Nat}:∀(vs:List (List α)) (j:Nat),(∀v∈vs,v.length=k)->j<vs.length*k->vs.flatten[j]?=(vs[j/k]?).bind λv=>v[j%k]?
 |[],j,_,h=>by simp at h
 |v::vs,j,hk,h=>by
  have hv:=hk v (by simp);have k0:0<k:=by
   rcases Nat.eq_zero_or_pos k with q|q
   .subst q;simp at h
   .exact q
  rw[Vh];by_cases q:j<k
  .rw[XK (by omega),Nat.div_eq_of_lt q,Nat.mod_eq_of_lt q];simp
  .rw[XL (by omega),hv,QcS vs (j-k) (λv hv=>hk v (by simp[hv])) (by simp[Xj]at h;omega)];have a:j/k=(j-k)/k+1:=by rw[Nat.div_eq_sub_div k0 (by omega)]
   have b:j%k=(j-k)%k:=Nat.mod_eq_sub_mod (by omega);rw[a,b,XD]
theorem Qal{α:Type}{k:Nat}:∀(vs:List (List α)),(∀v∈vs,v.length=k)->vs.flatten.length=vs.length*k
 |[],_=>by simp
 |v::vs,h=>by rw[Vh,XY,Qal vs (λv hv=>h v (by simp[hv])),h v (by simp),XW,Xj];omega
theorem Qac{α:Type}(F:List α)(j:Nat):F.toArray[j]?=F[j]? :=by simp
theorem QdD{α:Type}[Inhabited α](F:List α)(j:Nat)(h:j<F.length):F[j]?=some (F.toArray[j]!):=by simp[h]
theorem QfO{β:Type}[Inhabited β]{enc:β->List Value}{k:Nat}(f:∀x,(enc x).length=k)(d:Array β):flatK enc k d=((d.toList.map enc).flatten).toArray:=by
 have b:∀v∈d.toList.map enc,v.length=k:=by
  intro v i;obtain⟨x,_,rfl⟩:=Xe.1 i;exact f x
 apply Array.ext_getElem?;intro t;rw[Qac ((d.toList.map enc).flatten) t];by_cases h:t<d.size*k
 .rw[QcS _ t b (by simpa using h)];have l:0<k:=by
   rcases Nat.eq_zero_or_pos k with q|q
   .subst q;simp at h
   .exact q
  have g:t/k<d.size:=Nat.div_lt_of_lt_mul (by rw[Nat.mul_comm];exact h);have j:t%k<k:=Nat.mod_lt _ l;have a:t<(flatK enc k d).size:=by simpa using h
  have e:=get_flatK enc k d t h;rw[getElem!_pos (flatK enc k d) t a]at e;rw[Array.getElem?_eq_getElem a,e];simp[g];rw[XI (by rw[f];exact j)];rfl
 .have e:(d.toList.map enc).flatten.length=d.size*k:=by rw[Qal _ b];simp
  rw[Array.getElem?_eq_none (by simpa using h),XM (by rw[e];omega)]
section
variable {ro:Nat->Prop} {σ:Sig} {w:World} {T:Type} {enc:T->List A} {k:Nat}
theorem RL.parts:∀{l:List T} {lv:List Value},RL ro σ w k (l.map enc) lv->
  ∃(ps:List (T×List Value)) (rest:List Value),ps.map (·.1)=l/\lv=(ps.map (·.2)).flatten++rest/\ ∀p∈ps,p.2.length=k/\LR ro σ w (enc p.1) p.2/\ ∀v∈p.2,Qn v
 |[],lv,_=>⟨[],lv,rfl,rfl,by simp⟩
 |x::l,lv,h=>by
  obtain⟨l1,l2,rfl,h1,⟨h2,h3⟩,h4⟩:=h;obtain⟨ps,rest,e1,rfl,h5⟩:=RL.parts (l:=l) h4;refine⟨(x,l1)::ps,rest,by simp[e1],by simp,?_⟩;intro p hp;rcases X2.1 hp with rfl|hp
  .exact⟨by rw[h2.length];exact h1,h2,h3⟩
  .exact h5 p hp
theorem Qbw(hk:∀x:T,(enc x).length=k):∀{ps:List (T×List Value)} {rest:List Value},(∀p∈ps,LR ro σ w (enc p.1) p.2/\ ∀v∈p.2,Qn v)->RL ro σ w k ((ps.map (·.1)).map enc) ((ps.map (·.2)).flatten++rest)
 |[],_,_=>trivial
 |p::ps,rest,h=>by
  refine⟨p.2,(ps.map (·.2)).flatten++rest,by simp,hk _,h p (by simp),Qbw hk λq hq=>h q (by simp[hq])⟩
end
structure Elt (ro:Nat->Prop) (w:World) {T:Type} (enc:T->List A) (k:Nat) (l:List T) where
 x:T
 vs:List Value
 mem:x∈l
 len:vs.length=k
 rel:LR ro [] w (enc x) vs
 plain:∀v∈vs,Qn v
theorem Qem{v:Value}(h:Qn v):v.oneCell'=true:=by cases v<;>first|rfl|exact h.elim
theorem Qke{P:Program}{ρ:Ren}(L:SlLaysF0.n6 P ρ){T:Type}[DecidableEq T]{enc:T->List A}{k t g:Nat}{cap:List A}{l l':List T}{cf:T->T->Option Int}(hs:Qdn cf l=some l')
  (bc:∀x y c,cf x y=some c->C P g ([.agg (enc x),.agg (enc y)]++cap) [] (λa H=>a=.int .i64 c/\H=[]))
  (aE:∀w,(isAgg (ρ.t 24)).run P w=.ok true w)(zE:∀w,(Go.sizeOf (ρ.t 24)).run P w=.ok k w)(eg:∀args w,(callFunc g args).run P w=.ok (.enter g args) w)
  (hk:∀x,(enc x).length=k)(hd:Q6 cap=true):
  C P (ρ.f 6) [.osl 0 0 l.length k,.fn (.func g) [] cap] [.row t k (l.map enc)] (λa H=>a=.tup []/\H=[.row t k (l'.map enc)]):=by
 intro fr G σ vals w s hv;obtain⟨vs,r1,rfl,bm,vf,r2,rfl,bh,hr⟩:=hv;cases(show r2=[]from hr);obtain⟨lf,lc,rfl,h1,ba⟩:=bh;cases(show lf=[]from h1);have an:LR G [] w cap lc:=LR.data hd ba;obtain⟨az,aj,M,av,a1⟩:=Qdm hs;have E:∀(ad:Option Addr) (c:Nat),vs=.slice ad 0 c->l=[]->
   Calls P (ρ.f 6) [vs,.func (.func g) #[] lc.toArray].toArray w λe w'=>∃v r H' ah τ,e=.returned v/\(r=.tup []/\H'=[.row t k (l'.map enc)])/\Sim fr ah (σ++τ) H' w'/\VR ah (σ++τ) w' r v/\Qg fr G w ah w':=by
  rintro ad c rfl rfl;have ag:l'=[]:=by rw[<- a1];rfl
  subst ag;refine(AnyF.slices_SortFunc_none L ad c (.func (.func g) #[] lc.toArray) w).mono ?_;rintro e w' ⟨rfl,rfl⟩;exact⟨_,_,_,G,[],rfl,⟨rfl,rfl⟩,by simpa using s,⟨[],rfl,rfl⟩,Qg.refl _ _ _⟩
 rcases bm with⟨h0,rfl⟩|⟨b,p,cp,t',m,q1,rfl,q2,q3,q4,q5⟩
 .exact E none 0 rfl (VB.1 h0)
 .by_cases ag:l=[]
  .subst ag;exact E _ cp rfl rfl
  .have bi:0<l.length:=List.length_pos_iff.2 ag;obtain rfl:=q2 (Vb bi q3);obtain⟨lv,e1,e2⟩:=s.blk 0 _ _ q1 rfl;obtain⟨hb,ai,a8⟩:=s.own 0 b _ q1 rfl rfl;obtain⟨V,J,a5,rfl,af⟩:=RL.parts e2
   let α:=Elt G w enc k l
   have a7:∀p∈V,p.1∈l:=λp hp=>by rw[<- a5];exact Vy hp
   let ds:List α:=V.attach.map λp=>⟨p.1.1,p.1.2,a7 _ p.2,(af _ p.2).1,(af _ p.2).2.1,(af _ p.2).2.2⟩
   have a9:∀{γ:Type} (f:T×List Value->γ),V.attach.map (λp=>f p.1)=V.map f:=λf=>by simp
   have N:ds.map (·.x)=l:=by
    show(V.attach.map _).map _=_;rw[List.map_map];exact(a9 (·.1)).trans a5
   have al:ds.map (·.vs)=V.map (·.2):=by
    show(V.attach.map _).map _=_;rw[List.map_map];exact a9 (·.2)
   have aq:ds.length=l.length:=by rw[<- N];simp
   have a4:ds≠[]:=by intro q;rw[q]at aq;simp at aq;omega
   let inh:Inhabited α:=⟨ds.head a4⟩
   let enc':α->List Value:=λa=>a.vs
   let cf':α->α->Int:=λx y=>(cf x.x y.x).getD 0
   have ae:∀x y:α,ltOf cf' x y=ltO cf x.x y.x:=by
    intro x y;obtain⟨c,B⟩:=aj x.x x.mem y.x y.mem;simp only[ltOf,ltO,cf',B,Option.getD_some]
   have hO:SWO (ltOf cf'):=⟨λx=>by rw[ae];exact M.irrefl _ x.mem,λx y z a b=>by rw[ae]at*;exact M.trans _ x.mem _ y.mem _ z.mem a b,
    λx y z a b=>by rw[ae]at*;exact M.ntrans _ x.mem _ y.mem _ z.mem a b⟩
   have Y:∀x:α,(enc' x).length=k:=λx=>x.len;have ao:flatK enc' k ds.toArray=((V.map (·.2)).flatten).toArray:=by
    rw[QfO Y];show((ds.map λa=>a.vs).flatten).toArray=_;rw[al]
   have bq:∀v∈V.map (·.2),v.length=k:=by
    intro v hv;obtain⟨p,hp,rfl⟩:=Xe.1 hv;exact(af p hp).1
   have ab:(V.map (·.2)).flatten.length=ds.length*k:=by rw[Qal _ bq, <- al];simp
   have hH:HoldsK enc' k w b (0*k) ds.toArray:=by
    intro j hj;rw[ao]at hj⊢;simp only[List.size_toArray]at hj;constructor
    .unfold World.cell?;simp only[e1,Option.isSome_none,Xg,if_false,Nat.zero_mul,Xu];rw[Qac,XK hj];exact QdD _ _ hj
    .unfold World.frozen?;simp only[e1];simp
   have ay:∀(d:Array α),d.size=ds.toArray.size->(putRowK enc' k w b (0*k) d).heap=w.heap.setIfInBounds b (.cells (((d.toList.map enc').flatten++J)).toArray t (0,0)):=by
    intro d u;have ac:(d.toList.map enc').flatten.length=(V.map (·.2)).flatten.length:=by
     rw[Qal _ (k:=k) (by intro v hv;obtain⟨x,_,rfl⟩:=Xe.1 hv;exact Y x),ab];simp at u⊢;rw[u]
    unfold putRowK putRow mapBlock;show w.heap.modify b _=_;rw[Qa0 e1];simp only[onCells];congr 2;rw[QfO Y];unfold putCells;apply Array.ext_getElem?;intro i;simp only[Array.getElem?_mapIdx,Qac,Nat.zero_mul,XS,true_and,Xu,Xt,List.size_toArray,id_eq];by_cases hi:i<(d.toList.map enc').flatten.length
    .rw[XK hi,XK (by rw[<- ac];exact hi),XI (by rw[<- ac];exact hi),QdD _ _ hi];exact congrArg some (Vo hi)
    .rw[XL (by omega),XL (by omega),ac];cases(J[i-(V.map (·.2)).flatten.length]?)with
     |none=>rfl
     |some v=>
      rw[<- ac];exact congrArg some (Vn hi)
   have R:∀(m:Nat) (os:Array Obj) (d:Array α),d.size=ds.toArray.size->
     (∀c,c<w.heap.size->c≠b->(sortWorldK enc' k w b (0*k) m d os).heap[c]?=w.heap[c]?)/\(sortWorldK enc' k w b (0*k) m d os).heap[b]?=some (.cells (((d.toList.map enc').flatten++J)).toArray t (0,0))/\
     w.heap.size<=(sortWorldK enc' k w b (0*k) m d os).heap.size:=by
    intro m os d u;have e:(sortWorldK enc' k w b (0*k) m d os).heap=w.heap.setIfInBounds b (.cells (((d.toList.map enc').flatten++J)).toArray t (0,0))++os:=by
     rw[<- ay d u];rfl
    rw[e];refine⟨λc B bn=>?_,?_,by simp⟩
    .rw[Array.getElem?_append_left (by simpa using B),Va,Vn (λq=>bn q.symm)]
    .rw[Array.getElem?_append_left (by simpa using hb),Va,Vo rfl,Vo hb]
   have O:∀(m:Nat) (os:Array Obj) (d:Array α),d.size=ds.toArray.size->∀c y,w.shape? c=some y->(sortWorldK enc' k w b (0*k) m d os).shape? c=some y:=by
    intro m os d u c y hy;obtain⟨g1,g2,g3⟩:=R m os d u;by_cases B:c=b
    .subst B;unfold World.shape? at hy⊢;rw[e1]at hy;rw[g2];simp only[Option.some.injEq]at hy⊢;rw[<- hy];congr 1;simp only[List.size_toArray,XY];rw[Qal _ (k:=k) (by intro v hv;obtain⟨x,_,rfl⟩:=Xe.1 hv;exact Y x),ab];simp at u⊢;rw[u]
    .unfold World.shape? at hy⊢;rw[g1 c (Qbp hy) B];exact hy
   have am:∀(m:Nat) (os:Array Obj) (d:Array α),d.size=ds.toArray.size->∀τ,Ext G τ w G τ (sortWorldK enc' k w b (0*k) m d os):=by
    intro m os d u τ;obtain⟨g1,g2,g3⟩:=R m os d u;exact⟨λ_ q=>q,λc B=>g1 c (s.roLt c B) (λq=>ai (q▸B)),O m os d u,λ_ _ q=>q⟩
   have bp:CmpLays P g lc.toArray enc' k cf' b (0*k) ds.toArray.size w:=by
    intro m os dk a0 x y;obtain⟨c,B⟩:=aj x.x x.mem y.x y.mem;have F:=am m os dk a0 [];have bj:=bc _ _ _ B;generalize hW:sortWorldK enc' k w b (0*k) m dk os=W at*;have bd:w.heap.size<=W.heap.size:=by rw[<- hW];exact(R m os dk a0).2.2
    have sW:Sim (λc=>c<W.heap.size/\ ¬G c) G [] [] W:=
     ⟨rfl,s.roOk.to (λ_ q=>q) F.keep (λc B=>Vb (s.roLt c B) bd),λc B=>B.1,λc B hf=>hf.2 B,λi b x h=>by simp at h,λi j b x y h=>by simp at h,λi y x h=>by simp at h,λi b x c h=>by simp at h⟩
    have ar:LR G [] W ([.agg (enc x.x),.agg (enc y.x)]++cap) ([.agg x.vs.toArray,.agg y.vs.toArray]++lc):=
     LR.append (show LR G [] W [A.agg (enc x.x),A.agg (enc y.x)] [Value.agg x.vs.toArray,Value.agg y.vs.toArray]from⟨_,_,rfl,⟨x.vs,rfl,x.rel.mono F⟩,_,_,rfl,⟨y.vs,rfl,y.rel.mono F⟩,rfl⟩) (an.mono F)
    have Q:=bj _ G [] _ W sW ar;have bk:(([Value.agg x.vs.toArray,Value.agg y.vs.toArray]++lc).toArray:Array Value)= #[Value.agg (enc' x).toArray,Value.agg (enc' y).toArray]++lc.toArray:=by simp[enc']
    rw[bk]at Q;refine Q.mono ?_;rintro e w' ⟨v,r,H',ah,τ,rfl,⟨rfl,rfl⟩,s',bf,ev⟩;refine⟨?_,?_⟩
    .rw[show v=.int .i64 c from bf];simp only[cf',B,Option.getD_some]
    .refine Qhe (λc B=>?_) ev.size ev.os ev.tape ev.output ev.drawn;by_cases a6:G c
     .exact ev.keepRo c a6
     .exact ev.keepFr c ⟨B,a6⟩
   have X:ds.toArray.size=l.length:=by simpa using aq
   have ak:=AnyQ.slices_SortFunc L k aE zE enc' Y (λx v hv=>Qem (x.plain v hv)) cf' hO g lc.toArray b (0*k) cp ds.toArray w eg bp hH hb (by rw[X];unfold QK at az;omega);rw[X]at ak;refine ak.mono ?_;rintro e w' ⟨rfl,d,n,os,aa,aw,rfl⟩;have u:d.size=ds.toArray.size:=aa.1;obtain⟨g1,g2,g3⟩:=R n os d u;have au:d.toList.Perm ds:=by
    have h:=aa.2.2;have x1:d.extract 0 l.length=d:=by rw[<- X, <- u];exact Array.extract_size
    have x2:ds.toArray.extract 0 l.length=ds.toArray:=by rw[<- X];exact Array.extract_size
    rw[x1,x2]at h;simpa using h
   have a3:d.toList.map (·.x)=l':=by
    rw[<- a1];refine Qa6 (lt:=ltO cf) ?_ ?_ ?_ (QaB M)
    .exact((au.map (·.x)).trans (by rw[N])).trans (YW _ _).symm
    .intro x hx y hy;have bg:x∈l:=by rw[<- N];exact(au.map (·.x)).mem_iff.1 hx
     have bo:y∈l:=by rw[<- N];exact(au.map (·.x)).mem_iff.1 hy
     exact av x bg y bo
    .rw[Vw];intro i j hi hj bl;simp only[XX]at hi hj;simp only[List.getElem_map];rw[<- ae];have:=aw i j (XS _) bl (by rw[<- X, <- u];simpa using hj);rw[getElem!_pos d j (by simpa using hj),getElem!_pos d i (by simpa using hi)]at this;simpa using this
   have be:RL G [] (sortWorldK enc' k w b (0*k) n d os) k (l'.map enc) ((d.toList.map enc').flatten++J):=by
    have e3:d.toList.map enc'=(d.toList.map λa=>(a.x,a.vs)).map (·.2):=by simp[enc']
    have e4:l'=(d.toList.map λa=>(a.x,a.vs)).map (·.1):=by rw[<- a3];simp
    rw[e3,e4];refine Qbw hk ?_;intro p hp;obtain⟨a,_,rfl⟩:=Xe.1 hp;exact⟨a.rel.mono (am n os d u []),a.plain⟩
   have bb:Qg fr G w G (sortWorldK enc' k w b (0*k) n d os):=
    ⟨λ_ q=>q,λc B=>g1 c (s.roLt c B) (λq=>ai (q▸B)),λc B=>g1 c (s.frLt c B) (λq=>a8 (q▸B)),g3,O n os d u,rfl,rfl,rfl,Nat.le_add_right _ _⟩
   have ax:σ.length=1:=s.len;have a2:Sim fr G σ [.row t k (l'.map enc)] (sortWorldK enc' k w b (0*k) n d os):=by
    have i0:∀{i:Nat} {x:Blk},([.row t k (l'.map enc)]:Qc)[i]?=some x->i=0/\x=.row t k (l'.map enc):=by
     intro i x h;cases i with
     |zero=>simp at h;exact⟨rfl,h.symm⟩
     |succ i=>simp at h
    refine⟨ax,s.roOk.to (λ_ q=>q) bb.keepRo (λc B=>Vb (s.roLt c B) g3),λc B=>Vb (s.frLt c B) g3,s.roFr,λi c x h1 h2 h3=>?_,λi j c x y h1 h2 h3 h4 _ _=>?_,λi y x h1 h2=>?_,λi b x c h1 h2 h3=>by obtain⟨rfl,rfl⟩:=i0 h2;exact h3.elim⟩
    .obtain⟨rfl,rfl⟩:=i0 h2;obtain⟨p1,p2⟩:=s.own 0 c _ h1 rfl rfl;exact⟨Vb p1 g3,p2⟩
    .rw[(i0 h3).1,(i0 h4).1]
    .obtain⟨rfl,rfl⟩:=i0 h2;rw[q1]at h1;cases h1;exact⟨_,g2,be⟩
   exact⟨_,_,_,G,[],rfl,⟨rfl,rfl⟩,by simpa using a2,⟨[],rfl,rfl⟩,bb⟩
end Go.Sw
namespace Go.Sw
section
variable {P:Program} {o:Oper} {env:Env} {H:Qc} {fr ro:Nat->Prop} {σ:Sig} {w:World}
theorem Sim.addRo(s:Sim fr ro σ H w){b:Nat}(p:b<w.heap.size)(B:¬fr b)(E:∀(i:Nat) (x:Blk),σ[i]?=some (some b)->H[i]?=some x->x.live=true->False)
  (n:∀(i d:Nat) (x:Blk),σ[i]?=some (some d)->H[i]?=some x->Hid w x d b->False):Sim fr (λc=>ro c\/c=b) σ H w:=by
 refine⟨s.len,s.roOk.to (λ_ q=>.inl q) (λ_ _=>rfl) ?_,s.frLt,?_,?_,s.inj,?_,s.hidTo (· = ·) QP (XR _) (λj d x c h l k r=>r.elim id λq=>(n j d x h l (q▸k)).elim) (λ_ _ _ _ _ _ _ q=>q) λj d y m z F=>.inl ⟨j,y,rfl,m,z,id,λ_ q=>q⟩⟩
 .rintro c (q|rfl)
  .exact s.roLt c q
  .exact p
 .rintro c (q|rfl)
  .exact s.roFr c q
  .exact B
 .intro i c x a e f;obtain⟨g,u,t⟩:=s.own i c x a e f;refine⟨g,?_,t⟩;rintro(q|rfl)
  .exact u q
  .exact E i x a e f
 .intro i y x a e;exact(s.blk i y x a e).keep ⟨λ_ q=>.inl q,λ_ _=>rfl,λ_ _ q=>q,λ_ _ q=>q⟩ (λ_ _ _=>rfl) (λ_ _ _ _=>rfl)
theorem Yu{T e k n:Nat}{xs:List Operand}{es:List (List A)}(E:QM P T e k)(ho:o.op=.buildSlice T n (QaA 0 xs).toArray)(M:xs.length=n)(u:Nat.ble (n*k) 16777216=true)
  (R:(xs.all λx=>Q0 (opA env x))=true)(G:QV env xs=es)(L:allK k es)(O:es.flatten.all Yb=true)(X:Q6 es.flatten=true):
  OpH P o env H (.rsl k es) H:=by
 intro V j σ N a w r;subst G;obtain⟨l,Y,J⟩:=QaH r E M u R L;have F:LR j [] w (QV env xs).flatten l:=J.data X;have f:∀b,b<w.heap.size->(w.alloc (.cells l.toArray e)).heap[b]?=w.heap[b]? :=λb Q=>Yd _ _ b Q;have m:w.heap.size<=(w.alloc (.cells l.toArray e)).heap.size:=by rw[Yc];omega
 have s1:=r.sim.grown f m;have s:Qg V j w j (w.alloc (.cells l.toArray e)):=Qg.alloc _ r.sim.roLt r.sim.frLt;have W:=s1.addRo (b:=w.heap.size) (by rw[Yc];omega) (λq=>Nat.lt_irrefl _ (r.sim.frLt _ q)) (λi x p t B=>Nat.lt_irrefl _ (r.sim.own i _ x p t B).1)
  (λi d x p t B=>Nat.lt_irrefl _ (r.sim.hid i d x _ p t (r.sim.hidKeep p t (λz=>f d (r.sim.own i d x p t z).1) (λb q=>f b (r.sim.roLt b q)) B)).lt)
 have y:RL j [] (w.alloc (.cells l.toArray e)) k (QV env xs) l:=by
  have:=YZ (rest:=[]) L (F.mono (s.ext0 [])) (J.plain O)
  rwa [Vc]at this
 have g:(QV env xs).length=n:=by simp[QV,M]
 refine⟨_,_,λc=>j c\/c=w.heap.size,[],Qaq ho a.eval Y,?_,by simpa using W,s.trans (Yy λ_ q=>.inl q)⟩;refine⟨some ⟨w.heap.size,0,none⟩,n,by rw[g],by rw[g];exact XR _,.inr ⟨w.heap.size,0,rfl,.inr rfl,?_⟩⟩;have h:(w.alloc (.cells l.toArray e)).heap[w.heap.size]?=some (.cells (([]:List Value)++l).toArray e (0,0)):=Q1 _ _;have:=Yz (pre:=[]) h y;exact this.keep ⟨λ_ q=>.inl q,λ_ _=>rfl,λ_ _ q=>q,λ_ _ q=>q⟩ rfl
end
inductive QgU:List A->List A->Prop
 |nil:QgU [] []
 |eq {a:A} {l m:List A} (h:QgU l m):QgU (a::l) (a::m)
 |nl {k:Nat} {l m:List A} (h:QgU l m):QgU (.nils::l) (.rsl k []::m)
theorem LR.nils{ro:Nat->Prop}{σ:Sig}{w:World}{g f:List A}(h:QgU g f):∀{l:List Value},LR ro σ w g l->LR ro σ w f l:=by
 induction h with
 |nil=>intro l h;exact h
 |eq _ ih=>rintro l ⟨v,b,e,d,a⟩;exact⟨v,b,e,d,ih a⟩
 |nl _ ih=>rintro l ⟨v,b,e,d,a⟩;exact⟨v,b,e,⟨none,0,d,XR _,.inl rfl⟩,ih a⟩
theorem C.nils{P:Program}{f:FuncId}{l1 bs:List A}{H:Qc}{Q:A->Qc->Prop}(hl:QgU l1 bs)(h:C P f bs H Q):C P f l1 H Q:=
 λfr ro σ vals w s l=>h fr ro σ vals w s (LR.nils hl l)
end Go.Sw
namespace Go.Sw
def Qc1(k:IntKind)(n:Int):Prop:=k.min<=n/\n<=k.max
def QdN(w:World):Nat->Prop:=λb=>b<w.heap.size
structure Meas {H:Type} (μ:DataW H->Nat):Prop where
 str:∀bytes,bytes.length<=μ (.lit (.string bytes))
 sl:∀e s,e.length<=μ (.slice e s)
 sle:∀e s,∀d∈e,μ d<=μ (.slice e s)
 ag:∀ps,∀d∈ps,μ d<=μ (.agg ps)
def RB(P:Program)(n:Nat)(t:TypeId)(T:Type)(e:T->List A)(wf:T->Prop):Prop:=
 ∀(H:Type) (enc:TypeId×Value->H) (w:World) (base:Nat) (spare:Nat->Bool) (held:Bool) (m:Nat) (cs:List Value) d,m<n->DataW.trod enc P w base spare held m t cs=some d->
  ∀μ:DataW H->Nat,Meas μ->μ d.1<=1048576->∃x:T,wf x/\LR (QdN w) [] w (e x) cs/\ ∀v∈cs,Qn v
section
variable {P:Program} {n:Nat} {t:TypeId} {T:Type} {e:T->List A} {wf:T->Prop}
theorem RB.down(h:RB P (n+1) t T e wf):RB P n t T e wf:=λH enc w base spare held m cs d hm=>h H enc w base spare held m cs d (Nat.lt_succ_of_lt hm)
theorem Qj8{T':Type}{b:T'->List A}{a:T'->Prop}(h:RB P n t T e wf)(g:T->T')(he:∀x,b (g x)=e x)(k:∀x,wf x->a (g x)):RB P n t T' b a:=by
 intro H enc w base spare held m cs d hm hd μ hμ hwt;obtain⟨x,j,f,i⟩:=h H enc w base spare held m cs d hm hd μ hμ hwt;exact⟨g x,k x j,by rw[he];exact f,i⟩
theorem RB.int{k:IntKind}(a:P.underlying t=some (.int k)):RB P n t Int (Qe k) (Qc1 k):=by
 intro H enc w base spare held m cs d hm hd μ hμ hwt;cases m with
 |zero=>simp[DataW.trod]at hd
 |succ m=>
  rcases cs with _|⟨v,_|⟨g,r⟩⟩
  .simp[DataW.trod,a]at hd
  .cases v<;>simp[DataW.trod,a]at hd;rename_i f b;obtain⟨⟨rfl,e⟩,_⟩:=hd;refine⟨b,?_,⟨_,_,rfl,rfl,rfl⟩,by simp[Qn]⟩;simpa[Lit.wf,Qc1]using e
  .simp[DataW.trod,a]at hd
theorem RB.bool(a:P.underlying t=some .bool):RB P n t Bool Qbn (λ_=>True):=by
 intro H enc w base spare held m cs d hm hd μ hμ hwt;cases m with
 |zero=>simp[DataW.trod]at hd
 |succ m=>
  rcases cs with _|⟨v,_|⟨e,r⟩⟩
  .simp[DataW.trod,a]at hd
  .cases v<;>simp[DataW.trod,a]at hd;rename_i b;exact⟨b,trivial,⟨_,_,rfl,rfl,rfl⟩,by simp[Qn]⟩
  .simp[DataW.trod,a]at hd
theorem RB.string(a:P.underlying t=some .string):RB P n t (List UInt8) encS (λs=>s.length<=1048576):=by
 intro H enc w base spare held m cs d hm hd μ hμ hwt;cases m with
 |zero=>simp[DataW.trod]at hd
 |succ m=>
  rcases cs with _|⟨v,_|⟨b,r⟩⟩
  .simp[DataW.trod,a]at hd
  .cases v<;>simp[DataW.trod,a]at hd;rename_i s;obtain⟨_,rfl⟩:=hd;exact⟨s.data.toList,XT (hμ.str _) hwt,⟨_,_,rfl,rfl,rfl⟩,by simp[Qn]⟩
  .simp[DataW.trod,a]at hd
theorem QbU{α:Type}{f:Nat->Option α}:∀{n:Nat} {l:List α},(List.range n).mapM f=some l->l.length=n/\ ∀i,i<n->∃y,f i=some y/\l[i]?=some y
 |0,l,h=>by simp at h;subst h;exact⟨rfl,λi hi=>absurd hi (Xk _)⟩
 |n+1,l,h=>by
  rw[List.range_succ,List.mapM_append]at h;cases h1:(List.range n).mapM f with
  |none=>simp[h1]at h
  |some l1=>
   cases h2:f n with
   |none=>simp[h1,h2]at h
   |some y=>
    simp[h1,h2]at h;subst h;obtain⟨e1,e2⟩:=QbU h1;refine⟨by simp[e1],λi hi=>?_⟩;rcases Xm.1 hi with q|rfl
    .obtain⟨z,z1,z2⟩:=e2 i q;exact⟨z,z1,by rw[XK (by omega)];exact z2⟩
    .exact⟨y,h2,by rw[XL (by omega)];simp[e1]⟩
theorem Qc3{w:World}{ro:Nat->Prop}{b:Nat}:∀{cs:List A} {l:List Value} {off:Nat},LR ro [] w cs l->(∀v∈l,Qn v)->(∀i,i<l.length->w.cell? ⟨b,off+i,none⟩=l[i]?)->CR ro [] w b cs off
 |[],_,_,_,_,_=>trivial
 |a::cs,l,off,h,hp,hc=>by
  obtain⟨v,l',rfl,h1,h2⟩:=h;refine⟨⟨v,by simpa using hc 0 (by simp),hp v (by simp),h1⟩,Qc3 h2 (λv hv=>hp v (by simp[hv])) λi hi=>?_⟩;have:=hc (i+1) (by simpa using hi);rw[show off+1+i=off+(i+1)by omega,this];simp
theorem RB.slice{E:TypeId}{k:Nat}{s:TypeId}(M:P.underlying s=some (.slice E))(hk:P.cellsOf E=k)(h0:Nat.blt 0 k=true)(hl:∀x,(e x).length=k)(h:RB P n E T e wf):
  RB P (n+1) s (List T) (encL k e) (λl=>l.length<=1048576/\ ∀x∈l,wf x):=by
 intro H enc w base spare held m cs d hm hd μ hμ hwt;have k0:0<k:=by simpa using h0
 cases m with
 |zero=>simp[DataW.trod]at hd
 |succ m=>
  rcases cs with _|⟨v,_|⟨v2,r⟩⟩
  .simp[DataW.trod,M]at hd
  .cases v<;>try (simp[DataW.trod,M]at hd;done)
   rename_i a len t;cases a with
   |none=>
    rcases len with _|len
    .rcases t with _|t
     .refine⟨[],⟨by simp,by simp⟩,⟨_,_,rfl,⟨none,0,rfl,XR _,.inl rfl⟩,rfl⟩,by simp[Qn]⟩
     .simp[DataW.trod,M]at hd
    .simp[DataW.trod,M]at hd
   |some a=>
    simp only[DataW.trod,M]at hd;split at hd
    .rename_i hc;obtain⟨c1,c2,c3⟩:=hc;cases G:(List.range len).mapM (λi=>(w.cells? base (a.add (i*P.cellsOf E)) (P.cellsOf E)).bind (DataW.trod enc P w base spare held m E))with
     |none=>rw[G]at hd;cases hd
     |some f=>
      rw[G]at hd;simp only[XH,Option.map_eq_some_iff]at hd;obtain⟨u,_,rfl⟩:=hd;have F:f.length<=1048576:=by
       have h1:=hμ.sl (f.map (·.1)) (u.map (·.1));rw[XX]at h1;exact XT h1 hwt
      have X:∀y∈f,μ y.1<=1048576:=λy V=>XT (hμ.sle _ (u.map (·.1)) _ (Vy V)) hwt;obtain⟨e1,e2⟩:=QbU G;have Q:∀i,i<len->∃(x:T) (l:List Value),wf x/\LR (QdN w) [] w (e x) l/\(∀v∈l,Qn v)/\l.length=k/\ ∀j,j<k->w.cell? ((a.add (i*k)).add j)=l[j]? :=by
       intro i W;obtain⟨y,y1,y2⟩:=e2 i W;rw[hk]at y1;cases g:w.cells? base (a.add (i*k)) k with
       |none=>rw[g]at y1;cases y1
       |some l=>
        rw[g]at y1;obtain⟨x,x1,x2,x3⟩:=h H enc w base spare held m l y (by omega) y1 μ hμ (X y (Vz y2));refine⟨x,l,x1,x2,x3,by rw[x2.length];exact hl x,λj hj=>?_⟩;unfold World.cells? at g;split at g
        .obtain⟨_,z2⟩:=QbU g;obtain⟨v,v1,v2⟩:=z2 j hj;rw[v2, <- v1]
        .cases g
      by_cases O:len=0
      .subst O;exact⟨[],⟨by simp,by simp⟩,⟨_,_,rfl,⟨some a,t,rfl,XS _,.inl rfl⟩,rfl⟩,by simp[Qn]⟩
      .have first:a.spot=none/\a.block<w.heap.size:=by
        obtain⟨x',l,p1,p2,p3,p4,p5⟩:=Q 0 (by omega);have B:=p5 0 k0;have Y:l[0]?=some l[0]:=XI (by omega);have ea:(a.add (0*k)).add 0=a:=by simp[Addr.add]
        rw[Y,ea]at B;unfold World.cell? at B;split at B
        .rename_i hh;constructor
         .cases q:a.spot with
          |none=>rfl
          |some z=>simp[q]at B
         .exact(X8.1 hh).1
        .cases B
       obtain⟨p,hb⟩:=first
       have N:∀n,a.add n=⟨a.block,a.off+n,none⟩:=by
        intro n;cases a;simp only at p;subst p;unfold Addr.add;split
        .rename_i q;subst q;rfl
        .rfl
       have L:∀(b o n:Nat),(⟨b,o,none⟩:Addr).add n=⟨b,o+n,none⟩:=by
        intro b o n;unfold Addr.add;split
        .rename_i q;subst q;rfl
        .rfl
       have pick:∀q i,len-i=q->i<=len->∃J:List T,J.length=len-i/\(∀x∈J,wf x)/\RR (QdN w) [] w a.block k (J.map e) (a.off+i*k):=by
        intro q
        induction q with
        |zero=>intro i hq W;exact⟨[],by simp[hq],by simp,trivial⟩
        |succ q ih=>
         intro i hq W;obtain⟨J,w1,w2,R⟩:=ih (i+1) (by omega) (by omega);obtain⟨x,l,p1,p2,p3,p4,p5⟩:=Q i (by omega);refine⟨x::J,by simp[w1];omega,by intro y V;rcases X2.1 V with rfl|V;exact p1;exact w2 y V,hl x,?_,?_⟩
         .refine Qc3 p2 p3 λj hj=>?_;have B:=p5 j (by omega);rw[N,L]at B;exact B
         .rw[Xj, <- Nat.add_assoc]at R;exact R
       obtain⟨J,w1,w2,R⟩:=pick len 0 (by omega) (XS _);rw[Nat.zero_mul,Xv]at R;rw[Xt]at w1;refine⟨J,⟨by rw[w1, <- e1];exact F,w2⟩,⟨_,_,rfl,⟨some a,t,by simp[w1],by simp[w1];exact c2,.inr ⟨a.block,a.off,?_,hb,R⟩⟩,rfl⟩,by simp[Qn]⟩;cases a;simp only at p;subst p;rfl
    .cases hd
  .simp[DataW.trod,M]at hd
def RF(P:Program)(n:Nat)(fs:List Field)(off L:Nat)(T:Type)(e:T->List A)(wf:T->Prop):Prop:=
 ∀(H:Type) (enc:TypeId×Value->H) (w:World) (base:Nat) (spare:Nat->Bool) (held:Bool) (m:Nat) (cs:List Value) ds,m<n->cs.length=L->
  fs.mapM (λf=>DataW.trod enc P w base spare held m f.type ((cs.drop f.offset).take (P.cellsOf f.type)))=some ds->
  ∀μ:DataW H->Nat,Meas μ->(∀y∈ds,μ y.1<=1048576)->∃x:T,wf x/\LR (QdN w) [] w (e x) (cs.drop off)/\ ∀v∈cs.drop off,Qn v
theorem RF.nil{L:Nat}:RF P n [] L L Unit (λ_=>[]) (λ_=>True):=by
 intro H enc w base spare held m cs ds hm hl hd μ hμ hwt;have:cs.drop L=[]:=List.drop_eq_nil_of_le (by omega);rw[this];exact⟨(),trivial,rfl,by simp⟩
theorem RF.cons{f:Field}{fs:List Field}{off L k:Nat}{T2:Type}{s:T2->List A}{i:T2->Prop}(J:f.offset=off)(F:P.cellsOf f.type=k)(h:RB P n f.type T e wf)(r:RF P n fs (off+k) L T2 s i):
  RF P n (f::fs) off L (T×T2) (λp=>e p.1++s p.2) (λp=>wf p.1/\i p.2):=by
 intro H enc w base spare held m cs ds hm hl hd μ hμ hwt;rw[List.mapM_cons]at hd;cases b:DataW.trod enc P w base spare held m f.type ((cs.drop f.offset).take (P.cellsOf f.type))with
 |none=>simp[b]at hd
 |some d=>
  cases l:fs.mapM (λf=>DataW.trod enc P w base spare held m f.type ((cs.drop f.offset).take (P.cellsOf f.type)))with
  |none=>simp[b,l]at hd
  |some a=>
   have j:ds=d::a:=by
    rw[b,l]at hd;exact(XV hd).symm
   subst j;rw[J,F]at b;obtain⟨x,t,u,z⟩:=h H enc w base spare held m _ d hm b μ hμ (hwt d (by simp));obtain⟨y,y1,y2,G⟩:=r H enc w base spare held m cs a hm hl l μ hμ (λy B=>hwt y (by simp[B]));have g:cs.drop off=(cs.drop off).take k++cs.drop (off+k):=by rw[<- List.drop_drop,Xy]
   refine⟨(x,y),⟨t,y1⟩,by rw[g];exact u.append y2,?_⟩;rw[g];intro v E;rcases Vv.1 E with q|q
   .exact z v q
   .exact G v q
theorem RB.struct{fs:Array Field}{L:Nat}(j:P.underlying t=some (.struct fs))(k:P.cellsOf t=L)(h:RF P n fs.toList 0 L T e wf):RB P (n+1) t T e wf:=by
 intro H enc w base spare held m cs d hm hd μ hμ hwt;cases m with
 |zero=>simp[DataW.trod]at hd
 |succ m=>
  unfold DataW.trod at hd;simp only[j]at hd;split at hd
  .rename_i b;cases a:fs.toList.mapM (λf=>DataW.trod enc P w base spare held m f.type ((cs.drop f.offset).take (P.cellsOf f.type)))with
   |none=>rw[a]at hd;cases hd
   |some g=>
    rw[a]at hd;simp only[Xh,Option.some.injEq]at hd;subst hd;have:=h H enc w base spare held m cs g (by omega) (by rw[b,k]) a μ hμ (λy i=>XT (hμ.ag _ _ (Vy i)) hwt);simpa using this
  .cases hd
end
theorem C.law{P:Program}{f:FuncId}{args:List A}{W:World}{vals:List Value}(h:C P f args [] (λa H=>a=.bool true/\H=[]))(hl:LR (QdN W) [] W args vals)(d:GP W):
  Calls P f vals.toArray W λe W'=>e=.returned (.bool true)/\Go.RowKit.Below W.heap.size W W':=by
 have s:Sim (λ_=>False) (QdN W) [] [] W:=
  ⟨rfl,⟨λ_ h=>h,λb m=>d.size b m,d⟩,λ_ h=>h.elim,λ_ _ h=>h,λi b x h=>by simp at h,λi j b x y h=>by simp at h,λi y x h=>by simp at h,λi b x c h=>by simp at h⟩
 refine(h _ _ _ _ W s hl).mono ?_;rintro e W' ⟨v,r,H',n,τ,rfl,⟨rfl,rfl⟩,_,l,ev⟩;exact⟨by rw[show v=.bool true from l],⟨ev.os,ev.tape,ev.output,ev.size,λk g=>ev.keepRo k g⟩⟩
theorem QhB{P:Program}{W:World}{t:TypeId}{a:Option Addr}{len cap:Nat}{T:Type}{e:T->List A}{k:Nat}{wf:List T->Prop}{H:Type}{enc:TypeId×Value->H}{f:Nat}{b:Nat->Bool}{held:Bool}{d:DataW H}{ps:List MemPlace}
  (h:∀n,RB P n t (List T) (encL k e) wf)(p:DataW.Trod enc P W f b held t (.slice a len cap) d ps){μ:DataW H->Nat}(hμ:Meas μ)(g:μ d<=1048576):∃x:List T,wf x/\VR (QdN W) [] W (.rsl k (x.map e)) (.slice a len cap):=by
 obtain⟨m,q⟩:=p;obtain⟨x,l,⟨v,r,i,j,s⟩,_⟩:=h (m+1) H enc W f b held m _ _ (Xl _) q μ hμ g;refine⟨x,l,?_⟩;have:(Value.slice a len cap).cells.toList=[.slice a len cap]:=rfl;rw[this]at i;cases i;exact j
theorem Qgk{P:Program}{W:World}(h:W.ShapedOpen P){g t u:Nat}{z:Value}(hg:Nat.blt g P.globals.size=true)(q:(((begin P (λ_ _=>0) default).world.heap[g]?).bind Obj.row?)=some (#[z],t))
  (p:P.buildable t=true)(j:P.cellTypes P.depth t=some [u])(x:P.underlying u=some (.int .i64)):∃m:Int,W.cell? ⟨g,0,none⟩=some (.int .i64 m):=by
 obtain⟨d,w,l,r⟩:=h.1 g _ _ (by simpa using hg) q;obtain⟨B,e,_,s⟩:=r p;rw[j]at e;cases e;have y:d.size=1:=l;have a:d[0]?=some d[0]:=Array.getElem?_eq_getElem (by omega);obtain⟨E,f,b⟩:=s 0 _ a;simp at f;subst f;unfold Cell.ok at b;rw[x]at b;cases i:d[0]<;>rw[i]at b<;>simp at b;rename_i k n;obtain⟨rfl,_⟩:=b;refine⟨n,?_⟩;simp only[World.cell?,w];rw[a,i];rfl
end Go.Sw
namespace Go.Sw
theorem Qgw{S B:Type}{step:S->Option (Ctl S B)}(d:Nat->S)(b:B)(k:Nat)(f:∀i,i<k->step (d i)=some (.cont (d (i+1))))(j:step (d k)=some (.done b)):∀n,k<n->iter step n (d 0)=some b:=by
 have e:∀m i n,k-i=m->i<=k->m<n->iter step n (d i)=some b:=by
  intro m
  induction m with
  |zero=>
   intro i n l p g;have:i=k:=by omega
   subst this;obtain⟨a,rfl⟩:∃a,n=a+1:=⟨n-1,by omega⟩;simp[iter,j]
  |succ m h=>
   intro i n l p g;obtain⟨a,rfl⟩:∃a,n=a+1:=⟨n-1,by omega⟩;simp only[iter,f i (by omega)];exact h (i+1) a (by omega) (by omega) (by omega)
 intro n q;exact e k 0 n (by omega) (XS _) q
theorem QiM{S B:Type}{step:S->Option (Ctl S B)}(d:S)(a:Nat->S)(b:B)(k:Nat)(h0:a 0=d)(e:∀i,i<k->step (a i)=some (.cont (a (i+1))))(g:step (a k)=some (.done b))(n:Nat)(f:k<n):iter step n d=some b:=by
 rw[<- h0];exact Qgw a b k e g n f
theorem QjN{α:Type}{l:List α}{i:Nat}{x:α}(h:l[i]?=some x):idx l (i:Int)=some x:=by
 unfold idx;have:decide ((0:Int)<=i)=true:=by simp
 rw[this];simpa using h
theorem Qky{n:Int}(h0: -9223372036854775808<=n)(a:n<=9223372036854775807):IntKind.i64.wrap n=n:=by
 unfold IntKind.wrap;simp[IntKind.bits,IntKind.signed];omega
theorem Qhz{i:Nat}(h:i<9223372036854775807):IntKind.i64.wrap ((i:Int)+1)=((i+1:Nat):Int):=by
 rw[Qky (by omega) (by omega)];omega
end Go.Sw
namespace Go.Sw
open Go.Proofs Go.Shelf
def cat(a b:List UInt8):Option (List UInt8):=bif Nat.ble (a.length+b.length) 4294967296 then some (a++b)else none
theorem Qk5{a b r:List UInt8}(h:cat a b=some r):a.length+b.length<=4294967296/\a++b=r:=by
 unfold cat at h;cases q:Nat.ble (a.length+b.length) 4294967296 with
 |true=>rw[q]at h;exact⟨XP q,XV h⟩
 |false=>rw[q]at h;cases h
def Qgy(s t:List UInt8):Option Bool:=bif Nat.blt s.length 4294967281 then some (Lib.contains s t)else none
section
variable {P:Program} {o:Oper} {env:Env} {H:Qc}
theorem QdV{t u:TypeId}{x y:Operand}{p q r:List UInt8}(i:cat p q=some r)(k:o.op=.binOp .add t x y u:=by exact rfl)(hx:opA env x=.str p:=by exact rfl)(hy:opA env y=.str q:=by exact rfl):OpV P o env H (.str r):=by
 intro s n σ N a w rr;obtain⟨m,j⟩:=Qk5 i;have f:=Qf rr x;rw[hx]at f;have g:=Qf rr y;rw[hy]at g;have d:a.eval x=.string ⟨p.toArray⟩:=f;have e:a.eval y=.string ⟨q.toArray⟩:=g;have h:(⟨p.toArray⟩:ByteArray)++⟨q.toArray⟩=⟨r.toArray⟩:=by
  rw[<- j];apply ByteArray.ext;simp
 refine⟨.string ⟨r.toArray⟩,?_,rfl⟩;have b:¬((((⟨p.toArray⟩:ByteArray).size+(⟨q.toArray⟩:ByteArray).size:Nat):Int)>IntKind.i64.max):=by
  have:IntKind.i64.max=9223372036854775807:=by decide
  rw[this];simp only[ByteArray.size,List.size_toArray];omega
 generalize a.eval=ρ at*;have l:(eqGuard BinOp.add t x y (.string ⟨p.toArray⟩) (.string ⟨q.toArray⟩)).run P w=.ok () w:=by simp[eqGuard]
 simp only[execOp,k,d,e,binOp_string_add,Op.stringOp,Vn b,h,Vi,Vj,Result.andThen,l]
def Qd8{α:Type}(n:Nat)(l:List α)(i:Int):Option α:=bif Nat.beq l.length n then idx l i else none
theorem QaR{α:Type}{n:Nat}{l:List α}{i:Int}{x:α}(h:Qd8 n l i=some x):l.length=n/\idx l i=some x:=by
 unfold Qd8 at h;cases q:Nat.beq l.length n with
 |true=>rw[q]at h;exact⟨XO q,h⟩
 |false=>rw[q]at h;cases h
def arr{α:Type}(n:Nat)(l:List α):Option (List α):=bif Nat.beq l.length n then some l else none
theorem YY{α:Type}{n:Nat}{l l':List α}(h:arr n l=some l'):l.length=n/\l=l':=by
 unfold arr at h;cases q:Nat.beq l.length n with
 |true=>rw[q]at h;exact⟨XO q,XV h⟩
 |false=>rw[q]at h;cases h
theorem Qa9{α:Type}{n:Nat}{l l':List α}(h:arr n l=some l'):l'.length=n:=(YY h).2▸(YY h).1
section
variable {α:Type} {e:α->List A} {t et k n b:Nat} {x y:Operand} {l:List α}
theorem Qah{i:Int}{v:α}{m:IntKind}(h:Qd8 n l i=some v)(F:∀w,(underlying t).run P w=.ok (.array n et) w)(B:∀w,(sizeOf et).run P w=.ok k w)(u:Nat.ble 2 n=true)
  (J:o.op=.indexAddr t x y:=by exact rfl)(hx:opA env x=.ptr b 0:=by exact rfl)(hy:opA env y=.int m i:=by exact rfl):OpV P o env H (.ptr b (i.toNat*k)):=by
 intro M L σ N a w r;obtain⟨O,s⟩:=QaR h;obtain⟨Q,G⟩:=Qap s;have z:i.toNat<l.length:=(XJ.1 G).1;have f:=Qf r x;rw[hx]at f;obtain⟨e,f,p⟩:=f;have j:=Qf r y;rw[hy]at j;have g:a.eval y=.int m i:=j;refine⟨.pointer (some ⟨e,i.toNat*k,none⟩),?_,e,f,rfl⟩;have E:0<=i/\i<(n:Int):=by omega
 have d:(⟨e,0,none⟩:Addr).add (i.toNat*k)=⟨e,i.toNat*k,none⟩:=by
  unfold Addr.add;split
  .rename_i q;rw[q]
  .simp
 generalize a.eval=ρ at*;simp[execOp,J,p,g,Instr.indexAt,asIntOf,F,B,Instr.sureAddr,E,d,go_sem,Result.andThen]
theorem Qhq{cs:List A}(hH:H[b]?=some (.row t k (l.map e)):=by exact rfl)(hcs:(l.map e).flatten=cs:=by exact rfl):Pts H (.ptr b 0) cs:=by
 intro n m σ w v s h;obtain⟨a,g,i⟩:=h;obtain⟨j,f,d⟩:=s.blk b _ _ g hH;refine⟨a,0,i,?_⟩;have:=(RR.flat (Yz (pre:=[]) (by simpa using f) d)).1;subst hcs;exact this.lift
theorem QfN(a:∀x,(e x).length=k)(L:List α):(L.map e).flatten.length=L.length*k:=by
 induction L with
 |nil=>simp
 |cons c L ih=>simp only[Vf,Vh,XY,a c,ih,XW,Xj];omega
theorem Qf8{f:Nat}{l':List α}(h:arr n l=some l')(m:∀x,(e x).length=k)(a:n*k=f)(g:∀w,(isAgg t).run P w=.ok true w)(i:∀w,(sizeOf t).run P w=.ok f w){T:Nat}
  (p:o.op=.load t x:=by exact rfl)(hx:opA env x=.ptr b 0:=by exact rfl)(hH:H[b]?=some (.row T k (l.map e)):=by exact rfl):OpV P o env H (.agg (l'.map e).flatten):=by
 obtain⟨j,rfl⟩:=YY h;have d:=QfN m l;rw[j,a]at d;exact Qj p g i hx (Qhq hH rfl) (VA (by omega)) d
theorem QhR{r:Nat}{n2 T:Nat}(hl:l.length=n)(f:∀x,(e x).length=k)(a:n*k=n2)(g:∀w,(isAgg t).run P w=.ok true w)(h:∀w,(sizeOf t).run P w=.ok n2 w)
  (i:lk env r=.ptr b 0:=by exact rfl)(hH:H[b]?=some (.row T k (l.map e)):=by exact rfl):Qck P env H (.cell r t) (.agg (l.map e).flatten):=by
 have d:=QfN f l;rw[hl,a]at d;have:=Qc0 (b:=r) (p:=.ptr b 0) (n:=n2) g h (Qhq hH rfl) i (by rw[VA (by omega)];exact d)
 rwa [VA (by omega)]at this
theorem QfZ{c:List A}{k:Nat}(h:c.length=k):∀n,allK k (List.replicate n c)
 |0=>trivial
 |n+1=>⟨h,QfZ h n⟩
theorem YP{vs:Array Value}{z:α}(p:∀w,(zeroValue t).run P w=.ok (.agg vs) w)(i:(YA (List.replicate n (e z)).flatten).toArray=vs)(h:Qdp (List.replicate n (e z)).flatten=true)(g:(List.replicate n (e z)).flatten.all Yb=true)(j:Nat.beq (e z).length k=true)
  (q:o.op=.alloc t:=by exact rfl):OpH P o env H (.ptr H.length 0) (H++[.row t k ((List.replicate n z).map e)]):=by
 intro s f σ N a w r;have d:LR f [] w (List.replicate n (e z)).flatten (YA (List.replicate n (e z)).flatten):=Qd3 h;have b:=r.sim.allocRow (t:=t) (rest:=[]) (QfZ (XO j) n) d (d.plain g);rw[Vc]at b;have m:(List.replicate n z).map e=List.replicate n (e z):=List.map_replicate;refine⟨.pointer (some ⟨w.heap.size,0,none⟩),w.alloc (.cells (YA (List.replicate n (e z)).flatten).toArray t),f,[some w.heap.size],?_,⟨w.heap.size,?_,rfl⟩,m▸b,Qg.alloc _ r.sim.roLt r.sim.frLt⟩
 .generalize a.eval=ρ at*;have l:(newVar t (.agg vs)).run P w=.ok ⟨w.heap.size,0,none⟩ (w.alloc (.cells vs t)):=rfl;rw[i];simp only[execOp,q,Instr.alloc,Vi,p,Result.andThen,l];rfl
 .rw[<- r.sim.len];simp
theorem YO{T n2:Nat}{l':List α}{vs:List A}(h:l.length=n)(h':l'.length=n)(hk:∀x,(e x).length=k)(s:n*k=n2)(hs:∀w,(sizeOf t).run P w=.ok n2 w)
  (hp:∀x,(e x).all Yb=true)(hd:∀x,Q6 (e x)=true)(Q:(l'.map e).flatten=vs)
  (ho:o.op=.store t x y:=by exact rfl)(F:opA env x=.ptr b 0:=by exact rfl)(hH:H[b]?=some (.row T k (l.map e)):=by exact rfl)(W:opA env y=.agg vs:=by exact rfl):
  OpU P o env H (H.set b (.row T k (l'.map e))):=by
 intro fr ro σ N a w r;subst Q;have d:=Qf r x;rw[F]at d;obtain⟨bb,d,M⟩:=d;have h3:=Qf r y;rw[W]at h3;obtain⟨m,h4,G⟩:=h3;obtain⟨j,Y,q2⟩:=r.sim.blk b _ _ d hH;have z:∀(L:List α),allK k (L.map e):=by
  intro L
  induction L with
  |nil=>trivial
  |cons c L g=>exact⟨hk c,g⟩
 have V:(l'.map e).flatten.length=n2:=by rw[Yg (z l'),XX,h',s]
 have hm:m.length=n2:=by rw[G.length,V]
 have E:∀L:List α,(L.map e).flatten.all Yb=true:=by
  intro L
  induction L with
  |nil=>rfl
  |cons c L g=>simp only[Vf,Vh,List.all_append,hp c,g,Bool.and_self]
 have R:∀q B:List A,Q6 q=true->Q6 B=true->Q6 (q++B)=true:=by
  intro q
  induction q with
  |nil=>intro B _ h;exact h
  |cons c q g=>
   intro B d M;simp only[Q6,XU,VC]at d⊢;exact⟨d.1,g B d.2 M⟩
 have X:∀L:List α,Q6 (L.map e).flatten=true:=by
  intro L
  induction L with
  |nil=>rfl
  |cons c L g=>simp only[Vf,Vh];exact R _ _ (hd c) g
 have aa:n2<=j.length:=by
  have:=q2.length;rw[XX,h,s]at this;exact this
 have i:=QT (P:=P) (vs:=m) 0 0 Y (by omega) (G.plain (E l'));have u:splice j 0 m=m++j.drop n2:=by unfold splice;simp[hm]
 have f:=r.sim.set (x':=.row T k (l'.map e)) (obj:=.cells (splice j 0 m).toArray T (0,0)) d hH rfl
  (λy W=>Qae Y (QS (by omega)) y W)
  (λex p=>by
   have F:=(G.data (X l')).mono ex.nil;rw[u]at F p⊢;exact⟨_,p,YZ (z l') F (G.plain (E l'))⟩)
 refine⟨_,ro,[],?_,by simpa using f.1,f.2⟩;generalize a.eval=ρ at*;have J:(ρ y).cells.size=n2:=by rw[h4];simp[Value.cells,hm]
 have O:(storeVar t ⟨bb,0,none⟩ (ρ y)).run P w=.ok () {w with heap:=w.heap.setIfInBounds bb (.cells (splice j 0 m).toArray T (0,0))}:=by
  unfold storeVar;rw[Vi,hs];simp only[Result.andThen];rw[Vn (by simp[J]),h4];have ec:(Value.agg m.toArray).cells.toList=m:=by simp[Value.cells]
  rw[ec];simpa using i
 simp only[execOp,ho,M,Instr.storeAt,Instr.sureAddr,pure_bind,Vi,O];rfl
end
end
theorem C.contains{P:Program}{ρ:Ren}(L:Lays.n144 P ρ)(hg:ρ.g 1=QhF){s t:List UInt8}{r:Bool}(h:Qgy s t=some r):C P (ρ.f 144) [.str s,.str t] [] (λa H=>a=.bool r/\H=[]):=by
 unfold Qgy at h;cases q:Nat.blt s.length 4294967281 with
 |false=>rw[q]at h;cases h
 |true=>
  rw[q]at h;obtain rfl:=XV h;intro E u σ vals w sim hv;obtain⟨n,B,rfl,l,b,k,rfl,p,i⟩:=hv;cases(show k=[]from i);obtain⟨m,d⟩:=sim.roOk.gp.max;have x:n=.string ⟨s.toArray⟩:=l;have y:b=.string ⟨t.toArray⟩:=p;subst x y;have j:s.length<4294967281:=by simpa using q
  refine(Any.strings_Contains L ⟨s.toArray⟩ ⟨t.toArray⟩ m w (by simpa[ByteArray.size]using j) (by rw[hg];exact d)).mono ?_;rintro e z ⟨rfl,rfl⟩;exact⟨_,_,_,u,[],rfl,⟨rfl,rfl⟩,by simpa using sim,rfl,Qg.refl _ _ _⟩
section
variable {P:Program} {o:Oper} {env:Env} {H:Qc} {fr ro:Nat->Prop} {σ:Sig} {w:World}
theorem Sim.touch(s:Sim fr ro σ H w){b:Nat}{obj:Obj}(n:¬ro b)(t:¬fr b)(B:∀(i:Nat) (x:Blk),σ[i]?=some (some b)->H[i]?=some x->x.live=true->False)
  (g:∀(i d:Nat) (x:Blk),σ[i]?=some (some d)->H[i]?=some x->Hid w x d b->False)
  (r:∀y,w.shape? b=some y->({w with heap:=w.heap.setIfInBounds b obj}:World).shape? b=some y):
  Sim fr ro σ H {w with heap:=w.heap.setIfInBounds b obj}/\Qg fr ro w ro {w with heap:=w.heap.setIfInBounds b obj}:=by
 have a:∀c,c≠b->({w with heap:=w.heap.setIfInBounds b obj}:World).heap[c]?=w.heap[c]? :=by
  intro c E;show(w.heap.setIfInBounds b obj)[c]?=_;rw[Va,Vn (λq=>E q.symm)]
 have f:({w with heap:=w.heap.setIfInBounds b obj}:World).heap.size=w.heap.size:=by simp
 have ev:Qg fr ro w ro {w with heap:=w.heap.setIfInBounds b obj}:=
  ⟨λ_ h=>h,λc h=>a c (λq=>n (q▸h)),λc h=>a c (λq=>t (q▸h)),by rw[f];exact XR _,by
   intro c y h;by_cases q:c=b
   .subst q;exact r y h
   .unfold World.shape? at h⊢;rw[a c q];exact h,rfl,rfl,rfl,XR _⟩
 refine⟨⟨s.len,s.roOk.to (λ_ q=>q) ev.keepRo (λc h=>by rw[f];exact s.roLt c h),λc h=>by rw[f];exact s.frLt c h,s.roFr,?_,s.inj,?_,s.hidTo (· = ·) QP (by rw[f];exact XR _) (λ_ _ _ _ _ _ _ q=>q) (λ_ _ _ _ _ _ _ q=>q) λj d y m u G=>.inl ⟨j,y,rfl,m,u,id,λc q=>s.hidKeep m u (λz=>a d (λe=>B j y (e▸m) u z)) ev.keepRo q⟩⟩,ev⟩
 .intro i c x k l F;rw[f];exact s.own i c x k l F
 .intro i y x k l;refine(s.blk i y x k l).keep (ev.ext0 σ) ?_ ?_
  .rintro c rfl p;exact a c (λq=>by subst q;exact B i x k l p)
  .rintro d c rfl p;exact a c (λq=>g i d x k l (q▸p))
theorem Qh5{T E i n t:Nat}{x:Operand}{es:List (List A)}(ht:P.underlying T=some (.slice E))(hE:P.underlying E=some (.int .u8))(hn:es.length=n)(h0:Nat.blt 0 n=true)
  (ho:o.op=.convert T T x:=by exact rfl)(hx:opA env x=.osl i 0 n 1:=by exact rfl)(hH:H[i]?=some (.row t 1 es):=by exact rfl):
  OpH P o env H (.rsl 1 es) (H.set i .dead):=by
 intro fr O σ N a w r;subst hn;have F:=Qf r x;rw[hx]at F;rcases F with⟨hz,_⟩|⟨b,p,J,t',m,F,h2,h6,h3,h4,h5⟩
 .rw[hz]at h0;simp at h0
 .have aa:0<es.length:=by simpa using h0
  obtain rfl:=h6 (by omega);obtain⟨R,G,h⟩:=r.sim.own i b _ F hH rfl;obtain⟨l,Q,q2⟩:=r.sim.blk i _ _ F hH;have s1:=r.sim.kill i;have g:∀(j:Nat) (y:Blk),σ[j]?=some (some b)->(H.set i .dead)[j]?=some y->y.live=true->False:=by
   intro j y u f k;by_cases q:j=i
   .subst q;rw[Xb]at f;simp only[if_true]at f;split at f
    .cases f;simp[Blk.live]at k
    .simp at f
   .rw[XN (λz=>q z.symm)]at f;exact q (r.sim.inj j i b y _ u F f hH k rfl)
  have L:∀(j d:Nat) (y:Blk),σ[j]?=some (some d)->(H.set i .dead)[j]?=some y->Hid w y d b->False:=by
   intro j d y u f k;by_cases q:j=i
   .subst q;rw[Xb]at f;simp only[if_true]at f;split at f
    .cases f;exact k.elim
    .simp at f
   .rw[XN (λz=>q z.symm)]at f;exact(r.sim.hid j d y b u f k).ne i b _ F hH rfl rfl
  let fz:Nat×Nat:=(l.length,l.length+1)
  have W:∀y,w.shape? b=some y->({w with heap:=w.heap.setIfInBounds b (.cells l.toArray t fz)}:World).shape? b=some y:=by
   intro y X;unfold World.shape? at X⊢;rw[Q]at X;have e:(w.heap.setIfInBounds b (.cells l.toArray t fz))[b]?=some (.cells l.toArray t fz):=by rw[Va,Vo rfl,Vo R]
   simp only[e];exact X
  obtain⟨s2,s⟩:=s1.touch (obj:=.cells l.toArray t fz) G h g L W;have s3:=s2.addRo (b:=b) (by simpa using R) h g (λj d y u f k=>L j d y u f (s1.hidKeep u f (λz=>by
   show(w.heap.setIfInBounds b _)[d]?=_;rw[Va,Vn (λe:b=d=>g j y (by rw[e];exact u) f z)]) s.keepRo k))
  have B:({w with heap:=w.heap.setIfInBounds b (.cells l.toArray t fz)}:World).heap[b]?=some (.cells (([]:List Value)++l).toArray t fz):=by
   show(w.heap.setIfInBounds b _)[b]?=_;rw[Va,Vo rfl,Vo R];rfl
  have M:Ext O [] w O [] {w with heap:=w.heap.setIfInBounds b (.cells l.toArray t fz)}:=s.ext0 [];refine⟨.slice (some ⟨b,0*1,none⟩) es.length J,_,λc=>O c\/c=b,[],?_,?_,by simpa using s3,s.trans (Yy λ_ q=>.inl q)⟩
  .have hf:w.freeze ⟨b,l.length,none⟩ 1={w with heap:=w.heap.setIfInBounds b (.cells l.toArray t fz)}:=by
    unfold World.freeze;simp only[Nat.one_ne_zero,if_false];rw[Qa0 Q];rfl
   have V:(markStringish ⟨b,0*1,none⟩).run P w=.ok () {w with heap:=w.heap.setIfInBounds b (.cells l.toArray t fz)}:=by
    rw[<- hf];unfold markStringish;simp[shape,freeze,Sem.run,World.shape?,Q,Result.andThen]
   have hu:∀w,(underlying T).run P w=.ok (.slice E) w:=run_underlying ht;have Y:∀w,(underlying E).run P w=.ok (.int .u8) w:=run_underlying hE;generalize a.eval=ρ at*;simp only[execOp,ho,h2,convert,Vi,hu,Y,Result.andThen,beq_self_eq_true,V,Vj]
  .refine⟨some ⟨b,0*1,none⟩,J,rfl,h3,.inr ⟨b,0*1,rfl,.inr rfl,?_⟩⟩;have:=Yz (pre:=[]) B (q2.mono M);exact(by simpa using this:RR O [] _ b 1 es (0*1)).keep ⟨λ_ q=>.inl q,λ_ _=>rfl,λ_ _ q=>q,λ_ _ q=>q⟩ rfl
end
mutual
theorem Qcu(ρ:Nat->Nat):∀{a:A},Q9 a=true->Yk ρ a=a
 |.any,_=>rfl
 |.bool _,_=>rfl
 |.int _ _,_=>rfl
 |.str _,_=>rfl
 |.nilp,_=>rfl
 |.ptr _ _,h=>by simp[Q9]at h
 |.rp _,_=>rfl
 |.nils,_=>rfl
 |.rsl _ _,_=>rfl
 |.osl _ _ _ _,h=>by simp[Q9]at h
 |.agg cs,h=>by simp only[Q9]at h;simp only[Yk,Qaf ρ h]
 |.fn f a c,h=>by simp only[Q9,XU]at h;simp only[Yk,Qaf ρ h.1,Qaf ρ h.2]
 |.nilf,_=>rfl
 |.iface t a,h=>by simp only[Q9]at h;simp only[Yk,Qcu ρ h]
 |.nilif,_=>rfl
 |.map _,h=>by simp[Q9]at h
 |.nilm,_=>rfl
 |.tup vs,h=>by simp only[Q9]at h;simp only[Yk,Qaf ρ h]
theorem Qaf(ρ:Nat->Nat):∀{l:List A},Q6 l=true->Qaa ρ l=l
 |[],_=>rfl
 |a::l,h=>by simp only[Q6,XU]at h;simp only[Qaa,Qcu ρ h.1,Qaf ρ h.2]
end
theorem Qev{α:Type}{e:α->List A}(b:∀x,Q6 (e x)=true):∀L:List α,Q6 (L.map e).flatten=true
 |[]=>rfl
 |c::L=>by
  have hdt:∀cs ds:List A,Q6 cs=true->Q6 ds=true->Q6 (cs++ds)=true:=by
   intro cs
   induction cs with
   |nil=>intro ds _ h;exact h
   |cons c cs d=>
    intro ds a f;simp only[Q6,XU,VC]at a⊢;exact⟨a.1,d ds a.2 f⟩
  simp only[Vf,Vh];exact hdt _ _ (b c) (Qev b L)
theorem QjG{α:Type}{e:α->List A}(hd:∀x,Q6 (e x)=true)(ρ:Nat->Nat)(l:List α):Yk ρ (.agg (l.map e).flatten)=.agg (l.map e).flatten:=
 Qcu ρ (by simp only[Q9];exact Qev hd l)
end Go.Sw
namespace Go.Sw
section
variable {P:Program} {o:Oper} {env:Env} {H:Qc}
theorem Qdh{c:Call}{f T:Nat}{x:Operand}{xs:List Operand}{j:Array TypeId}{name:String}{v:A}{args:List A}(b:∀(a:Array Value) (w:World),(callFunc f a).run P w=.ok (.enter f a) w)(p:o.op=.call c)
  (i:c={callee:=.invoke x name,args:=xs.toArray,argTypes:=j})(m:opA env x=.iface T v)(hargs:v::xs.map (opA env)=args)
  (n:∀(u:Value) (w:World),(method (P.types.size+Made.depth) T u name).run P w=.ok (f,u) w):OpC P o env H f args:=by
 intro s q σ N a w r;have d:=Qf r x;rw[m]at d;obtain⟨u,d,k⟩:=d;refine⟨u::xs.map a.eval,?_,hargs▸⟨u,xs.map a.eval,rfl,k,Qa3 r xs⟩⟩;subst i;generalize a.eval=ρ at*;have e:(#[ρ x]++(xs.toArray.map ρ):Array Value)=(.iface T u::xs.map ρ).toArray:=by rw[d];simp
 have h:((.iface T u::xs.map ρ).toArray.extract 1 (.iface T u::xs.map ρ).toArray.size:Array Value)=(xs.map ρ).toArray:=by
  simp[VA]
 have g:∀l:Array Value,(callMethod (.iface T u) name l).run P w=.ok (.enter f (#[u]++l)) w:=by
  intro l;simp only[callMethod,Vi,run_program,Result.andThen,n,b]
 simp only[execOp,p,resolve,e,invoke,Vi,Vj,Result.andThen];simp only[XE,XC,h,g];simp
theorem Qbc{T I:Nat}{x:Operand}{v:A}{d:TypeDesc}(f:∀w,(underlying T).run P w=.ok d w)(g:∀m,d≠ .interface m)(h:o.op=.typeAssert x I T true:=by exact rfl)(hx:opA env x=.iface T v:=by exact rfl):
  OpV P o env H (.tup [v,.bool true]):=by
 intro j i σ N a w r;have b:=Qf r x;rw[hx]at b;obtain⟨u,b,e⟩:=b;refine⟨.tuple #[u,.bool true],?_,[u,.bool true],rfl,_,_,rfl,e,_,_,rfl,rfl,rfl⟩;generalize a.eval=ρ at*;cases d<;>first|(simp[execOp,h,b,Instr.typeAssert,f,go_sem];done)|exact(g _ rfl).elim
theorem Qfh{T T' I:Nat}{x:Operand}{v z:A}{zv:Value}{d:TypeDesc}(i:∀w,(underlying T).run P w=.ok d w)(g:∀m,d≠ .interface m)(b:Nat.beq T' T=false)(h:∀w,(zeroValue T).run P w=.ok zv w)(f:ZR z zv)
  (k:o.op=.typeAssert x I T true:=by exact rfl)(hx:opA env x=.iface T' v:=by exact rfl):
  OpV P o env H (.tup [z,.bool false]):=by
 intro p l σ N a w r;have e:=Qf r x;rw[hx]at e;obtain⟨u,e,n⟩:=e;have j:T'≠T:=λq=>by rw[q,Vx]at b;cases b
 refine⟨.tuple #[zv,.bool false],?_,[zv,.bool false],rfl,_,_,rfl,f _ _ _,_,_,rfl,rfl,rfl⟩;generalize a.eval=ρ at*;cases d<;>first|(simp[execOp,k,e,Instr.typeAssert,i,j,h,go_sem];done)|exact(g _ rfl).elim
end
def TL(P:Program)(h0 N:Nat)(c:Code)(env:Env)(H:Qc)(Q:Qv):Prop:=
 ∀rd fr ro σ a w,Rel fr ro σ H env N a w->Qc7 rd fr w->∀(b:Frame) (k:List Item) (cs:List Frame),b.roundOf=(WF rd).round->(WF rd).fn b.fn->(WF rd).room (cs.length+1+0)->∃e a' w',QaJ h0 fr ro σ w N a.defers Q e a' w'/\ArrivesIn (Machine.fenced P (WF rd)) P (lone (b.atR a (.code c::.inLoop c::k)) cs w) b k cs e a' w'
def QgJ(P:Program)(h0 N:Nat)(c:Code)(Q:Qv):Qv
 |.normal,env,H=>TL P h0 N c env H Q
 |.exit id,env,H=>Q (.exit id) env H
 |.ret,env,H=>Q .ret env H
section
variable {P:Program} {h0 N:Nat} {c:Code} {env:Env} {H:Qc} {Q:Qv}
theorem Qje(h:TL P h0 N c env H Q):TC P h0 N (.loop c) env H Q:=by
 intro i m j σ a w r hrd b k cs hro hb hr;obtain⟨e,g,l,f,d⟩:=h i m j σ a w r hrd b k cs hro hb hr;exact⟨e,g,l,f,.of_steps (.one (fenced_calm hb hr rfl) stepR_loop) d⟩
theorem TL.round(h:TC P h0 N c env H (QgJ P h0 N c Q)):TL P h0 N c env H Q:=by
 intro G E B σ a w r hrd b k cs hro hb hr;obtain⟨e,m,n,J,d⟩:=h G E B σ a w r hrd b (.inLoop c::k) cs hro hb hr;obtain⟨x,f,H',j,σ',i,l,t,F,u,y,s⟩:=J;have z:∀x,Q x f H'->ExR e x->QaJ h0 E B σ w N a.defers Q e m n:=λx q O=>⟨x,f,H',j,σ',i,O,q,F,u,y,s⟩;cases e with
 |normal=>
  obtain rfl:x=.normal:=l;obtain⟨L,M,w2,p,g⟩:=t G i j σ' m n F (hrd.to u s.sub) b k cs hro hb hr;exact⟨L,M,w2,p.grow u y s,.of_steps (StepsIn.trans d (.one (fenced_calm hb hr rfl) stepR_inLoop)) g⟩
 |exit id=>
  obtain rfl:x=.exit id:=l;exact⟨_,m,n,z _ t rfl,.pass (x:=.inLoop c) rfl (λ_ _=>.inl (by simp)) d⟩
 |ret=>
  obtain rfl:x=.ret:=l;exact⟨_,m,n,z _ t rfl,.pass (x:=.inLoop c) rfl (λ_ _=>.inl (by simp)) d⟩
 |_=>exact l.elim
theorem unrN(h:TC P h0 N c env H (QgJ P h0 N c Q)):QgJ P h0 N c Q .normal env H:=TL.round h
theorem unrX{id:Nat}(h:Q (.exit id) env H):QgJ P h0 N c Q (.exit id) env H:=h
theorem unrR(h:Q .ret env H):QgJ P h0 N c Q .ret env H:=h
theorem QhN(h:TC P h0 N c env H (QgJ P h0 N c Q)):TC P h0 N (.loop c) env H Q:=Qje (TL.round h)
end
section
variable {P:Program} {o:Oper} {env:Env} {H:Qc}
theorem OpV.ixL{t et k b n j:Nat}{x y:Operand}{g:IntKind}{i:Int}(d:Nat.blt j n=true)(hi:i=(j:Int))(e:∀w,(underlying t).run P w=.ok (.slice et) w)(f:∀w,(sizeOf et).run P w=.ok k w)
  (h:o.op=.indexAddr t x y:=by exact rfl)(hx:opA env x=.osl b 0 n k:=by exact rfl)(hy:opA env y=.int g i:=by exact rfl):OpV P o env H (.ptr b (j*k)):=by
 subst hi;have a:=Qfi (H:=H) h e f hx hy (by omega) (by simpa using d)
 rwa [Int.toNat_natCast,Nat.zero_mul,Xu]at a
end
theorem QdT{ro:Nat->Prop}{σ:Sig}{w:World}{k:Nat}:∀{es:List (List A)} {l l':List Value},RL ro σ w k es l->l.take (es.length*k)=l'.take (es.length*k)->RL ro σ w k es l'
 |[],_,_,_,_=>trivial
 |c::es,l,l',h,hp=>by
  obtain⟨l1,l2,rfl,h1,h2,h3⟩:=h;have hl1:l1.length=k:=by rw[h2.1.length];exact h1
  have a:l'.take k=l1:=by
   have:=congrArg (List.take k) hp;simp only[List.take_take,XW,Xj]at this;rw[XA (by omega)]at this;rw[<- this, <- hl1];simp
  refine⟨l1,l'.drop k,by rw[<- a,Xy],h1,h2,QdT h3 ?_⟩;have:=congrArg (List.drop k) hp;simp only[XW,Xj,List.drop_take]at this;rw[show es.length*k+k-k=es.length*k by omega]at this;rw[<- this, <- hl1];simp
section
variable {P:Program} {o:Oper} {env:Env} {H:Qc}
theorem Qec{c:Call}{T et k b s n t:Nat}{x:Operand}{es es':List (List A)}{z:Value}(ht:P.underlying T=some (.slice et))(hz:∀w,(zeroValue et).run P w=.ok z w)(aa:z.cells.size=k)(X:∀v∈z.cells,Qn v)
  (R:es.take s=es')(hb:s+n=es.length)(ho:o.op=.call c:=by exact rfl)(hc:c={callee:=.builtin .clear,args:= #[x],argTypes:= #[T]}:=by exact rfl)
  (hx:opA env x=.osl b s n k:=by exact rfl)(hH:H[b]?=some (.row t k es):=by exact rfl):OpH P o env H (.tup []) (H.set b (.row t k es')):=by
 intro Q E σ N a w r;subst R hc;have O:∀w,(underlying T).run P w=.ok (.slice et) w:=run_underlying ht;have j:=Qf r x;rw[hx]at j;have h:Sim Q E σ (H.set b (.row t k (es.take s))) w:=by
  refine r.sim.weaken hH rfl ?_;intro y G;cases y with
  |none=>rw[show es=[]from G];simp[BR]
  |some W=>obtain⟨l,g1,g2⟩:=G;exact⟨l,g1,RL.take s g2⟩
 have f:∀v,a.eval x=v->(Builtin.clear_ #[T] o.type #[v]).run P w=.ok (.tuple #[]) w->
   ∃v w' ro' τ,(execOp a.eval o).run P w=.ok (.value v) w'/\VR ro' (σ++τ) w' (.tup []) v/\Sim Q ro' (σ++τ) (H.set b (.row t k (es.take s))) w'/\Qg Q E w ro' w':=by
  intro v F d;refine⟨.tuple #[],w,E,[],?_,⟨[],rfl,rfl⟩,by simpa using h,Qg.refl _ _ _⟩;generalize a.eval=ρ at*;simp only[execOp,ho,resolve,Vi,Vj,Result.andThen,invoke,builtin,XG,Vf,Vg,F,d]
 rcases j with⟨hn,j⟩|⟨W,p,V,t',m,j,h2,h3,h4,h5,h6⟩
 .refine f _ j ?_;simp[Builtin.clear_,O,Result.andThen]
 .by_cases hn:n=0
  .subst hn;refine f _ h2 ?_;simp[Builtin.clear_,O,Result.andThen]
  .obtain rfl:=h3 (by omega);obtain⟨l,q1,q2⟩:=r.sim.blk b _ _ j hH;have ab:=q2.length
   let vs:=(Builtin.zeroCells z.cells n).toList
   have ae:vs.length=n*k:=by simp[vs,Builtin.zeroCells,aa]
   have M:∀v∈vs,Qn v:=by
    intro v F;simp only[vs,Builtin.zeroCells,Array.toList_map,Xe,Array.toList_range,List.mem_range]at F;obtain⟨i,hi,rfl⟩:=F;have B:0<z.cells.size:=by
     rcases Nat.eq_zero_or_pos z.cells.size with q|q
     .rw[q,Nat.mul_zero]at hi;omega
     .exact q
    have u:i%z.cells.size<z.cells.size:=Nat.mod_lt _ B;rw[getElem!_pos z.cells _ u];exact X _ (Array.getElem_mem u)
   have ac:s*k+n*k=es.length*k:=by rw[<- Xz,hb]
   have d:=QT (P:=P) (vs:=vs) (s*k) 0 q1 (by omega) M;have g:=r.sim.set (x':=.row t k (es.take s)) (obj:=.cells (splice l (s*k) vs).toArray t (0,0)) j hH rfl
    (λy G=>Qae q1 (QS (by omega)) y G)
    (λex L=>⟨_,L,by
     refine(QdT (RL.take s q2) ?_).mono ex.nil;have hl:(es.take s).length*k<=s*k:=XB k (by simp;omega);have J:(es.take s).length*k<=(l.take (s*k)).length:=by rw[Xw (i:=s*k),XA (by omega)];exact hl
     have e:=X3 (l₂:=vs++l.drop (s*k+vs.length)) J;unfold splice;rw[Ve,e,List.take_take,XA hl]⟩)
   refine⟨.tuple #[],_,E,[],?_,⟨[],rfl,rfl⟩,by simpa using g.1,g.2⟩;have Y:(Builtin.clear_ #[T] o.type #[.slice (some ⟨W,s*k,none⟩) n V]).run P w=.ok (.tuple #[]) {w with heap:=w.heap.setIfInBounds W (.cells (splice l (s*k) vs).toArray t (0,0))}:=by
    obtain⟨n',rfl⟩:∃n',n=n'+1:=⟨n-1,by omega⟩;simp only[Xv]at d;simp only[Builtin.clear_,XE,XC,Vi,O,hz,Result.andThen,d,Vj,vs]
   generalize a.eval=ρ at*;simp only[execOp,ho,resolve,Vi,Vj,Result.andThen,invoke,builtin,XG,Vf,Vg,h2,Y]
end
def Qhc{α R:Type}[DecidableEq R](l:List α)(x y:Option R):Option R:=bif l.isEmpty then(bif decide (x=y)then x else none)else y
theorem QfH{α R:Type}[DecidableEq R]{l:List α}{x y:Option R}{r:R}(h:Qhc l x y=some r)(b:Bool)(d:l≠[]->b=false):(b=true->x=some r)/\(b=false->y=some r):=by
 unfold Qhc at h;cases q:l.isEmpty with
 |true=>
  rw[q]at h;by_cases a:x=y
  .subst a;simp at h;exact⟨λ_=>h,λ_=>h⟩
  .simp[a]at h
 |false=>
  rw[q]at h;have f:l≠[]:=by rintro rfl;cases q
  refine⟨λe=>?_,λ_=>h⟩;rw[d f]at e;cases e
section
variable {P:Program} {o:Oper} {env:Env} {H:Qc} {h0 N:Nat} {Q:Qv}
theorem Qh6{α:Type}{e:α->List A}{T E k:Nat}{u:TypeId}{x:Operand}{l:List α}(j:P.underlying T=some (.slice E))(p:o.op=.binOp .eql T x (.const (.slice none 0 0)) u)(n:opA env x=.rsl k (l.map e)):
  OpE P o env H (λv H'=>∃b:Bool,v=.bool b/\(l≠[]->b=false)/\H'=H):=by
 intro y m σ N a w r;have g:=Qf r x;rw[n]at g;obtain⟨ad,f,g,t,d⟩:=g;refine⟨.bool ad.isNone,H,.bool ad.isNone,w,m,[],⟨ad.isNone,rfl,λh=>?_,rfl⟩,?_,rfl,by simpa using r.sim,Qg.refl _ _ _⟩
 .rcases d with d|⟨b,s,d,_⟩
  .exact absurd (List.map_eq_nil_iff.1 d) h
  .rw[d];rfl
 .have i:a.eval (.const (.slice none 0 0))=.slice none 0 0:=rfl;generalize a.eval=ρ at*;have q:(eqGuard .eql T x (.const (.slice none 0 0)) (.slice ad (l.map e).length f) (.slice none 0 0)).run P w=.ok () w:=by simp[eqGuard]
  simp only[execOp,p,g,i,Vi,q,Result.andThen,Go.run_eql_slice_nil w T E ad _ f j,Vj]
theorem Qf0{α:Type}{e:α->List A}{T E k d:Nat}{u:TypeId}{x:Operand}{l:List α}{all:Array Oper}{L:List Oper}(f:P.underlying T=some (.slice E))(a:opA env x=.rsl k (l.map e))
  (h:∀b:Bool,(l≠[]->b=false)->WO P h0 N all L (up env d (.bool b)) H Q)
  (i:o.op=.binOp .eql T x (.const (.slice none 0 0)) u:=by exact rfl)(hg:Qm all o env true:=by exact rfl)(hd:o.dst=some d:=by exact rfl)(hN:Nat.blt d N=true:=by exact rfl)(hh:Nat.ble h0 H.length=true:=by exact rfl):WO P h0 N all (o::L) env H Q:=by
 refine QgI (XP hh) hg hd hN (Qh6 f i a) ?_;rintro v H' ⟨b,rfl,g,rfl⟩;exact h b g
end
theorem slc0{α:Type}{l x:List α}{i:Int}(h:slc l 0 i=some x):0<=i/\i.toNat<=l.length/\l.take i.toNat=x/\x.length=i.toNat:=by
 obtain⟨_,d,e,b⟩:=Qcr h;have a:l.take i.toNat=x:=by simpa using b
 exact⟨d,by omega,a,by rw[<- a,Xw];omega⟩
section
variable {P:Program} {o:Oper} {env:Env} {H:Qc} {α:Type} {e:α->List A} {T et k b t:Nat} {x y:Operand} {l l':List α} {i:Int}
theorem QgO(h:slc l 0 i=some l')(E1:∀w,(underlying T).run P w=.ok (.slice et) w)(E2:∀w,(sizeOf et).run P w=.ok k w)(e:o.op=.slice T x (some y) none none:=by exact rfl)
  (hx:opA env x=.osl b 0 l.length k:=by exact rfl)(hy:opA env y=.int .i64 i:=by exact rfl):OpV P o env H (.osl b (0+i.toNat) (l.length-i.toNat) k):=by
 obtain⟨d,a,_,_⟩:=slc0 h;exact QdX E1 E2 e hx (.inr ⟨y,i,rfl,hy,d,rfl⟩) (.inl ⟨rfl,rfl⟩) a (XR _)
theorem QgP(h:slc l 0 i=some l')(E1:∀w,(underlying T).run P w=.ok (.slice et) w)(E2:∀w,(sizeOf et).run P w=.ok k w)(f:o.op=.slice T x none (some y) none:=by exact rfl)
  (hx:opA env x=.osl b 0 l.length k:=by exact rfl)(hy:opA env y=.int .i64 i:=by exact rfl):OpV P o env H (.osl b 0 l'.length k):=by
 obtain⟨e,a,_,d⟩:=slc0 h;have:=QdX (H:=H) E1 E2 f hx (.inl ⟨rfl,rfl⟩) (.inr ⟨y,i,rfl,hy,e,rfl⟩) (XS _) a;rw[d];simpa using this
theorem QgT{c:Call}{z:Value}(h:slc l 0 i=some l')(g:P.underlying T=some (.slice et))(j:∀w,(zeroValue et).run P w=.ok z w)(a:z.cells.size=k)(d:∀v∈z.cells,Qn v)(m:o.op=.call c:=by exact rfl)(hc:c={callee:=.builtin .clear,args:= #[x],argTypes:= #[T]}:=by exact rfl)
  (hx:opA env x=.osl b (0+i.toNat) (l.length-i.toNat) k:=by exact rfl)(hH:H[b]?=some (.row t k (l.map e)):=by exact rfl):OpH P o env H (.tup []) (H.set b (.row t k (l'.map e))):=by
 obtain⟨n,p,f,q⟩:=slc0 h;refine Qec g j a d ?_ ?_ m hc hx hH
 .rw[Xu, <- f,List.map_take]
 .rw[XX];omega
end
end Go.Sw
namespace Go.Sw
open Go.Sort Go.Proofs Go.Shelf
def ltI(x y:Int):Bool:=decide (x<y)
def sortI(l:List Int):Option (List Int):=bif Nat.ble l.length QK then some (Qcb ltI l)else none
theorem Qfv{l l':List Int}(h:sortI l=some l'):l.length<=QK/\Qcb ltI l=l':=by
 unfold sortI at h;cases e:Nat.ble l.length QK with
 |false=>rw[e]at h;simp at h
 |true=>rw[e]at h;exact⟨XP e,XV h⟩
theorem Qad{l l':List Int}(h:sortI l=some l'):l.length=l'.length:=by
 rw[<- (Qfv h).2];exact(YW _ _).length_eq.symm
theorem QjJ(l:List Int):QdQ ltI l:=
 ⟨λx _=>by simp[ltI],λx _ y _ z _ a b=>by simp[ltI]at*;omega,λx _ y _ z _ a b=>by simp[ltI]at*;omega⟩
theorem Qc6(l:List Int):(l.mergeSort λx y=>decide (x<=y))=Qcb ltI l:=by
 refine Qa6 (lt:=ltI) ?_ ?_ ?_ (QaB (QjJ l))
 .exact(List.mergeSort_perm _ _).trans (YW _ _).symm
 .intro x _ y _ a b;simp[ltI]at*;omega
 .refine(List.pairwise_mergeSort (le:=λx y=>decide (x<=y)) ?_ ?_ l).imp ?_
  .intro a b c;simp;omega
  .intro a b;simp;omega
  .intro a b;simp[ltI]
theorem Qhp{ro:Nat->Prop}{σ:Sig}{w:World}:∀{l:List Int} {lv:List Value},RL ro σ w 1 (l.map λx=>[A.int .i64 x]) lv->∃rest,lv=l.map (Value.int .i64)++rest
 |[],lv,_=>⟨lv,rfl⟩
 |x::l,lv,h=>by
  obtain⟨l1,l2,rfl,h1,⟨h2,h3⟩,h4⟩:=h;obtain⟨rest,rfl⟩:=Qhp (l:=l) h4;obtain⟨v,r,rfl,hv,hr⟩:=h2;cases(show r=[]from hr);exact⟨rest,by rw[show v=.int .i64 x from hv];simp⟩
theorem QdU{ro:Nat->Prop}{σ:Sig}{w:World}:∀(l:List Int) (rest:List Value),RL ro σ w 1 (l.map λx=>[A.int .i64 x]) (l.map (Value.int .i64)++rest)
 |[],_=>trivial
 |x::l,rest=>⟨[.int .i64 x],l.map (Value.int .i64)++rest,by simp,rfl,⟨⟨_,_,rfl,rfl,rfl⟩,by simp[Qn]⟩,QdU l rest⟩
theorem Qhx{P:Program}{ρ:Ren}(L:Lays.n189 P ρ){t:Nat}{l l':List Int}(hs:sortI l=some l'):
  C P (ρ.f 189) [.osl 0 0 l.length 1] [.row t 1 (l.map λx=>[A.int .i64 x])] (λa H=>a=.tup []/\H=[.row t 1 (l'.map λx=>[A.int .i64 x])]):=by
 intro fr N σ vals w s hv;obtain⟨vs,r1,rfl,af,hr⟩:=hv;cases(show r1=[]from hr);obtain⟨V,Y⟩:=Qfv hs;have d:∀(ad:Option Addr) (c:Nat),vs=.slice ad 0 c->l=[]->
   Calls P (ρ.f 189) [vs].toArray w λe R=>∃v r H' ro' τ,e=.returned v/\(r=.tup []/\H'=[.row t 1 (l'.map λx=>[A.int .i64 x])])/\Sim fr ro' (σ++τ) H' R/\VR ro' (σ++τ) R r v/\Qg fr N w ro' R:=by
  rintro ad c rfl rfl;have E:l'=[]:=by rw[<- Y];rfl
  subst E;refine(Any.slices_Sort_int_none L ad c w).mono ?_;rintro e R ⟨rfl,rfl⟩;exact⟨_,_,_,N,[],rfl,⟨rfl,rfl⟩,by simpa using s,⟨[],rfl,rfl⟩,Qg.refl _ _ _⟩
 rcases af with⟨h0,rfl⟩|⟨b,p,cp,t',m,q1,rfl,q2,q3,q4,q5⟩
 .exact d none 0 rfl (VB.1 h0)
 .by_cases E:l=[]
  .subst E;exact d _ cp rfl rfl
  .have ai:0<l.length:=List.length_pos_iff.2 E;obtain rfl:=q2 (Vb ai q3);obtain⟨lv,e1,e2⟩:=s.blk 0 _ _ q1 rfl;obtain⟨hb,Q,T⟩:=s.own 0 b _ q1 rfl rfl;obtain⟨u,rfl⟩:=Qhp e2;have hH:Holds (Value.int .i64) w b 0 l.toArray:=by
    intro j hj;simp only[List.size_toArray]at hj;constructor
    .unfold World.cell?;simp only[e1,Option.isSome_none,Xg,if_false,Xu];rw[Qac,XK (by simpa using hj)];simp[hj]
    .unfold World.frozen?;simp only[e1];simp
   have z:=Any.slices_Sort_int L b 0 cp l w hH hb (by unfold QK at V;omega);rw[Qc6,Y]at z;simp only[Nat.zero_mul]at z⊢;refine z.mono ?_;rintro e R ⟨rfl,n,os,rfl⟩;have B:l.length=l'.length:=Qad hs;generalize hW:grow (putRow (Value.int .i64) (Sort.ahead w n) b 0 l'.toArray) os=W;have g:W.heap=w.heap.setIfInBounds b (.cells ((l'.map (Value.int .i64)++u)).toArray t (0,0))++os:=by
    rw[<- hW];show(w.heap.modify b _)++os=_;rw[Qa0 e1];simp only[onCells];congr 3;unfold putCells;apply Array.ext_getElem?;intro i;simp only[Array.getElem?_mapIdx,Qac,XS,true_and,Xu,Xt,List.size_toArray];by_cases hi:i<l'.length
    .rw[XK (by simpa[B]using hi),XK (by simpa using hi)];simp[hi,B]
    .rw[XL (by simp;omega),XL (by simp;omega)];simp only[XX,B];cases(u[i-l'.length]?)with
     |none=>rfl
     |some v=>exact congrArg some (Vn hi)
   have g1:∀c,c<w.heap.size->c≠b->W.heap[c]?=w.heap[c]? :=by
    intro c k ah;rw[g,Array.getElem?_append_left (by simpa using k),Va,Vn (λq=>ah q.symm)]
   have g2:W.heap[b]?=some (.cells ((l'.map (Value.int .i64)++u)).toArray t (0,0)):=by
    rw[g,Array.getElem?_append_left (by simpa using hb),Va,Vo rfl,Vo hb]
   have g3:w.heap.size<=W.heap.size:=by rw[g];simp
   have F:∀c y,w.shape? c=some y->W.shape? c=some y:=by
    intro c y J;by_cases k:c=b
    .subst k;unfold World.shape? at J⊢;rw[e1]at J;rw[g2];simp only[Option.some.injEq]at J⊢;rw[<- J];simp[B]
    .unfold World.shape? at J⊢;rw[g1 c (Qbp J) k];exact J
   have aj:W.os=w.os:=by rw[<- hW];rfl
   have ag:W.tape=w.tape:=by rw[<- hW];rfl
   have ac:W.output=w.output:=by rw[<- hW];rfl
   have ae:w.drawn<=W.drawn:=by rw[<- hW];exact Nat.le_add_right _ _
   have aa:Qg fr N w N W:=
    ⟨λ_ q=>q,λc k=>g1 c (s.roLt c k) (λq=>Q (q▸k)),λc k=>g1 c (s.frLt c k) (λq=>T (q▸k)),g3,F,aj,ag,ac,ae⟩
   have G:σ.length=1:=s.len;have ab:Sim fr N σ [.row t 1 (l'.map λx=>[A.int .i64 x])] W:=by
    have X:∀{i:Nat} {x:Blk},([.row t 1 (l'.map λx=>[A.int .i64 x])]:Qc)[i]?=some x->i=0/\x=.row t 1 (l'.map λx=>[A.int .i64 x]):=by
     intro i x h;cases i with
     |zero=>simp at h;exact⟨rfl,h.symm⟩
     |succ i=>simp at h
    refine⟨G,s.roOk.to (λ_ q=>q) aa.keepRo (λc k=>Vb (s.roLt c k) g3),λc k=>Vb (s.frLt c k) g3,s.roFr,λi c x O M h3=>?_,λi j c x y O M h3 h4 _ _=>?_,λi y x O M=>?_,λi b x c O M h3=>by obtain⟨rfl,rfl⟩:=X M;exact h3.elim⟩
    .obtain⟨rfl,rfl⟩:=X M;obtain⟨p1,p2⟩:=s.own 0 c _ O rfl rfl;exact⟨Vb p1 g3,p2⟩
    .rw[(X h3).1,(X h4).1]
    .obtain⟨rfl,rfl⟩:=X M;rw[q1]at O;cases O;exact⟨_,g2,QdU l' u⟩
   exact⟨_,_,_,N,[],rfl,⟨rfl,rfl⟩,by simpa using ab,⟨[],rfl,rfl⟩,aa⟩
section
variable {P:Program} {o:Oper} {env:Env} {H:Qc} {α:Type} {e:α->List A} {T et k b t:Nat} {x y:Operand}
theorem QbE{lo hi:Option Operand}{l r:List α}{a c:Int}(h:slc l a c=some r)(E1:∀w,(underlying T).run P w=.ok (.slice et) w)(E2:∀w,(sizeOf et).run P w=.ok k w)
  (f:lo=none/\a=0\/ ∃y,lo=some y/\opA env y=.int .i64 a)(g:hi=none/\c=l.length\/ ∃y,hi=some y/\opA env y=.int .i64 c)
  (j:o.op=.slice T x lo hi none:=by exact rfl)(hx:opA env x=.osl b 0 l.length k:=by exact rfl):OpV P o env H (.osl b (0+a.toNat) (c.toNat-a.toNat) k):=by
 obtain⟨i,m,n,_⟩:=Qcr h;refine QdX (l:=a.toNat) (h:=c.toNat) E1 E2 j hx ?_ ?_ (by omega) (by omega)
 .rcases f with⟨e,d⟩|⟨y,e,d⟩
  .exact .inl ⟨e,by rw[d];rfl⟩
  .exact .inr ⟨y,a,e,d,i,rfl⟩
 .rcases g with⟨e,d⟩|⟨y,e,d⟩
  .exact .inl ⟨e,by rw[d];simp⟩
  .exact .inr ⟨y,c,e,d,by omega,rfl⟩
end
end Go.Sw
namespace Go.Sw
inductive Bx where
 |mk (a:A)
def lkB:Env->Nat->Bx
 |[],_=>.mk .any
 |(d,a)::r,s=>bif Nat.beq s d then .mk a else lkB r s
theorem Qgv:∀{env:Env} {s:Nat} {a:A},lkB env s=.mk a->lk env s=a
 |[],s,a,h=>by cases h;rfl
 |(d,b)::r,s,a,h=>by
  unfold lkB at h;unfold lk;cases q:Nat.beq s d with
  |true=>rw[q]at h;cases h;rfl
  |false=>rw[q]at h;exact Qgv h
inductive FBy where
 |mk (l:List UInt8)
def fby:List UInt8->FBy
 |[]=>.mk []
 |a::r=>match fby r with
  |.mk r'=>.mk (a::r')
theorem QiV:∀l:List UInt8,fby l=.mk l
 |[]=>rfl
 |a::r=>by unfold fby;rw[QiV r]
def opB(env:Env):Operand->Bx
 |.tmp t=>lkB env t
 |.const (.bool b)=>.mk (.bool b)
 |.const (.int k n)=>.mk (.int k n)
 |.const (.string s)=>match fby s.data.toList with
  |.mk l=>.mk (.str l)
 |.const (.pointer none)=>.mk .nilp
 |.const (.slice none 0 0)=>.mk .nils
 |.const (.map none)=>.mk .nilm
 |.const .nilFunc=>.mk .nilf
 |.const .nilIface=>.mk .nilif
 |.func f=>.mk (.fn (.func f) [] [])
 |_=>.mk .any
theorem Qy{env:Env}{x:Operand}{a:A}(h:opB env x=.mk a):opA env x=a:=by
 cases x with
 |tmp t=>exact Qgv h
 |const v=>
  cases v with
  |slice b n k=>cases b with
   |none=>cases n with
    |zero=>cases k<;>(cases h;rfl)
    |succ n=>cases h;rfl
   |some b=>cases h;rfl
  |pointer p=>cases p<;>(cases h;rfl)
  |map p=>cases p<;>(cases h;rfl)
  |string s=>
   have d:(match fby s.data.toList with|.mk l=>Bx.mk (.str l))=.mk a:=h;rw[QiV]at d;cases d;rfl
  |_=>cases h;rfl
 |global g=>cases h;rfl
 |func f=>cases h;rfl
def YB{α:Type}:List α->Nat->Option α
 |[],_=>none
 |a::_,0=>some a
 |_::r,n+1=>YB r n
theorem QaC{α:Type}:∀(l:List α) (n:Nat),YB l n=l[n]?
 |[],n=>by simp[YB]
 |a::r,0=>rfl
 |a::r,n+1=>by simp[YB,QaC r n]
def arB:BinOp->IntKind->Int->Int->Option A
 |.add,k,m,n=>some (.int k (k.wrap (m+n)))
 |.sub,k,m,n=>some (.int k (k.wrap (m-n)))
 |.mul,k,m,n=>some (.int k (k.wrap (m*n)))
 |.eql,_,m,n=>some (.bool (m==n))
 |.neq,_,m,n=>some (.bool (m != n))
 |.lss,_,m,n=>some (.bool (decide (m<n)))
 |.leq,_,m,n=>some (.bool (decide (m<=n)))
 |.gtr,_,m,n=>some (.bool (decide (n<m)))
 |.geq,_,m,n=>some (.bool (decide (n<=m)))
 |_,_,_,_=>none
def srB:BinOp->List UInt8->List UInt8->Option A
 |.eql,p,q=>some (.bool (p==q))
 |.neq,p,q=>some (.bool (p != q))
 |.lss,p,q=>some (.bool (Op.bytesLess p q))
 |_,_,_=>none
def biB(b:BinOp):Bx->Bx->Option A
 |.mk (.int k m),.mk (.int k' n)=>if k=k' then arB b k m n else none
 |.mk (.str p),.mk (.str q)=>srB b p q
 |_,_=>none
def unB:UnOp->Bx->Option A
 |.not,.mk (.bool b)=>some (.bool !b)
 |.neg,.mk (.int k n)=>some (.int k (k.wrap (0-n)))
 |_,_=>none
def exB:Bx->Nat->Option A
 |.mk (.tup vs),i=>YB vs i
 |_,_=>none
def nlB:Bx->Option A
 |.mk (.ptr i j)=>some (.ptr i j)
 |.mk (.rp cs)=>some (.rp cs)
 |_=>none
def piB:Bx->Bx->Bx->Option A
 |.mk (.bool true),.mk a,_=>some a
 |.mk (.bool false),_,.mk a=>some a
 |_,_,_=>none
def svB(env:Env):Op->Option A
 |.move x=>match opB env x with|.mk a=>some a
 |.assign x=>match opB env x with|.mk a=>some a
 |.nilCheck x=>nlB (opB env x)
 |.extract x i=>exB (opB env x) i
 |.unOp u _ x=>unB u (opB env x)
 |.pick c x y=>piB (opB env c) (opB env x) (opB env y)
 |.binOp b _ x y _=>biB b (opB env x) (opB env y)
 |_=>none
def pr(d:Nat):Option A->Option (Nat×A)
 |some a=>some (d,a)
 |none=>none
def stB(o:Oper)(env:Env):Option (Nat×A):=
 match o.dst with
 |some d=>pr d (svB env o.op)
 |none=>none
section
variable {P:Program} {h0 N:Nat} {all:Array Oper} {o:Oper} {l:List Oper} {env:Env} {H H':Qc} {Q:Qv} {d:Nat} {x:A}
theorem Qbo{p:Op}(d:o.op=p)(h:svB env p=some x):OpV P o env H x:=by
 unfold svB at h;split at h
 .rename_i y;cases q:opB env y with|mk a=>rw[q]at h;cases h;exact OpV.move d (Qy q)
 .rename_i y;cases q:opB env y with|mk a=>rw[q]at h;cases h;exact OpV.assign d (Qy q)
 .rename_i y;unfold nlB at h;split at h
  .rename_i i j q;cases h;exact Yj d (Qy q) rfl
  .rename_i w q;cases h;exact Yj d (Qy q) rfl
  .cases h
 .rename_i y i;unfold exB at h;split at h
  .rename_i vs _ q;rw[QaC]at h;exact OpV.extract d (Qy q) h
  .cases h
 .rename_i u t y;unfold unB at h;split at h
  .rename_i b q;cases h;exact OpV.not d (Qy q)
  .rename_i k n q;cases h;exact OpV.neg d (Qy q)
  .cases h
 .rename_i c y z;unfold piB at h;split at h
  .rename_i a _ r l;cases h;exact OpV.pick d (Qy r) (by rw[Vo rfl];exact Qy l)
  .rename_i a r l;cases h;exact OpV.pick d (Qy r) (by rw[Vn (by decide)];exact Qy l)
  .cases h
 .rename_i b t y z u;unfold biB at h;split at h
  .rename_i k m s n r l;split at h
   .rename_i e;subst e;have f:=Qy r;have g:=Qy l;unfold arB at h;split at h
    .cases h;exact OpV.add d f g
    .cases h;exact OpV.sub d f g
    .cases h;exact OpV.mul d f g
    .cases h;exact OpV.eql d f g
    .cases h;exact OpV.neq d f g
    .cases h;exact OpV.lss d f g
    .cases h;exact OpV.leq d f g
    .cases h;exact OpV.gtr d f g
    .cases h;exact OpV.geq d f g
    .cases h
   .cases h
  .rename_i p q r l;have f:=Qy r;have g:=Qy l;unfold srB at h;split at h
   .cases h;exact QcH d f g
   .cases h;exact QhT d f g
   .cases h;exact QhU d f g
   .cases h
  .cases h
 .cases h
theorem QeT(h:stB o env=some (d,x)):o.dst=some d/\OpV P o env H x:=by
 unfold stB at h;split at h
 .rename_i b q;cases e:svB env o.op with
  |none=>rw[e]at h;cases h
  |some a=>rw[e]at h;cases h;exact⟨q,Qbo rfl e⟩
 .cases h
theorem S(e:stB o env=some (d,x))(k:WO P h0 N all l (up env d x) H Q)(hg:Qm all o env true:=by exact rfl)(hN:Nat.blt d N=true:=by exact rfl):WO P h0 N all (o::l) env H Q:=
 Qz hg (QeT (P:=P) (H:=H) e).1 hN (QeT e).2 k
theorem Sg(hg:Qm all o env true)(e:stB o env=some (d,x))(k:WO P h0 N all l (up env d x) H Q)(a:Nat.blt d N=true:=by exact rfl):WO P h0 N all (o::l) env H Q:=
 Qz hg (QeT (P:=P) (H:=H) e).1 a (QeT e).2 k
theorem K(hg:Qm all o env false)(a:o.dst=some d)(k:WO P h0 N all l (up env d (.tup [])) H Q)(b:Nat.blt d N=true:=by exact rfl):WO P h0 N all (o::l) env H Q:=
 WO.skip hg a b k
theorem KF{j s:Nat}{c y:Bool}(e:y= !c)(a:o.dst=some d)(k:WO P h0 N all l (up env d (.tup [])) H Q)(b:Nat.blt d N=true:=by exact rfl)(hg:o.guard=some (j,c):=by exact rfl)(hs:(all[j]?).bind (·.dst)=some s:=by exact rfl)(hl:lk env s=.bool y:=by exact rfl):WO P h0 N all (o::l) env H Q:=
 WO.skip (gF e hg hs hl) a b k
def p2B(v:Bool):Bx->Bx->Bx->Option (Bool×A)
 |.mk (.bool b),.mk a,.mk a'=>match v with|true=>some (b,a)|false=>some (b,a')
 |_,_,_=>none
def pr2(d:Nat):Option (Bool×A)->Option (Nat×Bool×A)
 |some a=>some (d,a)
 |none=>none
def pkB(v:Bool)(o:Oper)(env:Env):Option (Nat×Bool×A):=
 match o.dst,o.op with
 |some d,.pick c x y=>pr2 d (p2B v (opB env c) (opB env x) (opB env y))
 |_,_=>none
theorem QkN{v b:Bool}{p q r:Bx}(h:p2B v p q r=some (b,x)):∃a a',p=.mk (.bool b)/\q=.mk a/\r=.mk a'/\(bif v then a else a')=x:=by
 obtain⟨p⟩:=p;obtain⟨q⟩:=q;obtain⟨r⟩:=r;cases p<;>first|(cases h;done)|skip
 cases v<;>cases h<;>exact⟨_,_,rfl,rfl,rfl,rfl⟩
theorem QiF{v b:Bool}(h:pkB v o env=some (d,b,x))(j:b=v):o.dst=some d/\OpV P o env H x:=by
 unfold pkB at h;split at h
 .rename_i p c y z g f;cases e:p2B v (opB env c) (opB env y) (opB env z)with
  |none=>rw[e]at h;cases h
  |some s=>
   rw[e]at h;cases h;obtain⟨a,n,l,m,k,i⟩:=QkN e;refine⟨g,OpV.pick f (Qy l) ?_⟩;rw[Qy m,Qy k,j];cases v<;>exact i
 .cases h
theorem Pk{v b:Bool}(a:b=v)(e:pkB v o env=some (d,b,x))(k:WO P h0 N all l (up env d x) H Q)(hg:Qm all o env true:=by exact rfl)(hN:Nat.blt d N=true:=by exact rfl):WO P h0 N all (o::l) env H Q:=
 Qz hg (QiF (P:=P) (H:=H) e a).1 hN (QiF e a).2 k
def fpB(o:Oper)(env:Env):Option (Nat×Nat×Nat×Nat×Nat):=
 match o.dst,o.op with
 |some d,.fieldAddr T x f=>match opB env x with
  |.mk (.ptr i p)=>some (d,T,f,i,p)
  |_=>none
 |_,_=>none
theorem Qe4{T f off n i p:Nat}(g:QD P T f off n)(h:fpB o env=some (d,T,f,i,p)):o.dst=some d/\OpV P o env H (.ptr i (p+off)):=by
 unfold fpB at h;split at h
 .rename_i b a;split at h
  .rename_i e;cases h;exact⟨b,Ye g a (Qy e)⟩
  .cases h
 .cases h
theorem Fp{T f off n i p:Nat}(a:QD P T f off n)(e:fpB o env=some (d,T,f,i,p))(k:WO P h0 N all l (up env d (.ptr i (p+off))) H Q)(hg:Qm all o env true:=by exact rfl)(hN:Nat.blt d N=true:=by exact rfl):WO P h0 N all (o::l) env H Q:=
 Qz hg (Qe4 (H:=H) a e).1 hN (Qe4 a e).2 k
theorem Fpg{T f off n i p:Nat}(hg:Qm all o env true)(a:QD P T f off n)(e:fpB o env=some (d,T,f,i,p))(k:WO P h0 N all l (up env d (.ptr i (p+off))) H Q)(b:Nat.blt d N=true:=by exact rfl):WO P h0 N all (o::l) env H Q:=
 Qz hg (Qe4 (H:=H) a e).1 b (Qe4 a e).2 k
inductive Lx where
 |mk (l:List A)
def QdL:Nat->List A->Lx
 |0,l=>.mk l
 |n+1,_::r=>QdL n r
 |_+1,[]=>.mk []
theorem Qcg:∀{n:Nat} {l r:List A},QdL n l=.mk r->l.drop n=r
 |0,l,r,h=>by cases h;rfl
 |n+1,a::l,r,h=>by rw[List.drop_succ_cons];exact Qcg h
 |n+1,[],r,h=>by cases h;rfl
def frB(off:Nat)(o:Oper)(env:Env):Option (Nat×Nat×Nat×List A):=
 match o.dst,o.op with
 |some d,.fieldAddr T x f=>match opB env x with
  |.mk (.rp cs)=>match QdL off cs with
   |.mk r=>some (d,T,f,r)
  |_=>none
 |_,_=>none
theorem Qe3{T f off n:Nat}{r:List A}(j:QD P T f off n)(h:frB off o env=some (d,T,f,r)):o.dst=some d/\OpV P o env H (.rp r):=by
 unfold frB at h;split at h
 .rename_i e b;split at h
  .rename_i i g;cases a:QdL off i with|mk r'=>rw[a]at h;cases h;exact⟨e,Qs j b (Qy g) (Qcg a)⟩
  .cases h
 .cases h
theorem Fr{T f off n:Nat}{r:List A}(a:QD P T f off n)(e:frB off o env=some (d,T,f,r))(k:WO P h0 N all l (up env d (.rp r)) H Q)(hg:Qm all o env true:=by exact rfl)(hN:Nat.blt d N=true:=by exact rfl):WO P h0 N all (o::l) env H Q:=
 Qz hg (Qe3 (H:=H) a e).1 hN (Qe3 a e).2 k
theorem Frg{T f off n:Nat}{r:List A}(hg:Qm all o env true)(a:QD P T f off n)(e:frB off o env=some (d,T,f,r))(k:WO P h0 N all l (up env d (.rp r)) H Q)(b:Nat.blt d N=true:=by exact rfl):WO P h0 N all (o::l) env H Q:=
 Qz hg (Qe3 (H:=H) a e).1 b (Qe3 a e).2 k
def ctB:Option Blk->Nat->Option A
 |some (.cells _ cs),off=>YB cs off
 |_,_=>none
def lvB(H:Qc):Bx->Option A
 |.mk (.ptr i off)=>ctB (YB H i) off
 |.mk (.rp (a::_))=>some a
 |_=>none
def pr3(d t:Nat):Option A->Option (Nat×Nat×A)
 |some a=>some (d,t,a)
 |none=>none
def ldB(o:Oper)(env:Env)(H:Qc):Option (Nat×Nat×A):=
 match o.dst,o.op with
 |some d,.load t x=>pr3 d t (lvB H (opB env x))
 |_,_=>none
theorem Qe0{t:Nat}(l:∀w,(isAgg t).run P w=.ok false w)(h:ldB o env H=some (d,t,x)):o.dst=some d/\OpV P o env H x:=by
 unfold ldB at h;split at h
 .rename_i q p y n k;cases e:lvB H (opB env y)with
  |none=>rw[e]at h;cases h
  |some a=>
   rw[e]at h;cases h;refine⟨n,?_⟩;unfold lvB at e;split at e
   .rename_i i b g;unfold ctB at e;split at e
    .rename_i b s T0 T cs q4;rw[QaC]at e q4;obtain⟨f,m⟩:∃f,cs.drop b=x::f:=by
      have j:=(XJ.1 e).1;refine⟨cs.drop (b+1),?_⟩;rw[Xo j,(XJ.1 e).2]
     exact OpV.load k l (Qy g) (Pts.cells q4 m)
    .cases e
   .rename_i a r g;cases e;exact OpV.load k l (Qy g) Pts.rp
   .cases e
 .cases h
theorem Ld{t:Nat}(a:∀w,(isAgg t).run P w=.ok false w)(e:ldB o env H=some (d,t,x))(k:WO P h0 N all l (up env d x) H Q)(hg:Qm all o env true:=by exact rfl)(hN:Nat.blt d N=true:=by exact rfl):WO P h0 N all (o::l) env H Q:=
 Qz hg (Qe0 a e).1 hN (Qe0 a e).2 k
theorem Ldg{t:Nat}(hg:Qm all o env true)(a:∀w,(isAgg t).run P w=.ok false w)(e:ldB o env H=some (d,t,x))(k:WO P h0 N all l (up env d x) H Q)(b:Nat.blt d N=true:=by exact rfl):WO P h0 N all (o::l) env H Q:=
 Qz hg (Qe0 a e).1 b (Qe0 a e).2 k
def ixB(o:Oper)(env:Env):Option (Nat×Nat×Nat×List (List A)×IntKind×Int):=
 match o.dst,o.op with
 |some d,.indexAddr t x y=>match opB env x,opB env y with
  |.mk (.rsl k es),.mk (.int kk i)=>some (d,t,k,es,kk,i)
  |_,_=>none
 |_,_=>none
theorem Ix{α:Type}{e:α->List A}{t et k:Nat}{L:List α}{p:IntKind}{i:Int}{v:α}(h:idx L i=some v)(m:∀w,(underlying t).run P w=.ok (.slice et) w)(g:∀w,(sizeOf et).run P w=.ok k w)
  (q:ixB o env=some (d,t,k,L.map e,p,i))(k:WO P h0 N all l (up env d (.rp (e v))) H Q)(hg:Qm all o env true:=by exact rfl)(hN:Nat.blt d N=true:=by exact rfl):WO P h0 N all (o::l) env H Q:=by
 unfold ixB at q;split at q
 .rename_i b a;split at q
  .rename_i f j;simp only[Option.some.injEq,Prod.mk.injEq]at q;obtain⟨rfl,rfl,rfl,n,rfl,rfl⟩:=q;exact Qz hg b hN (Qhr h m g a (by rw[Qy f,n]) (Qy j)) k
  .cases q
 .cases q
def lnB(o:Oper)(env:Env):Option (Nat×Nat×Bx):=
 match o.dst,o.op with
 |some d,.call c=>match c with
  |{callee:=.builtin .len,args:=⟨[x]⟩,argTypes:=⟨[t]⟩}=>some (d,t,opB env x)
  |_=>none
 |_,_=>none
theorem QkT{t:Nat}{b:Bx}(q:lnB o env=some (d,t,b)):∃x,o.dst=some d/\o.op=.call {callee:=.builtin .len,args:= #[x],argTypes:= #[t]}/\opB env x=b:=by
 unfold lnB at q;split at q
 .rename_i e a;split at q
  .cases q;exact⟨_,e,a,rfl⟩
  .cases q
 .cases q
theorem LnM{α:Type}{e:α->List A}{t et k:Nat}{L:List α}(g:∀w,(underlying t).run P w=.ok (.slice et) w)(q:lnB o env=some (d,t,.mk (.rsl k (L.map e))))
  (k:WO P h0 N all l (up env d (.int .i64 L.length)) H Q)(hg:Qm all o env true:=by exact rfl)(hN:Nat.blt d N=true:=by exact rfl):WO P h0 N all (o::l) env H Q:=by
 obtain⟨x,b,a,f⟩:=QkT q;exact Qz hg b hN (Qjk g a rfl (Qy f)) k
end
section
variable {P:Program} {h0 N:Nat} {all:Array Oper} {env env':Env} {H H':Qc} {Q:Qv} {c c':Code}
theorem Nx(h:TC P h0 N c env H Q):WO P h0 N all [] env H (Seq P h0 N c Q):=WO.nil (Qio h)
theorem Rg{id:Nat}{l:List Oper}(h:WO P h0 N l.toArray l env H (Seq P h0 N c Q)):TC P h0 N (.seq (.region id l.toArray false) c) env H Q:=TC.seq (TC.region h)
theorem SkN(h:TC P h0 N c env H Q):TC P h0 N .skip env H (Seq P h0 N c Q):=TC.skip (Qio h)
theorem ExX{id:Nat}(h:Q (.exit id) env H):TC P h0 N (.exit id) env H (Seq P h0 N c Q):=TC.exit (seqX h)
theorem Oi{α:Type}{x y:α}(h:some x=some y):x=y:=XV h
theorem Bd{α β:Type}{x:Option α}{f:α->Option β}{r:β}{G:Prop}(h:x.bind f=some r)(k:∀a,x=some a->f a=some r->G):G:=by
 obtain⟨a,d,b⟩:=bnd h;exact k a d b
theorem If{α:Type}{c:Bool}{x y:Option α}{r:α}{G:Prop}(h:(bif c then x else y)=some r)(t:c=true->x=some r->G)(e:c=false->y=some r->G):G:=by
 cases c with
 |true=>exact t rfl h
 |false=>exact e rfl h
theorem Cn{α:Type}{x:Operand}{t:Bool}{p q:Option α}{r:α}(hx:opB env x=.mk (.bool t))(h:(bif t then p else q)=some r)(ht:t=true->p=some r->TC P h0 N c env H Q)(hf:t=false->q=some r->TC P h0 N c' env H Q):TC P h0 N (.cond x c c') env H Q:=
 TC.cond (Qy hx) (λe=>ht e (ifT e h)) (λe=>hf e (ifF e h))
theorem YT{α:Type}{x:Operand}{t:Bool}{p q:Option α}{r:α}(hx:opB env x=.mk (.bool t))(h:(bif t then p else q)=some r)(hf:t=false->q=some r->TC P h0 N c' env H Q)(ht:t=true->p=some r->TC P h0 N c env H Q):TC P h0 N (.cond x c c') env H Q:=
 TC.cond (Qy hx) (λe=>ht e (ifT e h)) (λe=>hf e (ifF e h))
theorem CnF{x:Operand}{t:Bool}(h:t=false)(hx:opB env x=.mk (.bool t))(hf:TC P h0 N c' env H Q):TC P h0 N (.cond x c c') env H Q:=QdP (Qy hx) h hf
theorem Lr(π:List Nat)(a:π.take h0=List.range h0:=by exact rfl)(hH:π.map (λp=>H[p]?)=(H'.map (QN (rho π H.length))).map some:=by exact rfl)(hπ:π.Nodup:=by decide)
  (hE:Qc2 (rho π H.length) env env':=by(repeat' (first|exact trivial|refine⟨rfl,?_⟩))):Le h0 env H env' H':=Qjp π a hH hπ hE
end
end Go.Sw
namespace Go.Sw
def Ev{α:Type}(f:Nat->Option α)(v:α):Prop:=∃N,∀n,N<=n->f n=some v
section
variable {α β:Type} {f g:Nat->Option α} {v w:α}
theorem QY(v:α):Ev (λ_=>some v) v:=⟨0,λ_ _=>rfl⟩
theorem Ev.const{o:Option α}(h:o=some v):Ev (λ_=>o) v:=⟨0,λ_ _=>h⟩
theorem Ev.bind{k:Nat->α->Option β}{b:β}(h:Ev f v)(a:Ev (λn=>k n v) b):Ev (λn=>(f n).bind (k n)) b:=by
 obtain⟨N,h⟩:=h;obtain⟨M,a⟩:=a;exact⟨max N M,λn d=>by show(f n).bind (k n)=some b;rw[h n (by omega),XH];exact a n (by omega)⟩
theorem Ev.bif{c:Bool}(b:c=true->Ev f v)(a:c=false->Ev g w):Ev (λn=>bif c then f n else g n) (bif c then v else w):=by
 cases c with
 |true=>exact b rfl
 |false=>exact a rfl
theorem Ev.ff(h:Ev g v):Ev (λn=>bif false then f n else g n) v:=h
theorem Ev.and{c d:Bool}{h:Nat->Option Bool}(a:c=true->Ev h d):Ev (λn=>bif c then h n else some false) (c&&d):=by
 cases c with
 |true=>exact a rfl
 |false=>exact QY _
theorem Ev.or{c d:Bool}{h:Nat->Option Bool}(a:c=false->Ev h d):Ev (λn=>bif c then some true else h n) (c||d):=by
 cases c with
 |true=>exact QY _
 |false=>exact a rfl
theorem Ev.eq(h:Ev f v)(e:v=w):Ev f w:=e▸h
theorem Ev.congr(h:Ev f v)(e:∀n,g n=f n):Ev g v:=by
 obtain⟨N,h⟩:=h;exact⟨N,λn a=>by rw[e];exact h n a⟩
theorem Ev.succ(h:Ev (λn=>f (n+1)) v):Ev f v:=by
 obtain⟨N,h⟩:=h;refine⟨N+1,λn a=>?_⟩;obtain⟨m,rfl⟩:∃m,n=m+1:=⟨n-1,by omega⟩;exact h m (by omega)
theorem Ev.ex(h:Ev f v):∃n,f n=some v:=let⟨N,h⟩:=h;⟨N,h N (XR _)⟩
theorem Ev.all{k:Nat}{F:Nat->Nat->Option α}{V:Nat->α}(h:∀i,i<k->Ev (F i) (V i)):∃N,∀n,N<=n->∀i,i<k->F i n=some (V i):=by
 induction k with
 |zero=>exact⟨0,λn _ i a=>absurd a (Xk _)⟩
 |succ k e=>
  obtain⟨N,d⟩:=e λi a=>h i (by omega);obtain⟨M,b⟩:=h k (by omega);refine⟨max N M,λn f i a=>?_⟩;rcases Xm.1 a with q|rfl
  .exact d n (by omega) i q
  .exact b n (by omega)
end
section
variable {S B α:Type} {step:Nat->S->Option (Ctl S B)}
theorem Ev.iter{d:S}(a:Nat->S)(k:Nat){b:B}(h0:a 0=d)(g:∀i,i<k->Ev (λn=>step n (a i)) (.cont (a (i+1))))(h:Ev (λn=>step n (a k)) (.done b)):
  Ev (λn=>Go.Sw.iter (step n) n d) b:=by
 obtain⟨N,f⟩:=Ev.all g;obtain⟨M,e⟩:=h;exact⟨max (max N M) (k+1),λn l=>QiM d a b k h0 (λi j=>f n (by omega) i j) (e n (by omega)) n (by omega)⟩
structure At (l:List α) (i:Nat) (x:α):Prop where
 get:l[i]?=some x
 lt:decide ((i:Int)<(l.length:Int))=true
 ix:idx l (i:Int)=some x
 nx:IntKind.i64.wrap ((i:Int)+1)=((i+1:Nat):Int)
theorem Qfs{l:List α}{i:Nat}{x:α}(hl:l.length<=4611686018427387904)(h:l[i]?=some x):At l i x:=by
 have a:=(XJ.1 h).1;exact⟨h,Vp (by omega),QjN h,Qhz (by omega)⟩
theorem At.mem{l:List α}{i:Nat}{x:α}(h:At l i x):x∈l:=Vz h.get
theorem At.lt'{l:List α}{i:Nat}{x:α}(h:At l i x):i<l.length:=(XJ.1 h.get).1
theorem At.take{l:List α}{i:Nat}{x:α}(h:At l i x):l.take (i+1)=l.take i++[x]:=by
 rw[List.take_add_one,h.get];rfl
theorem end_(l:List α):decide ((l.length:Int)<(l.length:Int))=false:=Vr (by omega)
theorem Qcn{β:Type}{h:S}(l:List α)(g:β->α->β)(b:β)(d:β->Nat->S)(e:β->B)(hl:l.length<=4611686018427387904)(h0:d b 0=h)
  (j:∀i x a,At l i x->a=(l.take i).foldl g b->Ev (λn=>step n (d a i)) (.cont (d (g a x) (i+1))))
  (k:Ev (λn=>step n (d (l.foldl g b) l.length)) (.done (e (l.foldl g b)))):Ev (λn=>Go.Sw.iter (step n) n h) (e (l.foldl g b)):=by
 refine Ev.iter (λi=>d ((l.take i).foldl g b) i) l.length (by simpa using h0) (λi m=>?_) (by simpa using k);have f:=Qfs (x:=l[i]) hl (XI m);have:=j i _ _ f rfl;rw[f.take,List.foldl_append];exact this
theorem Ev.contains(l:List α)(q:α->Bool)(g:Nat->α->Option Bool)(hl:l.length<=4611686018427387904)(hg:∀x∈l,Ev (λn=>g n x) (q x)):
  Ev (λn=>(((Go.Sw.iter (λs:Int=>bif decide (s<(l.length:Int))then(idx l s).bind λx=>(g n x).bind λr=>(bif r then some (Ctl.done (Ctl.done s))else some (Ctl.cont (IntKind.i64.wrap (s+1))))else some (Ctl.done (Ctl.cont ()))) n (0:Int):Option (Ctl Unit Int)).bind λb=>
   match b with
   |.cont _=>some (-1)
   |.done s=>some s):Option Int).bind λr=>some (decide (0<=r))) (l.any q):=by
 cases e:l.any q with
 |false=>
  refine Ev.bind (v:=(-1:Int)) (Ev.bind (v:=Ctl.cont ()) (Ev.iter (λi=>(i:Int)) l.length rfl (λi d=>?_) ?_) (QY _)) (QY _)
  .have a:=Qfs (x:=l[i]) hl (XI d);simp only[a.lt,Vk,a.ix,XH];have w:q l[i]=false:=by
    rw[VE];intro h;rw[Xr.2 ⟨_,a.mem,h⟩]at e;cases e
   refine Ev.bind ((hg _ a.mem).eq w) ?_;simp only[Vl,a.nx];exact QY _
  .simp only[end_,Vl];exact QY _
 |true=>
  obtain⟨x,f,h⟩:=Xr.1 e;have t:∀k,k<=l.length->(∀(i:Nat) (x:α),l[i]?=some x->i<k->q x=false)\/ ∃(i:Nat) (x:α),l[i]?=some x/\i<k/\q x=true/\ ∀(j:Nat) (y:α),l[j]?=some y->j<i->q y=false:=by
   intro k
   induction k with
   |zero=>intro _;exact .inl λi x _ d=>absurd d (Xk _)
   |succ k B=>
    intro H;rcases B (by omega)with h|⟨i,x,u,E,p⟩
    .have hg:l[k]?=some l[k]:=XI (by omega);cases e:q l[k]with
     |true=>exact .inr ⟨k,_,hg,Xl _,e,h⟩
     |false=>
      refine .inl λi x f d=>?_;rcases Xm.1 d with z|rfl
      .exact h i x f z
      .rw[hg]at f;cases f;exact e
    .exact .inr ⟨i,x,u,by omega,p⟩
  rcases t l.length (XR _)with G|⟨i,x,u,E,p,F⟩
  .obtain⟨j,m,rfl⟩:=List.getElem_of_mem f;rw[G j _ (XI m) m]at h;cases h
  .refine Ev.bind (v:=(i:Int)) (Ev.bind (v:=Ctl.done (i:Int)) (Ev.iter (λi=>(i:Int)) i rfl (λj m=>?_) ?_) (QY _)) ?_
   .have a:=Qfs (x:=l[j]) hl (XI (by omega));simp only[a.lt,Vk,a.ix,XH];refine Ev.bind ((hg _ a.mem).eq (F j _ a.get m)) ?_;simp only[Vl,a.nx];exact QY _
   .have a:=Qfs hl u;simp only[a.lt,Vk,a.ix,XH];refine Ev.bind ((hg _ a.mem).eq p) ?_;exact QY _
   .rw[Vp (by omega)];exact QY _
end
section
variable {S B α:Type} {step:Nat->S->Option (Ctl S B)}
theorem At.drop{l:List α}{i:Nat}{x:α}(h:At l i x):l.drop i=x::l.drop (i+1):=by
 have:=h.lt';rw[Xo this,(XJ.1 h.get).2]
end
section
variable {α β:Type} [DecidableEq α]
end
def EvI{S B:Type}(step:Nat->S->Option (Ctl S B))(s:S)(b:B):Prop:=∃N,∀n k,N<=n->N<=k->Go.Sw.iter (step n) k s=some b
section
variable {S B:Type} {step:Nat->S->Option (Ctl S B)} {s s':S} {b:B}
theorem EvI.done(h:Ev (λn=>step n s) (.done b)):EvI step s b:=by
 obtain⟨N,h⟩:=h;refine⟨N+1,λn k e d=>?_⟩;obtain⟨a,rfl⟩:∃a,k=a+1:=⟨k-1,by omega⟩;have:=h n (by omega);simp only[Go.Sw.iter,this]
theorem EvI.cont(h:Ev (λn=>step n s) (.cont s'))(q:EvI step s' b):EvI step s b:=by
 obtain⟨N,h⟩:=h;obtain⟨M,q⟩:=q;refine⟨max N M+1,λn k e d=>?_⟩;obtain⟨a,rfl⟩:∃a,k=a+1:=⟨k-1,by omega⟩;have:=h n (by omega);simp only[Go.Sw.iter,this];exact q n a (by omega) (by omega)
theorem EvI.ev(h:EvI step s b):Ev (λn=>Go.Sw.iter (step n) n s) b:=by
 obtain⟨N,h⟩:=h;exact⟨N,λn a=>h n n a a⟩
theorem EvI.eq{b':B}(h:EvI step s b)(e:b=b'):EvI step s b':=e▸h
end
end Go.Sw
namespace Go.Sw
theorem Z.{u}{α:Sort u}{a:α}:a=a:=rfl
section
variable {P:Program} {h0 N:Nat} {all:Array Oper} {env:Env} {H H':Qc} {Q:Qv} {l:List Oper} {o:Oper} {d:Nat}
theorem aV(x:A)(H:Qc){x':A}{H':Qc}(a:x'=x)(hH:H'=H)(k:WO P h0 N all l (up env d x) H Q):WO P h0 N all l (up env d x') H' Q:=by subst a;subst hH;exact k
theorem vX(x:A)(a:OpV P o env H x)(k:WO P h0 N all l (up env d x) H Q)(hg:Qm all o env true:=by exact rfl)(hd:o.dst=some d:=by exact rfl)(hN:Nat.blt d N=true:=by exact rfl):WO P h0 N all (o::l) env H Q:=
 Qz hg hd hN a k
theorem Wp:WO P h0 N all [] env H (YJ env H):=WO.nil YJ.mk
end
end Go.Sw
namespace Go.Sw
section
variable {P:Program} {o:Oper} {env:Env} {H:Qc}
theorem Qkd{ro:Nat->Prop}{σ:Sig}{w:World}(g:GP w){b:Nat}{zs:List Int}(h:QgB[b]?=some zs):∀(i:Nat),CR ro σ w b ((zs.drop i).map (A.int .i64)) i:=by
 intro i;generalize hl:zs.drop i=l
 induction l generalizing i with
 |nil=>trivial
 |cons z l d=>
  have e:zs[i]?=some z:=by
   have:=congrArg (·[0]?) hl;simpa using this
  have a:zs.drop (i+1)=l:=by
   rw[<- List.drop_drop,hl];rfl
  exact⟨⟨_,g.tab b zs h i z e,by simp[Qn],rfl⟩,d (i+1) a⟩
theorem QeJ{t n g:Nat}{zs:List Int}(f:∀w,(isAgg t).run P w=.ok true w)(i:∀w,(sizeOf t).run P w=.ok n w)(hg:QgB[g]?=some zs)(hl:zs.length=n)(j:o.op=.load t (.global g):=by exact rfl):
  OpV P o env H (.agg (zs.map (A.int .i64))):=by
 intro k ro σ N a w r;obtain⟨l,h,_,d⟩:=Yo (P:=P) (b:=g) (cs:=zs.map (A.int .i64)) (off:=0) 0 (by simpa using Qkd (ro:=ro) (σ:=σ) r.sim.roOk.gp hg 0);have d:=d w #[] rfl;rw[XX,hl]at d;refine⟨.agg l.toArray,?_,l,rfl,h⟩;have e:a.eval (.global g)=.pointer (some ⟨g,0,none⟩):=rfl;generalize a.eval=ρ at*;simp[execOp,j,e,Instr.loadAt,Instr.sureAddr,loadVar,f,i,loadCells,d,go_sem]
end
end Go.Sw
namespace Go.Sw
open Go.Proofs
section
variable {P:Program}
def toV(agg:Bool)(l:List Value):Value:=bif agg then .agg l.toArray else l.headD .nilFunc
structure Qib (P:Program) (t:TypeId) (h k:Nat) (agg:Bool) (ok:List Value->Prop):Prop where
 len:∀l,ok l->l.length=k
 ia:∀w,(isAgg t).run P w=.ok agg w
 so:∀w,(sizeOf t).run P w=.ok k w
 eq:∀(w:World) (d:Nat) (l m:List Value),ok l->ok m->∃b:Bool,(Op.equalIn (d+h) t (toV agg l) (toV agg m)).run P w=.ok b w/\(b=true↔l=m)
structure Qjs (P:Program) (fs:List Field) (h off k:Nat) (ok:List Value->Prop):Prop where
 len:∀l,ok l->l.length=k
 eq:∀(w:World) (d:Nat) (p q l m:List Value),p.length=off->q.length=off->ok l->ok m->∃b:Bool,(Op.eqFields (d+h) (p++l).toArray (q++m).toArray fs).run P w=.ok b w/\(b=true↔l=m)
theorem Qib.int{t:TypeId}{k:IntKind}(e:P.underlying t=some (.int k))(a:∀w,(isAgg t).run P w=.ok false w)(b:∀w,(sizeOf t).run P w=.ok 1 w)(h:Nat):Qib P t (h+1) 1 false (λl=>∃n:Int,l=[.int k n]):=by
 refine⟨?_,a,b,?_⟩
 .rintro _ ⟨n,rfl⟩;rfl
 .rintro w d _ _ ⟨n,rfl⟩ ⟨m,rfl⟩;exact⟨_,run_equalIn_int w (d+h) t k k n m e,by simp⟩
theorem Qib.bool{t:TypeId}(e:P.underlying t=some .bool)(a:∀w,(isAgg t).run P w=.ok false w)(b:∀w,(sizeOf t).run P w=.ok 1 w)(h:Nat):Qib P t (h+1) 1 false (λl=>∃n:Bool,l=[.bool n]):=by
 refine⟨?_,a,b,?_⟩
 .rintro _ ⟨n,rfl⟩;rfl
 .rintro w d _ _ ⟨n,rfl⟩ ⟨m,rfl⟩;exact⟨_,run_equalIn_bool' w (d+h) t n m e,by simp⟩
theorem Qjs.nil(h off:Nat):Qjs P [] h off 0 (λl=>l=[]):=by
 refine⟨?_,?_⟩
 .rintro _ rfl;rfl
 .rintro w d p q _ _ _ _ rfl rfl;exact⟨true,by simp[Op.eqFields],by simp⟩
theorem QfD{t:TypeId}{k:Nat}{agg:Bool}{w:World}(b:∀w,(isAgg t).run P w=.ok agg w)(d:∀w,(sizeOf t).run P w=.ok k w)(p a e:List Value)(hl:a.length=k)(f:agg=false->k=1):
  (part t (p++(a++e)).toArray p.length).run P w=.ok (toV agg a) w:=by
 unfold part;cases agg with
 |true=>
  simp[b,d,go_sem,toV];rw[<- hl];simp[List.extract]
 |false=>
  have:=f rfl;subst this
  match a,hl with
  |[v],_=>simp[b,go_sem,toV]
theorem Qjs.cons{f:Field}{fs:List Field}{h off m z:Nat}{agg:Bool}{k j:List Value->Prop}(V:Nat.beq f.offset off=true)(T:f.name≠"_")(g:Qib P f.type h m agg k)(B:agg=false->m=1)(E:Qjs P fs h (off+m) z j):
  Qjs P (f::fs) h off (m+z) (λl=>∃l1 l2,l=l1++l2/\k l1/\j l2):=by
 have s:f.offset=off:=XO V;refine⟨?_,?_⟩
 .rintro _ ⟨l1,l2,rfl,a,b⟩;rw[XY,g.len _ a,E.len _ b]
 .rintro w d p q _ _ y u ⟨l1,l2,rfl,n,L⟩ ⟨i,t,rfl,r,N⟩;have F:=QfD (P:=P) (w:=w) g.ia g.so p l1 l2 (g.len _ n) B;have G:=QfD (P:=P) (w:=w) g.ia g.so q i t (g.len _ r) B;rw[y]at F;rw[u]at G;obtain⟨H,J,R⟩:=g.eq w d l1 i n r;obtain⟨O,x,M⟩:=E.eq w d (p++l1) (q++i) l2 t (by rw[XY,y,g.len _ n]) (by rw[XY,u,g.len _ r]) L N;rw[Ve,Ve]at x;have Q:l1.length=i.length:=by rw[g.len _ n,g.len _ r]
  refine⟨H&&O,?_,?_⟩
  .generalize(p++(l1++l2)).toArray=X at*;generalize(q++(i++t)).toArray=Y at*;cases H<;>simp[Op.eqFields,T,s,Vi,Result.andThen,F,G,J,x]
  .rw[XU,R,M];constructor
   .rintro⟨rfl,rfl⟩;rfl
   .intro e;exact List.append_inj e Q
theorem Qib.struct{t:TypeId}{h k:Nat}{ok:List Value->Prop}(p:P.underlying t=some (.struct (P.fieldsOf t)))(i:P.stoodInHeld t=false)(f:∀w,(isAgg t).run P w=.ok true w)(g:∀w,(sizeOf t).run P w=.ok k w)(e:Qjs P (P.fieldsOf t).toList h 0 k ok):Qib P t (h+1) k true ok:=by
 refine⟨e.len,f,g,λw d l m a b=>?_⟩;obtain⟨r,j,n⟩:=e.eq w d [] [] l m rfl rfl a b;refine⟨r,?_,n⟩;show(Op.equalIn (d+h+1) t (.agg l.toArray) (.agg m.toArray)).run P w=_;rw[run_equalIn_agg w (d+h) t _ _ p i];simpa using j
theorem QJ{t:TypeId}{h k:Nat}{fs:Array Field}{ok:List Value->Prop}(a:P.underlying t=some (.struct fs))(f:P.stoodInHeld t=false)(b:∀w,(isAgg t).run P w=.ok true w)(d:∀w,(sizeOf t).run P w=.ok k w)(g:Qjs P fs.toList h 0 k ok):Qib P t (h+1) k true ok:=by
 have e:P.fieldsOf t=fs:=by simp[Program.fieldsOf,a]
 exact Qib.struct (by rw[e];exact a) f b d (by rw[e];exact g)
structure EqD (P:Program) (t:TypeId) {α:Type} (cells:α->List A):Prop where
 scl:∀x,Qdp (cells x)=true
 inj:∀x y,YA (cells x)=YA (cells y)->x=y
 guard:P.eqGuardType P.depth t=false
 eq:∀(w:World) x y,∃b:Bool,(Op.equalIn 10000 t (.agg (YA (cells x)).toArray) (.agg (YA (cells y)).toArray)).run P w=.ok b w/\(b=true↔YA (cells x)=YA (cells y))
theorem Qhw{α:Type}{cells:α->List A}{t h k:Nat}{ok:List Value->Prop}(E:Qib P t h k true ok)(b:Nat.ble h 10000=true)(a:∀x,ok (YA (cells x)))(d:∀x,Qdp (cells x)=true)(hi:∀x y,YA (cells x)=YA (cells y)->x=y)(hg:P.eqGuardType P.depth t=false):EqD P t cells:=by
 refine⟨d,hi,hg,λw x y=>?_⟩;have:=E.eq w (10000-h) (YA (cells x)) (YA (cells y)) (a x) (a y)
 rwa [show 10000-h+h=10000 by have:=XP b;omega]at this
variable {o:Oper} {env:Env} {H:Qc}
theorem Qh1{α:Type}[DecidableEq α]{cells:α->List A}{t u:TypeId}{x y:Operand}{p q:α}(E:EqD P t cells)(n:opA env x=.agg (cells p))(l:opA env y=.agg (cells q))(z:o.op=.binOp .eql t x y u:=by exact rfl):OpV P o env H (.bool (p==q)):=by
 intro F B σ N a w r;have g:=Qf r x;have h:=Qf r y;rw[n]at g;rw[l]at h;have m:=VR.val (a:=.agg (cells p)) (E.scl p) g;have s:=VR.val (a:=.agg (cells q)) (E.scl q) h;obtain⟨b,k,i⟩:=E.eq w p q;have j:b=(p==q):=by
  rw[Bool.eq_iff_iff,i,Vs];exact⟨E.inj p q,λe=>by rw[e]⟩
 refine⟨.bool (p==q),?_,rfl⟩;rw[<- j];generalize a.eval=ρ at*;have d:ρ x=.agg (YA (cells p)).toArray:=m;have f:ρ y=.agg (YA (cells q)).toArray:=s;simp[execOp,z,d,f,go_sem,run_eqGuard_agg _ _ _ _ _ _ _ E.guard,run_eql_struct,k]
theorem Qh0{α:Type}[DecidableEq α]{cells:α->List A}{t u:TypeId}{x y:Operand}{p q:α}(E:EqD P t cells)(n:opA env x=.agg (cells p))(l:opA env y=.agg (cells q))(z:o.op=.binOp .neq t x y u:=by exact rfl):OpV P o env H (.bool (p != q)):=by
 intro F B σ N a w r;have g:=Qf r x;have h:=Qf r y;rw[n]at g;rw[l]at h;have m:=VR.val (a:=.agg (cells p)) (E.scl p) g;have s:=VR.val (a:=.agg (cells q)) (E.scl q) h;obtain⟨b,k,i⟩:=E.eq w p q;have j:b=(p==q):=by
  rw[Bool.eq_iff_iff,i,Vs];exact⟨E.inj p q,λe=>by rw[e]⟩
 refine⟨.bool (p != q),?_,rfl⟩;rw[bne, <- j];generalize a.eval=ρ at*;have d:ρ x=.agg (YA (cells p)).toArray:=m;have f:ρ y=.agg (YA (cells q)).toArray:=s;simp[execOp,z,d,f,go_sem,run_eqGuard_agg _ _ _ _ _ _ _ E.guard,run_neq_struct,k]
end
end Go.Sw
namespace Go.Sw
structure QdS (g g':Nat->Prop) (W W':World):Prop where
 sub:∀b,g b->g' b
 new:∀b,g' b->g b\/W.heap.size<=b
 lt:∀b,g' b->b<W'.heap.size
 all:∀b,W.heap.size<=b->b<W'.heap.size->g' b
 keep:∀b,b<W.heap.size->¬g b->W'.heap[b]?=W.heap[b]?
 size:W.heap.size<=W'.heap.size
 shape:∀b x,W.shape? b=some x->W'.shape? b=some x
 os:W'.os=W.os
 tape:W'.tape=W.tape
 output:W'.output=W.output
 drawn:W.drawn<=W'.drawn
abbrev Jv(T:Type):=List T->(Nat->Prop)->(Nat->Prop)->World->Prop
structure Qkx {T:Type} (J:Jv T):Prop where
 ev:∀rem q g W W' ro',J rem q g W->Qg g q W ro' W'->J rem q g W'
 up:∀rem q g g' W,J rem q g W->(∀b,g b->g' b)->(∀b,g' b->b<W.heap.size)->J rem q g' W
theorem Sim.round{fr g g' ro:Nat->Prop}{σ:Sig}{H:Qc}{W W':World}(s:Sim fr ro σ H W)(a:∀b,g b->fr b)(k:QdS g g' W W'):Sim (λb=>fr b\/g' b) ro σ H W'/\Qg (λb=>b<W.heap.size/\ ¬g b) ro W ro W':=by
 have e:∀b,ro b->W'.heap[b]?=W.heap[b]? :=λb q=>k.keep b (s.roLt b q) (λr=>s.roFr b q (a b r));have m:Ext ro σ W ro σ W':=by
  have ev:Qg (λ_=>False) ro W ro W':=⟨λ_ q=>q,e,λ_ q=>q.elim,k.size,k.shape,k.os,k.tape,k.output,k.drawn⟩;have:=ev.ext σ [];simpa using this
 refine⟨⟨s.len,s.roOk.to (λ_ q=>q) e (λb q=>Vb (s.roLt b q) k.size),λb q=>q.elim (λq=>Vb (s.frLt b q) k.size) (k.lt b),λb q r=>?_,λi b x h f w=>?_,s.inj,λi y x h f=>?_,
  s.hidTo (· = ·) QP k.size (λ_ _ _ _ _ _ _ q=>q) (λi b x c h f w F=>F.elim id λq=>(k.new c q).elim (a c) λl=>(by have:=(s.hid i b x c h f w).lt;omega)) λj d y n t G=>.inl ⟨j,y,rfl,n,t,id,λc q=>s.hidKeep n t (λz=>k.keep d (s.own j d y n t z).1 λr=>(s.own j d y n t z).2.2 (a d r)) e q⟩⟩,
  ⟨λ_ q=>q,e,λb q=>k.keep b q.1 q.2,k.size,k.shape,k.os,k.tape,k.output,k.drawn⟩⟩
 .rcases r with r|r
  .exact s.roFr b q r
  .rcases k.new b r with l|l
   .exact s.roFr b q (a b l)
   .have:=s.roLt b q;omega
 .obtain⟨u,E,p⟩:=s.own i b x h f w;refine⟨Vb u k.size,E,λr=>?_⟩;rcases r with r|r
  .exact p r
  .rcases k.new b r with l|l
   .exact p (a b l)
   .omega
 .refine(s.blk i y x h f).keep m ?_ ?_
  .rintro b rfl B;obtain⟨u,E,p⟩:=s.own i b x h f B;exact k.keep b u (λr=>p (a b r))
  .rintro b c rfl B;have q:=s.hid i b x c h f B;exact k.keep c q.lt (λr=>q.fr (a c r))
def Qla{T:Type}(J Jx:Jv T)(g ri:Nat->Prop)(W1:World)(rem:List T):Ending->World->Prop:=λe W'=>
 ∃g' q',(∀b,q' b->ri b)/\QdS g g' W1 W'/\((e=.returned (.bool true)/\J rem q' g' W')\/(e=.returned (.bool false)/\Jx rem q' g' W'))
structure Ctx (T:Type) where
 l:Nat
 J:Jv T
 Jx:Jv T
 enc:T->List A
 nx:List T->T->List T->Prop
structure Ctx.ok {T:Type} (X:Ctx T) (P:Program):Prop where
 b:Qkx X.J
 bx:Qkx X.Jx
 round:∀l x rem q g ri W1 vs,X.nx l x rem->X.J l q g W1->(∀b,q b->ri b)->(∀b,ri b->b<W1.heap.size/\ ¬g b)->LR ri [] W1 (X.enc x) vs->YieldAt Fence.wide 0 P X.l vs.toArray W1 (Qla X.J X.Jx g ri W1 rem)
def Qff{T:Type}(P:Program)(f:FuncId)(caps:List A)(H:Qc)(enc:T->List A)(nx:List T->T->List T->Prop)(xs:List T):Prop:=
 ∀(X:Ctx T),X.enc=enc->X.nx=nx->X.ok P->∀fr ro σ w capv q,Sim fr ro σ H w->(∀b,q b->ro b)->LR ro σ w caps capv->X.J xs q fr w->
  Calls P f ((Value.func (.yield X.l) #[] #[]::capv)).toArray w λe W'=>(∃v,e=.returned v)/\ ∃g q',(∀b,fr b->g b)/\((X.J [] q' g W')\/(∃rem,X.Jx rem q' g W'))
inductive YSt (T:Type) where
 |on (rem:List T)
 |off (rem:List T)
def Ctx.J'{T:Type}(X:Ctx T):YSt T->(Nat->Prop)->(Nat->Prop)->World->Prop
 |.on rem=>X.J rem
 |.off rem=>X.Jx rem
def Ctx.at{T:Type}(X:Ctx T)(st:YSt T)(g ro:Nat->Prop)(W:World):Prop:=∃q,(∀b,q b->ro b)/\X.J' st q g W
theorem Qg.roMono{fr ro ro0 ro':Nat->Prop}{w w':World}(h:Qg fr ro w ro' w')(s:∀b,ro0 b->ro b):Qg fr ro0 w ro' w':=
 ⟨λb q=>h.sub b (s b q),λb q=>h.keepRo b (s b q),h.keepFr,h.size,h.shape,h.os,h.tape,h.output,h.drawn⟩
theorem Ctx.ok.ev{T:Type}{X:Ctx T}{P:Program}(h:X.ok P){e:YSt T}{g ro ro':Nat->Prop}{W W':World}(a:X.at e g ro W)(he:Qg g ro W ro' W'):X.at e g ro' W':=by
 obtain⟨q,d,a⟩:=a;refine⟨q,λb z=>he.sub b (d b z),?_⟩;cases e with
 |on rem=>exact h.b.ev rem q g W W' ro' a (he.roMono d)
 |off rem=>exact h.bx.ev rem q g W W' ro' a (he.roMono d)
theorem Ctx.ok.up{T:Type}{X:Ctx T}{P:Program}(h:X.ok P){d:YSt T}{g g' ro:Nat->Prop}{W:World}(a:X.at d g ro W)(hg:∀b,g b->g' b)(hl:∀b,g' b->b<W.heap.size):X.at d g' ro W:=by
 obtain⟨q,e,a⟩:=a;refine⟨q,e,?_⟩;cases d with
 |on rem=>exact h.b.up rem q g g' W a hg hl
 |off rem=>exact h.bx.up rem q g g' W a hg hl
abbrev Ym(T:Type):=AEx->Env->Qc->YSt T->Prop
structure In (g fr:Nat->Prop) (ds:List Deferred):Prop where
 sub:∀b,g b->fr b
 beside:∀D,({target:=.collected D,args:= #[]}:Deferred)∈ds->¬g D
def Qcl{T:Type}(X:Ctx T)(h0:Nat)(fr ro:Nat->Prop)(σ:Sig)(w:World)(N:Nat)(ds:List Deferred)(Q:Ym T):Exit->Act->World->Prop:=
 λe a' w'=>∃x env' H' st ro' σ' fr' g',ExR e x/\Q x env' H' st/\Rel fr' ro' σ' H' env' N a' w'/\(X.at st g' ro' w'/\In g' fr' a'.defers)/\(∀b,ro b->ro' b)/\w.heap.size<=w'.heap.size/\σ'.take h0=σ.take h0/\Grow fr w ds fr' a'.defers
theorem Qcl.grow{T:Type}{X:Ctx T}{h0:Nat}{fr g ro d:Nat->Prop}{σ σ1:Sig}{w w1:World}{N:Nat}{k a:List Deferred}{Q:Ym T}{e:Exit}{a':Act}{w':World}
  (h:Qcl X h0 g d σ1 w1 N a Q e a' w')(u:∀b,ro b->d b)(l:w.heap.size<=w1.heap.size)(t:σ1.take h0=σ.take h0)(hg:Grow fr w k g a):Qcl X h0 fr ro σ w N k Q e a' w':=by
 obtain⟨x,f,H',r,j,σ',i,p,y,n,m,z,F,B,E,s⟩:=h;exact⟨x,f,H',r,j,σ',i,p,y,n,m,z,λb q=>F b (u b q),XT l B,E.trans t,hg.trans l s⟩
def TCy{T:Type}(X:Ctx T)(P:Program)(h0 N:Nat)(c:Code)(env:Env)(H:Qc)(st:YSt T)(Q:Ym T):Prop:=
 X.ok P->∀rd fr ro σ a w g,Rel fr ro σ H env N a w->X.at st g ro w/\In g fr a.defers->rd=none->c.wpIn (WF rd) 0 P (Qcl X h0 fr ro σ w N a.defers Q) a w
def WOy{T:Type}(X:Ctx T)(P:Program)(h0 N:Nat)(all:Array Oper)(l:List Oper)(env:Env)(H:Qc)(st:YSt T)(Q:Ym T):Prop:=
 X.ok P->∀rd fr ro σ a w g,Rel fr ro σ H env N a w->X.at st g ro w/\In g fr a.defers->rd=none->wpL P rd all (Qcl X h0 fr ro σ w N a.defers Q) l a w
theorem In.later{fr a g:Nat->Prop}{w:World}{ds ds':List Deferred}(h:In g fr ds)(hl:∀b,fr b->b<w.heap.size)(hg:Grow fr w ds a ds'):In g a ds':=by
 refine⟨λb q=>hg.sub b (h.sub b q),λD hD q=>?_⟩;rcases hg.ds _ hD with r|⟨D',e,r⟩
 .exact h.beside D r q
 .have:D=D':=by simpa using e
  subst this;have:=hl D (h.sub D q);omega
section
variable {T:Type} {X:Ctx T} {P:Program} {h0 N:Nat} {c c':Code} {env:Env} {H:Qc} {st:YSt T} {Q:Ym T}
theorem QhS{fr ro:Nat->Prop}{σ:Sig}{w:World}{f:List Deferred}{e:Exit}{a':Act}{w':World}(q:X.ok P)(h:QaJ h0 fr ro σ w N f (λx env H=>Q x env H st) e a' w'){g:Nat->Prop}(hl:∀b,fr b->b<w.heap.size)(k:X.at st g ro w/\In g fr f):
  Qcl X h0 fr ro σ w N f Q e a' w':=by
 obtain⟨x,a,H',i,σ',d,n,p,m,j,r,l⟩:=h;exact⟨x,a,H',st,i,σ',d,g,n,p,m,⟨q.ev k.1 (j.frMono k.2.sub),k.2.later hl l⟩,j.sub,j.size,r,l⟩
theorem TCy.lift(h:TC P h0 N c env H (λx env H=>Q x env H st)):TCy X P h0 N c env H st Q:=
 λhX rd fr ro σ a w g r hj hrd=>Code.wpIn_mono (λe a' w' q=>QhS hX q r.sim.frLt hj) (h rd fr ro σ a w r (hrd▸Qc7.none))
def SeqY(X:Ctx T)(P:Program)(h0 N:Nat)(c:Code)(Q:Ym T):Ym T
 |.normal,env,H,st=>TCy X P h0 N c env H st Q
 |.exit id,env,H,st=>Q (.exit id) env H st
 |.ret,env,H,st=>Q .ret env H st
theorem TCy.seq(h:TCy X P h0 N c env H st (SeqY X P h0 N c' Q)):TCy X P h0 N (.seq c c') env H st Q:=by
 intro z y F E σ a w g r hj hrd;refine wpIn_seq (Code.wpIn_mono ?_ (h z y F E σ a w g r hj hrd));rintro e B G ⟨x,b,H',i,f,σ',d,l,j,k,p,t,u,m,n,s⟩;cases e with
 |normal=>
  obtain rfl:x=.normal:=j;exact Code.wpIn_mono (λe a w q=>q.grow u m n s) (k z y d f σ' B G l p t hrd)
 |exit id=>
  obtain rfl:x=.exit id:=j;exact⟨_,b,H',i,f,σ',d,l,rfl,k,p,t,u,m,n,s⟩
 |ret=>
  obtain rfl:x=.ret:=j;exact⟨_,b,H',i,f,σ',d,l,rfl,k,p,t,u,m,n,s⟩
 |_=>exact j.elim
theorem TCy.region{id:Nat}{l:List Oper}(h:WOy X P h0 N l.toArray l env H st Q):TCy X P h0 N (.region id l.toArray false) env H st Q:=
 λhX rd fr ro σ a w g r hj hrd=>wpIn_region_lit (h hX rd fr ro σ a w g r hj hrd)
theorem TCy.cond{x:Operand}{t:Bool}(j:opA env x=.bool t)(k:t=true->TCy X P h0 N c env H st Q)(l:t=false->TCy X P h0 N c' env H st Q):TCy X P h0 N (.cond x c c') env H st Q:=by
 intro h d i f σ a w g r hj hrd;have b:=Qf r x;rw[j]at b;exact wpIn_cond_split b (λe=>k e h d i f σ a w g r hj hrd) (λe=>l e h d i f σ a w g r hj hrd)
theorem WOy.nil{all:Array Oper}(h:Q .normal env H st):WOy X P h0 N all [] env H st Q:=
 λhX rd fr ro σ a w g r hj hrd=>⟨_,env,H,st,ro,σ,fr,g,rfl,h,r,hj,λ_ q=>q,XR _,rfl,Grow.refl _ _ _⟩
end
theorem Qgi{P:Program}{rd:Option Nat}{o:Oper}{a:Act}{K K':Act->World->Prop}{Q Q':Exit->Act->World->Prop}(b:∀a w,K a w->K' a w)(i:∀ch a w,Q (.panic ch) a w->Q' (.panic ch) a w)(n:∀a w,Q .outgrown a w->Q' .outgrown a w)
  {r:Result Next}(h:o.uponIn (WF rd) 0 P a K Q r):o.uponIn (WF rd) 0 P a K' Q' r:=by
 cases r with
 |ok x w=>
  cases x with
  |value v=>exact b _ _ h
  |skip=>exact b _ _ h
  |defer d=>exact b _ _ h
  |enter f g=>
   refine⟨h.1,CallsIn.mono h.2 ?_⟩;intro e m q;cases e with
   |returned v=>exact b _ _ q
   |panicked c=>exact i _ _ _ q
   |outgrown=>obtain⟨a,w,q⟩:=q;exact⟨a,w,n _ _ q⟩
  |row r g=>exact⟨h.1,RowsIn.mono h.2 λv m q=>b _ _ q⟩
  |round l f j assign k=>
   refine⟨h.1,RoundIn.mono h.2 ?_⟩;intro e m q;cases e with
   |returned v=>exact b _ _ q
   |panicked c=>exact i _ _ _ q
   |outgrown=>obtain⟨a,w,q⟩:=q;exact⟨a,w,n _ _ q⟩
  |_=>exact h
 |halt x w=>
  cases x with
  |panic v=>exact i _ _ _ h
  |_=>exact h
section
variable {T:Type} {X:Ctx T} {P:Program} {h0 N:Nat} {env:Env} {H:Qc} {st:YSt T} {Q:Ym T}
theorem WOy.step{all:Array Oper}{o:Oper}{rest:List Oper}(h:WO P h0 N all [o] env H (λx env' H'=>x=.normal/\WOy X P h0 N all rest env' H' st Q)):WOy X P h0 N all (o::rest) env H st Q:=by
 intro B p m l σ a w g r hj hrd;have z:∀d j,Qbx h0 m l σ w N a.defers (λx env' H'=>x=.normal/\WOy X P h0 N all rest env' H' st Q) .normal d j->wpL P p all (Qcl X h0 m l σ w N a.defers Q) rest d j:=by
  rintro d j ⟨x,env',H',i,σ',f,L,⟨_,E⟩,F,t,G,u,y⟩;have s:X.at st g i j/\In g f d.defers:=⟨B.ev hj.1 (t.frMono hj.2.sub),by rw[u];exact hj.2.later r.sim.frLt y⟩;have:=E B p f i σ' d j g F s hrd;refine Q4 (λe k w2 q=>?_) _ _ _ this;exact q.grow t.sub t.size G (by rw[u];exact y)
 have b:=h p m l σ a w r (hrd▸Qc7.none);unfold wpL wpListIn at b⊢;split
 .rename_i n;rw[Vo n]at b;refine⟨b.1,Qgi (λk w2 q=>?_) (λJ k w2 q=>?_) (λk w2 q=>?_) b.2⟩
  .unfold wpListIn at q;exact z k w2 q
  .obtain⟨x,_,_,_,_,_,q,_⟩:=q;exact q.elim
  .obtain⟨x,_,_,_,_,_,q,_⟩:=q;exact q.elim
 .rename_i n;rw[Vn n]at b;refine⟨b.1,?_⟩;have q:=b.2;unfold wpListIn at q;exact z _ _ q
theorem WOy.yield{all:Array Oper}{o:Oper}{rest:List Oper}{d:Nat}{x:T}{M rem:List T}(R:X.nx M x rem)(hg:Qm all o env true)(E:o.dst=some d)(hN:Nat.blt d N=true)
  (G:∀fr ro σ a w,Rel fr ro σ H env N a w->∃vs:List Value,LR ro [] w (X.enc x) vs/\(execOp a.eval o).run P w=(Instr.yield X.l vs.toArray).run P w)
  (k:∀b:Bool,WOy X P h0 N all rest (up env d (.bool b)) H (bif b then .on rem else .off rem) Q):WOy X P h0 N all (o::rest) env H (.on M) Q:=by
 intro W O fr ro σ a w g r hj hrd;obtain⟨vs,hv,Y⟩:=G fr ro σ a w r;obtain⟨q,hq,L⟩:=hj.1;obtain⟨fn,tmps,assign,V,h1,h2⟩:=W.round M x rem q g ro w vs R L hq (λb z=>⟨r.sim.roLt b z,λy=>r.sim.roFr b z (hj.2.sub b y)⟩) hv;have h3:=Y.trans h1;unfold wpL wpListIn;rw[Vo (Yn hg r)];refine⟨λ_ _=>trivial,?_⟩;rw[Qb4 h3 (λd e=>by cases e)];refine⟨λh=>by simp[WF,Fence.wide]at h,?_⟩;refine RoundIn.mono (F:=WF O) (n:=0) h2 ?_;rintro e j ⟨i,t,p,m,f⟩;obtain⟨s',ev⟩:=r.sim.round hj.2.sub m;have J:d<N:=by simpa using hN
 have u:Ext ro σ w ro σ j:=by have:=ev.ext σ [];simpa using this
 have fin:∀b:Bool,X.at (bif b then .on rem else .off rem) i ro j->wpL P O all (Qcl X h0 fr ro σ w N a.defers Q) rest (a.put o.dst (.bool b)) j:=by
  intro b f;have hm:Qcm (λb=>fr b\/i b) a.defers j:=by
   refine⟨r.defers.1,λd E=>?_⟩;obtain⟨D,rfl,B,q2⟩:=r.defers.2 d E;exact⟨D,rfl,.inl B,(m.keep D (r.sim.frLt D B) (hj.2.beside D E)).trans q2⟩
  have hi:In i (λb=>fr b\/i b) a.defers:=by
   refine⟨λb q=>.inr q,λD hD q=>?_⟩;rcases m.new D q with t|t
   .exact hj.2.beside D hD t
   .obtain⟨D',e,B,_⟩:=r.defers.2 _ hD;have:D=D':=by simpa using e
    subst this;have:=r.sim.frLt D B;omega
  have r':Rel (λb=>fr b\/i b) ro σ H (up env d (.bool b)) N {a with tmps:=a.tmps.setIfInBounds d (.bool b)} j:=
   ⟨s',VR.up (fr:=fr) (λs=>(r.env s).mono u) (by rw[r.size];exact J) rfl,by simpa using r.size,hm⟩
  have:=k b W O _ ro σ _ j i r' ⟨f,hi⟩ hrd;simp only[E,Act.put];refine Q4 (λe a2 w2 q=>q.grow (λ_ q=>q) m.size rfl ⟨λ_ q=>.inl q,λb q=>?_,λ_ q=>.inl q⟩) _ _ _ this;rcases q with q|q
  .exact .inl q
  .rcases m.new b q with q|q
   .exact .inl (hj.2.sub b q)
   .exact .inr q
 rcases f with⟨rfl,f⟩|⟨rfl,f⟩
 .exact fin true ⟨t,p,f⟩
 .exact fin false ⟨t,p,f⟩
end
def EndY{T:Type}:Ym T:=λx env H st=>(x=.normal\/x=.ret)/\(st=.on []\/ ∃rem,st=.off rem)
theorem Qci{T:Type}{P:Program}{f:FuncId}{fn:Func}{c:Code}{N:Nat}{a:List A}{H:Qc}{enc:T->List A}{nx:List T->T->List T->Prop}{xs:List T}
  (hf:P.funcs[f]?=some fn)(W:fn.body=some c)(hN:fn.ntmps=N)(hA:Nat.ble (a.length+1) N=true)(hR:fn.results= #[])
  (h:∀X:Ctx T,X.enc=enc->X.nx=nx->TCy X P H.length N c (QeA 0 (.fn (.yield X.l) [] []::a)) H (.on xs) EndY):Qff P f a H enc nx xs:=by
 intro X hE hNx hX fr ro0 σ w capv q0 hs hq0 hl hj;have m:LR ro0 σ w (.fn (.yield X.l) [] []::a) (Value.func (.yield X.l) #[] #[]::capv):=⟨_,_,rfl,⟨[],[],rfl,rfl,rfl⟩,hl⟩;have r:=m.length;have aa:a.length+1<=N:=by simpa using hA
 refine(callsIn_wide (n:=0)).1 (callsIn_of_wp_marks hf W trivial (Code.wpIn_mono ?_ (h X hE hNx hX none fr ro0 σ _ w fr ⟨hs,?_,?_,List.nodup_nil,λd u=>by cases u⟩ ⟨⟨q0,hq0,hj⟩,λ_ q=>q,λD hD=>by cases hD⟩ rfl)))
 .rintro e E Q ⟨x,V,H1,st,B,σ1,ab,L,R,⟨h2,F⟩,k,⟨h4,j⟩,h5,h6,h7,h8⟩;have t:LeavesInM Fence.wide 0 P fn E.tmps (λe W'=>(∃v,e=.returned v)/\ ∃g q',(∀b,fr b->g b)/\((X.J [] q' g W')\/(∃rem,X.Jx rem q' g W'))) E.defers .returning Q:=by
   refine Qa8 (ro:=B) (fr:=L) (σ:=σ1) (H:=H1) E.defers Q k.defers.1 (λd u=>?_) (k.sim.frMono j.sub) (λw2 s2 p=>?_)
   .obtain⟨D,rfl,z,q2⟩:=k.defers.2 d u;exact⟨D,rfl,λq=>k.sim.roFr D q z,j.beside D u,λi x M G O=>(k.sim.own i D x M G O).2.2 z,λi d x M G O=>(k.sim.hid i d x D M G O).fr z,q2⟩
   .have y:=hX.up (hX.ev h4 p) (g':=λb=>L b\/fr b) (λb q=>.inl q) (λb q=>Vb (k.sim.frLt b (q.elim (j.sub b) (h8.sub b))) p.size);obtain⟨Y,_,y⟩:=y;refine⟨.tuple #[],by simp[results,hR,go_sem],⟨_,rfl⟩,λb=>L b\/fr b,Y,λb q=>.inr q,?_⟩;rcases F with rfl|⟨rem,rfl⟩
    .exact .inl y
    .exact .inr ⟨rem,y⟩
  cases e with
  |normal=>exact t
  |ret=>exact t
  |exit id=>
   obtain rfl:x=.exit id:=R;rcases h2 with q|q<;>cases q
  |_=>exact R.elim
 .intro s;have:=Qdx (i:=0) [] rfl m (Array.replicate (fn.ntmps-(Value.func (.yield X.l) #[] #[]::capv).toArray.size) undef) s;simpa using this
 .simp only[XW]at r;simp[hN];omega
section
variable {T:Type} {X:Ctx T} {P:Program} {h0 N:Nat} {c c':Code} {env:Env} {H:Qc} {st:YSt T} {Q Q':Ym T}
theorem TCy.mono(h:TCy X P h0 N c env H st Q)(l:∀x env H st,Q x env H st->Q' x env H st):TCy X P h0 N c env H st Q':=by
 intro s p t q σ a w g r hj hrd;refine Code.wpIn_mono ?_ (h s p t q σ a w g r hj hrd);rintro e u y ⟨x,b,H',i,f,σ',d,j,m,n,k⟩;exact⟨x,b,H',i,f,σ',d,j,m,l _ _ _ _ n,k⟩
theorem TCy.skip(h:Q .normal env H st):TCy X P h0 N .skip env H st Q:=TCy.lift (TC.skip h)
theorem TCy.ret(h:Q .ret env H st):TCy X P h0 N .ret env H st Q:=TCy.lift (TC.ret h)
theorem TCy.exit{id:Nat}(h:Q (.exit id) env H st):TCy X P h0 N (.exit id) env H st Q:=TCy.lift (TC.exit h)
def BloY(id:Nat)(Q:Ym T):Ym T
 |.normal,env,H,st=>Q .normal env H st
 |.exit id',env,H,st=>bif Nat.beq id' id then Q .normal env H st else Q (.exit id') env H st
 |.ret,env,H,st=>Q .ret env H st
theorem TCy.block{id:Nat}(h:TCy X P h0 N c env H st (BloY id Q)):TCy X P h0 N (.block id c) env H st Q:=by
 intro u s y t σ a w g r hj hrd;refine wpIn_block (Code.wpIn_mono ?_ (h u s y t σ a w g r hj hrd));rintro e z B ⟨x,b,H',j,i,σ',f,l,n,k,m⟩;cases e with
 |normal=>
  obtain rfl:x=.normal:=n;exact⟨_,b,H',j,i,σ',f,l,rfl,k,m⟩
 |exit d=>
  obtain rfl:x=.exit d:=n;show Exit.inBlock id _ _ _ _;unfold Exit.inBlock;simp only[BloY]at k;by_cases q:d=id
  .subst q;rw[Vx,Vk]at k;simp only[if_true];exact⟨.normal,b,H',j,i,σ',f,l,rfl,k,m⟩
  .have p:Nat.beq d id=false:=by
    cases e:Nat.beq d id with
    |false=>rfl
    |true=>exact absurd (XO e) q
   rw[p,Vl]at k;simp only[q,if_false];exact⟨.exit d,b,H',j,i,σ',f,l,rfl,k,m⟩
 |ret=>
  obtain rfl:x=.ret:=n;exact⟨_,b,H',j,i,σ',f,l,rfl,k,m⟩
 |_=>exact n.elim
end
section
variable {T:Type} {X:Ctx T} {P:Program} {h0 N:Nat} {c:Code} {env:Env} {H:Qc} {st:YSt T} {Q:Ym T}
def Qh7(I:Env->Qc->YSt T->Prop)(Q:Ym T):Ym T
 |.normal,env,H,st=>I env H st
 |.exit id,env,H,st=>Q (.exit id) env H st
 |.ret,env,H,st=>Q .ret env H st
theorem QeG{I:Nat->Env->Qc->YSt T->Prop}(body:∀n env H st,I n env H st->TCy X P h0 N c env H st (Qh7 (λenv H st=>∃n',n'<n/\I n' env H st) Q)){n:Nat}(F:I n env H st):TCy X P h0 N (.loop c) env H st Q:=by
 intro hX W B z σ a w g r hj hrd b k cs hro hb hr;have J:∀m n env H st fr1 ro1 σ1 a1 w1 g1,n<m->I n env H st->Rel fr1 ro1 σ1 H env N a1 w1->(∀b,z b->ro1 b)->w.heap.size<=w1.heap.size->σ1.take h0=σ.take h0->Grow B w a.defers fr1 a1.defers->X.at st g1 ro1 w1/\In g1 fr1 a1.defers->
   ∃e h i,Qcl X h0 B z σ w N a.defers Q e h i/\ArrivesIn (Machine.fenced P (WF W)) P (lone (b.atR a1 (.code c::.inLoop c::k)) cs w1) b k cs e h i:=by
  intro m
  induction m with
  |zero=>intro n env H st fr1 ro1 σ1 a1 w1 g1 hn;exact absurd hn (Xk _)
  |succ m ih=>
   intro n env H st fr1 ro1 σ1 a1 w1 g1 hn F r1 s1 z1 t1 gr1 j1;obtain⟨e,h,i,E,d⟩:=body n env H st F hX W fr1 ro1 σ1 a1 w1 g1 r1 j1 hrd b (.inLoop c::k) cs hro hb hr;obtain⟨x,f,H',j,u,σ',t,O,y,p,R,q4,q5,V,Y,q8⟩:=E;have M:=λb q=>q5 b (s1 b q);have s:=gr1.trans z1 q8;have L:∀x,Q x f H' j->ExR e x->Qcl X h0 B z σ w N a.defers Q e h i:=λx q q'=>⟨x,f,H',j,u,σ',t,O,q',q,R,q4,M,XT z1 V,Y.trans t1,s⟩;cases e with
   |normal=>
    obtain rfl:x=.normal:=y;obtain⟨n',aa,p⟩:=p;obtain⟨e2,a2,w2,G,l⟩:=ih n' f H' j t u σ' h i O (by omega) p R M (XT z1 V) (Y.trans t1) s q4;exact⟨e2,a2,w2,G,.of_steps (StepsIn.trans d (.one (fenced_calm hb hr rfl) stepR_inLoop)) l⟩
   |exit id=>
    obtain rfl:x=.exit id:=y;exact⟨_,h,i,L _ p rfl,.pass (x:=.inLoop c) rfl (λ_ _=>.inl (by simp)) d⟩
   |ret=>
    obtain rfl:x=.ret:=y;exact⟨_,h,i,L _ p rfl,.pass (x:=.inLoop c) rfl (λ_ _=>.inl (by simp)) d⟩
   |_=>exact y.elim
 obtain⟨e,h,i,E,d⟩:=J (n+1) n env H st B z σ a w g (Xl _) F r (λ_ q=>q) (XR _) rfl (Grow.refl _ _ _) hj;exact⟨e,h,i,E,.of_steps (.one (fenced_calm hb hr rfl) stepR_loop) d⟩
end
end Go.Sw
namespace Go.Sw
theorem Sim.part{fr ro:Nat->Prop}{σ:Sig}{H:Qc}{w:World}(r:Sim fr ro σ H w){π:List Nat}{Hc:Qc}(hH:π.map (λp=>H[p]?)=(Hc.map (QN (rho π H.length))).map some)(hπ:π.Nodup):
  Sim (λb=>fr b\/(∃i x,σ[i]?=some (some b)/\H[i]?=some x/\x.live=true/\i∉π)\/ ∃i x d,σ[i]?=some (some d)/\H[i]?=some x/\Hid w x d b/\i∉π) ro (Q2 σ π) Hc w/\ ∀j:Nat,σ[rho π H.length j]?=(Q2 σ π)[j]? :=by
 have hp:∀p∈π,p<H.length:=λp q=>YS hH q;have hσl:=r.len;have m:∀(j p:Nat),π[j]?=some p->H[p]?=(Hc[j]?).map (QN (rho π H.length)):=by
  intro j p a;have:=congrArg (λl=>l[j]?) hH;simp only[Xn,a,Xh]at this;cases e:Hc[j]? with
  |none=>rw[e]at this;simp at this
  |some x=>rw[e]at this;simpa using this
 have P:π.length=Hc.length:=by simpa using congrArg List.length hH
 have hσc:∀j:Nat,σ[rho π H.length j]?=(Q2 σ π)[j]? :=by
  intro j;have:=Qc9 (τ:=[]) hσl hp j;simpa using this
 have hπj:∀(j b:Nat),(Q2 σ π)[j]?=some (some b)->∃p,π[j]?=some p/\σ[p]?=some (some b):=by
  intro j b a;simp only[Q2,Xn]at a;cases e:π[j]? with
  |none=>rw[e]at a;simp at a
  |some p=>
   rw[e]at a;simp at a;refine⟨p,rfl,?_⟩;cases t:σ[p]? with
   |none=>rw[t]at a;simp at a
   |some s=>rw[t]at a;simp at a;rw[a]
 refine⟨?_,hσc⟩
 .refine⟨by simp[Q2,P],r.roOk,?_,?_,?_,?_,?_,?_⟩
  .rintro b (M|⟨i,x,f,n,h,R⟩|⟨i,x,d,f,n,h,R⟩)
   .exact r.frLt b M
   .exact(r.own i b x f n h).1
   .exact(r.hid i d x b f n h).lt
  .rintro b M (N|⟨i,x,f,n,h,R⟩|⟨i,x,d,f,n,h,R⟩)
   .exact r.roFr b M N
   .exact(r.own i b x f n h).2.1 M
   .exact(r.hid i d x b f n h).ro M
  .intro j b x f n h;obtain⟨p,g,t⟩:=hπj j b f;have F:H[p]?=some (QN (rho π H.length) x):=by rw[m j p g,n];rfl
   obtain⟨o1,o2,o3⟩:=r.own p b _ t F (by rw[QE];exact h);refine⟨o1,o2,?_⟩;rintro(N|⟨i,y,y1,y2,J,Q⟩|⟨i,y,d,y1,y2,J,Q⟩)
   .exact o3 N
   .have:=r.inj i p b _ _ y1 t y2 F J (by rw[QE];exact h);subst this;exact Q (Vz g)
   .exact(r.hid i d y b y1 y2 J).ne p b _ t F (by rw[QE];exact h) rfl
  .intro i j b x y f n h R q5 q6;obtain⟨p,g,t⟩:=hπj i b f;obtain⟨B,u,X⟩:=hπj j b n;have F:H[p]?=some (QN (rho π H.length) x):=by rw[m i p g,h];rfl
   have Y:H[B]?=some (QN (rho π H.length) y):=by rw[m j B u,R];rfl
   have:=r.inj p B b _ _ t X F Y (by rw[QE];exact q5) (by rw[QE];exact q6);subst this;have G:i<π.length:=by
    rcases Vu i π.length with q|q
    .exact q
    .rw[XM q]at g;simp at g
   have a:j<π.length:=by
    rcases Vu j π.length with q|q
    .exact q
    .rw[XM q]at u;simp at u
   rw[XI G]at g;rw[XI a]at u;have z:=(XV g).trans (XV u).symm;rcases Nat.lt_trichotomy i j with q|q|q
   .exact(Vw.1 hπ i j G a q z).elim
   .exact q
   .exact(Vw.1 hπ j i a G q z.symm).elim
  .intro j s x f n;have a:j<π.length:=by
    rcases Vu j π.length with q|q
    .exact q
    .rw[XM (by simpa[Q2]using q)]at f;simp at f
   have g:π[j]?=some π[j]:=XI a;have F:H[π[j]]?=some (QN (rho π H.length) x):=by rw[m j _ g,n];rfl
   have t:σ[π[j]]?=some s:=by
    have:=hσc j;rw[f]at this;simpa[rho,g]using this
   exact(Qfr hσc).1 (r.blk _ s _ t F)
  .intro j b x c f n h;obtain⟨p,g,t⟩:=hπj j b f;have F:H[p]?=some (QN (rho π H.length) x):=by rw[m j p g,n];rfl
   have k:=r.hid p b _ c t F ((Qai _ _ _ _ _).2 h);refine⟨k.lt,k.ro,?_,?_,?_⟩
   .rintro(N|⟨i,y,y1,y2,J,Q⟩|⟨i,y,d,y1,y2,J,Q⟩)
    .exact k.fr N
    .exact k.ne i c y y1 y2 J rfl
    .obtain⟨rfl,rfl⟩:=k.one i d y y1 y2 J;exact Q (Vz g)
   .intro E O y W z2 T;obtain⟨B,L,V⟩:=hπj E O W;exact k.ne B O _ V (show H[B]?=some (QN (rho π H.length) y)by rw[m E B L,z2];rfl) (by rw[QE];exact T)
   .intro E O y W z2 T;obtain⟨B,L,V⟩:=hπj E O W;obtain⟨z4,z5⟩:=k.one B O _ V (show H[B]?=some (QN (rho π H.length) y)by rw[m E B L,z2];rfl) ((Qai _ _ _ _ _).2 T);subst z5;have G:E<π.length:=(XJ.1 L).1;have a:j<π.length:=(XJ.1 g).1;rw[XI G]at L;rw[XI a]at g;have z:=(XV L).trans (XV g).symm;refine⟨z4,?_⟩;rcases Nat.lt_trichotomy E j with q|q|q
    .exact(Vw.1 hπ E j G a q z).elim
    .exact q
    .exact(Vw.1 hπ j E a G q z.symm).elim
theorem Sim.frames{fr fr' ro:Nat->Prop}{σ:Sig}{H:Qc}{w:World}(s:Sim fr ro σ H w)(lt:∀b,fr' b->b<w.heap.size)(hro:∀b,ro b->¬fr' b)(own:∀(i b:Nat) (x:Blk),σ[i]?=some (some b)->H[i]?=some x->x.live=true->¬fr' b)
  (hd:∀(i b:Nat) (x:Blk) (c:Nat),σ[i]?=some (some b)->H[i]?=some x->Hid w x b c->¬fr' c):Sim fr' ro σ H w:=
 ⟨s.len,s.roOk,lt,hro,λi b x q1 q2 q3=>⟨(s.own i b x q1 q2 q3).1,(s.own i b x q1 q2 q3).2.1,own i b x q1 q2 q3⟩,s.inj,s.blk,
  s.hidTo (· = ·) QP (XR _) (λ_ _ _ _ _ _ _ q=>q) (λi b x c q1 q2 q3 q4=>(hd i b x c q1 q2 q3 q4).elim) λj d y g1 g2 g3=>.inl ⟨j,y,rfl,g1,g2,id,λ_ q=>q⟩⟩
def Qhb(H:Qc)(p:Nat):Qc:=match H[p]? with
 |some x=>bif x.holds then H.set p .dead else H
 |none=>H
def QcQ:Qc->List Nat->Qc
 |H,[]=>H
 |H,p::π=>QcQ (Qhb H p) π
theorem QcR(H:Qc)(p:Nat):(Qhb H p=H/\ ∀x,H[p]?=some x->x.holds=false)\/Qhb H p=H.set p .dead:=by
 unfold Qhb;cases h:H[p]? with
 |none=>exact .inl ⟨rfl,λx q=>by cases q⟩
 |some x=>
  cases q:x.holds with
  |false=>exact .inl ⟨by simp[q],λy a=>by cases a;exact q⟩
  |true=>exact .inr (by simp[q])
theorem Qdy:∀(π:List Nat) (H:Qc) (i:Nat) (x:Blk),(QcQ H π)[i]?=some x->x=.dead\/(H[i]?=some x/\(x.holds=true->i∉π))
 |[],H,i,x,h=>.inr ⟨h,λ_=>by simp⟩
 |p::π,H,i,x,h=>by
  rcases Qdy π _ i x h with h|⟨h1,h2⟩
  .exact .inl h
  .rcases QcR H p with⟨e,hl⟩|e
   .rw[e]at h1;refine .inr ⟨h1,λhx=>?_⟩;simp only[X2,not_or];refine⟨λq=>?_,h2 hx⟩;subst q;have:=hl x h1;rw[this]at hx;cases hx
   .rw[e]at h1;by_cases q:p=i
    .subst q;rw[Xb]at h1;simp at h1;exact .inl h1.2.symm
    .rw[XN q]at h1;exact .inr ⟨h1,λhx=>by simp only[X2,not_or];exact⟨λr=>q r.symm,h2 hx⟩⟩
theorem QcF{fr ro:Nat->Prop}{σ:Sig}{w:World}:∀(π:List Nat) {H:Qc} (s:Sim fr ro σ H w),Sim fr ro σ (QcQ H π) w
 |[],_,s=>s
 |p::π,H,s=>by
  rw[QcQ];rcases QcR H p with h|h
  .rw[h.1];exact QcF π s
  .rw[h];exact QcF π (s.kill p)
theorem Sim.put{fr ro:Nat->Prop}{σ:Sig}{H:Qc}{w:World}(s:Sim fr ro σ H w){b:Nat}{obj:Obj}(l:fr b)(r:w.shape? b=none):
  Sim fr ro σ H (w.putObj b obj)/\Qg (λc=>c≠b) ro w ro (w.putObj b obj):=by
 have a:∀c,c≠b->(w.putObj b obj).heap[c]?=w.heap[c]? :=λc B=>World.putObj_heap_other B;have f:(w.putObj b obj).heap.size=w.heap.size:=by simp
 have n:∀c,ro c->c≠b:=λc q e=>s.roFr c q (e▸l);have ev:Qg (λc=>c≠b) ro w ro (w.putObj b obj):=by
  refine⟨λ_ q=>q,λc q=>a c (n c q),λc q=>a c q,by rw[f];exact XR _,λc x q=>?_,rfl,rfl,rfl,XR _⟩;by_cases e:c=b
  .subst e;rw[r]at q;cases q
  .unfold World.shape? at q⊢;rw[a c e];exact q
 have k:Ext ro σ w ro σ (w.putObj b obj):=by have:=ev.ext σ [];simpa using this
 refine⟨⟨s.len,s.roOk.to (λ_ q=>q) ev.keepRo (λc q=>by rw[f];exact s.roLt c q),λc q=>by rw[f];exact s.frLt c q,s.roFr,λi c x g h E=>?_,s.inj,λi y x g h=>?_,
  s.hidTo (· = ·) QP (by rw[f];exact XR _) (λ_ _ _ _ _ _ _ q=>q) (λ_ _ _ _ _ _ _ q=>q) λj d y m t J=>.inl ⟨j,y,rfl,m,t,id,λc q=>s.hidKeep m t (λz=>a d (λe=>(s.own j d y m t z).2.2 (e▸l))) ev.keepRo q⟩⟩,ev⟩
 .obtain⟨u,G,F⟩:=s.own i c x g h E;exact⟨by rw[f];exact u,G,F⟩
 .refine(s.blk i y x g h).keep k ?_ ?_
  .rintro c rfl p;exact a c (λe=>(s.own i c x g h p).2.2 (e▸l))
  .rintro d c rfl p;exact a c (λe=>(s.hid i d x c g h p).fr (e▸l))
theorem Qa7{w:World}{l:Nat}{r:Loop}(h:w.heap[l]?=some (.loop r)):w.shape? l=none:=by
 unfold World.shape?;rw[h]
structure Fix where
 fr:Nat->Prop
 ro:Nat->Prop
 σ:Sig
 w:World
 h1:Nat
 env:Env
 tmps:Array Value
 ds1:List Deferred
 l:Nat
 rc:LoopState->Option Code->Loop
 fr1:Nat->Prop
structure Fix.Ok (D:Fix):Prop where
 sub:∀b,D.fr b->D.fr1 b
 l1:D.fr1 D.l
 lf:¬D.fr D.l
 len:D.σ.length=D.h1
structure RJ (D:Fix) (ro1:Nat->Prop) (σ1:Sig) (H:Qc) (st:LoopState) (pe:Option Code) (q g:Nat->Prop) (W:World):Prop where
 sim:Sim D.fr1 ro1 σ1 H W
 env:∀t,VR ro1 D.σ W (lk D.env t) (D.tmps.getD t undef)
 sig:σ1.take D.h1=D.σ
 ev:Qg D.fr D.ro D.w ro1 W
 marks:Qcm D.fr1 D.ds1 W
 rc:W.heap[D.l]?=some (.loop (D.rc st pe))
 roG:∀b,ro1 b->q b\/g b
 frG:∀b,D.fr1 b->g b
 own:∀(i b:Nat) (x:Blk),σ1[i]?=some (some b)->H[i]?=some x->x.live=true->g b
 hidG:∀(i b:Nat) (x:Blk) (c:Nat),σ1[i]?=some (some b)->H[i]?=some x->Hid W x b c->g c
 lt:∀b,g b->b<W.heap.size
theorem QcL{σ σ1:Sig}{a:Nat}(h:σ1.take a=σ){i b:Nat}(q:σ[i]?=some (some b)):σ1[i]?=some (some b):=by
 subst h;rw[List.getElem?_take]at q;split at q
 .exact q
 .cases q
section
variable {D:Fix} {ro1:Nat->Prop} {σ1:Sig} {H:Qc} {st:LoopState} {pe:Option Code} {qR g:Nat->Prop} {W:World}
theorem RJ.step(r:D.Ok)(j:RJ D ro1 σ1 H st pe qR g W){ro':Nat->Prop}{W':World}(e:Qg g qR W ro' W'):RJ D ro1 σ1 H st pe qR g W':=by
 have h:∀b,ro1 b->W'.heap[b]?=W.heap[b]? :=λb q=>(j.roG b q).elim (e.keepRo b) (e.keepFr b);have ev:Qg D.fr1 ro1 W ro1 W':=⟨λ_ q=>q,h,λb q=>e.keepFr b (j.frG b q),e.size,e.shape,e.os,e.tape,e.output,e.drawn⟩;have k:∀σ,Ext ro1 σ W ro1 σ W':=λ σ=>by have:=ev.ext σ [];simpa using this
 refine⟨⟨j.sim.len,j.sim.roOk.to (λ_ q=>q) h (λb q=>Vb (j.sim.roLt b q) e.size),λb q=>Vb (j.sim.frLt b q) e.size,j.sim.roFr,λi b x f a l=>?_,j.sim.inj,λi z x f a=>?_,
  j.sim.hidTo (· = ·) QP e.size (λ_ _ _ _ _ _ _ q=>q) (λ_ _ _ _ _ _ _ q=>q) λi d y m p w=>.inl ⟨i,y,rfl,m,p,id,λc q=>j.sim.hidKeep m p (λz=>e.keepFr d (j.own i d y m p z)) h q⟩⟩,
  λt=>(j.env t).mono (k _),j.sig,j.ev.trans (ev.frMono r.sub),j.marks.keep ev,(ev.keepFr _ r.l1).trans j.rc,j.roG,j.frG,j.own,λi b x c f a l=>j.hidG i b x c f a (j.sim.hidKeep f a (λz=>e.keepFr b (j.own i b x f a z)) h l),λb q=>Vb (j.lt b q) e.size⟩
 .obtain⟨s,u⟩:=j.sim.own i b x f a l;exact⟨Vb s e.size,u⟩
 .refine(j.sim.blk i z x f a).keep (k _) ?_ ?_
  .rintro b rfl n;exact e.keepFr b (j.own i b x f a n)
  .rintro b c rfl n;exact e.keepFr c (j.hidG i b x c f a n)
theorem RJ.up{g':Nat->Prop}(j:RJ D ro1 σ1 H st pe qR g W)(h:∀b,g b->g' b)(hl:∀b,g' b->b<W.heap.size):RJ D ro1 σ1 H st pe qR g' W:=
 {j with roG:=λb q=>(j.roG b q).imp id (h b),frG:=λb q=>h b (j.frG b q),own:=λi b x q1 q2 q3=>h b (j.own i b x q1 q2 q3),hidG:=λi b x c q1 q2 q3=>h c (j.hidG i b x c q1 q2 q3),lt:=hl}
def FrB(D:Fix)(ro1 g:Nat->Prop)(W:World):Nat->Prop:=λb=>(D.fr1 b\/(¬g b/\ ¬ro1 b))/\b<W.heap.size
theorem RJ.simB(j:RJ D ro1 σ1 H st pe qR g W):Sim (FrB D ro1 g W) ro1 σ1 H W:=by
 refine j.sim.frames (λb q=>q.2) (λb q r=>?_) (λi b x d a e r=>?_) (λi b x c d a e r=>r.1.elim (j.sim.hid i b x c d a e).fr λr=>r.1 (j.hidG i b x c d a e))
 .rcases r.1 with r|r
  .exact j.sim.roFr b q r
  .exact r.2 q
 .rcases r.1 with r|r
  .exact(j.sim.own i b x d a e).2.2 r
  .exact r.1 (j.own i b x d a e)
theorem RJ.fin(F:D.Ok)(j:RJ D ro1 σ1 H st pe qR g W){w ro':Nat->Prop}{σ':Sig}{H':Qc}{W':World}{st':LoopState}{pe':Option Code}
  (ev:Qg (λb=>FrB D ro1 g W b/\b≠D.l) ro1 W ro' W')(s:Sim w ro' σ' H' W')(u:∀b,FrB D ro1 g W b->w b)(hσ:σ'.take D.h1=σ1.take D.h1)(Q:W'.heap[D.l]?=some (.loop (D.rc st' pe'))):
  RJ D ro' σ' H' st' pe' qR (λb=>g b\/(W.heap.size<=b/\b<W'.heap.size)) W'/\QdS g (λb=>g b\/(W.heap.size<=b/\b<W'.heap.size)) W W':=by
 have n:∀b,D.fr1 b->FrB D ro1 g W b:=λb q=>⟨.inl q,j.sim.frLt b q⟩;have M:W.shape? D.l=none:=Qa7 j.rc;have z:Qg D.fr ro1 W ro' W':=ev.frMono λb q=>⟨n b (F.sub b q),λe=>F.lf (e▸q)⟩;have y:Ext ro1 D.σ W ro' D.σ W':=ev.ext0 D.σ;have G:∀b,b<W.heap.size->b<W'.heap.size:=λb q=>Vb q ev.size;have m:∀b,b<W.heap.size->¬FrB D ro1 g W b->g b\/ro1 b:=by
  intro b h R;by_cases f:g b
  .exact .inl f
  .by_cases a:ro1 b
   .exact .inr a
   .exact absurd ⟨.inr ⟨f,a⟩,h⟩ R
 refine⟨⟨s.frames (λb q=>G b (j.sim.frLt b q)) (λb q r=>s.roFr b q (u b (n b r))) (λi b x f a p r=>(s.own i b x f a p).2.2 (u b (n b r))) (λi b x c f a p r=>(s.hid i b x c f a p).fr (u c (n c r))),
  λt=>(j.env t).mono y,hσ.trans j.sig,j.ev.trans z,⟨j.marks.1,λd P=>?_⟩,Q,λb q=>?_,λb q=>.inl (j.frG b q),λi b x f a p=>?_,λi b x c f a p=>?_,λb q=>q.elim (λq=>G b (j.lt b q)) (λq=>q.2)⟩,
  ⟨λb q=>.inl q,λb q=>q.imp id (λq=>q.1),λb q=>q.elim (λq=>G b (j.lt b q)) (λq=>q.2),λb f a=>.inr ⟨f,a⟩,λb f a=>?_,ev.size,ev.shape,ev.os,ev.tape,ev.output,ev.drawn⟩⟩
 .obtain⟨B,N,J,E⟩:=j.marks.2 d P;refine⟨B,N,J,(ev.keepFr B ⟨n B J,λe=>?_⟩).trans E⟩;subst e;rw[j.rc]at E;cases E
 .rcases Vu b W.heap.size with h|h
  .rcases m b h (λr=>s.roFr b q (u b r))with r|r
   .exact .inr (.inl r)
   .exact(j.roG b r).imp id .inl
  .exact .inr (.inr ⟨h,s.roLt b q⟩)
 .obtain⟨L,O,T⟩:=s.own i b x f a p;rcases Vu b W.heap.size with h|h
  .rcases m b h (λr=>T (u b r))with r|r
   .exact .inl r
   .exact absurd (ev.sub b r) O
  .exact .inr ⟨h,L⟩
 .have k:=s.hid i b x c f a p;rcases Vu c W.heap.size with h|h
  .rcases m c h (λr=>k.fr (u c r))with r|r
   .exact .inl r
   .exact absurd (ev.sub c r) k.ro
  .exact .inr ⟨h,k.lt⟩
 .by_cases r:ro1 b
  .exact ev.keepRo b r
  .exact ev.keepFr b ⟨⟨.inr ⟨a,r⟩,f⟩,λe=>a (j.frG b (e▸F.l1))⟩
end
theorem Sim.roAdd{fr ro f:Nat->Prop}{σ:Sig}{H:Qc}{w:World}(s:Sim fr ro σ H w)(m:∀b,f b->b<w.heap.size)(l:∀b,f b->¬fr b)(g:∀(i b:Nat) (x:Blk),σ[i]?=some (some b)->H[i]?=some x->x.live=true->¬f b)
  (h:∀(i b:Nat) (x:Blk) (c:Nat),σ[i]?=some (some b)->H[i]?=some x->Hid w x b c->¬f c):Sim fr (λb=>ro b\/f b) σ H w:=by
 have ext:Ext ro σ w (λb=>ro b\/f b) σ w:=⟨λ_ q=>.inl q,λ_ _=>rfl,λ_ _ q=>q,λ_ _ q=>q⟩;refine⟨s.len,s.roOk.to (λ_ q=>.inl q) (λ_ _=>rfl) (λb q=>q.elim (s.roLt b) (m b)),s.frLt,λb q=>q.elim (s.roFr b) (l b),λi b x e a k=>?_,s.inj,λi y x e a=>(s.blk i y x e a).keep ext (λ_ _ _=>rfl) (λ_ _ _ _=>rfl),
  s.hidTo (· = ·) QP (XR _) (λi b x c e a k r=>r.elim id λq=>(h i b x c e a k q).elim) (λ_ _ _ _ _ _ _ q=>q) λj d y p z B=>.inl ⟨j,y,rfl,p,z,id,λ_ q=>q⟩⟩
 obtain⟨n,u,t⟩:=s.own i b x e a k;exact⟨n,λq=>q.elim u (g i b x e a k),t⟩
theorem RJ.roAdd{D:Fix}{ro1:Nat->Prop}{σ1:Sig}{H:Qc}{st:LoopState}{pe:Option Code}{qR ri g:Nat->Prop}{W:World}(j:RJ D ro1 σ1 H st pe qR g W)(hq:∀b,qR b->ri b)(hI:∀b,ri b->b<W.heap.size/\ ¬g b):RJ D (λb=>ro1 b\/ri b) σ1 H st pe ri g W:=
 {j with
  sim:=j.sim.roAdd (λb q=>(hI b q).1) (λb q z=>(hI b q).2 (j.frG b z)) (λi b x q1 q2 q3 z=>(hI b z).2 (j.own i b x q1 q2 q3)) (λi b x c q1 q2 q3 z=>(hI c z).2 (j.hidG i b x c q1 q2 q3))
  env:=λt=>(j.env t).mono ⟨λ_ q=>.inl q,λ_ _=>rfl,λ_ _ q=>q,λ_ _ q=>q⟩
  ev:=j.ev.trans (Yy λ_ q=>.inl q)
  roG:=λb q=>q.elim (λq=>(j.roG b q).imp (hq b) id) .inl}
def Qih:List Nat->List A->Env->Env
 |p::ps,a::zs,env=>Qih ps zs (up env p a)
 |_,_,env=>env
def Qgl:List Nat->List Value->Array Value->Array Value
 |p::ps,v::vs,t=>Qgl ps vs (t.setIfInBounds p v)
 |_,_,t=>t
theorem Qef:∀(ps:List Nat) (vs:List Value) (t:Array Value),(Qgl ps vs t).size=t.size
 |[],_,_=>rfl
 |_::_,[],_=>rfl
 |p::ps,v::vs,t=>by simp[Qgl,Qef ps]
theorem Qeg:∀(ps:List Nat) (vs:List Value) (t:Array Value),(ps.toArray.zip vs.toArray).foldl (λt (p,v)=>t.setIfInBounds p v) t=Qgl ps vs t
 |[],vs,t=>by rw[<- Array.foldl_toList,Array.toList_zip];rfl
 |p::ps,[],t=>by rw[<- Array.foldl_toList,Array.toList_zip];rfl
 |p::ps,v::vs,t=>by
  have:=Qeg ps vs (t.setIfInBounds p v);rw[<- Array.foldl_toList,Array.toList_zip]at this⊢;exact this
theorem Qg1{ro:Nat->Prop}{σ:Sig}{w:World}:∀(ps:List Nat) (zs:List A) (vs:List Value) (env:Env) (t:Array Value),LR ro σ w zs vs->(∀p∈ps,p<t.size)->(∀s,VR ro σ w (lk env s) (t.getD s undef))->
  ∀s,VR ro σ w (lk (Qih ps zs env) s) ((Qgl ps vs t).getD s undef)
 |[],_,_,_,_,_,_,h=>h
 |p::ps,[],vs,_,_,hv,_,h=>by
  obtain rfl:vs=[]:=hv;exact h
 |p::ps,a::zs,vs,env,t,hv,hp,h=>by
  obtain⟨v,vs',rfl,h0,hv'⟩:=hv;have h1:=VR.up (fr:=λ_=>False) (a:={tmps:=t,defers:=[]}) h (hp p (by simp)) h0;exact Qg1 ps zs vs' (up env p a) (t.setIfInBounds p v) hv' (λq hq=>by simpa using hp q (by simp[hq])) h1
def QgK(h1:Nat)(env:Env)(Q:Qv)(K:Qc->Prop):Qv
 |.normal,env',H'=>∃H2,Le h1 env' H' [] H2/\K H2
 |.exit id,env',H'=>∃H2,Le h1 env' H' [] H2/\Q (.exit id) env H2
 |.ret,env',H'=>∃H2,Le h1 env' H' [] H2/\Q .ret env H2
def Jump(Q:Qv)(env:Env)(c:Code)(H:Qc):Prop:=(∃id,c=.exit id/\Q (.exit id) env H)\/(c=.ret/\Q .ret env H)
section
variable {D:Fix} {ro0:Nat->Prop} {σ1:Sig} {H:Qc} {qR ri g:Nat->Prop} {W:World} {P:Program} {N:Nat} {Q:Qv} {K:Qc->Prop}
theorem RJ.round{fn:FuncId}{ps:List Nat}{assign body:Code}{df:Nat}{cs:List A}{vs:List Value}(hD:D.Ok)(u:D.rc=λst pe=>{state:=st,pending:=pe,fn:=fn,tmps:=D.tmps,params:=ps.toArray,assign:=assign,body:=body,defers:=df})
  (hN:D.tmps.size=N)(aj:∀p∈ps,p<N)(Y:cs.length=ps.length)(hq:∀b,qR b->ri b)(hI:∀b,ri b->b<W.heap.size/\ ¬g b)(ac:LR ri [] W cs vs)(j0:RJ D ro0 σ1 H .ready none qR g W)
  (h:TC P D.h1 N assign (Qih ps cs D.env) H λe env1 H1=>e=.normal/\TC P D.h1 N body env1 H1 (QgK D.h1 D.env Q K)):
  YieldAt Fence.wide 0 P D.l vs.toArray W λe W'=>∃g',QdS g g' W W'/\((e=.returned (.bool true)/\ ∃H2 ro2 σ2,K H2/\RJ D ro2 σ2 H2 .ready none ri g' W')\/
   (e=.returned (.bool false)/\ ∃H2 c ro2 σ2,Jump Q D.env c H2/\RJ D ro2 σ2 H2 .done (some c) ri g' W')):=by
 have am:vs.length=cs.length:=ac.length;have j:=j0.roAdd hq hI;have y:LR (λb=>ro0 b\/ri b) σ1 W cs vs:=ac.mono ⟨λ_ q=>.inr q,λ_ _=>rfl,λ_ _ q=>q,λi b q=>by simp at q⟩;clear j0;generalize(λb=>ro0 b\/ri b)=ro1 at j y;have ai:∀b,D.fr1 b->FrB D ro1 g W b:=λb q=>⟨.inl q,j.sim.frLt b q⟩;have t:=ai _ hD.l1;have G:=j.rc;have hy:=run_yield (P:=P) (r:=D.rc .ready none) (args:=vs.toArray) G (by rw[u];simp[am,Y]);refine⟨fn,Qgl ps vs D.tmps,assign,body,?_,?_⟩
 .rw[hy,u];simp only[];rw[<- Qeg]
 .refine roundIn_of_wpIn trivial ?_;show Code.wpIn (WF (some D.l)) 0 P _ _ _ _;have M:∀s,VR ro1 σ1 W (lk D.env s) (D.tmps.getD s undef):=λs=>(j.env s).mono ⟨λ_ q=>q,λ_ _=>rfl,λ_ _ q=>q,λi b q=>QcL j.sig q⟩;have al:Qc7 (some D.l) (FrB D ro1 g W) W:=λl e=>by cases e;exact⟨t,_,G⟩
  have w1:=h (some D.l) (FrB D ro1 g W) ro1 σ1 {tmps:=Qgl ps vs D.tmps,defers:=[]} W ⟨j.simB,Qg1 ps cs vs D.env D.tmps y (by rw[hN];exact aj) M,by simp[Qef,hN],List.nodup_nil,λd hd=>by cases hd⟩ al;refine Code.wpIn_mono ?_ w1;rintro e a1 w1 ⟨x1,env1,H1,ro2,σ2,n,h1,⟨rfl,h2⟩,O,h4,h5,h6⟩;cases e with
  |normal=>
   have k:w1.heap[D.l]?=some (.loop (D.rc .ready none)):=(h4.keepFr _ t).trans G;refine⟨_,run_beginRound k (by rw[u]),?_⟩;obtain⟨s2,F⟩:=O.sim.put (obj:=.loop {D.rc .ready none with state:=.busy}) (h6.sub _ t) (Qa7 k);have aa:D.l<w1.heap.size:=by rw[X8]at k;exact k.1
   have ab:(w1.putObj D.l (.loop {D.rc .ready none with state:=.busy})).heap[D.l]?=some (.loop {D.rc .ready none with state:=.busy}):=World.putObj_heap_same aa;generalize hw2:w1.putObj D.l (.loop {D.rc .ready none with state:=.busy})=w2 at*;have af:Qcm n a1.defers w2:=by
    refine⟨O.defers.1,λd hd=>?_⟩;obtain⟨B,e1,e2,T⟩:=O.defers.2 d hd;refine⟨B,e1,e2,(F.keepFr B (λe=>?_)).trans T⟩;subst e;rw[k]at T;cases T
   have r2:Rel n ro2 σ2 H1 env1 N a1 w2:=⟨s2,λs=>(O.env s).mono (F.ext0 σ2),O.size,af⟩;have z:n D.l:=h6.sub _ t;refine Code.wpIn_mono ?_ (h2 (some D.l) n ro2 σ2 a1 w2 r2 (λl e=>by cases e;exact⟨z,_,ab⟩));rintro e a3 w3 ⟨x3,ae,H3,E,σ3,V,g1,g2,g3,g4,g5,g6⟩;have m:w3.heap[D.l]?=some (.loop {D.rc .ready none with state:=.busy}):=(g4.keepFr _ z).trans ab;have J:∀(H2:Qc) (jump:Option Code),Le D.h1 ae H3 [] H2->∃v x,(Instr.endRound D.l jump).run P w3=.ok v x/\v=.bool jump.isNone/\ ∃g',QdS g g' W x/\ ∃a σ4,RJ D a σ4 H2 (if jump.isNone then .ready else .done) jump ri g' x:=by
    intro H2 jump f;obtain⟨a,σ4,r4,s4,t4⟩:=f V E σ3 N a3 w3 g3;refine⟨_,_,run_endRound jump m,rfl,?_⟩;have ah:V D.l:=g6.sub _ z;obtain⟨s5,ag⟩:=r4.sim.put (obj:=.loop {{D.rc .ready none with state:=.busy}with state:=if jump.isNone then .ready else .done,pending:=jump}) ah (Qa7 m);have X:D.l<w3.heap.size:=by rw[X8]at m;exact m.1
    have ak:=World.putObj_heap_same (w:=w3) (r:=D.l) (o:=.loop {{D.rc .ready none with state:=.busy}with state:=if jump.isNone then .ready else .done,pending:=jump}) X;have e1:Qg (λb=>FrB D ro1 g W b/\b≠D.l) ro1 W ro2 w1:=h4.frMono λb q=>q.1;have e2:Qg (λb=>FrB D ro1 g W b/\b≠D.l) ro2 w1 ro2 w2:=F.frMono λb q=>q.2;have T:Qg (λb=>FrB D ro1 g W b/\b≠D.l) ro2 w2 E w3:=g4.frMono λb q=>h6.sub b q.1;have e4:Qg (λb=>FrB D ro1 g W b/\b≠D.l) E w3 a w3:=Yy s4;have e5:=(((e1.trans e2).trans T).trans e4).trans (ag.frMono λb (q:FrB D ro1 g W b/\b≠D.l)=>q.2);obtain⟨q1,q2⟩:=j.fin hD e5 s5 (λb q=>g6.sub b (h6.sub b q)) (by rw[t4,g5,h5]) (st':=if jump.isNone then .ready else .done) (pe':=jump) (by rw[ak,u]);exact⟨_,q2,a,σ4,q1⟩
   cases e with
   |normal=>
    obtain rfl:x3=.normal:=g1;obtain⟨H2,f,hK⟩:=g2;obtain⟨v,x,L,rfl,g',R,a,σ4,k3⟩:=J H2 none f;exact⟨_,x,L,g',R,.inl ⟨rfl,H2,a,σ4,hK,k3⟩⟩
   |exit id=>
    obtain rfl:x3=.exit id:=g1;obtain⟨H2,f,hK⟩:=g2;obtain⟨v,x,L,rfl,g',R,a,σ4,k3⟩:=J H2 (some (.exit id)) f;exact⟨_,x,L,g',R,.inr ⟨rfl,H2,_,a,σ4,.inl ⟨id,rfl,hK⟩,k3⟩⟩
   |ret=>
    obtain rfl:x3=.ret:=g1;obtain⟨H2,f,hK⟩:=g2;obtain⟨v,x,L,rfl,g',R,a,σ4,k3⟩:=J H2 (some .ret) f;exact⟨_,x,L,g',R,.inr ⟨rfl,H2,_,a,σ4,.inr ⟨rfl,hK⟩,k3⟩⟩
   |_=>exact g1.elim
  |exit id=>cases h1
  |ret=>cases h1
  |_=>exact h1.elim
end
theorem Sim.beside{fr ro:Nat->Prop}{σ:Sig}{H:Qc}{w w1:World}(s:Sim fr ro σ H w)(ev:Qg fr ro w ro w1)(a:∀b,b<w.heap.size->w1.heap[b]?=w.heap[b]?):Sim (λb=>fr b\/(w.heap.size<=b/\b<w1.heap.size)) ro σ H w1:=by
 have g:Ext ro σ w ro σ w1:=ev.ext0 σ;refine⟨s.len,s.roOk.to (λ_ q=>q) ev.keepRo (λb q=>Vb (s.roLt b q) ev.size),λb q=>q.elim (λq=>Vb (s.frLt b q) ev.size) (λq=>q.2),λb q r=>?_,λi b x f e h=>?_,s.inj,λi z x f e=>?_,
  s.hidTo (· = ·) QP ev.size (λ_ _ _ _ _ _ _ q=>q) (λi b x c f e h p=>p.elim id λq=>(by have:=(s.hid i b x c f e h).lt;omega)) λj d y k m B=>.inl ⟨j,y,rfl,k,m,id,λc q=>s.hidKeep k m (λz=>a d (s.own j d y k m z).1) ev.keepRo q⟩⟩
 .rcases r with r|r
  .exact s.roFr b q r
  .have:=s.roLt b q;omega
 .obtain⟨n,u,t⟩:=s.own i b x f e h;refine⟨Vb n ev.size,u,λr=>?_⟩;rcases r with r|r
  .exact t r
  .omega
 .refine(s.blk i z x f e).keep g ?_ ?_
  .rintro b rfl l;exact a b (s.own i b x f e l).1
  .rintro b c rfl l;exact a c (s.hid i b x c f e l).lt
theorem QbC{w:World}{o:Obj}{b:Nat}(a:b<w.heap.size):(w.alloc o).heap[b]?=w.heap[b]? :=by
 show(w.heap.push o)[b]?=_;rw[Array.getElem?_push,Vn (by omega)]
theorem QiZ{P:Program}{fn:FuncId}{tmps:Array Value}{ps:Array Tmp}{assign body:Code}{rd:Option Nat}{fr ro:Nat->Prop}{w:World}(g:Qc7 rd fr w)(i:∀b,ro b->b<w.heap.size)(k:∀b,fr b->b<w.heap.size):
  ∃l mark w1 df,(Instr.enterLoop fn tmps ps assign body rd).run P w=.ok (l,mark) w1/\w.heap.size<=l/\l<w1.heap.size/\w1.heap[l]?=some (.loop {state:=.ready,pending:=none,fn:=fn,tmps:=tmps,params:=ps,assign:=assign,body:=body,defers:=df})/\
   (∀b,b<w.heap.size->w1.heap[b]?=w.heap[b]?)/\mark.Nodup/\(∀d∈mark,∃D,d={target:=.collected D,args:= #[]}/\w.heap.size<=D/\D<w1.heap.size/\w1.heap[D]?=some (.deferred (some [])))/\Qg fr ro w ro w1:=by
 have e:∀w1:World,(∀b,b<w.heap.size->w1.heap[b]?=w.heap[b]?)->w.heap.size<=w1.heap.size->w1.os=w.os->w1.tape=w.tape->w1.output=w.output->w1.drawn=w.drawn->Qg fr ro w ro w1:=by
  intro w1 j r n t y u;refine⟨λ_ q=>q,λb q=>j b (i b q),λb q=>j b (k b q),r,λb x q=>?_,n,t,y,by rw[u];exact XR _⟩;have f:b<w.heap.size:=by
   rcases Vu b w.heap.size with z|z
   .exact z
   .unfold World.shape? at q;rw[Array.getElem?_eq_none (by simpa using z)]at q;cases q
  unfold World.shape? at q⊢;rw[j b f];exact q
 cases rd with
 |none=>
  have a:∀b,b<w.heap.size->((w.alloc (.deferred (some []))).alloc (.loop {state:=.ready,pending:=none,fn:=fn,tmps:=tmps,params:=ps,assign:=assign,body:=body,defers:=w.heap.size})).heap[b]?=w.heap[b]? :=λb f=>
   (QbC (by simp;omega)).trans (QbC f)
  refine⟨_,_,_,w.heap.size,run_enterLoop_outer fn tmps ps assign body,by omega,by simp,?_,a,by simp,?_,e _ a (by simp;omega) rfl rfl rfl rfl⟩
  .have:=World.alloc_heap_new (w.alloc (.deferred (some []))) (.loop {state:=.ready,pending:=none,fn:=fn,tmps:=tmps,params:=ps,assign:=assign,body:=body,defers:=w.heap.size})
   rwa [World.size_alloc]at this
  .intro d h;obtain rfl:=Vt.1 h;exact⟨_,rfl,XR _,by simp;omega,(QbC (by simp)).trans (World.alloc_heap_new w _)⟩
 |some p=>
  obtain⟨_,m,s⟩:=g p rfl;have a:∀b,b<w.heap.size->(w.alloc (.loop {state:=.ready,pending:=none,fn:=fn,tmps:=tmps,params:=ps,assign:=assign,body:=body,defers:=m.defers})).heap[b]?=w.heap[b]? :=λb f=>QbC f;exact⟨_,_,_,m.defers,run_enterLoop_inner s fn tmps ps assign body,XR _,by simp,World.alloc_heap_new w _,a,List.nodup_nil,(λd h=>absurd h List.not_mem_nil),e _ a (by simp) rfl rfl rfl rfl⟩
theorem TC.rangeFunc{P:Program}{h0 N:Nat}{ae:Operand}{ps:List Nat}{assign body:Code}{env:Env}{H:Qc}{Q:Qv}{f:FuncId}{ah ac:List A}{Hc:Qc}{T S:Type}{enc:T->List A}{nx:List T->T->List T->Prop}{xs:List T}
  (π:List Nat)(Hp:S->Qc)(V:S->List T->Prop)(s0:S)(hh:h0<=H.length)(hg:opA env ae=.fn (.func f) [] ah)(hargs:ah=Qaa (rho π H.length) ac)(hH:π.map (λp=>H[p]?)=(Hc.map (QN (rho π H.length))).map some)(hπ:π.Nodup)
  (bc:(ps.all λp=>Nat.blt p N)=true)(eg:∀args w,(callFunc f args).run P w=.ok (.enter f args) w)(au:Qff P f ac Hc enc nx xs)(aw:∀x,(enc x).length=ps.length)
  (ba:Le H.length env (QcQ H π) env (Hp s0))(hV:V s0 xs)
  (an:∀s l x rem,V s l->nx l x rem->TC P H.length N assign (Qih ps (enc x) env) (Hp s) λe env1 H1=>e=.normal/\TC P H.length N body env1 H1 (QgK H.length env Q λH2=>∃s',V s' rem/\H2=Hp s'))
  (am:∀s,V s []->Q .normal env (Hp s)):TC P h0 N (.rangeFunc ae ps.toArray assign body) env H Q:=by
 intro rd fr ro σ a w r hrd;have hv:=Qf r ae;rw[hg]at hv;obtain⟨l1,E,hv,bf,a1⟩:=hv;obtain rfl:l1=[]:=bf;refine wpIn_rangeFunc ?_;intro fn bi;obtain⟨l,G,w1,df,he,hl,a5,ar,aq,be,ak,aa⟩:=QiZ (P:=P) (fn:=fn) (tmps:=a.tmps) (ps:=ps.toArray) (assign:=assign) (body:=body) (ro:=ro) hrd r.sim.roLt r.sim.frLt;have s1:=r.sim.beside aa aq
 let D:Fix:=⟨fr,ro,σ,w,H.length,env,a.tmps,G++a.defers,l,(λst pe=>{state:=st,pending:=pe,fn:=fn,tmps:=a.tmps,params:=ps.toArray,assign:=assign,body:=body,defers:=df}),(λb=>fr b\/(w.heap.size<=b/\b<w1.heap.size))⟩
 have ag:¬fr l:=λq=>by have:=r.sim.frLt l q;omega
 have hD:D.Ok:=⟨λb q=>.inl q,.inr ⟨hl,a5⟩,ag,r.sim.len⟩;have M:Qcm D.fr1 (G++a.defers) w1:=by
  refine⟨List.nodup_append.2 ⟨be,r.defers.1,λd O d' bg e=>?_⟩,λd O=>?_⟩
  .subst e;obtain⟨B,e1,e2,_⟩:=ak d O;obtain⟨B',a0,a3,_⟩:=r.defers.2 d bg;rw[e1]at a0;have:B=B':=by simpa using a0
   subst this;have:=r.sim.frLt B a3;omega
  .rcases Vv.1 O with O|O
   .obtain⟨B,e1,e2,e3,e4⟩:=ak d O;exact⟨B,e1,.inr ⟨e2,e3⟩,e4⟩
   .obtain⟨B,e1,e2,e3⟩:=(r.defers.keep aa).2 d O;exact⟨B,e1,.inl e2,e3⟩
 obtain⟨sp,hσc⟩:=s1.part hH hπ;have ai:LR ro (Q2 σ π) w1 ac E:=(Qbg hσc).1 (hargs▸a1.mono (aa.ext0 σ))
 let frX:Nat->Prop:=λb=>D.fr1 b\/(∃(j:Nat) (x:Blk),(Q2 σ π)[j]?=some (some b)/\Hc[j]?=some x/\x.live=true)\/ ∃(j:Nat) (x:Blk) (d:Nat),(Q2 σ π)[j]?=some (some d)/\Hc[j]?=some x/\Hid w1 x d b
 have sX:Sim frX ro σ (QcQ H π) w1:=by
  refine(QcF π s1).frames (λb q=>?_) (λb q r=>?_) (λi b x n m k r=>?_) (λi b x c n m k r=>?_)
  .rcases q with q|⟨j,x,n,m,k⟩|⟨j,x,d,n,m,k⟩
   .exact s1.frLt b q
   .exact(sp.own j b x n m k).1
   .exact(sp.hid j d x b n m k).lt
  .rcases r with r|⟨j,x,n,m,k⟩|⟨j,x,d,n,m,k⟩
   .exact s1.roFr b q r
   .exact(sp.own j b x n m k).2.1 q
   .exact(sp.hid j d x b n m k).ro q
  .rcases Qdy _ _ _ _ m with rfl|⟨m,hi⟩
   .cases k
   .rcases r with r|⟨j,y,p1,p2,Y⟩|⟨j,y,d,p1,p2,Y⟩
    .exact(s1.own i b x n m k).2.2 r
    .exact(sp.own j b y p1 p2 Y).2.2 (.inr (.inl ⟨i,x,n,m,k,hi (Qbi k)⟩))
    .exact(sp.hid j d y b p1 p2 Y).fr (.inr (.inl ⟨i,x,n,m,k,hi (Qbi k)⟩))
  .rcases Qdy _ _ _ _ m with rfl|⟨m,hi⟩
   .exact k.elim
   .rcases r with r|⟨j,y,p1,p2,Y⟩|⟨j,y,d,p1,p2,Y⟩
    .exact(s1.hid i b x c n m k).fr r
    .exact(sp.own j c y p1 p2 Y).2.2 (.inr (.inr ⟨i,x,b,n,m,k,hi k.holds⟩))
    .exact(sp.hid j d y c p1 p2 Y).fr (.inr (.inr ⟨i,x,b,n,m,k,hi k.holds⟩))
 have rX:Rel frX ro σ (QcQ H π) env N {a with defers:=G++a.defers} w1:=
  ⟨sX,λs=>(r.env s).mono (aa.ext0 σ),r.size,M.1,λd O=>let⟨B,e1,e2,e3⟩:=M.2 d O;⟨B,e1,.inl e2,e3⟩⟩
 obtain⟨af,σ',r',ab,a4⟩:=ba frX ro σ N _ w1 rX;have hσt:σ.take H.length=σ:=by rw[<- r.sim.len,X5]
 let g0:Nat->Prop:=λb=>D.fr1 b\/(af b/\ ¬ro b)\/(∃(i:Nat) (x:Blk),σ'[i]?=some (some b)/\(Hp s0)[i]?=some x/\x.live=true)\/ ∃(i:Nat) (x:Blk) (d:Nat),σ'[i]?=some (some d)/\(Hp s0)[i]?=some x/\Hid w1 x d b
 have j0:RJ D af σ' (Hp s0) .ready none ro g0 w1:=by
  refine⟨r'.sim.frMono λb q=>.inl q,λt=>(r.env t).mono ⟨ab,aa.keepRo,aa.shape,λ_ _ q=>q⟩,a4.trans hσt,aa.trans (Yy ab),M,ar,λb q=>?_,λb q=>.inl q,λi b x n m k=>.inr (.inr (.inl ⟨i,x,n,m,k⟩)),λi b x c n m k=>.inr (.inr (.inr ⟨i,x,b,n,m,k⟩)),λb q=>?_⟩
  .by_cases z:ro b
   .exact .inl z
   .exact .inr (.inr (.inl ⟨q,z⟩))
  .rcases q with q|q|⟨i,x,n,m,k⟩|⟨i,x,d,n,m,k⟩
   .exact s1.frLt b q
   .exact r'.sim.roLt b q.1
   .exact(r'.sim.own i b x n m k).1
   .exact(r'.sim.hid i d x b n m k).lt
 have sI:Sim g0 ro (Q2 σ π) Hc w1:=by
  refine sp.frames (λb q=>j0.lt b q) (λb q z=>?_) (λj b x n m k z=>?_) (λj b x c n m k z=>?_)
  .rcases z with z|z|⟨i,x,n,m,k⟩|⟨i,x,d,n,m,k⟩
   .exact s1.roFr b q z
   .exact z.2 q
   .exact(r'.sim.own i b x n m k).2.1 (ab b q)
   .exact(r'.sim.hid i d x b n m k).ro (ab b q)
  .have hX:frX b:=.inr (.inl ⟨j,x,n,m,k⟩);rcases z with z|z|⟨i,y,p1,p2,Y⟩|⟨i,y,d,p1,p2,Y⟩
   .exact(sp.own j b x n m k).2.2 (.inl z)
   .exact r'.sim.roFr b z.1 hX
   .exact(r'.sim.own i b y p1 p2 Y).2.2 hX
   .exact(r'.sim.hid i d y b p1 p2 Y).fr hX
  .have hX:frX c:=.inr (.inr ⟨j,x,b,n,m,k⟩);rcases z with z|z|⟨i,y,p1,p2,Y⟩|⟨i,y,d,p1,p2,Y⟩
   .exact(sp.hid j b x c n m k).fr (.inl z)
   .exact r'.sim.roFr c z.1 hX
   .exact(r'.sim.own i c y p1 p2 Y).2.2 hX
   .exact(r'.sim.hid i d y c p1 p2 Y).fr hX
 let X:Ctx T:={l:=l,J:=λrem q g W=>∃s F σ1,V s rem/\RJ D F σ1 (Hp s) .ready none q g W,Jx:=λ_ q g W=>∃H2 c F σ1,Jump Q env c H2/\RJ D F σ1 H2 .done (some c) q g W,enc:=enc,nx:=nx}
 have a2:∀p∈ps,p<N:=λp hp=>by simpa using Xq.1 bc p hp
 have hX:X.ok P:=by
  refine⟨⟨λrem q g W W' af ⟨s,F,σ1,L,R⟩ he=>⟨s,F,σ1,L,R.step hD he⟩,λrem q g g' W ⟨s,F,σ1,L,R⟩ hg hl=>⟨s,F,σ1,L,R.up hg hl⟩⟩,
   ⟨λrem q g W W' af ⟨H2,c,F,σ1,L,R⟩ he=>⟨H2,c,F,σ1,L,R.step hD he⟩,λrem q g g' W ⟨H2,c,F,σ1,L,R⟩ hg hl=>⟨H2,c,F,σ1,L,R.up hg hl⟩⟩,?_⟩
  rintro lr x rem q g ri W vs a9 ⟨s,F,σ1,L,R⟩ hq hI bd;obtain⟨bb,tm,a8,a6,y1,y2⟩:=RJ.round (D:=D) (Q:=Q) (K:=λH2=>∃s',V s' rem/\H2=Hp s') hD rfl r.size a2 (aw x) hq hI bd R (an s lr x rem L a9);refine⟨bb,tm,a8,a6,y1,RoundIn.mono y2 ?_⟩;rintro e W' ⟨g',k1,k2⟩;refine⟨g',ri,λ_ z=>z,k1,?_⟩;rcases k2 with⟨rfl,H2,u,σ2,⟨s',a7,rfl⟩,k3⟩|⟨rfl,H2,c,u,σ2,k3,k4⟩
  .exact .inl ⟨rfl,s',u,σ2,a7,k3⟩
  .exact .inr ⟨rfl,H2,c,u,σ2,k3,k4⟩
 have az:∀(ev:Operand->Value),ev ae=.func (.func f) #[] E.toArray->ev (.const (.func (.yield l) #[] #[]))=.func (.yield l) #[] #[]->(resolve ev (rangeCall ae l) 0).run P w1=.ok {target:=.fn (.func f) E.toArray,args:= #[.func (.yield l) #[] #[]]} w1:=by
  intro ev L R;simp[resolve,go_sem,L,R]
 refine⟨l,G,w1,{target:=.fn (.func f) E.toArray,args:= #[.func (.yield l) #[] #[]]},w1,f, #[.func (.yield l) #[] #[]]++E.toArray,w1,he,az a.eval hv rfl,λ_ _=>trivial,by simp[invoke,go_sem,eg],λh=>by simp[WF,Fence.wide]at h,?_⟩;refine WF.calls.2 ?_;have al:=au X rfl rfl hX g0 ro (Q2 σ π) w1 E ro sI (λ_ z=>z) ai ⟨s0,af,σ',hV,j0⟩;have aj:(#[.func (.yield l) #[] #[]]++E.toArray:Array Value)=((Value.func (.yield X.l) #[] #[]::E)).toArray:=by simp[X]
 rw[aj];refine Calls.mono al ?_;rintro e W' ⟨⟨v,rfl⟩,g2,qz,bh,av⟩;have fin:∀(H2:Qc) (st:LoopState) (pe:Option Code) (u:Nat->Prop) (σ2:Sig),st≠ .busy->RJ D u σ2 H2 st pe qz g2 W'->∃w4,(Instr.endLoop l).run P W'=.ok pe w4/\Rel D.fr1 u σ2 H2 env N {a with defers:=G++a.defers} w4/\Qg fr ro w u w4:=by
  intro H2 st pe u σ2 hst j;refine⟨_,run_endLoop j.rc (by exact hst),?_⟩;obtain⟨s5,ao⟩:=j.sim.put (obj:=.loop {(D.rc st pe)with state:=.exhausted}) hD.l1 (Qa7 j.rc);have hr:=j.rc;refine⟨⟨s5,λt=>((j.env t).mono ⟨λ_ q=>q,λ_ _=>rfl,λ_ _ q=>q,λi b q=>QcL j.sig q⟩).mono (ao.ext0 σ2),r.size,j.marks.1,λd O=>?_⟩,j.ev.trans (ao.frMono λb q e=>ag (by have e':b=l:=e;rw[<- e'];exact q))⟩;obtain⟨B,e1,e2,e3⟩:=j.marks.2 d O;refine⟨B,e1,e2,(ao.keepFr B (λe=>?_)).trans e3⟩;subst e;rw[hr]at e3;cases e3
 have ay:Grow fr w a.defers D.fr1 (G++a.defers):=by
  refine⟨λb q=>.inl q,λb q=>q.imp id (λq=>q.1),λd O=>?_⟩;rcases Vv.1 O with O|O
  .obtain⟨B,e1,e2,_⟩:=ak d O;exact .inr ⟨B,e1,e2⟩
  .exact .inl O
 have ax:∀{σ2:Sig},σ2.take H.length=σ->σ2.take h0=σ.take h0:=by
  intro σ2 h;have:=congrArg (List.take h0) h
  rwa [List.take_take,XA hh]at this
 rcases av with⟨s,u,σ2,L,R⟩|⟨rem,H2,c,u,σ2,L,R⟩
 .obtain⟨w4,f1,f2,f3⟩:=fin _ _ _ u σ2 (by intro e;cases e) R;exact⟨none,w4,f1,.normal,env,_,u,σ2,_,rfl,am s L,f2,f3,ax R.sig,ay⟩
 .obtain⟨w4,f1,f2,f3⟩:=fin _ _ _ u σ2 (by intro e;cases e) R;refine⟨some c,w4,f1,?_⟩;have hc:TC P h0 N c env H2 Q:=by
   rcases L with⟨id,rfl,L⟩|⟨rfl,L⟩
   .exact TC.exit L
   .exact TC.ret L
  exact Code.wpIn_mono (λe a w q=>q.grow f3 (ax R.sig) ay) (hc rd D.fr1 u σ2 _ w4 f2 (hrd.to f3 λb q=>.inl q))
end Go.Sw
namespace Go.Sw
theorem Qgc{h0 i k t T:Nat}{env:Env}{H:Qc}(hh:Nat.ble h0 H.length=true)(hH:H[i]?=some (.cells T [.nils])):Le h0 env H env (H.set i (.cells T [.osl H.length 0 0 k])++[.row t k []]):=by
 intro fr E σ N a w r;have F:h0<=H.length:=XP hh;have O:i<H.length:=(XJ.1 hH).1;have ext:Ext E σ w E (σ++[none]) w:=⟨λ_ q=>q,λ_ _=>rfl,λ_ _ q=>q,λ_ _ h=>Yq h⟩;have s:=r.sim.phantom t k;have n:(H++[Blk.row t k []])[i]?=some (.cells T [.nils]):=by rw[XK O];exact hH
 have X:H.set i (.cells T [.osl H.length 0 0 k])++[.row t k []]=(H++[Blk.row t k []]).set i (.cells T [.osl H.length 0 0 k]):=by
  rw[List.set_append_left _ _ O]
 have g:∀(j:Nat) (v:Blk),((H++[Blk.row t k []]).set i (.cells T [.osl H.length 0 0 k]))[j]?=some v->(j=i/\v=.cells T [.osl H.length 0 0 k])\/(j≠i/\(H++[Blk.row t k []])[j]?=some v):=by
  intro j v h;by_cases e:j=i
  .subst e;rw[Xa (by simp;omega)]at h;exact .inl ⟨rfl,by simpa using h.symm⟩
  .rw[XN (λq=>e q.symm)]at h;exact .inr ⟨e,h⟩
 have f:∀(j:Nat) (v:Blk),((H++[Blk.row t k []]).set i (.cells T [.osl H.length 0 0 k]))[j]?=some v->v.live=true->∃z,(H++[Blk.row t k []])[j]?=some z/\z.live=true:=by
  intro j v h V;rcases g j v h with⟨rfl,rfl⟩|⟨_,h⟩
  .exact⟨_,n,rfl⟩
  .exact⟨v,h,V⟩
 refine⟨E,σ++[none],⟨?_,λq=>(r.env q).mono ext,r.size,r.defers⟩,λ_ q=>q,Qp (by rw[r.sim.len];exact F)⟩;rw[X];refine⟨by rw[XZ];exact s.len,s.roOk,s.frLt,s.roFr,λj b v u B G=>?_,λj Q b v z u B G q4 R W=>?_,λj y v u B=>?_,
  s.hidTo (· = ·) QP (XR _) (λ_ _ _ _ _ _ _ q=>q) (λ_ _ _ _ _ _ _ q=>q) λj d y m p M=>.inl ?_⟩
 rotate_left 3
 .rcases g j y p with⟨rfl,rfl⟩|⟨_,h⟩
  .exact⟨j,_,rfl,m,n,λ_=>rfl,λ_ q=>q.elim⟩
  .exact⟨j,y,rfl,m,h,id,λ_ q=>q⟩
 .obtain⟨z,m,p⟩:=f j v B G;exact s.own j b z u m p
 .obtain⟨x,m,p⟩:=f j v G R;obtain⟨x',L,J⟩:=f Q z q4 W;exact s.inj j Q b x x' u B m L p J
 .rcases g j v B with⟨rfl,rfl⟩|⟨_,h⟩
  .have:=s.blk j y _ u n;cases y with
   |none=>exact this
   |some b=>
    obtain⟨l,m,⟨v1,P,rfl,p,M⟩,Y⟩:=this;refine⟨_,m,⟨v1,P,rfl,.inl ⟨rfl,p⟩,?_⟩,Y⟩;obtain rfl:P=[]:=M;rfl
  .exact s.blk j y v u h
theorem Qht{h0 i:Nat}{env:Env}{H:Qc}{es:List (A×A)}(hH:H[i]?=some (.map es)):Le h0 env H env (H.set i (.fmap es)):=by
 intro f e σ N a w r;have d:∃s,σ[i]?=some s:=by
  have:i<σ.length:=by rw[r.sim.len];exact(XJ.1 hH).1
  exact⟨_,XI this⟩
 obtain⟨s,d⟩:=d;cases s with
 |none=>exact(r.sim.blk i _ _ d hH).elim
 |some b=>
  refine⟨_,σ,⟨r.sim.shutMap d hH,λq=>(r.env q).mono ⟨λ_ q=>.inl q,λ_ _=>rfl,λ_ _ q=>q,λ_ _ q=>q⟩,r.size,r.defers⟩,λ_ q=>.inl q,rfl⟩
def anyN{T:Type}(l:List T)(x:T)(rem:List T):Prop:=l.Perm (x::rem)
def Qja(ts te:Nat)(ld:Op):Code:=.block 1 (.region 3 #[{dst:=some 8,op:=.load ts (.tmp 2),type:=ts,pos:="iter.go:52",after:= #[],guard:=none},{dst:=some 9,op:=ld,type:=te,pos:="iter.go:52",after:= #[],guard:=none},
 {dst:=some 10,op:=.buildSlice ts 1 #[(0,.tmp 9)],type:=ts,pos:="iter.go:52",after:= #[{on:=1,ground:=.data}],guard:=none},
 {dst:=some 11,op:=.call {callee:=.builtin .append,args:= #[.tmp 8,.tmp 10],argTypes:= #[ts,ts]},type:=ts,pos:="iter.go:52",after:= #[{on:=0,ground:=.data},{on:=2,ground:=.data}],guard:=none},
 {dst:=none,op:=.store ts (.tmp 2) (.tmp 11),type:=0,pos:="iter.go:52",after:= #[{on:=3,ground:=.data},{on:=3,ground:=.chain},{on:=0,ground:=.phase},{on:=1,ground:=.phase},{on:=2,ground:=.phase},{on:=3,ground:=.phase}],guard:=none}] false)
def Qk6(ts tq te:Nat)(asg:Code)(ld:Op):Code:=(Code.region 0 #[{dst:=some 2,op:=.box ts (.tmp 0),type:=0,pos:="iter.go:50",after:= #[],guard:=none},{dst:=some 4,op:=.assign (.const (.slice none 0 0)),type:=ts,pos:="iter.go:50",after:= #[],guard:=none}] false).seq
 (((Code.region 1 #[{dst:=some 6,op:=.move (.tmp 1),type:=tq,pos:="iter.go:51",after:= #[],guard:=none}] false).seq (.block 0 (.rangeFunc (.tmp 6) #[7] asg (Qja ts te ld)))).seq
  ((Code.region 4 #[{dst:=some 12,op:=.load ts (.tmp 2),type:=ts,pos:="iter.go:54",after:= #[],guard:=none},{dst:=some 4,op:=.assign (.tmp 12),type:=ts,pos:="iter.go:54",after:= #[{on:=0,ground:=.data},{on:=0,ground:=.phase}],guard:=none}] false).seq .ret))
def Qk7(te:Nat):Code:=.region 2 #[{dst:=some 5,op:=.assign (.tmp 7),type:=te,pos:="iter.go:51",after:= #[],guard:=none}] false
section
variable {P:Program} {T:Type} {ts tq te k tm:Nat} {g:FuncId} {es:List (A×A)} {e:T->List A} {ea:T->A} {xs:List T}
abbrev apH(ts te k tm:Nat)(es:List (A×A))(e:T->List A)(done:List T):Qc:=[.dead,.fmap es,.cells ts [.osl 3 0 done.length k],.row te k (done.map e)]
abbrev apE(g:FuncId):Env:=[(6,.fn (.func g) [] [.ptr 0 0]),(4,.nils),(2,.ptr 2 0),(0,.nils),(1,.fn (.func g) [] [.ptr 0 0])]
theorem Qj2{N:Nat}(u:N=13){done:List T}{x:T}{env:Env}{H:Qc}{K:Qc->Prop}{r:Op}(E:QM P ts te k)(J:∀w,(isAgg ts).run P w=.ok false w)(V:∀w,(sizeOf ts).run P w=.ok 1 w)(B:app done [x]=some (done++[x]))
  (G:(e x).length=k)(d:Nat.ble k 16777216=true)(g:Q0 (ea x)=true)(a:QX (ea x)=e x)(h:(e x).all Yb=true)(M:Q6 (e x)=true)(F:Nat.ble 3 H.length=true)
  (j:lk env 2=.ptr 2 0)(l:H[2]?=some (.cells ts [.osl 3 0 done.length k]))(p:H[3]?=some (.row te k (done.map e)))
  (b:∀env',(∀s,s≠8->lk env' s=lk env s)->∀pos,OpV P {dst:=some 9,op:=r,type:=te,pos:=pos,after:= #[],guard:=none} env' H (ea x))
  (R:∀env',∃H2,Le 3 env' (((((H++[Blk.row te k [e x]]).set 3 .dead)++[Blk.row te k ((done++[x]).map e)]).set 2 (.cells ts [.osl (H.length+1) 0 (done++[x]).length k]))) [] H2/\K H2){env0:Env}{Q:Qv}:
  TC P 3 N (Qja ts te r) env H (QgK 3 env0 Q K):=by
 subst u;have O:3<=H.length:=XP F;have z:3<H.length:=(XJ.1 p).1;refine TC.block (TC.region ?_);refine Qz rfl rfl rfl (OpV.load (v:=.osl 3 0 done.length k) (cs:=[]) rfl J j (Pts.cells l rfl)) ?_;refine Qz rfl rfl rfl (x:=ea x) ?_ ?_
 .refine b _ (λs L=>?_) _;simp only[up,lk];have:Nat.beq s 8=false:=by
   rw[VE];intro q;exact L (XO q)
  rw[this];rfl
 refine YH (by omega) rfl rfl rfl (OpH.lit (xs:=[.tmp 9]) (es:=[e x]) E rfl rfl (by simpa using d) ?_ ?_ ⟨G,trivial⟩ (by simpa using h) (by simpa using M)) ?_
 .simp[opA,lk,up,g]
 .simp[QV,opA,lk,up,a]
 refine YH (x:=.osl (H.length+1) 0 (done++[x]).length k) (H':=((H++[Blk.row te k [e x]]).set 3 .dead)++[Blk.row te k ((done++[x]).map e)]) (by simp;omega) rfl rfl rfl ?_ ?_
 .have:=QA (P:=P) (o:={dst:=some 11,op:=.call {callee:=.builtin .append,args:= #[.tmp 8,.tmp 10],argTypes:= #[ts,ts]},type:=ts,pos:="iter.go:52",after:= #[{on:=0,ground:=.data},{on:=2,ground:=.data}],guard:=none})
   (env:=up (up (up env 8 (.osl 3 0 done.length k)) 9 (ea x)) 10 (.osl H.length 0 1 k)) (H:=H++[Blk.row te k [e x]]) (x:=.tmp 8) (y:=.tmp 10) (e:=e) (m:=[x]) (i:=3) (n:=done.length) (ya:=.osl H.length 0 1 k) B E E.sl (YI (t:=te) (by simp) rfl) rfl rfl rfl rfl (by rw[XK z];exact p) rfl
  simpa using this
 refine Qba (by simp;omega) rfl rfl (OpU.store (i:=2) (off:=0) (T:=ts) (n:=1) (cs:=[.osl 3 0 done.length k]) (vs:=[.osl (H.length+1) 0 (done++[x]).length k]) (cs':=[.osl (H.length+1) 0 (done++[x]).length k]) (v:=.osl (H.length+1) 0 (done++[x]).length k) rfl ?_ ?_ V rfl rfl rfl rfl rfl rfl rfl) ?_
 .exact j
 .have f:2<H.length:=by omega
  rw[XK (by simp;omega),XN (by decide),XK f];exact l
 .refine WO.nil ?_;exact R _
theorem Qi9{xs done l rem:List T}{x:T}(hl:Nat.ble xs.length QK=true)(b:(done++l).Perm xs)(a:l.Perm (x::rem)):app done [x]=some (done++[x])/\((done++[x])++rem).Perm xs:=by
 have e:=b.length_eq;have d:=a.length_eq;have f:=XP hl;simp at e d;refine⟨?_,?_⟩
 .unfold app;have:Nat.ble (done.length+[x].length) QK=true:=XQ (by simp;omega);rw[this];rfl
 .refine List.Perm.trans ?_ b;simp only[Ve,List.singleton_append];exact(List.Perm.append_left done a).symm
theorem QeQ{m:FuncId}{fn:Func}(J:P.funcs[m]?=some fn)(s:fn.body=some (Qk6 ts tq te (Qk7 te) (.move (.tmp 5))))(q:fn.ntmps=13)(F:fn.results= #[.tmp 4])(E:QM P ts te 1)(j:∀w,(isAgg ts).run P w=.ok false w)(L:∀w,(sizeOf ts).run P w=.ok 1 w)
  (z:∀args w,(callFunc g args).run P w=.ok (.enter g args) w)(b:Qff P g [.ptr 0 0] [.cells tm [.map 1],.fmap es] (λx=>[ea x]) anyN xs)(hl:Nat.ble xs.length QK=true)
  (M:∀x,Qbr (ea x)=true)(f:∀x,Q0 (ea x)=true)(e:∀x,QX (ea x)=[ea x])(h:∀x,Yb (ea x)=true)(y:∀x,Q9 (ea x)=true):
  C P m [.nils,.fn (.func g) [] [.ptr 0 0]] [.cells tm [.map 1],.fmap es] (λr H1=>∃p:List T,p.Perm xs/\r=.osl 2 0 p.length 1/\H1=[.dead,.fmap es,.row te 1 (p.map λx=>[ea x])]):=by
 refine Qa J s q rfl ?_;refine TC.seq (TC.region ?_);refine YH (XP rfl) rfl rfl rfl (OpH.box (v:=.nils) (cs:=[.nils]) rfl rfl rfl rfl rfl) ?_;refine Qz rfl rfl rfl (OpV.assign (v:=.nils) rfl rfl) ?_;refine WO.nil ?_;refine TC.seq (TC.seq (TC.region ?_));refine Qz rfl rfl rfl (OpV.move (v:=.fn (.func g) [] [.ptr 0 0]) rfl rfl) ?_;refine WO.nil ?_;refine TC.block ?_;refine TC.rangeFunc (env:=apE g) (ps:=[7]) (S:=List T) [0,1] (apH ts te 1 tm es (λx=>[ea x])) (λdone l=>(done++l).Perm xs) [] (XP rfl) rfl rfl rfl (by decide) rfl z b (λx=>rfl) ?_ (List.Perm.refl _) ?_ ?_
 .exact Qgc (h0:=3) (i:=2) (t:=te) (k:=1) (H:=[.dead,.fmap es,.cells ts [.nils]]) rfl rfl
 .intro done l x rem d G;obtain⟨B,u⟩:=Qi9 hl d G;refine TC.region (Qz rfl rfl rfl (OpV.assign (v:=ea x) rfl rfl) (WO.nil ⟨rfl,?_⟩));refine Qj2 (ea:=ea) rfl E j L B rfl rfl (f x) (e x) (by simp[h x]) (by simp[Q6,y x]) rfl rfl rfl rfl ?_ ?_
  .intro a n pos;exact OpV.move rfl (by show lk a 5=ea x;rw[n 5 (by decide)];rfl)
  .intro a;exact⟨_,Lr (H':=apH ts te 1 tm es (λx=>[ea x]) (done++[x])) [0,1,2,5],_,u,rfl⟩
 .intro done d;rw[Vc]at d;refine TC.seq (TC.region ?_);refine Qz rfl rfl rfl (OpV.load (v:=.osl 3 0 done.length 1) (cs:=[]) rfl j rfl (Pts.cells rfl rfl)) ?_;refine Qz rfl rfl rfl (OpV.assign (v:=.osl 3 0 done.length 1) rfl rfl) ?_;refine WO.nil ?_;refine TC.ret ?_;exact⟨[(4,.osl 2 0 done.length 1)],[.dead,.fmap es,.row te 1 (done.map λx=>[ea x])],_,Lr [0,1,3],QbO.one F rfl,done,d,rfl,rfl⟩
end
theorem TCy.le{T:Type}{X:Ctx T}{P:Program}{h0 N:Nat}{c:Code}{env env':Env}{H H':Qc}{l:YSt T}{Q:Ym T}(d:Le h0 env H env' H')(h:TCy X P h0 N c env' H' l Q):TCy X P h0 N c env H l Q:=by
 intro y u m x σ a w g r hj hrd;obtain⟨k,σ',p,s,t⟩:=d m x σ N a w r;obtain⟨⟨n,i,j⟩,f⟩:=hj;exact Code.wpIn_mono (λe a w q=>q.grow s (XR _) t (Grow.refl _ _ _)) (h y u m k σ' a w g p ⟨⟨n,λb z=>s b (i b z),j⟩,f⟩ hrd)
mutual
theorem Qfy:∀{a:A},Qbr a=true->Q9 a=true
 |.any,_=>rfl
 |.bool _,_=>rfl
 |.int _ _,_=>rfl
 |.str _,_=>rfl
 |.nilp,_=>rfl
 |.ptr _ _,h=>by simp[Qbr]at h
 |.rp _,_=>rfl
 |.nils,_=>rfl
 |.rsl _ _,_=>rfl
 |.osl _ _ _ _,h=>by simp[Qbr]at h
 |.agg cs,h=>by simp only[Qbr]at h;simp only[Q9];exact Qeh h
 |.fn _ a c,h=>by simp[Qbr]at h
 |.nilf,_=>rfl
 |.iface _ v,h=>by simp[Qbr]at h
 |.nilif,_=>rfl
 |.map _,h=>by simp[Qbr]at h
 |.nilm,_=>rfl
 |.tup vs,h=>by simp[Qbr]at h
theorem Qeh:∀{l:List A},Qdp l=true->Q6 l=true
 |[],_=>rfl
 |a::r,h=>by
  simp only[Qdp,XU]at h;simp only[Q6,XU];exact⟨Qfy h.1,Qeh h.2⟩
end
theorem Qft{P:Program}{o:Oper}{env:Env}{H:Qc}{y z:Operand}{l:Nat}{a:A}{h:Array TypeId}(n:o.op=.call {callee:=.value y,args:= #[z],argTypes:=h})(g:opA env y=.fn (.yield l) [] [])(m:opA env z=a)(e:Q9 a=true){N:Nat}:
  ∀fr ro σ act w,Rel fr ro σ H env N act w->∃vs:List Value,LR ro [] w [a] vs/\(execOp act.eval o).run P w=(Instr.yield l vs.toArray).run P w:=by
 intro fr ro σ act w r;have b:=Qf r y;rw[g]at b;obtain⟨k,f,b,i,j⟩:=b;obtain rfl:k=[]:=i;obtain rfl:f=[]:=j;have d:=Qf r z;rw[m]at d;refine⟨[act.eval z],⟨_,_,rfl,VR.data e d,rfl⟩,?_⟩;generalize act.eval=ev at*;simp[execOp,n,resolve,invoke,go_sem,b]
theorem Qhy{P:Program}{o:Oper}{env:Env}{H:Qc}{y d a:Operand}{l:Nat}{f g:A}{q:Array TypeId}(x:o.op=.call {callee:=.value y,args:= #[d,a],argTypes:=q})(p:opA env y=.fn (.yield l) [] [])(i:opA env d=f)(e:opA env a=g)(j:Q9 f=true)(h:Q9 g=true){N:Nat}:
  ∀fr ro σ act w,Rel fr ro σ H env N act w->∃vs:List Value,LR ro [] w [f,g] vs/\(execOp act.eval o).run P w=(Instr.yield l vs.toArray).run P w:=by
 intro fr ro σ act w r;have b:=Qf r y;rw[p]at b;obtain⟨u,n,b,s,t⟩:=b;obtain rfl:u=[]:=s;obtain rfl:n=[]:=t;have m:=Qf r d;rw[i]at m;have k:=Qf r a;rw[e]at k;refine⟨[act.eval d,act.eval a],⟨_,_,rfl,VR.data j m,_,_,rfl,VR.data h k,rfl⟩,?_⟩;generalize act.eval=ev at*;simp[execOp,x,resolve,invoke,go_sem,b]
def QiK(tm tb ty tk:Nat)(asg:Array Oper)(ld:Op):Code:=
 (Code.region 0 #[{dst:=some 4,op:=.load tm (.tmp 1),type:=tm,pos:="iter.go:27",after:= #[],guard:=none},{dst:=some 5,op:=.range tm (.tmp 4),type:=0,pos:="iter.go:27",after:= #[{on:=0,ground:=.data}],guard:=none}] false).seq
 (.block 0 (Code.loop ((Code.region 1 #[{dst:=some 6,op:=.next (.tmp 5) false,type:=0,pos:="iter.go:27",after:= #[],guard:=none},{dst:=some 7,op:=.extract (.tmp 6) 0,type:=tb,pos:="iter.go:27",after:= #[{on:=0,ground:=.data}],guard:=none}] false).seq
  ((Code.cond (.tmp 7) .skip (.exit 0)).seq (.block 1 ((Code.region 2 asg false).seq
   ((Code.region 3 #[{dst:=some 10,op:=.move (.tmp 0),type:=ty,pos:="iter.go:28",after:= #[],guard:=none},{dst:=some 11,op:=ld,type:=tk,pos:="iter.go:28",after:= #[],guard:=none},
    {dst:=some 12,op:=.call {callee:=.value (.tmp 10),args:= #[.tmp 11],argTypes:= #[tk]},type:=tb,pos:="iter.go:28",after:= #[{on:=0,ground:=.data},{on:=1,ground:=.data}],guard:=none},
    {dst:=some 13,op:=.unOp .not tb (.tmp 12),type:=tb,pos:="iter.go:28",after:= #[{on:=2,ground:=.data}],guard:=none}] false).seq (.cond (.tmp 13) .ret .skip))))))))
def QkU(tk:Nat):Array Oper:= #[{dst:=some 8,op:=.entry (.tmp 5),type:=0,pos:="iter.go:27",after:= #[],guard:=none},{dst:=some 9,op:=.extract (.tmp 8) 0,type:=tk,pos:="iter.go:27",after:= #[{on:=0,ground:=.data}],guard:=none},
 {dst:=some 3,op:=.assign (.tmp 9),type:=tk,pos:="iter.go:27",after:= #[{on:=1,ground:=.data},{on:=0,ground:=.phase},{on:=1,ground:=.phase}],guard:=none}]
section
variable {P:Program} {K V:Type} {tm tb ty tk kt et:Nat} {ek:K->A} {ev:V->A} {m:List (K×V)} {T:Type}
abbrev kyE(l:Nat):Env:=[(0,.fn (.yield l) [] []),(1,.ptr 0 0),(5,.ptr 2 0)]
abbrev kyH(tm:Nat)(ek:K->A)(ev:V->A)(m l:List (K×V)):Qc:=[.cells tm [.map 1],.fmap (Qh ek ev m),.iter none (Qh ek ev l)]
theorem QhE{g:FuncId}{fn:Func}{f:Array Oper}{u:Op}(T:P.funcs[g]?=some fn)(F:fn.body=some (QiK tm tb ty tk f u))(B:fn.ntmps=14)(N:fn.results= #[])(J:∀w,(isAgg tm).run P w=.ok false w)(O:P.underlying tm=some (.map kt et))(L:∀x,Qbr (ek x)=true)
  (round:∀(X:Ctx K) (e:K×V) (l:List (K×V)) (env:Env) (H:Qc) (h:YSt K) (Q:Ym K),lk env 0=.fn (.yield X.l) [] []->lk env 1=.ptr 0 0->lk env 5=.ptr 2 0->H=[.cells tm [.map 1],.fmap (Qh ek ev m),.iter (some (ek e.1,ev e.2)) (Qh ek ev l)]->
   (∀env' H',lk env' 0=.fn (.yield X.l) [] []->lk env' 1=.ptr 0 0->lk env' 5=.ptr 2 0->(∀env2 b,lk env2 0=.fn (.yield X.l) [] []->lk env2 1=.ptr 0 0->lk env2 5=.ptr 2 0->Le 2 (up (up env2 12 (.bool b)) 13 (.bool (!b))) H' (kyE X.l) (kyH tm ek ev m l))->
    (∀pos env2,(∀s,s≠10->lk env2 s=lk env' s)->OpV P {dst:=some 11,op:=u,type:=tk,pos:=pos,after:= #[],guard:=none} env2 H' (ek e.1))->Nat.ble 2 H'.length=true->Q .normal env' H' h)->
   TCy X P 2 14 (.region 2 f false) env H h Q):
  Qff P g [.ptr 0 0] [.cells tm [.map 1],.fmap (Qh ek ev m)] (λx=>[ek x]) anyN (m.map Prod.fst):=by
 refine Qci T F B rfl N ?_;intro X hE hNx;refine TCy.seq (TCy.lift (TC.region ?_));refine Qz rfl rfl rfl (OpV.load (v:=.map 1) (cs:=[]) rfl J rfl (Pts.cells rfl rfl)) ?_;refine YH (XP rfl) rfl rfl rfl (QdZ O) ?_;refine WO.nil ?_;refine TCy.block ?_;refine QeG (I:=λn env H h=>∃l:List (K×V),l.length=n/\h=.on (l.map Prod.fst)/\Le 2 env H (kyE X.l) (kyH tm ek ev m l)) ?_ ⟨m,rfl,rfl,Lr [0,1,2]⟩;rintro n env H h ⟨l,R,rfl,j⟩;refine TCy.le j ?_;refine TCy.seq (TCy.lift (TC.region ?_));refine QgI (XP rfl) rfl rfl rfl (OpE.next rfl rfl rfl) ?_;rintro v H' (⟨p,rfl,rfl⟩|⟨W,E,p,rfl,rfl⟩)
 .have M:l=[]:=List.map_eq_nil_iff.1 p;subst M;refine Qz rfl rfl rfl (OpV.extract (v:=.bool false) rfl rfl rfl) ?_;refine WO.nil ?_;refine TCy.seq (TCy.cond (t:=false) rfl (λe=>by cases e) (λ_=>?_));exact TCy.exit ⟨.inl rfl,.inl rfl⟩
 .obtain⟨G,r,k⟩:=Qep p rfl;cases G with
  |nil=>cases k
  |cons e i=>
   simp only[Vf,List.cons.injEq]at k;obtain⟨rfl,rfl⟩:=k;have d:i.length<n:=by rw[<- R, <- r.length_eq];simp
   refine Qz rfl rfl rfl (OpV.extract (v:=.bool true) rfl rfl rfl) ?_;refine WO.nil ?_;refine TCy.seq (TCy.cond (t:=true) rfl (λ_=>?_) (λe=>by cases e));refine TCy.skip ?_;refine TCy.block ?_;refine TCy.seq (round X e i _ _ _ _ rfl rfl rfl rfl ?_);intro env' H' g0 g1 g5 hfin hld hL;refine TCy.seq (TCy.region ?_);refine WOy.step (Qz rfl rfl rfl (OpV.move (v:=.fn (.yield X.l) [] []) rfl g0) (WO.nil ⟨rfl,?_⟩));refine WOy.step (Qz rfl rfl rfl (x:=ek e.1) (hld _ _ λs q=>?_) (WO.nil ⟨rfl,?_⟩))
   .simp only[up,lk];have:Nat.beq s 10=false:=by rw[VE];intro z;exact q (XO z)
    rw[this];rfl
   refine WOy.yield (x:=e.1) (rem:=i.map Prod.fst) ?_ rfl rfl rfl ?_ ?_
   .rw[hNx];exact r.symm.map Prod.fst
   .rw[hE];refine Qft (y:=.tmp 10) (z:=.tmp 11) (l:=X.l) (a:=ek e.1) rfl ?_ ?_ (Qfy (L _))
    .rfl
    .rfl
   .intro b;refine WOy.step (Qz rfl rfl rfl (OpV.not (b:=b) rfl rfl) (WO.nil ⟨rfl,?_⟩));refine WOy.nil ?_;refine TCy.cond (t:= !b) rfl (λq=>?_) (λq=>?_)
    .obtain rfl:b=false:=by simpa using q
     exact TCy.ret ⟨.inr rfl,.inr ⟨_,rfl⟩⟩
    .obtain rfl:b=true:=by simpa using q
     refine TCy.skip ?_;exact⟨_,d,i,rfl,rfl,hfin _ true g0 g1 g5⟩
theorem QdR{g:FuncId}{fn:Func}(t:P.funcs[g]?=some fn)(k:fn.body=some (QiK tm tb ty tk (QkU tk) (.move (.tmp 3))))(f:fn.ntmps=14)(n:fn.results= #[])(h:∀w,(isAgg tm).run P w=.ok false w)(q:P.underlying tm=some (.map kt et))(j:∀x,Qbr (ek x)=true):
  Qff P g [.ptr 0 0] [.cells tm [.map 1],.fmap (Qh ek ev m)] (λx=>[ek x]) anyN (m.map Prod.fst):=by
 refine QhE (et:=et) (kt:=kt) t k f n h q j ?_;intro X e l env H st Q g0 g1 g5 hH hk;subst hH;refine TCy.lift (TC.region ?_);refine Qz rfl rfl rfl (OpV.entry (e:=(ek e.1,ev e.2)) rfl g5 rfl) ?_;refine Qz rfl rfl rfl (OpV.extract (v:=ek e.1) rfl rfl rfl) ?_;refine Qz rfl rfl rfl (OpV.assign (v:=ek e.1) rfl rfl) ?_;refine WO.nil ?_;refine hk _ _ g0 g1 g5 ?_ ?_ rfl
 .intro a b p r s;exact Le.trans (QeN (i:=2) (es:=Qh ek ev l) rfl rfl) (Lr [0,1,2] (hE:=⟨p,r,s,trivial⟩))
 .intro pos a d;exact OpV.move rfl (by show lk a 3=_;rw[d 3 (by decide)];rfl)
end
def Qk4(ts tq fA:Nat):Code:=(Code.region 0 #[{dst:=some 2,op:=.assign (.const (.slice none 0 0)),type:=ts,pos:="iter.go:59",after:= #[],guard:=none}] false).seq
 ((Code.region 1 #[{dst:=some 3,op:=.move (.tmp 0),type:=tq,pos:="iter.go:60",after:= #[],guard:=none},
  {dst:=some 4,op:=.call {callee:=.value (.func fA),args:= #[.const (.slice none 0 0),.tmp 3],argTypes:= #[ts,tq]},type:=ts,pos:="iter.go:60",after:= #[{on:=0,ground:=.data}],guard:=none},
  {dst:=some 2,op:=.assign (.tmp 4),type:=ts,pos:="iter.go:60",after:= #[{on:=1,ground:=.data},{on:=1,ground:=.chain},{on:=0,ground:=.phase},{on:=1,ground:=.phase}],guard:=none}] false).seq .ret)
theorem QeP{P:Program}{T:Type}{f j i k l:Nat}{g:FuncId}{es:List (A×A)}{e:T->List A}{xs:List T}{m a:FuncId}{fn:Func}(w:P.funcs[m]?=some fn)(t:fn.body=some (Qk4 f j a))(n:fn.ntmps=5)(u:fn.results= #[.tmp 2])
  (b:∀(env:Env) (H:Qc),lk env 3=.fn (.func g) [] [.ptr 0 0]->OpC P {dst:=some 4,op:=.call {callee:=.value (.func a),args:= #[.const (.slice none 0 0),.tmp 3],argTypes:= #[f,j]},type:=f,pos:="iter.go:60",after:= #[{on:=0,ground:=.data}],guard:=none} env H a [.nils,.fn (.func g) [] [.ptr 0 0]])
  (q:C P a [.nils,.fn (.func g) [] [.ptr 0 0]] [.cells l [.map 1],.fmap es] (λr H1=>∃p:List T,p.Perm xs/\r=.osl 2 0 p.length k/\H1=[.dead,.fmap es,.row i k (p.map e)])):
  C P m [.fn (.func g) [] [.ptr 0 0]] [.cells l [.map 1],.fmap es] (λr H1=>∃p:List T,p.Perm xs/\r=.osl 2 0 p.length k/\H1=[.dead,.fmap es,.row i k (p.map e)]):=by
 refine Qa w t n rfl ?_;refine TC.seq (TC.region ?_);refine Qz rfl rfl rfl (OpV.assign (v:=.nils) rfl rfl) ?_;refine WO.nil ?_;refine TC.seq (TC.region ?_);refine Qz rfl rfl rfl (OpV.move (v:=.fn (.func g) [] [.ptr 0 0]) rfl rfl) ?_;refine WO.call (d:=some 4) [0,1] (XP rfl) rfl rfl (λx h=>by cases h;decide) (b _ _ rfl) rfl rfl (by decide) q ?_;rintro r H1 ⟨p,s,rfl,rfl⟩;refine Qz rfl rfl rfl (OpV.assign (v:=.osl 2 0 p.length k) rfl rfl) ?_;refine WO.nil ?_;refine TC.ret ?_;exact⟨[(2,.osl 2 0 p.length k)],[.dead,.fmap es,.row i k (p.map e)],_,Lr [0,1,2],QbO.one u rfl,p,s,rfl,rfl⟩
def anyK{K R:Type}[DecidableEq R](l:List K)(k:List K->Option R):Option R:=bif Nat.ble l.length QK then anyP k l else none
theorem Qhn{K R:Type}[DecidableEq R]{l:List K}{k:List K->Option R}{r:R}(h:anyK l k=some r):Nat.ble l.length QK=true/\ ∀p,p.Perm l->k p=some r:=by
 unfold anyK at h;cases q:Nat.ble l.length QK with
 |true=>rw[q]at h;exact⟨rfl,Qhm h⟩
 |false=>rw[q]at h;cases h
end Go.Sw
namespace Go.Sw
section
variable {P:Program} {o:Oper} {env:Env} {H:Qc} {fr ro:Nat->Prop} {σ:Sig} {w:World}
theorem Qh8{h0 i t b1 b2:Nat}{es:List (List A)}{l:List Ent}(hH:H[i]?=some (.rowr t 3 es))(he:l.map (eC b1 b2)=es):Le h0 env H env (H.set i (.ents t b1 b2 l)):=by
 subst he;intro e d σ N a w r;refine⟨d,σ,⟨r.sim.weaken (x':=.ents t b1 b2 l) hH rfl ?_,r.env,r.size,r.defers⟩,λ_ q=>q,rfl⟩;intro y h;cases y with
 |none=>exact h.elim
 |some b=>exact h
theorem Qcf{b1 b2:Nat}:∀(l:List Ent),allK 3 (l.map (eC b1 b2))
 |[]=>trivial
 |e::l=>⟨rfl,Qcf l⟩
theorem Sim.phantomE(s:Sim fr ro σ H w)(t b1 b2:Nat):Sim fr ro (σ++[none]) (H++[.ents t b1 b2 []]) w:=by
 have ext:Ext ro σ w ro (σ++[none]) w:=⟨λ_ q=>q,λ_ _=>rfl,λ_ _ q=>q,λ_ _ h=>Yq h⟩;have E:=s.len;have a:∀(j:Nat) (v:Blk),(H++[Blk.ents t b1 b2 []])[j]?=some v->(j<H.length/\H[j]?=some v)\/(j=H.length/\v=.ents t b1 b2 []):=by
  intro j v h;rcases Nat.lt_trichotomy j H.length with q|q|q
  .rw[XK q]at h;exact .inl ⟨q,h⟩
  .subst q;simp at h;exact .inr ⟨rfl,h.symm⟩
  .rw[XM (by simp;omega)]at h;cases h
 have hσ:∀(j:Nat) (z:Option Nat),(σ++[none])[j]?=some z->(j<σ.length/\σ[j]?=some z)\/(j=σ.length/\z=none):=by
  intro j z h;rcases Nat.lt_trichotomy j σ.length with q|q|q
  .rw[XK q]at h;exact .inl ⟨q,h⟩
  .subst q;simp at h;exact .inr ⟨rfl,h.symm⟩
  .rw[XM (by simp;omega)]at h;cases h
 refine⟨by simp[E],s.roOk,s.frLt,s.roFr,λi b x k g m=>?_,λi j b x y k g m J u F=>?_,λi z x k g=>?_,
  s.hidTo (· = ·) QP (XR _) (λ_ _ _ _ _ _ _ q=>q) (λ_ _ _ _ _ _ _ q=>q) λj d y B L M=>.inl ?_⟩
 rotate_left 3
 .rcases hσ j _ B with⟨l,f⟩|⟨_,r⟩
  .rcases a j y L with⟨_,e⟩|⟨e,_⟩
   .exact⟨j,y,rfl,f,e,id,λ_ q=>q⟩
   .omega
  .cases r
 .rcases hσ i _ k with⟨l,f⟩|⟨_,r⟩
  .rcases a i x g with⟨_,e⟩|⟨e,_⟩
   .exact s.own i b x f e m
   .omega
  .cases r
 .rcases hσ i _ k with⟨l,f⟩|⟨_,r⟩
  .rcases hσ j _ g with⟨G,n⟩|⟨_,r⟩
   .rcases a i x m with⟨_,e⟩|⟨e,_⟩
    .rcases a j y J with⟨_,p⟩|⟨p,_⟩
     .exact s.inj i j b x y f n e p u F
     .omega
    .omega
   .cases r
  .cases r
 .rcases hσ i _ k with⟨l,f⟩|⟨l,rfl⟩
  .rcases a i x g with⟨_,e⟩|⟨e,_⟩
   .exact(s.blk i z x f e).keep ext (λ_ _ _=>rfl) (λ_ _ _ _=>rfl)
   .omega
  .rcases a i x g with⟨e,_⟩|⟨_,rfl⟩
   .omega
   .rfl
theorem Le.phantomE{h0 i m t T b1 b2:Nat}{cs:List A}(E:Nat.ble h0 H.length=true)(hH:H[i]?=some (.cells T cs))(e:cs[m]?=some .nils):
  Le h0 env H env (H.set i (.cells T (cs.set m (.osl H.length 0 0 3)))++[.ents t b1 b2 []]):=by
 intro G g σ N a w r;have j:h0<=H.length:=XP E;have z:i<H.length:=(XJ.1 hH).1;have ext:Ext g σ w g (σ++[none]) w:=⟨λ_ q=>q,λ_ _=>rfl,λ_ _ q=>q,λ_ _ h=>Yq h⟩;have s:=r.sim.phantomE t b1 b2;have d:(H++[Blk.ents t b1 b2 []])[i]?=some (.cells T cs):=by rw[XK z];exact hH
 have x:H.set i (.cells T (cs.set m (.osl H.length 0 0 3)))++[.ents t b1 b2 []]=(H++[Blk.ents t b1 b2 []]).set i (.cells T (cs.set m (.osl H.length 0 0 3))):=by
  rw[List.set_append_left _ _ z]
 rw[x];refine⟨g,σ++[none],⟨s.weaken d rfl ?_,λq=>(r.env q).mono ext,r.size,r.defers⟩,λ_ q=>q,Qp (by rw[r.sim.len];exact j)⟩;intro y h;cases y with
 |none=>exact h
 |some b=>
  obtain⟨l,p,F,u⟩:=h;refine⟨l,p,?_,u⟩;clear p u d x hH
  induction cs generalizing m l with
  |nil=>cases e
  |cons c cs B=>
   obtain⟨v,f,rfl,n,k⟩:=F;cases m with
   |zero=>
    simp at e;subst e;exact⟨v,f,rfl,.inl ⟨rfl,n⟩,k⟩
   |succ m=>exact⟨v,f,rfl,n,B (by simpa using e) f k⟩
theorem QF{h0 i m T:Nat}{cs:List A}(hH:H[i]?=some (.cells T cs)):Le h0 env H env (H.set i (.cells T (cs.set m .any))):=by
 intro s p σ N a w r;refine⟨p,σ,⟨r.sim.weaken hH rfl ?_,r.env,r.size,r.defers⟩,λ_ q=>q,rfl⟩;intro y h;cases y with
 |none=>exact h
 |some b=>
  obtain⟨l,f,j,g⟩:=h;refine⟨l,f,?_,g⟩;clear f g hH
  induction cs generalizing m l with
  |nil=>exact j
  |cons c cs n=>
   obtain⟨v,d,rfl,k,e⟩:=j;cases m with
   |zero=>exact⟨v,d,rfl,trivial,e⟩
   |succ m=>exact⟨v,d,rfl,k,n d e⟩
theorem srcE{j m t b1 b2:Nat}{l:List Ent}{v:Value}(s:Sim fr ro σ H w)(hH:H[j]?=some (.ents t b1 b2 l))(e:l.length=m)(h:VR ro σ w (.osl j 0 m 3) v):
  (∃a c,v=.slice a m c)/\ ∃vs:List Value,(∀w':World,w'.heap=w.heap->(Builtin.firstCells 3 m v).run P w'=.ok vs.toArray w')/\LR ro σ w (l.map (eC b1 b2)).flatten vs/\ ∀v∈vs,Qn v:=by
 rcases h with⟨rfl,rfl⟩|⟨b,p,d,B,E,u,rfl,x,z,G,F⟩
 .have:l=[]:=VB.1 e;subst this;exact⟨⟨none,0,rfl⟩,[],λ_ _=>YF,rfl,by simp⟩
 .refine⟨⟨_,d,rfl⟩,?_⟩;obtain⟨J,i,g⟩:=s.blk j _ _ u hH;have q:=Yz (pre:=[]) (by simpa using i) g;by_cases f:0<d
  .obtain rfl:=x f;obtain⟨r,L,y⟩:=q.flat;have:=Qby (P:=P) (k:=3) (n:=m) (c:=d) r (by rw[y];simp[e]);simpa using this
  .obtain rfl:m=0:=by omega
   have:l=[]:=VB.1 e;subst this;exact⟨[],λ_ _=>YF,rfl,by simp⟩
theorem Qjn{c:Call}{T T' t e' i j n m b1 b2:Nat}{x y:Operand}{l k:List Ent}(E:QM P T t 3)(hd:∀w,(underlying T').run P w=.ok (.slice e') w)(G:Nat.ble (l.length+k.length) QK=true)(R:Nat.blt 0 n=true)
  (ho:o.op=.call c:=by exact rfl)(hc:c={callee:=.builtin .append,args:= #[x,y],argTypes:= #[T,T']}:=by exact rfl)(hx:opA env x=.osl i 0 n 3:=by exact rfl)(hH:H[i]?=some (.ents t b1 b2 l):=by exact rfl)(hn:l.length=n:=by exact rfl)
  (hy:opA env y=.osl j 0 m 3:=by exact rfl)(hHj:H[j]?=some (.ents t b1 b2 k):=by exact rfl)(hm:k.length=m:=by exact rfl):
  OpH P o env H (.osl H.length 0 (l++k).length 3) (H.set i .dead++[.ents t b1 b2 (l++k)]):=by
 intro fr s σ N a w r;have W:=XP G;have ah:0<n:=by simpa using R
 have B:=Qf r x;rw[hx]at B;have h2:=Qf r y;rw[hy]at h2;obtain⟨⟨ay,cy,Q⟩,vs,V,q4,M⟩:=srcE (P:=P) r.sim hHj hm h2;rw[Q]at V;obtain⟨_,e,o1,o2,o3⟩:=srcE (P:=P) r.sim hH hn B;have ac:i<H.length:=(XJ.1 hH).1;have ai:(H.set i .dead).length=H.length:=XZ;rw[XY,hn,hm];rcases B with⟨q,_⟩|⟨b,p,cap,t',mm,h3,B,h4,h5,X,h7⟩
 .omega
 have F:=r.sim.blk i _ _ h3 hH;obtain⟨lb,g1,g2⟩:=F;have z:vs.length=m*3:=by rw[q4.length,Yg (Qcf k)];simp[hm]
 have ab:e.length=n*3:=by rw[o2.length,Yg (Qcf l)];simp[hn]
 rw[B]at o1;by_cases g:n+m<=cap
 .obtain rfl:p=0*3:=h4 (by omega);have f:=Qb5 (t:=o.type) E hd (ad:=some ⟨b,0*3,none⟩) (n:=n) (m:=m) (cap:=cap) (c:=cy) (ax:=ay) g (V w rfl);have u:(n+m)*3<=lb.length:=by
   have:w.shape? b=some (t,lb.length):=by unfold World.shape?;rw[g1];simp
   rw[this]at X;cases X;exact XT (XB 3 g) (by simpa using h7)
  rw[Xz]at u;have Y:=QT (P:=P) (vs:=vs) (n*3) 0 g1 (by rw[z];simpa using u) M;have h:=r.sim.set (x':=.ents t b1 b2 (l++k)) (obj:=.cells (splice lb (n*3) vs).toArray t (0,0)) h3 hH rfl
   (λy hy=>Qae g1 (QS (by rw[z];exact u)) y hy)
   (λex O=>⟨_,O,by
    have:=(g2.app (n:=n) (by simp[hn]) (Qcf k) q4 M).mono ex;rw[VA (by simp[hn])]at this;rw[Xf];exact this⟩)
  have sm:=h.1.moved (i:=i) (Xa ac) h3;rw[List.set_set]at sm;refine⟨.slice (some ⟨b,0*3,none⟩) (n+m) cap,_,s,[some b],?_,.inr ⟨b,0*3,cap,t',mm,?_,rfl,h4,g,?_,h7⟩,sm,h.2⟩
  .refine YG ho hc _ ?_;rw[B,Q,f];simp only[YR,Nat.zero_mul,Xu,Vi,Y,Result.andThen,Vj];simp
  .rw[<- r.sim.len];simp
  .exact h.2.shape _ _ X
 .obtain⟨d,nc,ag,aa,f⟩:=Qfz (t:=o.type) E hd rfl (by omega) (by omega) V o1
  let w0:World:={w with drawn:=w.drawn+1}
  have J:Sim fr s σ (H.set i .dead) w0:=(r.sim.kill i).heap rfl;have e0:Qg fr s w s w0:=Qg.heap rfl rfl rfl rfl (Nat.le_succ _);have ae:LR s σ w0 ((l++k).map (eC b1 b2)).flatten (e++vs):=by
   rw[Xf,Xp];exact(o2.append q4).mono (Ext.heap (w:=w) (w':=w0) rfl)
  have af:∀v∈e++vs,Qn v:=λv hv=>by rcases Vv.1 hv with q|q;exact o3 v q;exact M v q
  have s1:=J.alloc (x:=.ents t b1 b2 (l++k)) (obj:=.cells ((e++vs)++d).toArray t) ⟨(e++vs)++d,Q1 _ _,(YZ (Qcf _) ae af).mono ((Qg.alloc (fr:=fr) _ J.roLt J.frLt).ext σ _)⟩;have L:Qg fr s w0 s (w0.alloc (.cells ((e++vs)++d).toArray t)):=Qg.alloc _ J.roLt J.frLt;refine⟨_,_,s,[some w.heap.size],YG ho hc a.eval (by rw[B,Q];exact f),.inr ⟨w.heap.size,0,nc,t,(e++vs++d).length,?_,rfl,λ_=>by simp,ag,?_,?_⟩,s1,e0.trans L⟩
  .rw[<- r.sim.len];simp
  .have:=Q1 w0 (.cells ((e++vs)++d).toArray t);unfold World.shape?;rw[show w.heap.size=w0.heap.size from rfl,this];simp
  .simp only[XY,aa,ab,z,Xu];omega
theorem QeL{c:Call}{T T' t e' i j n m b1 b2:Nat}{x y:Operand}{d b r:List Ent}(h:app d b=some r)(E:QM P T t 3)(e:∀w,(underlying T').run P w=.ok (.slice e') w)(a:Nat.blt 0 n=true)
  (g:o.op=.call c:=by exact rfl)(hc:c={callee:=.builtin .append,args:= #[x,y],argTypes:= #[T,T']}:=by exact rfl)(hx:opA env x=.osl i 0 n 3:=by exact rfl)(hH:H[i]?=some (.ents t b1 b2 d):=by exact rfl)(hn:d.length=n:=by exact rfl)
  (hy:opA env y=.osl j 0 m 3:=by exact rfl)(hHj:H[j]?=some (.ents t b1 b2 b):=by exact rfl)(hm:b.length=m:=by exact rfl):
  OpH P o env H (.osl H.length 0 r.length 3) (H.set i .dead++[.ents t b1 b2 r]):=by
 obtain⟨f,rfl⟩:=QgG h;exact Qjn E e (XQ f) a g hc hx hH hn hy hHj hm
theorem Pts.ents{i off t e f b1 b2:Nat}{l:List Ent}{x:Ent}{cs':List A}(he:l[e]?=some x)(hH:H[i]?=some (.ents t b1 b2 l):=by exact rfl)(ho:off=e*3+f:=by exact rfl)(hcs:(eC b1 b2 x).drop f=cs':=by exact rfl):Pts H (.ptr i off) cs':=by
 intro p n σ w v s h;obtain⟨b,j,k⟩:=h;obtain⟨m,g,d⟩:=s.blk i _ _ j hH;have a:(l.map (eC b1 b2))[e]?=some (eC b1 b2 x):=by rw[Xn,he];rfl
 have:=((Yz (pre:=[]) (by simpa using g) d).get e a).2.drop f;refine⟨b,off,k,?_⟩;rw[<- hcs,ho];simpa using this
def QgA(cs:List A)(s:Int)(e:Ent):Option Int:=bif e.fl then(bif e.off==0 then some s else none)else match cs[e.off]? with
 |some (.int .i64 v)=>some v
 |_=>none
def putE{F:Type}(put:F->Nat->Int->Option F)(x:F)(s:Int)(e:Ent)(v:Int):Option (F×Int):=
 bif e.fl then(bif e.off==0 then some (x,v)else none)else(put x e.off v).map λy=>(y,s)
abbrev Qfa(b1 b2:Nat)(e:Ent):A:=.ptr (bif e.fl then b2 else b1) e.off
theorem Qi2{l:List A}{i:Nat}{a:A}(h:l[i]?=some a):∃r,l.drop i=a::r:=by
 obtain⟨b,rfl⟩:=XJ.1 h;exact⟨_,Xo b⟩
theorem QbD{t b1 b2 T1 T2:Nat}{x:Operand}{e:Ent}{cs:List A}{s v:Int}(h:QgA cs s e=some v)(f:∀w,(isAgg t).run P w=.ok false w)(i:o.op=.load t x:=by exact rfl)(hx:opA env x=Qfa b1 b2 e:=by exact rfl)
  (h1:H[b1]?=some (.cells T1 cs):=by exact rfl)(h2:H[b2]?=some (.cells T2 [.int .i64 s]):=by exact rfl):OpV P o env H (.int .i64 v):=by
 unfold QgA at h;unfold Qfa at hx;cases g:e.fl with
 |true=>
  rw[g]at h hx;simp only[Vk]at h hx;cases b:e.off==0 with
  |false=>rw[b]at h;cases h
  |true=>
   rw[b]at h;have m:e.off=0:=by simpa using b
   rw[m]at hx;have l:s=v:=by simpa using h
   subst l;exact OpV.load i f hx (Pts.cells (cs':=[.int .i64 s]) h2 rfl)
 |false=>
  rw[g]at h hx;simp only[Vl]at h hx;cases d:cs[e.off]? with
  |none=>rw[d]at h;cases h
  |some a=>
   rw[d]at h;obtain⟨r,j⟩:=Qi2 d;cases a with
   |int k n=>
    cases k<;>first|(cases h;exact OpV.load i f hx (Pts.cells h1 j))|cases h
   |_=>cases h
theorem Qgj{l:List A}{i:Nat}{a:A}(h:i<l.length):splice l i [a]=l.set i a:=by
 unfold splice;rw[List.set_eq_take_append_cons_drop,Vo h];simp
theorem Qfx{i:Nat}{b:Blk}(h:H[i]?=some b):H.set i b=H:=by
 apply List.ext_getElem?;intro j;rw[Xb];by_cases e:i=j
 .subst e;rw[Vo rfl,Vo (XJ.1 h).1,h]
 .rw[Vn e]
theorem QgR{F:Type}{c:F->List A}{put:F->Nat->Int->Option F}{t b1 b2 T1 T2:Nat}{x y:Operand}{e:Ent}{f f':F}{s s' v:Int}(h:putE put f s e v=some (f',s'))(a:∀x o v y,put x o v=some y->c y=(c x).set o (.int .i64 v)/\o<(c x).length)
  (k:∀w,(sizeOf t).run P w=.ok 1 w)(m:o.op=.store t x y:=by exact rfl)(hx:opA env x=Qfa b1 b2 e:=by exact rfl)(h1:H[b1]?=some (.cells T1 (c f)):=by exact rfl)(h2:H[b2]?=some (.cells T2 [.int .i64 s]):=by exact rfl)(hy:opA env y=.int .i64 v:=by exact rfl)
  (hb:Nat.beq b1 b2=false:=by exact rfl):OpU P o env H ((H.set b1 (.cells T1 (c f'))).set b2 (.cells T2 [.int .i64 s'])):=by
 have i:b1≠b2:=λq=>by subst q;rw[Vx]at hb;cases hb
 unfold putE at h;unfold Qfa at hx;cases l:e.fl with
 |true=>
  rw[l]at h hx;simp only[Vk]at h hx;cases b:e.off==0 with
  |false=>rw[b]at h;cases h
  |true=>
   rw[b]at h;have p:e.off=0:=by simpa using b
   rw[p]at hx;obtain⟨rfl,rfl⟩:f=f'/\v=s':=by simpa using h
   rw[Qfx h1];exact OpU.store (cs:=[.int .i64 s]) (vs:=[.int .i64 v]) (cs':=[.int .i64 v]) (v:=.int .i64 v) m hx h2 k hy rfl rfl rfl rfl rfl rfl
 |false=>
  rw[l]at h hx;simp only[Vl]at h hx;cases d:put f e.off v with
  |none=>rw[d]at h;cases h
  |some g=>
   rw[d]at h;obtain⟨rfl,rfl⟩:g=f'/\s=s':=by simpa using h
   obtain⟨n,j⟩:=a _ _ _ _ d;have r:(H.set b1 (.cells T1 (c g)))[b2]?=some (.cells T2 [.int .i64 s]):=by rw[XN i];exact h2
   rw[Qfx r];exact OpU.store (cs:=c f) (vs:=[.int .i64 v]) (cs':=c g) (v:=.int .i64 v) m hx h1 k hy rfl rfl rfl rfl (XQ j) (by rw[Qgj j,n])
end
section
variable {P:Program} {h0 N:Nat} {A B C:Code} {env:Env} {H:Qc} {Q:Qv}
theorem Qjh{S B1:Type}{b:Ctl S B1}(Eb:S->Env)(Hb:S->Qc)(h:TC P h0 N A env H (Seq P h0 N B (Qd4 h0 b Eb Hb (Seq P h0 N C Q))))(k:∀s env H,b=.cont s->Le h0 env H (Eb s) (Hb s)->Seq P h0 N C Q .normal env H):TC P h0 N (.seq A (.seq B C)) env H Q:=by
 refine TC.seq (h.mono λx env' H' q=>?_);cases x with
 |normal=>exact TC.seq (Qfd Eb Hb q k)
 |exit id=>exact q
 |ret=>exact q
end
end Go.Sw
namespace Go.Sw
section
variable {P:Program} {o:Oper} {env:Env} {H:Qc}
theorem QdH{f g:Nat->Option (Nat×Nat)}:∀(parts:List (Nat×Value)) (cs:Array Value),(∀p∈parts,f p.1=g p.1)->Instr.fill f cs parts=Instr.fill g cs parts
 |[],cs,_=>rfl
 |(i,v)::rest,cs,h=>by
  unfold Instr.fill;rw[h (i,v) (by simp)];have ih:=λcs=>QdH rest cs (λp hp=>h p (by simp[hp]));cases g i with
  |none=>rfl
  |some p=>
   obtain⟨off,size⟩:=p;simp only;split
   .rfl
   .exact ih _
theorem Y8{t e n k:Nat}{z:Value}{zs cs:List A}{parts:List (Nat×Operand)}(G:∀w,(zeroValue t).run P w=.ok z w)(s:ZR (.agg zs) z)(x:∀w,(underlying t).run P w=.ok (.array n e) w)(h:∀w,(sizeOf e).run P w=.ok k w)
  (j:(parts.all λp=>Nat.blt p.1 n)=true)(F:o.op=.build t parts.toArray:=by exact rfl)(hf:QcT env ((List.range n).map λi=>(i*k,k)) zs parts=some cs:=by exact rfl):OpV P o env H (.agg cs):=by
 intro J y σ N a w r;obtain⟨l,rfl,u⟩:=s y σ w;obtain⟨b,B,E⟩:=QdI r parts zs l cs u hf;refine⟨.agg b.toArray,?_,b,rfl,E⟩;have m:Instr.fill (λi=>some (i*k,k)) l.toArray (parts.map λp=>(p.1,a.eval p.2))=some b.toArray:=by
  rw[<- B];refine QdH _ _ ?_;intro p g;obtain⟨q,f,rfl⟩:=Xe.1 g;have d:q.1<n:=by simpa using Xq.1 j q f
  simp[d]
 generalize hρ:a.eval=ρ at*;simp only[execOp,F,Instr.build,Vi,G,Result.andThen,x,h,XG,Vj,Value.cells,m]
def Ys(k:IntKind)(m n:Int):Int:=k.wrap (BitVec.ofInt k.bits m&&& BitVec.ofInt k.bits n).toNat
def orI(k:IntKind)(m n:Int):Int:=k.wrap (BitVec.ofInt k.bits m|||BitVec.ofInt k.bits n).toNat
def Qgh(k:IntKind)(m n:Int):Int:=k.wrap (BitVec.ofInt k.bits m^^^BitVec.ofInt k.bits n).toNat
def Qfw(k:IntKind)(m n:Int):Int:=k.wrap (m*2^(min n.toNat k.bits))
def Yf(k:IntKind)(m n:Int):Int:=m.fdiv (2^(min n.toNat k.bits))
theorem OpV.and{t u:TypeId}{x y:Operand}{k:IntKind}{m n:Int}(g:o.op=.binOp .and t x y u)(e:opA env x=.int k m)(d:opA env y=.int k n):OpV P o env H (.int k (Ys k m n)):=by
 intro i h σ N a w r;have f:=QI r e;have b:=QI r d;refine⟨_,?_,rfl⟩;generalize a.eval=ρ at*;simp[execOp,g,f,b,Go.binOp,eqGuard,Op.intBits,go_sem,Ys]
theorem OpV.or{t u:TypeId}{x y:Operand}{k:IntKind}{m n:Int}(g:o.op=.binOp .or t x y u)(e:opA env x=.int k m)(d:opA env y=.int k n):OpV P o env H (.int k (orI k m n)):=by
 intro i h σ N a w r;have f:=QI r e;have b:=QI r d;refine⟨_,?_,rfl⟩;generalize a.eval=ρ at*;simp[execOp,g,f,b,Go.binOp,eqGuard,Op.intBits,go_sem,orI]
theorem OpV.xor{t u:TypeId}{x y:Operand}{k:IntKind}{m n:Int}(g:o.op=.binOp .xor t x y u)(e:opA env x=.int k m)(d:opA env y=.int k n):OpV P o env H (.int k (Qgh k m n)):=by
 intro i h σ N a w r;have f:=QI r e;have b:=QI r d;refine⟨_,?_,rfl⟩;generalize a.eval=ρ at*;simp[execOp,g,f,b,Go.binOp,eqGuard,Op.intBits,go_sem,Qgh]
theorem OpV.shl{t u:TypeId}{x y:Operand}{k f:IntKind}{m n:Int}(h:o.op=.binOp .shl t x y u)(g:opA env x=.int k m)(d:opA env y=.int f n)(i:0<=n):OpV P o env H (.int k (Qfw k m n)):=by
 intro l j σ N a w r;have b:=QI r g;have e:=QI r d;refine⟨_,?_,rfl⟩;generalize a.eval=ρ at*;simp[execOp,h,b,e,Go.binOp,eqGuard,Op.shift,go_sem,Qfw,Int.not_lt.2 i]
theorem OpV.shr{t u:TypeId}{x y:Operand}{k f:IntKind}{m n:Int}(h:o.op=.binOp .shr t x y u)(g:opA env x=.int k m)(d:opA env y=.int f n)(i:0<=n):OpV P o env H (.int k (Yf k m n)):=by
 intro l j σ N a w r;have b:=QI r g;have e:=QI r d;refine⟨_,?_,rfl⟩;generalize a.eval=ρ at*;simp[execOp,h,b,e,Go.binOp,eqGuard,Op.shift,go_sem,Yf,Int.not_lt.2 i]
theorem Yx{h0 i m t k T:Nat}{cs:List A}(F:Nat.ble h0 H.length=true)(hH:H[i]?=some (.cells T cs))(e:cs[m]?=some .nils):
  Le h0 env H env (H.set i (.cells T (cs.set m (.osl H.length 0 0 k)))++[.row t k []]):=by
 intro J g σ N a w r;have j:h0<=H.length:=XP F;have B:i<H.length:=(XJ.1 hH).1;have ext:Ext g σ w g (σ++[none]) w:=⟨λ_ q=>q,λ_ _=>rfl,λ_ _ q=>q,λ_ _ h=>Yq h⟩;have s:=r.sim.phantom t k;have d:(H++[Blk.row t k []])[i]?=some (.cells T cs):=by rw[XK B];exact hH
 have z:H.set i (.cells T (cs.set m (.osl H.length 0 0 k)))++[.row t k []]=(H++[Blk.row t k []]).set i (.cells T (cs.set m (.osl H.length 0 0 k))):=by
  rw[List.set_append_left _ _ B]
 rw[z];refine⟨g,σ++[none],⟨s.weaken d rfl ?_,λq=>(r.env q).mono ext,r.size,r.defers⟩,λ_ q=>q,Qp (by rw[r.sim.len];exact j)⟩;intro y h;cases y with
 |none=>exact h
 |some b=>
  obtain⟨l,u,G,x⟩:=h;refine⟨l,u,?_,x⟩;clear u x d z hH
  induction cs generalizing m l with
  |nil=>cases e
  |cons c cs E=>
   obtain⟨v,f,rfl,p,n⟩:=G;cases m with
   |zero=>
    simp at e;subst e;exact⟨v,f,rfl,.inl ⟨rfl,p⟩,n⟩
   |succ m=>exact⟨v,f,rfl,p,E (by simpa using e) f n⟩
theorem QeM{h0 i s g n k:Nat}{x:Blk}(j:lk env s=.osl i g n k)(hH:H[i]?=some x)(y:Nat.ble h0 H.length=true):Le h0 env H (up env s (.osl H.length g n k)) (H.set i .dead++[x]):=by
 intro E f σ N a w r;have B:i<σ.length:=by rw[r.sim.len];exact(XJ.1 hH).1
 have hσ:σ[i]?=some σ[i]:=XI B;have ext:Ext f σ w f (σ++[σ[i]]) w:=⟨λ_ q=>q,λ_ _=>rfl,λ_ _ q=>q,λ_ _ h=>Yq h⟩;refine⟨f,σ++[σ[i]],⟨r.sim.moved hH hσ,?_,r.size,r.defers⟩,λ_ q=>q,Qp (by rw[r.sim.len];exact XP y)⟩;intro d;simp only[lk];by_cases q:d=s
 .subst q;rw[Vx];have:=r.env d;rw[j]at this;rcases this with h|⟨b,p,e,t,m,l,u⟩
  .exact .inl h
  .refine .inr ⟨b,p,e,t,m,?_,u⟩;rw[l]at hσ;rw[<- r.sim.len];simpa using hσ.symm
 .have:Nat.beq d s=false:=by
   rw[VE];intro z;exact q (XO z)
  rw[this];exact(r.env d).mono ext
def QcB(n:Int):UInt8:=n.toNat.toUInt8
def QhP(P:Program)(H:Qc)(x:A)(l:List Int):Prop:=
 ∀fr ro σ w v,Sim fr ro σ H w->VR ro σ w x v->(∃a c,v=.slice a 0 c/\l=[])\/ ∃b off c,v=.slice (some ⟨b,off,none⟩) l.length c/\(l=[]\/CR ro σ w b (l.map λn=>A.int .u8 n) off)
theorem Qe6:∀(l:List Int),(l.map (λn=>[A.int .u8 n])).flatten=l.map λn=>A.int .u8 n
 |[]=>rfl
 |n::l=>by simp[Qe6 l]
theorem QhP.nils:QhP P H .nils []:=λfr ro σ w v s h=>.inl ⟨none,0,h,rfl⟩
theorem QhP.row{i t n:Nat}{l:List Int}(hH:H[i]?=some (.row t 1 (l.map λn=>[A.int .u8 n])):=by exact rfl)(hn:l.length=n:=by exact rfl):QhP P H (.osl i 0 n 1) l:=by
 intro B x σ w v s h;rcases h with⟨rfl,rfl⟩|⟨b,p,a,z,m,j,rfl,k,q,r,y⟩
 .exact .inl ⟨none,0,rfl,VB.1 hn⟩
 .refine .inr ⟨b,p,a,by rw[hn],?_⟩;by_cases e:l=[]
  .exact .inl e
  .have:0<a:=by have:=List.length_pos_iff.2 e;omega
   obtain rfl:=k this;obtain⟨u,g,f⟩:=s.blk i _ _ j hH;have d:=(Yz (pre:=[]) (by simpa using g) f).flat.1;rw[Qe6]at d;exact .inr (by simpa using d.lift)
theorem QhP.rsl{l:List Int}:QhP P H (.rsl 1 (l.map λn=>[A.int .u8 n])) l:=by
 intro j i σ w v s ⟨a,c,h1,h2,d⟩;subst h1;rw[XX]at*;rcases d with d|⟨b,e,rfl,h,g⟩
 .have:l=[]:=List.map_eq_nil_iff.1 d;subst this;exact .inl ⟨a,c,by simp,rfl⟩
 .have f:=g.flat.1;rw[Qe6]at f;exact .inr ⟨b,e,c,rfl,.inr f.lift⟩
theorem QbI{ro:Nat->Prop}{σ:Sig}{w:World}{b:Nat}:∀(l:List Int) (off:Nat) (a:ByteArray),CR ro σ w b (l.map λn=>A.int .u8 n) off->(Extern.Bytes.loadBytes ⟨b,off,none⟩ l.length a).run P w=.ok ⟨a.data++(l.map QcB).toArray⟩ w
 |[],off,a,_=>by simp[Extern.Bytes.loadBytes,go_sem]
 |n::l,off,a,⟨⟨v,h1,hp,h2⟩,h3⟩=>by
  have h2':v=.int .u8 n:=h2;subst h2';have ih:=QbI l (off+1) (a.push n.toNat.toUInt8) h3;have hl:(Go.load ⟨b,off,none⟩).run P w=.ok (.int .u8 n) w:=by simp[Go.load,Sem.run,h1]
  simp only[XW,Extern.Bytes.loadBytes,Vi,hl,Result.andThen];have d:(⟨b,off,none⟩:Addr).add 1=⟨b,off+1,none⟩:=by simp[YR]
  rw[d,ih];simp[QcB,ByteArray.push]
theorem QcN{fr ro:Nat->Prop}{σ:Sig}{w:World}{x:A}{l:List Int}{v:Value}(h:QhP P H x l)(s:Sim fr ro σ H w)(f:VR ro σ w x v):(Extern.Bytes.bytesOf v).run P w=.ok ⟨(l.map QcB).toArray⟩ w:=by
 rcases h fr ro σ w v s f with⟨a,c,rfl,rfl⟩|⟨b,e,c,rfl,d⟩
 .cases a with
  |none=>simp[Extern.Bytes.bytesOf,go_sem];rfl
  |some a=>simp[Extern.Bytes.bytesOf,Extern.Bytes.loadBytes,go_sem];rfl
 .rcases d with rfl|d
  .simp[Extern.Bytes.bytesOf,Extern.Bytes.loadBytes,go_sem];rfl
  .have:=QbI (P:=P) l e .empty d;simp only[Extern.Bytes.bytesOf,this];congr 2;simp[ByteArray.empty,ByteArray.emptyWithCapacity];rfl
def cmpB(l m:List Int):Int:=Lib.compareBytes (l.map QcB) (m.map QcB)
theorem OpV.cmpB{c:Call}{f:FuncId}{fn:Func}{x y:Operand}{j:Array TypeId}{ax d:A}{l m:List Int}(z:P.funcs[f]?=some fn)(b:(fn.name=="runtime.NumGoroutine")=false)(i:fn.body.isNone=true)(B:Extern.findNext fn=none)(he:Extern.find fn=some Extern.BytealgCompare.compare)
  (k:QhP P H ax l)(q:QhP P H d m)(p:o.op=.call c:=by exact rfl)(hc:c={callee:=.value (.func f),args:= #[x,y],argTypes:=j}:=by exact rfl)(hx:opA env x=ax:=by exact rfl)(hy:opA env y=d:=by exact rfl):OpV P o env H (.int .i64 (cmpB l m)):=by
 intro F E σ N a w r;have g:=Qf r x;rw[hx]at g;have h:=Qf r y;rw[hy]at h;have s:=QcN k r.sim g;have t:=QcN q r.sim h;refine⟨.int .i64 (Sw.cmpB l m),?_,rfl⟩;subst hc;have e:a.eval (.func f)=.func (.func f) #[] #[]:=rfl;have n:(callFunc f #[a.eval x,a.eval y]).run P w=.ok (.value (.int .i64 (Sw.cmpB l m))) w:=by
  rw[run_callFunc_extern z b i B he];have u:Sem.run P (Extern.BytealgCompare.compare #[a.eval x,a.eval y]) w=.ok (.int .i64 (Sw.cmpB l m)) w:=by
   change Sem.run P (do pure (goInt (Extern.BytealgCompare.cmp (<- Extern.Bytes.bytesOf (a.eval x)) (<- Extern.Bytes.bytesOf (a.eval y))))) w=_;simp only[Vi,s,t,Result.andThen,Vj,Lib.cmp_eq];rfl
  rw[u];rfl
 generalize a.eval=ρ at*;simp only[execOp,p,resolve,e,Deferred.ofValue,invoke,Vi,Vj,Result.andThen];simpa using n
theorem QR{t et n k b off j:Nat}{x y:Operand}{i:Int}{s:IntKind}(m:(i==(j:Int))=true)(z:Nat.blt j n=true)(J:∀w,(underlying t).run P w=.ok (.array n et) w)(E:∀w,(sizeOf et).run P w=.ok k w)(h:Nat.ble 2 n=true)
  (L:o.op=.indexAddr t x y:=by exact rfl)(hx:opA env x=.ptr b off:=by exact rfl)(hy:opA env y=.int s i:=by exact rfl):OpV P o env H (.ptr b (off+j*k)):=by
 intro O M σ N a w r;have f:=Qf r x;rw[hx]at f;obtain⟨e,f,u⟩:=f;have p:=Qf r y;rw[hy]at p;have l:a.eval y=.int s i:=p;have B:i=(j:Int):=by simpa using m
 have g:j<n:=by simpa using z
 have G:2<=n:=XP h;subst B;refine⟨.pointer (some ⟨e,off+j*k,none⟩),?_,e,f,rfl⟩;have F:0<=(j:Int)/\(j:Int)<(n:Int):=by omega
 have d:(⟨e,off,none⟩:Addr).add ((j:Int).toNat*k)=⟨e,off+j*k,none⟩:=by
  unfold Addr.add;split
  .rename_i q;simp at q;simp[q]
  .simp
 generalize a.eval=ρ at*;simp[execOp,L,u,l,Instr.indexAt,asIntOf,J,E,Instr.sureAddr,F,d,go_sem,Result.andThen,g]
end
end Go.Sw
namespace Go.Sw
theorem QiJ{P:Program}{W:World}{name:String}{d:DataW Unit}:∀{a:List (String×DataW Unit)} {ps:List MemPlace},DataW.LaidVars P W a ps->(name,d)∈a->
  ∃(g:Nat) (t:TypeId) (cs:Array Value) (b:Nat) (p:List MemPlace),P.globalNamed name=some g/\(P.globals[g]?).map (·.type)=some t/\W.var? P name=some cs/\DataW.trod (λ_=>()) P W 0 (λ_=>true) false b t cs.toList=some (d,p):=by
 intro a
 induction a with
 |nil=>intro ps h f;cases f
 |cons x a j=>
  intro ps h f;obtain⟨g,t,cs,b,p,q,k,l,i,m,n,r⟩:=h;rcases X2.1 f with e|f
  .subst e;exact⟨g,t,cs,b,p,k,l,i,m⟩
  .exact j n f
theorem Q5{P:Program}{W:World}{name:String}{a b:Int}{g t e:Nat}{m k:Field}{d:List (String×DataW Unit)}{ps:List MemPlace}(h:DataW.LaidVars P W d ps)(G:(name,DataW.agg [.lit (.int .i64 a),.lit (.int .i64 b)])∈d)
  (hg:P.globalNamed name=some g)(i:(P.globals[g]?).map (·.type)=some t)(F:P.underlying t=some (.struct #[m,k]))(E:m.type=e)(z:k.type=e)(T:m.offset=0)(x:k.offset=1)(he:P.underlying e=some (.int .i64))(f:P.cellsOf e=1)(j:P.cellsOf t=2):
  W.cell? ⟨g,0,none⟩=some (.int .i64 a)/\W.cell? ⟨g,1,none⟩=some (.int .i64 b):=by
 obtain⟨X,Y,V,s,p,M,y,r,Q⟩:=QiJ h G;obtain rfl:=XV (hg.symm.trans M);obtain rfl:=XV (i.symm.trans y);obtain⟨y0,y1,n,w,J,q,u⟩:=Go.ChangeShapes.trod_struct2 F Q;rw[E,T,f]at q;rw[z,x,f]at u;obtain⟨O,N,H,_⟩:=DataW.trod_int he q;obtain⟨L,R,B,_⟩:=DataW.trod_int he u;subst H B;have l:a=O/\b=L:=by simpa using congrArg Prod.fst w
 obtain⟨rfl,rfl⟩:=l;rw[World.var?_cell hg r,World.var?_cell hg r];rw[j]at J;constructor
 .have:=congrArg (·[0]?) N;simpa[List.getElem?_take]using this
 .have:=congrArg (·[0]?) R;simpa[List.getElem?_take,List.getElem?_drop]using this
theorem Y3{w:World}{g:Nat}{a b:Int}(s:w.cell? ⟨g,0,none⟩=some (.int .i64 a)/\w.cell? ⟨g,1,none⟩=some (.int .i64 b)):∀(zs:List Int),some [a,b]=some zs->∀(i:Nat) (z:Int),zs[i]?=some z->w.cell? ⟨g,i,none⟩=some (.int .i64 z)
 |zs,h,0,z,hi=>by cases h;cases hi;exact s.1
 |zs,h,1,z,hi=>by cases h;cases hi;exact s.2
 |zs,h,i+2,z,hi=>by cases h;simp at hi
end Go.Sw
