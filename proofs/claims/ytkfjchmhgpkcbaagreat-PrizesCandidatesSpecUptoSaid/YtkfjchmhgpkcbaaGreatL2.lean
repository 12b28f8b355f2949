/- The rules by which the code is walked, with what they rest on (part 2). -/
import Derived.Test.YtkfjchmhgpkcbaaGreatL1
import Derived.Shelf.SlSortCmp.NoneTotal
import Derived.Below
import GoSem.ClaimChange
import Derived.Shelf.Strings.Search3
import Derived.Lib.LazyBuf
import Derived.Shelf.Sort.Plain
import Derived.Shelf.Slices.In.SortNone
import Derived.Shelf.Slices.CompactI
import Derived.RangeFuncIn
import Derived.RangeFuncSeq
import Derived.RangeFuncNested
import Derived.Lib.Bytealg
import Derived.Laws.Externs
import Derived.LaidLaws
import Derived.Lib.LaidTab
import Derived.ChangeArms
import Derived.ChangeSame
set_option linter.unusedVariables false
set_option linter.unusedSectionVars false
set_option linter.unusedSimpArgs false
namespace Go.Sw
def Qcq{E:Type}(x:E):List E->List (List E)
 |[]=>[[x]]
 |y::l=>(x::y::l)::(Qcq x l).map (y:: ·)
def Qd4{E:Type}:List E->List (List E)
 |[]=>[[]]
 |x::l=>(Qd4 l).flatMap (Qcq x)
theorem Qdk{E:Type}(x:E):∀(a b:List E),a++x::b∈Qcq x (a++b)
 |[],[]=>by simp[Qcq]
 |[],y::b=>by simp[Qcq]
 |y::a,b=>by
  simp only[List.cons_append,Qcq,List.mem_cons,List.mem_map]
  exact .inr ⟨a++x::b,Qdk x a b,rfl⟩
theorem Qd3{E:Type}:∀(l p:List E),p.Perm l->p∈Qd4 l
 |[],p,h=>by rw[List.perm_nil.1 h];simp[Qd4]
 |x::l,p,h=>by
  have hx:x∈p:=h.mem_iff.2 (by simp)
  obtain⟨a,b,rfl⟩:=List.append_of_mem hx
  have h2:(a++b).Perm l:=(List.perm_cons x).1 ((List.perm_middle.symm).trans h)
  simp only[Qd4,List.mem_flatMap]
  exact⟨a++b,Qd3 l _ h2,Qdk x a b⟩
def anyP{E R:Type}[DecidableEq R](k:List E->Option R)(l:List E):Option R:=bif (Qd4 l).all (fun p=>decide (k p=k l))then k l else none
theorem QjY{E R:Type}[DecidableEq R]{k:List E->Option R}{l:List E}{r:R}(h:anyP k l=some r)(p:List E)(hp:p.Perm l):k p=some r:=by
 unfold anyP at h
 cases q:(Qd4 l).all (fun p=>decide (k p=k l))with
 |true=>
  rw[q]at h
  have:=List.all_eq_true.1 q p (Qd3 l p hp)
  rw[of_decide_eq_true this];exact h
 |false=>rw[q]at h;cases h
section
variable {P:Program}{o:Oper}{env:Env}{H:Qc}{h0 N:Nat}{Q:Qz}{c:Code}
section
variable {S E B:Type}{stepE:S->E->Option (Ctl S B)}{stepN:S->Option B}{G:B->Prop} (Es:S->Env) (Hp:S->List (A×A)->Qc) {enc:E->A×A}
theorem Qg2{α β:Type}{f:α->β}:∀{m m':List β},m.Perm m'->∀{l:List α},m'=l.map f->∃l':List α,l'.Perm l/\l'.map f=m:=by
 intro m m' h
 induction h with
 |nil=>intro l hl;exact⟨[],by rw[List.map_eq_nil_iff.1 hl.symm],rfl⟩
 |cons x _ ih=>
  intro l hl
  cases l with
  |nil=>cases hl
  |cons a l=>
   simp only[List.map_cons,List.cons.injEq]at hl
   obtain⟨l',h1,h2⟩:=ih hl.2
   exact⟨a::l',h1.cons _,by simp[h2,hl.1]⟩
 |swap x y m=>
  intro l hl
  match l,hl with
  |a::b::l,hl=>
   simp only[List.map_cons,List.cons.injEq]at hl
   exact⟨b::a::l,List.Perm.swap _ _ _,by simp[hl.1,hl.2.1,hl.2.2]⟩
 |trans _ _ ih1 ih2=>
  intro l hl
  obtain⟨l1,h1,h2⟩:=ih2 hl
  obtain⟨l2,h3,h4⟩:=ih1 h2.symm
  exact⟨l2,h3.trans h1,h4⟩
end
theorem QhM{i:Nat}{cur:Option (A×A)}{es:List (A×A)}{H':Qc}(hH:H[i]?=some (.iter cur es))(hH':H.set i (.iter none es)=H'):Le h0 env H env H':=by
 subst hH'
 intro fr ro σ N a w r
 refine⟨ro,σ,⟨r.sim.weaken (x':=.iter none es) hH rfl ?_,r.env,r.size,r.defers⟩,fun _ q=>q,rfl⟩
 intro y h
 cases y with
 |none=>exact h
 |some b=>
  rcases h with⟨h1,h2,h3⟩|⟨m,l,clock,seen,left,h1,h2,h3,h4,h5,h6,h7,h8⟩
  ·exact .inl ⟨h1,rfl,h3⟩
  ·exact .inr ⟨m,l,clock,seen,left,h1,h2,h3,h4,h5,h6,h7,fun x hx=>by cases hx⟩
end
end Go.Sw
namespace Go.Sw
def mk{α:Type}(n:Int)(z:α):Option (List α):=bif decide (0<=n)&&decide (n<=4294967296)then some (List.replicate n.toNat z)else none
theorem mk_ok{α:Type}{n:Int}{z:α}{l:List α}(h:mk n z=some l):0<=n/\n<=4294967296/\List.replicate n.toNat z=l:=by
 unfold mk at h
 cases q:(decide (0<=n)&&decide (n<=4294967296))with
 |true=>rw[q]at h;simp at q;exact⟨q.1,q.2,Option.some.inj h⟩
 |false=>rw[q]at h;cases h
theorem Qd2{α:Type}[Inhabited α](zl:List α)(k:Nat)(hk:zl.length=k)(h0:0<k):∀n,(List.range (n*k)).map (fun i=>zl.toArray[i%zl.toArray.size]!)=(List.replicate n zl).flatten
 |0=>by simp
 |n+1=>by
  rw[Nat.succ_mul,List.range_add,List.map_append,Qd2 zl k hk h0 n,List.replicate_succ',List.flatten_append]
  congr 1
  simp only[List.flatten_cons,List.flatten_nil,List.append_nil,List.map_map]
  apply List.ext_getElem
  ·simp[hk]
  ·intro i h1 h2
   simp only[List.length_map,List.length_range]at h1
   simp only[List.getElem_map,List.getElem_range,Function.comp,List.size_toArray,hk]
   rw[Nat.mul_comm,Nat.mul_add_mod,Nat.mod_eq_of_lt h1]
   simp[hk,h1]
section
variable {P:Program}{o:Oper}{env:Env}{H:Qc}{ro:Nat->Prop}{σ:Sig}{w:World}
theorem LR.replicate{az:List A}{l:List Value}(h:LR ro σ w az l):∀n,LR ro σ w (List.replicate n az).flatten (List.replicate n l).flatten
 |0=>rfl
 |n+1=>by
  rw[List.replicate_succ,List.replicate_succ]
  exact h.append (LR.replicate h n)
theorem Qj3{α:Type}{e:α->List A}{T et k:Nat}{x y:Operand}{kx ky:IntKind}{n:Int}{zv:α}{l:List α}{z:Value}{a:A}(hm:mk n zv=some l)(E:QQ P T et k)(hz:∀w,(zeroValue et).run P w=.ok z w)(hza:ZR a z)
  (hk:Q4 a=true)(hc:QU a=e zv)(hp:(QU a).all Ye=true)(hlen:Nat.beq (e zv).length k=true)
  (ho:o.op=.makeSlice T x y:=by exact rfl)(hx:opA env x=.int kx n:=by exact rfl)(hy:opA env y=.int ky n:=by exact rfl):
  OpH P o env H (.osl H.length 0 l.length k) (H++[.row et k (l.map e)]):=by
 intro fr ro σ N act w r
 obtain⟨n0,n1,hl⟩:=mk_ok hm
 have h1:=Qg r x
 rw[hx]at h1
 have h2:=Qg r y
 rw[hy]at h2
 have h1':act.eval x=.int kx n:=h1
 have h2':act.eval y=.int ky n:=h2
 obtain⟨i,hi,hib⟩:=E.bytes
 obtain⟨zl,c1,c2⟩:=(hza ro [] w).cells hk
 have hzl:zl.length=k:=by
  rw[c2.length,hc];exact Nat.eq_of_beq_eq_true hlen
 have hrow:(if n.toNat*k=0 then(#[]:Array Value)else zl.toArray)=zl.toArray\/n.toNat*k=0:=by
  by_cases q:n.toNat*k=0
  ·exact .inr q
  ·exact .inl (if_neg q)
 have hcells:∀(ZZ:Array Value),(ZZ=zl.toArray\/n.toNat*k=0)->(Array.range (n.toNat*k)).map (fun j=>ZZ[j%ZZ.size]!)=((List.replicate n.toNat zl).flatten).toArray:=by
  intro ZZ hZ
  by_cases q:n.toNat*k=0
  ·rw[q]
   have:(List.replicate n.toNat zl).flatten=[]:=by
    apply List.length_eq_zero_iff.1
    simp[hzl,q]
   rw[this];simp
  ·obtain rfl:ZZ=zl.toArray:=hZ.resolve_right q
   have hk0:0<k:=by
    rcases Nat.eq_zero_or_pos k with h|h
    ·rw[h,Nat.mul_zero]at q;exact absurd rfl q
    ·exact h
   rw[<- Qd2 zl k hzl hk0 n.toNat]
   simp[List.map_toArray, <- List.toArray_range]
 have hrl:=c2.replicate n.toNat
 have hal:allK k (List.replicate n.toNat (e zv)):=by
  have:∀m,allK k (List.replicate m (e zv)):=by
   intro m
   induction m with
   |zero=>trivial
   |succ m ih=>exact⟨Nat.eq_of_beq_eq_true hlen,ih⟩
  exact this _
 have hplain:∀v∈(List.replicate n.toNat zl).flatten,Qv v:=by
  intro v hv
  obtain⟨m,hm,hv⟩:=List.mem_flatten.1 hv
  rw[List.eq_of_mem_replicate hm]at hv
  exact c2.plain hp v hv
 rw[hc]at hrl
 have hs:=r.sim.allocRow (t:=et) (rest:=[]) hal hrl hplain
 rw[List.append_nil]at hs
 have hmap:l.map e=List.replicate n.toNat (e zv):=by rw[<- hl,List.map_replicate]
 have hll:l.length=n.toNat:=by rw[<- hl];simp
 have hsh:(w.alloc (.cells ((List.replicate n.toNat zl).flatten).toArray et)).shape? w.heap.size=some (et,n.toNat*k):=by
  unfold World.shape?
  rw[Yi]
  simp[hzl]
 refine⟨.slice (some ⟨w.heap.size,0,none⟩) n.toNat n.toNat,w.alloc (.cells ((List.replicate n.toNat zl).flatten).toArray et),ro,[some w.heap.size],?_,?_,hmap▸hs,Qf.alloc _ r.sim.roLt r.sim.frLt⟩
 ·have hw:IntKind.i64.wrap n=n:=by
   unfold IntKind.wrap
   simp[IntKind.bits,IntKind.signed]
   omega
  have har:∀(x:Nat) (W:World),(askRoom x).run P W=.ok () W:=by
   intro x W;unfold askRoom;split<;>rfl
  have hnr:∀(c:Array Value) (W:World),(newRow et c).run P W=.ok ⟨W.heap.size,0,none⟩ (W.alloc (.cells c et)):=fun c W=>rfl
  have hb1:¬(n<0):=by omega
  have hb2:¬((i.bytes:Int)*n>2^48):=by
   have h1:(i.bytes:Int)*n<=4096*4294967296:=Int.mul_le_mul (by omega) n1 n0 (by omega)
   omega
  have hrun:(Instr.makeSlice T (.int kx n) (.int ky n)).run P w=.ok (.slice (some ⟨w.heap.size,0,none⟩) n.toNat n.toNat) (w.alloc (.cells ((List.replicate n.toNat zl).flatten).toArray et)):=by
   have hge:¬(n>n):=by omega
   have hai:∀(k:IntKind) (m:Int) (W:World),(asInt (.int k m)).run P W=.ok m W:=fun k m W=>rfl
   unfold Instr.makeSlice
   simp only[Sem.run_bind,E.sl,E.size,hi,Result.andThen,hai,Sem.run_pure,hw,har,Sem.run_ite]
   rw[if_neg (by simp[hb1,hb2];omega)]
   by_cases q:n.toNat*k=0
   ·simp only[q,if_true,Sem.run_pure]
    have:=hcells #[] (.inr q)
    rw[q]at this
    simp only[this,hnr]
   ·simp only[q,if_false,hz,Sem.run_pure,c1,hcells zl.toArray (.inl rfl),hnr]
  generalize act.eval=ρ at*
  simp only[execOp,ho,h1',h2',Sem.run_bind,hrun,Result.andThen]
  rfl
 ·right
  refine⟨w.heap.size,0,n.toNat,et,n.toNat*k,?_,by rw[hll],fun _=>by simp,by rw[hll];exact Nat.le_refl _,hsh,by simp⟩
  rw[<- r.sim.len];simp
end
end Go.Sw
namespace Go.Sw
open Go.Sort Go.Proofs Go.Shelf
section
variable {α:Type}
def ins(lt:α->α->Bool)(x:α):List α->List α
 |[]=>[x]
 |y::l=>bif lt y x then y::ins lt x l else x::y::l
def Qb4(lt:α->α->Bool):List α->List α
 |[]=>[]
 |x::l=>ins lt x (Qb4 lt l)
theorem Qdj(lt:α->α->Bool)(x:α):∀l,(ins lt x l).Perm (x::l)
 |[]=>.refl _
 |y::l=>by
  unfold ins
  cases lt y x
  ·exact .refl _
  ·exact((Qdj lt x l).cons y).trans (List.Perm.swap _ _ _)
theorem Qai(lt:α->α->Bool):∀l,(Qb4 lt l).Perm l
 |[]=>.refl _
 |x::l=>(Qdj lt x _).trans ((Qai lt l).cons x)
structure Qdw (lt:α->α->Bool) (l:List α):Prop where
 irrefl:∀x∈l,lt x x=false
 trans:∀x∈l,∀y∈l,∀z∈l,lt x y=true->lt y z=true->lt x z=true
 ntrans:∀x∈l,∀y∈l,∀z∈l,lt x y=false->lt y z=false->lt x z=false
theorem Qdw.mono{lt:α->α->Bool}{l m:List α}(h:Qdw lt l)(hm:∀x∈m,x∈l):Qdw lt m:=
 ⟨fun x hx=>h.irrefl x (hm x hx),fun x hx y hy z hz=>h.trans x (hm x hx) y (hm y hy) z (hm z hz),fun x hx y hy z hz=>h.ntrans x (hm x hx) y (hm y hy) z (hm z hz)⟩
theorem Qdw.asymm{lt:α->α->Bool}{l:List α}(h:Qdw lt l){x y:α}(hx:x∈l)(hy:y∈l)(hxy:lt x y=true):lt y x=false:=by
 cases q:lt y x
 ·rfl
 ·rw[<- h.irrefl x hx,h.trans x hx y hy x hx hxy q]
theorem Qdi{lt:α->α->Bool}{x:α}:∀{l:List α},Qdw lt (x::l)->l.Pairwise (fun a b=>lt b a=false)->(ins lt x l).Pairwise (fun a b=>lt b a=false)
 |[],_,_=>by simp[ins]
 |y::l,h,hp=>by
  obtain⟨h1,h2⟩:=List.pairwise_cons.1 hp
  unfold ins
  cases q:lt y x
  ·refine List.pairwise_cons.2 ⟨fun z hz=>?_,hp⟩
   rcases List.mem_cons.1 hz with rfl|hz
   ·exact q
   ·exact h.ntrans z (by simp[hz]) y (by simp) x (by simp) (h1 z hz) q
  ·refine List.pairwise_cons.2 ⟨fun z hz=>?_,Qdi (h.mono (by intro z hz;rcases List.mem_cons.1 hz with rfl|hz<;>simp[*])) h2⟩
   rcases List.mem_cons.1 ((Qdj lt x l).mem_iff.1 hz)with rfl|hz
   ·exact h.asymm (by simp) (by simp) q
   ·exact h1 z hz
theorem Qa0{lt:α->α->Bool}:∀{l:List α},Qdw lt l->(Qb4 lt l).Pairwise (fun a b=>lt b a=false)
 |[],_=>by simp[Qb4]
 |x::l,h=>Qdi (h.mono (by
   intro z hz
   rcases List.mem_cons.1 hz with rfl|hz
   ·simp
   ·exact List.mem_cons_of_mem _ ((Qai lt l).mem_iff.1 hz))) (Qa0 (h.mono fun z hz=>List.mem_cons_of_mem _ hz))
theorem QbF{lt:α->α->Bool}:∀{l m:List α},l.Perm m->(∀x∈l,∀y∈l,lt x y=false->lt y x=false->x=y)->l.Pairwise (fun a b=>lt b a=false)->m.Pairwise (fun a b=>lt b a=false)->l=m
 |[],m,h,_,_,_=>by rw[List.nil_perm.1 h]
 |x::l,[],h,_,_,_=>by have:=h.length_eq;simp at this
 |x::l,y::m,h,ha,hl,hm=>by
  obtain⟨l1,l2⟩:=List.pairwise_cons.1 hl
  obtain⟨m1,m2⟩:=List.pairwise_cons.1 hm
  have hy:y∈x::l:=h.mem_iff.2 (by simp)
  have hx:x∈y::m:=h.mem_iff.1 (by simp)
  have hxy:x=y:=by
   rcases List.mem_cons.1 hy with e|hy'
   ·exact e.symm
   ·rcases List.mem_cons.1 hx with e|hx'
    ·exact e
    ·exact ha x (by simp) y (by simp[hy']) (m1 x hx') (l1 y hy')
  subst hxy
  rw[QbF ((List.perm_cons x).1 h) (fun a ha' b hb'=>ha a (by simp[ha']) b (by simp[hb'])) l2 m2]
def ltO(cf:α->α->Option Int)(x y:α):Bool:=match cf x y with
 |some c=>decide (c<0)
 |none=>false
def QiY[DecidableEq α](cf:α->α->Option Int)(l:List α):Bool:=
 l.all fun x=> !ltO cf x x&&l.all fun y=>(cf x y).isSome&&(ltO cf x y||ltO cf y x||decide (x=y))&&l.all fun z=>(!ltO cf x y|| !ltO cf y z||ltO cf x z)&&(ltO cf x y||ltO cf y z|| !ltO cf x z)
def Qe4[DecidableEq α](cf:α->α->Option Int)(l:List α):Option (List α):=bif Nat.ble l.length QV&&QiY cf l then some (Qb4 (ltO cf) l)else none
theorem Qe3[DecidableEq α]{cf:α->α->Option Int}{l l':List α}(h:Qe4 cf l=some l'):
  l.length<=QV/\(∀x∈l,∀y∈l,∃c,cf x y=some c)/\Qdw (ltO cf) l/\(∀x∈l,∀y∈l,ltO cf x y=false->ltO cf y x=false->x=y)/\Qb4 (ltO cf) l=l':=by
 unfold Qe4 at h
 cases q0:Nat.ble l.length QV with
 |false=>rw[q0]at h;cases h
 |true=>
 rw[q0,Bool.true_and]at h
 cases q:QiY cf l with
 |false=>rw[q]at h;cases h
 |true=>
  rw[q]at h
  refine⟨Nat.le_of_ble_eq_true q0,?_⟩
  unfold QiY at q
  simp only[List.all_eq_true,Bool.and_eq_true,Bool.not_eq_true',Bool.or_eq_true,decide_eq_true_eq]at q
  refine⟨fun x hx y hy=>Option.isSome_iff_exists.1 ((q x hx).2 y hy).1.1,⟨fun x hx=>(q x hx).1,fun x hx y hy z hz h1 h2=>?_,fun x hx y hy z hz h1 h2=>?_⟩,fun x hx y hy h1 h2=>?_,Option.some.inj h⟩
  ·rcases(((q x hx).2 y hy).2 z hz).1 with(h3|h3)|h3
   ·rw[h1]at h3;cases h3
   ·rw[h2]at h3;cases h3
   ·exact h3
  ·rcases(((q x hx).2 y hy).2 z hz).2 with(h3|h3)|h3
   ·rw[h1]at h3;cases h3
   ·rw[h2]at h3;cases h3
   ·exact h3
  ·rcases((q x hx).2 y hy).1.2 with(h3|h3)|h3
   ·rw[h1]at h3;cases h3
   ·rw[h2]at h3;cases h3
   ·exact h3
theorem QdV[DecidableEq α]{cf:α->α->Option Int}{l l':List α}(h:Qe4 cf l=some l'):l.length=l'.length:=by
 rw[<- (Qe3 h).2.2.2.2];exact(Qai _ _).length_eq.symm
theorem QR{h0:Nat}{env:Env}{H:Qc}{s:Nat}{a a':A}(h:lk env s=a)(e:a=a'):Le h0 env H (up env s a') H:=by
 intro fr ro σ N act w r
 refine⟨ro,σ,⟨r.sim,fun s'=>?_,r.size,r.defers⟩,fun _ q=>q,rfl⟩
 subst e
 have:lk (up env s a) s'=lk env s':=by
  simp only[lk]
  cases q:Nat.beq s' s with
  |true=>rw[Nat.eq_of_beq_eq_true q,h];rfl
  |false=>rfl
 rw[this];exact r.env s'
end
section
variable {fr ro:Nat->Prop}{σ:Sig}{H:Qc}{w w':World}
theorem QcE(hh:∀b,b<w.heap.size->w'.heap[b]?=w.heap[b]?)(hro:∀b,ro b->b<w.heap.size)(σ:Sig):Ext ro σ w ro σ w':=
 ⟨fun _ q=>q,fun b hb=>hh b (hro b hb),fun b x hx=>by unfold World.shape? at hx⊢;rw[hh b (QbV hx)];exact hx,fun _ _ q=>q⟩
theorem Sim.grown(s:Sim fr ro σ H w)(hh:∀b,b<w.heap.size->w'.heap[b]?=w.heap[b]?)(hs:w.heap.size<=w'.heap.size):Sim fr ro σ H w':=by
 refine⟨s.len,s.roOk.to (fun _ q=>q) (fun b q=>hh b (s.roLt b q)) (fun b h=>Nat.lt_of_lt_of_le (s.roLt b h) hs),fun b h=>Nat.lt_of_lt_of_le (s.frLt b h) hs,s.roFr,fun i b x h1 h2 h3=>?_,s.inj,fun i y x h1 h2=>?_,s.hidTo (· = ·) QP hs (fun _ _ _ _ _ _ _ q=>q) (fun _ _ _ _ _ _ _ q=>q) fun j d y g1 g2 g3=>.inl ⟨j,y,rfl,g1,g2,id,fun c q=>s.hidKeep g1 g2 (fun z=>hh d (s.own j d y g1 g2 z).1) (fun b q=>hh b (s.roLt b q)) q⟩⟩
 ·obtain⟨p,q⟩:=s.own i b x h1 h2 h3
  exact⟨Nat.lt_of_lt_of_le p hs,q⟩
 ·refine(s.blk i y x h1 h2).keep (QcE hh s.roLt σ) ?_ ?_
  ·rintro b rfl hl
   exact hh b (s.own i b x h1 h2 hl).1
  ·rintro b c rfl hl
   exact hh c (s.hid i b x c h1 h2 hl).lt
theorem Qf.grown(hh:∀b,b<w.heap.size->w'.heap[b]?=w.heap[b]?)(hs:w.heap.size<=w'.heap.size)(s:Sim fr ro σ H w)(ho:w'.os=w.os)(ht:w'.tape=w.tape)(hu:w'.output=w.output)(hd:w.drawn<=w'.drawn):Qf fr ro w ro w':=
 ⟨fun _ q=>q,fun b h=>hh b (s.roLt b h),fun b h=>hh b (s.frLt b h),hs,(QcE hh s.roLt σ).shape,ho,ht,hu,hd⟩
theorem QjG(hh:∀b,b<w.heap.size->w'.heap[b]?=w.heap[b]?)(hs:w.heap.size<=w'.heap.size)(ho:w'.os=w.os)(ht:w'.tape=w.tape)(hu:w'.output=w.output)(hd:w.drawn<=w'.drawn):
  ∃q os',w'=grow (w.drewN q) os':=by
 refine⟨w'.drawn-w.drawn,w'.heap.extract w.heap.size w'.heap.size,?_⟩
 obtain⟨h',t',d',o',u'⟩:=w'
 simp only at hh hs ho ht hu hd
 subst ho ht hu
 unfold grow World.drewN
 have e1:h'=w.heap++h'.extract w.heap.size h'.size:=by
  apply Array.ext_getElem?
  intro i
  rw[Array.getElem?_append]
  split
  ·rename_i hi;exact hh i hi
  ·rename_i hi
   rw[Array.getElem?_extract]
   split
   ·rename_i hj
    congr 1;omega
   ·rename_i hj
    rw[Array.getElem?_eq_none];omega
 have e2:d'=w.drawn+(d'-w.drawn):=by omega
 rw[<- e1, <- e2]
end
end Go.Sw
namespace Go.Sw
open Go.Sort Go.Proofs Go.Shelf
theorem QcD{α:Type}{k:Nat}:∀(vs:List (List α)) (j:Nat),(∀v∈vs,v.length=k)->j<vs.length*k->vs.flatten[j]?=(vs[j/k]?).bind fun v=>v[j%k]?
 |[],j,_,h=>by simp at h
 |v::vs,j,hk,h=>by
  have hv:=hk v (by simp)
  have k0:0<k:=by
   rcases Nat.eq_zero_or_pos k with q|q
   ·subst q;simp at h
   ·exact q
  rw[List.flatten_cons]
  by_cases q:j<k
  ·rw[List.getElem?_append_left (by omega),Nat.div_eq_of_lt q,Nat.mod_eq_of_lt q]
   simp
  ·rw[List.getElem?_append_right (by omega),hv,QcD vs (j-k) (fun v hv=>hk v (by simp[hv])) (by simp[Nat.succ_mul]at h;omega)]
   have e1:j/k=(j-k)/k+1:=by rw[Nat.div_eq_sub_div k0 (by omega)]
   have e2:j%k=(j-k)%k:=Nat.mod_eq_sub_mod (by omega)
   rw[e1,e2,List.getElem?_cons_succ]
theorem Qam{α:Type}{k:Nat}:∀(vs:List (List α)),(∀v∈vs,v.length=k)->vs.flatten.length=vs.length*k
 |[],_=>by simp
 |v::vs,h=>by rw[List.flatten_cons,List.length_append,Qam vs (fun v hv=>h v (by simp[hv])),h v (by simp),List.length_cons,Nat.succ_mul];omega
theorem QaO{α:Type}(F:List α)(j:Nat):F.toArray[j]?=F[j]? :=by simp
theorem Qff{α:Type}[Inhabited α](F:List α)(j:Nat)(h:j<F.length):F[j]?=some (F.toArray[j]!):=by simp[h]
theorem Qfk{β:Type}[Inhabited β]{enc:β->List Value}{k:Nat}(hk:∀x,(enc x).length=k)(d:Array β):flatK enc k d=((d.toList.map enc).flatten).toArray:=by
 have hl:∀v∈d.toList.map enc,v.length=k:=by
  intro v hv
  obtain⟨x,_,rfl⟩:=List.mem_map.1 hv
  exact hk x
 apply Array.ext_getElem?
 intro t
 rw[QaO ((d.toList.map enc).flatten) t]
 by_cases h:t<d.size*k
 ·rw[QcD _ t hl (by simpa using h)]
  have k0:0<k:=by
   rcases Nat.eq_zero_or_pos k with q|q
   ·subst q;simp at h
   ·exact q
  have h1:t/k<d.size:=Nat.div_lt_of_lt_mul (by rw[Nat.mul_comm];exact h)
  have h2:t%k<k:=Nat.mod_lt _ k0
  have h3:t<(flatK enc k d).size:=by simpa using h
  have e:=get_flatK enc k d t h
  rw[getElem!_pos (flatK enc k d) t h3]at e
  rw[Array.getElem?_eq_getElem h3,e]
  simp[h1]
  rw[List.getElem?_eq_getElem (by rw[hk];exact h2)]
  rfl
 ·have e:(d.toList.map enc).flatten.length=d.size*k:=by rw[Qam _ hl];simp
  rw[Array.getElem?_eq_none (by simpa using h),List.getElem?_eq_none (by rw[e];omega)]
section
variable {ro:Nat->Prop}{σ:Sig}{w:World}{T:Type}{enc:T->List A}{k:Nat}
theorem QfB:∀{l:List T}{lv:List Value},RL ro σ w k (l.map enc) lv->
  ∃(ps:List (T×List Value)) (rest:List Value),ps.map (·.1)=l/\lv=(ps.map (·.2)).flatten++rest/\ ∀p∈ps,p.2.length=k/\LR ro σ w (enc p.1) p.2/\ ∀v∈p.2,Qv v
 |[],lv,_=>⟨[],lv,rfl,rfl,by simp⟩
 |x::l,lv,h=>by
  obtain⟨l1,l2,rfl,h1,⟨h2,h3⟩,h4⟩:=h
  obtain⟨ps,rest,e1,rfl,h5⟩:=QfB (l:=l) h4
  refine⟨(x,l1)::ps,rest,by simp[e1],by simp,?_⟩
  intro p hp
  rcases List.mem_cons.1 hp with rfl|hp
  ·exact⟨by rw[h2.length];exact h1,h2,h3⟩
  ·exact h5 p hp
theorem QcI(hk:∀x:T,(enc x).length=k):∀{ps:List (T×List Value)}{rest:List Value},(∀p∈ps,LR ro σ w (enc p.1) p.2/\ ∀v∈p.2,Qv v)->RL ro σ w k ((ps.map (·.1)).map enc) ((ps.map (·.2)).flatten++rest)
 |[],_,_=>trivial
 |p::ps,rest,h=>by
  refine⟨p.2,(ps.map (·.2)).flatten++rest,by simp,hk _,h p (by simp),QcI hk fun q hq=>h q (by simp[hq])⟩
end
structure Elt (ro:Nat->Prop) (w:World) {T:Type} (enc:T->List A) (k:Nat) (l:List T) where
 x:T
 vs:List Value
 mem:x∈l
 len:vs.length=k
 rel:LR ro [] w (enc x) vs
 plain:∀v∈vs,Qv v
theorem Qg1{v:Value}(h:Qv v):v.oneCell'=true:=by cases v<;>first|rfl|exact h.elim
theorem Qj7{P:Program}{ρ:Ren}(L:SlLaysF0.n6 P ρ){T:Type}[DecidableEq T]{enc:T->List A}{k t g:Nat}{cap:List A}{l l':List T}{cf:T->T->Option Int}(hs:Qe4 cf l=some l')
  (hcmp:∀x y c,cf x y=some c->C P g ([.agg (enc x),.agg (enc y)]++cap) [] (fun a H=>a=.int .i64 c/\H=[]))
  (aE:∀w,(isAgg (ρ.t 24)).run P w=.ok true w)(zE:∀w,(Go.sizeOf (ρ.t 24)).run P w=.ok k w)(eg:∀args w,(callFunc g args).run P w=.ok (.enter g args) w)
  (hk:∀x,(enc x).length=k)(hd:Q6 cap=true):
  C P (ρ.f 6) [.osl 0 0 l.length k,.fn (.func g) [] cap] [.row t k (l.map enc)] (fun a H=>a=.tup []/\H=[.row t k (l'.map enc)]):=by
 intro fr ro σ vals w s hv
 obtain⟨vs,r1,rfl,hvs,vf,r2,rfl,hvf,hr⟩:=hv
 cases(show r2=[]from hr)
 obtain⟨lf,lc,rfl,h1,hcap⟩:=hvf
 cases(show lf=[]from h1)
 have hcap':LR ro [] w cap lc:=LR.data hd hcap
 obtain⟨hmax,hall,hswo,hanti,hl'⟩:=Qe3 hs
 have none_case:∀(ad:Option Addr) (c:Nat),vs=.slice ad 0 c->l=[]->
   Calls P (ρ.f 6) [vs,.func (.func g) #[] lc.toArray].toArray w fun e w'=>∃v r H' ro' τ,e=.returned v/\(r=.tup []/\H'=[.row t k (l'.map enc)])/\Sim fr ro' (σ++τ) H' w'/\VR ro' (σ++τ) w' r v/\Qf fr ro w ro' w':=by
  rintro ad c rfl rfl
  have hl0:l'=[]:=by rw[<- hl'];rfl
  subst hl0
  refine(AnyF.slices_SortFunc_none L ad c (.func (.func g) #[] lc.toArray) w).mono ?_
  rintro e w' ⟨rfl,rfl⟩
  exact⟨_,_,_,ro,[],rfl,⟨rfl,rfl⟩,by simpa using s,⟨[],rfl,rfl⟩,Qf.refl _ _ _⟩
 rcases hvs with⟨h0,rfl⟩|⟨b,p,cp,t',m,q1,rfl,q2,q3,q4,q5⟩
 ·exact none_case none 0 rfl (List.length_eq_zero_iff.1 h0)
 ·by_cases hl0:l=[]
  ·subst hl0
   exact none_case _ cp rfl rfl
  ·have hlp:0<l.length:=List.length_pos_iff.2 hl0
   obtain rfl:=q2 (Nat.lt_of_lt_of_le hlp q3)
   obtain⟨lv,e1,e2⟩:=s.blk 0 _ _ q1 rfl
   obtain⟨hb,hbro,hbfr⟩:=s.own 0 b _ q1 rfl rfl
   obtain⟨ps,rest,hps,rfl,hpp⟩:=QfB e2
   let α:=Elt ro w enc k l
   have hmem:∀p∈ps,p.1∈l:=fun p hp=>by rw[<- hps];exact List.mem_map_of_mem hp
   let ds:List α:=ps.attach.map fun p=>⟨p.1.1,p.1.2,hmem _ p.2,(hpp _ p.2).1,(hpp _ p.2).2.1,(hpp _ p.2).2.2⟩
   have hat:∀{γ:Type} (f:T×List Value->γ),ps.attach.map (fun p=>f p.1)=ps.map f:=fun f=>by simp
   have hdsx:ds.map (·.x)=l:=by
    show(ps.attach.map _).map _=_
    rw[List.map_map]
    exact(hat (·.1)).trans hps
   have hdsv:ds.map (·.vs)=ps.map (·.2):=by
    show(ps.attach.map _).map _=_
    rw[List.map_map]
    exact hat (·.2)
   have hdl:ds.length=l.length:=by rw[<- hdsx];simp
   have hds0:ds≠[]:=by intro q;rw[q]at hdl;simp at hdl;omega
   let inh:Inhabited α:=⟨ds.head hds0⟩
   let enc':α->List Value:=fun a=>a.vs
   let cf':α->α->Int:=fun x y=>(cf x.x y.x).getD 0
   have hlt:∀x y:α,ltOf cf' x y=ltO cf x.x y.x:=by
    intro x y
    obtain⟨c,hc⟩:=hall x.x x.mem y.x y.mem
    simp only[ltOf,ltO,cf',hc,Option.getD_some]
   have hO:SWO (ltOf cf'):=⟨fun x=>by rw[hlt];exact hswo.irrefl _ x.mem,fun x y z a b=>by rw[hlt]at*;exact hswo.trans _ x.mem _ y.mem _ z.mem a b,
    fun x y z a b=>by rw[hlt]at*;exact hswo.ntrans _ x.mem _ y.mem _ z.mem a b⟩
   have hk':∀x:α,(enc' x).length=k:=fun x=>x.len
   have hflat:flatK enc' k ds.toArray=((ps.map (·.2)).flatten).toArray:=by
    rw[Qfk hk']
    show((ds.map fun a=>a.vs).flatten).toArray=_
    rw[hdsv]
   have hpl:∀v∈ps.map (·.2),v.length=k:=by
    intro v hv
    obtain⟨p,hp,rfl⟩:=List.mem_map.1 hv
    exact(hpp p hp).1
   have hflen:(ps.map (·.2)).flatten.length=ds.length*k:=by rw[Qam _ hpl, <- hdsv];simp
   have hH:HoldsK enc' k w b (0*k) ds.toArray:=by
    intro j hj
    rw[hflat]at hj⊢
    simp only[List.size_toArray]at hj
    constructor
    ·unfold World.cell?
     simp only[e1,Option.isSome_none,Bool.false_eq_true,if_false,Nat.zero_mul,Nat.zero_add]
     rw[QaO,List.getElem?_append_left hj]
     exact Qff _ _ hj
    ·unfold World.frozen?
     simp only[e1]
     simp
   have hheap:∀(d':Array α),d'.size=ds.toArray.size->(putRowK enc' k w b (0*k) d').heap=w.heap.setIfInBounds b (.cells (((d'.toList.map enc').flatten++rest)).toArray t (0,0)):=by
    intro d' hd'
    have hl2:(d'.toList.map enc').flatten.length=(ps.map (·.2)).flatten.length:=by
     rw[Qam _ (k:=k) (by intro v hv;obtain⟨x,_,rfl⟩:=List.mem_map.1 hv;exact hk' x),hflen]
     simp at hd'⊢
     rw[hd']
    unfold putRowK putRow mapBlock
    show w.heap.modify b _=_
    rw[Qbs e1]
    simp only[onCells]
    congr 2
    rw[Qfk hk']
    unfold putCells
    apply Array.ext_getElem?
    intro i
    simp only[Array.getElem?_mapIdx,QaO,Nat.zero_mul,Nat.zero_le,true_and,Nat.zero_add,Nat.sub_zero,List.size_toArray,id_eq]
    by_cases hi:i<(d'.toList.map enc').flatten.length
    ·rw[List.getElem?_append_left hi,List.getElem?_append_left (by rw[<- hl2];exact hi),List.getElem?_eq_getElem (by rw[<- hl2];exact hi),Qff _ _ hi]
     exact congrArg some (if_pos hi)
    ·rw[List.getElem?_append_right (by omega),List.getElem?_append_right (by omega),hl2]
     cases(rest[i-(ps.map (·.2)).flatten.length]?)with
     |none=>rfl
     |some v=>
      rw[<- hl2]
      exact congrArg some (if_neg hi)
   have hbig:∀(m:Nat) (os:Array Obj) (d':Array α),d'.size=ds.toArray.size->
     (∀c,c<w.heap.size->c≠b->(sortWorldK enc' k w b (0*k) m d' os).heap[c]?=w.heap[c]?)/\(sortWorldK enc' k w b (0*k) m d' os).heap[b]?=some (.cells (((d'.toList.map enc').flatten++rest)).toArray t (0,0))/\
     w.heap.size<=(sortWorldK enc' k w b (0*k) m d' os).heap.size:=by
    intro m os d' hd'
    have e:(sortWorldK enc' k w b (0*k) m d' os).heap=w.heap.setIfInBounds b (.cells (((d'.toList.map enc').flatten++rest)).toArray t (0,0))++os:=by
     rw[<- hheap d' hd'];rfl
    rw[e]
    refine⟨fun c hc hcb=>?_,?_,by simp⟩
    ·rw[Array.getElem?_append_left (by simpa using hc),Array.getElem?_setIfInBounds,if_neg (fun q=>hcb q.symm)]
    ·rw[Array.getElem?_append_left (by simpa using hb),Array.getElem?_setIfInBounds,if_pos rfl,if_pos hb]
   have hshape:∀(m:Nat) (os:Array Obj) (d':Array α),d'.size=ds.toArray.size->∀c y,w.shape? c=some y->(sortWorldK enc' k w b (0*k) m d' os).shape? c=some y:=by
    intro m os d' hd' c y hy
    obtain⟨g1,g2,g3⟩:=hbig m os d' hd'
    by_cases hc:c=b
    ·subst hc
     unfold World.shape? at hy⊢
     rw[e1]at hy
     rw[g2]
     simp only[Option.some.injEq]at hy⊢
     rw[<- hy]
     congr 1
     simp only[List.size_toArray,List.length_append]
     rw[Qam _ (k:=k) (by intro v hv;obtain⟨x,_,rfl⟩:=List.mem_map.1 hv;exact hk' x),hflen]
     simp at hd'⊢
     rw[hd']
    ·unfold World.shape? at hy⊢
     rw[g1 c (QbV hy) hc];exact hy
   have hext:∀(m:Nat) (os:Array Obj) (d':Array α),d'.size=ds.toArray.size->∀τ,Ext ro τ w ro τ (sortWorldK enc' k w b (0*k) m d' os):=by
    intro m os d' hd' τ
    obtain⟨g1,g2,g3⟩:=hbig m os d' hd'
    exact⟨fun _ q=>q,fun c hc=>g1 c (s.roLt c hc) (fun q=>hbro (q▸hc)),hshape m os d' hd',fun _ _ q=>q⟩
   have hcl:CmpLays P g lc.toArray enc' k cf' b (0*k) ds.toArray.size w:=by
    intro m os dk hdk x y
    obtain⟨c,hc⟩:=hall x.x x.mem y.x y.mem
    have hext':=hext m os dk hdk []
    have hcc:=hcmp _ _ _ hc
    generalize hW:sortWorldK enc' k w b (0*k) m dk os=W at*
    have hWs:w.heap.size<=W.heap.size:=by rw[<- hW];exact(hbig m os dk hdk).2.2
    have sW:Sim (fun c=>c<W.heap.size/\ ¬ro c) ro [] [] W:=
     ⟨rfl,s.roOk.to (fun _ q=>q) hext'.keep (fun c hc=>Nat.lt_of_lt_of_le (s.roLt c hc) hWs),fun c hc=>hc.1,fun c hc hf=>hf.2 hc,fun i b x h=>by simp at h,fun i j b x y h=>by simp at h,fun i y x h=>by simp at h,fun i b x c h=>by simp at h⟩
    have hargs:LR ro [] W ([.agg (enc x.x),.agg (enc y.x)]++cap) ([.agg x.vs.toArray,.agg y.vs.toArray]++lc):=
     LR.append (show LR ro [] W [A.agg (enc x.x),A.agg (enc y.x)] [Value.agg x.vs.toArray,Value.agg y.vs.toArray]from⟨_,_,rfl,⟨x.vs,rfl,x.rel.mono hext'⟩,_,_,rfl,⟨y.vs,rfl,y.rel.mono hext'⟩,rfl⟩) (hcap'.mono hext')
    have hcalls:=hcc _ ro [] _ W sW hargs
    have hca:(([Value.agg x.vs.toArray,Value.agg y.vs.toArray]++lc).toArray:Array Value)= #[Value.agg (enc' x).toArray,Value.agg (enc' y).toArray]++lc.toArray:=by simp[enc']
    rw[hca]at hcalls
    refine hcalls.mono ?_
    rintro e w' ⟨v,r,H',ro',τ,rfl,⟨rfl,rfl⟩,s',hr',ev⟩
    refine⟨?_,?_⟩
    ·rw[show v=.int .i64 c from hr']
     simp only[cf',hc,Option.getD_some]
    ·refine QjG (fun c hc=>?_) ev.size ev.os ev.tape ev.output ev.drawn
     by_cases hro:ro c
     ·exact ev.keepRo c hro
     ·exact ev.keepFr c ⟨hc,hro⟩
   have hsz:ds.toArray.size=l.length:=by simpa using hdl
   have hcon:=AnyQ.slices_SortFunc L k aE zE enc' hk' (fun x v hv=>Qg1 (x.plain v hv)) cf' hO g lc.toArray b (0*k) cp ds.toArray w eg hcl hH hb (by rw[hsz];unfold QV at hmax;omega)
   rw[hsz]at hcon
   refine hcon.mono ?_
   rintro e w' ⟨rfl,d',n,os,hperm,hsort,rfl⟩
   have hd':d'.size=ds.toArray.size:=hperm.1
   obtain⟨g1,g2,g3⟩:=hbig n os d' hd'
   have hp':d'.toList.Perm ds:=by
    have h:=hperm.2.2
    have x1:d'.extract 0 l.length=d':=by rw[<- hsz, <- hd'];exact Array.extract_size
    have x2:ds.toArray.extract 0 l.length=ds.toArray:=by rw[<- hsz];exact Array.extract_size
    rw[x1,x2]at h
    simpa using h
   have hres:d'.toList.map (·.x)=l':=by
    rw[<- hl']
    refine QbF (lt:=ltO cf) ?_ ?_ ?_ (Qa0 hswo)
    ·exact((hp'.map (·.x)).trans (by rw[hdsx])).trans (Qai _ _).symm
    ·intro x hx y hy
     have hx':x∈l:=by rw[<- hdsx];exact(hp'.map (·.x)).mem_iff.1 hx
     have hy':y∈l:=by rw[<- hdsx];exact(hp'.map (·.x)).mem_iff.1 hy
     exact hanti x hx' y hy'
    ·rw[List.pairwise_iff_getElem]
     intro i j hi hj hij
     simp only[List.length_map]at hi hj
     simp only[List.getElem_map]
     rw[<- hlt]
     have:=hsort i j (Nat.zero_le _) hij (by rw[<- hsz, <- hd'];simpa using hj)
     rw[getElem!_pos d' j (by simpa using hj),getElem!_pos d' i (by simpa using hi)]at this
     simpa using this
   have hrl:RL ro [] (sortWorldK enc' k w b (0*k) n d' os) k (l'.map enc) ((d'.toList.map enc').flatten++rest):=by
    have e3:d'.toList.map enc'=(d'.toList.map fun a=>(a.x,a.vs)).map (·.2):=by simp[enc']
    have e4:l'=(d'.toList.map fun a=>(a.x,a.vs)).map (·.1):=by rw[<- hres];simp
    rw[e3,e4]
    refine QcI hk ?_
    intro p hp
    obtain⟨a,_,rfl⟩:=List.mem_map.1 hp
    exact⟨a.rel.mono (hext n os d' hd' []),a.plain⟩
   have hev:Qf fr ro w ro (sortWorldK enc' k w b (0*k) n d' os):=
    ⟨fun _ q=>q,fun c hc=>g1 c (s.roLt c hc) (fun q=>hbro (q▸hc)),fun c hc=>g1 c (s.frLt c hc) (fun q=>hbfr (q▸hc)),g3,hshape n os d' hd',rfl,rfl,rfl,Nat.le_add_right _ _⟩
   have hlen1:σ.length=1:=s.len
   have hsim:Sim fr ro σ [.row t k (l'.map enc)] (sortWorldK enc' k w b (0*k) n d' os):=by
    have i0:∀{i:Nat}{x:Blk},([.row t k (l'.map enc)]:Qc)[i]?=some x->i=0/\x=.row t k (l'.map enc):=by
     intro i x h
     cases i with
     |zero=>simp at h;exact⟨rfl,h.symm⟩
     |succ i=>simp at h
    refine⟨hlen1,s.roOk.to (fun _ q=>q) hev.keepRo (fun c hc=>Nat.lt_of_lt_of_le (s.roLt c hc) g3),fun c hc=>Nat.lt_of_lt_of_le (s.frLt c hc) g3,s.roFr,fun i c x h1 h2 h3=>?_,fun i j c x y h1 h2 h3 h4 _ _=>?_,fun i y x h1 h2=>?_,fun i b x c h1 h2 h3=>by obtain⟨rfl,rfl⟩:=i0 h2;exact h3.elim⟩
    ·obtain⟨rfl,rfl⟩:=i0 h2
     obtain⟨p1,p2⟩:=s.own 0 c _ h1 rfl rfl
     exact⟨Nat.lt_of_lt_of_le p1 g3,p2⟩
    ·rw[(i0 h3).1,(i0 h4).1]
    ·obtain⟨rfl,rfl⟩:=i0 h2
     rw[q1]at h1
     cases h1
     exact⟨_,g2,hrl⟩
   exact⟨_,_,_,ro,[],rfl,⟨rfl,rfl⟩,by simpa using hsim,⟨[],rfl,rfl⟩,hev⟩
end Go.Sw
namespace Go.Sw
section
variable {P:Program}{o:Oper}{env:Env}{H:Qc}{fr ro:Nat->Prop}{σ:Sig}{w:World}
theorem Sim.addRo(s:Sim fr ro σ H w){b:Nat}(hb:b<w.heap.size)(hf:¬fr b)(ho:∀(i:Nat) (x:Blk),σ[i]?=some (some b)->H[i]?=some x->x.live=true->False)
  (hd:∀(i d:Nat) (x:Blk),σ[i]?=some (some d)->H[i]?=some x->Hid w x d b->False):Sim fr (fun c=>ro c\/c=b) σ H w:=by
 refine⟨s.len,s.roOk.to (fun _ q=>.inl q) (fun _ _=>rfl) ?_,s.frLt,?_,?_,s.inj,?_,s.hidTo (· = ·) QP (Nat.le_refl _) (fun j d x c q1 q2 q3 q4=>q4.elim id fun q=>(hd j d x q1 q2 (q▸q3)).elim) (fun _ _ _ _ _ _ _ q=>q) fun j d y g1 g2 g3=>.inl ⟨j,y,rfl,g1,g2,id,fun _ q=>q⟩⟩
 ·rintro c (q|rfl)
  ·exact s.roLt c q
  ·exact hb
 ·rintro c (q|rfl)
  ·exact s.roFr c q
  ·exact hf
 ·intro i c x h1 h2 h3
  obtain⟨p1,p2,p3⟩:=s.own i c x h1 h2 h3
  refine⟨p1,?_,p3⟩
  rintro(q|rfl)
  ·exact p2 q
  ·exact ho i x h1 h2 h3
 ·intro i y x h1 h2
  exact(s.blk i y x h1 h2).keep ⟨fun _ q=>.inl q,fun _ _=>rfl,fun _ _ q=>q,fun _ _ q=>q⟩ (fun _ _ _=>rfl) (fun _ _ _ _=>rfl)
theorem QdH{T e k n:Nat}{xs:List Operand}{es:List (List A)}(E:QQ P T e k)(ho:o.op=.buildSlice T n (QaJ 0 xs).toArray)(hn:xs.length=n)(hsz:Nat.ble (n*k) 16777216=true)
  (hk:(xs.all fun x=>Q4 (opA env x))=true)(hes:Q1 env xs=es)(h4:allK k es)(hp:es.flatten.all Ye=true)(hd:Q6 es.flatten=true):
  OpH P o env H (.rsl k es) H:=by
 intro fr ro σ N a w r
 subst hes
 obtain⟨l,h1,h2⟩:=Qbj r E hn hsz hk h4
 have h2':LR ro [] w (Q1 env xs).flatten l:=h2.data hd
 have hold:∀b,b<w.heap.size->(w.alloc (.cells l.toArray e)).heap[b]?=w.heap[b]? :=fun b hb=>Q5 _ _ b hb
 have hsz1:w.heap.size<=(w.alloc (.cells l.toArray e)).heap.size:=by rw[Yf];omega
 have s1:=r.sim.grown hold hsz1
 have ev1:Qf fr ro w ro (w.alloc (.cells l.toArray e)):=Qf.alloc _ r.sim.roLt r.sim.frLt
 have s2:=s1.addRo (b:=w.heap.size) (by rw[Yf];omega) (fun q=>Nat.lt_irrefl _ (r.sim.frLt _ q)) (fun i x p1 p2 p3=>Nat.lt_irrefl _ (r.sim.own i _ x p1 p2 p3).1)
  (fun i d x p1 p2 p3=>Nat.lt_irrefl _ (r.sim.hid i d x _ p1 p2 (r.sim.hidKeep p1 p2 (fun z=>hold d (r.sim.own i d x p1 p2 z).1) (fun b q=>hold b (r.sim.roLt b q)) p3)).lt)
 have hrl:RL ro [] (w.alloc (.cells l.toArray e)) k (Q1 env xs) l:=by
  have:=QaD (rest:=[]) h4 (h2'.mono (ev1.ext0 [])) (h2.plain hp)
  rwa [List.append_nil]at this
 have hlen:(Q1 env xs).length=n:=by simp[Q1,hn]
 refine⟨_,_,fun c=>ro c\/c=w.heap.size,[],Qbb ho a.eval h1,?_,by simpa using s2,ev1.trans (Ya fun _ q=>.inl q)⟩
 refine⟨some ⟨w.heap.size,0,none⟩,n,by rw[hlen],by rw[hlen];exact Nat.le_refl _,.inr ⟨w.heap.size,0,rfl,.inr rfl,?_⟩⟩
 have hnew:(w.alloc (.cells l.toArray e)).heap[w.heap.size]?=some (.cells (([]:List Value)++l).toArray e (0,0)):=Yi _ _
 have:=Ys (pre:=[]) hnew hrl
 exact this.keep ⟨fun _ q=>.inl q,fun _ _=>rfl,fun _ _ q=>q,fun _ _ q=>q⟩ rfl
end
inductive Qgg:List A->List A->Prop
 |nil:Qgg [] []
 |eq {a:A}{l m:List A} (h:Qgg l m):Qgg (a::l) (a::m)
 |nl {k:Nat}{l m:List A} (h:Qgg l m):Qgg (.nils::l) (.rsl k []::m)
theorem LR.nils{ro:Nat->Prop}{σ:Sig}{w:World}{l1 bs:List A}(h:Qgg l1 bs):∀{l:List Value},LR ro σ w l1 l->LR ro σ w bs l:=by
 induction h with
 |nil=>intro l h;exact h
 |eq _ ih=>rintro l ⟨v,l',e,h1,h2⟩;exact⟨v,l',e,h1,ih h2⟩
 |nl _ ih=>rintro l ⟨v,l',e,h1,h2⟩;exact⟨v,l',e,⟨none,0,h1,Nat.le_refl _,.inl rfl⟩,ih h2⟩
theorem C.nils{P:Program}{f:FuncId}{l1 bs:List A}{H:Qc}{Q:A->Qc->Prop}(hl:Qgg l1 bs)(h:C P f bs H Q):C P f l1 H Q:=
 fun fr ro σ vals w s l=>h fr ro σ vals w s (LR.nils hl l)
end Go.Sw
namespace Go.Sw
def Qat(k:IntKind)(n:Int):Prop:=k.min<=n/\n<=k.max
def Qdv(w:World):Nat->Prop:=fun b=>b<w.heap.size
structure Meas {H:Type} (μ:DataW H->Nat):Prop where
 str:∀bytes,bytes.length<=μ (.lit (.string bytes))
 sl:∀e s,e.length<=μ (.slice e s)
 sle:∀e s,∀d∈e,μ d<=μ (.slice e s)
 ag:∀ps,∀d∈ps,μ d<=μ (.agg ps)
def RB(P:Program)(n:Nat)(t:TypeId)(T:Type)(e:T->List A)(wf:T->Prop):Prop:=
 ∀(H:Type) (enc:TypeId×Value->H) (w:World) (base:Nat) (spare:Nat->Bool) (held:Bool) (m:Nat) (cs:List Value) d,m<n->DataW.trod enc P w base spare held m t cs=some d->
  ∀μ:DataW H->Nat,Meas μ->μ d.1<=1048576->∃x:T,wf x/\LR (Qdv w) [] w (e x) cs/\ ∀v∈cs,Qv v
section
variable {P:Program}{n:Nat}{t:TypeId}{T:Type}{e:T->List A}{wf:T->Prop}
theorem RB.down(h:RB P (n+1) t T e wf):RB P n t T e wf:=fun H enc w base spare held m cs d hm=>h H enc w base spare held m cs d (Nat.lt_succ_of_lt hm)
theorem Qbv{T':Type}{e':T'->List A}{wf':T'->Prop}(h:RB P n t T e wf)(g:T->T')(he:∀x,e' (g x)=e x)(hw:∀x,wf x->wf' (g x)):RB P n t T' e' wf':=by
 intro H enc w base spare held m cs d hm hd μ hμ hwt
 obtain⟨x,h1,h2,h3⟩:=h H enc w base spare held m cs d hm hd μ hμ hwt
 exact⟨g x,hw x h1,by rw[he];exact h2,h3⟩
theorem RB.int{k:IntKind}(hu:P.underlying t=some (.int k)):RB P n t Int (Qd k) (Qat k):=by
 intro H enc w base spare held m cs d hm hd μ hμ hwt
 cases m with
 |zero=>simp[DataW.trod]at hd
 |succ m=>
  rcases cs with _|⟨v,_|⟨v2,r⟩⟩
  ·simp[DataW.trod,hu]at hd
  ·cases v<;>simp[DataW.trod,hu]at hd
   rename_i k' n'
   obtain⟨⟨rfl,hw⟩,_⟩:=hd
   refine⟨n',?_,⟨_,_,rfl,rfl,rfl⟩,by simp[Qv]⟩
   simpa[Lit.wf,Qat]using hw
  ·simp[DataW.trod,hu]at hd
theorem RB.bool(hu:P.underlying t=some .bool):RB P n t Bool encB (fun _=>True):=by
 intro H enc w base spare held m cs d hm hd μ hμ hwt
 cases m with
 |zero=>simp[DataW.trod]at hd
 |succ m=>
  rcases cs with _|⟨v,_|⟨v2,r⟩⟩
  ·simp[DataW.trod,hu]at hd
  ·cases v<;>simp[DataW.trod,hu]at hd
   rename_i b
   exact⟨b,trivial,⟨_,_,rfl,rfl,rfl⟩,by simp[Qv]⟩
  ·simp[DataW.trod,hu]at hd
theorem RB.string(hu:P.underlying t=some .string):RB P n t (List UInt8) encS (fun s=>s.length<=1048576):=by
 intro H enc w base spare held m cs d hm hd μ hμ hwt
 cases m with
 |zero=>simp[DataW.trod]at hd
 |succ m=>
  rcases cs with _|⟨v,_|⟨v2,r⟩⟩
  ·simp[DataW.trod,hu]at hd
  ·cases v<;>simp[DataW.trod,hu]at hd
   rename_i s
   obtain⟨_,rfl⟩:=hd
   exact⟨s.data.toList,Nat.le_trans (hμ.str _) hwt,⟨_,_,rfl,rfl,rfl⟩,by simp[Qv]⟩
  ·simp[DataW.trod,hu]at hd
theorem QbL{α:Type}{f:Nat->Option α}:∀{n:Nat}{l:List α},(List.range n).mapM f=some l->l.length=n/\ ∀i,i<n->∃y,f i=some y/\l[i]?=some y
 |0,l,h=>by simp at h;subst h;exact⟨rfl,fun i hi=>absurd hi (Nat.not_lt_zero _)⟩
 |n+1,l,h=>by
  rw[List.range_succ,List.mapM_append]at h
  cases h1:(List.range n).mapM f with
  |none=>simp[h1]at h
  |some l1=>
   cases h2:f n with
   |none=>simp[h1,h2]at h
   |some y=>
    simp[h1,h2]at h
    subst h
    obtain⟨e1,e2⟩:=QbL h1
    refine⟨by simp[e1],fun i hi=>?_⟩
    rcases Nat.lt_succ_iff_lt_or_eq.1 hi with q|rfl
    ·obtain⟨z,z1,z2⟩:=e2 i q
     exact⟨z,z1,by rw[List.getElem?_append_left (by omega)];exact z2⟩
    ·exact⟨y,h2,by rw[List.getElem?_append_right (by omega)];simp[e1]⟩
theorem QcJ{w:World}{ro:Nat->Prop}{b:Nat}:∀{cs:List A}{l:List Value}{off:Nat},LR ro [] w cs l->(∀v∈l,Qv v)->(∀i,i<l.length->w.cell? ⟨b,off+i,none⟩=l[i]?)->CR ro [] w b cs off
 |[],_,_,_,_,_=>trivial
 |a::cs,l,off,h,hp,hc=>by
  obtain⟨v,l',rfl,h1,h2⟩:=h
  refine⟨⟨v,by simpa using hc 0 (by simp),hp v (by simp),h1⟩,QcJ h2 (fun v hv=>hp v (by simp[hv])) fun i hi=>?_⟩
  have:=hc (i+1) (by simpa using hi)
  rw[show off+1+i=off+(i+1)by omega,this]
  simp
theorem RB.slice{E:TypeId}{k:Nat}{s:TypeId}(hu:P.underlying s=some (.slice E))(hk:P.cellsOf E=k)(h0:Nat.blt 0 k=true)(hl:∀x,(e x).length=k)(h:RB P n E T e wf):
  RB P (n+1) s (List T) (Yo k e) (fun l=>l.length<=1048576/\ ∀x∈l,wf x):=by
 intro H enc w base spare held m cs d hm hd μ hμ hwt
 have k0:0<k:=by simpa using h0
 cases m with
 |zero=>simp[DataW.trod]at hd
 |succ m=>
  rcases cs with _|⟨v,_|⟨v2,r⟩⟩
  ·simp[DataW.trod,hu]at hd
  ·cases v<;>try (simp[DataW.trod,hu]at hd;done)
   rename_i a len cap
   cases a with
   |none=>
    rcases len with _|len
    ·rcases cap with _|cap
     ·refine⟨[],⟨by simp,by simp⟩,⟨_,_,rfl,⟨none,0,rfl,Nat.le_refl _,.inl rfl⟩,rfl⟩,by simp[Qv]⟩
     ·simp[DataW.trod,hu]at hd
    ·simp[DataW.trod,hu]at hd
   |some a=>
    simp only[DataW.trod,hu]at hd
    split at hd
    ·rename_i hc
     obtain⟨c1,c2,c3⟩:=hc
     cases hm1:(List.range len).mapM (fun i=>(w.cells? base (a.add (i*P.cellsOf E)) (P.cellsOf E)).bind (DataW.trod enc P w base spare held m E))with
     |none=>rw[hm1]at hd;cases hd
     |some elems=>
      rw[hm1]at hd
      simp only[Option.bind_some,Option.map_eq_some_iff]at hd
      obtain⟨rest,_,rfl⟩:=hd
      have hlen0:elems.length<=1048576:=by
       have h1:=hμ.sl (elems.map (·.1)) (rest.map (·.1))
       rw[List.length_map]at h1
       exact Nat.le_trans h1 hwt
      have hwA:∀y∈elems,μ y.1<=1048576:=fun y hy=>Nat.le_trans (hμ.sle _ (rest.map (·.1)) _ (List.mem_map_of_mem hy)) hwt
      obtain⟨e1,e2⟩:=QbL hm1
      have raw:∀i,i<len->∃(x:T) (l:List Value),wf x/\LR (Qdv w) [] w (e x) l/\(∀v∈l,Qv v)/\l.length=k/\ ∀j,j<k->w.cell? ((a.add (i*k)).add j)=l[j]? :=by
       intro i hi
       obtain⟨y,y1,y2⟩:=e2 i hi
       rw[hk]at y1
       cases hcs:w.cells? base (a.add (i*k)) k with
       |none=>rw[hcs]at y1;cases y1
       |some l=>
        rw[hcs]at y1
        obtain⟨x,x1,x2,x3⟩:=h H enc w base spare held m l y (by omega) y1 μ hμ (hwA y (List.mem_of_getElem? y2))
        refine⟨x,l,x1,x2,x3,by rw[x2.length];exact hl x,fun j hj=>?_⟩
        unfold World.cells? at hcs
        split at hcs
        ·obtain⟨_,z2⟩:=QbL hcs
         obtain⟨v,v1,v2⟩:=z2 j hj
         rw[v2, <- v1]
        ·cases hcs
      by_cases hlen:len=0
      ·subst hlen
       exact⟨[],⟨by simp,by simp⟩,⟨_,_,rfl,⟨some a,cap,rfl,Nat.zero_le _,.inl rfl⟩,rfl⟩,by simp[Qv]⟩
      ·have first:a.spot=none/\a.block<w.heap.size:=by
        obtain⟨x',l,p1,p2,p3,p4,p5⟩:=raw 0 (by omega)
        have h5:=p5 0 k0
        have hl0:l[0]?=some l[0]:=List.getElem?_eq_getElem (by omega)
        have ea:(a.add (0*k)).add 0=a:=by simp[Addr.add]
        rw[hl0,ea]at h5
        unfold World.cell? at h5
        split at h5
        ·rename_i hh
         constructor
         ·cases q:a.spot with
          |none=>rfl
          |some z=>simp[q]at h5
         ·exact(Array.getElem?_eq_some_iff.1 hh).1
        ·cases h5
       obtain⟨hsp,hb⟩:=first
       have hadd:∀n,a.add n=⟨a.block,a.off+n,none⟩:=by
        intro n
        cases a
        simp only at hsp
        subst hsp
        unfold Addr.add
        split
        ·rename_i q;subst q;rfl
        ·rfl
       have hadd2:∀(b o n:Nat),(⟨b,o,none⟩:Addr).add n=⟨b,o+n,none⟩:=by
        intro b o n
        unfold Addr.add
        split
        ·rename_i q;subst q;rfl
        ·rfl
       have pick:∀q i,len-i=q->i<=len->∃xs:List T,xs.length=len-i/\(∀x∈xs,wf x)/\RR (Qdv w) [] w a.block k (xs.map e) (a.off+i*k):=by
        intro q
        induction q with
        |zero=>intro i hq hi;exact⟨[],by simp[hq],by simp,trivial⟩
        |succ q ih=>
         intro i hq hi
         obtain⟨xs,w1,w2,w4⟩:=ih (i+1) (by omega) (by omega)
         obtain⟨x,l,p1,p2,p3,p4,p5⟩:=raw i (by omega)
         refine⟨x::xs,by simp[w1];omega,by intro y hy;rcases List.mem_cons.1 hy with rfl|hy;exact p1;exact w2 y hy,hl x,?_,?_⟩
         ·refine QcJ p2 p3 fun j hj=>?_
          have h5:=p5 j (by omega)
          rw[hadd,hadd2]at h5
          exact h5
         ·rw[Nat.succ_mul, <- Nat.add_assoc]at w4
          exact w4
       obtain⟨xs,w1,w2,w4⟩:=pick len 0 (by omega) (Nat.zero_le _)
       rw[Nat.zero_mul,Nat.add_zero]at w4
       rw[Nat.sub_zero]at w1
       refine⟨xs,⟨by rw[w1, <- e1];exact hlen0,w2⟩,⟨_,_,rfl,⟨some a,cap,by simp[w1],by simp[w1];exact c2,.inr ⟨a.block,a.off,?_,hb,w4⟩⟩,rfl⟩,by simp[Qv]⟩
       cases a
       simp only at hsp
       subst hsp;rfl
    ·cases hd
  ·simp[DataW.trod,hu]at hd
def RF(P:Program)(n:Nat)(fs:List Field)(off L:Nat)(T:Type)(e:T->List A)(wf:T->Prop):Prop:=
 ∀(H:Type) (enc:TypeId×Value->H) (w:World) (base:Nat) (spare:Nat->Bool) (held:Bool) (m:Nat) (cs:List Value) ds,m<n->cs.length=L->
  fs.mapM (fun f=>DataW.trod enc P w base spare held m f.type ((cs.drop f.offset).take (P.cellsOf f.type)))=some ds->
  ∀μ:DataW H->Nat,Meas μ->(∀y∈ds,μ y.1<=1048576)->∃x:T,wf x/\LR (Qdv w) [] w (e x) (cs.drop off)/\ ∀v∈cs.drop off,Qv v
theorem RF.nil{L:Nat}:RF P n [] L L Unit (fun _=>[]) (fun _=>True):=by
 intro H enc w base spare held m cs ds hm hl hd μ hμ hwt
 have:cs.drop L=[]:=List.drop_eq_nil_of_le (by omega)
 rw[this]
 exact⟨(),trivial,rfl,by simp⟩
theorem RF.cons{f:Field}{fs:List Field}{off L k:Nat}{T2:Type}{e2:T2->List A}{wf2:T2->Prop}(ho:f.offset=off)(hk:P.cellsOf f.type=k)(h:RB P n f.type T e wf)(r:RF P n fs (off+k) L T2 e2 wf2):
  RF P n (f::fs) off L (T×T2) (fun p=>e p.1++e2 p.2) (fun p=>wf p.1/\wf2 p.2):=by
 intro H enc w base spare held m cs ds hm hl hd μ hμ hwt
 rw[List.mapM_cons]at hd
 cases h1:DataW.trod enc P w base spare held m f.type ((cs.drop f.offset).take (P.cellsOf f.type))with
 |none=>simp[h1]at hd
 |some d=>
  cases h2:fs.mapM (fun f=>DataW.trod enc P w base spare held m f.type ((cs.drop f.offset).take (P.cellsOf f.type)))with
  |none=>simp[h1,h2]at hd
  |some ds'=>
   have hds:ds=d::ds':=by
    rw[h1,h2]at hd
    exact(Option.some.inj hd).symm
   subst hds
   rw[ho,hk]at h1
   obtain⟨x,x1,x2,x3⟩:=h H enc w base spare held m _ d hm h1 μ hμ (hwt d (by simp))
   obtain⟨y,y1,y2,y3⟩:=r H enc w base spare held m cs ds' hm hl h2 μ hμ (fun y hy=>hwt y (by simp[hy]))
   have hsp:cs.drop off=(cs.drop off).take k++cs.drop (off+k):=by rw[<- List.drop_drop,List.take_append_drop]
   refine⟨(x,y),⟨x1,y1⟩,by rw[hsp];exact x2.append y2,?_⟩
   rw[hsp]
   intro v hv
   rcases List.mem_append.1 hv with q|q
   ·exact x3 v q
   ·exact y3 v q
theorem RB.struct{fs:Array Field}{L:Nat}(hu:P.underlying t=some (.struct fs))(hL:P.cellsOf t=L)(h:RF P n fs.toList 0 L T e wf):RB P (n+1) t T e wf:=by
 intro H enc w base spare held m cs d hm hd μ hμ hwt
 cases m with
 |zero=>simp[DataW.trod]at hd
 |succ m=>
  unfold DataW.trod at hd
  simp only[hu]at hd
  split at hd
  ·rename_i hc
   cases h1:fs.toList.mapM (fun f=>DataW.trod enc P w base spare held m f.type ((cs.drop f.offset).take (P.cellsOf f.type)))with
   |none=>rw[h1]at hd;cases hd
   |some ds=>
    rw[h1]at hd
    simp only[Option.map_some,Option.some.injEq]at hd
    subst hd
    have:=h H enc w base spare held m cs ds (by omega) (by rw[hc,hL]) h1 μ hμ (fun y hy=>Nat.le_trans (hμ.ag _ _ (List.mem_map_of_mem hy)) hwt)
    simpa using this
  ·cases hd
end
theorem C.law{P:Program}{f:FuncId}{args:List A}{W:World}{vals:List Value}(h:C P f args [] (fun a H=>a=.bool true/\H=[]))(hl:LR (Qdv W) [] W args vals)(hgp:GP W):
  Calls P f vals.toArray W fun e W'=>e=.returned (.bool true)/\Go.RowKit.Below W.heap.size W W':=by
 have s:Sim (fun _=>False) (Qdv W) [] [] W:=
  ⟨rfl,⟨fun _ h=>h,fun b hb=>hgp.size b hb,hgp⟩,fun _ h=>h.elim,fun _ _ h=>h,fun i b x h=>by simp at h,fun i j b x y h=>by simp at h,fun i y x h=>by simp at h,fun i b x c h=>by simp at h⟩
 refine(h _ _ _ _ W s hl).mono ?_
 rintro e W' ⟨v,r,H',ro',τ,rfl,⟨rfl,rfl⟩,_,hv,ev⟩
 exact⟨by rw[show v=.bool true from hv],⟨ev.os,ev.tape,ev.output,ev.size,fun k hk=>ev.keepRo k hk⟩⟩
theorem Qio{P:Program}{W:World}{base:Nat}{t:TypeId}{v:Value}{fs:Array Field}(hu:P.underlying t=some (.struct fs))(h:Value.okWide P W .any base t v):∃cs,v=.agg cs:=by
 unfold Value.okWide at h
 rw[hu]at h
 obtain⟨cs,rfl,_⟩:=h
 exact⟨cs,rfl⟩
theorem QfS{P:Program}{W:World}{t:TypeId}{cs:Array Value}{T:Type}{e:T->List A}{wf:T->Prop}{H:Type}{enc:TypeId×Value->H}{base:Nat}{spare:Nat->Bool}{held:Bool}{d:DataW H}{ps:List MemPlace}
  (h:∀n,RB P n t T e wf)(ht:DataW.Trod enc P W base spare held t (.agg cs) d ps){μ:DataW H->Nat}(hμ:Meas μ)(hwt:μ d<=1048576):∃x:T,wf x/\VR (Qdv W) [] W (.agg (e x)) (.agg cs):=by
 obtain⟨m,hm⟩:=ht
 obtain⟨x,h1,h2,_⟩:=h (m+1) H enc W base spare held m _ _ (Nat.lt_succ_self _) hm μ hμ hwt
 exact⟨x,h1,cs.toList,by simp,h2⟩
theorem QfO{P:Program}{W:World}(h:W.ShapedOpen P){g t u:Nat}{z:Value}(hg:Nat.blt g P.globals.size=true)(h1:(((begin P (fun _ _=>0) default).world.heap[g]?).bind Obj.row?)=some (#[z],t))
  (hb:P.buildable t=true)(hc:P.cellTypes P.depth t=some [u])(hu:P.underlying u=some (.int .i64)):∃m:Int,W.cell? ⟨g,0,none⟩=some (.int .i64 m):=by
 obtain⟨cs,e1,e2,e3⟩:=h.1 g _ _ (by simpa using hg) h1
 obtain⟨ts,f1,_,f2⟩:=e3 hb
 rw[hc]at f1
 cases f1
 have hs:cs.size=1:=e2
 have hc0:cs[0]?=some cs[0]:=Array.getElem?_eq_getElem (by omega)
 obtain⟨u',g1,g2⟩:=f2 0 _ hc0
 simp at g1
 subst g1
 unfold Cell.ok at g2
 rw[hu]at g2
 cases hv:cs[0]<;>rw[hv]at g2<;>simp at g2
 rename_i k n
 obtain⟨rfl,_⟩:=g2
 refine⟨n,?_⟩
 simp only[World.cell?,e1]
 rw[hc0,hv]
 rfl
end Go.Sw
namespace Go.Sw
theorem QfX{S B:Type}{step:S->Option (Ctl S B)}(st:Nat->S)(b:B)(k:Nat)(hc:∀i,i<k->step (st i)=some (.cont (st (i+1))))(hd:step (st k)=some (.done b)):∀n,k<n->iter step n (st 0)=some b:=by
 have key:∀m i n,k-i=m->i<=k->m<n->iter step n (st i)=some b:=by
  intro m
  induction m with
  |zero=>
   intro i n h1 h2 h3
   have:i=k:=by omega
   subst this
   obtain⟨n',rfl⟩:∃n',n=n'+1:=⟨n-1,by omega⟩
   simp[iter,hd]
  |succ m ih=>
   intro i n h1 h2 h3
   obtain⟨n',rfl⟩:∃n',n=n'+1:=⟨n-1,by omega⟩
   simp only[iter,hc i (by omega)]
   exact ih (i+1) n' (by omega) (by omega) (by omega)
 intro n hn
 exact key k 0 n (by omega) (Nat.zero_le _) hn
theorem Qis{S B:Type}{step:S->Option (Ctl S B)}(s0:S)(st:Nat->S)(b:B)(k:Nat)(h0:st 0=s0)(hc:∀i,i<k->step (st i)=some (.cont (st (i+1))))(hd:step (st k)=some (.done b))(n:Nat)(hn:k<n):iter step n s0=some b:=by
 rw[<- h0];exact QfX st b k hc hd n hn
theorem Qo{α:Type}{l:List α}{i:Nat}{x:α}(h:l[i]?=some x):idx l (i:Int)=some x:=by
 unfold idx
 have:decide ((0:Int)<=i)=true:=by simp
 rw[this];simpa using h
theorem QjW{α:Type}(l:List α)(x:α)(h:l.length<4294967296):app l [x]=some (l++[x]):=by
 unfold app
 have:Nat.ble (l.length+[x].length) QV=true:=by
  apply Nat.ble_eq_true_of_le
  unfold QV
  simp;omega
 rw[this];rfl
theorem Qci{n:Int}(h0: -9223372036854775808<=n)(h1:n<=9223372036854775807):IntKind.i64.wrap n=n:=by
 unfold IntKind.wrap
 simp[IntKind.bits,IntKind.signed]
 omega
theorem QdS{i:Nat}(h:i<9223372036854775807):IntKind.i64.wrap ((i:Int)+1)=((i+1:Nat):Int):=by
 rw[Qci (by omega) (by omega)];omega
theorem QbP{p:Prop}[Decidable p](h:p):decide p=true:=decide_eq_true h
theorem QaM{p:Prop}[Decidable p](h:¬p):decide p=false:=decide_eq_false h
end Go.Sw
namespace Go.Sw
open Go.Proofs Go.Shelf
def cat(a b:List UInt8):Option (List UInt8):=bif Nat.ble (a.length+b.length) 4294967296 then some (a++b)else none
theorem QkR{a b r:List UInt8}(h:cat a b=some r):a.length+b.length<=4294967296/\a++b=r:=by
 unfold cat at h
 cases q:Nat.ble (a.length+b.length) 4294967296 with
 |true=>rw[q]at h;exact⟨Nat.le_of_ble_eq_true q,Option.some.inj h⟩
 |false=>rw[q]at h;cases h
def QfY(s t:List UInt8):Option Bool:=bif Nat.blt s.length 4294967281 then some (Lib.contains s t)else none
section
variable {P:Program}{o:Oper}{env:Env}{H:Qc}
theorem QdA{t u:TypeId}{x y:Operand}{p q r:List UInt8}(hr:cat p q=some r)(ho:o.op=.binOp .add t x y u:=by exact rfl)(hx:opA env x=.str p:=by exact rfl)(hy:opA env y=.str q:=by exact rfl):OpV P o env H (.str r):=by
 intro fr ro σ N a w rr
 obtain⟨h1,h2⟩:=QkR hr
 have e1:=Qg rr x
 rw[hx]at e1
 have e2:=Qg rr y
 rw[hy]at e2
 have e1':a.eval x=.string ⟨p.toArray⟩:=e1
 have e2':a.eval y=.string ⟨q.toArray⟩:=e2
 have hs:(⟨p.toArray⟩:ByteArray)++⟨q.toArray⟩=⟨r.toArray⟩:=by
  rw[<- h2]
  apply ByteArray.ext
  simp
 refine⟨.string ⟨r.toArray⟩,?_,rfl⟩
 have hlen:¬((((⟨p.toArray⟩:ByteArray).size+(⟨q.toArray⟩:ByteArray).size:Nat):Int)>IntKind.i64.max):=by
  have:IntKind.i64.max=9223372036854775807:=by decide
  rw[this]
  simp only[ByteArray.size,List.size_toArray]
  omega
 generalize a.eval=ρ at*
 have hg:(eqGuard BinOp.add t x y (.string ⟨p.toArray⟩) (.string ⟨q.toArray⟩)).run P w=.ok () w:=by simp[eqGuard]
 simp only[execOp,ho,e1',e2',binOp_string_add,Op.stringOp,if_neg hlen,hs,Sem.run_bind,Sem.run_pure,Result.andThen,hg]
def QcL{α:Type}(n:Nat)(l:List α)(i:Int):Option α:=bif Nat.beq l.length n then idx l i else none
theorem Qaj{α:Type}{n:Nat}{l:List α}{i:Int}{x:α}(h:QcL n l i=some x):l.length=n/\idx l i=some x:=by
 unfold QcL at h
 cases q:Nat.beq l.length n with
 |true=>rw[q]at h;exact⟨Nat.eq_of_beq_eq_true q,h⟩
 |false=>rw[q]at h;cases h
def arr{α:Type}(n:Nat)(l:List α):Option (List α):=bif Nat.beq l.length n then some l else none
theorem Qbm{α:Type}{n:Nat}{l l':List α}(h:arr n l=some l'):l.length=n/\l=l':=by
 unfold arr at h
 cases q:Nat.beq l.length n with
 |true=>rw[q]at h;exact⟨Nat.eq_of_beq_eq_true q,Option.some.inj h⟩
 |false=>rw[q]at h;cases h
theorem QeL{α:Type}{n:Nat}{l l':List α}(h:arr n l=some l'):l'.length=n:=(Qbm h).2▸(Qbm h).1
section
variable {α:Type}{e:α->List A}{t et k n b:Nat}{x y:Operand}{l:List α}
theorem YG{i:Int}{v:α}{kk:IntKind}(h:QcL n l i=some v)(ht:∀w,(underlying t).run P w=.ok (.array n et) w)(hs:∀w,(sizeOf et).run P w=.ok k w)(hn1:Nat.ble 2 n=true)
  (ho:o.op=.indexAddr t x y:=by exact rfl)(hx:opA env x=.ptr b 0:=by exact rfl)(hy:opA env y=.int kk i:=by exact rfl):OpV P o env H (.ptr b (i.toNat*k)):=by
 intro fr ro σ N a w r
 obtain⟨hl,hi⟩:=Qaj h
 obtain⟨i0,i1⟩:=Qa1 hi
 have hlt:i.toNat<l.length:=(List.getElem?_eq_some_iff.1 i1).1
 have h1:=Qg r x
 rw[hx]at h1
 obtain⟨bb,h1,h2⟩:=h1
 have h3:=Qg r y
 rw[hy]at h3
 have h3':a.eval y=.int kk i:=h3
 refine⟨.pointer (some ⟨bb,i.toNat*k,none⟩),?_,bb,h1,rfl⟩
 have hr:0<=i/\i<(n:Int):=by omega
 have hadd:(⟨bb,0,none⟩:Addr).add (i.toNat*k)=⟨bb,i.toNat*k,none⟩:=by
  unfold Addr.add
  split
  ·rename_i q;rw[q]
  ·simp
 generalize a.eval=ρ at*
 simp[execOp,ho,h2,h3',Instr.indexAt,asIntOf,ht,hs,Instr.sureAddr,hr,hadd,go_sem,Result.andThen]
theorem QgM{cs:List A}(hH:H[b]?=some (.row t k (l.map e)):=by exact rfl)(hcs:(l.map e).flatten=cs:=by exact rfl):Pts H (.ptr b 0) cs:=by
 intro fr ro σ w v s h
 obtain⟨bb,h1,h2⟩:=h
 obtain⟨lv,q1,q2⟩:=s.blk b _ _ h1 hH
 refine⟨bb,0,h2,?_⟩
 have:=(RR.flat (Ys (pre:=[]) (by simpa using q1) q2)).1
 subst hcs
 exact this.lift
theorem Qfj(hk:∀x,(e x).length=k)(L:List α):(L.map e).flatten.length=L.length*k:=by
 induction L with
 |nil=>simp
 |cons c L ih=>simp only[List.map_cons,List.flatten_cons,List.length_append,hk c,ih,List.length_cons,Nat.succ_mul];omega
theorem QfC{n2:Nat}{l':List α}(h:arr n l=some l')(hk:∀x,(e x).length=k)(hnk:n*k=n2)(ha:∀w,(isAgg t).run P w=.ok true w)(hs:∀w,(sizeOf t).run P w=.ok n2 w){T:Nat}
  (ho:o.op=.load t x:=by exact rfl)(hx:opA env x=.ptr b 0:=by exact rfl)(hH:H[b]?=some (.row T k (l.map e)):=by exact rfl):OpV P o env H (.agg (l'.map e).flatten):=by
 obtain⟨h1,rfl⟩:=Qbm h
 have hl:=Qfj hk l
 rw[h1,hnk]at hl
 exact QH ho ha hs hx (QgM hH rfl) (List.take_of_length_le (by omega)) hl
theorem Qhu{r:Nat}{n2 T:Nat}(hl:l.length=n)(hk:∀x,(e x).length=k)(hnk:n*k=n2)(ha:∀w,(isAgg t).run P w=.ok true w)(hs:∀w,(sizeOf t).run P w=.ok n2 w)
  (hx:lk env r=.ptr b 0:=by exact rfl)(hH:H[b]?=some (.row T k (l.map e)):=by exact rfl):Qcc P env H (.cell r t) (.agg (l.map e).flatten):=by
 have hf:=Qfj hk l
 rw[hl,hnk]at hf
 have:=QcH (b:=r) (p:=.ptr b 0) (n:=n2) ha hs (QgM hH rfl) hx (by rw[List.take_of_length_le (by omega)];exact hf)
 rwa [List.take_of_length_le (by omega)]at this
theorem Qfy{c:List A}{k:Nat}(h:c.length=k):∀n,allK k (List.replicate n c)
 |0=>trivial
 |n+1=>⟨h,Qfy h n⟩
theorem Qa4{vs:Array Value}{z:α}(hz:∀w,(zeroValue t).run P w=.ok (.agg vs) w)(hv:(YD (List.replicate n (e z)).flatten).toArray=vs)(hs:Qc4 (List.replicate n (e z)).flatten=true)(hp:(List.replicate n (e z)).flatten.all Ye=true)(hk:Nat.beq (e z).length k=true)
  (ho:o.op=.alloc t:=by exact rfl):OpH P o env H (.ptr H.length 0) (H++[.row t k ((List.replicate n z).map e)]):=by
 intro fr ro σ N a w r
 have hl:LR ro [] w (List.replicate n (e z)).flatten (YD (List.replicate n (e z)).flatten):=QdL hs
 have hsim:=r.sim.allocRow (t:=t) (rest:=[]) (Qfy (Nat.eq_of_beq_eq_true hk) n) hl (hl.plain hp)
 rw[List.append_nil]at hsim
 have hm:(List.replicate n z).map e=List.replicate n (e z):=List.map_replicate
 refine⟨.pointer (some ⟨w.heap.size,0,none⟩),w.alloc (.cells (YD (List.replicate n (e z)).flatten).toArray t),ro,[some w.heap.size],?_,⟨w.heap.size,?_,rfl⟩,hm▸hsim,Qf.alloc _ r.sim.roLt r.sim.frLt⟩
 ·generalize a.eval=ρ at*
  have e1:(newVar t (.agg vs)).run P w=.ok ⟨w.heap.size,0,none⟩ (w.alloc (.cells vs t)):=rfl
  rw[hv]
  simp only[execOp,ho,Instr.alloc,Sem.run_bind,hz,Result.andThen,e1]
  rfl
 ·rw[<- r.sim.len];simp
theorem Qce{T n2:Nat}{l':List α}{vs:List A}(h:l.length=n)(h':l'.length=n)(hk:∀x,(e x).length=k)(hnk:n*k=n2)(hs:∀w,(sizeOf t).run P w=.ok n2 w)
  (hp:∀x,(e x).all Ye=true)(hd:∀x,Q6 (e x)=true)(hvs:(l'.map e).flatten=vs)
  (ho:o.op=.store t x y:=by exact rfl)(hx:opA env x=.ptr b 0:=by exact rfl)(hH:H[b]?=some (.row T k (l.map e)):=by exact rfl)(hy:opA env y=.agg vs:=by exact rfl):
  OpU P o env H (H.set b (.row T k (l'.map e))):=by
 intro fr ro σ N a w r
 subst hvs
 have h1:=Qg r x
 rw[hx]at h1
 obtain⟨bb,h1,h2⟩:=h1
 have h3:=Qg r y
 rw[hy]at h3
 obtain⟨m,h4,h5⟩:=h3
 obtain⟨lv,q1,q2⟩:=r.sim.blk b _ _ h1 hH
 have hal:∀(L:List α),allK k (L.map e):=by
  intro L
  induction L with
  |nil=>trivial
  |cons c L ih=>exact⟨hk c,ih⟩
 have hfl:(l'.map e).flatten.length=n2:=by rw[YB (hal l'),List.length_map,h',hnk]
 have hm:m.length=n2:=by rw[h5.length,hfl]
 have hpl:∀L:List α,(L.map e).flatten.all Ye=true:=by
  intro L
  induction L with
  |nil=>rfl
  |cons c L ih=>simp only[List.map_cons,List.flatten_cons,List.all_append,hp c,ih,Bool.and_self]
 have hdt:∀cs ds:List A,Q6 cs=true->Q6 ds=true->Q6 (cs++ds)=true:=by
  intro cs
  induction cs with
  |nil=>intro ds _ h;exact h
  |cons c cs ih=>
   intro ds h1 h2
   simp only[Q6,Bool.and_eq_true,List.cons_append]at h1⊢
   exact⟨h1.1,ih ds h1.2 h2⟩
 have hdl:∀L:List α,Q6 (L.map e).flatten=true:=by
  intro L
  induction L with
  |nil=>rfl
  |cons c L ih=>simp only[List.map_cons,List.flatten_cons];exact hdt _ _ (hd c) ih
 have hlen:n2<=lv.length:=by
  have:=q2.length
  rw[List.length_map,h,hnk]at this
  exact this
 have hrun:=Yr (P:=P) (vs:=m) 0 0 q1 (by omega) (h5.plain (hpl l'))
 have hspl:splice lv 0 m=m++lv.drop n2:=by unfold splice;simp[hm]
 have hset:=r.sim.set (x':=.row T k (l'.map e)) (obj:=.cells (splice lv 0 m).toArray T (0,0)) h1 hH rfl
  (fun y hy=>QaP q1 (Q9 (by omega)) y hy)
  (fun ex hex=>by
   have hx:=(h5.data (hdl l')).mono ex.nil
   rw[hspl]at hx hex⊢
   exact⟨_,hex,QaD (hal l') hx (h5.plain (hpl l'))⟩)
 refine⟨_,ro,[],?_,by simpa using hset.1,hset.2⟩
 generalize a.eval=ρ at*
 have hsz:(ρ y).cells.size=n2:=by rw[h4];simp[Value.cells,hm]
 have hst:(storeVar t ⟨bb,0,none⟩ (ρ y)).run P w=.ok () {w with heap:=w.heap.setIfInBounds bb (.cells (splice lv 0 m).toArray T (0,0))}:=by
  unfold storeVar
  rw[Sem.run_bind,hs]
  simp only[Result.andThen]
  rw[if_neg (by simp[hsz]),h4]
  have ec:(Value.agg m.toArray).cells.toList=m:=by simp[Value.cells]
  rw[ec]
  simpa using hrun
 simp only[execOp,ho,h2,Instr.storeAt,Instr.sureAddr,pure_bind,Sem.run_bind,hst]
 rfl
end
end
theorem C.contains{P:Program}{ρ:Ren}(L:Lays.n144 P ρ)(hg:ρ.g 1=Qg4){s t:List UInt8}{r:Bool}(h:QfY s t=some r):C P (ρ.f 144) [.str s,.str t] [] (fun a H=>a=.bool r/\H=[]):=by
 unfold QfY at h
 cases q:Nat.blt s.length 4294967281 with
 |false=>rw[q]at h;cases h
 |true=>
  rw[q]at h
  obtain rfl:=Option.some.inj h
  intro fr ro σ vals w sim hv
  obtain⟨v1,l1,rfl,h1,v2,l2,rfl,h2,h3⟩:=hv
  cases(show l2=[]from h3)
  obtain⟨m,hm⟩:=sim.roOk.gp.max
  have e1:v1=.string ⟨s.toArray⟩:=h1
  have e2:v2=.string ⟨t.toArray⟩:=h2
  subst e1 e2
  have hs:s.length<4294967281:=by simpa using q
  refine(Any.strings_Contains L ⟨s.toArray⟩ ⟨t.toArray⟩ m w (by simpa[ByteArray.size]using hs) (by rw[hg];exact hm)).mono ?_
  rintro e w' ⟨rfl,rfl⟩
  exact⟨_,_,_,ro,[],rfl,⟨rfl,rfl⟩,by simpa using sim,rfl,Qf.refl _ _ _⟩
section
variable {P:Program}{o:Oper}{env:Env}{H:Qc}{fr ro:Nat->Prop}{σ:Sig}{w:World}
theorem Sim.touch(s:Sim fr ro σ H w){b:Nat}{obj:Obj}(hro:¬ro b)(hfr:¬fr b)(ho:∀(i:Nat) (x:Blk),σ[i]?=some (some b)->H[i]?=some x->x.live=true->False)
  (hhid:∀(i d:Nat) (x:Blk),σ[i]?=some (some d)->H[i]?=some x->Hid w x d b->False)
  (hsh:∀y,w.shape? b=some y->({w with heap:=w.heap.setIfInBounds b obj}:World).shape? b=some y):
  Sim fr ro σ H {w with heap:=w.heap.setIfInBounds b obj}/\Qf fr ro w ro {w with heap:=w.heap.setIfInBounds b obj}:=by
 have hne:∀c,c≠b->({w with heap:=w.heap.setIfInBounds b obj}:World).heap[c]?=w.heap[c]? :=by
  intro c hc
  show(w.heap.setIfInBounds b obj)[c]?=_
  rw[Array.getElem?_setIfInBounds,if_neg (fun q=>hc q.symm)]
 have hsz:({w with heap:=w.heap.setIfInBounds b obj}:World).heap.size=w.heap.size:=by simp
 have ev:Qf fr ro w ro {w with heap:=w.heap.setIfInBounds b obj}:=
  ⟨fun _ h=>h,fun c h=>hne c (fun q=>hro (q▸h)),fun c h=>hne c (fun q=>hfr (q▸h)),by rw[hsz];exact Nat.le_refl _,by
   intro c y h
   by_cases q:c=b
   ·subst q;exact hsh y h
   ·unfold World.shape? at h⊢;rw[hne c q];exact h,rfl,rfl,rfl,Nat.le_refl _⟩
 refine⟨⟨s.len,s.roOk.to (fun _ q=>q) ev.keepRo (fun c h=>by rw[hsz];exact s.roLt c h),fun c h=>by rw[hsz];exact s.frLt c h,s.roFr,?_,s.inj,?_,s.hidTo (· = ·) QP (by rw[hsz];exact Nat.le_refl _) (fun _ _ _ _ _ _ _ q=>q) (fun _ _ _ _ _ _ _ q=>q) fun j d y g1 g2 g3=>.inl ⟨j,y,rfl,g1,g2,id,fun c q=>s.hidKeep g1 g2 (fun z=>hne d (fun e=>ho j y (e▸g1) g2 z)) ev.keepRo q⟩⟩,ev⟩
 ·intro i c x h1 h2 h3
  rw[hsz];exact s.own i c x h1 h2 h3
 ·intro i y x h1 h2
  refine(s.blk i y x h1 h2).keep (ev.ext0 σ) ?_ ?_
  ·rintro c rfl hl
   exact hne c (fun q=>by subst q;exact ho i x h1 h2 hl)
  ·rintro d c rfl hl
   exact hne c (fun q=>hhid i d x h1 h2 (q▸hl))
theorem QhJ{T E i n t:Nat}{x:Operand}{es:List (List A)}(ht:P.underlying T=some (.slice E))(hE:P.underlying E=some (.int .u8))(hn:es.length=n)(h0:Nat.blt 0 n=true)
  (ho:o.op=.convert T T x:=by exact rfl)(hx:opA env x=.osl i 0 n 1:=by exact rfl)(hH:H[i]?=some (.row t 1 es):=by exact rfl):
  OpH P o env H (.rsl 1 es) (H.set i .dead):=by
 intro fr ro σ N a w r
 subst hn
 have h1:=Qg r x
 rw[hx]at h1
 rcases h1 with⟨hz,_⟩|⟨b,p,cap,t',m,h1,h2,h6,h3,h4,h5⟩
 ·rw[hz]at h0;simp at h0
 ·have hpos:0<es.length:=by simpa using h0
  obtain rfl:=h6 (by omega)
  obtain⟨hb,hbro,hbfr⟩:=r.sim.own i b _ h1 hH rfl
  obtain⟨l,q1,q2⟩:=r.sim.blk i _ _ h1 hH
  have s1:=r.sim.kill i
  have hnone:∀(j:Nat) (y:Blk),σ[j]?=some (some b)->(H.set i .dead)[j]?=some y->y.live=true->False:=by
   intro j y g1 g2 g3
   by_cases q:j=i
   ·subst q
    rw[List.getElem?_set]at g2
    simp only[if_true]at g2
    split at g2
    ·cases g2;simp[Blk.live]at g3
    ·simp at g2
   ·rw[List.getElem?_set_ne (fun z=>q z.symm)]at g2
    exact q (r.sim.inj j i b y _ g1 h1 g2 hH g3 rfl)
  have hnh:∀(j d:Nat) (y:Blk),σ[j]?=some (some d)->(H.set i .dead)[j]?=some y->Hid w y d b->False:=by
   intro j d y g1 g2 g3
   by_cases q:j=i
   ·subst q
    rw[List.getElem?_set]at g2
    simp only[if_true]at g2
    split at g2
    ·cases g2;exact g3.elim
    ·simp at g2
   ·rw[List.getElem?_set_ne (fun z=>q z.symm)]at g2
    exact(r.sim.hid j d y b g1 g2 g3).ne i b _ h1 hH rfl rfl
  let fz:Nat×Nat:=(l.length,l.length+1)
  have hsh:∀y,w.shape? b=some y->({w with heap:=w.heap.setIfInBounds b (.cells l.toArray t fz)}:World).shape? b=some y:=by
   intro y hy
   unfold World.shape? at hy⊢
   rw[q1]at hy
   have e:(w.heap.setIfInBounds b (.cells l.toArray t fz))[b]?=some (.cells l.toArray t fz):=by rw[Array.getElem?_setIfInBounds,if_pos rfl,if_pos hb]
   simp only[e]
   exact hy
  obtain⟨s2,ev2⟩:=s1.touch (obj:=.cells l.toArray t fz) hbro hbfr hnone hnh hsh
  have s3:=s2.addRo (b:=b) (by simpa using hb) hbfr hnone (fun j d y g1 g2 g3=>hnh j d y g1 g2 (s1.hidKeep g1 g2 (fun z=>by
   show(w.heap.setIfInBounds b _)[d]?=_
   rw[Array.getElem?_setIfInBounds,if_neg (fun e:b=d=>hnone j y (by rw[e];exact g1) g2 z)]) ev2.keepRo g3))
  have hheap:({w with heap:=w.heap.setIfInBounds b (.cells l.toArray t fz)}:World).heap[b]?=some (.cells (([]:List Value)++l).toArray t fz):=by
   show(w.heap.setIfInBounds b _)[b]?=_
   rw[Array.getElem?_setIfInBounds,if_pos rfl,if_pos hb];rfl
  have ext2:Ext ro [] w ro [] {w with heap:=w.heap.setIfInBounds b (.cells l.toArray t fz)}:=ev2.ext0 []
  refine⟨.slice (some ⟨b,0*1,none⟩) es.length cap,_,fun c=>ro c\/c=b,[],?_,?_,by simpa using s3,ev2.trans (Ya fun _ q=>.inl q)⟩
  ·have hf:w.freeze ⟨b,l.length,none⟩ 1={w with heap:=w.heap.setIfInBounds b (.cells l.toArray t fz)}:=by
    unfold World.freeze
    simp only[Nat.one_ne_zero,if_false]
    rw[Qbs q1]
    rfl
   have hms:(markStringish ⟨b,0*1,none⟩).run P w=.ok () {w with heap:=w.heap.setIfInBounds b (.cells l.toArray t fz)}:=by
    rw[<- hf]
    unfold markStringish
    simp[shape,freeze,Sem.run,World.shape?,q1,Result.andThen]
   have hu:∀w,(underlying T).run P w=.ok (.slice E) w:=run_underlying ht
   have hu2:∀w,(underlying E).run P w=.ok (.int .u8) w:=run_underlying hE
   generalize a.eval=ρ at*
   simp only[execOp,ho,h2,convert,Sem.run_bind,hu,hu2,Result.andThen,beq_self_eq_true,hms,Sem.run_pure]
  ·refine⟨some ⟨b,0*1,none⟩,cap,rfl,h3,.inr ⟨b,0*1,rfl,.inr rfl,?_⟩⟩
   have:=Ys (pre:=[]) hheap (q2.mono ext2)
   exact(by simpa using this:RR ro [] _ b 1 es (0*1)).keep ⟨fun _ q=>.inl q,fun _ _=>rfl,fun _ _ q=>q,fun _ _ q=>q⟩ rfl
end
mutual
theorem Qcm(ρ:Nat->Nat):∀{a:A},Q2 a=true->Yl ρ a=a
 |.any,_=>rfl
 |.bool _,_=>rfl
 |.int _ _,_=>rfl
 |.str _,_=>rfl
 |.nilp,_=>rfl
 |.ptr _ _,h=>by simp[Q2]at h
 |.rp _,_=>rfl
 |.nils,_=>rfl
 |.rsl _ _,_=>rfl
 |.osl _ _ _ _,h=>by simp[Q2]at h
 |.agg cs,h=>by simp only[Q2]at h;simp only[Yl,Qah ρ h]
 |.fn f a c,h=>by simp only[Q2,Bool.and_eq_true]at h;simp only[Yl,Qah ρ h.1,Qah ρ h.2]
 |.nilf,_=>rfl
 |.iface t a,h=>by simp only[Q2]at h;simp only[Yl,Qcm ρ h]
 |.nilif,_=>rfl
 |.map _,h=>by simp[Q2]at h
 |.nilm,_=>rfl
 |.tup vs,h=>by simp only[Q2]at h;simp only[Yl,Qah ρ h]
theorem Qah(ρ:Nat->Nat):∀{l:List A},Q6 l=true->Qaa ρ l=l
 |[],_=>rfl
 |a::l,h=>by simp only[Q6,Bool.and_eq_true]at h;simp only[Qaa,Qcm ρ h.1,Qah ρ h.2]
end
theorem Qd8{α:Type}{e:α->List A}(hd:∀x,Q6 (e x)=true):∀L:List α,Q6 (L.map e).flatten=true
 |[]=>rfl
 |c::L=>by
  have hdt:∀cs ds:List A,Q6 cs=true->Q6 ds=true->Q6 (cs++ds)=true:=by
   intro cs
   induction cs with
   |nil=>intro ds _ h;exact h
   |cons c cs ih=>
    intro ds h1 h2
    simp only[Q6,Bool.and_eq_true,List.cons_append]at h1⊢
    exact⟨h1.1,ih ds h1.2 h2⟩
  simp only[List.map_cons,List.flatten_cons];exact hdt _ _ (hd c) (Qd8 hd L)
theorem Qjx{α:Type}{e:α->List A}(hd:∀x,Q6 (e x)=true)(ρ:Nat->Nat)(l:List α):Yl ρ (.agg (l.map e).flatten)=.agg (l.map e).flatten:=
 Qcm ρ (by simp only[Q2];exact Qd8 hd l)
end Go.Sw
namespace Go.Sw
section
variable {P:Program}{o:Oper}{env:Env}{H:Qc}
theorem QcX{c:Call}{f T:Nat}{x:Operand}{xs:List Operand}{ts:Array TypeId}{name:String}{v:A}{args:List A}(hcall:∀(a:Array Value) (w:World),(callFunc f a).run P w=.ok (.enter f a) w)(ho:o.op=.call c)
  (hc:c={callee:=.invoke x name,args:=xs.toArray,argTypes:=ts})(hx:opA env x=.iface T v)(hargs:v::xs.map (opA env)=args)
  (hm:∀(u:Value) (w:World),(method (P.types.size+Made.depth) T u name).run P w=.ok (f,u) w):OpC P o env H f args:=by
 intro fr ro σ N a w r
 have h1:=Qg r x
 rw[hx]at h1
 obtain⟨u,h1,h2⟩:=h1
 refine⟨u::xs.map a.eval,?_,hargs▸⟨u,xs.map a.eval,rfl,h2,QaT r xs⟩⟩
 subst hc
 generalize a.eval=ρ at*
 have e:(#[ρ x]++(xs.toArray.map ρ):Array Value)=(.iface T u::xs.map ρ).toArray:=by rw[h1];simp
 have hex:((.iface T u::xs.map ρ).toArray.extract 1 (.iface T u::xs.map ρ).toArray.size:Array Value)=(xs.map ρ).toArray:=by
  simp[List.take_of_length_le]
 have hcm:∀l:Array Value,(callMethod (.iface T u) name l).run P w=.ok (.enter f (#[u]++l)) w:=by
  intro l
  simp only[callMethod,Sem.run_bind,run_program,Result.andThen,hm,hcall]
 simp only[execOp,ho,resolve,e,invoke,Sem.run_bind,Sem.run_pure,Result.andThen]
 simp only[List.getElem?_toArray,List.getElem?_cons_zero,hex,hcm]
 simp
theorem Qa2{T I:Nat}{x:Operand}{v:A}{d:TypeDesc}(ht:∀w,(underlying T).run P w=.ok d w)(hd:∀m,d≠ .interface m)(ho:o.op=.typeAssert x I T true:=by exact rfl)(hx:opA env x=.iface T v:=by exact rfl):
  OpV P o env H (.tup [v,.bool true]):=by
 intro fr ro σ N a w r
 have h1:=Qg r x
 rw[hx]at h1
 obtain⟨u,h1,h2⟩:=h1
 refine⟨.tuple #[u,.bool true],?_,[u,.bool true],rfl,_,_,rfl,h2,_,_,rfl,rfl,rfl⟩
 generalize a.eval=ρ at*
 cases d<;>first|(simp[execOp,ho,h1,Instr.typeAssert,ht,go_sem];done)|exact(hd _ rfl).elim
theorem QeR{T T' I:Nat}{x:Operand}{v z:A}{zv:Value}{d:TypeDesc}(ht:∀w,(underlying T).run P w=.ok d w)(hd:∀m,d≠ .interface m)(hne:Nat.beq T' T=false)(hz:∀w,(zeroValue T).run P w=.ok zv w)(hzr:ZR z zv)
  (ho:o.op=.typeAssert x I T true:=by exact rfl)(hx:opA env x=.iface T' v:=by exact rfl):
  OpV P o env H (.tup [z,.bool false]):=by
 intro fr ro σ N a w r
 have h1:=Qg r x
 rw[hx]at h1
 obtain⟨u,h1,h2⟩:=h1
 have hn:T'≠T:=fun q=>by rw[q,Nat.beq_refl]at hne;cases hne
 refine⟨.tuple #[zv,.bool false],?_,[zv,.bool false],rfl,_,_,rfl,hzr _ _ _,_,_,rfl,rfl,rfl⟩
 generalize a.eval=ρ at*
 cases d<;>first|(simp[execOp,ho,h1,Instr.typeAssert,ht,hn,hz,go_sem];done)|exact(hd _ rfl).elim
end
def TL(P:Program)(h0 N:Nat)(c:Code)(env:Env)(H:Qc)(Q:Qz):Prop:=
 ∀rd fr ro σ a w,Rel fr ro σ H env N a w->QcN rd fr w->∀(b:Frame) (k:List Item) (cs:List Frame),b.roundOf=(WF rd).round->(WF rd).fn b.fn->(WF rd).room (cs.length+1+0)->∃e a' w',QaV h0 fr ro σ w N a.defers Q e a' w'/\ArrivesIn (Machine.fenced P (WF rd)) P (lone (b.atR a (.code c::.inLoop c::k)) cs w) b k cs e a' w'
def Qf8(P:Program)(h0 N:Nat)(c:Code)(Q:Qz):Qz
 |.normal,env,H=>TL P h0 N c env H Q
 |.exit id,env,H=>Q (.exit id) env H
 |.ret,env,H=>Q .ret env H
section
variable {P:Program}{h0 N:Nat}{c:Code}{env:Env}{H:Qc}{Q:Qz}
theorem Qi5(h:TL P h0 N c env H Q):TC P h0 N (.loop c) env H Q:=by
 intro rd fr ro σ a w r hrd b k cs hro hb hr
 obtain⟨e,a',w',hq,harr⟩:=h rd fr ro σ a w r hrd b k cs hro hb hr
 exact⟨e,a',w',hq,.of_steps (.one (fenced_calm hb hr rfl) stepR_loop) harr⟩
theorem TL.round(h:TC P h0 N c env H (Qf8 P h0 N c Q)):TL P h0 N c env H Q:=by
 intro rd fr ro σ a w r hrd b k cs hro hb hr
 obtain⟨e,a',w',hq,harr⟩:=h rd fr ro σ a w r hrd b (.inLoop c::k) cs hro hb hr
 obtain⟨x,env',H',ro',σ',fr',q1,q2,q3,q4,q5,q6⟩:=hq
 have hp:∀x,Q x env' H'->ExR e x->QaV h0 fr ro σ w N a.defers Q e a' w':=fun x q q'=>⟨x,env',H',ro',σ',fr',q',q,q3,q4,q5,q6⟩
 cases e with
 |normal=>
  obtain rfl:x=.normal:=q1
  obtain⟨e2,a2,w2,hq2,harr2⟩:=q2 rd fr' ro' σ' a' w' q3 (hrd.to q4 q6.sub) b k cs hro hb hr
  exact⟨e2,a2,w2,hq2.grow q4 q5 q6,.of_steps (StepsIn.trans harr (.one (fenced_calm hb hr rfl) stepR_inLoop)) harr2⟩
 |exit id=>
  obtain rfl:x=.exit id:=q1
  exact⟨_,a',w',hp _ q2 rfl,.pass (x:=.inLoop c) rfl (fun _ _=>.inl (by simp)) harr⟩
 |ret=>
  obtain rfl:x=.ret:=q1
  exact⟨_,a',w',hp _ q2 rfl,.pass (x:=.inLoop c) rfl (fun _ _=>.inl (by simp)) harr⟩
 |_=>exact q1.elim
theorem unrN(h:TC P h0 N c env H (Qf8 P h0 N c Q)):Qf8 P h0 N c Q .normal env H:=TL.round h
theorem unrX{id:Nat}(h:Q (.exit id) env H):Qf8 P h0 N c Q (.exit id) env H:=h
theorem unrR(h:Q .ret env H):Qf8 P h0 N c Q .ret env H:=h
theorem Qhr(h:TC P h0 N c env H (Qf8 P h0 N c Q)):TC P h0 N (.loop c) env H Q:=Qi5 (TL.round h)
end
section
variable {P:Program}{o:Oper}{env:Env}{H:Qc}
theorem OpV.ixL{t et k b n j:Nat}{x y:Operand}{kk:IntKind}{i:Int}(hj:Nat.blt j n=true)(hi:i=(j:Int))(ht:∀w,(underlying t).run P w=.ok (.slice et) w)(hs:∀w,(sizeOf et).run P w=.ok k w)
  (ho:o.op=.indexAddr t x y:=by exact rfl)(hx:opA env x=.osl b 0 n k:=by exact rfl)(hy:opA env y=.int kk i:=by exact rfl):OpV P o env H (.ptr b (j*k)):=by
 subst hi
 have h2:=QgN (H:=H) ho ht hs hx hy (by omega) (by simpa using hj)
 rwa [Int.toNat_natCast,Nat.zero_mul,Nat.zero_add]at h2
end
section
variable {P:Program}{o:Oper}{env:Env}{H:Qc}
end
def Qiu{α R:Type}[DecidableEq R](l:List α)(x y:Option R):Option R:=bif l.isEmpty then(bif decide (x=y)then x else none)else y
theorem Qit{α R:Type}[DecidableEq R]{l:List α}{x y:Option R}{r:R}(h:Qiu l x y=some r)(b:Bool)(hb:l≠[]->b=false):(b=true->x=some r)/\(b=false->y=some r):=by
 unfold Qiu at h
 cases q:l.isEmpty with
 |true=>
  rw[q]at h
  by_cases hxy:x=y
  ·subst hxy
   simp at h
   exact⟨fun _=>h,fun _=>h⟩
  ·simp[hxy]at h
 |false=>
  rw[q]at h
  have hl:l≠[]:=by rintro rfl;cases q
  refine⟨fun e=>?_,fun _=>h⟩
  rw[hb hl]at e
  cases e
section
variable {P:Program}{o:Oper}{env:Env}{H:Qc}{h0 N:Nat}{Q:Qz}
theorem QhK{α:Type}{e:α->List A}{T E k:Nat}{u:TypeId}{x:Operand}{l:List α}(ht:P.underlying T=some (.slice E))(ho:o.op=.binOp .eql T x (.const (.slice none 0 0)) u)(hx:opA env x=.rsl k (l.map e)):
  OpE P o env H (fun v H'=>∃b:Bool,v=.bool b/\(l≠[]->b=false)/\H'=H):=by
 intro fr ro σ N a w r
 have h1:=Qg r x
 rw[hx]at h1
 obtain⟨ad,cap,h1,h2,h3⟩:=h1
 refine⟨.bool ad.isNone,H,.bool ad.isNone,w,ro,[],⟨ad.isNone,rfl,fun hl=>?_,rfl⟩,?_,rfl,by simpa using r.sim,Qf.refl _ _ _⟩
 ·rcases h3 with h3|⟨b,off,h3,_⟩
  ·exact absurd (List.map_eq_nil_iff.1 h3) hl
  ·rw[h3];rfl
 ·have e0:a.eval (.const (.slice none 0 0))=.slice none 0 0:=rfl
  generalize a.eval=ρ at*
  have hg:(eqGuard .eql T x (.const (.slice none 0 0)) (.slice ad (l.map e).length cap) (.slice none 0 0)).run P w=.ok () w:=by simp[eqGuard]
  simp only[execOp,ho,h1,e0,Sem.run_bind,hg,Result.andThen,Go.run_eql_slice_nil w T E ad _ cap ht,Sem.run_pure]
theorem Qi4{α:Type}{e:α->List A}{T E k d:Nat}{u:TypeId}{x:Operand}{l:List α}{all:Array Oper}{L:List Oper}(ht:P.underlying T=some (.slice E))(hx:opA env x=.rsl k (l.map e))
  (k1:∀b:Bool,(l≠[]->b=false)->WO P h0 N all L (up env d (.bool b)) H Q)
  (ho:o.op=.binOp .eql T x (.const (.slice none 0 0)) u:=by exact rfl)(hg:Qq all o env true:=by exact rfl)(hd:o.dst=some d:=by exact rfl)(hN:Nat.blt d N=true:=by exact rfl)(hh:Nat.ble h0 H.length=true:=by exact rfl):WO P h0 N all (o::L) env H Q:=by
 refine Qi3 (Nat.le_of_ble_eq_true hh) hg hd hN (QhK ht ho hx) ?_
 rintro v H' ⟨b,rfl,hb,rfl⟩
 exact k1 b hb
end
theorem slc0{α:Type}{l x:List α}{i:Int}(h:slc l 0 i=some x):0<=i/\i.toNat<=l.length/\l.take i.toNat=x/\x.length=i.toNat:=by
 obtain⟨_,h1,h2,h3⟩:=Qc2 h
 have h4:l.take i.toNat=x:=by simpa using h3
 exact⟨h1,by omega,h4,by rw[<- h4,List.length_take];omega⟩
section
variable {P:Program}{o:Oper}{env:Env}{H:Qc}{α:Type}{e:α->List A}{T et k b t:Nat}{x y:Operand}{l l':List α}{i:Int}
end
end Go.Sw
namespace Go.Sw
open Go.Sort Go.Proofs Go.Shelf
def ltI(x y:Int):Bool:=decide (x<y)
def sortI(l:List Int):Option (List Int):=bif Nat.ble l.length QV then some (Qb4 ltI l)else none
theorem Qe2{l l':List Int}(h:sortI l=some l'):l.length<=QV/\Qb4 ltI l=l':=by
 unfold sortI at h
 cases e:Nat.ble l.length QV with
 |false=>rw[e]at h;simp at h
 |true=>rw[e]at h;exact⟨Nat.le_of_ble_eq_true e,Option.some.inj h⟩
theorem Qaf{l l':List Int}(h:sortI l=some l'):l.length=l'.length:=by
 rw[<- (Qe2 h).2];exact(Qai _ _).length_eq.symm
theorem QjD(l:List Int):Qdw ltI l:=
 ⟨fun x _=>by simp[ltI],fun x _ y _ z _ a b=>by simp[ltI]at*;omega,fun x _ y _ z _ a b=>by simp[ltI]at*;omega⟩
theorem QcK(l:List Int):(l.mergeSort fun x y=>decide (x<=y))=Qb4 ltI l:=by
 refine QbF (lt:=ltI) ?_ ?_ ?_ (Qa0 (QjD l))
 ·exact(List.mergeSort_perm _ _).trans (Qai _ _).symm
 ·intro x _ y _ a b;simp[ltI]at*;omega
 ·refine(List.pairwise_mergeSort (le:=fun x y=>decide (x<=y)) ?_ ?_ l).imp ?_
  ·intro a b c;simp;omega
  ·intro a b;simp;omega
  ·intro a b;simp[ltI]
theorem QgL{ro:Nat->Prop}{σ:Sig}{w:World}:∀{l:List Int}{lv:List Value},RL ro σ w 1 (l.map fun x=>[A.int .i64 x]) lv->∃rest,lv=l.map (Value.int .i64)++rest
 |[],lv,_=>⟨lv,rfl⟩
 |x::l,lv,h=>by
  obtain⟨l1,l2,rfl,h1,⟨h2,h3⟩,h4⟩:=h
  obtain⟨rest,rfl⟩:=QgL (l:=l) h4
  obtain⟨v,r,rfl,hv,hr⟩:=h2
  cases(show r=[]from hr)
  exact⟨rest,by rw[show v=.int .i64 x from hv];simp⟩
theorem Qdz{ro:Nat->Prop}{σ:Sig}{w:World}:∀(l:List Int) (rest:List Value),RL ro σ w 1 (l.map fun x=>[A.int .i64 x]) (l.map (Value.int .i64)++rest)
 |[],_=>trivial
 |x::l,rest=>⟨[.int .i64 x],l.map (Value.int .i64)++rest,by simp,rfl,⟨⟨_,_,rfl,rfl,rfl⟩,by simp[Qv]⟩,Qdz l rest⟩
theorem QgT{P:Program}{ρ:Ren}(L:Lays.n189 P ρ){t:Nat}{l l':List Int}(hs:sortI l=some l'):
  C P (ρ.f 189) [.osl 0 0 l.length 1] [.row t 1 (l.map fun x=>[A.int .i64 x])] (fun a H=>a=.tup []/\H=[.row t 1 (l'.map fun x=>[A.int .i64 x])]):=by
 intro fr ro σ vals w s hv
 obtain⟨vs,r1,rfl,hvs,hr⟩:=hv
 cases(show r1=[]from hr)
 obtain⟨hmax,hl'⟩:=Qe2 hs
 have none_case:∀(ad:Option Addr) (c:Nat),vs=.slice ad 0 c->l=[]->
   Calls P (ρ.f 189) [vs].toArray w fun e w'=>∃v r H' ro' τ,e=.returned v/\(r=.tup []/\H'=[.row t 1 (l'.map fun x=>[A.int .i64 x])])/\Sim fr ro' (σ++τ) H' w'/\VR ro' (σ++τ) w' r v/\Qf fr ro w ro' w':=by
  rintro ad c rfl rfl
  have hl0:l'=[]:=by rw[<- hl'];rfl
  subst hl0
  refine(Any.slices_Sort_int_none L ad c w).mono ?_
  rintro e w' ⟨rfl,rfl⟩
  exact⟨_,_,_,ro,[],rfl,⟨rfl,rfl⟩,by simpa using s,⟨[],rfl,rfl⟩,Qf.refl _ _ _⟩
 rcases hvs with⟨h0,rfl⟩|⟨b,p,cp,t',m,q1,rfl,q2,q3,q4,q5⟩
 ·exact none_case none 0 rfl (List.length_eq_zero_iff.1 h0)
 ·by_cases hl0:l=[]
  ·subst hl0
   exact none_case _ cp rfl rfl
  ·have hlp:0<l.length:=List.length_pos_iff.2 hl0
   obtain rfl:=q2 (Nat.lt_of_lt_of_le hlp q3)
   obtain⟨lv,e1,e2⟩:=s.blk 0 _ _ q1 rfl
   obtain⟨hb,hbro,hbfr⟩:=s.own 0 b _ q1 rfl rfl
   obtain⟨rest,rfl⟩:=QgL e2
   have hH:Holds (Value.int .i64) w b 0 l.toArray:=by
    intro j hj
    simp only[List.size_toArray]at hj
    constructor
    ·unfold World.cell?
     simp only[e1,Option.isSome_none,Bool.false_eq_true,if_false,Nat.zero_add]
     rw[QaO,List.getElem?_append_left (by simpa using hj)]
     simp[hj]
    ·unfold World.frozen?
     simp only[e1]
     simp
   have hcon:=Any.slices_Sort_int L b 0 cp l w hH hb (by unfold QV at hmax;omega)
   rw[QcK,hl']at hcon
   simp only[Nat.zero_mul]at hcon⊢
   refine hcon.mono ?_
   rintro e w' ⟨rfl,n,os,rfl⟩
   have hll:l.length=l'.length:=Qaf hs
   generalize hW:grow (putRow (Value.int .i64) (Sort.ahead w n) b 0 l'.toArray) os=W
   have hheap:W.heap=w.heap.setIfInBounds b (.cells ((l'.map (Value.int .i64)++rest)).toArray t (0,0))++os:=by
    rw[<- hW]
    show(w.heap.modify b _)++os=_
    rw[Qbs e1]
    simp only[onCells]
    congr 3
    unfold putCells
    apply Array.ext_getElem?
    intro i
    simp only[Array.getElem?_mapIdx,QaO,Nat.zero_le,true_and,Nat.zero_add,Nat.sub_zero,List.size_toArray]
    by_cases hi:i<l'.length
    ·rw[List.getElem?_append_left (by simpa[hll]using hi),List.getElem?_append_left (by simpa using hi)]
     simp[hi,hll]
    ·rw[List.getElem?_append_right (by simp;omega),List.getElem?_append_right (by simp;omega)]
     simp only[List.length_map,hll]
     cases(rest[i-l'.length]?)with
     |none=>rfl
     |some v=>exact congrArg some (if_neg hi)
   have g1:∀c,c<w.heap.size->c≠b->W.heap[c]?=w.heap[c]? :=by
    intro c hc hcb
    rw[hheap,Array.getElem?_append_left (by simpa using hc),Array.getElem?_setIfInBounds,if_neg (fun q=>hcb q.symm)]
   have g2:W.heap[b]?=some (.cells ((l'.map (Value.int .i64)++rest)).toArray t (0,0)):=by
    rw[hheap,Array.getElem?_append_left (by simpa using hb),Array.getElem?_setIfInBounds,if_pos rfl,if_pos hb]
   have g3:w.heap.size<=W.heap.size:=by rw[hheap];simp
   have hshape:∀c y,w.shape? c=some y->W.shape? c=some y:=by
    intro c y hy
    by_cases hc:c=b
    ·subst hc
     unfold World.shape? at hy⊢
     rw[e1]at hy
     rw[g2]
     simp only[Option.some.injEq]at hy⊢
     rw[<- hy]
     simp[hll]
    ·unfold World.shape? at hy⊢
     rw[g1 c (QbV hy) hc];exact hy
   have hos:W.os=w.os:=by rw[<- hW];rfl
   have htp:W.tape=w.tape:=by rw[<- hW];rfl
   have hou:W.output=w.output:=by rw[<- hW];rfl
   have hdr:w.drawn<=W.drawn:=by rw[<- hW];exact Nat.le_add_right _ _
   have hev:Qf fr ro w ro W:=
    ⟨fun _ q=>q,fun c hc=>g1 c (s.roLt c hc) (fun q=>hbro (q▸hc)),fun c hc=>g1 c (s.frLt c hc) (fun q=>hbfr (q▸hc)),g3,hshape,hos,htp,hou,hdr⟩
   have hlen1:σ.length=1:=s.len
   have hsim:Sim fr ro σ [.row t 1 (l'.map fun x=>[A.int .i64 x])] W:=by
    have i0:∀{i:Nat}{x:Blk},([.row t 1 (l'.map fun x=>[A.int .i64 x])]:Qc)[i]?=some x->i=0/\x=.row t 1 (l'.map fun x=>[A.int .i64 x]):=by
     intro i x h
     cases i with
     |zero=>simp at h;exact⟨rfl,h.symm⟩
     |succ i=>simp at h
    refine⟨hlen1,s.roOk.to (fun _ q=>q) hev.keepRo (fun c hc=>Nat.lt_of_lt_of_le (s.roLt c hc) g3),fun c hc=>Nat.lt_of_lt_of_le (s.frLt c hc) g3,s.roFr,fun i c x h1 h2 h3=>?_,fun i j c x y h1 h2 h3 h4 _ _=>?_,fun i y x h1 h2=>?_,fun i b x c h1 h2 h3=>by obtain⟨rfl,rfl⟩:=i0 h2;exact h3.elim⟩
    ·obtain⟨rfl,rfl⟩:=i0 h2
     obtain⟨p1,p2⟩:=s.own 0 c _ h1 rfl rfl
     exact⟨Nat.lt_of_lt_of_le p1 g3,p2⟩
    ·rw[(i0 h3).1,(i0 h4).1]
    ·obtain⟨rfl,rfl⟩:=i0 h2
     rw[q1]at h1
     cases h1
     exact⟨_,g2,Qdz l' rest⟩
   exact⟨_,_,_,ro,[],rfl,⟨rfl,rfl⟩,by simpa using hsim,⟨[],rfl,rfl⟩,hev⟩
section
variable {P:Program}{o:Oper}{env:Env}{H:Qc}{α:Type}{e:α->List A}{T et k b t:Nat}{x y:Operand}
theorem Qel{lo hi:Option Operand}{l r:List α}{a c:Int}(h:slc l a c=some r)(E1:∀w,(underlying T).run P w=.ok (.slice et) w)(E2:∀w,(sizeOf et).run P w=.ok k w)
  (hlo:lo=none/\a=0\/ ∃y,lo=some y/\opA env y=.int .i64 a)(hhi:hi=none/\c=l.length\/ ∃y,hi=some y/\opA env y=.int .i64 c)
  (ho:o.op=.slice T x lo hi none:=by exact rfl)(hx:opA env x=.osl b 0 l.length k:=by exact rfl):OpV P o env H (.osl b (0+a.toNat) (c.toNat-a.toNat) k):=by
 obtain⟨h0,h1,h2,_⟩:=Qc2 h
 refine QfE (l:=a.toNat) (h:=c.toNat) E1 E2 ho hx ?_ ?_ (by omega) (by omega)
 ·rcases hlo with⟨q1,q2⟩|⟨y,q1,q2⟩
  ·exact .inl ⟨q1,by rw[q2];rfl⟩
  ·exact .inr ⟨y,a,q1,q2,h0,rfl⟩
 ·rcases hhi with⟨q1,q2⟩|⟨y,q1,q2⟩
  ·exact .inl ⟨q1,by rw[q2];simp⟩
  ·exact .inr ⟨y,c,q1,q2,by omega,rfl⟩
end
end Go.Sw
namespace Go.Sw
inductive Bx where
 |mk (a:A)
def lkB:Env->Nat->Bx
 |[],_=>.mk .any
 |(d,a)::r,s=>bif Nat.beq s d then .mk a else lkB r s
theorem QfW:∀{env:Env}{s:Nat}{a:A},lkB env s=.mk a->lk env s=a
 |[],s,a,h=>by cases h;rfl
 |(d,b)::r,s,a,h=>by
  unfold lkB at h
  unfold lk
  cases q:Nat.beq s d with
  |true=>rw[q]at h;cases h;rfl
  |false=>rw[q]at h;exact QfW h
inductive FBy where
 |mk (l:List UInt8)
def fby:List UInt8->FBy
 |[]=>.mk []
 |a::r=>match fby r with
  |.mk r'=>.mk (a::r')
theorem QiB:∀l:List UInt8,fby l=.mk l
 |[]=>rfl
 |a::r=>by unfold fby;rw[QiB r]
def opB(env:Env):Operand->Bx
 |.tmp t=>lkB env t
 |.const (.bool b)=>.mk (.bool b)
 |.const (.int k n)=>.mk (.int k n)
 |.const (.string s)=>match fby s.data.toList with
  |.mk l=>.mk (.str l)
 |.const (.pointer none)=>.mk .nilp
 |.const (.slice none 0 0)=>.mk .nils
 |.const (.map none)=>.mk .nilm
 |.const .nilFunc=>.mk .nilf
 |.const .nilIface=>.mk .nilif
 |.func f=>.mk (.fn (.func f) [] [])
 |_=>.mk .any
theorem Qx{env:Env}{x:Operand}{a:A}(h:opB env x=.mk a):opA env x=a:=by
 cases x with
 |tmp t=>exact QfW h
 |const v=>
  cases v with
  |slice b n k=>cases b with
   |none=>cases n with
    |zero=>cases k<;>(cases h;rfl)
    |succ n=>cases h;rfl
   |some b=>cases h;rfl
  |pointer p=>cases p<;>(cases h;rfl)
  |map p=>cases p<;>(cases h;rfl)
  |string s=>
   have h2:(match fby s.data.toList with|.mk l=>Bx.mk (.str l))=.mk a:=h
   rw[QiB]at h2;cases h2;rfl
  |_=>cases h;rfl
 |global g=>cases h;rfl
 |func f=>cases h;rfl
def Yv{α:Type}:List α->Nat->Option α
 |[],_=>none
 |a::_,0=>some a
 |_::r,n+1=>Yv r n
theorem Qaz{α:Type}:∀(l:List α) (n:Nat),Yv l n=l[n]?
 |[],n=>by simp[Yv]
 |a::r,0=>rfl
 |a::r,n+1=>by simp[Yv,Qaz r n]
def arB:BinOp->IntKind->Int->Int->Option A
 |.add,k,m,n=>some (.int k (k.wrap (m+n)))
 |.sub,k,m,n=>some (.int k (k.wrap (m-n)))
 |.mul,k,m,n=>some (.int k (k.wrap (m*n)))
 |.eql,_,m,n=>some (.bool (m==n))
 |.neq,_,m,n=>some (.bool (m != n))
 |.lss,_,m,n=>some (.bool (decide (m<n)))
 |.leq,_,m,n=>some (.bool (decide (m<=n)))
 |.gtr,_,m,n=>some (.bool (decide (n<m)))
 |.geq,_,m,n=>some (.bool (decide (n<=m)))
 |_,_,_,_=>none
def srB:BinOp->List UInt8->List UInt8->Option A
 |.eql,p,q=>some (.bool (p==q))
 |.neq,p,q=>some (.bool (p != q))
 |.lss,p,q=>some (.bool (Op.bytesLess p q))
 |_,_,_=>none
def biB(b:BinOp):Bx->Bx->Option A
 |.mk (.int k m),.mk (.int k' n)=>if k=k' then arB b k m n else none
 |.mk (.str p),.mk (.str q)=>srB b p q
 |_,_=>none
def unB:UnOp->Bx->Option A
 |.not,.mk (.bool b)=>some (.bool !b)
 |.neg,.mk (.int k n)=>some (.int k (k.wrap (0-n)))
 |_,_=>none
def exB:Bx->Nat->Option A
 |.mk (.tup vs),i=>Yv vs i
 |_,_=>none
def nlB:Bx->Option A
 |.mk (.ptr i j)=>some (.ptr i j)
 |.mk (.rp cs)=>some (.rp cs)
 |_=>none
def piB:Bx->Bx->Bx->Option A
 |.mk (.bool true),.mk a,_=>some a
 |.mk (.bool false),_,.mk a=>some a
 |_,_,_=>none
def svB(env:Env):Op->Option A
 |.move x=>match opB env x with|.mk a=>some a
 |.assign x=>match opB env x with|.mk a=>some a
 |.nilCheck x=>nlB (opB env x)
 |.extract x i=>exB (opB env x) i
 |.unOp u _ x=>unB u (opB env x)
 |.pick c x y=>piB (opB env c) (opB env x) (opB env y)
 |.binOp b _ x y _=>biB b (opB env x) (opB env y)
 |_=>none
def pr(d:Nat):Option A->Option (Nat×A)
 |some a=>some (d,a)
 |none=>none
def stB(o:Oper)(env:Env):Option (Nat×A):=
 match o.dst with
 |some d=>pr d (svB env o.op)
 |none=>none
section
variable {P:Program}{h0 N:Nat}{all:Array Oper}{o:Oper}{l:List Oper}{env:Env}{H H':Qc}{Q:Qz}{d:Nat}{x:A}
theorem Qbf{p:Op}(ho:o.op=p)(h:svB env p=some x):OpV P o env H x:=by
 unfold svB at h
 split at h
 ·rename_i y
  cases q:opB env y with|mk a=>rw[q]at h;cases h;exact OpV.move ho (Qx q)
 ·rename_i y
  cases q:opB env y with|mk a=>rw[q]at h;cases h;exact OpV.assign ho (Qx q)
 ·rename_i y
  unfold nlB at h
  split at h
  ·rename_i i j q;cases h;exact QdB ho (Qx q) rfl
  ·rename_i cs q;cases h;exact QdB ho (Qx q) rfl
  ·cases h
 ·rename_i y i
  unfold exB at h
  split at h
  ·rename_i vs _ q;rw[Qaz]at h;exact OpV.extract ho (Qx q) h
  ·cases h
 ·rename_i u t y
  unfold unB at h
  split at h
  ·rename_i b q;cases h;exact OpV.not ho (Qx q)
  ·rename_i k n q;cases h;exact OpV.neg ho (Qx q)
  ·cases h
 ·rename_i c y z
  unfold piB at h
  split at h
  ·rename_i a _ q1 q2;cases h;exact OpV.pick ho (Qx q1) (by rw[if_pos rfl];exact Qx q2)
  ·rename_i a q1 q2;cases h;exact OpV.pick ho (Qx q1) (by rw[if_neg (by decide)];exact Qx q2)
  ·cases h
 ·rename_i b t y z u
  unfold biB at h
  split at h
  ·rename_i k m k' n q1 q2
   split at h
   ·rename_i e
    subst e
    have h1:=Qx q1
    have h2:=Qx q2
    unfold arB at h
    split at h
    ·cases h;exact OpV.add ho h1 h2
    ·cases h;exact OpV.sub ho h1 h2
    ·cases h;exact OpV.mul ho h1 h2
    ·cases h;exact OpV.eql ho h1 h2
    ·cases h;exact OpV.neq ho h1 h2
    ·cases h;exact OpV.lss ho h1 h2
    ·cases h;exact OpV.leq ho h1 h2
    ·cases h;exact OpV.gtr ho h1 h2
    ·cases h;exact OpV.geq ho h1 h2
    ·cases h
   ·cases h
  ·rename_i p q q1 q2
   have h1:=Qx q1
   have h2:=Qx q2
   unfold srB at h
   split at h
   ·cases h;exact QhA ho h1 h2
   ·cases h;exact Qhx ho h1 h2
   ·cases h;exact Qhy ho h1 h2
   ·cases h
  ·cases h
 ·cases h
theorem Qes(h:stB o env=some (d,x)):o.dst=some d/\OpV P o env H x:=by
 unfold stB at h
 split at h
 ·rename_i d' q
  cases e:svB env o.op with
  |none=>rw[e]at h;cases h
  |some a=>rw[e]at h;cases h;exact⟨q,Qbf rfl e⟩
 ·cases h
theorem S(e:stB o env=some (d,x))(k:WO P h0 N all l (up env d x) H Q)(hg:Qq all o env true:=by exact rfl)(hN:Nat.blt d N=true:=by exact rfl):WO P h0 N all (o::l) env H Q:=
 Qy hg (Qes (P:=P) (H:=H) e).1 hN (Qes e).2 k
theorem Sg(hg:Qq all o env true)(e:stB o env=some (d,x))(k:WO P h0 N all l (up env d x) H Q)(hN:Nat.blt d N=true:=by exact rfl):WO P h0 N all (o::l) env H Q:=
 Qy hg (Qes (P:=P) (H:=H) e).1 hN (Qes e).2 k
theorem K(hg:Qq all o env false)(hd:o.dst=some d)(k:WO P h0 N all l (up env d (.tup [])) H Q)(hN:Nat.blt d N=true:=by exact rfl):WO P h0 N all (o::l) env H Q:=
 WO.skip hg hd hN k
def p2B(v:Bool):Bx->Bx->Bx->Option (Bool×A)
 |.mk (.bool b),.mk a,.mk a'=>match v with|true=>some (b,a)|false=>some (b,a')
 |_,_,_=>none
def pr2(d:Nat):Option (Bool×A)->Option (Nat×Bool×A)
 |some a=>some (d,a)
 |none=>none
def pkB(v:Bool)(o:Oper)(env:Env):Option (Nat×Bool×A):=
 match o.dst,o.op with
 |some d,.pick c x y=>pr2 d (p2B v (opB env c) (opB env x) (opB env y))
 |_,_=>none
theorem QkB{v b:Bool}{p q r:Bx}(h:p2B v p q r=some (b,x)):∃a a',p=.mk (.bool b)/\q=.mk a/\r=.mk a'/\(bif v then a else a')=x:=by
 obtain⟨p⟩:=p
 obtain⟨q⟩:=q
 obtain⟨r⟩:=r
 cases p<;>first|(cases h;done)|skip
 cases v<;>cases h<;>exact⟨_,_,rfl,rfl,rfl,rfl⟩
theorem Qim{v b:Bool}(h:pkB v o env=some (d,b,x))(hb:b=v):o.dst=some d/\OpV P o env H x:=by
 unfold pkB at h
 split at h
 ·rename_i d' c y z q1 q2
  cases e:p2B v (opB env c) (opB env y) (opB env z)with
  |none=>rw[e]at h;cases h
  |some s=>
   rw[e]at h;cases h
   obtain⟨a,a',e1,e2,e3,e4⟩:=QkB e
   refine⟨q1,OpV.pick q2 (Qx e1) ?_⟩
   rw[Qx e2,Qx e3,hb]
   cases v<;>exact e4
 ·cases h
theorem Pk{v b:Bool}(hb:b=v)(e:pkB v o env=some (d,b,x))(k:WO P h0 N all l (up env d x) H Q)(hg:Qq all o env true:=by exact rfl)(hN:Nat.blt d N=true:=by exact rfl):WO P h0 N all (o::l) env H Q:=
 Qy hg (Qim (P:=P) (H:=H) e hb).1 hN (Qim e hb).2 k
def fpB(o:Oper)(env:Env):Option (Nat×Nat×Nat×Nat×Nat):=
 match o.dst,o.op with
 |some d,.fieldAddr T x f=>match opB env x with
  |.mk (.ptr i p)=>some (d,T,f,i,p)
  |_=>none
 |_,_=>none
theorem QeD{T f off n i p:Nat}(hf:YV P T f off n)(h:fpB o env=some (d,T,f,i,p)):o.dst=some d/\OpV P o env H (.ptr i (p+off)):=by
 unfold fpB at h
 split at h
 ·rename_i q1 q2
  split at h
  ·rename_i q3;cases h;exact⟨q1,QbR hf q2 (Qx q3)⟩
  ·cases h
 ·cases h
theorem Fp{T f off n i p:Nat}(hf:YV P T f off n)(e:fpB o env=some (d,T,f,i,p))(k:WO P h0 N all l (up env d (.ptr i (p+off))) H Q)(hg:Qq all o env true:=by exact rfl)(hN:Nat.blt d N=true:=by exact rfl):WO P h0 N all (o::l) env H Q:=
 Qy hg (QeD (H:=H) hf e).1 hN (QeD hf e).2 k
theorem Fpg{T f off n i p:Nat}(hg:Qq all o env true)(hf:YV P T f off n)(e:fpB o env=some (d,T,f,i,p))(k:WO P h0 N all l (up env d (.ptr i (p+off))) H Q)(hN:Nat.blt d N=true:=by exact rfl):WO P h0 N all (o::l) env H Q:=
 Qy hg (QeD (H:=H) hf e).1 hN (QeD hf e).2 k
inductive Lx where
 |mk (l:List A)
def Qfu:Nat->List A->Lx
 |0,l=>.mk l
 |n+1,_::r=>Qfu n r
 |_+1,[]=>.mk []
theorem Qds:∀{n:Nat}{l r:List A},Qfu n l=.mk r->l.drop n=r
 |0,l,r,h=>by cases h;rfl
 |n+1,a::l,r,h=>by rw[List.drop_succ_cons];exact Qds h
 |n+1,[],r,h=>by cases h;rfl
def ctB:Option Blk->Nat->Option A
 |some (.cells _ cs),off=>Yv cs off
 |_,_=>none
def lvB(H:Qc):Bx->Option A
 |.mk (.ptr i off)=>ctB (Yv H i) off
 |.mk (.rp (a::_))=>some a
 |_=>none
def pr3(d t:Nat):Option A->Option (Nat×Nat×A)
 |some a=>some (d,t,a)
 |none=>none
def ldB(o:Oper)(env:Env)(H:Qc):Option (Nat×Nat×A):=
 match o.dst,o.op with
 |some d,.load t x=>pr3 d t (lvB H (opB env x))
 |_,_=>none
theorem QeA{t:Nat}(ha:∀w,(isAgg t).run P w=.ok false w)(h:ldB o env H=some (d,t,x)):o.dst=some d/\OpV P o env H x:=by
 unfold ldB at h
 split at h
 ·rename_i d' t' y q1 q2
  cases e:lvB H (opB env y)with
  |none=>rw[e]at h;cases h
  |some a=>
   rw[e]at h;cases h
   refine⟨q1,?_⟩
   unfold lvB at e
   split at e
   ·rename_i i off q3
    unfold ctB at e
    split at e
    ·rename_i off nn T0 T cs q4
     rw[Qaz]at e q4
     obtain⟨cs',hc⟩:∃cs',cs.drop off=x::cs':=by
      have hlt:=(List.getElem?_eq_some_iff.1 e).1
      refine⟨cs.drop (off+1),?_⟩
      rw[List.drop_eq_getElem_cons hlt,(List.getElem?_eq_some_iff.1 e).2]
     exact OpV.load q2 ha (Qx q3) (Pts.cells q4 hc)
    ·cases e
   ·rename_i a r q3
    cases e
    exact OpV.load q2 ha (Qx q3) Pts.rp
   ·cases e
 ·cases h
theorem Ld{t:Nat}(ha:∀w,(isAgg t).run P w=.ok false w)(e:ldB o env H=some (d,t,x))(k:WO P h0 N all l (up env d x) H Q)(hg:Qq all o env true:=by exact rfl)(hN:Nat.blt d N=true:=by exact rfl):WO P h0 N all (o::l) env H Q:=
 Qy hg (QeA ha e).1 hN (QeA ha e).2 k
theorem Ldg{t:Nat}(hg:Qq all o env true)(ha:∀w,(isAgg t).run P w=.ok false w)(e:ldB o env H=some (d,t,x))(k:WO P h0 N all l (up env d x) H Q)(hN:Nat.blt d N=true:=by exact rfl):WO P h0 N all (o::l) env H Q:=
 Qy hg (QeA ha e).1 hN (QeA ha e).2 k
def ixB(o:Oper)(env:Env):Option (Nat×Nat×Nat×List (List A)×IntKind×Int):=
 match o.dst,o.op with
 |some d,.indexAddr t x y=>match opB env x,opB env y with
  |.mk (.rsl k es),.mk (.int kk i)=>some (d,t,k,es,kk,i)
  |_,_=>none
 |_,_=>none
theorem Ix{α:Type}{e:α->List A}{t et k:Nat}{L:List α}{kk:IntKind}{i:Int}{v:α}(h:idx L i=some v)(ht:∀w,(underlying t).run P w=.ok (.slice et) w)(hs:∀w,(sizeOf et).run P w=.ok k w)
  (q:ixB o env=some (d,t,k,L.map e,kk,i))(k:WO P h0 N all l (up env d (.rp (e v))) H Q)(hg:Qq all o env true:=by exact rfl)(hN:Nat.blt d N=true:=by exact rfl):WO P h0 N all (o::l) env H Q:=by
 unfold ixB at q
 split at q
 ·rename_i q1 q2
  split at q
  ·rename_i q3 q4
   simp only[Option.some.injEq,Prod.mk.injEq]at q
   obtain⟨rfl,rfl,rfl,e1,rfl,rfl⟩:=q
   exact Qy hg q1 hN (Yh h ht hs q2 (by rw[Qx q3,e1]) (Qx q4)) k
  ·cases q
 ·cases q
def lnB(o:Oper)(env:Env):Option (Nat×Nat×Bx):=
 match o.dst,o.op with
 |some d,.call c=>match c with
  |{callee:=.builtin .len,args:=⟨[x]⟩,argTypes:=⟨[t]⟩}=>some (d,t,opB env x)
  |_=>none
 |_,_=>none
theorem QkF{t:Nat}{b:Bx}(q:lnB o env=some (d,t,b)):∃x,o.dst=some d/\o.op=.call {callee:=.builtin .len,args:= #[x],argTypes:= #[t]}/\opB env x=b:=by
 unfold lnB at q
 split at q
 ·rename_i q1 q2
  split at q
  ·cases q;exact⟨_,q1,q2,rfl⟩
  ·cases q
 ·cases q
theorem LnM{α:Type}{e:α->List A}{t et k:Nat}{L:List α}(ht:∀w,(underlying t).run P w=.ok (.slice et) w)(q:lnB o env=some (d,t,.mk (.rsl k (L.map e))))
  (k:WO P h0 N all l (up env d (.int .i64 L.length)) H Q)(hg:Qq all o env true:=by exact rfl)(hN:Nat.blt d N=true:=by exact rfl):WO P h0 N all (o::l) env H Q:=by
 obtain⟨x,q1,q2,q3⟩:=QkF q
 exact Qy hg q1 hN (Ym ht q2 rfl (Qx q3)) k
end
section
variable {P:Program}{h0 N:Nat}{all:Array Oper}{env env':Env}{H H':Qc}{Q:Qz}{c c':Code}
theorem Nx(h:TC P h0 N c env H Q):WO P h0 N all [] env H (Seq P h0 N c Q):=WO.nil (Qh1 h)
theorem Rg{id:Nat}{l:List Oper}(h:WO P h0 N l.toArray l env H (Seq P h0 N c Q)):TC P h0 N (.seq (.region id l.toArray false) c) env H Q:=TC.seq (TC.region h)
theorem SkN(h:TC P h0 N c env H Q):TC P h0 N .skip env H (Seq P h0 N c Q):=TC.skip (Qh1 h)
theorem ExX{id:Nat}(h:Q (.exit id) env H):TC P h0 N (.exit id) env H (Seq P h0 N c Q):=TC.exit (seqX h)
theorem Oi{α:Type}{x y:α}(h:some x=some y):x=y:=Option.some.inj h
theorem Bd{α β:Type}{x:Option α}{f:α->Option β}{r:β}{G:Prop}(h:x.bind f=some r)(k:∀a,x=some a->f a=some r->G):G:=by
 obtain⟨a,h1,h2⟩:=Yy h
 exact k a h1 h2
theorem If{α:Type}{c:Bool}{x y:Option α}{r:α}{G:Prop}(h:(bif c then x else y)=some r)(t:c=true->x=some r->G)(e:c=false->y=some r->G):G:=by
 cases c with
 |true=>exact t rfl h
 |false=>exact e rfl h
theorem Cn{α:Type}{x:Operand}{t:Bool}{p q:Option α}{r:α}(hx:opB env x=.mk (.bool t))(h:(bif t then p else q)=some r)(ht:t=true->p=some r->TC P h0 N c env H Q)(hf:t=false->q=some r->TC P h0 N c' env H Q):TC P h0 N (.cond x c c') env H Q:=
 TC.cond (Qx hx) (fun e=>ht e (ifT e h)) (fun e=>hf e (ifF e h))
theorem Yc{α:Type}{x:Operand}{t:Bool}{p q:Option α}{r:α}(hx:opB env x=.mk (.bool t))(h:(bif t then p else q)=some r)(hf:t=false->q=some r->TC P h0 N c' env H Q)(ht:t=true->p=some r->TC P h0 N c env H Q):TC P h0 N (.cond x c c') env H Q:=
 TC.cond (Qx hx) (fun e=>ht e (ifT e h)) (fun e=>hf e (ifF e h))
theorem Lr(π:List Nat)(hpre:π.take h0=List.range h0:=by exact rfl)(hH:π.map (fun p=>H[p]?)=(H'.map (QN (rho π H.length))).map some:=by exact rfl)(hπ:π.Nodup:=by decide)
  (hE:QdO (rho π H.length) env env':=by(repeat' (first|exact trivial|refine⟨rfl,?_⟩))):Le h0 env H env' H':=QkY π hpre hH hπ hE
end
end Go.Sw
namespace Go.Sw
def Ev{α:Type}(f:Nat->Option α)(v:α):Prop:=∃N,∀n,N<=n->f n=some v
section
variable {α β:Type}{f g:Nat->Option α}{v w:α}
theorem Qb(v:α):Ev (fun _=>some v) v:=⟨0,fun _ _=>rfl⟩
theorem Ev.const{o:Option α}(h:o=some v):Ev (fun _=>o) v:=⟨0,fun _ _=>h⟩
theorem Ev.bind{k:Nat->α->Option β}{b:β}(h:Ev f v)(hk:Ev (fun n=>k n v) b):Ev (fun n=>(f n).bind (k n)) b:=by
 obtain⟨N,h⟩:=h
 obtain⟨M,hk⟩:=hk
 exact⟨max N M,fun n hn=>by show(f n).bind (k n)=some b;rw[h n (by omega),Option.bind_some];exact hk n (by omega)⟩
theorem Qar{c:Bool}(ht:c=true->Ev f v)(hf:c=false->Ev g w):Ev (fun n=>bif c then f n else g n) (bif c then v else w):=by
 cases c with
 |true=>exact ht rfl
 |false=>exact hf rfl
theorem Qbq(h:Ev g v):Ev (fun n=>bif false then f n else g n) v:=h
theorem Ev.and{c d:Bool}{h:Nat->Option Bool}(ht:c=true->Ev h d):Ev (fun n=>bif c then h n else some false) (c&&d):=by
 cases c with
 |true=>exact ht rfl
 |false=>exact Qb _
theorem QD{c d:Bool}{h:Nat->Option Bool}(hf:c=false->Ev h d):Ev (fun n=>bif c then some true else h n) (c||d):=by
 cases c with
 |true=>exact Qb _
 |false=>exact hf rfl
theorem Ev.eq(h:Ev f v)(e:v=w):Ev f w:=e▸h
theorem QdN(h:Ev f v)(e:∀n,g n=f n):Ev g v:=by
 obtain⟨N,h⟩:=h
 exact⟨N,fun n hn=>by rw[e];exact h n hn⟩
theorem Ev.succ(h:Ev (fun n=>f (n+1)) v):Ev f v:=by
 obtain⟨N,h⟩:=h
 refine⟨N+1,fun n hn=>?_⟩
 obtain⟨m,rfl⟩:∃m,n=m+1:=⟨n-1,by omega⟩
 exact h m (by omega)
theorem Ev.ex(h:Ev f v):∃n,f n=some v:=let⟨N,h⟩:=h;⟨N,h N (Nat.le_refl _)⟩
theorem Ev.all{k:Nat}{F:Nat->Nat->Option α}{V:Nat->α}(h:∀i,i<k->Ev (F i) (V i)):∃N,∀n,N<=n->∀i,i<k->F i n=some (V i):=by
 induction k with
 |zero=>exact⟨0,fun n _ i hi=>absurd hi (Nat.not_lt_zero _)⟩
 |succ k ih=>
  obtain⟨N,hN⟩:=ih fun i hi=>h i (by omega)
  obtain⟨M,hM⟩:=h k (by omega)
  refine⟨max N M,fun n hn i hi=>?_⟩
  rcases Nat.lt_succ_iff_lt_or_eq.1 hi with q|rfl
  ·exact hN n (by omega) i q
  ·exact hM n (by omega)
end
section
variable {S B α:Type}{step:Nat->S->Option (Ctl S B)}
theorem Ev.iter{s0:S}(st:Nat->S)(k:Nat){b:B}(h0:st 0=s0)(hc:∀i,i<k->Ev (fun n=>step n (st i)) (.cont (st (i+1))))(hd:Ev (fun n=>step n (st k)) (.done b)):
  Ev (fun n=>Go.Sw.iter (step n) n s0) b:=by
 obtain⟨N,hN⟩:=Ev.all hc
 obtain⟨M,hM⟩:=hd
 exact⟨max (max N M) (k+1),fun n hn=>Qis s0 st b k h0 (fun i hi=>hN n (by omega) i hi) (hM n (by omega)) n (by omega)⟩
theorem QhN{step:S->Option (Ctl S B)}{s:S}{b:B}(m:Nat)(h:Go.Sw.iter step m s=some b):Ev (fun n=>Go.Sw.iter step n s) b:=by
 have mono:∀m s,Go.Sw.iter step m s=some b->∀n,m<=n->Go.Sw.iter step n s=some b:=by
  intro m
  induction m with
  |zero=>intro s h;cases h
  |succ m ih=>
   intro s h n hn
   obtain⟨n',rfl⟩:∃n',n=n'+1:=⟨n-1,by omega⟩
   simp only[Go.Sw.iter]at h⊢
   cases e:step s with
   |none=>rw[e]at h;cases h
   |some c=>
    rw[e]at h
    cases c with
    |cont s'=>exact ih s' h n' (by omega)
    |done b'=>exact h
 exact⟨m,fun n hn=>mono m s h n hn⟩
structure At (l:List α) (i:Nat) (x:α):Prop where
 get:l[i]?=some x
 lt:decide ((i:Int)<(l.length:Int))=true
 ix:idx l (i:Int)=some x
 nx:IntKind.i64.wrap ((i:Int)+1)=((i+1:Nat):Int)
theorem Qa7{l:List α}{i:Nat}{x:α}(hl:l.length<=4611686018427387904)(h:l[i]?=some x):At l i x:=by
 have hi:=(List.getElem?_eq_some_iff.1 h).1
 exact⟨h,decide_eq_true (by omega),Qo h,QdS (by omega)⟩
theorem At.mem{l:List α}{i:Nat}{x:α}(h:At l i x):x∈l:=List.mem_of_getElem? h.get
theorem At.lt'{l:List α}{i:Nat}{x:α}(h:At l i x):i<l.length:=(List.getElem?_eq_some_iff.1 h.get).1
theorem At.take{l:List α}{i:Nat}{x:α}(h:At l i x):l.take (i+1)=l.take i++[x]:=by
 rw[List.take_add_one,h.get];rfl
theorem Qac(l:List α):decide ((l.length:Int)<(l.length:Int))=false:=decide_eq_false (by omega)
theorem QfK{s0:S}(l:List α)(q:α->Bool)(st:Nat->S)(bx b:B)(hl:l.length<=4611686018427387904)(h0:st 0=s0)
  (hc:∀i x,At l i x->q x=false->Ev (fun n=>step n (st i)) (.cont (st (i+1))))
  (hx:∀i x,At l i x->q x=true->Ev (fun n=>step n (st i)) (.done bx))
  (hd:Ev (fun n=>step n (st l.length)) (.done b)):Ev (fun n=>Go.Sw.iter (step n) n s0) (bif l.any q then bx else b):=by
 have key:∀k,k<=l.length->(∀i x,l[i]?=some x->i<k->q x=false)\/ ∃i x,l[i]?=some x/\i<k/\q x=true/\ ∀j y,l[j]?=some y->j<i->q y=false:=by
  intro k
  induction k with
  |zero=>intro _;exact .inl fun i x _ hi=>absurd hi (Nat.not_lt_zero _)
  |succ k ih=>
   intro hk
   rcases ih (by omega)with h|⟨i,x,h1,h2,h3⟩
   ·have hg:l[k]?=some l[k]:=List.getElem?_eq_getElem (by omega)
    cases e:q l[k]with
    |true=>exact .inr ⟨k,_,hg,Nat.lt_succ_self _,e,h⟩
    |false=>
     refine .inl fun i x hx hi=>?_
     rcases Nat.lt_succ_iff_lt_or_eq.1 hi with z|rfl
     ·exact h i x hx z
     ·rw[hg]at hx;cases hx;exact e
   ·exact .inr ⟨i,x,h1,by omega,h3⟩
 rcases key l.length (Nat.le_refl _)with h|⟨i,x,h1,h2,h3,h4⟩
 ·have:l.any q=false:=by
   rw[Bool.eq_false_iff]
   intro e
   obtain⟨x,hx,e⟩:=List.any_eq_true.1 e
   obtain⟨i,hi,rfl⟩:=List.getElem_of_mem hx
   rw[h i _ (List.getElem?_eq_getElem hi) hi]at e
   cases e
  rw[this]
  exact Ev.iter st l.length h0 (fun i hi=>hc i _ (Qa7 hl (List.getElem?_eq_getElem hi)) (h i _ (List.getElem?_eq_getElem hi) hi)) hd
 ·have:l.any q=true:=List.any_eq_true.2 ⟨x,List.mem_of_getElem? h1,h3⟩
  rw[this]
  refine Ev.iter st i h0 (fun j hj=>?_) (hx i x (Qa7 hl h1) h3)
  have hj':l[j]?=some l[j]:=List.getElem?_eq_getElem (by omega)
  exact hc j _ (Qa7 hl hj') (h4 j _ hj' hj)
theorem Ev.contains(l:List α)(q:α->Bool)(g:Nat->α->Option Bool)(hl:l.length<=4611686018427387904)(hg:∀x∈l,Ev (fun n=>g n x) (q x)):
  Ev (fun n=>(((Go.Sw.iter (fun s:Int=>bif decide (s<(l.length:Int))then(idx l s).bind fun x=>(g n x).bind fun r=>(bif r then some (Ctl.done (Ctl.done s))else some (Ctl.cont (IntKind.i64.wrap (s+1))))else some (Ctl.done (Ctl.cont ()))) n (0:Int):Option (Ctl Unit Int)).bind fun b=>
   match b with
   |.cont _=>some (-1)
   |.done s=>some s):Option Int).bind fun r=>some (decide (0<=r))) (l.any q):=by
 cases e:l.any q with
 |false=>
  refine Ev.bind (v:=(-1:Int)) (Ev.bind (v:=Ctl.cont ()) (Ev.iter (fun i=>(i:Int)) l.length rfl (fun i hi=>?_) ?_) (Qb _)) (Qb _)
  ·have ha:=Qa7 (x:=l[i]) hl (List.getElem?_eq_getElem hi)
   simp only[ha.lt,cond_true,ha.ix,Option.bind_some]
   have hq:q l[i]=false:=by
    rw[Bool.eq_false_iff];intro h
    rw[List.any_eq_true.2 ⟨_,ha.mem,h⟩]at e;cases e
   refine Ev.bind ((hg _ ha.mem).eq hq) ?_
   simp only[cond_false,ha.nx]
   exact Qb _
  ·simp only[Qac,cond_false];exact Qb _
 |true=>
  obtain⟨x,hx,h⟩:=List.any_eq_true.1 e
  have key:∀k,k<=l.length->(∀(i:Nat) (x:α),l[i]?=some x->i<k->q x=false)\/ ∃(i:Nat) (x:α),l[i]?=some x/\i<k/\q x=true/\ ∀(j:Nat) (y:α),l[j]?=some y->j<i->q y=false:=by
   intro k
   induction k with
   |zero=>intro _;exact .inl fun i x _ hi=>absurd hi (Nat.not_lt_zero _)
   |succ k ih=>
    intro hk
    rcases ih (by omega)with h|⟨i,x,h1,h2,h3⟩
    ·have hg:l[k]?=some l[k]:=List.getElem?_eq_getElem (by omega)
     cases e:q l[k]with
     |true=>exact .inr ⟨k,_,hg,Nat.lt_succ_self _,e,h⟩
     |false=>
      refine .inl fun i x hx hi=>?_
      rcases Nat.lt_succ_iff_lt_or_eq.1 hi with z|rfl
      ·exact h i x hx z
      ·rw[hg]at hx;cases hx;exact e
    ·exact .inr ⟨i,x,h1,by omega,h3⟩
  rcases key l.length (Nat.le_refl _)with h'|⟨i,x,h1,h2,h3,h4⟩
  ·obtain⟨j,hj,rfl⟩:=List.getElem_of_mem hx
   rw[h' j _ (List.getElem?_eq_getElem hj) hj]at h;cases h
  ·refine Ev.bind (v:=(i:Int)) (Ev.bind (v:=Ctl.done (i:Int)) (Ev.iter (fun i=>(i:Int)) i rfl (fun j hj=>?_) ?_) (Qb _)) ?_
   ·have ha:=Qa7 (x:=l[j]) hl (List.getElem?_eq_getElem (by omega))
    simp only[ha.lt,cond_true,ha.ix,Option.bind_some]
    refine Ev.bind ((hg _ ha.mem).eq (h4 j _ ha.get hj)) ?_
    simp only[cond_false,ha.nx]
    exact Qb _
   ·have ha:=Qa7 hl h1
    simp only[ha.lt,cond_true,ha.ix,Option.bind_some]
    refine Ev.bind ((hg _ ha.mem).eq h3) ?_
    exact Qb _
   ·rw[decide_eq_true (by omega)]
    exact Qb _
end
section
variable {S B α:Type}{step:Nat->S->Option (Ctl S B)}
theorem At.drop{l:List α}{i:Nat}{x:α}(h:At l i x):l.drop i=x::l.drop (i+1):=by
 have:=h.lt'
 rw[List.drop_eq_getElem_cons this,(List.getElem?_eq_some_iff.1 h.get).2]
end
section
variable {α β:Type} [DecidableEq α]
end
def EvI{S B:Type}(step:Nat->S->Option (Ctl S B))(s:S)(b:B):Prop:=∃N,∀n k,N<=n->N<=k->Go.Sw.iter (step n) k s=some b
section
variable {S B:Type}{step:Nat->S->Option (Ctl S B)}{s s':S}{b:B}
theorem EvI.done(h:Ev (fun n=>step n s) (.done b)):EvI step s b:=by
 obtain⟨N,h⟩:=h
 refine⟨N+1,fun n k hn hk=>?_⟩
 obtain⟨k',rfl⟩:∃k',k=k'+1:=⟨k-1,by omega⟩
 have:=h n (by omega)
 simp only[Go.Sw.iter,this]
theorem EvI.cont(h:Ev (fun n=>step n s) (.cont s'))(q:EvI step s' b):EvI step s b:=by
 obtain⟨N,h⟩:=h
 obtain⟨M,q⟩:=q
 refine⟨max N M+1,fun n k hn hk=>?_⟩
 obtain⟨k',rfl⟩:∃k',k=k'+1:=⟨k-1,by omega⟩
 have:=h n (by omega)
 simp only[Go.Sw.iter,this]
 exact q n k' (by omega) (by omega)
theorem EvI.ev(h:EvI step s b):Ev (fun n=>Go.Sw.iter (step n) n s) b:=by
 obtain⟨N,h⟩:=h
 exact⟨N,fun n hn=>h n n hn hn⟩
theorem EvI.eq{b':B}(h:EvI step s b)(e:b=b'):EvI step s b':=e▸h
end
theorem QbU{α:Type}{l r:List α}{i:Nat}{x:α}(hl:l.length<=4611686018427387904)(h:l.drop i=x::r):At l i x/\l.drop (i+1)=r:=by
 have h1:l[i]?=some x:=by
  have:=congrArg (fun l=>l[0]?) h
  simpa using this
 refine⟨Qa7 hl h1,?_⟩
 have:=(Qa7 hl h1).drop
 rw[h]at this
 exact(List.cons.inj this).2.symm
theorem Qdr{α:Type}{l:List α}{i:Nat}(h:l.drop i=[])(hi:i<=l.length):decide ((i:Int)<(l.length:Int))=false:=by
 have:=List.drop_eq_nil_iff.1 h
 exact decide_eq_false (by omega)
end Go.Sw
namespace Go.Sw
theorem Z.{u}{α:Sort u}{a:α}:a=a:=rfl
section
variable {P:Program}{h0 N:Nat}{all:Array Oper}{env:Env}{H H':Qc}{Q:Qz}{l:List Oper}{o:Oper}{d:Nat}
theorem aV(x:A)(H:Qc){x':A}{H':Qc}(hx:x'=x)(hH:H'=H)(k:WO P h0 N all l (up env d x) H Q):WO P h0 N all l (up env d x') H' Q:=by subst hx;subst hH;exact k
theorem vX(x:A)(hop:OpV P o env H x)(k:WO P h0 N all l (up env d x) H Q)(hg:Qq all o env true:=by exact rfl)(hd:o.dst=some d:=by exact rfl)(hN:Nat.blt d N=true:=by exact rfl):WO P h0 N all (o::l) env H Q:=
 Qy hg hd hN hop k
theorem Wp:WO P h0 N all [] env H (YH env H):=WO.nil YH.mk
end
end Go.Sw
namespace Go.Sw
section
variable {P:Program}{o:Oper}{env:Env}{H:Qc}
theorem Qj6{ro:Nat->Prop}{σ:Sig}{w:World}(g:GP w){b:Nat}{zs:List Int}(h:QfZ[b]?=some zs):∀(i:Nat),CR ro σ w b ((zs.drop i).map (A.int .i64)) i:=by
 intro i
 generalize hl:zs.drop i=l
 induction l generalizing i with
 |nil=>trivial
 |cons z l ih=>
  have hz:zs[i]?=some z:=by
   have:=congrArg (·[0]?) hl
   simpa using this
  have hl':zs.drop (i+1)=l:=by
   rw[<- List.drop_drop,hl];rfl
  exact⟨⟨_,g.tab b zs h i z hz,by simp[Qv],rfl⟩,ih (i+1) hl'⟩
theorem Qek{t n g:Nat}{zs:List Int}(ha:∀w,(isAgg t).run P w=.ok true w)(hs:∀w,(sizeOf t).run P w=.ok n w)(hg:QfZ[g]?=some zs)(hl:zs.length=n)(ho:o.op=.load t (.global g):=by exact rfl):
  OpV P o env H (.agg (zs.map (A.int .i64))):=by
 intro fr ro σ N a w r
 obtain⟨l,q1,_,q2⟩:=Yk (P:=P) (b:=g) (cs:=zs.map (A.int .i64)) (off:=0) 0 (by simpa using Qj6 (ro:=ro) (σ:=σ) r.sim.roOk.gp hg 0)
 have q2:=q2 w #[] rfl
 rw[List.length_map,hl]at q2
 refine⟨.agg l.toArray,?_,l,rfl,q1⟩
 have h2:a.eval (.global g)=.pointer (some ⟨g,0,none⟩):=rfl
 generalize a.eval=ρ at*
 simp[execOp,ho,h2,Instr.loadAt,Instr.sureAddr,loadVar,ha,hs,loadCells,q2,go_sem]
end
end Go.Sw
namespace Go.Sw
open Go.Proofs
section
variable {P:Program}
def toV(agg:Bool)(l:List Value):Value:=bif agg then .agg l.toArray else l.headD .nilFunc
structure Qgj (P:Program) (t:TypeId) (h k:Nat) (agg:Bool) (ok:List Value->Prop):Prop where
 len:∀l,ok l->l.length=k
 ia:∀w,(isAgg t).run P w=.ok agg w
 so:∀w,(sizeOf t).run P w=.ok k w
 eq:∀(w:World) (d:Nat) (l m:List Value),ok l->ok m->∃b:Bool,(Op.equalIn (d+h) t (toV agg l) (toV agg m)).run P w=.ok b w/\(b=true↔l=m)
structure Qjk (P:Program) (fs:List Field) (h off k:Nat) (ok:List Value->Prop):Prop where
 len:∀l,ok l->l.length=k
 eq:∀(w:World) (d:Nat) (p q l m:List Value),p.length=off->q.length=off->ok l->ok m->∃b:Bool,(Op.eqFields (d+h) (p++l).toArray (q++m).toArray fs).run P w=.ok b w/\(b=true↔l=m)
theorem Qgj.int{t:TypeId}{k:IntKind}(hu:P.underlying t=some (.int k))(ia:∀w,(isAgg t).run P w=.ok false w)(so:∀w,(sizeOf t).run P w=.ok 1 w)(h:Nat):Qgj P t (h+1) 1 false (fun l=>∃n:Int,l=[.int k n]):=by
 refine⟨?_,ia,so,?_⟩
 ·rintro _ ⟨n,rfl⟩;rfl
 ·rintro w d _ _ ⟨n,rfl⟩ ⟨m,rfl⟩
  exact⟨_,run_equalIn_int w (d+h) t k k n m hu,by simp⟩
theorem Qgj.bool{t:TypeId}(hu:P.underlying t=some .bool)(ia:∀w,(isAgg t).run P w=.ok false w)(so:∀w,(sizeOf t).run P w=.ok 1 w)(h:Nat):Qgj P t (h+1) 1 false (fun l=>∃n:Bool,l=[.bool n]):=by
 refine⟨?_,ia,so,?_⟩
 ·rintro _ ⟨n,rfl⟩;rfl
 ·rintro w d _ _ ⟨n,rfl⟩ ⟨m,rfl⟩
  exact⟨_,run_equalIn_bool' w (d+h) t n m hu,by simp⟩
theorem Qgj.str{t:TypeId}(hu:P.underlying t=some .string)(ia:∀w,(isAgg t).run P w=.ok false w)(so:∀w,(sizeOf t).run P w=.ok 1 w)(h:Nat):Qgj P t (h+1) 1 false (fun l=>∃s:List UInt8,l=[.string ⟨s.toArray⟩]):=by
 refine⟨?_,ia,so,?_⟩
 ·rintro _ ⟨n,rfl⟩;rfl
 ·rintro w d _ _ ⟨n,rfl⟩ ⟨m,rfl⟩
  exact⟨_,run_equalIn_string w (d+h) t _ _ hu,by simp[Go.ByteArray.toList_eq]⟩
theorem Qjk.nil(h off:Nat):Qjk P [] h off 0 (fun l=>l=[]):=by
 refine⟨?_,?_⟩
 ·rintro _ rfl;rfl
 ·rintro w d p q _ _ _ _ rfl rfl
  exact⟨true,by simp[Op.eqFields],by simp⟩
theorem Qe9{t:TypeId}{k:Nat}{agg:Bool}{w:World}(ia:∀w,(isAgg t).run P w=.ok agg w)(so:∀w,(sizeOf t).run P w=.ok k w)(p l1 l2:List Value)(hl:l1.length=k)(h1:agg=false->k=1):
  (part t (p++(l1++l2)).toArray p.length).run P w=.ok (toV agg l1) w:=by
 unfold part
 cases agg with
 |true=>
  simp[ia,so,go_sem,toV]
  rw[<- hl]
  simp[List.extract]
 |false=>
  have:=h1 rfl
  subst this
  match l1,hl with
  |[v],_=>simp[ia,go_sem,toV]
theorem Qjk.cons{f:Field}{fs:List Field}{h off k1 k2:Nat}{agg:Bool}{ok1 ok2:List Value->Prop}(ho:Nat.beq f.offset off=true)(hn:f.name≠"_")(h1:Qgj P f.type h k1 agg ok1)(hk:agg=false->k1=1)(h2:Qjk P fs h (off+k1) k2 ok2):
  Qjk P (f::fs) h off (k1+k2) (fun l=>∃l1 l2,l=l1++l2/\ok1 l1/\ok2 l2):=by
 have ho':f.offset=off:=Nat.eq_of_beq_eq_true ho
 refine⟨?_,?_⟩
 ·rintro _ ⟨l1,l2,rfl,a,b⟩
  rw[List.length_append,h1.len _ a,h2.len _ b]
 ·rintro w d p q _ _ hp hq ⟨l1,l2,rfl,a1,a2⟩ ⟨m1,m2,rfl,b1,b2⟩
  have e1:=Qe9 (P:=P) (w:=w) h1.ia h1.so p l1 l2 (h1.len _ a1) hk
  have e2:=Qe9 (P:=P) (w:=w) h1.ia h1.so q m1 m2 (h1.len _ b1) hk
  rw[hp]at e1
  rw[hq]at e2
  obtain⟨b3,e3,f3⟩:=h1.eq w d l1 m1 a1 b1
  obtain⟨b4,e4,f4⟩:=h2.eq w d (p++l1) (q++m1) l2 m2 (by rw[List.length_append,hp,h1.len _ a1]) (by rw[List.length_append,hq,h1.len _ b1]) a2 b2
  rw[List.append_assoc,List.append_assoc]at e4
  have hl:l1.length=m1.length:=by rw[h1.len _ a1,h1.len _ b1]
  refine⟨b3&&b4,?_,?_⟩
  ·generalize(p++(l1++l2)).toArray=X at*
   generalize(q++(m1++m2)).toArray=Y at*
   cases b3<;>simp[Op.eqFields,hn,ho',Sem.run_bind,Result.andThen,e1,e2,e3,e4]
  ·rw[Bool.and_eq_true,f3,f4]
   constructor
   ·rintro⟨rfl,rfl⟩;rfl
   ·intro e;exact List.append_inj e hl
theorem Qgj.struct{t:TypeId}{h k:Nat}{ok:List Value->Prop}(hu:P.underlying t=some (.struct (P.fieldsOf t)))(hs:P.stoodInHeld t=false)(ia:∀w,(isAgg t).run P w=.ok true w)(so:∀w,(sizeOf t).run P w=.ok k w)(hf:Qjk P (P.fieldsOf t).toList h 0 k ok):Qgj P t (h+1) k true ok:=by
 refine⟨hf.len,ia,so,fun w d l m a b=>?_⟩
 obtain⟨r,e1,e2⟩:=hf.eq w d [] [] l m rfl rfl a b
 refine⟨r,?_,e2⟩
 show(Op.equalIn (d+h+1) t (.agg l.toArray) (.agg m.toArray)).run P w=_
 rw[run_equalIn_agg w (d+h) t _ _ hu hs]
 simpa using e1
theorem Qcg{t:TypeId}{h k:Nat}{fs:Array Field}{ok:List Value->Prop}(hu:P.underlying t=some (.struct fs))(hs:P.stoodInHeld t=false)(ia:∀w,(isAgg t).run P w=.ok true w)(so:∀w,(sizeOf t).run P w=.ok k w)(hf:Qjk P fs.toList h 0 k ok):Qgj P t (h+1) k true ok:=by
 have e:P.fieldsOf t=fs:=by simp[Program.fieldsOf,hu]
 exact Qgj.struct (by rw[e];exact hu) hs ia so (by rw[e];exact hf)
structure EqD (P:Program) (t:TypeId) {α:Type} (cells:α->List A):Prop where
 scl:∀x,Qc4 (cells x)=true
 inj:∀x y,YD (cells x)=YD (cells y)->x=y
 guard:P.eqGuardType P.depth t=false
 eq:∀(w:World) x y,∃b:Bool,(Op.equalIn 10000 t (.agg (YD (cells x)).toArray) (.agg (YD (cells y)).toArray)).run P w=.ok b w/\(b=true↔YD (cells x)=YD (cells y))
theorem QgR{α:Type}{cells:α->List A}{t h k:Nat}{ok:List Value->Prop}(E:Qgj P t h k true ok)(hh:Nat.ble h 10000=true)(hok:∀x,ok (YD (cells x)))(hs:∀x,Qc4 (cells x)=true)(hi:∀x y,YD (cells x)=YD (cells y)->x=y)(hg:P.eqGuardType P.depth t=false):EqD P t cells:=by
 refine⟨hs,hi,hg,fun w x y=>?_⟩
 have:=E.eq w (10000-h) (YD (cells x)) (YD (cells y)) (hok x) (hok y)
 rwa [show 10000-h+h=10000 by have:=Nat.le_of_ble_eq_true hh;omega]at this
variable {o:Oper}{env:Env}{H:Qc}
theorem QhE{α:Type}[DecidableEq α]{cells:α->List A}{t u:TypeId}{x y:Operand}{p q:α}(E:EqD P t cells)(hx:opA env x=.agg (cells p))(hy:opA env y=.agg (cells q))(ho:o.op=.binOp .eql t x y u:=by exact rfl):OpV P o env H (.bool (p==q)):=by
 intro fr ro σ N a w r
 have h1:=Qg r x
 have h2:=Qg r y
 rw[hx]at h1
 rw[hy]at h2
 have e1:=VR.val (a:=.agg (cells p)) (E.scl p) h1
 have e2:=VR.val (a:=.agg (cells q)) (E.scl q) h2
 obtain⟨b,e3,e4⟩:=E.eq w p q
 have hb:b=(p==q):=by
  rw[Bool.eq_iff_iff,e4,beq_iff_eq]
  exact⟨E.inj p q,fun e=>by rw[e]⟩
 refine⟨.bool (p==q),?_,rfl⟩
 rw[<- hb]
 generalize a.eval=ρ at*
 have e1':ρ x=.agg (YD (cells p)).toArray:=e1
 have e2':ρ y=.agg (YD (cells q)).toArray:=e2
 simp[execOp,ho,e1',e2',go_sem,run_eqGuard_agg _ _ _ _ _ _ _ E.guard,run_eql_struct,e3]
theorem QhD{α:Type}[DecidableEq α]{cells:α->List A}{t u:TypeId}{x y:Operand}{p q:α}(E:EqD P t cells)(hx:opA env x=.agg (cells p))(hy:opA env y=.agg (cells q))(ho:o.op=.binOp .neq t x y u:=by exact rfl):OpV P o env H (.bool (p != q)):=by
 intro fr ro σ N a w r
 have h1:=Qg r x
 have h2:=Qg r y
 rw[hx]at h1
 rw[hy]at h2
 have e1:=VR.val (a:=.agg (cells p)) (E.scl p) h1
 have e2:=VR.val (a:=.agg (cells q)) (E.scl q) h2
 obtain⟨b,e3,e4⟩:=E.eq w p q
 have hb:b=(p==q):=by
  rw[Bool.eq_iff_iff,e4,beq_iff_eq]
  exact⟨E.inj p q,fun e=>by rw[e]⟩
 refine⟨.bool (p != q),?_,rfl⟩
 rw[bne, <- hb]
 generalize a.eval=ρ at*
 have e1':ρ x=.agg (YD (cells p)).toArray:=e1
 have e2':ρ y=.agg (YD (cells q)).toArray:=e2
 simp[execOp,ho,e1',e2',go_sem,run_eqGuard_agg _ _ _ _ _ _ _ E.guard,run_neq_struct,e3]
end
end Go.Sw
namespace Go.Sw
structure Qdy (g g':Nat->Prop) (W W':World):Prop where
 sub:∀b,g b->g' b
 new:∀b,g' b->g b\/W.heap.size<=b
 lt:∀b,g' b->b<W'.heap.size
 all:∀b,W.heap.size<=b->b<W'.heap.size->g' b
 keep:∀b,b<W.heap.size->¬g b->W'.heap[b]?=W.heap[b]?
 size:W.heap.size<=W'.heap.size
 shape:∀b x,W.shape? b=some x->W'.shape? b=some x
 os:W'.os=W.os
 tape:W'.tape=W.tape
 output:W'.output=W.output
 drawn:W.drawn<=W'.drawn
abbrev Jv(T:Type):=List T->(Nat->Prop)->(Nat->Prop)->World->Prop
structure Qkl {T:Type} (J:Jv T):Prop where
 ev:∀rem q g W W' ro',J rem q g W->Qf g q W ro' W'->J rem q g W'
 up:∀rem q g g' W,J rem q g W->(∀b,g b->g' b)->(∀b,g' b->b<W.heap.size)->J rem q g' W
theorem Sim.round{fr g g' ro:Nat->Prop}{σ:Sig}{H:Qc}{W W':World}(s:Sim fr ro σ H W)(hgf:∀b,g b->fr b)(k:Qdy g g' W W'):Sim (fun b=>fr b\/g' b) ro σ H W'/\Qf (fun b=>b<W.heap.size/\ ¬g b) ro W ro W':=by
 have hro:∀b,ro b->W'.heap[b]?=W.heap[b]? :=fun b q=>k.keep b (s.roLt b q) (fun r=>s.roFr b q (hgf b r))
 have hext:Ext ro σ W ro σ W':=by
  have ev:Qf (fun _=>False) ro W ro W':=⟨fun _ q=>q,hro,fun _ q=>q.elim,k.size,k.shape,k.os,k.tape,k.output,k.drawn⟩
  have:=ev.ext σ []
  simpa using this
 refine⟨⟨s.len,s.roOk.to (fun _ q=>q) hro (fun b q=>Nat.lt_of_lt_of_le (s.roLt b q) k.size),fun b q=>q.elim (fun q=>Nat.lt_of_lt_of_le (s.frLt b q) k.size) (k.lt b),fun b q r=>?_,fun i b x q1 q2 q3=>?_,s.inj,fun i y x q1 q2=>?_,
  s.hidTo (· = ·) QP k.size (fun _ _ _ _ _ _ _ q=>q) (fun i b x c q1 q2 q3 q4=>q4.elim id fun q=>(k.new c q).elim (hgf c) fun q'=>(by have:=(s.hid i b x c q1 q2 q3).lt;omega)) fun j d y g1 g2 g3=>.inl ⟨j,y,rfl,g1,g2,id,fun c q=>s.hidKeep g1 g2 (fun z=>k.keep d (s.own j d y g1 g2 z).1 fun r=>(s.own j d y g1 g2 z).2.2 (hgf d r)) hro q⟩⟩,
  ⟨fun _ q=>q,hro,fun b q=>k.keep b q.1 q.2,k.size,k.shape,k.os,k.tape,k.output,k.drawn⟩⟩
 ·rcases r with r|r
  ·exact s.roFr b q r
  ·rcases k.new b r with q'|q'
   ·exact s.roFr b q (hgf b q')
   ·have:=s.roLt b q;omega
 ·obtain⟨p1,p2,p3⟩:=s.own i b x q1 q2 q3
  refine⟨Nat.lt_of_lt_of_le p1 k.size,p2,fun r=>?_⟩
  rcases r with r|r
  ·exact p3 r
  ·rcases k.new b r with q'|q'
   ·exact p3 (hgf b q')
   ·omega
 ·refine(s.blk i y x q1 q2).keep hext ?_ ?_
  ·rintro b rfl hl
   obtain⟨p1,p2,p3⟩:=s.own i b x q1 q2 hl
   exact k.keep b p1 (fun r=>p3 (hgf b r))
  ·rintro b c rfl hl
   have q:=s.hid i b x c q1 q2 hl
   exact k.keep c q.lt (fun r=>q.fr (hgf c r))
def QkX{T:Type}(J Jx:Jv T)(g ri:Nat->Prop)(W1:World)(rem:List T):Ending->World->Prop:=fun e W'=>
 ∃g' q',(∀b,q' b->ri b)/\Qdy g g' W1 W'/\((e=.returned (.bool true)/\J rem q' g' W')\/(e=.returned (.bool false)/\Jx rem q' g' W'))
structure Ctx (T:Type) where
 l:Nat
 J:Jv T
 Jx:Jv T
 enc:T->List A
 nx:List T->T->List T->Prop
structure Ctx.ok {T:Type} (X:Ctx T) (P:Program):Prop where
 b:Qkl X.J
 bx:Qkl X.Jx
 round:∀l x rem q g ri W1 vs,X.nx l x rem->X.J l q g W1->(∀b,q b->ri b)->(∀b,ri b->b<W1.heap.size/\ ¬g b)->LR ri [] W1 (X.enc x) vs->YieldAt Fence.wide 0 P X.l vs.toArray W1 (QkX X.J X.Jx g ri W1 rem)
def QcM{T:Type}(P:Program)(f:FuncId)(caps:List A)(H:Qc)(enc:T->List A)(nx:List T->T->List T->Prop)(xs:List T):Prop:=
 ∀(X:Ctx T),X.enc=enc->X.nx=nx->X.ok P->∀fr ro σ w capv q,Sim fr ro σ H w->(∀b,q b->ro b)->LR ro σ w caps capv->X.J xs q fr w->
  Calls P f ((Value.func (.yield X.l) #[] #[]::capv)).toArray w fun e W'=>(∃v,e=.returned v)/\ ∃g q',(∀b,fr b->g b)/\((X.J [] q' g W')\/(∃rem,X.Jx rem q' g W'))
inductive YSt (T:Type) where
 |on (rem:List T)
 |off (rem:List T)
def Ctx.J'{T:Type}(X:Ctx T):YSt T->(Nat->Prop)->(Nat->Prop)->World->Prop
 |.on rem=>X.J rem
 |.off rem=>X.Jx rem
def Ctx.at{T:Type}(X:Ctx T)(st:YSt T)(g ro:Nat->Prop)(W:World):Prop:=∃q,(∀b,q b->ro b)/\X.J' st q g W
theorem Qf.roMono{fr ro ro0 ro':Nat->Prop}{w w':World}(h:Qf fr ro w ro' w')(s:∀b,ro0 b->ro b):Qf fr ro0 w ro' w':=
 ⟨fun b q=>h.sub b (s b q),fun b q=>h.keepRo b (s b q),h.keepFr,h.size,h.shape,h.os,h.tape,h.output,h.drawn⟩
theorem Ctx.ok.ev{T:Type}{X:Ctx T}{P:Program}(h:X.ok P){st:YSt T}{g ro ro':Nat->Prop}{W W':World}(hj:X.at st g ro W)(he:Qf g ro W ro' W'):X.at st g ro' W':=by
 obtain⟨q,hq,hj⟩:=hj
 refine⟨q,fun b z=>he.sub b (hq b z),?_⟩
 cases st with
 |on rem=>exact h.b.ev rem q g W W' ro' hj (he.roMono hq)
 |off rem=>exact h.bx.ev rem q g W W' ro' hj (he.roMono hq)
theorem Ctx.ok.up{T:Type}{X:Ctx T}{P:Program}(h:X.ok P){st:YSt T}{g g' ro:Nat->Prop}{W:World}(hj:X.at st g ro W)(hg:∀b,g b->g' b)(hl:∀b,g' b->b<W.heap.size):X.at st g' ro W:=by
 obtain⟨q,hq,hj⟩:=hj
 refine⟨q,hq,?_⟩
 cases st with
 |on rem=>exact h.b.up rem q g g' W hj hg hl
 |off rem=>exact h.bx.up rem q g g' W hj hg hl
abbrev Yg(T:Type):=AEx->Env->Qc->YSt T->Prop
structure In (g fr:Nat->Prop) (ds:List Deferred):Prop where
 sub:∀b,g b->fr b
 beside:∀D,({target:=.collected D,args:= #[]}:Deferred)∈ds->¬g D
def Qcd{T:Type}(X:Ctx T)(h0:Nat)(fr ro:Nat->Prop)(σ:Sig)(w:World)(N:Nat)(ds:List Deferred)(Q:Yg T):Exit->Act->World->Prop:=
 fun e a' w'=>∃x env' H' st ro' σ' fr' g',ExR e x/\Q x env' H' st/\Rel fr' ro' σ' H' env' N a' w'/\(X.at st g' ro' w'/\In g' fr' a'.defers)/\(∀b,ro b->ro' b)/\w.heap.size<=w'.heap.size/\σ'.take h0=σ.take h0/\Grow fr w ds fr' a'.defers
theorem Qcd.grow{T:Type}{X:Ctx T}{h0:Nat}{fr fr1 ro ro1:Nat->Prop}{σ σ1:Sig}{w w1:World}{N:Nat}{ds ds1:List Deferred}{Q:Yg T}{e:Exit}{a':Act}{w':World}
  (h:Qcd X h0 fr1 ro1 σ1 w1 N ds1 Q e a' w')(hr:∀b,ro b->ro1 b)(hz:w.heap.size<=w1.heap.size)(hs:σ1.take h0=σ.take h0)(hg:Grow fr w ds fr1 ds1):Qcd X h0 fr ro σ w N ds Q e a' w':=by
 obtain⟨x,env',H',st,ro',σ',fr',g',h1,h2,h3,h4,h5,h6,h7,h8⟩:=h
 exact⟨x,env',H',st,ro',σ',fr',g',h1,h2,h3,h4,fun b q=>h5 b (hr b q),Nat.le_trans hz h6,h7.trans hs,hg.trans hz h8⟩
def TCy{T:Type}(X:Ctx T)(P:Program)(h0 N:Nat)(c:Code)(env:Env)(H:Qc)(st:YSt T)(Q:Yg T):Prop:=
 X.ok P->∀rd fr ro σ a w g,Rel fr ro σ H env N a w->X.at st g ro w/\In g fr a.defers->rd=none->c.wpIn (WF rd) 0 P (Qcd X h0 fr ro σ w N a.defers Q) a w
def WOy{T:Type}(X:Ctx T)(P:Program)(h0 N:Nat)(all:Array Oper)(l:List Oper)(env:Env)(H:Qc)(st:YSt T)(Q:Yg T):Prop:=
 X.ok P->∀rd fr ro σ a w g,Rel fr ro σ H env N a w->X.at st g ro w/\In g fr a.defers->rd=none->wpL P rd all (Qcd X h0 fr ro σ w N a.defers Q) l a w
theorem In.later{fr fr' g:Nat->Prop}{w:World}{ds ds':List Deferred}(h:In g fr ds)(hl:∀b,fr b->b<w.heap.size)(hg:Grow fr w ds fr' ds'):In g fr' ds':=by
 refine⟨fun b q=>hg.sub b (h.sub b q),fun D hD q=>?_⟩
 rcases hg.ds _ hD with r|⟨D',e,r⟩
 ·exact h.beside D r q
 ·have:D=D':=by simpa using e
  subst this
  have:=hl D (h.sub D q)
  omega
section
variable {T:Type}{X:Ctx T}{P:Program}{h0 N:Nat}{c c':Code}{env:Env}{H:Qc}{st:YSt T}{Q:Yg T}
theorem Qhw{fr ro:Nat->Prop}{σ:Sig}{w:World}{ds:List Deferred}{e:Exit}{a':Act}{w':World}(hX:X.ok P)(h:QaV h0 fr ro σ w N ds (fun x env H=>Q x env H st) e a' w'){g:Nat->Prop}(hl:∀b,fr b->b<w.heap.size)(hj:X.at st g ro w/\In g fr ds):
  Qcd X h0 fr ro σ w N ds Q e a' w':=by
 obtain⟨x,env',H',ro',σ',fr',h1,h2,h3,h4,h5,h6⟩:=h
 exact⟨x,env',H',st,ro',σ',fr',g,h1,h2,h3,⟨hX.ev hj.1 (h4.frMono hj.2.sub),hj.2.later hl h6⟩,h4.sub,h4.size,h5,h6⟩
theorem TCy.lift(h:TC P h0 N c env H (fun x env H=>Q x env H st)):TCy X P h0 N c env H st Q:=
 fun hX rd fr ro σ a w g r hj hrd=>Code.wpIn_mono (fun e a' w' q=>Qhw hX q r.sim.frLt hj) (h rd fr ro σ a w r (hrd▸Qbu))
def SeqY(X:Ctx T)(P:Program)(h0 N:Nat)(c:Code)(Q:Yg T):Yg T
 |.normal,env,H,st=>TCy X P h0 N c env H st Q
 |.exit id,env,H,st=>Q (.exit id) env H st
 |.ret,env,H,st=>Q .ret env H st
theorem TCy.seq(h:TCy X P h0 N c env H st (SeqY X P h0 N c' Q)):TCy X P h0 N (.seq c c') env H st Q:=by
 intro hX rd fr ro σ a w g r hj hrd
 refine wpIn_seq (Code.wpIn_mono ?_ (h hX rd fr ro σ a w g r hj hrd))
 rintro e a' w' ⟨x,env',H',st',ro',σ',fr',g',h1,h2,h3,h4,h5,h6,h7,h8⟩
 cases e with
 |normal=>
  obtain rfl:x=.normal:=h1
  exact Code.wpIn_mono (fun e a w q=>q.grow h5 h6 h7 h8) (h2 hX rd fr' ro' σ' a' w' g' h3 h4 hrd)
 |exit id=>
  obtain rfl:x=.exit id:=h1
  exact⟨_,env',H',st',ro',σ',fr',g',rfl,h2,h3,h4,h5,h6,h7,h8⟩
 |ret=>
  obtain rfl:x=.ret:=h1
  exact⟨_,env',H',st',ro',σ',fr',g',rfl,h2,h3,h4,h5,h6,h7,h8⟩
 |_=>exact h1.elim
theorem TCy.region{id:Nat}{l:List Oper}(h:WOy X P h0 N l.toArray l env H st Q):TCy X P h0 N (.region id l.toArray false) env H st Q:=
 fun hX rd fr ro σ a w g r hj hrd=>wpIn_region_lit (h hX rd fr ro σ a w g r hj hrd)
theorem TCy.cond{x:Operand}{t:Bool}(hx:opA env x=.bool t)(ht:t=true->TCy X P h0 N c env H st Q)(hf:t=false->TCy X P h0 N c' env H st Q):TCy X P h0 N (.cond x c c') env H st Q:=by
 intro hX rd fr ro σ a w g r hj hrd
 have hv:=Qg r x
 rw[hx]at hv
 exact wpIn_cond_split hv (fun e=>ht e hX rd fr ro σ a w g r hj hrd) (fun e=>hf e hX rd fr ro σ a w g r hj hrd)
theorem WOy.nil{all:Array Oper}(h:Q .normal env H st):WOy X P h0 N all [] env H st Q:=
 fun hX rd fr ro σ a w g r hj hrd=>⟨_,env,H,st,ro,σ,fr,g,rfl,h,r,hj,fun _ q=>q,Nat.le_refl _,rfl,Grow.refl _ _ _⟩
end
theorem QfN{P:Program}{rd:Option Nat}{o:Oper}{a:Act}{K K':Act->World->Prop}{Q Q':Exit->Act->World->Prop}(hk:∀a w,K a w->K' a w)(hp:∀ch a w,Q (.panic ch) a w->Q' (.panic ch) a w)(ho:∀a w,Q .outgrown a w->Q' .outgrown a w)
  {r:Result Next}(h:o.uponIn (WF rd) 0 P a K Q r):o.uponIn (WF rd) 0 P a K' Q' r:=by
 cases r with
 |ok x w=>
  cases x with
  |value v=>exact hk _ _ h
  |skip=>exact hk _ _ h
  |defer d=>exact hk _ _ h
  |enter f args=>
   refine⟨h.1,CallsIn.mono h.2 ?_⟩
   intro e w' q
   cases e with
   |returned v=>exact hk _ _ q
   |panicked c=>exact hp _ _ _ q
   |outgrown=>obtain⟨a,w,q⟩:=q;exact⟨a,w,ho _ _ q⟩
  |row r args=>exact⟨h.1,RowsIn.mono h.2 fun v w' q=>hk _ _ q⟩
  |round l f tmps assign body=>
   refine⟨h.1,RoundIn.mono h.2 ?_⟩
   intro e w' q
   cases e with
   |returned v=>exact hk _ _ q
   |panicked c=>exact hp _ _ _ q
   |outgrown=>obtain⟨a,w,q⟩:=q;exact⟨a,w,ho _ _ q⟩
  |_=>exact h
 |halt x w=>
  cases x with
  |panic v=>exact hp _ _ _ h
  |_=>exact h
section
variable {T:Type}{X:Ctx T}{P:Program}{h0 N:Nat}{env:Env}{H:Qc}{st:YSt T}{Q:Yg T}
theorem WOy.step{all:Array Oper}{o:Oper}{rest:List Oper}(h:WO P h0 N all [o] env H (fun x env' H'=>x=.normal/\WOy X P h0 N all rest env' H' st Q)):WOy X P h0 N all (o::rest) env H st Q:=by
 intro hX rd fr ro σ a w g r hj hrd
 have go:∀a' w',Qbo h0 fr ro σ w N a.defers (fun x env' H'=>x=.normal/\WOy X P h0 N all rest env' H' st Q) .normal a' w'->wpL P rd all (Qcd X h0 fr ro σ w N a.defers Q) rest a' w':=by
  rintro a' w' ⟨x,env',H',ro',σ',fr',h1,⟨_,h2⟩,h3,h4,h5,h6,h7⟩
  have hj':X.at st g ro' w'/\In g fr' a'.defers:=⟨hX.ev hj.1 (h4.frMono hj.2.sub),by rw[h6];exact hj.2.later r.sim.frLt h7⟩
  have:=h2 hX rd fr' ro' σ' a' w' g h3 hj' hrd
  refine Yd (fun e a2 w2 q=>?_) _ _ _ this
  exact q.grow h4.sub h4.size h5 (by rw[h6];exact h7)
 have h':=h rd fr ro σ a w r (hrd▸Qbu)
 unfold wpL wpListIn at h'⊢
 split
 ·rename_i hw
  rw[if_pos hw]at h'
  refine⟨h'.1,QfN (fun a2 w2 q=>?_) (fun ch a2 w2 q=>?_) (fun a2 w2 q=>?_) h'.2⟩
  ·unfold wpListIn at q
   exact go a2 w2 q
  ·obtain⟨x,_,_,_,_,_,q,_⟩:=q
   exact q.elim
  ·obtain⟨x,_,_,_,_,_,q,_⟩:=q
   exact q.elim
 ·rename_i hw
  rw[if_neg hw]at h'
  refine⟨h'.1,?_⟩
  have q:=h'.2
  unfold wpListIn at q
  exact go _ _ q
theorem WOy.yield{all:Array Oper}{o:Oper}{rest:List Oper}{d:Nat}{x:T}{lr rem:List T}(hnx:X.nx lr x rem)(hg:Qq all o env true)(hd:o.dst=some d)(hN:Nat.blt d N=true)
  (hop:∀fr ro σ a w,Rel fr ro σ H env N a w->∃vs:List Value,LR ro [] w (X.enc x) vs/\(execOp a.eval o).run P w=(Instr.yield X.l vs.toArray).run P w)
  (k:∀b:Bool,WOy X P h0 N all rest (up env d (.bool b)) H (bif b then .on rem else .off rem) Q):WOy X P h0 N all (o::rest) env H (.on lr) Q:=by
 intro hX rd fr ro σ a w g r hj hrd
 obtain⟨vs,hv,he⟩:=hop fr ro σ a w r
 obtain⟨q,hq,hj0⟩:=hj.1
 obtain⟨fn,tmps,assign,body,h1,h2⟩:=hX.round lr x rem q g ro w vs hnx hj0 hq (fun b z=>⟨r.sim.roLt b z,fun y=>r.sim.roFr b z (hj.2.sub b y)⟩) hv
 have h3:=he.trans h1
 unfold wpL wpListIn
 rw[if_pos (YQ hg r)]
 refine⟨fun _ _=>trivial,?_⟩
 rw[QbW h3 (fun d e=>by cases e)]
 refine⟨fun h=>by simp[WF,Fence.wide]at h,?_⟩
 refine RoundIn.mono (F:=WF rd) (n:=0) h2 ?_
 rintro e w' ⟨g',q',hq',hk,hb⟩
 obtain⟨s',ev⟩:=r.sim.round hj.2.sub hk
 have hdN:d<N:=by simpa using hN
 have hext:Ext ro σ w ro σ w':=by have:=ev.ext σ [];simpa using this
 have fin:∀b:Bool,X.at (bif b then .on rem else .off rem) g' ro w'->wpL P rd all (Qcd X h0 fr ro σ w N a.defers Q) rest (a.put o.dst (.bool b)) w':=by
  intro b hb
  have hm:Qcf (fun b=>fr b\/g' b) a.defers w':=by
   refine⟨r.defers.1,fun d hd=>?_⟩
   obtain⟨D,rfl,q1,q2⟩:=r.defers.2 d hd
   exact⟨D,rfl,.inl q1,(hk.keep D (r.sim.frLt D q1) (hj.2.beside D hd)).trans q2⟩
  have hi:In g' (fun b=>fr b\/g' b) a.defers:=by
   refine⟨fun b q=>.inr q,fun D hD q=>?_⟩
   rcases hk.new D q with q'|q'
   ·exact hj.2.beside D hD q'
   ·obtain⟨D',e,q1,_⟩:=r.defers.2 _ hD
    have:D=D':=by simpa using e
    subst this
    have:=r.sim.frLt D q1
    omega
  have r':Rel (fun b=>fr b\/g' b) ro σ H (up env d (.bool b)) N {a with tmps:=a.tmps.setIfInBounds d (.bool b)} w':=
   ⟨s',VR.up (fr:=fr) (fun s=>(r.env s).mono hext) (by rw[r.size];exact hdN) rfl,by simpa using r.size,hm⟩
  have:=k b hX rd _ ro σ _ w' g' r' ⟨hb,hi⟩ hrd
  simp only[hd,Act.put]
  refine Yd (fun e a2 w2 q=>q.grow (fun _ q=>q) hk.size rfl ⟨fun _ q=>.inl q,fun b q=>?_,fun _ q=>.inl q⟩) _ _ _ this
  rcases q with q|q
  ·exact .inl q
  ·rcases hk.new b q with q|q
   ·exact .inl (hj.2.sub b q)
   ·exact .inr q
 rcases hb with⟨rfl,hb⟩|⟨rfl,hb⟩
 ·exact fin true ⟨q',hq',hb⟩
 ·exact fin false ⟨q',hq',hb⟩
end
def EndY{T:Type}:Yg T:=fun x env H st=>(x=.normal\/x=.ret)/\(st=.on []\/ ∃rem,st=.off rem)
theorem Qb9{T:Type}{P:Program}{f:FuncId}{fn:Func}{c:Code}{N:Nat}{caps:List A}{H:Qc}{enc:T->List A}{nx:List T->T->List T->Prop}{xs:List T}
  (hf:P.funcs[f]?=some fn)(hb:fn.body=some c)(hN:fn.ntmps=N)(hA:Nat.ble (caps.length+1) N=true)(hR:fn.results= #[])
  (h:∀X:Ctx T,X.enc=enc->X.nx=nx->TCy X P H.length N c (Qec 0 (.fn (.yield X.l) [] []::caps)) H (.on xs) EndY):QcM P f caps H enc nx xs:=by
 intro X hE hNx hX fr ro0 σ w capv q0 hs hq0 hl hj
 have hl2:LR ro0 σ w (.fn (.yield X.l) [] []::caps) (Value.func (.yield X.l) #[] #[]::capv):=⟨_,_,rfl,⟨[],[],rfl,rfl,rfl⟩,hl⟩
 have hlen:=hl2.length
 have hA':caps.length+1<=N:=by simpa using hA
 refine(callsIn_wide (n:=0)).1 (callsIn_of_wp_marks hf hb trivial (Code.wpIn_mono ?_ (h X hE hNx hX none fr ro0 σ _ w fr ⟨hs,?_,?_,List.nodup_nil,fun d hd=>by cases hd⟩ ⟨⟨q0,hq0,hj⟩,fun _ q=>q,fun D hD=>by cases hD⟩ rfl)))
 ·rintro e a' w' ⟨x,env1,H1,st,ro1,σ1,fr1,g1,h1,⟨h2,h2'⟩,h3,⟨h4,hin⟩,h5,h6,h7,h8⟩
  have key:LeavesInM Fence.wide 0 P fn a'.tmps (fun e W'=>(∃v,e=.returned v)/\ ∃g q',(∀b,fr b->g b)/\((X.J [] q' g W')\/(∃rem,X.Jx rem q' g W'))) a'.defers .returning w':=by
   refine QaZ (ro:=ro1) (fr:=g1) (σ:=σ1) (H:=H1) a'.defers w' h3.defers.1 (fun d hd=>?_) (h3.sim.frMono hin.sub) (fun w2 s2 ev2=>?_)
   ·obtain⟨D,rfl,q1,q2⟩:=h3.defers.2 d hd
    exact⟨D,rfl,fun q=>h3.sim.roFr D q q1,hin.beside D hd,fun i x r1 r2 r3=>(h3.sim.own i D x r1 r2 r3).2.2 q1,fun i d x r1 r2 r3=>(h3.sim.hid i d x D r1 r2 r3).fr q1,q2⟩
   ·have h9:=hX.up (hX.ev h4 ev2) (g':=fun b=>g1 b\/fr b) (fun b q=>.inl q) (fun b q=>Nat.lt_of_lt_of_le (h3.sim.frLt b (q.elim (hin.sub b) (h8.sub b))) ev2.size)
    obtain⟨q9,_,h9⟩:=h9
    refine⟨.tuple #[],by simp[results,hR,go_sem],⟨_,rfl⟩,fun b=>g1 b\/fr b,q9,fun b q=>.inr q,?_⟩
    rcases h2' with rfl|⟨rem,rfl⟩
    ·exact .inl h9
    ·exact .inr ⟨rem,h9⟩
  cases e with
  |normal=>exact key
  |ret=>exact key
  |exit id=>
   obtain rfl:x=.exit id:=h1
   rcases h2 with q|q<;>cases q
  |_=>exact h1.elim
 ·intro s
  have:=Qdg (i:=0) [] rfl hl2 (Array.replicate (fn.ntmps-(Value.func (.yield X.l) #[] #[]::capv).toArray.size) undef) s
  simpa using this
 ·simp only[List.length_cons]at hlen
  simp[hN];omega
section
variable {T:Type}{X:Ctx T}{P:Program}{h0 N:Nat}{c c':Code}{env:Env}{H:Qc}{st:YSt T}{Q Q':Yg T}
theorem TCy.mono(h:TCy X P h0 N c env H st Q)(hq:∀x env H st,Q x env H st->Q' x env H st):TCy X P h0 N c env H st Q':=by
 intro hX rd fr ro σ a w g r hj hrd
 refine Code.wpIn_mono ?_ (h hX rd fr ro σ a w g r hj hrd)
 rintro e a' w' ⟨x,env',H',st',ro',σ',fr',g',h1,h2,h3⟩
 exact⟨x,env',H',st',ro',σ',fr',g',h1,hq _ _ _ _ h2,h3⟩
theorem TCy.skip(h:Q .normal env H st):TCy X P h0 N .skip env H st Q:=TCy.lift (TC.skip h)
theorem TCy.ret(h:Q .ret env H st):TCy X P h0 N .ret env H st Q:=TCy.lift (TC.ret h)
theorem TCy.exit{id:Nat}(h:Q (.exit id) env H st):TCy X P h0 N (.exit id) env H st Q:=TCy.lift (TC.exit h)
def BloY(id:Nat)(Q:Yg T):Yg T
 |.normal,env,H,st=>Q .normal env H st
 |.exit id',env,H,st=>bif Nat.beq id' id then Q .normal env H st else Q (.exit id') env H st
 |.ret,env,H,st=>Q .ret env H st
theorem TCy.block{id:Nat}(h:TCy X P h0 N c env H st (BloY id Q)):TCy X P h0 N (.block id c) env H st Q:=by
 intro hX rd fr ro σ a w g r hj hrd
 refine wpIn_block (Code.wpIn_mono ?_ (h hX rd fr ro σ a w g r hj hrd))
 rintro e a' w' ⟨x,env',H',st',ro',σ',fr',g',h1,h2,h3⟩
 cases e with
 |normal=>
  obtain rfl:x=.normal:=h1
  exact⟨_,env',H',st',ro',σ',fr',g',rfl,h2,h3⟩
 |exit id'=>
  obtain rfl:x=.exit id':=h1
  show Exit.inBlock id _ _ _ _
  unfold Exit.inBlock
  simp only[BloY]at h2
  by_cases q:id'=id
  ·subst q
   rw[Nat.beq_refl,cond_true]at h2
   simp only[if_true]
   exact⟨.normal,env',H',st',ro',σ',fr',g',rfl,h2,h3⟩
  ·have hb:Nat.beq id' id=false:=by
    cases e:Nat.beq id' id with
    |false=>rfl
    |true=>exact absurd (Nat.eq_of_beq_eq_true e) q
   rw[hb,cond_false]at h2
   simp only[q,if_false]
   exact⟨.exit id',env',H',st',ro',σ',fr',g',rfl,h2,h3⟩
 |ret=>
  obtain rfl:x=.ret:=h1
  exact⟨_,env',H',st',ro',σ',fr',g',rfl,h2,h3⟩
 |_=>exact h1.elim
end
section
variable {T:Type}{X:Ctx T}{P:Program}{h0 N:Nat}{c:Code}{env:Env}{H:Qc}{st:YSt T}{Q:Yg T}
def QhL(I:Env->Qc->YSt T->Prop)(Q:Yg T):Yg T
 |.normal,env,H,st=>I env H st
 |.exit id,env,H,st=>Q (.exit id) env H st
 |.ret,env,H,st=>Q .ret env H st
theorem Qei{I:Nat->Env->Qc->YSt T->Prop}(body:∀n env H st,I n env H st->TCy X P h0 N c env H st (QhL (fun env H st=>∃n',n'<n/\I n' env H st) Q)){n:Nat}(hI:I n env H st):TCy X P h0 N (.loop c) env H st Q:=by
 intro hX rd fr ro σ a w g r hj hrd b k cs hro hb hr
 have key:∀m n env H st fr1 ro1 σ1 a1 w1 g1,n<m->I n env H st->Rel fr1 ro1 σ1 H env N a1 w1->(∀b,ro b->ro1 b)->w.heap.size<=w1.heap.size->σ1.take h0=σ.take h0->Grow fr w a.defers fr1 a1.defers->X.at st g1 ro1 w1/\In g1 fr1 a1.defers->
   ∃e a' w',Qcd X h0 fr ro σ w N a.defers Q e a' w'/\ArrivesIn (Machine.fenced P (WF rd)) P (lone (b.atR a1 (.code c::.inLoop c::k)) cs w1) b k cs e a' w':=by
  intro m
  induction m with
  |zero=>intro n env H st fr1 ro1 σ1 a1 w1 g1 hn;exact absurd hn (Nat.not_lt_zero _)
  |succ m ih=>
   intro n env H st fr1 ro1 σ1 a1 w1 g1 hn hI r1 s1 z1 t1 gr1 j1
   obtain⟨e,a',w',hq,harr⟩:=body n env H st hI hX rd fr1 ro1 σ1 a1 w1 g1 r1 j1 hrd b (.inLoop c::k) cs hro hb hr
   obtain⟨x,env',H',st',ro',σ',fr',g',q1,q2,q3,q4,q5,q6,q7,q8⟩:=hq
   have s2:=fun b q=>q5 b (s1 b q)
   have gr2:=gr1.trans z1 q8
   have hp:∀x,Q x env' H' st'->ExR e x->Qcd X h0 fr ro σ w N a.defers Q e a' w':=fun x q q'=>⟨x,env',H',st',ro',σ',fr',g',q',q,q3,q4,s2,Nat.le_trans z1 q6,q7.trans t1,gr2⟩
   cases e with
   |normal=>
    obtain rfl:x=.normal:=q1
    obtain⟨n',hn',q2⟩:=q2
    obtain⟨e2,a2,w2,hq2,harr2⟩:=ih n' env' H' st' fr' ro' σ' a' w' g' (by omega) q2 q3 s2 (Nat.le_trans z1 q6) (q7.trans t1) gr2 q4
    exact⟨e2,a2,w2,hq2,.of_steps (StepsIn.trans harr (.one (fenced_calm hb hr rfl) stepR_inLoop)) harr2⟩
   |exit id=>
    obtain rfl:x=.exit id:=q1
    exact⟨_,a',w',hp _ q2 rfl,.pass (x:=.inLoop c) rfl (fun _ _=>.inl (by simp)) harr⟩
   |ret=>
    obtain rfl:x=.ret:=q1
    exact⟨_,a',w',hp _ q2 rfl,.pass (x:=.inLoop c) rfl (fun _ _=>.inl (by simp)) harr⟩
   |_=>exact q1.elim
 obtain⟨e,a',w',hq,harr⟩:=key (n+1) n env H st fr ro σ a w g (Nat.lt_succ_self _) hI r (fun _ q=>q) (Nat.le_refl _) rfl (Grow.refl _ _ _) hj
 exact⟨e,a',w',hq,.of_steps (.one (fenced_calm hb hr rfl) stepR_loop) harr⟩
end
end Go.Sw
namespace Go.Sw
theorem Sim.part{fr ro:Nat->Prop}{σ:Sig}{H:Qc}{w:World}(s0:Sim fr ro σ H w){π:List Nat}{Hc:Qc}(hH:π.map (fun p=>H[p]?)=(Hc.map (QN (rho π H.length))).map some)(hπ:π.Nodup):
  Sim (fun b=>fr b\/(∃i x,σ[i]?=some (some b)/\H[i]?=some x/\x.live=true/\i∉π)\/ ∃i x d,σ[i]?=some (some d)/\H[i]?=some x/\Hid w x d b/\i∉π) ro (QW σ π) Hc w/\ ∀j:Nat,σ[rho π H.length j]?=(QW σ π)[j]? :=by
 have hp:∀p∈π,p<H.length:=fun p q=>YJ hH q
 have hσl:=s0.len
 have hHc:∀(j p:Nat),π[j]?=some p->H[p]?=(Hc[j]?).map (QN (rho π H.length)):=by
  intro j p hj
  have:=congrArg (fun l=>l[j]?) hH
  simp only[List.getElem?_map,hj,Option.map_some]at this
  cases e:Hc[j]? with
  |none=>rw[e]at this;simp at this
  |some x=>rw[e]at this;simpa using this
 have hlen:π.length=Hc.length:=by simpa using congrArg List.length hH
 have hσc:∀j:Nat,σ[rho π H.length j]?=(QW σ π)[j]? :=by
  intro j
  have:=QcO (τ:=[]) hσl hp j
  simpa using this
 have hπj:∀(j b:Nat),(QW σ π)[j]?=some (some b)->∃p,π[j]?=some p/\σ[p]?=some (some b):=by
  intro j b hj
  simp only[QW,List.getElem?_map]at hj
  cases e:π[j]? with
  |none=>rw[e]at hj;simp at hj
  |some p=>
   rw[e]at hj
   simp at hj
   refine⟨p,rfl,?_⟩
   cases e2:σ[p]? with
   |none=>rw[e2]at hj;simp at hj
   |some s=>rw[e2]at hj;simp at hj;rw[hj]
 refine⟨?_,hσc⟩
 ·refine⟨by simp[QW,hlen],s0.roOk,?_,?_,?_,?_,?_,?_⟩
  ·rintro b (hb|⟨i,x,q1,q2,q3,q4⟩|⟨i,x,d,q1,q2,q3,q4⟩)
   ·exact s0.frLt b hb
   ·exact(s0.own i b x q1 q2 q3).1
   ·exact(s0.hid i d x b q1 q2 q3).lt
  ·rintro b hb (hf|⟨i,x,q1,q2,q3,q4⟩|⟨i,x,d,q1,q2,q3,q4⟩)
   ·exact s0.roFr b hb hf
   ·exact(s0.own i b x q1 q2 q3).2.1 hb
   ·exact(s0.hid i d x b q1 q2 q3).ro hb
  ·intro j b x q1 q2 q3
   obtain⟨p,e1,e2⟩:=hπj j b q1
   have e3:H[p]?=some (QN (rho π H.length) x):=by rw[hHc j p e1,q2];rfl
   obtain⟨o1,o2,o3⟩:=s0.own p b _ e2 e3 (by rw[QB];exact q3)
   refine⟨o1,o2,?_⟩
   rintro(hf|⟨i,y,y1,y2,y3,y4⟩|⟨i,y,d,y1,y2,y3,y4⟩)
   ·exact o3 hf
   ·have:=s0.inj i p b _ _ y1 e2 y2 e3 y3 (by rw[QB];exact q3)
    subst this
    exact y4 (List.mem_of_getElem? e1)
   ·exact(s0.hid i d y b y1 y2 y3).ne p b _ e2 e3 (by rw[QB];exact q3) rfl
  ·intro i j b x y q1 q2 q3 q4 q5 q6
   obtain⟨p,e1,e2⟩:=hπj i b q1
   obtain⟨p',e1',e2'⟩:=hπj j b q2
   have e3:H[p]?=some (QN (rho π H.length) x):=by rw[hHc i p e1,q3];rfl
   have e3':H[p']?=some (QN (rho π H.length) y):=by rw[hHc j p' e1',q4];rfl
   have:=s0.inj p p' b _ _ e2 e2' e3 e3' (by rw[QB];exact q5) (by rw[QB];exact q6)
   subst this
   have hi:i<π.length:=by
    rcases Nat.lt_or_ge i π.length with q|q
    ·exact q
    ·rw[List.getElem?_eq_none q]at e1;simp at e1
   have hj:j<π.length:=by
    rcases Nat.lt_or_ge j π.length with q|q
    ·exact q
    ·rw[List.getElem?_eq_none q]at e1';simp at e1'
   rw[List.getElem?_eq_getElem hi]at e1
   rw[List.getElem?_eq_getElem hj]at e1'
   have heq:=(Option.some.inj e1).trans (Option.some.inj e1').symm
   rcases Nat.lt_trichotomy i j with q|q|q
   ·exact(List.pairwise_iff_getElem.1 hπ i j hi hj q heq).elim
   ·exact q
   ·exact(List.pairwise_iff_getElem.1 hπ j i hj hi q heq.symm).elim
  ·intro j s x q1 q2
   have hj:j<π.length:=by
    rcases Nat.lt_or_ge j π.length with q|q
    ·exact q
    ·rw[List.getElem?_eq_none (by simpa[QW]using q)]at q1;simp at q1
   have e1:π[j]?=some π[j]:=List.getElem?_eq_getElem hj
   have e3:H[π[j]]?=some (QN (rho π H.length) x):=by rw[hHc j _ e1,q2];rfl
   have e2:σ[π[j]]?=some s:=by
    have:=hσc j
    rw[q1]at this
    simpa[rho,e1]using this
   exact(Qe0 hσc).1 (s0.blk _ s _ e2 e3)
  ·intro j b x c q1 q2 q3
   obtain⟨p,e1,e2⟩:=hπj j b q1
   have e3:H[p]?=some (QN (rho π H.length) x):=by rw[hHc j p e1,q2];rfl
   have k:=s0.hid p b _ c e2 e3 ((Qak _ _ _ _ _).2 q3)
   refine⟨k.lt,k.ro,?_,?_,?_⟩
   ·rintro(hf|⟨i,y,y1,y2,y3,y4⟩|⟨i,y,d,y1,y2,y3,y4⟩)
    ·exact k.fr hf
    ·exact k.ne i c y y1 y2 y3 rfl
    ·obtain⟨rfl,rfl⟩:=k.one i d y y1 y2 y3
     exact y4 (List.mem_of_getElem? e1)
   ·intro j' b' y z1 z2 z3
    obtain⟨p',f1,f2⟩:=hπj j' b' z1
    exact k.ne p' b' _ f2 (show H[p']?=some (QN (rho π H.length) y)by rw[hHc j' p' f1,z2];rfl) (by rw[QB];exact z3)
   ·intro j' b' y z1 z2 z3
    obtain⟨p',f1,f2⟩:=hπj j' b' z1
    obtain⟨z4,z5⟩:=k.one p' b' _ f2 (show H[p']?=some (QN (rho π H.length) y)by rw[hHc j' p' f1,z2];rfl) ((Qak _ _ _ _ _).2 z3)
    subst z5
    have hi:j'<π.length:=(List.getElem?_eq_some_iff.1 f1).1
    have hj:j<π.length:=(List.getElem?_eq_some_iff.1 e1).1
    rw[List.getElem?_eq_getElem hi]at f1
    rw[List.getElem?_eq_getElem hj]at e1
    have heq:=(Option.some.inj f1).trans (Option.some.inj e1).symm
    refine⟨z4,?_⟩
    rcases Nat.lt_trichotomy j' j with q|q|q
    ·exact(List.pairwise_iff_getElem.1 hπ j' j hi hj q heq).elim
    ·exact q
    ·exact(List.pairwise_iff_getElem.1 hπ j j' hj hi q heq.symm).elim
theorem Sim.frames{fr fr' ro:Nat->Prop}{σ:Sig}{H:Qc}{w:World}(s:Sim fr ro σ H w)(lt:∀b,fr' b->b<w.heap.size)(hro:∀b,ro b->¬fr' b)(own:∀(i b:Nat) (x:Blk),σ[i]?=some (some b)->H[i]?=some x->x.live=true->¬fr' b)
  (hd:∀(i b:Nat) (x:Blk) (c:Nat),σ[i]?=some (some b)->H[i]?=some x->Hid w x b c->¬fr' c):Sim fr' ro σ H w:=
 ⟨s.len,s.roOk,lt,hro,fun i b x q1 q2 q3=>⟨(s.own i b x q1 q2 q3).1,(s.own i b x q1 q2 q3).2.1,own i b x q1 q2 q3⟩,s.inj,s.blk,
  s.hidTo (· = ·) QP (Nat.le_refl _) (fun _ _ _ _ _ _ _ q=>q) (fun i b x c q1 q2 q3 q4=>(hd i b x c q1 q2 q3 q4).elim) fun j d y g1 g2 g3=>.inl ⟨j,y,rfl,g1,g2,id,fun _ q=>q⟩⟩
def Qgu(H:Qc)(p:Nat):Qc:=match H[p]? with
 |some x=>bif x.holds then H.set p .dead else H
 |none=>H
def QcB:Qc->List Nat->Qc
 |H,[]=>H
 |H,p::π=>QcB (Qgu H p) π
theorem QcC(H:Qc)(p:Nat):(Qgu H p=H/\ ∀x,H[p]?=some x->x.holds=false)\/Qgu H p=H.set p .dead:=by
 unfold Qgu
 cases h:H[p]? with
 |none=>exact .inl ⟨rfl,fun x q=>by cases q⟩
 |some x=>
  cases q:x.holds with
  |false=>exact .inl ⟨by simp[q],fun y hy=>by cases hy;exact q⟩
  |true=>exact .inr (by simp[q])
theorem Qdh:∀(π:List Nat) (H:Qc) (i:Nat) (x:Blk),(QcB H π)[i]?=some x->x=.dead\/(H[i]?=some x/\(x.holds=true->i∉π))
 |[],H,i,x,h=>.inr ⟨h,fun _=>by simp⟩
 |p::π,H,i,x,h=>by
  rcases Qdh π _ i x h with h|⟨h1,h2⟩
  ·exact .inl h
  ·rcases QcC H p with⟨e,hl⟩|e
   ·rw[e]at h1
    refine .inr ⟨h1,fun hx=>?_⟩
    simp only[List.mem_cons,not_or]
    refine⟨fun q=>?_,h2 hx⟩
    subst q
    have:=hl x h1
    rw[this]at hx;cases hx
   ·rw[e]at h1
    by_cases q:p=i
    ·subst q
     rw[List.getElem?_set]at h1
     simp at h1
     exact .inl h1.2.symm
    ·rw[List.getElem?_set_ne q]at h1
     exact .inr ⟨h1,fun hx=>by simp only[List.mem_cons,not_or];exact⟨fun r=>q r.symm,h2 hx⟩⟩
theorem Qct{fr ro:Nat->Prop}{σ:Sig}{w:World}:∀(π:List Nat) {H:Qc} (s:Sim fr ro σ H w),Sim fr ro σ (QcB H π) w
 |[],_,s=>s
 |p::π,H,s=>by
  rw[QcB]
  rcases QcC H p with h|h
  ·rw[h.1];exact Qct π s
  ·rw[h];exact Qct π (s.kill p)
theorem Sim.put{fr ro:Nat->Prop}{σ:Sig}{H:Qc}{w:World}(s:Sim fr ro σ H w){b:Nat}{obj:Obj}(hf:fr b)(hsh:w.shape? b=none):
  Sim fr ro σ H (w.putObj b obj)/\Qf (fun c=>c≠b) ro w ro (w.putObj b obj):=by
 have hne:∀c,c≠b->(w.putObj b obj).heap[c]?=w.heap[c]? :=fun c hc=>World.putObj_heap_other hc
 have hsz:(w.putObj b obj).heap.size=w.heap.size:=by simp
 have hrb:∀c,ro c->c≠b:=fun c q e=>s.roFr c q (e▸hf)
 have ev:Qf (fun c=>c≠b) ro w ro (w.putObj b obj):=by
  refine⟨fun _ q=>q,fun c q=>hne c (hrb c q),fun c q=>hne c q,by rw[hsz];exact Nat.le_refl _,fun c x q=>?_,rfl,rfl,rfl,Nat.le_refl _⟩
  by_cases e:c=b
  ·subst e;rw[hsh]at q;cases q
  ·unfold World.shape? at q⊢;rw[hne c e];exact q
 have hext:Ext ro σ w ro σ (w.putObj b obj):=by have:=ev.ext σ [];simpa using this
 refine⟨⟨s.len,s.roOk.to (fun _ q=>q) ev.keepRo (fun c q=>by rw[hsz];exact s.roLt c q),fun c q=>by rw[hsz];exact s.frLt c q,s.roFr,fun i c x q1 q2 q3=>?_,s.inj,fun i y x q1 q2=>?_,
  s.hidTo (· = ·) QP (by rw[hsz];exact Nat.le_refl _) (fun _ _ _ _ _ _ _ q=>q) (fun _ _ _ _ _ _ _ q=>q) fun j d y g1 g2 g3=>.inl ⟨j,y,rfl,g1,g2,id,fun c q=>s.hidKeep g1 g2 (fun z=>hne d (fun e=>(s.own j d y g1 g2 z).2.2 (e▸hf))) ev.keepRo q⟩⟩,ev⟩
 ·obtain⟨p1,p2,p3⟩:=s.own i c x q1 q2 q3
  exact⟨by rw[hsz];exact p1,p2,p3⟩
 ·refine(s.blk i y x q1 q2).keep hext ?_ ?_
  ·rintro c rfl hl
   exact hne c (fun e=>(s.own i c x q1 q2 hl).2.2 (e▸hf))
  ·rintro d c rfl hl
   exact hne c (fun e=>(s.hid i d x c q1 q2 hl).fr (e▸hf))
theorem QaY{w:World}{l:Nat}{r:Loop}(h:w.heap[l]?=some (.loop r)):w.shape? l=none:=by
 unfold World.shape?;rw[h]
structure Fix where
 fr:Nat->Prop
 ro:Nat->Prop
 σ:Sig
 w:World
 h1:Nat
 env:Env
 tmps:Array Value
 ds1:List Deferred
 l:Nat
 rc:LoopState->Option Code->Loop
 fr1:Nat->Prop
structure Fix.Ok (D:Fix):Prop where
 sub:∀b,D.fr b->D.fr1 b
 l1:D.fr1 D.l
 lf:¬D.fr D.l
 len:D.σ.length=D.h1
structure RJ (D:Fix) (ro1:Nat->Prop) (σ1:Sig) (H:Qc) (st:LoopState) (pe:Option Code) (q g:Nat->Prop) (W:World):Prop where
 sim:Sim D.fr1 ro1 σ1 H W
 env:∀t,VR ro1 D.σ W (lk D.env t) (D.tmps.getD t undef)
 sig:σ1.take D.h1=D.σ
 ev:Qf D.fr D.ro D.w ro1 W
 marks:Qcf D.fr1 D.ds1 W
 rc:W.heap[D.l]?=some (.loop (D.rc st pe))
 roG:∀b,ro1 b->q b\/g b
 frG:∀b,D.fr1 b->g b
 own:∀(i b:Nat) (x:Blk),σ1[i]?=some (some b)->H[i]?=some x->x.live=true->g b
 hidG:∀(i b:Nat) (x:Blk) (c:Nat),σ1[i]?=some (some b)->H[i]?=some x->Hid W x b c->g c
 lt:∀b,g b->b<W.heap.size
theorem Qcw{σ σ1:Sig}{h1:Nat}(h:σ1.take h1=σ){i b:Nat}(q:σ[i]?=some (some b)):σ1[i]?=some (some b):=by
 subst h
 rw[List.getElem?_take]at q
 split at q
 ·exact q
 ·cases q
section
variable {D:Fix}{ro1:Nat->Prop}{σ1:Sig}{H:Qc}{st:LoopState}{pe:Option Code}{qR g:Nat->Prop}{W:World}
theorem RJ.step(hD:D.Ok)(j:RJ D ro1 σ1 H st pe qR g W){ro':Nat->Prop}{W':World}(e:Qf g qR W ro' W'):RJ D ro1 σ1 H st pe qR g W':=by
 have hro:∀b,ro1 b->W'.heap[b]?=W.heap[b]? :=fun b q=>(j.roG b q).elim (e.keepRo b) (e.keepFr b)
 have ev:Qf D.fr1 ro1 W ro1 W':=⟨fun _ q=>q,hro,fun b q=>e.keepFr b (j.frG b q),e.size,e.shape,e.os,e.tape,e.output,e.drawn⟩
 have hext:∀σ,Ext ro1 σ W ro1 σ W':=fun σ=>by have:=ev.ext σ [];simpa using this
 refine⟨⟨j.sim.len,j.sim.roOk.to (fun _ q=>q) hro (fun b q=>Nat.lt_of_lt_of_le (j.sim.roLt b q) e.size),fun b q=>Nat.lt_of_lt_of_le (j.sim.frLt b q) e.size,j.sim.roFr,fun i b x q1 q2 q3=>?_,j.sim.inj,fun i z x q1 q2=>?_,
  j.sim.hidTo (· = ·) QP e.size (fun _ _ _ _ _ _ _ q=>q) (fun _ _ _ _ _ _ _ q=>q) fun i d y g1 g2 g3=>.inl ⟨i,y,rfl,g1,g2,id,fun c q=>j.sim.hidKeep g1 g2 (fun z=>e.keepFr d (j.own i d y g1 g2 z)) hro q⟩⟩,
  fun t=>(j.env t).mono (hext _),j.sig,j.ev.trans (ev.frMono hD.sub),j.marks.keep ev,(ev.keepFr _ hD.l1).trans j.rc,j.roG,j.frG,j.own,fun i b x c q1 q2 q3=>j.hidG i b x c q1 q2 (j.sim.hidKeep q1 q2 (fun z=>e.keepFr b (j.own i b x q1 q2 z)) hro q3),fun b q=>Nat.lt_of_lt_of_le (j.lt b q) e.size⟩
 ·obtain⟨p1,p2⟩:=j.sim.own i b x q1 q2 q3
  exact⟨Nat.lt_of_lt_of_le p1 e.size,p2⟩
 ·refine(j.sim.blk i z x q1 q2).keep (hext _) ?_ ?_
  ·rintro b rfl hl
   exact e.keepFr b (j.own i b x q1 q2 hl)
  ·rintro b c rfl hl
   exact e.keepFr c (j.hidG i b x c q1 q2 hl)
theorem RJ.up{g':Nat->Prop}(j:RJ D ro1 σ1 H st pe qR g W)(h:∀b,g b->g' b)(hl:∀b,g' b->b<W.heap.size):RJ D ro1 σ1 H st pe qR g' W:=
 {j with roG:=fun b q=>(j.roG b q).imp id (h b),frG:=fun b q=>h b (j.frG b q),own:=fun i b x q1 q2 q3=>h b (j.own i b x q1 q2 q3),hidG:=fun i b x c q1 q2 q3=>h c (j.hidG i b x c q1 q2 q3),lt:=hl}
def FrB(D:Fix)(ro1 g:Nat->Prop)(W:World):Nat->Prop:=fun b=>(D.fr1 b\/(¬g b/\ ¬ro1 b))/\b<W.heap.size
theorem RJ.simB(j:RJ D ro1 σ1 H st pe qR g W):Sim (FrB D ro1 g W) ro1 σ1 H W:=by
 refine j.sim.frames (fun b q=>q.2) (fun b q r=>?_) (fun i b x q1 q2 q3 r=>?_) (fun i b x c q1 q2 q3 r=>r.1.elim (j.sim.hid i b x c q1 q2 q3).fr fun r=>r.1 (j.hidG i b x c q1 q2 q3))
 ·rcases r.1 with r|r
  ·exact j.sim.roFr b q r
  ·exact r.2 q
 ·rcases r.1 with r|r
  ·exact(j.sim.own i b x q1 q2 q3).2.2 r
  ·exact r.1 (j.own i b x q1 q2 q3)
theorem RJ.fin(hD:D.Ok)(j:RJ D ro1 σ1 H st pe qR g W){fr3 ro':Nat->Prop}{σ':Sig}{H':Qc}{W':World}{st':LoopState}{pe':Option Code}
  (ev:Qf (fun b=>FrB D ro1 g W b/\b≠D.l) ro1 W ro' W')(s:Sim fr3 ro' σ' H' W')(hs:∀b,FrB D ro1 g W b->fr3 b)(hσ:σ'.take D.h1=σ1.take D.h1)(hr:W'.heap[D.l]?=some (.loop (D.rc st' pe'))):
  RJ D ro' σ' H' st' pe' qR (fun b=>g b\/(W.heap.size<=b/\b<W'.heap.size)) W'/\Qdy g (fun b=>g b\/(W.heap.size<=b/\b<W'.heap.size)) W W':=by
 have h1B:∀b,D.fr1 b->FrB D ro1 g W b:=fun b q=>⟨.inl q,j.sim.frLt b q⟩
 have hll:W.shape? D.l=none:=QaY j.rc
 have evf:Qf D.fr ro1 W ro' W':=ev.frMono fun b q=>⟨h1B b (hD.sub b q),fun e=>hD.lf (e▸q)⟩
 have hext:Ext ro1 D.σ W ro' D.σ W':=ev.ext0 D.σ
 have hW:∀b,b<W.heap.size->b<W'.heap.size:=fun b q=>Nat.lt_of_lt_of_le q ev.size
 have hown:∀b,b<W.heap.size->¬FrB D ro1 g W b->g b\/ro1 b:=by
  intro b hb hn
  by_cases q1:g b
  ·exact .inl q1
  ·by_cases q2:ro1 b
   ·exact .inr q2
   ·exact absurd ⟨.inr ⟨q1,q2⟩,hb⟩ hn
 refine⟨⟨s.frames (fun b q=>hW b (j.sim.frLt b q)) (fun b q r=>s.roFr b q (hs b (h1B b r))) (fun i b x q1 q2 q3 r=>(s.own i b x q1 q2 q3).2.2 (hs b (h1B b r))) (fun i b x c q1 q2 q3 r=>(s.hid i b x c q1 q2 q3).fr (hs c (h1B c r))),
  fun t=>(j.env t).mono hext,hσ.trans j.sig,j.ev.trans evf,⟨j.marks.1,fun d hd=>?_⟩,hr,fun b q=>?_,fun b q=>.inl (j.frG b q),fun i b x q1 q2 q3=>?_,fun i b x c q1 q2 q3=>?_,fun b q=>q.elim (fun q=>hW b (j.lt b q)) (fun q=>q.2)⟩,
  ⟨fun b q=>.inl q,fun b q=>q.imp id (fun q=>q.1),fun b q=>q.elim (fun q=>hW b (j.lt b q)) (fun q=>q.2),fun b q1 q2=>.inr ⟨q1,q2⟩,fun b q1 q2=>?_,ev.size,ev.shape,ev.os,ev.tape,ev.output,ev.drawn⟩⟩
 ·obtain⟨B,e1,e2,e3⟩:=j.marks.2 d hd
  refine⟨B,e1,e2,(ev.keepFr B ⟨h1B B e2,fun e=>?_⟩).trans e3⟩
  subst e
  rw[j.rc]at e3;cases e3
 ·rcases Nat.lt_or_ge b W.heap.size with hb|hb
  ·rcases hown b hb (fun r=>s.roFr b q (hs b r))with r|r
   ·exact .inr (.inl r)
   ·exact(j.roG b r).imp id .inl
  ·exact .inr (.inr ⟨hb,s.roLt b q⟩)
 ·obtain⟨o1,o2,o3⟩:=s.own i b x q1 q2 q3
  rcases Nat.lt_or_ge b W.heap.size with hb|hb
  ·rcases hown b hb (fun r=>o3 (hs b r))with r|r
   ·exact .inl r
   ·exact absurd (ev.sub b r) o2
  ·exact .inr ⟨hb,o1⟩
 ·have k:=s.hid i b x c q1 q2 q3
  rcases Nat.lt_or_ge c W.heap.size with hb|hb
  ·rcases hown c hb (fun r=>k.fr (hs c r))with r|r
   ·exact .inl r
   ·exact absurd (ev.sub c r) k.ro
  ·exact .inr ⟨hb,k.lt⟩
 ·by_cases r:ro1 b
  ·exact ev.keepRo b r
  ·exact ev.keepFr b ⟨⟨.inr ⟨q2,r⟩,q1⟩,fun e=>q2 (j.frG b (e▸hD.l1))⟩
end
theorem Sim.roAdd{fr ro ri:Nat->Prop}{σ:Sig}{H:Qc}{w:World}(s:Sim fr ro σ H w)(hlt:∀b,ri b->b<w.heap.size)(hfr:∀b,ri b->¬fr b)(hown:∀(i b:Nat) (x:Blk),σ[i]?=some (some b)->H[i]?=some x->x.live=true->¬ri b)
  (hhid:∀(i b:Nat) (x:Blk) (c:Nat),σ[i]?=some (some b)->H[i]?=some x->Hid w x b c->¬ri c):Sim fr (fun b=>ro b\/ri b) σ H w:=by
 have ext:Ext ro σ w (fun b=>ro b\/ri b) σ w:=⟨fun _ q=>.inl q,fun _ _=>rfl,fun _ _ q=>q,fun _ _ q=>q⟩
 refine⟨s.len,s.roOk.to (fun _ q=>.inl q) (fun _ _=>rfl) (fun b q=>q.elim (s.roLt b) (hlt b)),s.frLt,fun b q=>q.elim (s.roFr b) (hfr b),fun i b x q1 q2 q3=>?_,s.inj,fun i y x q1 q2=>(s.blk i y x q1 q2).keep ext (fun _ _ _=>rfl) (fun _ _ _ _=>rfl),
  s.hidTo (· = ·) QP (Nat.le_refl _) (fun i b x c q1 q2 q3 q4=>q4.elim id fun q=>(hhid i b x c q1 q2 q3 q).elim) (fun _ _ _ _ _ _ _ q=>q) fun j d y g1 g2 g3=>.inl ⟨j,y,rfl,g1,g2,id,fun _ q=>q⟩⟩
 obtain⟨p1,p2,p3⟩:=s.own i b x q1 q2 q3
 exact⟨p1,fun q=>q.elim p2 (hown i b x q1 q2 q3),p3⟩
theorem RJ.roAdd{D:Fix}{ro1:Nat->Prop}{σ1:Sig}{H:Qc}{st:LoopState}{pe:Option Code}{qR ri g:Nat->Prop}{W:World}(j:RJ D ro1 σ1 H st pe qR g W)(hq:∀b,qR b->ri b)(hI:∀b,ri b->b<W.heap.size/\ ¬g b):RJ D (fun b=>ro1 b\/ri b) σ1 H st pe ri g W:=
 {j with
  sim:=j.sim.roAdd (fun b q=>(hI b q).1) (fun b q z=>(hI b q).2 (j.frG b z)) (fun i b x q1 q2 q3 z=>(hI b z).2 (j.own i b x q1 q2 q3)) (fun i b x c q1 q2 q3 z=>(hI c z).2 (j.hidG i b x c q1 q2 q3))
  env:=fun t=>(j.env t).mono ⟨fun _ q=>.inl q,fun _ _=>rfl,fun _ _ q=>q,fun _ _ q=>q⟩
  ev:=j.ev.trans (Ya fun _ q=>.inl q)
  roG:=fun b q=>q.elim (fun q=>(j.roG b q).imp (hq b) id) .inl}
def QhU:List Nat->List A->Env->Env
 |p::ps,a::zs,env=>QhU ps zs (up env p a)
 |_,_,env=>env
def QfP:List Nat->List Value->Array Value->Array Value
 |p::ps,v::vs,t=>QfP ps vs (t.setIfInBounds p v)
 |_,_,t=>t
theorem QdW:∀(ps:List Nat) (vs:List Value) (t:Array Value),(QfP ps vs t).size=t.size
 |[],_,_=>rfl
 |_::_,[],_=>rfl
 |p::ps,v::vs,t=>by simp[QfP,QdW ps]
theorem QdX:∀(ps:List Nat) (vs:List Value) (t:Array Value),(ps.toArray.zip vs.toArray).foldl (fun t (p,v)=>t.setIfInBounds p v) t=QfP ps vs t
 |[],vs,t=>by rw[<- Array.foldl_toList,Array.toList_zip];rfl
 |p::ps,[],t=>by rw[<- Array.foldl_toList,Array.toList_zip];rfl
 |p::ps,v::vs,t=>by
  have:=QdX ps vs (t.setIfInBounds p v)
  rw[<- Array.foldl_toList,Array.toList_zip]at this⊢
  exact this
theorem Qgn{ro:Nat->Prop}{σ:Sig}{w:World}:∀(ps:List Nat) (zs:List A) (vs:List Value) (env:Env) (t:Array Value),LR ro σ w zs vs->(∀p∈ps,p<t.size)->(∀s,VR ro σ w (lk env s) (t.getD s undef))->
  ∀s,VR ro σ w (lk (QhU ps zs env) s) ((QfP ps vs t).getD s undef)
 |[],_,_,_,_,_,_,h=>h
 |p::ps,[],vs,_,_,hv,_,h=>by
  obtain rfl:vs=[]:=hv
  exact h
 |p::ps,a::zs,vs,env,t,hv,hp,h=>by
  obtain⟨v,vs',rfl,h0,hv'⟩:=hv
  have h1:=VR.up (fr:=fun _=>False) (a:={tmps:=t,defers:=[]}) h (hp p (by simp)) h0
  exact Qgn ps zs vs' (up env p a) (t.setIfInBounds p v) hv' (fun q hq=>by simpa using hp q (by simp[hq])) h1
def Qga(h1:Nat)(env:Env)(Q:Qz)(K:Qc->Prop):Qz
 |.normal,env',H'=>∃H2,Le h1 env' H' [] H2/\K H2
 |.exit id,env',H'=>∃H2,Le h1 env' H' [] H2/\Q (.exit id) env H2
 |.ret,env',H'=>∃H2,Le h1 env' H' [] H2/\Q .ret env H2
def Jump(Q:Qz)(env:Env)(c:Code)(H:Qc):Prop:=(∃id,c=.exit id/\Q (.exit id) env H)\/(c=.ret/\Q .ret env H)
section
variable {D:Fix}{ro0:Nat->Prop}{σ1:Sig}{H:Qc}{qR ri g:Nat->Prop}{W:World}{P:Program}{N:Nat}{Q:Qz}{K:Qc->Prop}
theorem RJ.round{fn:FuncId}{ps:List Nat}{assign body:Code}{df:Nat}{cs:List A}{vs:List Value}(hD:D.Ok)(hrc:D.rc=fun st pe=>{state:=st,pending:=pe,fn:=fn,tmps:=D.tmps,params:=ps.toArray,assign:=assign,body:=body,defers:=df})
  (hN:D.tmps.size=N)(hps:∀p∈ps,p<N)(hlen:cs.length=ps.length)(hq:∀b,qR b->ri b)(hI:∀b,ri b->b<W.heap.size/\ ¬g b)(hvs:LR ri [] W cs vs)(j0:RJ D ro0 σ1 H .ready none qR g W)
  (h:TC P D.h1 N assign (QhU ps cs D.env) H fun e env1 H1=>e=.normal/\TC P D.h1 N body env1 H1 (Qga D.h1 D.env Q K)):
  YieldAt Fence.wide 0 P D.l vs.toArray W fun e W'=>∃g',Qdy g g' W W'/\((e=.returned (.bool true)/\ ∃H2 ro2 σ2,K H2/\RJ D ro2 σ2 H2 .ready none ri g' W')\/
   (e=.returned (.bool false)/\ ∃H2 c ro2 σ2,Jump Q D.env c H2/\RJ D ro2 σ2 H2 .done (some c) ri g' W')):=by
 have hvl:vs.length=cs.length:=hvs.length
 have j:=j0.roAdd hq hI
 have hvs1:LR (fun b=>ro0 b\/ri b) σ1 W cs vs:=hvs.mono ⟨fun _ q=>.inr q,fun _ _=>rfl,fun _ _ q=>q,fun i b q=>by simp at q⟩
 clear j0
 generalize(fun b=>ro0 b\/ri b)=ro1 at j hvs1
 have hl1:∀b,D.fr1 b->FrB D ro1 g W b:=fun b q=>⟨.inl q,j.sim.frLt b q⟩
 have hlB:=hl1 _ hD.l1
 have hr0:=j.rc
 have hy:=run_yield (P:=P) (r:=D.rc .ready none) (args:=vs.toArray) hr0 (by rw[hrc];simp[hvl,hlen])
 refine⟨fn,QfP ps vs D.tmps,assign,body,?_,?_⟩
 ·rw[hy,hrc];simp only[];rw[<- QdX]
 ·refine roundIn_of_wpIn trivial ?_
  show Code.wpIn (WF (some D.l)) 0 P _ _ _ _
  have henv:∀s,VR ro1 σ1 W (lk D.env s) (D.tmps.getD s undef):=fun s=>(j.env s).mono ⟨fun _ q=>q,fun _ _=>rfl,fun _ _ q=>q,fun i b q=>Qcw j.sig q⟩
  have rd1:QcN (some D.l) (FrB D ro1 g W) W:=fun l e=>by cases e;exact⟨hlB,_,hr0⟩
  have w1:=h (some D.l) (FrB D ro1 g W) ro1 σ1 {tmps:=QfP ps vs D.tmps,defers:=[]} W ⟨j.simB,Qgn ps cs vs D.env D.tmps hvs1 (by rw[hN];exact hps) henv,by simp[QdW,hN],List.nodup_nil,fun d hd=>by cases hd⟩ rd1
  refine Code.wpIn_mono ?_ w1
  rintro e a1 w1 ⟨x1,env1,H1,ro2,σ2,fr2,h1,⟨rfl,h2⟩,h3,h4,h5,h6⟩
  cases e with
  |normal=>
   have hr1:w1.heap[D.l]?=some (.loop (D.rc .ready none)):=(h4.keepFr _ hlB).trans hr0
   refine⟨_,run_beginRound hr1 (by rw[hrc]),?_⟩
   obtain⟨s2,ev2⟩:=h3.sim.put (obj:=.loop {D.rc .ready none with state:=.busy}) (h6.sub _ hlB) (QaY hr1)
   have hsz1:D.l<w1.heap.size:=by rw[Array.getElem?_eq_some_iff]at hr1;exact hr1.1
   have hr2:(w1.putObj D.l (.loop {D.rc .ready none with state:=.busy})).heap[D.l]?=some (.loop {D.rc .ready none with state:=.busy}):=World.putObj_heap_same hsz1
   generalize hw2:w1.putObj D.l (.loop {D.rc .ready none with state:=.busy})=w2 at*
   have hmk:Qcf fr2 a1.defers w2:=by
    refine⟨h3.defers.1,fun d hd=>?_⟩
    obtain⟨B,e1,e2,e3⟩:=h3.defers.2 d hd
    refine⟨B,e1,e2,(ev2.keepFr B (fun e=>?_)).trans e3⟩
    subst e;rw[hr1]at e3;cases e3
   have r2:Rel fr2 ro2 σ2 H1 env1 N a1 w2:=⟨s2,fun s=>(h3.env s).mono (ev2.ext0 σ2),h3.size,hmk⟩
   have hl2:fr2 D.l:=h6.sub _ hlB
   refine Code.wpIn_mono ?_ (h2 (some D.l) fr2 ro2 σ2 a1 w2 r2 (fun l e=>by cases e;exact⟨hl2,_,hr2⟩))
   rintro e a3 w3 ⟨x3,env3,H3,ro3,σ3,fr3,g1,g2,g3,g4,g5,g6⟩
   have hr3:w3.heap[D.l]?=some (.loop {D.rc .ready none with state:=.busy}):=(g4.keepFr _ hl2).trans hr2
   have key:∀(H2:Qc) (jump:Option Code),Le D.h1 env3 H3 [] H2->∃v w4,(Instr.endRound D.l jump).run P w3=.ok v w4/\v=.bool jump.isNone/\ ∃g',Qdy g g' W w4/\ ∃ro4 σ4,RJ D ro4 σ4 H2 (if jump.isNone then .ready else .done) jump ri g' w4:=by
    intro H2 jump hle
    obtain⟨ro4,σ4,r4,s4,t4⟩:=hle fr3 ro3 σ3 N a3 w3 g3
    refine⟨_,_,run_endRound jump hr3,rfl,?_⟩
    have hl3:fr3 D.l:=g6.sub _ hl2
    obtain⟨s5,ev5⟩:=r4.sim.put (obj:=.loop {{D.rc .ready none with state:=.busy}with state:=if jump.isNone then .ready else .done,pending:=jump}) hl3 (QaY hr3)
    have hsz3:D.l<w3.heap.size:=by rw[Array.getElem?_eq_some_iff]at hr3;exact hr3.1
    have hr4:=World.putObj_heap_same (w:=w3) (r:=D.l) (o:=.loop {{D.rc .ready none with state:=.busy}with state:=if jump.isNone then .ready else .done,pending:=jump}) hsz3
    have e1:Qf (fun b=>FrB D ro1 g W b/\b≠D.l) ro1 W ro2 w1:=h4.frMono fun b q=>q.1
    have e2:Qf (fun b=>FrB D ro1 g W b/\b≠D.l) ro2 w1 ro2 w2:=ev2.frMono fun b q=>q.2
    have e3:Qf (fun b=>FrB D ro1 g W b/\b≠D.l) ro2 w2 ro3 w3:=g4.frMono fun b q=>h6.sub b q.1
    have e4:Qf (fun b=>FrB D ro1 g W b/\b≠D.l) ro3 w3 ro4 w3:=Ya s4
    have e5:=(((e1.trans e2).trans e3).trans e4).trans (ev5.frMono fun b (q:FrB D ro1 g W b/\b≠D.l)=>q.2)
    obtain⟨q1,q2⟩:=j.fin hD e5 s5 (fun b q=>g6.sub b (h6.sub b q)) (by rw[t4,g5,h5]) (st':=if jump.isNone then .ready else .done) (pe':=jump) (by rw[hr4,hrc])
    exact⟨_,q2,ro4,σ4,q1⟩
   cases e with
   |normal=>
    obtain rfl:x3=.normal:=g1
    obtain⟨H2,hle,hK⟩:=g2
    obtain⟨v,w4,k1,rfl,g',k2,ro4,σ4,k3⟩:=key H2 none hle
    exact⟨_,w4,k1,g',k2,.inl ⟨rfl,H2,ro4,σ4,hK,k3⟩⟩
   |exit id=>
    obtain rfl:x3=.exit id:=g1
    obtain⟨H2,hle,hK⟩:=g2
    obtain⟨v,w4,k1,rfl,g',k2,ro4,σ4,k3⟩:=key H2 (some (.exit id)) hle
    exact⟨_,w4,k1,g',k2,.inr ⟨rfl,H2,_,ro4,σ4,.inl ⟨id,rfl,hK⟩,k3⟩⟩
   |ret=>
    obtain rfl:x3=.ret:=g1
    obtain⟨H2,hle,hK⟩:=g2
    obtain⟨v,w4,k1,rfl,g',k2,ro4,σ4,k3⟩:=key H2 (some .ret) hle
    exact⟨_,w4,k1,g',k2,.inr ⟨rfl,H2,_,ro4,σ4,.inr ⟨rfl,hK⟩,k3⟩⟩
   |_=>exact g1.elim
  |exit id=>cases h1
  |ret=>cases h1
  |_=>exact h1.elim
end
theorem Sim.beside{fr ro:Nat->Prop}{σ:Sig}{H:Qc}{w w1:World}(s:Sim fr ro σ H w)(ev:Qf fr ro w ro w1)(hold:∀b,b<w.heap.size->w1.heap[b]?=w.heap[b]?):Sim (fun b=>fr b\/(w.heap.size<=b/\b<w1.heap.size)) ro σ H w1:=by
 have hext:Ext ro σ w ro σ w1:=ev.ext0 σ
 refine⟨s.len,s.roOk.to (fun _ q=>q) ev.keepRo (fun b q=>Nat.lt_of_lt_of_le (s.roLt b q) ev.size),fun b q=>q.elim (fun q=>Nat.lt_of_lt_of_le (s.frLt b q) ev.size) (fun q=>q.2),fun b q r=>?_,fun i b x q1 q2 q3=>?_,s.inj,fun i z x q1 q2=>?_,
  s.hidTo (· = ·) QP ev.size (fun _ _ _ _ _ _ _ q=>q) (fun i b x c q1 q2 q3 q4=>q4.elim id fun q=>(by have:=(s.hid i b x c q1 q2 q3).lt;omega)) fun j d y g1 g2 g3=>.inl ⟨j,y,rfl,g1,g2,id,fun c q=>s.hidKeep g1 g2 (fun z=>hold d (s.own j d y g1 g2 z).1) ev.keepRo q⟩⟩
 ·rcases r with r|r
  ·exact s.roFr b q r
  ·have:=s.roLt b q;omega
 ·obtain⟨p1,p2,p3⟩:=s.own i b x q1 q2 q3
  refine⟨Nat.lt_of_lt_of_le p1 ev.size,p2,fun r=>?_⟩
  rcases r with r|r
  ·exact p3 r
  ·omega
 ·refine(s.blk i z x q1 q2).keep hext ?_ ?_
  ·rintro b rfl hl
   exact hold b (s.own i b x q1 q2 hl).1
  ·rintro b c rfl hl
   exact hold c (s.hid i b x c q1 q2 hl).lt
theorem Qbt{w:World}{o:Obj}{b:Nat}(hb:b<w.heap.size):(w.alloc o).heap[b]?=w.heap[b]? :=by
 show(w.heap.push o)[b]?=_
 rw[Array.getElem?_push,if_neg (by omega)]
theorem QiQ{P:Program}{fn:FuncId}{tmps:Array Value}{ps:Array Tmp}{assign body:Code}{rd:Option Nat}{fr ro:Nat->Prop}{w:World}(hrd:QcN rd fr w)(hro:∀b,ro b->b<w.heap.size)(hfr:∀b,fr b->b<w.heap.size):
  ∃l mark w1 df,(Instr.enterLoop fn tmps ps assign body rd).run P w=.ok (l,mark) w1/\w.heap.size<=l/\l<w1.heap.size/\w1.heap[l]?=some (.loop {state:=.ready,pending:=none,fn:=fn,tmps:=tmps,params:=ps,assign:=assign,body:=body,defers:=df})/\
   (∀b,b<w.heap.size->w1.heap[b]?=w.heap[b]?)/\mark.Nodup/\(∀d∈mark,∃D,d={target:=.collected D,args:= #[]}/\w.heap.size<=D/\D<w1.heap.size/\w1.heap[D]?=some (.deferred (some [])))/\Qf fr ro w ro w1:=by
 have evo:∀w1:World,(∀b,b<w.heap.size->w1.heap[b]?=w.heap[b]?)->w.heap.size<=w1.heap.size->w1.os=w.os->w1.tape=w.tape->w1.output=w.output->w1.drawn=w.drawn->Qf fr ro w ro w1:=by
  intro w1 h1 h2 h3 h4 h5 h6
  refine⟨fun _ q=>q,fun b q=>h1 b (hro b q),fun b q=>h1 b (hfr b q),h2,fun b x q=>?_,h3,h4,h5,by rw[h6];exact Nat.le_refl _⟩
  have hb:b<w.heap.size:=by
   rcases Nat.lt_or_ge b w.heap.size with z|z
   ·exact z
   ·unfold World.shape? at q;rw[Array.getElem?_eq_none (by simpa using z)]at q;cases q
  unfold World.shape? at q⊢;rw[h1 b hb];exact q
 cases rd with
 |none=>
  have hold:∀b,b<w.heap.size->((w.alloc (.deferred (some []))).alloc (.loop {state:=.ready,pending:=none,fn:=fn,tmps:=tmps,params:=ps,assign:=assign,body:=body,defers:=w.heap.size})).heap[b]?=w.heap[b]? :=fun b hb=>
   (Qbt (by simp;omega)).trans (Qbt hb)
  refine⟨_,_,_,w.heap.size,run_enterLoop_outer fn tmps ps assign body,by omega,by simp,?_,hold,by simp,?_,evo _ hold (by simp;omega) rfl rfl rfl rfl⟩
  ·have:=World.alloc_heap_new (w.alloc (.deferred (some []))) (.loop {state:=.ready,pending:=none,fn:=fn,tmps:=tmps,params:=ps,assign:=assign,body:=body,defers:=w.heap.size})
   rwa [World.size_alloc]at this
  ·intro d hd
   obtain rfl:=List.mem_singleton.1 hd
   exact⟨_,rfl,Nat.le_refl _,by simp;omega,(Qbt (by simp)).trans (World.alloc_heap_new w _)⟩
 |some l0=>
  obtain⟨_,r0,h0⟩:=hrd l0 rfl
  have hold:∀b,b<w.heap.size->(w.alloc (.loop {state:=.ready,pending:=none,fn:=fn,tmps:=tmps,params:=ps,assign:=assign,body:=body,defers:=r0.defers})).heap[b]?=w.heap[b]? :=fun b hb=>Qbt hb
  exact⟨_,_,_,r0.defers,run_enterLoop_inner h0 fn tmps ps assign body,Nat.le_refl _,by simp,World.alloc_heap_new w _,hold,List.nodup_nil,(fun d hd=>absurd hd List.not_mem_nil),evo _ hold (by simp) rfl rfl rfl rfl⟩
theorem TC.rangeFunc{P:Program}{h0 N:Nat}{gop:Operand}{ps:List Nat}{assign body:Code}{env:Env}{H:Qc}{Q:Qz}{f:FuncId}{caps capc:List A}{Hc:Qc}{T S:Type}{enc:T->List A}{nx:List T->T->List T->Prop}{xs:List T}
  (π:List Nat)(Hp:S->Qc)(V:S->List T->Prop)(s0:S)(hh:h0<=H.length)(hg:opA env gop=.fn (.func f) [] caps)(hargs:caps=Qaa (rho π H.length) capc)(hH:π.map (fun p=>H[p]?)=(Hc.map (QN (rho π H.length))).map some)(hπ:π.Nodup)
  (hps:(ps.all fun p=>Nat.blt p N)=true)(eg:∀args w,(callFunc f args).run P w=.ok (.enter f args) w)(hseq:QcM P f capc Hc enc nx xs)(hlen:∀x,(enc x).length=ps.length)
  (hle:Le H.length env (QcB H π) env (Hp s0))(hV:V s0 xs)
  (hbody:∀s l x rem,V s l->nx l x rem->TC P H.length N assign (QhU ps (enc x) env) (Hp s) fun e env1 H1=>e=.normal/\TC P H.length N body env1 H1 (Qga H.length env Q fun H2=>∃s',V s' rem/\H2=Hp s'))
  (hdone:∀s,V s []->Q .normal env (Hp s)):TC P h0 N (.rangeFunc gop ps.toArray assign body) env H Q:=by
 intro rd fr ro σ a w r hrd
 have hv:=Qg r gop
 rw[hg]at hv
 obtain⟨l1,capv,hv,hl1,hcap⟩:=hv
 obtain rfl:l1=[]:=hl1
 refine wpIn_rangeFunc ?_
 intro fn hfn
 obtain⟨l,mark,w1,df,he,hl,hl',hrec,hold,hmn,hmk,ev1⟩:=QiQ (P:=P) (fn:=fn) (tmps:=a.tmps) (ps:=ps.toArray) (assign:=assign) (body:=body) (ro:=ro) hrd r.sim.roLt r.sim.frLt
 have s1:=r.sim.beside ev1 hold
 let D:Fix:=⟨fr,ro,σ,w,H.length,env,a.tmps,mark++a.defers,l,(fun st pe=>{state:=st,pending:=pe,fn:=fn,tmps:=a.tmps,params:=ps.toArray,assign:=assign,body:=body,defers:=df}),(fun b=>fr b\/(w.heap.size<=b/\b<w1.heap.size))⟩
 have hfrl:¬fr l:=fun q=>by have:=r.sim.frLt l q;omega
 have hD:D.Ok:=⟨fun b q=>.inl q,.inr ⟨hl,hl'⟩,hfrl,r.sim.len⟩
 have hmarks:Qcf D.fr1 (mark++a.defers) w1:=by
  refine⟨List.nodup_append.2 ⟨hmn,r.defers.1,fun d hd d' hd' e=>?_⟩,fun d hd=>?_⟩
  ·subst e
   obtain⟨B,e1,e2,_⟩:=hmk d hd
   obtain⟨B',e1',e2',_⟩:=r.defers.2 d hd'
   rw[e1]at e1'
   have:B=B':=by simpa using e1'
   subst this
   have:=r.sim.frLt B e2'
   omega
  ·rcases List.mem_append.1 hd with hd|hd
   ·obtain⟨B,e1,e2,e3,e4⟩:=hmk d hd
    exact⟨B,e1,.inr ⟨e2,e3⟩,e4⟩
   ·obtain⟨B,e1,e2,e3⟩:=(r.defers.keep ev1).2 d hd
    exact⟨B,e1,.inl e2,e3⟩
 obtain⟨sp,hσc⟩:=s1.part hH hπ
 have hcapc:LR ro (QW σ π) w1 capc capv:=(Qa5 hσc).1 (hargs▸hcap.mono (ev1.ext0 σ))
 let frX:Nat->Prop:=fun b=>D.fr1 b\/(∃(j:Nat) (x:Blk),(QW σ π)[j]?=some (some b)/\Hc[j]?=some x/\x.live=true)\/ ∃(j:Nat) (x:Blk) (d:Nat),(QW σ π)[j]?=some (some d)/\Hc[j]?=some x/\Hid w1 x d b
 have sX:Sim frX ro σ (QcB H π) w1:=by
  refine(Qct π s1).frames (fun b q=>?_) (fun b q r=>?_) (fun i b x q1 q2 q3 r=>?_) (fun i b x c q1 q2 q3 r=>?_)
  ·rcases q with q|⟨j,x,q1,q2,q3⟩|⟨j,x,d,q1,q2,q3⟩
   ·exact s1.frLt b q
   ·exact(sp.own j b x q1 q2 q3).1
   ·exact(sp.hid j d x b q1 q2 q3).lt
  ·rcases r with r|⟨j,x,q1,q2,q3⟩|⟨j,x,d,q1,q2,q3⟩
   ·exact s1.roFr b q r
   ·exact(sp.own j b x q1 q2 q3).2.1 q
   ·exact(sp.hid j d x b q1 q2 q3).ro q
  ·rcases Qdh _ _ _ _ q2 with rfl|⟨q2,hi⟩
   ·cases q3
   ·rcases r with r|⟨j,y,p1,p2,p3⟩|⟨j,y,d,p1,p2,p3⟩
    ·exact(s1.own i b x q1 q2 q3).2.2 r
    ·exact(sp.own j b y p1 p2 p3).2.2 (.inr (.inl ⟨i,x,q1,q2,q3,hi (Qa6 q3)⟩))
    ·exact(sp.hid j d y b p1 p2 p3).fr (.inr (.inl ⟨i,x,q1,q2,q3,hi (Qa6 q3)⟩))
  ·rcases Qdh _ _ _ _ q2 with rfl|⟨q2,hi⟩
   ·exact q3.elim
   ·rcases r with r|⟨j,y,p1,p2,p3⟩|⟨j,y,d,p1,p2,p3⟩
    ·exact(s1.hid i b x c q1 q2 q3).fr r
    ·exact(sp.own j c y p1 p2 p3).2.2 (.inr (.inr ⟨i,x,b,q1,q2,q3,hi q3.holds⟩))
    ·exact(sp.hid j d y c p1 p2 p3).fr (.inr (.inr ⟨i,x,b,q1,q2,q3,hi q3.holds⟩))
 have rX:Rel frX ro σ (QcB H π) env N {a with defers:=mark++a.defers} w1:=
  ⟨sX,fun s=>(r.env s).mono (ev1.ext0 σ),r.size,hmarks.1,fun d hd=>let⟨B,e1,e2,e3⟩:=hmarks.2 d hd;⟨B,e1,.inl e2,e3⟩⟩
 obtain⟨ro',σ',r',hsub,htk⟩:=hle frX ro σ N _ w1 rX
 have hσt:σ.take H.length=σ:=by rw[<- r.sim.len,List.take_length]
 let g0:Nat->Prop:=fun b=>D.fr1 b\/(ro' b/\ ¬ro b)\/(∃(i:Nat) (x:Blk),σ'[i]?=some (some b)/\(Hp s0)[i]?=some x/\x.live=true)\/ ∃(i:Nat) (x:Blk) (d:Nat),σ'[i]?=some (some d)/\(Hp s0)[i]?=some x/\Hid w1 x d b
 have j0:RJ D ro' σ' (Hp s0) .ready none ro g0 w1:=by
  refine⟨r'.sim.frMono fun b q=>.inl q,fun t=>(r.env t).mono ⟨hsub,ev1.keepRo,ev1.shape,fun _ _ q=>q⟩,htk.trans hσt,ev1.trans (Ya hsub),hmarks,hrec,fun b q=>?_,fun b q=>.inl q,fun i b x q1 q2 q3=>.inr (.inr (.inl ⟨i,x,q1,q2,q3⟩)),fun i b x c q1 q2 q3=>.inr (.inr (.inr ⟨i,x,b,q1,q2,q3⟩)),fun b q=>?_⟩
  ·by_cases z:ro b
   ·exact .inl z
   ·exact .inr (.inr (.inl ⟨q,z⟩))
  ·rcases q with q|q|⟨i,x,q1,q2,q3⟩|⟨i,x,d,q1,q2,q3⟩
   ·exact s1.frLt b q
   ·exact r'.sim.roLt b q.1
   ·exact(r'.sim.own i b x q1 q2 q3).1
   ·exact(r'.sim.hid i d x b q1 q2 q3).lt
 have sI:Sim g0 ro (QW σ π) Hc w1:=by
  refine sp.frames (fun b q=>j0.lt b q) (fun b q z=>?_) (fun j b x q1 q2 q3 z=>?_) (fun j b x c q1 q2 q3 z=>?_)
  ·rcases z with z|z|⟨i,x,q1,q2,q3⟩|⟨i,x,d,q1,q2,q3⟩
   ·exact s1.roFr b q z
   ·exact z.2 q
   ·exact(r'.sim.own i b x q1 q2 q3).2.1 (hsub b q)
   ·exact(r'.sim.hid i d x b q1 q2 q3).ro (hsub b q)
  ·have hX:frX b:=.inr (.inl ⟨j,x,q1,q2,q3⟩)
   rcases z with z|z|⟨i,y,p1,p2,p3⟩|⟨i,y,d,p1,p2,p3⟩
   ·exact(sp.own j b x q1 q2 q3).2.2 (.inl z)
   ·exact r'.sim.roFr b z.1 hX
   ·exact(r'.sim.own i b y p1 p2 p3).2.2 hX
   ·exact(r'.sim.hid i d y b p1 p2 p3).fr hX
  ·have hX:frX c:=.inr (.inr ⟨j,x,b,q1,q2,q3⟩)
   rcases z with z|z|⟨i,y,p1,p2,p3⟩|⟨i,y,d,p1,p2,p3⟩
   ·exact(sp.hid j b x c q1 q2 q3).fr (.inl z)
   ·exact r'.sim.roFr c z.1 hX
   ·exact(r'.sim.own i c y p1 p2 p3).2.2 hX
   ·exact(r'.sim.hid i d y c p1 p2 p3).fr hX
 let X:Ctx T:={l:=l,J:=fun rem q g W=>∃s ro1 σ1,V s rem/\RJ D ro1 σ1 (Hp s) .ready none q g W,Jx:=fun _ q g W=>∃H2 c ro1 σ1,Jump Q env c H2/\RJ D ro1 σ1 H2 .done (some c) q g W,enc:=enc,nx:=nx}
 have hpsN:∀p∈ps,p<N:=fun p hp=>by simpa using List.all_eq_true.1 hps p hp
 have hX:X.ok P:=by
  refine⟨⟨fun rem q g W W' ro' ⟨s,ro1,σ1,h1,h2⟩ he=>⟨s,ro1,σ1,h1,h2.step hD he⟩,fun rem q g g' W ⟨s,ro1,σ1,h1,h2⟩ hg hl=>⟨s,ro1,σ1,h1,h2.up hg hl⟩⟩,
   ⟨fun rem q g W W' ro' ⟨H2,c,ro1,σ1,h1,h2⟩ he=>⟨H2,c,ro1,σ1,h1,h2.step hD he⟩,fun rem q g g' W ⟨H2,c,ro1,σ1,h1,h2⟩ hg hl=>⟨H2,c,ro1,σ1,h1,h2.up hg hl⟩⟩,?_⟩
  rintro lr x rem q g ri W vs hnx ⟨s,ro1,σ1,h1,h2⟩ hq hI hvs
  obtain⟨fn',tm,as',bd',y1,y2⟩:=RJ.round (D:=D) (Q:=Q) (K:=fun H2=>∃s',V s' rem/\H2=Hp s') hD rfl r.size hpsN (hlen x) hq hI hvs h2 (hbody s lr x rem h1 hnx)
  refine⟨fn',tm,as',bd',y1,RoundIn.mono y2 ?_⟩
  rintro e W' ⟨g',k1,k2⟩
  refine⟨g',ri,fun _ z=>z,k1,?_⟩
  rcases k2 with⟨rfl,H2,ro2,σ2,⟨s',hs',rfl⟩,k3⟩|⟨rfl,H2,c,ro2,σ2,k3,k4⟩
  ·exact .inl ⟨rfl,s',ro2,σ2,hs',k3⟩
  ·exact .inr ⟨rfl,H2,c,ro2,σ2,k3,k4⟩
 have hres:∀(ev:Operand->Value),ev gop=.func (.func f) #[] capv.toArray->ev (.const (.func (.yield l) #[] #[]))=.func (.yield l) #[] #[]->(resolve ev (rangeCall gop l) 0).run P w1=.ok {target:=.fn (.func f) capv.toArray,args:= #[.func (.yield l) #[] #[]]} w1:=by
  intro ev h1 h2
  simp[resolve,go_sem,h1,h2]
 refine⟨l,mark,w1,{target:=.fn (.func f) capv.toArray,args:= #[.func (.yield l) #[] #[]]},w1,f, #[.func (.yield l) #[] #[]]++capv.toArray,w1,he,hres a.eval hv rfl,fun _ _=>trivial,by simp[invoke,go_sem,eg],fun h=>by simp[WF,Fence.wide]at h,?_⟩
 refine WF.calls.2 ?_
 have hcall:=hseq X rfl rfl hX g0 ro (QW σ π) w1 capv ro sI (fun _ z=>z) hcapc ⟨s0,ro',σ',hV,j0⟩
 have eargs:(#[.func (.yield l) #[] #[]]++capv.toArray:Array Value)=((Value.func (.yield X.l) #[] #[]::capv)).toArray:=by simp[X]
 rw[eargs]
 refine Calls.mono hcall ?_
 rintro e W' ⟨⟨v,rfl⟩,g2,qz,hg2,hend⟩
 have fin:∀(H2:Qc) (st:LoopState) (pe:Option Code) (ro2:Nat->Prop) (σ2:Sig),st≠ .busy->RJ D ro2 σ2 H2 st pe qz g2 W'->∃w4,(Instr.endLoop l).run P W'=.ok pe w4/\Rel D.fr1 ro2 σ2 H2 env N {a with defers:=mark++a.defers} w4/\Qf fr ro w ro2 w4:=by
  intro H2 st pe ro2 σ2 hst j
  refine⟨_,run_endLoop j.rc (by exact hst),?_⟩
  obtain⟨s5,ev5⟩:=j.sim.put (obj:=.loop {(D.rc st pe)with state:=.exhausted}) hD.l1 (QaY j.rc)
  have hr:=j.rc
  refine⟨⟨s5,fun t=>((j.env t).mono ⟨fun _ q=>q,fun _ _=>rfl,fun _ _ q=>q,fun i b q=>Qcw j.sig q⟩).mono (ev5.ext0 σ2),r.size,j.marks.1,fun d hd=>?_⟩,j.ev.trans (ev5.frMono fun b q e=>hfrl (by have e':b=l:=e;rw[<- e'];exact q))⟩
  obtain⟨B,e1,e2,e3⟩:=j.marks.2 d hd
  refine⟨B,e1,e2,(ev5.keepFr B (fun e=>?_)).trans e3⟩
  subst e;rw[hr]at e3;cases e3
 have hgr:Grow fr w a.defers D.fr1 (mark++a.defers):=by
  refine⟨fun b q=>.inl q,fun b q=>q.imp id (fun q=>q.1),fun d hd=>?_⟩
  rcases List.mem_append.1 hd with hd|hd
  ·obtain⟨B,e1,e2,_⟩:=hmk d hd
   exact .inr ⟨B,e1,e2⟩
  ·exact .inl hd
 have hts:∀{σ2:Sig},σ2.take H.length=σ->σ2.take h0=σ.take h0:=by
  intro σ2 h
  have:=congrArg (List.take h0) h
  rwa [List.take_take,Nat.min_eq_left hh]at this
 rcases hend with⟨s,ro2,σ2,h1,h2⟩|⟨rem,H2,c,ro2,σ2,h1,h2⟩
 ·obtain⟨w4,f1,f2,f3⟩:=fin _ _ _ ro2 σ2 (by intro e;cases e) h2
  exact⟨none,w4,f1,.normal,env,_,ro2,σ2,_,rfl,hdone s h1,f2,f3,hts h2.sig,hgr⟩
 ·obtain⟨w4,f1,f2,f3⟩:=fin _ _ _ ro2 σ2 (by intro e;cases e) h2
  refine⟨some c,w4,f1,?_⟩
  have hc:TC P h0 N c env H2 Q:=by
   rcases h1 with⟨id,rfl,h1⟩|⟨rfl,h1⟩
   ·exact TC.exit h1
   ·exact TC.ret h1
  exact Code.wpIn_mono (fun e a w q=>q.grow f3 (hts h2.sig) hgr) (hc rd D.fr1 ro2 σ2 _ w4 f2 (hrd.to f3 fun b q=>.inl q))
end Go.Sw
namespace Go.Sw
theorem QfI{h0 i k t T:Nat}{env:Env}{H:Qc}(hh:Nat.ble h0 H.length=true)(hH:H[i]?=some (.cells T [.nils])):Le h0 env H env (H.set i (.cells T [.osl H.length 0 0 k])++[.row t k []]):=by
 intro fr ro σ N a w r
 have hh':h0<=H.length:=Nat.le_of_ble_eq_true hh
 have hi:i<H.length:=(List.getElem?_eq_some_iff.1 hH).1
 have ext:Ext ro σ w ro (σ++[none]) w:=⟨fun _ q=>q,fun _ _=>rfl,fun _ _ q=>q,fun _ _ h=>YN h⟩
 have s:=r.sim.phantom t k
 have hi':(H++[Blk.row t k []])[i]?=some (.cells T [.nils]):=by rw[List.getElem?_append_left hi];exact hH
 have e0:H.set i (.cells T [.osl H.length 0 0 k])++[.row t k []]=(H++[Blk.row t k []]).set i (.cells T [.osl H.length 0 0 k]):=by
  rw[List.set_append_left _ _ hi]
 have hcase:∀(j:Nat) (v:Blk),((H++[Blk.row t k []]).set i (.cells T [.osl H.length 0 0 k]))[j]?=some v->(j=i/\v=.cells T [.osl H.length 0 0 k])\/(j≠i/\(H++[Blk.row t k []])[j]?=some v):=by
  intro j v h
  by_cases e:j=i
  ·subst e
   rw[List.getElem?_set_self (by simp;omega)]at h
   exact .inl ⟨rfl,by simpa using h.symm⟩
  ·rw[List.getElem?_set_ne (fun q=>e q.symm)]at h
   exact .inr ⟨e,h⟩
 have hcase2:∀(j:Nat) (v:Blk),((H++[Blk.row t k []]).set i (.cells T [.osl H.length 0 0 k]))[j]?=some v->v.live=true->∃v',(H++[Blk.row t k []])[j]?=some v'/\v'.live=true:=by
  intro j v h hv
  rcases hcase j v h with⟨rfl,rfl⟩|⟨_,h⟩
  ·exact⟨_,hi',rfl⟩
  ·exact⟨v,h,hv⟩
 refine⟨ro,σ++[none],⟨?_,fun q=>(r.env q).mono ext,r.size,r.defers⟩,fun _ q=>q,QK (by rw[r.sim.len];exact hh')⟩
 rw[e0]
 refine⟨by rw[List.length_set];exact s.len,s.roOk,s.frLt,s.roFr,fun j b v q1 q2 q3=>?_,fun j j' b v v' q1 q2 q3 q4 q5 q6=>?_,fun j y v q1 q2=>?_,
  s.hidTo (· = ·) QP (Nat.le_refl _) (fun _ _ _ _ _ _ _ q=>q) (fun _ _ _ _ _ _ _ q=>q) fun j d y g1 g2 g3=>.inl ?_⟩
 rotate_left 3
 ·rcases hcase j y g2 with⟨rfl,rfl⟩|⟨_,h⟩
  ·exact⟨j,_,rfl,g1,hi',fun _=>rfl,fun _ q=>q.elim⟩
  ·exact⟨j,y,rfl,g1,h,id,fun _ q=>q⟩
 ·obtain⟨v',g1,g2⟩:=hcase2 j v q2 q3
  exact s.own j b v' q1 g1 g2
 ·obtain⟨x,g1,g2⟩:=hcase2 j v q3 q5
  obtain⟨x',g1',g2'⟩:=hcase2 j' v' q4 q6
  exact s.inj j j' b x x' q1 q2 g1 g1' g2 g2'
 ·rcases hcase j v q2 with⟨rfl,rfl⟩|⟨_,h⟩
  ·have:=s.blk j y _ q1 hi'
   cases y with
   |none=>exact this
   |some b=>
    obtain⟨l,g1,⟨v1,l1,rfl,g2,g3⟩,g4⟩:=this
    refine⟨_,g1,⟨v1,l1,rfl,.inl ⟨rfl,g2⟩,?_⟩,g4⟩
    obtain rfl:l1=[]:=g3
    rfl
  ·exact s.blk j y v q1 h
theorem Qj4{h0 i:Nat}{env:Env}{H:Qc}{es:List (A×A)}(hH:H[i]?=some (.map es)):Le h0 env H env (H.set i (.fmap es)):=by
 intro fr ro σ N a w r
 have hs:∃s,σ[i]?=some s:=by
  have:i<σ.length:=by rw[r.sim.len];exact(List.getElem?_eq_some_iff.1 hH).1
  exact⟨_,List.getElem?_eq_getElem this⟩
 obtain⟨s,hs⟩:=hs
 cases s with
 |none=>exact(r.sim.blk i _ _ hs hH).elim
 |some b=>
  refine⟨_,σ,⟨r.sim.shutMap hs hH,fun q=>(r.env q).mono ⟨fun _ q=>.inl q,fun _ _=>rfl,fun _ _ q=>q,fun _ _ q=>q⟩,r.size,r.defers⟩,fun _ q=>.inl q,rfl⟩
def anyN{T:Type}(l:List T)(x:T)(rem:List T):Prop:=l.Perm (x::rem)
def Qi0(ts te:Nat)(ld:Op):Code:=.block 1 (.region 3 #[{dst:=some 8,op:=.load ts (.tmp 2),type:=ts,pos:="iter.go:52",after:= #[],guard:=none},{dst:=some 9,op:=ld,type:=te,pos:="iter.go:52",after:= #[],guard:=none},
 {dst:=some 10,op:=.buildSlice ts 1 #[(0,.tmp 9)],type:=ts,pos:="iter.go:52",after:= #[{on:=1,ground:=.data}],guard:=none},
 {dst:=some 11,op:=.call {callee:=.builtin .append,args:= #[.tmp 8,.tmp 10],argTypes:= #[ts,ts]},type:=ts,pos:="iter.go:52",after:= #[{on:=0,ground:=.data},{on:=2,ground:=.data}],guard:=none},
 {dst:=none,op:=.store ts (.tmp 2) (.tmp 11),type:=0,pos:="iter.go:52",after:= #[{on:=3,ground:=.data},{on:=3,ground:=.chain},{on:=0,ground:=.phase},{on:=1,ground:=.phase},{on:=2,ground:=.phase},{on:=3,ground:=.phase}],guard:=none}] false)
def QkT(ts tq te:Nat)(asg:Code)(ld:Op):Code:=(Code.region 0 #[{dst:=some 2,op:=.box ts (.tmp 0),type:=0,pos:="iter.go:50",after:= #[],guard:=none},{dst:=some 4,op:=.assign (.const (.slice none 0 0)),type:=ts,pos:="iter.go:50",after:= #[],guard:=none}] false).seq
 (((Code.region 1 #[{dst:=some 6,op:=.move (.tmp 1),type:=tq,pos:="iter.go:51",after:= #[],guard:=none}] false).seq (.block 0 (.rangeFunc (.tmp 6) #[7] asg (Qi0 ts te ld)))).seq
  ((Code.region 4 #[{dst:=some 12,op:=.load ts (.tmp 2),type:=ts,pos:="iter.go:54",after:= #[],guard:=none},{dst:=some 4,op:=.assign (.tmp 12),type:=ts,pos:="iter.go:54",after:= #[{on:=0,ground:=.data},{on:=0,ground:=.phase}],guard:=none}] false).seq .ret))
def QkU(te:Nat):Code:=.region 2 #[{dst:=some 5,op:=.assign (.tmp 7),type:=te,pos:="iter.go:51",after:= #[],guard:=none}] false
section
variable {P:Program}{T:Type}{ts tq te k tm:Nat}{g:FuncId}{es:List (A×A)}{e:T->List A}{ea:T->A}{xs:List T}
abbrev apH(ts te k tm:Nat)(es:List (A×A))(e:T->List A)(done:List T):Qc:=[.dead,.fmap es,.cells ts [.osl 3 0 done.length k],.row te k (done.map e)]
abbrev apE(g:FuncId):Env:=[(6,.fn (.func g) [] [.ptr 0 0]),(4,.nils),(2,.ptr 2 0),(0,.nils),(1,.fn (.func g) [] [.ptr 0 0])]
theorem QjX{N:Nat}(hN:N=13){done:List T}{x:T}{env:Env}{H:Qc}{K:Qc->Prop}{ld:Op}(E:QQ P ts te k)(ha:∀w,(isAgg ts).run P w=.ok false w)(hz:∀w,(sizeOf ts).run P w=.ok 1 w)(hb:app done [x]=some (done++[x]))
  (hk:(e x).length=k)(hka:Nat.ble k 16777216=true)(hkn:Q4 (ea x)=true)(hcs:QU (ea x)=e x)(hpl:(e x).all Ye=true)(hd:Q6 (e x)=true)(hL:Nat.ble 3 H.length=true)
  (h2:lk env 2=.ptr 2 0)(hc:H[2]?=some (.cells ts [.osl 3 0 done.length k]))(hr:H[3]?=some (.row te k (done.map e)))
  (hld:∀env',(∀s,s≠8->lk env' s=lk env s)->∀pos,OpV P {dst:=some 9,op:=ld,type:=te,pos:=pos,after:= #[],guard:=none} env' H (ea x))
  (hK:∀env',∃H2,Le 3 env' (((((H++[Blk.row te k [e x]]).set 3 .dead)++[Blk.row te k ((done++[x]).map e)]).set 2 (.cells ts [.osl (H.length+1) 0 (done++[x]).length k]))) [] H2/\K H2){env0:Env}{Q:Qz}:
  TC P 3 N (Qi0 ts te ld) env H (Qga 3 env0 Q K):=by
 subst hN
 have hL':3<=H.length:=Nat.le_of_ble_eq_true hL
 have h3:3<H.length:=(List.getElem?_eq_some_iff.1 hr).1
 refine TC.block (TC.region ?_)
 refine Qy rfl rfl rfl (OpV.load (v:=.osl 3 0 done.length k) (cs:=[]) rfl ha h2 (Pts.cells hc rfl)) ?_
 refine Qy rfl rfl rfl (x:=ea x) ?_ ?_
 ·refine hld _ (fun s hs=>?_) _
  simp only[up,lk]
  have:Nat.beq s 8=false:=by
   rw[Bool.eq_false_iff]
   intro q
   exact hs (Nat.eq_of_beq_eq_true q)
  rw[this];rfl
 refine QbQ (by omega) rfl rfl rfl (OpH.lit (xs:=[.tmp 9]) (es:=[e x]) E rfl rfl (by simpa using hka) ?_ ?_ ⟨hk,trivial⟩ (by simpa using hpl) (by simpa using hd)) ?_
 ·simp[opA,lk,up,hkn]
 ·simp[Q1,opA,lk,up,hcs]
 refine QbQ (x:=.osl (H.length+1) 0 (done++[x]).length k) (H':=((H++[Blk.row te k [e x]]).set 3 .dead)++[Blk.row te k ((done++[x]).map e)]) (by simp;omega) rfl rfl rfl ?_ ?_
 ·have:=QO (P:=P) (o:={dst:=some 11,op:=.call {callee:=.builtin .append,args:= #[.tmp 8,.tmp 10],argTypes:= #[ts,ts]},type:=ts,pos:="iter.go:52",after:= #[{on:=0,ground:=.data},{on:=2,ground:=.data}],guard:=none})
   (env:=up (up (up env 8 (.osl 3 0 done.length k)) 9 (ea x)) 10 (.osl H.length 0 1 k)) (H:=H++[Blk.row te k [e x]]) (x:=.tmp 8) (y:=.tmp 10) (e:=e) (m:=[x]) (i:=3) (n:=done.length) (ya:=.osl H.length 0 1 k) hb E E.sl (Yw (t:=te) (by simp) rfl) rfl rfl rfl rfl (by rw[List.getElem?_append_left h3];exact hr) rfl
  simpa using this
 refine Qf7 (by simp;omega) rfl rfl (OpU.store (i:=2) (off:=0) (T:=ts) (n:=1) (cs:=[.osl 3 0 done.length k]) (vs:=[.osl (H.length+1) 0 (done++[x]).length k]) (cs':=[.osl (H.length+1) 0 (done++[x]).length k]) (v:=.osl (H.length+1) 0 (done++[x]).length k) rfl ?_ ?_ hz rfl rfl rfl rfl rfl rfl rfl) ?_
 ·exact h2
 ·have h2l:2<H.length:=by omega
  rw[List.getElem?_append_left (by simp;omega),List.getElem?_set_ne (by decide),List.getElem?_append_left h2l];exact hc
 ·refine WO.nil ?_
  exact hK _
theorem QiZ{xs done l rem:List T}{x:T}(hl:Nat.ble xs.length QV=true)(hV:(done++l).Perm xs)(hn:l.Perm (x::rem)):app done [x]=some (done++[x])/\((done++[x])++rem).Perm xs:=by
 have h1:=hV.length_eq
 have h2:=hn.length_eq
 have h3:=Nat.le_of_ble_eq_true hl
 simp at h1 h2
 refine⟨?_,?_⟩
 ·unfold app
  have:Nat.ble (done.length+[x].length) QV=true:=Nat.ble_eq_true_of_le (by simp;omega)
  rw[this];rfl
 ·refine List.Perm.trans ?_ hV
  simp only[List.append_assoc,List.singleton_append]
  exact(List.Perm.append_left done hn).symm
theorem Qep{fA:FuncId}{fn:Func}(hf:P.funcs[fA]?=some fn)(hb:fn.body=some (QkT ts tq te (QkU te) (.move (.tmp 5))))(hN:fn.ntmps=13)(hR:fn.results= #[.tmp 4])(E:QQ P ts te 1)(ha:∀w,(isAgg ts).run P w=.ok false w)(hz:∀w,(sizeOf ts).run P w=.ok 1 w)
  (eg:∀args w,(callFunc g args).run P w=.ok (.enter g args) w)(hseq:QcM P g [.ptr 0 0] [.cells tm [.map 1],.fmap es] (fun x=>[ea x]) anyN xs)(hl:Nat.ble xs.length QV=true)
  (hs:∀x,Qbh (ea x)=true)(hkn:∀x,Q4 (ea x)=true)(hcs:∀x,QU (ea x)=[ea x])(hpl:∀x,Ye (ea x)=true)(hd:∀x,Q2 (ea x)=true):
  C P fA [.nils,.fn (.func g) [] [.ptr 0 0]] [.cells tm [.map 1],.fmap es] (fun r H1=>∃p:List T,p.Perm xs/\r=.osl 2 0 p.length 1/\H1=[.dead,.fmap es,.row te 1 (p.map fun x=>[ea x])]):=by
 refine Qa hf hb hN rfl ?_
 refine TC.seq (TC.region ?_)
 refine QbQ (Nat.le_of_ble_eq_true rfl) rfl rfl rfl (OpH.box (v:=.nils) (cs:=[.nils]) rfl rfl rfl rfl rfl) ?_
 refine Qy rfl rfl rfl (OpV.assign (v:=.nils) rfl rfl) ?_
 refine WO.nil ?_
 refine TC.seq (TC.seq (TC.region ?_))
 refine Qy rfl rfl rfl (OpV.move (v:=.fn (.func g) [] [.ptr 0 0]) rfl rfl) ?_
 refine WO.nil ?_
 refine TC.block ?_
 refine TC.rangeFunc (env:=apE g) (ps:=[7]) (S:=List T) [0,1] (apH ts te 1 tm es (fun x=>[ea x])) (fun done l=>(done++l).Perm xs) [] (Nat.le_of_ble_eq_true rfl) rfl rfl rfl (by decide) rfl eg hseq (fun x=>rfl) ?_ (List.Perm.refl _) ?_ ?_
 ·exact QfI (h0:=3) (i:=2) (t:=te) (k:=1) (H:=[.dead,.fmap es,.cells ts [.nils]]) rfl rfl
 ·intro done l x rem hV hn
  obtain⟨h1,h2⟩:=QiZ hl hV hn
  refine TC.region (Qy rfl rfl rfl (OpV.assign (v:=ea x) rfl rfl) (WO.nil ⟨rfl,?_⟩))
  refine QjX (ea:=ea) rfl E ha hz h1 rfl rfl (hkn x) (hcs x) (by simp[hpl x]) (by simp[Q6,hd x]) rfl rfl rfl rfl ?_ ?_
  ·intro env' he pos
   exact OpV.move rfl (by show lk env' 5=ea x;rw[he 5 (by decide)];rfl)
  ·intro env'
   exact⟨_,Lr (H':=apH ts te 1 tm es (fun x=>[ea x]) (done++[x])) [0,1,2,5],_,h2,rfl⟩
 ·intro done hV
  rw[List.append_nil]at hV
  refine TC.seq (TC.region ?_)
  refine Qy rfl rfl rfl (OpV.load (v:=.osl 3 0 done.length 1) (cs:=[]) rfl ha rfl (Pts.cells rfl rfl)) ?_
  refine Qy rfl rfl rfl (OpV.assign (v:=.osl 3 0 done.length 1) rfl rfl) ?_
  refine WO.nil ?_
  refine TC.ret ?_
  exact⟨[(4,.osl 2 0 done.length 1)],[.dead,.fmap es,.row te 1 (done.map fun x=>[ea x])],_,Lr [0,1,3],Qcb.one hR rfl,done,hV,rfl,rfl⟩
end
theorem TCy.le{T:Type}{X:Ctx T}{P:Program}{h0 N:Nat}{c:Code}{env env':Env}{H H':Qc}{st:YSt T}{Q:Yg T}(hle:Le h0 env H env' H')(h:TCy X P h0 N c env' H' st Q):TCy X P h0 N c env H st Q:=by
 intro hX rd fr ro σ a w g r hj hrd
 obtain⟨ro',σ',r',s,t⟩:=hle fr ro σ N a w r
 obtain⟨⟨q0,hq0,hj1⟩,hj2⟩:=hj
 exact Code.wpIn_mono (fun e a w q=>q.grow s (Nat.le_refl _) t (Grow.refl _ _ _)) (h hX rd fr ro' σ' a w g r' ⟨⟨q0,fun b z=>s b (hq0 b z),hj1⟩,hj2⟩ hrd)
mutual
theorem Qe5:∀{a:A},Qbh a=true->Q2 a=true
 |.any,_=>rfl
 |.bool _,_=>rfl
 |.int _ _,_=>rfl
 |.str _,_=>rfl
 |.nilp,_=>rfl
 |.ptr _ _,h=>by simp[Qbh]at h
 |.rp _,_=>rfl
 |.nils,_=>rfl
 |.rsl _ _,_=>rfl
 |.osl _ _ _ _,h=>by simp[Qbh]at h
 |.agg cs,h=>by simp only[Qbh]at h;simp only[Q2];exact QdY h
 |.fn _ a c,h=>by simp[Qbh]at h
 |.nilf,_=>rfl
 |.iface _ v,h=>by simp[Qbh]at h
 |.nilif,_=>rfl
 |.map _,h=>by simp[Qbh]at h
 |.nilm,_=>rfl
 |.tup vs,h=>by simp[Qbh]at h
theorem QdY:∀{l:List A},Qc4 l=true->Q6 l=true
 |[],_=>rfl
 |a::r,h=>by
  simp only[Qc4,Bool.and_eq_true]at h
  simp only[Q6,Bool.and_eq_true]
  exact⟨Qe5 h.1,QdY h.2⟩
end
theorem Qe1{P:Program}{o:Oper}{env:Env}{H:Qc}{y z:Operand}{l:Nat}{a:A}{ta:Array TypeId}(ho:o.op=.call {callee:=.value y,args:= #[z],argTypes:=ta})(hy:opA env y=.fn (.yield l) [] [])(hz:opA env z=a)(hs:Q2 a=true){N:Nat}:
  ∀fr ro σ act w,Rel fr ro σ H env N act w->∃vs:List Value,LR ro [] w [a] vs/\(execOp act.eval o).run P w=(Instr.yield l vs.toArray).run P w:=by
 intro fr ro σ act w r
 have h1:=Qg r y
 rw[hy]at h1
 obtain⟨l1,l2,h1,e1,e2⟩:=h1
 obtain rfl:l1=[]:=e1
 obtain rfl:l2=[]:=e2
 have h2:=Qg r z
 rw[hz]at h2
 refine⟨[act.eval z],⟨_,_,rfl,VR.data hs h2,rfl⟩,?_⟩
 generalize act.eval=ev at*
 simp[execOp,ho,resolve,invoke,go_sem,h1]
theorem QgU{P:Program}{o:Oper}{env:Env}{H:Qc}{y z1 z2:Operand}{l:Nat}{a1 a2:A}{ta:Array TypeId}(ho:o.op=.call {callee:=.value y,args:= #[z1,z2],argTypes:=ta})(hy:opA env y=.fn (.yield l) [] [])(hz1:opA env z1=a1)(hz2:opA env z2=a2)(hs1:Q2 a1=true)(hs2:Q2 a2=true){N:Nat}:
  ∀fr ro σ act w,Rel fr ro σ H env N act w->∃vs:List Value,LR ro [] w [a1,a2] vs/\(execOp act.eval o).run P w=(Instr.yield l vs.toArray).run P w:=by
 intro fr ro σ act w r
 have h1:=Qg r y
 rw[hy]at h1
 obtain⟨l1,l2,h1,e1,e2⟩:=h1
 obtain rfl:l1=[]:=e1
 obtain rfl:l2=[]:=e2
 have h2:=Qg r z1
 rw[hz1]at h2
 have h3:=Qg r z2
 rw[hz2]at h3
 refine⟨[act.eval z1,act.eval z2],⟨_,_,rfl,VR.data hs1 h2,_,_,rfl,VR.data hs2 h3,rfl⟩,?_⟩
 generalize act.eval=ev at*
 simp[execOp,ho,resolve,invoke,go_sem,h1]
def Qiq(tm tb ty tk:Nat)(asg:Array Oper)(ld:Op):Code:=
 (Code.region 0 #[{dst:=some 4,op:=.load tm (.tmp 1),type:=tm,pos:="iter.go:27",after:= #[],guard:=none},{dst:=some 5,op:=.range tm (.tmp 4),type:=0,pos:="iter.go:27",after:= #[{on:=0,ground:=.data}],guard:=none}] false).seq
 (.block 0 (Code.loop ((Code.region 1 #[{dst:=some 6,op:=.next (.tmp 5) false,type:=0,pos:="iter.go:27",after:= #[],guard:=none},{dst:=some 7,op:=.extract (.tmp 6) 0,type:=tb,pos:="iter.go:27",after:= #[{on:=0,ground:=.data}],guard:=none}] false).seq
  ((Code.cond (.tmp 7) .skip (.exit 0)).seq (.block 1 ((Code.region 2 asg false).seq
   ((Code.region 3 #[{dst:=some 10,op:=.move (.tmp 0),type:=ty,pos:="iter.go:28",after:= #[],guard:=none},{dst:=some 11,op:=ld,type:=tk,pos:="iter.go:28",after:= #[],guard:=none},
    {dst:=some 12,op:=.call {callee:=.value (.tmp 10),args:= #[.tmp 11],argTypes:= #[tk]},type:=tb,pos:="iter.go:28",after:= #[{on:=0,ground:=.data},{on:=1,ground:=.data}],guard:=none},
    {dst:=some 13,op:=.unOp .not tb (.tmp 12),type:=tb,pos:="iter.go:28",after:= #[{on:=2,ground:=.data}],guard:=none}] false).seq (.cond (.tmp 13) .ret .skip))))))))
def QkG(tk:Nat):Array Oper:= #[{dst:=some 8,op:=.entry (.tmp 5),type:=0,pos:="iter.go:27",after:= #[],guard:=none},{dst:=some 9,op:=.extract (.tmp 8) 0,type:=tk,pos:="iter.go:27",after:= #[{on:=0,ground:=.data}],guard:=none},
 {dst:=some 3,op:=.assign (.tmp 9),type:=tk,pos:="iter.go:27",after:= #[{on:=1,ground:=.data},{on:=0,ground:=.phase},{on:=1,ground:=.phase}],guard:=none}]
section
variable {P:Program}{K V:Type}{tm tb ty tk kt et:Nat}{ek:K->A}{ev:V->A}{m:List (K×V)}{T:Type}
abbrev kyE(l:Nat):Env:=[(0,.fn (.yield l) [] []),(1,.ptr 0 0),(5,.ptr 2 0)]
abbrev kyH(tm:Nat)(ek:K->A)(ev:V->A)(m l:List (K×V)):Qc:=[.cells tm [.map 1],.fmap (Qt ek ev m),.iter none (Qt ek ev l)]
theorem Qg3{g:FuncId}{fn:Func}{asg:Array Oper}{ld:Op}(hf:P.funcs[g]?=some fn)(hb:fn.body=some (Qiq tm tb ty tk asg ld))(hN:fn.ntmps=14)(hR:fn.results= #[])(ha:∀w,(isAgg tm).run P w=.ok false w)(hT:P.underlying tm=some (.map kt et))(hs:∀x,Qbh (ek x)=true)
  (round:∀(X:Ctx K) (e:K×V) (l:List (K×V)) (env:Env) (H:Qc) (st:YSt K) (Q:Yg K),lk env 0=.fn (.yield X.l) [] []->lk env 1=.ptr 0 0->lk env 5=.ptr 2 0->H=[.cells tm [.map 1],.fmap (Qt ek ev m),.iter (some (ek e.1,ev e.2)) (Qt ek ev l)]->
   (∀env' H',lk env' 0=.fn (.yield X.l) [] []->lk env' 1=.ptr 0 0->lk env' 5=.ptr 2 0->(∀env2 b,lk env2 0=.fn (.yield X.l) [] []->lk env2 1=.ptr 0 0->lk env2 5=.ptr 2 0->Le 2 (up (up env2 12 (.bool b)) 13 (.bool (!b))) H' (kyE X.l) (kyH tm ek ev m l))->
    (∀pos env2,(∀s,s≠10->lk env2 s=lk env' s)->OpV P {dst:=some 11,op:=ld,type:=tk,pos:=pos,after:= #[],guard:=none} env2 H' (ek e.1))->Nat.ble 2 H'.length=true->Q .normal env' H' st)->
   TCy X P 2 14 (.region 2 asg false) env H st Q):
  QcM P g [.ptr 0 0] [.cells tm [.map 1],.fmap (Qt ek ev m)] (fun x=>[ek x]) anyN (m.map Prod.fst):=by
 refine Qb9 hf hb hN rfl hR ?_
 intro X hE hNx
 refine TCy.seq (TCy.lift (TC.region ?_))
 refine Qy rfl rfl rfl (OpV.load (v:=.map 1) (cs:=[]) rfl ha rfl (Pts.cells rfl rfl)) ?_
 refine QbQ (Nat.le_of_ble_eq_true rfl) rfl rfl rfl (Qge hT) ?_
 refine WO.nil ?_
 refine TCy.block ?_
 refine Qei (I:=fun n env H st=>∃l:List (K×V),l.length=n/\st=.on (l.map Prod.fst)/\Le 2 env H (kyE X.l) (kyH tm ek ev m l)) ?_ ⟨m,rfl,rfl,Lr [0,1,2]⟩
 rintro n env H st ⟨l,hn,rfl,hle⟩
 refine TCy.le hle ?_
 refine TCy.seq (TCy.lift (TC.region ?_))
 refine Qi3 (Nat.le_of_ble_eq_true rfl) rfl rfl rfl (OpE.next rfl rfl rfl) ?_
 rintro v H' (⟨h1,rfl,rfl⟩|⟨e',es',h1,rfl,rfl⟩)
 ·have hl:l=[]:=List.map_eq_nil_iff.1 h1
  subst hl
  refine Qy rfl rfl rfl (OpV.extract (v:=.bool false) rfl rfl rfl) ?_
  refine WO.nil ?_
  refine TCy.seq (TCy.cond (t:=false) rfl (fun e=>by cases e) (fun _=>?_))
  exact TCy.exit ⟨.inl rfl,.inl rfl⟩
 ·obtain⟨l1,q1,q2⟩:=Qg2 h1 rfl
  cases l1 with
  |nil=>cases q2
  |cons e l'=>
   simp only[List.map_cons,List.cons.injEq]at q2
   obtain⟨rfl,rfl⟩:=q2
   have hlen:l'.length<n:=by rw[<- hn, <- q1.length_eq];simp
   refine Qy rfl rfl rfl (OpV.extract (v:=.bool true) rfl rfl rfl) ?_
   refine WO.nil ?_
   refine TCy.seq (TCy.cond (t:=true) rfl (fun _=>?_) (fun e=>by cases e))
   refine TCy.skip ?_
   refine TCy.block ?_
   refine TCy.seq (round X e l' _ _ _ _ rfl rfl rfl rfl ?_)
   intro env' H' g0 g1 g5 hfin hld hL
   refine TCy.seq (TCy.region ?_)
   refine WOy.step (Qy rfl rfl rfl (OpV.move (v:=.fn (.yield X.l) [] []) rfl g0) (WO.nil ⟨rfl,?_⟩))
   refine WOy.step (Qy rfl rfl rfl (x:=ek e.1) (hld _ _ fun s q=>?_) (WO.nil ⟨rfl,?_⟩))
   ·simp only[up,lk]
    have:Nat.beq s 10=false:=by rw[Bool.eq_false_iff];intro z;exact q (Nat.eq_of_beq_eq_true z)
    rw[this];rfl
   refine WOy.yield (x:=e.1) (rem:=l'.map Prod.fst) ?_ rfl rfl rfl ?_ ?_
   ·rw[hNx];exact q1.symm.map Prod.fst
   ·rw[hE]
    refine Qe1 (y:=.tmp 10) (z:=.tmp 11) (l:=X.l) (a:=ek e.1) rfl ?_ ?_ (Qe5 (hs _))
    ·rfl
    ·rfl
   ·intro b
    refine WOy.step (Qy rfl rfl rfl (OpV.not (b:=b) rfl rfl) (WO.nil ⟨rfl,?_⟩))
    refine WOy.nil ?_
    refine TCy.cond (t:= !b) rfl (fun q=>?_) (fun q=>?_)
    ·obtain rfl:b=false:=by simpa using q
     exact TCy.ret ⟨.inr rfl,.inr ⟨_,rfl⟩⟩
    ·obtain rfl:b=true:=by simpa using q
     refine TCy.skip ?_
     exact⟨_,hlen,l',rfl,rfl,hfin _ true g0 g1 g5⟩
theorem Qdx{g:FuncId}{fn:Func}(hf:P.funcs[g]?=some fn)(hb:fn.body=some (Qiq tm tb ty tk (QkG tk) (.move (.tmp 3))))(hN:fn.ntmps=14)(hR:fn.results= #[])(ha:∀w,(isAgg tm).run P w=.ok false w)(hT:P.underlying tm=some (.map kt et))(hs:∀x,Qbh (ek x)=true):
  QcM P g [.ptr 0 0] [.cells tm [.map 1],.fmap (Qt ek ev m)] (fun x=>[ek x]) anyN (m.map Prod.fst):=by
 refine Qg3 (et:=et) (kt:=kt) hf hb hN hR ha hT hs ?_
 intro X e l env H st Q g0 g1 g5 hH hk
 subst hH
 refine TCy.lift (TC.region ?_)
 refine Qy rfl rfl rfl (OpV.entry (e:=(ek e.1,ev e.2)) rfl g5 rfl) ?_
 refine Qy rfl rfl rfl (OpV.extract (v:=ek e.1) rfl rfl rfl) ?_
 refine Qy rfl rfl rfl (OpV.assign (v:=ek e.1) rfl rfl) ?_
 refine WO.nil ?_
 refine hk _ _ g0 g1 g5 ?_ ?_ rfl
 ·intro env2 b e0 e1 e5
  exact Le.trans (QhM (i:=2) (es:=Qt ek ev l) rfl rfl) (Lr [0,1,2] (hE:=⟨e0,e1,e5,trivial⟩))
 ·intro pos env2 he
  exact OpV.move rfl (by show lk env2 3=_;rw[he 3 (by decide)];rfl)
end
def QkQ(ts tq fA:Nat):Code:=(Code.region 0 #[{dst:=some 2,op:=.assign (.const (.slice none 0 0)),type:=ts,pos:="iter.go:59",after:= #[],guard:=none}] false).seq
 ((Code.region 1 #[{dst:=some 3,op:=.move (.tmp 0),type:=tq,pos:="iter.go:60",after:= #[],guard:=none},
  {dst:=some 4,op:=.call {callee:=.value (.func fA),args:= #[.const (.slice none 0 0),.tmp 3],argTypes:= #[ts,tq]},type:=ts,pos:="iter.go:60",after:= #[{on:=0,ground:=.data}],guard:=none},
  {dst:=some 2,op:=.assign (.tmp 4),type:=ts,pos:="iter.go:60",after:= #[{on:=1,ground:=.data},{on:=1,ground:=.chain},{on:=0,ground:=.phase},{on:=1,ground:=.phase}],guard:=none}] false).seq .ret)
theorem Qeo{P:Program}{T:Type}{ts tq te k tm:Nat}{g:FuncId}{es:List (A×A)}{e:T->List A}{xs:List T}{fC fA:FuncId}{fn:Func}(hf:P.funcs[fC]?=some fn)(hb:fn.body=some (QkQ ts tq fA))(hN:fn.ntmps=5)(hR:fn.results= #[.tmp 2])
  (hop:∀(env:Env) (H:Qc),lk env 3=.fn (.func g) [] [.ptr 0 0]->OpC P {dst:=some 4,op:=.call {callee:=.value (.func fA),args:= #[.const (.slice none 0 0),.tmp 3],argTypes:= #[ts,tq]},type:=ts,pos:="iter.go:60",after:= #[{on:=0,ground:=.data}],guard:=none} env H fA [.nils,.fn (.func g) [] [.ptr 0 0]])
  (hC:C P fA [.nils,.fn (.func g) [] [.ptr 0 0]] [.cells tm [.map 1],.fmap es] (fun r H1=>∃p:List T,p.Perm xs/\r=.osl 2 0 p.length k/\H1=[.dead,.fmap es,.row te k (p.map e)])):
  C P fC [.fn (.func g) [] [.ptr 0 0]] [.cells tm [.map 1],.fmap es] (fun r H1=>∃p:List T,p.Perm xs/\r=.osl 2 0 p.length k/\H1=[.dead,.fmap es,.row te k (p.map e)]):=by
 refine Qa hf hb hN rfl ?_
 refine TC.seq (TC.region ?_)
 refine Qy rfl rfl rfl (OpV.assign (v:=.nils) rfl rfl) ?_
 refine WO.nil ?_
 refine TC.seq (TC.region ?_)
 refine Qy rfl rfl rfl (OpV.move (v:=.fn (.func g) [] [.ptr 0 0]) rfl rfl) ?_
 refine WO.call (d:=some 4) [0,1] (Nat.le_of_ble_eq_true rfl) rfl rfl (fun x h=>by cases h;decide) (hop _ _ rfl) rfl rfl (by decide) hC ?_
 rintro r H1 ⟨p,hp,rfl,rfl⟩
 refine Qy rfl rfl rfl (OpV.assign (v:=.osl 2 0 p.length k) rfl rfl) ?_
 refine WO.nil ?_
 refine TC.ret ?_
 exact⟨[(2,.osl 2 0 p.length k)],[.dead,.fmap es,.row te k (p.map e)],_,Lr [0,1,2],Qcb.one hR rfl,p,hp,rfl,rfl⟩
def anyK{K R:Type}[DecidableEq R](l:List K)(k:List K->Option R):Option R:=bif Nat.ble l.length QV then anyP k l else none
theorem QgI{K R:Type}[DecidableEq R]{l:List K}{k:List K->Option R}{r:R}(h:anyK l k=some r):Nat.ble l.length QV=true/\ ∀p,p.Perm l->k p=some r:=by
 unfold anyK at h
 cases q:Nat.ble l.length QV with
 |true=>rw[q]at h;exact⟨rfl,QjY h⟩
 |false=>rw[q]at h;cases h
end Go.Sw
namespace Go.Sw
section
variable {P:Program}{o:Oper}{env:Env}{H:Qc}{fr ro:Nat->Prop}{σ:Sig}{w:World}
theorem Pts.ents{i off t e f b1 b2:Nat}{l:List Ent}{x:Ent}{cs':List A}(he:l[e]?=some x)(hH:H[i]?=some (.ents t b1 b2 l):=by exact rfl)(ho:off=e*3+f:=by exact rfl)(hcs:(eC b1 b2 x).drop f=cs':=by exact rfl):Pts H (.ptr i off) cs':=by
 intro fr ro σ w v s h
 obtain⟨b,h1,h2⟩:=h
 obtain⟨lb,q1,q2⟩:=s.blk i _ _ h1 hH
 have he':(l.map (eC b1 b2))[e]?=some (eC b1 b2 x):=by rw[List.getElem?_map,he];rfl
 have:=((Ys (pre:=[]) (by simpa using q1) q2).get e he').2.drop f
 refine⟨b,off,h2,?_⟩
 rw[<- hcs,ho]
 simpa using this
end
section
variable {P:Program}{h0 N:Nat}{A B C:Code}{env:Env}{H:Qc}{Q:Qz}
end
end Go.Sw
namespace Go.Sw
section
variable {P:Program}{o:Oper}{env:Env}{H:Qc}
def Q7(k:IntKind)(m n:Int):Int:=k.wrap (BitVec.ofInt k.bits m&&& BitVec.ofInt k.bits n).toNat
def Yq(k:IntKind)(m n:Int):Int:=m.fdiv (2^(min n.toNat k.bits))
theorem OpV.and{t u:TypeId}{x y:Operand}{k:IntKind}{m n:Int}(ho:o.op=.binOp .and t x y u)(hx:opA env x=.int k m)(hy:opA env y=.int k n):OpV P o env H (.int k (Q7 k m n)):=by
 intro fr ro σ N a w r
 have h1:=QM r hx
 have h2:=QM r hy
 refine⟨_,?_,rfl⟩
 generalize a.eval=ρ at*
 simp[execOp,ho,h1,h2,Go.binOp,eqGuard,Op.intBits,go_sem,Q7]
theorem OpV.shr{t u:TypeId}{x y:Operand}{k k':IntKind}{m n:Int}(ho:o.op=.binOp .shr t x y u)(hx:opA env x=.int k m)(hy:opA env y=.int k' n)(hn:0<=n):OpV P o env H (.int k (Yq k m n)):=by
 intro fr ro σ N a w r
 have h1:=QM r hx
 have h2:=QM r hy
 refine⟨_,?_,rfl⟩
 generalize a.eval=ρ at*
 simp[execOp,ho,h1,h2,Go.binOp,eqGuard,Op.shift,go_sem,Yq,Int.not_lt.2 hn]
theorem QX{h0 i m t k T:Nat}{cs:List A}(hh:Nat.ble h0 H.length=true)(hH:H[i]?=some (.cells T cs))(hm:cs[m]?=some .nils):
  Le h0 env H env (H.set i (.cells T (cs.set m (.osl H.length 0 0 k)))++[.row t k []]):=by
 intro fr ro σ N a w r
 have hh':h0<=H.length:=Nat.le_of_ble_eq_true hh
 have hi:i<H.length:=(List.getElem?_eq_some_iff.1 hH).1
 have ext:Ext ro σ w ro (σ++[none]) w:=⟨fun _ q=>q,fun _ _=>rfl,fun _ _ q=>q,fun _ _ h=>YN h⟩
 have s:=r.sim.phantom t k
 have hi':(H++[Blk.row t k []])[i]?=some (.cells T cs):=by rw[List.getElem?_append_left hi];exact hH
 have e0:H.set i (.cells T (cs.set m (.osl H.length 0 0 k)))++[.row t k []]=(H++[Blk.row t k []]).set i (.cells T (cs.set m (.osl H.length 0 0 k))):=by
  rw[List.set_append_left _ _ hi]
 rw[e0]
 refine⟨ro,σ++[none],⟨s.weaken hi' rfl ?_,fun q=>(r.env q).mono ext,r.size,r.defers⟩,fun _ q=>q,QK (by rw[r.sim.len];exact hh')⟩
 intro y h
 cases y with
 |none=>exact h
 |some b=>
  obtain⟨l,g1,g2,g3⟩:=h
  refine⟨l,g1,?_,g3⟩
  clear g1 g3 hi' e0 hH
  induction cs generalizing m l with
  |nil=>cases hm
  |cons c cs ih=>
   obtain⟨v,l',rfl,q1,q2⟩:=g2
   cases m with
   |zero=>
    simp at hm
    subst hm
    exact⟨v,l',rfl,.inl ⟨rfl,q1⟩,q2⟩
   |succ m=>exact⟨v,l',rfl,q1,ih (by simpa using hm) l' q2⟩
def SrcB(P:Program)(H:Qc)(x:A)(l:List Int):Prop:=
 ∀fr ro σ w v,Sim fr ro σ H w->VR ro σ w x v->(∃a c,v=.slice a 0 c/\l=[])\/ ∃b off c,v=.slice (some ⟨b,off,none⟩) l.length c/\(l=[]\/CR ro σ w b (l.map fun n=>A.int .u8 n) off)
theorem QeE:∀(l:List Int),(l.map (fun n=>[A.int .u8 n])).flatten=l.map fun n=>A.int .u8 n
 |[]=>rfl
 |n::l=>by simp[QeE l]
theorem SrcB.nils:SrcB P H .nils []:=fun fr ro σ w v s h=>.inl ⟨none,0,h,rfl⟩
theorem SrcB.row{i t n:Nat}{l:List Int}(hH:H[i]?=some (.row t 1 (l.map fun n=>[A.int .u8 n])):=by exact rfl)(hn:l.length=n:=by exact rfl):SrcB P H (.osl i 0 n 1) l:=by
 intro fr ro σ w v s h
 rcases h with⟨rfl,rfl⟩|⟨b,p,cap,t',m,h1,rfl,h2,h3,h4,h5⟩
 ·exact .inl ⟨none,0,rfl,List.length_eq_zero_iff.1 hn⟩
 ·refine .inr ⟨b,p,cap,by rw[hn],?_⟩
  by_cases hl:l=[]
  ·exact .inl hl
  ·have:0<cap:=by have:=List.length_pos_iff.2 hl;omega
   obtain rfl:=h2 this
   obtain⟨lb,q1,q2⟩:=s.blk i _ _ h1 hH
   have hr:=(Ys (pre:=[]) (by simpa using q1) q2).flat.1
   rw[QeE]at hr
   exact .inr (by simpa using hr.lift)
theorem SrcB.rsl{l:List Int}:SrcB P H (.rsl 1 (l.map fun n=>[A.int .u8 n])) l:=by
 intro fr ro σ w v s ⟨a,c,h1,h2,h3⟩
 subst h1
 rw[List.length_map]at*
 rcases h3 with h3|⟨b,off,rfl,h4,h5⟩
 ·have:l=[]:=List.map_eq_nil_iff.1 h3
  subst this
  exact .inl ⟨a,c,by simp,rfl⟩
 ·have hr:=h5.flat.1
  rw[QeE]at hr
  exact .inr ⟨b,off,c,rfl,.inr hr.lift⟩
end
end Go.Sw
namespace Go.Sw
end Go.Sw
namespace Go.Sw
def QbM:Option Blk->Bool
 |some .dead=>true
 |_=>false
def Qaq(hB hE:Nat)(H H':Qc):Bool:=(List.range (hE-hB)).all fun p=> !QbM H'[hB+p]? ||QbM H[hB+p]?
def QgQ(hB hE:Nat)(σ:Sig)(H:Qc):Prop:=∀p,hB<=p->p<hE->QbM H[p]?=true->σ[p]?=some none
theorem Qhi{hB hE:Nat}{H H':Qc}(h:Qaq hB hE H H'=true){p:Nat}(h1:hB<=p)(h2:p<hE)(h3:QbM H'[p]?=true):QbM H[p]?=true:=by
 have:=List.all_eq_true.1 h (p-hB) (List.mem_range.2 (by omega))
 rw[show hB+(p-hB)=p by omega,h3]at this
 simpa using this
theorem Sim.allocAt{fr ro:Nat->Prop}{σ:Sig}{H:Qc}{w:World}(s:Sim fr ro σ H w){p:Nat}(hp:σ[p]?=some none){obj:Obj}{x:Blk}
  (hb:BR ro (σ.set p (some w.heap.size)) (w.alloc obj) x (some w.heap.size))
  (hhd:∀c,Hid (w.alloc obj) x w.heap.size c->False:=by exact fun _ h=>h.elim):Sim fr ro (σ.set p (some w.heap.size)) (H.set p x) (w.alloc obj):=by
 have ev:Qf fr ro w ro (w.alloc obj):=Qf.alloc obj s.roLt s.frLt
 have hl:=s.len
 have hpl:p<σ.length:=(List.getElem?_eq_some_iff.1 hp).1
 have hext:Ext ro σ w ro (σ.set p (some w.heap.size)) (w.alloc obj):=⟨ev.sub,ev.keepRo,ev.shape,fun i b q=>by
  rw[List.getElem?_set_ne (fun z=>by subst z;rw[hp]at q;cases q)];exact q⟩
 have hcase:∀(i:Nat) (y:Option Nat),(σ.set p (some w.heap.size))[i]?=some y->(i≠p/\σ[i]?=some y)\/(i=p/\y=some w.heap.size):=by
  intro i y h
  by_cases q:i=p
  ·subst q
   rw[List.getElem?_set_self hpl]at h
   exact .inr ⟨rfl,(Option.some.inj h).symm⟩
  ·rw[List.getElem?_set_ne (fun z=>q z.symm)]at h
   exact .inl ⟨q,h⟩
 have hH:∀i:Nat,i≠p->(H.set p x)[i]?=H[i]? :=fun i hi=>List.getElem?_set_ne (fun z=>hi z.symm)
 have hx:(H.set p x)[p]?=some x:=List.getElem?_set_self (by omega)
 refine⟨by simp[hl],s.roOk.to (fun _ q=>q) ev.keepRo (fun b h=>?_),fun b h=>?_,s.roFr,?_,?_,?_,s.hidTo (· = ·) QP (by rw[Yf];omega) (fun _ _ _ _ _ _ _ q=>q) (fun _ _ _ _ _ _ _ q=>q) fun j d y g1 g2 g3=>?_⟩
 rotate_left 5
 ·rcases hcase j _ g1 with⟨q,g1⟩|⟨rfl,e1⟩
  ·rw[hH j q]at g2
   exact .inl ⟨j,y,rfl,g1,g2,id,fun c q=>s.hidKeep g1 g2 (fun z=>Q5 w obj d (s.own j d y g1 g2 z).1) ev.keepRo q⟩
  ·rw[hx]at g2;cases g2;cases e1
   exact .inr ⟨Nat.le_refl _,hhd⟩
 ·rw[Yf];have:=s.roLt b h;omega
 ·rw[Yf];have:=s.frLt b h;omega
 ·intro i b y h1 h2 h3
  rw[Yf]
  rcases hcase i _ h1 with⟨q,h1⟩|⟨rfl,e1⟩
  ·rw[hH i q]at h2
   obtain⟨a,b,c⟩:=s.own i b y h1 h2 h3
   exact⟨by omega,b,c⟩
  ·cases e1
   exact⟨by omega,fun q=>by have:=s.roLt _ q;omega,fun q=>by have:=s.frLt _ q;omega⟩
 ·intro i j b y z h1 h2 h3 h4 h5 h6
  rcases hcase i _ h1 with⟨q,g1⟩|⟨ei,e1⟩<;>rcases hcase j _ h2 with⟨q',g2⟩|⟨ej,e2⟩
  ·rw[hH i q]at h3
   rw[hH j q']at h4
   exact s.inj i j b y z g1 g2 h3 h4 h5 h6
  ·cases e2
   rw[hH i q]at h3
   have:=(s.own i _ y g1 h3 h5).1
   omega
  ·cases e1
   rw[hH j q']at h4
   have:=(s.own j _ z g2 h4 h6).1
   omega
  ·rw[ei,ej]
 ·intro i y z h1 h2
  rcases hcase i _ h1 with⟨q,h1⟩|⟨rfl,e1⟩
  ·rw[hH i q]at h2
   refine(s.blk i y z h1 h2).keep hext ?_ ?_
   ·rintro b rfl hl
    exact Q5 w obj b (s.own i b z h1 h2 hl).1
   ·rintro b c rfl hl
    exact Q5 w obj c (s.hid i b z c h1 h2 hl).lt
  ·rw[hx]at h2;cases h2;subst e1;exact hb
def OpZ(P:Program)(o:Oper)(t:Nat)(cs:List A):Prop:=
 ∀(ro:Nat->Prop) (σ:Sig) (w:World) (a:Act),∃l:List Value,(execOp a.eval o).run P w=.ok (.value (.pointer (some ⟨w.heap.size,0,none⟩))) (w.alloc (.cells l.toArray t))/\LR ro σ w cs l/\ ∀v∈l,Qv v
theorem OpZ.alloc{P:Program}{o:Oper}{t:Nat}{z:Value}{v:A}{cs:List A}(hz:∀w,(zeroValue t).run P w=.ok z w)(hv:ZR v z)(ho:o.op=.alloc t:=by exact rfl)(hk:Q4 v=true:=by exact rfl)(hcs:QU v=cs:=by exact rfl)(hpl:cs.all Ye=true:=by exact rfl):
  OpZ P o t cs:=by
 intro ro σ w a
 obtain⟨l,h2,h3⟩:=(hv ro σ w).cells hk
 subst hcs
 refine⟨l,?_,h3,h3.plain hpl⟩
 generalize a.eval=ρ at*
 have e:(newVar t z).run P w=.ok ⟨w.heap.size,0,none⟩ (w.alloc (.cells l.toArray t)):=by
  unfold newVar;rw[h2];rfl
 simp only[execOp,ho,Instr.alloc,Sem.run_bind,hz,Result.andThen,e]
 rfl
theorem QbZ{P:Program}{l:List Oper}{i:Nat}{o:Oper}{rd:Option Nat}{R:Exit->Act->World->Prop}{Q:Exit->Act->World->Prop}{K:Act->World->Prop}{a:Act}{w:World}
  (ho:l[i]?=some o)(h':wpL P rd l.toArray R [o] a w)(hR:∀e a' w',R e a' w'->e=.normal/\a'.defers=a.defers)(hK:∀v w',R .normal (a.put o.dst v) w'->K (a.put o.dst v) w'):
  wpOpIn (WF rd) 0 P l.toArray Q i K a w:=by
 unfold wpOpIn
 have ho2:l.toArray[i]?=some o:=by simpa using ho
 rw[ho2]
 simp only
 unfold wpL wpListIn at h'
 split at h'
 ·rename_i hw
  rw[if_pos hw]
  obtain⟨hab,h'⟩:=h'
  refine⟨hab,?_⟩
  have h2:=QhS (by
   intro a' w' q
   unfold wpListIn at q
   exact(hR _ _ _ q).2) h'
  generalize(o.semAt (WF rd).round a.eval).run P w=res at*
  cases res with
  |ok n w'=>
   cases n with
   |value v=>exact hK _ _ h2.1
   |skip=>exact hK _ _ h2.1
   |defer df=>
    exfalso
    have:=(hR _ _ _ h2.1).2
    have:=congrArg List.length this
    revert this
    cases o.dst<;>simp[Act.put]
   |enter f args=>
    refine⟨h2.1,CallsIn.mono h2.2 (fun e w'' he=>?_)⟩
    cases e with
    |returned v=>exact hK _ _ he.1
    |panicked c=>have:=(hR _ _ _ he).1;cases this
    |outgrown=>obtain⟨a1,w1,he⟩:=he;have:=(hR _ _ _ he).1;cases this
   |row r args=>
    exact⟨h2.1,RowsIn.mono h2.2 (fun _ _ he=>hK _ _ he.1)⟩
   |round l f tmps assign body=>
    refine⟨h2.1,RoundIn.mono h2.2 (fun e w'' he=>?_)⟩
    cases e with
    |returned v=>exact hK _ _ he.1
    |panicked c=>have:=(hR _ _ _ he).1;cases this
    |outgrown=>obtain⟨a1,w1,he⟩:=he;have:=(hR _ _ _ he).1;cases this
   |_=>exact h2.elim
  |halt x w'=>
   cases x with
   |panic v=>have:=(hR _ _ _ h2).1;cases this
   |_=>exact h2.elim
 ·rename_i hw
  rw[if_neg hw]
  obtain⟨hab,h'⟩:=h'
  refine⟨hab,?_⟩
  unfold wpListIn at h'
  exact hK _ _ h'
theorem Qhh{P:Program}{l:List Oper}{m:Nat}(back:∀i o,l[i]?=some o->∀j∈Qh o,j<i)(chain:∀i o,m<i->l[i]?=some o->i-1∈Qh o){Q:Exit->Act->World->Prop}{rd:Option Nat}:
  ∀(fuel t:Nat) (L:Array Bool) (a:Act) (w:World),L.size=l.length->(∀i,i<l.length->(onL L i↔i<t))->unl L<=fuel->m<=t->t<=l.length->
   wpL P rd l.toArray Q (l.drop t) a w->wpAnyIn (WF rd) 0 P .any l.toArray Q fuel L a w:=by
 intro fuel
 induction fuel with
 |zero=>
  intro t L a w hsz hL hf hm ht h
  have:t=l.length:=by
   rcases Nat.lt_or_ge t l.length with q|q
   ·have:=Qgo (L:=L) (i:=t) (by omega) (fun z=>by have:=(hL t q).1 z;omega);omega
   ·omega
  subst this
  refine⟨List.eq_nil_iff_forall_not_mem.2 fun i hi=>?_,?_⟩
  ·obtain⟨o,h1,h2,_⟩:=(QaB hsz).1 hi
   have hi':=(List.getElem?_eq_some_iff.1 h1).1
   exact h2 ((hL i hi').2 hi')
  ·rw[List.drop_length]at h;exact h
 |succ fuel ih=>
  intro t L a w hsz hL hf hm ht h
  have key:∀i o,l[i]?=some o->¬onL L i->(∀j∈Qh o,onL L j)->i=t:=by
   intro i o h1 h2 h3
   have hi':=(List.getElem?_eq_some_iff.1 h1).1
   have hge:t<=i:=by
    rcases Nat.lt_or_ge i t with q|q
    ·exact absurd ((hL i hi').2 q) h2
    ·exact q
   rcases Nat.lt_or_ge t i with q|q
   ·have:=(hL (i-1) (by omega)).1 (h3 _ (chain i o (by omega) h1))
    omega
   ·omega
  rcases Nat.lt_or_ge t l.length with htl|htl
  ·have ho:l[t]?=some l[t]:=List.getElem?_eq_getElem htl
   have htn:¬onL L t:=fun q=>by have:=(hL t htl).1 q;omega
   have hr:t∈Region.ready .any l.toArray L:=by
    refine(QaB hsz).2 ⟨_,ho,htn,fun j hj=>?_⟩
    have:=back t _ ho j hj
    exact(hL j (by omega)).2 this
   refine⟨fun q=>(by rw[q]at hr;cases hr),fun i hi=>?_⟩
   obtain⟨o,h1,h2,h3⟩:=(QaB hsz).1 hi
   obtain rfl:=key i o h1 h2 h3
   rw[List.drop_eq_getElem_cons htl]at h
   obtain rfl:l[i]=o:=by rw[List.getElem?_eq_getElem htl]at h1;exact Option.some.inj h1
   unfold wpOpIn
   rw[show l.toArray[i]?=some l[i]by rw[List.getElem?_toArray];exact h1]
   simp only
   unfold wpL wpListIn at h
   have nx:∀a w,wpL P rd l.toArray Q (l.drop (i+1)) a w->wpAnyIn (WF rd) 0 P .any l.toArray Q fuel (L.setIfInBounds i true) a w:=by
    intro a w q
    have hu:=Qer (L:=L) (i:=i) (by omega) htn
    refine ih (i+1) _ a w (by simpa using hsz) (fun j hj=>?_) (by omega) (by omega) (by omega) q
    rw[YU (by omega),hL j hj]
    omega
   split at h
   ·rename_i hw;rw[if_pos hw];exact Oper.wpIn_mono nx h
   ·rename_i hw;rw[if_neg hw];exact⟨h.1,nx _ _ h.2⟩
  ·have:t=l.length:=by omega
   subst this
   rw[List.drop_length]at h
   refine⟨fun _=>h,fun i hi=>?_⟩
   obtain⟨o,h1,h2,_⟩:=(QaB hsz).1 hi
   have hi':=(List.getElem?_eq_some_iff.1 h1).1
   exact absurd ((hL i hi').2 hi') h2
def Qjm(af ds:List Nat)(xs:List A)(env0 e:Env):Prop:=
 ∀s,(∃j x,af.contains j=true/\ds[j]?=some s/\xs[j]?=some x/\lk e s=x)\/lk e s=.any\/(ds.contains s=false/\lk e s=lk env0 s)
inductive Qad (P:Program) (N:Nat) (l:List Oper) (ds:List Nat) (xs:List A) (env0:Env) (hB hE:Nat) (i:Nat) (H H':Qc):Prop
 |mk (o:Oper) (e:Env) (d:Nat) (x:A) (ho:l[i]?=some o) (hd:o.dst=some d) (hx:xs[i]?=some x) (hdd:Qaq hB hE H H'=true) (hs:Sb (Qh o) (Qhn l i) ds xs env0 e)
   (h:WO P H.length N l.toArray [o] e H (YH (up e d x) H')):Qad P N l ds xs env0 hB hE i H H'
 |unit (o:Oper) (e:Env) (ho:l[i]?=some o) (hd:o.dst=none) (hx:xs[i]?=some .any) (hdd:Qaq hB hE H H'=true) (hs:Sb (Qh o) (Qhn l i) ds xs env0 e)
   (h:WO P H.length N l.toArray [o] e H (YH e H')):Qad P N l ds xs env0 hB hE i H H'
 |alloc (o:Oper) (d t p:Nat) (cs:List A) (ho:l[i]?=some o) (hd:o.dst=some d) (hg:o.guard=none) (hx:xs[i]?=some (.ptr p 0)) (hp:(Nat.ble hB p&&Nat.blt p hE)=true) (hdead:QbM H[p]?=true)
   (hH:H.set p (.cells t cs)=H') (h:OpZ P o t cs) (hN:Nat.blt d N=true):Qad P N l ds xs env0 hB hE i H H'
 |val (o:Oper) (e:Env) (d:Nat) (x:A) (ho:l[i]?=some o) (hd:o.dst=some d) (hg:o.guard=none) (hx:xs[i]?=some x) (hN:Nat.blt d N=true) (he:Qjm (Qh o) ds xs env0 e) (h:OpV P o e H x)
   (hH:H=H':=by rfl):Qad P N l ds xs env0 hB hE i H H'
 |woE (o:Oper) (e:Env) (d:Nat) (x:A) (ho:l[i]?=some o) (hd:o.dst=some d) (hx:xs[i]?=some x) (he:Qjm (Qh o) ds xs env0 e) (hdd:Qaq hB hE H H'=true) (h:WO P H.length N l.toArray [o] e H (YH (up e d x) H')):Qad P N l ds xs env0 hB hE i H H'
theorem Sb.rel{af bf ds:List Nat}{xs:List A}{env0 e:Env}{ro:Nat->Prop}{σ:Sig}{w:World}{a:Act}(hs:Sb af bf ds xs env0 e)
  (hD:∀j∈af,∀s x,ds[j]?=some s->xs[j]?=some x->VR ro σ w x (a.tmps.getD s undef))
  (hO:∀s,ds.contains s=false->VR ro σ w (lk env0 s) (a.tmps.getD s undef))(hP:∀j s,bf.contains j=true->ds[j]?=some s->VR ro σ w (lk env0 s) (a.tmps.getD s undef)):
  ∀s,VR ro σ w (lk e s) (a.tmps.getD s undef):=by
 intro s
 induction hs with
 |nil=>exact trivial
 | @dep j s1 x1 r h1 h2 h3 _ ih=>
  unfold lk
  cases hb:Nat.beq s s1 with
  |false=>exact ih
  |true=>
   obtain rfl:=Nat.eq_of_beq_eq_true hb
   exact hD j (by simpa using h1) _ _ h2 h3
 | @old s1 x1 r h1 h2 _ ih=>
  unfold lk
  cases hb:Nat.beq s s1 with
  |false=>exact ih
  |true=>
   obtain rfl:=Nat.eq_of_beq_eq_true hb
   subst h2
   exact hO _ h1
 | @pre j s1 x1 r h1 h2 h3 _ ih=>
  unfold lk
  cases hb:Nat.beq s s1 with
  |false=>exact ih
  |true=>
   obtain rfl:=Nat.eq_of_beq_eq_true hb
   subst h3
   exact hP j _ h1 h2
structure After (fr ro:Nat->Prop) (σ:Sig) (w:World) (hB hE:Nat) (H':Qc) (xs:List A) (i:Nat) (o:Oper) (a':Act) (w':World) (ro':Nat->Prop) (σ':Sig):Prop where
 val:∀x,xs[i]?=some x->match o.dst with
  |some d=>VR ro' σ' w' x (a'.tmps.getD d undef)
  |none=>x=.any
 sim:Sim fr ro' σ' H' w'
 ev:Qf fr ro w ro' w'
 ext:Ext ro σ w ro' σ' w'
 holes:QgQ hB hE σ' H'
 take:σ'.take hB=σ.take hB
theorem Qad.use{P:Program}{N:Nat}{l:List Oper}{ds:List Nat}{xs:List A}{env0:Env}{hB hE i:Nat}{H H':Qc}(hb:Qad P N l ds xs env0 hB hE i H H')
  {Q:Exit->Act->World->Prop}{K:Act->World->Prop}{fr ro:Nat->Prop}{σ:Sig}{a:Act}{w:World}{o:Oper}{rd:Option Nat}(ho:l[i]?=some o)
  (hsim:Sim fr ro σ H w)(hN:a.tmps.size=N)(hdef:Qcf fr a.defers w)(hrd:QcN rd fr w)(hh:QgQ hB hE σ H)(hl:hE<=H.length)(hBE:hB<=hE)
  (hD:∀j∈Qh o,∀s x,ds[j]?=some s->xs[j]?=some x->VR ro σ w x (a.tmps.getD s undef))
  (hO:∀s,ds.contains s=false->VR ro σ w (lk env0 s) (a.tmps.getD s undef))(hP:∀j s,(Qhn l i).contains j=true->ds[j]?=some s->VR ro σ w (lk env0 s) (a.tmps.getD s undef))
  (hK:∀v w' ro' σ',After fr ro σ w hB hE H' xs i o (a.put o.dst v) w' ro' σ'->K (a.put o.dst v) w'):
  wpOpIn (WF rd) 0 P l.toArray Q i K a w:=by
 have post:∀{e:Env}{H2:Qc}{E:Exit}{a':Act}{w':World},Qbo H.length fr ro σ w N a.defers (YH e H2) E a' w'->E=.normal/\a'.defers=a.defers:=by
  rintro e H2 E a' w' ⟨x,_,_,_,_,_,h1,⟨rfl,_⟩,_,_,_,h2,_⟩
  refine⟨?_,h2⟩
  cases E<;>first|rfl|exact h1.elim|cases h1
 have hgen:∀{σ':Sig}{w':World},Qf fr ro w ro w'->σ'.take H.length=σ.take H.length->True:=fun _ _=>trivial
 have hold:∀{e:Env}{a':Act}{w':World},Qbo H.length fr ro σ w N a.defers (YH e H') .normal a' w'->Qaq hB hE H H'=true->
   ∃ro' σ',Sim fr ro' σ' H' w'/\Qf fr ro w ro' w'/\Ext ro σ w ro' σ' w'/\QgQ hB hE σ' H'/\σ'.take hB=σ.take hB/\ ∀s,VR ro' σ' w' (lk e s) (a'.tmps.getD s undef):=by
  rintro e a' w' ⟨_,env',H2,ro',σ',fr',_,⟨_,rfl,rfl⟩,r',he,ht,_,hgr⟩ hdd
  have hσ:σ'=σ++σ'.drop H.length:=by
   conv=>lhs;rw[<- List.take_append_drop H.length σ']
   rw[ht, <- hsim.len,List.take_length]
  refine⟨ro',σ',r'.sim.frMono hgr.sub,he,?_,?_,?_,r'.env⟩
  ·rw[hσ];exact he.ext σ _
  ·intro p h1 h2 h3
   have:=hh p h1 h2 (Qhi hdd h1 h2 h3)
   rw[hσ,List.getElem?_append_left (by rw[hsim.len];omega)]
   exact this
  ·rw[hσ]
   exact QK (by rw[hsim.len];omega)
 cases hb with
 |woE o' e d x ho' hd hx he hdd h=>
  obtain rfl:o'=o:=Option.some.inj (ho'.symm.trans ho)
  have hr:∀s,VR ro σ w (lk e s) (a.tmps.getD s undef):=fun s=>by
   rcases he s with⟨j,x,h1,h2,h3,h4⟩|h4|⟨h1,h4⟩
   ·rw[h4];exact hD j (by simpa using h1) s x h2 h3
   ·rw[h4];exact trivial
   ·rw[h4];exact hO s h1
  refine QbZ ho (h rd fr ro σ a w ⟨hsim,hr,hN,hdef⟩ hrd) (fun _ _ _ q=>post q) (fun v w' q=>?_)
  obtain⟨ro',σ',g1,g2,g3,g4,g5,g6⟩:=hold q hdd
  refine hK v w' ro' σ' ⟨fun y hy=>?_,g1,g2,g3,g4,g5⟩
  obtain rfl:=Option.some.inj (hx.symm.trans hy)
  have:=g6 d
  unfold lk at this
  rw[Nat.beq_refl]at this
  rw[hd]at this⊢
  exact this
 |mk o' e d x ho' hd hx hdd hs h=>
  obtain rfl:o'=o:=Option.some.inj (ho'.symm.trans ho)
  refine QbZ ho (h rd fr ro σ a w ⟨hsim,hs.rel hD hO hP,hN,hdef⟩ hrd) (fun _ _ _ q=>post q) (fun v w' q=>?_)
  obtain⟨ro',σ',g1,g2,g3,g4,g5,g6⟩:=hold q hdd
  refine hK v w' ro' σ' ⟨fun y hy=>?_,g1,g2,g3,g4,g5⟩
  obtain rfl:=Option.some.inj (hx.symm.trans hy)
  have:=g6 d
  unfold lk at this
  rw[Nat.beq_refl]at this
  rw[hd]at this⊢
  exact this
 |unit o' e ho' hd hx hdd hs h=>
  obtain rfl:o'=o:=Option.some.inj (ho'.symm.trans ho)
  refine QbZ ho (h rd fr ro σ a w ⟨hsim,hs.rel hD hO hP,hN,hdef⟩ hrd) (fun _ _ _ q=>post q) (fun v w' q=>?_)
  obtain⟨ro',σ',g1,g2,g3,g4,g5,g6⟩:=hold q hdd
  refine hK v w' ro' σ' ⟨fun y hy=>?_,g1,g2,g3,g4,g5⟩
  obtain rfl:=Option.some.inj (hx.symm.trans hy)
  rw[hd]
 |val o' e d x ho' hd hg hx hNd he h hH=>
  obtain rfl:o'=o:=Option.some.inj (ho'.symm.trans ho)
  subst hH
  have hr:Rel fr ro σ H e N a w:=by
   refine⟨hsim,fun s=>?_,hN,hdef⟩
   rcases he s with⟨j,x,h1,h2,h3,h4⟩|h4|⟨h1,h4⟩
   ·rw[h4];exact hD j (by simpa using h1) s x h2 h3
   ·rw[h4];exact trivial
   ·rw[h4];exact hO s h1
  obtain⟨v0,h1,h2⟩:=h fr ro σ N a w hr
  have hw:Region.wanted o' (yielded l.toArray a.tmps)=true:=by unfold Region.wanted;rw[hg]
  refine QbZ (R:=fun E a' w'=>E=.normal/\a'.defers=a.defers/\a'=a.put o'.dst v0/\w'=w) ho (QaN hw h1 ?_) (fun _ _ _ q=>⟨q.1,q.2.1⟩) (fun v w' q=>?_)
  ·unfold wpL wpListIn
   refine⟨rfl,?_,rfl,rfl⟩
   rw[hd];rfl
  ·obtain⟨_,_,q1,rfl⟩:=q
   refine hK v _ ro σ ⟨fun y hy=>?_,hsim,Qf.refl _ _ _,⟨fun _ q=>q,fun _ _=>rfl,fun _ _ q=>q,fun _ _ q=>q⟩,hh,rfl⟩
   obtain rfl:=Option.some.inj (hx.symm.trans hy)
   rw[q1,hd]
   have hdN:d<a.tmps.size:=by rw[hN];simpa using hNd
   show VR ro σ w' x _
   simpa[Act.put,Array.getD_eq_getD_getElem?,hdN]using h2
 |alloc o' d t p cs ho' hd hg hx hp hdead hH h hNd=>
  obtain rfl:o'=o:=Option.some.inj (ho'.symm.trans ho)
  subst hH
  simp only[Bool.and_eq_true]at hp
  have hp1:=Nat.le_of_ble_eq_true hp.1
  have hp2:p<hE:=by simpa using hp.2
  have hσp:=hh p hp1 hp2 hdead
  obtain⟨lv,h1,h2,h3⟩:=h ro σ w a
  have hw:Region.wanted o' (yielded l.toArray a.tmps)=true:=by unfold Region.wanted;rw[hg]
  have ev:Qf fr ro w ro (w.alloc (.cells lv.toArray t)):=Qf.alloc _ hsim.roLt hsim.frLt
  have hpl:p<σ.length:=by rw[hsim.len];omega
  have hext:Ext ro σ w ro (σ.set p (some w.heap.size)) (w.alloc (.cells lv.toArray t)):=⟨ev.sub,ev.keepRo,ev.shape,fun j b q=>by
   rw[List.getElem?_set_ne (fun z=>by subst z;rw[hσp]at q;cases q)];exact q⟩
  refine QbZ (R:=fun E a' w'=>E=.normal/\a'.defers=a.defers/\a'=a.put o'.dst (.pointer (some ⟨w.heap.size,0,none⟩))/\w'=w.alloc (.cells lv.toArray t)) ho (QaN hw h1 ?_) (fun _ _ _ q=>⟨q.1,q.2.1⟩) (fun v w' q=>?_)
  ·unfold wpL wpListIn
   refine⟨rfl,?_,rfl,rfl⟩
   rw[hd];rfl
  ·obtain⟨_,_,q1,rfl⟩:=q
   refine hK v _ ro (σ.set p (some w.heap.size)) ⟨fun y hy=>?_,hsim.allocAt hσp ⟨lv,Yi _ _,h2.mono hext,h3⟩,ev,hext,fun p' g1 g2 g3=>?_,?_⟩
   ·obtain rfl:=Option.some.inj (hx.symm.trans hy)
    rw[q1,hd]
    have hdN:d<a.tmps.size:=by rw[hN];simpa using hNd
    refine⟨w.heap.size,List.getElem?_set_self hpl,?_⟩
    simp[Act.put,Array.getD_eq_getD_getElem?,hdN]
   ·by_cases q:p'=p
    ·subst q
     rw[List.getElem?_set_self (by omega)]at g3
     cases g3
    ·rw[List.getElem?_set_ne (fun z=>q z.symm)]at g3⊢
     exact hh p' g1 g2 g3
   ·rw[List.take_set,List.set_eq_of_length_le]
    rw[List.length_take];omega
def same(a b:List Nat):Bool:=a.all (b.contains ·)&&b.all (a.contains ·)
theorem Qju{a b:List Nat}(h:same a b=true)(i:Nat):i∈a↔i∈b:=by
 unfold same at h
 simp only[Bool.and_eq_true,List.all_eq_true,List.contains_iff_mem]at h
 exact⟨h.1 i,h.2 i⟩
structure Qjn (l:List Oper) (m:Nat) (ds:List Nat) (hs:List Bool) (rq ms:List (List Nat)) (pl:List (List (Nat×Nat))) (N:Nat):Prop where
 len:m<=l.length
 dst:∀i o,i<m->l[i]?=some o->(∃d,o.dst=some d/\ds[i]?=some d/\d<N)\/o.dst=none
 dsl:ds.length=m
 nodup:∀(i j d:Nat),ds[i]?=some d->ds[j]?=some d->i=j
 back:∀i o,l[i]?=some o->∀j∈Qh o,j<i
 mid:∀o,l[m]?=some o->∀j,j<m->QbD l m j
 chain:∀i o,m<i->l[i]?=some o->i-1∈Qh o
 rqs:∀i o,i<m->l[i]?=some o->∀h∈rq.getD i [],h<m/\hs.getD h false=true/\(h∈Qh o\/ ∃j∈Qh o,j<m/\h∈rq.getD j [])
 ms0:ms.getD 0 []=[]
 full:∀st,st<ms.length->st+1=ms.length\/ ∃i,i<m/\hs.getD i false=true/\i∉ms.getD st []
 msh:∀st h,h∈ms.getD st []->h<m/\hs.getD h false=true
 pls:∀i st,i<m->st<ms.length->(∀h∈rq.getD i [],h∈ms.getD st [])->(hs.getD i false=true->i∉ms.getD st [])->(∀h∈ms.getD st [],¬QbD l h i)->
  ∃st',(st,st')∈pl.getD i []/\st'<ms.length/\if hs.getD i false then∀j,j∈ms.getD st' []↔j=i\/j∈ms.getD st []else st'=st
theorem Qgv{α:Type}{l:List α}{i:Nat}{d x:α}(h:l[i]?=some x):l.getD i d=x:=by rw[List.getD_eq_getElem?_getD,h];rfl
theorem Qfv{P:Program}{l:List Oper}{m:Nat}{ds:List Nat}{hs:List Bool}{rq ms:List (List Nat)}{pl:List (List (Nat×Nat))}{N h0 hB hE:Nat}{xs:List A}{env0:Env}{Hs:List Qc}{Hk:Qc}
  (ok:Qjn l m ds hs rq ms pl N)(hxs:xs.length=m)(hHs:Hs.length=ms.length)(h0B:h0<=hB)(hBE:hB<=hE)(hh0:∀H∈Hs,hE<=H.length)
  (hob:∀i p,i<m->p∈pl.getD i []->Qad P N l ds xs env0 hB hE i (Hs.getD p.1 []) (Hs.getD p.2 []))(hkk:Hs.getD (ms.length-1) []=Hk)
  {fr ro0:Nat->Prop}{σ0:Sig}{w0:World}{rd:Option Nat}{ds0:List Deferred}{R:Exit->Act->World->Prop}
  (hk:∀ro σ a w,Rel fr ro σ Hk (Qas ds xs env0) N a w->Qf fr ro0 w0 ro w->σ.take h0=σ0.take h0->a.defers=ds0->wpL P rd l.toArray R (l.drop m) a w)(hm0:Qcf fr ds0 w0)(hrd:QcN rd fr w0):
  ∀(fuel:Nat) (L:Array Bool) (a:Act) (w:World) (ro:Nat->Prop) (σ:Sig) (st:Nat),
   L.size=l.length->unl L<=fuel->(∀i,m<=i->¬onL L i)->st<ms.length->Sim fr ro σ (Hs.getD st []) w->a.tmps.size=N->a.defers=ds0->
   (∀(i d:Nat) (x:A),onL L i->ds[i]?=some d->xs[i]?=some x->VR ro σ w x (a.tmps.getD d undef))->(∀s,(∀j,ds[j]?=some s->¬onL L j)->VR ro σ w (lk env0 s) (a.tmps.getD s undef))->
   Qf fr ro0 w0 ro w->σ.take h0=σ0.take h0->QgQ hB hE σ (Hs.getD st [])->
   (∀i,i<m->onL L i->∀h∈rq.getD i [],onL L h)->(∀i,i<m->hs.getD i false=true->(onL L i↔i∈ms.getD st []))->
   (∀i o,onL L i->l[i]?=some o->∀j∈Qh o,onL L j)->
   wpAnyIn (WF rd) 0 P .any l.toArray R fuel L a w:=by
 have hlH:∀st,st<ms.length->hE<=(Hs.getD st []).length:=by
  intro st h
  have e:Hs[st]?=some Hs[st]:=List.getElem?_eq_getElem (by omega)
  rw[Qgv e]
  exact hh0 _ (List.getElem_mem _)
 have fin:∀(fuel:Nat) (L:Array Bool) (a:Act) (w:World) (ro:Nat->Prop) (σ:Sig) (st:Nat),
   L.size=l.length->unl L<=fuel->(∀i,m<=i->¬onL L i)->st<ms.length->Sim fr ro σ (Hs.getD st []) w->a.tmps.size=N->a.defers=ds0->
   (∀(i d:Nat) (x:A),onL L i->ds[i]?=some d->xs[i]?=some x->VR ro σ w x (a.tmps.getD d undef))->(∀s,(∀j,ds[j]?=some s->¬onL L j)->VR ro σ w (lk env0 s) (a.tmps.getD s undef))->
   Qf fr ro0 w0 ro w->σ.take h0=σ0.take h0->
   (∀i,i<m->hs.getD i false=true->(onL L i↔i∈ms.getD st []))->(∀i,i<m->onL L i)->
   wpAnyIn (WF rd) 0 P .any l.toArray R fuel L a w:=by
  intro fuel L a w ro σ st hsz hu hsuf hst hsim hN hdef hD hE' hev htk hI2 hdone
  have hst':st=ms.length-1:=by
   rcases ok.full st hst with q|⟨i,h1,h2,h3⟩
   ·omega
   ·exact absurd ((hI2 i h1 h2).1 (hdone i h1)) h3
  rw[hst',hkk]at hsim
  refine Qhh ok.back ok.chain fuel m L a w hsz (fun i hi=>⟨fun q=>?_,fun q=>hdone i q⟩) hu (Nat.le_refl _) ok.len ?_
  ·rcases Nat.lt_or_ge i m with z|z
   ·exact z
   ·exact absurd q (hsuf i z)
  ·have hr:Rel fr ro σ Hk (Qas ds xs env0) N a w:=by
    refine⟨hsim,fun s=>?_,hN,by rw[hdef];exact hm0.keep hev⟩
    rcases QjE (env0:=env0) (by rw[ok.dsl,hxs]) s with⟨j,x,h1,h2,h3⟩|⟨h1,h2⟩
    ·rw[h3]
     have hj:j<m:=by have:=(List.getElem?_eq_some_iff.1 h1).1;rw[ok.dsl]at this;exact this
     exact hD j s x (hdone j hj) h1 h2
    ·rw[h2];exact hE' s (fun j q=>absurd (List.mem_of_getElem? q) (by simpa using h1))
   exact hk ro σ a w hr hev htk hdef
 intro fuel
 induction fuel with
 |zero=>
  intro L a w ro σ st hsz hu hsuf hst hsim hN hdef hD hE' hev htk hho hI1 hI2 hcl
  refine fin 0 L a w ro σ st hsz hu hsuf hst hsim hN hdef hD hE' hev htk hI2 (fun i hi=>?_)
  by_cases q:onL L i
  ·exact q
  ·have:=Qgo (L:=L) (i:=i) (by have:=ok.len;omega) q
   omega
 |succ fuel ih=>
  intro L a w ro σ st hsz hu hsuf hst hsim hN hdef hD hE' hev htk hho hI1 hI2 hcl
  by_cases hdone:∀i,i<m->onL L i
  ·exact fin (fuel+1) L a w ro σ st hsz hu hsuf hst hsim hN hdef hD hE' hev htk hI2 hdone
  ·have hex:∃i,i<m/\ ¬onL L i:=by
    refine Classical.byContradiction fun q=>hdone fun i hi=>Classical.byContradiction fun z=>q ⟨i,hi,z⟩
   obtain⟨n,hn,hn2⟩:=hex
   obtain⟨i0,h1,h2,h3⟩:=least (p:=fun i=>¬onL L i) (fun i=>Classical.em _) n hn2
   have hlm:=ok.len
   have hi0:l[i0]?=some l[i0]:=List.getElem?_eq_getElem (by omega)
   have hr:i0∈Region.ready .any l.toArray L:=(QaB hsz).2 ⟨_,hi0,h2,fun j hj=>Classical.byContradiction fun z=>h3 j (ok.back i0 _ hi0 j hj) z⟩
   refine⟨fun q=>(by rw[q]at hr;cases hr),fun i hi=>?_⟩
   obtain⟨o,ho,hno,haf⟩:=(QaB hsz).1 hi
   have him:i<m:=by
    rcases Nat.lt_or_ge i m with q|q
    ·exact q
    ·exfalso
     rcases Nat.lt_or_ge m i with z|z
     ·exact hsuf (i-1) (by omega) (haf _ (ok.chain i o z ho))
     ·have:i=m:=by omega
      subst this
      have hre:∀j,QbD l i j->onL L j:=by
       intro j hj
       induction hj with
       |one ho' hj=>rw[ho]at ho';cases ho';exact haf _ hj
       |step _ ho' hj ihr=>exact hcl _ _ ihr ho' _ hj
      exact hn2 (hre n (ok.mid o ho n hn))
   have hrq:∀h∈rq.getD i [],onL L h:=by
    intro h hh
    obtain⟨_,_,q|⟨j,q1,q2,q3⟩⟩:=ok.rqs i o him ho h hh
    ·exact haf h q
    ·exact hI1 j q2 (haf j q1) h q3
   obtain⟨st',hp1,hp2,hp3⟩:=ok.pls i st him hst (fun h hh=>by
    obtain⟨q1,q2,_⟩:=ok.rqs i o him ho h hh
    exact(hI2 h q1 q2).1 (hrq h hh)) (fun q z=>hno ((hI2 i him q).2 z)) (fun h hh hR=>by
    obtain⟨q1,q2⟩:=ok.msh st h hh
    have hon:onL L h:=(hI2 h q1 q2).2 hh
    have hcl2:∀j,QbD l h j->onL L j:=by
     intro j hj
     induction hj with
     |one ho' hj=>exact hcl _ _ hon ho' _ hj
     |step _ ho' hj ihr=>exact hcl _ _ ihr ho' _ hj
    exact hno (hcl2 i hR))
   have hb:=hob i _ him hp1
   refine hb.use ho hsim hN (by rw[hdef];exact hm0.keep hev) (hrd.to hev fun _ q=>q) hho (hlH st hst) hBE (fun j hj s x q1 q2=>hD j s x (haf j hj) q1 q2) (fun s h1=>hE' s (fun j q=>absurd (List.mem_of_getElem? q) (by simpa using h1))) (fun j s h1 h2=>hE' s (fun j' q q'=>?_)) ?_
   ·obtain rfl:=ok.nodup j' j s q h2
    have hj:=List.mem_filter.1 (List.contains_iff_mem.1 h1)
    cases hlj:l[j']? with
    |none=>rw[hlj]at hj;simp at hj
    |some oj=>
     rw[hlj]at hj
     exact hno (hcl j' oj q' hlj i (by simpa using hj.2))
   intro v w' ro' σ' af
   have hext:=af.ext
   have hget:∀s,(∀d,o.dst=some d->s≠d)->(a.put o.dst v).tmps.getD s undef=a.tmps.getD s undef:=by
    intro s hs'
    cases hd:o.dst with
    |none=>rfl
    |some d=>
     simp only[Act.put,Array.getD_eq_getD_getElem?,Array.getElem?_setIfInBounds]
     rw[if_neg (fun q=>hs' d hd q.symm)]
   have hsize:(a.put o.dst v).tmps.size=N:=by
    cases hd:o.dst with
    |none=>simpa[Act.put]using hN
    |some d=>simpa[Act.put]using hN
   have hds:(a.put o.dst v).defers=ds0:=by
    cases hd:o.dst with
    |none=>simpa[Act.put]using hdef
    |some d=>simpa[Act.put]using hdef
   have hu':=Qer (L:=L) (i:=i) (by omega) hno
   have hli:i<L.size:=by omega
   have hnd:∀s j,ds[j]?=some s->j≠i->∀d,o.dst=some d->s≠d:=by
    intro s j hj hji d hd q
    subst q
    rcases ok.dst i o him ho with⟨d',hd',hdi,hdN⟩|hd'
    ·rw[hd]at hd';cases hd'
     exact hji (ok.nodup j i _ hj hdi)
    ·rw[hd]at hd';cases hd'
   refine ih _ _ w' ro' σ' st' (by simpa using hsz) (by omega) (fun j hj q=>?_) hp2 af.sim hsize hds ?_ ?_ (hev.trans af.ev) ?_ af.holes ?_ ?_ ?_
   ·rcases(YU hli).1 q with z|z
    ·omega
    ·exact hsuf j hj z
   ·intro j s y hj hs1 hy
    by_cases hji:j=i
    ·subst hji
     have hv:=af.val y hy
     rcases ok.dst j o him ho with⟨d',hd',hdi,hdN⟩|hd'
     ·obtain rfl:s=d':=Option.some.inj (hs1.symm.trans hdi)
      simp only[hd']at hv⊢
      exact hv
     ·simp only[hd']at hv
      subst hv
      exact trivial
    ·rw[hget s (hnd s j hs1 hji)]
     rcases(YU hli).1 hj with z|z
     ·exact absurd z hji
     ·exact(hD j s y z hs1 hy).mono hext
   ·intro s hs1
    have hne:∀d,o.dst=some d->s≠d:=by
     rintro d hd rfl
     rcases ok.dst i o him ho with⟨d',hd',hdi,hdN⟩|hd'
     ·rw[hd]at hd';cases hd'
      exact hs1 i hdi ((YU hli).2 (.inl rfl))
     ·rw[hd]at hd';cases hd'
    rw[hget s hne]
    exact(hE' s (fun j q z=>hs1 j q ((YU hli).2 (.inr z)))).mono hext
   ·rw[<- htk]
    have:=congrArg (List.take h0) af.take
    rw[List.take_take,List.take_take,Nat.min_eq_left h0B]at this
    exact this
   ·intro j hj hj2 h hh
    refine(YU hli).2 (.inr ?_)
    rcases(YU hli).1 hj2 with z|z
    ·subst z;exact hrq h hh
    ·exact hI1 j hj z h hh
   ·intro j hj hj2
    rw[YU hli]
    cases q:hs.getD i false with
    |false=>
     have hji:j≠i:=by rintro rfl;rw[q]at hj2;cases hj2
     rw[q]at hp3
     simp only[Bool.false_eq_true,if_false]at hp3
     simp only[hji,false_or]
     rw[hp3]
     exact hI2 j hj hj2
    |true=>
     rw[q]at hp3
     simp only[if_true]at hp3
     rw[hp3 j,hI2 j hj hj2]
   ·intro j o' hj ho' j' hj'
    rcases(YU hli).1 hj with z|z
    ·subst z
     rw[ho]at ho';cases ho'
     exact(YU hli).2 (.inr (haf _ hj'))
    ·exact(YU hli).2 (.inr (hcl j o' z ho' j' hj'))
def QcF.dstB(N:Nat):Nat->List Oper->List Nat->Bool
 |_,_,[]=>true
 |i,o::r,d::ds=>(match o.dst with|some d'=>Nat.beq d' d&&Nat.blt d N|none=>true)&&QcF.dstB N (i+1) r ds
 |_,[],_::_=>false
def QcF.rqB(m:Nat)(hs:List Bool)(rq:List (List Nat)):Nat->List Oper->Bool
 |_,[]=>true
 |i,o::r=>(rq.getD i []).all (fun h=>Nat.blt h m&&hs.getD h false&&((Qh o).contains h||(Qh o).any fun j=>Nat.blt j m&&(rq.getD j []).contains h))&&QcF.rqB m hs rq (i+1) r
def QfT(l:List Oper)(h:Nat):List Nat:=match l[h]? with
 |some o=>Qdc l h (Qh o)
 |none=>[]
theorem QgY{l:List Oper}{h j:Nat}(q:j∈QfT l h):QbD l h j:=by
 unfold QfT at q
 cases ho:l[h]? with
 |none=>rw[ho]at q;cases q
 |some o=>rw[ho]at q;exact Qbr h (Qh o) (fun i hi=>.one ho hi) j q
def QcF.plB(l:List Oper)(m:Nat)(hs:List Bool)(rq ms:List (List Nat))(pl:List (List (Nat×Nat))):Bool:=
 (List.range m).all fun i=>(List.range ms.length).all fun st=>((ms.getD st []).any fun h=>(QfT l h).contains i)|| !(rq.getD i []).all ((ms.getD st []).contains ·)||(hs.getD i false&&(ms.getD st []).contains i)||
  (pl.getD i []).any fun p=>Nat.beq p.1 st&&Nat.blt p.2 ms.length&&(bif hs.getD i false then same (ms.getD p.2 []) (i::ms.getD st [])else Nat.beq p.2 st)
def QcF(l:List Oper)(m N:Nat)(ds:List Nat)(hs:List Bool)(rq ms:List (List Nat))(pl:List (List (Nat×Nat))):Bool:=
 Nat.ble m l.length&&(ds.length==m)&&QcF.dstB N 0 l ds&&drawChk.nodupB ds&&drawChk.goB l m 0 l&&QcF.rqB m hs rq 0 l&&(ms.getD 0 []).isEmpty&&Nat.blt 0 ms.length
 &&((List.range ms.length).all fun st=>Nat.beq (st+1) ms.length||(List.range m).any fun i=>hs.getD i false&& !(ms.getD st []).contains i)&&QcF.plB l m hs rq ms pl&&(List.range ms.length).all fun st=>(ms.getD st []).all fun h=>Nat.blt h m&&hs.getD h false
theorem Qee{N:Nat}:∀(l:List Oper) (ds:List Nat) (b:Nat),QcF.dstB N b l ds=true->∀(i d:Nat) (o:Oper),l[i]?=some o->ds[i]?=some d->
  (o.dst=some d/\d<N)\/o.dst=none:=by
 intro l
 induction l with
 |nil=>intro ds b h i d o h1;simp at h1
 |cons x r ih=>
  intro ds b h i d o h1 h2
  cases ds with
  |nil=>simp at h2
  |cons y ds=>
   simp only[QcF.dstB,Bool.and_eq_true]at h
   cases i with
   |zero=>
    simp at h1 h2;subst h1;subst h2
    have h:=h.1
    split at h
    ·rename_i d' hd
     simp only[Bool.and_eq_true]at h
     have e:=Nat.eq_of_beq_eq_true h.1
     subst e
     exact .inl ⟨hd,by simpa using h.2⟩
    ·rename_i hd
     exact .inr hd
   |succ i=>
    have:=ih ds (b+1) h.2 i d o (by simpa using h1) (by simpa using h2)
    exact this
theorem Qh4{m:Nat}{hs:List Bool}{rq:List (List Nat)}:∀(l:List Oper) (b:Nat),QcF.rqB m hs rq b l=true->∀(i:Nat) (o:Oper),l[i]?=some o->
  ∀h∈rq.getD (b+i) [],h<m/\hs.getD h false=true/\(h∈Qh o\/ ∃j∈Qh o,j<m/\h∈rq.getD j []):=by
 intro l
 induction l with
 |nil=>intro b h i o h1;simp at h1
 |cons x r ih=>
  intro b h i o h1
  simp only[QcF.rqB,Bool.and_eq_true]at h
  cases i with
  |zero=>
   simp at h1;subst h1
   intro k hk
   have:=List.all_eq_true.1 h.1 k (by simpa using hk)
   simp only[Bool.and_eq_true,Bool.or_eq_true,List.contains_iff_mem,List.any_eq_true]at this
   obtain⟨⟨q1,q2⟩,q3⟩:=this
   refine⟨by simpa using q1,q2,?_⟩
   rcases q3 with q|⟨j,q4,q5,q6⟩
   ·exact .inl q
   ·exact .inr ⟨j,q4,by simpa using q5,q6⟩
  |succ i=>
   have:=ih (b+1) h.2 i o (by simpa using h1)
   rw[show b+1+i=b+(i+1)by omega]at this
   exact this
theorem QiV{l:List Oper}{m N:Nat}{ds:List Nat}{hs:List Bool}{rq ms:List (List Nat)}{pl:List (List (Nat×Nat))}(h:QcF l m N ds hs rq ms pl=true):
  Qjn l m ds hs rq ms pl N/\0<ms.length:=by
 unfold QcF at h
 simp only[Bool.and_eq_true]at h
 obtain⟨⟨⟨⟨⟨⟨⟨⟨⟨⟨h1,h2⟩,h3⟩,h4⟩,h5⟩,h6⟩,h7⟩,h8⟩,h9⟩,h10⟩,h11⟩:=h
 have hlm:m<=l.length:=Nat.le_of_ble_eq_true h1
 have hds:ds.length=m:=by simpa using h2
 have g:=Qfe l 0 h5
 refine⟨⟨hlm,fun i o hi ho=>?_,hds,QcA h4,fun i o ho=>by have:=(g i o ho).1;simpa using this,fun o ho j hj=>Qbr m (Qh o) (fun i hi=>.one ho hi) j ((g m o ho).2.1 (by omega) j hj),
  fun i o hi ho=>by have:=(g i o ho).2.2 (by omega);simpa using this,fun i o hi ho h hh=>by have:=Qh4 l 0 h6 i o ho h (by simpa using hh);exact this,
  by simpa using h7,fun st hst=>?_,fun st h hh=>?_,fun i st hi hst hr hn hx=>?_⟩,by simpa using h8⟩
 ·have hdi:ds[i]?=some ds[i]:=List.getElem?_eq_getElem (by omega)
  rcases Qee l ds 0 h3 i _ o ho hdi with⟨q1,q2⟩|q1
  ·exact .inl ⟨_,q1,hdi,q2⟩
  ·exact .inr q1
 ·have:=List.all_eq_true.1 h9 st (List.mem_range.2 hst)
  simp only[Bool.or_eq_true,List.any_eq_true,Bool.and_eq_true,Bool.not_eq_true']at this
  rcases this with q|⟨i,q1,q2,q3⟩
  ·exact .inl (Nat.eq_of_beq_eq_true q)
  ·exact .inr ⟨i,List.mem_range.1 q1,q2,fun z=>by rw[List.contains_iff_mem.2 z]at q3;cases q3⟩
 ·have hst:st<ms.length:=by
   rcases Nat.lt_or_ge st ms.length with q|q
   ·exact q
   ·rw[List.getD_eq_getElem?_getD,List.getElem?_eq_none q]at hh;cases hh
  have:=List.all_eq_true.1 (List.all_eq_true.1 h11 st (List.mem_range.2 hst)) h hh
  simp only[Bool.and_eq_true]at this
  exact⟨by simpa using this.1,this.2⟩
 ·have:=List.all_eq_true.1 (List.all_eq_true.1 h10 i (List.mem_range.2 hi)) st (List.mem_range.2 hst)
  simp only[Bool.or_eq_true,Bool.not_eq_true']at this
  rcases this with((q|q)|q)|q
  ·exfalso
   obtain⟨h,hh,q⟩:=List.any_eq_true.1 q
   exact hx h hh (QgY (List.contains_iff_mem.1 q))
  ·exfalso
   have:((rq.getD i []).all ((ms.getD st []).contains ·))=true:=List.all_eq_true.2 fun h hh=>List.contains_iff_mem.2 (hr h hh)
   rw[this]at q;cases q
  ·simp only[Bool.and_eq_true]at q
   exact absurd (List.contains_iff_mem.1 q.2) (hn q.1)
  ·obtain⟨p,hp,q⟩:=List.any_eq_true.1 q
   simp only[Bool.and_eq_true]at q
   obtain⟨⟨q1,q2⟩,q3⟩:=q
   have e:=Nat.eq_of_beq_eq_true q1
   refine⟨p.2,by rw[<- e];exact hp,by simpa using q2,?_⟩
   cases z:hs.getD i false with
   |true=>
    rw[z]at q3
    simp only[cond_true]at q3
    simp only[if_true]
    intro j
    rw[Qju q3 j,List.mem_cons]
   |false=>
    rw[z]at q3
    simp only[cond_false]at q3
    simp only[Bool.false_eq_true,if_false]
    exact Nat.eq_of_beq_eq_true q3
inductive QeV (P:Program) (N:Nat) (l:List Oper) (ds:List Nat) (xs:List A) (env0:Env) (hB hE:Nat):Nat->List (List (Qc×Qc))->Prop
 |nil {i:Nat}:QeV P N l ds xs env0 hB hE i []
 |cons {i:Nat}{s:List (Qc×Qc)}{r:List (List (Qc×Qc))} (h:∀p∈s,Qad P N l ds xs env0 hB hE i p.1 p.2) (k:QeV P N l ds xs env0 hB hE (i+1) r):QeV P N l ds xs env0 hB hE i (s::r)
theorem QeV.get{P:Program}{N:Nat}{l:List Oper}{ds:List Nat}{xs:List A}{env0:Env}{hB hE b:Nat}{ss:List (List (Qc×Qc))}(h:QeV P N l ds xs env0 hB hE b ss):
  ∀(i:Nat) (s:List (Qc×Qc)),ss[i]?=some s->∀p∈s,Qad P N l ds xs env0 hB hE (b+i) p.1 p.2:=by
 induction h with
 |nil=>intro i s h;simp at h
 | @cons b s0 r h _ ih=>
  intro i s hi
  cases i with
  |zero=>simp at hi;subst hi;exact h
  |succ i=>
   have:=ih i s (by simpa using hi)
   rw[show b+1+i=b+(i+1)by omega]at this
   exact this
theorem QA{P:Program}{N:Nat}{l:List Oper}{ds:List Nat}{xs:List A}{env0:Env}{hB hE i:Nat}:∀p∈([]:List (Qc×Qc)),Qad P N l ds xs env0 hB hE i p.1 p.2:=by
 intro p hp;cases hp
theorem Qe{P:Program}{N:Nat}{l:List Oper}{ds:List Nat}{xs:List A}{env0:Env}{hB hE i:Nat}{H H':Qc}{r:List (Qc×Qc)}(h:Qad P N l ds xs env0 hB hE i H H')
  (k:∀p∈r,Qad P N l ds xs env0 hB hE i p.1 p.2):∀p∈(H,H')::r,Qad P N l ds xs env0 hB hE i p.1 p.2:=by
 intro p hp
 rcases List.mem_cons.1 hp with rfl|q
 ·exact h
 ·exact k p q
theorem Qew{P:Program}{h0 N:Nat}{id:Nat}{l:List Oper}{env:Env}{H:Qc}{fr ro:Nat->Prop}{σ:Sig}{a:Act}{w:World}{rd:Option Nat}{R:Exit->Act->World->Prop}(m c:Nat)(ds:List Nat)(hs:List Bool)(rq ms:List (List Nat))(pl:List (List (Nat×Nat)))(xs:List A)(Hs:List Qc)(Hk:Qc)
  (hm:P.follows .mixedOrders=true)(hc:QcF l m N ds hs rq ms pl=true)(hxs:Nat.beq xs.length m=true)(hHs:Nat.beq Hs.length ms.length=true)(h0B:Nat.ble h0 H.length=true)
  (hh:Hs.all (fun X=>Nat.ble (H.length+c) X.length)=true)(h0':Hs[0]?=some (H++List.replicate c .dead))(hk':Hs.getD (ms.length-1) []=Hk)
  (hob:QeV P N l ds xs env H.length (H.length+c) 0 (pl.map fun q=>q.map fun p=>(Hs.getD p.1 [],Hs.getD p.2 [])))(hpl:Nat.beq pl.length m=true)
  (r:Rel fr ro σ H env N a w)(hrd:QcN rd fr w)
  (hk:∀ro' σ' a' w',Rel fr ro' σ' Hk (Qas ds xs env) N a' w'->Qf fr ro w ro' w'->σ'.take h0=σ.take h0->a'.defers=a.defers->wpL P rd l.toArray R (l.drop m) a' w'):(Code.region id l.toArray true).wpIn (WF rd) 0 P R a w:=by
 obtain⟨ok,hpos⟩:=QiV hc
 have hxs':=Nat.eq_of_beq_eq_true hxs
 have hHs':=Nat.eq_of_beq_eq_true hHs
 have hpl':=Nat.eq_of_beq_eq_true hpl
 have hev:Qf fr ro w ro {w with drawn:=w.drawn+1}:=⟨fun _ q=>q,fun _ _=>rfl,fun _ _=>rfl,Nat.le_refl _,fun _ _ q=>q,rfl,rfl,rfl,Nat.le_succ _⟩
 have hext:Ext ro σ w ro (σ++List.replicate c none) {w with drawn:=w.drawn+1}:=hev.ext σ _
 have hle:=r.sim.len
 have hHs0:Hs.getD 0 []=H++List.replicate c .dead:=Qgv h0'
 have hc2:∀(i:Nat) (s:Option Nat) (x:Blk),(σ++List.replicate c none)[i]?=some s->(H++List.replicate c Blk.dead)[i]?=some x->(σ[i]?=some s/\H[i]?=some x)\/(s=none/\x=.dead):=by
  intro i s x h1 h2
  rcases Nat.lt_or_ge i σ.length with q|q
  ·rw[List.getElem?_append_left q]at h1
   rw[List.getElem?_append_left (by omega)]at h2
   exact .inl ⟨h1,h2⟩
  ·rw[List.getElem?_append_right q]at h1
   rw[List.getElem?_append_right (by omega)]at h2
   have a1:=List.mem_of_getElem? h1
   have a2:=List.mem_of_getElem? h2
   exact .inr ⟨(List.mem_replicate.1 a1).2,(List.mem_replicate.1 a2).2⟩
 have hsim:Sim fr ro (σ++List.replicate c none) (H++List.replicate c .dead) {w with drawn:=w.drawn+1}:=by
  refine⟨by simp[hle],r.sim.roOk.to (fun _ q=>q) (fun _ _=>rfl) r.sim.roLt,r.sim.frLt,r.sim.roFr,?_,?_,?_,
   r.sim.hidTo (· = ·) QP (Nat.le_refl _) (fun _ _ _ _ _ _ _ q=>q) (fun _ _ _ _ _ _ _ q=>q) fun j d y g1 g2 g3=>.inl ?_⟩
  rotate_left 3
  ·rcases hc2 j _ _ g1 g2 with⟨q1,q2⟩|⟨q1,_⟩
   ·exact⟨j,y,rfl,q1,q2,(fun z=>z),fun c q=>q⟩
   ·cases q1
  ·intro i b blk h1 h2 h3
   rcases hc2 i _ _ h1 h2 with⟨q1,q2⟩|⟨q1,_⟩
   ·exact r.sim.own i b blk q1 q2 h3
   ·cases q1
  ·intro i j b x y h1 h2 h3 h4 h5 h6
   rcases hc2 i _ _ h1 h3 with⟨q1,q2⟩|⟨q1,_⟩
   ·rcases hc2 j _ _ h2 h4 with⟨q3,q4⟩|⟨q3,_⟩
    ·exact r.sim.inj i j b x y q1 q3 q2 q4 h5 h6
    ·cases q3
   ·cases q1
  ·intro i s x h1 h2
   rcases hc2 i _ _ h1 h2 with⟨q1,q2⟩|⟨q1,q2⟩
   ·exact BR.keep hext (fun b hb _=>rfl) (r.sim.blk i s x q1 q2) (fun _ _ _ _=>rfl)
   ·subst q2;exact trivial
 have hrep:∀i,¬onL (Array.replicate l.length false) i:=by
  intro i q
  unfold onL at q
  rw[Array.getElem?_replicate]at q
  split at q<;>simp at q
 have h0B':=Nat.le_of_ble_eq_true h0B
 refine wpIn_region_any hm ?_
 rw[List.size_toArray]
 refine Qfv ok hxs' hHs' h0B' (Nat.le_add_right _ _) (fun X hX=>Nat.le_of_ble_eq_true (List.all_eq_true.1 hh X hX)) ?_ hk' (ro0:=ro) (σ0:=σ) (w0:=w) (ds0:=a.defers) hk r.defers hrd
  l.length _ a _ ro (σ++List.replicate c none) 0 (by simp) ?_ (fun i _=>hrep i) hpos (by rw[hHs0];exact hsim) r.size rfl (fun i d x q=>absurd q (hrep i)) (fun s _=>(r.env s).mono hext) hev (QK (by omega)) ?_
  (fun i _ q=>absurd q (hrep i)) (fun i _ _=>⟨fun q=>absurd q (hrep i),fun q=>by rw[ok.ms0]at q;cases q⟩) (fun i o q=>absurd q (hrep i))
 ·intro i p hi hp
  have e:(pl.map fun q=>q.map fun p=>(Hs.getD p.1 [],Hs.getD p.2 []))[i]?=some ((pl.getD i []).map fun p=>(Hs.getD p.1 [],Hs.getD p.2 [])):=by
   rw[List.getElem?_map,List.getElem?_eq_getElem (by omega),List.getD_eq_getElem?_getD,List.getElem?_eq_getElem (by omega)]
   rfl
  have:=hob.get i _ e _ (List.mem_map.2 ⟨p,hp,rfl⟩)
  simpa using this
 ·unfold unl
  simp[List.countP_replicate]
 ·intro p h1 h2 h3
  rw[List.getElem?_append_right (by omega),List.getElem?_replicate,if_pos (by omega)]
theorem QaU{P:Program}{h0 N:Nat}{id:Nat}{l:List Oper}{env:Env}{H:Qc}{Q:Qz}(m c:Nat)(ds:List Nat)(hs:List Bool)(rq ms:List (List Nat))(pl:List (List (Nat×Nat)))(xs:List A)(Hs:List Qc)(Hk:Qc)
  (hm:P.follows .mixedOrders=true)(hc:QcF l m N ds hs rq ms pl=true)(hxs:Nat.beq xs.length m=true)(hHs:Nat.beq Hs.length ms.length=true)(h0B:Nat.ble h0 H.length=true)
  (hh:Hs.all (fun X=>Nat.ble (H.length+c) X.length)=true)(h0':Hs[0]?=some (H++List.replicate c .dead))(hk':Hs.getD (ms.length-1) []=Hk)
  (hob:QeV P N l ds xs env H.length (H.length+c) 0 (pl.map fun q=>q.map fun p=>(Hs.getD p.1 [],Hs.getD p.2 [])))(hpl:Nat.beq pl.length m=true)
  (hk:WO P h0 N l.toArray (l.drop m) (Qas ds xs env) Hk Q):TC P h0 N (.region id l.toArray true) env H Q:=by
 intro rd fr ro σ a w r hrd
 refine Code.wpIn_mono (fun e a w q=>Qbo.postW q) (Qew m c ds hs rq ms pl xs Hs Hk hm hc hxs hHs h0B hh h0' hk' hob hpl r hrd fun ro' σ' a' w' hr hev htk hdf=>?_)
 have hkk:=hk rd fr ro' σ' a' w' hr (hrd.to hev fun _ q=>q)
 rw[hdf]at hkk
 exact Yd (fun e a w q=>q.step hev htk) _ _ _ hkk
def draw0(l:List Oper)(m N:Nat)(ds:List Nat):Bool:=Nat.ble m l.length&&(ds.length==m)&&QcF.dstB N 0 l ds&&drawChk.nodupB ds&&drawChk.goB l m 0 l
inductive Oq (P:Program) (N:Nat) (l:List Oper) (ds:List Nat) (xs:List A) (env0:Env) (H:Qc):Nat->Nat->Prop
 |n {i:Nat}:Oq P N l ds xs env0 H i 0
 |c {i c:Nat} (h:Qad P N l ds xs env0 H.length H.length i H H) (k:Oq P N l ds xs env0 H (i+1) c):Oq P N l ds xs env0 H i (c+1)
theorem Oq.get{P:Program}{N:Nat}{l:List Oper}{ds:List Nat}{xs:List A}{env0:Env}{H:Qc}{b c:Nat}(h:Oq P N l ds xs env0 H b c):∀i,i<c->Qad P N l ds xs env0 H.length H.length (b+i) H H:=by
 induction h with
 |n=>intro i hi;omega
 | @c b c h _ ih=>
  intro i hi
  cases i with
  |zero=>exact h
  |succ i=>
   have:=ih i (by omega)
   rw[show b+1+i=b+(i+1)by omega]at this
   exact this
theorem QiW{l:List Oper}{m N:Nat}{ds:List Nat}(h:draw0 l m N ds=true):Qjn l m ds [] [] [[]] (List.replicate m [(0,0)]) N:=by
 unfold draw0 at h
 simp only[Bool.and_eq_true]at h
 obtain⟨⟨⟨⟨h1,h2⟩,h3⟩,h4⟩,h5⟩:=h
 have hlm:m<=l.length:=Nat.le_of_ble_eq_true h1
 have hds:ds.length=m:=by simpa using h2
 have g:=Qfe l 0 h5
 refine⟨hlm,fun i o hi ho=>?_,hds,QcA h4,fun i o ho=>by have:=(g i o ho).1;simpa using this,fun o ho j hj=>Qbr m (Qh o) (fun i hi=>.one ho hi) j ((g m o ho).2.1 (by omega) j hj),
  fun i o hi ho=>by have:=(g i o ho).2.2 (by omega);simpa using this,fun i o hi ho h hh=>by simp at hh,rfl,fun st hst=>.inl (by simp at hst;simp[hst]),fun st h hh=>by cases st<;>simp at hh,fun i st hi hst _ _ _=>?_⟩
 ·have hdi:ds[i]?=some ds[i]:=List.getElem?_eq_getElem (by omega)
  rcases Qee l ds 0 h3 i _ o ho hdi with⟨q1,q2⟩|q1
  ·exact .inl ⟨_,q1,hdi,q2⟩
  ·exact .inr q1
 ·have:st=0:=by simp at hst;exact hst
  subst this
  refine⟨0,?_,by simp,by simp⟩
  rw[List.getD_eq_getElem?_getD,List.getElem?_replicate,if_pos hi]
  exact List.mem_singleton.2 rfl
theorem QbY{P:Program}{h0 N:Nat}{id:Nat}{l:List Oper}{env:Env}{H:Qc}{fr ro:Nat->Prop}{σ:Sig}{a:Act}{w:World}{rd:Option Nat}{R:Exit->Act->World->Prop}(m:Nat)(ds:List Nat)(xs:List A)
  (hm:P.follows .mixedOrders=true)(hc:Go.Sw.draw0 l m N ds=true)(hxs:Nat.beq xs.length m=true)(h0B:Nat.ble h0 H.length=true)
  (hob:Oq P N l ds xs env H 0 m)(r:Rel fr ro σ H env N a w)(hrd:QcN rd fr w)
  (hk:∀ro' σ' a' w',Rel fr ro' σ' H (Qas ds xs env) N a' w'->Qf fr ro w ro' w'->σ'.take h0=σ.take h0->a'.defers=a.defers->wpL P rd l.toArray R (l.drop m) a' w'):(Code.region id l.toArray true).wpIn (WF rd) 0 P R a w:=by
 have ok:=QiW hc
 have hxs':=Nat.eq_of_beq_eq_true hxs
 have hev:Qf fr ro w ro {w with drawn:=w.drawn+1}:=⟨fun _ q=>q,fun _ _=>rfl,fun _ _=>rfl,Nat.le_refl _,fun _ _ q=>q,rfl,rfl,rfl,Nat.le_succ _⟩
 have hext:Ext ro σ w ro σ {w with drawn:=w.drawn+1}:=hev.ext0 σ
 have hsim:Sim fr ro σ H {w with drawn:=w.drawn+1}:=r.sim.heap rfl
 have hrep:∀i,¬onL (Array.replicate l.length false) i:=by
  intro i q
  unfold onL at q
  rw[Array.getElem?_replicate]at q
  split at q<;>simp at q
 refine wpIn_region_any hm ?_
 rw[List.size_toArray]
 refine Qfv (hB:=H.length) (hE:=H.length) (Hs:=[H]) (Hk:=H) ok hxs' rfl (Nat.le_of_ble_eq_true h0B) (Nat.le_refl _) (fun X hX=>by rw[List.mem_singleton.1 hX];exact Nat.le_refl _) ?_ rfl (ro0:=ro) (σ0:=σ) (w0:=w) (ds0:=a.defers) hk r.defers hrd
  l.length _ a _ ro σ 0 (by simp) ?_ (fun i _=>hrep i) (by simp) hsim r.size rfl (fun i d x q=>absurd q (hrep i)) (fun s _=>(r.env s).mono hext) hev rfl (fun p h1 h2=>by omega)
  (fun i _ q=>absurd q (hrep i)) (fun i _ _=>⟨fun q=>absurd q (hrep i),fun q=>by cases q⟩) (fun i o q=>absurd q (hrep i))
 ·intro i p hi hp
  rw[List.getD_eq_getElem?_getD,List.getElem?_replicate,if_pos hi]at hp
  obtain rfl:=List.mem_singleton.1 hp
  have:=hob.get i hi
  rw[Nat.zero_add]at this
  exact this
 ·unfold unl
  simp[List.countP_replicate]
theorem TC.draw0{P:Program}{h0 N:Nat}{id:Nat}{l:List Oper}{env:Env}{H:Qc}{Q:Qz}(m:Nat)(ds:List Nat)(xs:List A)
  (hm:P.follows .mixedOrders=true)(hc:Go.Sw.draw0 l m N ds=true)(hxs:Nat.beq xs.length m=true)(h0B:Nat.ble h0 H.length=true)
  (hob:Oq P N l ds xs env H 0 m)(hk:WO P h0 N l.toArray (l.drop m) (Qas ds xs env) H Q):TC P h0 N (.region id l.toArray true) env H Q:=by
 intro rd fr ro σ a w r hrd
 refine Code.wpIn_mono (fun e a w q=>Qbo.postW q) (QbY m ds xs hm hc hxs h0B hob r hrd fun ro' σ' a' w' hr hev htk hdf=>?_)
 have hkk:=hk rd fr ro' σ' a' w' hr (hrd.to hev fun _ q=>q)
 rw[hdf]at hkk
 exact Yd (fun e a w q=>q.step hev htk) _ _ _ hkk
section
variable {P:Program}{N:Nat}{l:List Oper}{ds af bf:List Nat}{xs:List A}{env0 e r:Env}{H H':Qc}{i hB hE:Nat}{o:Oper}{d s:Nat}{x a:A}
theorem sN:Sb af bf ds xs env0 []:=.nil
theorem sD(j:Nat)(k:Sb af bf ds xs env0 r)(h1:af.contains j=true:=by exact rfl)(h2:ds[j]?=some s:=by exact rfl)(h3:xs[j]?=some a:=by exact rfl):Sb af bf ds xs env0 ((s,a)::r):=.dep j h1 h2 h3 k
theorem sO(s:Nat)(k:Sb af bf ds xs env0 r)(h1:ds.contains s=false:=by exact rfl)(h2:lk env0 s=a:=by exact rfl):Sb af bf ds xs env0 ((s,a)::r):=.old h1 h2 k
theorem Qfw(H:Qc):Qaq hB hE H H=true:=by
 unfold Qaq
 refine List.all_eq_true.2 fun p _=>?_
 cases QbM H[hB+p]? <;>rfl
theorem Om1(ho:l[i]?=some o)(hs:Sb (Qh o) (Qhn l i) ds xs env0 e)(h:WO P H.length N l.toArray [o] e H (YH (up e d x) H'))(hd:o.dst=some d:=by exact rfl)(hx:xs[i]?=some x:=by exact rfl)(hdd:Qaq hB hE H H'=true:=by exact rfl):Qad P N l ds xs env0 hB hE i H H':=
 .mk o e d x ho hd hx hdd hs h
theorem Om2(ho:l[i]?=some o)(hs:Sb (Qh o) (Qhn l i) ds xs env0 e)(h:WO P H.length N l.toArray [o] e H (YH e H'))(hd:o.dst=none:=by exact rfl)(hx:xs[i]?=some .any:=by exact rfl)(hdd:Qaq hB hE H H'=true:=by exact rfl):Qad P N l ds xs env0 hB hE i H H':=
 .unit o e ho hd hx hdd hs h
end
end Go.Sw
