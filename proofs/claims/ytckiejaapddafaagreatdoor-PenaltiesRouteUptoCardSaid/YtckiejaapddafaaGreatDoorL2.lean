/- The rules by which the code is walked, with what they rest on (part 2). -/
import Derived.Test.YtckiejaapddafaaGreatDoorL1
import Derived.Shelf.SlSortCmp.NoneTotal
import Derived.Below
import GoSem.ClaimChange
import Derived.Shelf.Strings.Search3
import Derived.Lib.LazyBuf
import Derived.Shelf.Sort.Plain
import Derived.Shelf.Slices.In.SortNone
import Derived.Shelf.Slices.CompactI
import Derived.RangeFuncIn
import Derived.RangeFuncSeq
import Derived.RangeFuncNested
import Derived.Lib.Bytealg
import Derived.Laws.Externs
import Derived.LaidLaws
import Derived.Lib.LaidTab
import Derived.ChangeArms
import Derived.ChangeSame
set_option linter.unusedVariables false
set_option linter.unusedSectionVars false
set_option linter.unusedSimpArgs false
namespace Go.Sw
def mk{α:Type}(n:Int)(z:α):Option (List α):=bif decide (0<=n)&&decide (n<=4294967296)then some (List.replicate n.toNat z)else none
theorem mk_ok{α:Type}{n:Int}{z:α}{l:List α}(h:mk n z=some l):0<=n/\n<=4294967296/\List.replicate n.toNat z=l:=by
 unfold mk at h;cases q:(decide (0<=n)&&decide (n<=4294967296))with
 |true=>rw[q]at h;simp at q;exact⟨q.1,q.2,X5 h⟩
 |false=>rw[q]at h;cases h
theorem Qgw{α:Type}[Inhabited α](zl:List α)(k:Nat)(hk:zl.length=k)(h0:0<k):∀n,(List.range (n*k)).map (λi=>zl.toArray[i%zl.toArray.size]!)=(List.replicate n zl).flatten
 |0=>by simp
 |n+1=>by
  rw[Xm,List.range_add,Xf,Qgw zl k hk h0 n,List.replicate_succ',Xu];congr 1;simp only[Vs,List.flatten_nil,Vm,List.map_map];apply List.ext_getElem
  .simp[hk]
  .intro i h1 h2;simp only[X7,Xx]at h1;simp only[List.getElem_map,List.getElem_range,Function.comp,List.size_toArray,hk];rw[Nat.mul_comm,Nat.mul_add_mod,Nat.mod_eq_of_lt h1];simp[hk,h1]
section
variable {P:Program} {o:Oper} {env:Env} {H:Qd} {ro:Nat->Prop} {σ:Sig} {w:World}
theorem LR.replicate{az:List A}{l:List Value}(h:LR ro σ w az l):∀n,LR ro σ w (List.replicate n az).flatten (List.replicate n l).flatten
 |0=>rfl
 |n+1=>by
  rw[Xl,Xl];exact h.append (LR.replicate h n)
theorem Qpa{α:Type}{e:α->List A}{T et k:Nat}{x y:Operand}{R M:IntKind}{n:Int}{zv:α}{l:List α}{z:Value}{a:A}(hm:mk n zv=some l)(E:QV P T et k)(hz:∀w,(zeroValue et).run P w=.ok z w)(Q:ZR a z)
  (hk:Yf a=true)(hc:Q8 a=e zv)(hp:(Q8 a).all Ym=true)(p:Nat.beq (e zv).length k=true)
  (ho:o.op=.makeSlice T x y:=by exact rfl)(hx:opA env x=.int R n:=by exact rfl)(hy:opA env y=.int M n:=by exact rfl)
  {fr ro:Nat->Prop}{σ:Sig}{N:Nat}{act:Act}{w:World}(r:Rel fr ro σ H env N act w):∃lv:List Value,(execOp act.eval o).run P w=.ok (.value (.slice (some ⟨w.heap.size,0,none⟩) l.length l.length)) (w.alloc (.cells lv.toArray et))/\
   LR ro [] w (l.map e).flatten lv/\(∀v∈lv,Qp v)/\allK k (l.map e)/\lv.length=l.length*k/\l.length<=4294967296:=by
 obtain⟨n0,n1,hl⟩:=mk_ok hm;have X:=Qg r x;rw[hx]at X;have h2:=Qg r y;rw[hy]at h2;have Y:act.eval x=.int R n:=X;have L:act.eval y=.int M n:=h2;obtain⟨i,hi,ag⟩:=E.bytes;obtain⟨d,c1,c2⟩:=(Q ro [] w).cells hk;have s:d.length=k:=by
  rw[c2.length,hc];exact XW p
 have ae:(if n.toNat*k=0 then(#[]:Array Value)else d.toArray)=d.toArray\/n.toNat*k=0:=by
  by_cases q:n.toNat*k=0
  .exact .inr q
  .exact .inl (Vy q)
 have b:∀(ZZ:Array Value),(ZZ=d.toArray\/n.toNat*k=0)->(Array.range (n.toNat*k)).map (λj=>ZZ[j%ZZ.size]!)=((List.replicate n.toNat d).flatten).toArray:=by
  intro ZZ hZ;by_cases q:n.toNat*k=0
  .rw[q];have:(List.replicate n.toNat d).flatten=[]:=by
    apply VP.1;simp[s,q]
   rw[this];simp
  .obtain rfl:ZZ=d.toArray:=hZ.resolve_right q;have O:0<k:=by
    rcases Nat.eq_zero_or_pos k with h|h
    .rw[h,Nat.mul_zero]at q;exact absurd rfl q
    .exact h
   rw[<- Qgw d k s O n.toNat];simp[XO, <- List.toArray_range]
 have B:=c2.replicate n.toNat;have J:allK k (List.replicate n.toNat (e zv)):=by
  have:∀m,allK k (List.replicate m (e zv)):=by
   intro m
   induction m with
   |zero=>trivial
   |succ m ih=>exact⟨XW p,ih⟩
  exact this _
 have f:∀v∈(List.replicate n.toNat d).flatten,Qp v:=by
  intro v G;obtain⟨m,hm,G⟩:=List.mem_flatten.1 G;rw[List.eq_of_mem_replicate hm]at G;exact c2.plain hp v G
 rw[hc]at B;have g:l.map e=List.replicate n.toNat (e zv):=by rw[<- hl,List.map_replicate]
 have F:l.length=n.toNat:=by rw[<- hl];simp
 refine⟨(List.replicate n.toNat d).flatten,?_,by rw[g];exact B,f,by rw[g];exact J,by rw[F];simp[s],by omega⟩;rw[F]
 .have hw:IntKind.i64.wrap n=n:=by
   unfold IntKind.wrap;simp[IntKind.bits,IntKind.signed];omega
  have ac:∀(x:Nat) (W:World),(askRoom x).run P W=.ok () W:=by
   intro x W;unfold askRoom;split<;>rfl
  have t:∀(c:Array Value) (W:World),(newRow et c).run P W=.ok ⟨W.heap.size,0,none⟩ (W.alloc (.cells c et)):=λc W=>rfl;have aa:¬(n<0):=by omega
  have V:¬((i.bytes:Int)*n>2^48):=by
   have X:(i.bytes:Int)*n<=4096*4294967296:=Int.mul_le_mul (by omega) n1 n0 (by omega);omega
  have u:(Instr.makeSlice T (.int R n) (.int M n)).run P w=.ok (.slice (some ⟨w.heap.size,0,none⟩) n.toNat n.toNat) (w.alloc (.cells ((List.replicate n.toNat d).flatten).toArray et)):=by
   have af:¬(n>n):=by omega
   have ab:∀(k:IntKind) (m:Int) (W:World),(asInt (.int k m)).run P W=.ok m W:=λk m W=>rfl;unfold Instr.makeSlice;simp only[Vt,E.sl,E.size,hi,Result.andThen,ab,Vu,hw,ac,XN];rw[Vy (by simp[aa,V];omega)];by_cases q:n.toNat*k=0
   .simp only[q,if_true,Vu];have:=b #[] (.inr q);rw[q]at this;simp only[this,t]
   .simp only[q,if_false,hz,Vu,c1,b d.toArray (.inl rfl),t]
  generalize act.eval=ρ at*;simp only[execOp,ho,Y,L,Vt,u,Result.andThen];rfl
theorem QpK{α:Type}{e:α->List A}{T et k:Nat}{x y:Operand}{J m:IntKind}{n:Int}{zv:α}{l:List α}{z:Value}{a:A}(u:mk n zv=some l)(E:QV P T et k)(i:∀w,(zeroValue et).run P w=.ok z w)(d:ZR a z)
  (g:Yf a=true)(G:Q8 a=e zv)(L:(Q8 a).all Ym=true)(b:Nat.beq (e zv).length k=true)
  (h:o.op=.makeSlice T x y:=by exact rfl)(hx:opA env x=.int J n:=by exact rfl)(hy:opA env y=.int m n:=by exact rfl):
  OpH P o env H (.osl H.length 0 l.length k) (H++[.row et k (l.map e)]):=by
 intro Q j σ N act w r;obtain⟨q,M,p,B,F,s,O⟩:=Qpa u E i d g G L b h hx hy r;have f:=r.sim.allocRow (t:=et) (rest:=[]) F p B;rw[Vm]at f;refine⟨_,_,j,[some w.heap.size],M,.inr ⟨w.heap.size,0,l.length,et,q.length,?_,rfl,λ_=>by simp,⟨XZ _,by omega⟩,?_,by rw[s,XA];exact XZ _⟩,f,Qh.alloc _ r.sim.roLt r.sim.frLt⟩
 .rw[<- r.sim.len];simp
 .unfold World.shape?;rw[Q6];simp
end
end Go.Sw
namespace Go.Sw
open Go.Sort Go.Proofs Go.Shelf
section
variable {α:Type}
def ins(lt:α->α->Bool)(x:α):List α->List α
 |[]=>[x]
 |y::l=>bif lt y x then y::ins lt x l else x::y::l
def Yn(lt:α->α->Bool):List α->List α
 |[]=>[]
 |x::l=>ins lt x (Yn lt l)
theorem Qfo(lt:α->α->Bool)(x:α):∀l,(ins lt x l).Perm (x::l)
 |[]=>.refl _
 |y::l=>by
  unfold ins;cases lt y x
  .exact .refl _
  .exact((Qfo lt x l).cons y).trans (List.Perm.swap _ _ _)
theorem Qn(lt:α->α->Bool):∀l,(Yn lt l).Perm l
 |[]=>.refl _
 |x::l=>(Qfo lt x _).trans ((Qn lt l).cons x)
structure Qej (lt:α->α->Bool) (l:List α):Prop where
 irrefl:∀x∈l,lt x x=false
 trans:∀x∈l,∀y∈l,∀z∈l,lt x y=true->lt y z=true->lt x z=true
 ntrans:∀x∈l,∀y∈l,∀z∈l,lt x y=false->lt y z=false->lt x z=false
theorem Qej.mono{lt:α->α->Bool}{l m:List α}(h:Qej lt l)(hm:∀x∈m,x∈l):Qej lt m:=
 ⟨λx hx=>h.irrefl x (hm x hx),λx hx y hy z hz=>h.trans x (hm x hx) y (hm y hy) z (hm z hz),λx hx y hy z hz=>h.ntrans x (hm x hx) y (hm y hy) z (hm z hz)⟩
theorem Qej.asymm{lt:α->α->Bool}{l:List α}(h:Qej lt l){x y:α}(b:x∈l)(d:y∈l)(a:lt x y=true):lt y x=false:=by
 cases q:lt y x
 .rfl
 .rw[<- h.irrefl x b,h.trans x b y d x b a q]
theorem Qfn{lt:α->α->Bool}{x:α}:∀{l:List α},Qej lt (x::l)->l.Pairwise (λa b=>lt b a=false)->(ins lt x l).Pairwise (λa b=>lt b a=false)
 |[],_,_=>by simp[ins]
 |y::l,h,hp=>by
  obtain⟨h1,h2⟩:=Xc.1 hp;unfold ins;cases q:lt y x
  .refine Xc.2 ⟨λz hz=>?_,hp⟩;rcases Vc.1 hz with rfl|hz
   .exact q
   .exact h.ntrans z (by simp[hz]) y (by simp) x (by simp) (h1 z hz) q
  .refine Xc.2 ⟨λz hz=>?_,Qfn (h.mono (by intro z hz;rcases Vc.1 hz with rfl|hz<;>simp[*])) h2⟩;rcases Vc.1 ((Qfo lt x l).mem_iff.1 hz)with rfl|hz
   .exact h.asymm (by simp) (by simp) q
   .exact h1 z hz
theorem QT{lt:α->α->Bool}:∀{l:List α},Qej lt l->(Yn lt l).Pairwise (λa b=>lt b a=false)
 |[],_=>by simp[Yn]
 |x::l,h=>Qfn (h.mono (by
   intro z hz;rcases Vc.1 hz with rfl|hz
   .simp
   .exact Vb _ ((Qn lt l).mem_iff.1 hz))) (QT (h.mono λz hz=>Vb _ hz))
theorem Jp{lt:α->α->Bool}:∀{l m:List α},l.Perm m->(∀x∈l,∀y∈l,lt x y=false->lt y x=false->x=y)->l.Pairwise (λa b=>lt b a=false)->m.Pairwise (λa b=>lt b a=false)->l=m
 |[],m,h,_,_,_=>by rw[List.nil_perm.1 h]
 |x::l,[],h,_,_,_=>by have:=h.length_eq;simp at this
 |x::l,y::m,h,ha,hl,hm=>by
  obtain⟨l1,l2⟩:=Xc.1 hl;obtain⟨m1,m2⟩:=Xc.1 hm;have hy:y∈x::l:=h.mem_iff.2 (by simp);have hx:x∈y::m:=h.mem_iff.1 (by simp);have hxy:x=y:=by
   rcases Vc.1 hy with e|d
   .exact e.symm
   .rcases Vc.1 hx with e|i
    .exact e
    .exact ha x (by simp) y (by simp[d]) (m1 x i) (l1 y d)
  subst hxy;rw[Jp ((List.perm_cons x).1 h) (λa f b g=>ha a (by simp[f]) b (by simp[g])) l2 m2]
def ltO(cf:α->α->Option Int)(x y:α):Bool:=match cf x y with
 |some c=>decide (c<0)
 |none=>false
def Qi6[DecidableEq α](cf:α->α->Option Int)(l:List α):Bool:=
 l.all λx=> !ltO cf x x&&l.all λy=>(cf x y).isSome&&(ltO cf x y||ltO cf y x||decide (x=y))&&l.all λz=>(!ltO cf x y|| !ltO cf y z||ltO cf x z)&&(ltO cf x y||ltO cf y z|| !ltO cf x z)
def QbQ[DecidableEq α](cf:α->α->Option Int)(l:List α):Option (List α):=bif Nat.ble l.length Qt&&Qi6 cf l then some (Yn (ltO cf) l)else none
theorem QcT[DecidableEq α]{cf:α->α->Option Int}{l l':List α}(h:QbQ cf l=some l'):
  l.length<=Qt/\(∀x∈l,∀y∈l,∃c,cf x y=some c)/\Qej (ltO cf) l/\(∀x∈l,∀y∈l,ltO cf x y=false->ltO cf y x=false->x=y)/\Yn (ltO cf) l=l':=by
 unfold QbQ at h;cases i:Nat.ble l.length Qt with
 |false=>rw[i]at h;cases h
 |true=>
 rw[i,VG]at h;cases q:Qi6 cf l with
 |false=>rw[q]at h;cases h
 |true=>
  rw[q]at h;refine⟨XX i,?_⟩;unfold Qi6 at q;simp only[Xv,X3,Bool.not_eq_true',Bool.or_eq_true,Vx]at q;refine⟨λx b y d=>Option.isSome_iff_exists.1 ((q x b).2 y d).1.1,⟨λx b=>(q x b).1,λx b y d z g e f=>?_,λx b y d z g e f=>?_⟩,λx b y d e f=>?_,X5 h⟩
  .rcases(((q x b).2 y d).2 z g).1 with(a|a)|a
   .rw[e]at a;cases a
   .rw[f]at a;cases a
   .exact a
  .rcases(((q x b).2 y d).2 z g).2 with(a|a)|a
   .rw[e]at a;cases a
   .rw[f]at a;cases a
   .exact a
  .rcases((q x b).2 y d).1.2 with(a|a)|a
   .rw[e]at a;cases a
   .rw[f]at a;cases a
   .exact a
theorem QmR[DecidableEq α]{cf:α->α->Option Int}{l:List α}(h:l.length<=Qt)(c:α->α->Int)(m:∀x∈l,∀y∈l,cf x y=some (c x y))(hi:∀x∈l,¬c x x<0)
  (r:∀x∈l,∀y∈l,∀z∈l,c x y<0->c y z<0->c x z<0)(p:∀x∈l,∀y∈l,∀z∈l,¬c x y<0->¬c y z<0->¬c x z<0)(n:∀x∈l,∀y∈l,¬c x y<0->¬c y x<0->x=y):
  QbQ cf l=some (Yn (ltO cf) l):=by
 have g:∀x∈l,∀y∈l,ltO cf x y=decide (c x y<0):=λx e y f=>by unfold ltO;rw[m x e y f]
 have q:Qi6 cf l=true:=by
  unfold Qi6;simp only[Xv,X3,Bool.not_eq_true',Bool.or_eq_true,Vx];intro x e;refine⟨by rw[g x e x e];simpa using hi x e,λy f=>⟨⟨by rw[m x e y f];rfl,?_⟩,λz i=>?_⟩⟩
  .rw[g x e y f,g y f x e];by_cases j:c x y<0
   .simp[j]
   .by_cases k:c y x<0
    .simp[k]
    .exact .inr (n x e y f j k)
  .rw[g x e y f,g y f z i,g x e z i];have j:=r x e y f z i;have k:=p x e y f z i;by_cases a:c x y<0<;>by_cases b:c y z<0<;>by_cases d:c x z<0<;>simp_all
 unfold QbQ;rw[q,XY h];rfl
theorem QaK[DecidableEq α]{cf:α->α->Option Int}{l l':List α}(h:QbQ cf l=some l'):l.length=l'.length:=by
 rw[<- (QcT h).2.2.2.2];exact(Qn _ _).length_eq.symm
theorem YB{l l':List α}{i:Int}{x:α}(h:QbN l i x=some l'):l.length=l'.length:=by
 unfold QbN at h;cases q:(decide (0<=i)&&decide (i<(l.length:Int)))with
 |true=>rw[q]at h;rw[<- X5 h];simp
 |false=>rw[q]at h;cases h
theorem Qo{h0:Nat}{env:Env}{H:Qd}{s:Nat}{a a':A}(h:lk env s=a)(e:a=a'):Le h0 env H (up env s a') H:=by
 intro f d σ N act w r;refine⟨d,σ,⟨r.sim,λb=>?_,r.size,r.defers⟩,λ_ q=>q,rfl⟩;subst e;have:lk (up env s a) b=lk env b:=by
  simp only[lk];cases q:Nat.beq b s with
  |true=>rw[XW q,h];rfl
  |false=>rfl
 rw[this];exact r.env b
end
section
variable {fr ro:Nat->Prop} {σ:Sig} {H:Qd} {w w':World}
theorem Qec(hh:∀b,b<w.heap.size->w'.heap[b]?=w.heap[b]?)(hro:∀b,ro b->b<w.heap.size)(σ:Sig):Ext ro σ w ro σ w':=
 ⟨λ_ q=>q,λb hb=>hh b (hro b hb),λb x hx=>by unfold World.shape? at hx⊢;rw[hh b (QbR hx)];exact hx,λ_ _ q=>q⟩
theorem Sim.grown(s:Sim fr ro σ H w)(a:∀b,b<w.heap.size->w'.heap[b]?=w.heap[b]?)(g:w.heap.size<=w'.heap.size):Sim fr ro σ H w':=by
 refine⟨s.len,s.roOk.to (λ_ q=>q) (λb q=>a b (s.roLt b q)) (λb h=>Vl (s.roLt b h) g),λb h=>Vl (s.frLt b h) g,s.roFr,λi b x e f n=>?_,s.inj,λi y x e f=>?_,s.hidTo (· = ·) Q0 g (λ_ _ _ _ _ _ _ q=>q) (λ_ _ _ _ _ _ _ q=>q) λj d y m l r=>.inl ⟨j,y,rfl,m,l,id,λc q=>s.hidKeep m l (λz=>a d (s.own j d y m l z).1) (λb q=>a b (s.roLt b q)) q⟩⟩
 .obtain⟨p,q⟩:=s.own i b x e f n;exact⟨Vl p g,q⟩
 .refine(s.blk i y x e f).keep (Qec a s.roLt σ) ?_ ?_
  .rintro b rfl k;exact a b (s.own i b x e f k).1
  .rintro b c rfl k;exact a c (s.hid i b x c e f k).lt
theorem Qh.grown(hh:∀b,b<w.heap.size->w'.heap[b]?=w.heap[b]?)(hs:w.heap.size<=w'.heap.size)(s:Sim fr ro σ H w)(ho:w'.os=w.os)(ht:w'.tape=w.tape)(hu:w'.output=w.output)(hd:w.drawn<=w'.drawn):Qh fr ro w ro w':=
 ⟨λ_ q=>q,λb h=>hh b (s.roLt b h),λb h=>hh b (s.frLt b h),hs,(Qec hh s.roLt σ).shape,ho,ht,hu,hd⟩
theorem Qk1(f:∀b,b<w.heap.size->w'.heap[b]?=w.heap[b]?)(k:w.heap.size<=w'.heap.size)(d:w'.os=w.os)(g:w'.tape=w.tape)(e:w'.output=w.output)(n:w.drawn<=w'.drawn):
  ∃q os',w'=grow (w.drewN q) os':=by
 refine⟨w'.drawn-w.drawn,w'.heap.extract w.heap.size w'.heap.size,?_⟩;obtain⟨a,s,j,t,r⟩:=w';simp only at f k d g e n;subst d g e;unfold grow World.drewN;have l:a=w.heap++a.extract w.heap.size a.size:=by
  apply Array.ext_getElem?;intro i;rw[Array.getElem?_append];split
  .rename_i h;exact f i h
  .rename_i h;rw[Array.getElem?_extract];split
   .rename_i m;congr 1;omega
   .rename_i m;rw[Array.getElem?_eq_none];omega
 have p:j=w.drawn+(j-w.drawn):=by omega
 rw[<- l, <- p]
end
end Go.Sw
namespace Go.Sw
open Go.Sort Go.Proofs Go.Shelf
theorem Qea{α:Type}{k:Nat}:∀(vs:List (List α)) (j:Nat),(∀v∈vs,v.length=k)->j<vs.length*k->vs.flatten[j]?=(vs[j/k]?).bind λv=>v[j%k]?
 |[],j,_,h=>by simp at h
 |v::vs,j,hk,h=>by
  have hv:=hk v (by simp);have k0:0<k:=by
   rcases Nat.eq_zero_or_pos k with q|q
   .subst q;simp at h
   .exact q
  rw[Vs];by_cases q:j<k
  .rw[XS (by omega),Nat.div_eq_of_lt q,Nat.mod_eq_of_lt q];simp
  .rw[XT (by omega),hv,Qea vs (j-k) (λv hv=>hk v (by simp[hv])) (by simp[Xm]at h;omega)];have a:j/k=(j-k)/k+1:=by rw[Nat.div_eq_sub_div k0 (by omega)]
   have b:j%k=(j-k)%k:=Nat.mod_eq_sub_mod (by omega);rw[a,b,XL]
theorem Qap{α:Type}{k:Nat}:∀(vs:List (List α)),(∀v∈vs,v.length=k)->vs.flatten.length=vs.length*k
 |[],_=>by simp
 |v::vs,h=>by rw[Vs,X8,Qap vs (λv hv=>h v (by simp[hv])),h v (by simp),X6,Xm];omega
theorem Jc{α:Type}(F:List α)(j:Nat):F.toArray[j]?=F[j]? :=by simp
theorem Qfs{α:Type}[Inhabited α](F:List α)(j:Nat)(h:j<F.length):F[j]?=some (F.toArray[j]!):=by simp[h]
theorem QiJ{β:Type}[Inhabited β]{enc:β->List Value}{k:Nat}(b:∀x,(enc x).length=k)(d:Array β):flatK enc k d=((d.toList.map enc).flatten).toArray:=by
 have a:∀v∈d.toList.map enc,v.length=k:=by
  intro v g;obtain⟨x,_,rfl⟩:=Xe.1 g;exact b x
 apply Array.ext_getElem?;intro t;rw[Jc ((d.toList.map enc).flatten) t];by_cases h:t<d.size*k
 .rw[Qea _ t a (by simpa using h)];have i:0<k:=by
   rcases Nat.eq_zero_or_pos k with q|q
   .subst q;simp at h
   .exact q
  have j:t/k<d.size:=Nat.div_lt_of_lt_mul (by rw[Nat.mul_comm];exact h);have l:t%k<k:=Nat.mod_lt _ i;have f:t<(flatK enc k d).size:=by simpa using h
  have e:=get_flatK enc k d t h;rw[getElem!_pos (flatK enc k d) t f]at e;rw[Array.getElem?_eq_getElem f,e];simp[j];rw[XQ (by rw[b];exact l)];rfl
 .have e:(d.toList.map enc).flatten.length=d.size*k:=by rw[Qap _ a];simp
  rw[Array.getElem?_eq_none (by simpa using h),XU (by rw[e];omega)]
section
variable {ro:Nat->Prop} {σ:Sig} {w:World} {T:Type} {enc:T->List A} {k:Nat}
theorem RL.parts:∀{l:List T} {lv:List Value},RL ro σ w k (l.map enc) lv->
  ∃(ps:List (T×List Value)) (rest:List Value),ps.map (·.1)=l/\lv=(ps.map (·.2)).flatten++rest/\ ∀p∈ps,p.2.length=k/\LR ro σ w (enc p.1) p.2/\ ∀v∈p.2,Qp v
 |[],lv,_=>⟨[],lv,rfl,rfl,by simp⟩
 |x::l,lv,h=>by
  obtain⟨l1,l2,rfl,h1,⟨h2,h3⟩,h4⟩:=h;obtain⟨ps,rest,e1,rfl,h5⟩:=RL.parts (l:=l) h4;refine⟨(x,l1)::ps,rest,by simp[e1],by simp,?_⟩;intro p hp;rcases Vc.1 hp with rfl|hp
  .exact⟨by rw[h2.length];exact h1,h2,h3⟩
  .exact h5 p hp
theorem Qb8(hk:∀x:T,(enc x).length=k):∀{ps:List (T×List Value)} {rest:List Value},(∀p∈ps,LR ro σ w (enc p.1) p.2/\ ∀v∈p.2,Qp v)->RL ro σ w k ((ps.map (·.1)).map enc) ((ps.map (·.2)).flatten++rest)
 |[],_,_=>trivial
 |p::ps,rest,h=>by
  refine⟨p.2,(ps.map (·.2)).flatten++rest,by simp,hk _,h p (by simp),Qb8 hk λq hq=>h q (by simp[hq])⟩
end
structure Elt (ro:Nat->Prop) (w:World) {T:Type} (enc:T->List A) (k:Nat) (l:List T) where
 x:T
 vs:List Value
 mem:x∈l
 len:vs.length=k
 rel:LR ro [] w (enc x) vs
 plain:∀v∈vs,Qp v
theorem Qgx{v:Value}(h:Qp v):v.oneCell'=true:=by cases v<;>first|rfl|exact h.elim
theorem QpO{P:Program}{ρ:Ren}(L:SlLaysF0.n6 P ρ){T:Type}[DecidableEq T]{enc:T->List A}{k t g:Nat}{cap:List A}{l l':List T}{cf:T->T->Option Int}(hs:QbQ cf l=some l')
  (a3:∀x y c,cf x y=some c->C P g ([.agg (enc x),.agg (enc y)]++cap) [] (λa H=>a=.int .i64 c/\H=[]))
  (aE:∀w,(isAgg (ρ.t 24)).run P w=.ok true w)(zE:∀w,(Go.sizeOf (ρ.t 24)).run P w=.ok k w)(eg:∀args w,(callFunc g args).run P w=.ok (.enter g args) w)
  (hk:∀x,(enc x).length=k)(hd:Yo cap=true):
  C P (ρ.f 6) [.osl 0 0 l.length k,.fn (.func g) [] cap] [.row t k (l.map enc)] (λa H=>a=.tup []/\H=[.row t k (l'.map enc)]):=by
 intro fr J σ vals w s hv;obtain⟨vs,r1,rfl,bm,vf,r2,rfl,br,hr⟩:=hv;cases(show r2=[]from hr);obtain⟨lf,lc,rfl,h1,a1⟩:=br;cases(show lf=[]from h1);have aw:LR J [] w cap lc:=LR.data hd a1;obtain⟨bb,al,N,aq,az⟩:=QcT hs;have E:∀(ad:Option Addr) (c:Nat),vs=.slice ad 0 c->l=[]->
   Calls P (ρ.f 6) [vs,.func (.func g) #[] lc.toArray].toArray w λe w'=>∃v r H' ae τ,e=.returned v/\(r=.tup []/\H'=[.row t k (l'.map enc)])/\Sim fr ae (σ++τ) H' w'/\VR ae (σ++τ) w' r v/\Qh fr J w ae w':=by
  rintro ad c rfl rfl;have ah:l'=[]:=by rw[<- az];rfl
  subst ah;refine(AnyF.slices_SortFunc_none L ad c (.func (.func g) #[] lc.toArray) w).mono ?_;rintro e w' ⟨rfl,rfl⟩;exact⟨_,_,_,J,[],rfl,⟨rfl,rfl⟩,by simpa using s,⟨[],rfl,rfl⟩,Qh.refl _ _ _⟩
 rcases bm with⟨h0,rfl⟩|⟨b,p,cp,t',m,q1,rfl,q2,⟨q3,bs⟩,q4,q5⟩
 .exact E none 0 rfl (VP.1 h0)
 .by_cases ah:l=[]
  .subst ah;exact E _ cp rfl rfl
  .have bl:0<l.length:=List.length_pos_iff.2 ah;obtain rfl:=q2 (Vl bl q3);obtain⟨lv,e1,e2⟩:=s.blk 0 _ _ q1 rfl;obtain⟨hb,ak,a8⟩:=s.own 0 b _ q1 rfl rfl;obtain⟨V,G,bc,rfl,af⟩:=RL.parts e2
   let α:=Elt J w enc k l
   have a0:∀p∈V,p.1∈l:=λp hp=>by rw[<- bc];exact VM hp
   let ds:List α:=V.attach.map λp=>⟨p.1.1,p.1.2,a0 _ p.2,(af _ p.2).1,(af _ p.2).2.1,(af _ p.2).2.2⟩
   have a6:∀{γ:Type} (f:T×List Value->γ),V.attach.map (λp=>f p.1)=V.map f:=λf=>by simp
   have Q:ds.map (·.x)=l:=by
    show(V.attach.map _).map _=_;rw[List.map_map];exact(a6 (·.1)).trans bc
   have ai:ds.map (·.vs)=V.map (·.2):=by
    show(V.attach.map _).map _=_;rw[List.map_map];exact a6 (·.2)
   have ay:ds.length=l.length:=by rw[<- Q];simp
   have a2:ds≠[]:=by intro q;rw[q]at ay;simp at ay;omega
   let inh:Inhabited α:=⟨ds.head a2⟩
   let enc':α->List Value:=λa=>a.vs
   let cf':α->α->Int:=λx y=>(cf x.x y.x).getD 0
   have ac:∀x y:α,ltOf cf' x y=ltO cf x.x y.x:=by
    intro x y;obtain⟨c,B⟩:=al x.x x.mem y.x y.mem;simp only[ltOf,ltO,cf',B,Option.getD_some]
   have hO:SWO (ltOf cf'):=⟨λx=>by rw[ac];exact N.irrefl _ x.mem,λx y z a b=>by rw[ac]at*;exact N.trans _ x.mem _ y.mem _ z.mem a b,
    λx y z a b=>by rw[ac]at*;exact N.ntrans _ x.mem _ y.mem _ z.mem a b⟩
   have aa:∀x:α,(enc' x).length=k:=λx=>x.len;have ao:flatK enc' k ds.toArray=((V.map (·.2)).flatten).toArray:=by
    rw[QiJ aa];show((ds.map λa=>a.vs).flatten).toArray=_;rw[ai]
   have bd:∀v∈V.map (·.2),v.length=k:=by
    intro v hv;obtain⟨p,hp,rfl⟩:=Xe.1 hv;exact(af p hp).1
   have X:(V.map (·.2)).flatten.length=ds.length*k:=by rw[Qap _ bd, <- ai];simp
   have hH:HoldsK enc' k w b (0*k) ds.toArray:=by
    intro j hj;rw[ao]at hj⊢;simp only[List.size_toArray]at hj;constructor
    .unfold World.cell?;simp only[e1,Option.isSome_none,Xi,if_false,Nat.zero_mul,XA];rw[Jc,XS hj];exact Qfs _ _ hj
    .unfold World.frozen?;simp only[e1];simp
   have ax:∀(d:Array α),d.size=ds.toArray.size->(putRowK enc' k w b (0*k) d).heap=w.heap.setIfInBounds b (.cells (((d.toList.map enc').flatten++G)).toArray t (0,0)):=by
    intro d u;have ag:(d.toList.map enc').flatten.length=(V.map (·.2)).flatten.length:=by
     rw[Qap _ (k:=k) (by intro v hv;obtain⟨x,_,rfl⟩:=Xe.1 hv;exact aa x),X];simp at u⊢;rw[u]
    unfold putRowK putRow mapBlock;show w.heap.modify b _=_;rw[Qbh e1];simp only[onCells];congr 2;rw[QiJ aa];unfold putCells;apply Array.ext_getElem?;intro i;simp only[Array.getElem?_mapIdx,Jc,Nat.zero_mul,X0,true_and,XA,Xz,List.size_toArray,id_eq];by_cases hi:i<(d.toList.map enc').flatten.length
    .rw[XS hi,XS (by rw[<- ag];exact hi),XQ (by rw[<- ag];exact hi),Qfs _ _ hi];exact congrArg some (Vz hi)
    .rw[XT (by omega),XT (by omega),ag];cases(G[i-(V.map (·.2)).flatten.length]?)with
     |none=>rfl
     |some v=>
      rw[<- ag];exact congrArg some (Vy hi)
   have R:∀(m:Nat) (os:Array Obj) (d:Array α),d.size=ds.toArray.size->
     (∀c,c<w.heap.size->c≠b->(sortWorldK enc' k w b (0*k) m d os).heap[c]?=w.heap[c]?)/\(sortWorldK enc' k w b (0*k) m d os).heap[b]?=some (.cells (((d.toList.map enc').flatten++G)).toArray t (0,0))/\
     w.heap.size<=(sortWorldK enc' k w b (0*k) m d os).heap.size:=by
    intro m os d u;have e:(sortWorldK enc' k w b (0*k) m d os).heap=w.heap.setIfInBounds b (.cells (((d.toList.map enc').flatten++G)).toArray t (0,0))++os:=by
     rw[<- ax d u];rfl
    rw[e];refine⟨λc B bk=>?_,?_,by simp⟩
    .rw[Array.getElem?_append_left (by simpa using B),Vk,Vy (λq=>bk q.symm)]
    .rw[Array.getElem?_append_left (by simpa using hb),Vk,Vz rfl,Vz hb]
   have O:∀(m:Nat) (os:Array Obj) (d:Array α),d.size=ds.toArray.size->∀c y,w.shape? c=some y->(sortWorldK enc' k w b (0*k) m d os).shape? c=some y:=by
    intro m os d u c y hy;obtain⟨g1,g2,g3⟩:=R m os d u;by_cases B:c=b
    .subst B;unfold World.shape? at hy⊢;rw[e1]at hy;rw[g2];simp only[Option.some.injEq]at hy⊢;rw[<- hy];congr 1;simp only[List.size_toArray,X8];rw[Qap _ (k:=k) (by intro v hv;obtain⟨x,_,rfl⟩:=Xe.1 hv;exact aa x),X];simp at u⊢;rw[u]
    .unfold World.shape? at hy⊢;rw[g1 c (QbR hy) B];exact hy
   have aj:∀(m:Nat) (os:Array Obj) (d:Array α),d.size=ds.toArray.size->∀τ,Ext J τ w J τ (sortWorldK enc' k w b (0*k) m d os):=by
    intro m os d u τ;obtain⟨g1,g2,g3⟩:=R m os d u;exact⟨λ_ q=>q,λc B=>g1 c (s.roLt c B) (λq=>ak (q▸B)),O m os d u,λ_ _ q=>q⟩
   have bg:CmpLays P g lc.toArray enc' k cf' b (0*k) ds.toArray.size w:=by
    intro m os dk a5 x y;obtain⟨c,B⟩:=al x.x x.mem y.x y.mem;have F:=aj m os dk a5 [];have bp:=a3 _ _ _ B;generalize hW:sortWorldK enc' k w b (0*k) m dk os=W at*;have bi:w.heap.size<=W.heap.size:=by rw[<- hW];exact(R m os dk a5).2.2
    have sW:Sim (λc=>c<W.heap.size/\ ¬J c) J [] [] W:=
     ⟨rfl,s.roOk.to (λ_ q=>q) F.keep (λc B=>Vl (s.roLt c B) bi),λc B=>B.1,λc B hf=>hf.2 B,λi b x h=>by simp at h,λi j b x y h=>by simp at h,λi y x h=>by simp at h,λi b x c h=>by simp at h⟩
    have an:LR J [] W ([.agg (enc x.x),.agg (enc y.x)]++cap) ([.agg x.vs.toArray,.agg y.vs.toArray]++lc):=
     LR.append (show LR J [] W [A.agg (enc x.x),A.agg (enc y.x)] [Value.agg x.vs.toArray,Value.agg y.vs.toArray]from⟨_,_,rfl,⟨x.vs,rfl,x.rel.mono F⟩,_,_,rfl,⟨y.vs,rfl,y.rel.mono F⟩,rfl⟩) (aw.mono F)
    have M:=bp _ J [] _ W sW an;have bh:(([Value.agg x.vs.toArray,Value.agg y.vs.toArray]++lc).toArray:Array Value)= #[Value.agg (enc' x).toArray,Value.agg (enc' y).toArray]++lc.toArray:=by simp[enc']
    rw[bh]at M;refine M.mono ?_;rintro e w' ⟨v,r,H',ae,τ,rfl,⟨rfl,rfl⟩,s',bj,ev⟩;refine⟨?_,?_⟩
    .rw[show v=.int .i64 c from bj];simp only[cf',B,Option.getD_some]
    .refine Qk1 (λc B=>?_) ev.size ev.os ev.tape ev.output ev.drawn;by_cases a4:J c
     .exact ev.keepRo c a4
     .exact ev.keepFr c ⟨B,a4⟩
   have ab:ds.toArray.size=l.length:=by simpa using ay
   have am:=AnyQ.slices_SortFunc L k aE zE enc' aa (λx v hv=>Qgx (x.plain v hv)) cf' hO g lc.toArray b (0*k) cp ds.toArray w eg bg hH hb (by rw[ab];unfold Qt at bb;omega);rw[ab]at am;refine am.mono ?_;rintro e w' ⟨rfl,d,n,os,Y,au,rfl⟩;have u:d.size=ds.toArray.size:=Y.1;obtain⟨g1,g2,g3⟩:=R n os d u;have ar:d.toList.Perm ds:=by
    have h:=Y.2.2;have x1:d.extract 0 l.length=d:=by rw[<- ab, <- u];exact Array.extract_size
    have x2:ds.toArray.extract 0 l.length=ds.toArray:=by rw[<- ab];exact Array.extract_size
    rw[x1,x2]at h;simpa using h
   have a9:d.toList.map (·.x)=l':=by
    rw[<- az];refine Jp (lt:=ltO cf) ?_ ?_ ?_ (QT N)
    .exact((ar.map (·.x)).trans (by rw[Q])).trans (Qn _ _).symm
    .intro x hx y hy;have bq:x∈l:=by rw[<- Q];exact(ar.map (·.x)).mem_iff.1 hx
     have bn:y∈l:=by rw[<- Q];exact(ar.map (·.x)).mem_iff.1 hy
     exact aq x bq y bn
    .rw[VK];intro i j hi hj bo;simp only[X7]at hi hj;simp only[List.getElem_map];rw[<- ac];have:=au i j (X0 _) bo (by rw[<- ab, <- u];simpa using hj);rw[getElem!_pos d j (by simpa using hj),getElem!_pos d i (by simpa using hi)]at this;simpa using this
   have be:RL J [] (sortWorldK enc' k w b (0*k) n d os) k (l'.map enc) ((d.toList.map enc').flatten++G):=by
    have e3:d.toList.map enc'=(d.toList.map λa=>(a.x,a.vs)).map (·.2):=by simp[enc']
    have e4:l'=(d.toList.map λa=>(a.x,a.vs)).map (·.1):=by rw[<- a9];simp
    rw[e3,e4];refine Qb8 hk ?_;intro p hp;obtain⟨a,_,rfl⟩:=Xe.1 hp;exact⟨a.rel.mono (aj n os d u []),a.plain⟩
   have ba:Qh fr J w J (sortWorldK enc' k w b (0*k) n d os):=
    ⟨λ_ q=>q,λc B=>g1 c (s.roLt c B) (λq=>ak (q▸B)),λc B=>g1 c (s.frLt c B) (λq=>a8 (q▸B)),g3,O n os d u,rfl,rfl,rfl,Nat.le_add_right _ _⟩
   have av:σ.length=1:=s.len;have a7:Sim fr J σ [.row t k (l'.map enc)] (sortWorldK enc' k w b (0*k) n d os):=by
    have i0:∀{i:Nat} {x:Blk},([.row t k (l'.map enc)]:Qd)[i]?=some x->i=0/\x=.row t k (l'.map enc):=by
     intro i x h;cases i with
     |zero=>simp at h;exact⟨rfl,h.symm⟩
     |succ i=>simp at h
    refine⟨av,s.roOk.to (λ_ q=>q) ba.keepRo (λc B=>Vl (s.roLt c B) g3),λc B=>Vl (s.frLt c B) g3,s.roFr,λi c x h1 h2 h3=>?_,λi j c x y h1 h2 h3 h4 _ _=>?_,λi y x h1 h2=>?_,λi b x c h1 h2 h3=>by obtain⟨rfl,rfl⟩:=i0 h2;exact h3.elim⟩
    .obtain⟨rfl,rfl⟩:=i0 h2;obtain⟨p1,p2⟩:=s.own 0 c _ h1 rfl rfl;exact⟨Vl p1 g3,p2⟩
    .rw[(i0 h3).1,(i0 h4).1]
    .obtain⟨rfl,rfl⟩:=i0 h2;rw[q1]at h1;cases h1;exact⟨_,g2,be⟩
   exact⟨_,_,_,J,[],rfl,⟨rfl,rfl⟩,by simpa using a7,⟨[],rfl,rfl⟩,ba⟩
end Go.Sw
namespace Go.Sw
section
variable {P:Program} {o:Oper} {env:Env} {H:Qd} {fr ro:Nat->Prop} {σ:Sig} {w:World}
theorem Sim.addRo(s:Sim fr ro σ H w){b:Nat}(n:b<w.heap.size)(z:¬fr b)(h:∀(i:Nat) (x:Blk),σ[i]?=some (some b)->H[i]?=some x->x.live=true->False)
  (E:∀(i d:Nat) (x:Blk),σ[i]?=some (some d)->H[i]?=some x->Hid w x d b->False):Sim fr (λc=>ro c\/c=b) σ H w:=by
 refine⟨s.len,s.roOk.to (λ_ q=>.inl q) (λ_ _=>rfl) ?_,s.frLt,?_,?_,s.inj,?_,s.hidTo (· = ·) Q0 (XZ _) (λj d x c t m u B=>B.elim id λq=>(E j d x t m (q▸u)).elim) (λ_ _ _ _ _ _ _ q=>q) λj d y r k F=>.inl ⟨j,y,rfl,r,k,id,λ_ q=>q⟩⟩
 .rintro c (q|rfl)
  .exact s.roLt c q
  .exact n
 .rintro c (q|rfl)
  .exact s.roFr c q
  .exact z
 .intro i c x a e f;obtain⟨l,g,p⟩:=s.own i c x a e f;refine⟨l,?_,p⟩;rintro(q|rfl)
  .exact g q
  .exact h i x a e f
 .intro i y x a e;exact(s.blk i y x a e).keep ⟨λ_ q=>.inl q,λ_ _=>rfl,λ_ _ q=>q,λ_ _ q=>q⟩ (λ_ _ _=>rfl) (λ_ _ _ _=>rfl)
theorem YO{T e k n:Nat}{xs:List Operand}{es:List (List A)}(E:QV P T e k)(Q:o.op=.buildSlice T n (QaF 0 xs).toArray)(L:xs.length=n)(F:Nat.ble (n*k) 16777216=true)
  (O:(xs.all λx=>Yf (opA env x))=true)(G:Yd env xs=es)(M:allK k es)(X:es.flatten.all Ym=true)(hd:Yo es.flatten=true):
  OpH P o env H (.rsl k es) H:=by
 intro Y p σ N a w r;subst G;obtain⟨l,h1,J⟩:=QaP r E L F O M;have y:LR p [] w (Yd env xs).flatten l:=J.data hd;have f:∀b,b<w.heap.size->(w.alloc (.cells l.toArray e)).heap[b]?=w.heap[b]? :=λb W=>Yv _ _ b W;have s:w.heap.size<=(w.alloc (.cells l.toArray e)).heap.size:=by rw[Yu];omega
 have V:=r.sim.grown f s;have t:Qh Y p w p (w.alloc (.cells l.toArray e)):=Qh.alloc _ r.sim.roLt r.sim.frLt;have R:=V.addRo (b:=w.heap.size) (by rw[Yu];omega) (λq=>Nat.lt_irrefl _ (r.sim.frLt _ q)) (λi x m h u=>Nat.lt_irrefl _ (r.sim.own i _ x m h u).1)
  (λi d x m h u=>Nat.lt_irrefl _ (r.sim.hid i d x _ m h (r.sim.hidKeep m h (λz=>f d (r.sim.own i d x m h z).1) (λb q=>f b (r.sim.roLt b q)) u)).lt)
 have B:RL p [] (w.alloc (.cells l.toArray e)) k (Yd env xs) l:=by
  have:=Y7 (rest:=[]) M (y.mono (t.ext0 [])) (J.plain X)
  rwa [Vm]at this
 have g:(Yd env xs).length=n:=by simp[Yd,L]
 refine⟨_,_,λc=>p c\/c=w.heap.size,[],Qav Q a.eval h1,?_,by simpa using R,t.trans (YU λ_ q=>.inl q)⟩;refine⟨some ⟨w.heap.size,0,none⟩,n,by rw[g],by rw[g];exact XZ _,.inr ⟨w.heap.size,0,rfl,.inr rfl,?_⟩⟩;have j:(w.alloc (.cells l.toArray e)).heap[w.heap.size]?=some (.cells (([]:List Value)++l).toArray e (0,0)):=Q6 _ _;have:=YV (pre:=[]) j B;exact this.keep ⟨λ_ q=>.inl q,λ_ _=>rfl,λ_ _ q=>q,λ_ _ q=>q⟩ rfl
end
inductive Qkv:List A->List A->Prop
 |nil:Qkv [] []
 |eq {a:A} {l m:List A} (h:Qkv l m):Qkv (a::l) (a::m)
 |nl {k:Nat} {l m:List A} (h:Qkv l m):Qkv (.nils::l) (.rsl k []::m)
theorem LR.nils{ro:Nat->Prop}{σ:Sig}{w:World}{f g:List A}(h:Qkv f g):∀{l:List Value},LR ro σ w f l->LR ro σ w g l:=by
 induction h with
 |nil=>intro l h;exact h
 |eq _ ih=>rintro l ⟨v,a,e,b,d⟩;exact⟨v,a,e,b,ih d⟩
 |nl _ ih=>rintro l ⟨v,a,e,b,d⟩;exact⟨v,a,e,⟨none,0,b,XZ _,.inl rfl⟩,ih d⟩
theorem C.nils{P:Program}{f:FuncId}{l1 bs:List A}{H:Qd}{Q:A->Qd->Prop}(hl:Qkv l1 bs)(h:C P f bs H Q):C P f l1 H Q:=
 λfr ro σ vals w s l=>h fr ro σ vals w s (LR.nils hl l)
end Go.Sw
namespace Go.Sw
def Ql(k:IntKind)(n:Int):Prop:=k.min<=n/\n<=k.max
def Qeh(w:World):Nat->Prop:=λb=>b<w.heap.size
structure QoG {H:Type} (μ:DataW H->Nat):Prop where
 str:∀bytes,bytes.length<=μ (.lit (.string bytes))
 sl:∀e s,e.length<=μ (.slice e s)
 sle:∀e s,∀d∈e,μ d<=μ (.slice e s)
 ag:∀ps,∀d∈ps,μ d<=μ (.agg ps)
def RB(P:Program)(n:Nat)(t:TypeId)(T:Type)(e:T->List A)(wf:T->Prop):Prop:=
 ∀(H:Type) (enc:TypeId×Value->H) (w:World) (base:Nat) (spare:Nat->Bool) (held:Bool) (m:Nat) (cs:List Value) d,m<n->DataW.trod enc P w base spare held m t cs=some d->
  ∀μ:DataW H->Nat,QoG μ->μ d.1<=1048576->∃x:T,wf x/\LR (Qeh w) [] w (e x) cs/\ ∀v∈cs,Qp v
section
variable {P:Program} {n:Nat} {t:TypeId} {T:Type} {e:T->List A} {wf:T->Prop}
theorem RB.down(h:RB P (n+1) t T e wf):RB P n t T e wf:=λH enc w base spare held m cs d hm=>h H enc w base spare held m cs d (Nat.lt_succ_of_lt hm)
theorem QeI(h:∀n,RB P n t T e wf->RB P (n+1) t T e wf):∀n,RB P n t T e wf
 |0=>λH enc w base spare held m cs d hm=>absurd hm (Xn _)
 |n+1=>h n (QeI h n)
theorem QY{T':Type}{b:T'->List A}{a:T'->Prop}(h:RB P n t T e wf)(g:T->T')(he:∀x,b (g x)=e x)(i:∀x,wf x->a (g x)):RB P n t T' b a:=by
 intro H enc w base spare held m cs d hm hd μ hμ hwt;obtain⟨x,j,k,f⟩:=h H enc w base spare held m cs d hm hd μ hμ hwt;exact⟨g x,i x j,by rw[he];exact k,f⟩
theorem RB.int{k:IntKind}(a:P.underlying t=some (.int k)):RB P n t Int (Qf k) (Ql k):=by
 intro H enc w base spare held m cs d hm hd μ hμ hwt;cases m with
 |zero=>simp[DataW.trod]at hd
 |succ m=>
  rcases cs with _|⟨v,_|⟨f,r⟩⟩
  .simp[DataW.trod,a]at hd
  .cases v<;>simp[DataW.trod,a]at hd;rename_i g b;obtain⟨⟨rfl,e⟩,_⟩:=hd;refine⟨b,?_,⟨_,_,rfl,rfl,rfl⟩,by simp[Qp]⟩;simpa[Lit.wf,Ql]using e
  .simp[DataW.trod,a]at hd
theorem RB.bool(a:P.underlying t=some .bool):RB P n t Bool Qba (λ_=>True):=by
 intro H enc w base spare held m cs d hm hd μ hμ hwt;cases m with
 |zero=>simp[DataW.trod]at hd
 |succ m=>
  rcases cs with _|⟨v,_|⟨e,r⟩⟩
  .simp[DataW.trod,a]at hd
  .cases v<;>simp[DataW.trod,a]at hd;rename_i b;exact⟨b,trivial,⟨_,_,rfl,rfl,rfl⟩,by simp[Qp]⟩
  .simp[DataW.trod,a]at hd
theorem RB.string(a:P.underlying t=some .string):RB P n t (List UInt8) encS (λs=>s.length<=1048576):=by
 intro H enc w base spare held m cs d hm hd μ hμ hwt;cases m with
 |zero=>simp[DataW.trod]at hd
 |succ m=>
  rcases cs with _|⟨v,_|⟨b,r⟩⟩
  .simp[DataW.trod,a]at hd
  .cases v<;>simp[DataW.trod,a]at hd;rename_i s;obtain⟨_,rfl⟩:=hd;exact⟨s.data.toList,X2 (hμ.str _) hwt,⟨_,_,rfl,rfl,rfl⟩,by simp[Qp]⟩
  .simp[DataW.trod,a]at hd
theorem QcG{α:Type}{f:Nat->Option α}:∀{n:Nat} {l:List α},(List.range n).mapM f=some l->l.length=n/\ ∀i,i<n->∃y,f i=some y/\l[i]?=some y
 |0,l,h=>by simp at h;subst h;exact⟨rfl,λi hi=>absurd hi (Xn _)⟩
 |n+1,l,h=>by
  rw[List.range_succ,List.mapM_append]at h;cases h1:(List.range n).mapM f with
  |none=>simp[h1]at h
  |some l1=>
   cases h2:f n with
   |none=>simp[h1,h2]at h
   |some y=>
    simp[h1,h2]at h;subst h;obtain⟨e1,e2⟩:=QcG h1;refine⟨by simp[e1],λi hi=>?_⟩;rcases Xp.1 hi with q|rfl
    .obtain⟨z,z1,z2⟩:=e2 i q;exact⟨z,z1,by rw[XS (by omega)];exact z2⟩
    .exact⟨y,h2,by rw[XT (by omega)];simp[e1]⟩
theorem Qeo{w:World}{ro:Nat->Prop}{b:Nat}:∀{cs:List A} {l:List Value} {off:Nat},LR ro [] w cs l->(∀v∈l,Qp v)->(∀i,i<l.length->w.cell? ⟨b,off+i,none⟩=l[i]?)->CR ro [] w b cs off
 |[],_,_,_,_,_=>trivial
 |a::cs,l,off,h,hp,hc=>by
  obtain⟨v,l',rfl,h1,h2⟩:=h;refine⟨⟨v,by simpa using hc 0 (by simp),hp v (by simp),h1⟩,Qeo h2 (λv hv=>hp v (by simp[hv])) λi hi=>?_⟩;have:=hc (i+1) (by simpa using hi);rw[show off+1+i=off+(i+1)by omega,this];simp
theorem RB.slice{E:TypeId}{k:Nat}{s:TypeId}(M:P.underlying s=some (.slice E))(hk:P.cellsOf E=k)(h0:Nat.blt 0 k=true)(hl:∀x,(e x).length=k)(h:RB P n E T e wf):
  RB P (n+1) s (List T) (Qn8 k e) (λl=>l.length<=1048576/\ ∀x∈l,wf x):=by
 intro H enc w base spare held m cs d hm hd μ hμ hwt;have k0:0<k:=by simpa using h0
 cases m with
 |zero=>simp[DataW.trod]at hd
 |succ m=>
  rcases cs with _|⟨v,_|⟨v2,r⟩⟩
  .simp[DataW.trod,M]at hd
  .cases v<;>try (simp[DataW.trod,M]at hd;done)
   rename_i a len p;cases a with
   |none=>
    rcases len with _|len
    .rcases p with _|p
     .refine⟨[],⟨by simp,by simp⟩,⟨_,_,rfl,⟨none,0,rfl,XZ _,.inl rfl⟩,rfl⟩,by simp[Qp]⟩
     .simp[DataW.trod,M]at hd
    .simp[DataW.trod,M]at hd
   |some a=>
    simp only[DataW.trod,M]at hd;split at hd
    .rename_i hc;obtain⟨c1,c2,c3⟩:=hc;cases L:(List.range len).mapM (λi=>(w.cells? base (a.add (i*P.cellsOf E)) (P.cellsOf E)).bind (DataW.trod enc P w base spare held m E))with
     |none=>rw[L]at hd;cases hd
     |some f=>
      rw[L]at hd;simp only[XP,Option.map_eq_some_iff]at hd;obtain⟨B,_,rfl⟩:=hd;have F:f.length<=1048576:=by
       have h1:=hμ.sl (f.map (·.1)) (B.map (·.1));rw[X7]at h1;exact X2 h1 hwt
      have X:∀y∈f,μ y.1<=1048576:=λy Q=>X2 (hμ.sle _ (B.map (·.1)) _ (VM Q)) hwt;obtain⟨e1,e2⟩:=QcG L;have R:∀i,i<len->∃(x:T) (l:List Value),wf x/\LR (Qeh w) [] w (e x) l/\(∀v∈l,Qp v)/\l.length=k/\ ∀j,j<k->w.cell? ((a.add (i*k)).add j)=l[j]? :=by
       intro i Y;obtain⟨y,y1,y2⟩:=e2 i Y;rw[hk]at y1;cases g:w.cells? base (a.add (i*k)) k with
       |none=>rw[g]at y1;cases y1
       |some l=>
        rw[g]at y1;obtain⟨x,x1,x2,x3⟩:=h H enc w base spare held m l y (by omega) y1 μ hμ (X y (VN y2));refine⟨x,l,x1,x2,x3,by rw[x2.length];exact hl x,λj hj=>?_⟩;unfold World.cells? at g;split at g
        .obtain⟨_,z2⟩:=QcG g;obtain⟨v,v1,v2⟩:=z2 j hj;rw[v2, <- v1]
        .cases g
      by_cases V:len=0
      .subst V;exact⟨[],⟨by simp,by simp⟩,⟨_,_,rfl,⟨some a,p,rfl,X0 _,.inl rfl⟩,rfl⟩,by simp[Qp]⟩
      .have first:a.spot=none/\a.block<w.heap.size:=by
        obtain⟨x',l,p1,p2,p3,p4,p5⟩:=R 0 (by omega);have u:=p5 0 k0;have W:l[0]?=some l[0]:=XQ (by omega);have ea:(a.add (0*k)).add 0=a:=by simp[Addr.add]
        rw[W,ea]at u;unfold World.cell? at u;split at u
        .rename_i hh;constructor
         .cases q:a.spot with
          |none=>rfl
          |some z=>simp[q]at u
         .exact(Vi.1 hh).1
        .cases u
       obtain⟨t,hb⟩:=first
       have N:∀n,a.add n=⟨a.block,a.off+n,none⟩:=by
        intro n;cases a;simp only at t;subst t;unfold Addr.add;split
        .rename_i q;subst q;rfl
        .rfl
       have G:∀(b o n:Nat),(⟨b,o,none⟩:Addr).add n=⟨b,o+n,none⟩:=by
        intro b o n;unfold Addr.add;split
        .rename_i q;subst q;rfl
        .rfl
       have pick:∀q i,len-i=q->i<=len->∃J:List T,J.length=len-i/\(∀x∈J,wf x)/\RR (Qeh w) [] w a.block k (J.map e) (a.off+i*k):=by
        intro q
        induction q with
        |zero=>intro i hq Y;exact⟨[],by simp[hq],by simp,trivial⟩
        |succ q ih=>
         intro i hq Y;obtain⟨J,w1,w2,O⟩:=ih (i+1) (by omega) (by omega);obtain⟨x,l,p1,p2,p3,p4,p5⟩:=R i (by omega);refine⟨x::J,by simp[w1];omega,by intro y Q;rcases Vc.1 Q with rfl|Q;exact p1;exact w2 y Q,hl x,?_,?_⟩
         .refine Qeo p2 p3 λj hj=>?_;have u:=p5 j (by omega);rw[N,G]at u;exact u
         .rw[Xm, <- Nat.add_assoc]at O;exact O
       obtain⟨J,w1,w2,O⟩:=pick len 0 (by omega) (X0 _);rw[Nat.zero_mul,XB]at O;rw[Xz]at w1;refine⟨J,⟨by rw[w1, <- e1];exact F,w2⟩,⟨_,_,rfl,⟨some a,p,by simp[w1],by simp[w1];exact c2,.inr ⟨a.block,a.off,?_,hb,O⟩⟩,rfl⟩,by simp[Qp]⟩;cases a;simp only at t;subst t;rfl
    .cases hd
  .simp[DataW.trod,M]at hd
def RF(P:Program)(n:Nat)(fs:List Field)(off L:Nat)(T:Type)(e:T->List A)(wf:T->Prop):Prop:=
 ∀(H:Type) (enc:TypeId×Value->H) (w:World) (base:Nat) (spare:Nat->Bool) (held:Bool) (m:Nat) (cs:List Value) ds,m<n->cs.length=L->
  fs.mapM (λf=>DataW.trod enc P w base spare held m f.type ((cs.drop f.offset).take (P.cellsOf f.type)))=some ds->
  ∀μ:DataW H->Nat,QoG μ->(∀y∈ds,μ y.1<=1048576)->∃x:T,wf x/\LR (Qeh w) [] w (e x) (cs.drop off)/\ ∀v∈cs.drop off,Qp v
theorem RF.nil{L:Nat}:RF P n [] L L Unit (λ_=>[]) (λ_=>True):=by
 intro H enc w base spare held m cs ds hm hl hd μ hμ hwt;have:cs.drop L=[]:=List.drop_eq_nil_of_le (by omega);rw[this];exact⟨(),trivial,rfl,by simp⟩
theorem RF.cons{f:Field}{fs:List Field}{off L k:Nat}{T2:Type}{s:T2->List A}{b:T2->Prop}(B:f.offset=off)(u:P.cellsOf f.type=k)(h:RB P n f.type T e wf)(r:RF P n fs (off+k) L T2 s b):
  RF P n (f::fs) off L (T×T2) (λp=>e p.1++s p.2) (λp=>wf p.1/\b p.2):=by
 intro H enc w base spare held m cs ds hm hl hd μ hμ hwt;rw[List.mapM_cons]at hd;cases i:DataW.trod enc P w base spare held m f.type ((cs.drop f.offset).take (P.cellsOf f.type))with
 |none=>simp[i]at hd
 |some d=>
  cases l:fs.mapM (λf=>DataW.trod enc P w base spare held m f.type ((cs.drop f.offset).take (P.cellsOf f.type)))with
  |none=>simp[i,l]at hd
  |some a=>
   have j:ds=d::a:=by
    rw[i,l]at hd;exact(X5 hd).symm
   subst j;rw[B,u]at i;obtain⟨x,G,F,z⟩:=h H enc w base spare held m _ d hm i μ hμ (hwt d (by simp));obtain⟨y,y1,y2,E⟩:=r H enc w base spare held m cs a hm hl l μ hμ (λy J=>hwt y (by simp[J]));have g:cs.drop off=(cs.drop off).take k++cs.drop (off+k):=by rw[<- List.drop_drop,XE]
   refine⟨(x,y),⟨G,y1⟩,by rw[g];exact F.append y2,?_⟩;rw[g];intro v t;rcases VJ.1 t with q|q
   .exact z v q
   .exact E v q
theorem RB.struct{fs:Array Field}{L:Nat}(j:P.underlying t=some (.struct fs))(g:P.cellsOf t=L)(h:RF P n fs.toList 0 L T e wf):RB P (n+1) t T e wf:=by
 intro H enc w base spare held m cs d hm hd μ hμ hwt;cases m with
 |zero=>simp[DataW.trod]at hd
 |succ m=>
  unfold DataW.trod at hd;simp only[j]at hd;split at hd
  .rename_i b;cases a:fs.toList.mapM (λf=>DataW.trod enc P w base spare held m f.type ((cs.drop f.offset).take (P.cellsOf f.type)))with
   |none=>rw[a]at hd;cases hd
   |some k=>
    rw[a]at hd;simp only[Xj,Option.some.injEq]at hd;subst hd;have:=h H enc w base spare held m cs k (by omega) (by rw[b,g]) a μ hμ (λy i=>X2 (hμ.ag _ _ (VM i)) hwt);simpa using this
  .cases hd
end
theorem C.law{P:Program}{f:FuncId}{args:List A}{W:World}{vals:List Value}(h:C P f args [] (λa H=>a=.bool true/\H=[]))(hl:LR (Qeh W) [] W args vals)(d:GP W):
  Calls P f vals.toArray W λe W'=>e=.returned (.bool true)/\Go.RowKit.Below W.heap.size W W':=by
 have s:Sim (λ_=>False) (Qeh W) [] [] W:=
  ⟨rfl,⟨λ_ h=>h,λb m=>d.size b m,d⟩,λ_ h=>h.elim,λ_ _ h=>h,λi b x h=>by simp at h,λi j b x y h=>by simp at h,λi y x h=>by simp at h,λi b x c h=>by simp at h⟩
 refine(h _ _ _ _ W s hl).mono ?_;rintro e W' ⟨v,r,H',g,τ,rfl,⟨rfl,rfl⟩,_,l,ev⟩;exact⟨by rw[show v=.bool true from l],⟨ev.os,ev.tape,ev.output,ev.size,λk n=>ev.keepRo k n⟩⟩
theorem Qnj{P:Program}{W:World}{a:Nat}{t:TypeId}{v:Value}{fs:Array Field}(b:P.underlying t=some (.struct fs))(h:Value.okWide P W .any a t v):∃cs,v=.agg cs:=by
 unfold Value.okWide at h;rw[b]at h;obtain⟨cs,rfl,_⟩:=h;exact⟨cs,rfl⟩
theorem QjI{P:Program}{W:World}{t:TypeId}{cs:Array Value}{T:Type}{e:T->List A}{wf:T->Prop}{H:Type}{enc:TypeId×Value->H}{b:Nat}{a:Nat->Bool}{held:Bool}{d:DataW H}{ps:List MemPlace}
  (h:∀n,RB P n t T e wf)(g:DataW.Trod enc P W b a held t (.agg cs) d ps){μ:DataW H->Nat}(hμ:QoG μ)(f:μ d<=1048576):∃x:T,wf x/\VR (Qeh W) [] W (.agg (e x)) (.agg cs):=by
 obtain⟨m,j⟩:=g;obtain⟨x,i,k,_⟩:=h (m+1) H enc W b a held m _ _ (Xo _) j μ hμ f;exact⟨x,i,cs.toList,by simp,k⟩
theorem QlB{P:Program}{W:World}{t:TypeId}{a:Option Addr}{len cap:Nat}{T:Type}{e:T->List A}{k:Nat}{wf:List T->Prop}{H:Type}{enc:TypeId×Value->H}{f:Nat}{b:Nat->Bool}{held:Bool}{d:DataW H}{ps:List MemPlace}
  (h:∀n,RB P n t (List T) (Qn8 k e) wf)(p:DataW.Trod enc P W f b held t (.slice a len cap) d ps){μ:DataW H->Nat}(hμ:QoG μ)(g:μ d<=1048576):∃x:List T,wf x/\VR (Qeh W) [] W (.rsl k (x.map e)) (.slice a len cap):=by
 obtain⟨m,j⟩:=p;obtain⟨x,q,⟨v,r,i,l,s⟩,_⟩:=h (m+1) H enc W f b held m _ _ (Xo _) j μ hμ g;refine⟨x,q,?_⟩;have:(Value.slice a len cap).cells.toList=[.slice a len cap]:=rfl;rw[this]at i;cases i;exact l
theorem QjC{P:Program}{W:World}(h:W.ShapedOpen P){g t u:Nat}{z:Value}(hg:Nat.blt g P.globals.size=true)(l:(((begin P (λ_ _=>0) default).world.heap[g]?).bind Obj.row?)=some (#[z],t))
  (s:P.buildable t=true)(p:P.cellTypes P.depth t=some [u])(q:P.underlying u=some (.int .i64)):∃m:Int,W.cell? ⟨g,0,none⟩=some (.int .i64 m):=by
 obtain⟨d,r,x,j⟩:=h.1 g _ _ (by simpa using hg) l;obtain⟨y,f,_,w⟩:=j s;rw[p]at f;cases f;have B:d.size=1:=x;have b:d[0]?=some d[0]:=Array.getElem?_eq_getElem (by omega);obtain⟨E,i,a⟩:=w 0 _ b;simp at i;subst i;unfold Cell.ok at a;rw[q]at a;cases e:d[0]<;>rw[e]at a<;>simp at a;rename_i k n;obtain⟨rfl,_⟩:=a;refine⟨n,?_⟩;simp only[World.cell?,r];rw[b,e];rfl
end Go.Sw
namespace Go.Sw
theorem QjR{S B:Type}{step:S->Option (Ctl S B)}(d:Nat->S)(b:B)(k:Nat)(j:∀i,i<k->step (d i)=some (.cont (d (i+1))))(l:step (d k)=some (.done b)):∀n,k<n->iter step n (d 0)=some b:=by
 have e:∀m i n,k-i=m->i<=k->m<n->iter step n (d i)=some b:=by
  intro m
  induction m with
  |zero=>
   intro i n p q h;have:i=k:=by omega
   subst this;obtain⟨a,rfl⟩:∃a,n=a+1:=⟨n-1,by omega⟩;simp[iter,l]
  |succ m f=>
   intro i n p q h;obtain⟨a,rfl⟩:∃a,n=a+1:=⟨n-1,by omega⟩;simp only[iter,j i (by omega)];exact f (i+1) a (by omega) (by omega) (by omega)
 intro n g;exact e k 0 n (by omega) (X0 _) g
theorem QnA{S B:Type}{step:S->Option (Ctl S B)}(s0:S)(a:Nat->S)(b:B)(k:Nat)(h0:a 0=s0)(d:∀i,i<k->step (a i)=some (.cont (a (i+1))))(f:step (a k)=some (.done b))(n:Nat)(e:k<n):iter step n s0=some b:=by
 rw[<- h0];exact QjR a b k d f n e
theorem YD{α:Type}{l:List α}{i:Nat}{x:α}(h:l[i]?=some x):idx l (i:Int)=some x:=by
 unfold idx;have:decide ((0:Int)<=i)=true:=by simp
 rw[this];simpa using h
theorem QaI{α:Type}(l:List α)(x:α)(h:l.length<4294967296):app l [x]=some (l++[x]):=by
 unfold app;have:Nat.ble (l.length+[x].length) Qt=true:=by
  apply XY;unfold Qt;simp;omega
 rw[this];rfl
theorem Qjb{α:Type}(l m:List α)(h:l.length+m.length<=4294967296):app l m=some (l++m):=by
 unfold app;have:Nat.ble (l.length+m.length) Qt=true:=XY h;rw[this];rfl
theorem QW{n:Int}(h0: -9223372036854775808<=n)(a:n<=9223372036854775807):IntKind.i64.wrap n=n:=by
 unfold IntKind.wrap;simp[IntKind.bits,IntKind.signed];omega
theorem Yq{i:Nat}(h:i<9223372036854775807):IntKind.i64.wrap ((i:Int)+1)=((i+1:Nat):Int):=by
 rw[QW (by omega) (by omega)];omega
theorem QZ{p:Prop}[Decidable p](h:p):decide p=true:=VA h
theorem Q7{p:Prop}[Decidable p](h:¬p):decide p=false:=VD h
end Go.Sw
namespace Go.Sw
open Go.Proofs Go.Shelf
def cat(a b:List UInt8):Option (List UInt8):=bif Nat.ble (a.length+b.length) 4294967296 then some (a++b)else none
theorem Qq2{a b r:List UInt8}(h:cat a b=some r):a.length+b.length<=4294967296/\a++b=r:=by
 unfold cat at h;cases q:Nat.ble (a.length+b.length) 4294967296 with
 |true=>rw[q]at h;exact⟨XX q,X5 h⟩
 |false=>rw[q]at h;cases h
def Qfr(s t:List UInt8):Option Bool:=bif Nat.blt s.length 4294967281 then some (Lib.contains s t)else none
section
variable {P:Program} {o:Oper} {env:Env} {H:Qd}
theorem Qf0{t u:TypeId}{x y:Operand}{p q r:List UInt8}(j:cat p q=some r)(i:o.op=.binOp .add t x y u:=by exact rfl)(hx:opA env x=.str p:=by exact rfl)(hy:opA env y=.str q:=by exact rfl):OpV P o env H (.str r):=by
 intro n m σ N a w rr;obtain⟨s,l⟩:=Qq2 j;have f:=Qg rr x;rw[hx]at f;have g:=Qg rr y;rw[hy]at g;have e:a.eval x=.string ⟨p.toArray⟩:=f;have d:a.eval y=.string ⟨q.toArray⟩:=g;have h:(⟨p.toArray⟩:ByteArray)++⟨q.toArray⟩=⟨r.toArray⟩:=by
  rw[<- l];apply ByteArray.ext;simp
 refine⟨.string ⟨r.toArray⟩,?_,rfl⟩;have b:¬((((⟨p.toArray⟩:ByteArray).size+(⟨q.toArray⟩:ByteArray).size:Nat):Int)>IntKind.i64.max):=by
  have:IntKind.i64.max=9223372036854775807:=by decide
  rw[this];simp only[ByteArray.size,List.size_toArray];omega
 generalize a.eval=ρ at*;have k:(eqGuard BinOp.add t x y (.string ⟨p.toArray⟩) (.string ⟨q.toArray⟩)).run P w=.ok () w:=by simp[eqGuard]
 simp only[execOp,i,e,d,binOp_string_add,Op.stringOp,Vy b,h,Vt,Vu,Result.andThen,k]
def Qes{α:Type}(n:Nat)(l:List α)(i:Int):Option α:=bif Nat.beq l.length n then idx l i else none
theorem Qa5{α:Type}{n:Nat}{l:List α}{i:Int}{x:α}(h:Qes n l i=some x):l.length=n/\idx l i=some x:=by
 unfold Qes at h;cases q:Nat.beq l.length n with
 |true=>rw[q]at h;exact⟨XW q,h⟩
 |false=>rw[q]at h;cases h
def arr{α:Type}(n:Nat)(l:List α):Option (List α):=bif Nat.beq l.length n then some l else none
theorem Jr{α:Type}{n:Nat}{l l':List α}(h:arr n l=some l'):l.length=n/\l=l':=by
 unfold arr at h;cases q:Nat.beq l.length n with
 |true=>rw[q]at h;exact⟨XW q,X5 h⟩
 |false=>rw[q]at h;cases h
theorem Qbz{α:Type}{n:Nat}{l l':List α}(h:arr n l=some l'):l'.length=n:=(Jr h).2▸(Jr h).1
section
variable {α:Type} {e:α->List A} {t et k n b:Nat} {x y:Operand} {l:List α}
theorem Qai{i:Int}{v:α}{j:IntKind}(h:Qes n l i=some v)(z:∀w,(underlying t).run P w=.ok (.array n et) w)(u:∀w,(sizeOf et).run P w=.ok k w)(B:Nat.ble 2 n=true)
  (s:o.op=.indexAddr t x y:=by exact rfl)(hx:opA env x=.ptr b 0:=by exact rfl)(hy:opA env y=.int j i:=by exact rfl):OpV P o env H (.ptr b (i.toNat*k)):=by
 intro Q M σ N a w r;obtain⟨L,G⟩:=Qa5 h;obtain⟨O,J⟩:=Qau G;have F:i.toNat<l.length:=(XR.1 J).1;have e:=Qg r x;rw[hx]at e;obtain⟨f,e,E⟩:=e;have m:=Qg r y;rw[hy]at m;have g:a.eval y=.int j i:=m;refine⟨.pointer (some ⟨f,i.toNat*k,none⟩),?_,f,e,rfl⟩;have p:0<=i/\i<(n:Int):=by omega
 have d:(⟨f,0,none⟩:Addr).add (i.toNat*k)=⟨f,i.toNat*k,none⟩:=by
  unfold Addr.add;split
  .rename_i q;rw[q]
  .simp
 generalize a.eval=ρ at*;simp[execOp,s,E,g,Instr.indexAt,asIntOf,z,u,Instr.sureAddr,p,d,go_sem,Result.andThen]
theorem Qll{cs:List A}(hH:H[b]?=some (.row t k (l.map e)):=by exact rfl)(hcs:(l.map e).flatten=cs:=by exact rfl):Pts H (.ptr b 0) cs:=by
 intro n m σ w v s h;obtain⟨g,f,i⟩:=h;obtain⟨j,d,a⟩:=s.blk b _ _ f hH;refine⟨g,0,i,?_⟩;have:=(RR.flat (YV (pre:=[]) (by simpa using d) a)).1;subst hcs;exact this.lift
theorem QiI(a:∀x,(e x).length=k)(L:List α):(L.map e).flatten.length=L.length*k:=by
 induction L with
 |nil=>simp
 |cons c L ih=>simp only[Vq,Vs,X8,a c,ih,X6,Xm];omega
theorem Qjl{f:Nat}{l':List α}(h:arr n l=some l')(g:∀x,(e x).length=k)(a:n*k=f)(m:∀w,(isAgg t).run P w=.ok true w)(j:∀w,(sizeOf t).run P w=.ok f w){T:Nat}
  (i:o.op=.load t x:=by exact rfl)(hx:opA env x=.ptr b 0:=by exact rfl)(hH:H[b]?=some (.row T k (l.map e)):=by exact rfl):OpV P o env H (.agg (l'.map e).flatten):=by
 obtain⟨p,rfl⟩:=Jr h;have d:=QiI g l;rw[p,a]at d;exact Qk i m j hx (Qll hH rfl) (VO (by omega)) d
theorem Qmf{r:Nat}{n2 T:Nat}(hl:l.length=n)(f:∀x,(e x).length=k)(a:n*k=n2)(h:∀w,(isAgg t).run P w=.ok true w)(g:∀w,(sizeOf t).run P w=.ok n2 w)
  (i:lk env r=.ptr b 0:=by exact rfl)(hH:H[b]?=some (.row T k (l.map e)):=by exact rfl):Qdn P env H (.cell r t) (.agg (l.map e).flatten):=by
 have d:=QiI f l;rw[hl,a]at d;have:=Qel (b:=r) (p:=.ptr b 0) (n:=n2) h g (Qll hH rfl) i (by rw[VO (by omega)];exact d)
 rwa [VO (by omega)]at this
theorem Qjd{c:List A}{k:Nat}(h:c.length=k):∀n,allK k (List.replicate n c)
 |0=>trivial
 |n+1=>⟨h,Qjd h n⟩
theorem Jh{vs:Array Value}{z:α}(l:∀w,(zeroValue t).run P w=.ok (.agg vs) w)(g:(YW (List.replicate n (e z)).flatten).toArray=vs)(j:QeW (List.replicate n (e z)).flatten=true)(q:(List.replicate n (e z)).flatten.all Ym=true)(h:Nat.beq (e z).length k=true)
  (i:o.op=.alloc t:=by exact rfl):OpH P o env H (.ptr H.length 0) (H++[.row t k ((List.replicate n z).map e)]):=by
 intro s f σ N a w r;have d:LR f [] w (List.replicate n (e z)).flatten (YW (List.replicate n (e z)).flatten):=Qf8 j;have b:=r.sim.allocRow (t:=t) (rest:=[]) (Qjd (XW h) n) d (d.plain q);rw[Vm]at b;have m:(List.replicate n z).map e=List.replicate n (e z):=List.map_replicate;refine⟨.pointer (some ⟨w.heap.size,0,none⟩),w.alloc (.cells (YW (List.replicate n (e z)).flatten).toArray t),f,[some w.heap.size],?_,⟨w.heap.size,?_,rfl⟩,m▸b,Qh.alloc _ r.sim.roLt r.sim.frLt⟩
 .generalize a.eval=ρ at*;have p:(newVar t (.agg vs)).run P w=.ok ⟨w.heap.size,0,none⟩ (w.alloc (.cells vs t)):=rfl;rw[g];simp only[execOp,i,Instr.alloc,Vt,l,Result.andThen,p];rfl
 .rw[<- r.sim.len];simp
theorem Jg{T n2:Nat}{l':List α}{vs:List A}(h:l.length=n)(h':l'.length=n)(hk:∀x,(e x).length=k)(i:n*k=n2)(hs:∀w,(sizeOf t).run P w=.ok n2 w)
  (hp:∀x,(e x).all Ym=true)(hd:∀x,Yo (e x)=true)(J:(l'.map e).flatten=vs)
  (ho:o.op=.store t x y:=by exact rfl)(G:opA env x=.ptr b 0:=by exact rfl)(hH:H[b]?=some (.row T k (l.map e)):=by exact rfl)(V:opA env y=.agg vs:=by exact rfl):
  OpU P o env H (H.set b (.row T k (l'.map e))):=by
 intro fr ro σ N a w r;subst J;have d:=Qg r x;rw[G]at d;obtain⟨Y,d,O⟩:=d;have h3:=Qg r y;rw[V]at h3;obtain⟨m,h4,F⟩:=h3;obtain⟨z,q1,q2⟩:=r.sim.blk b _ _ d hH;have j:∀(L:List α),allK k (L.map e):=by
  intro L
  induction L with
  |nil=>trivial
  |cons c L g=>exact⟨hk c,g⟩
 have X:(l'.map e).flatten.length=n2:=by rw[Yz (j l'),X7,h',i]
 have hm:m.length=n2:=by rw[F.length,X]
 have q:∀L:List α,(L.map e).flatten.all Ym=true:=by
  intro L
  induction L with
  |nil=>rfl
  |cons c L g=>simp only[Vq,Vs,List.all_append,hp c,g,Bool.and_self]
 have W:∀E p:List A,Yo E=true->Yo p=true->Yo (E++p)=true:=by
  intro E
  induction E with
  |nil=>intro p _ h;exact h
  |cons c E g=>
   intro p d O;simp only[Yo,X3,VQ]at d⊢;exact⟨d.1,g p d.2 O⟩
 have M:∀L:List α,Yo (L.map e).flatten=true:=by
  intro L
  induction L with
  |nil=>rfl
  |cons c L g=>simp only[Vq,Vs];exact W _ _ (hd c) g
 have aa:n2<=z.length:=by
  have:=q2.length;rw[X7,h,i]at this;exact this
 have s:=Yb (P:=P) (vs:=m) 0 0 q1 (by omega) (F.plain (q l'));have u:splice z 0 m=m++z.drop n2:=by unfold splice;simp[hm]
 have f:=r.sim.set (x':=.row T k (l'.map e)) (obj:=.cells (splice z 0 m).toArray T (0,0)) d hH rfl
  (λy V=>Jt q1 (Ya (by omega)) y V)
  (λex B=>by
   have G:=(F.data (M l')).mono ex.nil;rw[u]at G B⊢;exact⟨_,B,Y7 (j l') G (F.plain (q l'))⟩)
 refine⟨_,ro,[],?_,by simpa using f.1,f.2⟩;generalize a.eval=ρ at*;have Q:(ρ y).cells.size=n2:=by rw[h4];simp[Value.cells,hm]
 have R:(storeVar t ⟨Y,0,none⟩ (ρ y)).run P w=.ok () {w with heap:=w.heap.setIfInBounds Y (.cells (splice z 0 m).toArray T (0,0))}:=by
  unfold storeVar;rw[Vt,hs];simp only[Result.andThen];rw[Vy (by simp[Q]),h4];have ec:(Value.agg m.toArray).cells.toList=m:=by simp[Value.cells]
  rw[ec];simpa using s
 simp only[execOp,ho,O,Instr.storeAt,Instr.sureAddr,pure_bind,Vt,R];rfl
end
end
theorem C.contains{P:Program}{ρ:Ren}(L:Lays.n144 P ρ)(hg:ρ.g 1=QlO){s t:List UInt8}{r:Bool}(h:Qfr s t=some r):C P (ρ.f 144) [.str s,.str t] [] (λa H=>a=.bool r/\H=[]):=by
 unfold Qfr at h;cases q:Nat.blt s.length 4294967281 with
 |false=>rw[q]at h;cases h
 |true=>
  rw[q]at h;obtain rfl:=X5 h;intro z j σ vals w sim hv;obtain⟨n,B,rfl,u,d,l,rfl,y,k⟩:=hv;cases(show l=[]from k);obtain⟨m,i⟩:=sim.roOk.gp.max;have p:n=.string ⟨s.toArray⟩:=u;have x:d=.string ⟨t.toArray⟩:=y;subst p x;have b:s.length<4294967281:=by simpa using q
  refine(Any.strings_Contains L ⟨s.toArray⟩ ⟨t.toArray⟩ m w (by simpa[ByteArray.size]using b) (by rw[hg];exact i)).mono ?_;rintro e E ⟨rfl,rfl⟩;exact⟨_,_,_,j,[],rfl,⟨rfl,rfl⟩,by simpa using sim,rfl,Qh.refl _ _ _⟩
section
variable {P:Program} {o:Oper} {env:Env} {H:Qd} {fr ro:Nat->Prop} {σ:Sig} {w:World}
theorem Sim.touch(s:Sim fr ro σ H w){b:Nat}{obj:Obj}(n:¬ro b)(u:¬fr b)(B:∀(i:Nat) (x:Blk),σ[i]?=some (some b)->H[i]?=some x->x.live=true->False)
  (g:∀(i d:Nat) (x:Blk),σ[i]?=some (some d)->H[i]?=some x->Hid w x d b->False)
  (r:∀y,w.shape? b=some y->({w with heap:=w.heap.setIfInBounds b obj}:World).shape? b=some y):
  Sim fr ro σ H {w with heap:=w.heap.setIfInBounds b obj}/\Qh fr ro w ro {w with heap:=w.heap.setIfInBounds b obj}:=by
 have a:∀c,c≠b->({w with heap:=w.heap.setIfInBounds b obj}:World).heap[c]?=w.heap[c]? :=by
  intro c E;show(w.heap.setIfInBounds b obj)[c]?=_;rw[Vk,Vy (λq=>E q.symm)]
 have f:({w with heap:=w.heap.setIfInBounds b obj}:World).heap.size=w.heap.size:=by simp
 have ev:Qh fr ro w ro {w with heap:=w.heap.setIfInBounds b obj}:=
  ⟨λ_ h=>h,λc h=>a c (λq=>n (q▸h)),λc h=>a c (λq=>u (q▸h)),by rw[f];exact XZ _,by
   intro c y h;by_cases q:c=b
   .subst q;exact r y h
   .unfold World.shape? at h⊢;rw[a c q];exact h,rfl,rfl,rfl,XZ _⟩
 refine⟨⟨s.len,s.roOk.to (λ_ q=>q) ev.keepRo (λc h=>by rw[f];exact s.roLt c h),λc h=>by rw[f];exact s.frLt c h,s.roFr,?_,s.inj,?_,s.hidTo (· = ·) Q0 (by rw[f];exact XZ _) (λ_ _ _ _ _ _ _ q=>q) (λ_ _ _ _ _ _ _ q=>q) λj d y t p G=>.inl ⟨j,y,rfl,t,p,id,λc q=>s.hidKeep t p (λz=>a d (λe=>B j y (e▸t) p z)) ev.keepRo q⟩⟩,ev⟩
 .intro i c x k l F;rw[f];exact s.own i c x k l F
 .intro i y x k l;refine(s.blk i y x k l).keep (ev.ext0 σ) ?_ ?_
  .rintro c rfl m;exact a c (λq=>by subst q;exact B i x k l m)
  .rintro d c rfl m;exact a c (λq=>g i d x k l (q▸m))
theorem Qmt{T E i n t:Nat}{x:Operand}{es:List (List A)}(ht:P.underlying T=some (.slice E))(hE:P.underlying E=some (.int .u8))(hn:es.length=n)(h0:Nat.blt 0 n=true)
  (ho:o.op=.convert T T x:=by exact rfl)(hx:opA env x=.osl i 0 n 1:=by exact rfl)(hH:H[i]?=some (.row t 1 es):=by exact rfl):
  OpH P o env H (.rsl 1 es) (H.set i .dead):=by
 intro fr O σ N a w r;subst hn;have u:=Qg r x;rw[hx]at u;rcases u with⟨hz,_⟩|⟨b,p,J,t',m,u,h2,h6,⟨h3,ab⟩,h4,h5⟩
 .rw[hz]at h0;simp at h0
 .have aa:0<es.length:=by simpa using h0
  obtain rfl:=h6 (by omega);obtain⟨V,G,h⟩:=r.sim.own i b _ u hH rfl;obtain⟨l,W,q2⟩:=r.sim.blk i _ _ u hH;have s1:=r.sim.kill i;have g:∀(j:Nat) (y:Blk),σ[j]?=some (some b)->(H.set i .dead)[j]?=some y->y.live=true->False:=by
   intro j y s f B;by_cases q:j=i
   .subst q;rw[Xb]at f;simp only[if_true]at f;split at f
    .cases f;simp[Blk.live]at B
    .simp at f
   .rw[XV (λz=>q z.symm)]at f;exact q (r.sim.inj j i b y _ s u f hH B rfl)
  have L:∀(j d:Nat) (y:Blk),σ[j]?=some (some d)->(H.set i .dead)[j]?=some y->Hid w y d b->False:=by
   intro j d y s f B;by_cases q:j=i
   .subst q;rw[Xb]at f;simp only[if_true]at f;split at f
    .cases f;exact B.elim
    .simp at f
   .rw[XV (λz=>q z.symm)]at f;exact(r.sim.hid j d y b s f B).ne i b _ u hH rfl rfl
  let fz:Nat×Nat:=(l.length,l.length+1)
  have Y:∀y,w.shape? b=some y->({w with heap:=w.heap.setIfInBounds b (.cells l.toArray t fz)}:World).shape? b=some y:=by
   intro y X;unfold World.shape? at X⊢;rw[W]at X;have e:(w.heap.setIfInBounds b (.cells l.toArray t fz))[b]?=some (.cells l.toArray t fz):=by rw[Vk,Vz rfl,Vz V]
   simp only[e];exact X
  obtain⟨s2,k⟩:=s1.touch (obj:=.cells l.toArray t fz) G h g L Y;have s3:=s2.addRo (b:=b) (by simpa using V) h g (λj d y s f B=>L j d y s f (s1.hidKeep s f (λz=>by
   show(w.heap.setIfInBounds b _)[d]?=_;rw[Vk,Vy (λe:b=d=>g j y (by rw[e];exact s) f z)]) k.keepRo B))
  have F:({w with heap:=w.heap.setIfInBounds b (.cells l.toArray t fz)}:World).heap[b]?=some (.cells (([]:List Value)++l).toArray t fz):=by
   show(w.heap.setIfInBounds b _)[b]?=_;rw[Vk,Vz rfl,Vz V];rfl
  have M:Ext O [] w O [] {w with heap:=w.heap.setIfInBounds b (.cells l.toArray t fz)}:=k.ext0 [];refine⟨.slice (some ⟨b,0*1,none⟩) es.length J,_,λc=>O c\/c=b,[],?_,?_,by simpa using s3,k.trans (YU λ_ q=>.inl q)⟩
  .have hf:w.freeze ⟨b,l.length,none⟩ 1={w with heap:=w.heap.setIfInBounds b (.cells l.toArray t fz)}:=by
    unfold World.freeze;simp only[Nat.one_ne_zero,if_false];rw[Qbh W];rfl
   have R:(markStringish ⟨b,0*1,none⟩).run P w=.ok () {w with heap:=w.heap.setIfInBounds b (.cells l.toArray t fz)}:=by
    rw[<- hf];unfold markStringish;simp[shape,freeze,Sem.run,World.shape?,W,Result.andThen]
   have hu:∀w,(underlying T).run P w=.ok (.slice E) w:=run_underlying ht;have Q:∀w,(underlying E).run P w=.ok (.int .u8) w:=run_underlying hE;generalize a.eval=ρ at*;simp only[execOp,ho,h2,convert,Vt,hu,Q,Result.andThen,beq_self_eq_true,R,Vu]
  .refine⟨some ⟨b,0*1,none⟩,J,rfl,h3,.inr ⟨b,0*1,rfl,.inr rfl,?_⟩⟩;have:=YV (pre:=[]) F (q2.mono M);exact(by simpa using this:RR O [] _ b 1 es (0*1)).keep ⟨λ_ q=>.inl q,λ_ _=>rfl,λ_ _ q=>q,λ_ _ q=>q⟩ rfl
end
mutual
theorem QdA(ρ:Nat->Nat):∀{a:A},Ys a=true->YE ρ a=a
 |.any,_=>rfl
 |.bool _,_=>rfl
 |.int _ _,_=>rfl
 |.str _,_=>rfl
 |.nilp,_=>rfl
 |.ptr _ _,h=>by simp[Ys]at h
 |.rp _,_=>rfl
 |.nils,_=>rfl
 |.rsl _ _,_=>rfl
 |.osl _ _ _ _,h=>by simp[Ys]at h
 |.agg cs,h=>by simp only[Ys]at h;simp only[YE,Qad ρ h]
 |.fn f a c,h=>by simp only[Ys,X3]at h;simp only[YE,Qad ρ h.1,Qad ρ h.2]
 |.nilf,_=>rfl
 |.iface t a,h=>by simp only[Ys]at h;simp only[YE,QdA ρ h]
 |.nilif,_=>rfl
 |.map _,h=>by simp[Ys]at h
 |.nilm,_=>rfl
 |.tup vs,h=>by simp only[Ys]at h;simp only[YE,Qad ρ h]
theorem Qad(ρ:Nat->Nat):∀{l:List A},Yo l=true->Qaa ρ l=l
 |[],_=>rfl
 |a::l,h=>by simp only[Yo,X3]at h;simp only[Qaa,QdA ρ h.1,Qad ρ h.2]
end
theorem QgI{α:Type}{e:α->List A}(b:∀x,Yo (e x)=true):∀L:List α,Yo (L.map e).flatten=true
 |[]=>rfl
 |c::L=>by
  have hdt:∀cs ds:List A,Yo cs=true->Yo ds=true->Yo (cs++ds)=true:=by
   intro cs
   induction cs with
   |nil=>intro ds _ h;exact h
   |cons c cs d=>
    intro ds a f;simp only[Yo,X3,VQ]at a⊢;exact⟨a.1,d ds a.2 f⟩
  simp only[Vq,Vs];exact hdt _ _ (b c) (QgI b L)
theorem Qo4{α:Type}{e:α->List A}(hd:∀x,Yo (e x)=true)(ρ:Nat->Nat)(l:List α):YE ρ (.agg (l.map e).flatten)=.agg (l.map e).flatten:=
 QdA ρ (by simp only[Ys];exact QgI hd l)
end Go.Sw
namespace Go.Sw
section
variable {P:Program} {o:Oper} {env:Env} {H:Qd}
theorem QeJ{c:Call}{f T:Nat}{x:Operand}{xs:List Operand}{i:Array TypeId}{name:String}{v:A}{args:List A}(b:∀(a:Array Value) (w:World),(callFunc f a).run P w=.ok (.enter f a) w)(j:o.op=.call c)
  (n:c={callee:=.invoke x name,args:=xs.toArray,argTypes:=i})(k:opA env x=.iface T v)(hargs:v::xs.map (opA env)=args)
  (m:∀(u:Value) (w:World),(method (P.types.size+Made.depth) T u name).run P w=.ok (f,u) w):OpC P o env H f args:=by
 intro s q σ N a w r;have d:=Qg r x;rw[k]at d;obtain⟨u,d,p⟩:=d;refine⟨u::xs.map a.eval,?_,hargs▸⟨u,xs.map a.eval,rfl,p,Qbm r xs⟩⟩;subst n;generalize a.eval=ρ at*;have e:(#[ρ x]++(xs.toArray.map ρ):Array Value)=(.iface T u::xs.map ρ).toArray:=by rw[d];simp
 have g:((.iface T u::xs.map ρ).toArray.extract 1 (.iface T u::xs.map ρ).toArray.size:Array Value)=(xs.map ρ).toArray:=by
  simp[VO]
 have h:∀l:Array Value,(callMethod (.iface T u) name l).run P w=.ok (.enter f (#[u]++l)) w:=by
  intro l;simp only[callMethod,Vt,run_program,Result.andThen,m,b]
 simp only[execOp,j,resolve,e,invoke,Vt,Vu,Result.andThen];simp only[XM,XK,g,h];simp
theorem QbD{T I:Nat}{x:Operand}{v:A}{d:TypeDesc}(e:∀w,(underlying T).run P w=.ok d w)(g:∀m,d≠ .interface m)(f:o.op=.typeAssert x I T true:=by exact rfl)(hx:opA env x=.iface T v:=by exact rfl):
  OpV P o env H (.tup [v,.bool true]):=by
 intro i j σ N a w r;have b:=Qg r x;rw[hx]at b;obtain⟨u,b,h⟩:=b;refine⟨.tuple #[u,.bool true],?_,[u,.bool true],rfl,_,_,rfl,h,_,_,rfl,rfl,rfl⟩;generalize a.eval=ρ at*;cases d<;>first|(simp[execOp,f,b,Instr.typeAssert,e,go_sem];done)|exact(g _ rfl).elim
theorem QhV{T T' I:Nat}{x:Operand}{v z:A}{zv:Value}{d:TypeDesc}(j:∀w,(underlying T).run P w=.ok d w)(k:∀m,d≠ .interface m)(b:Nat.beq T' T=false)(h:∀w,(zeroValue T).run P w=.ok zv w)(f:ZR z zv)
  (g:o.op=.typeAssert x I T true:=by exact rfl)(hx:opA env x=.iface T' v:=by exact rfl):
  OpV P o env H (.tup [z,.bool false]):=by
 intro n l σ N a w r;have e:=Qg r x;rw[hx]at e;obtain⟨u,e,p⟩:=e;have i:T'≠T:=λq=>by rw[q,VL]at b;cases b
 refine⟨.tuple #[zv,.bool false],?_,[zv,.bool false],rfl,_,_,rfl,f _ _ _,_,_,rfl,rfl,rfl⟩;generalize a.eval=ρ at*;cases d<;>first|(simp[execOp,g,e,Instr.typeAssert,j,i,h,go_sem];done)|exact(k _ rfl).elim
end
def TL(P:Program)(h0 N:Nat)(c:Code)(env:Env)(H:Qd)(Q:QB):Prop:=
 ∀rd fr ro σ a w,Rel fr ro σ H env N a w->Qeu rd fr w->∀(b:Frame) (k:List Item) (cs:List Frame),b.roundOf=(WF rd).round->(WF rd).fn b.fn->(WF rd).room (cs.length+1+0)->∃e a' w',QaU h0 fr ro σ w N a.defers Q e a' w'/\ArrivesIn (Machine.fenced P (WF rd)) P (lone (b.atR a (.code c::.inLoop c::k)) cs w) b k cs e a' w'
def Qkl(P:Program)(h0 N:Nat)(c:Code)(Q:QB):QB
 |.normal,env,H=>TL P h0 N c env H Q
 |.exit id,env,H=>Q (.exit id) env H
 |.ret,env,H=>Q .ret env H
section
variable {P:Program} {h0 N:Nat} {c:Code} {env:Env} {H:Qd} {Q:QB}
theorem Qov(h:TL P h0 N c env H Q):TC P h0 N (.loop c) env H Q:=by
 intro i l j σ a w r hrd b k cs hro hb hr;obtain⟨e,g,m,f,d⟩:=h i l j σ a w r hrd b k cs hro hb hr;exact⟨e,g,m,f,.of_steps (.one (fenced_calm hb hr rfl) stepR_loop) d⟩
theorem TL.round(h:TC P h0 N c env H (Qkl P h0 N c Q)):TL P h0 N c env H Q:=by
 intro E G B σ a w r hrd b k cs hro hb hr;obtain⟨e,l,n,O,d⟩:=h E G B σ a w r hrd b (.inLoop c::k) cs hro hb hr;obtain⟨x,f,H',i,σ',j,m,p,z,u,y,s⟩:=O;have F:∀x,Q x f H'->ExR e x->QaU h0 G B σ w N a.defers Q e l n:=λx q J=>⟨x,f,H',i,σ',j,J,q,z,u,y,s⟩;cases e with
 |normal=>
  obtain rfl:x=.normal:=m;obtain⟨M,L,w2,t,g⟩:=p E j i σ' l n z (hrd.to u s.sub) b k cs hro hb hr;exact⟨M,L,w2,t.grow u y s,.of_steps (StepsIn.trans d (.one (fenced_calm hb hr rfl) stepR_inLoop)) g⟩
 |exit id=>
  obtain rfl:x=.exit id:=m;exact⟨_,l,n,F _ p rfl,.pass (x:=.inLoop c) rfl (λ_ _=>.inl (by simp)) d⟩
 |ret=>
  obtain rfl:x=.ret:=m;exact⟨_,l,n,F _ p rfl,.pass (x:=.inLoop c) rfl (λ_ _=>.inl (by simp)) d⟩
 |_=>exact m.elim
theorem unrN(h:TC P h0 N c env H (Qkl P h0 N c Q)):Qkl P h0 N c Q .normal env H:=TL.round h
theorem unrX{id:Nat}(h:Q (.exit id) env H):Qkl P h0 N c Q (.exit id) env H:=h
theorem unrR(h:Q .ret env H):Qkl P h0 N c Q .ret env H:=h
theorem Qmb(h:TC P h0 N c env H (Qkl P h0 N c Q)):TC P h0 N (.loop c) env H Q:=Qov (TL.round h)
end
section
variable {P:Program} {o:Oper} {env:Env} {H:Qd}
theorem OpV.ixL{t et k b n j:Nat}{x y:Operand}{a:IntKind}{i:Int}(g:Nat.blt j n=true)(hi:i=(j:Int))(d:∀w,(underlying t).run P w=.ok (.slice et) w)(f:∀w,(sizeOf et).run P w=.ok k w)
  (e:o.op=.indexAddr t x y:=by exact rfl)(hx:opA env x=.osl b 0 n k:=by exact rfl)(hy:opA env y=.int a i:=by exact rfl):OpV P o env H (.ptr b (j*k)):=by
 subst hi;have h:=QhW (H:=H) e d f hx hy (by omega) (by simpa using g)
 rwa [Int.toNat_natCast,Nat.zero_mul,XA]at h
end
theorem QfX{ro:Nat->Prop}{σ:Sig}{w:World}{k:Nat}:∀{es:List (List A)} {l l':List Value},RL ro σ w k es l->l.take (es.length*k)=l'.take (es.length*k)->RL ro σ w k es l'
 |[],_,_,_,_=>trivial
 |c::es,l,l',h,hp=>by
  obtain⟨l1,l2,rfl,h1,h2,h3⟩:=h;have hl1:l1.length=k:=by rw[h2.1.length];exact h1
  have a:l'.take k=l1:=by
   have:=congrArg (List.take k) hp;simp only[List.take_take,X6,Xm]at this;rw[XG (by omega)]at this;rw[<- this, <- hl1];simp
  refine⟨l1,l'.drop k,by rw[<- a,XE],h1,h2,QfX h3 ?_⟩;have:=congrArg (List.drop k) hp;simp only[X6,Xm,List.drop_take]at this;rw[show es.length*k+k-k=es.length*k by omega]at this;rw[<- this, <- hl1];simp
section
variable {P:Program} {o:Oper} {env:Env} {H:Qd}
theorem Qgi{c:Call}{T et k b s n t:Nat}{x:Operand}{es es':List (List A)}{z:Value}(ht:P.underlying T=some (.slice et))(hz:∀w,(zeroValue et).run P w=.ok z w)(aa:z.cells.size=k)(M:∀v∈z.cells,Qp v)
  (Q:es.take s=es')(hb:s+n=es.length)(ho:o.op=.call c:=by exact rfl)(hc:c={callee:=.builtin .clear,args:= #[x],argTypes:= #[T]}:=by exact rfl)
  (hx:opA env x=.osl b s n k:=by exact rfl)(hH:H[b]?=some (.row t k es):=by exact rfl):OpH P o env H (.tup []) (H.set b (.row t k es')):=by
 intro Y E σ N a w r;subst Q hc;have W:∀w,(underlying T).run P w=.ok (.slice et) w:=run_underlying ht;have j:=Qg r x;rw[hx]at j;have h:Sim Y E σ (H.set b (.row t k (es.take s))) w:=by
  refine r.sim.weaken hH rfl ?_;intro y F;cases y with
  |none=>rw[show es=[]from F];simp[BR]
  |some O=>obtain⟨l,g1,g2⟩:=F;exact⟨l,g1,RL.take s g2⟩
 have f:∀v,a.eval x=v->(Builtin.clear_ #[T] o.type #[v]).run P w=.ok (.tuple #[]) w->
   ∃v w' ro' τ,(execOp a.eval o).run P w=.ok (.value v) w'/\VR ro' (σ++τ) w' (.tup []) v/\Sim Y ro' (σ++τ) (H.set b (.row t k (es.take s))) w'/\Qh Y E w ro' w':=by
  intro v G d;refine⟨.tuple #[],w,E,[],?_,⟨[],rfl,rfl⟩,by simpa using h,Qh.refl _ _ _⟩;generalize a.eval=ρ at*;simp only[execOp,ho,resolve,Vt,Vu,Result.andThen,invoke,builtin,XO,Vq,Vr,G,d]
 rcases j with⟨hn,j⟩|⟨O,p,J,t',m,j,h2,h3,⟨h4,af⟩,h5,h6⟩
 .refine f _ j ?_;simp[Builtin.clear_,W,Result.andThen]
 .by_cases hn:n=0
  .subst hn;refine f _ h2 ?_;simp[Builtin.clear_,W,Result.andThen]
  .obtain rfl:=h3 (by omega);obtain⟨l,q1,q2⟩:=r.sim.blk b _ _ j hH;have ab:=q2.length
   let vs:=(Builtin.zeroCells z.cells n).toList
   have ac:vs.length=n*k:=by simp[vs,Builtin.zeroCells,aa]
   have L:∀v∈vs,Qp v:=by
    intro v G;simp only[vs,Builtin.zeroCells,Array.toList_map,Xe,Array.toList_range,List.mem_range]at G;obtain⟨i,hi,rfl⟩:=G;have u:0<z.cells.size:=by
     rcases Nat.eq_zero_or_pos z.cells.size with q|q
     .rw[q,Nat.mul_zero]at hi;omega
     .exact q
    have B:i%z.cells.size<z.cells.size:=Nat.mod_lt _ u;rw[getElem!_pos z.cells _ B];exact M _ (Array.getElem_mem B)
   have ae:s*k+n*k=es.length*k:=by rw[<- XF,hb]
   have d:=Yb (P:=P) (vs:=vs) (s*k) 0 q1 (by omega) L;have g:=r.sim.set (x':=.row t k (es.take s)) (obj:=.cells (splice l (s*k) vs).toArray t (0,0)) j hH rfl
    (λy F=>Jt q1 (Ya (by omega)) y F)
    (λex V=>⟨_,V,by
     refine(QfX (RL.take s q2) ?_).mono ex.nil;have hl:(es.take s).length*k<=s*k:=XH k (by simp;omega);have X:(es.take s).length*k<=(l.take (s*k)).length:=by rw[XC (i:=s*k),XG (by omega)];exact hl
     have e:=Vd (l₂:=vs++l.drop (s*k+vs.length)) X;unfold splice;rw[Vp,e,List.take_take,XG hl]⟩)
   refine⟨.tuple #[],_,E,[],?_,⟨[],rfl,rfl⟩,by simpa using g.1,g.2⟩;have R:(Builtin.clear_ #[T] o.type #[.slice (some ⟨O,s*k,none⟩) n J]).run P w=.ok (.tuple #[]) {w with heap:=w.heap.setIfInBounds O (.cells (splice l (s*k) vs).toArray t (0,0))}:=by
    obtain⟨n',rfl⟩:∃n',n=n'+1:=⟨n-1,by omega⟩;simp only[XB]at d;simp only[Builtin.clear_,XM,XK,Vt,W,hz,Result.andThen,d,Vu,vs]
   generalize a.eval=ρ at*;simp only[execOp,ho,resolve,Vt,Vu,Result.andThen,invoke,builtin,XO,Vq,Vr,h2,R]
end
def isNil{α R:Type}[DecidableEq R](l:List α)(x y:Option R):Option R:=bif l.isEmpty then(bif decide (x=y)then x else none)else y
theorem QiA{α R:Type}[DecidableEq R]{l:List α}{x y:Option R}{r:R}(h:isNil l x y=some r)(b:Bool)(f:l≠[]->b=false):(b=true->x=some r)/\(b=false->y=some r):=by
 unfold isNil at h;cases q:l.isEmpty with
 |true=>
  rw[q]at h;by_cases a:x=y
  .subst a;simp at h;exact⟨λ_=>h,λ_=>h⟩
  .simp[a]at h
 |false=>
  rw[q]at h;have d:l≠[]:=by rintro rfl;cases q
  refine⟨λe=>?_,λ_=>h⟩;rw[f d]at e;cases e
section
variable {P:Program} {o:Oper} {env:Env} {H:Qd} {h0 N:Nat} {Q:QB}
theorem Qmu{α:Type}{e:α->List A}{T E k:Nat}{u:TypeId}{x:Operand}{l:List α}(q:P.underlying T=some (.slice E))(i:o.op=.binOp .eql T x (.const (.slice none 0 0)) u)(j:opA env x=.rsl k (l.map e)):
  OpE P o env H (λv H'=>∃b:Bool,v=.bool b/\(l≠[]->b=false)/\H'=H):=by
 intro t p σ N a w r;have g:=Qg r x;rw[j]at g;obtain⟨ad,d,g,y,f⟩:=g;refine⟨.bool ad.isNone,H,.bool ad.isNone,w,p,[],⟨ad.isNone,rfl,λh=>?_,rfl⟩,?_,rfl,by simpa using r.sim,Qh.refl _ _ _⟩
 .rcases f with f|⟨b,m,f,_⟩
  .exact absurd (List.map_eq_nil_iff.1 f) h
  .rw[f];rfl
 .have n:a.eval (.const (.slice none 0 0))=.slice none 0 0:=rfl;generalize a.eval=ρ at*;have s:(eqGuard .eql T x (.const (.slice none 0 0)) (.slice ad (l.map e).length d) (.slice none 0 0)).run P w=.ok () w:=by simp[eqGuard]
  simp only[execOp,i,g,n,Vt,s,Result.andThen,Go.run_eql_slice_nil w T E ad _ d q,Vu]
theorem Qje{α:Type}{e:α->List A}{T E k d:Nat}{u:TypeId}{x:Operand}{l:List α}{all:Array Oper}{L:List Oper}(a:P.underlying T=some (.slice E))(i:opA env x=.rsl k (l.map e))
  (h:∀b:Bool,(l≠[]->b=false)->WO P h0 N all L (up env d (.bool b)) H Q)
  (g:o.op=.binOp .eql T x (.const (.slice none 0 0)) u:=by exact rfl)(hg:Qs all o env true:=by exact rfl)(hd:o.dst=some d:=by exact rfl)(hN:Nat.blt d N=true:=by exact rfl)(hh:Nat.ble h0 H.length=true:=by exact rfl):WO P h0 N all (o::L) env H Q:=by
 refine Qkk (XX hh) hg hd hN (Qmu a g i) ?_;rintro v H' ⟨b,rfl,f,rfl⟩;exact h b f
end
theorem slc0{α:Type}{l x:List α}{i:Int}(h:slc l 0 i=some x):0<=i/\i.toNat<=l.length/\l.take i.toNat=x/\x.length=i.toNat:=by
 obtain⟨_,b,e,d⟩:=Qdy h;have a:l.take i.toNat=x:=by simpa using d
 exact⟨b,by omega,a,by rw[<- a,XC];omega⟩
section
variable {P:Program} {o:Oper} {env:Env} {H:Qd} {α:Type} {e:α->List A} {T et k b t:Nat} {x y:Operand} {l l':List α} {i:Int}
theorem Qkq(h:slc l 0 i=some l')(E1:∀w,(underlying T).run P w=.ok (.slice et) w)(E2:∀w,(sizeOf et).run P w=.ok k w)(d:o.op=.slice T x (some y) none none:=by exact rfl)
  (hx:opA env x=.osl b 0 l.length k:=by exact rfl)(hy:opA env y=.int .i64 i:=by exact rfl):OpV P o env H (.osl b (0+i.toNat) (l.length-i.toNat) k):=by
 obtain⟨a,e,_,_⟩:=slc0 h;exact Qf2 E1 E2 d hx (.inr ⟨y,i,rfl,hy,a,rfl⟩) (.inl ⟨rfl,rfl⟩) e (XZ _)
theorem Qkr(h:slc l 0 i=some l')(E1:∀w,(underlying T).run P w=.ok (.slice et) w)(E2:∀w,(sizeOf et).run P w=.ok k w)(e:o.op=.slice T x none (some y) none:=by exact rfl)
  (hx:opA env x=.osl b 0 l.length k:=by exact rfl)(hy:opA env y=.int .i64 i:=by exact rfl):OpV P o env H (.osl b 0 l'.length k):=by
 obtain⟨a,f,_,d⟩:=slc0 h;have:=Qf2 (H:=H) E1 E2 e hx (.inl ⟨rfl,rfl⟩) (.inr ⟨y,i,rfl,hy,a,rfl⟩) (X0 _) f;rw[d];simpa using this
theorem Qku{c:Call}{z:Value}(h:slc l 0 i=some l')(m:P.underlying T=some (.slice et))(g:∀w,(zeroValue et).run P w=.ok z w)(d:z.cells.size=k)(a:∀v∈z.cells,Qp v)(f:o.op=.call c:=by exact rfl)(hc:c={callee:=.builtin .clear,args:= #[x],argTypes:= #[T]}:=by exact rfl)
  (hx:opA env x=.osl b (0+i.toNat) (l.length-i.toNat) k:=by exact rfl)(hH:H[b]?=some (.row t k (l.map e)):=by exact rfl):OpH P o env H (.tup []) (H.set b (.row t k (l'.map e))):=by
 obtain⟨p,q,j,n⟩:=slc0 h;refine Qgi m g d a ?_ ?_ f hc hx hH
 .rw[XA, <- j,List.map_take]
 .rw[X7];omega
end
end Go.Sw
namespace Go.Sw
open Go.Sort Go.Proofs Go.Shelf
def ltI(x y:Int):Bool:=decide (x<y)
def sortI(l:List Int):Option (List Int):=bif Nat.ble l.length Qt then some (Yn ltI l)else none
theorem Qia{l l':List Int}(h:sortI l=some l'):l.length<=Qt/\Yn ltI l=l':=by
 unfold sortI at h;cases e:Nat.ble l.length Qt with
 |false=>rw[e]at h;simp at h
 |true=>rw[e]at h;exact⟨XX e,X5 h⟩
theorem Qac{l l':List Int}(h:sortI l=some l'):l.length=l'.length:=by
 rw[<- (Qia h).2];exact(Qn _ _).length_eq.symm
theorem Qc5(l:List Int):Qej ltI l:=
 ⟨λx _=>by simp[ltI],λx _ y _ z _ a b=>by simp[ltI]at*;omega,λx _ y _ z _ a b=>by simp[ltI]at*;omega⟩
theorem Qer(l:List Int):(l.mergeSort λx y=>decide (x<=y))=Yn ltI l:=by
 refine Jp (lt:=ltI) ?_ ?_ ?_ (QT (Qc5 l))
 .exact(List.mergeSort_perm _ _).trans (Qn _ _).symm
 .intro x _ y _ a b;simp[ltI]at*;omega
 .refine(List.pairwise_mergeSort (le:=λx y=>decide (x<=y)) ?_ ?_ l).imp ?_
  .intro a b c;simp;omega
  .intro a b;simp;omega
  .intro a b;simp[ltI]
theorem QeH{ro:Nat->Prop}{σ:Sig}{w:World}:∀{l:List Int} {lv:List Value},RL ro σ w 1 (l.map λx=>[A.int .i64 x]) lv->∃rest,lv=l.map (Value.int .i64)++rest
 |[],lv,_=>⟨lv,rfl⟩
 |x::l,lv,h=>by
  obtain⟨l1,l2,rfl,h1,⟨h2,h3⟩,h4⟩:=h;obtain⟨rest,rfl⟩:=QeH (l:=l) h4;obtain⟨v,r,rfl,hv,hr⟩:=h2;cases(show r=[]from hr);exact⟨rest,by rw[show v=.int .i64 x from hv];simp⟩
theorem QfY{ro:Nat->Prop}{σ:Sig}{w:World}:∀(l:List Int) (rest:List Value),RL ro σ w 1 (l.map λx=>[A.int .i64 x]) (l.map (Value.int .i64)++rest)
 |[],_=>trivial
 |x::l,rest=>⟨[.int .i64 x],l.map (Value.int .i64)++rest,by simp,rfl,⟨⟨_,_,rfl,rfl,rfl⟩,by simp[Qp]⟩,QfY l rest⟩
theorem Qlu{P:Program}{ρ:Ren}(L:Lays.n189 P ρ){t:Nat}{l l':List Int}(hs:sortI l=some l'):
  C P (ρ.f 189) [.osl 0 0 l.length 1] [.row t 1 (l.map λx=>[A.int .i64 x])] (λa H=>a=.tup []/\H=[.row t 1 (l'.map λx=>[A.int .i64 x])]):=by
 intro fr O σ vals w s hv;obtain⟨vs,r1,rfl,ae,hr⟩:=hv;cases(show r1=[]from hr);obtain⟨ab,R⟩:=Qia hs;have d:∀(ad:Option Addr) (c:Nat),vs=.slice ad 0 c->l=[]->
   Calls P (ρ.f 189) [vs].toArray w λe X=>∃v r H' ro' τ,e=.returned v/\(r=.tup []/\H'=[.row t 1 (l'.map λx=>[A.int .i64 x])])/\Sim fr ro' (σ++τ) H' X/\VR ro' (σ++τ) X r v/\Qh fr O w ro' X:=by
  rintro ad c rfl rfl;have B:l'=[]:=by rw[<- R];rfl
  subst B;refine(Any.slices_Sort_int_none L ad c w).mono ?_;rintro e X ⟨rfl,rfl⟩;exact⟨_,_,_,O,[],rfl,⟨rfl,rfl⟩,by simpa using s,⟨[],rfl,rfl⟩,Qh.refl _ _ _⟩
 rcases ae with⟨h0,rfl⟩|⟨b,p,cp,t',m,q1,rfl,q2,⟨q3,ak⟩,q4,q5⟩
 .exact d none 0 rfl (VP.1 h0)
 .by_cases B:l=[]
  .subst B;exact d _ cp rfl rfl
  .have ag:0<l.length:=List.length_pos_iff.2 B;obtain rfl:=q2 (Vl ag q3);obtain⟨lv,e1,e2⟩:=s.blk 0 _ _ q1 rfl;obtain⟨hb,Q,Y⟩:=s.own 0 b _ q1 rfl rfl;obtain⟨u,rfl⟩:=QeH e2;have hH:Holds (Value.int .i64) w b 0 l.toArray:=by
    intro j hj;simp only[List.size_toArray]at hj;constructor
    .unfold World.cell?;simp only[e1,Option.isSome_none,Xi,if_false,XA];rw[Jc,XS (by simpa using hj)];simp[hj]
    .unfold World.frozen?;simp only[e1];simp
   have z:=Any.slices_Sort_int L b 0 cp l w hH hb (by unfold Qt at ab;omega);rw[Qer,R]at z;simp only[Nat.zero_mul]at z⊢;refine z.mono ?_;rintro e X ⟨rfl,n,os,rfl⟩;have F:l.length=l'.length:=Qac hs;generalize hW:grow (putRow (Value.int .i64) (Sort.ahead w n) b 0 l'.toArray) os=W;have g:W.heap=w.heap.setIfInBounds b (.cells ((l'.map (Value.int .i64)++u)).toArray t (0,0))++os:=by
    rw[<- hW];show(w.heap.modify b _)++os=_;rw[Qbh e1];simp only[onCells];congr 3;unfold putCells;apply Array.ext_getElem?;intro i;simp only[Array.getElem?_mapIdx,Jc,X0,true_and,XA,Xz,List.size_toArray];by_cases hi:i<l'.length
    .rw[XS (by simpa[F]using hi),XS (by simpa using hi)];simp[hi,F]
    .rw[XT (by simp;omega),XT (by simp;omega)];simp only[X7,F];cases(u[i-l'.length]?)with
     |none=>rfl
     |some v=>exact congrArg some (Vy hi)
   have g1:∀c,c<w.heap.size->c≠b->W.heap[c]?=w.heap[c]? :=by
    intro c k ac;rw[g,Array.getElem?_append_left (by simpa using k),Vk,Vy (λq=>ac q.symm)]
   have g2:W.heap[b]?=some (.cells ((l'.map (Value.int .i64)++u)).toArray t (0,0)):=by
    rw[g,Array.getElem?_append_left (by simpa using hb),Vk,Vz rfl,Vz hb]
   have g3:w.heap.size<=W.heap.size:=by rw[g];simp
   have E:∀c y,w.shape? c=some y->W.shape? c=some y:=by
    intro c y J;by_cases k:c=b
    .subst k;unfold World.shape? at J⊢;rw[e1]at J;rw[g2];simp only[Option.some.injEq]at J⊢;rw[<- J];simp[F]
    .unfold World.shape? at J⊢;rw[g1 c (QbR J) k];exact J
   have aj:W.os=w.os:=by rw[<- hW];rfl
   have ah:W.tape=w.tape:=by rw[<- hW];rfl
   have ai:W.output=w.output:=by rw[<- hW];rfl
   have af:w.drawn<=W.drawn:=by rw[<- hW];exact Nat.le_add_right _ _
   have aa:Qh fr O w O W:=
    ⟨λ_ q=>q,λc k=>g1 c (s.roLt c k) (λq=>Q (q▸k)),λc k=>g1 c (s.frLt c k) (λq=>Y (q▸k)),g3,E,aj,ah,ai,af⟩
   have G:σ.length=1:=s.len;have V:Sim fr O σ [.row t 1 (l'.map λx=>[A.int .i64 x])] W:=by
    have T:∀{i:Nat} {x:Blk},([.row t 1 (l'.map λx=>[A.int .i64 x])]:Qd)[i]?=some x->i=0/\x=.row t 1 (l'.map λx=>[A.int .i64 x]):=by
     intro i x h;cases i with
     |zero=>simp at h;exact⟨rfl,h.symm⟩
     |succ i=>simp at h
    refine⟨G,s.roOk.to (λ_ q=>q) aa.keepRo (λc k=>Vl (s.roLt c k) g3),λc k=>Vl (s.frLt c k) g3,s.roFr,λi c x N M h3=>?_,λi j c x y N M h3 h4 _ _=>?_,λi y x N M=>?_,λi b x c N M h3=>by obtain⟨rfl,rfl⟩:=T M;exact h3.elim⟩
    .obtain⟨rfl,rfl⟩:=T M;obtain⟨p1,p2⟩:=s.own 0 c _ N rfl rfl;exact⟨Vl p1 g3,p2⟩
    .rw[(T h3).1,(T h4).1]
    .obtain⟨rfl,rfl⟩:=T M;rw[q1]at N;cases N;exact⟨_,g2,QfY l' u⟩
   exact⟨_,_,_,O,[],rfl,⟨rfl,rfl⟩,by simpa using V,⟨[],rfl,rfl⟩,aa⟩
def QaT(p:Int):List Int->List Int
 |[]=>[]
 |y::l=>bif y==p then QaT p l else y::QaT y l
def Qi5:List Int->List Int
 |[]=>[]
 |x::l=>x::QaT x l
section
variable {P:Program} {o:Oper} {env:Env} {H:Qd} {α:Type} {e:α->List A} {T et k b t:Nat} {x y:Operand}
theorem QdV{lo hi:Option Operand}{l r:List α}{a c:Int}(h:slc l a c=some r)(E1:∀w,(underlying T).run P w=.ok (.slice et) w)(E2:∀w,(sizeOf et).run P w=.ok k w)
  (f:lo=none/\a=0\/ ∃y,lo=some y/\opA env y=.int .i64 a)(g:hi=none/\c=l.length\/ ∃y,hi=some y/\opA env y=.int .i64 c)
  (i:o.op=.slice T x lo hi none:=by exact rfl)(hx:opA env x=.osl b 0 l.length k:=by exact rfl):OpV P o env H (.osl b (0+a.toNat) (c.toNat-a.toNat) k):=by
 obtain⟨j,m,n,_⟩:=Qdy h;refine Qf2 (l:=a.toNat) (h:=c.toNat) E1 E2 i hx ?_ ?_ (by omega) (by omega)
 .rcases f with⟨e,d⟩|⟨y,e,d⟩
  .exact .inl ⟨e,by rw[d];rfl⟩
  .exact .inr ⟨y,a,e,d,j,rfl⟩
 .rcases g with⟨e,d⟩|⟨y,e,d⟩
  .exact .inl ⟨e,by rw[d];simp⟩
  .exact .inr ⟨y,c,e,d,by omega,rfl⟩
end
end Go.Sw
namespace Go.Sw
inductive Bx where
 |mk (a:A)
def lkB:Env->Nat->Bx
 |[],_=>.mk .any
 |(d,a)::r,s=>bif Nat.beq s d then .mk a else lkB r s
theorem QjP:∀{env:Env} {s:Nat} {a:A},lkB env s=.mk a->lk env s=a
 |[],s,a,h=>by cases h;rfl
 |(d,b)::r,s,a,h=>by
  unfold lkB at h;unfold lk;cases q:Nat.beq s d with
  |true=>rw[q]at h;cases h;rfl
  |false=>rw[q]at h;exact QjP h
inductive FBy where
 |mk (l:List UInt8)
def fby:List UInt8->FBy
 |[]=>.mk []
 |a::r=>match fby r with
  |.mk r'=>.mk (a::r')
theorem QnO:∀l:List UInt8,fby l=.mk l
 |[]=>rfl
 |a::r=>by unfold fby;rw[QnO r]
def opB(env:Env):Operand->Bx
 |.tmp t=>lkB env t
 |.const (.bool b)=>.mk (.bool b)
 |.const (.int k n)=>.mk (.int k n)
 |.const (.string s)=>match fby s.data.toList with
  |.mk l=>.mk (.str l)
 |.const (.pointer none)=>.mk .nilp
 |.const (.slice none 0 0)=>.mk .nils
 |.const (.map none)=>.mk .nilm
 |.const .nilFunc=>.mk .nilf
 |.const .nilIface=>.mk .nilif
 |.func f=>.mk (.fn (.func f) [] [])
 |_=>.mk .any
theorem QD{env:Env}{x:Operand}{a:A}(h:opB env x=.mk a):opA env x=a:=by
 cases x with
 |tmp t=>exact QjP h
 |const v=>
  cases v with
  |slice b n k=>cases b with
   |none=>cases n with
    |zero=>cases k<;>(cases h;rfl)
    |succ n=>cases h;rfl
   |some b=>cases h;rfl
  |pointer p=>cases p<;>(cases h;rfl)
  |map p=>cases p<;>(cases h;rfl)
  |string s=>
   have d:(match fby s.data.toList with|.mk l=>Bx.mk (.str l))=.mk a:=h;rw[QnO]at d;cases d;rfl
  |_=>cases h;rfl
 |global g=>cases h;rfl
 |func f=>cases h;rfl
def YX{α:Type}:List α->Nat->Option α
 |[],_=>none
 |a::_,0=>some a
 |_::r,n+1=>YX r n
theorem QaG{α:Type}:∀(l:List α) (n:Nat),YX l n=l[n]?
 |[],n=>by simp[YX]
 |a::r,0=>rfl
 |a::r,n+1=>by simp[YX,QaG r n]
def arB:BinOp->IntKind->Int->Int->Option A
 |.add,k,m,n=>some (.int k (k.wrap (m+n)))
 |.sub,k,m,n=>some (.int k (k.wrap (m-n)))
 |.mul,k,m,n=>some (.int k (k.wrap (m*n)))
 |.eql,_,m,n=>some (.bool (m==n))
 |.neq,_,m,n=>some (.bool (m != n))
 |.lss,_,m,n=>some (.bool (decide (m<n)))
 |.leq,_,m,n=>some (.bool (decide (m<=n)))
 |.gtr,_,m,n=>some (.bool (decide (n<m)))
 |.geq,_,m,n=>some (.bool (decide (n<=m)))
 |_,_,_,_=>none
def srB:BinOp->List UInt8->List UInt8->Option A
 |.eql,p,q=>some (.bool (p==q))
 |.neq,p,q=>some (.bool (p != q))
 |.lss,p,q=>some (.bool (Op.bytesLess p q))
 |_,_,_=>none
def biB(b:BinOp):Bx->Bx->Option A
 |.mk (.int k m),.mk (.int k' n)=>if k=k' then arB b k m n else none
 |.mk (.str p),.mk (.str q)=>srB b p q
 |_,_=>none
def unB:UnOp->Bx->Option A
 |.not,.mk (.bool b)=>some (.bool !b)
 |.neg,.mk (.int k n)=>some (.int k (k.wrap (0-n)))
 |_,_=>none
def exB:Bx->Nat->Option A
 |.mk (.tup vs),i=>YX vs i
 |_,_=>none
def nlB:Bx->Option A
 |.mk (.ptr i j)=>some (.ptr i j)
 |.mk (.rp cs)=>some (.rp cs)
 |_=>none
def piB:Bx->Bx->Bx->Option A
 |.mk (.bool true),.mk a,_=>some a
 |.mk (.bool false),_,.mk a=>some a
 |_,_,_=>none
def svB(env:Env):Op->Option A
 |.move x=>match opB env x with|.mk a=>some a
 |.assign x=>match opB env x with|.mk a=>some a
 |.nilCheck x=>nlB (opB env x)
 |.extract x i=>exB (opB env x) i
 |.unOp u _ x=>unB u (opB env x)
 |.pick c x y=>piB (opB env c) (opB env x) (opB env y)
 |.binOp b _ x y _=>biB b (opB env x) (opB env y)
 |_=>none
def pr(d:Nat):Option A->Option (Nat×A)
 |some a=>some (d,a)
 |none=>none
def stB(o:Oper)(env:Env):Option (Nat×A):=
 match o.dst with
 |some d=>pr d (svB env o.op)
 |none=>none
section
variable {P:Program} {h0 N:Nat} {all:Array Oper} {o:Oper} {l:List Oper} {env:Env} {H H':Qd} {Q:QB} {d:Nat} {x:A}
theorem QbP{p:Op}(d:o.op=p)(h:svB env p=some x):OpV P o env H x:=by
 unfold svB at h;split at h
 .rename_i y;cases q:opB env y with|mk a=>rw[q]at h;cases h;exact OpV.move d (QD q)
 .rename_i y;cases q:opB env y with|mk a=>rw[q]at h;cases h;exact OpV.assign d (QD q)
 .rename_i y;unfold nlB at h;split at h
  .rename_i i j q;cases h;exact YC d (QD q) rfl
  .rename_i w q;cases h;exact YC d (QD q) rfl
  .cases h
 .rename_i y i;unfold exB at h;split at h
  .rename_i vs _ q;rw[QaG]at h;exact OpV.extract d (QD q) h
  .cases h
 .rename_i u t y;unfold unB at h;split at h
  .rename_i b q;cases h;exact OpV.not d (QD q)
  .rename_i k n q;cases h;exact OpV.neg d (QD q)
  .cases h
 .rename_i c y z;unfold piB at h;split at h
  .rename_i a _ r l;cases h;exact OpV.pick d (QD r) (by rw[Vz rfl];exact QD l)
  .rename_i a r l;cases h;exact OpV.pick d (QD r) (by rw[Vy (by decide)];exact QD l)
  .cases h
 .rename_i b t y z u;unfold biB at h;split at h
  .rename_i k m s n r l;split at h
   .rename_i e;subst e;have f:=QD r;have g:=QD l;unfold arB at h;split at h
    .cases h;exact OpV.add d f g
    .cases h;exact OpV.sub d f g
    .cases h;exact OpV.mul d f g
    .cases h;exact OpV.eql d f g
    .cases h;exact OpV.neq d f g
    .cases h;exact OpV.lss d f g
    .cases h;exact OpV.leq d f g
    .cases h;exact OpV.gtr d f g
    .cases h;exact OpV.geq d f g
    .cases h
   .cases h
  .rename_i p q r l;have f:=QD r;have g:=QD l;unfold srB at h;split at h
   .cases h;exact QdU d f g
   .cases h;exact Qmh d f g
   .cases h;exact Qmi d f g
   .cases h
  .cases h
 .cases h
theorem Qhk(h:stB o env=some (d,x)):o.dst=some d/\OpV P o env H x:=by
 unfold stB at h;split at h
 .rename_i b q;cases e:svB env o.op with
  |none=>rw[e]at h;cases h
  |some a=>rw[e]at h;cases h;exact⟨q,QbP rfl e⟩
 .cases h
theorem S(e:stB o env=some (d,x))(k:WO P h0 N all l (up env d x) H Q)(hg:Qs all o env true:=by exact rfl)(hN:Nat.blt d N=true:=by exact rfl):WO P h0 N all (o::l) env H Q:=
 QF hg (Qhk (P:=P) (H:=H) e).1 hN (Qhk e).2 k
theorem Sg(hg:Qs all o env true)(e:stB o env=some (d,x))(k:WO P h0 N all l (up env d x) H Q)(a:Nat.blt d N=true:=by exact rfl):WO P h0 N all (o::l) env H Q:=
 QF hg (Qhk (P:=P) (H:=H) e).1 a (Qhk e).2 k
theorem K(hg:Qs all o env false)(b:o.dst=some d)(k:WO P h0 N all l (up env d (.tup [])) H Q)(a:Nat.blt d N=true:=by exact rfl):WO P h0 N all (o::l) env H Q:=
 WO.skip hg b a k
theorem KF{j s:Nat}{c y:Bool}(a:y= !c)(e:o.dst=some d)(k:WO P h0 N all l (up env d (.tup [])) H Q)(b:Nat.blt d N=true:=by exact rfl)(hg:o.guard=some (j,c):=by exact rfl)(hs:(all[j]?).bind (·.dst)=some s:=by exact rfl)(hl:lk env s=.bool y:=by exact rfl):WO P h0 N all (o::l) env H Q:=
 WO.skip (gF a hg hs hl) e b k
def p2B(v:Bool):Bx->Bx->Bx->Option (Bool×A)
 |.mk (.bool b),.mk a,.mk a'=>match v with|true=>some (b,a)|false=>some (b,a')
 |_,_,_=>none
def pr2(d:Nat):Option (Bool×A)->Option (Nat×Bool×A)
 |some a=>some (d,a)
 |none=>none
def pkB(v:Bool)(o:Oper)(env:Env):Option (Nat×Bool×A):=
 match o.dst,o.op with
 |some d,.pick c x y=>pr2 d (p2B v (opB env c) (opB env x) (opB env y))
 |_,_=>none
theorem QqD{v b:Bool}{p q r:Bx}(h:p2B v p q r=some (b,x)):∃a a',p=.mk (.bool b)/\q=.mk a/\r=.mk a'/\(bif v then a else a')=x:=by
 obtain⟨p⟩:=p;obtain⟨q⟩:=q;obtain⟨r⟩:=r;cases p<;>first|(cases h;done)|skip
 cases v<;>cases h<;>exact⟨_,_,rfl,rfl,rfl,rfl⟩
theorem Qnh{v b:Bool}(h:pkB v o env=some (d,b,x))(j:b=v):o.dst=some d/\OpV P o env H x:=by
 unfold pkB at h;split at h
 .rename_i p c y z k g;cases e:p2B v (opB env c) (opB env y) (opB env z)with
  |none=>rw[e]at h;cases h
  |some s=>
   rw[e]at h;cases h;obtain⟨a,n,i,l,f,m⟩:=QqD e;refine⟨k,OpV.pick g (QD i) ?_⟩;rw[QD l,QD f,j];cases v<;>exact m
 .cases h
theorem Pk{v b:Bool}(a:b=v)(e:pkB v o env=some (d,b,x))(k:WO P h0 N all l (up env d x) H Q)(hg:Qs all o env true:=by exact rfl)(hN:Nat.blt d N=true:=by exact rfl):WO P h0 N all (o::l) env H Q:=
 QF hg (Qnh (P:=P) (H:=H) e a).1 hN (Qnh e a).2 k
def fpB(o:Oper)(env:Env):Option (Nat×Nat×Nat×Nat×Nat):=
 match o.dst,o.op with
 |some d,.fieldAddr T x f=>match opB env x with
  |.mk (.ptr i p)=>some (d,T,f,i,p)
  |_=>none
 |_,_=>none
theorem QhC{T f off n i p:Nat}(b:QG P T f off n)(h:fpB o env=some (d,T,f,i,p)):o.dst=some d/\OpV P o env H (.ptr i (p+off)):=by
 unfold fpB at h;split at h
 .rename_i g e;split at h
  .rename_i a;cases h;exact⟨g,Yw b e (QD a)⟩
  .cases h
 .cases h
theorem Fp{T f off n i p:Nat}(a:QG P T f off n)(e:fpB o env=some (d,T,f,i,p))(k:WO P h0 N all l (up env d (.ptr i (p+off))) H Q)(hg:Qs all o env true:=by exact rfl)(hN:Nat.blt d N=true:=by exact rfl):WO P h0 N all (o::l) env H Q:=
 QF hg (QhC (H:=H) a e).1 hN (QhC a e).2 k
theorem Fpg{T f off n i p:Nat}(hg:Qs all o env true)(a:QG P T f off n)(e:fpB o env=some (d,T,f,i,p))(k:WO P h0 N all l (up env d (.ptr i (p+off))) H Q)(b:Nat.blt d N=true:=by exact rfl):WO P h0 N all (o::l) env H Q:=
 QF hg (QhC (H:=H) a e).1 b (QhC a e).2 k
inductive Lx where
 |mk (l:List A)
def QfN:Nat->List A->Lx
 |0,l=>.mk l
 |n+1,_::r=>QfN n r
 |_+1,[]=>.mk []
theorem Qdg:∀{n:Nat} {l r:List A},QfN n l=.mk r->l.drop n=r
 |0,l,r,h=>by cases h;rfl
 |n+1,a::l,r,h=>by rw[List.drop_succ_cons];exact Qdg h
 |n+1,[],r,h=>by cases h;rfl
def frB(off:Nat)(o:Oper)(env:Env):Option (Nat×Nat×Nat×List A):=
 match o.dst,o.op with
 |some d,.fieldAddr T x f=>match opB env x with
  |.mk (.rp cs)=>match QfN off cs with
   |.mk r=>some (d,T,f,r)
  |_=>none
 |_,_=>none
theorem QhB{T f off n:Nat}{r:List A}(j:QG P T f off n)(h:frB off o env=some (d,T,f,r)):o.dst=some d/\OpV P o env H (.rp r):=by
 unfold frB at h;split at h
 .rename_i g b;split at h
  .rename_i e i;cases a:QfN off e with|mk r'=>rw[a]at h;cases h;exact⟨g,Qx j b (QD i) (Qdg a)⟩
  .cases h
 .cases h
theorem Fr{T f off n:Nat}{r:List A}(a:QG P T f off n)(e:frB off o env=some (d,T,f,r))(k:WO P h0 N all l (up env d (.rp r)) H Q)(hg:Qs all o env true:=by exact rfl)(hN:Nat.blt d N=true:=by exact rfl):WO P h0 N all (o::l) env H Q:=
 QF hg (QhB (H:=H) a e).1 hN (QhB a e).2 k
theorem Frg{T f off n:Nat}{r:List A}(hg:Qs all o env true)(a:QG P T f off n)(e:frB off o env=some (d,T,f,r))(k:WO P h0 N all l (up env d (.rp r)) H Q)(b:Nat.blt d N=true:=by exact rfl):WO P h0 N all (o::l) env H Q:=
 QF hg (QhB (H:=H) a e).1 b (QhB a e).2 k
def ctB:Option Blk->Nat->Option A
 |some (.cells _ cs),off=>YX cs off
 |_,_=>none
def lvB(H:Qd):Bx->Option A
 |.mk (.ptr i off)=>ctB (YX H i) off
 |.mk (.rp (a::_))=>some a
 |_=>none
def pr3(d t:Nat):Option A->Option (Nat×Nat×A)
 |some a=>some (d,t,a)
 |none=>none
def ldB(o:Oper)(env:Env)(H:Qd):Option (Nat×Nat×A):=
 match o.dst,o.op with
 |some d,.load t x=>pr3 d t (lvB H (opB env x))
 |_,_=>none
theorem Qhw{t:Nat}(k:∀w,(isAgg t).run P w=.ok false w)(h:ldB o env H=some (d,t,x)):o.dst=some d/\OpV P o env H x:=by
 unfold ldB at h;split at h
 .rename_i s p y n l;cases e:lvB H (opB env y)with
  |none=>rw[e]at h;cases h
  |some a=>
   rw[e]at h;cases h;refine⟨n,?_⟩;unfold lvB at e;split at e
   .rename_i i b j;unfold ctB at e;split at e
    .rename_i b q T0 T cs q4;rw[QaG]at e q4;obtain⟨f,m⟩:∃f,cs.drop b=x::f:=by
      have g:=(XR.1 e).1;refine⟨cs.drop (b+1),?_⟩;rw[Xr g,(XR.1 e).2]
     exact OpV.load l k (QD j) (Pts.cells q4 m)
    .cases e
   .rename_i a r j;cases e;exact OpV.load l k (QD j) Pts.rp
   .cases e
 .cases h
theorem Ld{t:Nat}(a:∀w,(isAgg t).run P w=.ok false w)(e:ldB o env H=some (d,t,x))(k:WO P h0 N all l (up env d x) H Q)(hg:Qs all o env true:=by exact rfl)(hN:Nat.blt d N=true:=by exact rfl):WO P h0 N all (o::l) env H Q:=
 QF hg (Qhw a e).1 hN (Qhw a e).2 k
theorem Ldg{t:Nat}(hg:Qs all o env true)(a:∀w,(isAgg t).run P w=.ok false w)(e:ldB o env H=some (d,t,x))(k:WO P h0 N all l (up env d x) H Q)(b:Nat.blt d N=true:=by exact rfl):WO P h0 N all (o::l) env H Q:=
 QF hg (Qhw a e).1 b (Qhw a e).2 k
def ixB(o:Oper)(env:Env):Option (Nat×Nat×Nat×List (List A)×IntKind×Int):=
 match o.dst,o.op with
 |some d,.indexAddr t x y=>match opB env x,opB env y with
  |.mk (.rsl k es),.mk (.int kk i)=>some (d,t,k,es,kk,i)
  |_,_=>none
 |_,_=>none
theorem Ix{α:Type}{e:α->List A}{t et k:Nat}{L:List α}{b:IntKind}{i:Int}{v:α}(h:idx L i=some v)(f:∀w,(underlying t).run P w=.ok (.slice et) w)(a:∀w,(sizeOf et).run P w=.ok k w)
  (q:ixB o env=some (d,t,k,L.map e,b,i))(k:WO P h0 N all l (up env d (.rp (e v))) H Q)(hg:Qs all o env true:=by exact rfl)(hN:Nat.blt d N=true:=by exact rfl):WO P h0 N all (o::l) env H Q:=by
 unfold ixB at q;split at q
 .rename_i m g;split at q
  .rename_i n p;simp only[Option.some.injEq,Prod.mk.injEq]at q;obtain⟨rfl,rfl,rfl,j,rfl,rfl⟩:=q;exact QF hg m hN (Qlm h f a g (by rw[QD n,j]) (QD p)) k
  .cases q
 .cases q
def lnB(o:Oper)(env:Env):Option (Nat×Nat×Bx):=
 match o.dst,o.op with
 |some d,.call c=>match c with
  |{callee:=.builtin .len,args:=⟨[x]⟩,argTypes:=⟨[t]⟩}=>some (d,t,opB env x)
  |_=>none
 |_,_=>none
theorem QqJ{t:Nat}{b:Bx}(q:lnB o env=some (d,t,b)):∃x,o.dst=some d/\o.op=.call {callee:=.builtin .len,args:= #[x],argTypes:= #[t]}/\opB env x=b:=by
 unfold lnB at q;split at q
 .rename_i e a;split at q
  .cases q;exact⟨_,e,a,rfl⟩
  .cases q
 .cases q
theorem LnM{α:Type}{e:α->List A}{t et k:Nat}{L:List α}(b:∀w,(underlying t).run P w=.ok (.slice et) w)(q:lnB o env=some (d,t,.mk (.rsl k (L.map e))))
  (k:WO P h0 N all l (up env d (.int .i64 L.length)) H Q)(hg:Qs all o env true:=by exact rfl)(hN:Nat.blt d N=true:=by exact rfl):WO P h0 N all (o::l) env H Q:=by
 obtain⟨x,g,f,a⟩:=QqJ q;exact QF hg g hN (QoB b f rfl (QD a)) k
end
section
variable {P:Program} {h0 N:Nat} {all:Array Oper} {env env':Env} {H H':Qd} {Q:QB} {c c':Code}
theorem Nx(h:TC P h0 N c env H Q):WO P h0 N all [] env H (Seq P h0 N c Q):=WO.nil (QmW h)
theorem Rg{id:Nat}{l:List Oper}(h:WO P h0 N l.toArray l env H (Seq P h0 N c Q)):TC P h0 N (.seq (.region id l.toArray false) c) env H Q:=TC.seq (TC.region h)
theorem SkN(h:TC P h0 N c env H Q):TC P h0 N .skip env H (Seq P h0 N c Q):=TC.skip (QmW h)
theorem ExX{id:Nat}(h:Q (.exit id) env H):TC P h0 N (.exit id) env H (Seq P h0 N c Q):=TC.exit (seqX h)
theorem Oi{α:Type}{x y:α}(h:some x=some y):x=y:=X5 h
theorem Bd{α β:Type}{x:Option α}{f:α->Option β}{r:β}{G:Prop}(h:x.bind f=some r)(k:∀a,x=some a->f a=some r->G):G:=by
 obtain⟨a,b,d⟩:=Jy h;exact k a b d
theorem If{α:Type}{c:Bool}{x y:Option α}{r:α}{G:Prop}(h:(bif c then x else y)=some r)(t:c=true->x=some r->G)(e:c=false->y=some r->G):G:=by
 cases c with
 |true=>exact t rfl h
 |false=>exact e rfl h
theorem Cn{α:Type}{x:Operand}{t:Bool}{p q:Option α}{r:α}(hx:opB env x=.mk (.bool t))(h:(bif t then p else q)=some r)(ht:t=true->p=some r->TC P h0 N c env H Q)(hf:t=false->q=some r->TC P h0 N c' env H Q):TC P h0 N (.cond x c c') env H Q:=
 TC.cond (QD hx) (λe=>ht e (ifT e h)) (λe=>hf e (ifF e h))
theorem Jb{α:Type}{x:Operand}{t:Bool}{p q:Option α}{r:α}(hx:opB env x=.mk (.bool t))(h:(bif t then p else q)=some r)(hf:t=false->q=some r->TC P h0 N c' env H Q)(ht:t=true->p=some r->TC P h0 N c env H Q):TC P h0 N (.cond x c c') env H Q:=
 TC.cond (QD hx) (λe=>ht e (ifT e h)) (λe=>hf e (ifF e h))
theorem CnF{x:Operand}{t:Bool}(h:t=false)(hx:opB env x=.mk (.bool t))(hf:TC P h0 N c' env H Q):TC P h0 N (.cond x c c') env H Q:=QfU (QD hx) h hf
theorem Lr(π:List Nat)(a:π.take h0=List.range h0:=by exact rfl)(hH:π.map (λp=>H[p]?)=(H'.map (QX (rho π H.length))).map some:=by exact rfl)(hπ:π.Nodup:=by decide)
  (hE:Qem (rho π H.length) env env':=by(repeat' (first|exact trivial|refine⟨rfl,?_⟩))):Le h0 env H env' H':=QoI π a hH hπ hE
end
end Go.Sw
namespace Go.Sw
def Ev{α:Type}(f:Nat->Option α)(v:α):Prop:=∃N,∀n,N<=n->f n=some v
section
variable {α β:Type} {f g:Nat->Option α} {v w:α}
theorem Qa(v:α):Ev (λ_=>some v) v:=⟨0,λ_ _=>rfl⟩
theorem Ev.const{o:Option α}(h:o=some v):Ev (λ_=>o) v:=⟨0,λ_ _=>h⟩
theorem Ev.bind{k:Nat->α->Option β}{b:β}(h:Ev f v)(a:Ev (λn=>k n v) b):Ev (λn=>(f n).bind (k n)) b:=by
 obtain⟨N,h⟩:=h;obtain⟨M,a⟩:=a;exact⟨max N M,λn d=>by show(f n).bind (k n)=some b;rw[h n (by omega),XP];exact a n (by omega)⟩
theorem QaY{o:Option α}{k:Nat->α->Option β}{b:β}(h:o=some v)(hk:Ev (λn=>k n v) b):Ev (λn=>o.bind (k n)) b:=Ev.bind (Ev.const h) hk
theorem QbI{c:Bool}(b:c=true->Ev f v)(a:c=false->Ev g w):Ev (λn=>bif c then f n else g n) (bif c then v else w):=by
 cases c with
 |true=>exact b rfl
 |false=>exact a rfl
theorem Qjs(h:Ev f v):Ev (λn=>bif true then f n else g n) v:=h
theorem Jj(h:Ev g v):Ev (λn=>bif false then f n else g n) v:=h
theorem Ev.and{c d:Bool}{h:Nat->Option Bool}(a:c=true->Ev h d):Ev (λn=>bif c then h n else some false) (c&&d):=by
 cases c with
 |true=>exact a rfl
 |false=>exact Qa _
theorem Ev.or{c d:Bool}{h:Nat->Option Bool}(a:c=false->Ev h d):Ev (λn=>bif c then some true else h n) (c||d):=by
 cases c with
 |true=>exact Qa _
 |false=>exact a rfl
theorem Ev.eq(h:Ev f v)(e:v=w):Ev f w:=e▸h
theorem Ev.congr(h:Ev f v)(e:∀n,g n=f n):Ev g v:=by
 obtain⟨N,h⟩:=h;exact⟨N,λn a=>by rw[e];exact h n a⟩
theorem Ji(h:Ev (λn=>f (n+1)) v):Ev f v:=by
 obtain⟨N,h⟩:=h;refine⟨N+1,λn a=>?_⟩;obtain⟨m,rfl⟩:∃m,n=m+1:=⟨n-1,by omega⟩;exact h m (by omega)
theorem Ev.ex(h:Ev f v):∃n,f n=some v:=let⟨N,h⟩:=h;⟨N,h N (XZ _)⟩
theorem Ev.all{k:Nat}{F:Nat->Nat->Option α}{V:Nat->α}(h:∀i,i<k->Ev (F i) (V i)):∃N,∀n,N<=n->∀i,i<k->F i n=some (V i):=by
 induction k with
 |zero=>exact⟨0,λn _ i a=>absurd a (Xn _)⟩
 |succ k b=>
  obtain⟨N,d⟩:=b λi a=>h i (by omega);obtain⟨M,e⟩:=h k (by omega);refine⟨max N M,λn f i a=>?_⟩;rcases Xp.1 a with q|rfl
  .exact d n (by omega) i q
  .exact e n (by omega)
end
section
variable {S B α:Type} {step:Nat->S->Option (Ctl S B)}
theorem Ev.iter{s0:S}(a:Nat->S)(k:Nat){b:B}(h0:a 0=s0)(d:∀i,i<k->Ev (λn=>step n (a i)) (.cont (a (i+1))))(f:Ev (λn=>step n (a k)) (.done b)):
  Ev (λn=>Go.Sw.iter (step n) n s0) b:=by
 obtain⟨N,g⟩:=Ev.all d;obtain⟨M,h⟩:=f;exact⟨max (max N M) (k+1),λn j=>QnA s0 a b k h0 (λi e=>g n (by omega) i e) (h n (by omega)) n (by omega)⟩
theorem Qco{step:S->Option (Ctl S B)}{s:S}{b:B}(m:Nat)(h:Go.Sw.iter step m s=some b):Ev (λn=>Go.Sw.iter step n s) b:=by
 have mono:∀m s,Go.Sw.iter step m s=some b->∀n,m<=n->Go.Sw.iter step n s=some b:=by
  intro m
  induction m with
  |zero=>intro s h;cases h
  |succ m f=>
   intro s h n d;obtain⟨a,rfl⟩:∃a,n=a+1:=⟨n-1,by omega⟩;simp only[Go.Sw.iter]at h⊢;cases e:step s with
   |none=>rw[e]at h;cases h
   |some c=>
    rw[e]at h;cases c with
    |cont g=>exact f g h a (by omega)
    |done i=>exact h
 exact⟨m,λn d=>mono m s h n d⟩
structure At (l:List α) (i:Nat) (x:α):Prop where
 get:l[i]?=some x
 lt:decide ((i:Int)<(l.length:Int))=true
 ix:idx l (i:Int)=some x
 nx:IntKind.i64.wrap ((i:Int)+1)=((i+1:Nat):Int)
theorem JJ{l:List α}{i:Nat}{x:α}(hl:l.length<=4611686018427387904)(h:l[i]?=some x):At l i x:=by
 have a:=(XR.1 h).1;exact⟨h,VA (by omega),YD h,Yq (by omega)⟩
theorem At.mem{l:List α}{i:Nat}{x:α}(h:At l i x):x∈l:=VN h.get
theorem At.lt'{l:List α}{i:Nat}{x:α}(h:At l i x):i<l.length:=(XR.1 h.get).1
theorem At.take{l:List α}{i:Nat}{x:α}(h:At l i x):l.take (i+1)=l.take i++[x]:=by
 rw[List.take_add_one,h.get];rfl
theorem QaH(l:List α):decide ((l.length:Int)<(l.length:Int))=false:=VD (by omega)
theorem Qca{s0:S}(l:List α)(q:α->Bool)(f:Nat->S)(s b:B)(hl:l.length<=4611686018427387904)(h0:f 0=s0)
  (t:∀i x,At l i x->q x=false->Ev (λn=>step n (f i)) (.cont (f (i+1))))
  (d:∀i x,At l i x->q x=true->Ev (λn=>step n (f i)) (.done s))
  (G:Ev (λn=>step n (f l.length)) (.done b)):Ev (λn=>Go.Sw.iter (step n) n s0) (bif l.any q then s else b):=by
 have r:∀k,k<=l.length->(∀i x,l[i]?=some x->i<k->q x=false)\/ ∃i x,l[i]?=some x/\i<k/\q x=true/\ ∀j y,l[j]?=some y->j<i->q y=false:=by
  intro k
  induction k with
  |zero=>intro _;exact .inl λi x _ a=>absurd a (Xn _)
  |succ k w=>
   intro J;rcases w (by omega)with h|⟨i,x,p,H,m⟩
   .have u:l[k]?=some l[k]:=XQ (by omega);cases e:q l[k]with
    |true=>exact .inr ⟨k,_,u,Xo _,e,h⟩
    |false=>
     refine .inl λi x d a=>?_;rcases Xp.1 a with z|rfl
     .exact h i x d z
     .rw[u]at d;cases d;exact e
   .exact .inr ⟨i,x,p,by omega,m⟩
 rcases r l.length (XZ _)with h|⟨i,x,p,H,m,E⟩
 .have:l.any q=false:=by
   rw[VT];intro e;obtain⟨x,d,e⟩:=Xw.1 e;obtain⟨i,a,rfl⟩:=List.getElem_of_mem d;rw[h i _ (XQ a) a]at e;cases e
  rw[this];exact Ev.iter f l.length h0 (λi a=>t i _ (JJ hl (XQ a)) (h i _ (XQ a) a)) G
 .have:l.any q=true:=Xw.2 ⟨x,VN p,m⟩;rw[this];refine Ev.iter f i h0 (λj F=>?_) (d i x (JJ hl p) m);have g:l[j]?=some l[j]:=XQ (by omega);exact t j _ (JJ hl g) (E j _ g F)
theorem Q1{β:Type}{s0:S}(l:List α)(g:β->α->β)(b:β)(e:β->Nat->S)(d:β->B)(hl:l.length<=4611686018427387904)(h0:e b 0=s0)
  (h:∀i x a,At l i x->a=(l.take i).foldl g b->Ev (λn=>step n (e a i)) (.cont (e (g a x) (i+1))))
  (k:Ev (λn=>step n (e (l.foldl g b) l.length)) (.done (d (l.foldl g b)))):Ev (λn=>Go.Sw.iter (step n) n s0) (d (l.foldl g b)):=by
 refine Ev.iter (λi=>e ((l.take i).foldl g b) i) l.length (by simpa using h0) (λi j=>?_) (by simpa using k);have f:=JJ (x:=l[i]) hl (XQ j);have:=h i _ _ f rfl;rw[f.take,XI];exact this
theorem Ev.contains(l:List α)(q:α->Bool)(g:Nat->α->Option Bool)(hl:l.length<=4611686018427387904)(hg:∀x∈l,Ev (λn=>g n x) (q x)):
  Ev (λn=>(((Go.Sw.iter (λs:Int=>bif decide (s<(l.length:Int))then(idx l s).bind λx=>(g n x).bind λr=>(bif r then some (Ctl.done (Ctl.done s))else some (Ctl.cont (IntKind.i64.wrap (s+1))))else some (Ctl.done (Ctl.cont ()))) n (0:Int):Option (Ctl Unit Int)).bind λb=>
   match b with
   |.cont _=>some (-1)
   |.done s=>some s):Option Int).bind λr=>some (decide (0<=r))) (l.any q):=by
 cases e:l.any q with
 |false=>
  refine Ev.bind (v:=(-1:Int)) (Ev.bind (v:=Ctl.cont ()) (Ev.iter (λi=>(i:Int)) l.length rfl (λi f=>?_) ?_) (Qa _)) (Qa _)
  .have a:=JJ (x:=l[i]) hl (XQ f);simp only[a.lt,Vv,a.ix,XP];have B:q l[i]=false:=by
    rw[VT];intro h;rw[Xw.2 ⟨_,a.mem,h⟩]at e;cases e
   refine Ev.bind ((hg _ a.mem).eq B) ?_;simp only[Vw,a.nx];exact Qa _
  .simp only[QaH,Vw];exact Qa _
 |true=>
  obtain⟨x,d,h⟩:=Xw.1 e;have p:∀k,k<=l.length->(∀(i:Nat) (x:α),l[i]?=some x->i<k->q x=false)\/ ∃(i:Nat) (x:α),l[i]?=some x/\i<k/\q x=true/\ ∀(j:Nat) (y:α),l[j]?=some y->j<i->q y=false:=by
   intro k
   induction k with
   |zero=>intro _;exact .inl λi x _ f=>absurd f (Xn _)
   |succ k w=>
    intro H;rcases w (by omega)with h|⟨i,x,u,G,t⟩
    .have hg:l[k]?=some l[k]:=XQ (by omega);cases e:q l[k]with
     |true=>exact .inr ⟨k,_,hg,Xo _,e,h⟩
     |false=>
      refine .inl λi x d f=>?_;rcases Xp.1 f with z|rfl
      .exact h i x d z
      .rw[hg]at d;cases d;exact e
    .exact .inr ⟨i,x,u,by omega,t⟩
  rcases p l.length (XZ _)with E|⟨i,x,u,G,t,F⟩
  .obtain⟨j,m,rfl⟩:=List.getElem_of_mem d;rw[E j _ (XQ m) m]at h;cases h
  .refine Ev.bind (v:=(i:Int)) (Ev.bind (v:=Ctl.done (i:Int)) (Ev.iter (λi=>(i:Int)) i rfl (λj m=>?_) ?_) (Qa _)) ?_
   .have a:=JJ (x:=l[j]) hl (XQ (by omega));simp only[a.lt,Vv,a.ix,XP];refine Ev.bind ((hg _ a.mem).eq (F j _ a.get m)) ?_;simp only[Vw,a.nx];exact Qa _
   .have a:=JJ hl u;simp only[a.lt,Vv,a.ix,XP];refine Ev.bind ((hg _ a.mem).eq t) ?_;exact Qa _
   .rw[VA (by omega)];exact Qa _
end
section
variable {S B α:Type} {step:Nat->S->Option (Ctl S B)}
theorem Qh2{s0:S}(a:Nat->S)(k:Nat)(R:Nat->B)(h0:a 0=s0)(l:∀i,i<k->(Ev (λn=>step n (a i)) (.cont (a (i+1)))/\R i=R (i+1))\/Ev (λn=>step n (a i)) (.done (R i)))
  (p:Ev (λn=>step n (a k)) (.done (R k))):Ev (λn=>Go.Sw.iter (step n) n s0) (R 0):=by
 have f:∀m,m<=k->(∀i,i<m->Ev (λn=>step n (a i)) (.cont (a (i+1)))/\R i=R (i+1))\/ ∃j,j<m/\(∀i,i<j->Ev (λn=>step n (a i)) (.cont (a (i+1)))/\R i=R (i+1))/\Ev (λn=>step n (a j)) (.done (R j)):=by
  intro m
  induction m with
  |zero=>intro _;exact .inl λi b=>absurd b (Xn _)
  |succ m e=>
   intro s;rcases e (by omega)with h|⟨j,r,d⟩
   .rcases l m (by omega)with q|q
    .refine .inl λi b=>?_;rcases Xp.1 b with z|rfl
     .exact h i z
     .exact q
    .exact .inr ⟨m,Xo _,h,q⟩
   .exact .inr ⟨j,by omega,d⟩
 have same:∀m,(∀i,i<m->R i=R (i+1))->R 0=R m:=by
  intro m
  induction m with
  |zero=>intro _;rfl
  |succ m e=>intro h;exact(e λi b=>h i (by omega)).trans (h m (Xo _))
 rcases f k (XZ _)with h|⟨j,r,d,g⟩
 .rw[same k λi b=>(h i b).2];exact Ev.iter a k h0 (λi b=>(h i b).1) p
 .rw[same j λi b=>(d i b).2];exact Ev.iter a j h0 (λi b=>(d i b).1) g
theorem At.drop{l:List α}{i:Nat}{x:α}(h:At l i x):l.drop i=x::l.drop (i+1):=by
 have:=h.lt';rw[Xr this,(XR.1 h.get).2]
theorem Qh1{s0:S}(l:List α)(st:Nat->S)(R:Nat->B)(hl:l.length<=4611686018427387904)(h0:st 0=s0)
  (hc:∀i x,At l i x->(Ev (λn=>step n (st i)) (.cont (st (i+1)))/\R i=R (i+1))\/Ev (λn=>step n (st i)) (.done (R i)))
  (hd:Ev (λn=>step n (st l.length)) (.done (R l.length))):Ev (λn=>Go.Sw.iter (step n) n s0) (R 0):=
 Qh2 st l.length R h0 (λi hi=>hc i _ (JJ hl (XQ hi))) hd
end
section
variable {α β:Type} [DecidableEq α]
theorem Qaf(p:α×β)(l:List (α×β))(k:α):YF (p::l) k=if p.1=k then some p.2 else YF l k:=by
 unfold YF;by_cases h:p.1=k<;>simp[List.find?_cons,h]
theorem QlF(p:α×β)(l:List (α×β))(k:α)(v:β):QE (p::l) k v=if p.1=k then(p.1,v)::l.map (λq=>bif decide (q.1=k)then(q.1,v)else q)else p::QE l k v:=by
 unfold QE;by_cases h:p.1=k
 .simp[h]
 .simp only[List.any_cons,h,decide_false,Bool.false_or,if_false,Vq,Vw];cases l.any λp=>decide (p.1=k)<;>simp
theorem Qns(l:List (α×β))(k a:α)(v:β)(h:a≠k):YF (l.map λq=>bif decide (q.1=k)then(q.1,v)else q) a=YF l a:=by
 induction l with
 |nil=>rfl
 |cons p l b=>
  rw[Vq,Qaf,Qaf,b];by_cases e:p.1=k
  .have:¬k=a:=λq=>h q.symm;simp[e,this]
  .simp[e]
theorem YM(l:List (α×β))(k a:α)(v:β):YF (QE l k v) a=if a=k then some v else YF l a:=by
 induction l with
 |nil=>
  show YF ([]++[(k,v)]) a=_;rw[Vn,Qaf];by_cases h:a=k
  .subst h;simp
  .rw[Vy λq=>h q.symm,Vy h]
 |cons p l b=>
  rw[QlF];by_cases e:p.1=k
  .rw[Vz e,Qaf,Qaf];by_cases h:a=k
   .subst h;simp[e]
   .have:p.1≠a:=λq=>h (q.symm.trans e);simp only[this,if_false,h];exact Qns l k a v h
  .rw[Vy e,Qaf,Qaf,b];by_cases h:p.1=a
   .rw[Vz h,Vy λq=>e (h.trans q),Vz h]
   .rw[Vy h,Vy h]
theorem QlG(k:α)(z:β):QI ([]:List (α×β)) k z=z:=rfl
theorem Qfc(l:List (α×β))(k a:α)(v z:β):QI (QE l k v) a z=if a=k then v else QI l a z:=by
 unfold QI;rw[YM];by_cases h:a=k<;>simp[h]
theorem QdG(l:List (α×β))(k:α)(v:β):(QE l k v).map (·.1)=if k∈l.map (·.1)then l.map (·.1)else l.map (·.1)++[k]:=by
 unfold QE;have e:(l.any λp=>decide (p.1=k))=decide (k∈l.map (·.1)):=by
  rw[X4];simp only[Xw,Vx,Xe]
 rw[e];by_cases h:k∈l.map (·.1)
 .rw[VA h,Vz h,Vv,List.map_map];apply List.map_congr_left;intro p _;simp only[Function.comp];cases decide (p.1=k)<;>rfl
 .rw[VD h,Vy h,Vw,Xf];rfl
def Yi{γ:Type}(key:γ->α)(v:β)(l:List γ):List (α×β):=l.foldl (λm x=>QE m (key x) v) []
theorem Qc3{γ:Type}(a:γ->α)(v:β)(l:List γ)(x:γ):Yi a v (l++[x])=QE (Yi a v l) (a x) v:=by
 unfold Yi;rw[XI];rfl
theorem QbY{γ:Type}(a:γ->α)(v z:β)(l:List γ)(k:α):QI (Yi a v l) k z=if k∈l.map a then v else z:=by
 have b:∀(l:List γ) (m:List (α×β)),QI (l.foldl (λm x=>QE m (a x) v) m) k z=if k∈l.map a then v else QI m k z:=by
  intro l
  induction l with
  |nil=>intro m;simp
  |cons x l d=>
   intro m;rw[XJ,d,Qfc];by_cases h:k∈l.map a
   .rw[Vz h,Vz (by simp only[Vq];exact Vb _ h)]
   .rw[Vy h];by_cases e:k=a x
    .rw[Vz e,Vz (by simp[e])]
    .rw[Vy e,Vy (by simp only[Vq,Vc,not_or];exact⟨e,h⟩)]
 exact b l []
theorem Qcs{γ:Type}(d:γ->α)(v:β)(l:List γ):(Yi d v l).length<=l.length/\((Yi d v l).length=l.length↔(l.map d).Nodup):=by
 have j:∀(l:List γ) (m:List (α×β)),(m.map (·.1)).Nodup->(l.foldl (λm x=>QE m (d x) v) m).length<=m.length+l.length/\((l.foldl (λm x=>QE m (d x) v) m).length=m.length+l.length↔(m.map (·.1)++l.map d).Nodup):=by
  intro l
  induction l with
  |nil=>intro m i;simpa using i
  |cons x l n=>
   intro m i;have g:=QdG m (d x) v;have f:(QE m (d x) v).length=((QE m (d x) v).map (·.1)).length:=by simp
   by_cases h:d x∈m.map (·.1)
   .rw[Vz h]at g;obtain⟨t,k⟩:=n (QE m (d x) v) (by rw[g];exact i);have e:(QE m (d x) v).length=m.length:=by rw[f,g];simp
    rw[XJ];refine⟨by simp only[X6];omega,⟨λq=>?_,λq=>?_⟩⟩
    .simp only[X6]at q;omega
    .exfalso;have:=(List.nodup_append.1 q).2.2 _ h (d x) (by simp);exact this rfl
   .rw[Vy h]at g;have s:((QE m (d x) v).map (·.1)).Nodup:=by
     rw[g];refine List.nodup_append.2 ⟨i,by simp,?_⟩;intro a r b p e;simp only[VH]at p;exact h (by rw[<- p, <- e];exact r)
    obtain⟨t,k⟩:=n (QE m (d x) v) s;have e:(QE m (d x) v).length=m.length+1:=by rw[f,g];simp
    rw[XJ];refine⟨by simp only[X6];omega,?_⟩;rw[g]at k;rw[show m.length+(x::l).length=(QE m (d x) v).length+l.length by rw[e];simp;omega,k];simp[Vp]
 have:=j l [] (by simp);simpa[Yi]using this
end
theorem Jl{α:Type}(l:List α)(p:α->Bool)(g:Nat->α->Option Bool)(hl:l.length<=4611686018427387904)(hg:∀x∈l,Ev (λn=>g n x) (p x)):
  Ev (λn=>((((Go.Sw.iter (λs:Int=>bif decide (s<(l.length:Int))then(idx l s).bind λx=>((g n x).bind λr1=>some (!r1)).bind λr=>(bif r then some (Ctl.done (Ctl.done s))else some (Ctl.cont (IntKind.i64.wrap (s+1))))else some (Ctl.done (Ctl.cont ()))) n (0:Int):Option (Ctl Unit Int)).bind λb=>
   match b with
   |.cont _=>some (-1)
   |.done s=>some s):Option Int).bind λr=>some (decide (0<=r)):Option Bool).bind λr=>some (!r)) (l.all p):=by
 refine Ev.bind (Ev.contains l (λx=> !p x) (λn x=>(g n x).bind λr1=>some (!r1)) hl λx a=>Ev.bind (hg x a) (Qa _)) ((Qa _).eq ?_);rw[List.not_any_eq_all_not];simp
def Qke{α κ:Type}[DecidableEq κ](ok:α->Bool)(key:α->κ):List κ->List α->Bool
 |_,[]=>true
 |seen,x::r=>ok x&& !seen.contains (key x)&&Qke ok key (seen++[key x]) r
theorem Qlg{α κ:Type}[DecidableEq κ](ok:α->Bool)(f:α->κ):∀(l:List α) (d:List κ),d.Nodup->Qke ok f d l=(l.all ok&&decide ((d++l.map f).Nodup))
 |[],d,h=>by simp[Qke,h]
 |x::r,d,h=>by
  simp only[Qke,List.all_cons,Vq];by_cases hk:f x∈d
  .have:¬(d++f x::r.map f).Nodup:=by
    intro q;exact(List.nodup_append.1 q).2.2 _ hk (f x) (by simp) rfl
   simp[hk,this]
  .have j:(d++[f x]).Nodup:=by
    refine List.nodup_append.2 ⟨h,by simp,?_⟩;intro a i b g e;simp only[VH]at g;exact hk (by rw[<- g, <- e];exact i)
   rw[Qlg ok f r _ j];have:(d.contains (f x))=false:=by simpa using hk
   rw[this];simp[Bool.and_assoc]
theorem Ev.inner{α κ B:Type}[DecidableEq κ]{step:Nat->Int->Option (Ctl Int B)}(l:List α)(i:Nat)(a:α->κ)(k:κ)(r b:B)(hl:l.length<=4611686018427387904)(hi:i<=l.length)
  (t:∀j y,j<i->At l j y->decide (a y=k)=false->Ev (λn=>step n (j:Int)) (.cont ((j+1:Nat):Int)))
  (s:∀j y,j<i->At l j y->decide (a y=k)=true->Ev (λn=>step n (j:Int)) (.done r))
  (u:Ev (λn=>step n (i:Int)) (.done b)):Ev (λn=>Go.Sw.iter (step n) n 0) (bif ((l.take i).map a).contains k then r else b):=by
 have e:((l.take i).map a).contains k=(l.take i).any λy=>decide (a y=k):=by
  rw[X4];simp only[List.contains_eq_mem,Vx,Xe,Xw]
 rw[e];have h:(l.take i).length=i:=by simp;omega
 have g:∀j y,At (l.take i) j y->j<i/\At l j y:=by
  intro j y f;have w:=f.lt';have d:=f.get;rw[List.getElem?_take]at d;split at d
  .exact⟨by omega,JJ hl d⟩
  .cases d
 refine Qca (l.take i) (λy=>decide (a y=k)) (λi=>(i:Int)) _ _ (by omega) rfl (λj y f m=>?_) (λj y f m=>?_) ?_
 .obtain⟨p,q⟩:=g j y f;exact t j y p q m
 .obtain⟨p,q⟩:=g j y f;exact s j y p q m
 .rw[h];exact u
theorem QbH{α κ β:Type}[DecidableEq κ]{step:Nat->List (κ×β)×Int->Option (Ctl (List (κ×β)×Int) (List (κ×β)))}(l:List α)(key:α->κ)(v:β)(hl:l.length<=4611686018427387904)
  (hc:∀i x m,At l i x->Ev (λn=>step n (m,(i:Int))) (.cont (QE m (key x) v,((i+1:Nat):Int))))
  (hd:∀m,Ev (λn=>step n (m,(l.length:Int))) (.done m)):Ev (λn=>Go.Sw.iter (step n) n ([],0)) (Yi key v l):=
 Q1 l (λm x=>QE m (key x) v) [] (λm i=>(m,(i:Int))) (λm=>m) hl rfl (λi x m ha _=>hc i x m ha) (hd _)
theorem Ev.shift{α:Type}{f:Nat->Option α}{v:α}(h:Ev f v):Ev (λn=>f (n+1)) v:=by
 obtain⟨N,h⟩:=h;exact⟨N,λn a=>h (n+1) (by omega)⟩
def EvI{S B:Type}(step:Nat->S->Option (Ctl S B))(s:S)(b:B):Prop:=∃N,∀n k,N<=n->N<=k->Go.Sw.iter (step n) k s=some b
section
variable {S B:Type} {step:Nat->S->Option (Ctl S B)} {s s':S} {b:B}
theorem EvI.done(h:Ev (λn=>step n s) (.done b)):EvI step s b:=by
 obtain⟨N,h⟩:=h;refine⟨N+1,λn k d e=>?_⟩;obtain⟨a,rfl⟩:∃a,k=a+1:=⟨k-1,by omega⟩;have:=h n (by omega);simp only[Go.Sw.iter,this]
theorem EvI.cont(h:Ev (λn=>step n s) (.cont s'))(q:EvI step s' b):EvI step s b:=by
 obtain⟨N,h⟩:=h;obtain⟨M,q⟩:=q;refine⟨max N M+1,λn k d e=>?_⟩;obtain⟨a,rfl⟩:∃a,k=a+1:=⟨k-1,by omega⟩;have:=h n (by omega);simp only[Go.Sw.iter,this];exact q n a (by omega) (by omega)
theorem EvI.ev(h:EvI step s b):Ev (λn=>Go.Sw.iter (step n) n s) b:=by
 obtain⟨N,h⟩:=h;exact⟨N,λn a=>h n n a a⟩
theorem EvI.eq{b':B}(h:EvI step s b)(e:b=b'):EvI step s b':=e▸h
end
theorem QN{α:Type}{l r:List α}{i:Nat}{x:α}(hl:l.length<=4611686018427387904)(h:l.drop i=x::r):At l i x/\l.drop (i+1)=r:=by
 have a:l[i]?=some x:=by
  have:=congrArg (λl=>l[0]?) h;simpa using this
 refine⟨JJ hl a,?_⟩;have:=(JJ hl a).drop;rw[h]at this;exact(List.cons.inj this).2.symm
theorem Yg{α:Type}{l:List α}{i:Nat}(h:l.drop i=[])(hi:i<=l.length):decide ((i:Int)<(l.length:Int))=false:=by
 have:=Xs.1 h;exact VD (by omega)
end Go.Sw
namespace Go.Sw
theorem Z.{u}{α:Sort u}{a:α}:a=a:=rfl
section
variable {P:Program} {h0 N:Nat} {all:Array Oper} {env:Env} {H H':Qd} {Q:QB} {l:List Oper} {o:Oper} {d:Nat}
theorem aV(x:A)(H:Qd){x':A}{H':Qd}(a:x'=x)(hH:H'=H)(k:WO P h0 N all l (up env d x) H Q):WO P h0 N all l (up env d x') H' Q:=by subst a;subst hH;exact k
theorem vX(x:A)(a:OpV P o env H x)(k:WO P h0 N all l (up env d x) H Q)(hg:Qs all o env true:=by exact rfl)(hd:o.dst=some d:=by exact rfl)(hN:Nat.blt d N=true:=by exact rfl):WO P h0 N all (o::l) env H Q:=
 QF hg hd hN a k
theorem Wp:WO P h0 N all [] env H (Y8 env H):=WO.nil Y8.mk
end
end Go.Sw
namespace Go.Sw
section
variable {P:Program} {o:Oper} {env:Env} {H:Qd}
theorem QpN{ro:Nat->Prop}{σ:Sig}{w:World}(g:GP w){b:Nat}{zs:List Int}(h:QjT[b]?=some zs):∀(i:Nat),CR ro σ w b ((zs.drop i).map (A.int .i64)) i:=by
 intro i;generalize hl:zs.drop i=l
 induction l generalizing i with
 |nil=>trivial
 |cons z l d=>
  have e:zs[i]?=some z:=by
   have:=congrArg (·[0]?) hl;simpa using this
  have a:zs.drop (i+1)=l:=by
   rw[<- List.drop_drop,hl];rfl
  exact⟨⟨_,g.tab b zs h i z e,by simp[Qp],rfl⟩,d (i+1) a⟩
theorem Qg7{t n g:Nat}{zs:List Int}(i:∀w,(isAgg t).run P w=.ok true w)(f:∀w,(sizeOf t).run P w=.ok n w)(hg:QjT[g]?=some zs)(hl:zs.length=n)(e:o.op=.load t (.global g):=by exact rfl):
  OpV P o env H (.agg (zs.map (A.int .i64))):=by
 intro k ro σ N a w r;obtain⟨l,h,_,d⟩:=YI (P:=P) (b:=g) (cs:=zs.map (A.int .i64)) (off:=0) 0 (by simpa using QpN (ro:=ro) (σ:=σ) r.sim.roOk.gp hg 0);have d:=d w #[] rfl;rw[X7,hl]at d;refine⟨.agg l.toArray,?_,l,rfl,h⟩;have j:a.eval (.global g)=.pointer (some ⟨g,0,none⟩):=rfl;generalize a.eval=ρ at*;simp[execOp,e,j,Instr.loadAt,Instr.sureAddr,loadVar,i,f,loadCells,d,go_sem]
end
end Go.Sw
namespace Go.Sw
open Go.Proofs
section
variable {P:Program}
def toV(agg:Bool)(l:List Value):Value:=bif agg then .agg l.toArray else l.headD .nilFunc
structure QmC (P:Program) (t:TypeId) (h k:Nat) (agg:Bool) (ok:List Value->Prop):Prop where
 len:∀l,ok l->l.length=k
 ia:∀w,(isAgg t).run P w=.ok agg w
 so:∀w,(sizeOf t).run P w=.ok k w
 eq:∀(w:World) (d:Nat) (l m:List Value),ok l->ok m->∃b:Bool,(Op.equalIn (d+h) t (toV agg l) (toV agg m)).run P w=.ok b w/\(b=true↔l=m)
structure QoN (P:Program) (fs:List Field) (h off k:Nat) (ok:List Value->Prop):Prop where
 len:∀l,ok l->l.length=k
 eq:∀(w:World) (d:Nat) (p q l m:List Value),p.length=off->q.length=off->ok l->ok m->∃b:Bool,(Op.eqFields (d+h) (p++l).toArray (q++m).toArray fs).run P w=.ok b w/\(b=true↔l=m)
theorem QmC.int{t:TypeId}{k:IntKind}(b:P.underlying t=some (.int k))(a:∀w,(isAgg t).run P w=.ok false w)(e:∀w,(sizeOf t).run P w=.ok 1 w)(h:Nat):QmC P t (h+1) 1 false (λl=>∃n:Int,l=[.int k n]):=by
 refine⟨?_,a,e,?_⟩
 .rintro _ ⟨n,rfl⟩;rfl
 .rintro w d _ _ ⟨n,rfl⟩ ⟨m,rfl⟩;exact⟨_,run_equalIn_int w (d+h) t k k n m b,by simp⟩
theorem QmC.bool{t:TypeId}(b:P.underlying t=some .bool)(a:∀w,(isAgg t).run P w=.ok false w)(e:∀w,(sizeOf t).run P w=.ok 1 w)(h:Nat):QmC P t (h+1) 1 false (λl=>∃n:Bool,l=[.bool n]):=by
 refine⟨?_,a,e,?_⟩
 .rintro _ ⟨n,rfl⟩;rfl
 .rintro w d _ _ ⟨n,rfl⟩ ⟨m,rfl⟩;exact⟨_,run_equalIn_bool' w (d+h) t n m b,by simp⟩
theorem QoN.nil(h off:Nat):QoN P [] h off 0 (λl=>l=[]):=by
 refine⟨?_,?_⟩
 .rintro _ rfl;rfl
 .rintro w d p q _ _ _ _ rfl rfl;exact⟨true,by simp[Op.eqFields],by simp⟩
theorem Qim{t:TypeId}{k:Nat}{agg:Bool}{w:World}(b:∀w,(isAgg t).run P w=.ok agg w)(f:∀w,(sizeOf t).run P w=.ok k w)(p a d:List Value)(hl:a.length=k)(e:agg=false->k=1):
  (part t (p++(a++d)).toArray p.length).run P w=.ok (toV agg a) w:=by
 unfold part;cases agg with
 |true=>
  simp[b,f,go_sem,toV];rw[<- hl];simp[List.extract]
 |false=>
  have:=e rfl;subst this
  match a,hl with
  |[v],_=>simp[b,go_sem,toV]
theorem QoN.cons{f:Field}{fs:List Field}{h off m F:Nat}{agg:Bool}{k j:List Value->Prop}(L:Nat.beq f.offset off=true)(R:f.name≠"_")(g:QmC P f.type h m agg k)(u:agg=false->m=1)(E:QoN P fs h (off+m) F j):
  QoN P (f::fs) h off (m+F) (λl=>∃l1 l2,l=l1++l2/\k l1/\j l2):=by
 have t:f.offset=off:=XW L;refine⟨?_,?_⟩
 .rintro _ ⟨l1,l2,rfl,a,b⟩;rw[X8,g.len _ a,E.len _ b]
 .rintro w d p q _ _ G x ⟨l1,l2,rfl,r,T⟩ ⟨i,s,rfl,n,O⟩;have z:=Qim (P:=P) (w:=w) g.ia g.so p l1 l2 (g.len _ r) u;have H:=Qim (P:=P) (w:=w) g.ia g.so q i s (g.len _ n) u;rw[G]at z;rw[x]at H;obtain⟨y,Q,V⟩:=g.eq w d l1 i r n;obtain⟨N,B,M⟩:=E.eq w d (p++l1) (q++i) l2 s (by rw[X8,G,g.len _ r]) (by rw[X8,x,g.len _ n]) T O;rw[Vp,Vp]at B;have J:l1.length=i.length:=by rw[g.len _ r,g.len _ n]
  refine⟨y&&N,?_,?_⟩
  .generalize(p++(l1++l2)).toArray=X at*;generalize(q++(i++s)).toArray=Y at*;cases y<;>simp[Op.eqFields,R,t,Vt,Result.andThen,z,H,Q,B]
  .rw[X3,V,M];constructor
   .rintro⟨rfl,rfl⟩;rfl
   .intro e;exact List.append_inj e J
theorem QmC.struct{t:TypeId}{h k:Nat}{ok:List Value->Prop}(n:P.underlying t=some (.struct (P.fieldsOf t)))(i:P.stoodInHeld t=false)(f:∀w,(isAgg t).run P w=.ok true w)(p:∀w,(sizeOf t).run P w=.ok k w)(e:QoN P (P.fieldsOf t).toList h 0 k ok):QmC P t (h+1) k true ok:=by
 refine⟨e.len,f,p,λw d l m a b=>?_⟩;obtain⟨r,g,j⟩:=e.eq w d [] [] l m rfl rfl a b;refine⟨r,?_,j⟩;show(Op.equalIn (d+h+1) t (.agg l.toArray) (.agg m.toArray)).run P w=_;rw[run_equalIn_agg w (d+h) t _ _ n i];simpa using g
theorem QU{t:TypeId}{h k:Nat}{fs:Array Field}{ok:List Value->Prop}(a:P.underlying t=some (.struct fs))(d:P.stoodInHeld t=false)(b:∀w,(isAgg t).run P w=.ok true w)(g:∀w,(sizeOf t).run P w=.ok k w)(f:QoN P fs.toList h 0 k ok):QmC P t (h+1) k true ok:=by
 have e:P.fieldsOf t=fs:=by simp[Program.fieldsOf,a]
 exact QmC.struct (by rw[e];exact a) d b g (by rw[e];exact f)
structure EqD (P:Program) (t:TypeId) {α:Type} (cells:α->List A):Prop where
 scl:∀x,QeW (cells x)=true
 inj:∀x y,YW (cells x)=YW (cells y)->x=y
 guard:P.eqGuardType P.depth t=false
 eq:∀(w:World) x y,∃b:Bool,(Op.equalIn 10000 t (.agg (YW (cells x)).toArray) (.agg (YW (cells y)).toArray)).run P w=.ok b w/\(b=true↔YW (cells x)=YW (cells y))
theorem Qls{α:Type}{cells:α->List A}{t h k:Nat}{ok:List Value->Prop}(E:QmC P t h k true ok)(d:Nat.ble h 10000=true)(a:∀x,ok (YW (cells x)))(b:∀x,QeW (cells x)=true)(hi:∀x y,YW (cells x)=YW (cells y)->x=y)(hg:P.eqGuardType P.depth t=false):EqD P t cells:=by
 refine⟨b,hi,hg,λw x y=>?_⟩;have:=E.eq w (10000-h) (YW (cells x)) (YW (cells y)) (a x) (a y)
 rwa [show 10000-h+h=10000 by have:=XX d;omega]at this
variable {o:Oper} {env:Env} {H:Qd}
theorem Qmp{α:Type}[DecidableEq α]{cells:α->List A}{t u:TypeId}{x y:Operand}{p q:α}(E:EqD P t cells)(k:opA env x=.agg (cells p))(n:opA env y=.agg (cells q))(j:o.op=.binOp .eql t x y u:=by exact rfl):OpV P o env H (.bool (p==q)):=by
 intro F B σ N a w r;have g:=Qg r x;have h:=Qg r y;rw[k]at g;rw[n]at h;have l:=VR.val (a:=.agg (cells p)) (E.scl p) g;have s:=VR.val (a:=.agg (cells q)) (E.scl q) h;obtain⟨b,i,z⟩:=E.eq w p q;have m:b=(p==q):=by
  rw[X4,z,VE];exact⟨E.inj p q,λe=>by rw[e]⟩
 refine⟨.bool (p==q),?_,rfl⟩;rw[<- m];generalize a.eval=ρ at*;have f:ρ x=.agg (YW (cells p)).toArray:=l;have d:ρ y=.agg (YW (cells q)).toArray:=s;simp[execOp,j,f,d,go_sem,run_eqGuard_agg _ _ _ _ _ _ _ E.guard,run_eql_struct,i]
theorem Qmo{α:Type}[DecidableEq α]{cells:α->List A}{t u:TypeId}{x y:Operand}{p q:α}(E:EqD P t cells)(k:opA env x=.agg (cells p))(n:opA env y=.agg (cells q))(j:o.op=.binOp .neq t x y u:=by exact rfl):OpV P o env H (.bool (p != q)):=by
 intro F B σ N a w r;have g:=Qg r x;have h:=Qg r y;rw[k]at g;rw[n]at h;have l:=VR.val (a:=.agg (cells p)) (E.scl p) g;have s:=VR.val (a:=.agg (cells q)) (E.scl q) h;obtain⟨b,i,z⟩:=E.eq w p q;have m:b=(p==q):=by
  rw[X4,z,VE];exact⟨E.inj p q,λe=>by rw[e]⟩
 refine⟨.bool (p != q),?_,rfl⟩;rw[bne, <- m];generalize a.eval=ρ at*;have f:ρ x=.agg (YW (cells p)).toArray:=l;have d:ρ y=.agg (YW (cells q)).toArray:=s;simp[execOp,j,f,d,go_sem,run_eqGuard_agg _ _ _ _ _ _ _ E.guard,run_neq_struct,i]
end
end Go.Sw
namespace Go.Sw
structure QfW (g g':Nat->Prop) (W W':World):Prop where
 sub:∀b,g b->g' b
 new:∀b,g' b->g b\/W.heap.size<=b
 lt:∀b,g' b->b<W'.heap.size
 all:∀b,W.heap.size<=b->b<W'.heap.size->g' b
 keep:∀b,b<W.heap.size->¬g b->W'.heap[b]?=W.heap[b]?
 size:W.heap.size<=W'.heap.size
 shape:∀b x,W.shape? b=some x->W'.shape? b=some x
 os:W'.os=W.os
 tape:W'.tape=W.tape
 output:W'.output=W.output
 drawn:W.drawn<=W'.drawn
abbrev Jv(T:Type):=List T->(Nat->Prop)->(Nat->Prop)->World->Prop
structure Qqa {T:Type} (J:Jv T):Prop where
 ev:∀rem q g W W' ro',J rem q g W->Qh g q W ro' W'->J rem q g W'
 up:∀rem q g g' W,J rem q g W->(∀b,g b->g' b)->(∀b,g' b->b<W.heap.size)->J rem q g' W
theorem Sim.round{fr g g' ro:Nat->Prop}{σ:Sig}{H:Qd}{W W':World}(s:Sim fr ro σ H W)(a:∀b,g b->fr b)(k:QfW g g' W W'):Sim (λb=>fr b\/g' b) ro σ H W'/\Qh (λb=>b<W.heap.size/\ ¬g b) ro W ro W':=by
 have e:∀b,ro b->W'.heap[b]?=W.heap[b]? :=λb q=>k.keep b (s.roLt b q) (λr=>s.roFr b q (a b r));have m:Ext ro σ W ro σ W':=by
  have ev:Qh (λ_=>False) ro W ro W':=⟨λ_ q=>q,e,λ_ q=>q.elim,k.size,k.shape,k.os,k.tape,k.output,k.drawn⟩;have:=ev.ext σ [];simpa using this
 refine⟨⟨s.len,s.roOk.to (λ_ q=>q) e (λb q=>Vl (s.roLt b q) k.size),λb q=>q.elim (λq=>Vl (s.frLt b q) k.size) (k.lt b),λb q r=>?_,λi b x h f B=>?_,s.inj,λi y x h f=>?_,
  s.hidTo (· = ·) Q0 k.size (λ_ _ _ _ _ _ _ q=>q) (λi b x c h f B F=>F.elim id λq=>(k.new c q).elim (a c) λl=>(by have:=(s.hid i b x c h f B).lt;omega)) λj d y t n G=>.inl ⟨j,y,rfl,t,n,id,λc q=>s.hidKeep t n (λz=>k.keep d (s.own j d y t n z).1 λr=>(s.own j d y t n z).2.2 (a d r)) e q⟩⟩,
  ⟨λ_ q=>q,e,λb q=>k.keep b q.1 q.2,k.size,k.shape,k.os,k.tape,k.output,k.drawn⟩⟩
 .rcases r with r|r
  .exact s.roFr b q r
  .rcases k.new b r with l|l
   .exact s.roFr b q (a b l)
   .have:=s.roLt b q;omega
 .obtain⟨w,E,p⟩:=s.own i b x h f B;refine⟨Vl w k.size,E,λr=>?_⟩;rcases r with r|r
  .exact p r
  .rcases k.new b r with l|l
   .exact p (a b l)
   .omega
 .refine(s.blk i y x h f).keep m ?_ ?_
  .rintro b rfl u;obtain⟨w,E,p⟩:=s.own i b x h f u;exact k.keep b w (λr=>p (a b r))
  .rintro b c rfl u;have q:=s.hid i b x c h f u;exact k.keep c q.lt (λr=>q.fr (a c r))
def Qq8{T:Type}(J Jx:Jv T)(g ri:Nat->Prop)(W1:World)(rem:List T):Ending->World->Prop:=λe W'=>
 ∃g' q',(∀b,q' b->ri b)/\QfW g g' W1 W'/\((e=.returned (.bool true)/\J rem q' g' W')\/(e=.returned (.bool false)/\Jx rem q' g' W'))
structure Ctx (T:Type) where
 l:Nat
 J:Jv T
 Jx:Jv T
 enc:T->List A
 nx:List T->T->List T->Prop
structure Ctx.ok {T:Type} (X:Ctx T) (P:Program):Prop where
 b:Qqa X.J
 bx:Qqa X.Jx
 round:∀l x rem q g ri W1 vs,X.nx l x rem->X.J l q g W1->(∀b,q b->ri b)->(∀b,ri b->b<W1.heap.size/\ ¬g b)->LR ri [] W1 (X.enc x) vs->YieldAt Fence.wide 0 P X.l vs.toArray W1 (Qq8 X.J X.Jx g ri W1 rem)
def QhU{T:Type}(P:Program)(f:FuncId)(caps:List A)(H:Qd)(enc:T->List A)(nx:List T->T->List T->Prop)(xs:List T):Prop:=
 ∀(X:Ctx T),X.enc=enc->X.nx=nx->X.ok P->∀fr ro σ w capv q,Sim fr ro σ H w->(∀b,q b->ro b)->LR ro σ w caps capv->X.J xs q fr w->
  Calls P f ((Value.func (.yield X.l) #[] #[]::capv)).toArray w λe W'=>(∃v,e=.returned v)/\ ∃g q',(∀b,fr b->g b)/\((X.J [] q' g W')\/(∃rem,X.Jx rem q' g W'))
inductive YSt (T:Type) where
 |on (rem:List T)
 |off (rem:List T)
def Ctx.J'{T:Type}(X:Ctx T):YSt T->(Nat->Prop)->(Nat->Prop)->World->Prop
 |.on rem=>X.J rem
 |.off rem=>X.Jx rem
def Ctx.at{T:Type}(X:Ctx T)(st:YSt T)(g ro:Nat->Prop)(W:World):Prop:=∃q,(∀b,q b->ro b)/\X.J' st q g W
theorem Qh.roMono{fr ro ro0 ro':Nat->Prop}{w w':World}(h:Qh fr ro w ro' w')(s:∀b,ro0 b->ro b):Qh fr ro0 w ro' w':=
 ⟨λb q=>h.sub b (s b q),λb q=>h.keepRo b (s b q),h.keepFr,h.size,h.shape,h.os,h.tape,h.output,h.drawn⟩
theorem Ctx.ok.ev{T:Type}{X:Ctx T}{P:Program}(h:X.ok P){e:YSt T}{g ro ro':Nat->Prop}{W W':World}(a:X.at e g ro W)(he:Qh g ro W ro' W'):X.at e g ro' W':=by
 obtain⟨q,d,a⟩:=a;refine⟨q,λb z=>he.sub b (d b z),?_⟩;cases e with
 |on rem=>exact h.b.ev rem q g W W' ro' a (he.roMono d)
 |off rem=>exact h.bx.ev rem q g W W' ro' a (he.roMono d)
theorem Ctx.ok.up{T:Type}{X:Ctx T}{P:Program}(h:X.ok P){d:YSt T}{g g' ro:Nat->Prop}{W:World}(a:X.at d g ro W)(hg:∀b,g b->g' b)(hl:∀b,g' b->b<W.heap.size):X.at d g' ro W:=by
 obtain⟨q,e,a⟩:=a;refine⟨q,e,?_⟩;cases d with
 |on rem=>exact h.b.up rem q g g' W a hg hl
 |off rem=>exact h.bx.up rem q g g' W a hg hl
abbrev YG(T:Type):=AEx->Env->Qd->YSt T->Prop
structure In (g fr:Nat->Prop) (ds:List Deferred):Prop where
 sub:∀b,g b->fr b
 beside:∀D,({target:=.collected D,args:= #[]}:Deferred)∈ds->¬g D
def Qdo{T:Type}(X:Ctx T)(h0:Nat)(fr ro:Nat->Prop)(σ:Sig)(w:World)(N:Nat)(ds:List Deferred)(Q:YG T):Exit->Act->World->Prop:=
 λe a' w'=>∃x env' H' st ro' σ' fr' g',ExR e x/\Q x env' H' st/\Rel fr' ro' σ' H' env' N a' w'/\(X.at st g' ro' w'/\In g' fr' a'.defers)/\(∀b,ro b->ro' b)/\w.heap.size<=w'.heap.size/\σ'.take h0=σ.take h0/\Grow fr w ds fr' a'.defers
theorem Qdo.grow{T:Type}{X:Ctx T}{h0:Nat}{fr a ro d:Nat->Prop}{σ σ1:Sig}{w w1:World}{N:Nat}{l f:List Deferred}{Q:YG T}{e:Exit}{a':Act}{w':World}
  (h:Qdo X h0 a d σ1 w1 N f Q e a' w')(n:∀b,ro b->d b)(k:w.heap.size<=w1.heap.size)(p:σ1.take h0=σ.take h0)(hg:Grow fr w l a f):Qdo X h0 fr ro σ w N l Q e a' w':=by
 obtain⟨x,g,H',F,i,σ',j,y,E,t,z,B,u,s,r,m⟩:=h;exact⟨x,g,H',F,i,σ',j,y,E,t,z,B,λb q=>u b (n b q),X2 k s,r.trans p,hg.trans k m⟩
def TCy{T:Type}(X:Ctx T)(P:Program)(h0 N:Nat)(c:Code)(env:Env)(H:Qd)(st:YSt T)(Q:YG T):Prop:=
 X.ok P->∀rd fr ro σ a w g,Rel fr ro σ H env N a w->X.at st g ro w/\In g fr a.defers->rd=none->c.wpIn (WF rd) 0 P (Qdo X h0 fr ro σ w N a.defers Q) a w
def WOy{T:Type}(X:Ctx T)(P:Program)(h0 N:Nat)(all:Array Oper)(l:List Oper)(env:Env)(H:Qd)(st:YSt T)(Q:YG T):Prop:=
 X.ok P->∀rd fr ro σ a w g,Rel fr ro σ H env N a w->X.at st g ro w/\In g fr a.defers->rd=none->wpL P rd all (Qdo X h0 fr ro σ w N a.defers Q) l a w
theorem In.later{fr a g:Nat->Prop}{w:World}{ds ds':List Deferred}(h:In g fr ds)(hl:∀b,fr b->b<w.heap.size)(hg:Grow fr w ds a ds'):In g a ds':=by
 refine⟨λb q=>hg.sub b (h.sub b q),λD hD q=>?_⟩;rcases hg.ds _ hD with r|⟨D',e,r⟩
 .exact h.beside D r q
 .have:D=D':=by simpa using e
  subst this;have:=hl D (h.sub D q);omega
section
variable {T:Type} {X:Ctx T} {P:Program} {h0 N:Nat} {c c':Code} {env:Env} {H:Qd} {st:YSt T} {Q:YG T}
theorem Qmg{fr ro:Nat->Prop}{σ:Sig}{w:World}{f:List Deferred}{e:Exit}{a':Act}{w':World}(p:X.ok P)(h:QaU h0 fr ro σ w N f (λx env H=>Q x env H st) e a' w'){g:Nat->Prop}(hl:∀b,fr b->b<w.heap.size)(j:X.at st g ro w/\In g fr f):
  Qdo X h0 fr ro σ w N f Q e a' w':=by
 obtain⟨x,a,H',d,σ',k,q,r,n,i,m,l⟩:=h;exact⟨x,a,H',st,d,σ',k,g,q,r,n,⟨p.ev j.1 (i.frMono j.2.sub),j.2.later hl l⟩,i.sub,i.size,m,l⟩
theorem TCy.lift(h:TC P h0 N c env H (λx env H=>Q x env H st)):TCy X P h0 N c env H st Q:=
 λhX rd fr ro σ a w g r hj hrd=>Code.wpIn_mono (λe a' w' q=>Qmg hX q r.sim.frLt hj) (h rd fr ro σ a w r (hrd▸Qeu.none))
def SeqY(X:Ctx T)(P:Program)(h0 N:Nat)(c:Code)(Q:YG T):YG T
 |.normal,env,H,st=>TCy X P h0 N c env H st Q
 |.exit id,env,H,st=>Q (.exit id) env H st
 |.ret,env,H,st=>Q .ret env H st
theorem TCy.seq(h:TCy X P h0 N c env H st (SeqY X P h0 N c' Q)):TCy X P h0 N (.seq c c') env H st Q:=by
 intro y z F E σ a w g r hj hrd;refine wpIn_seq (Code.wpIn_mono ?_ (h y z F E σ a w g r hj hrd));rintro e B G ⟨x,b,H',i,d,σ',f,s,j,m,t,u,p,n,l,k⟩;cases e with
 |normal=>
  obtain rfl:x=.normal:=j;exact Code.wpIn_mono (λe a w q=>q.grow p n l k) (m y z f d σ' B G s t u hrd)
 |exit id=>
  obtain rfl:x=.exit id:=j;exact⟨_,b,H',i,d,σ',f,s,rfl,m,t,u,p,n,l,k⟩
 |ret=>
  obtain rfl:x=.ret:=j;exact⟨_,b,H',i,d,σ',f,s,rfl,m,t,u,p,n,l,k⟩
 |_=>exact j.elim
theorem TCy.region{id:Nat}{l:List Oper}(h:WOy X P h0 N l.toArray l env H st Q):TCy X P h0 N (.region id l.toArray false) env H st Q:=
 λhX rd fr ro σ a w g r hj hrd=>wpIn_region_lit (h hX rd fr ro σ a w g r hj hrd)
theorem TCy.cond{x:Operand}{t:Bool}(j:opA env x=.bool t)(k:t=true->TCy X P h0 N c env H st Q)(l:t=false->TCy X P h0 N c' env H st Q):TCy X P h0 N (.cond x c c') env H st Q:=by
 intro h d i f σ a w g r hj hrd;have b:=Qg r x;rw[j]at b;exact wpIn_cond_split b (λe=>k e h d i f σ a w g r hj hrd) (λe=>l e h d i f σ a w g r hj hrd)
theorem WOy.nil{all:Array Oper}(h:Q .normal env H st):WOy X P h0 N all [] env H st Q:=
 λhX rd fr ro σ a w g r hj hrd=>⟨_,env,H,st,ro,σ,fr,g,rfl,h,r,hj,λ_ q=>q,XZ _,rfl,Grow.refl _ _ _⟩
end
theorem QjA{P:Program}{rd:Option Nat}{o:Oper}{a:Act}{K K':Act->World->Prop}{Q Q':Exit->Act->World->Prop}(b:∀a w,K a w->K' a w)(i:∀ch a w,Q (.panic ch) a w->Q' (.panic ch) a w)(k:∀a w,Q .outgrown a w->Q' .outgrown a w)
  {r:Result Next}(h:o.uponIn (WF rd) 0 P a K Q r):o.uponIn (WF rd) 0 P a K' Q' r:=by
 cases r with
 |ok x w=>
  cases x with
  |value v=>exact b _ _ h
  |skip=>exact b _ _ h
  |defer d=>exact b _ _ h
  |enter f g=>
   refine⟨h.1,CallsIn.mono h.2 ?_⟩;intro e j q;cases e with
   |returned v=>exact b _ _ q
   |panicked c=>exact i _ _ _ q
   |outgrown=>obtain⟨a,w,q⟩:=q;exact⟨a,w,k _ _ q⟩
  |row r g=>exact⟨h.1,RowsIn.mono h.2 λv j q=>b _ _ q⟩
  |round l f n assign m=>
   refine⟨h.1,RoundIn.mono h.2 ?_⟩;intro e j q;cases e with
   |returned v=>exact b _ _ q
   |panicked c=>exact i _ _ _ q
   |outgrown=>obtain⟨a,w,q⟩:=q;exact⟨a,w,k _ _ q⟩
  |_=>exact h
 |halt x w=>
  cases x with
  |panic v=>exact i _ _ _ h
  |_=>exact h
section
variable {T:Type} {X:Ctx T} {P:Program} {h0 N:Nat} {env:Env} {H:Qd} {st:YSt T} {Q:YG T}
theorem WOy.step{all:Array Oper}{o:Oper}{rest:List Oper}(h:WO P h0 N all [o] env H (λx env' H'=>x=.normal/\WOy X P h0 N all rest env' H' st Q)):WOy X P h0 N all (o::rest) env H st Q:=by
 intro y p t m σ a w g r hj hrd;have B:∀i j,Qb9 h0 t m σ w N a.defers (λx env' H'=>x=.normal/\WOy X P h0 N all rest env' H' st Q) .normal i j->wpL P p all (Qdo X h0 t m σ w N a.defers Q) rest i j:=by
  rintro i j ⟨x,env',H',d,σ',f,L,⟨_,E⟩,G,s,F,z,u⟩;have n:X.at st g d j/\In g f i.defers:=⟨y.ev hj.1 (s.frMono hj.2.sub),by rw[z];exact hj.2.later r.sim.frLt u⟩;have:=E y p f d σ' i j g G n hrd;refine Yk (λe k w2 q=>?_) _ _ _ this;exact q.grow s.sub s.size F (by rw[z];exact u)
 have b:=h p t m σ a w r (hrd▸Qeu.none);unfold wpL wpListIn at b⊢;split
 .rename_i l;rw[Vz l]at b;refine⟨b.1,QjA (λk w2 q=>?_) (λJ k w2 q=>?_) (λk w2 q=>?_) b.2⟩
  .unfold wpListIn at q;exact B k w2 q
  .obtain⟨x,_,_,_,_,_,q,_⟩:=q;exact q.elim
  .obtain⟨x,_,_,_,_,_,q,_⟩:=q;exact q.elim
 .rename_i l;rw[Vy l]at b;refine⟨b.1,?_⟩;have q:=b.2;unfold wpListIn at q;exact B _ _ q
theorem WOy.yield{all:Array Oper}{o:Oper}{rest:List Oper}{d:Nat}{x:T}{M rem:List T}(G:X.nx M x rem)(hg:Qs all o env true)(E:o.dst=some d)(hN:Nat.blt d N=true)
  (R:∀fr ro σ a w,Rel fr ro σ H env N a w->∃vs:List Value,LR ro [] w (X.enc x) vs/\(execOp a.eval o).run P w=(Instr.yield X.l vs.toArray).run P w)
  (k:∀b:Bool,WOy X P h0 N all rest (up env d (.bool b)) H (bif b then .on rem else .off rem) Q):WOy X P h0 N all (o::rest) env H (.on M) Q:=by
 intro V O fr ro σ a w g r hj hrd;obtain⟨vs,hv,he⟩:=R fr ro σ a w r;obtain⟨q,hq,L⟩:=hj.1;obtain⟨fn,tmps,assign,W,h1,Y⟩:=V.round M x rem q g ro w vs G L hq (λb z=>⟨r.sim.roLt b z,λy=>r.sim.roFr b z (hj.2.sub b y)⟩) hv;have h3:=he.trans h1;unfold wpL wpListIn;rw[Vz (YH hg r)];refine⟨λ_ _=>trivial,?_⟩;rw[QcV h3 (λd e=>by cases e)];refine⟨λh=>by simp[WF,Fence.wide]at h,?_⟩;refine RoundIn.mono (F:=WF O) (n:=0) Y ?_;rintro e j ⟨i,m,u,p,f⟩;obtain⟨s',ev⟩:=r.sim.round hj.2.sub p;have J:d<N:=by simpa using hN
 have t:Ext ro σ w ro σ j:=by have:=ev.ext σ [];simpa using this
 have fin:∀b:Bool,X.at (bif b then .on rem else .off rem) i ro j->wpL P O all (Qdo X h0 fr ro σ w N a.defers Q) rest (a.put o.dst (.bool b)) j:=by
  intro b f;have hm:Qdr (λb=>fr b\/i b) a.defers j:=by
   refine⟨r.defers.1,λd E=>?_⟩;obtain⟨D,rfl,B,q2⟩:=r.defers.2 d E;exact⟨D,rfl,.inl B,(p.keep D (r.sim.frLt D B) (hj.2.beside D E)).trans q2⟩
  have hi:In i (λb=>fr b\/i b) a.defers:=by
   refine⟨λb q=>.inr q,λD hD q=>?_⟩;rcases p.new D q with m|m
   .exact hj.2.beside D hD m
   .obtain⟨D',e,B,_⟩:=r.defers.2 _ hD;have:D=D':=by simpa using e
    subst this;have:=r.sim.frLt D B;omega
  have r':Rel (λb=>fr b\/i b) ro σ H (up env d (.bool b)) N {a with tmps:=a.tmps.setIfInBounds d (.bool b)} j:=
   ⟨s',VR.up (fr:=fr) (λs=>(r.env s).mono t) (by rw[r.size];exact J) rfl,by simpa using r.size,hm⟩
  have:=k b V O _ ro σ _ j i r' ⟨f,hi⟩ hrd;simp only[E,Act.put];refine Yk (λe a2 w2 q=>q.grow (λ_ q=>q) p.size rfl ⟨λ_ q=>.inl q,λb q=>?_,λ_ q=>.inl q⟩) _ _ _ this;rcases q with q|q
  .exact .inl q
  .rcases p.new b q with q|q
   .exact .inl (hj.2.sub b q)
   .exact .inr q
 rcases f with⟨rfl,f⟩|⟨rfl,f⟩
 .exact fin true ⟨m,u,f⟩
 .exact fin false ⟨m,u,f⟩
end
def EndY{T:Type}:YG T:=λx env H st=>(x=.normal\/x=.ret)/\(st=.on []\/ ∃rem,st=.off rem)
theorem Qdl{T:Type}{P:Program}{f:FuncId}{fn:Func}{c:Code}{N:Nat}{a:List A}{H:Qd}{enc:T->List A}{nx:List T->T->List T->Prop}{xs:List T}
  (hf:P.funcs[f]?=some fn)(hb:fn.body=some c)(hN:fn.ntmps=N)(hA:Nat.ble (a.length+1) N=true)(hR:fn.results= #[])
  (h:∀X:Ctx T,X.enc=enc->X.nx=nx->TCy X P H.length N c (QgX 0 (.fn (.yield X.l) [] []::a)) H (.on xs) EndY):QhU P f a H enc nx xs:=by
 intro X hE hNx hX fr ro0 σ w capv q0 hs hq0 hl hj;have r:LR ro0 σ w (.fn (.yield X.l) [] []::a) (Value.func (.yield X.l) #[] #[]::capv):=⟨_,_,rfl,⟨[],[],rfl,rfl,rfl⟩,hl⟩;have t:=r.length;have ab:a.length+1<=N:=by simpa using hA
 refine(callsIn_wide (n:=0)).1 (callsIn_of_wp_marks hf hb trivial (Code.wpIn_mono ?_ (h X hE hNx hX none fr ro0 σ _ w fr ⟨hs,?_,?_,List.nodup_nil,λd y=>by cases y⟩ ⟨⟨q0,hq0,hj⟩,λ_ q=>q,λD hD=>by cases hD⟩ rfl)))
 .rintro e L V ⟨x,Q,H1,st,G,σ1,aa,E,R,⟨h2,F⟩,k,⟨h4,j⟩,h5,h6,h7,W⟩;have p:LeavesInM Fence.wide 0 P fn L.tmps (λe W'=>(∃v,e=.returned v)/\ ∃g q',(∀b,fr b->g b)/\((X.J [] q' g W')\/(∃rem,X.Jx rem q' g W'))) L.defers .returning V:=by
   refine Qbs (ro:=G) (fr:=E) (σ:=σ1) (H:=H1) L.defers V k.defers.1 (λd y=>?_) (k.sim.frMono j.sub) (λw2 s2 m=>?_)
   .obtain⟨D,rfl,M,q2⟩:=k.defers.2 d y;exact⟨D,rfl,λq=>k.sim.roFr D q M,j.beside D y,λi x O z B=>(k.sim.own i D x O z B).2.2 M,λi d x O z B=>(k.sim.hid i d x D O z B).fr M,q2⟩
   .have u:=hX.up (hX.ev h4 m) (g':=λb=>E b\/fr b) (λb q=>.inl q) (λb q=>Vl (k.sim.frLt b (q.elim (j.sub b) (W.sub b))) m.size);obtain⟨Y,_,u⟩:=u;refine⟨.tuple #[],by simp[results,hR,go_sem],⟨_,rfl⟩,λb=>E b\/fr b,Y,λb q=>.inr q,?_⟩;rcases F with rfl|⟨rem,rfl⟩
    .exact .inl u
    .exact .inr ⟨rem,u⟩
  cases e with
  |normal=>exact p
  |ret=>exact p
  |exit id=>
   obtain rfl:x=.exit id:=R;rcases h2 with q|q<;>cases q
  |_=>exact R.elim
 .intro s;have:=Qfi (i:=0) [] rfl r (Array.replicate (fn.ntmps-(Value.func (.yield X.l) #[] #[]::capv).toArray.size) undef) s;simpa using this
 .simp only[X6]at t;simp[hN];omega
section
variable {T:Type} {X:Ctx T} {P:Program} {h0 N:Nat} {c c':Code} {env:Env} {H:Qd} {st:YSt T} {Q Q':YG T}
theorem TCy.mono(h:TCy X P h0 N c env H st Q)(j:∀x env H st,Q x env H st->Q' x env H st):TCy X P h0 N c env H st Q':=by
 intro n l q m σ a w g r hj hrd;refine Code.wpIn_mono ?_ (h n l q m σ a w g r hj hrd);rintro e u y ⟨x,b,H',f,d,σ',i,k,s,t,p⟩;exact⟨x,b,H',f,d,σ',i,k,s,j _ _ _ _ t,p⟩
theorem TCy.skip(h:Q .normal env H st):TCy X P h0 N .skip env H st Q:=TCy.lift (TC.skip h)
theorem TCy.ret(h:Q .ret env H st):TCy X P h0 N .ret env H st Q:=TCy.lift (TC.ret h)
theorem TCy.exit{id:Nat}(h:Q (.exit id) env H st):TCy X P h0 N (.exit id) env H st Q:=TCy.lift (TC.exit h)
def BloY(id:Nat)(Q:YG T):YG T
 |.normal,env,H,st=>Q .normal env H st
 |.exit id',env,H,st=>bif Nat.beq id' id then Q .normal env H st else Q (.exit id') env H st
 |.ret,env,H,st=>Q .ret env H st
theorem TCy.block{id:Nat}(h:TCy X P h0 N c env H st (BloY id Q)):TCy X P h0 N (.block id c) env H st Q:=by
 intro t s y p σ a w g r hj hrd;refine wpIn_block (Code.wpIn_mono ?_ (h t s y p σ a w g r hj hrd));rintro e z B ⟨x,b,H',i,f,σ',j,l,n,k,m⟩;cases e with
 |normal=>
  obtain rfl:x=.normal:=n;exact⟨_,b,H',i,f,σ',j,l,rfl,k,m⟩
 |exit d=>
  obtain rfl:x=.exit d:=n;show Exit.inBlock id _ _ _ _;unfold Exit.inBlock;simp only[BloY]at k;by_cases q:d=id
  .subst q;rw[VL,Vv]at k;simp only[if_true];exact⟨.normal,b,H',i,f,σ',j,l,rfl,k,m⟩
  .have u:Nat.beq d id=false:=by
    cases e:Nat.beq d id with
    |false=>rfl
    |true=>exact absurd (XW e) q
   rw[u,Vw]at k;simp only[q,if_false];exact⟨.exit d,b,H',i,f,σ',j,l,rfl,k,m⟩
 |ret=>
  obtain rfl:x=.ret:=n;exact⟨_,b,H',i,f,σ',j,l,rfl,k,m⟩
 |_=>exact n.elim
end
section
variable {T:Type} {X:Ctx T} {P:Program} {h0 N:Nat} {c:Code} {env:Env} {H:Qd} {st:YSt T} {Q:YG T}
def Qmv(I:Env->Qd->YSt T->Prop)(Q:YG T):YG T
 |.normal,env,H,st=>I env H st
 |.exit id,env,H,st=>Q (.exit id) env H st
 |.ret,env,H,st=>Q .ret env H st
theorem Qg5{I:Nat->Env->Qd->YSt T->Prop}(body:∀n env H st,I n env H st->TCy X P h0 N c env H st (Qmv (λenv H st=>∃n',n'<n/\I n' env H st) Q)){n:Nat}(J:I n env H st):TCy X P h0 N (.loop c) env H st Q:=by
 intro hX W B y σ a w g r hj hrd b k cs hro hb hr;have G:∀m n env H st fr1 ro1 σ1 a1 w1 g1,n<m->I n env H st->Rel fr1 ro1 σ1 H env N a1 w1->(∀b,y b->ro1 b)->w.heap.size<=w1.heap.size->σ1.take h0=σ.take h0->Grow B w a.defers fr1 a1.defers->X.at st g1 ro1 w1/\In g1 fr1 a1.defers->
   ∃e h i,Qdo X h0 B y σ w N a.defers Q e h i/\ArrivesIn (Machine.fenced P (WF W)) P (lone (b.atR a1 (.code c::.inLoop c::k)) cs w1) b k cs e h i:=by
  intro m
  induction m with
  |zero=>intro n env H st fr1 ro1 σ1 a1 w1 g1 hn;exact absurd hn (Xn _)
  |succ m ih=>
   intro n env H st fr1 ro1 σ1 a1 w1 g1 hn J r1 s1 z1 t1 gr1 j1;obtain⟨e,h,i,F,d⟩:=body n env H st J hX W fr1 ro1 σ1 a1 w1 g1 r1 j1 hrd b (.inLoop c::k) cs hro hb hr;obtain⟨x,f,H',j,p,σ',s,V,z,t,M,q4,q5,R,L,q8⟩:=F;have O:=λb q=>q5 b (s1 b q);have u:=gr1.trans z1 q8;have Y:∀x,Q x f H' j->ExR e x->Qdo X h0 B y σ w N a.defers Q e h i:=λx q q'=>⟨x,f,H',j,p,σ',s,V,q',q,M,q4,O,X2 z1 R,L.trans t1,u⟩;cases e with
   |normal=>
    obtain rfl:x=.normal:=z;obtain⟨n',aa,t⟩:=t;obtain⟨e2,a2,w2,E,l⟩:=ih n' f H' j s p σ' h i V (by omega) t M O (X2 z1 R) (L.trans t1) u q4;exact⟨e2,a2,w2,E,.of_steps (StepsIn.trans d (.one (fenced_calm hb hr rfl) stepR_inLoop)) l⟩
   |exit id=>
    obtain rfl:x=.exit id:=z;exact⟨_,h,i,Y _ t rfl,.pass (x:=.inLoop c) rfl (λ_ _=>.inl (by simp)) d⟩
   |ret=>
    obtain rfl:x=.ret:=z;exact⟨_,h,i,Y _ t rfl,.pass (x:=.inLoop c) rfl (λ_ _=>.inl (by simp)) d⟩
   |_=>exact z.elim
 obtain⟨e,h,i,F,d⟩:=G (n+1) n env H st B y σ a w g (Xo _) J r (λ_ q=>q) (XZ _) rfl (Grow.refl _ _ _) hj;exact⟨e,h,i,F,.of_steps (.one (fenced_calm hb hr rfl) stepR_loop) d⟩
end
end Go.Sw
namespace Go.Sw
theorem Sim.part{fr ro:Nat->Prop}{σ:Sig}{H:Qd}{w:World}(s0:Sim fr ro σ H w){π:List Nat}{Hc:Qd}(hH:π.map (λp=>H[p]?)=(Hc.map (QX (rho π H.length))).map some)(hπ:π.Nodup):
  Sim (λb=>fr b\/(∃i x,σ[i]?=some (some b)/\H[i]?=some x/\x.live=true/\i∉π)\/ ∃i x d,σ[i]?=some (some d)/\H[i]?=some x/\Hid w x d b/\i∉π) ro (Yh σ π) Hc w/\ ∀j:Nat,σ[rho π H.length j]?=(Yh σ π)[j]? :=by
 have hp:∀p∈π,p<H.length:=λp q=>Jk hH q;have hσl:=s0.len;have n:∀(j p:Nat),π[j]?=some p->H[p]?=(Hc[j]?).map (QX (rho π H.length)):=by
  intro j p a;have:=congrArg (λl=>l[j]?) hH;simp only[Xq,a,Xj]at this;cases e:Hc[j]? with
  |none=>rw[e]at this;simp at this
  |some x=>rw[e]at this;simpa using this
 have Q:π.length=Hc.length:=by simpa using congrArg List.length hH
 have hσc:∀j:Nat,σ[rho π H.length j]?=(Yh σ π)[j]? :=by
  intro j;have:=Qew (τ:=[]) hσl hp j;simpa using this
 have hπj:∀(j b:Nat),(Yh σ π)[j]?=some (some b)->∃p,π[j]?=some p/\σ[p]?=some (some b):=by
  intro j b a;simp only[Yh,Xq]at a;cases e:π[j]? with
  |none=>rw[e]at a;simp at a
  |some p=>
   rw[e]at a;simp at a;refine⟨p,rfl,?_⟩;cases r:σ[p]? with
   |none=>rw[r]at a;simp at a
   |some s=>rw[r]at a;simp at a;rw[a]
 refine⟨?_,hσc⟩
 .refine⟨by simp[Yh,Q],s0.roOk,?_,?_,?_,?_,?_,?_⟩
  .rintro b (M|⟨i,x,g,m,h,L⟩|⟨i,x,d,g,m,h,L⟩)
   .exact s0.frLt b M
   .exact(s0.own i b x g m h).1
   .exact(s0.hid i d x b g m h).lt
  .rintro b M (N|⟨i,x,g,m,h,L⟩|⟨i,x,d,g,m,h,L⟩)
   .exact s0.roFr b M N
   .exact(s0.own i b x g m h).2.1 M
   .exact(s0.hid i d x b g m h).ro M
  .intro j b x g m h;obtain⟨p,f,r⟩:=hπj j b g;have B:H[p]?=some (QX (rho π H.length) x):=by rw[n j p f,m];rfl
   obtain⟨o1,o2,o3⟩:=s0.own p b _ r B (by rw[QP];exact h);refine⟨o1,o2,?_⟩;rintro(N|⟨i,y,y1,y2,G,O⟩|⟨i,y,d,y1,y2,G,O⟩)
   .exact o3 N
   .have:=s0.inj i p b _ _ y1 r y2 B G (by rw[QP];exact h);subst this;exact O (VN f)
   .exact(s0.hid i d y b y1 y2 G).ne p b _ r B (by rw[QP];exact h) rfl
  .intro i j b x y g m h L q5 q6;obtain⟨p,f,r⟩:=hπj i b g;obtain⟨z,u,R⟩:=hπj j b m;have B:H[p]?=some (QX (rho π H.length) x):=by rw[n i p f,h];rfl
   have X:H[z]?=some (QX (rho π H.length) y):=by rw[n j z u,L];rfl
   have:=s0.inj p z b _ _ r R B X (by rw[QP];exact q5) (by rw[QP];exact q6);subst this;have F:i<π.length:=by
    rcases VI i π.length with q|q
    .exact q
    .rw[XU q]at f;simp at f
   have a:j<π.length:=by
    rcases VI j π.length with q|q
    .exact q
    .rw[XU q]at u;simp at u
   rw[XQ F]at f;rw[XQ a]at u;have t:=(X5 f).trans (X5 u).symm;rcases Nat.lt_trichotomy i j with q|q|q
   .exact(VK.1 hπ i j F a q t).elim
   .exact q
   .exact(VK.1 hπ j i a F q t.symm).elim
  .intro j s x g m;have a:j<π.length:=by
    rcases VI j π.length with q|q
    .exact q
    .rw[XU (by simpa[Yh]using q)]at g;simp at g
   have f:π[j]?=some π[j]:=XQ a;have B:H[π[j]]?=some (QX (rho π H.length) x):=by rw[n j _ f,m];rfl
   have r:σ[π[j]]?=some s:=by
    have:=hσc j;rw[g]at this;simpa[rho,f]using this
   exact(Qh6 hσc).1 (s0.blk _ s _ r B)
  .intro j b x c g m h;obtain⟨p,f,r⟩:=hπj j b g;have B:H[p]?=some (QX (rho π H.length) x):=by rw[n j p f,m];rfl
   have k:=s0.hid p b _ c r B ((Qan _ _ _ _ _).2 h);refine⟨k.lt,k.ro,?_,?_,?_⟩
   .rintro(N|⟨i,y,y1,y2,G,O⟩|⟨i,y,d,y1,y2,G,O⟩)
    .exact k.fr N
    .exact k.ne i c y y1 y2 G rfl
    .obtain⟨rfl,rfl⟩:=k.one i d y y1 y2 G;exact O (VN f)
   .intro E P y T V W;obtain⟨z,J,Y⟩:=hπj E P T;exact k.ne z P _ Y (show H[z]?=some (QX (rho π H.length) y)by rw[n E z J,V];rfl) (by rw[QP];exact W)
   .intro E P y T V W;obtain⟨z,J,Y⟩:=hπj E P T;obtain⟨z4,z5⟩:=k.one z P _ Y (show H[z]?=some (QX (rho π H.length) y)by rw[n E z J,V];rfl) ((Qan _ _ _ _ _).2 W);subst z5;have F:E<π.length:=(XR.1 J).1;have a:j<π.length:=(XR.1 f).1;rw[XQ F]at J;rw[XQ a]at f;have t:=(X5 J).trans (X5 f).symm;refine⟨z4,?_⟩;rcases Nat.lt_trichotomy E j with q|q|q
    .exact(VK.1 hπ E j F a q t).elim
    .exact q
    .exact(VK.1 hπ j E a F q t.symm).elim
theorem Sim.frames{fr fr' ro:Nat->Prop}{σ:Sig}{H:Qd}{w:World}(s:Sim fr ro σ H w)(lt:∀b,fr' b->b<w.heap.size)(hro:∀b,ro b->¬fr' b)(own:∀(i b:Nat) (x:Blk),σ[i]?=some (some b)->H[i]?=some x->x.live=true->¬fr' b)
  (hd:∀(i b:Nat) (x:Blk) (c:Nat),σ[i]?=some (some b)->H[i]?=some x->Hid w x b c->¬fr' c):Sim fr' ro σ H w:=
 ⟨s.len,s.roOk,lt,hro,λi b x q1 q2 q3=>⟨(s.own i b x q1 q2 q3).1,(s.own i b x q1 q2 q3).2.1,own i b x q1 q2 q3⟩,s.inj,s.blk,
  s.hidTo (· = ·) Q0 (XZ _) (λ_ _ _ _ _ _ _ q=>q) (λi b x c q1 q2 q3 q4=>(hd i b x c q1 q2 q3 q4).elim) λj d y g1 g2 g3=>.inl ⟨j,y,rfl,g1,g2,id,λ_ q=>q⟩⟩
def QkW(H:Qd)(p:Nat):Qd:=match H[p]? with
 |some x=>bif x.holds then H.set p .dead else H
 |none=>H
def Qd8:Qd->List Nat->Qd
 |H,[]=>H
 |H,p::π=>Qd8 (QkW H p) π
theorem Qd9(H:Qd)(p:Nat):(QkW H p=H/\ ∀x,H[p]?=some x->x.holds=false)\/QkW H p=H.set p .dead:=by
 unfold QkW;cases h:H[p]? with
 |none=>exact .inl ⟨rfl,λx q=>by cases q⟩
 |some x=>
  cases q:x.holds with
  |false=>exact .inl ⟨by simp[q],λy a=>by cases a;exact q⟩
  |true=>exact .inr (by simp[q])
theorem Qfk:∀(π:List Nat) (H:Qd) (i:Nat) (x:Blk),(Qd8 H π)[i]?=some x->x=.dead\/(H[i]?=some x/\(x.holds=true->i∉π))
 |[],H,i,x,h=>.inr ⟨h,λ_=>by simp⟩
 |p::π,H,i,x,h=>by
  rcases Qfk π _ i x h with h|⟨h1,h2⟩
  .exact .inl h
  .rcases Qd9 H p with⟨e,hl⟩|e
   .rw[e]at h1;refine .inr ⟨h1,λhx=>?_⟩;simp only[Vc,not_or];refine⟨λq=>?_,h2 hx⟩;subst q;have:=hl x h1;rw[this]at hx;cases hx
   .rw[e]at h1;by_cases q:p=i
    .subst q;rw[Xb]at h1;simp at h1;exact .inl h1.2.symm
    .rw[XV q]at h1;exact .inr ⟨h1,λhx=>by simp only[Vc,not_or];exact⟨λr=>q r.symm,h2 hx⟩⟩
theorem QdS{fr ro:Nat->Prop}{σ:Sig}{w:World}:∀(π:List Nat) {H:Qd} (s:Sim fr ro σ H w),Sim fr ro σ (Qd8 H π) w
 |[],_,s=>s
 |p::π,H,s=>by
  rw[Qd8];rcases Qd9 H p with h|h
  .rw[h.1];exact QdS π s
  .rw[h];exact QdS π (s.kill p)
theorem Sim.put{fr ro:Nat->Prop}{σ:Sig}{H:Qd}{w:World}(s:Sim fr ro σ H w){b:Nat}{obj:Obj}(l:fr b)(t:w.shape? b=none):
  Sim fr ro σ H (w.putObj b obj)/\Qh (λc=>c≠b) ro w ro (w.putObj b obj):=by
 have a:∀c,c≠b->(w.putObj b obj).heap[c]?=w.heap[c]? :=λc E=>World.putObj_heap_other E;have f:(w.putObj b obj).heap.size=w.heap.size:=by simp
 have p:∀c,ro c->c≠b:=λc q e=>s.roFr c q (e▸l);have ev:Qh (λc=>c≠b) ro w ro (w.putObj b obj):=by
  refine⟨λ_ q=>q,λc q=>a c (p c q),λc q=>a c q,by rw[f];exact XZ _,λc x q=>?_,rfl,rfl,rfl,XZ _⟩;by_cases e:c=b
  .subst e;rw[t]at q;cases q
  .unfold World.shape? at q⊢;rw[a c e];exact q
 have g:Ext ro σ w ro σ (w.putObj b obj):=by have:=ev.ext σ [];simpa using this
 refine⟨⟨s.len,s.roOk.to (λ_ q=>q) ev.keepRo (λc q=>by rw[f];exact s.roLt c q),λc q=>by rw[f];exact s.frLt c q,s.roFr,λi c x k h G=>?_,s.inj,λi y x k h=>?_,
  s.hidTo (· = ·) Q0 (by rw[f];exact XZ _) (λ_ _ _ _ _ _ _ q=>q) (λ_ _ _ _ _ _ _ q=>q) λj d y r n J=>.inl ⟨j,y,rfl,r,n,id,λc q=>s.hidKeep r n (λz=>a d (λe=>(s.own j d y r n z).2.2 (e▸l))) ev.keepRo q⟩⟩,ev⟩
 .obtain⟨B,u,F⟩:=s.own i c x k h G;exact⟨by rw[f];exact B,u,F⟩
 .refine(s.blk i y x k h).keep g ?_ ?_
  .rintro c rfl m;exact a c (λe=>(s.own i c x k h m).2.2 (e▸l))
  .rintro d c rfl m;exact a c (λe=>(s.hid i d x c k h m).fr (e▸l))
theorem Qbq{w:World}{l:Nat}{r:Loop}(h:w.heap[l]?=some (.loop r)):w.shape? l=none:=by
 unfold World.shape?;rw[h]
structure Fix where
 fr:Nat->Prop
 ro:Nat->Prop
 σ:Sig
 w:World
 h1:Nat
 env:Env
 tmps:Array Value
 ds1:List Deferred
 l:Nat
 rc:LoopState->Option Code->Loop
 fr1:Nat->Prop
structure Fix.Ok (D:Fix):Prop where
 sub:∀b,D.fr b->D.fr1 b
 l1:D.fr1 D.l
 lf:¬D.fr D.l
 len:D.σ.length=D.h1
structure RJ (D:Fix) (ro1:Nat->Prop) (σ1:Sig) (H:Qd) (st:LoopState) (pe:Option Code) (q g:Nat->Prop) (W:World):Prop where
 sim:Sim D.fr1 ro1 σ1 H W
 env:∀t,VR ro1 D.σ W (lk D.env t) (D.tmps.getD t undef)
 sig:σ1.take D.h1=D.σ
 ev:Qh D.fr D.ro D.w ro1 W
 marks:Qdr D.fr1 D.ds1 W
 rc:W.heap[D.l]?=some (.loop (D.rc st pe))
 roG:∀b,ro1 b->q b\/g b
 frG:∀b,D.fr1 b->g b
 own:∀(i b:Nat) (x:Blk),σ1[i]?=some (some b)->H[i]?=some x->x.live=true->g b
 hidG:∀(i b:Nat) (x:Blk) (c:Nat),σ1[i]?=some (some b)->H[i]?=some x->Hid W x b c->g c
 lt:∀b,g b->b<W.heap.size
theorem Qd0{σ σ1:Sig}{a:Nat}(h:σ1.take a=σ){i b:Nat}(q:σ[i]?=some (some b)):σ1[i]?=some (some b):=by
 subst h;rw[List.getElem?_take]at q;split at q
 .exact q
 .cases q
section
variable {D:Fix} {ro1:Nat->Prop} {σ1:Sig} {H:Qd} {st:LoopState} {pe:Option Code} {qR g:Nat->Prop} {W:World}
theorem RJ.step(r:D.Ok)(j:RJ D ro1 σ1 H st pe qR g W){ro':Nat->Prop}{W':World}(e:Qh g qR W ro' W'):RJ D ro1 σ1 H st pe qR g W':=by
 have a:∀b,ro1 b->W'.heap[b]?=W.heap[b]? :=λb q=>(j.roG b q).elim (e.keepRo b) (e.keepFr b);have ev:Qh D.fr1 ro1 W ro1 W':=⟨λ_ q=>q,a,λb q=>e.keepFr b (j.frG b q),e.size,e.shape,e.os,e.tape,e.output,e.drawn⟩;have k:∀σ,Ext ro1 σ W ro1 σ W':=λ σ=>by have:=ev.ext σ [];simpa using this
 refine⟨⟨j.sim.len,j.sim.roOk.to (λ_ q=>q) a (λb q=>Vl (j.sim.roLt b q) e.size),λb q=>Vl (j.sim.frLt b q) e.size,j.sim.roFr,λi b x h f p=>?_,j.sim.inj,λi z x h f=>?_,
  j.sim.hidTo (· = ·) Q0 e.size (λ_ _ _ _ _ _ _ q=>q) (λ_ _ _ _ _ _ _ q=>q) λi d y n m w=>.inl ⟨i,y,rfl,n,m,id,λc q=>j.sim.hidKeep n m (λz=>e.keepFr d (j.own i d y n m z)) a q⟩⟩,
  λt=>(j.env t).mono (k _),j.sig,j.ev.trans (ev.frMono r.sub),j.marks.keep ev,(ev.keepFr _ r.l1).trans j.rc,j.roG,j.frG,j.own,λi b x c h f p=>j.hidG i b x c h f (j.sim.hidKeep h f (λz=>e.keepFr b (j.own i b x h f z)) a p),λb q=>Vl (j.lt b q) e.size⟩
 .obtain⟨u,s⟩:=j.sim.own i b x h f p;exact⟨Vl u e.size,s⟩
 .refine(j.sim.blk i z x h f).keep (k _) ?_ ?_
  .rintro b rfl l;exact e.keepFr b (j.own i b x h f l)
  .rintro b c rfl l;exact e.keepFr c (j.hidG i b x c h f l)
theorem RJ.up{g':Nat->Prop}(j:RJ D ro1 σ1 H st pe qR g W)(h:∀b,g b->g' b)(hl:∀b,g' b->b<W.heap.size):RJ D ro1 σ1 H st pe qR g' W:=
 {j with roG:=λb q=>(j.roG b q).imp id (h b),frG:=λb q=>h b (j.frG b q),own:=λi b x q1 q2 q3=>h b (j.own i b x q1 q2 q3),hidG:=λi b x c q1 q2 q3=>h c (j.hidG i b x c q1 q2 q3),lt:=hl}
def FrB(D:Fix)(ro1 g:Nat->Prop)(W:World):Nat->Prop:=λb=>(D.fr1 b\/(¬g b/\ ¬ro1 b))/\b<W.heap.size
theorem RJ.simB(j:RJ D ro1 σ1 H st pe qR g W):Sim (FrB D ro1 g W) ro1 σ1 H W:=by
 refine j.sim.frames (λb q=>q.2) (λb q r=>?_) (λi b x e d a r=>?_) (λi b x c e d a r=>r.1.elim (j.sim.hid i b x c e d a).fr λr=>r.1 (j.hidG i b x c e d a))
 .rcases r.1 with r|r
  .exact j.sim.roFr b q r
  .exact r.2 q
 .rcases r.1 with r|r
  .exact(j.sim.own i b x e d a).2.2 r
  .exact r.1 (j.own i b x e d a)
theorem RJ.fin(E:D.Ok)(j:RJ D ro1 σ1 H st pe qR g W){y ro':Nat->Prop}{σ':Sig}{H':Qd}{W':World}{st':LoopState}{pe':Option Code}
  (ev:Qh (λb=>FrB D ro1 g W b/\b≠D.l) ro1 W ro' W')(s:Sim y ro' σ' H' W')(u:∀b,FrB D ro1 g W b->y b)(hσ:σ'.take D.h1=σ1.take D.h1)(L:W'.heap[D.l]?=some (.loop (D.rc st' pe'))):
  RJ D ro' σ' H' st' pe' qR (λb=>g b\/(W.heap.size<=b/\b<W'.heap.size)) W'/\QfW g (λb=>g b\/(W.heap.size<=b/\b<W'.heap.size)) W W':=by
 have n:∀b,D.fr1 b->FrB D ro1 g W b:=λb q=>⟨.inl q,j.sim.frLt b q⟩;have R:W.shape? D.l=none:=Qbq j.rc;have z:Qh D.fr ro1 W ro' W':=ev.frMono λb q=>⟨n b (E.sub b q),λe=>E.lf (e▸q)⟩;have w:Ext ro1 D.σ W ro' D.σ W':=ev.ext0 D.σ;have G:∀b,b<W.heap.size->b<W'.heap.size:=λb q=>Vl q ev.size;have m:∀b,b<W.heap.size->¬FrB D ro1 g W b->g b\/ro1 b:=by
  intro b h Q;by_cases f:g b
  .exact .inl f
  .by_cases a:ro1 b
   .exact .inr a
   .exact absurd ⟨.inr ⟨f,a⟩,h⟩ Q
 refine⟨⟨s.frames (λb q=>G b (j.sim.frLt b q)) (λb q r=>s.roFr b q (u b (n b r))) (λi b x f a p r=>(s.own i b x f a p).2.2 (u b (n b r))) (λi b x c f a p r=>(s.hid i b x c f a p).fr (u c (n c r))),
  λt=>(j.env t).mono w,hσ.trans j.sig,j.ev.trans z,⟨j.marks.1,λd T=>?_⟩,L,λb q=>?_,λb q=>.inl (j.frG b q),λi b x f a p=>?_,λi b x c f a p=>?_,λb q=>q.elim (λq=>G b (j.lt b q)) (λq=>q.2)⟩,
  ⟨λb q=>.inl q,λb q=>q.imp id (λq=>q.1),λb q=>q.elim (λq=>G b (j.lt b q)) (λq=>q.2),λb f a=>.inr ⟨f,a⟩,λb f a=>?_,ev.size,ev.shape,ev.os,ev.tape,ev.output,ev.drawn⟩⟩
 .obtain⟨B,N,J,F⟩:=j.marks.2 d T;refine⟨B,N,J,(ev.keepFr B ⟨n B J,λe=>?_⟩).trans F⟩;subst e;rw[j.rc]at F;cases F
 .rcases VI b W.heap.size with h|h
  .rcases m b h (λr=>s.roFr b q (u b r))with r|r
   .exact .inr (.inl r)
   .exact(j.roG b r).imp id .inl
  .exact .inr (.inr ⟨h,s.roLt b q⟩)
 .obtain⟨M,P,O⟩:=s.own i b x f a p;rcases VI b W.heap.size with h|h
  .rcases m b h (λr=>O (u b r))with r|r
   .exact .inl r
   .exact absurd (ev.sub b r) P
  .exact .inr ⟨h,M⟩
 .have k:=s.hid i b x c f a p;rcases VI c W.heap.size with h|h
  .rcases m c h (λr=>k.fr (u c r))with r|r
   .exact .inl r
   .exact absurd (ev.sub c r) k.ro
  .exact .inr ⟨h,k.lt⟩
 .by_cases r:ro1 b
  .exact ev.keepRo b r
  .exact ev.keepFr b ⟨⟨.inr ⟨a,r⟩,f⟩,λe=>a (j.frG b (e▸E.l1))⟩
end
theorem Sim.roAdd{fr ro f:Nat->Prop}{σ:Sig}{H:Qd}{w:World}(s:Sim fr ro σ H w)(l:∀b,f b->b<w.heap.size)(m:∀b,f b->¬fr b)(h:∀(i b:Nat) (x:Blk),σ[i]?=some (some b)->H[i]?=some x->x.live=true->¬f b)
  (g:∀(i b:Nat) (x:Blk) (c:Nat),σ[i]?=some (some b)->H[i]?=some x->Hid w x b c->¬f c):Sim fr (λb=>ro b\/f b) σ H w:=by
 have ext:Ext ro σ w (λb=>ro b\/f b) σ w:=⟨λ_ q=>.inl q,λ_ _=>rfl,λ_ _ q=>q,λ_ _ q=>q⟩;refine⟨s.len,s.roOk.to (λ_ q=>.inl q) (λ_ _=>rfl) (λb q=>q.elim (s.roLt b) (l b)),s.frLt,λb q=>q.elim (s.roFr b) (m b),λi b x e a k=>?_,s.inj,λi y x e a=>(s.blk i y x e a).keep ext (λ_ _ _=>rfl) (λ_ _ _ _=>rfl),
  s.hidTo (· = ·) Q0 (XZ _) (λi b x c e a k z=>z.elim id λq=>(g i b x c e a k q).elim) (λ_ _ _ _ _ _ _ q=>q) λj d y u p B=>.inl ⟨j,y,rfl,u,p,id,λ_ q=>q⟩⟩
 obtain⟨r,n,t⟩:=s.own i b x e a k;exact⟨r,λq=>q.elim n (h i b x e a k),t⟩
theorem RJ.roAdd{D:Fix}{ro1:Nat->Prop}{σ1:Sig}{H:Qd}{st:LoopState}{pe:Option Code}{qR ri g:Nat->Prop}{W:World}(j:RJ D ro1 σ1 H st pe qR g W)(hq:∀b,qR b->ri b)(hI:∀b,ri b->b<W.heap.size/\ ¬g b):RJ D (λb=>ro1 b\/ri b) σ1 H st pe ri g W:=
 {j with
  sim:=j.sim.roAdd (λb q=>(hI b q).1) (λb q z=>(hI b q).2 (j.frG b z)) (λi b x q1 q2 q3 z=>(hI b z).2 (j.own i b x q1 q2 q3)) (λi b x c q1 q2 q3 z=>(hI c z).2 (j.hidG i b x c q1 q2 q3))
  env:=λt=>(j.env t).mono ⟨λ_ q=>.inl q,λ_ _=>rfl,λ_ _ q=>q,λ_ _ q=>q⟩
  ev:=j.ev.trans (YU λ_ q=>.inl q)
  roG:=λb q=>q.elim (λq=>(j.roG b q).imp (hq b) id) .inl}
def QmK:List Nat->List A->Env->Env
 |p::ps,a::zs,env=>QmK ps zs (up env p a)
 |_,_,env=>env
def QjD:List Nat->List Value->Array Value->Array Value
 |p::ps,v::vs,t=>QjD ps vs (t.setIfInBounds p v)
 |_,_,t=>t
theorem Qgn:∀(ps:List Nat) (vs:List Value) (t:Array Value),(QjD ps vs t).size=t.size
 |[],_,_=>rfl
 |_::_,[],_=>rfl
 |p::ps,v::vs,t=>by simp[QjD,Qgn ps]
theorem Qgo:∀(ps:List Nat) (vs:List Value) (t:Array Value),(ps.toArray.zip vs.toArray).foldl (λt (p,v)=>t.setIfInBounds p v) t=QjD ps vs t
 |[],vs,t=>by rw[<- Array.foldl_toList,Array.toList_zip];rfl
 |p::ps,[],t=>by rw[<- Array.foldl_toList,Array.toList_zip];rfl
 |p::ps,v::vs,t=>by
  have:=Qgo ps vs (t.setIfInBounds p v);rw[<- Array.foldl_toList,Array.toList_zip]at this⊢;exact this
theorem QkF{ro:Nat->Prop}{σ:Sig}{w:World}:∀(ps:List Nat) (zs:List A) (vs:List Value) (env:Env) (t:Array Value),LR ro σ w zs vs->(∀p∈ps,p<t.size)->(∀s,VR ro σ w (lk env s) (t.getD s undef))->
  ∀s,VR ro σ w (lk (QmK ps zs env) s) ((QjD ps vs t).getD s undef)
 |[],_,_,_,_,_,_,h=>h
 |p::ps,[],vs,_,_,hv,_,h=>by
  obtain rfl:vs=[]:=hv;exact h
 |p::ps,a::zs,vs,env,t,hv,hp,h=>by
  obtain⟨v,vs',rfl,h0,hv'⟩:=hv;have h1:=VR.up (fr:=λ_=>False) (a:={tmps:=t,defers:=[]}) h (hp p (by simp)) h0;exact QkF ps zs vs' (up env p a) (t.setIfInBounds p v) hv' (λq hq=>by simpa using hp q (by simp[hq])) h1
def Qkm(h1:Nat)(env:Env)(Q:QB)(K:Qd->Prop):QB
 |.normal,env',H'=>∃H2,Le h1 env' H' [] H2/\K H2
 |.exit id,env',H'=>∃H2,Le h1 env' H' [] H2/\Q (.exit id) env H2
 |.ret,env',H'=>∃H2,Le h1 env' H' [] H2/\Q .ret env H2
def Jump(Q:QB)(env:Env)(c:Code)(H:Qd):Prop:=(∃id,c=.exit id/\Q (.exit id) env H)\/(c=.ret/\Q .ret env H)
section
variable {D:Fix} {ro0:Nat->Prop} {σ1:Sig} {H:Qd} {qR ri g:Nat->Prop} {W:World} {P:Program} {N:Nat} {Q:QB} {K:Qd->Prop}
theorem RJ.round{fn:FuncId}{ps:List Nat}{assign body:Code}{df:Nat}{cs:List A}{vs:List Value}(hD:D.Ok)(x:D.rc=λst pe=>{state:=st,pending:=pe,fn:=fn,tmps:=D.tmps,params:=ps.toArray,assign:=assign,body:=body,defers:=df})
  (hN:D.tmps.size=N)(am:∀p∈ps,p<N)(ae:cs.length=ps.length)(hq:∀b,qR b->ri b)(hI:∀b,ri b->b<W.heap.size/\ ¬g b)(L:LR ri [] W cs vs)(j0:RJ D ro0 σ1 H .ready none qR g W)
  (h:TC P D.h1 N assign (QmK ps cs D.env) H λe env1 H1=>e=.normal/\TC P D.h1 N body env1 H1 (Qkm D.h1 D.env Q K)):
  YieldAt Fence.wide 0 P D.l vs.toArray W λe W'=>∃g',QfW g g' W W'/\((e=.returned (.bool true)/\ ∃H2 ro2 σ2,K H2/\RJ D ro2 σ2 H2 .ready none ri g' W')\/
   (e=.returned (.bool false)/\ ∃H2 c ro2 σ2,Jump Q D.env c H2/\RJ D ro2 σ2 H2 .done (some c) ri g' W')):=by
 have af:vs.length=cs.length:=L.length;have j:=j0.roAdd hq hI;have y:LR (λb=>ro0 b\/ri b) σ1 W cs vs:=L.mono ⟨λ_ q=>.inr q,λ_ _=>rfl,λ_ _ q=>q,λi b q=>by simp at q⟩;clear j0;generalize(λb=>ro0 b\/ri b)=ro1 at j y;have aj:∀b,D.fr1 b->FrB D ro1 g W b:=λb q=>⟨.inl q,j.sim.frLt b q⟩;have n:=aj _ hD.l1;have F:=j.rc;have hy:=run_yield (P:=P) (r:=D.rc .ready none) (args:=vs.toArray) F (by rw[x];simp[af,ae]);refine⟨fn,QjD ps vs D.tmps,assign,body,?_,?_⟩
 .rw[hy,x];simp only[];rw[<- Qgo]
 .refine roundIn_of_wpIn trivial ?_;show Code.wpIn (WF (some D.l)) 0 P _ _ _ _;have ac:∀s,VR ro1 σ1 W (lk D.env s) (D.tmps.getD s undef):=λs=>(j.env s).mono ⟨λ_ q=>q,λ_ _=>rfl,λ_ _ q=>q,λi b q=>Qd0 j.sig q⟩;have ak:Qeu (some D.l) (FrB D ro1 g W) W:=λl e=>by cases e;exact⟨n,_,F⟩
  have w1:=h (some D.l) (FrB D ro1 g W) ro1 σ1 {tmps:=QjD ps vs D.tmps,defers:=[]} W ⟨j.simB,QkF ps cs vs D.env D.tmps y (by rw[hN];exact am) ac,by simp[Qgn,hN],List.nodup_nil,λd hd=>by cases hd⟩ ak;refine Code.wpIn_mono ?_ w1;rintro e a1 w1 ⟨x1,env1,H1,ro2,σ2,m,h1,⟨rfl,h2⟩,h3,h4,h5,h6⟩;cases e with
  |normal=>
   have k:w1.heap[D.l]?=some (.loop (D.rc .ready none)):=(h4.keepFr _ n).trans F;refine⟨_,run_beginRound k (by rw[x]),?_⟩;obtain⟨s2,z⟩:=h3.sim.put (obj:=.loop {D.rc .ready none with state:=.busy}) (h6.sub _ n) (Qbq k);have aa:D.l<w1.heap.size:=by rw[Vi]at k;exact k.1
   have ab:(w1.putObj D.l (.loop {D.rc .ready none with state:=.busy})).heap[D.l]?=some (.loop {D.rc .ready none with state:=.busy}):=World.putObj_heap_same aa;generalize hw2:w1.putObj D.l (.loop {D.rc .ready none with state:=.busy})=w2 at*;have ag:Qdr m a1.defers w2:=by
    refine⟨h3.defers.1,λd hd=>?_⟩;obtain⟨B,e1,e2,R⟩:=h3.defers.2 d hd;refine⟨B,e1,e2,(z.keepFr B (λe=>?_)).trans R⟩;subst e;rw[k]at R;cases R
   have r2:Rel m ro2 σ2 H1 env1 N a1 w2:=⟨s2,λs=>(h3.env s).mono (z.ext0 σ2),h3.size,ag⟩;have J:m D.l:=h6.sub _ n;refine Code.wpIn_mono ?_ (h2 (some D.l) m ro2 σ2 a1 w2 r2 (λl e=>by cases e;exact⟨J,_,ab⟩));rintro e a3 w3 ⟨x3,V,H3,E,σ3,O,g1,g2,g3,g4,g5,g6⟩;have t:w3.heap[D.l]?=some (.loop {D.rc .ready none with state:=.busy}):=(g4.keepFr _ J).trans ab;have G:∀(H2:Qd) (jump:Option Code),Le D.h1 V H3 [] H2->∃v u,(Instr.endRound D.l jump).run P w3=.ok v u/\v=.bool jump.isNone/\ ∃g',QfW g g' W u/\ ∃a σ4,RJ D a σ4 H2 (if jump.isNone then .ready else .done) jump ri g' u:=by
    intro H2 jump f;obtain⟨a,σ4,r4,s4,t4⟩:=f O E σ3 N a3 w3 g3;refine⟨_,_,run_endRound jump t,rfl,?_⟩;have ai:O D.l:=g6.sub _ J;obtain⟨s5,al⟩:=r4.sim.put (obj:=.loop {{D.rc .ready none with state:=.busy}with state:=if jump.isNone then .ready else .done,pending:=jump}) ai (Qbq t);have X:D.l<w3.heap.size:=by rw[Vi]at t;exact t.1
    have ah:=World.putObj_heap_same (w:=w3) (r:=D.l) (o:=.loop {{D.rc .ready none with state:=.busy}with state:=if jump.isNone then .ready else .done,pending:=jump}) X;have e1:Qh (λb=>FrB D ro1 g W b/\b≠D.l) ro1 W ro2 w1:=h4.frMono λb q=>q.1;have e2:Qh (λb=>FrB D ro1 g W b/\b≠D.l) ro2 w1 ro2 w2:=z.frMono λb q=>q.2;have R:Qh (λb=>FrB D ro1 g W b/\b≠D.l) ro2 w2 E w3:=g4.frMono λb q=>h6.sub b q.1;have e4:Qh (λb=>FrB D ro1 g W b/\b≠D.l) E w3 a w3:=YU s4;have e5:=(((e1.trans e2).trans R).trans e4).trans (al.frMono λb (q:FrB D ro1 g W b/\b≠D.l)=>q.2);obtain⟨q1,q2⟩:=j.fin hD e5 s5 (λb q=>g6.sub b (h6.sub b q)) (by rw[t4,g5,h5]) (st':=if jump.isNone then .ready else .done) (pe':=jump) (by rw[ah,x]);exact⟨_,q2,a,σ4,q1⟩
   cases e with
   |normal=>
    obtain rfl:x3=.normal:=g1;obtain⟨H2,f,M⟩:=g2;obtain⟨v,u,T,rfl,g',k2,a,σ4,Y⟩:=G H2 none f;exact⟨_,u,T,g',k2,.inl ⟨rfl,H2,a,σ4,M,Y⟩⟩
   |exit id=>
    obtain rfl:x3=.exit id:=g1;obtain⟨H2,f,M⟩:=g2;obtain⟨v,u,T,rfl,g',k2,a,σ4,Y⟩:=G H2 (some (.exit id)) f;exact⟨_,u,T,g',k2,.inr ⟨rfl,H2,_,a,σ4,.inl ⟨id,rfl,M⟩,Y⟩⟩
   |ret=>
    obtain rfl:x3=.ret:=g1;obtain⟨H2,f,M⟩:=g2;obtain⟨v,u,T,rfl,g',k2,a,σ4,Y⟩:=G H2 (some .ret) f;exact⟨_,u,T,g',k2,.inr ⟨rfl,H2,_,a,σ4,.inr ⟨rfl,M⟩,Y⟩⟩
   |_=>exact g1.elim
  |exit id=>cases h1
  |ret=>cases h1
  |_=>exact h1.elim
end
theorem Sim.beside{fr ro:Nat->Prop}{σ:Sig}{H:Qd}{w w1:World}(s:Sim fr ro σ H w)(ev:Qh fr ro w ro w1)(a:∀b,b<w.heap.size->w1.heap[b]?=w.heap[b]?):Sim (λb=>fr b\/(w.heap.size<=b/\b<w1.heap.size)) ro σ H w1:=by
 have g:Ext ro σ w ro σ w1:=ev.ext0 σ;refine⟨s.len,s.roOk.to (λ_ q=>q) ev.keepRo (λb q=>Vl (s.roLt b q) ev.size),λb q=>q.elim (λq=>Vl (s.frLt b q) ev.size) (λq=>q.2),λb q r=>?_,λi b x f e m=>?_,s.inj,λi z x f e=>?_,
  s.hidTo (· = ·) Q0 ev.size (λ_ _ _ _ _ _ _ q=>q) (λi b x c f e m u=>u.elim id λq=>(by have:=(s.hid i b x c f e m).lt;omega)) λj d y l k B=>.inl ⟨j,y,rfl,l,k,id,λc q=>s.hidKeep l k (λz=>a d (s.own j d y l k z).1) ev.keepRo q⟩⟩
 .rcases r with r|r
  .exact s.roFr b q r
  .have:=s.roLt b q;omega
 .obtain⟨p,n,t⟩:=s.own i b x f e m;refine⟨Vl p ev.size,n,λr=>?_⟩;rcases r with r|r
  .exact t r
  .omega
 .refine(s.blk i z x f e).keep g ?_ ?_
  .rintro b rfl h;exact a b (s.own i b x f e h).1
  .rintro b c rfl h;exact a c (s.hid i b x c f e h).lt
theorem Qck{w:World}{o:Obj}{b:Nat}(a:b<w.heap.size):(w.alloc o).heap[b]?=w.heap[b]? :=by
 show(w.heap.push o)[b]?=_;rw[Array.getElem?_push,Vy (by omega)]
theorem Qn7{P:Program}{fn:FuncId}{tmps:Array Value}{ps:Array Tmp}{assign body:Code}{rd:Option Nat}{fr ro:Nat->Prop}{w:World}(h:Qeu rd fr w)(g:∀b,ro b->b<w.heap.size)(k:∀b,fr b->b<w.heap.size):
  ∃l mark w1 df,(Instr.enterLoop fn tmps ps assign body rd).run P w=.ok (l,mark) w1/\w.heap.size<=l/\l<w1.heap.size/\w1.heap[l]?=some (.loop {state:=.ready,pending:=none,fn:=fn,tmps:=tmps,params:=ps,assign:=assign,body:=body,defers:=df})/\
   (∀b,b<w.heap.size->w1.heap[b]?=w.heap[b]?)/\mark.Nodup/\(∀d∈mark,∃D,d={target:=.collected D,args:= #[]}/\w.heap.size<=D/\D<w1.heap.size/\w1.heap[D]?=some (.deferred (some [])))/\Qh fr ro w ro w1:=by
 have f:∀w1:World,(∀b,b<w.heap.size->w1.heap[b]?=w.heap[b]?)->w.heap.size<=w1.heap.size->w1.os=w.os->w1.tape=w.tape->w1.output=w.output->w1.drawn=w.drawn->Qh fr ro w ro w1:=by
  intro w1 j y t u r s;refine⟨λ_ q=>q,λb q=>j b (g b q),λb q=>j b (k b q),y,λb x q=>?_,t,u,r,by rw[s];exact XZ _⟩;have e:b<w.heap.size:=by
   rcases VI b w.heap.size with z|z
   .exact z
   .unfold World.shape? at q;rw[Array.getElem?_eq_none (by simpa using z)]at q;cases q
  unfold World.shape? at q⊢;rw[j b e];exact q
 cases rd with
 |none=>
  have a:∀b,b<w.heap.size->((w.alloc (.deferred (some []))).alloc (.loop {state:=.ready,pending:=none,fn:=fn,tmps:=tmps,params:=ps,assign:=assign,body:=body,defers:=w.heap.size})).heap[b]?=w.heap[b]? :=λb e=>
   (Qck (by simp;omega)).trans (Qck e)
  refine⟨_,_,_,w.heap.size,run_enterLoop_outer fn tmps ps assign body,by omega,by simp,?_,a,by simp,?_,f _ a (by simp;omega) rfl rfl rfl rfl⟩
  .have:=World.alloc_heap_new (w.alloc (.deferred (some []))) (.loop {state:=.ready,pending:=none,fn:=fn,tmps:=tmps,params:=ps,assign:=assign,body:=body,defers:=w.heap.size})
   rwa [World.size_alloc]at this
  .intro d i;obtain rfl:=VH.1 i;exact⟨_,rfl,XZ _,by simp;omega,(Qck (by simp)).trans (World.alloc_heap_new w _)⟩
 |some p=>
  obtain⟨_,m,n⟩:=h p rfl;have a:∀b,b<w.heap.size->(w.alloc (.loop {state:=.ready,pending:=none,fn:=fn,tmps:=tmps,params:=ps,assign:=assign,body:=body,defers:=m.defers})).heap[b]?=w.heap[b]? :=λb e=>Qck e;exact⟨_,_,_,m.defers,run_enterLoop_inner n fn tmps ps assign body,XZ _,by simp,World.alloc_heap_new w _,a,List.nodup_nil,(λd i=>absurd i List.not_mem_nil),f _ a (by simp) rfl rfl rfl rfl⟩
theorem TC.rangeFunc{P:Program}{h0 N:Nat}{af:Operand}{ps:List Nat}{assign body:Code}{env:Env}{H:Qd}{Q:QB}{f:FuncId}{ag ae:List A}{Hc:Qd}{T S:Type}{enc:T->List A}{nx:List T->T->List T->Prop}{xs:List T}
  (π:List Nat)(Hp:S->Qd)(V:S->List T->Prop)(s0:S)(hh:h0<=H.length)(hg:opA env af=.fn (.func f) [] ag)(hargs:ag=Qaa (rho π H.length) ae)(hH:π.map (λp=>H[p]?)=(Hc.map (QX (rho π H.length))).map some)(hπ:π.Nodup)
  (bh:(ps.all λp=>Nat.blt p N)=true)(eg:∀args w,(callFunc f args).run P w=.ok (.enter f args) w)(aq:QhU P f ae Hc enc nx xs)(au:∀x,(enc x).length=ps.length)
  (a9:Le H.length env (Qd8 H π) env (Hp s0))(hV:V s0 xs)
  (ak:∀s l x rem,V s l->nx l x rem->TC P H.length N assign (QmK ps (enc x) env) (Hp s) λe env1 H1=>e=.normal/\TC P H.length N body env1 H1 (Qkm H.length env Q λH2=>∃s',V s' rem/\H2=Hp s'))
  (ao:∀s,V s []->Q .normal env (Hp s)):TC P h0 N (.rangeFunc af ps.toArray assign body) env H Q:=by
 intro rd fr ro σ a w r hrd;have hv:=Qg r af;rw[hg]at hv;obtain⟨l1,E,hv,a5,av⟩:=hv;obtain rfl:l1=[]:=a5;refine wpIn_rangeFunc ?_;intro fn bj;obtain⟨l,G,w1,df,he,hl,a3,a0,ax,bc,aj,aa⟩:=Qn7 (P:=P) (fn:=fn) (tmps:=a.tmps) (ps:=ps.toArray) (assign:=assign) (body:=body) (ro:=ro) hrd r.sim.roLt r.sim.frLt;have s1:=r.sim.beside aa ax
 let D:Fix:=⟨fr,ro,σ,w,H.length,env,a.tmps,G++a.defers,l,(λst pe=>{state:=st,pending:=pe,fn:=fn,tmps:=a.tmps,params:=ps.toArray,assign:=assign,body:=body,defers:=df}),(λb=>fr b\/(w.heap.size<=b/\b<w1.heap.size))⟩
 have ah:¬fr l:=λq=>by have:=r.sim.frLt l q;omega
 have hD:D.Ok:=⟨λb q=>.inl q,.inr ⟨hl,a3⟩,ah,r.sim.len⟩;have L:Qdr D.fr1 (G++a.defers) w1:=by
  refine⟨List.nodup_append.2 ⟨bc,r.defers.1,λd O d' a7 e=>?_⟩,λd O=>?_⟩
  .subst e;obtain⟨B,e1,e2,_⟩:=aj d O;obtain⟨B',ar,a6,_⟩:=r.defers.2 d a7;rw[e1]at ar;have:B=B':=by simpa using ar
   subst this;have:=r.sim.frLt B a6;omega
  .rcases VJ.1 O with O|O
   .obtain⟨B,e1,e2,e3,e4⟩:=aj d O;exact⟨B,e1,.inr ⟨e2,e3⟩,e4⟩
   .obtain⟨B,e1,e2,e3⟩:=(r.defers.keep aa).2 d O;exact⟨B,e1,.inl e2,e3⟩
 obtain⟨sp,hσc⟩:=s1.part hH hπ;have am:LR ro (Yh σ π) w1 ae E:=(QbG hσc).1 (hargs▸av.mono (aa.ext0 σ))
 let frX:Nat->Prop:=λb=>D.fr1 b\/(∃(j:Nat) (x:Blk),(Yh σ π)[j]?=some (some b)/\Hc[j]?=some x/\x.live=true)\/ ∃(j:Nat) (x:Blk) (d:Nat),(Yh σ π)[j]?=some (some d)/\Hc[j]?=some x/\Hid w1 x d b
 have sX:Sim frX ro σ (Qd8 H π) w1:=by
  refine(QdS π s1).frames (λb q=>?_) (λb q r=>?_) (λi b x n m k r=>?_) (λi b x c n m k r=>?_)
  .rcases q with q|⟨j,x,n,m,k⟩|⟨j,x,d,n,m,k⟩
   .exact s1.frLt b q
   .exact(sp.own j b x n m k).1
   .exact(sp.hid j d x b n m k).lt
  .rcases r with r|⟨j,x,n,m,k⟩|⟨j,x,d,n,m,k⟩
   .exact s1.roFr b q r
   .exact(sp.own j b x n m k).2.1 q
   .exact(sp.hid j d x b n m k).ro q
  .rcases Qfk _ _ _ _ m with rfl|⟨m,hi⟩
   .cases k
   .rcases r with r|⟨j,y,p1,p2,Y⟩|⟨j,y,d,p1,p2,Y⟩
    .exact(s1.own i b x n m k).2.2 r
    .exact(sp.own j b y p1 p2 Y).2.2 (.inr (.inl ⟨i,x,n,m,k,hi (QbK k)⟩))
    .exact(sp.hid j d y b p1 p2 Y).fr (.inr (.inl ⟨i,x,n,m,k,hi (QbK k)⟩))
  .rcases Qfk _ _ _ _ m with rfl|⟨m,hi⟩
   .exact k.elim
   .rcases r with r|⟨j,y,p1,p2,Y⟩|⟨j,y,d,p1,p2,Y⟩
    .exact(s1.hid i b x c n m k).fr r
    .exact(sp.own j c y p1 p2 Y).2.2 (.inr (.inr ⟨i,x,b,n,m,k,hi k.holds⟩))
    .exact(sp.hid j d y c p1 p2 Y).fr (.inr (.inr ⟨i,x,b,n,m,k,hi k.holds⟩))
 have rX:Rel frX ro σ (Qd8 H π) env N {a with defers:=G++a.defers} w1:=
  ⟨sX,λs=>(r.env s).mono (aa.ext0 σ),r.size,L.1,λd O=>let⟨B,e1,e2,e3⟩:=L.2 d O;⟨B,e1,.inl e2,e3⟩⟩
 obtain⟨ac,σ',r',ab,bg⟩:=a9 frX ro σ N _ w1 rX;have hσt:σ.take H.length=σ:=by rw[<- r.sim.len,Vf]
 let g0:Nat->Prop:=λb=>D.fr1 b\/(ac b/\ ¬ro b)\/(∃(i:Nat) (x:Blk),σ'[i]?=some (some b)/\(Hp s0)[i]?=some x/\x.live=true)\/ ∃(i:Nat) (x:Blk) (d:Nat),σ'[i]?=some (some d)/\(Hp s0)[i]?=some x/\Hid w1 x d b
 have j0:RJ D ac σ' (Hp s0) .ready none ro g0 w1:=by
  refine⟨r'.sim.frMono λb q=>.inl q,λt=>(r.env t).mono ⟨ab,aa.keepRo,aa.shape,λ_ _ q=>q⟩,bg.trans hσt,aa.trans (YU ab),L,a0,λb q=>?_,λb q=>.inl q,λi b x n m k=>.inr (.inr (.inl ⟨i,x,n,m,k⟩)),λi b x c n m k=>.inr (.inr (.inr ⟨i,x,b,n,m,k⟩)),λb q=>?_⟩
  .by_cases z:ro b
   .exact .inl z
   .exact .inr (.inr (.inl ⟨q,z⟩))
  .rcases q with q|q|⟨i,x,n,m,k⟩|⟨i,x,d,n,m,k⟩
   .exact s1.frLt b q
   .exact r'.sim.roLt b q.1
   .exact(r'.sim.own i b x n m k).1
   .exact(r'.sim.hid i d x b n m k).lt
 have sI:Sim g0 ro (Yh σ π) Hc w1:=by
  refine sp.frames (λb q=>j0.lt b q) (λb q z=>?_) (λj b x n m k z=>?_) (λj b x c n m k z=>?_)
  .rcases z with z|z|⟨i,x,n,m,k⟩|⟨i,x,d,n,m,k⟩
   .exact s1.roFr b q z
   .exact z.2 q
   .exact(r'.sim.own i b x n m k).2.1 (ab b q)
   .exact(r'.sim.hid i d x b n m k).ro (ab b q)
  .have hX:frX b:=.inr (.inl ⟨j,x,n,m,k⟩);rcases z with z|z|⟨i,y,p1,p2,Y⟩|⟨i,y,d,p1,p2,Y⟩
   .exact(sp.own j b x n m k).2.2 (.inl z)
   .exact r'.sim.roFr b z.1 hX
   .exact(r'.sim.own i b y p1 p2 Y).2.2 hX
   .exact(r'.sim.hid i d y b p1 p2 Y).fr hX
  .have hX:frX c:=.inr (.inr ⟨j,x,b,n,m,k⟩);rcases z with z|z|⟨i,y,p1,p2,Y⟩|⟨i,y,d,p1,p2,Y⟩
   .exact(sp.hid j b x c n m k).fr (.inl z)
   .exact r'.sim.roFr c z.1 hX
   .exact(r'.sim.own i c y p1 p2 Y).2.2 hX
   .exact(r'.sim.hid i d y c p1 p2 Y).fr hX
 let X:Ctx T:={l:=l,J:=λrem q g W=>∃s F σ1,V s rem/\RJ D F σ1 (Hp s) .ready none q g W,Jx:=λ_ q g W=>∃H2 c F σ1,Jump Q env c H2/\RJ D F σ1 H2 .done (some c) q g W,enc:=enc,nx:=nx}
 have aw:∀p∈ps,p<N:=λp hp=>by simpa using Xv.1 bh p hp
 have hX:X.ok P:=by
  refine⟨⟨λrem q g W W' ac ⟨s,F,σ1,M,R⟩ he=>⟨s,F,σ1,M,R.step hD he⟩,λrem q g g' W ⟨s,F,σ1,M,R⟩ hg hl=>⟨s,F,σ1,M,R.up hg hl⟩⟩,
   ⟨λrem q g W W' ac ⟨H2,c,F,σ1,M,R⟩ he=>⟨H2,c,F,σ1,M,R.step hD he⟩,λrem q g g' W ⟨H2,c,F,σ1,M,R⟩ hg hl=>⟨H2,c,F,σ1,M,R.up hg hl⟩⟩,?_⟩
  rintro lr x rem q g ri W vs ba ⟨s,F,σ1,M,R⟩ hq hI bd;obtain⟨bb,tm,a8,a4,y1,y2⟩:=RJ.round (D:=D) (Q:=Q) (K:=λH2=>∃s',V s' rem/\H2=Hp s') hD rfl r.size aw (au x) hq hI bd R (ak s lr x rem M ba);refine⟨bb,tm,a8,a4,y1,RoundIn.mono y2 ?_⟩;rintro e W' ⟨g',k1,k2⟩;refine⟨g',ri,λ_ z=>z,k1,?_⟩;rcases k2 with⟨rfl,H2,u,σ2,⟨s',be,rfl⟩,k3⟩|⟨rfl,H2,c,u,σ2,k3,k4⟩
  .exact .inl ⟨rfl,s',u,σ2,be,k3⟩
  .exact .inr ⟨rfl,H2,c,u,σ2,k3,k4⟩
 have a1:∀(ev:Operand->Value),ev af=.func (.func f) #[] E.toArray->ev (.const (.func (.yield l) #[] #[]))=.func (.yield l) #[] #[]->(resolve ev (rangeCall af l) 0).run P w1=.ok {target:=.fn (.func f) E.toArray,args:= #[.func (.yield l) #[] #[]]} w1:=by
  intro ev M R;simp[resolve,go_sem,M,R]
 refine⟨l,G,w1,{target:=.fn (.func f) E.toArray,args:= #[.func (.yield l) #[] #[]]},w1,f, #[.func (.yield l) #[] #[]]++E.toArray,w1,he,a1 a.eval hv rfl,λ_ _=>trivial,by simp[invoke,go_sem,eg],λh=>by simp[WF,Fence.wide]at h,?_⟩;refine WF.calls.2 ?_;have al:=aq X rfl rfl hX g0 ro (Yh σ π) w1 E ro sI (λ_ z=>z) am ⟨s0,ac,σ',hV,j0⟩;have an:(#[.func (.yield l) #[] #[]]++E.toArray:Array Value)=((Value.func (.yield X.l) #[] #[]::E)).toArray:=by simp[X]
 rw[an];refine Calls.mono al ?_;rintro e W' ⟨⟨v,rfl⟩,g2,qz,bi,az⟩;have fin:∀(H2:Qd) (st:LoopState) (pe:Option Code) (u:Nat->Prop) (σ2:Sig),st≠ .busy->RJ D u σ2 H2 st pe qz g2 W'->∃w4,(Instr.endLoop l).run P W'=.ok pe w4/\Rel D.fr1 u σ2 H2 env N {a with defers:=G++a.defers} w4/\Qh fr ro w u w4:=by
  intro H2 st pe u σ2 hst j;refine⟨_,run_endLoop j.rc (by exact hst),?_⟩;obtain⟨s5,ai⟩:=j.sim.put (obj:=.loop {(D.rc st pe)with state:=.exhausted}) hD.l1 (Qbq j.rc);have hr:=j.rc;refine⟨⟨s5,λt=>((j.env t).mono ⟨λ_ q=>q,λ_ _=>rfl,λ_ _ q=>q,λi b q=>Qd0 j.sig q⟩).mono (ai.ext0 σ2),r.size,j.marks.1,λd O=>?_⟩,j.ev.trans (ai.frMono λb q e=>ah (by have e':b=l:=e;rw[<- e'];exact q))⟩;obtain⟨B,e1,e2,e3⟩:=j.marks.2 d O;refine⟨B,e1,e2,(ai.keepFr B (λe=>?_)).trans e3⟩;subst e;rw[hr]at e3;cases e3
 have a2:Grow fr w a.defers D.fr1 (G++a.defers):=by
  refine⟨λb q=>.inl q,λb q=>q.imp id (λq=>q.1),λd O=>?_⟩;rcases VJ.1 O with O|O
  .obtain⟨B,e1,e2,_⟩:=aj d O;exact .inr ⟨B,e1,e2⟩
  .exact .inl O
 have ay:∀{σ2:Sig},σ2.take H.length=σ->σ2.take h0=σ.take h0:=by
  intro σ2 h;have:=congrArg (List.take h0) h
  rwa [List.take_take,XG hh]at this
 rcases az with⟨s,u,σ2,M,R⟩|⟨rem,H2,c,u,σ2,M,R⟩
 .obtain⟨w4,f1,f2,f3⟩:=fin _ _ _ u σ2 (by intro e;cases e) R;exact⟨none,w4,f1,.normal,env,_,u,σ2,_,rfl,ao s M,f2,f3,ay R.sig,a2⟩
 .obtain⟨w4,f1,f2,f3⟩:=fin _ _ _ u σ2 (by intro e;cases e) R;refine⟨some c,w4,f1,?_⟩;have hc:TC P h0 N c env H2 Q:=by
   rcases M with⟨id,rfl,M⟩|⟨rfl,M⟩
   .exact TC.exit M
   .exact TC.ret M
  exact Code.wpIn_mono (λe a w q=>q.grow f3 (ay R.sig) a2) (hc rd D.fr1 u σ2 _ w4 f2 (hrd.to f3 λb q=>.inl q))
end Go.Sw
namespace Go.Sw
theorem Qjp{h0 i k t T:Nat}{env:Env}{H:Qd}(R:Nat.ble h0 H.length=true)(hH:H[i]?=some (.cells T [.nils])):Le h0 env H env (H.set i (.cells T [.osl H.length 0 0 k])++[.row t k []]):=by
 intro fr G σ N a w r;have E:h0<=H.length:=XX R;have M:i<H.length:=(XR.1 hH).1;have ext:Ext G σ w G (σ++[none]) w:=⟨λ_ q=>q,λ_ _=>rfl,λ_ _ q=>q,λ_ _ h=>YL h⟩;have s:=r.sim.phantom t k;have p:(H++[Blk.row t k []])[i]?=some (.cells T [.nils]):=by rw[XS M];exact hH
 have e0:H.set i (.cells T [.osl H.length 0 0 k])++[.row t k []]=(H++[Blk.row t k []]).set i (.cells T [.osl H.length 0 0 k]):=by
  rw[List.set_append_left _ _ M]
 have g:∀(j:Nat) (v:Blk),((H++[Blk.row t k []]).set i (.cells T [.osl H.length 0 0 k]))[j]?=some v->(j=i/\v=.cells T [.osl H.length 0 0 k])\/(j≠i/\(H++[Blk.row t k []])[j]?=some v):=by
  intro j v h;by_cases e:j=i
  .subst e;rw[Xa (by simp;omega)]at h;exact .inl ⟨rfl,by simpa using h.symm⟩
  .rw[XV (λq=>e q.symm)]at h;exact .inr ⟨e,h⟩
 have f:∀(j:Nat) (v:Blk),((H++[Blk.row t k []]).set i (.cells T [.osl H.length 0 0 k]))[j]?=some v->v.live=true->∃z,(H++[Blk.row t k []])[j]?=some z/\z.live=true:=by
  intro j v h hv;rcases g j v h with⟨rfl,rfl⟩|⟨_,h⟩
  .exact⟨_,p,rfl⟩
  .exact⟨v,h,hv⟩
 refine⟨G,σ++[none],⟨?_,λq=>(r.env q).mono ext,r.size,r.defers⟩,λ_ q=>q,Qw (by rw[r.sim.len];exact E)⟩;rw[e0];refine⟨by rw[X9];exact s.len,s.roOk,s.frLt,s.roFr,λj b v u B F=>?_,λj P b v z u B F q4 V Y=>?_,λj y v u B=>?_,
  s.hidTo (· = ·) Q0 (XZ _) (λ_ _ _ _ _ _ _ q=>q) (λ_ _ _ _ _ _ _ q=>q) λj d y m n Q=>.inl ?_⟩
 rotate_left 3
 .rcases g j y n with⟨rfl,rfl⟩|⟨_,h⟩
  .exact⟨j,_,rfl,m,p,λ_=>rfl,λ_ q=>q.elim⟩
  .exact⟨j,y,rfl,m,h,id,λ_ q=>q⟩
 .obtain⟨z,m,n⟩:=f j v B F;exact s.own j b z u m n
 .obtain⟨x,m,n⟩:=f j v F V;obtain⟨X,L,J⟩:=f P z q4 Y;exact s.inj j P b x X u B m L n J
 .rcases g j v B with⟨rfl,rfl⟩|⟨_,h⟩
  .have:=s.blk j y _ u p;cases y with
   |none=>exact this
   |some b=>
    obtain⟨l,m,⟨W,O,rfl,n,Q⟩,g4⟩:=this;refine⟨_,m,⟨W,O,rfl,.inl ⟨rfl,n⟩,?_⟩,g4⟩;obtain rfl:O=[]:=Q;rfl
  .exact s.blk j y v u h
theorem Qlo{h0 i:Nat}{env:Env}{H:Qd}{es:List (A×A)}(hH:H[i]?=some (.map es)):Le h0 env H env (H.set i (.fmap es)):=by
 intro e f σ N a w r;have d:∃s,σ[i]?=some s:=by
  have:i<σ.length:=by rw[r.sim.len];exact(XR.1 hH).1
  exact⟨_,XQ this⟩
 obtain⟨s,d⟩:=d;cases s with
 |none=>exact(r.sim.blk i _ _ d hH).elim
 |some b=>
  refine⟨_,σ,⟨r.sim.shutMap d hH,λq=>(r.env q).mono ⟨λ_ q=>.inl q,λ_ _=>rfl,λ_ _ q=>q,λ_ _ q=>q⟩,r.size,r.defers⟩,λ_ q=>.inl q,rfl⟩
def anyN{T:Type}(l:List T)(x:T)(rem:List T):Prop:=l.Perm (x::rem)
def Qor(ts te:Nat)(ld:Op):Code:=.block 1 (.region 3 #[{dst:=some 8,op:=.load ts (.tmp 2),type:=ts,pos:="iter.go:52",after:= #[],guard:=none},{dst:=some 9,op:=ld,type:=te,pos:="iter.go:52",after:= #[],guard:=none},
 {dst:=some 10,op:=.buildSlice ts 1 #[(0,.tmp 9)],type:=ts,pos:="iter.go:52",after:= #[{on:=1,ground:=.data}],guard:=none},
 {dst:=some 11,op:=.call {callee:=.builtin .append,args:= #[.tmp 8,.tmp 10],argTypes:= #[ts,ts]},type:=ts,pos:="iter.go:52",after:= #[{on:=0,ground:=.data},{on:=2,ground:=.data}],guard:=none},
 {dst:=none,op:=.store ts (.tmp 2) (.tmp 11),type:=0,pos:="iter.go:52",after:= #[{on:=3,ground:=.data},{on:=3,ground:=.chain},{on:=0,ground:=.phase},{on:=1,ground:=.phase},{on:=2,ground:=.phase},{on:=3,ground:=.phase}],guard:=none}] false)
def Qq4(ts tq te:Nat)(asg:Code)(ld:Op):Code:=(Code.region 0 #[{dst:=some 2,op:=.box ts (.tmp 0),type:=0,pos:="iter.go:50",after:= #[],guard:=none},{dst:=some 4,op:=.assign (.const (.slice none 0 0)),type:=ts,pos:="iter.go:50",after:= #[],guard:=none}] false).seq
 (((Code.region 1 #[{dst:=some 6,op:=.move (.tmp 1),type:=tq,pos:="iter.go:51",after:= #[],guard:=none}] false).seq (.block 0 (.rangeFunc (.tmp 6) #[7] asg (Qor ts te ld)))).seq
  ((Code.region 4 #[{dst:=some 12,op:=.load ts (.tmp 2),type:=ts,pos:="iter.go:54",after:= #[],guard:=none},{dst:=some 4,op:=.assign (.tmp 12),type:=ts,pos:="iter.go:54",after:= #[{on:=0,ground:=.data},{on:=0,ground:=.phase}],guard:=none}] false).seq .ret))
def Qq5(te:Nat):Code:=.region 2 #[{dst:=some 5,op:=.assign (.tmp 7),type:=te,pos:="iter.go:51",after:= #[],guard:=none}] false
section
variable {P:Program} {T:Type} {ts tq te k tm:Nat} {g:FuncId} {es:List (A×A)} {e:T->List A} {ea:T->A} {xs:List T}
abbrev apH(ts te k tm:Nat)(es:List (A×A))(e:T->List A)(done:List T):Qd:=[.dead,.fmap es,.cells ts [.osl 3 0 done.length k],.row te k (done.map e)]
abbrev apE(g:FuncId):Env:=[(6,.fn (.func g) [] [.ptr 0 0]),(4,.nils),(2,.ptr 2 0),(0,.nils),(1,.fn (.func g) [] [.ptr 0 0])]
theorem QpC{N:Nat}(L:N=13){done:List T}{x:T}{env:Env}{H:Qd}{K:Qd->Prop}{l:Op}(E:QV P ts te k)(J:∀w,(isAgg ts).run P w=.ok false w)(B:∀w,(sizeOf ts).run P w=.ok 1 w)(O:app done [x]=some (done++[x]))
  (u:(e x).length=k)(f:Nat.ble (k+1) 16777216=true)(b:Yf (ea x)=true)(g:Q8 (ea x)=e x)(d:(e x).all Ym=true)(V:Yo (e x)=true)(R:Nat.ble 3 H.length=true)
  (p:lk env 2=.ptr 2 0)(r:H[2]?=some (.cells ts [.osl 3 0 done.length k]))(j:H[3]?=some (.row te k (done.map e)))
  (h:∀env',(∀s,s≠8->lk env' s=lk env s)->∀pos,OpV P {dst:=some 9,op:=l,type:=te,pos:=pos,after:= #[],guard:=none} env' H (ea x))
  (F:∀env',∃H2,Le 3 env' (((((H++[Blk.row te k [e x]]).set 3 .dead)++[Blk.row te k ((done++[x]).map e)]).set 2 (.cells ts [.osl (H.length+1) 0 (done++[x]).length k]))) [] H2/\K H2){env0:Env}{Q:QB}:
  TC P 3 N (Qor ts te l) env H (Qkm 3 env0 Q K):=by
 subst L;have G:3<=H.length:=XX R;have M:3<H.length:=(XR.1 j).1;refine TC.block (TC.region ?_);refine QF rfl rfl rfl (OpV.load (v:=.osl 3 0 done.length k) (cs:=[]) rfl J p (Pts.cells r rfl)) ?_;refine QF rfl rfl rfl (x:=ea x) ?_ ?_
 .refine h _ (λs z=>?_) _;simp only[up,lk];have:Nat.beq s 8=false:=by
   rw[VT];intro q;exact z (XW q)
  rw[this];rfl
 refine Y5 (by omega) rfl rfl rfl (OpH.lit (xs:=[.tmp 9]) (es:=[e x]) E rfl rfl (by simpa using f) ?_ ?_ ⟨u,trivial⟩ (by simpa using d) (by simpa using V)) ?_
 .simp[opA,lk,up,b]
 .simp[Yd,opA,lk,up,g]
 refine Y5 (x:=.osl (H.length+1) 0 (done++[x]).length k) (H':=((H++[Blk.row te k [e x]]).set 3 .dead)++[Blk.row te k ((done++[x]).map e)]) (by simp;omega) rfl rfl rfl ?_ ?_
 .have:=QM (P:=P) (o:={dst:=some 11,op:=.call {callee:=.builtin .append,args:= #[.tmp 8,.tmp 10],argTypes:= #[ts,ts]},type:=ts,pos:="iter.go:52",after:= #[{on:=0,ground:=.data},{on:=2,ground:=.data}],guard:=none})
   (env:=up (up (up env 8 (.osl 3 0 done.length k)) 9 (ea x)) 10 (.osl H.length 0 1 k)) (H:=H++[Blk.row te k [e x]]) (x:=.tmp 8) (y:=.tmp 10) (e:=e) (m:=[x]) (i:=3) (n:=done.length) (ya:=.osl H.length 0 1 k) O E E.sl (Y6 (t:=te) (by simp) rfl) rfl rfl rfl rfl (by rw[XS M];exact j) rfl
  simpa using this
 refine QbB (by simp;omega) rfl rfl (OpU.store (i:=2) (off:=0) (T:=ts) (n:=1) (cs:=[.osl 3 0 done.length k]) (vs:=[.osl (H.length+1) 0 (done++[x]).length k]) (cs':=[.osl (H.length+1) 0 (done++[x]).length k]) (v:=.osl (H.length+1) 0 (done++[x]).length k) rfl ?_ ?_ B rfl rfl rfl rfl rfl rfl rfl) ?_
 .exact p
 .have a:2<H.length:=by omega
  rw[XS (by simp;omega),XV (by decide),XS a];exact r
 .refine WO.nil ?_;exact F _
theorem Qoq{xs done l rem:List T}{x:T}(hl:Nat.ble xs.length Qt=true)(a:(done++l).Perm xs)(b:l.Perm (x::rem)):app done [x]=some (done++[x])/\((done++[x])++rem).Perm xs:=by
 have d:=a.length_eq;have e:=b.length_eq;have f:=XX hl;simp at d e;refine⟨?_,?_⟩
 .unfold app;have:Nat.ble (done.length+[x].length) Qt=true:=XY (by simp;omega);rw[this];rfl
 .refine List.Perm.trans ?_ a;simp only[Vp,List.singleton_append];exact(List.Perm.append_left done b).symm
theorem Qhd{j:FuncId}{fn:Func}(s:P.funcs[j]?=some fn)(F:fn.body=some (Qq4 ts tq te (Qq5 te) (.move (.tmp 5))))(B:fn.ntmps=13)(y:fn.results= #[.tmp 4])(E:QV P ts te 1)(m:∀w,(isAgg ts).run P w=.ok false w)(q:∀w,(sizeOf ts).run P w=.ok 1 w)
  (G:∀args w,(callFunc g args).run P w=.ok (.enter g args) w)(b:QhU P g [.ptr 0 0] [.cells tm [.map 1],.fmap es] (λx=>[ea x]) anyN xs)(hl:Nat.ble xs.length Qt=true)
  (M:∀x,QbT (ea x)=true)(e:∀x,Yf (ea x)=true)(h:∀x,Q8 (ea x)=[ea x])(f:∀x,Ym (ea x)=true)(J:∀x,Ys (ea x)=true):
  C P j [.nils,.fn (.func g) [] [.ptr 0 0]] [.cells tm [.map 1],.fmap es] (λr H1=>∃p:List T,p.Perm xs/\r=.osl 2 0 p.length 1/\H1=[.dead,.fmap es,.row te 1 (p.map λx=>[ea x])]):=by
 refine Qb s F B rfl ?_;refine TC.seq (TC.region ?_);refine Y5 (XX rfl) rfl rfl rfl (OpH.box (v:=.nils) (cs:=[.nils]) rfl rfl rfl rfl rfl) ?_;refine QF rfl rfl rfl (OpV.assign (v:=.nils) rfl rfl) ?_;refine WO.nil ?_;refine TC.seq (TC.seq (TC.region ?_));refine QF rfl rfl rfl (OpV.move (v:=.fn (.func g) [] [.ptr 0 0]) rfl rfl) ?_;refine WO.nil ?_;refine TC.block ?_;refine TC.rangeFunc (env:=apE g) (ps:=[7]) (S:=List T) [0,1] (apH ts te 1 tm es (λx=>[ea x])) (λdone l=>(done++l).Perm xs) [] (XX rfl) rfl rfl rfl (by decide) rfl G b (λx=>rfl) ?_ (List.Perm.refl _) ?_ ?_
 .exact Qjp (h0:=3) (i:=2) (t:=te) (k:=1) (H:=[.dead,.fmap es,.cells ts [.nils]]) rfl rfl
 .intro done l x rem d z;obtain⟨L,u⟩:=Qoq hl d z;refine TC.region (QF rfl rfl rfl (OpV.assign (v:=ea x) rfl rfl) (WO.nil ⟨rfl,?_⟩));refine QpC (ea:=ea) rfl E m q L rfl rfl (e x) (h x) (by simp[f x]) (by simp[Yo,J x]) rfl rfl rfl rfl ?_ ?_
  .intro a n pos;exact OpV.move rfl (by show lk a 5=ea x;rw[n 5 (by decide)];rfl)
  .intro a;exact⟨_,Lr (H':=apH ts te 1 tm es (λx=>[ea x]) (done++[x])) [0,1,2,5],_,u,rfl⟩
 .intro done d;rw[Vm]at d;refine TC.seq (TC.region ?_);refine QF rfl rfl rfl (OpV.load (v:=.osl 3 0 done.length 1) (cs:=[]) rfl m rfl (Pts.cells rfl rfl)) ?_;refine QF rfl rfl rfl (OpV.assign (v:=.osl 3 0 done.length 1) rfl rfl) ?_;refine WO.nil ?_;refine TC.ret ?_;exact⟨[(4,.osl 2 0 done.length 1)],[.dead,.fmap es,.row te 1 (done.map λx=>[ea x])],_,Lr [0,1,3],Qcy.one y rfl,done,d,rfl,rfl⟩
end
theorem TCy.le{T:Type}{X:Ctx T}{P:Program}{h0 N:Nat}{c:Code}{env env':Env}{H H':Qd}{l:YSt T}{Q:YG T}(j:Le h0 env H env' H')(h:TCy X P h0 N c env' H' l Q):TCy X P h0 N c env H l Q:=by
 intro u n m p σ a w g r hj hrd;obtain⟨d,σ',y,s,t⟩:=j m p σ N a w r;obtain⟨⟨x,i,f⟩,k⟩:=hj;exact Code.wpIn_mono (λe a w q=>q.grow s (XZ _) t (Grow.refl _ _ _)) (h u n m d σ' a w g y ⟨⟨x,λb z=>s b (i b z),f⟩,k⟩ hrd)
mutual
theorem Qie:∀{a:A},QbT a=true->Ys a=true
 |.any,_=>rfl
 |.bool _,_=>rfl
 |.int _ _,_=>rfl
 |.str _,_=>rfl
 |.nilp,_=>rfl
 |.ptr _ _,h=>by simp[QbT]at h
 |.rp _,_=>rfl
 |.nils,_=>rfl
 |.rsl _ _,_=>rfl
 |.osl _ _ _ _,h=>by simp[QbT]at h
 |.agg cs,h=>by simp only[QbT]at h;simp only[Ys];exact Qgp h
 |.fn _ a c,h=>by simp[QbT]at h
 |.nilf,_=>rfl
 |.iface _ v,h=>by simp[QbT]at h
 |.nilif,_=>rfl
 |.map _,h=>by simp[QbT]at h
 |.nilm,_=>rfl
 |.tup vs,h=>by simp[QbT]at h
theorem Qgp:∀{l:List A},QeW l=true->Yo l=true
 |[],_=>rfl
 |a::r,h=>by
  simp only[QeW,X3]at h;simp only[Yo,X3];exact⟨Qie h.1,Qgp h.2⟩
end
theorem Qh7{P:Program}{o:Oper}{env:Env}{H:Qd}{y z:Operand}{l:Nat}{a:A}{h:Array TypeId}(e:o.op=.call {callee:=.value y,args:= #[z],argTypes:=h})(m:opA env y=.fn (.yield l) [] [])(g:opA env z=a)(f:Ys a=true){N:Nat}:
  ∀fr ro σ act w,Rel fr ro σ H env N act w->∃vs:List Value,LR ro [] w [a] vs/\(execOp act.eval o).run P w=(Instr.yield l vs.toArray).run P w:=by
 intro fr ro σ act w r;have b:=Qg r y;rw[m]at b;obtain⟨k,i,b,j,n⟩:=b;obtain rfl:k=[]:=j;obtain rfl:i=[]:=n;have d:=Qg r z;rw[g]at d;refine⟨[act.eval z],⟨_,_,rfl,VR.data f d,rfl⟩,?_⟩;generalize act.eval=ev at*;simp[execOp,e,resolve,invoke,go_sem,b]
theorem Qlv{P:Program}{o:Oper}{env:Env}{H:Qd}{y b a:Operand}{l:Nat}{j f:A}{p:Array TypeId}(n:o.op=.call {callee:=.value y,args:= #[b,a],argTypes:=p})(u:opA env y=.fn (.yield l) [] [])(g:opA env b=j)(e:opA env a=f)(i:Ys j=true)(h:Ys f=true){N:Nat}:
  ∀fr ro σ act w,Rel fr ro σ H env N act w->∃vs:List Value,LR ro [] w [j,f] vs/\(execOp act.eval o).run P w=(Instr.yield l vs.toArray).run P w:=by
 intro fr ro σ act w r;have d:=Qg r y;rw[u]at d;obtain⟨t,q,d,s,x⟩:=d;obtain rfl:t=[]:=s;obtain rfl:q=[]:=x;have m:=Qg r b;rw[g]at m;have k:=Qg r a;rw[e]at k;refine⟨[act.eval b,act.eval a],⟨_,_,rfl,VR.data i m,_,_,rfl,VR.data h k,rfl⟩,?_⟩;generalize act.eval=ev at*;simp[execOp,n,resolve,invoke,go_sem,d]
def Qny(tm tb ty tk:Nat)(asg:Array Oper)(ld:Op):Code:=
 (Code.region 0 #[{dst:=some 4,op:=.load tm (.tmp 1),type:=tm,pos:="iter.go:27",after:= #[],guard:=none},{dst:=some 5,op:=.range tm (.tmp 4),type:=0,pos:="iter.go:27",after:= #[{on:=0,ground:=.data}],guard:=none}] false).seq
 (.block 0 (Code.loop ((Code.region 1 #[{dst:=some 6,op:=.next (.tmp 5) false,type:=0,pos:="iter.go:27",after:= #[],guard:=none},{dst:=some 7,op:=.extract (.tmp 6) 0,type:=tb,pos:="iter.go:27",after:= #[{on:=0,ground:=.data}],guard:=none}] false).seq
  ((Code.cond (.tmp 7) .skip (.exit 0)).seq (.block 1 ((Code.region 2 asg false).seq
   ((Code.region 3 #[{dst:=some 10,op:=.move (.tmp 0),type:=ty,pos:="iter.go:28",after:= #[],guard:=none},{dst:=some 11,op:=ld,type:=tk,pos:="iter.go:28",after:= #[],guard:=none},
    {dst:=some 12,op:=.call {callee:=.value (.tmp 10),args:= #[.tmp 11],argTypes:= #[tk]},type:=tb,pos:="iter.go:28",after:= #[{on:=0,ground:=.data},{on:=1,ground:=.data}],guard:=none},
    {dst:=some 13,op:=.unOp .not tb (.tmp 12),type:=tb,pos:="iter.go:28",after:= #[{on:=2,ground:=.data}],guard:=none}] false).seq (.cond (.tmp 13) .ret .skip))))))))
def QqK(tk:Nat):Array Oper:= #[{dst:=some 8,op:=.entry (.tmp 5),type:=0,pos:="iter.go:27",after:= #[],guard:=none},{dst:=some 9,op:=.extract (.tmp 8) 0,type:=tk,pos:="iter.go:27",after:= #[{on:=0,ground:=.data}],guard:=none},
 {dst:=some 3,op:=.assign (.tmp 9),type:=tk,pos:="iter.go:27",after:= #[{on:=1,ground:=.data},{on:=0,ground:=.phase},{on:=1,ground:=.phase}],guard:=none}]
section
variable {P:Program} {K V:Type} {tm tb ty tk kt et:Nat} {ek:K->A} {ev:V->A} {m:List (K×V)} {T:Type}
abbrev kyE(l:Nat):Env:=[(0,.fn (.yield l) [] []),(1,.ptr 0 0),(5,.ptr 2 0)]
abbrev kyH(tm:Nat)(ek:K->A)(ev:V->A)(m l:List (K×V)):Qd:=[.cells tm [.map 1],.fmap (Qi ek ev m),.iter none (Qi ek ev l)]
theorem QlI{g:FuncId}{fn:Func}{d:Array Oper}{u:Op}(L:P.funcs[g]?=some fn)(T:fn.body=some (Qny tm tb ty tk d u))(R:fn.ntmps=14)(M:fn.results= #[])(N:∀w,(isAgg tm).run P w=.ok false w)(F:P.underlying tm=some (.map kt et))(E:∀x,QbT (ek x)=true)
  (round:∀(X:Ctx K) (e:K×V) (l:List (K×V)) (env:Env) (H:Qd) (h:YSt K) (Q:YG K),lk env 0=.fn (.yield X.l) [] []->lk env 1=.ptr 0 0->lk env 5=.ptr 2 0->H=[.cells tm [.map 1],.fmap (Qi ek ev m),.iter (some (ek e.1,ev e.2)) (Qi ek ev l)]->
   (∀env' H',lk env' 0=.fn (.yield X.l) [] []->lk env' 1=.ptr 0 0->lk env' 5=.ptr 2 0->(∀env2 b,lk env2 0=.fn (.yield X.l) [] []->lk env2 1=.ptr 0 0->lk env2 5=.ptr 2 0->Le 2 (up (up env2 12 (.bool b)) 13 (.bool (!b))) H' (kyE X.l) (kyH tm ek ev m l))->
    (∀pos env2,(∀s,s≠10->lk env2 s=lk env' s)->OpV P {dst:=some 11,op:=u,type:=tk,pos:=pos,after:= #[],guard:=none} env2 H' (ek e.1))->Nat.ble 2 H'.length=true->Q .normal env' H' h)->
   TCy X P 2 14 (.region 2 d false) env H h Q):
  QhU P g [.ptr 0 0] [.cells tm [.map 1],.fmap (Qi ek ev m)] (λx=>[ek x]) anyN (m.map Prod.fst):=by
 refine Qdl L T R rfl M ?_;intro X hE hNx;refine TCy.seq (TCy.lift (TC.region ?_));refine QF rfl rfl rfl (OpV.load (v:=.map 1) (cs:=[]) rfl N rfl (Pts.cells rfl rfl)) ?_;refine Y5 (XX rfl) rfl rfl rfl (Qf4 F) ?_;refine WO.nil ?_;refine TCy.block ?_;refine Qg5 (I:=λn env H h=>∃l:List (K×V),l.length=n/\h=.on (l.map Prod.fst)/\Le 2 env H (kyE X.l) (kyH tm ek ev m l)) ?_ ⟨m,rfl,rfl,Lr [0,1,2]⟩;rintro n env H h ⟨l,O,rfl,j⟩;refine TCy.le j ?_;refine TCy.seq (TCy.lift (TC.region ?_));refine Qkk (XX rfl) rfl rfl rfl (OpE.next rfl rfl rfl) ?_;rintro v H' (⟨p,rfl,rfl⟩|⟨W,J,p,rfl,rfl⟩)
 .have B:l=[]:=List.map_eq_nil_iff.1 p;subst B;refine QF rfl rfl rfl (OpV.extract (v:=.bool false) rfl rfl rfl) ?_;refine WO.nil ?_;refine TCy.seq (TCy.cond (t:=false) rfl (λe=>by cases e) (λ_=>?_));exact TCy.exit ⟨.inl rfl,.inl rfl⟩
 .obtain⟨G,r,k⟩:=Qgy p rfl;cases G with
  |nil=>cases k
  |cons e i=>
   simp only[Vq,List.cons.injEq]at k;obtain⟨rfl,rfl⟩:=k;have f:i.length<n:=by rw[<- O, <- r.length_eq];simp
   refine QF rfl rfl rfl (OpV.extract (v:=.bool true) rfl rfl rfl) ?_;refine WO.nil ?_;refine TCy.seq (TCy.cond (t:=true) rfl (λ_=>?_) (λe=>by cases e));refine TCy.skip ?_;refine TCy.block ?_;refine TCy.seq (round X e i _ _ _ _ rfl rfl rfl rfl ?_);intro env' H' g0 g1 g5 hfin hld hL;refine TCy.seq (TCy.region ?_);refine WOy.step (QF rfl rfl rfl (OpV.move (v:=.fn (.yield X.l) [] []) rfl g0) (WO.nil ⟨rfl,?_⟩));refine WOy.step (QF rfl rfl rfl (x:=ek e.1) (hld _ _ λs q=>?_) (WO.nil ⟨rfl,?_⟩))
   .simp only[up,lk];have:Nat.beq s 10=false:=by rw[VT];intro z;exact q (XW z)
    rw[this];rfl
   refine WOy.yield (x:=e.1) (rem:=i.map Prod.fst) ?_ rfl rfl rfl ?_ ?_
   .rw[hNx];exact r.symm.map Prod.fst
   .rw[hE];refine Qh7 (y:=.tmp 10) (z:=.tmp 11) (l:=X.l) (a:=ek e.1) rfl ?_ ?_ (Qie (E _))
    .rfl
    .rfl
   .intro b;refine WOy.step (QF rfl rfl rfl (OpV.not (b:=b) rfl rfl) (WO.nil ⟨rfl,?_⟩));refine WOy.nil ?_;refine TCy.cond (t:= !b) rfl (λq=>?_) (λq=>?_)
    .obtain rfl:b=false:=by simpa using q
     exact TCy.ret ⟨.inr rfl,.inr ⟨_,rfl⟩⟩
    .obtain rfl:b=true:=by simpa using q
     refine TCy.skip ?_;exact⟨_,f,i,rfl,rfl,hfin _ true g0 g1 g5⟩
theorem QfV{g:FuncId}{fn:Func}(s:P.funcs[g]?=some fn)(r:fn.body=some (Qny tm tb ty tk (QqK tk) (.move (.tmp 3))))(k:fn.ntmps=14)(d:fn.results= #[])(j:∀w,(isAgg tm).run P w=.ok false w)(n:P.underlying tm=some (.map kt et))(h:∀x,QbT (ek x)=true):
  QhU P g [.ptr 0 0] [.cells tm [.map 1],.fmap (Qi ek ev m)] (λx=>[ek x]) anyN (m.map Prod.fst):=by
 refine QlI (et:=et) (kt:=kt) s r k d j n h ?_;intro X e l env H st Q g0 g1 g5 hH hk;subst hH;refine TCy.lift (TC.region ?_);refine QF rfl rfl rfl (OpV.entry (e:=(ek e.1,ev e.2)) rfl g5 rfl) ?_;refine QF rfl rfl rfl (OpV.extract (v:=ek e.1) rfl rfl rfl) ?_;refine QF rfl rfl rfl (OpV.assign (v:=ek e.1) rfl rfl) ?_;refine WO.nil ?_;refine hk _ _ g0 g1 g5 ?_ ?_ rfl
 .intro a b p q t;exact Le.trans (Qha (i:=2) (es:=Qi ek ev l) rfl rfl) (Lr [0,1,2] (hE:=⟨p,q,t,trivial⟩))
 .intro pos a f;exact OpV.move rfl (by show lk a 3=_;rw[f 3 (by decide)];rfl)
end
def Qq1(ts tq fA:Nat):Code:=(Code.region 0 #[{dst:=some 2,op:=.assign (.const (.slice none 0 0)),type:=ts,pos:="iter.go:59",after:= #[],guard:=none}] false).seq
 ((Code.region 1 #[{dst:=some 3,op:=.move (.tmp 0),type:=tq,pos:="iter.go:60",after:= #[],guard:=none},
  {dst:=some 4,op:=.call {callee:=.value (.func fA),args:= #[.const (.slice none 0 0),.tmp 3],argTypes:= #[ts,tq]},type:=ts,pos:="iter.go:60",after:= #[{on:=0,ground:=.data}],guard:=none},
  {dst:=some 2,op:=.assign (.tmp 4),type:=ts,pos:="iter.go:60",after:= #[{on:=1,ground:=.data},{on:=1,ground:=.chain},{on:=0,ground:=.phase},{on:=1,ground:=.phase}],guard:=none}] false).seq .ret)
theorem Qhc{P:Program}{T:Type}{b j f k l:Nat}{g:FuncId}{es:List (A×A)}{e:T->List A}{xs:List T}{fC a:FuncId}{fn:Func}(u:P.funcs[fC]?=some fn)(s:fn.body=some (Qq1 b j a))(n:fn.ntmps=5)(m:fn.results= #[.tmp 2])
  (i:∀(env:Env) (H:Qd),lk env 3=.fn (.func g) [] [.ptr 0 0]->OpC P {dst:=some 4,op:=.call {callee:=.value (.func a),args:= #[.const (.slice none 0 0),.tmp 3],argTypes:= #[b,j]},type:=b,pos:="iter.go:60",after:= #[{on:=0,ground:=.data}],guard:=none} env H a [.nils,.fn (.func g) [] [.ptr 0 0]])
  (q:C P a [.nils,.fn (.func g) [] [.ptr 0 0]] [.cells l [.map 1],.fmap es] (λr H1=>∃p:List T,p.Perm xs/\r=.osl 2 0 p.length k/\H1=[.dead,.fmap es,.row f k (p.map e)])):
  C P fC [.fn (.func g) [] [.ptr 0 0]] [.cells l [.map 1],.fmap es] (λr H1=>∃p:List T,p.Perm xs/\r=.osl 2 0 p.length k/\H1=[.dead,.fmap es,.row f k (p.map e)]):=by
 refine Qb u s n rfl ?_;refine TC.seq (TC.region ?_);refine QF rfl rfl rfl (OpV.assign (v:=.nils) rfl rfl) ?_;refine WO.nil ?_;refine TC.seq (TC.region ?_);refine QF rfl rfl rfl (OpV.move (v:=.fn (.func g) [] [.ptr 0 0]) rfl rfl) ?_;refine WO.call (d:=some 4) [0,1] (XX rfl) rfl rfl (λx h=>by cases h;decide) (i _ _ rfl) rfl rfl (by decide) q ?_;rintro r H1 ⟨p,t,rfl,rfl⟩;refine QF rfl rfl rfl (OpV.assign (v:=.osl 2 0 p.length k) rfl rfl) ?_;refine WO.nil ?_;refine TC.ret ?_;exact⟨[(2,.osl 2 0 p.length k)],[.dead,.fmap es,.row f k (p.map e)],_,Lr [0,1,2],Qcy.one m rfl,p,t,rfl,rfl⟩
def Ql8{K R:Type}[DecidableEq R](l:List K)(k:List K->Option R):Option R:=bif Nat.ble l.length Qt then anyP k l else none
theorem Qlj{K R:Type}[DecidableEq R]{l:List K}{k:List K->Option R}{r:R}(h:Ql8 l k=some r):Nat.ble l.length Qt=true/\ ∀p,p.Perm l->k p=some r:=by
 unfold Ql8 at h;cases q:Nat.ble l.length Qt with
 |true=>rw[q]at h;exact⟨rfl,Qli h⟩
 |false=>rw[q]at h;cases h
end Go.Sw
namespace Go.Sw
section
variable {P:Program} {o:Oper} {env:Env} {H:Qd} {fr ro:Nat->Prop} {σ:Sig} {w:World}
theorem Qmw{h0 i t b1 b2:Nat}{es:List (List A)}{l:List Ent}(hH:H[i]?=some (.rowr t 3 es))(he:l.map (eC b1 b2)=es):Le h0 env H env (H.set i (.ents t b1 b2 l)):=by
 subst he;intro e d σ N a w r;refine⟨d,σ,⟨r.sim.weaken (x':=.ents t b1 b2 l) hH rfl ?_,r.env,r.size,r.defers⟩,λ_ q=>q,rfl⟩;intro y h;cases y with
 |none=>exact h.elim
 |some b=>exact h
theorem Qdf{b1 b2:Nat}:∀(l:List Ent),allK 3 (l.map (eC b1 b2))
 |[]=>trivial
 |e::l=>⟨rfl,Qdf l⟩
theorem Sim.phantomE(s:Sim fr ro σ H w)(t b1 b2:Nat):Sim fr ro (σ++[none]) (H++[.ents t b1 b2 []]) w:=by
 have ext:Ext ro σ w ro (σ++[none]) w:=⟨λ_ q=>q,λ_ _=>rfl,λ_ _ q=>q,λ_ _ h=>YL h⟩;have u:=s.len;have a:∀(j:Nat) (v:Blk),(H++[Blk.ents t b1 b2 []])[j]?=some v->(j<H.length/\H[j]?=some v)\/(j=H.length/\v=.ents t b1 b2 []):=by
  intro j v h;rcases Nat.lt_trichotomy j H.length with q|q|q
  .rw[XS q]at h;exact .inl ⟨q,h⟩
  .subst q;simp at h;exact .inr ⟨rfl,h.symm⟩
  .rw[XU (by simp;omega)]at h;cases h
 have hσ:∀(j:Nat) (z:Option Nat),(σ++[none])[j]?=some z->(j<σ.length/\σ[j]?=some z)\/(j=σ.length/\z=none):=by
  intro j z h;rcases Nat.lt_trichotomy j σ.length with q|q|q
  .rw[XS q]at h;exact .inl ⟨q,h⟩
  .subst q;simp at h;exact .inr ⟨rfl,h.symm⟩
  .rw[XU (by simp;omega)]at h;cases h
 refine⟨by simp[u],s.roOk,s.frLt,s.roFr,λi b x k g n=>?_,λi j b x y k g n E F J=>?_,λi z x k g=>?_,
  s.hidTo (· = ·) Q0 (XZ _) (λ_ _ _ _ _ _ _ q=>q) (λ_ _ _ _ _ _ _ q=>q) λj d y G B M=>.inl ?_⟩
 rotate_left 3
 .rcases hσ j _ G with⟨l,f⟩|⟨_,r⟩
  .rcases a j y B with⟨_,e⟩|⟨e,_⟩
   .exact⟨j,y,rfl,f,e,id,λ_ q=>q⟩
   .omega
  .cases r
 .rcases hσ i _ k with⟨l,f⟩|⟨_,r⟩
  .rcases a i x g with⟨_,e⟩|⟨e,_⟩
   .exact s.own i b x f e n
   .omega
  .cases r
 .rcases hσ i _ k with⟨l,f⟩|⟨_,r⟩
  .rcases hσ j _ g with⟨L,m⟩|⟨_,r⟩
   .rcases a i x n with⟨_,e⟩|⟨e,_⟩
    .rcases a j y E with⟨_,p⟩|⟨p,_⟩
     .exact s.inj i j b x y f m e p F J
     .omega
    .omega
   .cases r
  .cases r
 .rcases hσ i _ k with⟨l,f⟩|⟨l,rfl⟩
  .rcases a i x g with⟨_,e⟩|⟨e,_⟩
   .exact(s.blk i z x f e).keep ext (λ_ _ _=>rfl) (λ_ _ _ _=>rfl)
   .omega
  .rcases a i x g with⟨e,_⟩|⟨_,rfl⟩
   .omega
   .rfl
theorem Le.phantomE{h0 i m t T b1 b2:Nat}{cs:List A}(F:Nat.ble h0 H.length=true)(hH:H[i]?=some (.cells T cs))(e:cs[m]?=some .nils):
  Le h0 env H env (H.set i (.cells T (cs.set m (.osl H.length 0 0 3)))++[.ents t b1 b2 []]):=by
 intro G j σ N a w r;have g:h0<=H.length:=XX F;have u:i<H.length:=(XR.1 hH).1;have ext:Ext j σ w j (σ++[none]) w:=⟨λ_ q=>q,λ_ _=>rfl,λ_ _ q=>q,λ_ _ h=>YL h⟩;have s:=r.sim.phantomE t b1 b2;have d:(H++[Blk.ents t b1 b2 []])[i]?=some (.cells T cs):=by rw[XS u];exact hH
 have n:H.set i (.cells T (cs.set m (.osl H.length 0 0 3)))++[.ents t b1 b2 []]=(H++[Blk.ents t b1 b2 []]).set i (.cells T (cs.set m (.osl H.length 0 0 3))):=by
  rw[List.set_append_left _ _ u]
 rw[n];refine⟨j,σ++[none],⟨s.weaken d rfl ?_,λq=>(r.env q).mono ext,r.size,r.defers⟩,λ_ q=>q,Qw (by rw[r.sim.len];exact g)⟩;intro y h;cases y with
 |none=>exact h
 |some b=>
  obtain⟨l,x,E,k⟩:=h;refine⟨l,x,?_,k⟩;clear x k d n hH
  induction cs generalizing m l with
  |nil=>cases e
  |cons c cs B=>
   obtain⟨v,f,rfl,z,p⟩:=E;cases m with
   |zero=>
    simp at e;subst e;exact⟨v,f,rfl,.inl ⟨rfl,z⟩,p⟩
   |succ m=>exact⟨v,f,rfl,z,B (by simpa using e) f p⟩
theorem QQ{h0 i m T:Nat}{cs:List A}(hH:H[i]?=some (.cells T cs)):Le h0 env H env (H.set i (.cells T (cs.set m .any))):=by
 intro s n σ N a w r;refine⟨n,σ,⟨r.sim.weaken hH rfl ?_,r.env,r.size,r.defers⟩,λ_ q=>q,rfl⟩;intro y h;cases y with
 |none=>exact h
 |some b=>
  obtain⟨l,j,f,e⟩:=h;refine⟨l,j,?_,e⟩;clear j e hH
  induction cs generalizing m l with
  |nil=>exact f
  |cons c cs k=>
   obtain⟨v,d,rfl,p,g⟩:=f;cases m with
   |zero=>exact⟨v,d,rfl,trivial,g⟩
   |succ m=>exact⟨v,d,rfl,p,k d g⟩
theorem srcE{j m t b1 b2:Nat}{l:List Ent}{v:Value}(s:Sim fr ro σ H w)(hH:H[j]?=some (.ents t b1 b2 l))(e:l.length=m)(h:VR ro σ w (.osl j 0 m 3) v):
  (∃a c,v=.slice a m c)/\ ∃vs:List Value,(∀w':World,w'.heap=w.heap->(Builtin.firstCells 3 m v).run P w'=.ok vs.toArray w')/\LR ro σ w (l.map (eC b1 b2)).flatten vs/\ ∀v∈vs,Qp v:=by
 rcases h with⟨rfl,rfl⟩|⟨b,p,d,G,J,x,rfl,z,⟨F,i⟩,L,E⟩
 .have:l=[]:=VP.1 e;subst this;exact⟨⟨none,0,rfl⟩,[],λ_ _=>Y2,rfl,by simp⟩
 .refine⟨⟨_,d,rfl⟩,?_⟩;obtain⟨M,u,q⟩:=s.blk j _ _ x hH;have f:=YV (pre:=[]) (by simpa using u) q;by_cases y:0<d
  .obtain rfl:=z y;obtain⟨g,B,r⟩:=f.flat;have:=Qcb (P:=P) (k:=3) (n:=m) (c:=d) g (by rw[r];simp[e]);simpa using this
  .obtain rfl:m=0:=by omega
   have:l=[]:=VP.1 e;subst this;exact⟨[],λ_ _=>Y2,rfl,by simp⟩
theorem QoE{c:Call}{T T' t e' i j n m b1 b2:Nat}{x y:Operand}{l k:List Ent}(E:QV P T t 3)(hd:∀w,(underlying T').run P w=.ok (.slice e') w)(J:Nat.ble (l.length+k.length) Qt=true)(ah:Nat.blt 0 n=true)
  (ho:o.op=.call c:=by exact rfl)(hc:c={callee:=.builtin .append,args:= #[x,y],argTypes:= #[T,T']}:=by exact rfl)(hx:opA env x=.osl i 0 n 3:=by exact rfl)(hH:H[i]?=some (.ents t b1 b2 l):=by exact rfl)(hn:l.length=n:=by exact rfl)
  (hy:opA env y=.osl j 0 m 3:=by exact rfl)(hHj:H[j]?=some (.ents t b1 b2 k):=by exact rfl)(hm:k.length=m:=by exact rfl):
  OpH P o env H (.osl H.length 0 (l++k).length 3) (H.set i .dead++[.ents t b1 b2 (l++k)]):=by
 intro fr s σ N a w r;have M:=XX J;have ai:0<n:=by simpa using ah
 have z:=Qg r x;rw[hx]at z;have h2:=Qg r y;rw[hy]at h2;obtain⟨⟨ay,cy,e1⟩,vs,R,q4,O⟩:=srcE (P:=P) r.sim hHj hm h2;rw[e1]at R;obtain⟨_,d,o1,o2,o3⟩:=srcE (P:=P) r.sim hH hn z;have af:i<H.length:=(XR.1 hH).1;have aj:(H.set i .dead).length=H.length:=X9;rw[X8,hn,hm];rcases z with⟨q,_⟩|⟨b,p,cap,t',mm,h3,z,h4,⟨h5,ac⟩,Y,h7⟩
 .omega
 have F:=r.sim.blk i _ _ h3 hH;obtain⟨lb,Q,g2⟩:=F;have B:vs.length=m*3:=by rw[q4.length,Yz (Qdf k)];simp[hm]
 have W:d.length=n*3:=by rw[o2.length,Yz (Qdf l)];simp[hn]
 rw[z]at o1;by_cases g:n+m<=cap
 .obtain rfl:p=0*3:=h4 (by omega);have h:=QcW (t:=o.type) E hd (ad:=some ⟨b,0*3,none⟩) (n:=n) (m:=m) (cap:=cap) (c:=cy) (ax:=ay) g (R w rfl);have u:(n+m)*3<=lb.length:=by
   have:w.shape? b=some (t,lb.length):=by unfold World.shape?;rw[Q];simp
   rw[this]at Y;cases Y;exact X2 (XH 3 g) (by simpa using h7)
  rw[XF]at u;have aa:=Yb (P:=P) (vs:=vs) (n*3) 0 Q (by rw[B];simpa using u) O;have f:=r.sim.set (x':=.ents t b1 b2 (l++k)) (obj:=.cells (splice lb (n*3) vs).toArray t (0,0)) h3 hH rfl
   (λy hy=>Jt Q (Ya (by rw[B];exact u)) y hy)
   (λex ab=>⟨_,ab,by
    have:=(g2.app (n:=n) (by simp[hn]) (Qdf k) q4 O).mono ex;rw[VO (by simp[hn])]at this;rw[Xf];exact this⟩)
  have sm:=f.1.moved (i:=i) (Xa af) h3;rw[List.set_set]at sm;refine⟨.slice (some ⟨b,0*3,none⟩) (n+m) cap,_,s,[some b],?_,.inr ⟨b,0*3,cap,t',mm,?_,rfl,h4,⟨g,ac⟩,?_,h7⟩,sm,f.2⟩
  .refine Y3 ho hc _ ?_;rw[z,e1,h];simp only[Y4,Nat.zero_mul,XA,Vt,aa,Result.andThen,Vu];simp
  .rw[<- r.sim.len];simp
  .exact f.2.shape _ _ Y
 .obtain⟨e,nc,L,X,h⟩:=Qig (t:=o.type) E hd rfl (by omega) (by omega) R o1
  let w0:World:={w with drawn:=w.drawn+1}
  have G:Sim fr s σ (H.set i .dead) w0:=(r.sim.kill i).heap rfl;have e0:Qh fr s w s w0:=Qh.heap rfl rfl rfl rfl (Nat.le_succ _);have ae:LR s σ w0 ((l++k).map (eC b1 b2)).flatten (d++vs):=by
   rw[Xf,Xu];exact(o2.append q4).mono (Ext.heap (w:=w) (w':=w0) rfl)
  have V:∀v∈d++vs,Qp v:=λv hv=>by rcases VJ.1 hv with q|q;exact o3 v q;exact O v q
  have s1:=G.alloc (x:=.ents t b1 b2 (l++k)) (obj:=.cells ((d++vs)++e).toArray t) ⟨(d++vs)++e,Q6 _ _,(Y7 (Qdf _) ae V).mono ((Qh.alloc (fr:=fr) _ G.roLt G.frLt).ext σ _)⟩;have ag:Qh fr s w0 s (w0.alloc (.cells ((d++vs)++e).toArray t)):=Qh.alloc _ G.roLt G.frLt;refine⟨_,_,s,[some w.heap.size],Y3 ho hc a.eval (by rw[z,e1];exact h),.inr ⟨w.heap.size,0,nc,t,(d++vs++e).length,?_,rfl,λ_=>by simp,L,?_,?_⟩,s1,e0.trans ag⟩
  .rw[<- r.sim.len];simp
  .have:=Q6 w0 (.cells ((d++vs)++e).toArray t);unfold World.shape?;rw[show w.heap.size=w0.heap.size from rfl,this];simp
  .simp only[X8,X,W,B,XA];omega
theorem Qg9{c:Call}{T T' t e' i j n m b1 b2:Nat}{x y:Operand}{d a r:List Ent}(h:app d a=some r)(E:QV P T t 3)(f:∀w,(underlying T').run P w=.ok (.slice e') w)(b:Nat.blt 0 n=true)
  (e:o.op=.call c:=by exact rfl)(hc:c={callee:=.builtin .append,args:= #[x,y],argTypes:= #[T,T']}:=by exact rfl)(hx:opA env x=.osl i 0 n 3:=by exact rfl)(hH:H[i]?=some (.ents t b1 b2 d):=by exact rfl)(hn:d.length=n:=by exact rfl)
  (hy:opA env y=.osl j 0 m 3:=by exact rfl)(hHj:H[j]?=some (.ents t b1 b2 a):=by exact rfl)(hm:a.length=m:=by exact rfl):
  OpH P o env H (.osl H.length 0 r.length 3) (H.set i .dead++[.ents t b1 b2 r]):=by
 obtain⟨g,rfl⟩:=Qkh h;exact QoE E f (XY g) b e hc hx hH hn hy hHj hm
theorem Pts.ents{i off t e f b1 b2:Nat}{l:List Ent}{x:Ent}{cs':List A}(he:l[e]?=some x)(hH:H[i]?=some (.ents t b1 b2 l):=by exact rfl)(ho:off=e*3+f:=by exact rfl)(hcs:(eC b1 b2 x).drop f=cs':=by exact rfl):Pts H (.ptr i off) cs':=by
 intro n m σ w v s h;obtain⟨b,j,k⟩:=h;obtain⟨p,g,d⟩:=s.blk i _ _ j hH;have a:(l.map (eC b1 b2))[e]?=some (eC b1 b2 x):=by rw[Xq,he];rfl
 have:=((YV (pre:=[]) (by simpa using g) d).get e a).2.drop f;refine⟨b,off,k,?_⟩;rw[<- hcs,ho];simpa using this
def Qgd(cs:List A)(s:Int)(e:Ent):Option Int:=bif e.fl then(bif e.off==0 then some s else none)else match cs[e.off]? with
 |some (.int .i64 v)=>some v
 |_=>none
def QjK{F:Type}(put:F->Nat->Int->Option F)(x:F)(s:Int)(e:Ent)(v:Int):Option (F×Int):=
 bif e.fl then(bif e.off==0 then some (x,v)else none)else(put x e.off v).map λy=>(y,s)
abbrev QhO(b1 b2:Nat)(e:Ent):A:=.ptr (bif e.fl then b2 else b1) e.off
theorem Qoc{l:List A}{i:Nat}{a:A}(h:l[i]?=some a):∃r,l.drop i=a::r:=by
 obtain⟨b,rfl⟩:=XR.1 h;exact⟨_,Xr b⟩
theorem Qcm{t b1 b2 T1 T2:Nat}{x:Operand}{e:Ent}{cs:List A}{s v:Int}(h:Qgd cs s e=some v)(g:∀w,(isAgg t).run P w=.ok false w)(f:o.op=.load t x:=by exact rfl)(hx:opA env x=QhO b1 b2 e:=by exact rfl)
  (h1:H[b1]?=some (.cells T1 cs):=by exact rfl)(h2:H[b2]?=some (.cells T2 [.int .i64 s]):=by exact rfl):OpV P o env H (.int .i64 v):=by
 unfold Qgd at h;unfold QhO at hx;cases i:e.fl with
 |true=>
  rw[i]at h hx;simp only[Vv]at h hx;cases b:e.off==0 with
  |false=>rw[b]at h;cases h
  |true=>
   rw[b]at h;have m:e.off=0:=by simpa using b
   rw[m]at hx;have j:s=v:=by simpa using h
   subst j;exact OpV.load f g hx (Pts.cells (cs':=[.int .i64 s]) h2 rfl)
 |false=>
  rw[i]at h hx;simp only[Vw]at h hx;cases d:cs[e.off]? with
  |none=>rw[d]at h;cases h
  |some a=>
   rw[d]at h;obtain⟨r,l⟩:=Qoc d;cases a with
   |int k n=>
    cases k<;>first|(cases h;exact OpV.load f g hx (Pts.cells h1 l))|cases h
   |_=>cases h
theorem QjB{l:List A}{i:Nat}{a:A}(h:i<l.length):splice l i [a]=l.set i a:=by
 unfold splice;rw[List.set_eq_take_append_cons_drop,Vz h];simp
theorem Qic{i:Nat}{b:Blk}(h:H[i]?=some b):H.set i b=H:=by
 apply List.ext_getElem?;intro j;rw[Xb];by_cases e:i=j
 .subst e;rw[Vz rfl,Vz (XR.1 h).1,h]
 .rw[Vy e]
theorem Qks{F:Type}{c:F->List A}{put:F->Nat->Int->Option F}{t b1 b2 T1 T2:Nat}{x y:Operand}{e:Ent}{f f':F}{s s' v:Int}(h:QjK put f s e v=some (f',s'))(a:∀x o v y,put x o v=some y->c y=(c x).set o (.int .i64 v)/\o<(c x).length)
  (k:∀w,(sizeOf t).run P w=.ok 1 w)(j:o.op=.store t x y:=by exact rfl)(hx:opA env x=QhO b1 b2 e:=by exact rfl)(h1:H[b1]?=some (.cells T1 (c f)):=by exact rfl)(h2:H[b2]?=some (.cells T2 [.int .i64 s]):=by exact rfl)(hy:opA env y=.int .i64 v:=by exact rfl)
  (hb:Nat.beq b1 b2=false:=by exact rfl):OpU P o env H ((H.set b1 (.cells T1 (c f'))).set b2 (.cells T2 [.int .i64 s'])):=by
 have d:b1≠b2:=λq=>by subst q;rw[VL]at hb;cases hb
 unfold QjK at h;unfold QhO at hx;cases m:e.fl with
 |true=>
  rw[m]at h hx;simp only[Vv]at h hx;cases b:e.off==0 with
  |false=>rw[b]at h;cases h
  |true=>
   rw[b]at h;have n:e.off=0:=by simpa using b
   rw[n]at hx;obtain⟨rfl,rfl⟩:f=f'/\v=s':=by simpa using h
   rw[Qic h1];exact OpU.store (cs:=[.int .i64 s]) (vs:=[.int .i64 v]) (cs':=[.int .i64 v]) (v:=.int .i64 v) j hx h2 k hy rfl rfl rfl rfl rfl rfl
 |false=>
  rw[m]at h hx;simp only[Vw]at h hx;cases i:put f e.off v with
  |none=>rw[i]at h;cases h
  |some g=>
   rw[i]at h;obtain⟨rfl,rfl⟩:g=f'/\s=s':=by simpa using h
   obtain⟨p,l⟩:=a _ _ _ _ i;have r:(H.set b1 (.cells T1 (c g)))[b2]?=some (.cells T2 [.int .i64 s]):=by rw[XV d];exact h2
   rw[Qic r];exact OpU.store (cs:=c f) (vs:=[.int .i64 v]) (cs':=c g) (v:=.int .i64 v) j hx h1 k hy rfl rfl rfl rfl (XY l) (by rw[QjB l,p])
end
section
variable {P:Program} {h0 N:Nat} {A B C:Code} {env:Env} {H:Qd} {Q:QB}
theorem Qoy{S B1:Type}{b:Ctl S B1}(Eb:S->Env)(Hb:S->Qd)(h:TC P h0 N A env H (Seq P h0 N B (Qf9 h0 b Eb Hb (Seq P h0 N C Q))))(k:∀s env H,b=.cont s->Le h0 env H (Eb s) (Hb s)->Seq P h0 N C Q .normal env H):TC P h0 N (.seq A (.seq B C)) env H Q:=by
 refine TC.seq (h.mono λx env' H' q=>?_);cases x with
 |normal=>exact TC.seq (QhT Eb Hb q k)
 |exit id=>exact q
 |ret=>exact q
end
end Go.Sw
namespace Go.Sw
section
variable {P:Program} {o:Oper} {env:Env} {H:Qd}
theorem Qfy{f g:Nat->Option (Nat×Nat)}:∀(parts:List (Nat×Value)) (cs:Array Value),(∀p∈parts,f p.1=g p.1)->Instr.fill f cs parts=Instr.fill g cs parts
 |[],cs,_=>rfl
 |(i,v)::rest,cs,h=>by
  unfold Instr.fill;rw[h (i,v) (by simp)];have ih:=λcs=>Qfy rest cs (λp hp=>h p (by simp[hp]));cases g i with
  |none=>rfl
  |some p=>
   obtain⟨off,size⟩:=p;simp only;split
   .rfl
   .exact ih _
theorem JG{t e n k:Nat}{z:Value}{zs cs:List A}{parts:List (Nat×Operand)}(s:∀w,(zeroValue t).run P w=.ok z w)(f:ZR (.agg zs) z)(E:∀w,(underlying t).run P w=.ok (.array n e) w)(j:∀w,(sizeOf e).run P w=.ok k w)
  (F:(parts.all λp=>Nat.blt p.1 n)=true)(h:o.op=.build t parts.toArray:=by exact rfl)(hf:Qeb env ((List.range n).map λi=>(i*k,k)) zs parts=some cs:=by exact rfl):OpV P o env H (.agg cs):=by
 intro J u σ N a w r;obtain⟨l,rfl,x⟩:=f u σ w;obtain⟨b,y,G⟩:=Qfz r parts zs l cs x hf;refine⟨.agg b.toArray,?_,b,rfl,G⟩;have g:Instr.fill (λi=>some (i*k,k)) l.toArray (parts.map λp=>(p.1,a.eval p.2))=some b.toArray:=by
  rw[<- y];refine Qfy _ _ ?_;intro p B;obtain⟨q,m,rfl⟩:=Xe.1 B;have d:q.1<n:=by simpa using Xv.1 F q m
  simp[d]
 generalize hρ:a.eval=ρ at*;simp only[execOp,h,Instr.build,Vt,s,Result.andThen,E,j,XO,Vu,Value.cells,g]
def Yy(k:IntKind)(m n:Int):Int:=k.wrap (BitVec.ofInt k.bits m&&& BitVec.ofInt k.bits n).toNat
def orI(k:IntKind)(m n:Int):Int:=k.wrap (BitVec.ofInt k.bits m|||BitVec.ofInt k.bits n).toNat
def QeM(k:IntKind)(m n:Int):Int:=k.wrap (BitVec.ofInt k.bits m^^^BitVec.ofInt k.bits n).toNat
def QeU(k:IntKind)(m n:Int):Int:=k.wrap (m*2^(min n.toNat k.bits))
def Q3(k:IntKind)(m n:Int):Int:=m.fdiv (2^(min n.toNat k.bits))
theorem OpV.and{t u:TypeId}{x y:Operand}{k:IntKind}{m n:Int}(d:o.op=.binOp .and t x y u)(f:opA env x=.int k m)(g:opA env y=.int k n):OpV P o env H (.int k (Yy k m n)):=by
 intro h i σ N a w r;have e:=QS r f;have b:=QS r g;refine⟨_,?_,rfl⟩;generalize a.eval=ρ at*;simp[execOp,d,e,b,Go.binOp,eqGuard,Op.intBits,go_sem,Yy]
theorem OpV.or{t u:TypeId}{x y:Operand}{k:IntKind}{m n:Int}(d:o.op=.binOp .or t x y u)(f:opA env x=.int k m)(g:opA env y=.int k n):OpV P o env H (.int k (orI k m n)):=by
 intro h i σ N a w r;have e:=QS r f;have b:=QS r g;refine⟨_,?_,rfl⟩;generalize a.eval=ρ at*;simp[execOp,d,e,b,Go.binOp,eqGuard,Op.intBits,go_sem,orI]
theorem OpV.xor{t u:TypeId}{x y:Operand}{k:IntKind}{m n:Int}(d:o.op=.binOp .xor t x y u)(f:opA env x=.int k m)(g:opA env y=.int k n):OpV P o env H (.int k (QeM k m n)):=by
 intro h i σ N a w r;have e:=QS r f;have b:=QS r g;refine⟨_,?_,rfl⟩;generalize a.eval=ρ at*;simp[execOp,d,e,b,Go.binOp,eqGuard,Op.intBits,go_sem,QeM]
theorem OpV.shl{t u:TypeId}{x y:Operand}{k f:IntKind}{m n:Int}(b:o.op=.binOp .shl t x y u)(e:opA env x=.int k m)(h:opA env y=.int f n)(d:0<=n):OpV P o env H (.int k (QeU k m n)):=by
 intro l j σ N a w r;have g:=QS r e;have i:=QS r h;refine⟨_,?_,rfl⟩;generalize a.eval=ρ at*;simp[execOp,b,g,i,Go.binOp,eqGuard,Op.shift,go_sem,QeU,Int.not_lt.2 d]
theorem OpV.shr{t u:TypeId}{x y:Operand}{k f:IntKind}{m n:Int}(b:o.op=.binOp .shr t x y u)(e:opA env x=.int k m)(h:opA env y=.int f n)(d:0<=n):OpV P o env H (.int k (Q3 k m n)):=by
 intro l j σ N a w r;have g:=QS r e;have i:=QS r h;refine⟨_,?_,rfl⟩;generalize a.eval=ρ at*;simp[execOp,b,g,i,Go.binOp,eqGuard,Op.shift,go_sem,Q3,Int.not_lt.2 d]
theorem YT{h0 i m t k T:Nat}{cs:List A}(G:Nat.ble h0 H.length=true)(hH:H[i]?=some (.cells T cs))(e:cs[m]?=some .nils):
  Le h0 env H env (H.set i (.cells T (cs.set m (.osl H.length 0 0 k)))++[.row t k []]):=by
 intro J j σ N a w r;have g:h0<=H.length:=XX G;have x:i<H.length:=(XR.1 hH).1;have ext:Ext j σ w j (σ++[none]) w:=⟨λ_ q=>q,λ_ _=>rfl,λ_ _ q=>q,λ_ _ h=>YL h⟩;have s:=r.sim.phantom t k;have d:(H++[Blk.row t k []])[i]?=some (.cells T cs):=by rw[XS x];exact hH
 have p:H.set i (.cells T (cs.set m (.osl H.length 0 0 k)))++[.row t k []]=(H++[Blk.row t k []]).set i (.cells T (cs.set m (.osl H.length 0 0 k))):=by
  rw[List.set_append_left _ _ x]
 rw[p];refine⟨j,σ++[none],⟨s.weaken d rfl ?_,λq=>(r.env q).mono ext,r.size,r.defers⟩,λ_ q=>q,Qw (by rw[r.sim.len];exact g)⟩;intro y h;cases y with
 |none=>exact h
 |some b=>
  obtain⟨l,z,F,n⟩:=h;refine⟨l,z,?_,n⟩;clear z n d p hH
  induction cs generalizing m l with
  |nil=>cases e
  |cons c cs E=>
   obtain⟨v,f,rfl,B,u⟩:=F;cases m with
   |zero=>
    simp at e;subst e;exact⟨v,f,rfl,.inl ⟨rfl,B⟩,u⟩
   |succ m=>exact⟨v,f,rfl,B,E (by simpa using e) f u⟩
theorem Qmy{h0 i s g n k:Nat}{x:Blk}(j:lk env s=.osl i g n k)(hH:H[i]?=some x)(l:Nat.ble h0 H.length=true):Le h0 env H (up env s (.osl H.length g n k)) (H.set i .dead++[x]):=by
 intro E f σ N a w r;have y:i<σ.length:=by rw[r.sim.len];exact(XR.1 hH).1
 have hσ:σ[i]?=some σ[i]:=XQ y;have ext:Ext f σ w f (σ++[σ[i]]) w:=⟨λ_ q=>q,λ_ _=>rfl,λ_ _ q=>q,λ_ _ h=>YL h⟩;refine⟨f,σ++[σ[i]],⟨r.sim.moved hH hσ,?_,r.size,r.defers⟩,λ_ q=>q,Qw (by rw[r.sim.len];exact XX l)⟩;intro d;simp only[lk];by_cases q:d=s
 .subst q;rw[VL];have:=r.env d;rw[j]at this;rcases this with h|⟨b,p,e,t,m,z,B⟩
  .exact .inl h
  .refine .inr ⟨b,p,e,t,m,?_,B⟩;rw[z]at hσ;rw[<- r.sim.len];simpa using hσ.symm
 .have:Nat.beq d s=false:=by
   rw[VT];intro u;exact q (XW u)
  rw[this];exact(r.env d).mono ext
def Qby(n:Int):UInt8:=n.toNat.toUInt8
def Qmd(P:Program)(H:Qd)(x:A)(l:List Int):Prop:=
 ∀fr ro σ w v,Sim fr ro σ H w->VR ro σ w x v->(∃a c,v=.slice a 0 c/\l=[])\/ ∃b off c,v=.slice (some ⟨b,off,none⟩) l.length c/\(l=[]\/CR ro σ w b (l.map λn=>A.int .u8 n) off)
theorem QhE:∀(l:List Int),(l.map (λn=>[A.int .u8 n])).flatten=l.map λn=>A.int .u8 n
 |[]=>rfl
 |n::l=>by simp[QhE l]
theorem Qmd.nils:Qmd P H .nils []:=λfr ro σ w v s h=>.inl ⟨none,0,h,rfl⟩
theorem Qmd.row{i t n:Nat}{l:List Int}(hH:H[i]?=some (.row t 1 (l.map λn=>[A.int .u8 n])):=by exact rfl)(hn:l.length=n:=by exact rfl):Qmd P H (.osl i 0 n 1) l:=by
 intro B u σ w v s h;rcases h with⟨rfl,rfl⟩|⟨b,p,a,y,m,k,rfl,q,⟨x,f⟩,z,r⟩
 .exact .inl ⟨none,0,rfl,VP.1 hn⟩
 .refine .inr ⟨b,p,a,by rw[hn],?_⟩;by_cases d:l=[]
  .exact .inl d
  .have:0<a:=by have:=List.length_pos_iff.2 d;omega
   obtain rfl:=q this;obtain⟨E,j,g⟩:=s.blk i _ _ k hH;have e:=(YV (pre:=[]) (by simpa using j) g).flat.1;rw[QhE]at e;exact .inr (by simpa using e.lift)
theorem Qmd.rsl{l:List Int}:Qmd P H (.rsl 1 (l.map λn=>[A.int .u8 n])) l:=by
 intro j h σ w v s ⟨a,c,h1,h2,d⟩;subst h1;rw[X7]at*;rcases d with d|⟨b,e,rfl,i,g⟩
 .have:l=[]:=List.map_eq_nil_iff.1 d;subst this;exact .inl ⟨a,c,by simp,rfl⟩
 .have f:=g.flat.1;rw[QhE]at f;exact .inr ⟨b,e,c,rfl,.inr f.lift⟩
theorem Qcr{ro:Nat->Prop}{σ:Sig}{w:World}{b:Nat}:∀(l:List Int) (off:Nat) (a:ByteArray),CR ro σ w b (l.map λn=>A.int .u8 n) off->(Extern.Bytes.loadBytes ⟨b,off,none⟩ l.length a).run P w=.ok ⟨a.data++(l.map Qby).toArray⟩ w
 |[],off,a,_=>by simp[Extern.Bytes.loadBytes,go_sem]
 |n::l,off,a,⟨⟨v,h1,hp,h2⟩,h3⟩=>by
  have h2':v=.int .u8 n:=h2;subst h2';have ih:=Qcr l (off+1) (a.push n.toNat.toUInt8) h3;have hl:(Go.load ⟨b,off,none⟩).run P w=.ok (.int .u8 n) w:=by simp[Go.load,Sem.run,h1]
  simp only[X6,Extern.Bytes.loadBytes,Vt,hl,Result.andThen];have d:(⟨b,off,none⟩:Addr).add 1=⟨b,off+1,none⟩:=by simp[Y4]
  rw[d,ih];simp[Qby,ByteArray.push]
theorem Qd2{fr ro:Nat->Prop}{σ:Sig}{w:World}{x:A}{l:List Int}{v:Value}(h:Qmd P H x l)(s:Sim fr ro σ H w)(f:VR ro σ w x v):(Extern.Bytes.bytesOf v).run P w=.ok ⟨(l.map Qby).toArray⟩ w:=by
 rcases h fr ro σ w v s f with⟨a,c,rfl,rfl⟩|⟨b,e,c,rfl,d⟩
 .cases a with
  |none=>simp[Extern.Bytes.bytesOf,go_sem];rfl
  |some a=>simp[Extern.Bytes.bytesOf,Extern.Bytes.loadBytes,go_sem];rfl
 .rcases d with rfl|d
  .simp[Extern.Bytes.bytesOf,Extern.Bytes.loadBytes,go_sem];rfl
  .have:=Qcr (P:=P) l e .empty d;simp only[Extern.Bytes.bytesOf,this];congr 2;simp[ByteArray.empty,ByteArray.emptyWithCapacity];rfl
def cmpB(l m:List Int):Int:=Lib.compareBytes (l.map Qby) (m.map Qby)
theorem OpV.cmpB{c:Call}{f:FuncId}{fn:Func}{x y:Operand}{i:Array TypeId}{ax h:A}{l m:List Int}(u:P.funcs[f]?=some fn)(b:(fn.name=="runtime.NumGoroutine")=false)(s:fn.body.isNone=true)(p:Extern.findNext fn=none)(he:Extern.find fn=some Extern.BytealgCompare.compare)
  (t:Qmd P H ax l)(B:Qmd P H h m)(k:o.op=.call c:=by exact rfl)(hc:c={callee:=.value (.func f),args:= #[x,y],argTypes:=i}:=by exact rfl)(hx:opA env x=ax:=by exact rfl)(hy:opA env y=h:=by exact rfl):OpV P o env H (.int .i64 (cmpB l m)):=by
 intro F E σ N a w r;have g:=Qg r x;rw[hx]at g;have d:=Qg r y;rw[hy]at d;have q:=Qd2 t r.sim g;have z:=Qd2 B r.sim d;refine⟨.int .i64 (Sw.cmpB l m),?_,rfl⟩;subst hc;have e:a.eval (.func f)=.func (.func f) #[] #[]:=rfl;have j:(callFunc f #[a.eval x,a.eval y]).run P w=.ok (.value (.int .i64 (Sw.cmpB l m))) w:=by
  rw[run_callFunc_extern u b s p he];have n:Sem.run P (Extern.BytealgCompare.compare #[a.eval x,a.eval y]) w=.ok (.int .i64 (Sw.cmpB l m)) w:=by
   change Sem.run P (do pure (goInt (Extern.BytealgCompare.cmp (<- Extern.Bytes.bytesOf (a.eval x)) (<- Extern.Bytes.bytesOf (a.eval y))))) w=_;simp only[Vt,q,z,Result.andThen,Vu,Lib.cmp_eq];rfl
  rw[n];rfl
 generalize a.eval=ρ at*;simp only[execOp,k,resolve,e,Deferred.ofValue,invoke,Vt,Vu,Result.andThen];simpa using j
theorem Q5{t et n k b off j:Nat}{x y:Operand}{i:Int}{p:IntKind}(m:(i==(j:Int))=true)(L:Nat.blt j n=true)(E:∀w,(underlying t).run P w=.ok (.array n et) w)(B:∀w,(sizeOf et).run P w=.ok k w)(l:Nat.ble 2 n=true)
  (z:o.op=.indexAddr t x y:=by exact rfl)(hx:opA env x=.ptr b off:=by exact rfl)(hy:opA env y=.int p i:=by exact rfl):OpV P o env H (.ptr b (off+j*k)):=by
 intro O M σ N a w r;have e:=Qg r x;rw[hx]at e;obtain⟨f,e,F⟩:=e;have s:=Qg r y;rw[hy]at s;have h:a.eval y=.int p i:=s;have J:i=(j:Int):=by simpa using m
 have g:j<n:=by simpa using L
 have G:2<=n:=XX l;subst J;refine⟨.pointer (some ⟨f,off+j*k,none⟩),?_,f,e,rfl⟩;have u:0<=(j:Int)/\(j:Int)<(n:Int):=by omega
 have d:(⟨f,off,none⟩:Addr).add ((j:Int).toNat*k)=⟨f,off+j*k,none⟩:=by
  unfold Addr.add;split
  .rename_i q;simp at q;simp[q]
  .simp
 generalize a.eval=ρ at*;simp[execOp,z,F,h,Instr.indexAt,asIntOf,E,B,Instr.sureAddr,u,d,go_sem,Result.andThen,g]
end
end Go.Sw
namespace Go.Sw
theorem Qnx{P:Program}{W:World}{name:String}{d:DataW Unit}:∀{a:List (String×DataW Unit)} {ps:List MemPlace},DataW.LaidVars P W a ps->(name,d)∈a->
  ∃(g:Nat) (t:TypeId) (cs:Array Value) (b:Nat) (p:List MemPlace),P.globalNamed name=some g/\(P.globals[g]?).map (·.type)=some t/\W.var? P name=some cs/\DataW.trod (λ_=>()) P W 0 (λ_=>true) false b t cs.toList=some (d,p):=by
 intro a
 induction a with
 |nil=>intro ps h f;cases f
 |cons x a i=>
  intro ps h f;obtain⟨g,t,cs,b,p,q,m,n,k,l,j,r⟩:=h;rcases Vc.1 f with e|f
  .subst e;exact⟨g,t,cs,b,p,m,n,k,l⟩
  .exact i j f
theorem Yl{P:Program}{W:World}{name:String}{a b:Int}{g t e:Nat}{j k:Field}{d:List (String×DataW Unit)}{ps:List MemPlace}(h:DataW.LaidVars P W d ps)(N:(name,DataW.agg [.lit (.int .i64 a),.lit (.int .i64 b)])∈d)
  (hg:P.globalNamed name=some g)(l:(P.globals[g]?).map (·.type)=some t)(z:P.underlying t=some (.struct #[j,k]))(O:j.type=e)(L:k.type=e)(R:j.offset=0)(y:k.offset=1)(he:P.underlying e=some (.int .i64))(f:P.cellsOf e=1)(m:P.cellsOf t=2):
  W.cell? ⟨g,0,none⟩=some (.int .i64 a)/\W.cell? ⟨g,1,none⟩=some (.int .i64 b):=by
 obtain⟨X,Y,cs,r,p,J,E,s,Q⟩:=Qnx h N;obtain rfl:=X5 (hg.symm.trans J);obtain rfl:=X5 (l.symm.trans E);obtain⟨V,y1,n,M,G,q,u⟩:=Go.ChangeShapes.trod_struct2 z Q;rw[O,R,f]at q;rw[L,y,f]at u;obtain⟨H,T,w,_⟩:=DataW.trod_int he q;obtain⟨x,B,F,_⟩:=DataW.trod_int he u;subst w F;have i:a=H/\b=x:=by simpa using congrArg Prod.fst M
 obtain⟨rfl,rfl⟩:=i;rw[World.var?_cell hg s,World.var?_cell hg s];rw[m]at G;constructor
 .have:=congrArg (·[0]?) T;simpa[List.getElem?_take]using this
 .have:=congrArg (·[0]?) B;simpa[List.getElem?_take,List.getElem?_drop]using this
theorem JB{w:World}{g:Nat}{a b:Int}(s:w.cell? ⟨g,0,none⟩=some (.int .i64 a)/\w.cell? ⟨g,1,none⟩=some (.int .i64 b)):∀(zs:List Int),some [a,b]=some zs->∀(i:Nat) (z:Int),zs[i]?=some z->w.cell? ⟨g,i,none⟩=some (.int .i64 z)
 |zs,h,0,z,hi=>by cases h;cases hi;exact s.1
 |zs,h,1,z,hi=>by cases h;cases hi;exact s.2
 |zs,h,i+2,z,hi=>by cases h;simp at hi
end Go.Sw
