/- The rules by which the code is walked, with what they rest on (part 3). -/
import Derived.Test.YtdlojdpflfdgcaaGreatDoorL2
import Derived.Laws.BytesString
import Derived.Shelf.Spec.SlicesInsertGrow
set_option linter.unusedVariables false
set_option linter.unusedSectionVars false
set_option linter.unusedSimpArgs false
namespace Go.Sw
structure TyI where
 fld:List (Nat×Nat×Nat)
 agg:List (Nat×Bool×Nat)
 zer:List (Nat×List A×List (Nat×Nat))
structure TyOK (P:Program) (T:TyI):Prop where
 fld:∀e∈T.fld,∃n,QL P e.1 e.2.1 e.2.2 n
 agg:∀e∈T.agg,(∀w,(isAgg e.1).run P w=.ok e.2.1 w)/\ ∀w,(sizeOf e.1).run P w=.ok e.2.2 w
 zer:∀e∈T.zer,(∃z,(∀w,(zeroValue e.1).run P w=.ok z w)/\ZR (.agg e.2.1) z)/\Qd6 P e.1 e.2.2
def Qjp:List (Nat×Nat×Nat)->Nat->Nat->Option Nat
 |[],_,_=>none
 |(a,b,c)::r,t,f=>bif Nat.beq a t&&Nat.beq b f then some c else Qjp r t f
def QbR{β:Type}:List (Nat×β)->Nat->Option β
 |[],_=>none
 |(a,b)::r,t=>bif Nat.beq a t then some b else QbR r t
variable {t:Nat}
theorem Qjo{l:List (Nat×Nat×Nat)}{f c:Nat}(h:Qjp l t f=some c):(t,f,c)∈l:=by
 induction l with
 |nil=>cases h
 |cons x r e=>
  obtain⟨a,b,d⟩:=x;unfold Qjp at h;cases q:(Nat.beq a t&&Nat.beq b f)with
  |true=>
   simp_all
  |false=>grind
theorem Qav{β:Type}{l:List (Nat×β)}{c:β}(h:QbR l t=some c):(t,c)∈l:=by
 induction l with
 |nil=>cases h
 |cons x r d=>
  obtain⟨a,b⟩:=x;unfold QbR at h;cases q:Nat.beq a t with
  |true=>
   simp_all
  |false=>grind
def Qim(H:Qc):A->Option (List A)
 |.rp cs=>some cs
 |.ptr i off=>match H[i]? with
  |some (.cells _ cs)=>some (cs.drop off)
  |_=>none
 |_=>none
variable {H:Qc}
theorem Qk2{p:A}{cs:List A}(h:Qim H p=some cs):Pts H p cs:=by
 unfold Qim at h;split at h
 .cases h;exact Pts.rp
 .split at h
  .rename_i a;cases h;exact Pts.cells a rfl
  .cases h
 .cases h
def QnK(T:TyI)(o:Oper)(env:Env)(H:Qc):Option A:=
 match o.op with
 |.move x=>some (opA env x)
 |.assign x=>some (opA env x)
 |.fieldAddr t x f=>match Qjp T.fld t f with
  |none=>none
  |some off=>match opA env x with
   |.ptr i p=>some (.ptr i (p+off))
   |.rp cs=>some (.rp (cs.drop off))
   |_=>none
 |.load t x=>match QbR T.agg t with
  |none=>none
  |some (b,n)=>match x with
   |.global g=>match QkE[g]? with
    |some zs=>bif b&&Nat.beq zs.length n then some (.agg (zs.map (A.int .i64)))else none
    |none=>none
   |x=>match Qim H (opA env x)with
    |none=>none
    |some cs=>bif b then(bif Nat.beq (cs.take n).length n then some (.agg (cs.take n))else none)else cs.head?
 |.build t parts=>match QbR T.zer t with
  |none=>none
  |some (zs,pl)=>match Qeq env pl zs parts.toList with
   |some cs=>some (.agg cs)
   |none=>none
 |.extract x i=>match opA env x with
  |.tup vs=>vs[i]?
  |_=>none
 |.makeFunc f first cap=>some (.fn f (first.toList.map (opA env)) (cap.toList.map (opA env)))
 |_=>none
variable {P:Program}
theorem QnJ{T:TyI}(j:TyOK P T){o:Oper}{env:Env}{x:A}(h:QnK T o env H=some x):OpV P o env H x:=by
 unfold QnK at h;split at h
 .simp_all[OpV.move]
 .simp_all[OpV.assign]
 .rename_i t y f a;split at h
  .cases h
  .rename_i p i;obtain⟨n,r⟩:=j.fld _ (Qjo i);split at h
   .grind[Yz]
   .rename_i d E;cases h;exact QA r a E rfl
   .cases h
 .rename_i t y a;split at h
  .cases h
  .rename_i b n B;obtain⟨e,g⟩:=j.agg _ (Qav B);split at h
   .split at h
    .rename_i k w;cases q:(b&&Nat.beq k.length n)with
     |false=>grind
     |true=>
      rw[q]at h;cases h;simp[XT]at q;obtain⟨rfl,G⟩:=q;exact Qht e g w (by simp_all) a
    .cases h
   .split at h
    .cases h
    .rename_i d m;have l:=Qk2 m;cases b with
     |true=>
      cases q:Nat.beq (d.take n).length n with
      |false=>grind
      |true=>
       rw[q]at h;cases h;exact Qs a e g rfl l rfl (by simp_all)
     |false=>
      cases d with
      |nil=>cases h
      |cons v d=>cases h;exact OpV.load a e rfl l
 .rename_i t parts a;split at h
  .cases h
  .rename_i k J F;obtain⟨⟨z,e,g⟩,u⟩:=j.zer _ (Qav F);split at h
   .rename_i d i;cases h;exact OpV.build e g u (by rw[a]) i
   .cases h
 .grind[OpV.extract]
 .rename_i f first s a
  cases h;exact OpV.makeFunc (by rw[a]) rfl rfl
 .cases h
def QjM(af:List Nat):Nat->List Nat->List A->Env->Env
 |j,d::ds,x::xs,e=>(d,bif af.contains j then x else .any)::QjM af (j+1) ds xs e
 |_,_,_,e=>e
variable {af:List Nat}{env0:Env}
theorem QpV(s:Nat):∀(a:List Nat) (xs:List A) (b:Nat),a.length=xs.length->
  (∃(j:Nat) (x:A),a[j]?=some s/\xs[j]?=some x/\lk (QjM af b a xs env0) s=bif af.contains (b+j)then x else .any)\/(a.contains s=false/\lk (QjM af b a xs env0) s=lk env0 s):=by
 intro a
 induction a with
 |nil=>simp_all[QjM]
 |cons d a f=>
  intro xs b h;cases xs with
  |nil=>cases h
  |cons x xs=>
   cases q:Nat.beq s d with
   |true=>
    have e:=XN q;subst e;left;refine⟨0,x,rfl,rfl,?_⟩
    simp_all[QjM,lk]
   |false=>
    have i:s≠d:=λz=>by simp_all
    simp only[QjM,lk,q];rcases f xs (b+1) (by grind)with⟨j,y,g,k,l⟩|⟨g,k⟩
    .left;refine⟨j+1,y,by grind,by grind,?_⟩
     grind
    grind
def Qlx(T:TyI)(N:Nat)(l:List Oper)(ds:List Nat)(xs:List A)(env0:Env)(H:Qc)(i:Nat):Option A:=
 match l[i]? with
 |none=>none
 |some o=>match o.guard,o.dst with
  |none,some d=>bif Nat.blt d N&&Nat.beq ds.length xs.length then QnK T o (QjM (Qn o) 0 ds xs env0) H else none
  |_,_=>none
theorem QpU{a:List Nat}{xs:List A}(hl:a.length=xs.length):Qpi af a xs env0 (QjM af 0 a xs env0):=by
 intro s;rcases QpV (af:=af) (env0:=env0) s a xs 0 hl with⟨j,x,e,d,f⟩|h
 .grind
 grind
variable {N:Nat}{l:List Oper}
theorem vQ{T:TyI}(g:TyOK P T){a:List Nat}{xs:List A}{hB hE i:Nat}{x:A}(e:xs[i]?=some x)(h:Qlx T N l a xs env0 H i=some x):JP P N l a xs env0 hB hE i H H:=by
 unfold Qlx at h;split at h
 .cases h
 .rename_i o j;split at h
  .rename_i d f k;cases q:(Nat.blt d N&&Nat.beq a.length xs.length)with
   |false=>grind
   |true=>
    rw[q]at h;simp only[XT]at q;exact .val o _ d x j k f e q.1 (QpU (by simp_all)) (QnJ g h)
  .cases h
abbrev I(n:Int):A:=.int .i64 n
theorem zc{a:A}{v:Value}{al:List A}{vl:List Value}(h:ZR a v)(k:ZL al vl):ZL (a::al) (v::vl):=ZL.cons h k
def zr1:A->Value->Bool
 |.int k n,.int k' n'=>decide (k=k')&&decide (n=n')
 |.bool b,.bool b'=>b==b'
 |.str s,.string s'=>s.isEmpty&&s'.data.toList.isEmpty
 |.rsl _ es,.slice none 0 0=>es.isEmpty
 |.nils,.slice none 0 0=>true
 |.nilp,.pointer none=>true
 |.nilf,.nilFunc=>true
 |.nilm,.map none=>true
 |.nilif,.nilIface=>true
 |_,_=>false
def zrL:List A->List Value->Bool
 |[],[]=>true
 |a::r,v::s=>zr1 a v&&zrL r s
 |_,_=>false
def zrB:A->Value->Bool
 |.agg r,.agg s=>zrL r s.toList
 |a,v=>zr1 a v
theorem QnA{a:A}{v:Value}(h:zr1 a v=true):ZR a v:=by
 unfold zr1 at h;split at h
 .simp_all[ZR.int]
 .simp_all[ZR.bool]
 .rename_i s f;simp[XT]at h;obtain⟨d⟩:=f
  simp_all[ZR.str]
 .rename_i k g;have h:=List.isEmpty_iff.1 h;subst h;exact ZR.rsl (e:=λx=>[x])
 .exact ZR.nils
 .exact ZR.nilp
 .exact ZR.nilf
 .exact ZR.nilm
 .exact Qp0
 .cases h
theorem Qnz:∀{r:List A} {s:List Value},zrL r s=true->ZL r s
 |[],[],_=>ZL.nil
 |a::r,v::s,h=>by
  simp[zrL,XT]at h;exact ZL.cons (QnA h.1) (Qnz h.2)
 |[],_::_,h=>by cases h
 |_::_,[],h=>by cases h
theorem zrC{a:A}{v:Value}(h:zrB a v=true):ZR a v:=by
 unfold zrB at h;split at h
 .have:=ZR.agg (Qnz h);omega
 .exact QnA h
variable {y:Operand}
section
variable {P:Program} {o:Oper} {env:Env} {H:Qc}
theorem Qkq{ro:Nat->Prop}{U:Sig}{w:World}{b:Nat}{l:List Int}{off:Nat}(h:CR ro U w b (l.map λn=>A.int .u8 n) off):(loadCells ⟨b,off,none⟩ l.length).run P w=.ok (l.map λn=>Value.int .u8 n).toArray w:=by
 obtain⟨vs,g,_,i⟩:=Yt (P:=P) 0 (by simpa using h);have e:∀(l:List Int) (vs:List Value),LR ro U w (l.map λn=>A.int .u8 n) vs->vs=l.map λn=>Value.int .u8 n:=by
  intro l
  induction l with
  |nil=>intro vs h;exact h
  |cons n l j=>
   rintro vs ⟨v,d,rfl,a,k⟩;have f:v=.int .u8 n:=a
   grind
 grind[loadCells]
theorem Qi2:∀(l:List Int) (acc:ByteArray),l.foldl (λr n=>r.push (UInt8.ofNat n.toNat)) acc=⟨acc.data++(l.map Yh).toArray⟩
 |[],acc=>by simp
 |n::l,acc=>by
  rw[XB,Qi2 l];simp[Yh]
theorem Qct{t u e:TypeId}{x:Operand}{ax:A}{l:List Int}(m:Qk9 P H ax l)(h:∀w,(underlying t).run P w=.ok (.slice e) w)(he:∀w,(underlying e).run P w=.ok (.int .u8) w)(i:∀w,(underlying u).run P w=.ok .string w)
  (z:o.op=.convert t u x:=by exact rfl)(hx:opA env x=ax:=by exact rfl):OpV P o env H (.str (l.map Yh)):=by
 intro k q U N a w r;have j:=Qh r x;rw[hx]at j;refine⟨.string ⟨(l.map Yh).toArray⟩,?_,rfl⟩;have s:(convert t u (a.eval x)).run P w=.ok (.string ⟨(l.map Yh).toArray⟩) w:=by
  rcases m k q U w _ r.sim j with⟨ad,c,f,rfl⟩|⟨b,d,c,f,g⟩
  .rw[f];cases ad with
   |none=>simp[convert,h,i,he,go_sem];rfl
   |some ad=>simp[convert,h,i,he,loadCells,go_sem];rfl
  .rw[f];have p:(loadCells ⟨b,d,none⟩ l.length).run P w=.ok (l.map λn=>Value.int .u8 n).toArray w:=by
    rcases g with rfl|g
    .rfl
    .exact Qkq g
   have y:(convert t u (.slice (some ⟨b,d,none⟩) l.length c)).run P w=(Conv.bytesToString (.slice (some ⟨b,d,none⟩) l.length c)).run P w:=by
    simp[convert,h,i,he,go_sem]
   rw[y,run_bytesToString w ⟨b,d,none⟩ l.length c l p,Qi2];simp
 simp_all[execOp]
theorem Qnn{t u:TypeId}{x:Operand}{p q:List UInt8}(ho:o.op=.binOp .gtr t x y u)(hx:opA env x=.str p)(hy:opA env y=.str q):OpV P o env H (.bool (!(Op.bytesLess p q||p==q))):=
 Qcq (f:=λa b=> !(Op.bytesLess a b||a==b)) ho hx hy (by simp)
end
structure TyX where
 ty:TyI
 al:List (Nat×A)
 sl:List Nat
structure Qbn (P:Program) (T:TyX):Prop where
 ty:TyOK P T.ty
 al:∀e∈T.al,(∃z,(∀w,(zeroValue e.1).run P w=.ok z w)/\ZR e.2 z)/\Yj e.2=true/\(Yr e.2).all Yy=true
 sl:∀t∈T.sl,∃et,∀w,(underlying t).run P w=.ok (.slice et) w
def Y5(all:Array Oper)(o:Oper)(env:Env):Option Bool:=
 match o.guard with
 |none=>some true
 |some (j,c)=>match(all[j]?).bind (·.dst)with
  |none=>none
  |some d=>match lk env d with
   |.bool true=>some c
   |.bool false=>some (!c)
   |.tup []=>some false
   |_=>none
theorem QT{all:Array Oper}{o:Oper}{env:Env}{b:Bool}(h:Y5 all o env=some b):Qw all o env b:=by
 unfold Y5 at h;unfold Qw;split at h
 .grind
 .rename_i j c q;rw[q];split at h
  .cases h
  .rename_i d a;refine⟨d,a,?_⟩;split at h
   .simp_all
   .simp_all
   .grind
   .cases h
def QdU:List Nat->Nat->Bool
 |[],_=>false
 |a::r,t=>bif Nat.beq a t then true else QdU r t
theorem QhT{l:List Nat}(h:QdU l t=true):t∈l:=by
 induction l with
 |nil=>cases h
 |cons a r d=>
  grind[QdU,Nat.eq_of_beq_eq_true]
inductive FL where
 |mk (l:List A)
def fl:List A->FL
 |[]=>.mk []
 |a::r=>match fl r with
  |.mk r'=>.mk (a::r')
theorem QcD:∀l:List A,fl l=.mk l
 |[]=>rfl
 |a::r=>by unfold fl;rw[QcD r]
inductive FB where
 |mk (l:List Blk)
def fb:List Blk->FB
 |[]=>.mk []
 |a::r=>match fb r with
  |.mk r'=>.mk (a::r')
theorem QlW:∀l:List Blk,fb l=.mk l
 |[]=>rfl
 |a::r=>by unfold fb;rw[QlW r]
inductive FN where
 |mk (n:Nat)
def fn:List Blk->Nat->FN
 |[],n=>.mk n
 |_::r,n=>fn r (n+1)
theorem Qom:∀(l:List Blk) (n:Nat),fn l n=.mk (l.length+n)
 |[],n=>by simp[fn]
 |a::r,n=>by unfold fn;rw[Qom r];simp;omega
def QlU(env:Env)(pl:List (Nat×Nat)):List A->List (Nat×Operand)->Option (List A)
 |cs,[]=>some cs
 |cs,(i,x)::r=>match Y8 pl i with
  |none=>none
  |some (off,size)=>match opB env x with
   |.mk a=>match fl (Yr a)with
    |.mk vs=>bif Yj a&&Nat.beq vs.length size&&Nat.ble (off+size) cs.length then(match fl (splice cs off vs)with
     |.mk cs'=>QlU env pl cs' r)else none
theorem Qjs{env:Env}{pl:List (Nat×Nat)}:∀(parts:List (Nat×Operand)) (cs:List A),QlU env pl cs parts=Qeq env pl cs parts
 |[],cs=>rfl
 |(i,x)::r,cs=>by
  unfold QlU Qeq;rw[QaB];cases pl[i]? with
  |none=>rfl
  |some q=>
   obtain⟨off,size⟩:=q;cases h:opB env x with
   |mk a=>
    rw[QP h];simp only[QcD];cases(Yj a&&Nat.beq (Yr a).length size&&Nat.ble (off+size) cs.length)with
    |false=>rfl
    |true=>exact Qjs r _
def Qjb(env:Env):List Operand->List A
 |[]=>[]
 |x::r=>match opB env x with
  |.mk a=>a::Qjb env r
theorem Qdi{env:Env}:∀l:List Operand,Qjb env l=l.map (opA env)
 |[]=>rfl
 |x::r=>by
  unfold Qjb;cases h:opB env x with
  |mk a=>rw[Vd,QP h];show a::Qjb env r=_;rw[Qdi r]
def ptX(H:Qc):Bx->Option Lx
 |.mk (.rp cs)=>some (.mk cs)
 |.mk (.ptr i off)=>match Y8 H i with
  |some (.cells _ cs)=>some (Qgd off cs)
  |_=>none
 |_=>none
theorem QqC{p:A}{cs:List A}(h:ptX H (.mk p)=some (.mk cs)):Pts H p cs:=by
 unfold ptX at h
 grind[Pts.rp,QaB,Pts.cells,Qdt]
def QdJ(T:TyX)(o:Oper)(env:Env)(H:Qc):Option A:=
 match o.op with
 |.move x=>match opB env x with|.mk a=>some a
 |.assign x=>match opB env x with|.mk a=>some a
 |.nilCheck x=>nlB (opB env x)
 |.extract x i=>exB (opB env x) i
 |.unOp u _ x=>unB u (opB env x)
 |.pick c x y=>piB (opB env c) (opB env x) (opB env y)
 |.binOp b _ x y _=>biB b (opB env x) (opB env y)
 |.fieldAddr t x f=>match Qjp T.ty.fld t f with
  |none=>none
  |some off=>match opB env x with
   |.mk (.ptr i p)=>some (.ptr i (p+off))
   |.mk (.rp cs)=>match Qgd off cs with
    |.mk r=>some (.rp r)
   |_=>none
 |.load t x=>match QbR T.ty.agg t with
  |none=>none
  |some (b,n)=>match x with
   |.global g=>match Y8 QkE g with
    |some zs=>bif b&&Nat.beq zs.length n then(match fl (zs.map (A.int .i64))with|.mk l=>some (.agg l))else none
    |none=>none
   |x=>match ptX H (opB env x)with
    |none=>none
    |some (.mk cs)=>match b with
     |true=>(match fl (cs.take n)with|.mk l=>bif Nat.beq l.length n then some (.agg l)else none)
     |false=>(match cs with|[]=>none|a::_=>some a)
 |.build t parts=>match QbR T.ty.zer t with
  |none=>none
  |some (zs,pl)=>match QlU env pl zs parts.toList with
   |some cs=>some (.agg cs)
   |none=>none
 |.makeFunc f first cap=>match fl (Qjb env first.toList),fl (Qjb env cap.toList)with
  |.mk l,.mk l'=>some (.fn f l l')
 |.call c=>match c with
  |{callee:=.builtin .len,args:=⟨[x]⟩,argTypes:=⟨[t]⟩}=>bif QdU T.sl t then(match opB env x with
   |.mk (.osl _ 0 n _)=>some (.int .i64 n)
   |_=>none)else none
  |_=>none
 |_=>none
theorem Qau{T:TyX}(m:Qbn P T){o:Oper}{env:Env}{x:A}(h:QdJ T o env H=some x):OpV P o env H x:=by
 unfold QdJ at h;split at h
 .simp_all[QbS,svB]
 .simp_all[QbS,svB]
 .simp_all[QbS,svB]
 .simp_all[QbS,svB]
 .simp_all[QbS,svB]
 .simp_all[QbS,svB]
 .simp_all[QbS,svB]
 .rename_i t y f a;split at h
  .cases h
  .rename_i u l;obtain⟨n,O⟩:=m.ty.fld _ (Qjo l);split at h
   .grind[Yz,QP]
   .rename_i d R;cases q:Qgd u d with
    |mk r=>rw[q]at h;grind[QA,QP,Qdt]
   .cases h
 .rename_i t y a;split at h
  .cases h
  .rename_i b n M;obtain⟨j,s⟩:=m.ty.agg _ (Qav M);split at h
   .rename_i g;split at h
    .rename_i B E;rw[QaB]at E;cases q:(b&&Nat.beq B.length n)with
     |false=>grind
     |true=>
      rw[q,QcD]at h;cases h;simp only[XT]at q;obtain⟨rfl,w⟩:=q;exact Qht j s E (by simp_all) a
    .cases h
   .cases e:opB env y with
    |mk p=>
     rw[e]at h;split at h
     .cases h
     .rename_i d G;have L:=QqC G;cases b with
      |true=>
       simp only[QcD]at h;cases q:Nat.beq (d.take n).length n with
       |false=>grind
       |true=>
        rw[q]at h;cases h;exact Qs a j s (QP e) L rfl (by simp_all)
      |false=>
       grind[OpV.load,QP]
 .rename_i t parts a;split at h
  .cases h
  .rename_i B Q N;obtain⟨⟨z,j,s⟩,J⟩:=m.ty.zer _ (Qav N);split at h
   .rename_i d l;cases h;rw[Qjs]at l;exact OpV.build j s J (by rw[a]) l
   .cases h
 .rename_i f first cap a
  simp only[QcD]at h;cases h;rw[Qdi,Qdi];exact OpV.makeFunc (first:=first.toList) (cap:=cap.toList) (by rw[a]) rfl rfl
 .rename_i c a;split at h
  .rename_i y t;cases q:QdU T.sl t with
   |false=>grind
   |true=>
    rw[q]at h;simp only[Vi]at h;obtain⟨V,F⟩:=m.sl t (QhT q);split at h
    .rename_i i n k w;cases h;exact Qnr F a rfl (QP w)
    .cases h
  .cases h
 .cases h
def stX(T:TyX)(h0 N:Nat)(all:Array Oper)(o:Oper)(env:Env)(H:Qc):Option (Env×Qc):=
 match Y5 all o env with
 |none=>none
 |some false=>match o.dst with
  |none=>none
  |some d=>bif Nat.blt d N then some (up env d (.tup []),H)else none
 |some true=>match o.dst with
  |none=>match o.op with
   |.store t x y=>match opB env x,QbR T.ty.agg t with
    |.mk (.ptr i off),some (_,n)=>match Y8 H i with
     |some (.cells S cs)=>match opB env y with
      |.mk a=>match fl (Yr a)with
       |.mk vs=>bif Nat.ble h0 H.length&&(Yj a&&(Nat.beq vs.length n&&(vs.all Yy&&Nat.ble (off+n) cs.length)))then(match fl (splice cs off vs)with
        |.mk cs'=>match fb (H.set i (.cells S cs'))with
         |.mk H'=>some (env,H'))else none
     |_=>none
    |_,_=>none
   |_=>none
  |some d=>bif Nat.blt d N then(match o.op with
   |.alloc t=>match QbR T.al t with
    |some v=>bif Nat.ble h0 H.length then(match fn H 0,fl (Yr v)with
     |.mk n,.mk cs=>match fb (H++[.cells t cs])with
      |.mk H'=>some (up env d (.ptr n 0),H'))else none
    |none=>none
   |.box t x=>match opB env x with
    |.mk a=>bif Nat.ble h0 H.length&&(Yj a&&(Yr a).all Yy)then(match fn H 0,fl (Yr a)with
     |.mk n,.mk cs=>match fb (H++[.cells t cs])with
      |.mk H'=>some (up env d (.ptr n 0),H'))else none
   |_=>match QdJ T o env H with
    |some a=>some (up env d a,H)
    |none=>none)else none
section
variable {P:Program} {T:TyX} {h0 N:Nat} {all:Array Oper} {l l':List Oper} {env env':Env} {H H':Qc} {Q:QR}
theorem QnL(r:Qbn P T){o:Oper}(h:stX T h0 N all o env H=some (env',H'))(k:WO P h0 N all l env' H' Q):WO P h0 N all (o::l) env H Q:=by
 unfold stX at h;split at h
 .cases h
 .grind[QT,WO.skip]
 .rename_i M;have j:=QT M;split at h
  .rename_i g;split at h
   .rename_i t x y f;split at h
    .rename_i i p b n w O;split at h
     .rename_i S cs hH;rw[QaB]at hH;cases e:opB env y with
      |mk a=>
       rw[e]at h;simp only[QcD,QlW]at h;generalize hc:(Nat.ble h0 H.length&&(Yj a&&(Nat.beq (Yr a).length n&&((Yr a).all Yy&&Nat.ble (p+n) cs.length))))=c at h;cases c with
       |false=>cases h
       |true=>
        cases h;simp only[XT]at hc;obtain⟨c1,m,s,u,L⟩:=hc;obtain⟨_,F⟩:=r.ty.agg _ (Qav O);exact Qbz (by simp_all) j g (OpU.store f (QP w) hH F (QP e) m rfl (by simp_all) u L rfl) k
     .cases h
    .cases h
   .cases h
  .rename_i d g;cases q:Nat.blt d N with
   |false=>grind
   |true=>
    rw[q]at h;simp only[Vi]at h;split at h
    .rename_i t f;split at h
     .rename_i v B;cases c:Nat.ble h0 H.length with
      |false=>grind
      |true=>
       rw[c]at h;simp only[QcD,QlW,Qom,Vi,Xv]at h;cases h;obtain⟨⟨z,V,R⟩,E,G⟩:=r.al _ (Qav B);exact Jj (by simp_all) j g q (Qli V R f E rfl G) k
     .cases h
    .rename_i t x f;cases e:opB env x with
     |mk a=>
      rw[e]at h;simp only[QcD,QlW,Qom,Xv]at h;generalize hc:(Nat.ble h0 H.length&&(Yj a&&(Yr a).all Yy))=c at h;cases c with
      |false=>cases h
      |true=>
       cases h;simp only[XT]at hc;obtain⟨c1,m,s⟩:=hc;exact Jj (by simp_all) j g q (OpH.box f (QP e) m rfl s) k
    .split at h
     .rename_i a J;cases h;exact QM j g q (Qau r J) k
     .cases h
end
theorem FA{T f off n:Nat}{fs:Array Field}{a:Field}(e:∀w,(underlying T).run P w=.ok (.struct fs) w)(d:fs[f]?=some a)(g:∀w,(sizeOf a.type).run P w=.ok n w)(h:a.offset=off:=by exact rfl)(h5:n≠0:=by decide):QL P T f off n:=⟨_,_,e,d,h,g,h5⟩
theorem Qee:∀(π:List Nat) (H:Qc) (xs:List Blk),π.map (λp=>H[p]?)=xs.map some->Yx H π xs=H
 |[],H,xs,h=>by
  simp_all[Yx]
 |p::π,H,[],h=>by simp at h
 |p::π,H,x::xs,h=>by
  simp only[Vd,List.cons.injEq]at h;have e:H.set p x=H:=by
   apply List.ext_getElem?
   grind
  unfold Yx;rw[e];exact Qee π H xs h.2
def Qmv:A->Option Bx
 |.bool b=>some (.mk (.bool b))
 |.int k n=>some (.mk (.int k n))
 |.str s=>some (.mk (.str s))
 |.rsl k es=>some (.mk (.rsl k es))
 |_=>none
theorem Qpt{v a:A}(h:Qmv v=some (.mk a))(ρ:Nat->Nat):Y7 ρ v=a:=by
 cases v<;>first|(cases h;rfl)|cases h
variable {Hc:Qc}{Q:QR}{d h0:Nat}
theorem Pc{all:Array Oper}{o:Oper}{env:Env}{f:FuncId}{args e:List A}{v h:A}(π:List Nat)(j:o.dst=some d)(g:OpC P o env H f args)(i:C P f e Hc (λa H1=>a=v/\H1=Hc))(m:Qmv v=some (.mk h))
  (k:WO P h0 N all l (up env d h) H Q)
  (hargs:args=Qai (rho π H.length) e:=by exact rfl)(hH:π.map (λp=>H[p]?)=(Hc.map (Q5 (rho π H.length))).map some:=by exact rfl)(hπ:π.Nodup:=by decide)
  (hg:Qw all o env true:=by exact rfl)(hN:Nat.blt d N=true:=by exact rfl)(hh:Nat.ble h0 H.length=true:=by exact rfl):WO P h0 N all (o::l) env H Q:=by
 refine QD π g i ?_ hargs hH hπ hg j hN hh
 simp_all[Qpt,Qee]
theorem YD{i k:Nat}{es:List (List A)}:∀H:Qc,FzH i k es H H
 |[]=>.nil
 |_::r=>.keep (YD r)
def foN:Nat->FN
 |0=>.mk 0
 |n+1=>match foN n with
  |.mk m=>.mk (m+1)
theorem QfO:∀n,foN n=.mk n
 |0=>rfl
 |n+1=>by unfold foN;rw[QfO n]
mutual
def foA:A->Bx
 |.agg cs=>match foL cs with
  |.mk l=>.mk (.agg l)
 |.tup cs=>match foL cs with
  |.mk l=>.mk (.tup l)
 |.fn f a c=>match foL a,foL c with
  |.mk l,.mk l'=>.mk (.fn f l l')
 |.iface t v=>match foA v with
  |.mk v'=>.mk (.iface t v')
 |.ptr i off=>match foN i with
  |.mk i'=>.mk (.ptr i' off)
 |.osl i o n k=>match foN i with
  |.mk i'=>.mk (.osl i' o n k)
 |.map i=>match foN i with
  |.mk i'=>.mk (.map i')
 |a=>.mk a
def foL:List A->FL
 |[]=>.mk []
 |a::r=>match foA a,foL r with
  |.mk a',.mk r'=>.mk (a'::r')
end
mutual
theorem Qh1:∀a:A,foA a=.mk a
 |.agg cs=>by unfold foA;rw[QcV cs]
 |.tup cs=>by unfold foA;rw[QcV cs]
 |.fn f a c=>by unfold foA;rw[QcV a,QcV c]
 |.iface t v=>by unfold foA;rw[Qh1 v]
 |.ptr i off=>by unfold foA;rw[QfO]
 |.osl i o n k=>by unfold foA;rw[QfO]
 |.map i=>by unfold foA;rw[QfO]
 |.any|.bool _|.int _ _|.str _|.nilp|.rp _|.nils|.rsl _ _|.nilf|.nilif|.nilm=>by rfl
theorem QcV:∀l:List A,foL l=.mk l
 |[]=>by rfl
 |a::r=>by unfold foL;rw[Qh1 a,QcV r]
end
inductive FE2 where
 |mk (l:List (List A))
def foE:List (List A)->FE2
 |[]=>.mk []
 |a::r=>match foL a,foE r with
  |.mk a',.mk r'=>.mk (a'::r')
theorem Qol:∀l,foE l=.mk l
 |[]=>rfl
 |a::r=>by unfold foE;rw[QcV,Qol r]
def foH:List Blk->FB
 |[]=>.mk []
 |b::r=>match foH r with
  |.mk r'=>match b with
   |.cells t cs=>match foL cs with
    |.mk l=>.mk (.cells t l::r')
   |.rowr t k es=>match foE es with
    |.mk l=>.mk (.rowr t k l::r')
   |.dead=>.mk (.dead::r')
   |.row t k es=>.mk (.row t k es::r')
   |.map es=>.mk (.map es::r')
   |.iter c es=>.mk (.iter c es::r')
   |.fmap es=>.mk (.fmap es::r')
   |.mapO fz t k es=>.mk (.mapO fz t k es::r')
   |.mapP es=>.mk (.mapP es::r')
   |.frow t k es=>.mk (.frow t k es::r')
   |.wins t a n c=>match foN a with
    |.mk a'=>.mk (.wins t a' n c::r')
   |.ents t a b es=>match foN a,foN b with
    |.mk a',.mk b'=>.mk (.ents t a' b' es::r')
theorem QkG:∀l,foH l=.mk l
 |[]=>rfl
 |b::r=>by
  unfold foH;rw[QkG r];cases b<;>simp only[QcV,Qol,QfO]
def foS(env:Env)(H:Qc):Option (Env×Qc):=
 match foH H with
 |.mk H'=>match env with
  |[]=>some ([],H')
  |(d,a)::e=>match foA a with
   |.mk a'=>some ((d,a')::e,H')
theorem QqP(env:Env)(H:Qc):foS env H=some (env,H):=by
 unfold foS;rw[QkG];cases env with
 |nil=>rfl
 |cons p e=>obtain⟨d,a⟩:=p;simp only[Qh1]
variable {env':Env}
theorem FE{all:Array Oper}{env:Env}{H':Qc}(h:foS env H=some (env',H'))(k:WO P h0 N all l env' H' Q):WO P h0 N all l env H Q:=by
 rw[QqP]at h
 grind
def entB(b1 b2:Nat):List (List A)->Option (List Ent)
 |[]=>some []
 |[.ptr b off,.int .i64 lo,.int .i64 hi]::r=>match entB b1 b2 r with
  |none=>none
  |some l=>match Nat.beq b b2 with
   |true=>some (⟨true,off,lo,hi⟩::l)
   |false=>match Nat.beq b b1 with
    |true=>some (⟨false,off,lo,hi⟩::l)
    |false=>none
 |_=>none
theorem QpW{b1 b2:Nat}:∀{es:List (List A)} {l:List Ent},entB b1 b2 es=some l->l.map (eC b1 b2)=es:=by
 intro es
 induction es with
 |nil=>intro l h;cases h;rfl
 |cons e r d=>
  intro l h;unfold entB at h;split at h
  .grind
  .rename_i b a lo j i q;cases q;split at h
   .cases h
   .rename_i g f;have e:=d f;split at h
    .rename_i q;cases h;have:=XN q;subst this;rw[Vd,e];rfl
    .split at h
     .rename_i q;cases h;have:=XN q;subst this;rw[Vd,e];rfl
     .cases h
  .cases h
theorem TE{all:Array Oper}{env:Env}{es:List (List A)}{L:List Ent}(i b1 b2:Nat)(hH:H[i]?=some (.rowr t 3 es))(h:entB b1 b2 es=some L)
  (k:WO P h0 N all l env (H.set i (.ents t b1 b2 L)) Q):WO P h0 N all l env H Q:=QG (Qnw hH (QpW h)) k
theorem R1{fn:Func}{env:Env}{v:A}(s:Nat)(hr:fn.results= #[.tmp s])(hle:Le h0 env H [(s,v)] Hc):QaC P h0 fn (λa H=>a=v/\H=Hc) .ret env H:=
 ⟨[(s,v)],Hc,v,hle,QcH.one hr (by simp_all[lk]),rfl,rfl⟩
theorem R2{fn:Func}{env:Env}{v v':A}(s t:Nat)(hr:fn.results= #[.tmp s,.tmp t])(hn:Nat.beq t s=false)(hle:Le h0 env H [(s,v),(t,v')] Hc):QaC P h0 fn (λa H=>a=.tup [v,v']/\H=Hc) .ret env H:=
 ⟨[(s,v),(t,v')],Hc,_,hle,Qnh hr (by simp_all[lk]) (by simp_all[lk]),rfl,rfl⟩
theorem FzA.o{i k n:Nat}{es:List (List A)}(a:n=es.length:=by first|exact(XX ..).symm|exact rfl):FzA i k es (.osl i 0 n k) (.rsl k es):=FzA.own a
theorem Le.env{h0:Nat}{env env':Env}{H:Qc}(h:∀s,lk env' s=.any\/lk env' s=lk env s):Le h0 env H env' H:=by
 intro e d U N a w r;refine⟨d,U,⟨r.sim,λs=>?_,r.size,r.defers⟩,λ_ q=>q,rfl⟩;rcases h s with h|h
 .rw[h];trivial
 .rw[h];exact r.env s
def Qql(env:Env):Env->Prop
 |[]=>True
 |(s,a)::r=>lk env s=a/\Qql env r
theorem Qql.ok{env:Env}:∀{env':Env},Qql env env'->∀s,lk env' s=.any\/lk env' s=lk env s
 |[],_,s=>.inl rfl
 |(d,a)::e,⟨h1,h2⟩,s=>by
  by_cases q:s=d
  .simp_all[lk]
  .have:Nat.beq s d=false:=by
    simp_all[VG]
   simp only[lk,this,Vj];exact Qql.ok h2 s
def ixO(d:Nat)(op:Op)(t:Nat)(pos:String)(af:Array Edge):Oper:={dst:=some d,op:=op,type:=t,pos:=pos,after:=af,guard:=none}
inductive Kf where
 |seq (c:Code)
 |blo (id:Nat)
 |unr (c:Code)
inductive Cf where
 |code (c:Code)
 |ops (all:Array Oper) (l:List Oper)
 |out (x:AEx)
def kq(P:Program)(h0 N:Nat):List Kf->QR->QR
 |[],Q=>Q
 |.seq c::k,Q=>Seq P h0 N c (kq P h0 N k Q)
 |.blo id::k,Q=>Blo id (kq P h0 N k Q)
 |.unr c::k,Q=>Qk8 P h0 N c (kq P h0 N k Q)
@[reducible] def Hd(P:Program)(h0 N:Nat):Cf->List Kf->Env->Qc->QR->Prop
 |.code c,k,env,H,Q=>TC P h0 N c env H (kq P h0 N k Q)
 |.ops all l,k,env,H,Q=>WO P h0 N all l env H (kq P h0 N k Q)
 |.out x,k,env,H,Q=>kq P h0 N k Q x env H
def QgL(T:TyX)(h0 N:Nat):Cf->List Kf->Env->Qc->Option (Cf×List Kf×Env×Qc)
 |.code (.seq a b),k,env,H=>some (.code a,.seq b::k,env,H)
 |.code (.block id c),k,env,H=>some (.code c,.blo id::k,env,H)
 |.code (.loop c),k,env,H=>some (.code c,.unr c::k,env,H)
 |.code .skip,k,env,H=>some (.out .normal,k,env,H)
 |.code .ret,k,env,H=>some (.out .ret,k,env,H)
 |.code (.exit id),k,env,H=>some (.out (.exit id),k,env,H)
 |.code (.region id ⟨l⟩ false),k,env,H=>some (.ops ⟨l⟩ l,k,env,H)
 |.code (.cond x a b),k,env,H=>match opB env x with
  |.mk (.bool true)=>some (.code a,k,env,H)
  |.mk (.bool false)=>some (.code b,k,env,H)
  |_=>none
 |.ops all [],k,env,H=>some (.out .normal,k,env,H)
 |.ops all (o::l),k,env,H=>match stX T h0 N all o env H with
  |some (env',H')=>some (.ops all l,k,env',H')
  |none=>none
 |.out .normal,.seq c::k,env,H=>some (.code c,k,env,H)
 |.out (.exit i),.seq _::k,env,H=>some (.out (.exit i),k,env,H)
 |.out .ret,.seq _::k,env,H=>some (.out .ret,k,env,H)
 |.out .normal,.blo _::k,env,H=>some (.out .normal,k,env,H)
 |.out (.exit i),.blo id::k,env,H=>match Nat.beq i id with
  |true=>some (.out .normal,k,env,H)
  |false=>some (.out (.exit i),k,env,H)
 |.out .ret,.blo _::k,env,H=>some (.out .ret,k,env,H)
 |.out .normal,.unr c::k,env,H=>some (.code c,.unr c::k,env,H)
 |.out (.exit i),.unr _::k,env,H=>some (.out (.exit i),k,env,H)
 |.out .ret,.unr _::k,env,H=>some (.out .ret,k,env,H)
 |_,_,_,_=>none
def Qc9(T:TyX)(h0 N:Nat):Nat->Cf->List Kf->Env->Qc->Option (Cf×List Kf×Env×Qc)
 |0,c,k,env,H=>some (c,k,env,H)
 |n+1,c,k,env,H=>match QgL T h0 N c k env H with
  |some (c',k',env',H')=>Qc9 T h0 N n c' k' env' H'
  |none=>none
variable {S:Type}
section
variable {P:Program} {T:TyX} {h0 N:Nat} {Q:QR}
theorem QnI(e:Qbn P T){c d:Cf}{k a:List Kf}{env:Env}{H':Qc}(h:QgL T h0 N c k env H=some (d,a,env',H'))(g:Hd P h0 N d a env' H' Q):Hd P h0 N c k env H Q:=by
 unfold QgL at h;split at h
 .cases h;exact TC.seq g
 .cases h;exact TC.block g
 .cases h;exact Qng g
 .cases h;exact TC.skip g
 .cases h;exact TC.ret g
 .cases h;exact TC.exit g
 .cases h;exact TC.region g
 .split at h
  .rename_i q;cases h;exact Qj0 (QP q) rfl g
  .rename_i q;cases h;exact Qgj (QP q) rfl g
  .cases h
 .cases h;exact WO.nil g
 .grind[QnL]
 .cases h;exact seqN g
 .cases h;exact seqX g
 .cases h;exact seqR g
 .cases h;exact bloN g
 .split at h
  .rename_i q;cases h;have:=XN q;subst this;exact bloE g
  .rename_i q;cases h;exact bloX q g
 .cases h;exact bloR g
 .cases h;exact unrN g
 .cases h;exact unrX g
 .cases h;exact unrR g
 .cases h
theorem Qc8(hT:Qbn P T):∀(n:Nat) {c c':Cf} {k k':List Kf} {env env':Env} {H H':Qc},Qc9 T h0 N n c k env H=some (c',k',env',H')->Hd P h0 N c' k' env' H' Q->Hd P h0 N c k env H Q
 |0,c,c',k,k',env,env',H,H',h,g=>by cases h;exact g
 |n+1,c,c',k,k',env,env',H,H',h,g=>by
  unfold Qc9 at h;split at h
  .rename_i e;exact QnI hT e (Qc8 hT n h g)
  .cases h
theorem Qlt{env:Env}{s:Nat}{a:A}(h:lk env s=a):∀t,lk (up env s a) t=lk env t:=by
 intro t;simp[lk];cases q:Nat.beq t s with
 |true=>simp_all
 |false=>rfl
theorem Is{α:Type}{all:Array Oper}{env:Env}{b:Bool}{x y:Option α}{r:α}(s:Nat)(h:(bif b then x else y)=some r)(d:lkB env s=.mk (.bool b))
  (t:b=true->x=some r->WO P h0 N all l (up env s (.bool true)) H Q)(e:b=false->y=some r->WO P h0 N all l (up env s (.bool false)) H Q):WO P h0 N all l env H Q:=by
 have a:=QkB d;cases b with
 |true=>exact QG (Le.env λt=>.inr (Qlt a t)) (t rfl h)
 |false=>exact QG (Le.env λt=>.inr (Qlt a t)) (e rfl h)
theorem Ct3E{B1:Type}{A B C:Code}{env:Env}{k:List Kf}{b:Ctl S B1}(Eb:S->Env)(Hb:S->Qc)(h:TC P h0 N A env H (kq P h0 N [.seq B] (QdF h0 b Eb Hb (kq P h0 N (.seq C::k) Q))))(g:∀s env H,b=.cont s->Le h0 env H (Eb s) (Hb s)->kq P h0 N (.seq C::k) Q .normal env H):TC P h0 N (.seq A (.seq B C)) env H (kq P h0 N k Q):=
 Qo4 Eb Hb h g
end
def dstN(o:Oper)(i:Nat):Nat:=match o.dst with|some d=>d|none=>1000000+i
def Qbj:Nat->Nat->List Oper->List Nat
 |0,_,_=>[]
 |_+1,_,[]=>[]
 |m+1,i,o::l=>dstN o i::Qbj m (i+1) l
def Ym(af:List Nat):Nat->List Nat->List A->Env->Env
 |j,d::ds,x::xs,e=>(d,bif QdU af j then x else .any)::Ym af (j+1) ds xs e
 |j,d::ds,[],e=>(d,.any)::Ym af (j+1) ds [] e
 |_,[],_,e=>e
theorem Qgy{l:List Nat}:QdU l t=l.contains t:=by
 induction l with
 |nil=>rfl
 |cons a r d=>
  grind[QdU,Nat.eq_of_beq_eq_true,Nat.beq_refl]
theorem Ql5{s:Nat}:∀(a:List Nat) (xs f:List A) (b:Nat),
  (∃(j:Nat) (x:A),af.contains (b+j)=true/\a[j]?=some s/\(xs++f)[j]?=some x/\lk (Ym af b a xs env0) s=x)\/lk (Ym af b a xs env0) s=.any\/(a.contains s=false/\lk (Ym af b a xs env0) s=lk env0 s):=by
 intro a
 induction a with
 |nil=>intro xs f b;right;right;exact⟨rfl,by rfl⟩
 |cons d a m=>
  intro xs f b;have next:∀(e:List A),(∃(j:Nat) (x:A),af.contains (b+1+j)=true/\a[j]?=some s/\(e++f)[j]?=some x/\lk (Ym af (b+1) a e env0) s=x)->∀p,(∃(j:Nat) (x:A),af.contains (b+j)=true/\(d::a)[j]?=some s/\(p::e++f)[j]?=some x/\lk (Ym af (b+1) a e env0) s=x):=by
   rintro e ⟨j,x,g,k,n,l⟩ p;exact⟨j+1,x,by grind,by grind,by grind,l⟩
  cases xs with
  |nil=>
   cases q:Nat.beq s d with
   |true=>simp_all[Ym,lk]
   |false=>
    have i:s≠d:=λz=>by simp_all
    simp only[Ym,lk,q,Vj];rcases m [] [] (b+1)with⟨j,x,g,k,n,l⟩|h|⟨g,k⟩
    .simp at n
    .grind
    grind
  |cons x xs=>
   cases q:Nat.beq s d with
   |true=>
    have:=XN q;subst this;simp only[Ym,lk,q,Vi];cases c:QdU af b with
    |true=>left;exact⟨0,x,by rw[<- Qgy];exact c,rfl,rfl,rfl⟩
    |false=>simp
   |false=>
    have i:s≠d:=λz=>by simp_all
    simp only[Ym,lk,q,Vj];rcases m xs f (b+1)with h|h|⟨g,k⟩
    .exact .inl (next xs h x)
    .grind
    grind
variable {id:Nat}{r:List Oper}
section
variable {P:Program} {T:TyX} {h0 N m:Nat} {l:List Oper} {ds:List Nat} {env:Env} {H:Qc} {Q:QR} {K:List Oper->Env->Qc->Prop}
def DS(P:Program)(N m:Nat)(l:List Oper)(ds:List Nat)(env:Env)(H:Qc)(K:List Oper->Env->Qc->Prop)(r:List Oper)(xs:List A):Prop:=
 r=l.drop xs.length->∃ys,xs.length+ys.length=m/\(∀j,xs.length<=j->j<m->JP P N l ds (xs++ys) env H.length H.length j H H)/\K (l.drop m) (Qat ds (xs++ys) env) H
theorem oqOf{xs:List A}:∀(c i:Nat),(∀j,i<=j->j<i+c->JP P N l ds xs env H.length H.length j H H)->Oq P N l ds xs env H i c
 |0,i,_=>.n
 |c+1,i,h=>.c (by grind) (oqOf c (i+1) (by grind))
theorem Qpm{k:List Kf}(m:Nat)(f:P.follows .mixedOrders=true)(g:Go.Sw.draw0 l m N (Qbj m 0 l)=true)(a:Nat.ble h0 H.length=true)
  (h:DS P N m l (Qbj m 0 l) env H (λr e H=>WO P h0 N l.toArray r e H Q) l []):TC P h0 N (.region id l.toArray true) env H Q:=by
 obtain⟨i,j,n,d⟩:=h rfl;exact TC.draw0 m _ i f g (by simp_all) a (oqOf m 0 (by grind)) d
theorem DS.done{xs:List A}(a:Nat.beq xs.length m=true)(h:K r (Qat ds xs env) H):DS P N m l ds env H K r xs:=by
 intro g;have e:=XN a;refine⟨[],by simpa using e,λj d f=>by omega,?_⟩
 grind
theorem DS.add{xs:List A}{o:Oper}{x:A}(h:Nat.blt xs.length m=true)(e:∀ys,l[xs.length]?=some o->JP P N l ds (xs++x::ys) env H.length H.length xs.length H H)(k:DS P N m l ds env H K r (xs++[x])):DS P N m l ds env H K (o::r) xs:=by
 intro d;have a:xs.length<l.length:=by
  grind[List.drop_eq_nil_of_le]
 rw[Xp a]at d;cases d;obtain⟨ys,f,i,g⟩:=k (by simp)
 grind
theorem Qjm{xs a:List A}{x:A}:(xs++x::a)[xs.length]?=some x:=by simp
theorem DS.wo{xs:List A}{o:Oper}{x:A}(h:WO P H.length N l.toArray [o] (Ym (Qn o) 0 ds xs env) H (Jc (up (Ym (Qn o) 0 ds xs env) d x) H))(k:DS P N m l ds env H K r (xs++[x]))
  (e:o.dst=some d:=by exact rfl)(hx:Nat.blt xs.length m=true:=by exact rfl):DS P N m l ds env H K (o::r) xs:=
 .add hx (λf a=>.woE o _ d x a e Qjm (he:=by
  intro s;rcases Ql5 (af:=Qn o) (env0:=env) (s:=s) ds xs (x::f) 0 with⟨j,y,p,g,n,i⟩|q|q
  .grind
  .grind
  grind) (hdd:=Qey H) (h:=h)) k
theorem DS.v{xs:List A}{o:Oper}{x:A}(h:OpV P o (Ym (Qn o) 0 ds xs env) H x)(k:DS P N m l ds env H K r (xs++[x]))(hg:Qw l.toArray o (Ym (Qn o) 0 ds xs env) true:=by exact rfl)
  (hd:o.dst=some d:=by exact rfl)(hN:Nat.blt d N=true:=by exact rfl)(hx:Nat.blt xs.length m=true:=by exact rfl):DS P N m l ds env H K (o::r) xs:=
 .wo (QM hg hd hN h (WO.nil Jc.mk)) k hd hx
def QcY:List A->A->FL
 |[],x=>.mk [x]
 |a::r,x=>match QcY r x with
  |.mk r'=>.mk (a::r')
theorem Jp:∀(l:List A) (x:A),QcY l x=.mk (l++[x])
 |[],x=>rfl
 |a::r,x=>by unfold QcY;rw[Jp r];rfl
def QiV(T:TyX)(N m:Nat)(l:List Oper)(ds:List Nat)(env:Env)(H:Qc):Nat->Nat->List Oper->List A->Option (List Oper×List A)
 |0,_,r,xs=>some (r,xs)
 |_+1,_,[],_=>none
 |n+1,i,o::r,xs=>match Nat.blt i m with
  |false=>none
  |true=>match o.dst with
   |none=>none
   |some d=>match Nat.blt d N with
    |false=>none
    |true=>match Y5 ⟨l⟩ o (Ym (Qn o) 0 ds xs env)with
     |none=>none
     |some false=>match QcY xs (.tup [])with
      |.mk xs'=>QiV T N m l ds env H n (i+1) r xs'
     |some true=>match QdJ T o (Ym (Qn o) 0 ds xs env) H with
      |none=>none
      |some x=>match QcY xs x with
       |.mk xs'=>QiV T N m l ds env H n (i+1) r xs'
theorem Qfk(hT:Qbn P T):∀(n i:Nat) {r r':List Oper} {xs xs':List A},i=xs.length->QiV T N m l ds env H n i r xs=some (r',xs')->DS P N m l ds env H K r' xs'->DS P N m l ds env H K r xs
 |0,i,r,r',xs,xs',_,h,k=>by cases h;exact k
 |n+1,i,[],r',xs,xs',_,h,k=>by cases h
 |n+1,i,o::r,r',xs,xs',hi,h,k=>by
  subst hi;unfold QiV at h;split at h
  .cases h
  .rename_i q1;split at h
   .cases h
   .rename_i d hd;split at h
    .cases h
    .rename_i q2;split at h
     .cases h
     .rename_i hw;simp[Jp]at h;exact .wo (WO.skip (QT hw) hd q2 (WO.nil Jc.mk)) (Qfk hT n _ (by simp) h k) hd q1
     .rename_i hw;split at h
      .cases h
      .rename_i x hv;simp[Jp]at h;exact .v (Qau hT hv) (Qfk hT n _ (by simp) h k) (QT hw) hd q2 q1
def QnO:List A->Nat->A->FL
 |[],_,_=>.mk []
 |_::r,0,x=>.mk (x::r)
 |a::r,n+1,x=>match QnO r n x with
  |.mk r'=>.mk (a::r')
theorem QdM:∀{l:List A} {n:Nat} {x:A},Y8 l n=some x->QnO l n x=.mk l
 |[],n,x,h=>by cases h
 |a::r,0,x,h=>by cases h;rfl
 |a::r,n+1,x,h=>by unfold QnO;rw[QdM (l:=r) h]
theorem QeG{α:Type}{b:Bool}{x y:Option α}{v:α}{xs d a:List A}(j:Nat)(h:(bif b then x else y)=some v)(g:Y8 xs j=some (.bool b))(f:QnO xs j (.bool true)=.mk d)(i:QnO xs j (.bool false)=.mk a)
  (t:b=true->x=some v->DS P N m l ds env H K r d)(e:b=false->y=some v->DS P N m l ds env H K r a):DS P N m l ds env H K r xs:=by
 cases b with
 |true=>simp_all[QdM]
 |false=>simp_all[QdM]
end
variable {β:Type}
@[reducible] def RQ(w:β->A)(Hc:β->Qc)(r:β):A->Qc->Prop:=λa H=>a=w r/\H=Hc r
@[reducible] def Csm(P:Program)(f:FuncId)(args:List A)(H:Qc)(w:β->A)(r:β):Prop:=C P f args H (RQ w (λ_=>H) r)
structure TyZ where
 sl:List (Nat×Nat×Nat)
 fn:List Nat
structure QcG (P:Program) (Z:TyZ):Prop where
 sl:∀e∈Z.sl,(∀w,(underlying e.1).run P w=.ok (.slice e.2.1) w)/\ ∀w,(sizeOf e.2.1).run P w=.ok e.2.2 w
 fn:∀f∈Z.fn,∀(a:Array Value) (w:World),(callFunc f a).run P w=.ok (.enter f a) w
variable {F:Option β}{α γ:Type}
variable {F':β->Option γ}{L:List α}
section
variable {P:Program} {Z:TyZ} {h0 N:Nat} {all:Array Oper} {o:Oper} {l:List Oper} {env:Env} {H:Qc} {Q:QR} {d:Nat}
theorem Izz(f:QcG P Z){e:α->List A}{n k:Nat}{m:IntKind}{i:Int}{v:α}(h:idx L i=some v)(q:ixB o env=some (d,t,k,L.map e,m,i))(g:WO P h0 N all l (up env d (.rp (e v))) H Q)
  (j:QbR Z.sl t=some (n,k))(hg:Y5 all o env=some true)(a:Nat.blt d N=true):WO P h0 N all (o::l) env H Q:=by
 obtain⟨p,r⟩:=f.sl _ (Qav j);exact Ix h p r q g (QT hg) a
theorem Ize(f:QcG P Z){e:α->List A}{n k:Nat}{m:IntKind}{i:Int}{v:α}{cs:List A}(h:idx L i=some v)(he:e v=cs)(q:ixB o env=some (d,t,k,L.map e,m,i))(g:WO P h0 N all l (up env d (.rp cs)) H Q)
  (j:QbR Z.sl t=some (n,k))(hg:Y5 all o env=some true)(a:Nat.blt d N=true):WO P h0 N all (o::l) env H Q:=by
 subst he;exact Izz f h q g j hg a
theorem Lmz(h:QcG P Z){e:α->List A}{j k a:Nat}(q:lnB o env=some (d,t,.mk (.rsl k (L.map e))))(g:WO P h0 N all l (up env d (.int .i64 L.length)) H Q)
  (i:QbR Z.sl t=some (j,a))(hg:Y5 all o env=some true)(f:Nat.blt d N=true):WO P h0 N all (o::l) env H Q:=by
 obtain⟨m,n⟩:=h.sl _ (Qav i);exact LnM m q g (QT hg) f
def QgG(Z:TyZ)(o:Oper)(env:Env):Option (Nat×Nat×List A):=
 match o.dst with
 |none=>none
 |some d=>match o.op with
  |.call {callee:=.value (.func f),args:=⟨xs⟩,argTypes:=_}=>bif QdU Z.fn f then(match fl (Qjb env xs)with|.mk ax=>some (d,f,ax))else none
  |.call {callee:=.value (.tmp x),args:=⟨xs⟩,argTypes:=_}=>match opB env (.tmp x)with
   |.mk (.fn (.func f) vf vc)=>bif QdU Z.fn f then(match fl (vf++(Qjb env xs++vc))with|.mk ax=>some (d,f,ax))else none
   |_=>none
  |_=>none
theorem Qe0(g:QcG P Z){f:Nat}{args:List A}(h:QgG Z o env=some (d,f,args)):o.dst=some d/\OpC P o env H f args:=by
 unfold QgG at h;split at h
 .cases h
 .rename_i n j;split at h
  .rename_i e i l a;cases q:QdU Z.fn e with
   |false=>grind
   |true=>
    rw[q]at h;simp only[QcD]at h;cases h;exact⟨j,OpC.fn (g.fn _ (QhT q)) a rfl (Qdi i).symm⟩
  .rename_i x i l a;split at h
   .rename_i e p m k;cases q:QdU Z.fn e with
    |false=>grind
    |true=>
     rw[q]at h;simp only[QcD]at h;cases h;exact⟨j,Qa2 (g.fn _ (QhT q)) a rfl (QP k) (by rw[Qdi])⟩
   .cases h
  .cases h
theorem Czz(i:QcG P Z){r:γ}{f:Nat}{args a:List A}{w:β->A}(π:List Nat)(h:F.bind F'=some r)(s:∀v,F=some v->C P f a Hc (RQ w (λ_=>Hc) v))
  (e:QgG Z o env=some (d,f,args))(g:∀v,F=some v->F' v=some r->WO P h0 N all l (up env d (w v)) H Q)(n:∀v,Qmv (w v)=some (.mk (w v)))
  (hargs:args=Qai (rho π H.length) a)(hH:π.map (λp=>H[p]?)=(Hc.map (Q5 (rho π H.length))).map some)(hπ:π.Nodup)(hg:Y5 all o env=some true)(q:Nat.blt d N=true)(t:Nat.ble h0 H.length=true):WO P h0 N all (o::l) env H Q:=by
 obtain⟨v,m,k⟩:=YM h;obtain⟨u,j⟩:=Qe0 (H:=H) i e
 grind[Pc,QT]
theorem DzZ(s:QcG P Z){K:List Oper->Env->Qc->Prop}{m:Nat}{i:List Oper}{e:List Nat}{xs:List A}{r:γ}{f:Nat}{args a:List A}{w:β->A}(π:List Nat)(h:F.bind F'=some r)(u:∀v,F=some v->C P f a Hc (RQ w (λ_=>Hc) v))
  (j:QgG Z o (Ym (Qn o) 0 e xs env)=some (d,f,args))(g:∀v,F=some v->F' v=some r->DS P N m i e env H K l (xs++[w v]))(y:∀v,Qmv (w v)=some (.mk (w v)))
  (hargs:args=Qai (rho π H.length) a)(hH:π.map (λp=>H[p]?)=(Hc.map (Q5 (rho π H.length))).map some)(hπ:π.Nodup)(hg:Y5 i.toArray o (Ym (Qn o) 0 e xs env)=some true)(z:Nat.blt d N=true)(x:Nat.blt xs.length m=true):DS P N m i e env H K (o::l) xs:=by
 obtain⟨v,k,t⟩:=YM h;obtain⟨n,q⟩:=Qe0 s j;exact .wo (Pc π n q (u v k) (y v) (WO.nil Jc.mk) hargs hH hπ (QT hg) z (by simp)) (g v k t) n x
theorem ln:Qbp H [] []:=trivial
theorem ls{ax d:List A}{a:A}(k:Qbp H ax d)(h:YJ a=true:=by exact rfl):Qbp H (a::ax) (a::d):=⟨.inl ⟨rfl,h⟩,k⟩
theorem lo{ax a:List A}{i n k:Nat}{es:List (List A)}(d:Qbp H ax a)(hH:H[i]?=some (.row t k es):=by exact rfl)(hn:es.length=n:=by exact XX ..):Qbp H (.osl i 0 n k::ax) (.rsl k es::a):=
 ⟨.inr (by grind),d⟩
theorem Cbz(j:QcG P Z){r:γ}{f:Nat}{args a:List A}{w:β->A}(h:F.bind F'=some r)(p:∀v,F=some v->C P f a [] (RQ w (λ_=>[]) v))
  (e:QgG Z o env=some (d,f,args))(m:Qbp H args a)(g:∀v,F=some v->F' v=some r->WO P h0 N all l (up env d (w v)) H Q)(t:∀v,Ys (w v)=true)
  (hg:Y5 all o env=some true)(n:Nat.blt d N=true):WO P h0 N all (o::l) env H Q:=by
 obtain⟨v,k,s⟩:=YM h;obtain⟨q,i⟩:=Qe0 j e;refine Qgh i m (p v k) ?_ ?_ (QT hg) q n
 .grind
 grind
end
def ixL:List Nat:=[0,1,2,3,4,5,6,7,8,9,10,11,12,13,14,15,16,17,18,19,20,21,22,23,24,25,26,27,28,29,30,31,32,33,34,35,36,37,38,39,40,41,42,43,44,45,46,47,48,49,50,51,52,53,54,55,56,57,58,59,60,61,62,63]
def Qkx:List Nat->List Nat->Nat->FN
 |a::r,b::s,j=>bif Nat.beq a j then .mk b else Qkx r s j
 |_,_,j=>.mk j
mutual
def cpA(sel:List Nat):A->Bx
 |.ptr i off=>match Qkx sel ixL i with
  |.mk j=>.mk (.ptr j off)
 |.osl i o n k=>match Qkx sel ixL i with
  |.mk j=>.mk (.osl j o n k)
 |.map i=>match Qkx sel ixL i with
  |.mk j=>.mk (.map j)
 |.fn f a c=>match cpL sel a,cpL sel c with
  |.mk a',.mk c'=>.mk (.fn f a' c')
 |a=>.mk a
def cpL(sel:List Nat):List A->FL
 |[]=>.mk []
 |a::r=>match cpA sel a,cpL sel r with
  |.mk a',.mk r'=>.mk (a'::r')
end
inductive FV where
 |mk (e:Env)
def Qoa(sel:List Nat)(env:Env):List Nat->Env->FV
 |[],nE=>.mk nE
 |s::r,nE=>match lkB env s with
  |.mk a=>match cpA sel a,Qoa sel env r nE with
   |.mk a',.mk e=>.mk ((s,a')::e)
def selH(H:Qc):List Nat->List Nat->List (Nat×Blk)->FB
 |a::r,p::ps,[]=>match Y8 H a,selH H r ps []with
  |some b,.mk l=>.mk (b::l)
  |none,.mk l=>.mk l
 |a::r,p::ps,(q,b)::n=>bif Nat.beq p q then(match selH H r ps n with|.mk l=>.mk (b::l))else(match Y8 H a,selH H r ps ((q,b)::n)with
  |some b,.mk l=>.mk (b::l)
  |none,.mk l=>.mk l)
 |_,_,_=>.mk []
def QkZ(sel keep:List Nat)(nE:Env)(nH:List (Nat×Blk))(env:Env)(H:Qc):Option (Env×Qc):=
 match Qoa sel env keep nE,selH H sel ixL nH with
 |.mk e,.mk h=>some (e,h)
variable {E':β->Env}{H':β->Qc}
section
variable {P:Program} {h0 N:Nat} {c:Code} {env:Env} {H:Qc} {Q:QR}
def Qlq(h0:Nat)(b:β)(E':β->Env)(H':β->Qc)(Q:QR):QR
 |.normal,env,H=>Le h0 env H (E' b) (H' b)
 |.exit id,env,H=>Q (.exit id) env H
 |.ret,env,H=>Q .ret env H
theorem JM{env:Env}{b:β}(h:Le h0 env H (E' b) (H' b)):Qlq h0 b E' H' Q .normal env H:=h
theorem Ct(b:β)(sel keep:List Nat)(nE:β->Env)(nH:β->List (Nat×Blk))(_:∀b,QkZ sel keep (nE b) (nH b) env H=some (E' b,H' b))(h:TC P h0 N c env H (Qlq h0 b E' H' Q))(k:∀env H,Le h0 env H (E' b) (H' b)->Q .normal env H):TC P h0 N c env H Q:=
 h.mono λx env' H' q=>by
  cases x with
  |normal=>exact k _ _ q
  |exit id=>exact q
  |ret=>exact q
theorem CtE{B:Type}{b:Ctl S B}{E':S->Env}{H':S->Qc}(sel keep:List Nat)(nE:S->Env)(nH:S->List (Nat×Blk))(_:∀s,QkZ sel keep (nE s) (nH s) env H=some (E' s,H' s))(h:TC P h0 N c env H (QdF h0 b E' H' Q))(k:∀s env H,b=.cont s->Le h0 env H (E' s) (H' s)->Q .normal env H):TC P h0 N c env H Q:=Qmg E' H' h k
theorem Lp{B:Type}{step:S->Option (Ctl S B)}{E':S->Env}{H':S->Qc}{m:Nat}{s0:S}{b0:B}(sel keep:List Nat)(nE:S->Env)(nH:S->List (Nat×Blk))(h:iter step m s0=some b0)(_:∀s,QkZ sel keep (nE s) (nH s) env H=some (E' s,H' s))(hI:Le h0 env H (E' s0) (H' s0))
  (body:∀s d,step s=some d->(∀b,d=.done b->b=b0)->TC P h0 N c (E' s) (H' s) (Qbo (λs env H=>Le h0 env H (E' s) (H' s)) d Q)):TC P h0 N (.loop c) env H Q:=TC.loop E' H' h hI body
end
theorem Oj{S B:Type}{d:Ctl S B}{x b0:B}(hb:∀b,d=.done b->b=b0)(h:some (Ctl.done x)=some d):x=b0:=hb x (Oi h).symm
theorem Rt{fn:Func}{env:Env}{β:Type}{e r:β}{w:β->A}{Hc:β->Qc}(h:some e=some r)(s:Nat)(π:List Nat)(a:fn.results= #[.tmp s]:=by exact rfl)(hpre:π.take h0=List.range h0:=by exact rfl)
  (hH:π.map (λp=>H[p]?)=((Hc e).map (Q5 (rho π H.length))).map some:=by exact rfl)(hπ:π.Nodup:=by decide)(hE:QbM (rho π H.length) env [(s,w e)]:=by exact⟨rfl,trivial⟩):QaC P h0 fn (RQ w Hc r) .ret env H:=by
 cases h;exact R1 s a (Lr π hpre hH hπ hE)
theorem Cl{env:Env}{e b:β}(h:some e=some b)(π:List Nat)(a:π.take h0=List.range h0:=by exact rfl)
  (hH:π.map (λp=>H[p]?)=((H' e).map (Q5 (rho π H.length))).map some:=by exact rfl)(hπ:π.Nodup:=by decide)(hE:QbM (rho π H.length) env (E' e):=by(repeat' (first|exact trivial|refine⟨rfl,?_⟩))):Qlq h0 b E' H' Q .normal env H:=by
 cases h;exact Lr π a hH hπ hE
def plC(cat:List Nat):List (List (Nat×Nat)):=cat.map λc=>match c with|0=>[(0,0)]|1=>[(0,1)]|2=>[(1,1)]|_=>[(0,0),(1,1)]
def rqC(b:Nat)(cat:List Nat):List (List Nat):=cat.map λc=>match c with|2=>[b]|_=>[]
def hsC(cat:List Nat):List Bool:=cat.map λc=>match c with|1=>true|_=>false
section
variable {P:Program} {T:TyX} {h0 N m b:Nat} {cat:List Nat} {l:List Oper} {ds:List Nat} {env:Env} {H H1:Qc} {Q:QR} {K:List Oper->Env->Qc->Prop}
theorem Qiz{P:Program}{N:Nat}{l:List Oper}{ds:List Nat}{xs:List A}{env0:Env}{hB hE:Nat}:∀(ss:List (List (Qc×Qc))) (b:Nat),(∀i s,ss[i]?=some s->∀p∈s,JP P N l ds xs env0 hB hE (b+i) p.1 p.2)->QiA P N l ds xs env0 hB hE b ss
 |[],b,h=>.nil
 |s::ss,b,h=>.cons (h 0 s rfl) (Qiz ss (b+1) λi s' hs=>by rw[show b+1+i=b+(i+1)by omega];simp_all)
def Dob(P:Program)(N:Nat)(cat:List Nat)(l:List Oper)(ds:List Nat)(env:Env)(H H1:Qc)(zs:List A)(j:Nat):Prop:=
 ∀p∈(plC cat).getD j [],JP P N l ds zs env H.length H.length j ([H,H1].getD p.1 []) ([H,H1].getD p.2 [])
def DB(P:Program)(N m:Nat)(cat:List Nat)(l:List Oper)(ds:List Nat)(env:Env)(H H1:Qc)(K:List Oper->Env->Qc->Prop)(r:List Oper)(xs:List A):Prop:=
 r=l.drop xs.length->∃ys,xs.length+ys.length=m/\(∀j,xs.length<=j->j<m->Dob P N cat l ds env H H1 (xs++ys) j)/\K (l.drop m) (Qat ds (xs++ys) env) H1
def DA(P:Program)(N m:Nat)(cat:List Nat)(l:List Oper)(ds:List Nat)(env:Env)(H:Qc)(K:List Oper->Env->Qc->Prop)(r:List Oper)(xs:List A):Prop:=
 r=l.drop xs.length->∃ys H1,xs.length+ys.length=m/\H.length<=H1.length/\(∀j,xs.length<=j->j<m->Dob P N cat l ds env H H1 (xs++ys) j)/\K (l.drop m) (Qat ds (xs++ys) env) H1
theorem Qq9{d:List A}(f:cat.length=m)(h:∀j,0<=j->j<m->Dob P N cat l ds env H H1 d j):QiA P N l ds d env H.length (H.length+0) 0 ((plC cat).map λq=>q.map λp=>([H,H1].getD p.1 [],[H,H1].getD p.2 [])):=by
 refine Qiz _ 0 λi s a p r=>?_;rw[Xo]at a;cases e:(plC cat)[i]? with
 |none=>grind
 |some q=>
  rw[e]at a;cases a;obtain⟨g,k,rfl⟩:=Xf.1 r;have n:i<m:=by
   grind[plC]
  have:=h i (XR _) n g (by grind)
  grind
theorem DA.len(a:H.length<=H1.length):[H,H1].all (λX=>Nat.ble (H.length+0) X.length)=true:=by
 simp_all
theorem Qpp(m b:Nat)(cat:List Nat)(g:P.follows .mixedOrders=true)(n:Qex l m N (Qbj m 0 l) (hsC cat) (rqC b cat) [[],[b]] (plC cat)=true)(f:Nat.beq cat.length m=true)(d:Nat.ble h0 H.length=true)
  (h:DA P N m cat l (Qbj m 0 l) env H (λr e H=>WO P h0 N l.toArray r e H Q) l []):TC P h0 N (.region id l.toArray true) env H Q:=by
 obtain⟨k,H1,q,p,j,i⟩:=h rfl;have a:=XN f;exact YS m 0 _ _ _ _ _ k [H,H1] H1 g n (by grind) rfl d (DA.len p) (by simp) rfl (Qq9 a j) (by simp[plC,a]) i
theorem Qbk{xs:List A}{o:Oper}(d:o::r=l.drop xs.length):l[xs.length]?=some o/\r=l.drop (xs.length+1):=by
 have a:xs.length<l.length:=by
  grind[List.drop_eq_nil_of_le]
 rw[Xp a]at d
 grind
theorem QiF{zs:List A}{j c:Nat}(d:Y8 cat j=some c)(h:∀p∈match c with|0=>[(0,0)]|1=>[(0,1)]|2=>[(1,1)]|_=>[(0,0),(1,1)],JP P N l ds zs env H.length H.length j ([H,H1].getD p.1 []) ([H,H1].getD p.2 [])):Dob P N cat l ds env H H1 zs j:=by
 intro p a
 grind[QaB,plC]
theorem Qay{hB hE:Nat}{xs a:List A}{o:Oper}{x:A}{X X':Qc}(e:l[xs.length]?=some o)(hdd:Qar hB hE X X'=true)(h:WO P X.length N l.toArray [o] (Ym (Qn o) 0 ds xs env) X (Jc (up (Ym (Qn o) 0 ds xs env) d x) X'))(f:o.dst=some d):
  JP P N l ds (xs++x::a) env hB hE xs.length X X':=
 .woE o _ d x e f Qjm (he:=by
  intro s;rcases Ql5 (af:=Qn o) (env0:=env) (s:=s) ds xs (x::a) 0 with⟨j,y,m,k,i,g⟩|q|q
  .grind
  .grind
  grind) (hdd:=hdd) (h:=h)
theorem Jo{n:Nat}{X X':Qc}:Qar n n X X'=true:=by unfold Qar;simp
theorem DA.wo{xs:List A}{o:Oper}{x:A}(h:WO P H.length N l.toArray [o] (Ym (Qn o) 0 ds xs env) H (Jc (up (Ym (Qn o) 0 ds xs env) d x) H))(k:DA P N m cat l ds env H K r (xs++[x]))
  (t:Y8 cat xs.length=some 0:=by exact rfl)(hd:o.dst=some d:=by exact rfl)(hx:Nat.blt xs.length m=true:=by exact rfl):DA P N m cat l ds env H K (o::r) xs:=by
 intro u;obtain⟨f,n⟩:=Qbk u;obtain⟨w,H1,g,e,i,a⟩:=k (by grind);simp[Vc,Vb]at g i a;refine⟨x::w,H1,by grind,e,λj z y=>?_,a⟩;rcases Vw xs.length j with q|q
 .grind
 .obtain rfl:j=xs.length:=by omega
  refine QiF t λp s=>?_;obtain rfl:=Vv.1 s;exact Qay f Jo h hd
theorem DA.op{xs:List A}{o:Oper}{x:A}(h:WO P H.length N l.toArray [o] (Ym (Qn o) 0 ds xs env) H (Jc (up (Ym (Qn o) 0 ds xs env) d x) H1))(k:DB P N m cat l ds env H H1 K r (xs++[x]))(hl:Nat.ble H.length H1.length=true:=by exact rfl)
  (hc:Y8 cat xs.length=some 1:=by exact rfl)(hd:o.dst=some d:=by exact rfl)(hx:Nat.blt xs.length m=true:=by exact rfl):DA P N m cat l ds env H K (o::r) xs:=by
 intro s;obtain⟨e,i⟩:=Qbk s;obtain⟨t,f,g,a⟩:=k (by grind);simp[Vc,Vb]at f g a;refine⟨x::t,H1,by grind,(by simp_all),λj w u=>?_,a⟩;rcases Vw xs.length j with q|q
 .grind
 .obtain rfl:j=xs.length:=by omega
  refine QiF hc λp n=>?_;obtain rfl:=Vv.1 n;exact Qay e Jo h hd
theorem QbH{xs:List A}{o:Oper}{x x':A}{H1':Qc}(h:OpH P o (Ym (Qn o) 0 ds xs env) H x H1)(a:foA x=.mk x')(e:foH H1=.mk H1')(k:DB P N m cat l ds env H H1' K r (xs++[x']))(f:o.dst=some d:=by exact rfl)(hg:Y5 ⟨l⟩ o (Ym (Qn o) 0 ds xs env)=some true:=by exact rfl)(hN:Nat.blt d N=true:=by exact rfl)(hl:Nat.ble H.length H1'.length=true:=by exact rfl)
  (hc:Y8 cat xs.length=some 1:=by exact rfl)(hx:Nat.blt xs.length m=true:=by exact rfl):DA P N m cat l ds env H K (o::r) xs:=by
 rw[Qh1]at a;rw[QkG]at e;cases a;cases e;exact .op (Jj (XQ _) (QT hg) f hN h (WO.nil Jc.mk)) k hl hc f hx
theorem DB.done{xs:List A}(a:Nat.beq xs.length m=true)(h:K r (Qat ds xs env) H1):DB P N m cat l ds env H H1 K r xs:=by
 intro g;have e:=XN a;refine⟨[],by simpa using e,λj d f=>by omega,?_⟩
 grind
theorem DB.add{xs:List A}{o:Oper}{x:A}(g:∀ys,l[xs.length]?=some o->Dob P N cat l ds env H H1 (xs++x::ys) xs.length)(k:DB P N m cat l ds env H H1 K r (xs++[x])):DB P N m cat l ds env H H1 K (o::r) xs:=by
 intro a;obtain⟨f,d⟩:=Qbk a;obtain⟨ys,h,i,e⟩:=k (by grind)
 grind
theorem DB.wo1{xs:List A}{o:Oper}{x:A}(h:WO P H1.length N l.toArray [o] (Ym (Qn o) 0 ds xs env) H1 (Jc (up (Ym (Qn o) 0 ds xs env) d x) H1))(k:DB P N m cat l ds env H H1 K r (xs++[x]))
  (f:Y8 cat xs.length=some 2:=by exact rfl)(hd:o.dst=some d:=by exact rfl):DB P N m cat l ds env H H1 K (o::r) xs:=
 .add (λg a=>QiF f λp e=>by
  obtain rfl:=Vv.1 e;exact Qay a Jo h hd) k
theorem DB.wo2{xs:List A}{o:Oper}{x:A}(h:WO P H.length N l.toArray [o] (Ym (Qn o) 0 ds xs env) H (Jc (up (Ym (Qn o) 0 ds xs env) d x) H))(g:WO P H1.length N l.toArray [o] (Ym (Qn o) 0 ds xs env) H1 (Jc (up (Ym (Qn o) 0 ds xs env) d x) H1))(k:DB P N m cat l ds env H H1 K r (xs++[x]))
  (f:Y8 cat xs.length=some 3:=by exact rfl)(hd:o.dst=some d:=by exact rfl):DB P N m cat l ds env H H1 K (o::r) xs:=
 .add (λi e=>QiF f λp a=>by
  rcases X0.1 a with rfl|a
  .exact Qay e Jo h hd
  .obtain rfl:=Vv.1 a;exact Qay e Jo g hd) k
def QiW(T:TyX)(N m:Nat)(cat:List Nat)(l:List Oper)(ds:List Nat)(env:Env)(H:Qc):Nat->Nat->List Oper->List A->Option (List Oper×List A)
 |0,_,r,xs=>some (r,xs)
 |_+1,_,[],_=>none
 |n+1,i,o::r,xs=>match Nat.blt i m,Y8 cat i with
  |true,some 0=>match o.dst with
   |none=>none
   |some d=>match Nat.blt d N with
    |false=>none
    |true=>match Y5 ⟨l⟩ o (Ym (Qn o) 0 ds xs env)with
     |none=>none
     |some false=>match QcY xs (.tup [])with
      |.mk xs'=>QiW T N m cat l ds env H n (i+1) r xs'
     |some true=>match QdJ T o (Ym (Qn o) 0 ds xs env) H with
      |none=>none
      |some x=>match QcY xs x with
       |.mk xs'=>QiW T N m cat l ds env H n (i+1) r xs'
  |_,_=>none
theorem Qfn(hT:Qbn P T):∀(n i:Nat) {r r':List Oper} {xs xs':List A},i=xs.length->QiW T N m cat l ds env H n i r xs=some (r',xs')->DA P N m cat l ds env H K r' xs'->DA P N m cat l ds env H K r xs
 |0,i,r,r',xs,xs',_,h,k=>by cases h;exact k
 |n+1,i,[],r',xs,xs',_,h,k=>by cases h
 |n+1,i,o::r,r',xs,xs',hi,h,k=>by
  subst hi;unfold QiW at h;split at h
  .rename_i q1 q0;split at h
   .cases h
   .rename_i d hd;split at h
    .cases h
    .rename_i q2;split at h
     .cases h
     .rename_i hw;simp[Jp]at h;exact .wo (WO.skip (QT hw) hd q2 (WO.nil Jc.mk)) (Qfn hT n _ (by simp) h k) q0 hd q1
     .rename_i hw;split at h
      .cases h
      .rename_i x hv;simp[Jp]at h;exact .wo (QM (QT hw) hd q2 (Qau hT hv) (WO.nil Jc.mk)) (Qfn hT n _ (by simp) h k) q0 hd q1
  .cases h
theorem Qpy{p:Bx}{r:Lx}(h:ptX [] p=some r):ptX H p=some r:=by
 unfold ptX at h⊢
 grind[Y8]
theorem Qe8{o:Oper}{e:Env}{x:A}(h:QdJ T o e []=some x):QdJ T o e H=some x:=by
 unfold QdJ at h⊢;split at h<;>first|exact h|skip
 split at h
 .cases h
 grind[Qpy]
def Qfm(T:TyX)(N:Nat)(cat:List Nat)(l:List Oper)(ds:List Nat)(env:Env)(H1:Qc):Nat->Nat->List Oper->List A->Option (List Oper×List A)
 |0,_,r,xs=>some (r,xs)
 |_+1,_,[],_=>none
 |n+1,i,o::r,xs=>match o.dst with
  |none=>none
  |some d=>match Nat.blt d N with
   |false=>none
   |true=>match Y5 ⟨l⟩ o (Ym (Qn o) 0 ds xs env)with
    |none=>none
    |some false=>match Y8 cat i with
     |some 2=>(match QcY xs (.tup [])with
      |.mk xs'=>Qfm T N cat l ds env H1 n (i+1) r xs')
     |some 3=>(match QcY xs (.tup [])with
      |.mk xs'=>Qfm T N cat l ds env H1 n (i+1) r xs')
     |_=>none
    |some true=>match Y8 cat i with
     |some 2=>(match QdJ T o (Ym (Qn o) 0 ds xs env) H1 with
      |none=>none
      |some x=>match QcY xs x with
       |.mk xs'=>Qfm T N cat l ds env H1 n (i+1) r xs')
     |some 3=>(match QdJ T o (Ym (Qn o) 0 ds xs env) []with
      |none=>none
      |some x=>match QcY xs x with
       |.mk xs'=>Qfm T N cat l ds env H1 n (i+1) r xs')
     |_=>none
theorem QbW(hT:Qbn P T):∀(n i:Nat) {r r':List Oper} {xs xs':List A},i=xs.length->Qfm T N cat l ds env H1 n i r xs=some (r',xs')->DB P N m cat l ds env H H1 K r' xs'->DB P N m cat l ds env H H1 K r xs
 |0,i,r,r',xs,xs',_,h,k=>by cases h;exact k
 |n+1,i,[],r',xs,xs',_,h,k=>by cases h
 |n+1,i,o::r,r',xs,xs',hi,h,k=>by
  subst hi;unfold Qfm at h;split at h
  .cases h
  .rename_i d hd;split at h
   .cases h
   .rename_i q2;split at h
    .cases h
    .rename_i hw;split at h
     .rename_i q0;simp[Jp]at h;exact .wo1 (WO.skip (QT hw) hd q2 (WO.nil Jc.mk)) (QbW hT n _ (by simp) h k) q0 hd
     .rename_i q0;simp[Jp]at h;exact .wo2 (WO.skip (QT hw) hd q2 (WO.nil Jc.mk)) (WO.skip (QT hw) hd q2 (WO.nil Jc.mk)) (QbW hT n _ (by simp) h k) q0 hd
     .cases h
    .rename_i hw;split at h
     .rename_i q0;split at h
      .cases h
      .rename_i x hv;simp[Jp]at h;exact .wo1 (QM (QT hw) hd q2 (Qau hT hv) (WO.nil Jc.mk)) (QbW hT n _ (by simp) h k) q0 hd
     .rename_i q0;split at h
      .cases h
      .rename_i x hv;simp[Jp]at h;exact .wo2 (QM (QT hw) hd q2 (Qau hT (Qe8 hv)) (WO.nil Jc.mk)) (QM (QT hw) hd q2 (Qau hT (Qe8 hv)) (WO.nil Jc.mk)) (QbW hT n _ (by simp) h k) q0 hd
     .cases h
end
def chkF(L:List (Nat×List (Nat×Nat)))(fs:List (Nat×Nat×Nat)):Bool:=
 fs.all λe=>match QbR L e.1 with
  |some pl=>(match Y8 pl e.2.1 with
   |some q=>Nat.beq q.1 e.2.2&& !(Nat.beq q.2 0)
   |none=>false)
  |none=>false
theorem PL.get{fs:List Field}{a:List (Nat×Nat)}(h:PL P fs a):∀{f off n:Nat},Y8 a f=some (off,n)->∃fd,fs[f]?=some fd/\fd.offset=off/\ ∀w,(sizeOf fd.type).run P w=.ok n w:=by
 induction h with
 |nil=>intro f off n h;cases h
 |cons h k e=>
  intro f off n d;cases f with
  |zero=>cases d;grind
  |succ f=>grind[Y8]
theorem QqQ{L:List (Nat×List (Nat×Nat))}{fs:List (Nat×Nat×Nat)}(l:∀e∈L,Qd6 P e.1 e.2)(h:chkF L fs=true):∀e∈fs,∃n,QL P e.1 e.2.1 e.2.2 n:=by
 intro e g;have:=Xs.1 h e g;split at this
 .rename_i t a;split at this
  .rename_i q r;obtain⟨d,n⟩:=q;simp only[XT,Bool.not_eq_true']at this;have m:=XN this.1;obtain⟨p,j,s⟩:=l _ (Qav a);obtain⟨k,u,f,i⟩:=PL.get s r;refine⟨n,⟨⟨_,k,j,by grind,f.trans m,i,?_⟩⟩⟩
   grind[Nat.beq_refl]
  .cases this
 .cases this
section
variable {P:Program} {Z:TyZ} {h0 N:Nat} {all:Array Oper} {o:Oper} {l:List Oper} {env:Env} {H:Qc} {Q:QR} {d:Nat}
theorem Cdz(j:QcG P Z){r:γ}{f:Nat}{args a:List A}{w:β->A}{Hr:β->Qc}(π:List Nat)(h:F.bind F'=some r)(n:∀v,F=some v->C P f a Hc (RQ w Hr v))
  (e:QgG Z o env=some (d,f,args))(g:∀v,F=some v->F' v=some r->WO P h0 N all l (up env d (Y7 (rho π H.length) (w v))) (Yx H π ((Hr v).map (Q5 (rho π H.length)))) Q)
  (hargs:args=Qai (rho π H.length) a)(hH:π.map (λp=>H[p]?)=(Hc.map (Q5 (rho π H.length))).map some)(hπ:π.Nodup)(hg:Y5 all o env=some true)(m:Nat.blt d N=true)(q:Nat.ble h0 H.length=true):WO P h0 N all (o::l) env H Q:=by
 obtain⟨v,k,t⟩:=YM h;obtain⟨s,i⟩:=Qe0 (H:=H) j e;refine QD π i (n v k) ?_ hargs hH hπ (QT hg) s m q
 grind
end
inductive FLL where
 |mk (l:List (List A))
def cpLL(sel:List Nat):List (List A)->FLL
 |[]=>.mk []
 |a::r=>match cpL sel a,cpLL sel r with
  |.mk a',.mk r'=>.mk (a'::r')
inductive FBk where
 |mk (b:Blk)
def cpBk(sel:List Nat):Blk->FBk
 |.cells t cs=>match cpL sel cs with
  |.mk l=>.mk (.cells t l)
 |.rowr t k es=>match cpLL sel es with
  |.mk l=>.mk (.rowr t k l)
 |.wins t a n c=>match Qkx sel ixL a with
  |.mk a'=>.mk (.wins t a' n c)
 |.ents t a b es=>match Qkx sel ixL a,Qkx sel ixL b with
  |.mk a',.mk b'=>.mk (.ents t a' b' es)
 |b=>.mk b
def selD(H:Qc)(sel:List Nat):List Nat->FB
 |[]=>.mk []
 |a::r=>match Y8 H a with
  |some b=>(match cpBk sel b,selD H sel r with
   |.mk b',.mk l=>.mk (b'::l))
  |none=>.mk []
def retC(sel sl:List Nat)(env:Env)(H:Qc):Option (Env×Qc):=
 match Qoa sel env sl [],selD H sel sel with
 |.mk e,.mk h=>some (e,h)
theorem Rx{fn:Func}{env E':Env}{H':Qc}{Qr:A->Qc->Prop}{e:A}(π sl:List Nat)(_:retC π sl env H=some (E',H'))(d:QcH P fn E' H' e)(f:Qr e H')(a:π.take h0=List.range h0:=by exact rfl)
  (hH:π.map (λp=>H[p]?)=(H'.map (Q5 (rho π H.length))).map some:=by exact rfl)(hπ:π.Nodup:=by decide)(hE:QbM (rho π H.length) env E':=by(repeat' (first|exact trivial|refine⟨rfl,?_⟩))):QaC P h0 fn Qr .ret env H:=
 ⟨E',H',e,Lr π a hH hπ hE,d,f⟩
variable {T:Type}
def nxL:List T->T->List T->Prop:=λl x rem=>l=x::rem
def QhK{S T B:Type}(step:S->T->Option (Ctl S B)):List T->S->Option (Ctl S B)
 |[],s=>some (.cont s)
 |x::l,s=>(step s x).bind λd=>match d with
  |.cont s'=>QhK step l s'
  |.done b=>some (.done b)
def QcC{S T B:Type}(step:S->Option (List T×Ctl S B)):Nat->S->Option (List T×B)
 |0,_=>none
 |n+1,s=>(step s).bind λp=>match p.2 with
  |.cont s'=>(QcC step n s').bind λq=>some (p.1++q.1,q.2)
  |.done b=>some (p.1,b)
variable {B:Type}
def Qo5(h1:Nat)(env:Env)(Q:QR)(d:Ctl S B)(Hp:S->Qc):QR
 |.normal,env',H'=>∃s,d=.cont s/\Le h1 env' H' [] (Hp s)
 |.exit id,env',H'=>(∃b,d=.done b)/\ ∃H2,Le h1 env' H' [] H2/\Q (.exit id) env H2
 |.ret,env',H'=>(∃b,d=.done b)/\ ∃H2,Le h1 env' H' [] H2/\Q .ret env H2
theorem QlA{S B:Type}{h1:Nat}{env:Env}{H':Qc}{s:S}{d:Ctl S B}{Hp:S->Qc}(e:some (Ctl.cont s)=some d)(h:Le h1 env' H' [] (Hp s)):Qo5 h1 env Q d Hp .normal env' H':=⟨s,(Oi e).symm,h⟩
theorem Qhs{r:Operand}{ps:List Nat}{assign body:Code}{env:Env}{f:FuncId}{a g:List A}{T B:Type}{enc:T->List A}{xs:List T}{step:S->T->Option (Ctl S B)}{u:S}{D:Ctl S B}
  (π:List Nat)(Hp:S->Qc)(h:QhK step xs u=some D)(m:Qit P f g Hc enc nxL xs)(n:∀x,(enc x).length=ps.length)(J:∀args w,(callFunc f args).run P w=.ok (.enter f args) w)
  (V:Nat.ble h0 H.length=true)(hg:opA env r=.fn (.func f) [] a)(hargs:a=Qai (rho π H.length) g)(hH:π.map (λp=>H[p]?)=(Hc.map (Q5 (rho π H.length))).map some)(hπ:π.Nodup)(y:(ps.all λp=>Nat.blt p N)=true)
  (i:Le H.length env (Qem H π) env (Hp u))
  (k:∀s x d,step s x=some d->(∀b,d=.done b->D=.done b)->TC P H.length N assign (QnF ps (enc x) env) (Hp s) λe env1 H1=>e=.normal/\TC P H.length N body env1 H1 (Qo5 H.length env Q d Hp))
  (j:∀s,D=.cont s->Q .normal env (Hp s)):TC P h0 N (.rangeFunc r ps.toArray assign body) env H Q:=by
 refine TC.rangeFunc π Hp (λs l=>QhK step l s=some D) u (by simp_all) hg hargs hH hπ y J m n i h ?_ ?_
 .rintro s l x rem t rfl;obtain⟨d,R,t⟩:=YM t;refine(k s x d R ?_).mono ?_
  .grind
  .rintro e env1 H1 ⟨G,O⟩;refine⟨G,O.mono ?_⟩;intro M F H2 q;cases M with
   |normal=>
    obtain⟨E,rfl,i⟩:=q;exact⟨Hp E,i,E,t,rfl⟩
   |exit id=>
    obtain⟨_,H3,z,q⟩:=q;exact⟨H3,z,q⟩
   |ret=>
    obtain⟨_,H3,z,q⟩:=q;exact⟨H3,z,q⟩
 .intro s L;exact j s (Oi L).symm
section
variable {T:Type} {X:Ctx T} {P:Program} {h0 N:Nat} {c:Code} {env:Env} {H:Qc} {st:YSt T} {Q:YN T}
def Qgv(h0:Nat)(E:S->Env)(Hp:S->Qc)(d:Ctl S B)(rest:List T)(Q:YN T):YN T
 |.normal,env,H,st=>∃s,d=.cont s/\Le h0 env H (E s) (Hp s)/\st=.on rest
 |.exit id,env,H,st=>Q (.exit id) env H st
 |.ret,env,H,st=>Q .ret env H st
theorem Qnf{S B:Type}{step:S->Option (List T×Ctl S B)}{E:S->Env}{Hp:S->Qc}{m:Nat}{i:S}{l rem:List T}{b:B}(h:QcC step m i=some (l,b))(u:Le h0 env H (E i) (Hp i))
  (body:∀s zs d rest,step s=some (zs,d)->(∀b',d=.done b'->b'=b/\rest=rem)->TCy X P h0 N c (E s) (Hp s) (.on (zs++rest)) (Qgv h0 E Hp d rest Q)):TCy X P h0 N (.loop c) env H (.on (l++rem)) Q:=by
 refine Qhr (I:=λn env H t=>∃s f,QcC step n s=some (f,b)/\t=.on (f++rem)/\Le h0 env H (E s) (Hp s)) ?_ ⟨i,l,h,rfl,u⟩;rintro n env H t ⟨s,f,a,rfl,j⟩;cases n with
 |zero=>cases a
 |succ n=>
  obtain⟨⟨zs,d⟩,r,a⟩:=YM a;refine Qgi j ?_;cases d with
  |cont y=>
   obtain⟨⟨F,G⟩,w,a⟩:=YM a;cases a;rw[Vc];refine(body s zs (.cont y) (F++rem) r (λb' e=>by cases e)).mono ?_;rintro x g H' p q;cases x with
   |normal=>
    obtain⟨z,e,k,rfl⟩:=q;cases e;exact⟨n,Xn n,_,_,w,rfl,k⟩
   |exit id=>exact q
   |ret=>exact q
  |done b'=>
   cases a;refine(body s _ (.done b) rem r (λb' e=>by cases e;exact⟨rfl,rfl⟩)).mono ?_;rintro x g H' p q;cases x with
   |normal=>obtain⟨z,e,_⟩:=q;cases e
   |exit id=>exact q
   |ret=>exact q
def kqY(X:Ctx T)(P:Program)(h0 N:Nat):List Kf->YN T->YN T
 |[],Q=>Q
 |.seq c::k,Q=>SeqY X P h0 N c (kqY X P h0 N k Q)
 |.blo id::k,Q=>BloY id (kqY X P h0 N k Q)
 |.unr c::k,Q=>λ_ _ _ _=>False
@[reducible] def HdY(X:Ctx T)(P:Program)(h0 N:Nat):Cf->List Kf->Env->Qc->YSt T->YN T->Prop
 |.code c,k,env,H,st,Q=>TCy X P h0 N c env H st (kqY X P h0 N k Q)
 |.ops all l,k,env,H,st,Q=>WOy X P h0 N all l env H st (kqY X P h0 N k Q)
 |.out x,k,env,H,st,Q=>kqY X P h0 N k Q x env H st
def Qqc:Cf->List Kf->Bool
 |.code (.loop _),_=>false
 |.out _,.unr _::_=>false
 |_,_=>true
theorem QnH{Tx:TyX}(i:Qbn P Tx){c f:Cf}{k d:List Kf}{env:Env}{H':Qc}(h:QgL Tx h0 N c k env H=some (f,d,env',H'))(a:Qqc c k=true)(g:HdY X P h0 N f d env' H' st Q):HdY X P h0 N c k env H st Q:=by
 unfold QgL at h;split at h
 .cases h;exact TCy.seq g
 .cases h;exact TCy.block g
 .cases a
 .cases h;exact TCy.skip g
 .cases h;exact TCy.ret g
 .cases h;exact TCy.exit g
 .cases h;exact TCy.region g
 .grind[TCy.cond,QP]
 .cases h;exact WOy.nil g
 .split at h
  .rename_i q;cases h;exact WOy.step (QnL i q (WO.nil ⟨rfl,g⟩))
  .cases h
 .cases h;exact g
 .cases h;exact g
 .cases h;exact g
 .cases h;exact g
 .split at h
  .rename_i q;have e:=XN q;show(bif Nat.beq _ _ then _ else _)
   grind
  .show(bif Nat.beq _ _ then _ else _)
   grind
 .cases h;exact g
 .cases a
 .cases a
 .cases a
 .cases h
def Qks(Tx:TyX)(h0 N:Nat):Nat->Cf->List Kf->Env->Qc->Option (Cf×List Kf×Env×Qc)
 |0,c,k,env,H=>some (c,k,env,H)
 |n+1,c,k,env,H=>match Qqc c k with
  |true=>(match QgL Tx h0 N c k env H with
   |some (c',k',env',H')=>Qks Tx h0 N n c' k' env' H'
   |none=>none)
  |false=>none
theorem Qc7{Tx:TyX}(hT:Qbn P Tx):∀(n:Nat) {c c':Cf} {k k':List Kf} {env env':Env} {H H':Qc},Qks Tx h0 N n c k env H=some (c',k',env',H')->HdY X P h0 N c' k' env' H' st Q->HdY X P h0 N c k env H st Q
 |0,c,c',k,k',env,env',H,H',h,g=>by cases h;exact g
 |n+1,c,c',k,k',env,env',H,H',h,g=>by
  unfold Qks at h;split at h
  .rename_i hn;split at h
   .rename_i e;exact QnH hT e hn (Qc7 hT n h g)
   .cases h
  .cases h
theorem TCy.lf{k:List Kf}(h:TC P h0 N c env H (λx env H=>kqY X P h0 N k Q x env H st)):TCy X P h0 N c env H st (kqY X P h0 N k Q):=TCy.lift h
theorem Qk6{all:Array Oper}{o:Oper}{x:T}{l:List T}{e:T->A}{z:Operand}{g:Array TypeId}(hE:X.enc=λx=>[e x])(h:X.nx=nxL)(a:o.op=.call {callee:=.value y,args:= #[z],argTypes:=g})(f:opA env y=.fn (.yield X.l) [] [])(j:opA env z=e x)(i:YJ (e x)=true)
  (m:WOy X P h0 N all r (up env d (.bool true)) H (.on l) Q)(k:WOy X P h0 N all r (up env d (.bool false)) H (.off l) Q)(hg:Qw all o env true:=by exact rfl)(hd:o.dst=some d:=by exact rfl)(hNd:Nat.blt d N=true:=by exact rfl):WOy X P h0 N all (o::r) env H (.on (x::l)) Q:=by
 refine WOy.yield (by rw[h];rfl) hg hd hNd ?_ ?_
 .rw[hE];exact QiI a f j i
 grind
theorem WOy.y2{all:Array Oper}{o:Oper}{x:T}{l:List T}{g h:T->A}{j k:Operand}{n:Array TypeId}(hE:X.enc=λx=>[g x,h x])(p:X.nx=nxL)(m:o.op=.call {callee:=.value y,args:= #[j,k],argTypes:=n})(q:opA env y=.fn (.yield X.l) [] [])(e:opA env j=g x)(f:opA env k=h x)(i:YJ (g x)=true)(a:YJ (h x)=true)
  (t:WOy X P h0 N all r (up env d (.bool true)) H (.on l) Q)(s:WOy X P h0 N all r (up env d (.bool false)) H (.off l) Q)(hg:Qw all o env true:=by exact rfl)(hd:o.dst=some d:=by exact rfl)(hNd:Nat.blt d N=true:=by exact rfl):WOy X P h0 N all (o::r) env H (.on (x::l)) Q:=by
 refine WOy.yield (by rw[p];rfl) hg hd hNd ?_ ?_
 .rw[hE];exact Qms m q e f i a
 grind
end
variable {R:Type}
def yl(x:T)(k:Option (List T×R)):Option (List T×R):=k.bind λp=>some (x::p.1,p.2)
def ap(a:Option (List T×B))(k:B->Option (List T×R)):Option (List T×R):=a.bind λp=>(k p.2).bind λq=>some (p.1++q.1,q.2)
theorem QnB{T R:Type}{x:T}{k:Option (List T×R)}{a:List T}{v:R}(h:yl x k=some (a,v)):∃zs,k=some (zs,v)/\a=x::zs:=by
 obtain⟨⟨zs,d⟩,e,f⟩:=YM h
 grind
theorem Qqj{T B R:Type}{a:Option (List T×B)}{k:B->Option (List T×R)}{d:List T}{v:R}(h:ap a k=some (d,v)):∃y1 b y2,a=some (y1,b)/\k b=some (y2,v)/\d=y1++y2:=by
 obtain⟨⟨y1,b⟩,g,e⟩:=YM h;obtain⟨⟨y2,j⟩,i,f⟩:=YM e
 grind
section
variable {T:Type} {X:Ctx T} {P:Program} {h0 N:Nat} {c c':Code} {env:Env} {H:Qc} {st:YSt T} {Q:YN T}
def Qpq(h0:Nat)(b:β)(E':β->Env)(H':β->Qc)(rem:List T)(Q:YN T):YN T
 |.normal,env,H,st=>Le h0 env H (E' b) (H' b)/\st=.on rem
 |.exit id,env,H,st=>Q (.exit id) env H st
 |.ret,env,H,st=>Q .ret env H st
theorem QjY(b:β)(rem:List T)(sel keep:List Nat)(nE:β->Env)(nH:β->List (Nat×Blk))(_:∀b,QkZ sel keep (nE b) (nH b) env H=some (E' b,H' b))(h:TCy X P h0 N c env H st (Qpq h0 b E' H' rem Q))(k:∀env H,Le h0 env H (E' b) (H' b)->Q .normal env H (.on rem)):TCy X P h0 N c env H st Q:=
 h.mono λx env' H' st' q=>by
  cases x with
  |normal=>obtain⟨q1,rfl⟩:=q;grind
  |exit id=>exact q
  |ret=>exact q
theorem Qqh{b:β}{rem:List T}(h:Le h0 env H (E' b) (H' b)):Qpq h0 b E' H' rem Q .normal env H (.on rem):=⟨h,rfl⟩
theorem QoP{b:β}{rem:List T}(h:Q .ret env H st):Qpq h0 b E' H' rem Q .ret env H st:=h
theorem Qo0{B:Type}{step:S->Option (List T×Ctl S B)}{E':S->Env}{H':S->Qc}{m:Nat}{s0:S}{ys rem:List T}{b:B}(sel keep:List Nat)(nE:S->Env)(nH:S->List (Nat×Blk))(h:QcC step m s0=some (ys,b))(_:∀s,QkZ sel keep (nE s) (nH s) env H=some (E' s,H' s))(hI:Le h0 env H (E' s0) (H' s0))
  (body:∀s zs d rest,step s=some (zs,d)->(∀b',d=.done b'->b'=b/\rest=rem)->TCy X P h0 N c (E' s) (H' s) (.on (zs++rest)) (Qgv h0 E' H' d rest Q)):TCy X P h0 N (.loop c) env H (.on (ys++rem)) Q:=Qnf h hI body
theorem QcS{S B:Type}{E':S->Env}{H':S->Qc}{s:S}{d:Ctl S B}{zs rest:List T}(e:some ([],Ctl.cont s)=some (zs,d))(h:Le h0 env H (E' s) (H' s)):Qgv h0 E' H' d rest Q .normal env H (.on (zs++rest)):=by
 cases e;exact⟨s,rfl,h,rfl⟩
theorem Qn6{S B:Type}{E':S->Env}{H':S->Qc}{d:Ctl S B}{rest:List T}(h:Q (.exit id) env H st):Qgv h0 E' H' d rest Q (.exit id) env H st:=h
theorem QkA{S B:Type}{E':S->Env}{H':S->Qc}{d:Ctl S B}{rest:List T}(h:Q .ret env H st):Qgv h0 E' H' d rest Q .ret env H st:=h
theorem Oy{S B:Type}{d:Ctl S B}{x b:B}{zs rest rem:List T}(a:∀b',d=.done b'->b'=b/\rest=rem)(h:some ([],Ctl.done x)=some (zs,d)):zs=[]/\b=x/\rest=rem:=by
 grind
theorem QeC{f:FuncId}{fn:Func}{c:Code}{a:List A}{enc:T->List A}{xs:List T}(i:P.funcs[f]?=some fn)(e:fn.body=some c)(d:fn.ntmps=N)(g:Nat.ble (a.length+1) N=true)(j:fn.results= #[])
  (h:∀X,X.enc=enc->X.nx=nxL->TCy X P H.length N c (Qew 0 (.fn (.yield X.l) [] []::a)) H (.on (xs++[])) EndY):Qit P f a H enc nxL xs:=by
 grind[QdA]
end
open Go.MapKept
section
variable {fr ro:Nat->Prop} {U:Sig} {H:Qc} {w:World}
end
end Go.Sw
namespace Go.Sw
open Go.MapKept
def QbN{α β:Type}(ek:α->A)(ev:β->List A)(l:List (α×Option (List β))):List (A×Option (List (List A))):=l.map λp=>(ek p.1,p.2.map (List.map ev))
def QlF{α β:Type}[DecidableEq α](l:List (α×Option (List β)))(x:α):List (α×Option (List β)):=l.map λp=>bif decide (p.1=x)then(p.1,none)else p
section
variable {P:Program} {kt:TypeId} {α β:Type} [DecidableEq α] {ek:α->A} {ev:β->List A} {ro:Nat->Prop} {w:World} {t k:Nat} (K:Jd P kt ek)
include K
theorem Qmj{x:α}:∀{l:List (α×Option (List β))} {es:List MapEntry},MO ro w t k (QbN ek ev l) es->MO ro w t k (QbN ek ev (QlF l x)) es
 |[],es,h=>h
 |p::l,es,h=>by
  obtain⟨e,l',rfl,h1,h2,h3⟩:=h;by_cases q:p.1=x
  .refine⟨e,l',rfl,by grind,λrows hr=>?_,Qmj h3⟩
   grind
  .refine⟨e,l',rfl,by grind,(by grind),Qmj h3⟩
omit K
theorem Qd8{x:α}{c:Nat}:∀{l:List (α×Option (List β))} {es:List MapEntry},QeP (QbN ek ev (QlF l x)) es c->QeP (QbN ek ev l) es c
 |[],es,h=>by cases es<;>exact h.elim
 |p::l,[],h=>h.elim
 |p::l,e::es,h=>by
  rcases h with⟨h1,h2⟩|h
  .by_cases q:p.1=x
   .grind
   .exact .inl ⟨by grind,h2⟩
  .exact .inr (Qd8 h)
theorem Qny{x:α}:∀{l:List (α×Option (List β))} {es:List MapEntry},Qlm (QbN ek ev l) es->Qlm (QbN ek ev (QlF l x)) es
 |[],es,h=>by cases es<;>trivial
 |p::l,[],h=>trivial
 |p::l,e::es,h=>by
  obtain⟨h1,h2⟩:=h;refine⟨λc q1 q2 q3=>?_,Qny h2⟩;by_cases q:p.1=x
  .grind
  .exact h1 c (by grind) q2 (Qd8 q3)
include K
theorem MO.find:∀{l:List (α×Option (List β))} {es:List MapEntry},MO ro w t k (QbN ek ev l) es->∀(x:α),(es.map (·.key)).Nodup->
  ((∀e:MapEntry,e∈es->e.key≠QW (ek x))->YQ l x=none)/\
  (∀(j:Nat) (e:MapEntry),es[j]?=some e->e.key=QW (ek x)->∃q,YQ l x=some q/\(∀rows,q=some rows->SO ro w t k (rows.map ev) e.val)/\
   ∀c p n cap,q.isSome=true->e.val=.slice (some ⟨c,p,none⟩) n cap->QeP (QbN ek ev l) es c/\(Qlm (QbN ek ev l) es->¬QeP (QbN ek ev (QlF l x)) es c))
 |[],es,h,x,_=>by
  cases(show es=[]from h);exact⟨λ_=>rfl,(by simp)⟩
 |p::l,es,h,x,hn=>by
  obtain⟨e0,l',rfl,h1,h2,h3⟩:=h;have hk:=VR.val (K.scl _) h1;simp only[Vd,List.nodup_cons]at hn;obtain⟨a1,a2⟩:=MO.find (l:=l) h3 x hn.2;by_cases hp:p.1=x
  .subst hp;constructor
   .grind
   .intro j e he hx;cases j with
    |zero=>
     simp only[XC,Option.some.injEq]at he;subst he;refine⟨p.2,by simp[YQ],(by grind),λc p' n cap hs hv=>⟨.inl (by grind),λhd hq=>?_⟩⟩;rcases hq with⟨q1,_⟩|hq
     .simp at q1
     .exact hd.1 c (by grind) ⟨p',n,cap,hv⟩ (Qd8 (l:=l) hq)
    |succ j=>
     grind
  .have e1:YQ (p::l) x=YQ l x:=by simp[YQ,hp]
   rw[e1];constructor
   .grind
   .intro j e he hx;cases j with
    |zero=>
     simp only[XC,Option.some.injEq]at he;subst he;exact absurd (K.inj _ _ (hk.symm.trans hx)) hp
    |succ j=>
     obtain⟨q,m,f,g⟩:=a2 j e (by grind) hx;refine⟨q,m,f,λc p' n cap hs hv=>?_⟩;obtain⟨a,i⟩:=g c p' n cap hs hv;refine⟨.inr a,λhd hq=>?_⟩;rcases hq with⟨q1,d⟩|hq
     .exact hd.1 c (by grind) d a
     .exact i hd.2 hq
end
section
variable {P:Program} {o:Oper} {env:Env} {H:Qc}
variable {T kt et:Nat} {α β:Type} [DecidableEq α] {ek:α->A} {ev:β->List A} {x y:Operand} {i t k:Nat} {l:List (α×Option (List β))} {key:α} {rows:List β}
end
end Go.Sw
namespace Go.Sw
open Go.MapKept
theorem MO.append{ro:Nat->Prop}{w:World}{t k:Nat}:∀{l m:List (A×Option (List (List A)))} {es fs:List MapEntry},MO ro w t k l es->MO ro w t k m fs->MO ro w t k (l++m) (es++fs)
 |[],m,es,fs,h,q=>by cases(show es=[]from h);exact q
 |p::l,m,es,fs,h,q=>by
  obtain⟨e,l',rfl,h1,h2,h3⟩:=h;exact⟨e,l'++fs,rfl,h1,h2,MO.append h3 q⟩
theorem MO.length{ro:Nat->Prop}{w:World}{t k:Nat}:∀{l:List (A×Option (List (List A)))} {es:List MapEntry},MO ro w t k l es->es.length=l.length
 |[],es,h=>by cases(show es=[]from h);rfl
 |p::l,es,h=>by
  obtain⟨e,l',rfl,h1,h2,h3⟩:=h;simp[MO.length h3]
def SlB(v:Value)(c:Nat):Prop:=∃p n cap,v=.slice (some ⟨c,p,none⟩) n cap
section
variable {P:Program} {kt:TypeId} {α β:Type} [DecidableEq α] {ek:α->A} {ev:β->List A} {ro:Nat->Prop} {w:World} {t k:Nat} (K:Jd P kt ek)
def QdQ{α β:Type}[DecidableEq α](l:List (α×Option (List β)))(x:α)(rows:List β):List (α×Option (List β)):=l.map λp=>bif decide (p.1=x)then(p.1,some rows)else p
include K
theorem QgY{x:α}{rows:List β}:∀{l:List (α×Option (List β))} {es:List MapEntry},MO ro w t k (QbN ek ev l) es->(∀e∈es,e.key≠QW (ek x))->QdQ l x rows=l
 |[],es,h,q=>rfl
 |p::l,es,h,q=>by
  obtain⟨e,l',rfl,h1,h2,h3⟩:=h;have hk:=VR.val (K.scl _) h1;have hp:p.1≠x:=(by grind);have:=QgY h3 (λe he=>q e (by simp[he])) (rows:=rows)
  simp_all[QdQ]
theorem MO.put{x:α}{rows:List β}{v:Value}(m:SO ro w t k (rows.map ev) v):∀{l:List (α×Option (List β))} {es:List MapEntry} {j:Nat} {e:MapEntry},MO ro w t k (QbN ek ev l) es->
  (es.map (·.key)).Nodup->es[j]?=some e->e.key=QW (ek x)->
  MO ro w t k (QbN ek ev (QdQ l x rows)) (es.modify j λe=>{e with key:=QW (ek x),val:=v})/\
  (∀c,QeP (QbN ek ev (QdQ l x rows)) (es.modify j λe=>{e with key:=QW (ek x),val:=v}) c->QeP (QbN ek ev l) es c\/SlB v c)/\
  (Qlm (QbN ek ev l) es->(∀c,QeP (QbN ek ev l) es c->¬SlB v c)->Qlm (QbN ek ev (QdQ l x rows)) (es.modify j λe=>{e with key:=QW (ek x),val:=v}))
 |[],es,j,e,h,hn,he,hk=>by cases(show es=[]from h);simp at he
 |p::l,es,j,e,h,hn,he,hk=>by
  obtain⟨e0,l',rfl,h1,h2,h3⟩:=h;have hk0:=VR.val (K.scl _) h1;simp only[Vd,List.nodup_cons]at hn;cases j with
  |zero=>
   simp[XC,Option.some.injEq]at he;subst he;have hp:=K.inj _ _ (hk0.symm.trans hk);have e0':QdQ l x rows=l:=QgY K h3 λe he z=>hn.1 (by rw[hk, <- z];exact VA he);have e1:QdQ (p::l) x rows=(p.1,some rows)::l:=by
    have:QdQ (p::l) x rows=(p.1,some rows)::QdQ l x rows:=by simp[QdQ,hp]
    rw[this,e0']
   rw[e1];refine⟨⟨_,l',rfl,?_,?_,h3⟩,?_,?_⟩
   .rw[<- hp];exact Qca (K.scl _)
   .intro d y;cases y;exact m
   .rintro c (⟨_,q⟩|q)
    .exact .inr q
    .exact .inl (.inr q)
   .rintro⟨n,f⟩ a;exact⟨λc _ q z=>a c (.inr z) q,f⟩
  |succ j=>
   have hp:p.1≠x:=by
    intro q;refine hn.1 (Xf.2 ⟨e,VB he,?_⟩);rw[hk,hk0,q]
   obtain⟨s,i,u⟩:=MO.put m h3 hn.2 he hk;have e1:QdQ (p::l) x rows=p::QdQ l x rows:=by simp[QdQ,hp]
   rw[e1];refine⟨⟨_,_,rfl,h1,h2,s⟩,?_,?_⟩
   .rintro c (q|q)
    .exact .inl (.inl q)
    .exact(i c q).imp .inr id
   .rintro⟨n,f⟩ a;refine⟨λc r g z=>?_,u f λc B=>a c (.inr B)⟩;rcases i c z with z|z
    .exact n c r g z
    .exact a c (.inl ⟨r,g⟩) z
end
section
variable {P:Program} {o:Oper} {env:Env} {H:Qc}
variable {T kt et:Nat} {α β:Type} [DecidableEq α] {ek:α->A} {ev:β->List A} {x y zz:Operand} {i j t k n:Nat} {l m:List (α×Option (List β))} {key:α} {rows:List β}
end
end Go.Sw
namespace Go.Sw
open Go.MapKept
section
variable {fr ro:Nat->Prop} {U:Sig} {H:Qc} {w:World}
theorem MO.er{t k:Nat}:∀{es:List (A×Option (List (List A)))} {l:List MapEntry},MO ro w t k es l->ER ro [] w (es.map λe=>(e.1,.any)) l
 |[],_,h=>h
 |x::r,_,⟨e,l',h1,h2,h3,h4⟩=>⟨e,l',h1,h2,trivial,MO.er h4⟩
end
section
variable {P:Program} {o:Oper} {env:Env} {H:Qc} {T kt et i t k:Nat} {x:Operand} {es:List (A×Option (List (List A)))}
end
section
variable {P:Program} {o:Oper} {env:Env} {H:Qc}
variable {T kt et:Nat} {α β:Type} [DecidableEq α] {ek:α->A} {ev:β->List A} {x y zz:Operand} {i j t k n:Nat} {l m:List (α×Option (List β))} {key:α} {rows:List β}
end
end Go.Sw
namespace Go.Sw
open Go.MapKept
section
variable {P:Program} {o:Oper} {env:Env} {H:Qc}
variable {T kt et:Nat} {α β:Type} [DecidableEq α] {ek:α->A} {ev:β->List A} {x y zz:Operand} {i j t k n:Nat} {l m:List (α×Option (List β))} {key:α} {rows:List β}
end
end Go.Sw
namespace Go.Sw
abbrev Kat:=List (Nat×Nat×Nat)
def QnE:Nat->Nat->List (Nat×Nat)
 |lo,0=>[(lo,lo)]
 |lo,n+1=>(lo,lo)::QnE (lo+1) n
def rgK(p:Nat×Nat×Nat):List (Nat×Nat):=bif Nat.beq p.1 1 then[(p.2.1,p.2.1+1)]else QnE p.2.1 (p.2.2-p.2.1)
def plK(cat:Kat):List (List (Nat×Nat)):=cat.map rgK
def rqK(bs:List Nat)(cat:Kat):List (List Nat):=cat.map λp=>bs.take p.2.1
def hsK(cat:Kat):List Bool:=cat.map λp=>Nat.beq p.1 1
def msK(bs:List Nat):List (List Nat):=(List.range (bs.length+1)).map bs.take
theorem QhE:∀(n lo:Nat),∀p∈QnE lo n,p.1=p.2
 |0,lo,p,h=>by cases h with|head=>rfl|tail _ h=>cases h
 |n+1,lo,p,h=>by
  rcases X0.1 h with rfl|h
  .rfl
  .exact QhE n _ p h
variable {Zs:List Qc}{hi:Nat}
section
variable {P:Program} {T:TyX} {h0 N m:Nat} {bs:List Nat} {cat:Kat} {l:List Oper} {ds:List Nat} {env:Env} {H:Qc} {Hs:List Qc} {Q:QR} {K:List Oper->Env->Qc->Prop}
def DobK(P:Program)(N:Nat)(cat:Kat)(l:List Oper)(ds:List Nat)(env:Env)(n:Nat)(Hs:List Qc)(zs:List A)(j:Nat):Prop:=
 ∀p∈(plK cat).getD j [],JP P N l ds zs env n n j (Hs.getD p.1 []) (Hs.getD p.2 [])
def DK(P:Program)(N m:Nat)(bs:List Nat)(cat:Kat)(l:List Oper)(ds:List Nat)(env:Env)(n:Nat)(K:List Oper->Env->Qc->Prop)(Hs:List Qc)(X:Qc)(r:List Oper)(xs:List A):Prop:=
 r=l.drop xs.length->∃ys Zs Y,xs.length+ys.length=m/\Hs.length+Zs.length=bs.length/\((∀Z∈Zs,n<=Z.length)/\(Hs.reverse++X::Zs).getD bs.length []=Y)/\(∀j,xs.length<=j->j<m->DobK P N cat l ds env n (Hs.reverse++X::Zs) (xs++ys) j)/\K (l.drop m) (Qat ds (xs++ys) env) Y
theorem Qq8{d:List A}{n:Nat}(f:cat.length=m)(h:∀j,0<=j->j<m->DobK P N cat l ds env n Zs d j):QiA P N l ds d env n (n+0) 0 ((plK cat).map λq=>q.map λp=>(Zs.getD p.1 [],Zs.getD p.2 [])):=by
 refine Qiz _ 0 λi s a p t=>?_;rw[Xo]at a;cases e:(plK cat)[i]? with
 |none=>grind
 |some q=>
  rw[e]at a;cases a;obtain⟨g,k,rfl⟩:=Xf.1 t;have r:i<m:=by
   grind[plK]
  have:=h i (XR _) r g (by grind)
  grind
theorem Qpn{id:Nat}(m:Nat)(d:List Nat)(cat:Kat)(j:P.follows .mixedOrders=true)(p:Qex l m N (Qbj m 0 l) (hsK cat) (rqK d cat) (msK d) (plK cat)=true)(g:Nat.beq cat.length m=true)(f:Nat.ble h0 H.length=true)
  (h:DK P N m d cat l (Qbj m 0 l) env H.length (λr e H=>WO P h0 N l.toArray r e H Q) [] H l []):TC P h0 N (.region id l.toArray true) env H Q:=by
 obtain⟨n,Zs,Y,s,u,t,k,q⟩:=h rfl;have a:=XN g;have i:(msK d).length=d.length+1:=by simp[msK]
 refine YS m 0 _ _ _ _ _ n (H::Zs) Y j p (by grind) (by simp_all) f ?_ (by simp) (by grind) (Qq8 a k) (by simp[plK,a]) q
 simp_all
variable {n:Nat} {X X1:Qc} {xs:List A} {o:Oper} {r:List Oper} {x:A} {d:Nat}
theorem DK.done(a:Nat.beq xs.length m=true)(d:Nat.beq Hs.length bs.length=true)(h:K r (Qat ds xs env) X):DK P N m bs cat l ds env n K Hs X r xs:=by
 intro g;have e:=XN a;have i:=XN d;refine⟨[],[],X,by simpa using e,by omega,⟨(λZ hZ=>by cases hZ),?_⟩,λj k f=>by omega,?_⟩
 .grind
 grind
theorem DK.add(s:∀ys Zs,l[xs.length]?=some o->DobK P N cat l ds env n (Hs.reverse++X::Zs) (xs++x::ys) xs.length)(k:DK P N m bs cat l ds env n K Hs X r (xs++[x])):DK P N m bs cat l ds env n K Hs X (o::r) xs:=by
 intro h;obtain⟨q,i⟩:=Qbk h;obtain⟨ys,Zs,Y,f,d,g,e,a⟩:=k (by grind);simp[Vc,Vb]at f e a;refine⟨x::ys,Zs,Y,by grind,d,g,λj t p=>?_,a⟩
 grind
theorem Qe4{zs:List A}{j:Nat}{c:Nat×Nat×Nat}(d:Y8 cat j=some c)(h:∀p∈rgK c,JP P N l ds zs env n n j (Zs.getD p.1 []) (Zs.getD p.2 [])):DobK P N cat l ds env n Zs zs j:=by
 intro p a
 grind[QaB,plK]
theorem QpF{c:Nat}(a:Nat.beq c Hs.length=true):(Hs.reverse++X::Zs).getD c []=X:=by
 simp_all
theorem DK.wo{c:Nat}(h:WO P X.length N l.toArray [o] (Ym (Qn o) 0 ds xs env) X (Jc (up (Ym (Qn o) 0 ds xs env) d x) X))(k:DK P N m bs cat l ds env n K Hs X r (xs++[x]))
  (e:Y8 cat xs.length=some (0,c,c):=by exact rfl)(hd:o.dst=some d:=by exact rfl)(hcH:Nat.beq c Hs.length=true:=by exact rfl):DK P N m bs cat l ds env n K Hs X (o::r) xs:=
 .add (λys Zs ho=>Qe4 e λp a=>by
  have:=by
   change p∈QnE c (c-c)at a;rw[Nat.sub_self]at a;exact Vv.1 a
  grind[QpF,Qay,Jo]) k
theorem DK.wa{lo:Nat}(h:∀X,WO P X.length N l.toArray [o] (Ym (Qn o) 0 ds xs env) X (Jc (up (Ym (Qn o) 0 ds xs env) d x) X))(k:DK P N m bs cat l ds env n K Hs X r (xs++[x]))
  (f:Y8 cat xs.length=some (0,lo,hi):=by exact rfl)(hd:o.dst=some d:=by exact rfl):DK P N m bs cat l ds env n K Hs X (o::r) xs:=
 .add (λys Zs ho=>Qe4 f λp a=>by
  have e:=QhE _ _ p a
  grind[Qay,Jo]) k
theorem DK.op{c u:Nat}(h:WO P X.length N l.toArray [o] (Ym (Qn o) 0 ds xs env) X (Jc (up (Ym (Qn o) 0 ds xs env) d x) X1))(k:DK P N m bs cat l ds env n K (X::Hs) X1 r (xs++[x]))(hl:Nat.ble n X1.length=true:=by exact rfl)
  (hc:Y8 cat xs.length=some (1,c,u):=by exact rfl)(hd:o.dst=some d:=by exact rfl)(hcH:Nat.beq c Hs.length=true:=by exact rfl):DK P N m bs cat l ds env n K Hs X (o::r) xs:=by
 intro y;obtain⟨E,t⟩:=Qbk y;obtain⟨z,Zs,Y,s,g,e,i,f⟩:=k (by grind);simp only[XY,XW,List.length_nil,Vc,VE,Vb,List.reverse_cons]at s g e i f;refine⟨x::z,X1::Zs,Y,by grind,by grind,⟨λZ a=>?_,e.2⟩,λj F B=>?_,f⟩
 .rcases X0.1 a with rfl|a
  .simp_all
  grind
 .rcases Vw xs.length j with q|q
  .grind
  .obtain rfl:j=xs.length:=by omega
   refine Qe4 hc λp w=>?_;have:p=(c,c+1):=Vv.1 w
   grind[Nat.eq_of_beq_eq_true,Qay,Jo]
def Qfl(T:TyX)(N m:Nat)(cat:Kat)(l:List Oper)(ds:List Nat)(env:Env)(n:Nat):Nat->Nat->Nat->List Qc->Qc->List Oper->List A->Option (List Qc×List Oper×List A)
 |0,_,_,Hs,X,r,xs=>some (Hs,r,xs)
 |_+1,_,_,_,_,[],_=>none
 |k+1,i,j,Hs,X,o::r,xs=>match o.dst with
  |none=>none
  |some d=>match Nat.blt d N with
   |false=>none
   |true=>match Y5 ⟨l⟩ o (Ym (Qn o) 0 ds xs env)with
    |none=>none
    |some false=>(match QcY xs (.tup [])with
      |.mk xs'=>match Y8 cat i with
       |some (0,_,_)=>Qfl T N m cat l ds env n k (i+1) j Hs X r xs'
       |some (1,c,_)=>(match Nat.beq c j,Nat.ble n X.length with
        |true,true=>Qfl T N m cat l ds env n k (i+1) (j+1) (X::Hs) X r xs'
        |_,_=>none)
       |_=>none)
    |some true=>match Y8 cat i with
     |some (0,lo,hi)=>(match QdJ T o (Ym (Qn o) 0 ds xs env) []with
      |some x=>(match QcY xs x with
       |.mk xs'=>Qfl T N m cat l ds env n k (i+1) j Hs X r xs')
      |none=>match Nat.beq lo hi,Nat.beq lo j with
       |true,true=>(match QdJ T o (Ym (Qn o) 0 ds xs env) X with
        |none=>none
        |some x=>match QcY xs x with
         |.mk xs'=>Qfl T N m cat l ds env n k (i+1) j Hs X r xs')
       |_,_=>none)
     |_=>none
theorem QbV(hT:Qbn P T):∀(k i j:Nat) {Hs Hs':List Qc} {r r':List Oper} {xs xs':List A},i=xs.length->j=Hs.length->Qfl T N m cat l ds env n k i j Hs X r xs=some (Hs',r',xs')->DK P N m bs cat l ds env n K Hs' X r' xs'->DK P N m bs cat l ds env n K Hs X r xs
 |0,i,j,Hs,Hs',r,r',xs,xs',_,_,h,k=>by cases h;exact k
 |k0+1,i,j,Hs,Hs',[],r',xs,xs',_,_,h,k=>by cases h
 |k0+1,i,j,Hs,Hs',o::r,r',xs,xs',hi,hj,h,k=>by
  subst hi hj;unfold Qfl at h;split at h
  .cases h
  .rename_i d hd;split at h
   .cases h
   .rename_i q2;split at h
    .cases h
    .rename_i hw;simp[Jp]at h;split at h
     .rename_i lo hi' q0;exact .wa (λX=>WO.skip (QT hw) hd q2 (WO.nil Jc.mk)) (QbV hT k0 _ _ (by simp) rfl h k) q0 hd
     .rename_i c c' q0;split at h
      .rename_i q1 q3;exact .op (WO.skip (QT hw) hd q2 (WO.nil Jc.mk)) (QbV hT k0 _ _ (by simp) (by simp) h k) q3 q0 hd q1
      .cases h
     .cases h
    .rename_i hw;split at h
     .rename_i lo hi' q0;split at h
      .rename_i x hv;simp[Jp]at h;exact .wa (λX=>QM (QT hw) hd q2 (Qau hT (Qe8 hv)) (WO.nil Jc.mk)) (QbV hT k0 _ _ (by simp) rfl h k) q0 hd
      .split at h
       .rename_i q1 q3;split at h
        .cases h
        .rename_i x hv;simp[Jp]at h;obtain rfl:=XN q1;exact .wo (QM (QT hw) hd q2 (Qau hT hv) (WO.nil Jc.mk)) (QbV hT k0 _ _ (by simp) rfl h k) q0 hd q3
       .cases h
     .cases h
theorem DK.v(h:OpV P o (Ym (Qn o) 0 ds xs env) X x)(k:DK P N m bs cat l ds env n K Hs X r (xs++[x])){c:Nat}(hg:Y5 ⟨l⟩ o (Ym (Qn o) 0 ds xs env)=some true:=by exact rfl)
  (hd:o.dst=some d:=by exact rfl)(hN:Nat.blt d N=true:=by exact rfl)(hc:Y8 cat xs.length=some (0,c,c):=by exact rfl)(hcH:Nat.beq c Hs.length=true:=by exact rfl):DK P N m bs cat l ds env n K Hs X (o::r) xs:=
 .wo (QM (QT hg) hd hN h (WO.nil Jc.mk)) k hc hd hcH
def allV(T:TyX)(o:Oper)(e:Env)(x:A):Nat->List Qc->Prop
 |0,_=>True
 |k+1,Y::r=>QdJ T o e Y=some x/\allV T o e x k r
 |_+1,[]=>False
theorem Qlu:∀(n lo:Nat),∀p∈QnE lo n,lo<=p.1/\p.1<=lo+n
 |0,lo,p,h=>by cases h with|head=>omega|tail _ h=>cases h
 |n+1,lo,p,h=>by
  rcases X0.1 h with rfl|h
  .omega
  .have:=Qlu n _ p h;omega
def allW(P:Program)(N:Nat)(l:List Oper)(o:Oper)(e:Env)(d:Nat)(x:A):Nat->List Qc->Prop
 |0,_=>True
 |k+1,Y::r=>WO P Y.length N l.toArray [o] e Y (Jc (up e d x) Y)/\allW P N l o e d x k r
 |_+1,[]=>False
theorem Qmf{e:Env}:∀{k:Nat} {r:List Qc},allW P N l o e d x k r->∀j,j<k->WO P (r.getD j []).length N l.toArray [o] e (r.getD j []) (Jc (up e d x) (r.getD j []))
 |0,_,_,j,hj=>(by omega)
 |k+1,[],h,_,_=>h.elim
 |k+1,Y::r,h,0,_=>h.1
 |k+1,Y::r,h,j+1,hj=>by
  have:=Qmf h.2 j (by omega)
  grind
theorem Qkg{lo:Nat}(h:allW P N l o (Ym (Qn o) 0 ds xs env) d x (hi+1-lo) (X::Hs))(k:DK P N m bs cat l ds env n K Hs X r (xs++[x]))
  (q:Y8 cat xs.length=some (0,lo,hi):=by exact rfl)(hd:o.dst=some d:=by exact rfl)(hcH:Nat.beq hi Hs.length=true:=by exact rfl)(hle:Nat.ble lo hi=true:=by exact rfl):DK P N m bs cat l ds env n K Hs X (o::r) xs:=
 .add (λys Zs ho=>Qe4 q λp f=>by
  have e:=QhE _ _ p f;have a:=XO hle;have hb:=Qlu (hi-lo) lo p f;have g:=XN hcH;rw[<- e];have j:=Qmf h (Hs.length-p.1) (by omega);have i:(Hs.reverse++X::Zs).getD p.1 []=(X::Hs).getD (Hs.length-p.1) []:=by
   grind
  rw[i];exact Qay ho Jo j hd) k
theorem DK.vs(i:Qbn P T){lo:Nat}(h:allV T o (Ym (Qn o) 0 ds xs env) x (hi+1-lo) (X::Hs))(k:DK P N m bs cat l ds env n K Hs X r (xs++[x]))
  (j:Y8 cat xs.length=some (0,lo,hi))(f:o.dst=some d)(e:Nat.beq hi Hs.length=true)(hg:Y5 ⟨l⟩ o (Ym (Qn o) 0 ds xs env)=some true)(g:Nat.blt d N=true)(a:Nat.ble lo hi=true):DK P N m bs cat l ds env n K Hs X (o::r) xs:=by
 refine Qkg ?_ k j f e a;generalize hi+1-lo=c at h;generalize X::Hs=L at h
 induction c generalizing L with
 |zero=>trivial
 |succ c p=>
  cases L with
  |nil=>exact h.elim
  |cons Y L=>exact⟨QM (QT hg) f g (Qau i h.1) (WO.nil Jc.mk),p L h.2⟩
end
def room(n:Int):Option Nat:=bif decide (0<n)&&decide (n<=4294967296)then some n.toNat else none
section
variable {P:Program} {o:Oper} {env:Env} {H:Qc}
theorem Qlk{h0 i:Nat}{x x':Blk}(hH:H[i]?=some x)(e:x=x'):Le h0 env H env (H.set i x'):=by
 grind[List.set_getElem_self,Le.refl]
theorem RL.put{ro:Nat->Prop}{U:Sig}{w:World}{k:Nat}:∀{a:Nat} {es fs:List (List A)} {l m:List Value},RL ro U w k es l->a+fs.length<=es.length->Sw.allK k fs->LR ro U w fs.flatten m->(∀v∈m,Qy v)->
  RL ro U w k (es.take a++fs++es.drop (a+fs.length)) (Sw.splice l (a*k) m)
 |0,es,[],l,m,h,hn,hk,hm,hp=>by
  obtain rfl:m=[]:=hm;simpa[Sw.splice]using h
 |0,[],f::fs,l,m,h,hn,hk,hm,hp=>by simp at hn
 |0,c::es,f::fs,l,m,⟨l1,l2,h1,h2,h3,h4⟩,hn,hk,hm,hp=>by
  subst h1;have hl1:=h3.1.length;have hml:=hm.length;rw[Vf,XY]at hml;have e1:m.take k++m.drop k=m:=Xx _ _;have q1:LR ro U w f (m.take k):=by have:=hm.take k;rwa [Vf,X2 (by rw[hk.1];omega),VC (by rw[hk.1];omega)]at this
  have q2:=by have:=hm.drop k;rwa [Vf,X3 (by rw[hk.1];omega),List.drop_of_length_le (by rw[hk.1];omega),Vb]at this
  have e:=RL.put (a:=0) h4 (by grind) hk.2 q2 (λv d=>hp v (List.mem_of_mem_drop d));simp only[List.take_zero,Vb,Xu,Nat.zero_mul,Sw.splice]at e⊢;refine⟨m.take k,m.drop k++l2.drop (m.drop k).length,?_,hk.1,⟨q1,λv d=>hp v (List.mem_of_mem_take d)⟩,by simp_all⟩;have g:k<=m.length:=by rw[hml,hk.1];omega
  rw[<- Vc,e1];congr 1
  grind[List.drop_length_add_append]
 |a+1,[],fs,l,m,h,hn,hk,hm,hp=>by simp at hn
 |a+1,c::es,fs,l,m,⟨l1,l2,h1,h2,h3,h4⟩,hn,hk,hm,hp=>by
  subst h1;have hl1:=h3.1.length;have e:=RL.put (a:=a) h4 (by simp at hn;omega) hk hm hp;refine⟨l1,Sw.splice l2 (a*k) m,?_,h2,h3,?_⟩
  .have e1:(a+1)*k=l1.length+a*k:=by rw[Xm];omega
   unfold Sw.splice;rw[e1,X6,show l1.length+a*k+m.length=l1.length+(a*k+m.length)from by omega,X5];simp
  .have i:a+1+fs.length=(a+fs.length)+1:=by omega
   simpa[i]using e
def SrcP(P:Program)(H:Qc)(x:A)(k:Nat)(es:List (List A)):Prop:=
 ∀fr ro U w v,Sim fr ro U H w->VR ro U w x v->(∃a c,v=.slice a es.length c)/\
  ∀j,j<=es.length->allK k (es.take j)/\ ∃l,(Builtin.firstCells k j v).run P w=.ok l.toArray w/\LR ro [] w (es.take j).flatten l/\ ∀v∈l,Qy v
theorem Qkr{fr ro:Nat->Prop}{U:Sig}{w:World}{k j b off n c:Nat}{es:List (List A)}(h:RR ro [] w b k es off)(d:j<=es.length):
  allK k (es.take j)/\ ∃l,(Builtin.firstCells k j (.slice (some ⟨b,off,none⟩) n c)).run P w=.ok l.toArray w/\LR ro [] w (es.take j).flatten l/\ ∀v∈l,Qy v:=by
 obtain⟨i,e,a⟩:=(h.take j).flat;rw[Xw,Xz d]at a;obtain⟨l,g,f⟩:=Qcg (c:=c) i a;exact⟨e,l,(g w rfl),f⟩
theorem Qfi{k n c:Nat}{a:Option Addr}{w:World}:(Builtin.firstCells k 0 (.slice a n c)).run P w=.ok #[] w:=by
 cases a<;>simp[go_sem]
theorem SrcP.osl{i s n k t:Nat}{es es':List (List A)}(hH:H[i]?=some (.row t k es))(he:(es.drop s).take n=es')(B:s+n<=es.length):SrcP P H (.osl i s n k) k es':=by
 intro fr G U w v sm h;have x:es'.length=n:=by grind
 rcases h with⟨rfl,rfl⟩|⟨b,p,a,J,m,u,rfl,z,⟨F,g⟩,E,L⟩
 .have e:es'=[]:=(by grind);subst e;refine⟨⟨none,0,rfl⟩,λj f=>?_⟩;obtain rfl:j=0:=by omega
  exact⟨trivial,[],Qfi,rfl,by simp⟩
 .rw[x];refine⟨⟨_,a,rfl⟩,λj f=>?_⟩;obtain⟨l,q,r⟩:=sm.blk i _ _ u hH;have d:=((Y4 (pre:=[]) (by simpa using q) r).drop s).take n;rw[he]at d;by_cases y:0<a
  .obtain rfl:=z y;simpa using Qkr (fr:=fr) (U:=U) d (by omega)
  .obtain rfl:j=0:=by omega
   exact⟨trivial,[],Qfi,rfl,by simp⟩
end
open Go.MapKept
section
variable {fr ro ro':Nat->Prop} {U:Sig} {H:Qc} {w:World}
end
end Go.Sw
namespace Go.Sw
theorem gd20{α:Type}{n:Int}{x:Option α}{r:α}(h:(bif decide (n<20)then x else none)=some r):decide (20<=n)=false/\decide (20<n)=false/\x=some r:=by
 grind
variable {α:Type}
def Qg2(l:List α)(o:Option (List α)):Option (List α):=o.bind λr=>bif Nat.beq l.length r.length then some r else none
variable {l r:List α}
theorem Qjh{o:Option (List α)}(h:Qg2 l o=some r):o=some r/\l.length=r.length:=by
 cases o with
 |none=>cases h
 |some x=>
  have a:(bif Nat.beq l.length x.length then some x else none)=some r:=h;cases q:Nat.beq l.length x.length with
  |false=>grind
  |true=>
   simp_all
theorem QfC{o:Option (List α)}(h:Qg2 l o=some r):o=some r:=(Qjh h).1
theorem QmH{o:Option (List α)}(h:Qg2 l o=some r):l.length=r.length:=(Qjh h).2
section
variable {P:Program} {o:Oper} {env:Env} {H:Qc} {α:Type} {e:α->List A}
end
open Go.MapKept
section
variable {P:Program} {o:Oper} {env:Env} {H:Qc}
theorem Qlg{T:Nat}(f:o.op=.makeMap T none:=by exact rfl):OpH P o env H (.map H.length) (H++[.mapP []]):=by
 intro e d U N a w r;refine⟨.map (some w.heap.size),w.alloc (.map #[] 0),d,[some w.heap.size],?_,⟨w.heap.size,?_,rfl⟩,r.sim.alloc ⟨#[],0,Yk _ _,rfl,by simp,by simp,by simp⟩,Qm.alloc _ r.sim.roLt r.sim.frLt⟩
 .simp_all[execOp,Instr.makeMap]
 .rw[<- r.sim.len];simp
variable {T kt et:Nat} {α β:Type} [DecidableEq α] {ek:α->A} {ev:β->A} {x y:Operand} {i:Nat} {l:List (α×β)} {k:α} {z0:β} {z:Value}
theorem Qc0(K:Jd P kt ek){v:β}(h:YQ l k=some v)(O:P.underlying T=some (.map kt et))
  (J:o.op=.lookup T x y false:=by exact rfl)(hx:opA env x=.map i:=by exact rfl)(hH:H[i]?=some (.mapP (Qo ek ev l)):=by exact rfl)(hy:opA env y=ek k:=by exact rfl):OpV P o env H (ev v):=by
 intro V X U N a w r;have m:=Qh r x;rw[hx]at m;obtain⟨b,u,s⟩:=m;have q:=Qh r y;rw[hy]at q;have B:=VR.val (K.scl _) q;obtain⟨F,d,E,n,Q,R,z⟩:=r.sim.blk i _ _ u hH;obtain⟨L,M⟩:=ER.find K n k z;rcases K.find w k F.toList (QaR K n)with⟨g,f⟩|⟨j,e,g,f,t⟩
 .have:=(L f).1;rw[h]at this;cases this
 .obtain⟨Y,W,p,G⟩:=M j e f t;rw[h]at p;obtain rfl:=XV p;refine⟨e.val,?_,G⟩;simp only[execOp,J,s,B,Instr.lookup,Vg,run_underlying O,Result.andThen,MapKept.run_getObj_map E,Vh,K.check,g];rfl
theorem Qlc(K:Jd P kt ek)(z:YQ l k=none)(L:P.underlying T=some (.map kt et))(M:∀w,(zeroValue et).run P w=.ok (.pointer none) w)
  (G:o.op=.lookup T x y false:=by exact rfl)(hx:opA env x=.map i:=by exact rfl)(hH:H[i]?=some (.mapP (Qo ek ev l)):=by exact rfl)(hy:opA env y=ek k:=by exact rfl):OpV P o env H .nilp:=by
 intro V Y U N a w r;have g:=Qh r x;rw[hx]at g;obtain⟨b,t,q⟩:=g;have p:=Qh r y;rw[hy]at p;have B:=VR.val (K.scl _) p;obtain⟨F,d,E,h,O,Q,u⟩:=r.sim.blk i _ _ t hH;obtain⟨W,J⟩:=ER.find K h k u;rcases K.find w k F.toList (QaR K h)with⟨f,n⟩|⟨j,e,f,n,s⟩
 .refine⟨.pointer none,?_,rfl⟩;simp only[execOp,G,q,B,Instr.lookup,Vg,run_underlying L,Result.andThen,MapKept.run_getObj_map E,Vh,K.check,f,M];rfl
 .obtain⟨u1,X,m,R⟩:=J j e n s;rw[z]at m;cases m
theorem Qns(K:Jd P kt ek){v:β}{zz:Operand}(R:YQ l k=none)(M:P.underlying T=some (.map kt et))
  (G:o.op=.mapUpdate T x y zz:=by exact rfl)(hx:opA env x=.map i:=by exact rfl)(hH:H[i]?=some (.mapP (Qo ek ev l)):=by exact rfl)(hy:opA env y=ek k:=by exact rfl)(hv:opA env zz=ev v:=by exact rfl):
  OpU P o env H (H.set i (.mapP (Qo ek ev (l++[(k,v)])))):=by
 intro W J U N a w r;have q:=Qh r x;rw[hx]at q;obtain⟨b,n,z⟩:=q;have u:=Qh r y;rw[hy]at u;have F:=VR.val (K.scl _) u;have p:=Qh r zz;rw[hv]at p;obtain⟨t,d,s,g,Q,V,E⟩:=r.sim.blk i _ _ n hH;obtain⟨X,Y⟩:=ER.find K g k E;have h:∀(obj:Obj) y,w.shape? b=some y->({w with heap:=w.heap.setIfInBounds b obj}:World).shape? b=some y:=by
  grind[World.shape?]
 rcases K.find w k t.toList (QaR K g)with⟨m,L⟩|⟨j,e,m,L,O⟩
 .have f:=r.sim.set (x':=.mapP (Qo ek ev (l++[(k,v)]))) (obj:=.map (t.push {key:=QW (ek k),val:=a.eval zz,born:=d}) (d+1)) n hH rfl (h _)
   (λe B=>⟨_,_,B,by
    rw[Qo,Xg,Array.toList_push];exact(g.mono e).append ⟨_,_,rfl,(Qca (K.scl _)),p.mono e,rfl⟩,by
    grind,by
    grind,by
    grind⟩)
  refine⟨_,J,[],?_,by grind,f.2⟩;simp only[execOp,G,z,F,Vg,Instr.mapUpdate,run_underlying M,Result.andThen,MapKept.run_getObj_map s,K.check,m,MapKept.run_setObj_map _ s];rfl
 grind
end
section
variable {fr ro:Nat->Prop} {U:Sig} {H:Qc} {w:World}
theorem Sim.shutAny(s:Sim fr ro U H w){i b:Nat}{k:Blk}(hσ:U[i]?=some (some b))(hH:H[i]?=some k)(hl:k.live=true):
  Sim fr (λc=>ro c\/c=b) U (H.set i .dead) w:=by
 have hown:=s.own i b _ hσ hH hl;have ext:Ext ro U w (λc=>ro c\/c=b) U w:=⟨λ_ q=>.inl q,λ_ _=>rfl,λ_ _ q=>q,λ_ _ q=>q⟩;have a:∀(j:Nat) (v:Blk),(H.set i .dead)[j]?=some v->v≠ .dead->j≠i/\H[j]?=some v:=by
  grind
 refine⟨by rw[XZ];exact s.len,s.roOk.to (λ_ q=>.inl q) (λ_ _=>rfl) ?_,s.frLt,?_,?_,?_,?_,s.hidTo (· = ·) Q6 (XQ _) (λj d x c N t G z=>z.elim id λq=>((s.hid j d x c N t G).ne i b _ hσ hH hl q).elim) (λ_ _ _ _ _ _ _ q=>q) λj d y E M u=>.inl ⟨j,y,rfl,E,(a j y M (Qe5 u)).2,id,λ_ q=>q⟩⟩
 .rintro c (q|rfl)
  .exact s.roLt c q
  omega
 .rintro c (q|rfl)
  .exact s.roFr c q
  grind
 .intro j c v g f h;obtain⟨e,f⟩:=a j v f (Qas h);obtain⟨L,J,B⟩:=s.own j c v g f h;refine⟨L,?_,B⟩;rintro(q|rfl)
  .exact J q
  .exact e (s.inj j i c v _ g hσ f hH h hl)
 .intro j r c v p g f h F m n;exact s.inj j r c v p g f (a j v h (Qas m)).2 (a r p F (Qas n)).2 m n
 .intro j y v g f;by_cases l:v≠ .dead
  .exact(s.blk j y v g (a j v f l).2).keep ext (λ_ _ _=>rfl) (λ_ _ _ _=>rfl)
  .obtain rfl:v=.dead:=Classical.not_not.1 l;trivial
def Qb1(H:Qc):List Nat->Qc
 |[]=>H
 |i::l=>Qb1 (H.set i .dead) l
theorem Qg1{l:List Nat}:∀{H:Qc} {j:Nat},j∉l->(Qb1 H l)[j]?=H[j]? :=by
 induction l with
 |nil=>intro H j _;rfl
 |cons i l a=>
  grind[Qb1]
theorem Qd2:∀{l:List Nat} {ro:Nat->Prop} {H:Qc} (s:Sim fr ro U H w),l.Nodup->(∀i∈l,∃x,H[i]?=some x/\x.live=true)->
  ∃ro',Sim fr ro' U (Qb1 H l) w/\(∀c,ro c->ro' c)/\ ∀i∈l,∀b,U[i]?=some (some b)->ro' b
 |[],ro,H,s,_,_=>⟨ro,s,λ_ q=>q,λ_ h=>by cases h⟩
 |i::l,ro,H,s,hn,hl=>by
  rw[List.nodup_cons]at hn;obtain⟨x,hx,hxl⟩:=hl i (by simp);have rest:∀i'∈l,∃x,(H.set i .dead)[i']?=some x/\x.live=true:=by
   grind
  have g:∃q,U[i]?=some q:=by
   have:i<U.length:=by rw[s.len];grind
   simp_all
  obtain⟨q,k⟩:=g;cases q with
  |some b=>
   obtain⟨ro',a,f,j⟩:=Qd2 (s.shutAny k hx hxl) hn.2 rest;refine⟨ro',a,(by grind),λi' d m e=>?_⟩
   grind
  |none=>
   obtain⟨ro',a,f,j⟩:=Qd2 (s.kill i) hn.2 rest;refine⟨ro',a,f,λi' d m e=>?_⟩
   grind
end
end Go.Sw
namespace Go.Sw
structure Fil (α β:Type) where
 number:Int
 r0:List α
 r1:List α
 r2:List α
 reports:List β
 appeal:Bool
 deriving DecidableEq
structure FK (α β:Type) where
 T:Nat
 tF:Nat
 kF:Nat
 tR:Nat
 kR:Nat
 eF:α->List A
 eR:β->List A
section
variable {α β:Type} (K:FK α β)
def QqT(b:Nat)(x:Fil α β):List A:=[.int .i64 x.number,.osl (b+1) 0 x.r0.length K.kF,.osl (b+2) 0 x.r1.length K.kF,.osl (b+3) 0 x.r2.length K.kF,.osl (b+4) 0 x.reports.length K.kR,.bool x.appeal]
def QlV(b:Nat)(x:Fil α β):List Blk:=[.cells K.T (QqT K b x),.row K.tF K.kF (x.r0.map K.eF),.row K.tF K.kF (x.r1.map K.eF),.row K.tF K.kF (x.r2.map K.eF),.row K.tR K.kR (x.reports.map K.eR)]
def fall:Nat->List (Fil α β)->List Blk
 |_,[]=>[]
 |b,x::l=>QlV K b x++fall (b+5) l
def frp(x:Fil α β):List A:=[.int .i64 x.number,.rsl K.kF (x.r0.map K.eF),.rsl K.kF (x.r1.map K.eF),.rsl K.kF (x.r2.map K.eF),.rsl K.kR (x.reports.map K.eR),.bool x.appeal]
def fent:Nat->List (Fil α β)->List (Int×Nat)
 |_,[]=>[]
 |b,x::l=>(x.number,b)::fent (b+5) l
def QeJ(j:Nat):A:=.ptr j 0
def rpE(x:Fil α β):A:=.rp (frp K x)
def QeN(fs:List (Fil α β)):List (Int×Fil α β):=fs.map λx=>(x.number,x)
theorem Qhc(b:Nat)(x:Fil α β)(l:List (Fil α β)):fall K b (x::l)=QlV K b x++fall K (b+5) l:=rfl
theorem QmR(b:Nat)(x:Fil α β):(QlV K b x).length=5:=rfl
end
section
variable {fr ro ro':Nat->Prop} {U:Sig} {w:World}
theorem QaY(sub:∀c,ro c->ro' c){i t k:Nat}{es:List (List A)}{v:Value}(j:∀b,U[i]?=some (some b)->BR ro U w (.row t k es) (some b)/\ro' b)(h:VR ro U w (.osl i 0 es.length k) v):VR ro' [] w (.rsl k es) v:=by
 rcases h with⟨y,h⟩|⟨b,p,a,B,m,n,h,u,⟨d,e⟩,x,E⟩
 .have:es=[]:=(by grind);subst this;exact⟨none,0,h,XQ _,.inl rfl⟩
 .refine⟨_,a,h,d,?_⟩;by_cases g:es=[]
  .exact .inl g
  .right;have z:0<a:=X9 (by grind) d;obtain⟨⟨l,s,f⟩,r⟩:=j b n;refine⟨b,0,by simp,r,?_⟩;have:=Y4 (pre:=[]) (by simpa using s) f;exact this.keep ⟨sub,λ_ _=>rfl,λ_ _ q=>q,λ_ _ q=>q⟩ rfl
theorem QiG{ro:Nat->Prop}{w:World}{b t:Nat}:∀{cs:List A} {pre l:List Value},w.heap[b]?=some (.cells (pre++l).toArray t (0,0))->LR ro [] w cs l->(∀v∈l,Qy v)->CR ro [] w b cs pre.length
 |[],pre,l,_,_,_=>trivial
 |a::cs,pre,l,hb,hl,hp=>by
  obtain⟨v,l',rfl,h1,h2⟩:=hl;refine⟨⟨v,?_,hp v (by simp),h1⟩,?_⟩
  .unfold World.cell?
   grind
  .have:=QiG (pre:=pre++[v]) (by simpa using hb) h2 (by grind)
   grind
variable {α β:Type} (K:FK α β)
theorem Qp1(sub:∀c,ro c->ro' c){b:Nat}{x:Fil α β}{v:Value}(f:∀(d c:Nat) (y:Blk),(QlV K b x)[d]?=some y->U[b+d]?=some (some c)->BR ro U w y (some c)/\ro' c)(h:VR ro U w (.ptr b 0) v):VR ro' [] w (.rp (frp K x)) v:=by
 obtain⟨c,p,u⟩:=h;obtain⟨⟨l,i,a,g⟩,s⟩:=f 0 c _ rfl p;refine⟨c,0,u,s,(QiG (pre:=[]) (by simpa using i) ?_ g)⟩;obtain⟨v0,M,rfl,q,a⟩:=a;obtain⟨n,N,rfl,H,a⟩:=a;obtain⟨t,B,rfl,z,a⟩:=a;obtain⟨r,L,rfl,J,a⟩:=a;obtain⟨k,G,rfl,E,a⟩:=a;obtain⟨m,F,rfl,j,a⟩:=a;refine⟨v0,_,rfl,q,n,_,rfl,QaY sub (λc e=>f 1 c _ rfl e) (by grind),t,_,rfl,QaY sub (λc e=>f 2 c _ rfl e) (by grind),r,_,rfl,QaY sub (λc e=>f 3 c _ rfl e) (by grind),
  k,_,rfl,QaY sub (λc e=>f 4 c _ rfl e) (by grind),m,_,rfl,j,a⟩
theorem Qpk(sub:∀c,ro c->ro' c){ek:Int->A}(hek:∀(k:Int) (v:Value),VR ro U w (ek k) v->VR ro' [] w (ek k) v):∀{b:Nat} {fs:List (Fil α β)} {es:List MapEntry},(∀(d c:Nat) (y:Blk),(fall K b fs)[d]?=some y->U[b+d]?=some (some c)->BR ro U w y (some c)/\ro' c)->
  ER ro U w (Qo ek QeJ (fent b fs)) es->ER ro' [] w (Qo ek (rpE K) (QeN fs)) es
 |b,[],es,_,h=>h
 |b,x::l,es,hb,h=>by
  obtain⟨e,l',rfl,h1,h2,h3⟩:=h;refine⟨e,l',rfl,hek _ _ h1,?_,?_⟩
  .refine Qp1 K sub (λd c y hy hc=>hb d c y ?_ hc) h2
   grind[Qhc]
  .refine Qpk sub hek (λd c y hy hc=>hb (d+5) c y ?_ (by grind)) h3
   grind[Qhc,QmR]
end
section
variable {fr ro:Nat->Prop} {U:Sig} {w:World} {α β:Type} (K:FK α β)
theorem Sim.shutMapP{H:Qc}(s:Sim fr ro U H w){i b:Nat}{es es':List (A×A)}(hσ:U[i]?=some (some b))(hH:H[i]?=some (.mapP es))(he:∀l,ER ro U w es l->ER (λc=>ro c\/c=b) [] w es' l):
  Sim fr (λc=>ro c\/c=b) U (H.set i (.fmap es')) w:=by
 have hown:=s.own i b _ hσ hH rfl;have ext:Ext ro U w (λc=>ro c\/c=b) U w:=⟨λ_ q=>.inl q,λ_ _=>rfl,λ_ _ q=>q,λ_ _ q=>q⟩;have a:∀(j:Nat) (v:Blk),(H.set i (.fmap es'))[j]?=some v->v.live=true->j≠i/\H[j]?=some v:=by
  intro j v h u;by_cases e:j=i
  .subst e;rw[Xb]at h
   grind[Blk.live]
  grind
 have n:∀(j:Nat) (v:Blk),(H.set i (.fmap es'))[j]?=some v->v.holds=true->H[j]?=some v:=by
  intro j v h u;by_cases e:j=i
  .subst e;rw[Xb]at h;simp only[if_true]at h;split at h
   .cases h;cases u
   .simp at h
  grind
 refine⟨by rw[XZ];exact s.len,s.roOk.to (λ_ q=>.inl q) (λ_ _=>rfl) ?_,s.frLt,?_,?_,?_,?_,s.hidTo (· = ·) Q6 (XQ _) (λj d x c L G N J=>J.elim id λq=>((s.hid j d x c L G N).ne i b _ hσ hH rfl q).elim) (by simp) (by grind)⟩
 .rintro c (q|rfl)
  .exact s.roLt c q
  omega
 .rintro c (q|rfl)
  .exact s.roFr c q
  grind
 .intro j c v g f m;obtain⟨e,f⟩:=a j v f m;obtain⟨t,r,p⟩:=s.own j c v g f m;refine⟨t,?_,p⟩;rintro(q|rfl)
  .exact r q
  .exact e (s.inj j i c v _ g hσ f hH m rfl)
 .intro j F c v E g f m M z B;exact s.inj j F c v E g f (a j v m z).2 (a F E M B).2 z B
 .intro j y v g f;by_cases e:j=i
  .subst e;rw[Xa (XI.1 hH).1]at f;cases f;rw[hσ]at g;cases g;obtain⟨l,k,t,r,p⟩:=s.blk j _ _ hσ hH;exact⟨.inr rfl,l,k,t,he _ r,p⟩
  .rw[XM (λq=>e q.symm)]at f;exact(s.blk j y v g f).keep ext (λ_ _ _=>rfl) (λ_ _ _ _=>rfl)
end
open Go.Sort Go.Proofs Go.Shelf
theorem QnU{α:Type}{l:List α}(h:l.length=1):∃v,l=[v]:=by
 match l,h with
 |[v],_=>simp
theorem QfP{α β:Type}(f:α->β):∀l:List α,(l.map λa=>[f a]).flatten=l.map f
 |[]=>rfl
 |a::l=>by simp[QfP f l]
structure Elt1 (ro:Nat->Prop) (w:World) {T:Type} (ea:T->A) (l:List T) where
 x:T
 v:Value
 mem:x∈l
 rel:VR ro [] w (ea x) v
 plain:Qy v
theorem Qp9{P:Program}{ρ:Ren}(L0:SlLaysF0.n6 P ρ){T:Type}[DecidableEq T]{G:T->A}{t g:Nat}{cap:List A}{l l':List T}{cf:T->T->Option Int}(hs:QbT cf l=some l')
  (bb:∀x y c,cf x y=some c->C P g ([G x,G y]++cap) [] (λa H=>a=.int .i64 c/\H=[]))
  (aE:∀w,(isAgg (ρ.t 24)).run P w=.ok false w)(zE:∀w,(Go.sizeOf (ρ.t 24)).run P w=.ok 1 w)(eg:∀args w,(callFunc g args).run P w=.ok (.enter g args) w)(hd:Yq cap=true):
  C P (ρ.f 6) [.osl 0 0 l.length 1,.fn (.func g) [] cap] [.row t 1 (l.map λx=>[G x])] (λa H=>a=.tup []/\H=[.row t 1 (l'.map λx=>[G x])]):=by
 have L:SlLaysF.n6 P ρ:={L0 with a24:=aE,z24:=zE};intro fr E U vals w s hv;obtain⟨vs,r1,rfl,bi,vf,r2,rfl,bj,hr⟩:=hv;cases(show r2=[]from hr);obtain⟨lf,lc,rfl,h1,az⟩:=bj;cases(show lf=[]from h1);have ao:LR E [] w cap lc:=LR.data hd az;obtain⟨a8,af,Q,av,ax⟩:=Qc3 hs;have an:∀(ad:Option Addr) (c:Nat),vs=.slice ad 0 c->l=[]->
   Calls P (ρ.f 6) [vs,.func (.func g) #[] lc.toArray].toArray w λe w'=>∃v r H' ab τ,e=.returned v/\(r=.tup []/\H'=[.row t 1 (l'.map λx=>[G x])])/\Sim fr ab (U++τ) H' w'/\VR ab (U++τ) w' r v/\Qm fr E w ab w':=by
  rintro ad c rfl rfl;have aq:l'=[]:=by rw[<- ax];rfl
  subst aq;refine(AnyF.slices_SortFunc_none L0 ad c (.func (.func g) #[] lc.toArray) w).mono ?_;rintro e w' ⟨rfl,rfl⟩;exact⟨_,_,_,E,[],rfl,⟨rfl,rfl⟩,by simpa using s,⟨[],rfl,rfl⟩,Qm.refl _ _ _⟩
 rcases bi with⟨h0,rfl⟩|⟨b,p,cp,t',m,q1,rfl,q2,⟨q3,bs⟩,q4,q5⟩
 .grind
 .by_cases aq:l=[]
  .grind
  .have bp:0<l.length:=List.length_pos_iff.2 aq;obtain rfl:=q2 (X9 bp q3);obtain⟨lv,e1,e2⟩:=s.blk 0 _ _ q1 rfl;obtain⟨hb,ag,a0⟩:=s.own 0 b _ q1 rfl rfl;obtain⟨R,F,a7,rfl,bo⟩:=Qgn e2
   let α:=Elt1 E w G l
   have a4:∀p∈R,p.1∈l:=λp hp=>by rw[<- a7];exact VA hp
   have ba:∀p∈R,∃v,p.2=[v]/\VR E [] w (G p.1) v/\Qy v:=by
    intro p hp;obtain⟨g1,g2,g3⟩:=bo p hp;obtain⟨v,e⟩:=QnU g1;rw[e]at g2 g3;obtain⟨v',l',e',g4,g5⟩:=g2;cases e';exact⟨v,e,g4,g3 v (by simp)⟩
   let val:List Value->Value:=λl=>l.headD .nilFunc
   have Y:∀p∈R,p.2=[val p.2]/\VR E [] w (G p.1) (val p.2)/\Qy (val p.2):=by
    intro p hp;obtain⟨v,e,g⟩:=ba p hp;rw[e];exact⟨rfl,g⟩
   let ds:List α:=R.attach.map λp=>⟨p.1.1,val p.1.2,a4 _ p.2,(Y _ p.2).2.1,(Y _ p.2).2.2⟩
   have a9:∀{γ:Type} (f:T×List Value->γ),R.attach.map (λp=>f p.1)=R.map f:=λf=>by simp
   have O:ds.map (·.x)=l:=by
    show(R.attach.map _).map _=_;rw[List.map_map];exact(a9 (·.1)).trans a7
   have ay:ds.map (·.v)=R.map λp=>val p.2:=by
    show(R.attach.map _).map _=_;rw[List.map_map];exact a9 λp=>val p.2
   have ak:ds.length=l.length:=by rw[<- O];simp
   have a6:ds≠[]:=by intro q;rw[q]at ak;simp at ak;omega
   let inh:Inhabited α:=⟨ds.head a6⟩
   let enc':α->Value:=λa=>a.v
   let cf':α->α->Int:=λx y=>(cf x.x y.x).getD 0
   have ac:∀x y:α,ltOf cf' x y=ltO cf x.x y.x:=by
    intro x y;obtain⟨c,u⟩:=af x.x x.mem y.x y.mem;simp only[ltOf,ltO,cf',u,Option.getD_some]
   have hO:SWO (ltOf cf'):=⟨λx=>by rw[ac];exact Q.irrefl _ x.mem,λx y z a b=>by rw[ac]at*;exact Q.trans _ x.mem _ y.mem _ z.mem a b,
    λx y z a b=>by rw[ac]at*;exact Q.ntrans _ x.mem _ y.mem _ z.mem a b⟩
   have bf:(R.map (·.2)).flatten=ds.map enc':=by
    have e3:R.map (·.2)=(R.map λp=>val p.2).map λv=>[v]:=by
     rw[List.map_map];exact List.map_congr_left λp hp=>(Y p hp).1
    rw[e3, <- ay];have:=QfP (λv:Value=>v) (ds.map (·.v));rw[this];simp[enc']
   rw[bf]at e1;have hH:Holds enc' w b 0 ds.toArray:=by
    intro j hj;simp only[List.size_toArray]at hj;constructor
    .unfold World.cell?;simp only[e1,Option.isSome_none,Xj,if_false,Xu];rw[Qa9,XJ (by simpa using hj),Xo,QfJ _ _ hj];rfl
    .unfold World.frozen?;simp only[e1];simp
   have au:∀(d:Array α),d.size=ds.toArray.size->(putRow enc' w b 0 d).heap=w.heap.setIfInBounds b (.cells ((d.toList.map enc'++F)).toArray t (0,0)):=by
    intro d k;have al:(d.toList.map enc').length=(ds.map enc').length:=by simp at k⊢;rw[k]
    unfold putRow mapBlock;show w.heap.modify b _=_;rw[Qbe e1];simp only[onCells];congr 2;unfold putCells;apply Array.ext_getElem?;intro i;simp only[Array.getElem?_mapIdx,Qa9,XR,true_and,Xu,Nat.sub_zero];by_cases hi:i<d.size
    .have V:i<(d.toList.map enc').length:=by simpa using hi
     rw[XJ V,XJ (by rw[<- al];exact V),XH (by rw[<- al];exact V),XH V];simp only[Xk,Vm hi];congr 1;rw[getElem!_pos d i hi];simp
    .have V:¬i<(d.toList.map enc').length:=by simpa using hi
     rw[XK (by omega),XK (by omega),al];cases(F[i-(ds.map enc').length]?)with
     |none=>rfl
     |some v=>exact congrArg some (Vl hi)
   have N:∀(m:Nat) (os:Array Obj) (d:Array α),d.size=ds.toArray.size->
     (∀c,c<w.heap.size->c≠b->(sortWorld enc' w b 0 m d os).heap[c]?=w.heap[c]?)/\(sortWorld enc' w b 0 m d os).heap[b]?=some (.cells ((d.toList.map enc'++F)).toArray t (0,0))/\
     w.heap.size<=(sortWorld enc' w b 0 m d os).heap.size:=by
    intro m os d k;have e:(sortWorld enc' w b 0 m d os).heap=w.heap.setIfInBounds b (.cells ((d.toList.map enc'++F)).toArray t (0,0))++os:=by
     rw[<- au d k];rfl
    rw[e];refine⟨λc u bq=>?_,?_,by simp⟩
    .rw[Array.getElem?_append_left (by simpa using u),X8,Vl (λq=>bq q.symm)]
    .rw[Array.getElem?_append_left (by simpa using hb),X8,Vm rfl,Vm hb]
   have J:∀(m:Nat) (os:Array Obj) (d:Array α),d.size=ds.toArray.size->∀c y,w.shape? c=some y->(sortWorld enc' w b 0 m d os).shape? c=some y:=by
    intro m os d k c y hy;obtain⟨g1,g2,g3⟩:=N m os d k;by_cases u:c=b
    .subst u;unfold World.shape? at hy⊢;rw[e1]at hy;rw[g2];simp only[Option.some.injEq]at hy⊢;rw[<- hy];congr 1;simp only[List.size_toArray,XY,XX];simp at k⊢;rw[k]
    .unfold World.shape? at hy⊢;rw[g1 c (QiP hy) u];exact hy
   have ah:∀(m:Nat) (os:Array Obj) (d:Array α),d.size=ds.toArray.size->∀τ,Ext E τ w E τ (sortWorld enc' w b 0 m d os):=by
    intro m os d k τ;obtain⟨g1,g2,g3⟩:=N m os d k;exact⟨λ_ q=>q,λc u=>g1 c (s.roLt c u) (λq=>ag (q▸u)),J m os d k,λ_ _ q=>q⟩
   have bg:CmpLays1 P g lc.toArray enc' cf' b 0 ds.toArray.size w:=by
    intro m os dk a3 x y;obtain⟨c,u⟩:=af x.x x.mem y.x y.mem;have B:=ah m os dk a3 [];have bc:=bb _ _ _ u;generalize hW:sortWorld enc' w b 0 m dk os=W at*;have bh:w.heap.size<=W.heap.size:=by rw[<- hW];exact(N m os dk a3).2.2
    have sW:Sim (λc=>c<W.heap.size/\ ¬E c) E [] [] W:=
     ⟨rfl,s.roOk.to (λ_ q=>q) B.keep (λc u=>X9 (s.roLt c u) bh),λc u=>u.1,λc u hf=>hf.2 u,λi b x h=>by simp at h,λi j b x y h=>by simp at h,λi y x h=>by simp at h,λi b x c h=>by simp at h⟩
    have am:LR E [] W ([G x.x,G y.x]++cap) ([x.v,y.v]++lc):=
     LR.append (show LR E [] W [G x.x,G y.x] [x.v,y.v]from⟨_,_,rfl,x.rel.mono B,_,_,rfl,y.rel.mono B,rfl⟩) (ao.mono B)
    have M:=bc _ E [] _ W sW am;have bn:(([x.v,y.v]++lc).toArray:Array Value)= #[enc' x,enc' y]++lc.toArray:=by simp[enc']
    rw[bn]at M;refine M.mono ?_;rintro e w' ⟨v,r,H',ab,τ,rfl,⟨rfl,rfl⟩,s',be,ev⟩;refine⟨?_,?_⟩
    .rw[show v=.int .i64 c from be];simp only[cf',u,Option.getD_some]
    .refine QlS (λc u=>?_) ev.size ev.os ev.tape ev.output ev.drawn;by_cases a2:E c
     .exact ev.keepRo c a2
     .exact ev.keepFr c ⟨u,a2⟩
   have X:ds.toArray.size=l.length:=by simpa using ak
   have br:b+0=b:=rfl;have ae:=Any.slices_SortFunc L enc' (λx=>QgW x.plain) cf' hO g lc.toArray b 0 cp ds.toArray w eg bg hH hb (by rw[X];unfold QB at a8;omega);rw[X]at ae;rw[Nat.zero_mul];refine ae.mono ?_;rintro e w' ⟨rfl,d,n,os,aa,ar,rfl⟩;have k:d.size=ds.toArray.size:=aa.1;obtain⟨g1,g2,g3⟩:=N n os d k;have ai:d.toList.Perm ds:=by
    have h:=aa.2.2;have x1:d.extract 0 l.length=d:=by rw[<- X, <- k];exact Array.extract_size
    have x2:ds.toArray.extract 0 l.length=ds.toArray:=by rw[<- X];exact Array.extract_size
    rw[x1,x2]at h;simpa using h
   have a1:d.toList.map (·.x)=l':=by
    rw[<- ax];refine JD (lt:=ltO cf) ?_ ?_ ?_ (QX Q)
    .exact((ai.map (·.x)).trans (by rw[O])).trans (Qz _ _).symm
    .intro x hx y hy;have bd:x∈l:=by rw[<- O];exact(ai.map (·.x)).mem_iff.1 hx
     have bm:y∈l:=by rw[<- O];exact(ai.map (·.x)).mem_iff.1 hy
     exact av x bd y bm
    .rw[Vy];intro i j hi hj bl;simp only[XX]at hi hj;simp only[List.getElem_map];rw[<- ac];have:=ar i j (XR _) bl (by rw[<- X, <- k];simpa using hj);rw[getElem!_pos d j (by simpa using hj),getElem!_pos d i (by simpa using hi)]at this;simpa using this
   have bk:RL E [] (sortWorld enc' w b 0 n d os) 1 (l'.map λx=>[G x]) (d.toList.map enc'++F):=by
    have e3:d.toList.map enc'=((d.toList.map λa=>(a.x,[a.v])).map (·.2)).flatten:=by
     rw[List.map_map];exact(QfP (λa:α=>a.v) d.toList).symm
    have e4:l'=(d.toList.map λa=>(a.x,[a.v])).map (·.1):=by rw[<- a1];simp
    rw[e3,e4];refine Qcb (enc:=λx=>[G x]) (λ_=>rfl) ?_;intro p hp;obtain⟨a,_,rfl⟩:=Xf.1 hp;exact⟨⟨_,_,rfl,a.rel.mono (ah n os d k []),rfl⟩,λv hv=>by rw[Vv.1 hv];exact a.plain⟩
   have aw:Qm fr E w E (sortWorld enc' w b 0 n d os):=
    ⟨λ_ q=>q,λc u=>g1 c (s.roLt c u) (λq=>ag (q▸u)),λc u=>g1 c (s.frLt c u) (λq=>a0 (q▸u)),g3,J n os d k,rfl,rfl,rfl,Nat.le_add_right _ _⟩
   have aj:U.length=1:=s.len;have a5:Sim fr E U [.row t 1 (l'.map λx=>[G x])] (sortWorld enc' w b 0 n d os):=by
    have i0:∀{i:Nat} {x:Blk},([.row t 1 (l'.map λx=>[G x])]:Qc)[i]?=some x->i=0/\x=.row t 1 (l'.map λx=>[G x]):=by
     intro i x h;cases i with
     |zero=>simp at h;exact⟨rfl,h.symm⟩
     |succ i=>simp at h
    refine⟨aj,s.roOk.to (λ_ q=>q) aw.keepRo (λc u=>X9 (s.roLt c u) g3),λc u=>X9 (s.frLt c u) g3,s.roFr,λi c x h1 h2 h3=>?_,λi j c x y h1 h2 h3 h4 _ _=>?_,λi y x h1 h2=>?_,λi b x c h1 h2 h3=>by obtain⟨rfl,rfl⟩:=i0 h2;exact h3.elim⟩
    .obtain⟨rfl,rfl⟩:=i0 h2;obtain⟨p1,p2⟩:=s.own 0 c _ h1 rfl rfl;exact⟨X9 p1 g3,p2⟩
    .rw[(i0 h3).1,(i0 h4).1]
    .obtain⟨rfl,rfl⟩:=i0 h2;rw[q1]at h1;cases h1;exact⟨_,g2,bk⟩
   exact⟨_,_,_,E,[],rfl,⟨rfl,rfl⟩,by simpa using a5,⟨[],rfl,rfl⟩,aw⟩
end Go.Sw
namespace Go.Sw
structure Pl where
 b:Nat
 i0:Nat
 i1:Nat
 i2:Nat
 i3:Nat
def Pl.ix(p:Pl):List Nat:=[p.b,p.i0,p.i1,p.i2,p.i3]
section
variable {α β:Type} (K:FK α β)
def Ya(p:Pl)(x:Fil α β):List A:=[.int .i64 x.number,.osl p.i0 0 x.r0.length K.kF,.osl p.i1 0 x.r1.length K.kF,.osl p.i2 0 x.r2.length K.kF,.osl p.i3 0 x.reports.length K.kR,.bool x.appeal]
structure QbC (H:Qc) (x:Fil α β) (p:Pl):Prop where
 c:H[p.b]?=some (.cells K.T (Ya K p x))
 r0:H[p.i0]?=some (.row K.tF K.kF (x.r0.map K.eF))
 r1:H[p.i1]?=some (.row K.tF K.kF (x.r1.map K.eF))
 r2:H[p.i2]?=some (.row K.tF K.kF (x.r2.map K.eF))
 r3:H[p.i3]?=some (.row K.tR K.kR (x.reports.map K.eR))
abbrev QaX(α β:Type):=List (Fil α β×Pl)
def Ja(bk:QaX α β):List (Int×Nat):=bk.map λe=>(e.1.number,e.2.b)
structure YF (lo:Nat) (H:Qc) (bk:QaX α β):Prop where
 laid:∀e∈bk,QbC K H e.1 e.2
 own:∀e∈bk,e.2.ix.Nodup
 ne:bk.Pairwise λe f=>∀i∈e.2.ix,i∉f.2.ix
 lo:∀e∈bk,∀i∈e.2.ix,lo<=i
 num:(bk.map (·.1.number)).Nodup
variable {K} {lo:Nat} {H H':Qc} {bk l r:QaX α β} {e:Fil α β×Pl} {x':Fil α β} {p':Pl}
theorem YF.nil:YF K lo H []:=⟨(λ_ h=>by cases h),(λ_ h=>by cases h),List.Pairwise.nil,(λ_ h=>by cases h),List.nodup_nil⟩
theorem QbC.lt(h:QbC K H e.1 e.2):∀i∈e.2.ix,i<H.length:=by
 intro i a;have g:∀{j:Nat} {y:Blk},H[j]?=some y->j<H.length:=(by grind);simp[Pl.ix,X0,List.not_mem_nil,or_false]at a;rcases a with rfl|rfl|rfl|rfl|rfl
 .exact g h.c
 .exact g h.r0
 .exact g h.r1
 .exact g h.r2
 .exact g h.r3
theorem QbC.keep(h:QbC K H e.1 e.2)(k:∀i∈e.2.ix,H'[i]?=H[i]?):QbC K H' e.1 e.2:=by
 refine⟨?_,?_,?_,?_,?_⟩
 .rw[k _ (by simp[Pl.ix])];exact h.c
 .rw[k _ (by simp[Pl.ix])];exact h.r0
 .rw[k _ (by simp[Pl.ix])];exact h.r1
 .rw[k _ (by simp[Pl.ix])];exact h.r2
 .rw[k _ (by simp[Pl.ix])];exact h.r3
theorem YF.keep(h:YF K lo H bk)(k:∀j,lo<=j->j<H.length->H'[j]?=H[j]?):YF K lo H' bk:=
 ⟨λe he=>(h.laid e he).keep λi hi=>k i (h.lo e he i hi) ((h.laid e he).lt i hi),h.own,h.ne,h.lo,h.num⟩
theorem YF.upd(h:YF K lo H (l++e::r))(y:QbC K H' x' p')(B:x'.number=e.1.number)(u:∀j,lo<=j->j<H.length->j∉e.2.ix->H'[j]?=H[j]?)
  (hi:∀i∈p'.ix,i∈e.2.ix\/H.length<=i)(w:p'.ix.Nodup)(hl:lo<=H.length):YF K lo H' (l++(x',p')::r):=by
 obtain⟨x,t,E⟩:=List.pairwise_append.1 h.ne;obtain⟨F,z⟩:=Xc.1 t;have mem:∀f∈l++(x',p')::r,f=(x',p')\/(f∈l++e::r/\ ∀i∈f.2.ix,i∉e.2.ix):=by
  intro f a
  grind
 refine⟨?_,?_,?_,?_,?_⟩
 .intro f a;rcases mem f a with rfl|⟨d,n⟩
  .exact y
  .exact(h.laid f d).keep λi hi=>u i (h.lo f d i hi) ((h.laid f d).lt i hi) (n i hi)
 .intro f a;rcases mem f a with rfl|⟨d,n⟩
  .exact w
  .exact h.own f d
 .refine List.pairwise_append.2 ⟨x,Xc.2 ⟨?_,z⟩,?_⟩
  .intro f a i m k;rcases hi i m with q|q
   .grind
   .have:=(h.laid f (by simp[a])).lt i k;omega
  .intro f a g s i k p;rcases X0.1 s with rfl|s
   .rcases hi i p with q|q
    .grind
    .have:=(h.laid f (by simp[a])).lt i k;omega
   grind
 .intro f a;rcases mem f a with rfl|⟨d,n⟩
  .intro i m;rcases hi i m with q|q
   .exact h.lo e (by simp) i q
   .omega
  .exact h.lo f d
 .have:=h.num
  grind
theorem YF.add(h:YF K lo H bk)(n:QbC K H' x' p')(r:∀e∈bk,e.1.number≠x'.number)(p:∀j,lo<=j->j<H.length->H'[j]?=H[j]?)
  (hi:∀i∈p'.ix,H.length<=i)(m:p'.ix.Nodup)(hl:lo<=H.length):YF K lo H' (bk++[(x',p')]):=by
 have k:=h.keep p;have mem:∀f∈bk++[(x',p')],f∈bk\/f=(x',p'):=by
  simp
 refine⟨?_,?_,?_,?_,?_⟩
 .intro f d;rcases mem f d with q|rfl
  .exact k.laid f q
  .exact n
 .intro f d;rcases mem f d with q|rfl
  .exact h.own f q
  .exact m
 .refine List.pairwise_append.2 ⟨h.ne,by simp,λf d g s i a l=>?_⟩;have:=(h.laid f d).lt i a
  grind
 .intro f d i a;rcases mem f d with q|rfl
  .exact h.lo f q i a
  grind
 .rw[Xg];refine List.nodup_append.2 ⟨h.num,by simp,?_⟩
  grind
theorem Qd0:∀(a:QaX α β) (k:Int),(YQ (Ja a) k=none/\ ∀e∈a,e.1.number≠k)\/ ∃l e r,a=l++e::r/\e.1.number=k/\(∀y∈l,y.1.number≠k)/\YQ (Ja a) k=some e.2.b
 |[],k=>.inl ⟨rfl,λ_ h=>by cases h⟩
 |e::l,k=>by
  have e0:YQ (Ja (e::l)) k=if e.1.number=k then some e.2.b else YQ (Ja l) k:=by
   grind[YQ,Ja]
  by_cases q:e.1.number=k
  .exact .inr ⟨[],e,l,rfl,q,(λ_ h=>by cases h),by grind⟩
  .rcases Qd0 l k with⟨f,d⟩|⟨p,y,r,f,d,i,g⟩
   .grind
   grind
theorem Qnd(p q:QaX α β):Ja (p++q)=Ja p++Ja q:=by simp[Ja]
theorem Qnc(d:x'.number=e.1.number)(a:p'.b=e.2.b):Ja (l++(x',p')::r)=Ja (l++e::r):=by simp[Ja,d,a]
end
section
variable {fr ro ro':Nat->Prop} {U:Sig} {w:World} {α β:Type} (K:FK α β)
theorem QoZ(sub:∀c,ro c->ro' c){p:Pl}{x:Fil α β}{v:Value}{H:Qc}(hl:QbC K H x p)(e:∀i∈p.ix,∀(c:Nat) (y:Blk),H[i]?=some y->U[i]?=some (some c)->BR ro U w y (some c)/\ro' c)(h:VR ro U w (.ptr p.b 0) v):VR ro' [] w (.rp (frp K x)) v:=by
 obtain⟨c,q,z⟩:=h;obtain⟨⟨l,g,a,f⟩,t⟩:=e p.b (by simp[Pl.ix]) c _ hl.c q;refine⟨c,0,z,t,(QiG (pre:=[]) (by simpa using g) ?_ f)⟩;obtain⟨v0,O,rfl,r,a⟩:=a;obtain⟨n,P,rfl,L,a⟩:=a;obtain⟨u,E,rfl,B,a⟩:=a;obtain⟨s,N,rfl,M,a⟩:=a;obtain⟨k,J,rfl,F,a⟩:=a;obtain⟨m,G,rfl,j,a⟩:=a;refine⟨v0,_,rfl,r,n,_,rfl,QaY sub (λc d=>e p.i0 (by simp[Pl.ix]) c _ hl.r0 d) (by grind),u,_,rfl,QaY sub (λc d=>e p.i1 (by simp[Pl.ix]) c _ hl.r1 d) (by grind),s,_,rfl,QaY sub (λc d=>e p.i2 (by simp[Pl.ix]) c _ hl.r2 d) (by grind),
  k,_,rfl,QaY sub (λc d=>e p.i3 (by simp[Pl.ix]) c _ hl.r3 d) (by grind),m,_,rfl,j,a⟩
theorem Qhz(sub:∀c,ro c->ro' c){H:Qc}{ek:Int->A}(hek:∀(k:Int) (v:Value),VR ro U w (ek k) v->VR ro' [] w (ek k) v):∀{bk:QaX α β} {es:List MapEntry},(∀e∈bk,QbC K H e.1 e.2)->(∀e∈bk,∀i∈e.2.ix,∀(c:Nat) (y:Blk),H[i]?=some y->U[i]?=some (some c)->BR ro U w y (some c)/\ro' c)->
  ER ro U w (Qo ek QeJ (Ja bk)) es->ER ro' [] w (Qo ek (rpE K) (QeN (bk.map (·.1)))) es
 |[],es,_,_,h=>h
 |x::l,es,hl,hb,h=>by
  obtain⟨e,l',rfl,h1,h2,h3⟩:=h;exact⟨e,l',rfl,hek _ _ h1,QoZ K sub (hl x (by simp)) (hb x (by simp)) h2,Qhz sub hek (by grind) (λe he=>hb e (by simp[he])) h3⟩
def Qdx(bk:QaX α β):List Nat:=bk.flatMap λe=>e.2.ix
theorem YF.all{lo:Nat}{H:Qc}:∀{f:QaX α β},YF K lo H f->(Qdx f).Nodup/\ ∀i∈Qdx f,lo<=i/\ ∃y,H[i]?=some y/\y.live=true:=by
 intro f h;refine⟨?_,?_⟩
 .have k:=h.own;have j:=h.ne
  grind[Qdx]
 .intro i a;obtain⟨e,g,a⟩:=List.mem_flatMap.1 a;refine⟨h.lo e g i a,?_⟩;have d:=h.laid e g;simp[Pl.ix,X0,List.not_mem_nil,or_false]at a;rcases a with rfl|rfl|rfl|rfl|rfl
  .exact⟨_,d.c,rfl⟩
  .exact⟨_,d.r0,rfl⟩
  .exact⟨_,d.r1,rfl⟩
  .exact⟨_,d.r2,rfl⟩
  .exact⟨_,d.r3,rfl⟩
end
section
variable {α β:Type} (K:FK α β) {env:Env} {H:Qc}
theorem Qpc{h0 lo m:Nat}{f:QaX α β}(E:YF K lo H f)(J:Nat.blt m lo=true)(R:H[m]?=some (.mapP (Qo (λn=>.int .i64 n) QeJ (Ja f)))):
  Le h0 env H env ((Qb1 H (Qdx f)).set m (.fmap (Qo (λn=>.int .i64 n) (rpE K) (QeN (f.map (·.1)))))):=by
 intro V p U N a w r;have s:=r.sim;obtain⟨nd,z⟩:=E.all;have Q:m<lo:=by simp_all
 have O:∃q,U[m]?=some q:=by
  have:m<U.length:=by rw[s.len];grind
  simp_all
 obtain⟨q,B⟩:=O;cases q with
 |none=>exact(s.blk m _ _ B R).elim
 |some t=>
 obtain⟨d,P,g,x⟩:=Qd2 s nd (by grind);have u:(Qb1 H (Qdx f))[m]?=some (.mapP (Qo (λn=>.int .i64 n) QeJ (Ja f))):=by
  grind[Qg1]
 have M:=P.shutMapP (es':=Qo (λn=>.int .i64 n) (rpE K) (QeN (f.map (·.1)))) B u (λl L=>?_)
 .have sub:∀c,p c->d c\/c=t:=(by grind);have ext:Ext p U w (λc=>d c\/c=t) U w:=⟨sub,λ_ _=>rfl,λ_ _ q=>q,λ_ _ q=>q⟩;exact⟨_,U,⟨M,λq=>(r.env q).mono ext,r.size,r.defers⟩,sub,rfl⟩
 .have ext:Ext p U w d U w:=⟨g,λ_ _=>rfl,λ_ _ q=>q,λ_ _ q=>q⟩;exact Qhz K (ek:=λn=>.int .i64 n) (ro':=λc=>d c\/c=t) (λc j=>.inl j) (λk v h=>h) E.laid (λe F i G c y T j=>(⟨(s.blk _ _ _ j T).keep ext (λ_ _ _=>rfl) (λ_ _ _ _=>rfl),.inl (x _ (List.mem_flatMap.2 ⟨e,F,G⟩) c j)⟩)) L
end
section
variable {P:Program} {h0 N:Nat} {all:Array Oper} {o:Oper} {l:List Oper} {env:Env} {H:Qc} {Q:QR}
theorem QcZ{d:Nat}{f:FuncId}{args:List A}{Qr:A->Qc->Prop}(j:OpC P o env H f args)(B:C P f args H Qr)
  (k:∀r H1,Qr r H1->WO P h0 N all l (up env d r) H1 Q)(J:h0<=H.length)(hg:Qw all o env true:=by exact rfl)(hd:o.dst=some d:=by exact rfl)(hN:Nat.blt d N=true:=by exact rfl):
  WO P h0 N all (o::l) env H Q:=by
 intro y fr p U a w r hrd;obtain⟨g,t,G⟩:=j fr p U N a w r;refine QdI (YP hg r) t ?_;have hσl:=r.sim.len;refine Calls.mono (B fr p U g w r.sim G) ?_;rintro e n ⟨v,m,H1,h,τ,rfl,F,E,z,ev⟩;have x:=k m H1 F;simp only[hd];have i:d<N:=by simp_all
 have u:Rel fr h (U++τ) H1 (up env d m) N {a with tmps:=a.tmps.setIfInBounds d v} n:=
  ⟨E,VR.up (fr:=fr) (λs=>(r.env s).mono (ev.ext U τ)) (by rw[r.size];exact i) z,by simpa using r.size,r.defers.keep ev⟩
 exact⟨_,rfl,Yn (λe a w q=>q.step ev (by grind)) _ _ _ (x y fr h (U++τ) _ n u (hrd.to ev λ_ q=>q))⟩
end
section
variable {h0 n:Nat} {env env':Env} {H H':Qc}
theorem Qpe(n:Nat)(hn:h0<=n)(hl:n<=H.length)(hH:(H'.map (Q5 (rho (List.range n) H.length))).map some=(List.range n).map (λp=>H[p]?))(hE:QbM (rho (List.range n) H.length) env env'):Le h0 env H env' H':=
 Qpd (List.range n) (by grind) hH.symm List.nodup_range hE
end
section
variable {P:Program} {o:Oper} {env:Env} {H:Qc} {α:Type}
end
section
variable {α β:Type}
def QbO(k:Int):Fil α β:=⟨k,[],[],[],[],false⟩
def Qae(fs:List (Fil α β))(k:Int):List (Fil α β):=bif fs.any (λx=>decide (x.number=k))then fs else fs++[QbO k]
def QbQ(fs:List (Fil α β))(k:Int)(g:Fil α β->Fil α β):List (Fil α β):=fs.map λx=>bif decide (x.number=k)then g x else x
def Qfo(fs:List (Fil α β)):Bool:=fs.all λx=>Nat.ble (x.r0.length+1) QB&&Nat.ble (x.r1.length+1) QB&&Nat.ble (x.r2.length+1) QB&&Nat.ble (x.reports.length+1) QB
variable (K:FK α β) {lo:Nat} {H H':Qc} {bk:QaX α β}
theorem Qdl{fs:List (Fil α β)}{k:Int}(h:∃x∈fs,x.number=k):Qae fs k=fs:=by
 unfold Qae
 grind
theorem Qb3{fs:List (Fil α β)}{k:Int}(h:∀x∈fs,x.number≠k):Qae fs k=fs++[QbO k]:=by
 unfold Qae
 grind
theorem Qps{l r:List (Fil α β)}{x:Fil α β}{k:Int}{g:Fil α β->Fil α β}(d:((l++x::r).map (·.number)).Nodup)(a:x.number=k):QbQ (l++x::r) k g=l++g x::r:=by
 simp_all[List.nodup_append,QbQ,List.map_congr_left]
theorem QiX{l r:List (Fil α β)}{x:Fil α β}(h:Qfo (l++x::r)=true):x.r0.length+1<=QB/\x.r1.length+1<=QB/\x.r2.length+1<=QB/\x.reports.length+1<=QB:=by
 simp_all[Qfo]
def Qcw(n:Nat):Pl:=⟨n,n+1,n+2,n+3,n+4⟩
def Qdg(n:Nat)(k:Int):Qc:=[.cells K.T (Ya K (Qcw n) (QbO k)),.row K.tF K.kF [],.row K.tF K.kF [],.row K.tF K.kF [],.row K.tR K.kR []]
theorem Qll{h0:Nat}{env:Env}{k:Int}(d:h0<=H.length):
  Le h0 env (H++[.cells K.T [.int .i64 k,.nils,.nils,.nils,.nils,.bool false]]) env (H++Qdg K H.length k):=by
 have a:∀(n:Nat) (G:Qc) (cs cs':List A) (t k':Nat) (m:Nat),n=H.length+1+G.length->cs[m]?=some .nils->cs'=cs.set m (.osl n 0 0 k')->
   Le h0 env (H++.cells K.T cs::G) env (H++.cells K.T cs'::(G++[.row t k' []])):=by
  intro n G cs cs' t k' m hn hm hc;have:=YU (h0:=h0) (env:=env) (H:=H++.cells K.T cs::G) (i:=H.length) (t:=t) (k:=k') (T:=K.T)
   (by simp;omega) (by simp) hm
  grind
 refine Le.trans (a (H.length+1) [] _ _ K.tF K.kF 1 (by simp) rfl rfl) ?_;refine Le.trans (a (H.length+2) [.row K.tF K.kF []] _ _ K.tF K.kF 2 (by simp) rfl rfl) (Le.trans (a (H.length+3) [.row K.tF K.kF [],.row K.tF K.kF []] _ _ K.tF K.kF 3 (by simp) rfl rfl) ?_);exact a (H.length+4) [.row K.tF K.kF [],.row K.tF K.kF [],.row K.tF K.kF []] _ _ K.tR K.kR 4 (by simp) rfl rfl
theorem QbC.new{k:Int}:QbC K (H++Qdg K H.length k) (QbO k) (Qcw H.length):=by
 have g:∀(j:Nat) (y:Blk),(Qdg K H.length k)[j]?=some y->(H++Qdg K H.length k)[H.length+j]?=some y:=by
  grind
 exact⟨g 0 _ rfl,g 1 _ rfl,g 2 _ rfl,g 3 _ rfl,g 4 _ rfl⟩
theorem QlD(n:Nat):(∀i∈(Qcw n).ix,n<=i)/\(Qcw n).ix.Nodup:=by
 simp_all[Pl.ix,Qcw]
variable {K}
theorem YF.new{k:Int}(h:YF K lo H bk)(a:∀e∈bk,e.1.number≠k)(hl:lo<=H.length):YF K lo (H++Qdg K H.length k) (bk++[(QbO k,Qcw H.length)]):=by
 refine h.add (QbC.new K) a (by grind) (QlD _).1 (QlD _).2 hl
theorem YF.row{l r:QaX α β}{e:Fil α β×Pl}{x':Fil α β}{d:Pl}{i:Nat}{y:Blk}(h:YF K lo H (l++e::r))(hl:lo<=H.length)(m:x'.number=e.1.number)(hi:i∈e.2.ix)(k:i≠e.2.b)(q:d.b=e.2.b)
  (hH:H'=(H.set i .dead++[y]).set e.2.b (.cells K.T (Ya K d x')))
  (w:d.ix=e.2.ix.map λj=>bif Nat.beq j i then H.length else j)
  (h0:H'[d.i0]?=some (.row K.tF K.kF (x'.r0.map K.eF)))(s:H'[d.i1]?=some (.row K.tF K.kF (x'.r1.map K.eF)))(x:H'[d.i2]?=some (.row K.tF K.kF (x'.r2.map K.eF)))(t:H'[d.i3]?=some (.row K.tR K.kR (x'.reports.map K.eR))):
  YF K lo H' (l++(x',d)::r):=by
 have n:=h.laid e (by simp);have f:=n.lt;have g:e.2.b<H.length:=f _ (by simp[Pl.ix]);refine h.upd ⟨?_,h0,s,x,t⟩ m ?_ ?_ ?_ hl
 .grind
 .grind[List.getElem?_set_ne,Pl.ix]
 .grind
 .rw[w];have p:=h.own e (by simp);refine List.pairwise_map.2 (List.Pairwise.imp_of_mem ?_ p);intro a b z q u;cases B:Nat.beq a i with
  |true=>
   cases E:Nat.beq b i with
   |true=>simp_all
   |false=>grind
  |false=>
   grind
end
section
variable {fr ro:Nat->Prop} {U:Sig} {H:Qc} {w:World}
end
section
variable {P:Program} {o:Oper} {env:Env} {H:Qc}
theorem Le.frow{h0 s i n k t:Nat}{es:List (List A)}(u:lk env s=.osl i 0 n k)(hH:H[i]?=some (.frow t k es))(B:es.length=n):Le h0 env H (up env s (.rsl k es)) H:=by
 intro Q G U N a w r;refine⟨G,U,⟨r.sim,?_,r.size,r.defers⟩,λ_ q=>q,rfl⟩;intro e;simp only[lk];by_cases q:e=s
 .subst q;rw[Vz];have:=r.env e;rw[u]at this;rcases this with⟨g,f⟩|⟨b,p,d,T,m,g,f,E,⟨O,y⟩,M,R⟩
  .have:es=[]:=(by grind);subst this;exact⟨none,0,by rw[f];rfl,XQ _,.inl rfl⟩
  .obtain⟨F,l,x,J,L⟩:=r.sim.blk i _ _ g hH;refine⟨_,d,by rw[f,B],by omega,?_⟩;by_cases h:es=[]
   .exact .inl h
   .right;have j:0<d:=(by grind);have P:=E j;exact⟨b,0,by simp,F,(Y4 (pre:=[]) (by simpa using x) J)⟩
 .have:Nat.beq e s=false:=by
   cases z:Nat.beq e s with
   |true=>simp_all
   |false=>rfl
  rw[this];exact r.env e
end
open Go.MapKept
section
variable {P:Program} {kt et:Nat} {α β:Type} [DecidableEq α] {ek:α->A} {ev:β->A} {ro:Nat->Prop} {U:Sig} {w:World} (K:Jd P kt ek)
include K
variable {o:Oper} {env:Env} {H:Qc} {T T' i:Nat} {x y:Operand} {l m:List (α×β)} {k:α}
end
end Go.Sw
namespace Go.Sw
variable {y:Operand}
section
variable {P:Program} {h0 N:Nat} {all:Array Oper} {o1 o2:Oper} {l:List Oper} {env:Env} {H:Qc} {Q:QR}
theorem Qne{t n d:Nat}{z:Value}{v:A}{cs zs:List A}(hz:∀w,(zeroValue t).run P w=.ok z w)(hv:ZR v z)(hs:∀w,(Go.sizeOf t).run P w=.ok n w)
  (k:WO P h0 N all l (up env d (.rp cs)) H Q)(hk:Yj v=true:=by exact rfl)(hzs:Yr v=zs:=by exact rfl)(hpl:zs.all Yy=true:=by exact rfl)(hzn:zs.length=n:=by exact rfl)(hn:cs.length=n:=by exact rfl)
  (ho1:o1.op=.alloc t:=by exact rfl)(hd1:o1.dst=some d:=by exact rfl)(ho2:o2.op=.store t (.tmp d) y:=by exact rfl)(hd2:o2.dst=none:=by exact rfl)(hy:opA (up env d .any) y=.agg cs:=by exact rfl)(hda:Yq cs=true:=by exact rfl)(hcp:cs.all Yy=true:=by exact rfl)(hkc:Yj (.agg cs)=true:=by exact rfl)(hcc:Yr (.agg cs)=cs:=by exact rfl)
  (hg1:Qw all o1 env true:=by exact rfl)(hg2:Qw all o2 (up env d .any) true:=by exact rfl)(hN:Nat.blt d N=true:=by exact rfl):WO P h0 N all (o1::o2::l) env H Q:=by
 intro rd fr p U a w r hrd;obtain⟨R,h2,h3⟩:=(hv p U w).cells hk;rw[hzs]at h3
 let w1:World:=w.alloc (.cells R.toArray t)
 have J:(execOp a.eval o1).run P w=.ok (.value (.pointer (some ⟨w.heap.size,0,none⟩))) w1:=by
  generalize a.eval=ρ at*;have e:(newVar t z).run P w=.ok ⟨w.heap.size,0,none⟩ (w.alloc (.cells R.toArray t)):=by
   unfold newVar;rw[h2];rfl
  simp only[execOp,ho1,Instr.alloc,Vg,hz,Result.andThen,e];rfl
 refine JJ (YP hg1 r) J ?_;simp only[hd1,Act.put];have Y:d<N:=by simp_all
 have M:d<a.tmps.size:=by rw[r.size];exact Y
 let a1:Act:={a with tmps:=a.tmps.setIfInBounds d (.pointer (some ⟨w.heap.size,0,none⟩))}
 have B:∀b,b<w.heap.size->w1.heap[b]?=w.heap[b]? :=λb hb=>Yl _ _ b hb;have F:w.heap.size<=w1.heap.size:=by grind
 have g:Qm fr p w p w1:=Qm.alloc _ r.sim.roLt r.sim.frLt;have r1:Rel fr p U H (up env d .any) N a1 w1:=⟨r.sim.grown B F,VR.up (fr:=fr) (λs=>(r.env s).mono (g.ext0 U)) M trivial,by simpa[a1]using r.size,r.defers.keep g⟩;have T:=Qh r1 y;rw[hy]at T;obtain⟨m,h4,G⟩:=T.cells hkc;rw[hcc]at G;have j:w1.heap[w.heap.size]?=some (.cells R.toArray t (0,0)):=Yk _ _;have W:R.length=n:=by rw[h3.length,hzn]
 have aa:m.length=n:=by rw[G.length,hn]
 have ac:=Yp (P:=P) (vs:=m) 0 0 j (by omega) (G.plain hcp);have ab:splice R (0+0) m=m:=by
  unfold splice
  grind
 rw[ab]at ac
 let w2:World:={w1 with heap:=w1.heap.setIfInBounds w.heap.size (.cells m.toArray t (0,0))}
 have he:a1.eval (.tmp d)=.pointer (some ⟨w.heap.size,0,none⟩):=by
  show(a.tmps.setIfInBounds d _).getD d undef=_
  simp_all
 have V:(execOp a1.eval o2).run P w1=.ok .skip w2:=by
  have ah:(storeVar t ⟨w.heap.size,0,none⟩ (a1.eval y)).run P w1=.ok () w2:=by
   unfold storeVar;rw[Vg,hs];simp only[Result.andThen]
   grind
  simp_all[execOp,Instr.storeAt,Instr.sureAddr]
 refine QiK (YP hg2 r1) V ?_;simp only[hd2,Act.put];have f:∀b,b<w.heap.size->w2.heap[b]?=w.heap[b]? :=λb hb=>by
  grind
 have ag:w2.heap.size=w1.heap.size:=by simp[w2]
 have af:w.heap.size<w1.heap.size:=(X7.1 j).1;have E:w.heap.size<=w2.heap.size:=by omega
 have h:w2.heap[w.heap.size]?=some (.cells m.toArray t (0,0)):=by
  grind
 have s1:=r.sim.grown f E;have s2:=s1.addRo (b:=w.heap.size) (by omega) (λq=>Nat.lt_irrefl _ (r.sim.frLt _ q)) (λi x O L X=>Nat.lt_irrefl _ (r.sim.own i _ x O L X).1)
  (λi d x O L X=>Nat.lt_irrefl _ (r.sim.hid i d x _ O L (r.sim.hidKeep O L (λz=>f d (r.sim.own i d x O L z).1) (λb q=>f b (r.sim.roLt b q)) X)).lt)
 have ev:Qm fr p w (λc=>p c\/c=w.heap.size) w2:=by
  refine⟨λb q=>.inl q,λb q=>f b (r.sim.roLt b q),λb q=>f b (r.sim.frLt b q),E,?_,g.os,g.tape,g.output,g.drawn⟩
  grind[World.shape?]
 have ae:VR (λc=>p c\/c=w.heap.size) U w2 (.rp cs) (.pointer (some ⟨w.heap.size,0,none⟩)):=by
  refine⟨w.heap.size,0,rfl,.inr rfl,?_⟩;refine QiG (pre:=[]) (by simpa using h) ?_ (G.plain hcp);have h6:LR p [] w1 cs m:=LR.data hda G;refine h6.mono ⟨λ_ q=>.inl q,λb q=>?_,λb x u=>?_,λ_ _ q=>q⟩
  .show(w1.heap.setIfInBounds w.heap.size _)[b]?=_;have:=r.sim.roLt b q;rw[Array.getElem?_setIfInBounds_ne (by omega)]
  .by_cases e:b=w.heap.size
   .subst e;unfold World.shape? at u⊢;rw[j]at u;rw[h];simp at u⊢;rw[W]at u;rw[aa];exact u
   .unfold World.shape? at u⊢;rw[show w2.heap[b]?=w1.heap[b]? from Array.getElem?_setIfInBounds_ne (Ne.symm e)];exact u
 have r2:Rel fr (λc=>p c\/c=w.heap.size) U H (up env d (.rp cs)) N a1 w2:=
  ⟨s2,VR.up (fr:=fr) (λs=>(r.env s).mono (ev.ext0 U)) M ae,by simpa[a1]using r.size,r.defers.keep ev⟩
 exact Yn (λe a w q=>q.step ev rfl) _ _ _ (k rd fr _ U a1 w2 r2 (hrd.to ev λ_ q=>q))
end
variable {t:TypeId}
section
variable {P:Program} {o:Oper} {env:Env} {H:Qc}
theorem Qdr{e:TypeId}{p:Option Addr}{w:World}(a:∀w,(underlying t).run P w=.ok (.pointer e) w):(Op.equal t (.pointer p) (.pointer none)).run P w=.ok p.isNone w:=by
 have k:∀d,(Op.equalIn (d+1) t (.pointer p) (.pointer none)).run P w=.ok p.isNone w:=by
  cases p<;>simp[Op.equalIn,a]
 exact k 9999
theorem Qj2{e u:TypeId}{x:Operand}{i off:Nat}(l:∀w,(underlying t).run P w=.ok (.pointer e) w)(f:opA env x=.ptr i off)(j:o.op=.binOp .eql t x (.const (.pointer none)) u:=by exact rfl):OpV P o env H (.bool false):=by
 intro h m U N a w r;have d:=Qh r x;rw[f]at d;obtain⟨b,n,g⟩:=d;have k:a.eval (.const (.pointer none))=.pointer none:=rfl;refine⟨_,?_,rfl⟩
 simp_all[execOp,Go.binOp,eqGuard,Qdr]
theorem Qj3{e u:TypeId}{x:Operand}(k:∀w,(underlying t).run P w=.ok (.pointer e) w)(f:opA env x=.nilp)(i:o.op=.binOp .eql t x (.const (.pointer none)) u:=by exact rfl):OpV P o env H (.bool true):=by
 intro h l U N a w r;have d:=Qh r x;rw[f]at d;have j:a.eval (.const (.pointer none))=.pointer none:=rfl;have g:a.eval x=.pointer none:=d;refine⟨_,?_,rfl⟩
 simp_all[execOp,Go.binOp,eqGuard,Qdr]
end
variable {hi:Int}
section
variable {P:Program} {o:Oper} {env:Env} {H:Qc} {α:Type}
def QhY(l:List α)(lo hi i:Int):Option α:=bif decide (0<=lo)&&(decide (0<=i)&&decide (lo+i<hi))then idx l (lo+i)else none
theorem QlP{l:List α}{lo i:Int}{v:α}(h:QhY l lo hi i=some v):0<=lo/\0<=i/\lo+i<hi/\idx l (lo+i)=some v:=by
 unfold QhY at h
 grind
theorem QhX{l:List α}{lo i:Int}{v:α}(h:QhY l lo hi i=some v):idx l (lo+i)=some v:=(QlP h).2.2.2
theorem Qgr{t a k b:Nat}{x:Operand}{l:List α}{d:IntKind}{lo i:Int}{v:α}(h:QhY l lo hi i=some v)(m:∀w,(underlying t).run P w=.ok (.slice a) w)(n:∀w,(sizeOf a).run P w=.ok k w)
  (f:o.op=.indexAddr t x y:=by exact rfl)(hx:opA env x=.osl b (0+lo.toNat) (hi.toNat-lo.toNat) k:=by exact rfl)(hy:opA env y=.int d i:=by exact rfl):OpV P o env H (.ptr b ((lo+i).toNat*k)):=by
 obtain⟨p,g,q,_⟩:=QlP h;have j:=Qiw (H:=H) f m n hx hy g (by omega);have e:(0+lo.toNat)*k+i.toNat*k=(lo+i).toNat*k:=by
  rw[<- Xy]
  grind
 rwa [e]at j
end
theorem Le.same{h0:Nat}{env:Env}{H H':Qc}(e:H=H'):Le h0 env H env H':=e▸Le.refl h0 env H
section
variable {P:Program} {o:Oper} {env:Env} {H:Qc}
theorem Qc2{β:Type}{t G n:Nat}{x:Operand}{L:List β}{f:β->A}{rest cs:List A}{i:Int}{l:β}{B:IntKind}(h:idx L i=some l)(z:cs=L.map f++rest)(X:L.length=n)(T:∀w,(underlying t).run P w=.ok (.array n G) w)(M:∀w,(sizeOf G).run P w=.ok 1 w)(Q:Nat.ble 2 n=true)
  (J:o.op=.indexAddr t x y:=by exact rfl)(hx:opA env x=.rp cs:=by exact rfl)(hy:opA env y=.int B i:=by exact rfl):OpV P o env H (.rp [f l]):=by
 intro V W U N a w r;have k:=Qh r x;rw[hx]at k;obtain⟨m,d,k,u,q⟩:=k;have F:=Qh r y;rw[hy]at F;have p:a.eval y=.int B i:=F;obtain⟨i0,E⟩:=Qad h;have O:i.toNat<L.length:=(by grind);have R:i=(i.toNat:Int):=by omega
 generalize i.toNat=j at*;subst R;have s:j<n:=by omega
 refine⟨.pointer (some ⟨m,d+j*1,none⟩),?_,m,d+j*1,rfl,u,?_⟩
 .have hr:=by omega
  have g:(⟨m,d,none⟩:Addr).add ((j:Int).toNat*1)=⟨m,d+j*1,none⟩:=by
   grind[Addr.add]
  generalize a.eval=ρ at*;simp[execOp,J,k,p,Instr.indexAt,asIntOf,T,M,hr,g,go_sem,s]
 .have Y:=CR.take 1 (CR.drop j q);have e:(cs.drop j).take 1=[f l]:=by
   rw[z,X3 (by rw[XX];omega), <- List.map_drop]
   simp_all[Xp]
  grind
end
variable {β:Type}
section
variable {env:Env} {H:Qc}
theorem Qnx{h0 i j m o' n k T:Nat}{x:Blk}{cs:List A}(hi:H[i]?=some x)(B:H[j]?=some (.cells T cs))(s:cs[m]?=some (.osl i o' n k))(f:Nat.beq i j=false)(X:Nat.ble h0 H.length=true):
  Le h0 env H env ((H.set i .dead).set j (.cells T (cs.set m (.osl H.length o' n k)))++[x]):=by
 intro Y z U N a w r;have hiσ:i<U.length:=by rw[r.sim.len];exact(XI.1 hi).1
 have hσ:U[i]?=some U[i]:=XH hiσ;have ext:Ext z U w z (U++[U[i]]) w:=⟨λ_ q=>q,λ_ _=>rfl,λ_ _ q=>q,λ_ _ h=>Qaa h⟩;have O:=r.sim.moved hi hσ;have e:j<H.length:=(XI.1 B).1;have F:i≠j:=λq=>by rw[q,Vz]at f;cases f
 have g:(H.set i .dead++[x])[j]?=some (.cells T cs):=by
  rw[XJ (by simpa using e),XM F];exact B
 have P:(H.set i .dead).set j (.cells T (cs.set m (.osl H.length o' n k)))++[x]=(H.set i .dead++[x]).set j (.cells T (cs.set m (.osl H.length o' n k))):=by
  rw[List.set_append_left _ _ (by simpa using e)]
 rw[P];refine⟨z,U++[U[i]],⟨O.weaken g rfl ?_,λq=>(r.env q).mono ext,r.size,r.defers⟩,λ_ q=>q,QF (by rw[r.sim.len];exact XO X)⟩;have d:U.length=H.length:=r.sim.len;intro y h;cases y with
 |none=>exact h
 |some b=>
  obtain⟨l,L,W,J⟩:=h;refine⟨l,L,?_,J⟩;clear L J g P B O
  induction cs generalizing m l with
  |nil=>cases s
  |cons c cs V=>
   obtain⟨v,u,rfl,Q,G⟩:=W;cases m with
   |zero=>
    simp at s;subst s;refine⟨v,u,rfl,?_,G⟩;rcases Q with h|⟨b,p,E,t,m,M,R⟩
    .exact .inl h
    .refine .inr ⟨b,p,E,t,m,?_,R⟩;rw[XJ hiσ,hσ]at M;rw[<- d];simpa using M
   |succ m=>exact⟨v,u,rfl,Q,V (by simpa using s) u G⟩
def Qfx{γ:Type}(o:Option β)(n:Option γ)(s:β->Option γ):Option γ:=match o with
 |none=>n
 |some v=>s v
theorem Qn5{β γ:Type}{o:Option β}{n:Option γ}{s:β->Option γ}{r:γ}(h:Qfx o n s=some r):(o=none/\n=some r)\/ ∃v,o=some v/\s v=some r:=by
 cases o with
 |none=>exact .inl ⟨rfl,h⟩
 |some v=>exact .inr ⟨v,rfl,h⟩
theorem Qiy{P:Program}{o:Oper}{H':Qc}{T:Nat}{x zz:Operand}(g:o.op=.insert T x y zz)(h:OpU P {o with op:=.mapUpdate T x y zz} env H H'):OpU P o env H H':=by
 intro e k U N a w r;obtain⟨f,d,τ,i,l,j⟩:=h e k U N a w r;exact⟨f,d,τ,by simpa only[execOp,g]using i,l,j⟩
end
section
variable {P:Program} {o:Oper} {env:Env} {H:Qc} {T kt et:Nat} {α β:Type} [DecidableEq α] {ek:α->A} {ev:β->A} {x y:Operand} {i:Nat} {l:List (α×β)} {k:α} {z:Value} {zA:A}
theorem Qno{v:β}(K:Jd P kt ek)(d:YQ l k=some v)(Q:P.underlying T=some (.map kt et))
  (L:o.op=.lookup T x y true:=by exact rfl)(hx:opA env x=.map i:=by exact rfl)(hH:H[i]?=some (.map (Qo ek ev l)):=by exact rfl)(hy:opA env y=ek k:=by exact rfl):OpV P o env H (.tup [ev v,.bool true]):=by
 intro W Y U N a w r;have m:=Qh r x;rw[hx]at m;obtain⟨b,z,t⟩:=m;have s:=Qh r y;rw[hy]at s;have E:=VR.val (K.scl _) s;obtain⟨G,f,F,n,R,V,B⟩:=r.sim.blk i _ _ z hH;obtain⟨M,O⟩:=ER.find K n k B;rcases K.find w k G.toList (QaR K n)with⟨h,g⟩|⟨j,e,h,g,u⟩
 .rw[(M g).1]at d;cases d
 .obtain⟨u1,X,p,J⟩:=O j e g u;rw[d]at p;cases p;refine⟨.tuple #[e.val,.bool true],?_,[e.val,.bool true],rfl,e.val,_,rfl,J.mono ⟨λ_ q=>q,λ_ _=>rfl,λ_ _ q=>q,λj c q=>by simp at q⟩,_,_,rfl,rfl,rfl⟩;have:(Instr.lookup T (.map (some b)) (QW (ek k)) true).run P w=.ok (.tuple #[e.val,.bool true]) w:=by
   simp only[Instr.lookup,Vg,run_underlying Q,Result.andThen,MapKept.run_getObj_map F,Vh,K.check,h,if_true]
  simp only[execOp,L,t,E,Vg,this,Result.andThen];rfl
theorem Qnp(K:Jd P kt ek)(E:YQ l k=none)(O:P.underlying T=some (.map kt et))(Q:∀w,(zeroValue et).run P w=.ok z w)(d:ZR zA z)
  (L:o.op=.lookup T x y true:=by exact rfl)(hx:opA env x=.map i:=by exact rfl)(hH:H[i]?=some (.map (Qo ek ev l)):=by exact rfl)(hy:opA env y=ek k:=by exact rfl):OpV P o env H (.tup [zA,.bool false]):=by
 intro X ro U N a w r;have h:=Qh r x;rw[hx]at h;obtain⟨b,u,s⟩:=h;have q:=Qh r y;rw[hy]at q;have F:=VR.val (K.scl _) q;obtain⟨J,f,G,m,R,V,B⟩:=r.sim.blk i _ _ u hH;obtain⟨Y,M⟩:=ER.find K m k B;rcases K.find w k J.toList (QaR K m)with⟨g,p⟩|⟨j,e,g,p,t⟩
 .refine⟨.tuple #[z,.bool false],?_,[z,.bool false],rfl,z,_,rfl,d _ _ _,_,_,rfl,rfl,rfl⟩;have:(Instr.lookup T (.map (some b)) (QW (ek k)) true).run P w=.ok (.tuple #[z,.bool false]) w:=by
   simp only[Instr.lookup,Vg,run_underlying O,Result.andThen,MapKept.run_getObj_map G,Vh,K.check,g,Q,if_true]
  simp only[execOp,L,s,F,Vg,this,Result.andThen];rfl
 .obtain⟨u1,v',n,W⟩:=M j e p t;rw[E]at n;cases n
end
open Go.Sort Go.Proofs Go.Shelf
end Go.Sw
namespace Go.Sw
variable {P:Program}
theorem QiU{T e k:Nat}{w:World}(E1:∀w,(underlying T).run P w=.ok (.slice e) w)(E2:∀w,(sizeOf e).run P w=.ok k w){ad:Option Addr}{n cap:Nat}{z:Int}(a:n<=cap)(h0:0<=z)(f:z<=n):
  (Instr.sliceAt T (.slice ad n cap) none (some (.int .i64 z)) (some (.int .i64 z))).run P w=.ok (.slice (if z.toNat=0 then ad else ad.map (·.add (0*k))) (z.toNat-0) (z.toNat-0)) w:=by
 have d:(Instr.sliceBounds true n cap none (some (.int .i64 z)) (some (.int .i64 z))).run P w=.ok (0,z.toNat,z.toNat) w:=by
  simp[Instr.sliceBounds,Vg,Vh,Result.andThen,YY h0 (show z<=cap by omega),YY h0 (show z<=z.toNat by omega)]
 simp[Instr.sliceAt,Vg,E1,Result.andThen,Instr.slice,d,E2,Vh]
theorem Qj6{α:Type}{o:Oper}{env:Env}{H:Qc}{T et k b:Nat}{x hi i:Operand}{l r:List α}{c:Int}(h:slc l 0 c=some r)(E1:∀w,(underlying T).run P w=.ok (.slice et) w)(E2:∀w,(sizeOf et).run P w=.ok k w)
  (f:o.op=.slice T x none (some hi) (some i):=by exact rfl)(hx:opA env x=.osl b 0 l.length k:=by exact rfl)(h1:opA env hi=.int .i64 c:=by exact rfl)(h2:opA env i=.int .i64 c:=by exact rfl):
  OpV P o env H (.osl b (0+Int.toNat 0) (c.toNat-Int.toNat 0) k):=by
 intro G J U N a w r;obtain⟨L,s,t,_⟩:=Qfc h;have g:=Qh r x;rw[hx]at g;rcases g with⟨j,e⟩|⟨n,p,F,B,m,j,e,E,⟨z,M⟩,y,u⟩
 .have d:=QiU (w:=w) E1 E2 (ad:=none) (XQ 0) s (by omega);refine⟨_,by simp[execOp,f,e,Vg,Xl,Xk,QK r h1,QK r h2,d,Vh];rfl,?_⟩;left;have:c.toNat=0:=by omega
  simp[this]
 .have d:=QiU (w:=w) E1 E2 (ad:=some ⟨n,p,none⟩) z s t;refine⟨_,by simp[execOp,f,e,Vg,Xl,Xk,QK r h1,QK r h2,d,Vh];rfl,?_⟩;right;refine⟨n,p,c.toNat,B,m,j,by simp[JX],λq=>?_,⟨by simp,by omega⟩,y,?_⟩
  .rw[E (by omega)];simp
  .refine XS (XA k ?_) u;omega
section
variable {P:Program} {o:Oper} {env:Env} {H:Qc} {fr ro:Nat->Prop} {U:Sig} {w:World}
end
def fnm(P:Program)(i:Nat):String:=match P.funcs[i]? with|some f=>f.name|none=>""
theorem Qip{f:FuncId}{B:Func}(d:(fnm P f=="runtime.NumGoroutine")=false)(h:P.funcs[f]?=some {B with name:=fnm P f}):Go.Proofs.Bears P f B:=⟨_,d,h⟩
def slK(P:Program)(t:Nat):Nat:=match P.underlying t with|some (.slice e)=>e|_=>0
def zA1:A->Value
 |.int k n=>.int k n
 |.bool b=>.bool b
 |.str _=>.string ⟨#[]⟩
 |.rsl _ _=>.slice none 0 0
 |.nils=>.slice none 0 0
 |.nilp=>.pointer none
 |.nilm=>.map none
 |.nilif=>.nilIface
 |_=>.nilFunc
def zA:A->Value
 |.agg r=>.agg (r.map zA1).toArray
 |a=>zA1 a
def kL(P:Program)(F:List (Nat×List (Nat×Nat)))(T:TyX)(Z:TyZ)(w:World):=
 (F.map λe=>(underlying e.1).run P w,F.map λe=>(P.fieldsOf e.1).toList.map λf=>(f.offset,(sizeOf f.type).run P w),
  T.ty.agg.map λe=>((isAgg e.1).run P w,(sizeOf e.1).run P w),T.ty.zer.map λe=>(zeroValue e.1).run P w,
  T.al.map λe=>(zeroValue e.1).run P w,T.sl.map λt=>(underlying t).run P w,Z.sl.map λe=>((underlying e.1).run P w,(sizeOf e.2.1).run P w))
def kR(P:Program)(F:List (Nat×List (Nat×Nat)))(T:TyX)(Z:TyZ)(w:World):=
 (F.map λe=>Result.ok (TypeDesc.struct (P.fieldsOf e.1)) w,F.map λe=>e.2.map λx=>(x.1,Result.ok x.2 w),
  T.ty.agg.map λe=>(Result.ok e.2.1 w,Result.ok e.2.2 w),T.ty.zer.map λe=>Result.ok (zA (.agg e.2.1)) w,
  T.al.map λe=>Result.ok (zA e.2) w,T.sl.map λt=>Result.ok (TypeDesc.slice (slK P t)) w,Z.sl.map λe=>(Result.ok (TypeDesc.slice e.2.1) w,Result.ok e.2.2 w))
def kT(F:List (Nat×List (Nat×Nat)))(T:TyX):Bool:=
 chkF F T.ty.fld&&T.ty.zer.all (λe=>zrB (.agg e.2.1) (zA (.agg e.2.1))&&F.contains (e.1,e.2.2))&&T.al.all λe=>zrB e.2 (zA e.2)&&Yj e.2&&(Yr e.2).all Yy
theorem Qb0{α β:Type}{L:List α}{f g:World->α->β}(h:∀w,L.map (f w)=L.map (g w)){e:α}(he:e∈L)(w:World):f w e=g w e:=List.map_inj_left.1 (h w) e he
theorem PL.ofK{P:Program}:∀{fs:List Field} {pl:List (Nat×Nat)},(∀w:World,fs.map (λf=>(f.offset,(sizeOf f.type).run P w))=pl.map λx=>(x.1,Result.ok x.2 w))->PL P fs pl
 |[],[],_=>.nil
 |[],_::_,h=>by cases h default
 |_::_,[],h=>by cases h default
 |f::fs,(a,n)::pl,h=>by
  have h1:=λw=>List.cons.inj (h w);have e:=λw=>Prod.mk.inj (h1 w).1;obtain rfl:f.offset=a:=(e default).1;exact .cons (λw=>(e w).2) (PL.ofK λw=>(h1 w).2)
section
variable {P:Program} {F:List (Nat×List (Nat×Nat))} {T:TyX} {Z:TyZ}
theorem Qpz(h:kL P F T Z=kR P F T Z):∀e∈F,Qd6 P e.1 e.2:=λe he=>
 ⟨_,λw=>by simpa using Qb0 (f:=λw e=>(underlying e.1).run P w) (λw=>(Prod.mk.inj (congrFun h w)).1) he w,PL.ofK λw=>Qb0 (f:=λw e=>(P.fieldsOf e.1).toList.map λf=>(f.offset,(sizeOf f.type).run P w)) (λw=>(Prod.mk.inj (Prod.mk.inj (congrFun h w)).2).1) he w⟩
theorem Qbn.ofK(h:kL P F T Z=kR P F T Z)(k:kT F T=true):Qbn P T:=by
 have d:=Qpz h;simp only[kT,XT,Xs]at k;refine⟨⟨QqQ d k.1.1,λe a=>?_,λe a=>?_⟩,λe a=>?_,λe a=>?_⟩
 .have:=Qb0 (f:=λw e=>((isAgg e.1).run P w,(sizeOf e.1).run P w)) (λw=>(Prod.mk.inj (Prod.mk.inj (Prod.mk.inj (congrFun h w)).2).2).1) a;exact⟨λw=>(Prod.mk.inj (this w)).1,λw=>(Prod.mk.inj (this w)).2⟩
 .have:=Qb0 (f:=λw e=>(zeroValue e.1).run P w) (λw=>(Prod.mk.inj (Prod.mk.inj (Prod.mk.inj (Prod.mk.inj (congrFun h w)).2).2).2).1) a;have q:=k.1.2 e a;exact⟨⟨_,this,zrC q.1⟩,d _ (List.contains_iff_mem.1 q.2)⟩
 .have:=Qb0 (f:=λw e=>(zeroValue e.1).run P w) (λw=>(Prod.mk.inj (Prod.mk.inj (Prod.mk.inj (Prod.mk.inj (Prod.mk.inj (congrFun h w)).2).2).2).2).1) a;have q:=k.2 e a;exact⟨⟨_,this,zrC q.1.1⟩,q.1.2,Xs.2 q.2⟩
 .exact⟨_,Qb0 (f:=λw t=>(underlying t).run P w) (λw=>(Prod.mk.inj (Prod.mk.inj (Prod.mk.inj (Prod.mk.inj (Prod.mk.inj (Prod.mk.inj (congrFun h w)).2).2).2).2).2).1) a⟩
theorem QcG.ofK(h:kL P F T Z=kR P F T Z)(k:∀f∈Z.fn,∀(a:Array Value) (w:World),(callFunc f a).run P w=.ok (.enter f a) w):QcG P Z:=⟨λe he=>by
 have:=Qb0 (f:=λw e=>((underlying e.1).run P w,(sizeOf e.2.1).run P w)) (λw=>(Prod.mk.inj (Prod.mk.inj (Prod.mk.inj (Prod.mk.inj (Prod.mk.inj (Prod.mk.inj (congrFun h w)).2).2).2).2).2).2) he;exact⟨λw=>(Prod.mk.inj (this w)).1,λw=>(Prod.mk.inj (this w)).2⟩,k⟩
theorem Qq1{L:List Nat}(h:(λ(a:Array Value) (w:World)=>L.map λf=>(callFunc f a).run P w)=λa w=>L.map λf=>.ok (.enter f a) w):∀f∈L,∀(a:Array Value) (w:World),(callFunc f a).run P w=.ok (.enter f a) w:=
 λf hf a=>Qb0 (f:=λw f=>(callFunc f a).run P w) (λw=>congrFun (congrFun h a) w) hf
end
section
variable {P:Program}
theorem Qlp.c{f:Field}{fs:List Field}{h off e:Nat}{a d:List Value->Prop}(j:∀h,QiD P f.type (h+1) 1 false a)(i:Qlp P fs (h+1) (off+1) e d)(g:Nat.beq f.offset off=true:=by exact rfl)(hn:f.name≠"_":=by decide):
  Qlp P (f::fs) (h+1) off (1+e) (λl=>∃l1 l2,l=l1++l2/\a l1/\d l2):=Qlp.cons g hn (j h) (λ_=>rfl) i
theorem RF.c1{n:Nat}{T:Type}{e:T->List A}{wf:T->Prop}{f:Field}{fs:List Field}{off L:Nat}{T2:Type}{d:T2->List A}{a:T2->Prop}(h:RB P n f.type T e wf)(r:RF P n fs (off+1) L T2 d a)(g:f.offset=off:=by exact rfl)(hk:P.cellsOf f.type=1:=by kernel_rfl):
  RF P n (f::fs) off L (T×T2) (λp=>e p.1++d p.2) (λp=>wf p.1/\a p.2):=RF.cons g hk h r
end
variable {β:Type}
@[reducible] def Kp(P:Program)(F:Option β)(f:FuncId)(args:List A)(H:Qc)(w:β->A)(H1:β->Qc):Prop:=∀r,F=some r->C P f args H (RQ w H1 r)
theorem Kp.b{β:Type}{F:Option β}{f:FuncId}{fn:Func}{c:Code}{N:Nat}{args:List A}{H:Qc}{w:β->A}{H1:β->Qc}(hf:P.funcs[f]?=some fn)(hb:fn.body=some c)(hN:fn.ntmps=N)(hA:Nat.ble args.length N=true)
  (h:∀r,F=some r->TC P H.length N c (Qew 0 args) H (QaC P H.length fn (RQ w H1 r))):Kp P F f args H w H1:=λr e=>QE hf hb hN hA (h r e)
abbrev Ea:=@Ev.bind
abbrev Ec:=@FzH.keep
abbrev Ed:=@FzL.cons
abbrev Ee:=@FzA.refl
abbrev Ef:=@PL.cons
abbrev Eg:=@DS.done
abbrev Eh:=@Ev.and
abbrev Ei:=@EvI.done
abbrev Ej:=@FzL.refl
abbrev Ek:=@OpH.lit
abbrev El:=@RF.cons
abbrev Em:=@RF.c1
abbrev En:=@Le.trans
abbrev Eo:=@FzA.o
abbrev Ep:=@Le.phantom
abbrev Er:=@Ev.or
abbrev Et:=@Ev.eq
abbrev Eu:=@EvI.cont
abbrev Ew:=@Ev.iter
abbrev Ex:=@OpU.store
abbrev Ey:=@OpV.load
abbrev Ez:=@Ev.const
theorem Zf.{u,v}{α:Sort u}{β:Sort v}{f:α->β}:∀x,f x=f x:=λ_=>rfl
abbrev Ze.{u,v}{α:Sort u}{β:Type v}:α->List β:=λ_=>[]
end Go.Sw
