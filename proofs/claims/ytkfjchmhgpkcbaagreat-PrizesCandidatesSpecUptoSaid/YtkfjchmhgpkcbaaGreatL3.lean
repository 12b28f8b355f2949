/- The rules by which the code is walked, with what they rest on (part 3). -/
import Derived.Test.YtkfjchmhgpkcbaaGreatL2
import Derived.Laws.BytesString
set_option linter.unusedVariables false
set_option linter.unusedSectionVars false
set_option linter.unusedSimpArgs false
namespace Go.Sw
structure TyI where
 fld:List (Nat×Nat×Nat)
 agg:List (Nat×Bool×Nat)
 zer:List (Nat×List A×List (Nat×Nat))
structure TyOK (P:Program) (T:TyI):Prop where
 fld:∀e∈T.fld,∃n,YV P e.1 e.2.1 e.2.2 n
 agg:∀e∈T.agg,(∀w,(isAgg e.1).run P w=.ok e.2.1 w)/\ ∀w,(sizeOf e.1).run P w=.ok e.2.2 w
 zer:∀e∈T.zer,(∃z,(∀w,(zeroValue e.1).run P w=.ok z w)/\ZR (.agg e.2.1) z)/\QF P e.1 e.2.2
def Qfi:List (Nat×Nat×Nat)->Nat->Nat->Option Nat
 |[],_,_=>none
 |(a,b,c)::r,t,f=>bif Nat.beq a t&&Nat.beq b f then some c else Qfi r t f
def Qby{β:Type}:List (Nat×β)->Nat->Option β
 |[],_=>none
 |(a,b)::r,t=>bif Nat.beq a t then some b else Qby r t
theorem Qfh{l:List (Nat×Nat×Nat)}{t f c:Nat}(h:Qfi l t f=some c):(t,f,c)∈l:=by
 induction l with
 |nil=>cases h
 |cons x r ih=>
  obtain⟨a,b,d⟩:=x
  unfold Qfi at h
  cases q:(Nat.beq a t&&Nat.beq b f)with
  |true=>
   rw[q]at h
   simp only[Bool.and_eq_true]at q
   have e1:=Nat.eq_of_beq_eq_true q.1
   have e2:=Nat.eq_of_beq_eq_true q.2
   simp only[cond_true,Option.some.injEq]at h
   subst e1 e2 h
   exact .head _
  |false=>rw[q]at h;exact .tail _ (ih h)
theorem Qav{β:Type}{l:List (Nat×β)}{t:Nat}{c:β}(h:Qby l t=some c):(t,c)∈l:=by
 induction l with
 |nil=>cases h
 |cons x r ih=>
  obtain⟨a,b⟩:=x
  unfold Qby at h
  cases q:Nat.beq a t with
  |true=>
   rw[q]at h
   have e1:=Nat.eq_of_beq_eq_true q
   simp only[cond_true,Option.some.injEq]at h
   subst e1 h
   exact .head _
  |false=>rw[q]at h;exact .tail _ (ih h)
def QeK(H:Qc):A->Option (List A)
 |.rp cs=>some cs
 |.ptr i off=>match H[i]? with
  |some (.cells _ cs)=>some (cs.drop off)
  |_=>none
 |_=>none
theorem Qf5{H:Qc}{p:A}{cs:List A}(h:QeK H p=some cs):Pts H p cs:=by
 unfold QeK at h
 split at h
 ·cases h;exact Pts.rp
 ·split at h
  ·rename_i hH
   cases h
   exact Pts.cells hH rfl
  ·cases h
 ·cases h
def QhY(T:TyI)(o:Oper)(env:Env)(H:Qc):Option A:=
 match o.op with
 |.move x=>some (opA env x)
 |.assign x=>some (opA env x)
 |.fieldAddr t x f=>match Qfi T.fld t f with
  |none=>none
  |some off=>match opA env x with
   |.ptr i p=>some (.ptr i (p+off))
   |.rp cs=>some (.rp (cs.drop off))
   |_=>none
 |.load t x=>match Qby T.agg t with
  |none=>none
  |some (b,n)=>match x with
   |.global g=>match QfZ[g]? with
    |some zs=>bif b&&Nat.beq zs.length n then some (.agg (zs.map (A.int .i64)))else none
    |none=>none
   |x=>match QeK H (opA env x)with
    |none=>none
    |some cs=>bif b then(bif Nat.beq (cs.take n).length n then some (.agg (cs.take n))else none)else cs.head?
 |.build t parts=>match Qby T.zer t with
  |none=>none
  |some (zs,pl)=>match Qdo env pl zs parts.toList with
   |some cs=>some (.agg cs)
   |none=>none
 |.extract x i=>match opA env x with
  |.tup vs=>vs[i]?
  |_=>none
 |.makeFunc f first cap=>some (.fn f (first.toList.map (opA env)) (cap.toList.map (opA env)))
 |_=>none
theorem QhX{P:Program}{T:TyI}(hT:TyOK P T){o:Oper}{env:Env}{H:Qc}{x:A}(h:QhY T o env H=some x):OpV P o env H x:=by
 unfold QhY at h
 split at h
 ·rename_i y ho
  cases h;exact OpV.move ho rfl
 ·rename_i y ho
  cases h;exact OpV.assign ho rfl
 ·rename_i t y f ho
  split at h
  ·cases h
  ·rename_i off hf
   obtain⟨n,hn⟩:=hT.fld _ (Qfh hf)
   split at h
   ·rename_i i p hy
    cases h;exact QbR hn ho hy
   ·rename_i cs hy
    cases h;exact QdD hn ho hy rfl
   ·cases h
 ·rename_i t y ho
  split at h
  ·cases h
  ·rename_i b n ht
   obtain⟨h1,h2⟩:=hT.agg _ (Qav ht)
   split at h
   ·rename_i g
    split at h
    ·rename_i zs hg
     cases q:(b&&Nat.beq zs.length n)with
     |false=>rw[q]at h;cases h
     |true=>
      rw[q]at h
      cases h
      simp only[Bool.and_eq_true]at q
      obtain⟨rfl,q2⟩:=q
      exact Qek h1 h2 hg (Nat.eq_of_beq_eq_true q2) ho
    ·cases h
   ·split at h
    ·cases h
    ·rename_i cs hc
     have hp:=Qf5 hc
     cases b with
     |true=>
      simp only[cond_true]at h
      cases q:Nat.beq (cs.take n).length n with
      |false=>rw[q]at h;cases h
      |true=>
       rw[q]at h
       cases h
       exact QH ho h1 h2 rfl hp rfl (Nat.eq_of_beq_eq_true q)
     |false=>
      simp only[cond_false]at h
      cases cs with
      |nil=>cases h
      |cons v cs=>cases h;exact OpV.load ho h1 rfl hp
 ·rename_i t parts ho
  split at h
  ·cases h
  ·rename_i zs pl hz
   obtain⟨⟨z,h1,h2⟩,h3⟩:=hT.zer _ (Qav hz)
   split at h
   ·rename_i cs hf
    cases h
    exact OpV.build h1 h2 h3 (by rw[ho]) hf
   ·cases h
 ·rename_i y i ho
  split at h
  ·rename_i vs hy
   exact OpV.extract ho hy h
  ·cases h
 ·rename_i f first cap ho
  cases h
  exact OpV.makeFunc (first:=first.toList) (cap:=cap.toList) (by rw[ho]) rfl rfl
 ·cases h
def Qft(af:List Nat):Nat->List Nat->List A->Env->Env
 |j,d::ds,x::xs,e=>(d,bif af.contains j then x else .any)::Qft af (j+1) ds xs e
 |_,_,_,e=>e
theorem QjT{af:List Nat}{env0:Env}(s:Nat):∀(ds:List Nat) (xs:List A) (b:Nat),ds.length=xs.length->
  (∃(j:Nat) (x:A),ds[j]?=some s/\xs[j]?=some x/\lk (Qft af b ds xs env0) s=bif af.contains (b+j)then x else .any)\/(ds.contains s=false/\lk (Qft af b ds xs env0) s=lk env0 s):=by
 intro ds
 induction ds with
 |nil=>intro xs b hl;right;exact⟨rfl,by unfold Qft;rfl⟩
 |cons d ds ih=>
  intro xs b hl
  cases xs with
  |nil=>cases hl
  |cons x xs=>
   cases q:Nat.beq s d with
   |true=>
    have e:=Nat.eq_of_beq_eq_true q
    subst e
    left
    refine⟨0,x,rfl,rfl,?_⟩
    simp only[Qft,lk,q,cond_true]
    rfl
   |false=>
    have hne:s≠d:=fun z=>by subst z;simp[Nat.beq_refl]at q
    simp only[Qft,lk,q,cond_false]
    rcases ih xs (b+1) (by simpa using hl)with⟨j,y,h1,h2,h3⟩|⟨h1,h2⟩
    ·left
     refine⟨j+1,y,by simpa using h1,by simpa using h2,?_⟩
     rw[show b+(j+1)=b+1+j by omega]
     exact h3
    ·right
     refine⟨?_,h2⟩
     rw[List.contains_cons,h1]
     simpa using hne
def Qgp(T:TyI)(N:Nat)(l:List Oper)(ds:List Nat)(xs:List A)(env0:Env)(H:Qc)(i:Nat):Option A:=
 match l[i]? with
 |none=>none
 |some o=>match o.guard,o.dst with
  |none,some d=>bif Nat.blt d N&&Nat.beq ds.length xs.length then QhY T o (Qft (Qh o) 0 ds xs env0) H else none
  |_,_=>none
theorem QjS{af ds:List Nat}{xs:List A}{env0:Env}(hl:ds.length=xs.length):Qjm af ds xs env0 (Qft af 0 ds xs env0):=by
 intro s
 rcases QjT (af:=af) (env0:=env0) s ds xs 0 hl with⟨j,x,h1,h2,h3⟩|h
 ·rw[Nat.zero_add]at h3
  cases q:af.contains j with
  |true=>rw[q]at h3;exact .inl ⟨j,x,q,h1,h2,h3⟩
  |false=>rw[q]at h3;exact .inr (.inl h3)
 ·exact .inr (.inr h)
theorem vQ{P:Program}{T:TyI}(hT:TyOK P T){N:Nat}{l:List Oper}{ds:List Nat}{xs:List A}{env0:Env}{hB hE i:Nat}{H:Qc}{x:A}(hx:xs[i]?=some x)(h:Qgp T N l ds xs env0 H i=some x):Qad P N l ds xs env0 hB hE i H H:=by
 unfold Qgp at h
 split at h
 ·cases h
 ·rename_i o ho
  split at h
  ·rename_i d hg hd
   cases q:(Nat.blt d N&&Nat.beq ds.length xs.length)with
   |false=>rw[q]at h;cases h
   |true=>
    rw[q]at h
    simp only[Bool.and_eq_true]at q
    exact .val o _ d x ho hd hg hx q.1 (QjS (Nat.eq_of_beq_eq_true q.2)) (QhX hT h)
  ·cases h
abbrev I(n:Int):A:=.int .i64 n
theorem zc{a:A}{v:Value}{al:List A}{vl:List Value}(h:ZR a v)(k:ZL al vl):ZL (a::al) (v::vl):=ZL.cons h k
def zr1:A->Value->Bool
 |.int k n,.int k' n'=>decide (k=k')&&decide (n=n')
 |.bool b,.bool b'=>b==b'
 |.str s,.string s'=>s.isEmpty&&s'.data.toList.isEmpty
 |.rsl _ es,.slice none 0 0=>es.isEmpty
 |.nils,.slice none 0 0=>true
 |.nilp,.pointer none=>true
 |.nilf,.nilFunc=>true
 |.nilm,.map none=>true
 |.nilif,.nilIface=>true
 |_,_=>false
def zrL:List A->List Value->Bool
 |[],[]=>true
 |a::r,v::s=>zr1 a v&&zrL r s
 |_,_=>false
def zrB:A->Value->Bool
 |.agg r,.agg s=>zrL r s.toList
 |a,v=>zr1 a v
theorem QhQ{a:A}{v:Value}(h:zr1 a v=true):ZR a v:=by
 unfold zr1 at h
 split at h
 ·simp only[Bool.and_eq_true,decide_eq_true_eq]at h
  obtain⟨rfl,rfl⟩:=h
  exact ZR.int
 ·simp only[beq_iff_eq]at h
  subst h;exact ZR.bool
 ·rename_i s s'
  simp only[Bool.and_eq_true,List.isEmpty_iff]at h
  obtain⟨rfl,h2⟩:=h
  obtain⟨d⟩:=s'
  obtain⟨d⟩:=d
  have h2:d=[]:=h2
  subst h2
  exact ZR.str
 ·rename_i k es
  have h:es=[]:=List.isEmpty_iff.1 h
  subst h
  exact ZR.rsl (α:=A) (e:=fun x=>[x])
 ·exact ZR.nils
 ·exact ZR.nilp
 ·exact ZR.nilf
 ·exact ZR.nilm
 ·exact QjZ
 ·cases h
theorem QhP:∀{r:List A}{s:List Value},zrL r s=true->ZL r s
 |[],[],_=>ZL.nil
 |a::r,v::s,h=>by
  simp only[zrL,Bool.and_eq_true]at h
  exact ZL.cons (QhQ h.1) (QhP h.2)
 |[],_::_,h=>by cases h
 |_::_,[],h=>by cases h
theorem zrC{a:A}{v:Value}(h:zrB a v=true):ZR a v:=by
 unfold zrB at h
 split at h
 ·rename_i r s
  have:=ZR.agg (QhP h)
  simpa using this
 ·exact QhQ h
end Go.Sw
namespace Go.Sw
section
variable {P:Program}{o:Oper}{env:Env}{H:Qc}
end
end Go.Sw
namespace Go.Sw
structure TyX where
 ty:TyI
 al:List (Nat×A)
 sl:List Nat
structure Qbc (P:Program) (T:TyX):Prop where
 ty:TyOK P T.ty
 al:∀e∈T.al,(∃z,(∀w,(zeroValue e.1).run P w=.ok z w)/\ZR e.2 z)/\Q4 e.2=true/\(QU e.2).all Ye=true
 sl:∀t∈T.sl,∃et,∀w,(underlying t).run P w=.ok (.slice et) w
def Yz(all:Array Oper)(o:Oper)(env:Env):Option Bool:=
 match o.guard with
 |none=>some true
 |some (j,c)=>match(all[j]?).bind (·.dst)with
  |none=>none
  |some d=>match lk env d with
   |.bool true=>some c
   |.bool false=>some (!c)
   |.tup []=>some false
   |_=>none
theorem QG{all:Array Oper}{o:Oper}{env:Env}{b:Bool}(h:Yz all o env=some b):Qq all o env b:=by
 unfold Yz at h
 unfold Qq
 split at h
 ·rename_i q
  rw[q]
  cases h;rfl
 ·rename_i j c q
  rw[q]
  split at h
  ·cases h
  ·rename_i d q2
   refine⟨d,q2,?_⟩
   split at h
   ·rename_i q3;cases h;exact .inl ⟨true,q3,by simp⟩
   ·rename_i q3;cases h;exact .inl ⟨false,q3,by cases c<;>rfl⟩
   ·rename_i q3;cases h;exact .inr ⟨q3,rfl⟩
   ·cases h
def Qco:List Nat->Nat->Bool
 |[],_=>false
 |a::r,t=>bif Nat.beq a t then true else Qco r t
theorem Qex{l:List Nat}{t:Nat}(h:Qco l t=true):t∈l:=by
 induction l with
 |nil=>cases h
 |cons a r ih=>
  unfold Qco at h
  cases q:Nat.beq a t with
  |true=>have:=Nat.eq_of_beq_eq_true q;subst this;exact .head _
  |false=>rw[q]at h;exact .tail _ (ih h)
inductive FL where
 |mk (l:List A)
def fl:List A->FL
 |[]=>.mk []
 |a::r=>match fl r with
  |.mk r'=>.mk (a::r')
theorem QbC:∀l:List A,fl l=.mk l
 |[]=>rfl
 |a::r=>by unfold fl;rw[QbC r]
inductive FB where
 |mk (l:List Blk)
def fb:List Blk->FB
 |[]=>.mk []
 |a::r=>match fb r with
  |.mk r'=>.mk (a::r')
theorem Qgy:∀l:List Blk,fb l=.mk l
 |[]=>rfl
 |a::r=>by unfold fb;rw[Qgy r]
inductive FN where
 |mk (n:Nat)
def fn:List Blk->Nat->FN
 |[],n=>.mk n
 |_::r,n=>fn r (n+1)
theorem QiA:∀(l:List Blk) (n:Nat),fn l n=.mk (l.length+n)
 |[],n=>by simp[fn]
 |a::r,n=>by unfold fn;rw[QiA r];simp;omega
def Qgx(env:Env)(pl:List (Nat×Nat)):List A->List (Nat×Operand)->Option (List A)
 |cs,[]=>some cs
 |cs,(i,x)::r=>match Yv pl i with
  |none=>none
  |some (off,size)=>match opB env x with
   |.mk a=>match fl (QU a)with
    |.mk vs=>bif Q4 a&&Nat.beq vs.length size&&Nat.ble (off+size) cs.length then(match fl (splice cs off vs)with
     |.mk cs'=>Qgx env pl cs' r)else none
theorem Qfl{env:Env}{pl:List (Nat×Nat)}:∀(parts:List (Nat×Operand)) (cs:List A),Qgx env pl cs parts=Qdo env pl cs parts
 |[],cs=>rfl
 |(i,x)::r,cs=>by
  unfold Qgx Qdo
  rw[Qaz]
  cases pl[i]? with
  |none=>rfl
  |some q=>
   obtain⟨off,size⟩:=q
   cases h:opB env x with
   |mk a=>
    rw[Qx h]
    simp only[QbC]
    cases(Q4 a&&Nat.beq (QU a).length size&&Nat.ble (off+size) cs.length)with
    |false=>rfl
    |true=>exact Qfl r _
def Qfd(env:Env):List Operand->List A
 |[]=>[]
 |x::r=>match opB env x with
  |.mk a=>a::Qfd env r
theorem Qb2{env:Env}:∀l:List Operand,Qfd env l=l.map (opA env)
 |[]=>rfl
 |x::r=>by
  unfold Qfd
  cases h:opB env x with
  |mk a=>rw[List.map_cons,Qx h];show a::Qfd env r=_;rw[Qb2 r]
def ptX(H:Qc):Bx->Option Lx
 |.mk (.rp cs)=>some (.mk cs)
 |.mk (.ptr i off)=>match Yv H i with
  |some (.cells _ cs)=>some (Qfu off cs)
  |_=>none
 |_=>none
theorem Qks{H:Qc}{p:A}{cs:List A}(h:ptX H (.mk p)=some (.mk cs)):Pts H p cs:=by
 unfold ptX at h
 split at h
 ·rename_i q;cases q;cases h;exact Pts.rp
 ·rename_i i off q
  cases q
  split at h
  ·rename_i hH
   rw[Qaz]at hH
   simp only[Option.some.injEq]at h
   exact Pts.cells hH (Qds h)
  ·cases h
 ·cases h
def Qcj(T:TyX)(o:Oper)(env:Env)(H:Qc):Option A:=
 match o.op with
 |.move x=>match opB env x with|.mk a=>some a
 |.assign x=>match opB env x with|.mk a=>some a
 |.nilCheck x=>nlB (opB env x)
 |.extract x i=>exB (opB env x) i
 |.unOp u _ x=>unB u (opB env x)
 |.pick c x y=>piB (opB env c) (opB env x) (opB env y)
 |.binOp b _ x y _=>biB b (opB env x) (opB env y)
 |.fieldAddr t x f=>match Qfi T.ty.fld t f with
  |none=>none
  |some off=>match opB env x with
   |.mk (.ptr i p)=>some (.ptr i (p+off))
   |.mk (.rp cs)=>match Qfu off cs with
    |.mk r=>some (.rp r)
   |_=>none
 |.load t x=>match Qby T.ty.agg t with
  |none=>none
  |some (b,n)=>match x with
   |.global g=>match Yv QfZ g with
    |some zs=>bif b&&Nat.beq zs.length n then(match fl (zs.map (A.int .i64))with|.mk l=>some (.agg l))else none
    |none=>none
   |x=>match ptX H (opB env x)with
    |none=>none
    |some (.mk cs)=>match b with
     |true=>(match fl (cs.take n)with|.mk l=>bif Nat.beq l.length n then some (.agg l)else none)
     |false=>(match cs with|[]=>none|a::_=>some a)
 |.build t parts=>match Qby T.ty.zer t with
  |none=>none
  |some (zs,pl)=>match Qgx env pl zs parts.toList with
   |some cs=>some (.agg cs)
   |none=>none
 |.makeFunc f first cap=>match fl (Qfd env first.toList),fl (Qfd env cap.toList)with
  |.mk l,.mk l'=>some (.fn f l l')
 |.call c=>match c with
  |{callee:=.builtin .len,args:=⟨[x]⟩,argTypes:=⟨[t]⟩}=>bif Qco T.sl t then(match opB env x with
   |.mk (.osl _ 0 n _)=>some (.int .i64 n)
   |_=>none)else none
  |_=>none
 |_=>none
theorem Qau{P:Program}{T:TyX}(hT:Qbc P T){o:Oper}{env:Env}{H:Qc}{x:A}(h:Qcj T o env H=some x):OpV P o env H x:=by
 unfold Qcj at h
 split at h
 ·rename_i y ho;exact Qbf ho (by unfold svB;exact h)
 ·rename_i y ho;exact Qbf ho (by unfold svB;exact h)
 ·rename_i y ho;exact Qbf ho (by unfold svB;exact h)
 ·rename_i y i ho;exact Qbf ho (by unfold svB;exact h)
 ·rename_i u t y ho;exact Qbf ho (by unfold svB;exact h)
 ·rename_i c y z ho;exact Qbf ho (by unfold svB;exact h)
 ·rename_i b t y z u ho;exact Qbf ho (by unfold svB;exact h)
 ·rename_i t y f ho
  split at h
  ·cases h
  ·rename_i off hf
   obtain⟨n,hn⟩:=hT.ty.fld _ (Qfh hf)
   split at h
   ·rename_i i p hy;cases h;exact QbR hn ho (Qx hy)
   ·rename_i cs hy
    cases q:Qfu off cs with
    |mk r=>rw[q]at h;cases h;exact QdD hn ho (Qx hy) (Qds q)
   ·cases h
 ·rename_i t y ho
  split at h
  ·cases h
  ·rename_i b n ht
   obtain⟨h1,h2⟩:=hT.ty.agg _ (Qav ht)
   split at h
   ·rename_i g
    split at h
    ·rename_i zs hg
     rw[Qaz]at hg
     cases q:(b&&Nat.beq zs.length n)with
     |false=>rw[q]at h;cases h
     |true=>
      rw[q,QbC]at h
      cases h
      simp only[Bool.and_eq_true]at q
      obtain⟨rfl,q2⟩:=q
      exact Qek h1 h2 hg (Nat.eq_of_beq_eq_true q2) ho
    ·cases h
   ·cases e:opB env y with
    |mk p=>
     rw[e]at h
     split at h
     ·cases h
     ·rename_i cs hc
      have hp:=Qks hc
      cases b with
      |true=>
       simp only[QbC]at h
       cases q:Nat.beq (cs.take n).length n with
       |false=>rw[q]at h;cases h
       |true=>
        rw[q]at h
        cases h
        exact QH ho h1 h2 (Qx e) hp rfl (Nat.eq_of_beq_eq_true q)
      |false=>
       cases cs with
       |nil=>cases h
       |cons v cs=>cases h;exact OpV.load ho h1 (Qx e) hp
 ·rename_i t parts ho
  split at h
  ·cases h
  ·rename_i zs pl hz
   obtain⟨⟨z,h1,h2⟩,h3⟩:=hT.ty.zer _ (Qav hz)
   split at h
   ·rename_i cs hf
    cases h
    rw[Qfl]at hf
    exact OpV.build h1 h2 h3 (by rw[ho]) hf
   ·cases h
 ·rename_i f first cap ho
  simp only[QbC]at h
  cases h
  rw[Qb2,Qb2]
  exact OpV.makeFunc (first:=first.toList) (cap:=cap.toList) (by rw[ho]) rfl rfl
 ·rename_i c ho
  split at h
  ·rename_i y t
   cases q:Qco T.sl t with
   |false=>rw[q]at h;cases h
   |true=>
    rw[q]at h
    simp only[cond_true]at h
    obtain⟨et,he⟩:=hT.sl t (Qex q)
    split at h
    ·rename_i i n k q2
     cases h
     exact QhB he ho rfl (Qx q2)
    ·cases h
  ·cases h
 ·cases h
def stX(T:TyX)(h0 N:Nat)(all:Array Oper)(o:Oper)(env:Env)(H:Qc):Option (Env×Qc):=
 match Yz all o env with
 |none=>none
 |some false=>match o.dst with
  |none=>none
  |some d=>bif Nat.blt d N then some (up env d (.tup []),H)else none
 |some true=>match o.dst with
  |none=>match o.op with
   |.store t x y=>match opB env x,Qby T.ty.agg t with
    |.mk (.ptr i off),some (_,n)=>match Yv H i with
     |some (.cells S cs)=>match opB env y with
      |.mk a=>match fl (QU a)with
       |.mk vs=>bif Nat.ble h0 H.length&&(Q4 a&&(Nat.beq vs.length n&&(vs.all Ye&&Nat.ble (off+n) cs.length)))then(match fl (splice cs off vs)with
        |.mk cs'=>match fb (H.set i (.cells S cs'))with
         |.mk H'=>some (env,H'))else none
     |_=>none
    |_,_=>none
   |_=>none
  |some d=>bif Nat.blt d N then(match o.op with
   |.alloc t=>match Qby T.al t with
    |some v=>bif Nat.ble h0 H.length then(match fn H 0,fl (QU v)with
     |.mk n,.mk cs=>match fb (H++[.cells t cs])with
      |.mk H'=>some (up env d (.ptr n 0),H'))else none
    |none=>none
   |.box t x=>match opB env x with
    |.mk a=>bif Nat.ble h0 H.length&&(Q4 a&&(QU a).all Ye)then(match fn H 0,fl (QU a)with
     |.mk n,.mk cs=>match fb (H++[.cells t cs])with
      |.mk H'=>some (up env d (.ptr n 0),H'))else none
   |_=>match Qcj T o env H with
    |some a=>some (up env d a,H)
    |none=>none)else none
section
variable {P:Program}{T:TyX}{h0 N:Nat}{all:Array Oper}{l l':List Oper}{env env':Env}{H H':Qc}{Q:Qz}
theorem QhZ(hT:Qbc P T){o:Oper}(h:stX T h0 N all o env H=some (env',H'))(k:WO P h0 N all l env' H' Q):WO P h0 N all (o::l) env H Q:=by
 unfold stX at h
 split at h
 ·cases h
 ·rename_i hw
  have hg:=QG hw
  split at h
  ·cases h
  ·rename_i d hd
   cases q:Nat.blt d N with
   |false=>rw[q]at h;cases h
   |true=>rw[q]at h;cases h;exact WO.skip hg hd q k
 ·rename_i hw
  have hg:=QG hw
  split at h
  ·rename_i hd
   split at h
   ·rename_i t x y ho
    split at h
    ·rename_i i off b n hx ht
     split at h
     ·rename_i S cs hH
      rw[Qaz]at hH
      cases e:opB env y with
      |mk a=>
       rw[e]at h
       simp only[QbC,Qgy]at h
       generalize hc:(Nat.ble h0 H.length&&(Q4 a&&(Nat.beq (QU a).length n&&((QU a).all Ye&&Nat.ble (off+n) cs.length))))=c at h
       cases c with
       |false=>cases h
       |true=>
        cases h
        simp only[Bool.and_eq_true]at hc
        obtain⟨c1,c2,c3,c4,c5⟩:=hc
        obtain⟨_,hs⟩:=hT.ty.agg _ (Qav ht)
        exact Qf7 (Nat.le_of_ble_eq_true c1) hg hd (OpU.store ho (Qx hx) hH hs (Qx e) c2 rfl (Nat.eq_of_beq_eq_true c3) c4 c5 rfl) k
     ·cases h
    ·cases h
   ·cases h
  ·rename_i d hd
   cases q:Nat.blt d N with
   |false=>rw[q]at h;cases h
   |true=>
    rw[q]at h
    simp only[cond_true]at h
    split at h
    ·rename_i t ho
     split at h
     ·rename_i v hv
      cases c:Nat.ble h0 H.length with
      |false=>rw[c]at h;cases h
      |true=>
       rw[c]at h
       simp only[QbC,Qgy,QiA,cond_true,Nat.add_zero]at h
       cases h
       obtain⟨⟨z,z1,z2⟩,z3,z4⟩:=hT.al _ (Qav hv)
       exact QbQ (Nat.le_of_ble_eq_true c) hg hd q (QbS z1 z2 ho z3 rfl z4) k
     ·cases h
    ·rename_i t x ho
     cases e:opB env x with
     |mk a=>
      rw[e]at h
      simp only[QbC,Qgy,QiA,Nat.add_zero]at h
      generalize hc:(Nat.ble h0 H.length&&(Q4 a&&(QU a).all Ye))=c at h
      cases c with
      |false=>cases h
      |true=>
       cases h
       simp only[Bool.and_eq_true]at hc
       obtain⟨c1,c2,c3⟩:=hc
       exact QbQ (Nat.le_of_ble_eq_true c1) hg hd q (OpH.box ho (Qx e) c2 rfl c3) k
    ·split at h
     ·rename_i a ha
      cases h
      exact Qy hg hd q (Qau hT ha) k
     ·cases h
end
theorem yc{α:Type}{p:α->Prop}{a:α}{l:List α}(h:p a)(k:∀x∈l,p x):∀x∈a::l,p x:=List.forall_mem_cons.2 ⟨h,k⟩
theorem FA{P:Program}{T f off n:Nat}{fs:Array Field}{fd:Field}(h1:∀w,(underlying T).run P w=.ok (.struct fs) w)(h2:fs[f]?=some fd)(h4:∀w,(sizeOf fd.type).run P w=.ok n w)(h3:fd.offset=off:=by exact rfl)(h5:n≠0:=by decide):YV P T f off n:=⟨_,_,h1,h2,h3,h4,h5⟩
theorem Qbg:∀(π:List Nat) (H:Qc) (xs:List Blk),π.map (fun p=>H[p]?)=xs.map some->Q3 H π xs=H
 |[],H,xs,h=>by
  have:xs=[]:=by cases xs with
   |nil=>rfl
   |cons x xs=>simp at h
  subst this;simp[Q3]
 |p::π,H,[],h=>by simp at h
 |p::π,H,x::xs,h=>by
  simp only[List.map_cons,List.cons.injEq]at h
  have e:H.set p x=H:=by
   apply List.ext_getElem?
   intro i
   rw[List.getElem?_set]
   by_cases q:p=i
   ·subst q
    rw[if_pos rfl,h.1]
    have:=(List.getElem?_eq_some_iff.1 h.1).1
    rw[if_pos this]
   ·rw[if_neg q]
  unfold Q3
  rw[e]
  exact Qbg π H xs h.2
def QfQ:A->Option Bx
 |.bool b=>some (.mk (.bool b))
 |.int k n=>some (.mk (.int k n))
 |.str s=>some (.mk (.str s))
 |.rsl k es=>some (.mk (.rsl k es))
 |_=>none
theorem Qgq{v v':A}(h:QfQ v=some (.mk v'))(ρ:Nat->Nat):Yl ρ v=v':=by
 cases v<;>first|(cases h;rfl)|cases h
theorem Pc{P:Program}{h0 N:Nat}{all:Array Oper}{o:Oper}{l:List Oper}{env:Env}{H:Qc}{Q:Qz}{d:Nat}{f:FuncId}{args argsc:List A}{Hc:Qc}{v v':A}(π:List Nat)(hd:o.dst=some d)(hop:OpC P o env H f args)(hC:C P f argsc Hc (fun a H1=>a=v/\H1=Hc))(hv:QfQ v=some (.mk v'))
  (k:WO P h0 N all l (up env d v') H Q)
  (hargs:args=Qaa (rho π H.length) argsc:=by exact rfl)(hH:π.map (fun p=>H[p]?)=(Hc.map (QN (rho π H.length))).map some:=by exact rfl)(hπ:π.Nodup:=by decide)
  (hg:Qq all o env true:=by exact rfl)(hN:Nat.blt d N=true:=by exact rfl)(hh:Nat.ble h0 H.length=true:=by exact rfl):WO P h0 N all (o::l) env H Q:=by
 refine Qu π hop hC ?_ hargs hH hπ hg hd hN hh
 rintro r H1 ⟨rfl,rfl⟩
 rw[Qgq hv,Qbg π H _ hH]
 exact k
theorem QS{i k:Nat}{es:List (List A)}:∀H:Qc,FzH i k es H H
 |[]=>.nil
 |_::r=>.keep (QS r)
def foN:Nat->FN
 |0=>.mk 0
 |n+1=>match foN n with
  |.mk m=>.mk (m+1)
theorem Qdm:∀n,foN n=.mk n
 |0=>rfl
 |n+1=>by unfold foN;rw[Qdm n]
mutual
def foA:A->Bx
 |.agg cs=>match foL cs with
  |.mk l=>.mk (.agg l)
 |.tup cs=>match foL cs with
  |.mk l=>.mk (.tup l)
 |.fn f a c=>match foL a,foL c with
  |.mk l,.mk l'=>.mk (.fn f l l')
 |.iface t v=>match foA v with
  |.mk v'=>.mk (.iface t v')
 |.ptr i off=>match foN i with
  |.mk i'=>.mk (.ptr i' off)
 |.osl i o n k=>match foN i with
  |.mk i'=>.mk (.osl i' o n k)
 |.map i=>match foN i with
  |.mk i'=>.mk (.map i')
 |a=>.mk a
def foL:List A->FL
 |[]=>.mk []
 |a::r=>match foA a,foL r with
  |.mk a',.mk r'=>.mk (a'::r')
end
mutual
theorem Qf0:∀a:A,foA a=.mk a
 |.agg cs=>by unfold foA;rw[QbN cs]
 |.tup cs=>by unfold foA;rw[QbN cs]
 |.fn f a c=>by unfold foA;rw[QbN a,QbN c]
 |.iface t v=>by unfold foA;rw[Qf0 v]
 |.ptr i off=>by unfold foA;rw[Qdm]
 |.osl i o n k=>by unfold foA;rw[Qdm]
 |.map i=>by unfold foA;rw[Qdm]
 |.any|.bool _|.int _ _|.str _|.nilp|.rp _|.nils|.rsl _ _|.nilf|.nilif|.nilm=>by rfl
theorem QbN:∀l:List A,foL l=.mk l
 |[]=>by rfl
 |a::r=>by unfold foL;rw[Qf0 a,QbN r]
end
inductive FE2 where
 |mk (l:List (List A))
def foE:List (List A)->FE2
 |[]=>.mk []
 |a::r=>match foL a,foE r with
  |.mk a',.mk r'=>.mk (a'::r')
theorem Qiz:∀l,foE l=.mk l
 |[]=>rfl
 |a::r=>by unfold foE;rw[QbN,Qiz r]
def foH:List Blk->FB
 |[]=>.mk []
 |b::r=>match foH r with
  |.mk r'=>match b with
   |.cells t cs=>match foL cs with
    |.mk l=>.mk (.cells t l::r')
   |.rowr t k es=>match foE es with
    |.mk l=>.mk (.rowr t k l::r')
   |.dead=>.mk (.dead::r')
   |.row t k es=>.mk (.row t k es::r')
   |.map es=>.mk (.map es::r')
   |.iter c es=>.mk (.iter c es::r')
   |.fmap es=>.mk (.fmap es::r')
   |.mapO fz t k es=>.mk (.mapO fz t k es::r')
   |.ents t a b es=>match foN a,foN b with
    |.mk a',.mk b'=>.mk (.ents t a' b' es::r')
theorem Qiy:∀l,foH l=.mk l
 |[]=>rfl
 |b::r=>by
  unfold foH
  rw[Qiy r]
  cases b<;>simp only[QbN,Qiz,Qdm]
def foS(env:Env)(H:Qc):Option (Env×Qc):=
 match foH H with
 |.mk H'=>match env with
  |[]=>some ([],H')
  |(d,a)::e=>match foA a with
   |.mk a'=>some ((d,a')::e,H')
theorem QkJ(env:Env)(H:Qc):foS env H=some (env,H):=by
 unfold foS
 rw[Qiy]
 cases env with
 |nil=>rfl
 |cons p e=>obtain⟨d,a⟩:=p;simp only[Qf0]
theorem FE{P:Program}{h0 N:Nat}{all:Array Oper}{l:List Oper}{env env':Env}{H H':Qc}{Q:Qz}(h:foS env H=some (env',H'))(k:WO P h0 N all l env' H' Q):WO P h0 N all l env H Q:=by
 rw[QkJ]at h
 cases h
 exact k
theorem R1{P:Program}{h0:Nat}{fn:Func}{env:Env}{H Hc:Qc}{v:A}(s:Nat)(hr:fn.results= #[.tmp s])(hle:Le h0 env H [(s,v)] Hc):Qca P h0 fn (fun a H=>a=v/\H=Hc) .ret env H:=
 ⟨[(s,v)],Hc,v,hle,Qcb.one hr (by show lk [(s,v)] s=v;unfold lk;rw[Nat.beq_refl];rfl),rfl,rfl⟩
theorem R2{P:Program}{h0:Nat}{fn:Func}{env:Env}{H Hc:Qc}{v v':A}(s t:Nat)(hr:fn.results= #[.tmp s,.tmp t])(hn:Nat.beq t s=false)(hle:Le h0 env H [(s,v),(t,v')] Hc):Qca P h0 fn (fun a H=>a=.tup [v,v']/\H=Hc) .ret env H:=
 ⟨[(s,v),(t,v')],Hc,_,hle,Qht hr (by show lk [(s,v),(t,v')] s=v;unfold lk;rw[Nat.beq_refl];rfl) (by show lk [(s,v),(t,v')] t=v';unfold lk lk;rw[hn,Nat.beq_refl];rfl),rfl,rfl⟩
theorem FzA.o{i k n:Nat}{es:List (List A)}(hn:n=es.length:=by first|exact(List.length_map ..).symm|exact rfl):FzA i k es (.osl i 0 n k) (.rsl k es):=FzA.own hn
end Go.Sw
namespace Go.Sw
theorem Le.env{h0:Nat}{env env':Env}{H:Qc}(h:∀s,lk env' s=.any\/lk env' s=lk env s):Le h0 env H env' H:=by
 intro fr ro σ N a w r
 refine⟨ro,σ,⟨r.sim,fun s=>?_,r.size,r.defers⟩,fun _ q=>q,rfl⟩
 rcases h s with h|h
 ·rw[h];trivial
 ·rw[h];exact r.env s
def Qjl(env:Env):Env->Prop
 |[]=>True
 |(s,a)::r=>lk env s=a/\Qjl env r
theorem Qjl.ok{env:Env}:∀{env':Env},Qjl env env'->∀s,lk env' s=.any\/lk env' s=lk env s
 |[],_,s=>.inl rfl
 |(d,a)::e,⟨h1,h2⟩,s=>by
  by_cases q:s=d
  ·subst q;right;simp only[lk,Nat.beq_refl,cond_true];exact h1.symm
  ·have:Nat.beq s d=false:=by
    rw[Bool.eq_false_iff];intro q';exact q (Nat.eq_of_beq_eq_true q')
   simp only[lk,this,cond_false]
   exact Qjl.ok h2 s
theorem Lw{h0:Nat}{env env':Env}{H:Qc}(h:Qjl env env'):Le h0 env H env' H:=Le.env h.ok
theorem Qkn(n i:Nat):rho (List.range n) n i=i:=by
 unfold rho
 by_cases h:i<n
 ·rw[List.getElem?_range h]
 ·rw[List.getElem?_eq_none (by rw[List.length_range];omega)]
  simp only[List.length_range]
  omega
mutual
theorem Qgt{ρ:Nat->Nat}(h:∀i,ρ i=i):∀a:A,Yl ρ a=a
 |.ptr i off=>by simp[Yl,h]
 |.osl i o n k=>by simp[Yl,h]
 |.agg cs=>by simp[Yl,QaI h cs]
 |.fn f a c=>by simp[Yl,QaI h a,QaI h c]
 |.iface t v=>by simp[Yl,Qgt h v]
 |.map i=>by simp[Yl,h]
 |.tup vs=>by simp[Yl,QaI h vs]
 |.any|.bool _|.int _ _|.str _|.nilp|.rp _|.nils|.rsl _ _|.nilf|.nilif|.nilm=>by rfl
theorem QaI{ρ:Nat->Nat}(h:∀i,ρ i=i):∀l:List A,Qaa ρ l=l
 |[]=>rfl
 |a::r=>by simp[Qaa,Qgt h a,QaI h r]
end
theorem Qgs{ρ:Nat->Nat}(h:∀i,ρ i=i):∀l:List (List A),Qev ρ l=l
 |[]=>rfl
 |a::r=>by simp[Qev,QaI h a,Qgs h r]
theorem Qjy{ρ:Nat->Nat}(h:∀i,ρ i=i):∀b:Blk,QN ρ b=b
 |.cells t cs=>by simp[QN,QaI h cs]
 |.rowr t k es=>by simp[QN,Qgs h es]
 |.ents t a b es=>by simp[QN,h]
 |.dead|.row _ _ _|.map _|.iter _ _|.fmap _|.mapO _ _ _ _=>by rfl
theorem Pw{P:Program}{h0 N:Nat}{all:Array Oper}{o:Oper}{l:List Oper}{env:Env}{H:Qc}{Q:Qz}{d:Nat}{f:FuncId}{args:List A}{v v':A}(hd:o.dst=some d)(hop:OpC P o env H f args)(hC:C P f args H (fun a H1=>a=v/\H1=H))(hv:QfQ v=some (.mk v'))
  (hg:Qq all o env true)(hN:Nat.blt d N=true)(hh:h0<=H.length)(k:WO P h0 N all l (up env d v') H Q):WO P h0 N all (o::l) env H Q:=by
 have hid:=Qkn H.length
 have hm:H.map (QN (rho (List.range H.length) H.length))=H:=by
  conv=>rhs;rw[<- List.map_id H]
  exact List.map_congr_left fun b _=>Qjy hid b
 have hH:(List.range H.length).map (fun p=>H[p]?)=(H.map (QN (rho (List.range H.length) H.length))).map some:=by
  rw[hm]
  apply List.ext_getElem?
  intro i
  by_cases q:i<H.length
  ·simp[q]
  ·simp[q]
 refine Qu (List.range H.length) hop hC ?_ (by rw[QaI hid]) hH List.nodup_range hg hd hN (Nat.ble_eq_true_of_le hh)
 rintro r H1 ⟨rfl,rfl⟩
 rw[Qgq hv,Qbg _ _ _ hH]
 exact k
def ixE(d:Nat)(g:Ground):Edge:={on:=d,ground:=g}
def ixO(d:Nat)(op:Op)(t:Nat)(pos:String)(af:Array Edge):Oper:={dst:=some d,op:=op,type:=t,pos:=pos,after:=af,guard:=none}
def QkH(ts te tf tI tB:Nat):Code:=
 (Code.region 0 [ixO 4 (.assign (.const (.int .i64 0))) tI "slices.go:107" #[]].toArray false).seq
  (((Code.region 1 [ixO 6 (.move (.tmp 0)) ts "slices.go:108" #[],ixO 7 (.call {callee:=.builtin .len,args:= #[.tmp 6],argTypes:= #[ts]}) tI "slices.go:108" #[ixE 0 .data],ixO 8 (.move (.const (.int .i64 0))) tI "slices.go:108" #[]].toArray false).seq
   (.block 0 (.loop ((Code.region 2 [ixO 9 (.binOp .lss tI (.tmp 8) (.tmp 7) tI) 0 "slices.go:108" #[]].toArray false).seq
    ((Code.cond (.tmp 9) .skip (.exit 0)).seq
    ((Code.block 1 ((Code.region 3 [ixO 10 (.move (.tmp 8)) tI "slices.go:108" #[],ixO 5 (.assign (.tmp 10)) tI "slices.go:108" #[ixE 0 .data,ixE 0 .phase]].toArray false).seq
     ((Code.region 4 [ixO 11 (.move (.tmp 1)) tf "slices.go:109" #[],ixO 12 (.move (.tmp 0)) ts "slices.go:109" #[],ixO 13 (.move (.tmp 5)) tI "slices.go:109" #[],ixO 14 (.indexAddr ts (.tmp 12) (.tmp 13)) 0 "slices.go:109" #[ixE 1 .data,ixE 2 .data],
       ixO 15 (.load te (.tmp 14)) te "slices.go:109" #[ixE 3 .data],ixO 16 (.call {callee:=.value (.tmp 11),args:= #[.tmp 15],argTypes:= #[te]}) tB "slices.go:109" #[ixE 0 .data,ixE 4 .data]].toArray false).seq
      (Code.cond (.tmp 16) ((Code.region 5 [ixO 17 (.move (.tmp 5)) tI "slices.go:110" #[],ixO 4 (.assign (.tmp 17)) tI "slices.go:110" #[ixE 0 .data,ixE 0 .phase]].toArray false).seq .ret) .skip)))).seq
     (Code.region 6 [ixO 18 (.binOp .add tI (.tmp 8) (.const (.int .i64 1)) tI) tI "slices.go:108" #[],ixO 8 (.move (.tmp 18)) tI "slices.go:108" #[ixE 0 .data]].toArray false))))))).seq
  ((Code.region 7 [ixO 4 (.assign (.const (.int .i64 (-1)))) tI "slices.go:113" #[]].toArray false).seq .ret))
theorem QE{P:Program}{T:Type}{e:T->List A}{el:T->A}{ts te tf tI tB k:Nat}{fI fc:FuncId}{fn:Func}{caps:List A}{Hc:Qc}{L:List T}{g:T->Option Bool}{n:Nat}{r:Int}
  (hf:P.funcs[fI]?=some fn)(hb:fn.body=some (QkH ts te tf tI tB))(hN:fn.ntmps=19)(hR:fn.results= #[.tmp 4])(hu:∀w,(underlying ts).run P w=.ok (.slice te) w)(hs:∀w,(sizeOf te).run P w=.ok k w)
  (hld:∀(o:Oper) (env:Env) (H:Qc) (x:T),o.op=.load te (.tmp 14)->opA env (.tmp 14)=.rp (e x)->OpV P o env H (el x))
  (hca:∀(a:Array Value) (w:World),(callFunc fc a).run P w=.ok (.enter fc a) w)
  (hcl:∀x b,g x=some b->C P fc (el x::caps) Hc (fun a H=>a=.bool b/\H=Hc))
  (h:((iter (fun s:Int=>bif decide (s<(L.length:Int))then(idx L s).bind fun x=>(g x).bind fun b=>(bif b then some (Ctl.done (Ctl.done s))else some (Ctl.cont (IntKind.i64.wrap (s+1))))else some (Ctl.done (Ctl.cont ()))) n (0:Int):Option (Ctl Unit Int)).bind fun b=>match b with|.cont _=>some (-1)|.done s=>some s)=some r):
  C P fI [.rsl k (L.map e),.fn (.func fc) [] caps] Hc (fun a H=>a=.int .i64 r/\H=Hc):=by
 refine Qa hf hb hN rfl ?_
 refine Rg (S rfl (Nx (TC.seq (Rg (S rfl (LnM hu rfl (S rfl (Nx (Bd h fun b10 h11 h=>?_)))))))))
 refine QgK (b:=b10) (fun _=>[]) (fun _=>Hc) ?_ (fun sb10 env H hbe hle=>?_)
 ·refine TC.block ?_
  refine TC.loop (E:=fun s13=>[(0,.rsl k (L.map e)),(1,.fn (.func fc) [] caps),(7,.int .i64 (L.length:Int)),(8,.int .i64 s13)]) (Hp:=fun _=>Hc) h11 ?_ ?_
  ·exact Lw ⟨rfl,rfl,rfl,rfl,trivial⟩
  intro s13 d14 h15 hb12
  refine Rg (S rfl (Nx (TC.seq (Yc rfl h15 (fun hc16 h15=>?_) (fun hc16 h15=>?_)))))
  ·refine ExX (Qj h15 ?_)
   obtain rfl:=hb12 _ (Oi h15).symm
   exact bloE (Qm rfl (Lw trivial))
  refine SkN (TC.seq (TC.block (Rg (S rfl (S rfl (Nx (Rg (S rfl (S rfl (S rfl (Bd h15 fun x17 hx17 h15=>Ix hx17 hu hs rfl ?_)))))))))))
  refine Qy (x:=el x17) rfl rfl rfl (hld _ _ _ x17 rfl rfl) ?_
  refine Bd h15 fun r18 hr18 h15=>?_
  refine Pw rfl (QeT (f:=fc) (x:=.tmp 11) (xs:=[.tmp 15]) (vf:=[]) (vc:=caps) (args:=el x17::caps) hca rfl rfl rfl rfl) (hcl x17 r18 hr18) rfl rfl rfl (Nat.le_refl _) ?_
  refine Nx (Cn rfl h15 (fun hc19 h15=>?_) (fun hc19 h15=>?_))
  ·refine Rg (S rfl (S rfl (Nx (TC.ret (bloR (seqR (Ql h15 ?_)))))))
   obtain rfl:=hb12 _ (Oi h15).symm
   refine bloR (Qk (seqR ?_))
   obtain rfl:=Oi h
   exact R1 4 hR (Lw ⟨rfl,trivial⟩)
  exact TC.skip (bloN (Qh1 (TC.region (S rfl (S rfl (WO.nil (Qi h15 (Lw ⟨rfl,rfl,rfl,rfl,trivial⟩))))))))
 subst hbe
 refine Qh1 (TC.le hle (Rg (S rfl (Nx (TC.ret ?_)))))
 obtain rfl:=Oi h
 exact R1 4 hR (Lw ⟨rfl,trivial⟩)
end Go.Sw
namespace Go.Sw
inductive Kf where
 |seq (c:Code)
 |blo (id:Nat)
 |unr (c:Code)
inductive Cf where
 |code (c:Code)
 |ops (all:Array Oper) (l:List Oper)
 |out (x:AEx)
def kq(P:Program)(h0 N:Nat):List Kf->Qz->Qz
 |[],Q=>Q
 |.seq c::k,Q=>Seq P h0 N c (kq P h0 N k Q)
 |.blo id::k,Q=>Blo id (kq P h0 N k Q)
 |.unr c::k,Q=>Qf8 P h0 N c (kq P h0 N k Q)
@[reducible] def Hd(P:Program)(h0 N:Nat):Cf->List Kf->Env->Qc->Qz->Prop
 |.code c,k,env,H,Q=>TC P h0 N c env H (kq P h0 N k Q)
 |.ops all l,k,env,H,Q=>WO P h0 N all l env H (kq P h0 N k Q)
 |.out x,k,env,H,Q=>kq P h0 N k Q x env H
def QdU(T:TyX)(h0 N:Nat):Cf->List Kf->Env->Qc->Option (Cf×List Kf×Env×Qc)
 |.code (.seq a b),k,env,H=>some (.code a,.seq b::k,env,H)
 |.code (.block id c),k,env,H=>some (.code c,.blo id::k,env,H)
 |.code (.loop c),k,env,H=>some (.code c,.unr c::k,env,H)
 |.code .skip,k,env,H=>some (.out .normal,k,env,H)
 |.code .ret,k,env,H=>some (.out .ret,k,env,H)
 |.code (.exit id),k,env,H=>some (.out (.exit id),k,env,H)
 |.code (.region id ⟨l⟩ false),k,env,H=>some (.ops ⟨l⟩ l,k,env,H)
 |.code (.cond x a b),k,env,H=>match opB env x with
  |.mk (.bool true)=>some (.code a,k,env,H)
  |.mk (.bool false)=>some (.code b,k,env,H)
  |_=>none
 |.ops all [],k,env,H=>some (.out .normal,k,env,H)
 |.ops all (o::l),k,env,H=>match stX T h0 N all o env H with
  |some (env',H')=>some (.ops all l,k,env',H')
  |none=>none
 |.out .normal,.seq c::k,env,H=>some (.code c,k,env,H)
 |.out (.exit i),.seq _::k,env,H=>some (.out (.exit i),k,env,H)
 |.out .ret,.seq _::k,env,H=>some (.out .ret,k,env,H)
 |.out .normal,.blo _::k,env,H=>some (.out .normal,k,env,H)
 |.out (.exit i),.blo id::k,env,H=>match Nat.beq i id with
  |true=>some (.out .normal,k,env,H)
  |false=>some (.out (.exit i),k,env,H)
 |.out .ret,.blo _::k,env,H=>some (.out .ret,k,env,H)
 |.out .normal,.unr c::k,env,H=>some (.code c,.unr c::k,env,H)
 |.out (.exit i),.unr _::k,env,H=>some (.out (.exit i),k,env,H)
 |.out .ret,.unr _::k,env,H=>some (.out .ret,k,env,H)
 |_,_,_,_=>none
def QfR(T:TyX)(h0 N:Nat):Nat->Cf->List Kf->Env->Qc->Option (Cf×List Kf×Env×Qc)
 |0,c,k,env,H=>some (c,k,env,H)
 |n+1,c,k,env,H=>match QdU T h0 N c k env H with
  |some (c',k',env',H')=>QfR T h0 N n c' k' env' H'
  |none=>none
section
variable {P:Program}{T:TyX}{h0 N:Nat}{Q:Qz}
theorem QhW(hT:Qbc P T){c c':Cf}{k k':List Kf}{env env':Env}{H H':Qc}(h:QdU T h0 N c k env H=some (c',k',env',H'))(g:Hd P h0 N c' k' env' H' Q):Hd P h0 N c k env H Q:=by
 unfold QdU at h
 split at h
 ·cases h;exact TC.seq g
 ·cases h;exact TC.block g
 ·cases h;exact Qhr g
 ·cases h;exact TC.skip g
 ·cases h;exact TC.ret g
 ·cases h;exact TC.exit g
 ·cases h;exact TC.region g
 ·split at h
  ·rename_i q;cases h;exact Qi7 (Qx q) rfl g
  ·rename_i q;cases h;exact Qi8 (Qx q) rfl g
  ·cases h
 ·cases h;exact WO.nil g
 ·split at h
  ·rename_i q;cases h;exact QhZ hT q g
  ·cases h
 ·cases h;exact Qh1 g
 ·cases h;exact seqX g
 ·cases h;exact seqR g
 ·cases h;exact bloN g
 ·split at h
  ·rename_i q;cases h;have:=Nat.eq_of_beq_eq_true q;subst this;exact bloE g
  ·rename_i q;cases h;exact bloX q g
 ·cases h;exact bloR g
 ·cases h;exact unrN g
 ·cases h;exact unrX g
 ·cases h;exact unrR g
 ·cases h
theorem QbX(hT:Qbc P T):∀(n:Nat) {c c':Cf}{k k':List Kf}{env env':Env}{H H':Qc},QfR T h0 N n c k env H=some (c',k',env',H')->Hd P h0 N c' k' env' H' Q->Hd P h0 N c k env H Q
 |0,c,c',k,k',env,env',H,H',h,g=>by cases h;exact g
 |n+1,c,c',k,k',env,env',H,H',h,g=>by
  unfold QfR at h
  split at h
  ·rename_i e;exact QhW hT e (QbX hT n h g)
  ·cases h
theorem Qgl{env:Env}{s:Nat}{a:A}(h:lk env s=a):∀t,lk (up env s a) t=lk env t:=by
 intro t
 simp only[up,lk]
 cases q:Nat.beq t s with
 |true=>have:=Nat.eq_of_beq_eq_true q;subst this;exact h.symm
 |false=>rfl
theorem Is{α:Type}{all:Array Oper}{l:List Oper}{env:Env}{H:Qc}{b:Bool}{x y:Option α}{r:α}(s:Nat)(h:(bif b then x else y)=some r)(hs:lkB env s=.mk (.bool b))
  (t:b=true->x=some r->WO P h0 N all l (up env s (.bool true)) H Q)(e:b=false->y=some r->WO P h0 N all l (up env s (.bool false)) H Q):WO P h0 N all l env H Q:=by
 have hl:=QfW hs
 cases b with
 |true=>exact WO.le (Le.env fun t=>.inr (Qgl hl t)) (t rfl h)
 |false=>exact WO.le (Le.env fun t=>.inr (Qgl hl t)) (e rfl h)
end
def dstN(o:Oper)(i:Nat):Nat:=match o.dst with|some d=>d|none=>1000000+i
def Qan:Nat->Nat->List Oper->List Nat
 |0,_,_=>[]
 |_+1,_,[]=>[]
 |m+1,i,o::l=>dstN o i::Qan m (i+1) l
def QZ(af:List Nat):Nat->List Nat->List A->Env->Env
 |j,d::ds,x::xs,e=>(d,bif Qco af j then x else .any)::QZ af (j+1) ds xs e
 |j,d::ds,[],e=>(d,.any)::QZ af (j+1) ds [] e
 |_,[],_,e=>e
theorem QdQ{l:List Nat}{t:Nat}:Qco l t=l.contains t:=by
 induction l with
 |nil=>rfl
 |cons a r ih=>
  unfold Qco
  rw[List.contains_cons,ih]
  cases q:Nat.beq a t with
  |true=>have:=Nat.eq_of_beq_eq_true q;subst this;simp
  |false=>
   have hne:t≠a:=fun z=>by subst z;rw[Nat.beq_refl]at q;cases q
   simp[hne]
theorem QgC{af:List Nat}{env0:Env}{s:Nat}:∀(ds:List Nat) (xs ys:List A) (b:Nat),
  (∃(j:Nat) (x:A),af.contains (b+j)=true/\ds[j]?=some s/\(xs++ys)[j]?=some x/\lk (QZ af b ds xs env0) s=x)\/lk (QZ af b ds xs env0) s=.any\/(ds.contains s=false/\lk (QZ af b ds xs env0) s=lk env0 s):=by
 intro ds
 induction ds with
 |nil=>intro xs ys b;right;right;exact⟨rfl,by cases xs<;>rfl⟩
 |cons d ds ih=>
  intro xs ys b
  have next:∀(xs':List A),(∃(j:Nat) (x:A),af.contains (b+1+j)=true/\ds[j]?=some s/\(xs'++ys)[j]?=some x/\lk (QZ af (b+1) ds xs' env0) s=x)->∀x0,(∃(j:Nat) (x:A),af.contains (b+j)=true/\(d::ds)[j]?=some s/\(x0::xs'++ys)[j]?=some x/\lk (QZ af (b+1) ds xs' env0) s=x):=by
   rintro xs' ⟨j,x,h1,h2,h3,h4⟩ x0
   exact⟨j+1,x,by rw[show b+(j+1)=b+1+j by omega];exact h1,by simpa using h2,by simpa using h3,h4⟩
  cases xs with
  |nil=>
   cases q:Nat.beq s d with
   |true=>right;left;simp only[QZ,lk,q,cond_true]
   |false=>
    have hne:s≠d:=fun z=>by subst z;rw[Nat.beq_refl]at q;cases q
    simp only[QZ,lk,q,cond_false]
    rcases ih [] [] (b+1)with⟨j,x,h1,h2,h3,h4⟩|h|⟨h1,h2⟩
    ·simp at h3
    ·exact .inr (.inl h)
    ·exact .inr (.inr ⟨by rw[List.contains_cons,h1];simpa using hne,h2⟩)
  |cons x xs=>
   cases q:Nat.beq s d with
   |true=>
    have:=Nat.eq_of_beq_eq_true q
    subst this
    simp only[QZ,lk,q,cond_true]
    cases c:Qco af b with
    |true=>left;exact⟨0,x,by rw[<- QdQ];exact c,rfl,rfl,rfl⟩
    |false=>right;left;rfl
   |false=>
    have hne:s≠d:=fun z=>by subst z;rw[Nat.beq_refl]at q;cases q
    simp only[QZ,lk,q,cond_false]
    rcases ih xs ys (b+1)with h|h|⟨h1,h2⟩
    ·exact .inl (next xs h x)
    ·exact .inr (.inl h)
    ·exact .inr (.inr ⟨by rw[List.contains_cons,h1];simpa using hne,h2⟩)
section
variable {P:Program}{T:TyX}{h0 N m:Nat}{l:List Oper}{ds:List Nat}{env:Env}{H:Qc}{Q:Qz}{K:List Oper->Env->Qc->Prop}
def DS(P:Program)(N m:Nat)(l:List Oper)(ds:List Nat)(env:Env)(H:Qc)(K:List Oper->Env->Qc->Prop)(r:List Oper)(xs:List A):Prop:=
 r=l.drop xs.length->∃ys,xs.length+ys.length=m/\(∀j,xs.length<=j->j<m->Qad P N l ds (xs++ys) env H.length H.length j H H)/\K (l.drop m) (Qas ds (xs++ys) env) H
theorem oqOf{xs:List A}:∀(c i:Nat),(∀j,i<=j->j<i+c->Qad P N l ds xs env H.length H.length j H H)->Oq P N l ds xs env H i c
 |0,i,_=>.n
 |c+1,i,h=>.c (h i (Nat.le_refl _) (by omega)) (oqOf c (i+1) fun j h1 h2=>h j (by omega) (by omega))
theorem Qjo{id:Nat}{k:List Kf}(m:Nat)(hm:P.follows .mixedOrders=true)(hc:Go.Sw.draw0 l m N (Qan m 0 l)=true)(h0B:Nat.ble h0 H.length=true)
  (h:DS P N m l (Qan m 0 l) env H (fun r e H=>WO P h0 N l.toArray r e H Q) l []):TC P h0 N (.region id l.toArray true) env H Q:=by
 obtain⟨ys,h1,h2,h3⟩:=h rfl
 simp only[List.length_nil,Nat.zero_add,List.nil_append]at h1 h2 h3
 exact TC.draw0 m _ ys hm hc (by rw[h1];exact Nat.beq_refl m) h0B (oqOf m 0 fun j _ q=>h2 j (Nat.zero_le _) (by omega)) h3
theorem QhO{T':Type}{X:Ctx T'}{st:YSt T'}{QY:Yg T'}{id:Nat}(m:Nat)(hm:P.follows .mixedOrders=true)(hc:Go.Sw.draw0 l m N (Qan m 0 l)=true)(h0B:Nat.ble h0 H.length=true)
  (h:DS P N m l (Qan m 0 l) env H (fun r e H=>WOy X P h0 N l.toArray r e H st QY) l []):TCy X P h0 N (.region id l.toArray true) env H st QY:=by
 obtain⟨ys,h1,h2,h3⟩:=h rfl
 simp only[List.length_nil,Nat.zero_add,List.nil_append]at h1 h2 h3
 intro hX rd fr ro σ a w g r hj hrd
 refine QbY m _ ys hm hc (by rw[h1];exact Nat.beq_refl m) h0B (oqOf m 0 fun j _ q=>h2 j (Nat.zero_le _) (by omega)) r (hrd▸Qbu) fun ro' σ' a' w' hr hev htk hdf=>?_
 have:=h3 hX rd fr ro' σ' a' w' g hr ⟨hX.ev hj.1 (hev.frMono hj.2.sub),by rw[hdf];exact hj.2⟩ hrd
 refine Yd (fun e a2 w2 q=>?_) _ _ _ this
 exact q.grow hev.sub hev.size htk (by rw[hdf];exact Grow.refl _ _ _)
theorem DS.done{xs:List A}{r:List Oper}(hx:Nat.beq xs.length m=true)(h:K r (Qas ds xs env) H):DS P N m l ds env H K r xs:=by
 intro hr
 have e:=Nat.eq_of_beq_eq_true hx
 subst hr
 refine⟨[],by simpa using e,fun j q1 q2=>by omega,?_⟩
 rw[<- e,List.append_nil];exact h
theorem DS.add{xs:List A}{o:Oper}{r:List Oper}{x:A}(hx:Nat.blt xs.length m=true)(hb:∀ys,l[xs.length]?=some o->Qad P N l ds (xs++x::ys) env H.length H.length xs.length H H)(k:DS P N m l ds env H K r (xs++[x])):DS P N m l ds env H K (o::r) xs:=by
 intro hr
 have hlt:xs.length<l.length:=by
  rcases Nat.lt_or_ge xs.length l.length with q|q
  ·exact q
  ·rw[List.drop_eq_nil_of_le q]at hr;cases hr
 rw[List.drop_eq_getElem_cons hlt]at hr
 cases hr
 obtain⟨ys,h1,h2,h3⟩:=k (by simp)
 simp only[List.length_append,List.length_cons,List.length_nil,List.append_assoc,List.cons_append,List.nil_append]at h1 h2 h3
 refine⟨x::ys,by simp only[List.length_cons];omega,fun j q1 q2=>?_,h3⟩
 rcases Nat.lt_or_ge xs.length j with q|q
 ·exact h2 j (by omega) q2
 ·obtain rfl:j=xs.length:=by omega
  exact hb ys (List.getElem?_eq_getElem hlt)
theorem Qfg{xs ys:List A}{x:A}:(xs++x::ys)[xs.length]?=some x:=by simp
theorem DS.wo{xs:List A}{o:Oper}{r:List Oper}{x:A}{d:Nat}(h:WO P H.length N l.toArray [o] (QZ (Qh o) 0 ds xs env) H (YH (up (QZ (Qh o) 0 ds xs env) d x) H))(k:DS P N m l ds env H K r (xs++[x]))
  (hd:o.dst=some d:=by exact rfl)(hx:Nat.blt xs.length m=true:=by exact rfl):DS P N m l ds env H K (o::r) xs:=
 .add hx (fun ys ho=>.woE o _ d x ho hd Qfg (he:=by
  intro s
  rcases QgC (af:=Qh o) (env0:=env) (s:=s) ds xs (x::ys) 0 with⟨j,y,q1,q2,q3,q4⟩|q|q
  ·rw[Nat.zero_add]at q1;exact .inl ⟨j,y,q1,q2,q3,q4⟩
  ·exact .inr (.inl q)
  ·exact .inr (.inr q)) (hdd:=Qfw H) (h:=h)) k
theorem DS.v{xs:List A}{o:Oper}{r:List Oper}{x:A}{d:Nat}(h:OpV P o (QZ (Qh o) 0 ds xs env) H x)(k:DS P N m l ds env H K r (xs++[x]))(hg:Qq l.toArray o (QZ (Qh o) 0 ds xs env) true:=by exact rfl)
  (hd:o.dst=some d:=by exact rfl)(hN:Nat.blt d N=true:=by exact rfl)(hx:Nat.blt xs.length m=true:=by exact rfl):DS P N m l ds env H K (o::r) xs:=
 .wo (Qy hg hd hN h (WO.nil YH.mk)) k hd hx
def Qb6:List A->A->FL
 |[],x=>.mk [x]
 |a::r,x=>match Qb6 r x with
  |.mk r'=>.mk (a::r')
theorem YK:∀(l:List A) (x:A),Qb6 l x=.mk (l++[x])
 |[],x=>rfl
 |a::r,x=>by unfold Qb6;rw[YK r];rfl
def Qe7(T:TyX)(N m:Nat)(l:List Oper)(ds:List Nat)(env:Env)(H:Qc):Nat->Nat->List Oper->List A->Option (List Oper×List A)
 |0,_,r,xs=>some (r,xs)
 |_+1,_,[],_=>none
 |n+1,i,o::r,xs=>match Nat.blt i m with
  |false=>none
  |true=>match o.dst with
   |none=>none
   |some d=>match Nat.blt d N with
    |false=>none
    |true=>match Yz ⟨l⟩ o (QZ (Qh o) 0 ds xs env)with
     |none=>none
     |some false=>match Qb6 xs (.tup [])with
      |.mk xs'=>Qe7 T N m l ds env H n (i+1) r xs'
     |some true=>match Qcj T o (QZ (Qh o) 0 ds xs env) H with
      |none=>none
      |some x=>match Qb6 xs x with
       |.mk xs'=>Qe7 T N m l ds env H n (i+1) r xs'
theorem Qc8(hT:Qbc P T):∀(n i:Nat) {r r':List Oper}{xs xs':List A},i=xs.length->Qe7 T N m l ds env H n i r xs=some (r',xs')->DS P N m l ds env H K r' xs'->DS P N m l ds env H K r xs
 |0,i,r,r',xs,xs',_,h,k=>by cases h;exact k
 |n+1,i,[],r',xs,xs',_,h,k=>by cases h
 |n+1,i,o::r,r',xs,xs',hi,h,k=>by
  subst hi
  unfold Qe7 at h
  split at h
  ·cases h
  ·rename_i q1
   split at h
   ·cases h
   ·rename_i d hd
    split at h
    ·cases h
    ·rename_i q2
     split at h
     ·cases h
     ·rename_i hw
      simp only[YK]at h
      exact .wo (WO.skip (QG hw) hd q2 (WO.nil YH.mk)) (Qc8 hT n _ (by simp) h k) hd q1
     ·rename_i hw
      split at h
      ·cases h
      ·rename_i x hv
       simp only[YK]at h
       exact .v (Qau hT hv) (Qc8 hT n _ (by simp) h k) (QG hw) hd q2 q1
def Qh0:List A->Nat->A->FL
 |[],_,_=>.mk []
 |_::r,0,x=>.mk (x::r)
 |a::r,n+1,x=>match Qh0 r n x with
  |.mk r'=>.mk (a::r')
theorem Qck:∀{l:List A}{n:Nat}{x:A},Yv l n=some x->Qh0 l n x=.mk l
 |[],n,x,h=>by cases h
 |a::r,0,x,h=>by cases h;rfl
 |a::r,n+1,x,h=>by unfold Qh0;rw[Qck (l:=r) (n:=n) h]
theorem Yb{α:Type}{b:Bool}{x y:Option α}{v:α}{xs xt xf:List A}{r:List Oper}(j:Nat)(h:(bif b then x else y)=some v)(hs:Yv xs j=some (.bool b))(ht:Qh0 xs j (.bool true)=.mk xt)(hf:Qh0 xs j (.bool false)=.mk xf)
  (t:b=true->x=some v->DS P N m l ds env H K r xt)(e:b=false->y=some v->DS P N m l ds env H K r xf):DS P N m l ds env H K r xs:=by
 cases b with
 |true=>rw[Qck hs]at ht;cases ht;exact t rfl h
 |false=>rw[Qck hs]at hf;cases hf;exact e rfl h
end
end Go.Sw
namespace Go.Sw
@[reducible] def RQ{β:Type}(w:β->A)(Hc:β->Qc)(r:β):A->Qc->Prop:=fun a H=>a=w r/\H=Hc r
@[reducible] def Csm{β:Type}(P:Program)(f:FuncId)(args:List A)(H:Qc)(w:β->A)(r:β):Prop:=C P f args H (RQ w (fun _=>H) r)
structure TyZ where
 sl:List (Nat×Nat×Nat)
 fn:List Nat
structure Qb7 (P:Program) (Z:TyZ):Prop where
 sl:∀e∈Z.sl,(∀w,(underlying e.1).run P w=.ok (.slice e.2.1) w)/\ ∀w,(sizeOf e.2.1).run P w=.ok e.2.2 w
 fn:∀f∈Z.fn,∀(a:Array Value) (w:World),(callFunc f a).run P w=.ok (.enter f a) w
section
variable {P:Program}{Z:TyZ}{h0 N:Nat}{all:Array Oper}{o:Oper}{l:List Oper}{env:Env}{H:Qc}{Q:Qz}{d:Nat}
theorem Izz(hZ:Qb7 P Z){α:Type}{e:α->List A}{t et k:Nat}{L:List α}{kk:IntKind}{i:Int}{v:α}(h:idx L i=some v)(q:ixB o env=some (d,t,k,L.map e,kk,i))(g:WO P h0 N all l (up env d (.rp (e v))) H Q)
  (ht:Qby Z.sl t=some (et,k))(hg:Yz all o env=some true)(hN:Nat.blt d N=true):WO P h0 N all (o::l) env H Q:=by
 obtain⟨h1,h2⟩:=hZ.sl _ (Qav ht)
 exact Ix h h1 h2 q g (QG hg) hN
theorem Ize(hZ:Qb7 P Z){α:Type}{e:α->List A}{t et k:Nat}{L:List α}{kk:IntKind}{i:Int}{v:α}{cs:List A}(h:idx L i=some v)(he:e v=cs)(q:ixB o env=some (d,t,k,L.map e,kk,i))(g:WO P h0 N all l (up env d (.rp cs)) H Q)
  (ht:Qby Z.sl t=some (et,k))(hg:Yz all o env=some true)(hN:Nat.blt d N=true):WO P h0 N all (o::l) env H Q:=by
 subst he;exact Izz hZ h q g ht hg hN
theorem Lmz(hZ:Qb7 P Z){α:Type}{e:α->List A}{t et k k':Nat}{L:List α}(q:lnB o env=some (d,t,.mk (.rsl k (L.map e))))(g:WO P h0 N all l (up env d (.int .i64 L.length)) H Q)
  (ht:Qby Z.sl t=some (et,k'))(hg:Yz all o env=some true)(hN:Nat.blt d N=true):WO P h0 N all (o::l) env H Q:=by
 obtain⟨h1,h2⟩:=hZ.sl _ (Qav ht)
 exact LnM h1 q g (QG hg) hN
def QdR(Z:TyZ)(o:Oper)(env:Env):Option (Nat×Nat×List A):=
 match o.dst with
 |none=>none
 |some d=>match o.op with
  |.call {callee:=.value (.func f),args:=⟨xs⟩,argTypes:=_}=>bif Qco Z.fn f then(match fl (Qfd env xs)with|.mk ax=>some (d,f,ax))else none
  |.call {callee:=.value (.tmp x),args:=⟨xs⟩,argTypes:=_}=>match opB env (.tmp x)with
   |.mk (.fn (.func f) vf vc)=>bif Qco Z.fn f then(match fl (vf++(Qfd env xs++vc))with|.mk ax=>some (d,f,ax))else none
   |_=>none
  |_=>none
theorem QcW(hZ:Qb7 P Z){f:Nat}{args:List A}(h:QdR Z o env=some (d,f,args)):o.dst=some d/\OpC P o env H f args:=by
 unfold QdR at h
 split at h
 ·cases h
 ·rename_i d' hd
  split at h
  ·rename_i f' xs ts ho
   cases q:Qco Z.fn f' with
   |false=>rw[q]at h;cases h
   |true=>
    rw[q]at h
    simp only[QbC,cond_true]at h
    cases h
    exact⟨hd,OpC.fn (xs:=xs) (hZ.fn _ (Qex q)) ho rfl (Qb2 xs).symm⟩
  ·rename_i x xs ts ho
   split at h
   ·rename_i f' vf vc hx
    cases q:Qco Z.fn f' with
    |false=>rw[q]at h;cases h
    |true=>
     rw[q]at h
     simp only[QbC,cond_true]at h
     cases h
     exact⟨hd,QeT (xs:=xs) (hZ.fn _ (Qex q)) ho rfl (Qx hx) (by rw[Qb2])⟩
   ·cases h
  ·cases h
theorem Czz(hZ:Qb7 P Z){β γ:Type}{F:Option β}{F':β->Option γ}{r:γ}{f:Nat}{args argsc:List A}{Hc:Qc}{w:β->A}(π:List Nat)(h:F.bind F'=some r)(hC:∀v,F=some v->C P f argsc Hc (RQ w (fun _=>Hc) v))
  (hop:QdR Z o env=some (d,f,args))(g:∀v,F=some v->F' v=some r->WO P h0 N all l (up env d (w v)) H Q)(hv:∀v,QfQ (w v)=some (.mk (w v)))
  (hargs:args=Qaa (rho π H.length) argsc)(hH:π.map (fun p=>H[p]?)=(Hc.map (QN (rho π H.length))).map some)(hπ:π.Nodup)(hg:Yz all o env=some true)(hN:Nat.blt d N=true)(hh:Nat.ble h0 H.length=true):WO P h0 N all (o::l) env H Q:=by
 obtain⟨v,h1,h2⟩:=Yy h
 obtain⟨q1,q2⟩:=QcW (H:=H) hZ hop
 exact Pc π q1 q2 (hC v h1) (hv v) (g v h1 h2) hargs hH hπ (QG hg) hN hh
theorem DzZ(hZ:Qb7 P Z){K:List Oper->Env->Qc->Prop}{m:Nat}{ll:List Oper}{ds:List Nat}{xs:List A}{β γ:Type}{F:Option β}{F':β->Option γ}{r:γ}{f:Nat}{args argsc:List A}{Hc:Qc}{w:β->A}(π:List Nat)(h:F.bind F'=some r)(hC:∀v,F=some v->C P f argsc Hc (RQ w (fun _=>Hc) v))
  (hop:QdR Z o (QZ (Qh o) 0 ds xs env)=some (d,f,args))(g:∀v,F=some v->F' v=some r->DS P N m ll ds env H K l (xs++[w v]))(hv:∀v,QfQ (w v)=some (.mk (w v)))
  (hargs:args=Qaa (rho π H.length) argsc)(hH:π.map (fun p=>H[p]?)=(Hc.map (QN (rho π H.length))).map some)(hπ:π.Nodup)(hg:Yz ll.toArray o (QZ (Qh o) 0 ds xs env)=some true)(hN:Nat.blt d N=true)(hx:Nat.blt xs.length m=true):DS P N m ll ds env H K (o::l) xs:=by
 obtain⟨v,h1,h2⟩:=Yy h
 obtain⟨q1,q2⟩:=QcW (H:=H) hZ hop
 exact .wo (Pc π q1 q2 (hC v h1) (hv v) (WO.nil YH.mk) hargs hH hπ (QG hg) hN (Nat.ble_eq_true_of_le (Nat.le_refl _))) (g v h1 h2) q1 hx
theorem ln:QaX H [] []:=trivial
theorem ls{ax bs:List A}{a:A}(k:QaX H ax bs)(h:Q2 a=true:=by exact rfl):QaX H (a::ax) (a::bs):=⟨.inl ⟨rfl,h⟩,k⟩
theorem lo{ax bs:List A}{i n k t:Nat}{es:List (List A)}(k':QaX H ax bs)(hH:H[i]?=some (.row t k es):=by exact rfl)(hn:es.length=n:=by exact List.length_map ..):QaX H (.osl i 0 n k::ax) (.rsl k es::bs):=
 ⟨.inr ⟨_,_,_,_,_,rfl,hH,hn,rfl⟩,k'⟩
theorem Cbz(hZ:Qb7 P Z){β γ:Type}{F:Option β}{F':β->Option γ}{r:γ}{f:Nat}{args argsc:List A}{w:β->A}(h:F.bind F'=some r)(hC:∀v,F=some v->C P f argsc [] (RQ w (fun _=>[]) v))
  (hop:QdR Z o env=some (d,f,args))(hL:QaX H args argsc)(g:∀v,F=some v->F' v=some r->WO P h0 N all l (up env d (w v)) H Q)(hv:∀v,Q0 (w v)=true)
  (hg:Yz all o env=some true)(hN:Nat.blt d N=true):WO P h0 N all (o::l) env H Q:=by
 obtain⟨v,h1,h2⟩:=Yy h
 obtain⟨q1,q2⟩:=QcW (H:=H) hZ hop
 refine Qfz q2 hL (hC v h1) ?_ ?_ (QG hg) q1 hN
 ·rintro _ _ ⟨rfl,rfl⟩;exact hv v
 ·rintro _ _ ⟨rfl,rfl⟩;exact g v h1 h2
end
def ixL:List Nat:=[0,1,2,3,4,5,6,7,8,9,10,11,12,13,14,15,16,17,18,19,20,21,22,23,24,25,26,27,28,29,30,31,32,33,34,35,36,37,38,39,40,41,42,43,44,45,46,47,48,49,50,51,52,53,54,55,56,57,58,59,60,61,62,63]
def Qg0:List Nat->List Nat->Nat->FN
 |a::r,b::s,j=>bif Nat.beq a j then .mk b else Qg0 r s j
 |_,_,j=>.mk j
mutual
def cpA(sel:List Nat):A->Bx
 |.ptr i off=>match Qg0 sel ixL i with
  |.mk j=>.mk (.ptr j off)
 |.osl i o n k=>match Qg0 sel ixL i with
  |.mk j=>.mk (.osl j o n k)
 |.map i=>match Qg0 sel ixL i with
  |.mk j=>.mk (.map j)
 |.fn f a c=>match cpL sel a,cpL sel c with
  |.mk a',.mk c'=>.mk (.fn f a' c')
 |a=>.mk a
def cpL(sel:List Nat):List A->FL
 |[]=>.mk []
 |a::r=>match cpA sel a,cpL sel r with
  |.mk a',.mk r'=>.mk (a'::r')
end
inductive FV where
 |mk (e:Env)
def Qir(sel:List Nat)(env:Env):List Nat->Env->FV
 |[],nE=>.mk nE
 |s::r,nE=>match lkB env s with
  |.mk a=>match cpA sel a,Qir sel env r nE with
   |.mk a',.mk e=>.mk ((s,a')::e)
def selH(H:Qc):List Nat->List Nat->List (Nat×Blk)->FB
 |a::r,p::ps,[]=>match Yv H a,selH H r ps []with
  |some b,.mk l=>.mk (b::l)
  |none,.mk l=>.mk l
 |a::r,p::ps,(q,b)::n=>bif Nat.beq p q then(match selH H r ps n with|.mk l=>.mk (b::l))else(match Yv H a,selH H r ps ((q,b)::n)with
  |some b,.mk l=>.mk (b::l)
  |none,.mk l=>.mk l)
 |_,_,_=>.mk []
def QiX(sel keep:List Nat)(nE:Env)(nH:List (Nat×Blk))(env:Env)(H:Qc):Option (Env×Qc):=
 match Qir sel env keep nE,selH H sel ixL nH with
 |.mk e,.mk h=>some (e,h)
section
variable {P:Program}{h0 N:Nat}{c:Code}{env:Env}{H:Qc}{Q:Qz}
def CutQ{β:Type}(h0:Nat)(b:β)(E':β->Env)(H':β->Qc)(Q:Qz):Qz
 |.normal,env,H=>Le h0 env H (E' b) (H' b)
 |.exit id,env,H=>Q (.exit id) env H
 |.ret,env,H=>Q .ret env H
theorem QT{h0:Nat}{env:Env}{H:Qc}{Q:Qz}{β:Type}{b:β}{E':β->Env}{H':β->Qc}(h:Le h0 env H (E' b) (H' b)):CutQ h0 b E' H' Q .normal env H:=h
theorem Ct{β:Type}{E':β->Env}{H':β->Qc}(b:β)(sel keep:List Nat)(nE:β->Env)(nH:β->List (Nat×Blk))(_:∀b,QiX sel keep (nE b) (nH b) env H=some (E' b,H' b))(h:TC P h0 N c env H (CutQ h0 b E' H' Q))(k:∀env H,Le h0 env H (E' b) (H' b)->Q .normal env H):TC P h0 N c env H Q:=
 h.mono fun x env' H' q=>by
  cases x with
  |normal=>exact k _ _ q
  |exit id=>exact q
  |ret=>exact q
theorem YS{S B:Type}{b:Ctl S B}{E':S->Env}{H':S->Qc}(sel keep:List Nat)(nE:S->Env)(nH:S->List (Nat×Blk))(_:∀s,QiX sel keep (nE s) (nH s) env H=some (E' s,H' s))(h:TC P h0 N c env H (QgS h0 b E' H' Q))(k:∀s env H,b=.cont s->Le h0 env H (E' s) (H' s)->Q .normal env H):TC P h0 N c env H Q:=QgK E' H' h k
theorem Lp{S B:Type}{step:S->Option (Ctl S B)}{E':S->Env}{H':S->Qc}{m:Nat}{s0:S}{b0:B}(sel keep:List Nat)(nE:S->Env)(nH:S->List (Nat×Blk))(h:iter step m s0=some b0)(_:∀s,QiX sel keep (nE s) (nH s) env H=some (E' s,H' s))(hI:Le h0 env H (E' s0) (H' s0))
  (body:∀s d,step s=some d->(∀b,d=.done b->b=b0)->TC P h0 N c (E' s) (H' s) (QaW (fun s env H=>Le h0 env H (E' s) (H' s)) d Q)):TC P h0 N (.loop c) env H Q:=TC.loop E' H' h hI body
end
theorem Oj{S B:Type}{d:Ctl S B}{x b0:B}(hb:∀b,d=.done b->b=b0)(h:some (Ctl.done x)=some d):x=b0:=hb x (Oi h).symm
theorem Rt{P:Program}{h0:Nat}{fn:Func}{env:Env}{H:Qc}{β:Type}{e r:β}{w:β->A}{Hc:β->Qc}(h:some e=some r)(s:Nat)(π:List Nat)(hr:fn.results= #[.tmp s]:=by exact rfl)(hpre:π.take h0=List.range h0:=by exact rfl)
  (hH:π.map (fun p=>H[p]?)=((Hc e).map (QN (rho π H.length))).map some:=by exact rfl)(hπ:π.Nodup:=by decide)(hE:QdO (rho π H.length) env [(s,w e)]:=by exact⟨rfl,trivial⟩):Qca P h0 fn (RQ w Hc r) .ret env H:=by
 cases h
 exact R1 s hr (Lr π hpre hH hπ hE)
theorem Cl{h0:Nat}{env:Env}{H:Qc}{Q:Qz}{β:Type}{e b:β}{E':β->Env}{H':β->Qc}(h:some e=some b)(π:List Nat)(hpre:π.take h0=List.range h0:=by exact rfl)
  (hH:π.map (fun p=>H[p]?)=((H' e).map (QN (rho π H.length))).map some:=by exact rfl)(hπ:π.Nodup:=by decide)(hE:QdO (rho π H.length) env (E' e):=by(repeat' (first|exact trivial|refine⟨rfl,?_⟩))):CutQ h0 b E' H' Q .normal env H:=by
 cases h
 exact Lr π hpre hH hπ hE
end Go.Sw
namespace Go.Sw
def plC(cat:List Nat):List (List (Nat×Nat)):=cat.map fun c=>match c with|0=>[(0,0)]|1=>[(0,1)]|2=>[(1,1)]|_=>[(0,0),(1,1)]
def rqC(b:Nat)(cat:List Nat):List (List Nat):=cat.map fun c=>match c with|2=>[b]|_=>[]
def hsC(cat:List Nat):List Bool:=cat.map fun c=>match c with|1=>true|_=>false
section
variable {P:Program}{T:TyX}{h0 N m b:Nat}{cat:List Nat}{l:List Oper}{ds:List Nat}{env:Env}{H H1:Qc}{Q:Qz}{K:List Oper->Env->Qc->Prop}
theorem QeU{P:Program}{N:Nat}{l:List Oper}{ds:List Nat}{xs:List A}{env0:Env}{hB hE:Nat}:∀(ss:List (List (Qc×Qc))) (b:Nat),(∀i s,ss[i]?=some s->∀p∈s,Qad P N l ds xs env0 hB hE (b+i) p.1 p.2)->QeV P N l ds xs env0 hB hE b ss
 |[],b,h=>.nil
 |s::ss,b,h=>.cons (h 0 s rfl) (QeU ss (b+1) fun i s' hs=>by rw[show b+1+i=b+(i+1)by omega];exact h (i+1) s' hs)
def Dob(P:Program)(N:Nat)(cat:List Nat)(l:List Oper)(ds:List Nat)(env:Env)(H H1:Qc)(zs:List A)(j:Nat):Prop:=
 ∀p∈(plC cat).getD j [],Qad P N l ds zs env H.length H.length j ([H,H1].getD p.1 []) ([H,H1].getD p.2 [])
def DB(P:Program)(N m:Nat)(cat:List Nat)(l:List Oper)(ds:List Nat)(env:Env)(H H1:Qc)(K:List Oper->Env->Qc->Prop)(r:List Oper)(xs:List A):Prop:=
 r=l.drop xs.length->∃ys,xs.length+ys.length=m/\(∀j,xs.length<=j->j<m->Dob P N cat l ds env H H1 (xs++ys) j)/\K (l.drop m) (Qas ds (xs++ys) env) H1
def DA(P:Program)(N m:Nat)(cat:List Nat)(l:List Oper)(ds:List Nat)(env:Env)(H:Qc)(K:List Oper->Env->Qc->Prop)(r:List Oper)(xs:List A):Prop:=
 r=l.drop xs.length->∃ys H1,xs.length+ys.length=m/\H.length<=H1.length/\(∀j,xs.length<=j->j<m->Dob P N cat l ds env H H1 (xs++ys) j)/\K (l.drop m) (Qas ds (xs++ys) env) H1
theorem Qk1{ys:List A}(hcl':cat.length=m)(h3:∀j,0<=j->j<m->Dob P N cat l ds env H H1 ys j):QeV P N l ds ys env H.length (H.length+0) 0 ((plC cat).map fun q=>q.map fun p=>([H,H1].getD p.1 [],[H,H1].getD p.2 [])):=by
 refine QeU _ 0 fun i s hs p hp=>?_
 rw[List.getElem?_map]at hs
 cases e:(plC cat)[i]? with
 |none=>rw[e]at hs;cases hs
 |some q=>
  rw[e]at hs
  cases hs
  obtain⟨p0,hp0,rfl⟩:=List.mem_map.1 hp
  have hi:i<m:=by
   have:=(List.getElem?_eq_some_iff.1 e).1
   simpa[plC,hcl']using this
  have:=h3 i (Nat.zero_le _) hi p0 (by rw[Qgv e];exact hp0)
  simpa using this
theorem DA.len(h2:H.length<=H1.length):[H,H1].all (fun X=>Nat.ble (H.length+0) X.length)=true:=by
 simp only[List.all_cons,List.all_nil,Bool.and_true,Nat.add_zero,Bool.and_eq_true]
 exact⟨Nat.ble_eq_true_of_le (Nat.le_refl _),Nat.ble_eq_true_of_le h2⟩
theorem Qjq{id:Nat}(m b:Nat)(cat:List Nat)(hm:P.follows .mixedOrders=true)(hc:QcF l m N (Qan m 0 l) (hsC cat) (rqC b cat) [[],[b]] (plC cat)=true)(hcl:Nat.beq cat.length m=true)(h0B:Nat.ble h0 H.length=true)
  (h:DA P N m cat l (Qan m 0 l) env H (fun r e H=>WO P h0 N l.toArray r e H Q) l []):TC P h0 N (.region id l.toArray true) env H Q:=by
 obtain⟨ys,H1,h1,h2,h3,h4⟩:=h rfl
 simp only[List.length_nil,Nat.zero_add,List.nil_append]at h1 h3 h4
 have hcl':=Nat.eq_of_beq_eq_true hcl
 exact QaU m 0 _ _ _ _ _ ys [H,H1] H1 hm hc (by rw[h1];exact Nat.beq_refl m) rfl h0B (DA.len h2) (by simp) rfl (Qk1 hcl' h3) (by simp[plC,hcl']) h4
theorem QaS{xs:List A}{o:Oper}{r:List Oper}(hr:o::r=l.drop xs.length):l[xs.length]?=some o/\r=l.drop (xs.length+1):=by
 have hlt:xs.length<l.length:=by
  rcases Nat.lt_or_ge xs.length l.length with q|q
  ·exact q
  ·rw[List.drop_eq_nil_of_le q]at hr;cases hr
 rw[List.drop_eq_getElem_cons hlt]at hr
 cases hr
 exact⟨List.getElem?_eq_getElem hlt,rfl⟩
theorem QeY{zs:List A}{j c:Nat}(hc:Yv cat j=some c)(h:∀p∈(match c with|0=>[(0,0)]|1=>[(0,1)]|2=>[(1,1)]|_=>[(0,0),(1,1)]:List (Nat×Nat)),Qad P N l ds zs env H.length H.length j ([H,H1].getD p.1 []) ([H,H1].getD p.2 [])):Dob P N cat l ds env H H1 zs j:=by
 intro p hp
 rw[Qaz]at hc
 unfold plC at hp
 rw[List.getD_eq_getElem?_getD,List.getElem?_map,hc]at hp
 exact h p hp
theorem Qay{hB hE:Nat}{xs ys:List A}{o:Oper}{x:A}{d:Nat}{X X':Qc}(ho:l[xs.length]?=some o)(hdd:Qaq hB hE X X'=true)(h:WO P X.length N l.toArray [o] (QZ (Qh o) 0 ds xs env) X (YH (up (QZ (Qh o) 0 ds xs env) d x) X'))(hd:o.dst=some d):
  Qad P N l ds (xs++x::ys) env hB hE xs.length X X':=
 .woE o _ d x ho hd Qfg (he:=by
  intro s
  rcases QgC (af:=Qh o) (env0:=env) (s:=s) ds xs (x::ys) 0 with⟨j,y,q1,q2,q3,q4⟩|q|q
  ·rw[Nat.zero_add]at q1;exact .inl ⟨j,y,q1,q2,q3,q4⟩
  ·exact .inr (.inl q)
  ·exact .inr (.inr q)) (hdd:=hdd) (h:=h)
theorem YF{n:Nat}{X X':Qc}:Qaq n n X X'=true:=by unfold Qaq;rw[Nat.sub_self];rfl
theorem DA.wo{xs:List A}{o:Oper}{r:List Oper}{x:A}{d:Nat}(h:WO P H.length N l.toArray [o] (QZ (Qh o) 0 ds xs env) H (YH (up (QZ (Qh o) 0 ds xs env) d x) H))(k:DA P N m cat l ds env H K r (xs++[x]))
  (hc:Yv cat xs.length=some 0:=by exact rfl)(hd:o.dst=some d:=by exact rfl)(hx:Nat.blt xs.length m=true:=by exact rfl):DA P N m cat l ds env H K (o::r) xs:=by
 intro hr
 obtain⟨ho,hr'⟩:=QaS hr
 obtain⟨ys,H1,h1,h2,h3,h4⟩:=k (by simpa using hr')
 simp only[List.length_append,List.length_cons,List.length_nil,List.append_assoc,List.cons_append,List.nil_append]at h1 h3 h4
 refine⟨x::ys,H1,by simp only[List.length_cons];omega,h2,fun j q1 q2=>?_,h4⟩
 rcases Nat.lt_or_ge xs.length j with q|q
 ·exact h3 j (by omega) q2
 ·obtain rfl:j=xs.length:=by omega
  refine QeY hc fun p hp=>?_
  obtain rfl:=List.mem_singleton.1 hp
  exact Qay ho YF h hd
theorem DA.op{xs:List A}{o:Oper}{r:List Oper}{x:A}{d:Nat}(h:WO P H.length N l.toArray [o] (QZ (Qh o) 0 ds xs env) H (YH (up (QZ (Qh o) 0 ds xs env) d x) H1))(k:DB P N m cat l ds env H H1 K r (xs++[x]))(hl:Nat.ble H.length H1.length=true:=by exact rfl)
  (hc:Yv cat xs.length=some 1:=by exact rfl)(hd:o.dst=some d:=by exact rfl)(hx:Nat.blt xs.length m=true:=by exact rfl):DA P N m cat l ds env H K (o::r) xs:=by
 intro hr
 obtain⟨ho,hr'⟩:=QaS hr
 obtain⟨ys,h1,h3,h4⟩:=k (by simpa using hr')
 simp only[List.length_append,List.length_cons,List.length_nil,List.append_assoc,List.cons_append,List.nil_append]at h1 h3 h4
 refine⟨x::ys,H1,by simp only[List.length_cons];omega,Nat.le_of_ble_eq_true hl,fun j q1 q2=>?_,h4⟩
 rcases Nat.lt_or_ge xs.length j with q|q
 ·exact h3 j (by omega) q2
 ·obtain rfl:j=xs.length:=by omega
  refine QeY hc fun p hp=>?_
  obtain rfl:=List.mem_singleton.1 hp
  exact Qay ho YF h hd
theorem DB.done{xs:List A}{r:List Oper}(hx:Nat.beq xs.length m=true)(h:K r (Qas ds xs env) H1):DB P N m cat l ds env H H1 K r xs:=by
 intro hr
 have e:=Nat.eq_of_beq_eq_true hx
 subst hr
 refine⟨[],by simpa using e,fun j q1 q2=>by omega,?_⟩
 rw[<- e,List.append_nil];exact h
theorem DB.add{xs:List A}{o:Oper}{r:List Oper}{x:A}(hb:∀ys,l[xs.length]?=some o->Dob P N cat l ds env H H1 (xs++x::ys) xs.length)(k:DB P N m cat l ds env H H1 K r (xs++[x])):DB P N m cat l ds env H H1 K (o::r) xs:=by
 intro hr
 obtain⟨ho,hr'⟩:=QaS hr
 obtain⟨ys,h1,h3,h4⟩:=k (by simpa using hr')
 simp only[List.length_append,List.length_cons,List.length_nil,List.append_assoc,List.cons_append,List.nil_append]at h1 h3 h4
 refine⟨x::ys,by simp only[List.length_cons];omega,fun j q1 q2=>?_,h4⟩
 rcases Nat.lt_or_ge xs.length j with q|q
 ·exact h3 j (by omega) q2
 ·obtain rfl:j=xs.length:=by omega
  exact hb ys ho
theorem DB.wo1{xs:List A}{o:Oper}{r:List Oper}{x:A}{d:Nat}(h:WO P H1.length N l.toArray [o] (QZ (Qh o) 0 ds xs env) H1 (YH (up (QZ (Qh o) 0 ds xs env) d x) H1))(k:DB P N m cat l ds env H H1 K r (xs++[x]))
  (hc:Yv cat xs.length=some 2:=by exact rfl)(hd:o.dst=some d:=by exact rfl):DB P N m cat l ds env H H1 K (o::r) xs:=
 .add (fun ys ho=>QeY hc fun p hp=>by
  obtain rfl:=List.mem_singleton.1 hp
  exact Qay ho YF h hd) k
theorem DB.wo2{xs:List A}{o:Oper}{r:List Oper}{x:A}{d:Nat}(h:WO P H.length N l.toArray [o] (QZ (Qh o) 0 ds xs env) H (YH (up (QZ (Qh o) 0 ds xs env) d x) H))(h1:WO P H1.length N l.toArray [o] (QZ (Qh o) 0 ds xs env) H1 (YH (up (QZ (Qh o) 0 ds xs env) d x) H1))(k:DB P N m cat l ds env H H1 K r (xs++[x]))
  (hc:Yv cat xs.length=some 3:=by exact rfl)(hd:o.dst=some d:=by exact rfl):DB P N m cat l ds env H H1 K (o::r) xs:=
 .add (fun ys ho=>QeY hc fun p hp=>by
  rcases List.mem_cons.1 hp with rfl|hp
  ·exact Qay ho YF h hd
  ·obtain rfl:=List.mem_singleton.1 hp
   exact Qay ho YF h1 hd) k
def Qe8(T:TyX)(N m:Nat)(cat:List Nat)(l:List Oper)(ds:List Nat)(env:Env)(H:Qc):Nat->Nat->List Oper->List A->Option (List Oper×List A)
 |0,_,r,xs=>some (r,xs)
 |_+1,_,[],_=>none
 |n+1,i,o::r,xs=>match Nat.blt i m,Yv cat i with
  |true,some 0=>match o.dst with
   |none=>none
   |some d=>match Nat.blt d N with
    |false=>none
    |true=>match Yz ⟨l⟩ o (QZ (Qh o) 0 ds xs env)with
     |none=>none
     |some false=>match Qb6 xs (.tup [])with
      |.mk xs'=>Qe8 T N m cat l ds env H n (i+1) r xs'
     |some true=>match Qcj T o (QZ (Qh o) 0 ds xs env) H with
      |none=>none
      |some x=>match Qb6 xs x with
       |.mk xs'=>Qe8 T N m cat l ds env H n (i+1) r xs'
  |_,_=>none
theorem Qdb(hT:Qbc P T):∀(n i:Nat) {r r':List Oper}{xs xs':List A},i=xs.length->Qe8 T N m cat l ds env H n i r xs=some (r',xs')->DA P N m cat l ds env H K r' xs'->DA P N m cat l ds env H K r xs
 |0,i,r,r',xs,xs',_,h,k=>by cases h;exact k
 |n+1,i,[],r',xs,xs',_,h,k=>by cases h
 |n+1,i,o::r,r',xs,xs',hi,h,k=>by
  subst hi
  unfold Qe8 at h
  split at h
  ·rename_i q1 q0
   split at h
   ·cases h
   ·rename_i d hd
    split at h
    ·cases h
    ·rename_i q2
     split at h
     ·cases h
     ·rename_i hw
      simp only[YK]at h
      exact .wo (WO.skip (QG hw) hd q2 (WO.nil YH.mk)) (Qdb hT n _ (by simp) h k) q0 hd q1
     ·rename_i hw
      split at h
      ·cases h
      ·rename_i x hv
       simp only[YK]at h
       exact .wo (Qy (QG hw) hd q2 (Qau hT hv) (WO.nil YH.mk)) (Qdb hT n _ (by simp) h k) q0 hd q1
  ·cases h
theorem QjA{H:Qc}{p:Bx}{r:Lx}(h:ptX [] p=some r):ptX H p=some r:=by
 unfold ptX at h⊢
 split at h
 ·exact h
 ·rename_i i off
  simp only[Yv]at h
  cases h
 ·cases h
theorem Qc0{o:Oper}{e:Env}{H:Qc}{x:A}(h:Qcj T o e []=some x):Qcj T o e H=some x:=by
 unfold Qcj at h⊢
 split at h<;>first|exact h|skip
 rename_i t y ho
 split at h
 ·cases h
 ·rename_i b n ht
  split at h
  ·exact h
  ·rename_i hng
   cases q:ptX [] (opB e y)with
   |none=>rw[q]at h;cases h
   |some r=>
    rw[q]at h
    have q':=QjA (H:=H) q
    simp only[q']
    exact h
def Qda(T:TyX)(N:Nat)(cat:List Nat)(l:List Oper)(ds:List Nat)(env:Env)(H1:Qc):Nat->Nat->List Oper->List A->Option (List Oper×List A)
 |0,_,r,xs=>some (r,xs)
 |_+1,_,[],_=>none
 |n+1,i,o::r,xs=>match o.dst with
  |none=>none
  |some d=>match Nat.blt d N with
   |false=>none
   |true=>match Yz ⟨l⟩ o (QZ (Qh o) 0 ds xs env)with
    |none=>none
    |some false=>match Yv cat i with
     |some 2=>(match Qb6 xs (.tup [])with
      |.mk xs'=>Qda T N cat l ds env H1 n (i+1) r xs')
     |some 3=>(match Qb6 xs (.tup [])with
      |.mk xs'=>Qda T N cat l ds env H1 n (i+1) r xs')
     |_=>none
    |some true=>match Yv cat i with
     |some 2=>(match Qcj T o (QZ (Qh o) 0 ds xs env) H1 with
      |none=>none
      |some x=>match Qb6 xs x with
       |.mk xs'=>Qda T N cat l ds env H1 n (i+1) r xs')
     |some 3=>(match Qcj T o (QZ (Qh o) 0 ds xs env) []with
      |none=>none
      |some x=>match Qb6 xs x with
       |.mk xs'=>Qda T N cat l ds env H1 n (i+1) r xs')
     |_=>none
theorem Qbl(hT:Qbc P T):∀(n i:Nat) {r r':List Oper}{xs xs':List A},i=xs.length->Qda T N cat l ds env H1 n i r xs=some (r',xs')->DB P N m cat l ds env H H1 K r' xs'->DB P N m cat l ds env H H1 K r xs
 |0,i,r,r',xs,xs',_,h,k=>by cases h;exact k
 |n+1,i,[],r',xs,xs',_,h,k=>by cases h
 |n+1,i,o::r,r',xs,xs',hi,h,k=>by
  subst hi
  unfold Qda at h
  split at h
  ·cases h
  ·rename_i d hd
   split at h
   ·cases h
   ·rename_i q2
    split at h
    ·cases h
    ·rename_i hw
     split at h
     ·rename_i q0
      simp only[YK]at h
      exact .wo1 (WO.skip (QG hw) hd q2 (WO.nil YH.mk)) (Qbl hT n _ (by simp) h k) q0 hd
     ·rename_i q0
      simp only[YK]at h
      exact .wo2 (WO.skip (QG hw) hd q2 (WO.nil YH.mk)) (WO.skip (QG hw) hd q2 (WO.nil YH.mk)) (Qbl hT n _ (by simp) h k) q0 hd
     ·cases h
    ·rename_i hw
     split at h
     ·rename_i q0
      split at h
      ·cases h
      ·rename_i x hv
       simp only[YK]at h
       exact .wo1 (Qy (QG hw) hd q2 (Qau hT hv) (WO.nil YH.mk)) (Qbl hT n _ (by simp) h k) q0 hd
     ·rename_i q0
      split at h
      ·cases h
      ·rename_i x hv
       simp only[YK]at h
       exact .wo2 (Qy (QG hw) hd q2 (Qau hT (Qc0 hv)) (WO.nil YH.mk)) (Qy (QG hw) hd q2 (Qau hT (Qc0 hv)) (WO.nil YH.mk)) (Qbl hT n _ (by simp) h k) q0 hd
     ·cases h
end
end Go.Sw
namespace Go.Sw
def chkF(L:List (Nat×List (Nat×Nat)))(fs:List (Nat×Nat×Nat)):Bool:=
 fs.all fun e=>match Qby L e.1 with
  |some pl=>(match Yv pl e.2.1 with
   |some q=>Nat.beq q.1 e.2.2&& !(Nat.beq q.2 0)
   |none=>false)
  |none=>false
theorem PL.get{P:Program}{fs:List Field}{pl:List (Nat×Nat)}(h:PL P fs pl):∀{f off n:Nat},Yv pl f=some (off,n)->∃fd,fs[f]?=some fd/\fd.offset=off/\ ∀w,(sizeOf fd.type).run P w=.ok n w:=by
 induction h with
 |nil=>intro f off n h;cases h
 |cons h k ih=>
  intro f off n hg
  cases f with
  |zero=>cases hg;exact⟨_,rfl,rfl,h⟩
  |succ f=>obtain⟨fd,h1,h2⟩:=ih (show Yv _ f=_ from hg);exact⟨fd,by simpa using h1,h2⟩
theorem QkK{P:Program}{L:List (Nat×List (Nat×Nat))}{fs:List (Nat×Nat×Nat)}(hL:∀e∈L,QF P e.1 e.2)(h:chkF L fs=true):∀e∈fs,∃n,YV P e.1 e.2.1 e.2.2 n:=by
 intro e he
 have:=List.all_eq_true.1 h e he
 split at this
 ·rename_i pl hpl
  split at this
  ·rename_i q hq
   obtain⟨off,n⟩:=q
   simp only[Bool.and_eq_true,Bool.not_eq_true']at this
   have e1:=Nat.eq_of_beq_eq_true this.1
   obtain⟨fs',h1,h2⟩:=hL _ (Qav hpl)
   obtain⟨fd,g1,g2,g3⟩:=PL.get h2 hq
   refine⟨n,⟨⟨_,fd,h1,by simpa using g1,g2.trans e1,g3,?_⟩⟩⟩
   intro z
   have h2:=this.2
   rw[z,Nat.beq_refl]at h2
   cases h2
  ·cases this
 ·cases this
section
variable {P:Program}{Z:TyZ}{h0 N:Nat}{all:Array Oper}{o:Oper}{l:List Oper}{env:Env}{H:Qc}{Q:Qz}{d:Nat}
theorem Cdz(hZ:Qb7 P Z){β γ:Type}{F:Option β}{F':β->Option γ}{r:γ}{f:Nat}{args argsc:List A}{Hc:Qc}{w:β->A}{Hr:β->Qc}(π:List Nat)(h:F.bind F'=some r)(hC:∀v,F=some v->C P f argsc Hc (RQ w Hr v))
  (hop:QdR Z o env=some (d,f,args))(g:∀v,F=some v->F' v=some r->WO P h0 N all l (up env d (Yl (rho π H.length) (w v))) (Q3 H π ((Hr v).map (QN (rho π H.length)))) Q)
  (hargs:args=Qaa (rho π H.length) argsc)(hH:π.map (fun p=>H[p]?)=(Hc.map (QN (rho π H.length))).map some)(hπ:π.Nodup)(hg:Yz all o env=some true)(hN:Nat.blt d N=true)(hh:Nat.ble h0 H.length=true):WO P h0 N all (o::l) env H Q:=by
 obtain⟨v,h1,h2⟩:=Yy h
 obtain⟨q1,q2⟩:=QcW (H:=H) hZ hop
 refine Qu π q2 (hC v h1) ?_ hargs hH hπ (QG hg) q1 hN hh
 rintro _ _ ⟨rfl,rfl⟩
 exact g v h1 h2
end
inductive FLL where
 |mk (l:List (List A))
def cpLL(sel:List Nat):List (List A)->FLL
 |[]=>.mk []
 |a::r=>match cpL sel a,cpLL sel r with
  |.mk a',.mk r'=>.mk (a'::r')
inductive FBk where
 |mk (b:Blk)
def cpBk(sel:List Nat):Blk->FBk
 |.cells t cs=>match cpL sel cs with
  |.mk l=>.mk (.cells t l)
 |.rowr t k es=>match cpLL sel es with
  |.mk l=>.mk (.rowr t k l)
 |.ents t a b es=>match Qg0 sel ixL a,Qg0 sel ixL b with
  |.mk a',.mk b'=>.mk (.ents t a' b' es)
 |b=>.mk b
def selD(H:Qc)(sel:List Nat):List Nat->FB
 |[]=>.mk []
 |a::r=>match Yv H a with
  |some b=>(match cpBk sel b,selD H sel r with
   |.mk b',.mk l=>.mk (b'::l))
  |none=>.mk []
def retC(sel sl:List Nat)(env:Env)(H:Qc):Option (Env×Qc):=
 match Qir sel env sl [],selD H sel sel with
 |.mk e,.mk h=>some (e,h)
theorem Rx{P:Program}{h0:Nat}{fn:Func}{env E':Env}{H H':Qc}{Qr:A->Qc->Prop}{rr:A}(π sl:List Nat)(_:retC π sl env H=some (E',H'))(hres:Qcb P fn E' H' rr)(hq:Qr rr H')(hpre:π.take h0=List.range h0:=by exact rfl)
  (hH:π.map (fun p=>H[p]?)=(H'.map (QN (rho π H.length))).map some:=by exact rfl)(hπ:π.Nodup:=by decide)(hE:QdO (rho π H.length) env E':=by(repeat' (first|exact trivial|refine⟨rfl,?_⟩))):Qca P h0 fn Qr .ret env H:=
 ⟨E',H',rr,Lr π hpre hH hπ hE,hres,hq⟩
end Go.Sw
namespace Go.Sw
def nxL{T:Type}:List T->T->List T->Prop:=fun l x rem=>l=x::rem
def QbI{S T B:Type}(step:S->T->Option (Ctl S B)):List T->S->Option (Ctl S B)
 |[],s=>some (.cont s)
 |x::l,s=>(step s x).bind fun d=>match d with
  |.cont s'=>QbI step l s'
  |.done b=>some (.done b)
def Qba{S T B:Type}(step:S->Option (List T×Ctl S B)):Nat->S->Option (List T×B)
 |0,_=>none
 |n+1,s=>(step s).bind fun p=>match p.2 with
  |.cont s'=>(Qba step n s').bind fun q=>some (p.1++q.1,q.2)
  |.done b=>some (p.1,b)
def Qgb{S B:Type}(h1:Nat)(env:Env)(Q:Qz)(d:Ctl S B)(Hp:S->Qc):Qz
 |.normal,env',H'=>∃s,d=.cont s/\Le h1 env' H' [] (Hp s)
 |.exit id,env',H'=>(∃b,d=.done b)/\ ∃H2,Le h1 env' H' [] H2/\Q (.exit id) env H2
 |.ret,env',H'=>(∃b,d=.done b)/\ ∃H2,Le h1 env' H' [] H2/\Q .ret env H2
theorem QaH{S B:Type}{h1:Nat}{env env':Env}{H':Qc}{Q:Qz}{s:S}{d:Ctl S B}{Hp:S->Qc}(e:some (Ctl.cont s)=some d)(h:Le h1 env' H' [] (Hp s)):Qgb h1 env Q d Hp .normal env' H':=⟨s,(Oi e).symm,h⟩
theorem Qgr{S B:Type}{h1:Nat}{env env':Env}{H' H2:Qc}{Q:Qz}{b:B}{d:Ctl S B}{Hp:S->Qc}(e:some (Ctl.done b)=some d)(h:Le h1 env' H' [] H2)(q:Q .ret env H2):Qgb h1 env Q d Hp .ret env' H':=⟨⟨b,(Oi e).symm⟩,H2,h,q⟩
theorem YR{P:Program}{h0 N:Nat}{gop:Operand}{ps:List Nat}{assign body:Code}{env:Env}{H:Qc}{Q:Qz}{f:FuncId}{caps capc:List A}{Hc:Qc}{T S B:Type}{enc:T->List A}{xs:List T}{step:S->T->Option (Ctl S B)}{s0:S}{D:Ctl S B}
  (π:List Nat)(Hp:S->Qc)(h:QbI step xs s0=some D)(hseq:QcM P f capc Hc enc nxL xs)(hlen:∀x,(enc x).length=ps.length)(eg:∀args w,(callFunc f args).run P w=.ok (.enter f args) w)
  (hh:Nat.ble h0 H.length=true)(hg:opA env gop=.fn (.func f) [] caps)(hargs:caps=Qaa (rho π H.length) capc)(hH:π.map (fun p=>H[p]?)=(Hc.map (QN (rho π H.length))).map some)(hπ:π.Nodup)(hps:(ps.all fun p=>Nat.blt p N)=true)
  (hle:Le H.length env (QcB H π) env (Hp s0))
  (hbody:∀s x d,step s x=some d->(∀b,d=.done b->D=.done b)->TC P H.length N assign (QhU ps (enc x) env) (Hp s) fun e env1 H1=>e=.normal/\TC P H.length N body env1 H1 (Qgb H.length env Q d Hp))
  (hdone:∀s,D=.cont s->Q .normal env (Hp s)):TC P h0 N (.rangeFunc gop ps.toArray assign body) env H Q:=by
 refine TC.rangeFunc π Hp (fun s l=>QbI step l s=some D) s0 (Nat.le_of_ble_eq_true hh) hg hargs hH hπ hps eg hseq hlen hle h ?_ ?_
 ·rintro s l x rem hV rfl
  obtain⟨d,hd,hV⟩:=Yy hV
  refine(hbody s x d hd ?_).mono ?_
  ·rintro b rfl
   exact(Oi hV).symm
  ·rintro e env1 H1 ⟨he,hb⟩
   refine⟨he,hb.mono ?_⟩
   intro e2 env2 H2 q
   cases e2 with
   |normal=>
    obtain⟨s',rfl,hle⟩:=q
    exact⟨Hp s',hle,s',hV,rfl⟩
   |exit id=>
    obtain⟨_,H3,h3,q⟩:=q
    exact⟨H3,h3,q⟩
   |ret=>
    obtain⟨_,H3,h3,q⟩:=q
    exact⟨H3,h3,q⟩
 ·intro s hs
  exact hdone s (Oi hs).symm
section
variable {T:Type}{X:Ctx T}{P:Program}{h0 N:Nat}{c:Code}{env:Env}{H:Qc}{st:YSt T}{Q:Yg T}
def QdJ{S B:Type}(h0:Nat)(E:S->Env)(Hp:S->Qc)(d:Ctl S B)(rest:List T)(Q:Yg T):Yg T
 |.normal,env,H,st=>∃s,d=.cont s/\Le h0 env H (E s) (Hp s)/\st=.on rest
 |.exit id,env,H,st=>Q (.exit id) env H st
 |.ret,env,H,st=>Q .ret env H st
theorem Qhq{S B:Type}{step:S->Option (List T×Ctl S B)}{E:S->Env}{Hp:S->Qc}{m:Nat}{s0:S}{ys rem:List T}{b:B}(h:Qba step m s0=some (ys,b))(hI:Le h0 env H (E s0) (Hp s0))
  (body:∀s zs d rest,step s=some (zs,d)->(∀b',d=.done b'->b'=b/\rest=rem)->TCy X P h0 N c (E s) (Hp s) (.on (zs++rest)) (QdJ h0 E Hp d rest Q)):TCy X P h0 N (.loop c) env H (.on (ys++rem)) Q:=by
 refine Qei (I:=fun n env H st=>∃s ys',Qba step n s=some (ys',b)/\st=.on (ys'++rem)/\Le h0 env H (E s) (Hp s)) ?_ ⟨s0,ys,h,rfl,hI⟩
 rintro n env H st ⟨s,ys',hi,rfl,hle⟩
 cases n with
 |zero=>cases hi
 |succ n=>
  obtain⟨⟨zs,d⟩,hs,hi⟩:=Yy hi
  refine TCy.le hle ?_
  cases d with
  |cont s'=>
   obtain⟨⟨q1,q2⟩,hq,hi⟩:=Yy hi
   cases hi
   rw[List.append_assoc]
   refine(body s zs (.cont s') (q1++rem) hs (fun b' e=>by cases e)).mono ?_
   rintro x env' H' st' q
   cases x with
   |normal=>
    obtain⟨s2,e,q1',rfl⟩:=q
    cases e
    exact⟨n,Nat.lt_succ_self n,_,_,hq,rfl,q1'⟩
   |exit id=>exact q
   |ret=>exact q
  |done b'=>
   cases hi
   refine(body s _ (.done b) rem hs (fun b' e=>by cases e;exact⟨rfl,rfl⟩)).mono ?_
   rintro x env' H' st' q
   cases x with
   |normal=>obtain⟨s2,e,_⟩:=q;cases e
   |exit id=>exact q
   |ret=>exact q
def kqY(X:Ctx T)(P:Program)(h0 N:Nat):List Kf->Yg T->Yg T
 |[],Q=>Q
 |.seq c::k,Q=>SeqY X P h0 N c (kqY X P h0 N k Q)
 |.blo id::k,Q=>BloY id (kqY X P h0 N k Q)
 |.unr c::k,Q=>fun _ _ _ _=>False
@[reducible] def HdY(X:Ctx T)(P:Program)(h0 N:Nat):Cf->List Kf->Env->Qc->YSt T->Yg T->Prop
 |.code c,k,env,H,st,Q=>TCy X P h0 N c env H st (kqY X P h0 N k Q)
 |.ops all l,k,env,H,st,Q=>WOy X P h0 N all l env H st (kqY X P h0 N k Q)
 |.out x,k,env,H,st,Q=>kqY X P h0 N k Q x env H st
def Qkg:Cf->List Kf->Bool
 |.code (.loop _),_=>false
 |.out _,.unr _::_=>false
 |_,_=>true
theorem QhV{Tx:TyX}(hT:Qbc P Tx){c c':Cf}{k k':List Kf}{env env':Env}{H H':Qc}(h:QdU Tx h0 N c k env H=some (c',k',env',H'))(hn:Qkg c k=true)(g:HdY X P h0 N c' k' env' H' st Q):HdY X P h0 N c k env H st Q:=by
 unfold QdU at h
 split at h
 ·cases h;exact TCy.seq g
 ·cases h;exact TCy.block g
 ·cases hn
 ·cases h;exact TCy.skip g
 ·cases h;exact TCy.ret g
 ·cases h;exact TCy.exit g
 ·cases h;exact TCy.region g
 ·split at h
  ·rename_i q;cases h;exact TCy.cond (Qx q) (fun _=>g) (fun e=>by cases e)
  ·rename_i q;cases h;exact TCy.cond (Qx q) (fun e=>by cases e) (fun _=>g)
  ·cases h
 ·cases h;exact WOy.nil g
 ·split at h
  ·rename_i q;cases h;exact WOy.step (QhZ hT q (WO.nil ⟨rfl,g⟩))
  ·cases h
 ·cases h;exact g
 ·cases h;exact g
 ·cases h;exact g
 ·cases h;exact g
 ·split at h
  ·rename_i q
   cases h
   have e:=Nat.eq_of_beq_eq_true q
   subst e
   show(bif Nat.beq _ _ then _ else _)
   rw[Nat.beq_refl]
   exact g
  ·rename_i q
   cases h
   show(bif Nat.beq _ _ then _ else _)
   rw[q]
   exact g
 ·cases h;exact g
 ·cases hn
 ·cases hn
 ·cases hn
 ·cases h
def QgW(Tx:TyX)(h0 N:Nat):Nat->Cf->List Kf->Env->Qc->Option (Cf×List Kf×Env×Qc)
 |0,c,k,env,H=>some (c,k,env,H)
 |n+1,c,k,env,H=>match Qkg c k with
  |true=>(match QdU Tx h0 N c k env H with
   |some (c',k',env',H')=>QgW Tx h0 N n c' k' env' H'
   |none=>none)
  |false=>none
theorem QcQ{Tx:TyX}(hT:Qbc P Tx):∀(n:Nat) {c c':Cf}{k k':List Kf}{env env':Env}{H H':Qc},QgW Tx h0 N n c k env H=some (c',k',env',H')->HdY X P h0 N c' k' env' H' st Q->HdY X P h0 N c k env H st Q
 |0,c,c',k,k',env,env',H,H',h,g=>by cases h;exact g
 |n+1,c,c',k,k',env,env',H,H',h,g=>by
  unfold QgW at h
  split at h
  ·rename_i hn
   split at h
   ·rename_i e;exact QhV hT e hn (QcQ hT n h g)
   ·cases h
  ·cases h
theorem TCy.lf{k:List Kf}(h:TC P h0 N c env H (fun x env H=>kqY X P h0 N k Q x env H st)):TCy X P h0 N c env H st (kqY X P h0 N k Q):=TCy.lift h
theorem Qi2{all:Array Oper}{o:Oper}{r:List Oper}{d:Nat}{x:T}{l:List T}{e:T->A}{y z:Operand}{ta:Array TypeId}(hE:X.enc=fun x=>[e x])(hN:X.nx=nxL)(ho:o.op=.call {callee:=.value y,args:= #[z],argTypes:=ta})(hy:opA env y=.fn (.yield X.l) [] [])(hz:opA env z=e x)(hs:Q2 (e x)=true)
  (k1:WOy X P h0 N all r (up env d (.bool true)) H (.on l) Q)(k2:WOy X P h0 N all r (up env d (.bool false)) H (.off l) Q)(hg:Qq all o env true:=by exact rfl)(hd:o.dst=some d:=by exact rfl)(hNd:Nat.blt d N=true:=by exact rfl):WOy X P h0 N all (o::r) env H (.on (x::l)) Q:=by
 refine WOy.yield (x:=x) (rem:=l) (by rw[hN];rfl) hg hd hNd ?_ ?_
 ·rw[hE]
  exact Qe1 ho hy hz hs
 ·intro b
  cases b with
  |true=>exact k1
  |false=>exact k2
theorem Qi1{all:Array Oper}{o:Oper}{r:List Oper}{d:Nat}{x:T}{l:List T}{e1 e2:T->A}{y z1 z2:Operand}{ta:Array TypeId}(hE:X.enc=fun x=>[e1 x,e2 x])(hN:X.nx=nxL)(ho:o.op=.call {callee:=.value y,args:= #[z1,z2],argTypes:=ta})(hy:opA env y=.fn (.yield X.l) [] [])(hz1:opA env z1=e1 x)(hz2:opA env z2=e2 x)(hs1:Q2 (e1 x)=true)(hs2:Q2 (e2 x)=true)
  (k1:WOy X P h0 N all r (up env d (.bool true)) H (.on l) Q)(k2:WOy X P h0 N all r (up env d (.bool false)) H (.off l) Q)(hg:Qq all o env true:=by exact rfl)(hd:o.dst=some d:=by exact rfl)(hNd:Nat.blt d N=true:=by exact rfl):WOy X P h0 N all (o::r) env H (.on (x::l)) Q:=by
 refine WOy.yield (x:=x) (rem:=l) (by rw[hN];rfl) hg hd hNd ?_ ?_
 ·rw[hE]
  exact QgU ho hy hz1 hz2 hs1 hs2
 ·intro b
  cases b with
  |true=>exact k1
  |false=>exact k2
end
end Go.Sw
namespace Go.Sw
def yl{T R:Type}(x:T)(k:Option (List T×R)):Option (List T×R):=k.bind fun p=>some (x::p.1,p.2)
def ap{T B R:Type}(a:Option (List T×B))(k:B->Option (List T×R)):Option (List T×R):=a.bind fun p=>(k p.2).bind fun q=>some (p.1++q.1,q.2)
theorem Qgk{T R:Type}{x:T}{k:Option (List T×R)}{ys:List T}{v:R}(h:yl x k=some (ys,v)):∃zs,k=some (zs,v)/\ys=x::zs:=by
 obtain⟨⟨zs,v'⟩,h1,h2⟩:=Yy h
 cases h2
 exact⟨zs,h1,rfl⟩
theorem QgH{T B R:Type}{a:Option (List T×B)}{k:B->Option (List T×R)}{ys:List T}{v:R}(h:ap a k=some (ys,v)):∃y1 b y2,a=some (y1,b)/\k b=some (y2,v)/\ys=y1++y2:=by
 obtain⟨⟨y1,b⟩,h1,h2⟩:=Yy h
 obtain⟨⟨y2,v'⟩,h3,h4⟩:=Yy h2
 cases h4
 exact⟨y1,b,y2,h1,h3,rfl⟩
section
variable {T:Type}{X:Ctx T}{P:Program}{h0 N:Nat}{c c':Code}{env:Env}{H:Qc}{st:YSt T}{Q:Yg T}
def Qjr{β:Type}(h0:Nat)(b:β)(E':β->Env)(H':β->Qc)(rem:List T)(Q:Yg T):Yg T
 |.normal,env,H,st=>Le h0 env H (E' b) (H' b)/\st=.on rem
 |.exit id,env,H,st=>Q (.exit id) env H st
 |.ret,env,H,st=>Q .ret env H st
theorem Qb8{β:Type}{E':β->Env}{H':β->Qc}(b:β)(rem:List T)(sel keep:List Nat)(nE:β->Env)(nH:β->List (Nat×Blk))(_:∀b,QiX sel keep (nE b) (nH b) env H=some (E' b,H' b))(h:TCy X P h0 N c env H st (Qjr h0 b E' H' rem Q))(k:∀env H,Le h0 env H (E' b) (H' b)->Q .normal env H (.on rem)):TCy X P h0 N c env H st Q:=
 h.mono fun x env' H' st' q=>by
  cases x with
  |normal=>obtain⟨q1,rfl⟩:=q;exact k _ _ q1
  |exit id=>exact q
  |ret=>exact q
theorem QgF{β:Type}{b:β}{E':β->Env}{H':β->Qc}{rem:List T}(h:Le h0 env H (E' b) (H' b)):Qjr h0 b E' H' rem Q .normal env H (.on rem):=⟨h,rfl⟩
theorem QgE{β:Type}{b:β}{E':β->Env}{H':β->Qc}{rem:List T}(h:Q .ret env H st):Qjr h0 b E' H' rem Q .ret env H st:=h
theorem QeO{S B:Type}{step:S->Option (List T×Ctl S B)}{E':S->Env}{H':S->Qc}{m:Nat}{s0:S}{ys rem:List T}{b:B}(sel keep:List Nat)(nE:S->Env)(nH:S->List (Nat×Blk))(h:Qba step m s0=some (ys,b))(_:∀s,QiX sel keep (nE s) (nH s) env H=some (E' s,H' s))(hI:Le h0 env H (E' s0) (H' s0))
  (body:∀s zs d rest,step s=some (zs,d)->(∀b',d=.done b'->b'=b/\rest=rem)->TCy X P h0 N c (E' s) (H' s) (.on (zs++rest)) (QdJ h0 E' H' d rest Q)):TCy X P h0 N (.loop c) env H (.on (ys++rem)) Q:=Qhq h hI body
theorem Qdf{S B:Type}{E':S->Env}{H':S->Qc}{s:S}{d:Ctl S B}{zs rest:List T}(e:some (([]:List T),Ctl.cont s)=some (zs,d))(h:Le h0 env H (E' s) (H' s)):QdJ h0 E' H' d rest Q .normal env H (.on (zs++rest)):=by
 cases e;exact⟨s,rfl,h,rfl⟩
theorem Qey{S B:Type}{id:Nat}{E':S->Env}{H':S->Qc}{d:Ctl S B}{rest:List T}(h:Q (.exit id) env H st):QdJ h0 E' H' d rest Q (.exit id) env H st:=h
theorem Qez{S B:Type}{E':S->Env}{H':S->Qc}{d:Ctl S B}{rest:List T}(h:Q .ret env H st):QdJ h0 E' H' d rest Q .ret env H st:=h
theorem Oy{S B:Type}{d:Ctl S B}{x b:B}{zs rest rem:List T}(hb:∀b',d=.done b'->b'=b/\rest=rem)(h:some (([]:List T),Ctl.done x)=some (zs,d)):zs=[]/\b=x/\rest=rem:=by
 cases h
 obtain⟨h1,h2⟩:=hb x rfl
 exact⟨rfl,h1.symm,h2⟩
theorem Qao{f:FuncId}{fn:Func}{c:Code}{N:Nat}{caps:List A}{H:Qc}{enc:T->List A}{xs:List T}(hf:P.funcs[f]?=some fn)(hb:fn.body=some c)(hN:fn.ntmps=N)(hA:Nat.ble (caps.length+1) N=true)(hR:fn.results= #[])
  (h:∀X:Ctx T,X.enc=enc->X.nx=nxL->TCy X P H.length N c (Qec 0 (.fn (.yield X.l) [] []::caps)) H (.on (xs++[])) EndY):QcM P f caps H enc nxL xs:=by
 rw[List.append_nil]at h
 exact Qb9 hf hb hN hA hR h
end
end Go.Sw
namespace Go.Sw
open Go.MapKept
section
variable {fr ro:Nat->Prop}{σ:Sig}{H:Qc}{w:World}
theorem Sim.lendO(s:Sim fr ro σ H w){i b:Nat}{x x':Blk}(hσ:σ[i]?=some (some b))(hH:H[i]?=some x)(hbr:BR ro σ w x' (some b))(hh:∀d,Hid w x' b d->Hid w x b d)(hl:x'.live=true->x.live=true:=by exact id):
  Sim fr ro σ (H.set i x') w:=by
 have hi:i<H.length:=(List.getElem?_eq_some_iff.1 hH).1
 have hcase:∀(j:Nat) (v:Blk),(H.set i x')[j]?=some v->(j=i/\v=x')\/(j≠i/\H[j]?=some v):=by
  intro j v h
  by_cases e:j=i
  ·subst e;rw[List.getElem?_set_self hi]at h;cases h;exact .inl ⟨rfl,rfl⟩
  ·rw[List.getElem?_set_ne (fun q=>e q.symm)]at h;exact .inr ⟨e,h⟩
 have hx:∀(j:Nat) (v:Blk),(H.set i x')[j]?=some v->v.live=true->∃v',H[j]?=some v'/\v'.live=true:=by
  intro j v h hv
  rcases hcase j v h with⟨rfl,rfl⟩|⟨_,h⟩
  ·exact⟨x,hH,hl hv⟩
  ·exact⟨v,h,hv⟩
 refine⟨by rw[List.length_set];exact s.len,s.roOk,s.frLt,s.roFr,?_,?_,?_,s.hidTo (· = ·) QP (Nat.le_refl _) (fun _ _ _ _ _ _ _ q=>q) (fun _ _ _ _ _ _ _ q=>q) fun j d y g1 g2 g3=>.inl ?_⟩
 ·intro j b v h1 h2 h3
  obtain⟨v',q1,q2⟩:=hx j v h2 h3
  exact s.own j b v' h1 q1 q2
 ·intro j j' b v v' h1 h2 h3 h4 h5 h6
  obtain⟨u,q1,q2⟩:=hx j v h3 h5
  obtain⟨u',q1',q2'⟩:=hx j' v' h4 h6
  exact s.inj j j' b u u' h1 h2 q1 q1' q2 q2'
 ·intro j y v h1 h2
  rcases hcase j v h2 with⟨rfl,rfl⟩|⟨_,h⟩
  ·rw[hσ]at h1;cases h1;exact hbr
  ·exact s.blk j y v h1 h
 ·rcases hcase j y g2 with⟨rfl,rfl⟩|⟨_,h⟩
  ·rw[hσ]at g1;cases g1;exact⟨j,x,rfl,hσ,hH,hl,hh⟩
  ·exact⟨j,y,rfl,g1,h,id,fun _ q=>q⟩
theorem Sim.unhide(s:Sim fr ro σ H w){i b c:Nat}{x x' y:Blk}(hσ:σ[i]?=some (some b))(hH:H[i]?=some x)(hx:Hid w x b c)(hl:x'.live=true->x.live=true)
  (hbr:BR ro σ w x' (some b))(hh:∀d,Hid w x' b d->Hid w x b d/\d≠c)(hy:BR ro (σ++[some c]) w y (some c))(hyh:∀d,Hid w y c d->False):
  Sim fr ro (σ++[some c]) (H.set i x'++[y]) w:=by
 have hlen:=s.len
 have hi:i<H.length:=(List.getElem?_eq_some_iff.1 hH).1
 have kc:=s.hid i b x c hσ hH hx
 have hcase:∀(j:Nat) (z:Option Nat) (v:Blk),(σ++[some c])[j]?=some z->(H.set i x'++[y])[j]?=some v->
   (j=i/\z=some b/\v=x')\/(j≠i/\j<σ.length/\σ[j]?=some z/\H[j]?=some v)\/(j=σ.length/\z=some c/\v=y):=by
  intro j z v h1 h2
  rcases Nat.lt_trichotomy j σ.length with q|q|q
  ·rw[List.getElem?_append_left q]at h1
   rw[List.getElem?_append_left (by rw[List.length_set];omega)]at h2
   by_cases e:j=i
   ·subst e;rw[List.getElem?_set_self hi]at h2;rw[hσ]at h1;cases h2;cases h1;exact .inl ⟨rfl,rfl,rfl⟩
   ·rw[List.getElem?_set_ne (fun q=>e q.symm)]at h2;exact .inr (.inl ⟨e,q,h1,h2⟩)
  ·subst q
   have e1:(σ++[some c])[σ.length]?=some (some c):=by simp
   have e2:(H.set i x'++[y])[σ.length]?=some y:=by rw[hlen,show H.length=(H.set i x').length from by simp];simp
   rw[e1]at h1;rw[e2]at h2;cases h1;cases h2
   exact .inr (.inr ⟨rfl,rfl,rfl⟩)
  ·rw[List.getElem?_eq_none (by simp;omega)]at h1;simp at h1
 have ext:Ext ro σ w ro (σ++[some c]) w:=⟨fun _ q=>q,fun _ _=>rfl,fun _ _ q=>q,fun _ _ h=>YN h⟩
 refine⟨by simp[hlen],s.roOk,s.frLt,s.roFr,?_,?_,?_,?_⟩
 ·intro j d v h1 h2 h3
  rcases hcase j _ v h1 h2 with⟨rfl,e,rfl⟩|⟨_,_,q1,q2⟩|⟨rfl,e,rfl⟩
  ·cases e;exact s.own j _ x hσ hH (hl h3)
  ·exact s.own j d v q1 q2 h3
  ·cases e;exact⟨kc.lt,kc.ro,kc.fr⟩
 ·intro j j' d v v' h1 h2 h3 h4 h5 h6
  rcases hcase j _ v h1 h3 with⟨r1,e,rfl⟩|⟨n1,l1,q1,q2⟩|⟨r1,e,rfl⟩<;>rcases hcase j' _ v' h2 h4 with⟨r1',e',rfl⟩|⟨n1',l1',q1',q2'⟩|⟨r1',e',rfl⟩
  ·rw[r1,r1']
  ·cases e;exact(n1' (s.inj j' i _ v' x q1' hσ q2' hH h6 (hl h5))).elim
  ·cases e;cases e';exact(kc.ne i _ x hσ hH (hl h5) rfl).elim
  ·cases e';exact(n1 (s.inj j i _ v x q1 hσ q2 hH h5 (hl h6))).elim
  ·exact s.inj j j' d v v' q1 q1' q2 q2' h5 h6
  ·cases e';exact(kc.ne j _ v q1 q2 h5 rfl).elim
  ·cases e;cases e';exact(kc.ne i _ x hσ hH (hl h6) rfl).elim
  ·cases e;exact(kc.ne j' _ v' q1' q2' h6 rfl).elim
  ·rw[r1,r1']
 ·intro j z v h1 h2
  rcases hcase j _ v h1 h2 with⟨rfl,rfl,rfl⟩|⟨_,_,q1,q2⟩|⟨rfl,rfl,rfl⟩
  ·exact hbr.keep ext (fun _ _ _=>rfl) (fun _ _ _ _=>rfl)
  ·exact(s.blk j z v q1 q2).keep ext (fun _ _ _=>rfl) (fun _ _ _ _=>rfl)
  ·exact hy
 ·intro j d v c' h1 h2 h3
  rcases hcase j _ v h1 h2 with⟨r1,e,r2⟩|⟨n1,l1,q1,q2⟩|⟨rfl,e,rfl⟩
  ·cases e
   subst r1 r2
   obtain⟨h4,h5⟩:=hh c' h3
   have k:=s.hid j _ x c' hσ hH h4
   refine⟨k.lt,k.ro,k.fr,fun j' d' v' g1 g2 g3=>?_,fun j' d' v' g1 g2 g3=>?_⟩
   ·rcases hcase j' _ v' g1 g2 with⟨_,e,rfl⟩|⟨_,_,f1,f2⟩|⟨_,e,rfl⟩
    ·cases e;exact k.ne j _ x hσ hH (hl g3)
    ·exact k.ne j' d' v' f1 f2 g3
    ·cases e;exact h5
   ·rcases hcase j' _ v' g1 g2 with⟨r,e,rfl⟩|⟨_,_,f1,f2⟩|⟨_,e,rfl⟩
    ·cases e;exact⟨rfl,r⟩
    ·exact k.one j' d' v' f1 f2 g3
    ·cases e;exact(hyh _ g3).elim
  ·have k:=s.hid j d v c' q1 q2 h3
   have hne:c'≠c:=fun e=>by subst e;exact n1 (kc.one j d v q1 q2 h3).2
   refine⟨k.lt,k.ro,k.fr,fun j' d' v' g1 g2 g3=>?_,fun j' d' v' g1 g2 g3=>?_⟩
   ·rcases hcase j' _ v' g1 g2 with⟨_,e,rfl⟩|⟨_,_,f1,f2⟩|⟨_,e,rfl⟩
    ·cases e;exact k.ne i _ x hσ hH (hl g3)
    ·exact k.ne j' d' v' f1 f2 g3
    ·cases e;exact hne
   ·rcases hcase j' _ v' g1 g2 with⟨r,e,rfl⟩|⟨_,_,f1,f2⟩|⟨_,e,rfl⟩
    ·cases e;subst r;exact k.one j' _ x hσ hH (hh c' g3).1
    ·exact k.one j' d' v' f1 f2 g3
    ·cases e;exact(hyh _ g3).elim
  ·cases e;exact(hyh _ h3).elim
theorem Sim.hideSet(s:Sim fr ro σ H w){i b j c:Nat}{x x' y:Blk}{obj:Obj}(hσ:σ[i]?=some (some b))(hH:H[i]?=some x)(hl:x.live=true)(hσj:σ[j]?=some (some c))(hHj:H[j]?=some y)(hly:y.live=true)(hij:i≠j)
  (hsh:∀y,w.shape? b=some y->({w with heap:=w.heap.setIfInBounds b obj}:World).shape? b=some y)
  (hbr:Ext ro σ w ro σ {w with heap:=w.heap.setIfInBounds b obj}->({w with heap:=w.heap.setIfInBounds b obj}:World).heap[b]?=some obj->(∀d,d≠b->({w with heap:=w.heap.setIfInBounds b obj}:World).heap[d]?=w.heap[d]?)->BR ro σ {w with heap:=w.heap.setIfInBounds b obj} x' (some b))
  (hhd:∀d,Hid {w with heap:=w.heap.setIfInBounds b obj} x' b d->Hid w x b d\/d=c):
  Sim fr ro σ ((H.set j .dead).set i x') {w with heap:=w.heap.setIfInBounds b obj}/\Qf fr ro w ro {w with heap:=w.heap.setIfInBounds b obj}:=by
 obtain⟨hb,hbro,hbfr⟩:=s.own i b x hσ hH hl
 obtain⟨hc,hcro,hcfr⟩:=s.own j c y hσj hHj hly
 have hbc:b≠c:=fun e=>hij (s.inj i j b x y hσ (by rw[e];exact hσj) hH hHj hl hly)
 have hne:∀c,c≠b->({w with heap:=w.heap.setIfInBounds b obj}:World).heap[c]?=w.heap[c]? :=by
  intro c hc
  show(w.heap.setIfInBounds b obj)[c]?=_
  rw[Array.getElem?_setIfInBounds,if_neg (fun q=>hc q.symm)]
 have heq:({w with heap:=w.heap.setIfInBounds b obj}:World).heap[b]?=some obj:=by
  show(w.heap.setIfInBounds b obj)[b]?=_
  rw[Array.getElem?_setIfInBounds,if_pos rfl,if_pos hb]
 have hsz:({w with heap:=w.heap.setIfInBounds b obj}:World).heap.size=w.heap.size:=by simp
 have ev:Qf fr ro w ro {w with heap:=w.heap.setIfInBounds b obj}:=
  ⟨fun _ h=>h,fun c h=>hne c (fun q=>hbro (q▸h)),fun c h=>hne c (fun q=>hbfr (q▸h)),by rw[hsz];exact Nat.le_refl _,by
   intro c y h
   by_cases q:c=b
   ·subst q;exact hsh y h
   ·unfold World.shape? at h⊢;rw[hne c q];exact h,rfl,rfl,rfl,Nat.le_refl _⟩
 have hi:i<H.length:=(List.getElem?_eq_some_iff.1 hH).1
 have hcase:∀(p:Nat) (v:Blk),((H.set j .dead).set i x')[p]?=some v->(p=i/\v=x')\/v=.dead\/(p≠i/\p≠j/\H[p]?=some v):=by
  intro p v h
  by_cases e:p=i
  ·subst e;rw[List.getElem?_set_self (by rw[List.length_set];exact hi)]at h;cases h;exact .inl ⟨rfl,rfl⟩
  ·rw[List.getElem?_set_ne (fun q=>e q.symm)]at h
   by_cases e':p=j
   ·subst e'
    rw[List.getElem?_set_self (List.getElem?_eq_some_iff.1 hHj).1]at h;cases h;exact .inr (.inl rfl)
   ·rw[List.getElem?_set_ne (fun q=>e' q.symm)]at h;exact .inr (.inr ⟨e,e',h⟩)
 have hbr':=hbr (ev.ext0 σ) heq hne
 have hback:∀(p d:Nat) (v:Blk) (e:Nat),p≠i->σ[p]?=some (some d)->H[p]?=some v->Hid {w with heap:=w.heap.setIfInBounds b obj} v d e->Hid w v d e:=fun p d v e n h1 h2 q=>
  s.hidKeep h1 h2 (fun z=>hne d (fun r=>n (s.inj p i b v x (r▸h1) hσ h2 hH z hl))) ev.keepRo q
 refine⟨⟨by rw[List.length_set,List.length_set];exact s.len,s.roOk.to (fun _ q=>q) ev.keepRo (fun c h=>by rw[hsz];exact s.roLt c h),fun c h=>by rw[hsz];exact s.frLt c h,s.roFr,?_,?_,?_,?_⟩,ev⟩
 ·intro p d v h1 h2 h3
  rw[hsz]
  rcases hcase p v h2 with⟨rfl,rfl⟩|rfl|⟨_,_,q⟩
  ·rw[hσ]at h1;cases h1;exact⟨hb,hbro,hbfr⟩
  ·cases h3
  ·exact s.own p d v h1 q h3
 ·intro p p' d v v' h1 h2 h3 h4 h5 h6
  rcases hcase p v h3 with⟨r,rfl⟩|rfl|⟨n,_,q⟩<;>rcases hcase p' v' h4 with⟨r',rfl⟩|rfl|⟨n',_,q'⟩
  ·rw[r,r']
  ·cases h6
  ·subst r;exact s.inj p p' d x v' h1 h2 hH q' hl h6
  ·cases h5
  ·cases h5
  ·cases h5
  ·subst r';exact s.inj p p' d v x h1 h2 q hH h5 hl
  ·cases h6
  ·exact s.inj p p' d v v' h1 h2 q q' h5 h6
 ·intro p z v h1 h2
  rcases hcase p v h2 with⟨rfl,rfl⟩|rfl|⟨n,_,q⟩
  ·rw[hσ]at h1;cases h1;exact hbr'
  ·trivial
  ·refine(s.blk p z v h1 q).keep (ev.ext0 σ) ?_ ?_
   ·rintro d rfl hz
    exact hne d (fun r=>n (s.inj p i b v x (r▸h1) hσ q hH hz hl))
   ·rintro d e rfl hz
    exact hne e ((s.hid p d v e h1 q hz).ne i b x hσ hH hl)
 ·intro p d v e h1 h2 h3
  rcases hcase p v h2 with⟨r,rfl⟩|rfl|⟨n,nj,q⟩
  ·subst r
   rw[hσ]at h1;cases h1
   rcases hhd e h3 with h4|rfl
   ·have k:=s.hid p b x e hσ hH h4
    refine⟨by rw[hsz];exact k.lt,k.ro,k.fr,fun p' d' v' g1 g2 g3=>?_,fun p' d' v' g1 g2 g3=>?_⟩
    ·rcases hcase p' v' g2 with⟨rfl,rfl⟩|rfl|⟨_,_,q'⟩
     ·exact k.ne p' d' x g1 hH hl
     ·cases g3
     ·exact k.ne p' d' v' g1 q' g3
    ·rcases hcase p' v' g2 with⟨r',rfl⟩|rfl|⟨n',_,q'⟩
     ·subst r';rw[hσ]at g1;cases g1;exact⟨rfl,rfl⟩
     ·exact g3.elim
     ·exact k.one p' d' v' g1 q' (hback p' d' v' e n' g1 q' g3)
   ·refine⟨by rw[hsz];exact hc,hcro,hcfr,fun p' d' v' g1 g2 g3=>?_,fun p' d' v' g1 g2 g3=>?_⟩
    ·rcases hcase p' v' g2 with⟨rfl,rfl⟩|rfl|⟨_,nj',q'⟩
     ·rw[hσ]at g1;cases g1;exact fun z=>hbc z.symm
     ·cases g3
     ·exact fun z=>nj' (s.inj p' j e v' y (z▸g1) hσj q' hHj g3 hly)
    ·rcases hcase p' v' g2 with⟨r',rfl⟩|rfl|⟨n',_,q'⟩
     ·subst r';rw[hσ]at g1;cases g1;exact⟨rfl,rfl⟩
     ·exact g3.elim
     ·exact((s.hid p' d' v' e g1 q' (hback p' d' v' e n' g1 q' g3)).ne j e y hσj hHj hly rfl).elim
  ·exact h3.elim
  ·have k:=s.hid p d v e h1 q (hback p d v e n h1 q h3)
   refine⟨by rw[hsz];exact k.lt,k.ro,k.fr,fun p' d' v' g1 g2 g3=>?_,fun p' d' v' g1 g2 g3=>?_⟩
   ·rcases hcase p' v' g2 with⟨rfl,rfl⟩|rfl|⟨_,_,q'⟩
    ·exact k.ne p' d' x g1 hH hl
    ·cases g3
    ·exact k.ne p' d' v' g1 q' g3
   ·rcases hcase p' v' g2 with⟨r',rfl⟩|rfl|⟨n',_,q'⟩
    ·subst r'
     rw[hσ]at g1;cases g1
     rcases hhd e g3 with h4|rfl
     ·exact k.one p' b x hσ hH h4
     ·exact(k.ne j e y hσj hHj hly rfl).elim
    ·exact g3.elim
    ·exact k.one p' d' v' g1 q' (hback p' d' v' e n' g1 q' g3)
end
end Go.Sw
namespace Go.Sw
open Go.MapKept
def QI{α β:Type}(ek:α->A)(ev:β->List A)(l:List (α×Option (List β))):List (A×Option (List (List A))):=l.map fun p=>(ek p.1,p.2.map (List.map ev))
def Qip{α β:Type}[DecidableEq α](l:List (α×Option (List β)))(x:α):Option (List β):=match QbK l x with
 |none=>some []
 |some q=>q
def Qb0{α β:Type}[DecidableEq α](l:List (α×Option (List β)))(x:α):List (α×Option (List β)):=l.map fun p=>bif decide (p.1=x)then(p.1,none)else p
section
variable {P:Program}{kt:TypeId}{α β:Type} [DecidableEq α] {ek:α->A}{ev:β->List A}{ro:Nat->Prop}{w:World}{t k:Nat} (K:YI P kt ek)
include K
theorem MO.keys:∀{l:List (α×Option (List β))}{es:List MapEntry},MO ro w t k (QI ek ev l) es->es.map (·.key)=l.map fun p=>Qp (ek p.1)
 |[],es,h=>by cases(show es=[]from h);rfl
 |p::l,es,h=>by
  obtain⟨e,l',rfl,h1,h2,h3⟩:=h
  simp only[List.map_cons]
  rw[VR.val (K.scl _) h1,MO.keys (l:=l) h3]
theorem QfH{l:List (α×Option (List β))}{es:List MapEntry}(h:MO ro w t k (QI ek ev l) es):∀e∈es,∃y,e.key=Qp (ek y):=by
 intro e he
 have:e.key∈es.map (·.key):=List.mem_map_of_mem he
 rw[MO.keys K h]at this
 obtain⟨p,_,hp⟩:=List.mem_map.1 this
 exact⟨p.1,hp.symm⟩
theorem QeW{x:α}:∀{l:List (α×Option (List β))}{es:List MapEntry},MO ro w t k (QI ek ev l) es->MO ro w t k (QI ek ev (Qb0 l x)) es
 |[],es,h=>h
 |p::l,es,h=>by
  obtain⟨e,l',rfl,h1,h2,h3⟩:=h
  by_cases q:p.1=x
  ·refine⟨e,l',rfl,by simpa[q]using h1,fun rows hr=>?_,QeW (l:=l) h3⟩
   simp[q]at hr
  ·refine⟨e,l',rfl,by simpa[q]using h1,fun rows hr=>h2 rows (by simpa[q]using hr),QeW (l:=l) h3⟩
omit K
theorem Qbx{x:α}{c:Nat}:∀{l:List (α×Option (List β))}{es:List MapEntry},YO (QI ek ev (Qb0 l x)) es c->YO (QI ek ev l) es c
 |[],es,h=>by cases es<;>exact h.elim
 |p::l,[],h=>h.elim
 |p::l,e::es,h=>by
  rcases h with⟨h1,h2⟩|h
  ·by_cases q:p.1=x
   ·simp[q]at h1
   ·exact .inl ⟨by simpa[q]using h1,h2⟩
  ·exact .inr (Qbx (l:=l) h)
theorem Qen{x:α}:∀{l:List (α×Option (List β))}{es:List MapEntry},QbT (QI ek ev l) es->QbT (QI ek ev (Qb0 l x)) es
 |[],es,h=>by cases es<;>trivial
 |p::l,[],h=>trivial
 |p::l,e::es,h=>by
  obtain⟨h1,h2⟩:=h
  refine⟨fun c q1 q2 q3=>?_,Qen (l:=l) h2⟩
  by_cases q:p.1=x
  ·simp[q]at q1
  ·exact h1 c (by simpa[q]using q1) q2 (Qbx (l:=l) q3)
include K
theorem MO.find:∀{l:List (α×Option (List β))}{es:List MapEntry},MO ro w t k (QI ek ev l) es->∀(x:α),(es.map (·.key)).Nodup->
  ((∀e:MapEntry,e∈es->e.key≠Qp (ek x))->QbK l x=none)/\
  (∀(j:Nat) (e:MapEntry),es[j]?=some e->e.key=Qp (ek x)->∃q,QbK l x=some q/\(∀rows,q=some rows->SO ro w t k (rows.map ev) e.val)/\
   ∀c p n cap,q.isSome=true->e.val=.slice (some ⟨c,p,none⟩) n cap->YO (QI ek ev l) es c/\(QbT (QI ek ev l) es->¬YO (QI ek ev (Qb0 l x)) es c))
 |[],es,h,x,_=>by
  cases(show es=[]from h)
  exact⟨fun _=>rfl,fun j e he=>by simp at he⟩
 |p::l,es,h,x,hn=>by
  obtain⟨e0,l',rfl,h1,h2,h3⟩:=h
  have hk:e0.key=Qp (ek p.1):=VR.val (K.scl _) h1
  simp only[List.map_cons,List.nodup_cons]at hn
  obtain⟨a1,a2⟩:=MO.find (l:=l) h3 x hn.2
  by_cases hp:p.1=x
  ·subst hp
   constructor
   ·intro q;exact absurd hk (q e0 (by simp))
   ·intro j e he hx
    cases j with
    |zero=>
     simp only[List.getElem?_cons_zero,Option.some.injEq]at he
     subst he
     refine⟨p.2,by simp[QbK],fun rows hr=>h2 (rows.map ev) (by simp[hr]),fun c p' n cap hs hv=>⟨.inl ⟨by simpa using hs,p',n,cap,hv⟩,fun hd hq=>?_⟩⟩
     rcases hq with⟨q1,_⟩|hq
     ·simp at q1
     ·exact hd.1 c (by simpa using hs) ⟨p',n,cap,hv⟩ (Qbx (l:=l) hq)
    |succ j=>
     simp only[List.getElem?_cons_succ]at he
     exact absurd (hk.trans hx.symm▸List.mem_map_of_mem (f:=fun e:MapEntry=>e.key) (List.mem_of_getElem? he)) hn.1
  ·have e1:QbK (p::l) x=QbK l x:=by simp[QbK,hp]
   rw[e1]
   constructor
   ·intro q;exact a1 fun e he=>q e (by simp[he])
   ·intro j e he hx
    cases j with
    |zero=>
     simp only[List.getElem?_cons_zero,Option.some.injEq]at he
     subst he
     exact absurd (K.inj _ _ (hk.symm.trans hx)) hp
    |succ j=>
     obtain⟨q,g1,g2,g3⟩:=a2 j e (by simpa using he) hx
     refine⟨q,g1,g2,fun c p' n cap hs hv=>?_⟩
     obtain⟨f1,f2⟩:=g3 c p' n cap hs hv
     refine⟨.inr f1,fun hd hq=>?_⟩
     rcases hq with⟨q1,q2⟩|hq
     ·exact hd.1 c (by simpa[hp]using q1) q2 f1
     ·exact f2 hd.2 hq
end
section
variable {P:Program}{o:Oper}{env:Env}{H:Qc}
variable {T kt et:Nat}{α β:Type} [DecidableEq α] {ek:α->A}{ev:β->List A}{x y:Operand}{i t k:Nat}{l:List (α×Option (List β))}{key:α}{rows:List β}
theorem Qgf(t k:Nat)(ho:o.op=.makeMap T none:=by exact rfl):OpH P o env H (.map H.length) (H++[.mapO false t k []]):=by
 intro fr ro σ N a w r
 refine⟨.map (some w.heap.size),w.alloc (.map #[] 0),ro,[some w.heap.size],?_,⟨w.heap.size,?_,rfl⟩,r.sim.alloc ⟨(fun h=>by cases h), #[],0,Yi _ _,rfl,trivial,by simp,by simp,by simp,rfl,fun i e h=>by simp at h⟩ (fun c h=>?_),Qf.alloc _ r.sim.roLt r.sim.frLt⟩
 ·generalize a.eval=ρ at*
  simp only[execOp,ho,Instr.makeMap,Option.map_none,Sem.run_bind]
  rfl
 ·rw[<- r.sim.len];simp
 ·obtain⟨l,cl,h1,h2⟩:=h
  cases hl:l.toList with
  |nil=>rw[hl]at h2;exact h2
  |cons e r=>rw[hl]at h2;exact h2
theorem QhG{fz:Bool}(K:YI P kt ek)(hm:Qip l key=some rows)(hT:P.underlying T=some (.map kt et))(hz:∀w,(zeroValue et).run P w=.ok (.slice none 0 0) w)
  (ho:o.op=.lookup T x y false:=by exact rfl)(hx:opA env x=.map i:=by exact rfl)(hH:H[i]?=some (.mapO fz t k (QI ek ev l)):=by exact rfl)(hy:opA env y=ek key:=by exact rfl):
  OpH P o env H (.osl H.length 0 rows.length k) (H.set i (.mapO fz t k (QI ek ev (Qb0 l key)))++[.row t k (rows.map ev)]):=by
 intro fr ro σ N a w r
 have h1:=Qg r x
 rw[hx]at h1
 obtain⟨b,q1,q2⟩:=h1
 have h2:=Qg r y
 rw[hy]at h2
 have h3:=VR.val (K.scl _) h2
 have hB:=r.sim.blk i _ _ q1 hH
 obtain⟨p0,es,clock,p1,p2,pd,p3,p4,p5⟩:=hB
 obtain⟨f1,f2⟩:=MO.find K p2 key p5.1
 have hbr:BR ro σ w (.mapO fz t k (QI ek ev (Qb0 l key))) (some b):=⟨p0,es,clock,p1,QeW K p2,Qen pd,p3,p4,p5⟩
 have hhd:∀d,Hid w (.mapO fz t k (QI ek ev (Qb0 l key))) b d->Hid w (.mapO fz t k (QI ek ev l)) b d:=by
  rintro d ⟨l',cl,g1,g2⟩
  exact⟨l',cl,g1,Qbx g2⟩
 have hlen:=r.sim.len
 have none_case:rows=[]->(execOp a.eval o).run P w=.ok (.value (.slice none 0 0)) w->∃v w' ro' τ,(execOp a.eval o).run P w=.ok (.value v) w'/\VR ro' (σ++τ) w' (.osl H.length 0 rows.length k) v/\
   Sim fr ro' (σ++τ) (H.set i (.mapO fz t k (QI ek ev (Qb0 l key)))++[.row t k (rows.map ev)]) w'/\Qf fr ro w ro' w':=by
  rintro rfl he
  refine⟨_,w,ro,[none],he,.inl ⟨rfl,rfl⟩,?_,Qf.refl _ _ _⟩
  exact(r.sim.lendO q1 hH hbr hhd).phantom t k
 rcases K.find w key es.toList (QfH K p2)with⟨h4,h5⟩|⟨j,e,h4,h5,h6⟩
 ·have g1:=f1 h5
  have hr:rows=[]:=by simp[Qip,g1]at hm;exact hm
  refine none_case hr ?_
  simp only[execOp,ho,q2,h3,Sem.run_bind,Instr.lookup,run_underlying hT,Result.andThen,MapKept.run_getObj_map p1,Sem.run_pure,K.check,h4,hz]
  rfl
 ·obtain⟨q,g1,g2,g3⟩:=f2 j e h5 h6
  have hq:q=some rows:=by simpa[Qip,g1]using hm
  subst hq
  have he:(execOp a.eval o).run P w=.ok (.value e.val) w:=by
   simp only[execOp,ho,q2,h3,Sem.run_bind,Instr.lookup,run_underlying hT,Result.andThen,MapKept.run_getObj_map p1,Sem.run_pure,K.check,h4]
   rfl
  rcases g2 rows rfl with⟨z1,z2⟩|⟨c,p,cap,vs,z1,z2,z3,z4,z5,z6⟩
  ·exact none_case (by simpa using z1) (by rw[he,z2])
  ·rw[z1]at he
   obtain⟨f3,f4⟩:=g3 c p _ cap rfl z1
   refine⟨_,w,ro,[some c],he,.inr ⟨c,p,cap,t,vs.length,?_,by simp,fun q=>by simpa using z6 q,by simpa using z2,?_,by simpa using z4⟩,?_,Qf.refl _ _ _⟩
   ·rw[<- hlen];simp
   ·unfold World.shape?;rw[z3];simp
   ·refine r.sim.unhide q1 hH ⟨es,clock,p1,f3⟩ id hbr (fun d hd=>⟨hhd d hd,?_⟩) ⟨vs,z3,z5⟩ (fun _ h=>h.elim)
    rintro rfl
    obtain⟨l',cl,g4,g5⟩:=hd
    rw[p1]at g4;cases g4
    exact f4 pd g5
end
end Go.Sw
namespace Go.Sw
open Go.MapKept
theorem MO.append{ro:Nat->Prop}{w:World}{t k:Nat}:∀{l m:List (A×Option (List (List A)))}{es fs:List MapEntry},MO ro w t k l es->MO ro w t k m fs->MO ro w t k (l++m) (es++fs)
 |[],m,es,fs,h,q=>by cases(show es=[]from h);exact q
 |p::l,m,es,fs,h,q=>by
  obtain⟨e,l',rfl,h1,h2,h3⟩:=h
  exact⟨e,l'++fs,rfl,h1,h2,MO.append h3 q⟩
theorem MO.length{ro:Nat->Prop}{w:World}{t k:Nat}:∀{l:List (A×Option (List (List A)))}{es:List MapEntry},MO ro w t k l es->es.length=l.length
 |[],es,h=>by cases(show es=[]from h);rfl
 |p::l,es,h=>by
  obtain⟨e,l',rfl,h1,h2,h3⟩:=h
  simp[MO.length h3]
def SlB(v:Value)(c:Nat):Prop:=∃p n cap,v=.slice (some ⟨c,p,none⟩) n cap
theorem YO.push{c:Nat}{x:A}{r:Option (List (List A))}{e:MapEntry}:∀{l:List (A×Option (List (List A)))}{es:List MapEntry},es.length=l.length->YO (l++[(x,r)]) (es++[e]) c->YO l es c\/SlB e.val c
 |[],[],_,h=>by
  rcases h with⟨_,h⟩|h
  ·exact .inr h
  ·exact h.elim
 |[],_::_,q,_=>by simp at q
 |_::_,[],q,_=>by simp at q
 |p::l,e0::es,q,h=>by
  rcases h with h|h
  ·exact .inl (.inl h)
  ·exact(YO.push (l:=l) (es:=es) (by simpa using q) h).imp .inr id
theorem QbT.push{x:A}{r:Option (List (List A))}{e:MapEntry}:∀{l:List (A×Option (List (List A)))}{es:List MapEntry},es.length=l.length->QbT l es->(∀c,YO l es c->¬SlB e.val c)->QbT (l++[(x,r)]) (es++[e])
 |[],[],_,_,_=>⟨fun _ _ _ h=>h.elim,trivial⟩
 |[],_::_,q,_,_=>by simp at q
 |_::_,[],q,_,_=>by simp at q
 |p::l,e0::es,q,⟨h1,h2⟩,hn=>by
  refine⟨fun c q1 q2 q3=>?_,QbT.push (l:=l) (es:=es) (by simpa using q) h2 fun c hc=>hn c (.inr hc)⟩
  rcases YO.push (l:=l) (es:=es) (by simpa using q) q3 with q4|q4
  ·exact h1 c q1 q2 q4
  ·exact hn c (.inl ⟨q1,q2⟩) q4
section
variable {P:Program}{kt:TypeId}{α β:Type} [DecidableEq α] {ek:α->A}{ev:β->List A}{ro:Nat->Prop}{w:World}{t k:Nat} (K:YI P kt ek)
def Qbd{α β:Type}[DecidableEq α](l:List (α×Option (List β)))(x:α)(rows:List β):List (α×Option (List β)):=l.map fun p=>bif decide (p.1=x)then(p.1,some rows)else p
include K
theorem Qd5{x:α}{rows:List β}:∀{l:List (α×Option (List β))}{es:List MapEntry},MO ro w t k (QI ek ev l) es->(∀e∈es,e.key≠Qp (ek x))->Qbd l x rows=l
 |[],es,h,q=>rfl
 |p::l,es,h,q=>by
  obtain⟨e,l',rfl,h1,h2,h3⟩:=h
  have hk:e.key=Qp (ek p.1):=VR.val (K.scl _) h1
  have hp:p.1≠x:=fun z=>q e (by simp) (by rw[hk,z])
  have:=Qd5 (l:=l) h3 (fun e he=>q e (by simp[he])) (rows:=rows)
  simp only[Qbd,List.map_cons,decide_false,hp,cond_false]
  rw[show(l.map fun p=>bif decide (p.1=x)then(p.1,some rows)else p)=l from this]
theorem MO.put{x:α}{rows:List β}{v:Value}(hv:SO ro w t k (rows.map ev) v):∀{l:List (α×Option (List β))}{es:List MapEntry}{j:Nat}{e:MapEntry},MO ro w t k (QI ek ev l) es->
  (es.map (·.key)).Nodup->es[j]?=some e->e.key=Qp (ek x)->
  MO ro w t k (QI ek ev (Qbd l x rows)) (es.modify j fun e=>{e with key:=Qp (ek x),val:=v})/\
  (∀c,YO (QI ek ev (Qbd l x rows)) (es.modify j fun e=>{e with key:=Qp (ek x),val:=v}) c->YO (QI ek ev l) es c\/SlB v c)/\
  (QbT (QI ek ev l) es->(∀c,YO (QI ek ev l) es c->¬SlB v c)->QbT (QI ek ev (Qbd l x rows)) (es.modify j fun e=>{e with key:=Qp (ek x),val:=v}))
 |[],es,j,e,h,hn,he,hk=>by cases(show es=[]from h);simp at he
 |p::l,es,j,e,h,hn,he,hk=>by
  obtain⟨e0,l',rfl,h1,h2,h3⟩:=h
  have hk0:e0.key=Qp (ek p.1):=VR.val (K.scl _) h1
  simp only[List.map_cons,List.nodup_cons]at hn
  cases j with
  |zero=>
   simp only[List.getElem?_cons_zero,Option.some.injEq]at he
   subst he
   have hp:p.1=x:=K.inj _ _ (hk0.symm.trans hk)
   simp only[List.modify_zero_cons]
   have e0':Qbd l x rows=l:=Qd5 K h3 fun e he z=>hn.1 (by rw[hk, <- z];exact List.mem_map_of_mem he)
   have e1:Qbd (p::l) x rows=(p.1,some rows)::l:=by
    have:Qbd (p::l) x rows=(p.1,some rows)::Qbd l x rows:=by simp[Qbd,hp]
    rw[this,e0']
   rw[e1]
   refine⟨⟨_,l',rfl,?_,?_,h3⟩,?_,?_⟩
   ·show VR ro [] w (ek p.1) (Qp (ek x))
    rw[<- hp];exact Qbn (K.scl _)
   ·intro rows' hr
    cases hr;exact hv
   ·rintro c (⟨_,q⟩|q)
    ·exact .inr q
    ·exact .inl (.inr q)
   ·rintro⟨d1,d2⟩ hc
    exact⟨fun c _ q z=>hc c (.inr z) q,d2⟩
  |succ j=>
   simp only[List.getElem?_cons_succ]at he
   have hp:p.1≠x:=by
    intro q
    refine hn.1 (List.mem_map.2 ⟨e,List.mem_of_getElem? he,?_⟩)
    rw[hk,hk0,q]
   simp only[List.modify_succ_cons]
   obtain⟨m1,m2,m3⟩:=MO.put hv h3 hn.2 he hk
   have e1:Qbd (p::l) x rows=p::Qbd l x rows:=by simp[Qbd,hp]
   rw[e1]
   refine⟨⟨_,_,rfl,h1,h2,m1⟩,?_,?_⟩
   ·rintro c (q|q)
    ·exact .inl (.inl q)
    ·exact(m2 c q).imp .inr id
   ·rintro⟨d1,d2⟩ hc
    refine⟨fun c q1 q2 z=>?_,m3 d2 fun c hz=>hc c (.inr hz)⟩
    rcases m2 c z with z|z
    ·exact d1 c q1 q2 z
    ·exact hc c (.inl ⟨q1,q2⟩) z
end
section
variable {P:Program}{o:Oper}{env:Env}{H:Qc}
variable {T kt et:Nat}{α β:Type} [DecidableEq α] {ek:α->A}{ev:β->List A}{x y zz:Operand}{i j t k n:Nat}{l m:List (α×Option (List β))}{key:α}{rows:List β}
theorem Qjz(K:YI P kt ek){ro:Nat->Prop}{w:World}{clock:Nat}{es:Array MapEntry}{v:Value}(p2:MO ro w t k (QI ek ev l) es.toList)(pd:QbT (QI ek ev l) es.toList)
  (p3:∀e∈es.toList,e.born<clock)(p4:(es.toList.map (·.born)).Nodup)(p5:(es.toList.map (·.key)).Nodup/\QdP es clock)(hv:SO ro w t k (rows.map ev) v)(hn:∀c,YO (QI ek ev l) es.toList c->¬SlB v c)
  {jx:Nat}{e:MapEntry}(g2:es.toList[jx]?=some e)(g3:e.key=Qp (ek key)):
  MO ro w t k (QI ek ev (Qbd l key rows)) (es.modify jx fun e=>{e with key:=Qp (ek key),val:=v}).toList/\QbT (QI ek ev (Qbd l key rows)) (es.modify jx fun e=>{e with key:=Qp (ek key),val:=v}).toList/\
   (∀c,YO (QI ek ev (Qbd l key rows)) (es.modify jx fun e=>{e with key:=Qp (ek key),val:=v}).toList c->YO (QI ek ev l) es.toList c\/SlB v c)/\(∀e'∈(es.modify jx fun e=>{e with key:=Qp (ek key),val:=v}).toList,e'.born<clock)/\
   ((es.modify jx fun e=>{e with key:=Qp (ek key),val:=v}).toList.map (·.born)).Nodup/\((es.modify jx fun e=>{e with key:=Qp (ek key),val:=v}).toList.map (·.key)).Nodup/\QdP (es.modify jx fun e=>{e with key:=Qp (ek key),val:=v}) clock:=by
 have hmod:(es.modify jx fun e=>{e with key:=Qp (ek key),val:=v}).toList=es.toList.modify jx fun e=>{e with key:=Qp (ek key),val:=v}:=by simp
 have hmap:∀{γ:Type} (f:MapEntry->γ),(∀e',es.toList[jx]?=some e'->f {e' with key:=Qp (ek key),val:=v}=f e')->(es.toList.modify jx fun e=>{e with key:=Qp (ek key),val:=v}).map f=es.toList.map f:=by
  intro γ f hf
  apply List.ext_getElem?
  intro n
  rw[List.getElem?_map,List.getElem?_map,List.getElem?_modify]
  by_cases hn:jx=n
  ·subst hn
   cases q:es.toList[jx]? with
   |none=>rfl
   |some e'=>simp[hf e' q]
  ·simp[hn]
 obtain⟨m1,m2,m3⟩:=MO.put K hv p2 p5.1 g2 g3
 refine⟨?_,?_,?_,?_,?_,?_,p5.2.modify fun _=>rfl⟩
 ·rw[hmod];exact m1
 ·rw[hmod];exact m3 pd hn
 ·rw[hmod];exact m2
 ·rw[hmod]
  intro e' he'
  have:e'.born∈(es.toList.modify jx fun e=>{e with key:=Qp (ek key),val:=v}).map (·.born):=List.mem_map_of_mem he'
  rw[hmap (·.born) (fun _ _=>rfl)]at this
  obtain⟨e2,h,h'⟩:=List.mem_map.1 this
  rw[<- h'];exact p3 e2 h
 ·rw[hmod,hmap (·.born) (fun _ _=>rfl)];exact p4
 ·rw[hmod,hmap (·.key) (fun e' he'=>by rw[g2]at he';cases he';exact g3.symm)];exact p5.1
theorem Qh2(K:YI P kt ek)(hT:P.underlying T=some (.map kt et)){ro:Nat->Prop}{w:World}{b clock:Nat}{es:Array MapEntry}{v:Value}{a:Act}(ho:o.op=.mapUpdate T x y zz)
  (q2:a.eval x=.map (some b))(h3:a.eval y=Qp (ek key))(h4:a.eval zz=v)(p1:w.heap[b]?=some (.map es clock))(p2:MO ro w t k (QI ek ev l) es.toList)(pd:QbT (QI ek ev l) es.toList)
  (p3:∀e∈es.toList,e.born<clock)(p4:(es.toList.map (·.born)).Nodup)(p5:(es.toList.map (·.key)).Nodup/\QdP es clock)(hv:SO ro w t k (rows.map ev) v)(hn:∀c,YO (QI ek ev l) es.toList c->¬SlB v c):
  ∃es' clock',(execOp a.eval o).run P w=.ok .skip {w with heap:=w.heap.setIfInBounds b (.map es' clock')}/\MO ro w t k (QI ek ev (Qab l key (some rows))) es'.toList/\QbT (QI ek ev (Qab l key (some rows))) es'.toList/\
   (∀c,YO (QI ek ev (Qab l key (some rows))) es'.toList c->YO (QI ek ev l) es.toList c\/SlB v c)/\(∀e∈es'.toList,e.born<clock')/\(es'.toList.map (·.born)).Nodup/\(es'.toList.map (·.key)).Nodup/\QdP es' clock':=by
 have hk:∀q:α×Option (List β),q∈l->∃e∈es.toList,e.key=Qp (ek q.1):=by
  intro q hq
  have:Qp (ek q.1)∈l.map fun p=>Qp (ek p.1):=List.mem_map.2 ⟨q,hq,rfl⟩
  rw[<- MO.keys K p2]at this
  obtain⟨e,he,h⟩:=List.mem_map.1 this
  exact⟨e,he,h⟩
 rcases K.find w key es.toList (QfH K p2)with⟨g1,g2⟩|⟨jx,e,g1,g2,g3⟩
 ·have hl:Qab l key (some rows)=l++[(key,some rows)]:=by
   unfold Qab
   have:(l.any fun p=>decide (p.1=key))=false:=by
    rw[List.any_eq_false]
    intro q hq z
    obtain⟨e,he,h⟩:=hk q hq
    exact g2 e he (by rw[h,of_decide_eq_true z])
   rw[this];rfl
  have ho2:QI ek ev (l++[(key,some rows)])=QI ek ev l++[(ek key,some (rows.map ev))]:=by simp[QI]
  have hlen:=MO.length p2
  refine⟨es.push {key:=Qp (ek key),val:=v,born:=clock},clock+1,?_,?_,?_,?_,?_,?_,?_,p5.2.push rfl⟩
  ·simp only[execOp,ho,q2,h3,h4,Sem.run_bind,Instr.mapUpdate,run_underlying hT,Result.andThen,MapKept.run_getObj_map p1,K.check,g1,MapKept.run_setObj_map _ p1]
   rfl
  ·rw[hl,ho2,Array.toList_push]
   exact p2.append ⟨_,_,rfl,Qbn (K.scl _),fun rows' hr=>by cases hr;exact hv,rfl⟩
  ·rw[hl,ho2,Array.toList_push]
   exact QbT.push hlen pd hn
  ·rw[hl,ho2,Array.toList_push]
   intro c hc
   exact YO.push hlen hc
  ·rw[Array.toList_push]
   intro e he
   rcases List.mem_append.1 he with q|q
   ·exact Nat.lt_succ_of_lt (p3 e q)
   ·simp at q;subst q;exact Nat.lt_succ_self _
  ·rw[Array.toList_push,List.map_append]
   refine List.nodup_append.2 ⟨p4,by simp,?_⟩
   intro c hc d hd
   simp at hd
   subst hd
   obtain⟨e,he,rfl⟩:=List.mem_map.1 hc
   exact Nat.ne_of_lt (p3 e he)
  ·rw[Array.toList_push,List.map_append]
   refine List.nodup_append.2 ⟨p5.1,by simp,?_⟩
   intro c hc d hd
   simp at hd
   subst hd
   obtain⟨e,he,rfl⟩:=List.mem_map.1 hc
   exact g2 e he
 ·have hl:Qab l key (some rows)=Qbd l key rows:=by
   unfold Qab Qbd
   obtain⟨f1,f2⟩:=MO.find K p2 key p5.1
   obtain⟨q,u1,_⟩:=f2 jx e g2 g3
   have:(l.any fun p=>decide (p.1=key))=true:=by
    unfold QbK at u1
    cases hf:l.find? fun p=>decide (p.1=key)with
    |none=>rw[hf]at u1;cases u1
    |some z=>exact List.any_eq_true.2 ⟨z,List.mem_of_find?_eq_some hf,by have:=List.find?_some hf;simpa using this⟩
   rw[this];rfl
  have hj:es[jx]?=some e:=by rw[<- g2];simp
  have hstay:=K.stays w key
  obtain⟨r1,r2,r3,r4,r5,r6⟩:=Qjz K p2 pd p3 p4 p5 hv hn g2 g3
  refine⟨es.modify jx fun e=>{e with key:=Qp (ek key),val:=v},clock,?_,?_,?_,?_,r4,r5,r6⟩
  ·simp only[execOp,ho,q2,h3,h4,Sem.run_bind,Instr.mapUpdate,run_underlying hT,Result.andThen,MapKept.run_getObj_map p1,K.check,g1,hj,Option.map_some,Option.getD_some,g3,hstay,MapKept.run_setObj_map _ p1]
   rfl
  ·rw[hl];exact r1
  ·rw[hl];exact r2
  ·rw[hl];exact r3
def PutsO(P:Program)(o:Oper)(env:Env)(x zz:Operand)(t k:Nat)(L M:List (A×Option (List (List A))))(R:List (List A)):Prop:=
 ∀(ro:Nat->Prop) (σ:Sig) (a:Act) (w:World) (b clock:Nat) (es:Array MapEntry) (v:Value),(∀s,VR ro σ w (opA env s) (a.eval s))->a.eval x=.map (some b)->a.eval zz=v->w.heap[b]?=some (.map es clock)->MO ro w t k L es.toList->QbT L es.toList->
  (∀e∈es.toList,e.born<clock)->(es.toList.map (·.born)).Nodup->(es.toList.map (·.key)).Nodup/\QdP es clock->SO ro w t k R v->(∀c,YO L es.toList c->¬SlB v c)->
  ∃es' clock',(execOp a.eval o).run P w=.ok .skip {w with heap:=w.heap.setIfInBounds b (.map es' clock')}/\MO ro w t k M es'.toList/\QbT M es'.toList/\
   (∀c,YO M es'.toList c->YO L es.toList c\/SlB v c)/\(∀e∈es'.toList,e.born<clock')/\(es'.toList.map (·.born)).Nodup/\(es'.toList.map (·.key)).Nodup/\QdP es' clock'
theorem Qje(hr:PutsO P o env x zz t k (QI ek ev l) (QI ek ev m) (rows.map ev))
  (hx:opA env x=.map i:=by exact rfl)(hH:H[i]?=some (.mapO false t k (QI ek ev l)):=by exact rfl)(hv:opA env zz=.osl j 0 n k:=by exact rfl)
  (hHj:H[j]?=some (.row t k (rows.map ev)):=by exact rfl)(hn:rows.length=n:=by exact rfl)(hij:Nat.beq i j=false:=by exact rfl):
  OpU P o env H ((H.set j .dead).set i (.mapO false t k (QI ek ev m))):=by
 subst hn
 intro fr ro σ N a w r
 have hij':i≠j:=fun e=>by subst e;rw[Nat.beq_refl]at hij;cases hij
 have h1:=Qg r x
 rw[hx]at h1
 obtain⟨b,q1,q2⟩:=h1
 have h4:=Qg r zz
 rw[hv]at h4
 obtain⟨_,es,clock,p1,p2,pd,p3,p4,p5⟩:=r.sim.blk i _ _ q1 hH
 have hsh:∀(obj:Obj) y,w.shape? b=some y->({w with heap:=w.heap.setIfInBounds b obj}:World).shape? b=some y:=by
  intro obj y hy
  unfold World.shape? at hy
  rw[p1]at hy
  simp at hy
 have hold:∀c,YO (QI ek ev l) es.toList c->Hid w (.mapO false t k (QI ek ev l)) b c:=fun c hc=>⟨es,clock,p1,hc⟩
 rcases h4 with⟨z0,z1⟩|⟨c,p,cap,t',mm,z1,z2,z3,z4,z5,z6⟩
 ·have hr0:rows=[]:=List.length_eq_zero_iff.1 z0
  obtain⟨es',ck',f1,f2,f3,f4,f5,f6,f7⟩:=hr ro σ a w b clock es _ (fun s=>Qg r s) q2 z1 p1 p2 pd p3 p4 p5 (.inl ⟨by simp[hr0],rfl⟩) (fun c _ q=>by obtain⟨_,_,_,q⟩:=q;cases q)
  have hH1:(H.set j .dead)[i]?=some (.mapO false t k (QI ek ev l)):=by rw[List.getElem?_set_ne (fun e=>hij' e.symm)];exact hH
  have kk:∀c,YO (QI ek ev m) es'.toList c->YO (QI ek ev l) es.toList c:=fun c hc=>(f4 c hc).elim id fun q=>by obtain⟨_,_,_,q⟩:=q;cases q
  have s1:=r.sim.kill j
  obtain⟨s2,e2⟩:=s1.set (x':=.mapO false t k (QI ek ev m)) (obj:=.map es' ck') q1 hH1 rfl (hsh _) (fun ext hh=>⟨(fun z=>by cases z),es',ck',hh,f2.mono ext (fun c hc=>by
    show(w.heap.setIfInBounds b _)[c]?=_
    rw[Array.getElem?_setIfInBounds,if_neg]
    exact fun e=>(r.sim.hid i b _ c q1 hH (hold c (kk c hc))).ne i b _ q1 hH rfl e.symm),f3,f5,f6,f7⟩) (fun c hc=>by
    obtain⟨l',cl,g1,g2⟩:=hc
    have:({w with heap:=w.heap.setIfInBounds b (.map es' ck')}:World).heap[b]?=some (.map es' ck'):=by
     show(w.heap.setIfInBounds b _)[b]?=_
     rw[Array.getElem?_setIfInBounds,if_pos rfl,if_pos (r.sim.own i b _ q1 hH rfl).1]
    rw[this]at g1;cases g1
    exact hold c (kk c g2))
  exact⟨_,ro,[],f1,by simpa using s2,e2⟩
 ·obtain⟨vs,y1,y2⟩:=r.sim.blk j _ _ z1 hHj
  have hcap:cap*k<=vs.length:=by
   unfold World.shape? at z5
   rw[y1]at z5
   simp at z5
   have:=z5.2
   simp at z6
   omega
  have hnc:∀c',YO (QI ek ev l) es.toList c'->¬SlB (a.eval zz) c':=by
   intro c' hc hq
   obtain⟨_,_,_,hq⟩:=hq
   rw[z2]at hq
   cases hq
   exact(r.sim.hid i b _ _ q1 hH (hold _ hc)).ne j _ _ z1 hHj rfl rfl
  obtain⟨es',ck',f1,f2,f3,f4,f5,f6,f7⟩:=hr ro σ a w b clock es _ (fun s=>Qg r s) q2 rfl p1 p2 pd p3 p4 p5 (.inr ⟨c,p,cap,vs,by rw[z2];simp,by simpa using z4,y1,hcap,y2,fun q=>by simpa using z3 q⟩) hnc
  have kk:∀d,YO (QI ek ev m) es'.toList d->YO (QI ek ev l) es.toList d\/d=c:=fun d hd=>(f4 d hd).imp id fun q=>by
   obtain⟨_,_,_,q⟩:=q;rw[z2]at q;cases q;rfl
  have hbc:c≠b:=fun e=>hij' (r.sim.inj i j b _ _ q1 (e▸z1) hH hHj rfl rfl)
  obtain⟨s2,e2⟩:=r.sim.hideSet (x':=.mapO false t k (QI ek ev m)) (obj:=.map es' ck') q1 hH rfl z1 hHj rfl hij' (hsh _)
   (fun ext hh hne=>⟨(fun z=>by cases z),es',ck',hh,f2.mono ext (fun d hd=>hne d ((kk d hd).elim (fun q=>(r.sim.hid i b _ d q1 hH (hold d q)).ne i b _ q1 hH rfl) (fun q=>q▸hbc))),f3,f5,f6,f7⟩)
   (fun d hd=>by
    obtain⟨l',cl,g1,g2⟩:=hd
    have:({w with heap:=w.heap.setIfInBounds b (.map es' ck')}:World).heap[b]?=some (.map es' ck'):=by
     show(w.heap.setIfInBounds b _)[b]?=_
     rw[Array.getElem?_setIfInBounds,if_pos rfl,if_pos (r.sim.own i b _ q1 hH rfl).1]
    rw[this]at g1;cases g1
    exact(kk d g2).imp (hold d) id)
  exact⟨_,ro,[],f1,by simpa using s2,e2⟩
theorem Qjd(K:YI P kt ek)(hm:some (Qab l key (some rows))=some m)(hT:P.underlying T=some (.map kt et))
  (ho:o.op=.mapUpdate T x y zz:=by exact rfl)(hx:opA env x=.map i:=by exact rfl)(hH:H[i]?=some (.mapO false t k (QI ek ev l)):=by exact rfl)(hy:opA env y=ek key:=by exact rfl)(hv:opA env zz=.osl j 0 n k:=by exact rfl)
  (hHj:H[j]?=some (.row t k (rows.map ev)):=by exact rfl)(hn:rows.length=n:=by exact rfl)(hij:Nat.beq i j=false:=by exact rfl):
  OpU P o env H ((H.set j .dead).set i (.mapO false t k (QI ek ev m))):=by
 obtain rfl:=Option.some.inj hm
 refine Qje (fun ro σ a w b clock es v hE q2 h4 p1 p2 pd p3 p4 p5 hv hn=>?_) hx hH hv hHj hn hij
 have h2:=hE y
 rw[hy]at h2
 exact Qh2 K hT ho q2 (VR.val (K.scl _) h2) h4 p1 p2 pd p3 p4 p5 hv hn
end
end Go.Sw
namespace Go.Sw
open Go.MapKept
section
variable {fr ro:Nat->Prop}{σ:Sig}{H:Qc}{w:World}
end
section
variable {P:Program}{o:Oper}{env:Env}{H:Qc}{T kt et i t k:Nat}{x:Operand}{es:List (A×Option (List (List A)))}
end
def Qin{α β:Type}[DecidableEq α](l:List (α×Option (List β)))(x:α):Option (List β×List (α×Option (List β))):=(Qip l x).map fun r=>(r,Qb0 l x)
section
variable {P:Program}{o:Oper}{env:Env}{H:Qc}
variable {T kt et:Nat}{α β:Type} [DecidableEq α] {ek:α->A}{ev:β->List A}{x y zz:Operand}{i j t k n:Nat}{l m:List (α×Option (List β))}{key:α}{rows:List β}
theorem QhF{fz:Bool}{p:List β×List (α×Option (List β))}(K:YI P kt ek)(hm:Qin l key=some p)(hT:P.underlying T=some (.map kt et))(hz:∀w,(zeroValue et).run P w=.ok (.slice none 0 0) w)
  (ho:o.op=.lookup T x y false:=by exact rfl)(hx:opA env x=.map i:=by exact rfl)(hH:H[i]?=some (.mapO fz t k (QI ek ev l)):=by exact rfl)(hy:opA env y=ek key:=by exact rfl):
  OpH P o env H (.osl H.length 0 p.1.length k) (H.set i (.mapO fz t k (QI ek ev p.2))++[.row t k (p.1.map ev)]):=by
 unfold Qin at hm
 cases h:Qip l key with
 |none=>rw[h]at hm;cases hm
 |some r=>rw[h]at hm;cases hm;exact QhG K h hT hz ho hx hH hy
end
end Go.Sw
namespace Go.Sw
open Go.MapKept
section
variable {P:Program}{o:Oper}{env:Env}{H:Qc}
variable {T kt et:Nat}{α β:Type} [DecidableEq α] {ek:α->A}{ev:β->List A}{x y zz:Operand}{i j t k n:Nat}{l m:List (α×Option (List β))}{key:α}{rows:List β}
end
end Go.Sw
namespace Go.Sw
abbrev Kat:=List (Nat×Nat×Nat)
def QhT:Nat->Nat->List (Nat×Nat)
 |lo,0=>[(lo,lo)]
 |lo,n+1=>(lo,lo)::QhT (lo+1) n
def rgK(p:Nat×Nat×Nat):List (Nat×Nat):=bif Nat.beq p.1 1 then[(p.2.1,p.2.1+1)]else QhT p.2.1 (p.2.2-p.2.1)
def plK(cat:Kat):List (List (Nat×Nat)):=cat.map rgK
def rqK(bs:List Nat)(cat:Kat):List (List Nat):=cat.map fun p=>bs.take p.2.1
def hsK(cat:Kat):List Bool:=cat.map fun p=>Nat.beq p.1 1
def msK(bs:List Nat):List (List Nat):=(List.range (bs.length+1)).map bs.take
theorem Qeq:∀(n lo:Nat),∀p∈QhT lo n,p.1=p.2
 |0,lo,p,h=>by cases h with|head=>rfl|tail _ h=>cases h
 |n+1,lo,p,h=>by
  rcases List.mem_cons.1 h with rfl|h
  ·rfl
  ·exact Qeq n _ p h
section
variable {P:Program}{T:TyX}{h0 N m:Nat}{bs:List Nat}{cat:Kat}{l:List Oper}{ds:List Nat}{env:Env}{H:Qc}{Hs:List Qc}{Q:Qz}{K:List Oper->Env->Qc->Prop}
def DobK(P:Program)(N:Nat)(cat:Kat)(l:List Oper)(ds:List Nat)(env:Env)(n:Nat)(Hs:List Qc)(zs:List A)(j:Nat):Prop:=
 ∀p∈(plK cat).getD j [],Qad P N l ds zs env n n j (Hs.getD p.1 []) (Hs.getD p.2 [])
def DK(P:Program)(N m:Nat)(bs:List Nat)(cat:Kat)(l:List Oper)(ds:List Nat)(env:Env)(n:Nat)(K:List Oper->Env->Qc->Prop)(Hs:List Qc)(X:Qc)(r:List Oper)(xs:List A):Prop:=
 r=l.drop xs.length->∃ys Zs Y,xs.length+ys.length=m/\Hs.length+Zs.length=bs.length/\((∀Z∈Zs,n<=Z.length)/\(Hs.reverse++X::Zs).getD bs.length []=Y)/\(∀j,xs.length<=j->j<m->DobK P N cat l ds env n (Hs.reverse++X::Zs) (xs++ys) j)/\K (l.drop m) (Qas ds (xs++ys) env) Y
theorem Qk0{ys:List A}{n:Nat}{Zs:List Qc}(hcl':cat.length=m)(h3:∀j,0<=j->j<m->DobK P N cat l ds env n Zs ys j):QeV P N l ds ys env n (n+0) 0 ((plK cat).map fun q=>q.map fun p=>(Zs.getD p.1 [],Zs.getD p.2 [])):=by
 refine QeU _ 0 fun i s hs p hp=>?_
 rw[List.getElem?_map]at hs
 cases e:(plK cat)[i]? with
 |none=>rw[e]at hs;cases hs
 |some q=>
  rw[e]at hs
  cases hs
  obtain⟨p0,hp0,rfl⟩:=List.mem_map.1 hp
  have hi:i<m:=by
   have:=(List.getElem?_eq_some_iff.1 e).1
   simpa[plK,hcl']using this
  have:=h3 i (Nat.zero_le _) hi p0 (by rw[Qgv e];exact hp0)
  simpa using this
theorem Qjp{id:Nat}(m:Nat)(bs:List Nat)(cat:Kat)(hm:P.follows .mixedOrders=true)(hc:QcF l m N (Qan m 0 l) (hsK cat) (rqK bs cat) (msK bs) (plK cat)=true)(hcl:Nat.beq cat.length m=true)(h0B:Nat.ble h0 H.length=true)
  (h:DK P N m bs cat l (Qan m 0 l) env H.length (fun r e H=>WO P h0 N l.toArray r e H Q) [] H l []):TC P h0 N (.region id l.toArray true) env H Q:=by
 obtain⟨ys,Zs,Y,h1,h2,h3,h4,h5⟩:=h rfl
 simp only[List.length_nil,Nat.zero_add,List.nil_append,List.reverse_nil]at h1 h2 h3 h4 h5
 have hcl':=Nat.eq_of_beq_eq_true hcl
 have hlen:(msK bs).length=bs.length+1:=by simp[msK]
 refine QaU m 0 _ _ _ _ _ ys (H::Zs) Y hm hc (by rw[h1];exact Nat.beq_refl m) (by rw[hlen];simp[h2]) h0B ?_ (by simp) (by rw[hlen];exact h3.2) (Qk0 hcl' h4) (by simp[plK,hcl']) h5
 rw[List.all_eq_true]
 intro Z hZ
 rcases List.mem_cons.1 hZ with rfl|hZ
 ·exact Nat.ble_eq_true_of_le (Nat.le_refl _)
 ·exact Nat.ble_eq_true_of_le (h3.1 Z hZ)
variable {n:Nat}{X X1:Qc}{xs:List A}{o:Oper}{r:List Oper}{x:A}{d:Nat}
theorem DK.done(hx:Nat.beq xs.length m=true)(hb:Nat.beq Hs.length bs.length=true)(h:K r (Qas ds xs env) X):DK P N m bs cat l ds env n K Hs X r xs:=by
 intro hr
 have e:=Nat.eq_of_beq_eq_true hx
 have e2:=Nat.eq_of_beq_eq_true hb
 subst hr
 refine⟨[],[],X,by simpa using e,by simpa using e2,⟨(fun Z hZ=>by cases hZ),?_⟩,fun j q1 q2=>by omega,?_⟩
 ·rw[<- e2,List.getD_eq_getElem?_getD,List.getElem?_append_right (by simp)];simp
 ·rw[<- e,List.append_nil];exact h
theorem DK.add(hb:∀ys Zs,l[xs.length]?=some o->DobK P N cat l ds env n (Hs.reverse++X::Zs) (xs++x::ys) xs.length)(k:DK P N m bs cat l ds env n K Hs X r (xs++[x])):DK P N m bs cat l ds env n K Hs X (o::r) xs:=by
 intro hr
 obtain⟨ho,hr'⟩:=QaS hr
 obtain⟨ys,Zs,Y,h1,h2,h3,h4,h5⟩:=k (by simpa using hr')
 simp only[List.length_append,List.length_cons,List.length_nil,List.append_assoc,List.cons_append,List.nil_append]at h1 h4 h5
 refine⟨x::ys,Zs,Y,by simp only[List.length_cons];omega,h2,h3,fun j q1 q2=>?_,h5⟩
 rcases Nat.lt_or_ge xs.length j with q|q
 ·exact h4 j (by omega) q2
 ·obtain rfl:j=xs.length:=by omega
  exact hb ys Zs ho
theorem QcY{Zs:List Qc}{zs:List A}{j:Nat}{c:Nat×Nat×Nat}(hc:Yv cat j=some c)(h:∀p∈rgK c,Qad P N l ds zs env n n j (Zs.getD p.1 []) (Zs.getD p.2 [])):DobK P N cat l ds env n Zs zs j:=by
 intro p hp
 rw[Qaz]at hc
 unfold plK at hp
 rw[List.getD_eq_getElem?_getD,List.getElem?_map,hc]at hp
 exact h p hp
theorem QeC{Zs:List Qc}{c:Nat}(hc:Nat.beq c Hs.length=true):(Hs.reverse++X::Zs).getD c []=X:=by
 rw[Nat.eq_of_beq_eq_true hc,List.getD_eq_getElem?_getD,List.getElem?_append_right (by simp)];simp
theorem DK.wo{c:Nat}(h:WO P X.length N l.toArray [o] (QZ (Qh o) 0 ds xs env) X (YH (up (QZ (Qh o) 0 ds xs env) d x) X))(k:DK P N m bs cat l ds env n K Hs X r (xs++[x]))
  (hc:Yv cat xs.length=some (0,c,c):=by exact rfl)(hd:o.dst=some d:=by exact rfl)(hcH:Nat.beq c Hs.length=true:=by exact rfl):DK P N m bs cat l ds env n K Hs X (o::r) xs:=
 .add (fun ys Zs ho=>QcY hc fun p hp=>by
  have:p=(c,c):=by
   change p∈QhT c (c-c)at hp
   rw[Nat.sub_self]at hp
   exact List.mem_singleton.1 hp
  subst this
  rw[QeC hcH]
  exact Qay ho YF h hd) k
theorem DK.wa{lo hi:Nat}(h:∀X,WO P X.length N l.toArray [o] (QZ (Qh o) 0 ds xs env) X (YH (up (QZ (Qh o) 0 ds xs env) d x) X))(k:DK P N m bs cat l ds env n K Hs X r (xs++[x]))
  (hc:Yv cat xs.length=some (0,lo,hi):=by exact rfl)(hd:o.dst=some d:=by exact rfl):DK P N m bs cat l ds env n K Hs X (o::r) xs:=
 .add (fun ys Zs ho=>QcY hc fun p hp=>by
  have e:p.1=p.2:=Qeq _ _ p hp
  rw[<- e]
  exact Qay ho YF (h _) hd) k
theorem DK.op{c c':Nat}(h:WO P X.length N l.toArray [o] (QZ (Qh o) 0 ds xs env) X (YH (up (QZ (Qh o) 0 ds xs env) d x) X1))(k:DK P N m bs cat l ds env n K (X::Hs) X1 r (xs++[x]))(hl:Nat.ble n X1.length=true:=by exact rfl)
  (hc:Yv cat xs.length=some (1,c,c'):=by exact rfl)(hd:o.dst=some d:=by exact rfl)(hcH:Nat.beq c Hs.length=true:=by exact rfl):DK P N m bs cat l ds env n K Hs X (o::r) xs:=by
 intro hr
 obtain⟨ho,hr'⟩:=QaS hr
 obtain⟨ys,Zs,Y,h1,h2,h3,h4,h5⟩:=k (by simpa using hr')
 simp only[List.length_append,List.length_cons,List.length_nil,List.append_assoc,List.cons_append,List.nil_append,List.reverse_cons]at h1 h2 h3 h4 h5
 refine⟨x::ys,X1::Zs,Y,by simp only[List.length_cons];omega,by simp only[List.length_cons];omega,⟨fun Z hZ=>?_,h3.2⟩,fun j q1 q2=>?_,h5⟩
 ·rcases List.mem_cons.1 hZ with rfl|hZ
  ·exact Nat.le_of_ble_eq_true hl
  ·exact h3.1 Z hZ
 ·rcases Nat.lt_or_ge xs.length j with q|q
  ·exact h4 j (by omega) q2
  ·obtain rfl:j=xs.length:=by omega
   refine QcY hc fun p hp=>?_
   have:p=(c,c+1):=List.mem_singleton.1 hp
   subst this
   have e1:(Hs.reverse++X::X1::Zs).getD c []=X:=QeC hcH
   have e2:(Hs.reverse++X::X1::Zs).getD (c+1) []=X1:=by
    have:=QeC (X:=X1) (Zs:=Zs) (Hs:=X::Hs) (c:=c+1) (by rw[Nat.eq_of_beq_eq_true hcH];exact Nat.beq_refl _)
    simpa using this
   simp only
   rw[e1,e2]
   exact Qay ho YF h hd
def Qc9(T:TyX)(N m:Nat)(cat:Kat)(l:List Oper)(ds:List Nat)(env:Env)(n:Nat):Nat->Nat->Nat->List Qc->Qc->List Oper->List A->Option (List Qc×List Oper×List A)
 |0,_,_,Hs,X,r,xs=>some (Hs,r,xs)
 |_+1,_,_,_,_,[],_=>none
 |k+1,i,j,Hs,X,o::r,xs=>match o.dst with
  |none=>none
  |some d=>match Nat.blt d N with
   |false=>none
   |true=>match Yz ⟨l⟩ o (QZ (Qh o) 0 ds xs env)with
    |none=>none
    |some false=>(match Qb6 xs (.tup [])with
      |.mk xs'=>match Yv cat i with
       |some (0,_,_)=>Qc9 T N m cat l ds env n k (i+1) j Hs X r xs'
       |some (1,c,_)=>(match Nat.beq c j,Nat.ble n X.length with
        |true,true=>Qc9 T N m cat l ds env n k (i+1) (j+1) (X::Hs) X r xs'
        |_,_=>none)
       |_=>none)
    |some true=>match Yv cat i with
     |some (0,lo,hi)=>(match Qcj T o (QZ (Qh o) 0 ds xs env) []with
      |some x=>(match Qb6 xs x with
       |.mk xs'=>Qc9 T N m cat l ds env n k (i+1) j Hs X r xs')
      |none=>match Nat.beq lo hi,Nat.beq lo j with
       |true,true=>(match Qcj T o (QZ (Qh o) 0 ds xs env) X with
        |none=>none
        |some x=>match Qb6 xs x with
         |.mk xs'=>Qc9 T N m cat l ds env n k (i+1) j Hs X r xs')
       |_,_=>none)
     |_=>none
theorem Qbk(hT:Qbc P T):∀(k i j:Nat) {Hs Hs':List Qc}{r r':List Oper}{xs xs':List A},i=xs.length->j=Hs.length->Qc9 T N m cat l ds env n k i j Hs X r xs=some (Hs',r',xs')->DK P N m bs cat l ds env n K Hs' X r' xs'->DK P N m bs cat l ds env n K Hs X r xs
 |0,i,j,Hs,Hs',r,r',xs,xs',_,_,h,k=>by cases h;exact k
 |k0+1,i,j,Hs,Hs',[],r',xs,xs',_,_,h,k=>by cases h
 |k0+1,i,j,Hs,Hs',o::r,r',xs,xs',hi,hj,h,k=>by
  subst hi hj
  unfold Qc9 at h
  split at h
  ·cases h
  ·rename_i d hd
   split at h
   ·cases h
   ·rename_i q2
    split at h
    ·cases h
    ·rename_i hw
     simp only[YK]at h
     split at h
     ·rename_i lo hi' q0
      exact .wa (fun X=>WO.skip (QG hw) hd q2 (WO.nil YH.mk)) (Qbk hT k0 _ _ (by simp) rfl h k) q0 hd
     ·rename_i c c' q0
      split at h
      ·rename_i q1 q3
       exact .op (WO.skip (QG hw) hd q2 (WO.nil YH.mk)) (Qbk hT k0 _ _ (by simp) (by simp) h k) q3 q0 hd q1
      ·cases h
     ·cases h
    ·rename_i hw
     split at h
     ·rename_i lo hi' q0
      split at h
      ·rename_i x hv
       simp only[YK]at h
       exact .wa (fun X=>Qy (QG hw) hd q2 (Qau hT (Qc0 hv)) (WO.nil YH.mk)) (Qbk hT k0 _ _ (by simp) rfl h k) q0 hd
      ·split at h
       ·rename_i q1 q3
        split at h
        ·cases h
        ·rename_i x hv
         simp only[YK]at h
         obtain rfl:=Nat.eq_of_beq_eq_true q1
         exact .wo (Qy (QG hw) hd q2 (Qau hT hv) (WO.nil YH.mk)) (Qbk hT k0 _ _ (by simp) rfl h k) q0 hd q3
       ·cases h
     ·cases h
theorem DK.v(h:OpV P o (QZ (Qh o) 0 ds xs env) X x)(k:DK P N m bs cat l ds env n K Hs X r (xs++[x])){c:Nat}(hg:Yz ⟨l⟩ o (QZ (Qh o) 0 ds xs env)=some true:=by exact rfl)
  (hd:o.dst=some d:=by exact rfl)(hN:Nat.blt d N=true:=by exact rfl)(hc:Yv cat xs.length=some (0,c,c):=by exact rfl)(hcH:Nat.beq c Hs.length=true:=by exact rfl):DK P N m bs cat l ds env n K Hs X (o::r) xs:=
 .wo (Qy (QG hg) hd hN h (WO.nil YH.mk)) k hc hd hcH
def allV(T:TyX)(o:Oper)(e:Env)(x:A):Nat->List Qc->Prop
 |0,_=>True
 |k+1,Y::r=>Qcj T o e Y=some x/\allV T o e x k r
 |_+1,[]=>False
theorem Qgm:∀(n lo:Nat),∀p∈QhT lo n,lo<=p.1/\p.1<=lo+n
 |0,lo,p,h=>by cases h with|head=>exact⟨Nat.le_refl _,Nat.le_refl _⟩|tail _ h=>cases h
 |n+1,lo,p,h=>by
  rcases List.mem_cons.1 h with rfl|h
  ·exact⟨Nat.le_refl _,Nat.le_add_right _ _⟩
  ·have:=Qgm n _ p h;omega
def allW(P:Program)(N:Nat)(l:List Oper)(o:Oper)(e:Env)(d:Nat)(x:A):Nat->List Qc->Prop
 |0,_=>True
 |k+1,Y::r=>WO P Y.length N l.toArray [o] e Y (YH (up e d x) Y)/\allW P N l o e d x k r
 |_+1,[]=>False
theorem QgJ{e:Env}:∀{k:Nat}{r:List Qc},allW P N l o e d x k r->∀j,j<k->WO P (r.getD j []).length N l.toArray [o] e (r.getD j []) (YH (up e d x) (r.getD j []))
 |0,_,_,j,hj=>absurd hj (Nat.not_lt_zero _)
 |k+1,[],h,_,_=>h.elim
 |k+1,Y::r,h,0,_=>h.1
 |k+1,Y::r,h,j+1,hj=>by
  have:=QgJ h.2 j (by omega)
  simpa using this
theorem DK.ws{lo hi:Nat}(h:allW P N l o (QZ (Qh o) 0 ds xs env) d x (hi+1-lo) (X::Hs))(k:DK P N m bs cat l ds env n K Hs X r (xs++[x]))
  (hc:Yv cat xs.length=some (0,lo,hi):=by exact rfl)(hd:o.dst=some d:=by exact rfl)(hcH:Nat.beq hi Hs.length=true:=by exact rfl)(hle:Nat.ble lo hi=true:=by exact rfl):DK P N m bs cat l ds env n K Hs X (o::r) xs:=
 .add (fun ys Zs ho=>QcY hc fun p hp=>by
  have e:p.1=p.2:=Qeq _ _ p hp
  have hle':=Nat.le_of_ble_eq_true hle
  have hb:lo<=p.1/\p.1<=lo+(hi-lo):=Qgm (hi-lo) lo p hp
  have hhi:=Nat.eq_of_beq_eq_true hcH
  rw[<- e]
  have hv:=QgJ h (Hs.length-p.1) (by omega)
  have hX:(Hs.reverse++X::Zs).getD p.1 []=(X::Hs).getD (Hs.length-p.1) []:=by
   rw[List.getD_eq_getElem?_getD,List.getD_eq_getElem?_getD]
   congr 1
   rcases Nat.lt_or_ge p.1 Hs.length with q|q
   ·rw[List.getElem?_append_left (by simpa using q),List.getElem?_reverse q,show Hs.length-p.1=Hs.length-1-p.1+1 by omega,List.getElem?_cons_succ]
   ·have:p.1=Hs.length:=by omega
    rw[this,List.getElem?_append_right (by simp)];simp
  rw[hX]
  exact Qay ho YF hv hd) k
theorem DK.vs(hT:Qbc P T){lo hi:Nat}(h:allV T o (QZ (Qh o) 0 ds xs env) x (hi+1-lo) (X::Hs))(k:DK P N m bs cat l ds env n K Hs X r (xs++[x]))
  (hc:Yv cat xs.length=some (0,lo,hi))(hd:o.dst=some d)(hcH:Nat.beq hi Hs.length=true)(hg:Yz ⟨l⟩ o (QZ (Qh o) 0 ds xs env)=some true)(hN:Nat.blt d N=true)(hle:Nat.ble lo hi=true):DK P N m bs cat l ds env n K Hs X (o::r) xs:=by
 refine DK.ws ?_ k hc hd hcH hle
 generalize hi+1-lo=c at h
 generalize X::Hs=L at h
 induction c generalizing L with
 |zero=>trivial
 |succ c ih=>
  cases L with
  |nil=>exact h.elim
  |cons Y L=>exact⟨Qy (QG hg) hd hN (Qau hT h.1) (WO.nil YH.mk),ih L h.2⟩
end
end Go.Sw
namespace Go.Sw
def room(n:Int):Option Nat:=bif decide (0<n)&&decide (n<=4294967296)then some n.toNat else none
theorem Qjw{n:Int}{m:Nat}(h:room n=some m):0<n/\n<=4294967296/\n.toNat=m:=by
 unfold room at h
 cases q:(decide (0<n)&&decide (n<=4294967296))with
 |true=>rw[q]at h;simp at q;exact⟨q.1,q.2,Option.some.inj h⟩
 |false=>rw[q]at h;cases h
section
variable {P:Program}{o:Oper}{env:Env}{H:Qc}
theorem QfF{c:Call}{t e:TypeId}{x:Operand}(ht:∀w,(underlying t).run P w=.ok (.slice e) w)(ho:o.op=.call c:=by exact rfl)(hc:c={callee:=.builtin .cap,args:= #[x],argTypes:= #[t]}:=by exact rfl)
  (hx:opA env x=.nils:=by exact rfl):OpV P o env H (.int .i64 0):=by
 intro fr ro σ N a w r
 have h1:=Qg r x
 rw[hx]at h1
 simp only[VR]at h1
 refine⟨_,?_,rfl⟩
 generalize a.eval=ρ at*
 subst hc
 simp[execOp,ho,h1,resolve,invoke,Go.builtin,Builtin.cap_,ht,goInt,go_sem]
theorem Qjg{α:Type}{e:α->List A}{c:Call}{T T' et k m:Nat}{x y:Operand}{n:Int}{kk:IntKind}(h:room n=some m)(E:QQ P T et k)(hd:∀w,(underlying T').run P w=.ok (.int kk) w)
  (ho:o.op=.call c:=by exact rfl)(hc:c={callee:=.builtin .append,args:= #[x,y],argTypes:= #[T,T']}:=by exact rfl)(hx:opA env x=.nils:=by exact rfl)(hy:opA env y=.int .i64 n:=by exact rfl):
  OpH P o env H (.osl H.length 0 m k) (H++[.row et k (([]:List α).map e)]):=by
 intro fr ro σ N a w r
 obtain⟨n0,n1,rfl⟩:=Qjw h
 have h1:a.eval x=.slice none 0 0:=by have:=Qg r x;rw[hx]at this;exact this
 have h2:a.eval y=.int .i64 n:=by have:=Qg r y;rw[hy]at this;exact this
 obtain⟨z,hz,hzk⟩:=E.zero
 obtain⟨i,hi,hb⟩:=E.bytes
 let need:=n.toNat
 let nc:=need+w.tape w.drawn (.appendCap need 0 et)%(2^63-need)
 let cells:List Value:=(Builtin.zeroCells z.cells need).toList++(Builtin.zeroCells z.cells (nc-need)).toList
 let w0:World:={w with drawn:=w.drawn+1}
 have hpos:0<need:=by show 0<n.toNat;omega
 have hw:IntKind.i64.wrap n=n:=by
  unfold IntKind.wrap
  simp[IntKind.bits,IntKind.signed]
  omega
 have hcapn:¬(need<=0):=by omega
 have hlm:need<=4294967296:=by show n.toNat<=_;omega
 have g0:¬(n<0):=by omega
 have g1:¬(n*(i.bytes:Int)>2^48):=by
  have h1:n*(i.bytes:Int)<=4294967296*4096:=Int.mul_le_mul n1 (by omega) (by omega) (by omega)
  omega
 have g2:¬((need:Int)>IntKind.i64.max):=by
  have:IntKind.i64.max=9223372036854775807:=by decide
  rw[this];omega
 have g3:¬(Builtin.nextslicecap need 0*i.bytes>2^48):=by
  have:=Qa8 need 0 hpos
  have h3:Builtin.nextslicecap need 0*i.bytes<=(4*need+1000)*4096:=Nat.mul_le_mul this hb
  omega
 have hch:∀W:World,(choose (.appendCap need 0 et)).run P W=.ok (need+W.tape W.drawn (.appendCap need 0 et)%(2^63-need)) {W with drawn:=W.drawn+1}:=by
  intro W;simp[choose,Sem.run,Question.forced,Question.cut]
 have har:∀(x:Nat) (W:World),(askRoom x).run P W=.ok () W:=by
  intro x W;unfold askRoom;split<;>rfl
 have hnr:∀(c:Array Value) (W:World),(newRow et c).run P W=.ok ⟨W.heap.size,0,none⟩ (W.alloc (.cells c et)):=fun c W=>rfl
 have hai:∀(k:IntKind) (m:Int) (W:World),(asInt (.int k m)).run P W=.ok m W:=fun k m W=>rfl
 have hap:∀W:World,((if need*k=0 then pure #[]else do pure (Builtin.zeroCells (<- zeroValue et).cells need):Sem (Array Value))).run P W=.ok (Builtin.zeroCells z.cells need) W:=by
  intro W
  by_cases q:need*k=0
  ·rw[if_pos q]
   have:Builtin.zeroCells z.cells need= #[]:=by unfold Builtin.zeroCells;rw[hzk,q];simp
   rw[this];rfl
  ·rw[if_neg q]
   simp only[Sem.run_bind,hz,Result.andThen,Sem.run_pure]
 have hrun:(Builtin.append_ #[T,T'] o.type #[.slice none 0 0,.int .i64 n]).run P w=.ok (.slice (some ⟨w.heap.size,0,none⟩) need nc) (w0.alloc (.cells cells.toArray et)):=by
  unfold Builtin.append_
  have e3:(#[]:Array Value)++Builtin.zeroCells z.cells need++Builtin.zeroCells z.cells (nc-need)=cells.toArray:=by
   apply Array.toList_inj.1;simp[cells]
  have hfc:∀W:World,(Builtin.firstCells k 0 (.slice none 0 0)).run P W=.ok #[] W:=fun W=>Qag
  have hnd:(0:Nat)+n.toNat=need:=Nat.zero_add _
  simp only[List.getElem?_toArray,List.getElem?_cons_zero,List.getElem?_cons_succ,Sem.run_bind,E.sl,E.size,hd,hi,hz,Result.andThen,Sem.run_pure,hai,hw,Sem.run_ite,if_true,if_neg g0,if_neg g1,hnd,if_neg hcapn]
  have g4:¬((need:Int)>IntKind.i64.max/\(True\/i.bytes=0)):=fun q=>g2 q.1
  simp only[g2,false_and,if_false,if_neg g3,hch,har,hfc,Result.andThen]
  have hz0:(if n.toNat*k=0 then(Result.ok #[] w0:Result (Array Value))else Result.ok (Builtin.zeroCells z.cells n.toNat) w0)=Result.ok (Builtin.zeroCells z.cells n.toNat) w0:=by
   have:=hap w0
   by_cases q:n.toNat*k=0
   ·rw[if_pos q]
    have:Builtin.zeroCells z.cells n.toNat= #[]:=by unfold Builtin.zeroCells;rw[hzk,q];simp
    rw[this]
   ·rw[if_neg q]
  simp only[Bool.not_true,Bool.false_eq_true,if_false]
  rw[hz0]
  simp only[hnr]
  show(Result.ok _ _)=_
  rw[<- e3]
 have s0:Sim fr ro σ H w0:=r.sim.heap rfl
 have e0:Qf fr ro w ro w0:=Qf.heap rfl rfl rfl rfl (Nat.le_succ _)
 obtain⟨s1,e1⟩:=QdK (T:=et) (k:=k) (es:=[]) (l:=[]) (rest:=cells) s0 trivial rfl (by simp)
 have hexec:(execOp a.eval o).run P w=.ok (.value (.slice (some ⟨w.heap.size,0,none⟩) need nc)) (w0.alloc (.cells cells.toArray et)):=by
  subst hc
  generalize a.eval=ρ at*
  simp only[execOp,ho,resolve,invoke,Go.builtin,Sem.run_bind,Sem.run_pure,Result.andThen]
  simp only[List.map_toArray,List.map_cons,List.map_nil,h1,h2,hrun]
 refine⟨_,_,ro,[some w.heap.size],hexec,.inr ⟨w.heap.size,0,nc,et,cells.length,?_,rfl,fun _=>by simp,Nat.le_add_right _ _,?_,?_⟩,s1,e0.trans e1⟩
 ·rw[<- r.sim.len];simp
 ·unfold World.shape?
  rw[show w.heap.size=w0.heap.size from rfl,Yi]
  simp
 ·simp[cells,Builtin.zeroCells,hzk,nc, <- Nat.add_mul]
theorem Qjb{T et k b m:Nat}{x y:Operand}(E1:∀w,(underlying T).run P w=.ok (.slice et) w)(E2:∀w,(sizeOf et).run P w=.ok k w)(ho:o.op=.slice T x none (some y) none:=by exact rfl)
  (hx:opA env x=.osl b 0 m k:=by exact rfl)(hy:opA env y=.int .i64 0:=by exact rfl):OpV P o env H (.osl b 0 0 k):=by
 have:=QfE (H:=H) E1 E2 ho hx (.inl ⟨rfl,rfl⟩) (.inr ⟨y,0,rfl,hy,by omega,rfl⟩) (Nat.le_refl _) (Nat.zero_le _)
 simpa using this
theorem QhC{T et k:Nat}{x y:Operand}(E1:∀w,(underlying T).run P w=.ok (.slice et) w)(E2:∀w,(sizeOf et).run P w=.ok k w)(ho:o.op=.slice T x none (some y) none:=by exact rfl)
  (hx:opA env x=.nils:=by exact rfl)(hy:opA env y=.int .i64 0:=by exact rfl):OpV P o env H .nils:=
 Qjc E1 E2 ho hx (.inl ⟨rfl,rfl⟩) (.inr ⟨y,0,rfl,hy,by omega,rfl⟩) (Nat.le_refl _) (Nat.le_refl _)
theorem QkZ{h0 i:Nat}{x x':Blk}(hH:H[i]?=some x)(e:x=x'):Le h0 env H env (H.set i x'):=by
 subst e
 obtain⟨hb,hv⟩:=List.getElem?_eq_some_iff.1 hH
 rw[<- hv,List.set_getElem_self]
 exact Le.refl _ _ _
theorem Sim.shutRow{fr ro:Nat->Prop}{σ:Sig}{w:World}(s:Sim fr ro σ H w){i b t k:Nat}{es:List (List A)}(hσ:σ[i]?=some (some b))(hH:H[i]?=some (.row t k es)):
  Sim fr (fun c=>ro c\/c=b) σ (H.set i .dead) w:=by
 have hown:b<w.heap.size/\ ¬ro b/\ ¬fr b:=s.own i b _ hσ hH rfl
 have ext:Ext ro σ w (fun c=>ro c\/c=b) σ w:=⟨fun _ q=>.inl q,fun _ _=>rfl,fun _ _ q=>q,fun _ _ q=>q⟩
 have hcase:∀(j:Nat) (v:Blk),(H.set i .dead)[j]?=some v->v≠ .dead->j≠i/\H[j]?=some v:=by
  intro j v h hv
  by_cases e:j=i
  ·subst e
   rw[List.getElem?_set]at h
   simp only[if_true]at h
   split at h
   ·cases h;exact absurd rfl hv
   ·simp at h
  ·rw[List.getElem?_set_ne (fun q=>e q.symm)]at h;exact⟨e,h⟩
 refine⟨by rw[List.length_set];exact s.len,s.roOk.to (fun _ q=>.inl q) (fun _ _=>rfl) ?_,s.frLt,?_,?_,?_,?_,s.hidTo (· = ·) QP (Nat.le_refl _) (fun j d x c q1 q2 q3 q4=>q4.elim id fun q=>((s.hid j d x c q1 q2 q3).ne i b _ hσ hH rfl q).elim) (fun _ _ _ _ _ _ _ q=>q) fun j d y g1 g2 g3=>.inl ⟨j,y,rfl,g1,(hcase j y g2 (Qch g3)).2,id,fun _ q=>q⟩⟩
 ·rintro c (q|rfl)
  ·exact s.roLt c q
  ·exact hown.1
 ·rintro c (q|rfl)
  ·exact s.roFr c q
  ·exact hown.2.2
 ·intro j c v h1 h2 h3
  obtain⟨e,h2⟩:=hcase j v h2 (YP h3)
  obtain⟨p1,p2,p3⟩:=s.own j c v h1 h2 h3
  refine⟨p1,?_,p3⟩
  rintro(q|rfl)
  ·exact p2 q
  ·exact e (s.inj j i c v _ h1 hσ h2 hH h3 rfl)
 ·intro j j' c v v' h1 h2 h3 h4 h5 h6
  exact s.inj j j' c v v' h1 h2 (hcase j v h3 (YP h5)).2 (hcase j' v' h4 (YP h6)).2 h5 h6
 ·intro j y v h1 h2
  by_cases hv:v≠ .dead
  ·exact(s.blk j y v h1 (hcase j v h2 hv).2).keep ext (fun _ _ _=>rfl) (fun _ _ _ _=>rfl)
  ·obtain rfl:v=.dead:=Classical.not_not.1 hv
   trivial
theorem Qjf{α:Type}{e:α->List A}{T et k i n ta:Nat}{x y:Operand}{l l':List α}{j:Int}(h:slc l 0 j=some l')(hln:l.length=n)(hk:∀x,(e x).length=k)(ht:∀w,(underlying T).run P w=.ok (.array n et) w)(hsz:∀w,(sizeOf et).run P w=.ok k w)
  (ho:o.op=.slice T x none (some y) none:=by exact rfl)(hx:opA env x=.ptr i 0:=by exact rfl)(hy:opA env y=.int .i64 j:=by exact rfl)(hH:H[i]?=some (.row ta k (l.map e)):=by exact rfl):
  OpH P o env H (.rsl k (l'.map e)) (H.set i .dead):=by
 intro fr ro σ N a w r
 obtain⟨z1,z2,z3,z4⟩:=slc0 h
 have h1:=Qg r x
 rw[hx]at h1
 obtain⟨b,q1,q2⟩:=h1
 have h3:=Qg r y
 rw[hy]at h3
 have h3':a.eval y=.int .i64 j:=h3
 obtain⟨lv,p1,p2⟩:=r.sim.blk i _ _ q1 hH
 have s1:=r.sim.shutRow q1 hH
 refine⟨.slice (some ⟨b,0,none⟩) j.toNat n,w,(fun c=>ro c\/c=b),[],?_,⟨_,n,by rw[List.length_map,z4],by rw[List.length_map,z4];omega,?_⟩,by simpa using s1,Ya (ro':=fun c=>ro c\/c=b) (fun _ q=>Or.inl q)⟩
 ·have hb:(Instr.sliceBounds false n n none (some (.int .i64 j)) none).run P w=.ok (0,j.toNat,n) w:=by
   simp only[Instr.sliceBounds,Sem.run_bind,Sem.run_pure,Result.andThen,YA z1 (show j<=(n:Int)by omega),Bool.false_eq_true,if_false]
  have hrun:(Instr.sliceAt T (.pointer (some ⟨b,0,none⟩)) none (some (.int .i64 j)) none).run P w=.ok (.slice (some ⟨b,0,none⟩) j.toNat n) w:=by
   have hadd:(if n=0 then(⟨b,0,none⟩:Addr)else(⟨b,0,none⟩:Addr).add (0*k))=⟨b,0,none⟩:=by
    by_cases q:n=0
    ·rw[if_pos q]
    ·rw[if_neg q,Nat.zero_mul];simp[Addr.add]
   simp only[Instr.sliceAt,Sem.run_bind,ht,Result.andThen,Instr.sureAddr,hb,hsz,Sem.run_pure,hadd,Nat.sub_zero]
  generalize a.eval=ρ at*
  simp only[execOp,ho,q2,Option.map_none,Option.map_some,h3',Sem.run_bind,hrun,Result.andThen,Sem.run_pure]
 ·right
  refine⟨b,0,rfl,.inr rfl,?_⟩
  have hr:=Ys (pre:=[]) (by simpa using p1) p2
  have:=hr.take j.toNat
  rw[<- List.map_take,z3]at this
  exact this.keep ⟨fun _ q=>.inl q,fun _ _=>rfl,fun _ _ q=>q,fun _ _ q=>q⟩ rfl
theorem RL.put{ro:Nat->Prop}{σ:Sig}{w:World}{k:Nat}:∀{a:Nat}{es fs:List (List A)}{l m:List Value},RL ro σ w k es l->a+fs.length<=es.length->Sw.allK k fs->LR ro σ w fs.flatten m->(∀v∈m,Qv v)->
  RL ro σ w k (es.take a++fs++es.drop (a+fs.length)) (Sw.splice l (a*k) m)
 |0,es,[],l,m,h,hn,hk,hm,hp=>by
  obtain rfl:m=[]:=hm
  simpa[Sw.splice]using h
 |0,[],f::fs,l,m,h,hn,hk,hm,hp=>by simp at hn
 |0,c::es,f::fs,l,m,⟨l1,l2,h1,h2,h3,h4⟩,hn,hk,hm,hp=>by
  subst h1
  have hl1:=h3.1.length
  have hml:=hm.length
  rw[List.flatten_cons,List.length_append]at hml
  have e1:m.take k++m.drop k=m:=List.take_append_drop _ _
  have q1:LR ro σ w f (m.take k):=by have:=hm.take k;rwa [List.flatten_cons,List.take_append_of_le_length (by rw[hk.1];exact Nat.le_refl _),List.take_of_length_le (by rw[hk.1];exact Nat.le_refl _)]at this
  have q2:LR ro σ w fs.flatten (m.drop k):=by have:=hm.drop k;rwa [List.flatten_cons,List.drop_append_of_le_length (by rw[hk.1];exact Nat.le_refl _),List.drop_of_length_le (by rw[hk.1];exact Nat.le_refl _),List.nil_append]at this
  have ih:=RL.put (a:=0) h4 (by simpa using hn) hk.2 q2 (fun v hv=>hp v (List.mem_of_mem_drop hv))
  simp only[List.take_zero,List.nil_append,Nat.zero_add,Nat.zero_mul,Sw.splice]at ih⊢
  refine⟨m.take k,m.drop k++l2.drop (m.drop k).length,?_,hk.1,⟨q1,fun v hv=>hp v (List.mem_of_mem_take hv)⟩,by simpa using ih⟩
  have hmk:k<=m.length:=by rw[hml,hk.1];exact Nat.le_add_right _ _
  rw[<- List.append_assoc,e1]
  congr 1
  rw[List.length_drop,show m.length=l1.length+(m.length-k)from by omega,List.drop_length_add_append]
  have e9:l1.length+(m.length-k)-k=m.length-k:=by omega
  rw[e9]
 |a+1,[],fs,l,m,h,hn,hk,hm,hp=>by simp at hn
 |a+1,c::es,fs,l,m,⟨l1,l2,h1,h2,h3,h4⟩,hn,hk,hm,hp=>by
  subst h1
  have hl1:=h3.1.length
  have ih:=RL.put (a:=a) h4 (by simp at hn;omega) hk hm hp
  refine⟨l1,Sw.splice l2 (a*k) m,?_,h2,h3,?_⟩
  ·have e1:(a+1)*k=l1.length+a*k:=by rw[Nat.succ_mul];omega
   unfold Sw.splice
   rw[e1,List.take_length_add_append,show l1.length+a*k+m.length=l1.length+(a*k+m.length)from by omega,List.drop_length_add_append]
   simp
  ·have e2:a+1+fs.length=(a+fs.length)+1:=by omega
   simpa[e2]using ih
def Qhs(P:Program)(H:Qc)(x:A)(k:Nat)(es:List (List A)):Prop:=
 ∀fr ro σ w v,Sim fr ro σ H w->VR ro σ w x v->(∃a c,v=.slice a es.length c)/\
  ∀j,j<=es.length->allK k (es.take j)/\ ∃l,(Builtin.firstCells k j v).run P w=.ok l.toArray w/\LR ro [] w (es.take j).flatten l/\ ∀v∈l,Qv v
theorem Qc7{fr ro:Nat->Prop}{σ:Sig}{w:World}{k j b off n c:Nat}{es:List (List A)}(h:RR ro [] w b k es off)(hj:j<=es.length):
  allK k (es.take j)/\ ∃l,(Builtin.firstCells k j (.slice (some ⟨b,off,none⟩) n c)).run P w=.ok l.toArray w/\LR ro [] w (es.take j).flatten l/\ ∀v∈l,Qv v:=by
 obtain⟨q1,q2,q3⟩:=(h.take j).flat
 rw[List.length_take,Nat.min_eq_left hj]at q3
 obtain⟨l,z1,z2⟩:=Qcl (P:=P) (n:=j) (c:=c) q1 q3
 refine⟨q2,l,?_,z2⟩
 exact z1 w rfl
theorem QbH{k n c:Nat}{a:Option Addr}{w:World}:(Builtin.firstCells k 0 (.slice a n c)).run P w=.ok #[] w:=by
 cases a<;>simp[Builtin.firstCells,loadCells,loadCellsFrom,go_sem]
theorem Qj0{α:Type}{e:α->List A}{k:Nat}{l:List α}:Qhs P H (.rsl k (l.map e)) k (l.map e):=by
 intro fr ro σ w v s ⟨a,c,h1,h2,h3⟩
 subst h1
 refine⟨⟨a,c,rfl⟩,fun j hj=>?_⟩
 rcases h3 with h3|⟨b,off,rfl,h4,h5⟩
 ·rw[h3]at hj⊢
  obtain rfl:j=0:=by simpa using hj
  exact⟨trivial,[],QbH,rfl,by simp⟩
 ·exact Qc7 (fr:=fr) (σ:=σ) h5 hj
theorem Qhs.osl{i s n k t:Nat}{es es':List (List A)}(hH:H[i]?=some (.row t k es))(he:(es.drop s).take n=es')(hn:s+n<=es.length):Qhs P H (.osl i s n k) k es':=by
 intro fr ro σ w v sm h
 have hl:es'.length=n:=by rw[<- he];simp;omega
 rcases h with⟨rfl,rfl⟩|⟨b,p,cap,t',m,h1,rfl,h2,h3,h4,h5⟩
 ·have e:es'=[]:=List.length_eq_zero_iff.1 hl
  subst e
  refine⟨⟨none,0,rfl⟩,fun j hj=>?_⟩
  obtain rfl:j=0:=by simpa using hj
  exact⟨trivial,[],QbH,rfl,by simp⟩
 ·rw[hl]
  refine⟨⟨_,cap,rfl⟩,fun j hj=>?_⟩
  obtain⟨l,q1,q2⟩:=sm.blk i _ _ h1 hH
  have hr:=((Ys (pre:=[]) (by simpa using q1) q2).drop s).take n
  rw[he]at hr
  by_cases hc:0<cap
  ·obtain rfl:=h2 hc
   simpa using Qc7 (P:=P) (fr:=fr) (σ:=σ) (n:=n) (c:=cap) hr (by rw[hl];exact hj)
  ·obtain rfl:j=0:=by omega
   exact⟨trivial,[],QbH,rfl,by simp⟩
theorem Qj1{α:Type}{e:α->List A}{b t k:Nat}{l r:List α}{a c:Int}(h:slc l a c=some r)(hH:H[b]?=some (.row t k (l.map e)):=by exact rfl):Qhs P H (.osl b (0+a.toNat) (c.toNat-a.toNat) k) k (r.map e):=by
 obtain⟨h0,h1,h2,h3⟩:=Qc2 h
 refine Qhs.osl hH ?_ (by rw[List.length_map];omega)
 rw[<- h3, <- List.map_drop, <- List.map_take,Nat.zero_add,List.drop_take]
def cpy{α:Type}(l:List α)(a c:Int)(m:List α):Option (List α):=some (l.take a.toNat++m.take (c.toNat-a.toNat)++l.drop (a.toNat+min m.length (c.toNat-a.toNat)))
theorem QcV{α:Type}{l r l' m:List α}{a c:Int}(h:slc l a c=some r)(hc:cpy l a c m=some l'):l.length=l'.length:=by
 obtain⟨h0,h1,h2,_⟩:=Qc2 h
 rw[<- Option.some.inj hc]
 simp only[List.length_append,List.length_take,List.length_drop]
 omega
theorem Qdt{α:Type}{l l' m:List α}(hc:cpy l 0 (l.length:Int) m=some l'):l.length=l'.length:=by
 rw[<- Option.some.inj hc]
 simp only[List.length_append,List.length_take,List.length_drop]
 simp
 omega
theorem Qem{α:Type}{e:α->List A}{c:Call}{T T' et k b a n t:Nat}{x y:Operand}{ya:A}{l m l':List α}(hab:a+n<=l.length)(hl':l.take a++m.take n++l.drop (a+min m.length n)=l')(hT:∀w,(underlying T).run P w=.ok (.slice et) w)(hsz:∀w,(sizeOf et).run P w=.ok k w)(hs:Qhs P H ya k (m.map e))
  (ho:o.op=.call c)(hc:c={callee:=.builtin .copy,args:= #[x,y],argTypes:= #[T,T']})(hx:opA env x=.osl b a n k)(hH:H[b]?=some (.row t k (l.map e)))(hy:opA env y=ya):
  OpH P o env H (.int .i64 (min m.length n:Nat)) (H.set b (.row t k (l'.map e))):=by
 intro fr ro σ N ac w r
 have h1:=Qg r x
 rw[hx]at h1
 have h2:=Qg r y
 rw[hy]at h2
 obtain⟨⟨ay,cy,e1⟩,q2⟩:=hs fr ro σ w _ r.sim h2
 rw[List.length_map]at e1 q2
 obtain⟨q3,lv,q4,q5,q6⟩:=q2 (min m.length n) (Nat.min_le_left _ _)
 have hlen:((m.map e).take (min m.length n)).length=min m.length n:=by rw[List.length_take,List.length_map];omega
 have hl2:l'.map e=(l.map e).take a++(m.map e).take (min m.length n)++(l.map e).drop (a+((m.map e).take (min m.length n)).length):=by
  rw[hlen, <- hl',List.map_append,List.map_append, <- List.map_take, <- List.map_take, <- List.map_drop]
  have e2:m.take (min m.length n)=m.take n:=by
   by_cases q:m.length<=n
   ·rw[Nat.min_eq_left q,List.take_length,List.take_of_length_le q]
   ·rw[Nat.min_eq_right (by omega)]
  rw[e2]
 have still:(Builtin.copy_ #[T,T'] o.type #[ac.eval x,ac.eval y]).run P w=.ok (.int .i64 (min m.length n:Nat)) w->min m.length n=0->
   ∃v w' ro' τ,(execOp ac.eval o).run P w=.ok (.value v) w'/\VR ro' (σ++τ) w' (.int .i64 (min m.length n:Nat)) v/\Sim fr ro' (σ++τ) (H.set b (.row t k (l'.map e))) w'/\Qf fr ro w ro' w':=by
  intro hrun hz
  have hs:H.set b (.row t k (l'.map e))=H:=by
   have:l'.map e=l.map e:=by rw[hl2,hlen,hz];simp
   rw[this]
   obtain⟨hb,hv⟩:=List.getElem?_eq_some_iff.1 hH
   rw[<- hv,List.set_getElem_self]
  refine⟨_,w,ro,[],?_,rfl,by simpa[hs]using r.sim,Qf.refl _ _ _⟩
  subst hc
  generalize ac.eval=ρ at*
  simp only[execOp,ho,resolve,Sem.run_bind,Sem.run_pure,Result.andThen,invoke,builtin,List.map_toArray,List.map_cons,List.map_nil,hrun]
 have hgo:∀j:Nat,goInt j=.int .i64 j:=fun _=>rfl
 rcases h1 with⟨hn,h1⟩|⟨bb,p,cap,t',mm,h1,h3,h4,h5,h6,h7⟩
 ·refine still ?_ (by omega)
  rw[e1]at q4⊢
  rw[h1]
  have:Nat.min m.length 0=min m.length n:=by rw[hn]
  simp only[Builtin.copy_,List.getElem?_toArray,List.getElem?_cons_zero,List.getElem?_cons_succ,Sem.run_bind,hT,hsz,Result.andThen,Builtin.lenOf,Sem.run_pure,this,q4,hgo]
 ·have hrun0:∀R:Result Unit,(storeCells ⟨bb,p,none⟩ lv).run P w=R->(Builtin.copy_ #[T,T'] o.type #[ac.eval x,ac.eval y]).run P w=R.andThen fun _ w=>.ok (.int .i64 (min m.length n:Nat)) w:=by
   intro R hR
   rw[e1]at q4⊢
   rw[h3]
   have:Nat.min m.length n=min m.length n:=rfl
   simp only[Builtin.copy_,List.getElem?_toArray,List.getElem?_cons_zero,List.getElem?_cons_succ,Sem.run_bind,hT,hsz,Result.andThen,Builtin.lenOf,Sem.run_pure,this,q4,hgo,hR]
  by_cases hn:min m.length n=0
  ·have hlv:lv=[]:=by
    have:=q5.length
    rw[hn]at this
    exact List.length_eq_zero_iff.1 (by simpa using this)
   refine still ?_ hn
   have:=hrun0 (.ok () w) (by rw[hlv];rfl)
   rw[this];rfl
  ·obtain rfl:=h4 (by omega)
   obtain⟨l0,g1,g2⟩:=r.sim.blk b _ _ h1 hH
   have hll:=g2.length
   have hlv:=q5.length
   rw[YB q3,hlen]at hlv
   have hrm:a*k+(min m.length n)*k<=l0.length:=by
    rw[<- Nat.add_mul]
    refine Nat.le_trans (Nat.mul_le_mul_right k ?_) hll
    rw[List.length_map];omega
   have hst:=Yr (P:=P) (vs:=lv) (a*k) 0 g1 (by omega) q6
   rw[Nat.add_zero]at hst
   have hrun:=hrun0 _ hst
   have hset:=r.sim.set (x':=.row t k (l'.map e)) (obj:=.cells (splice l0 (a*k) lv).toArray t (0,0)) h1 hH rfl
    (fun y hy=>QaP g1 (Q9 (by omega)) y hy)
    (fun ex hex=>⟨_,hex,by
     rw[hl2]
     exact(RL.put g2 (by rw[hlen,List.length_map];omega) q3 q5 q6).mono ex.nil⟩)
   refine⟨_,_,ro,[],?_,rfl,by simpa using hset.1,hset.2⟩
   subst hc
   generalize ac.eval=ρ at*
   simp only[execOp,ho,resolve,Sem.run_bind,Sem.run_pure,Result.andThen,invoke,builtin,List.map_toArray,List.map_cons,List.map_nil,hrun]
theorem QhH{α:Type}{e:α->List A}{c:Call}{T T' et k b t:Nat}{x y:Operand}{ya:A}{l m l':List α}(h:cpy l 0 (l.length:Int) m=some l')(hT:∀w,(underlying T).run P w=.ok (.slice et) w)(hsz:∀w,(sizeOf et).run P w=.ok k w)(hs:Qhs P H ya k (m.map e))
  (ho:o.op=.call c:=by exact rfl)(hc:c={callee:=.builtin .copy,args:= #[x,y],argTypes:= #[T,T']}:=by exact rfl)(hx:opA env x=.osl b 0 l.length k:=by exact rfl)(hH:H[b]?=some (.row t k (l.map e)):=by exact rfl)(hy:opA env y=ya:=by exact rfl):
  OpH P o env H (.int .i64 (min m.length l.length:Nat)) (H.set b (.row t k (l'.map e))):=by
 refine Qem (Nat.le_of_eq (Nat.zero_add _)) ?_ hT hsz hs ho hc hx hH hy
 rw[<- Option.some.inj h]
 rfl
theorem QhI{α:Type}{e:α->List A}{c:Call}{T T' et k b t:Nat}{x y:Operand}{ya:A}{l l1 m l':List α}{i j:Int}(hi:slc l i j=some l1)(h:cpy l i j m=some l')(hT:∀w,(underlying T).run P w=.ok (.slice et) w)(hsz:∀w,(sizeOf et).run P w=.ok k w)(hs:Qhs P H ya k (m.map e))
  (ho:o.op=.call c:=by exact rfl)(hc:c={callee:=.builtin .copy,args:= #[x,y],argTypes:= #[T,T']}:=by exact rfl)(hx:opA env x=.osl b (0+i.toNat) (j.toNat-i.toNat) k:=by exact rfl)(hH:H[b]?=some (.row t k (l.map e)):=by exact rfl)(hy:opA env y=ya:=by exact rfl):
  OpH P o env H (.int .i64 (min m.length (j.toNat-i.toNat):Nat)) (H.set b (.row t k (l'.map e))):=by
 obtain⟨h1,h2,h3,h4⟩:=Qc2 hi
 refine Qem (a:=i.toNat) (by omega) (Option.some.inj h) hT hsz hs ho hc ?_ hH hy
 rw[hx,Nat.zero_add]
end
end Go.Sw
namespace Go.Sw
open Go.MapKept
section
variable {fr ro ro':Nat->Prop}{σ:Sig}{H:Qc}{w:World}
theorem SO.toVR{t k:Nat}{rows:List (List A)}{v:Value}(ext:Ext ro [] w ro' [] w)(h:SO ro w t k rows v)(hr:∀c p n cap,v=.slice (some ⟨c,p,none⟩) n cap->ro' c):VR ro' [] w (.rsl k rows) v:=by
 rcases h with⟨rfl,rfl⟩|⟨c,p,cap,vs,q1,q2,q3,q4,q5,q6⟩
 ·exact⟨none,0,rfl,Nat.le_refl _,.inl rfl⟩
 ·refine⟨some ⟨c,p,none⟩,cap,q1,q2,?_⟩
  by_cases e:rows=[]
  ·exact .inl e
  ·obtain rfl:=q6 (Nat.lt_of_lt_of_le (List.length_pos_iff.2 e) q2)
   exact .inr ⟨c,0,rfl,hr c _ _ _ q1,Ys (pre:=[]) (by simpa using q3) (q5.mono ext)⟩
theorem QgO{t k:Nat}(ext:Ext ro [] w ro' [] w):∀{es:List (A×Option (List (List A)))}{l:List MapEntry},MO ro w t k es l->(∀e∈es,e.2.isSome=true)->(∀c,YO es l c->ro' c)->ER ro' [] w (es.map fun e=>(e.1,A.rsl k (e.2.getD []))) l
 |[],_,h,_,_=>h
 |x::r,_,⟨e,l',h1,h2,h3,h4⟩,ha,hr=>by
  subst h1
  have hx:=ha x (List.mem_cons_self ..)
  obtain⟨rows,hx2⟩:=Option.isSome_iff_exists.1 hx
  refine⟨e,l',rfl,h2.mono ext,?_,QgO ext h4 (fun e he=>ha e (List.mem_cons_of_mem _ he)) fun c hc=>hr c (.inr hc)⟩
  have:=(h3 rows hx2).toVR ext fun c p n cap hv=>hr c (.inl ⟨hx,p,n,cap,hv⟩)
  show VR ro' [] w (.rsl k (x.2.getD [])) e.val
  rw[hx2]
  exact this
theorem Sim.shutOF(s:Sim fr ro σ H w){i b t k:Nat}{es:List (A×Option (List (List A)))}(hσ:σ[i]?=some (some b))(hH:H[i]?=some (.mapO false t k es))(ha:∀e∈es,e.2.isSome=true):
  Sim fr (fun c=>ro c\/c=b\/Hid w (.mapO false t k es) b c) σ (H.set i (.fmap (es.map fun e=>(e.1,A.rsl k (e.2.getD []))))) w:=by
 have hown:b<w.heap.size/\ ¬ro b/\ ¬fr b:=s.own i b _ hσ hH rfl
 have hid:=fun c q=>s.hid i b _ c hσ hH q
 have ext:Ext ro σ w (fun c=>ro c\/c=b\/Hid w (.mapO false t k es) b c) σ w:=⟨fun _ q=>.inl q,fun _ _=>rfl,fun _ _ q=>q,fun _ _ q=>q⟩
 have hi:i<H.length:=(List.getElem?_eq_some_iff.1 hH).1
 have hcase:∀(j:Nat) (v:Blk),(H.set i (.fmap (es.map fun e=>(e.1,A.rsl k (e.2.getD [])))))[j]?=some v->(v.live=true\/ ∃d c,Hid w v d c)->j≠i/\H[j]?=some v:=by
  intro j v h hv
  by_cases e:j=i
  ·subst e
   rw[List.getElem?_set_self hi]at h
   cases h
   rcases hv with hv|⟨d,c,hv⟩
   ·cases hv
   ·exact hv.elim
  ·rw[List.getElem?_set_ne (fun q=>e q.symm)]at h;exact⟨e,h⟩
 refine⟨by rw[List.length_set];exact s.len,s.roOk.to (fun _ q=>.inl q) (fun _ _=>rfl) ?_,s.frLt,?_,?_,?_,?_,?_⟩
 ·rintro c (q|rfl|q)
  ·exact s.roLt c q
  ·exact hown.1
  ·exact(hid c q).lt
 ·rintro c (q|rfl|q)
  ·exact s.roFr c q
  ·exact hown.2.2
  ·exact(hid c q).fr
 ·intro j c v h1 h2 h3
  obtain⟨e,h2⟩:=hcase j v h2 (.inl h3)
  obtain⟨p1,p2,p3⟩:=s.own j c v h1 h2 h3
  refine⟨p1,?_,p3⟩
  rintro(q|rfl|q)
  ·exact p2 q
  ·exact e (s.inj j i c v _ h1 hσ h2 hH h3 rfl)
  ·exact(hid c q).ne j c v h1 h2 h3 rfl
 ·intro j j' c v v' h1 h2 h3 h4 h5 h6
  exact s.inj j j' c v v' h1 h2 (hcase j v h3 (.inl h5)).2 (hcase j' v' h4 (.inl h6)).2 h5 h6
 ·intro j y v h1 h2
  by_cases e:j=i
  ·subst e
   rw[List.getElem?_set_self hi]at h2
   cases h2
   rw[hσ]at h1;cases h1
   obtain⟨_,l,clock,p1,p2,p3,p4,p5,p6,_⟩:=s.blk j _ _ hσ hH
   exact⟨.inr (.inl rfl),l,clock,p1,QgO ext.nil p2 ha (fun c hc=>.inr (.inr ⟨l,clock,p1,hc⟩)),p4,p5,p6⟩
  ·rw[List.getElem?_set_ne (fun q=>e q.symm)]at h2
   exact(s.blk j y v h1 h2).keep ext (fun _ _ _=>rfl) (fun _ _ _ _=>rfl)
 ·intro j d y c h1 h2 h3
  obtain⟨e,h2⟩:=hcase j y h2 (.inr ⟨d,c,h3⟩)
  have g:=s.hid j d y c h1 h2 h3
  refine⟨g.lt,?_,g.fr,fun j' d' y' z1 z2 z3=>g.ne j' d' y' z1 (hcase j' y' z2 (.inl z3)).2 z3,fun j' d' y' z1 z2 z3=>g.one j' d' y' z1 (hcase j' y' z2 (.inr ⟨_,_,z3⟩)).2 z3⟩
  rintro(q|rfl|q)
  ·exact g.ro q
  ·exact g.ne i c _ hσ hH rfl rfl
  ·exact e ((g.one i b _ hσ hH q).2.symm)
end
def Qdd{α β:Type}:List (α×Option (List β))->Option (List (α×List β))
 |[]=>some []
 |(x,some r)::l=>(Qdd l).map ((x,r):: ·)
 |(_,none)::_=>none
theorem Qfc{α β:Type}{ek:α->A}{ev:β->List A}{k:Nat}:∀{l:List (α×Option (List β))}{m:List (α×List β)},Qdd l=some m->
  ((QI ek ev l).map fun e=>(e.1,A.rsl k (e.2.getD [])))=Qt ek (fun r=>A.rsl k (r.map ev)) m/\ ∀e∈QI ek ev l,e.2.isSome=true
 |[],m,h=>by obtain rfl:=Option.some.inj h;exact⟨rfl,fun e he=>by cases he⟩
 |(x,some r)::l,m,h=>by
  unfold Qdd at h
  cases q:Qdd l with
  |none=>rw[q]at h;cases h
  |some m'=>
   rw[q]at h
   obtain rfl:=Option.some.inj h
   obtain⟨h1,h2⟩:=Qfc (ek:=ek) (ev:=ev) (k:=k) q
   refine⟨?_,fun e he=>?_⟩
   ·unfold QI Qt at*
    simp only[List.map_cons,h1]
    rfl
   ·rcases List.mem_cons.1 he with rfl|he
    ·rfl
    ·exact h2 e he
 |(x,none)::l,m,h=>by cases h
theorem Qji{α β:Type}{ek:α->A}{ev:β->List A}{h0 i t k:Nat}{env:Env}{H:Qc}{l:List (α×Option (List β))}{m:List (α×List β)}(h:Qdd l=some m)(hH:H[i]?=some (.mapO false t k (QI ek ev l)):=by exact rfl):
  Le h0 env H env (H.set i (.fmap (Qt ek (fun r=>A.rsl k (r.map ev)) m))):=by
 intro fr ro σ N a w r
 obtain⟨e1,e2⟩:=Qfc (ek:=ek) (ev:=ev) (k:=k) h
 have hs:∃s,σ[i]?=some s:=by
  have:i<σ.length:=by rw[r.sim.len];exact(List.getElem?_eq_some_iff.1 hH).1
  exact⟨_,List.getElem?_eq_getElem this⟩
 obtain⟨s,hs⟩:=hs
 cases s with
 |none=>exact(r.sim.blk i _ _ hs hH).elim
 |some b=>
  have:=r.sim.shutOF hs hH e2
  rw[e1]at this
  exact⟨_,σ,⟨this,fun q=>(r.env q).mono ⟨fun _ q=>.inl q,fun _ _=>rfl,fun _ _ q=>q,fun _ _ q=>q⟩,r.size,r.defers⟩,fun _ q=>.inl q,rfl⟩
theorem Ojr{S B:Type}{d D:Ctl S B}{x:B}(hb:∀b,d=.done b->D=.done b)(h:some (Ctl.done x)=some d):D=.done x:=hb x (Oi h).symm
theorem Qjh{α β:Type}{ek:α->A}{ev:β->List A}{h0 i t k:Nat}{env:Env}{H H':Qc}{l:List (α×Option (List β))}{m:List (α×List β)}(h:Qdd l=some m)(hH:H[i]?=some (.mapO false t k (QI ek ev l)):=by exact rfl)
  (e:H.set i (.fmap (Qt ek (fun r=>A.rsl k (r.map ev)) m))=H':=by exact rfl):Le h0 env H env H':=e▸Qji h hH
end Go.Sw
