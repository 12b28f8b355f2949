/- The rules by which the code is walked, with what they rest on (part 3). -/
import Derived.Test.YtbhpipneolcmkaaGreatDoorL2
import Derived.Laws.BytesString
import Derived.Shelf.Spec.SlicesInsertGrow
set_option linter.unusedVariables false
set_option linter.unusedSectionVars false
set_option linter.unusedSimpArgs false
namespace Go.Sw
section
variable {P:Program} {o:Oper} {env:Env} {H:Qb}
theorem Qk4{ro:Nat->Prop}{σ:Sig}{w:World}{b:Nat}{l:List Int}{off:Nat}(h:CR ro σ w b (l.map λn=>A.int .u8 n) off):(loadCells ⟨b,off,none⟩ l.length).run P w=.ok (l.map λn=>Value.int .u8 n).toArray w:=by
 obtain⟨vs,g,_,k⟩:=YE (P:=P) 0 (by simpa using h);have e:∀(l:List Int) (vs:List Value),LR ro σ w (l.map λn=>A.int .u8 n) vs->vs=l.map λn=>Value.int .u8 n:=by
  intro l
  induction l with
  |nil=>intro vs h;exact h
  |cons n l i=>
   rintro vs ⟨v,f,rfl,a,j⟩;have d:v=.int .u8 n:=a
   grind
 grind[loadCells]
theorem QjB:∀(l:List Int) (acc:ByteArray),l.foldl (λr n=>r.push (UInt8.ofNat n.toNat)) acc=⟨acc.data++(l.map Yc).toArray⟩
 |[],acc=>by simp
 |n::l,acc=>by
  rw[XB,QjB l];simp[Yc]
theorem QcM{t u e:TypeId}{x:Operand}{ax:A}{l:List Int}(k:QlS P H ax l)(i:∀w,(underlying t).run P w=.ok (.slice e) w)(he:∀w,(underlying e).run P w=.ok (.int .u8) w)(h:∀w,(underlying u).run P w=.ok .string w)
  (z:o.op=.convert t u x:=by exact rfl)(hx:opA env x=ax:=by exact rfl):OpV P o env H (.str (l.map Yc)):=by
 intro p y σ N a w r;have j:=Qi r x;rw[hx]at j;refine⟨.string ⟨(l.map Yc).toArray⟩,?_,rfl⟩;have q:(convert t u (a.eval x)).run P w=.ok (.string ⟨(l.map Yc).toArray⟩) w:=by
  rcases k p y σ w _ r.sim j with⟨ad,c,f,rfl⟩|⟨b,d,c,f,g⟩
  .rw[f];cases ad with
   |none=>simp[convert,i,h,he,go_sem];rfl
   |some ad=>simp[convert,i,h,he,loadCells,go_sem];rfl
  .rw[f];have m:(loadCells ⟨b,d,none⟩ l.length).run P w=.ok (l.map λn=>Value.int .u8 n).toArray w:=by
    rcases g with rfl|g
    .rfl
    .exact Qk4 g
   have s:(convert t u (.slice (some ⟨b,d,none⟩) l.length c)).run P w=(Conv.bytesToString (.slice (some ⟨b,d,none⟩) l.length c)).run P w:=by
    simp[convert,i,h,he,go_sem]
   rw[s,run_bytesToString w ⟨b,d,none⟩ l.length c l m,QjB];simp
 simp_all[execOp]
theorem QnS{t u:TypeId}{x y:Operand}{p q:List UInt8}(ho:o.op=.binOp .gtr t x y u)(hx:opA env x=.str p)(hy:opA env y=.str q):OpV P o env H (.bool (!(Op.bytesLess p q||p==q))):=
 QcJ (f:=λa b=> !(Op.bytesLess a b||a==b)) ho hx hy (by simp)
end
structure TyX where
 ty:TyI
 al:List (Nat×A)
 sl:List Nat
structure Qba (P:Program) (T:TyX):Prop where
 ty:TyOK P T.ty
 al:∀e∈T.al,(∃z,(∀w,(zeroValue e.1).run P w=.ok z w)/\ZR e.2 z)/\Yr e.2=true/\(YA e.2).all Yz=true
 sl:∀t∈T.sl,∃et,∀w,(underlying t).run P w=.ok (.slice et) w
def Y8(all:Array Oper)(o:Oper)(env:Env):Option Bool:=
 match o.guard with
 |none=>some true
 |some (j,c)=>match(all[j]?).bind (·.dst)with
  |none=>none
  |some d=>match lk env d with
   |.bool true=>some c
   |.bool false=>some (!c)
   |.tup []=>some false
   |_=>none
theorem QW{all:Array Oper}{o:Oper}{env:Env}{b:Bool}(h:Y8 all o env=some b):QA all o env b:=by
 unfold Y8 at h;unfold QA;split at h
 .grind
 .rename_i j c q;split at h
  .cases h
  .split at h
   .simp_all
   .simp_all
   .grind
   .cases h
def Qer:List Nat->Nat->Bool
 |[],_=>false
 |a::r,t=>bif Nat.beq a t then true else Qer r t
theorem Qit{l:List Nat}{t:Nat}(h:Qer l t=true):t∈l:=by
 induction l with
 |nil=>cases h
 |cons a r d=>
  grind[Qer,Nat.eq_of_beq_eq_true]
inductive FL where
 |mk (l:List A)
def fl:List A->FL
 |[]=>.mk []
 |a::r=>match fl r with
  |.mk r'=>.mk (a::r')
theorem QcU:∀l,fl l=.mk l
 |[]=>rfl
 |a::r=>by unfold fl;rw[QcU r]
inductive FB where
 |mk (l:List Blk)
def fb:List Blk->FB
 |[]=>.mk []
 |a::r=>match fb r with
  |.mk r'=>.mk (a::r')
theorem Qmy:∀l,fb l=.mk l
 |[]=>rfl
 |a::r=>by unfold fb;rw[Qmy r]
inductive FN where
 |mk (n:Nat)
def fn:List Blk->Nat->FN
 |[],n=>.mk n
 |_::r,n=>fn r (n+1)
theorem QoU:∀(l:List Blk) (n:Nat),fn l n=.mk (l.length+n)
 |[],n=>by simp[fn]
 |a::r,n=>by unfold fn;rw[QoU r];simp;omega
def Qmw(env:Env)(pl:List (Nat×Nat)):List A->List (Nat×Operand)->Option (List A)
 |cs,[]=>some cs
 |cs,(i,x)::r=>match Jb pl i with
  |none=>none
  |some (off,size)=>match opB env x with
   |.mk a=>match fl (YA a)with
    |.mk vs=>bif Yr a&&Nat.beq vs.length size&&Nat.ble (off+size) cs.length then(match fl (splice cs off vs)with
     |.mk cs'=>Qmw env pl cs' r)else none
theorem Qj2{env:Env}{pl:List (Nat×Nat)}:∀(parts:List (Nat×Operand)) (cs:List A),Qmw env pl cs parts=Qe0 env pl cs parts
 |[],cs=>rfl
 |(i,x)::r,cs=>by
  unfold Qmw Qe0;rw[QaC];cases pl[i]? with
  |none=>rfl
  |some q=>
   obtain⟨off,size⟩:=q;cases h:opB env x with
   |mk a=>
    rw[QS h];simp[QcU];cases(Yr a&&Nat.beq (YA a).length size&&Nat.ble (off+size) cs.length)with
    |false=>rfl
    |true=>exact Qj2 r _
def Qlg(env:Env):List Operand->List A
 |[]=>[]
 |x::r=>match opB env x with
  |.mk a=>a::Qlg env r
theorem QdG{env:Env}:∀l,Qlg env l=l.map (opA env)
 |[]=>rfl
 |x::r=>by
  unfold Qlg;cases h:opB env x with
  |mk a=>rw[Vd,QS h];rw[QdG r]
def ptX(H:Qb):Bx->Option Lx
 |.mk (.rp cs)=>some (.mk cs)
 |.mk (.ptr i off)=>match Jb H i with
  |some (.cells _ cs)=>some (QgM off cs)
  |_=>none
 |_=>none
theorem Qrc{H:Qb}{p:A}{cs:List A}(h:ptX H (.mk p)=some (.mk cs)):Pts H p cs:=by
 unfold ptX at h
 grind[Pts.rp,QaC,Pts.cells,QdY]
def Qeh(T:TyX)(o:Oper)(env:Env)(H:Qb):Option A:=
 match o.op with
 |.move x=>match opB env x with|.mk a=>some a
 |.assign x=>match opB env x with|.mk a=>some a
 |.nilCheck x=>nlB (opB env x)
 |.extract x i=>exB (opB env x) i
 |.unOp u _ x=>unB u (opB env x)
 |.pick c x y=>piB (opB env c) (opB env x) (opB env y)
 |.binOp b _ x y _=>biB b (opB env x) (opB env y)
 |.fieldAddr t x f=>match QjY T.ty.fld t f with
  |none=>none
  |some off=>match opB env x with
   |.mk (.ptr i p)=>some (.ptr i (p+off))
   |.mk (.rp cs)=>match QgM off cs with
    |.mk r=>some (.rp r)
   |_=>none
 |.load t x=>match Qb5 T.ty.agg t with
  |none=>none
  |some (b,n)=>match x with
   |.global g=>match Jb Qlk g with
    |some zs=>bif b&&Nat.beq zs.length n then(match fl (zs.map (A.int .i64))with|.mk l=>some (.agg l))else none
    |none=>none
   |x=>match ptX H (opB env x)with
    |none=>none
    |some (.mk cs)=>match b with
     |true=>(match fl (cs.take n)with|.mk l=>bif Nat.beq l.length n then some (.agg l)else none)
     |false=>(match cs with|[]=>none|a::_=>some a)
 |.build t parts=>match Qb5 T.ty.zer t with
  |none=>none
  |some (zs,pl)=>match Qmw env pl zs parts.toList with
   |some cs=>some (.agg cs)
   |none=>none
 |.makeFunc f first cap=>match fl (Qlg env first.toList),fl (Qlg env cap.toList)with
  |.mk l,.mk l'=>some (.fn f l l')
 |.call c=>match c with
  |{callee:=.builtin .len,args:=⟨[x]⟩,argTypes:=⟨[t]⟩}=>bif Qer T.sl t then(match opB env x with
   |.mk (.osl _ 0 n _)=>some (.int .i64 n)
   |_=>none)else none
  |_=>none
 |_=>none
theorem Qax{P:Program}{T:TyX}(l:Qba P T){o:Oper}{env:Env}{H:Qb}{x:A}(h:Qeh T o env H=some x):OpV P o env H x:=by
 unfold Qeh at h;split at h
 .simp_all[Qb6,svB]
 .simp_all[Qb6,svB]
 .simp_all[Qb6,svB]
 .simp_all[Qb6,svB]
 .simp_all[Qb6,svB]
 .simp_all[Qb6,svB]
 .simp_all[Qb6,svB]
 .rename_i t y f a;split at h
  .cases h
  .rename_i u s;obtain⟨n,O⟩:=l.ty.fld _ (QjX s);split at h
   .grind[YJ,QS]
   .rename_i j Q;cases q:QgM u j with
    |mk r=>rw[q]at h;grind[QD,QS,QdY]
   .cases h
 .rename_i t y a;split at h
  .cases h
  .rename_i b n J;obtain⟨d,m⟩:=l.ty.agg _ (Qay J);split at h
   .rename_i g;split at h
    .rename_i E w;rw[QaC]at w;cases q:(b&&Nat.beq E.length n)with
     |false=>grind
     |true=>
      rw[q,QcU]at h;cases h;simp only[XT]at q;obtain⟨rfl,B⟩:=q;exact Qh5 d m w (by simp_all) a
    .cases h
   .cases e:opB env y with
    |mk p=>
     rw[e]at h;split at h
     .cases h
     .rename_i j L;have N:=Qrc L;cases b with
      |true=>
       simp only[QcU]at h;cases q:Nat.beq (j.take n).length n with
       |false=>grind
       |true=>
        rw[q]at h;cases h;exact Qn a d m (QS e) N rfl (by simp_all)
      |false=>
       grind[OpV.load,QS]
 .rename_i t parts a;split at h
  .cases h
  .rename_i E V G;obtain⟨⟨z,d,m⟩,M⟩:=l.ty.zer _ (Qay G);split at h
   .rename_i j s;cases h;rw[Qj2]at s;exact OpV.build d m M (by rw[a]) s
   .cases h
 .rename_i f first cap a
  simp only[QcU]at h;cases h;rw[QdG,QdG];exact OpV.makeFunc (first:=first.toList) (cap:=cap.toList) (by rw[a]) rfl rfl
 .rename_i c a;split at h
  .rename_i y t;cases q:Qer T.sl t with
   |false=>grind
   |true=>
    rw[q]at h;obtain⟨R,F⟩:=l.sl t (Qit q);split at h
    .rename_i i n k B;cases h;exact QnU F a rfl (QS B)
    .cases h
  .cases h
 .cases h
def stX(T:TyX)(h0 N:Nat)(all:Array Oper)(o:Oper)(env:Env)(H:Qb):Option (Env×Qb):=
 match Y8 all o env with
 |none=>none
 |some false=>match o.dst with
  |none=>none
  |some d=>bif Nat.blt d N then some (up env d (.tup []),H)else none
 |some true=>match o.dst with
  |none=>match o.op with
   |.store t x y=>match opB env x,Qb5 T.ty.agg t with
    |.mk (.ptr i off),some (_,n)=>match Jb H i with
     |some (.cells S cs)=>match opB env y with
      |.mk a=>match fl (YA a)with
       |.mk vs=>bif Nat.ble h0 H.length&&(Yr a&&(Nat.beq vs.length n&&(vs.all Yz&&Nat.ble (off+n) cs.length)))then(match fl (splice cs off vs)with
        |.mk cs'=>match fb (H.set i (.cells S cs'))with
         |.mk H'=>some (env,H'))else none
     |_=>none
    |_,_=>none
   |_=>none
  |some d=>bif Nat.blt d N then(match o.op with
   |.alloc t=>match Qb5 T.al t with
    |some v=>bif Nat.ble h0 H.length then(match fn H 0,fl (YA v)with
     |.mk n,.mk cs=>match fb (H++[.cells t cs])with
      |.mk H'=>some (up env d (.ptr n 0),H'))else none
    |none=>none
   |.box t x=>match opB env x with
    |.mk a=>bif Nat.ble h0 H.length&&(Yr a&&(YA a).all Yz)then(match fn H 0,fl (YA a)with
     |.mk n,.mk cs=>match fb (H++[.cells t cs])with
      |.mk H'=>some (up env d (.ptr n 0),H'))else none
   |_=>match Qeh T o env H with
    |some a=>some (up env d a,H)
    |none=>none)else none
def runX(T:TyX)(h0 N:Nat)(all:Array Oper):Nat->List Oper->Env->Qb->Option (List Oper×Env×Qb)
 |0,l,env,H=>some (l,env,H)
 |_+1,[],_,_=>none
 |n+1,o::l,env,H=>match stX T h0 N all o env H with
  |some (env',H')=>runX T h0 N all n l env' H'
  |none=>none
section
variable {P:Program} {T:TyX} {h0 N:Nat} {all:Array Oper} {l l':List Oper} {env env':Env} {H H':Qb} {Q:QV}
theorem QkZ(m:Qba P T){o:Oper}(h:stX T h0 N all o env H=some (env',H'))(k:WO P h0 N all l env' H' Q):WO P h0 N all (o::l) env H Q:=by
 unfold stX at h;split at h
 .cases h
 .grind[QW,WO.skip]
 .rename_i w;have j:=QW w;split at h
  .rename_i g;split at h
   .rename_i t x y f;split at h
    .rename_i i r b n u O;split at h
     .rename_i S cs hH;rw[QaC]at hH;cases e:opB env y with
      |mk a=>
       rw[e]at h;simp only[QcU,Qmy]at h;generalize hc:(Nat.ble h0 H.length&&(Yr a&&(Nat.beq (YA a).length n&&((YA a).all Yz&&Nat.ble (r+n) cs.length))))=c at h;cases c with
       |false=>cases h
       |true=>
        cases h;simp only[XT]at hc;obtain⟨c1,p,s,M,B⟩:=hc;obtain⟨_,G⟩:=m.ty.agg _ (Qay O);exact QbV (by simp_all) j g (OpU.store f (QS u) hH G (QS e) p rfl (by simp_all) M B rfl) k
     .cases h
    .cases h
   .cases h
  .rename_i d g;cases q:Nat.blt d N with
   |false=>grind
   |true=>
    rw[q]at h;split at h
    .rename_i t f;split at h
     .rename_i v F;cases c:Nat.ble h0 H.length with
      |false=>grind
      |true=>
       rw[c]at h;simp only[QcU,Qmy,QoU,Vi]at h;cases h;obtain⟨⟨z,R,L⟩,E,V⟩:=m.al _ (Qay F);exact Js (by simp_all) j g q (Qdo R L f E rfl V) k
     .cases h
    .rename_i t x f;cases e:opB env x with
     |mk a=>
      rw[e]at h;simp only[QcU,Qmy,QoU]at h;generalize hc:(Nat.ble h0 H.length&&(Yr a&&(YA a).all Yz))=c at h;cases c with
      |false=>cases h
      |true=>
       cases h;simp only[XT]at hc;obtain⟨c1,p,s⟩:=hc;exact Js (by simp_all) j g q (OpH.box f (QS e) p rfl s) k
    .split at h
     .rename_i a J;cases h;exact QP j g q (Qax m J) k
     .cases h
theorem AU(hT:Qba P T):∀(n:Nat) {l l':List Oper} {env env':Env} {H H':Qb},runX T h0 N all n l env H=some (l',env',H')->WO P h0 N all l' env' H' Q->WO P h0 N all l env H Q
 |0,l,l',env,env',H,H',h,k=>by cases h;exact k
 |n+1,[],l',env,env',H,H',h,k=>by cases h
 |n+1,o::l,l',env,env',H,H',h,k=>by
  unfold runX at h;split at h
  .rename_i e1 H1 hs;exact QkZ hT hs (AU hT n h k)
  .cases h
end
theorem FA{P:Program}{T f off n:Nat}{fs:Array Field}{a:Field}(d:∀w,(underlying T).run P w=.ok (.struct fs) w)(g:fs[f]?=some a)(e:∀w,(sizeOf a.type).run P w=.ok n w)(h:a.offset=off:=by exact rfl)(h5:n≠0:=by decide):QI P T f off n:=⟨_,_,d,g,h,e,h5⟩
theorem QeO:∀(π:List Nat) (H:Qb) (xs:List Blk),π.map (λp=>H[p]?)=xs.map some->YH H π xs=H
 |[],H,xs,h=>by
  simp_all[YH]
 |p::π,H,[],h=>by simp at h
 |p::π,H,x::xs,h=>by
  simp[Vd,List.cons.injEq]at h;have e:H.set p x=H:=by
   apply List.ext_getElem?
   grind
  unfold YH;rw[e];exact QeO π H xs h.2
def Qm3:A->Option Bx
 |.bool b=>some (.mk (.bool b))
 |.int k n=>some (.mk (.int k n))
 |.str s=>some (.mk (.str s))
 |.rsl k es=>some (.mk (.rsl k es))
 |_=>none
theorem QpZ{v a:A}(h:Qm3 v=some (.mk a))(ρ:Nat->Nat):Jg ρ v=a:=by
 cases v<;>first|(cases h;rfl)|cases h
theorem Pc{P:Program}{h0 N:Nat}{all:Array Oper}{o:Oper}{l:List Oper}{env:Env}{H:Qb}{Q:QV}{d:Nat}{f:FuncId}{args e:List A}{Hc:Qb}{v h:A}(π:List Nat)(j:o.dst=some d)(g:OpC P o env H f args)(i:C P f e Hc (λa H1=>a=v/\H1=Hc))(m:Qm3 v=some (.mk h))
  (k:WO P h0 N all l (up env d h) H Q)
  (hargs:args=Qak (rho π H.length) e:=by exact rfl)(hH:π.map (λp=>H[p]?)=(Hc.map (Yi (rho π H.length))).map some:=by exact rfl)(hπ:π.Nodup:=by decide)
  (hg:QA all o env true:=by exact rfl)(hN:Nat.blt d N=true:=by exact rfl)(hh:Nat.ble h0 H.length=true:=by exact rfl):WO P h0 N all (o::l) env H Q:=by
 refine QX π g i ?_ hargs hH hπ hg j hN hh
 simp_all[QpZ,QeO]
theorem Jl{i k:Nat}{es:List (List A)}:∀H,FzH i k es H H
 |[]=>.nil
 |_::r=>.keep (Jl r)
def foN:Nat->FN
 |0=>.mk 0
 |n+1=>match foN n with
  |.mk m=>.mk (m+1)
theorem Qgg:∀n,foN n=.mk n
 |0=>rfl
 |n+1=>by unfold foN;rw[Qgg n]
mutual
def foA:A->Bx
 |.agg cs=>match foL cs with
  |.mk l=>.mk (.agg l)
 |.tup cs=>match foL cs with
  |.mk l=>.mk (.tup l)
 |.fn f a c=>match foL a,foL c with
  |.mk l,.mk l'=>.mk (.fn f l l')
 |.iface t v=>match foA v with
  |.mk v'=>.mk (.iface t v')
 |.ptr i off=>match foN i with
  |.mk i'=>.mk (.ptr i' off)
 |.osl i o n k=>match foN i with
  |.mk i'=>.mk (.osl i' o n k)
 |.map i=>match foN i with
  |.mk i'=>.mk (.map i')
 |a=>.mk a
def foL:List A->FL
 |[]=>.mk []
 |a::r=>match foA a,foL r with
  |.mk a',.mk r'=>.mk (a'::r')
end
mutual
theorem QiA:∀a:A,foA a=.mk a
 |.agg cs=>by unfold foA;rw[Qdd cs]
 |.tup cs=>by unfold foA;rw[Qdd cs]
 |.fn f a c=>by unfold foA;rw[Qdd a,Qdd c]
 |.iface t v=>by unfold foA;rw[QiA v]
 |.ptr i off=>by unfold foA;rw[Qgg]
 |.osl i o n k=>by unfold foA;rw[Qgg]
 |.map i=>by unfold foA;rw[Qgg]
 |.any|.bool _|.int _ _|.str _|.nilp|.rp _|.nils|.rsl _ _|.nilf|.nilif|.nilm=>by rfl
theorem Qdd:∀l:List A,foL l=.mk l
 |[]=>by rfl
 |a::r=>by unfold foL;rw[QiA a,Qdd r]
end
inductive FE2 where
 |mk (l:List (List A))
def foE:List (List A)->FE2
 |[]=>.mk []
 |a::r=>match foL a,foE r with
  |.mk a',.mk r'=>.mk (a'::r')
theorem QoR:∀l,foE l=.mk l
 |[]=>rfl
 |a::r=>by unfold foE;rw[Qdd,QoR r]
def foH:List Blk->FB
 |[]=>.mk []
 |b::r=>match foH r with
  |.mk r'=>match b with
   |.cells t cs=>match foL cs with
    |.mk l=>.mk (.cells t l::r')
   |.rowr t k es=>match foE es with
    |.mk l=>.mk (.rowr t k l::r')
   |.dead=>.mk (.dead::r')
   |.row t k es=>.mk (.row t k es::r')
   |.map es=>.mk (.map es::r')
   |.iter c es=>.mk (.iter c es::r')
   |.fmap es=>.mk (.fmap es::r')
   |.mapO fz t k es=>.mk (.mapO fz t k es::r')
   |.mapP es=>.mk (.mapP es::r')
   |.frow t k es=>.mk (.frow t k es::r')
   |.ents t a b es=>match foN a,foN b with
    |.mk a',.mk b'=>.mk (.ents t a' b' es::r')
theorem Qlm:∀l,foH l=.mk l
 |[]=>rfl
 |b::r=>by
  unfold foH;rw[Qlm r];cases b<;>simp[Qdd,QoR,Qgg]
def foS(env:Env)(H:Qb):Option (Env×Qb):=
 match foH H with
 |.mk H'=>match env with
  |[]=>some ([],H')
  |(d,a)::e=>match foA a with
   |.mk a'=>some ((d,a')::e,H')
theorem Qrr(env:Env)(H:Qb):foS env H=some (env,H):=by
 unfold foS;rw[Qlm];cases env with
 |nil=>rfl
 |cons p e=>simp[QiA]
theorem FE{P:Program}{h0 N:Nat}{all:Array Oper}{l:List Oper}{env env':Env}{H H':Qb}{Q:QV}(h:foS env H=some (env',H'))(k:WO P h0 N all l env' H' Q):WO P h0 N all l env H Q:=by
 rw[Qrr]at h
 grind
def entB(b1 b2:Nat):List (List A)->Option (List Ent)
 |[]=>some []
 |[.ptr b off,.int .i64 lo,.int .i64 hi]::r=>match entB b1 b2 r with
  |none=>none
  |some l=>match Nat.beq b b2 with
   |true=>some (⟨true,off,lo,hi⟩::l)
   |false=>match Nat.beq b b1 with
    |true=>some (⟨false,off,lo,hi⟩::l)
    |false=>none
 |_=>none
theorem Qqy{b1 b2:Nat}:∀{es:List (List A)} {l:List Ent},entB b1 b2 es=some l->l.map (eC b1 b2)=es:=by
 intro es
 induction es with
 |nil=>intro l h;cases h;rfl
 |cons e r d=>
  intro l h;unfold entB at h;split at h
  .grind
  .rename_i b f lo g j q;cases q;split at h
   .cases h
   .rename_i i a;have e:=d a;split at h
    .rename_i q;cases h;have:=XN q;subst this;rw[Vd,e];rfl
    .split at h
     .rename_i q;cases h;have:=XN q;subst this;rw[Vd,e];rfl
     .cases h
  .cases h
theorem TE{P:Program}{h0 N:Nat}{all:Array Oper}{l:List Oper}{env:Env}{H:Qb}{Q:QV}{t:Nat}{es:List (List A)}{L:List Ent}(i b1 b2:Nat)(hH:H[i]?=some (.rowr t 3 es))(h:entB b1 b2 es=some L)
  (k:WO P h0 N all l env (H.set i (.ents t b1 b2 L)) Q):WO P h0 N all l env H Q:=QH (Qn0 hH (Qqy h)) k
theorem R1{P:Program}{h0:Nat}{fn:Func}{env:Env}{H Hc:Qb}{v:A}(s:Nat)(hr:fn.results= #[.tmp s])(hle:Le h0 env H [(s,v)] Hc):QaE P h0 fn (λa H=>a=v/\H=Hc) .ret env H:=
 ⟨[(s,v)],Hc,v,hle,Qd5.one hr (by simp_all[lk]),rfl,rfl⟩
theorem R2{P:Program}{h0:Nat}{fn:Func}{env:Env}{H Hc:Qb}{v v':A}(s t:Nat)(hr:fn.results= #[.tmp s,.tmp t])(hn:Nat.beq t s=false)(hle:Le h0 env H [(s,v),(t,v')] Hc):QaE P h0 fn (λa H=>a=.tup [v,v']/\H=Hc) .ret env H:=
 ⟨[(s,v),(t,v')],Hc,_,hle,QnM hr (by simp_all[lk]) (by simp_all[lk]),rfl,rfl⟩
theorem FzA.o{i k n:Nat}{es:List (List A)}(a:n=es.length:=by first|exact(XX ..).symm|exact rfl):FzA i k es (.osl i 0 n k) (.rsl k es):=FzA.own a
theorem Le.env{h0:Nat}{env env':Env}{H:Qb}(h:∀s,lk env' s=.any\/lk env' s=lk env s):Le h0 env H env' H:=by
 intro e d σ N a w r;refine⟨d,σ,⟨r.sim,λs=>?_,r.size,r.defers⟩,λ_ q=>q,rfl⟩;rcases h s with h|h
 .rw[h];trivial
 .rw[h];exact r.env s
def QqW(env:Env):Env->Prop
 |[]=>True
 |(s,a)::r=>lk env s=a/\QqW env r
theorem QqW.ok{env:Env}:∀{env':Env},QqW env env'->∀s,lk env' s=.any\/lk env' s=lk env s
 |[],_,s=>.inl rfl
 |(d,a)::e,⟨h1,h2⟩,s=>by
  by_cases q:s=d
  .simp_all[lk]
  .have:Nat.beq s d=false:=by
    simp_all[VG]
   simp[lk,this];exact QqW.ok h2 s
inductive Kf where
 |seq (c:Code)
 |blo (id:Nat)
 |unr (c:Code)
inductive Cf where
 |code (c:Code)
 |ops (all:Array Oper) (l:List Oper)
 |out (x:AEx)
def kq(P:Program)(h0 N:Nat):List Kf->QV->QV
 |[],Q=>Q
 |.seq c::k,Q=>Seq P h0 N c (kq P h0 N k Q)
 |.blo id::k,Q=>Blo id (kq P h0 N k Q)
 |.unr c::k,Q=>QlR P h0 N c (kq P h0 N k Q)
@[reducible] def Hd(P:Program)(h0 N:Nat):Cf->List Kf->Env->Qb->QV->Prop
 |.code c,k,env,H,Q=>TC P h0 N c env H (kq P h0 N k Q)
 |.ops all l,k,env,H,Q=>WO P h0 N all l env H (kq P h0 N k Q)
 |.out x,k,env,H,Q=>kq P h0 N k Q x env H
def Qhl(T:TyX)(h0 N:Nat):Cf->List Kf->Env->Qb->Option (Cf×List Kf×Env×Qb)
 |.code (.seq a b),k,env,H=>some (.code a,.seq b::k,env,H)
 |.code (.block id c),k,env,H=>some (.code c,.blo id::k,env,H)
 |.code (.loop c),k,env,H=>some (.code c,.unr c::k,env,H)
 |.code .skip,k,env,H=>some (.out .normal,k,env,H)
 |.code .ret,k,env,H=>some (.out .ret,k,env,H)
 |.code (.exit id),k,env,H=>some (.out (.exit id),k,env,H)
 |.code (.region id ⟨l⟩ false),k,env,H=>some (.ops ⟨l⟩ l,k,env,H)
 |.code (.cond x a b),k,env,H=>match opB env x with
  |.mk (.bool true)=>some (.code a,k,env,H)
  |.mk (.bool false)=>some (.code b,k,env,H)
  |_=>none
 |.ops all [],k,env,H=>some (.out .normal,k,env,H)
 |.ops all (o::l),k,env,H=>match stX T h0 N all o env H with
  |some (env',H')=>some (.ops all l,k,env',H')
  |none=>none
 |.out .normal,.seq c::k,env,H=>some (.code c,k,env,H)
 |.out (.exit i),.seq _::k,env,H=>some (.out (.exit i),k,env,H)
 |.out .ret,.seq _::k,env,H=>some (.out .ret,k,env,H)
 |.out .normal,.blo _::k,env,H=>some (.out .normal,k,env,H)
 |.out (.exit i),.blo id::k,env,H=>match Nat.beq i id with
  |true=>some (.out .normal,k,env,H)
  |false=>some (.out (.exit i),k,env,H)
 |.out .ret,.blo _::k,env,H=>some (.out .ret,k,env,H)
 |.out .normal,.unr c::k,env,H=>some (.code c,.unr c::k,env,H)
 |.out (.exit i),.unr _::k,env,H=>some (.out (.exit i),k,env,H)
 |.out .ret,.unr _::k,env,H=>some (.out .ret,k,env,H)
 |_,_,_,_=>none
def Qdw(T:TyX)(h0 N:Nat):Nat->Cf->List Kf->Env->Qb->Option (Cf×List Kf×Env×Qb)
 |0,c,k,env,H=>some (c,k,env,H)
 |n+1,c,k,env,H=>match Qhl T h0 N c k env H with
  |some (c',k',env',H')=>Qdw T h0 N n c' k' env' H'
  |none=>none
section
variable {P:Program} {T:TyX} {h0 N:Nat} {Q:QV}
theorem Qoe(e:Qba P T){c d:Cf}{k a:List Kf}{env env':Env}{H H':Qb}(h:Qhl T h0 N c k env H=some (d,a,env',H'))(g:Hd P h0 N d a env' H' Q):Hd P h0 N c k env H Q:=by
 unfold Qhl at h;split at h
 .cases h;exact TC.seq g
 .cases h;exact TC.block g
 .cases h;exact QnL g
 .cases h;exact TC.skip g
 .cases h;exact TC.ret g
 .cases h;exact TC.exit g
 .cases h;exact TC.region g
 .split at h
  .rename_i q;cases h;exact QkB (QS q) rfl g
  .rename_i q;cases h;exact QkC (QS q) rfl g
  .cases h
 .cases h;exact WO.nil g
 .grind[QkZ]
 .cases h;exact seqN g
 .cases h;exact seqX g
 .cases h;exact seqR g
 .cases h;exact bloN g
 .split at h
  .rename_i q;cases h;have:=XN q;subst this;exact bloE g
  .rename_i q;cases h;exact bloX q g
 .cases h;exact bloR g
 .cases h;exact unrN g
 .cases h;exact unrX g
 .cases h;exact unrR g
 .cases h
theorem Qdv(hT:Qba P T):∀(n:Nat) {c c':Cf} {k k':List Kf} {env env':Env} {H H':Qb},Qdw T h0 N n c k env H=some (c',k',env',H')->Hd P h0 N c' k' env' H' Q->Hd P h0 N c k env H Q
 |0,c,c',k,k',env,env',H,H',h,g=>by cases h;exact g
 |n+1,c,c',k,k',env,env',H,H',h,g=>by
  unfold Qdw at h;split at h
  .rename_i e;exact Qoe hT e (Qdv hT n h g)
  .cases h
theorem Qmb{env:Env}{s:Nat}{a:A}(h:lk env s=a):∀t,lk (up env s a) t=lk env t:=by
 intro t;simp[lk];cases q:Nat.beq t s with
 |true=>simp_all
 |false=>rfl
theorem Is{α:Type}{all:Array Oper}{l:List Oper}{env:Env}{H:Qb}{b:Bool}{x y:Option α}{r:α}(s:Nat)(h:(bif b then x else y)=some r)(d:lkB env s=.mk (.bool b))
  (t:b=true->x=some r->WO P h0 N all l (up env s (.bool true)) H Q)(e:b=false->y=some r->WO P h0 N all l (up env s (.bool false)) H Q):WO P h0 N all l env H Q:=by
 have a:=Qlh d;cases b with
 |true=>exact QH (Le.env λt=>.inr (Qmb a t)) (t rfl h)
 |false=>exact QH (Le.env λt=>.inr (Qmb a t)) (e rfl h)
theorem Ct3E{S B1:Type}{A B C:Code}{env:Env}{H:Qb}{k:List Kf}{b:Ctl S B1}(Eb:S->Env)(Hb:S->Qb)(h:TC P h0 N A env H (kq P h0 N [.seq B] (Qfd h0 b Eb Hb (kq P h0 N (.seq C::k) Q))))(g:∀s env H,b=.cont s->Le h0 env H (Eb s) (Hb s)->kq P h0 N (.seq C::k) Q .normal env H):TC P h0 N (.seq A (.seq B C)) env H (kq P h0 N k Q):=
 Qpz Eb Hb h g
end
def dstN(o:Oper)(i:Nat):Nat:=match o.dst with|some d=>d|none=>1000000+i
def Qbx:Nat->Nat->List Oper->List Nat
 |0,_,_=>[]
 |_+1,_,[]=>[]
 |m+1,i,o::l=>dstN o i::Qbx m (i+1) l
def Ys(af:List Nat):Nat->List Nat->List A->Env->Env
 |j,d::ds,x::xs,e=>(d,bif Qer af j then x else .any)::Ys af (j+1) ds xs e
 |j,d::ds,[],e=>(d,.any)::Ys af (j+1) ds [] e
 |_,[],_,e=>e
theorem Qg6{l:List Nat}{t:Nat}:Qer l t=l.contains t:=by
 induction l with
 |nil=>rfl
 |cons a r d=>
  grind[Qer,Nat.eq_of_beq_eq_true,Nat.beq_refl]
theorem QmG{af:List Nat}{env0:Env}{s:Nat}:∀(a:List Nat) (xs f:List A) (b:Nat),
  (∃(j:Nat) (x:A),af.contains (b+j)=true/\a[j]?=some s/\(xs++f)[j]?=some x/\lk (Ys af b a xs env0) s=x)\/lk (Ys af b a xs env0) s=.any\/(a.contains s=false/\lk (Ys af b a xs env0) s=lk env0 s):=by
 intro a
 induction a with
 |nil=>intro xs f b;right;right;exact⟨rfl,by rfl⟩
 |cons d a m=>
  intro xs f b;have next:∀(e:List A),(∃(j:Nat) (x:A),af.contains (b+1+j)=true/\a[j]?=some s/\(e++f)[j]?=some x/\lk (Ys af (b+1) a e env0) s=x)->∀p,(∃(j:Nat) (x:A),af.contains (b+j)=true/\(d::a)[j]?=some s/\(p::e++f)[j]?=some x/\lk (Ys af (b+1) a e env0) s=x):=by
   rintro e ⟨j,x,g,k,n,l⟩ p;exact⟨j+1,x,by grind,by grind,by grind,l⟩
  cases xs with
  |nil=>
   cases q:Nat.beq s d with
   |true=>simp_all[Ys,lk]
   |false=>
    have i:s≠d:=λz=>by simp_all
    simp only[Ys,lk,q,Vj];rcases m [] [] (b+1)with⟨j,x,g,k,n,l⟩|h|⟨g,k⟩
    .simp at n
    .grind
    grind
  |cons x xs=>
   cases q:Nat.beq s d with
   |true=>
    have:=XN q;subst this;simp only[Ys,lk,q,Vi];cases c:Qer af b with
    |true=>left;exact⟨0,x,by rw[<- Qg6];exact c,rfl,rfl,rfl⟩
    |false=>simp
   |false=>
    have i:s≠d:=λz=>by simp_all
    simp only[Ys,lk,q,Vj];rcases m xs f (b+1)with h|h|⟨g,k⟩
    .exact .inl (next xs h x)
    .grind
    grind
section
variable {P:Program} {T:TyX} {h0 N m:Nat} {l:List Oper} {ds:List Nat} {env:Env} {H:Qb} {Q:QV} {K:List Oper->Env->Qb->Prop}
def DS(P:Program)(N m:Nat)(l:List Oper)(ds:List Nat)(env:Env)(H:Qb)(K:List Oper->Env->Qb->Prop)(r:List Oper)(xs:List A):Prop:=
 r=l.drop xs.length->∃ys,xs.length+ys.length=m/\(∀j,xs.length<=j->j<m->JX P N l ds (xs++ys) env H.length H.length j H H)/\K (l.drop m) (Qaw ds (xs++ys) env) H
theorem oqOf{xs:List A}:∀(c i:Nat),(∀j,i<=j->j<i+c->JX P N l ds xs env H.length H.length j H H)->Oq P N l ds xs env H i c
 |0,i,_=>.n
 |c+1,i,h=>.c (by grind) (oqOf c (i+1) (by grind))
theorem QpR{id:Nat}{k:List Kf}(m:Nat)(g:P.follows .mixedOrders=true)(f:Go.Sw.draw0 l m N (Qbx m 0 l)=true)(a:Nat.ble h0 H.length=true)
  (h:DS P N m l (Qbx m 0 l) env H (λr e H=>WO P h0 N l.toArray r e H Q) l []):TC P h0 N (.region id l.toArray true) env H Q:=by
 obtain⟨i,j,n,d⟩:=h rfl;exact TC.draw0 m _ i g f (by simp_all) a (oqOf m 0 (by grind)) d
theorem DS.done{xs:List A}{r:List Oper}(a:Nat.beq xs.length m=true)(h:K r (Qaw ds xs env) H):DS P N m l ds env H K r xs:=by
 intro d;have e:=XN a;refine⟨[],by simpa using e,λj g f=>by omega,?_⟩
 grind
theorem DS.add{xs:List A}{o:Oper}{r:List Oper}{x:A}(f:Nat.blt xs.length m=true)(g:∀ys,l[xs.length]?=some o->JX P N l ds (xs++x::ys) env H.length H.length xs.length H H)(k:DS P N m l ds env H K r (xs++[x])):DS P N m l ds env H K (o::r) xs:=by
 intro d;have a:xs.length<l.length:=by
  grind[List.drop_eq_nil_of_le]
 rw[Xp a]at d;cases d;obtain⟨ys,e,h,i⟩:=k (by simp)
 grind
theorem QjV{xs a:List A}{x:A}:(xs++x::a)[xs.length]?=some x:=by simp
theorem DS.wo{xs:List A}{o:Oper}{r:List Oper}{x:A}{d:Nat}(h:WO P H.length N l.toArray [o] (Ys (Qj o) 0 ds xs env) H (Jm (up (Ys (Qj o) 0 ds xs env) d x) H))(k:DS P N m l ds env H K r (xs++[x]))
  (f:o.dst=some d:=by exact rfl)(hx:Nat.blt xs.length m=true:=by exact rfl):DS P N m l ds env H K (o::r) xs:=
 .add hx (λe a=>.woE o _ d x a f QjV (he:=by
  intro s;rcases QmG (af:=Qj o) (env0:=env) (s:=s) ds xs (x::e) 0 with⟨j,y,i,n,g,p⟩|q|q
  .grind
  .grind
  grind) (hdd:=Qe7 H) (h:=h)) k
theorem DS.v{xs:List A}{o:Oper}{r:List Oper}{x:A}{d:Nat}(h:OpV P o (Ys (Qj o) 0 ds xs env) H x)(k:DS P N m l ds env H K r (xs++[x]))(hg:QA l.toArray o (Ys (Qj o) 0 ds xs env) true:=by exact rfl)
  (hd:o.dst=some d:=by exact rfl)(hN:Nat.blt d N=true:=by exact rfl)(hx:Nat.blt xs.length m=true:=by exact rfl):DS P N m l ds env H K (o::r) xs:=
 .wo (QP hg hd hN h (WO.nil Jm.mk)) k hd hx
def Qdi:List A->A->FL
 |[],x=>.mk [x]
 |a::r,x=>match Qdi r x with
  |.mk r'=>.mk (a::r')
theorem JC:∀(l:List A) (x:A),Qdi l x=.mk (l++[x])
 |[],x=>rfl
 |a::r,x=>by unfold Qdi;rw[JC r];rfl
def Qju(T:TyX)(N m:Nat)(l:List Oper)(ds:List Nat)(env:Env)(H:Qb):Nat->Nat->List Oper->List A->Option (List Oper×List A)
 |0,_,r,xs=>some (r,xs)
 |_+1,_,[],_=>none
 |n+1,i,o::r,xs=>match Nat.blt i m with
  |false=>none
  |true=>match o.dst with
   |none=>none
   |some d=>match Nat.blt d N with
    |false=>none
    |true=>match Y8 ⟨l⟩ o (Ys (Qj o) 0 ds xs env)with
     |none=>none
     |some false=>match Qdi xs (.tup [])with
      |.mk xs'=>Qju T N m l ds env H n (i+1) r xs'
     |some true=>match Qeh T o (Ys (Qj o) 0 ds xs env) H with
      |none=>none
      |some x=>match Qdi xs x with
       |.mk xs'=>Qju T N m l ds env H n (i+1) r xs'
theorem QfQ(hT:Qba P T):∀(n i:Nat) {r r':List Oper} {xs xs':List A},i=xs.length->Qju T N m l ds env H n i r xs=some (r',xs')->DS P N m l ds env H K r' xs'->DS P N m l ds env H K r xs
 |0,i,r,r',xs,xs',_,h,k=>by cases h;exact k
 |n+1,i,[],r',xs,xs',_,h,k=>by cases h
 |n+1,i,o::r,r',xs,xs',hi,h,k=>by
  subst hi;unfold Qju at h;split at h
  .cases h
  .rename_i q1;split at h
   .cases h
   .rename_i d hd;split at h
    .cases h
    .rename_i q2;split at h
     .cases h
     .rename_i hw;simp[JC]at h;exact .wo (WO.skip (QW hw) hd q2 (WO.nil Jm.mk)) (QfQ hT n _ (by simp) h k) hd q1
     .rename_i hw;split at h
      .cases h
      .rename_i x hv;simp[JC]at h;exact .v (Qax hT hv) (QfQ hT n _ (by simp) h k) (QW hw) hd q2 q1
def Qoj:List A->Nat->A->FL
 |[],_,_=>.mk []
 |_::r,0,x=>.mk (x::r)
 |a::r,n+1,x=>match Qoj r n x with
  |.mk r'=>.mk (a::r')
theorem Qei:∀{l:List A} {n:Nat} {x:A},Jb l n=some x->Qoj l n x=.mk l
 |[],n,x,h=>by cases h
 |a::r,0,x,h=>by cases h;rfl
 |a::r,n+1,x,h=>by unfold Qoj;rw[Qei (l:=r) h]
theorem QbE{α:Type}{b:Bool}{x y:Option α}{v:α}{xs d a:List A}{r:List Oper}(j:Nat)(h:(bif b then x else y)=some v)(f:Jb xs j=some (.bool b))(i:Qoj xs j (.bool true)=.mk d)(g:Qoj xs j (.bool false)=.mk a)
  (t:b=true->x=some v->DS P N m l ds env H K r d)(e:b=false->y=some v->DS P N m l ds env H K r a):DS P N m l ds env H K r xs:=by
 cases b with
 |true=>simp_all[Qei]
 |false=>simp_all[Qei]
end
@[reducible] def RQ{β:Type}(w:β->A)(Hc:β->Qb)(r:β):A->Qb->Prop:=λa H=>a=w r/\H=Hc r
@[reducible] def Csm{β:Type}(P:Program)(f:FuncId)(args:List A)(H:Qb)(w:β->A)(r:β):Prop:=C P f args H (RQ w (λ_=>H) r)
structure TyZ where
 sl:List (Nat×Nat×Nat)
 fn:List Nat
structure QcZ (P:Program) (Z:TyZ):Prop where
 sl:∀e∈Z.sl,(∀w,(underlying e.1).run P w=.ok (.slice e.2.1) w)/\ ∀w,(sizeOf e.2.1).run P w=.ok e.2.2 w
 fn:∀f∈Z.fn,∀(a:Array Value) (w:World),(callFunc f a).run P w=.ok (.enter f a) w
section
variable {P:Program} {Z:TyZ} {h0 N:Nat} {all:Array Oper} {o:Oper} {l:List Oper} {env:Env} {H:Qb} {Q:QV} {d:Nat}
theorem Izz(m:QcZ P Z){α:Type}{e:α->List A}{t f k:Nat}{L:List α}{n:IntKind}{i:Int}{v:α}(h:idx L i=some v)(q:ixB o env=some (d,t,k,L.map e,n,i))(g:WO P h0 N all l (up env d (.rp (e v))) H Q)
  (r:Qb5 Z.sl t=some (f,k))(hg:Y8 all o env=some true)(p:Nat.blt d N=true):WO P h0 N all (o::l) env H Q:=by
 obtain⟨a,j⟩:=m.sl _ (Qay r);exact Ix h a j q g (QW hg) p
theorem Ize(f:QcZ P Z){α:Type}{e:α->List A}{t a k:Nat}{L:List α}{j:IntKind}{i:Int}{v:α}{cs:List A}(h:idx L i=some v)(he:e v=cs)(q:ixB o env=some (d,t,k,L.map e,j,i))(g:WO P h0 N all l (up env d (.rp cs)) H Q)
  (n:Qb5 Z.sl t=some (a,k))(hg:Y8 all o env=some true)(m:Nat.blt d N=true):WO P h0 N all (o::l) env H Q:=by
 subst he;exact Izz f h q g n hg m
theorem Lmz(h:QcZ P Z){α:Type}{e:α->List A}{t f k j:Nat}{L:List α}(q:lnB o env=some (d,t,.mk (.rsl k (L.map e))))(g:WO P h0 N all l (up env d (.int .i64 L.length)) H Q)
  (m:Qb5 Z.sl t=some (f,j))(hg:Y8 all o env=some true)(i:Nat.blt d N=true):WO P h0 N all (o::l) env H Q:=by
 obtain⟨a,n⟩:=h.sl _ (Qay m);exact LnM a q g (QW hg) i
def Qhd(Z:TyZ)(o:Oper)(env:Env):Option (Nat×Nat×List A):=
 match o.dst with
 |none=>none
 |some d=>match o.op with
  |.call {callee:=.value (.func f),args:=⟨xs⟩,argTypes:=_}=>bif Qer Z.fn f then(match fl (Qlg env xs)with|.mk ax=>some (d,f,ax))else none
  |.call {callee:=.value (.tmp x),args:=⟨xs⟩,argTypes:=_}=>match opB env (.tmp x)with
   |.mk (.fn (.func f) vf vc)=>bif Qer Z.fn f then(match fl (vf++(Qlg env xs++vc))with|.mk ax=>some (d,f,ax))else none
   |_=>none
  |_=>none
theorem Qfv(j:QcZ P Z){f:Nat}{args:List A}(h:Qhd Z o env=some (d,f,args)):o.dst=some d/\OpC P o env H f args:=by
 unfold Qhd at h;split at h
 .cases h
 .rename_i p i;split at h
  .rename_i e g k a;cases q:Qer Z.fn e with
   |false=>grind
   |true=>
    rw[q]at h;simp only[QcU]at h;cases h;exact⟨i,OpC.fn (j.fn _ (Qit q)) a rfl (QdG g).symm⟩
  .rename_i x g k a;split at h
   .rename_i e m n l;cases q:Qer Z.fn e with
    |false=>grind
    |true=>
     rw[q]at h;simp only[QcU]at h;cases h;exact⟨i,Qea (j.fn _ (Qit q)) a rfl (QS l) (by rw[QdG])⟩
   .cases h
  .cases h
theorem Czz(i:QcZ P Z){β γ:Type}{F:Option β}{F':β->Option γ}{r:γ}{f:Nat}{args a:List A}{Hc:Qb}{w:β->A}(π:List Nat)(h:F.bind F'=some r)(m:∀v,F=some v->C P f a Hc (RQ w (λ_=>Hc) v))
  (e:Qhd Z o env=some (d,f,args))(g:∀v,F=some v->F' v=some r->WO P h0 N all l (up env d (w v)) H Q)(s:∀v,Qm3 (w v)=some (.mk (w v)))
  (hargs:args=Qak (rho π H.length) a)(hH:π.map (λp=>H[p]?)=(Hc.map (Yi (rho π H.length))).map some)(hπ:π.Nodup)(hg:Y8 all o env=some true)(q:Nat.blt d N=true)(k:Nat.ble h0 H.length=true):WO P h0 N all (o::l) env H Q:=by
 obtain⟨v,j,t⟩:=YB h;obtain⟨n,u⟩:=Qfv (H:=H) i e
 grind[Pc,QW]
theorem DzZ(z:QcZ P Z){K:List Oper->Env->Qb->Prop}{m:Nat}{i:List Oper}{e:List Nat}{xs:List A}{β γ:Type}{F:Option β}{F':β->Option γ}{r:γ}{f:Nat}{args a:List A}{Hc:Qb}{w:β->A}(π:List Nat)(h:F.bind F'=some r)(q:∀v,F=some v->C P f a Hc (RQ w (λ_=>Hc) v))
  (j:Qhd Z o (Ys (Qj o) 0 e xs env)=some (d,f,args))(g:∀v,F=some v->F' v=some r->DS P N m i e env H K l (xs++[w v]))(u:∀v,Qm3 (w v)=some (.mk (w v)))
  (hargs:args=Qak (rho π H.length) a)(hH:π.map (λp=>H[p]?)=(Hc.map (Yi (rho π H.length))).map some)(hπ:π.Nodup)(hg:Y8 i.toArray o (Ys (Qj o) 0 e xs env)=some true)(t:Nat.blt d N=true)(s:Nat.blt xs.length m=true):DS P N m i e env H K (o::l) xs:=by
 obtain⟨v,k,x⟩:=YB h;obtain⟨n,y⟩:=Qfv z j;exact .wo (Pc π n y (q v k) (u v) (WO.nil Jm.mk) hargs hH hπ (QW hg) t (by simp)) (g v k x) n s
theorem ln:QbC H [] []:=trivial
theorem ls{ax d:List A}{a:A}(k:QbC H ax d)(h:YL a=true:=by exact rfl):QbC H (a::ax) (a::d):=⟨.inl ⟨rfl,h⟩,k⟩
theorem lo{ax a:List A}{i n k t:Nat}{es:List (List A)}(d:QbC H ax a)(hH:H[i]?=some (.row t k es):=by exact rfl)(hn:es.length=n:=by exact XX ..):QbC H (.osl i 0 n k::ax) (.rsl k es::a):=
 ⟨.inr (by grind),d⟩
theorem Cbz(q:QcZ P Z){β γ:Type}{F:Option β}{F':β->Option γ}{r:γ}{f:Nat}{args a:List A}{w:β->A}(h:F.bind F'=some r)(j:∀v,F=some v->C P f a [] (RQ w (λ_=>[]) v))
  (e:Qhd Z o env=some (d,f,args))(p:QbC H args a)(g:∀v,F=some v->F' v=some r->WO P h0 N all l (up env d (w v)) H Q)(s:∀v,YD (w v)=true)
  (hg:Y8 all o env=some true)(m:Nat.blt d N=true):WO P h0 N all (o::l) env H Q:=by
 obtain⟨v,i,t⟩:=YB h;obtain⟨k,n⟩:=Qfv q e;refine QbA n p (j v i) ?_ ?_ (QW hg) k m
 .grind
 grind
end
def ixL:List Nat:=[0,1,2,3,4,5,6,7,8,9,10,11,12,13,14,15,16,17,18,19,20,21,22,23,24,25,26,27,28,29,30,31,32,33,34,35,36,37,38,39,40,41,42,43,44,45,46,47,48,49,50,51,52,53,54,55,56,57,58,59,60,61,62,63]
def Qm9:List Nat->List Nat->Nat->FN
 |a::r,b::s,j=>bif Nat.beq a j then .mk b else Qm9 r s j
 |_,_,j=>.mk j
mutual
def cpA(sel:List Nat):A->Bx
 |.ptr i off=>match Qm9 sel ixL i with
  |.mk j=>.mk (.ptr j off)
 |.osl i o n k=>match Qm9 sel ixL i with
  |.mk j=>.mk (.osl j o n k)
 |.map i=>match Qm9 sel ixL i with
  |.mk j=>.mk (.map j)
 |.fn f a c=>match cpL sel a,cpL sel c with
  |.mk a',.mk c'=>.mk (.fn f a' c')
 |a=>.mk a
def cpL(sel:List Nat):List A->FL
 |[]=>.mk []
 |a::r=>match cpA sel a,cpL sel r with
  |.mk a',.mk r'=>.mk (a'::r')
end
inductive FV where
 |mk (e:Env)
def QoC(sel:List Nat)(env:Env):List Nat->Env->FV
 |[],nE=>.mk nE
 |s::r,nE=>match lkB env s with
  |.mk a=>match cpA sel a,QoC sel env r nE with
   |.mk a',.mk e=>.mk ((s,a')::e)
def selH(H:Qb):List Nat->List Nat->List (Nat×Blk)->FB
 |a::r,p::ps,[]=>match Jb H a,selH H r ps []with
  |some b,.mk l=>.mk (b::l)
  |none,.mk l=>.mk l
 |a::r,p::ps,(q,b)::n=>bif Nat.beq p q then(match selH H r ps n with|.mk l=>.mk (b::l))else(match Jb H a,selH H r ps ((q,b)::n)with
  |some b,.mk l=>.mk (b::l)
  |none,.mk l=>.mk l)
 |_,_,_=>.mk []
def QlK(sel keep:List Nat)(nE:Env)(nH:List (Nat×Blk))(env:Env)(H:Qb):Option (Env×Qb):=
 match QoC sel env keep nE,selH H sel ixL nH with
 |.mk e,.mk h=>some (e,h)
section
variable {P:Program} {h0 N:Nat} {c:Code} {env:Env} {H:Qb} {Q:QV}
def Ql7{β:Type}(h0:Nat)(b:β)(E':β->Env)(H':β->Qb)(Q:QV):QV
 |.normal,env,H=>Le h0 env H (E' b) (H' b)
 |.exit id,env,H=>Q (.exit id) env H
 |.ret,env,H=>Q .ret env H
theorem Qar{h0:Nat}{env:Env}{H:Qb}{Q:QV}{β:Type}{b:β}{E':β->Env}{H':β->Qb}(h:Le h0 env H (E' b) (H' b)):Ql7 h0 b E' H' Q .normal env H:=h
theorem Ct{β:Type}{E':β->Env}{H':β->Qb}(b:β)(sel keep:List Nat)(nE:β->Env)(nH:β->List (Nat×Blk))(_:∀b,QlK sel keep (nE b) (nH b) env H=some (E' b,H' b))(h:TC P h0 N c env H (Ql7 h0 b E' H' Q))(k:∀env H,Le h0 env H (E' b) (H' b)->Q .normal env H):TC P h0 N c env H Q:=
 h.mono λx env' H' q=>by
  cases x with
  |normal=>exact k _ _ q
  |exit id=>exact q
  |ret=>exact q
theorem CtE{S B:Type}{b:Ctl S B}{E':S->Env}{H':S->Qb}(sel keep:List Nat)(nE:S->Env)(nH:S->List (Nat×Blk))(_:∀s,QlK sel keep (nE s) (nH s) env H=some (E' s,H' s))(h:TC P h0 N c env H (Qfd h0 b E' H' Q))(k:∀s env H,b=.cont s->Le h0 env H (E' s) (H' s)->Q .normal env H):TC P h0 N c env H Q:=QmO E' H' h k
theorem Lp{S B:Type}{step:S->Option (Ctl S B)}{E':S->Env}{H':S->Qb}{m:Nat}{s0:S}{b0:B}(sel keep:List Nat)(nE:S->Env)(nH:S->List (Nat×Blk))(h:iter step m s0=some b0)(_:∀s,QlK sel keep (nE s) (nH s) env H=some (E' s,H' s))(hI:Le h0 env H (E' s0) (H' s0))
  (body:∀s d,step s=some d->(∀b,d=.done b->b=b0)->TC P h0 N c (E' s) (H' s) (QbB (λs env H=>Le h0 env H (E' s) (H' s)) d Q)):TC P h0 N (.loop c) env H Q:=TC.loop E' H' h hI body
end
theorem Oj{S B:Type}{d:Ctl S B}{x b0:B}(hb:∀b,d=.done b->b=b0)(h:some (Ctl.done x)=some d):x=b0:=hb x (Oi h).symm
theorem Rt{P:Program}{h0:Nat}{fn:Func}{env:Env}{H:Qb}{β:Type}{e r:β}{w:β->A}{Hc:β->Qb}(h:some e=some r)(s:Nat)(π:List Nat)(a:fn.results= #[.tmp s]:=by exact rfl)(hpre:π.take h0=List.range h0:=by exact rfl)
  (hH:π.map (λp=>H[p]?)=((Hc e).map (Yi (rho π H.length))).map some:=by exact rfl)(hπ:π.Nodup:=by decide)(hE:Qb1 (rho π H.length) env [(s,w e)]:=by exact⟨rfl,trivial⟩):QaE P h0 fn (RQ w Hc r) .ret env H:=by
 cases h;exact R1 s a (Lr π hpre hH hπ hE)
theorem Cl{h0:Nat}{env:Env}{H:Qb}{Q:QV}{β:Type}{e b:β}{E':β->Env}{H':β->Qb}(h:some e=some b)(π:List Nat)(a:π.take h0=List.range h0:=by exact rfl)
  (hH:π.map (λp=>H[p]?)=((H' e).map (Yi (rho π H.length))).map some:=by exact rfl)(hπ:π.Nodup:=by decide)(hE:Qb1 (rho π H.length) env (E' e):=by(repeat' (first|exact trivial|refine⟨rfl,?_⟩))):Ql7 h0 b E' H' Q .normal env H:=by
 cases h;exact Lr π a hH hπ hE
def plC(cat:List Nat):List (List (Nat×Nat)):=cat.map λc=>match c with|0=>[(0,0)]|1=>[(0,1)]|2=>[(1,1)]|_=>[(0,0),(1,1)]
def rqC(b:Nat)(cat:List Nat):List (List Nat):=cat.map λc=>match c with|2=>[b]|_=>[]
def hsC(cat:List Nat):List Bool:=cat.map λc=>match c with|1=>true|_=>false
section
variable {P:Program} {T:TyX} {h0 N m b:Nat} {cat:List Nat} {l:List Oper} {ds:List Nat} {env:Env} {H H1:Qb} {Q:QV} {K:List Oper->Env->Qb->Prop}
theorem Qi3{P:Program}{N:Nat}{l:List Oper}{ds:List Nat}{xs:List A}{env0:Env}{hB hE:Nat}:∀(ss:List (List (Qb×Qb))) (b:Nat),(∀i s,ss[i]?=some s->∀p∈s,JX P N l ds xs env0 hB hE (b+i) p.1 p.2)->Qi4 P N l ds xs env0 hB hE b ss
 |[],b,h=>.nil
 |s::ss,b,h=>.cons (h 0 s rfl) (Qi3 ss (b+1) λi s' hs=>by rw[show b+1+i=b+(i+1)by omega];simp_all)
def Dob(P:Program)(N:Nat)(cat:List Nat)(l:List Oper)(ds:List Nat)(env:Env)(H H1:Qb)(zs:List A)(j:Nat):Prop:=
 ∀p∈(plC cat).getD j [],JX P N l ds zs env H.length H.length j ([H,H1].getD p.1 []) ([H,H1].getD p.2 [])
def DB(P:Program)(N m:Nat)(cat:List Nat)(l:List Oper)(ds:List Nat)(env:Env)(H H1:Qb)(K:List Oper->Env->Qb->Prop)(r:List Oper)(xs:List A):Prop:=
 r=l.drop xs.length->∃ys,xs.length+ys.length=m/\(∀j,xs.length<=j->j<m->Dob P N cat l ds env H H1 (xs++ys) j)/\K (l.drop m) (Qaw ds (xs++ys) env) H1
def DA(P:Program)(N m:Nat)(cat:List Nat)(l:List Oper)(ds:List Nat)(env:Env)(H:Qb)(K:List Oper->Env->Qb->Prop)(r:List Oper)(xs:List A):Prop:=
 r=l.drop xs.length->∃ys H1,xs.length+ys.length=m/\H.length<=H1.length/\(∀j,xs.length<=j->j<m->Dob P N cat l ds env H H1 (xs++ys) j)/\K (l.drop m) (Qaw ds (xs++ys) env) H1
theorem QrM{d:List A}(f:cat.length=m)(k:∀j,0<=j->j<m->Dob P N cat l ds env H H1 d j):Qi4 P N l ds d env H.length (H.length+0) 0 ((plC cat).map λq=>q.map λp=>([H,H1].getD p.1 [],[H,H1].getD p.2 [])):=by
 refine Qi3 _ 0 λi s a p n=>?_;rw[Xo]at a;cases e:(plC cat)[i]? with
 |none=>grind
 |some q=>
  rw[e]at a;cases a;obtain⟨r,h,rfl⟩:=Xf.1 n;have g:i<m:=by
   grind[plC]
  have:=k i (XR _) g r (by grind)
  grind
theorem DA.len(a:H.length<=H1.length):[H,H1].all (λX=>Nat.ble (H.length+0) X.length)=true:=by
 simp_all
theorem QpU{id:Nat}(m b:Nat)(cat:List Nat)(j:P.follows .mixedOrders=true)(i:Qe6 l m N (Qbx m 0 l) (hsC cat) (rqC b cat) [[],[b]] (plC cat)=true)(d:Nat.beq cat.length m=true)(f:Nat.ble h0 H.length=true)
  (h:DA P N m cat l (Qbx m 0 l) env H (λr e H=>WO P h0 N l.toArray r e H Q) l []):TC P h0 N (.region id l.toArray true) env H Q:=by
 obtain⟨k,H1,q,n,p,g⟩:=h rfl;have a:=XN d;exact QaV m 0 _ _ _ _ _ k [H,H1] H1 j i (by grind) rfl f (DA.len n) (by simp) rfl (QrM a p) (by simp[plC,a]) g
theorem Qby{xs:List A}{o:Oper}{r:List Oper}(d:o::r=l.drop xs.length):l[xs.length]?=some o/\r=l.drop (xs.length+1):=by
 have a:xs.length<l.length:=by
  grind[List.drop_eq_nil_of_le]
 rw[Xp a]at d
 grind
theorem Qi9{zs:List A}{j c:Nat}(d:Jb cat j=some c)(h:∀p∈match c with|0=>[(0,0)]|1=>[(0,1)]|2=>[(1,1)]|_=>[(0,0),(1,1)],JX P N l ds zs env H.length H.length j ([H,H1].getD p.1 []) ([H,H1].getD p.2 [])):Dob P N cat l ds env H H1 zs j:=by
 intro p a
 grind[QaC,plC]
theorem QaB{a hE:Nat}{xs e:List A}{o:Oper}{x:A}{d:Nat}{X X':Qb}(f:l[xs.length]?=some o)(hdd:QaU a hE X X'=true)(h:WO P X.length N l.toArray [o] (Ys (Qj o) 0 ds xs env) X (Jm (up (Ys (Qj o) 0 ds xs env) d x) X'))(g:o.dst=some d):
  JX P N l ds (xs++x::e) env a hE xs.length X X':=
 .woE o _ d x f g QjV (he:=by
  intro s;rcases QmG (af:=Qj o) (env0:=env) (s:=s) ds xs (x::e) 0 with⟨j,y,k,m,i,n⟩|q|q
  .grind
  .grind
  grind) (hdd:=hdd) (h:=h)
theorem JA{n:Nat}{X X':Qb}:QaU n n X X'=true:=by unfold QaU;simp
theorem DA.wo{xs:List A}{o:Oper}{r:List Oper}{x:A}{d:Nat}(h:WO P H.length N l.toArray [o] (Ys (Qj o) 0 ds xs env) H (Jm (up (Ys (Qj o) 0 ds xs env) d x) H))(k:DA P N m cat l ds env H K r (xs++[x]))
  (g:Jb cat xs.length=some 0:=by exact rfl)(hd:o.dst=some d:=by exact rfl)(hx:Nat.blt xs.length m=true:=by exact rfl):DA P N m cat l ds env H K (o::r) xs:=by
 intro n;obtain⟨f,w⟩:=Qby n;obtain⟨i,H1,e,s,t,a⟩:=k (by grind);simp[Vc,Vb]at e t a;refine⟨x::i,H1,by grind,s,λj y z=>?_,a⟩;rcases Vw xs.length j with q|q
 .grind
 .obtain rfl:j=xs.length:=by omega
  refine Qi9 g λp u=>?_;obtain rfl:=Vv.1 u;exact QaB f JA h hd
theorem DA.op{xs:List A}{o:Oper}{r:List Oper}{x:A}{d:Nat}(h:WO P H.length N l.toArray [o] (Ys (Qj o) 0 ds xs env) H (Jm (up (Ys (Qj o) 0 ds xs env) d x) H1))(k:DB P N m cat l ds env H H1 K r (xs++[x]))(hl:Nat.ble H.length H1.length=true:=by exact rfl)
  (hc:Jb cat xs.length=some 1:=by exact rfl)(hd:o.dst=some d:=by exact rfl)(hx:Nat.blt xs.length m=true:=by exact rfl):DA P N m cat l ds env H K (o::r) xs:=by
 intro i;obtain⟨f,t⟩:=Qby i;obtain⟨g,e,n,a⟩:=k (by grind);simp[Vc,Vb]at e n a;refine⟨x::g,H1,by grind,(by simp_all),λj u w=>?_,a⟩;rcases Vw xs.length j with q|q
 .grind
 .obtain rfl:j=xs.length:=by omega
  refine Qi9 hc λp s=>?_;obtain rfl:=Vv.1 s;exact QaB f JA h hd
theorem Qcs{xs:List A}{o:Oper}{r:List Oper}{x x':A}{d:Nat}{H1':Qb}(h:OpH P o (Ys (Qj o) 0 ds xs env) H x H1)(e:foA x=.mk x')(a:foH H1=.mk H1')(k:DB P N m cat l ds env H H1' K r (xs++[x']))(f:o.dst=some d:=by exact rfl)(hg:Y8 ⟨l⟩ o (Ys (Qj o) 0 ds xs env)=some true:=by exact rfl)(hN:Nat.blt d N=true:=by exact rfl)(hl:Nat.ble H.length H1'.length=true:=by exact rfl)
  (hc:Jb cat xs.length=some 1:=by exact rfl)(hx:Nat.blt xs.length m=true:=by exact rfl):DA P N m cat l ds env H K (o::r) xs:=by
 rw[QiA]at e;rw[Qlm]at a;cases e;cases a;exact .op (Js (XQ _) (QW hg) f hN h (WO.nil Jm.mk)) k hl hc f hx
theorem DB.done{xs:List A}{r:List Oper}(a:Nat.beq xs.length m=true)(h:K r (Qaw ds xs env) H1):DB P N m cat l ds env H H1 K r xs:=by
 intro d;have e:=XN a;refine⟨[],by simpa using e,λj g f=>by omega,?_⟩
 grind
theorem DB.add{xs:List A}{o:Oper}{r:List Oper}{x:A}(h:∀ys,l[xs.length]?=some o->Dob P N cat l ds env H H1 (xs++x::ys) xs.length)(k:DB P N m cat l ds env H H1 K r (xs++[x])):DB P N m cat l ds env H H1 K (o::r) xs:=by
 intro a;obtain⟨g,d⟩:=Qby a;obtain⟨ys,e,i,f⟩:=k (by grind)
 grind
theorem DB.wo1{xs:List A}{o:Oper}{r:List Oper}{x:A}{d:Nat}(h:WO P H1.length N l.toArray [o] (Ys (Qj o) 0 ds xs env) H1 (Jm (up (Ys (Qj o) 0 ds xs env) d x) H1))(k:DB P N m cat l ds env H H1 K r (xs++[x]))
  (f:Jb cat xs.length=some 2:=by exact rfl)(hd:o.dst=some d:=by exact rfl):DB P N m cat l ds env H H1 K (o::r) xs:=
 .add (λg e=>Qi9 f λp a=>by
  obtain rfl:=Vv.1 a;exact QaB e JA h hd) k
theorem DB.wo2{xs:List A}{o:Oper}{r:List Oper}{x:A}{d:Nat}(h:WO P H.length N l.toArray [o] (Ys (Qj o) 0 ds xs env) H (Jm (up (Ys (Qj o) 0 ds xs env) d x) H))(f:WO P H1.length N l.toArray [o] (Ys (Qj o) 0 ds xs env) H1 (Jm (up (Ys (Qj o) 0 ds xs env) d x) H1))(k:DB P N m cat l ds env H H1 K r (xs++[x]))
  (g:Jb cat xs.length=some 3:=by exact rfl)(hd:o.dst=some d:=by exact rfl):DB P N m cat l ds env H H1 K (o::r) xs:=
 .add (λi e=>Qi9 g λp a=>by
  rcases X0.1 a with rfl|a
  .exact QaB e JA h hd
  .obtain rfl:=Vv.1 a;exact QaB e JA f hd) k
def Qjv(T:TyX)(N m:Nat)(cat:List Nat)(l:List Oper)(ds:List Nat)(env:Env)(H:Qb):Nat->Nat->List Oper->List A->Option (List Oper×List A)
 |0,_,r,xs=>some (r,xs)
 |_+1,_,[],_=>none
 |n+1,i,o::r,xs=>match Nat.blt i m,Jb cat i with
  |true,some 0=>match o.dst with
   |none=>none
   |some d=>match Nat.blt d N with
    |false=>none
    |true=>match Y8 ⟨l⟩ o (Ys (Qj o) 0 ds xs env)with
     |none=>none
     |some false=>match Qdi xs (.tup [])with
      |.mk xs'=>Qjv T N m cat l ds env H n (i+1) r xs'
     |some true=>match Qeh T o (Ys (Qj o) 0 ds xs env) H with
      |none=>none
      |some x=>match Qdi xs x with
       |.mk xs'=>Qjv T N m cat l ds env H n (i+1) r xs'
  |_,_=>none
theorem QfT(hT:Qba P T):∀(n i:Nat) {r r':List Oper} {xs xs':List A},i=xs.length->Qjv T N m cat l ds env H n i r xs=some (r',xs')->DA P N m cat l ds env H K r' xs'->DA P N m cat l ds env H K r xs
 |0,i,r,r',xs,xs',_,h,k=>by cases h;exact k
 |n+1,i,[],r',xs,xs',_,h,k=>by cases h
 |n+1,i,o::r,r',xs,xs',hi,h,k=>by
  subst hi;unfold Qjv at h;split at h
  .rename_i q1 q0;split at h
   .cases h
   .rename_i d hd;split at h
    .cases h
    .rename_i q2;split at h
     .cases h
     .rename_i hw;simp[JC]at h;exact .wo (WO.skip (QW hw) hd q2 (WO.nil Jm.mk)) (QfT hT n _ (by simp) h k) q0 hd q1
     .rename_i hw;split at h
      .cases h
      .rename_i x hv;simp[JC]at h;exact .wo (QP (QW hw) hd q2 (Qax hT hv) (WO.nil Jm.mk)) (QfT hT n _ (by simp) h k) q0 hd q1
  .cases h
theorem Qp5{H:Qb}{p:Bx}{r:Lx}(h:ptX [] p=some r):ptX H p=some r:=by
 unfold ptX at h⊢
 grind[Jb]
theorem QfE{o:Oper}{e:Env}{H:Qb}{x:A}(h:Qeh T o e []=some x):Qeh T o e H=some x:=by
 unfold Qeh at h⊢;split at h<;>first|exact h|skip
 split at h
 .cases h
 grind[Qp5]
def QfS(T:TyX)(N:Nat)(cat:List Nat)(l:List Oper)(ds:List Nat)(env:Env)(H1:Qb):Nat->Nat->List Oper->List A->Option (List Oper×List A)
 |0,_,r,xs=>some (r,xs)
 |_+1,_,[],_=>none
 |n+1,i,o::r,xs=>match o.dst with
  |none=>none
  |some d=>match Nat.blt d N with
   |false=>none
   |true=>match Y8 ⟨l⟩ o (Ys (Qj o) 0 ds xs env)with
    |none=>none
    |some false=>match Jb cat i with
     |some 2=>(match Qdi xs (.tup [])with
      |.mk xs'=>QfS T N cat l ds env H1 n (i+1) r xs')
     |some 3=>(match Qdi xs (.tup [])with
      |.mk xs'=>QfS T N cat l ds env H1 n (i+1) r xs')
     |_=>none
    |some true=>match Jb cat i with
     |some 2=>(match Qeh T o (Ys (Qj o) 0 ds xs env) H1 with
      |none=>none
      |some x=>match Qdi xs x with
       |.mk xs'=>QfS T N cat l ds env H1 n (i+1) r xs')
     |some 3=>(match Qeh T o (Ys (Qj o) 0 ds xs env) []with
      |none=>none
      |some x=>match Qdi xs x with
       |.mk xs'=>QfS T N cat l ds env H1 n (i+1) r xs')
     |_=>none
theorem Qcb(hT:Qba P T):∀(n i:Nat) {r r':List Oper} {xs xs':List A},i=xs.length->QfS T N cat l ds env H1 n i r xs=some (r',xs')->DB P N m cat l ds env H H1 K r' xs'->DB P N m cat l ds env H H1 K r xs
 |0,i,r,r',xs,xs',_,h,k=>by cases h;exact k
 |n+1,i,[],r',xs,xs',_,h,k=>by cases h
 |n+1,i,o::r,r',xs,xs',hi,h,k=>by
  subst hi;unfold QfS at h;split at h
  .cases h
  .rename_i d hd;split at h
   .cases h
   .rename_i q2;split at h
    .cases h
    .rename_i hw;split at h
     .rename_i q0;simp[JC]at h;exact .wo1 (WO.skip (QW hw) hd q2 (WO.nil Jm.mk)) (Qcb hT n _ (by simp) h k) q0 hd
     .rename_i q0;simp[JC]at h;exact .wo2 (WO.skip (QW hw) hd q2 (WO.nil Jm.mk)) (WO.skip (QW hw) hd q2 (WO.nil Jm.mk)) (Qcb hT n _ (by simp) h k) q0 hd
     .cases h
    .rename_i hw;split at h
     .rename_i q0;split at h
      .cases h
      .rename_i x hv;simp[JC]at h;exact .wo1 (QP (QW hw) hd q2 (Qax hT hv) (WO.nil Jm.mk)) (Qcb hT n _ (by simp) h k) q0 hd
     .rename_i q0;split at h
      .cases h
      .rename_i x hv;simp[JC]at h;exact .wo2 (QP (QW hw) hd q2 (Qax hT (QfE hv)) (WO.nil Jm.mk)) (QP (QW hw) hd q2 (Qax hT (QfE hv)) (WO.nil Jm.mk)) (Qcb hT n _ (by simp) h k) q0 hd
     .cases h
end
def chkF(L:List (Nat×List (Nat×Nat)))(fs:List (Nat×Nat×Nat)):Bool:=
 fs.all λe=>match Qb5 L e.1 with
  |some pl=>(match Jb pl e.2.1 with
   |some q=>Nat.beq q.1 e.2.2&& !(Nat.beq q.2 0)
   |none=>false)
  |none=>false
theorem PL.get{P:Program}{fs:List Field}{a:List (Nat×Nat)}(h:PL P fs a):∀{f off n:Nat},Jb a f=some (off,n)->∃fd,fs[f]?=some fd/\fd.offset=off/\ ∀w,(sizeOf fd.type).run P w=.ok n w:=by
 induction h with
 |nil=>intro f off n h;cases h
 |cons h k e=>
  intro f off n d;cases f with
  |zero=>cases d;grind
  |succ f=>grind[Jb]
theorem Qrs{P:Program}{L:List (Nat×List (Nat×Nat))}{fs:List (Nat×Nat×Nat)}(s:∀e∈L,QeI P e.1 e.2)(h:chkF L fs=true):∀e∈fs,∃n,QI P e.1 e.2.1 e.2.2 n:=by
 intro e f;have:=Xs.1 h e f;split at this
 .rename_i u a;split at this
  .rename_i q k;obtain⟨l,n⟩:=q;simp only[XT]at this;have r:=XN this.1;obtain⟨m,d,j⟩:=s _ (Qay a);obtain⟨g,t,i,p⟩:=PL.get j k;refine⟨n,⟨⟨_,g,d,by grind,i.trans r,p,?_⟩⟩⟩
   grind[Nat.beq_refl]
  .cases this
 .cases this
section
variable {P:Program} {Z:TyZ} {h0 N:Nat} {all:Array Oper} {o:Oper} {l:List Oper} {env:Env} {H:Qb} {Q:QV} {d:Nat}
theorem Cdz(s:QcZ P Z){β γ:Type}{F:Option β}{F':β->Option γ}{r:γ}{f:Nat}{args a:List A}{Hc:Qb}{w:β->A}{Hr:β->Qb}(π:List Nat)(h:F.bind F'=some r)(k:∀v,F=some v->C P f a Hc (RQ w Hr v))
  (e:Qhd Z o env=some (d,f,args))(g:∀v,F=some v->F' v=some r->WO P h0 N all l (up env d (Jg (rho π H.length) (w v))) (YH H π ((Hr v).map (Yi (rho π H.length)))) Q)
  (hargs:args=Qak (rho π H.length) a)(hH:π.map (λp=>H[p]?)=(Hc.map (Yi (rho π H.length))).map some)(hπ:π.Nodup)(hg:Y8 all o env=some true)(n:Nat.blt d N=true)(j:Nat.ble h0 H.length=true):WO P h0 N all (o::l) env H Q:=by
 obtain⟨v,i,t⟩:=YB h;obtain⟨m,q⟩:=Qfv s e;refine QX π q (k v i) ?_ hargs hH hπ (QW hg) m n j
 grind
end
inductive FLL where
 |mk (l:List (List A))
def cpLL(sel:List Nat):List (List A)->FLL
 |[]=>.mk []
 |a::r=>match cpL sel a,cpLL sel r with
  |.mk a',.mk r'=>.mk (a'::r')
inductive FBk where
 |mk (b:Blk)
def cpBk(sel:List Nat):Blk->FBk
 |.cells t cs=>match cpL sel cs with
  |.mk l=>.mk (.cells t l)
 |.rowr t k es=>match cpLL sel es with
  |.mk l=>.mk (.rowr t k l)
 |.ents t a b es=>match Qm9 sel ixL a,Qm9 sel ixL b with
  |.mk a',.mk b'=>.mk (.ents t a' b' es)
 |b=>.mk b
def selD(H:Qb)(sel:List Nat):List Nat->FB
 |[]=>.mk []
 |a::r=>match Jb H a with
  |some b=>(match cpBk sel b,selD H sel r with
   |.mk b',.mk l=>.mk (b'::l))
  |none=>.mk []
def retC(sel sl:List Nat)(env:Env)(H:Qb):Option (Env×Qb):=
 match QoC sel env sl [],selD H sel sel with
 |.mk e,.mk h=>some (e,h)
theorem Rx{P:Program}{h0:Nat}{fn:Func}{env E':Env}{H H':Qb}{Qr:A->Qb->Prop}{e:A}(π sl:List Nat)(_:retC π sl env H=some (E',H'))(d:Qd5 P fn E' H' e)(f:Qr e H')(a:π.take h0=List.range h0:=by exact rfl)
  (hH:π.map (λp=>H[p]?)=(H'.map (Yi (rho π H.length))).map some:=by exact rfl)(hπ:π.Nodup:=by decide)(hE:Qb1 (rho π H.length) env E':=by(repeat' (first|exact trivial|refine⟨rfl,?_⟩))):QaE P h0 fn Qr .ret env H:=
 ⟨E',H',e,Lr π a hH hπ hE,d,f⟩
def nxL{T:Type}:List T->T->List T->Prop:=λl x rem=>l=x::rem
def QcP{S T B:Type}(step:S->T->Option (Ctl S B)):List T->S->Option (Ctl S B)
 |[],s=>some (.cont s)
 |x::l,s=>(step s x).bind λd=>match d with
  |.cont s'=>QcP step l s'
  |.done b=>some (.done b)
def QdJ{S T B:Type}(step:S->Option (List T×Ctl S B)):Nat->S->Option (List T×B)
 |0,_=>none
 |n+1,s=>(step s).bind λp=>match p.2 with
  |.cont s'=>(QdJ step n s').bind λq=>some (p.1++q.1,q.2)
  |.done b=>some (p.1,b)
def QpA{S B:Type}(h1:Nat)(env:Env)(Q:QV)(d:Ctl S B)(Hp:S->Qb):QV
 |.normal,env',H'=>∃s,d=.cont s/\Le h1 env' H' [] (Hp s)
 |.exit id,env',H'=>(∃b,d=.done b)/\ ∃H2,Le h1 env' H' [] H2/\Q (.exit id) env H2
 |.ret,env',H'=>(∃b,d=.done b)/\ ∃H2,Le h1 env' H' [] H2/\Q .ret env H2
theorem Qil{S B:Type}{h1:Nat}{env env':Env}{H':Qb}{Q:QV}{s:S}{d:Ctl S B}{Hp:S->Qb}(e:some (Ctl.cont s)=some d)(h:Le h1 env' H' [] (Hp s)):QpA h1 env Q d Hp .normal env' H':=⟨s,(Oi e).symm,h⟩
theorem QeD{P:Program}{h0 N:Nat}{m:Operand}{ps:List Nat}{assign body:Code}{env:Env}{H:Qb}{Q:QV}{f:FuncId}{g a:List A}{Hc:Qb}{T S B:Type}{enc:T->List A}{xs:List T}{step:S->T->Option (Ctl S B)}{u:S}{D:Ctl S B}
  (π:List Nat)(Hp:S->Qb)(h:QcP step xs u=some D)(r:QkE P f a Hc enc nxL xs)(n:∀x,(enc x).length=ps.length)(J:∀args w,(callFunc f args).run P w=.ok (.enter f args) w)
  (V:Nat.ble h0 H.length=true)(hg:opA env m=.fn (.func f) [] g)(hargs:g=Qak (rho π H.length) a)(hH:π.map (λp=>H[p]?)=(Hc.map (Yi (rho π H.length))).map some)(hπ:π.Nodup)(y:(ps.all λp=>Nat.blt p N)=true)
  (i:Le H.length env (QeW H π) env (Hp u))
  (j:∀s x d,step s x=some d->(∀b,d=.done b->D=.done b)->TC P H.length N assign (Qob ps (enc x) env) (Hp s) λe env1 H1=>e=.normal/\TC P H.length N body env1 H1 (QpA H.length env Q d Hp))
  (k:∀s,D=.cont s->Q .normal env (Hp s)):TC P h0 N (.rangeFunc m ps.toArray assign body) env H Q:=by
 refine TC.rangeFunc π Hp (λs l=>QcP step l s=some D) u (by simp_all) hg hargs hH hπ y J r n i h ?_ ?_
 .rintro s l x rem z rfl;obtain⟨d,R,z⟩:=YB z;refine(j s x d R ?_).mono ?_
  .grind
  .rintro e env1 H1 ⟨G,L⟩;refine⟨G,L.mono ?_⟩;intro O E H2 q;cases O with
   |normal=>
    obtain⟨F,rfl,i⟩:=q;exact⟨Hp F,i,F,z,rfl⟩
   |exit id=>
    obtain⟨_,H3,t,q⟩:=q;exact⟨H3,t,q⟩
   |ret=>
    obtain⟨_,H3,t,q⟩:=q;exact⟨H3,t,q⟩
 .intro s M;exact k s (Oi M).symm
section
variable {T:Type} {X:Ctx T} {P:Program} {h0 N:Nat} {c:Code} {env:Env} {H:Qb} {st:YSt T} {Q:YY T}
def Qg3{S B:Type}(h0:Nat)(E:S->Env)(Hp:S->Qb)(d:Ctl S B)(rest:List T)(Q:YY T):YY T
 |.normal,env,H,st=>∃s,d=.cont s/\Le h0 env H (E s) (Hp s)/\st=.on rest
 |.exit id,env,H,st=>Q (.exit id) env H st
 |.ret,env,H,st=>Q .ret env H st
theorem QnK{S B:Type}{step:S->Option (List T×Ctl S B)}{E:S->Env}{Hp:S->Qb}{m:Nat}{i:S}{p rem:List T}{b:B}(h:QdJ step m i=some (p,b))(u:Le h0 env H (E i) (Hp i))
  (body:∀s zs d rest,step s=some (zs,d)->(∀b',d=.done b'->b'=b/\rest=rem)->TCy X P h0 N c (E s) (Hp s) (.on (zs++rest)) (Qg3 h0 E Hp d rest Q)):TCy X P h0 N (.loop c) env H (.on (p++rem)) Q:=by
 refine Qh4 (I:=λn env H r=>∃s f,QdJ step n s=some (f,b)/\r=.on (f++rem)/\Le h0 env H (E s) (Hp s)) ?_ ⟨i,p,h,rfl,u⟩;rintro n env H r ⟨s,f,a,rfl,l⟩;cases n with
 |zero=>cases a
 |succ n=>
  obtain⟨⟨zs,d⟩,t,a⟩:=YB a;refine Qdk l ?_;cases d with
  |cont F=>
   obtain⟨⟨w,G⟩,z,a⟩:=YB a;cases a;rw[Vc];refine(body s zs (.cont F) (w++rem) t (λb' e=>by cases e)).mono ?_;rintro x g H' j q;cases x with
   |normal=>
    obtain⟨y,e,k,rfl⟩:=q;cases e;exact⟨n,Xn n,_,_,z,rfl,k⟩
   |exit id=>exact q
   |ret=>exact q
  |done b'=>
   cases a;refine(body s _ (.done b) rem t (λb' e=>by cases e;exact⟨rfl,rfl⟩)).mono ?_;rintro x g H' j q;cases x with
   |normal=>obtain⟨y,e,_⟩:=q;cases e
   |exit id=>exact q
   |ret=>exact q
def kqY(X:Ctx T)(P:Program)(h0 N:Nat):List Kf->YY T->YY T
 |[],Q=>Q
 |.seq c::k,Q=>SeqY X P h0 N c (kqY X P h0 N k Q)
 |.blo id::k,Q=>BloY id (kqY X P h0 N k Q)
 |.unr c::k,Q=>λ_ _ _ _=>False
@[reducible] def HdY(X:Ctx T)(P:Program)(h0 N:Nat):Cf->List Kf->Env->Qb->YSt T->YY T->Prop
 |.code c,k,env,H,st,Q=>TCy X P h0 N c env H st (kqY X P h0 N k Q)
 |.ops all l,k,env,H,st,Q=>WOy X P h0 N all l env H st (kqY X P h0 N k Q)
 |.out x,k,env,H,st,Q=>kqY X P h0 N k Q x env H st
def QqR:Cf->List Kf->Bool
 |.code (.loop _),_=>false
 |.out _,.unr _::_=>false
 |_,_=>true
theorem Qod{Tx:TyX}(i:Qba P Tx){c f:Cf}{k d:List Kf}{env env':Env}{H H':Qb}(h:Qhl Tx h0 N c k env H=some (f,d,env',H'))(a:QqR c k=true)(g:HdY X P h0 N f d env' H' st Q):HdY X P h0 N c k env H st Q:=by
 unfold Qhl at h;split at h
 .cases h;exact TCy.seq g
 .cases h;exact TCy.block g
 .cases a
 .cases h;exact TCy.skip g
 .cases h;exact TCy.ret g
 .cases h;exact TCy.exit g
 .cases h;exact TCy.region g
 .grind[TCy.cond,QS]
 .cases h;exact WOy.nil g
 .split at h
  .rename_i q;cases h;exact WOy.step (QkZ i q (WO.nil ⟨rfl,g⟩))
  .cases h
 .cases h;exact g
 .cases h;exact g
 .cases h;exact g
 .cases h;exact g
 .split at h
  .rename_i q;have e:=XN q;show(bif Nat.beq _ _ then _ else _)
   grind
  .show(bif Nat.beq _ _ then _ else _)
   grind
 .cases h;exact g
 .cases a
 .cases a
 .cases a
 .cases h
def Qk6(Tx:TyX)(h0 N:Nat):Nat->Cf->List Kf->Env->Qb->Option (Cf×List Kf×Env×Qb)
 |0,c,k,env,H=>some (c,k,env,H)
 |n+1,c,k,env,H=>match QqR c k with
  |true=>(match Qhl Tx h0 N c k env H with
   |some (c',k',env',H')=>Qk6 Tx h0 N n c' k' env' H'
   |none=>none)
  |false=>none
theorem Qdu{Tx:TyX}(hT:Qba P Tx):∀(n:Nat) {c c':Cf} {k k':List Kf} {env env':Env} {H H':Qb},Qk6 Tx h0 N n c k env H=some (c',k',env',H')->HdY X P h0 N c' k' env' H' st Q->HdY X P h0 N c k env H st Q
 |0,c,c',k,k',env,env',H,H',h,g=>by cases h;exact g
 |n+1,c,c',k,k',env,env',H,H',h,g=>by
  unfold Qk6 at h;split at h
  .rename_i hn;split at h
   .rename_i e;exact Qod hT e hn (Qdu hT n h g)
   .cases h
  .cases h
theorem TCy.lf{k:List Kf}(h:TC P h0 N c env H (λx env H=>kqY X P h0 N k Q x env H st)):TCy X P h0 N c env H st (kqY X P h0 N k Q):=TCy.lift h
theorem Qps{all:Array Oper}{o:Oper}{r:List Oper}{d:Nat}{x:T}{l:List T}{e:T->A}{y z:Operand}{f:Array TypeId}(hE:X.enc=λx=>[e x])(g:X.nx=nxL)(a:o.op=.call {callee:=.value y,args:= #[z],argTypes:=f})(j:opA env y=.fn (.yield X.l) [] [])(h:opA env z=e x)(i:YL (e x)=true)
  (m:WOy X P h0 N all r (up env d (.bool true)) H (.on l) Q)(k:WOy X P h0 N all r (up env d (.bool false)) H (.off l) Q)(hg:QA all o env true:=by exact rfl)(hd:o.dst=some d:=by exact rfl)(hNd:Nat.blt d N=true:=by exact rfl):WOy X P h0 N all (o::r) env H (.on (x::l)) Q:=by
 refine WOy.yield (by rw[g];rfl) hg hd hNd ?_ ?_
 .rw[hE];exact Qjc a j h i
 grind
theorem WOy.y2{all:Array Oper}{o:Oper}{r:List Oper}{d:Nat}{x:T}{l:List T}{h g:T->A}{y j k:Operand}{n:Array TypeId}(hE:X.enc=λx=>[h x,g x])(p:X.nx=nxL)(m:o.op=.call {callee:=.value y,args:= #[j,k],argTypes:=n})(q:opA env y=.fn (.yield X.l) [] [])(a:opA env j=h x)(f:opA env k=g x)(i:YL (h x)=true)(e:YL (g x)=true)
  (t:WOy X P h0 N all r (up env d (.bool true)) H (.on l) Q)(s:WOy X P h0 N all r (up env d (.bool false)) H (.off l) Q)(hg:QA all o env true:=by exact rfl)(hd:o.dst=some d:=by exact rfl)(hNd:Nat.blt d N=true:=by exact rfl):WOy X P h0 N all (o::r) env H (.on (x::l)) Q:=by
 refine WOy.yield (by rw[p];rfl) hg hd hNd ?_ ?_
 .rw[hE];exact Qm0 m q a f i e
 grind
end
def yl{T R:Type}(x:T)(k:Option (List T×R)):Option (List T×R):=k.bind λp=>some (x::p.1,p.2)
def ap{T B R:Type}(a:Option (List T×B))(k:B->Option (List T×R)):Option (List T×R):=a.bind λp=>(k p.2).bind λq=>some (p.1++q.1,q.2)
theorem QqM{T R:Type}{x:T}{k:Option (List T×R)}{a:List T}{v:R}(h:yl x k=some (a,v)):∃zs,k=some (zs,v)/\a=x::zs:=by
 obtain⟨⟨zs,d⟩,f,e⟩:=YB h
 grind
theorem ap_ok{T B R:Type}{a:Option (List T×B)}{k:B->Option (List T×R)}{d:List T}{v:R}(h:ap a k=some (d,v)):∃y1 b y2,a=some (y1,b)/\k b=some (y2,v)/\d=y1++y2:=by
 obtain⟨⟨y1,b⟩,f,e⟩:=YB h;obtain⟨⟨y2,j⟩,i,g⟩:=YB e
 grind
section
variable {T:Type} {X:Ctx T} {P:Program} {h0 N:Nat} {c c':Code} {env:Env} {H:Qb} {st:YSt T} {Q:YY T}
def QpV{β:Type}(h0:Nat)(b:β)(E':β->Env)(H':β->Qb)(rem:List T)(Q:YY T):YY T
 |.normal,env,H,st=>Le h0 env H (E' b) (H' b)/\st=.on rem
 |.exit id,env,H,st=>Q (.exit id) env H st
 |.ret,env,H,st=>Q .ret env H st
theorem Qpv{β:Type}{E':β->Env}{H':β->Qb}(b:β)(rem:List T)(sel keep:List Nat)(nE:β->Env)(nH:β->List (Nat×Blk))(_:∀b,QlK sel keep (nE b) (nH b) env H=some (E' b,H' b))(h:TCy X P h0 N c env H st (QpV h0 b E' H' rem Q))(k:∀env H,Le h0 env H (E' b) (H' b)->Q .normal env H (.on rem)):TCy X P h0 N c env H st Q:=
 h.mono λx env' H' st' q=>by
  cases x with
  |normal=>obtain⟨q1,rfl⟩:=q;grind
  |exit id=>exact q
  |ret=>exact q
theorem cutYN{β:Type}{b:β}{E':β->Env}{H':β->Qb}{rem:List T}(h:Le h0 env H (E' b) (H' b)):QpV h0 b E' H' rem Q .normal env H (.on rem):=⟨h,rfl⟩
theorem cutYR{β:Type}{b:β}{E':β->Env}{H':β->Qb}{rem:List T}(h:Q .ret env H st):QpV h0 b E' H' rem Q .ret env H st:=h
theorem QrJ{S B:Type}{step:S->Option (List T×Ctl S B)}{E':S->Env}{H':S->Qb}{m:Nat}{s0:S}{ys rem:List T}{b:B}(sel keep:List Nat)(nE:S->Env)(nH:S->List (Nat×Blk))(h:QdJ step m s0=some (ys,b))(_:∀s,QlK sel keep (nE s) (nH s) env H=some (E' s,H' s))(hI:Le h0 env H (E' s0) (H' s0))
  (body:∀s zs d rest,step s=some (zs,d)->(∀b',d=.done b'->b'=b/\rest=rem)->TCy X P h0 N c (E' s) (H' s) (.on (zs++rest)) (Qg3 h0 E' H' d rest Q)):TCy X P h0 N (.loop c) env H (.on (ys++rem)) Q:=QnK h hI body
theorem Qiu{S B:Type}{E':S->Env}{H':S->Qb}{s:S}{d:Ctl S B}{zs rest:List T}(e:some ([],Ctl.cont s)=some (zs,d))(h:Le h0 env H (E' s) (H' s)):Qg3 h0 E' H' d rest Q .normal env H (.on (zs++rest)):=by
 cases e;exact⟨s,rfl,h,rfl⟩
theorem Qrk{S B:Type}{id:Nat}{E':S->Env}{H':S->Qb}{d:Ctl S B}{rest:List T}(h:Q (.exit id) env H st):Qg3 h0 E' H' d rest Q (.exit id) env H st:=h
theorem Qrl{S B:Type}{E':S->Env}{H':S->Qb}{d:Ctl S B}{rest:List T}(h:Q .ret env H st):Qg3 h0 E' H' d rest Q .ret env H st:=h
theorem Oy{S B:Type}{d:Ctl S B}{x b:B}{zs rest rem:List T}(a:∀b',d=.done b'->b'=b/\rest=rem)(h:some ([],Ctl.done x)=some (zs,d)):zs=[]/\b=x/\rest=rem:=by
 grind
theorem Cny{α:Type}{x:Operand}{t:Bool}{p q:Option α}{r:α}(hx:opB env x=.mk (.bool t))(h:(bif t then p else q)=some r)(ht:t=true->p=some r->TCy X P h0 N c env H st Q)(hf:t=false->q=some r->TCy X P h0 N c' env H st Q):TCy X P h0 N (.cond x c c') env H st Q:=
 TCy.cond (QS hx) (by grind) (by grind)
theorem QkD{f:FuncId}{fn:Func}{c:Code}{N:Nat}{a:List A}{H:Qb}{enc:T->List A}{xs:List T}(i:P.funcs[f]?=some fn)(j:fn.body=some c)(g:fn.ntmps=N)(e:Nat.ble (a.length+1) N=true)(d:fn.results= #[])
  (h:∀X,X.enc=enc->X.nx=nxL->TCy X P H.length N c (Qe5 0 (.fn (.yield X.l) [] []::a)) H (.on (xs++[])) EndY):QkE P f a H enc nxL xs:=by
 grind[Qd4]
end
open Go.MapKept
section
variable {fr ro:Nat->Prop} {σ:Sig} {H:Qb} {w:World}
end
end Go.Sw
namespace Go.Sw
open Go.MapKept
def Qb2{α β:Type}(ek:α->A)(ev:β->List A)(l:List (α×Option (List β))):List (A×Option (List (List A))):=l.map λp=>(ek p.1,p.2.map (List.map ev))
def Qml{α β:Type}[DecidableEq α](l:List (α×Option (List β)))(x:α):List (α×Option (List β)):=l.map λp=>bif decide (p.1=x)then(p.1,none)else p
section
variable {P:Program} {kt:TypeId} {α β:Type} [DecidableEq α] {ek:α->A} {ev:β->List A} {ro:Nat->Prop} {w:World} {t k:Nat} (K:JG P kt ek)
include K
theorem QmR{x:α}:∀{l:List (α×Option (List β))} {es:List MapEntry},MO ro w t k (Qb2 ek ev l) es->MO ro w t k (Qb2 ek ev (Qml l x)) es
 |[],es,h=>h
 |p::l,es,h=>by
  obtain⟨e,l',rfl,h1,h2,h3⟩:=h;by_cases q:p.1=x
  .refine⟨e,l',rfl,by grind,λrows hr=>?_,QmR h3⟩
   grind
  .refine⟨e,l',rfl,by grind,(by grind),QmR h3⟩
omit K
theorem QeK{x:α}{c:Nat}:∀{l:List (α×Option (List β))} {es:List MapEntry},Qfm (Qb2 ek ev (Qml l x)) es c->Qfm (Qb2 ek ev l) es c
 |[],es,h=>by cases es<;>exact h.elim
 |p::l,[],h=>h.elim
 |p::l,e::es,h=>by
  rcases h with⟨h1,h2⟩|h
  .by_cases q:p.1=x
   .grind
   .exact .inl ⟨by grind,h2⟩
  .exact .inr (QeK h)
theorem Qn2{x:α}:∀{l:List (α×Option (List β))} {es:List MapEntry},Ql3 (Qb2 ek ev l) es->Ql3 (Qb2 ek ev (Qml l x)) es
 |[],es,h=>by cases es<;>trivial
 |p::l,[],h=>trivial
 |p::l,e::es,h=>by
  obtain⟨h1,h2⟩:=h;refine⟨λc q1 q2 q3=>?_,Qn2 h2⟩;by_cases q:p.1=x
  .grind
  .exact h1 c (by grind) q2 (QeK q3)
include K
theorem MO.find:∀{l:List (α×Option (List β))} {es:List MapEntry},MO ro w t k (Qb2 ek ev l) es->∀(x:α),(es.map (·.key)).Nodup->
  ((∀e:MapEntry,e∈es->e.key≠Q0 (ek x))->YN l x=none)/\
  (∀(j:Nat) (e:MapEntry),es[j]?=some e->e.key=Q0 (ek x)->∃q,YN l x=some q/\(∀rows,q=some rows->SO ro w t k (rows.map ev) e.val)/\
   ∀c p n cap,q.isSome=true->e.val=.slice (some ⟨c,p,none⟩) n cap->Qfm (Qb2 ek ev l) es c/\(Ql3 (Qb2 ek ev l) es->¬Qfm (Qb2 ek ev (Qml l x)) es c))
 |[],es,h,x,_=>by
  cases(show es=[]from h);exact⟨λ_=>rfl,(by simp)⟩
 |p::l,es,h,x,hn=>by
  obtain⟨e0,l',rfl,h1,h2,h3⟩:=h;have hk:=VR.val (K.scl _) h1;simp only[Vd,List.nodup_cons]at hn;obtain⟨a1,a2⟩:=MO.find (l:=l) h3 x hn.2;by_cases hp:p.1=x
  .subst hp;constructor
   .grind
   .intro j e he hx;cases j with
    |zero=>
     simp only[XC,Option.some.injEq]at he;subst he;refine⟨p.2,by simp[YN],(by grind),λc p' n cap hs hv=>⟨.inl (by grind),λhd hq=>?_⟩⟩;rcases hq with⟨q1,_⟩|hq
     .simp at q1
     .exact hd.1 c (by grind) ⟨p',n,cap,hv⟩ (QeK (l:=l) hq)
    |succ j=>
     grind
  .have e1:YN (p::l) x=YN l x:=by simp[YN,hp]
   rw[e1];constructor
   .grind
   .intro j e he hx;cases j with
    |zero=>
     simp only[XC,Option.some.injEq]at he;subst he;exact absurd (K.inj _ _ (hk.symm.trans hx)) hp
    |succ j=>
     obtain⟨q,g,f,m⟩:=a2 j e (by grind) hx;refine⟨q,g,f,λc p' n cap hs hv=>?_⟩;obtain⟨a,d⟩:=m c p' n cap hs hv;refine⟨.inr a,λhd hq=>?_⟩;rcases hq with⟨q1,i⟩|hq
     .exact hd.1 c (by grind) i a
     .exact d hd.2 hq
end
section
variable {P:Program} {o:Oper} {env:Env} {H:Qb}
variable {T kt et:Nat} {α β:Type} [DecidableEq α] {ek:α->A} {ev:β->List A} {x y:Operand} {i t k:Nat} {l:List (α×Option (List β))} {key:α} {rows:List β}
end
end Go.Sw
namespace Go.Sw
open Go.MapKept
theorem MO.append{ro:Nat->Prop}{w:World}{t k:Nat}:∀{l m:List (A×Option (List (List A)))} {es fs:List MapEntry},MO ro w t k l es->MO ro w t k m fs->MO ro w t k (l++m) (es++fs)
 |[],m,es,fs,h,q=>by cases(show es=[]from h);exact q
 |p::l,m,es,fs,h,q=>by
  obtain⟨e,l',rfl,h1,h2,h3⟩:=h;exact⟨e,l'++fs,rfl,h1,h2,MO.append h3 q⟩
theorem MO.length{ro:Nat->Prop}{w:World}{t k:Nat}:∀{l:List (A×Option (List (List A)))} {es:List MapEntry},MO ro w t k l es->es.length=l.length
 |[],es,h=>by cases(show es=[]from h);rfl
 |p::l,es,h=>by
  obtain⟨e,l',rfl,h1,h2,h3⟩:=h;simp[MO.length h3]
def SlB(v:Value)(c:Nat):Prop:=∃p n cap,v=.slice (some ⟨c,p,none⟩) n cap
section
variable {P:Program} {kt:TypeId} {α β:Type} [DecidableEq α] {ek:α->A} {ev:β->List A} {ro:Nat->Prop} {w:World} {t k:Nat} (K:JG P kt ek)
def Qem{α β:Type}[DecidableEq α](l:List (α×Option (List β)))(x:α)(rows:List β):List (α×Option (List β)):=l.map λp=>bif decide (p.1=x)then(p.1,some rows)else p
include K
theorem Qhz{x:α}{rows:List β}:∀{l:List (α×Option (List β))} {es:List MapEntry},MO ro w t k (Qb2 ek ev l) es->(∀e∈es,e.key≠Q0 (ek x))->Qem l x rows=l
 |[],es,h,q=>rfl
 |p::l,es,h,q=>by
  obtain⟨e,l',rfl,h1,h2,h3⟩:=h;have hk:=VR.val (K.scl _) h1;have hp:p.1≠x:=(by grind);have:=Qhz h3 (λe he=>q e (by simp[he])) (rows:=rows)
  simp_all[Qem]
theorem MO.put{x:α}{rows:List β}{v:Value}(m:SO ro w t k (rows.map ev) v):∀{l:List (α×Option (List β))} {es:List MapEntry} {j:Nat} {e:MapEntry},MO ro w t k (Qb2 ek ev l) es->
  (es.map (·.key)).Nodup->es[j]?=some e->e.key=Q0 (ek x)->
  MO ro w t k (Qb2 ek ev (Qem l x rows)) (es.modify j λe=>{e with key:=Q0 (ek x),val:=v})/\
  (∀c,Qfm (Qb2 ek ev (Qem l x rows)) (es.modify j λe=>{e with key:=Q0 (ek x),val:=v}) c->Qfm (Qb2 ek ev l) es c\/SlB v c)/\
  (Ql3 (Qb2 ek ev l) es->(∀c,Qfm (Qb2 ek ev l) es c->¬SlB v c)->Ql3 (Qb2 ek ev (Qem l x rows)) (es.modify j λe=>{e with key:=Q0 (ek x),val:=v}))
 |[],es,j,e,h,hn,he,hk=>by cases(show es=[]from h);simp at he
 |p::l,es,j,e,h,hn,he,hk=>by
  obtain⟨e0,l',rfl,h1,h2,h3⟩:=h;have hk0:=VR.val (K.scl _) h1;simp only[Vd,List.nodup_cons]at hn;cases j with
  |zero=>
   simp[XC,Option.some.injEq]at he;subst he;have hp:=K.inj _ _ (hk0.symm.trans hk);have e0':Qem l x rows=l:=Qhz K h3 λe he z=>hn.1 (by rw[hk, <- z];exact VA he);have e1:Qem (p::l) x rows=(p.1,some rows)::l:=by
    have:Qem (p::l) x rows=(p.1,some rows)::Qem l x rows:=by simp[Qem,hp]
    rw[this,e0']
   rw[e1];refine⟨⟨_,l',rfl,?_,?_,h3⟩,?_,?_⟩
   .rw[<- hp];exact Qcp (K.scl _)
   .intro f u;cases u;exact m
   .rintro c (⟨_,q⟩|q)
    .exact .inr q
    .exact .inl (.inr q)
   .rintro⟨i,d⟩ a;exact⟨λc _ q z=>a c (.inr z) q,d⟩
  |succ j=>
   have hp:p.1≠x:=by
    intro q;refine hn.1 (Xf.2 ⟨e,VB he,?_⟩);rw[hk,hk0,q]
   obtain⟨s,r,B⟩:=MO.put m h3 hn.2 he hk;have e1:Qem (p::l) x rows=p::Qem l x rows:=by simp[Qem,hp]
   rw[e1];refine⟨⟨_,_,rfl,h1,h2,s⟩,?_,?_⟩
   .rintro c (q|q)
    .exact .inl (.inl q)
    .exact(r c q).imp .inr id
   .rintro⟨i,d⟩ a;refine⟨λc g n z=>?_,B d λc y=>a c (.inr y)⟩;rcases r c z with z|z
    .exact i c g n z
    .exact a c (.inl ⟨g,n⟩) z
end
section
variable {P:Program} {o:Oper} {env:Env} {H:Qb}
variable {T kt et:Nat} {α β:Type} [DecidableEq α] {ek:α->A} {ev:β->List A} {x y zz:Operand} {i j t k n:Nat} {l m:List (α×Option (List β))} {key:α} {rows:List β}
end
end Go.Sw
namespace Go.Sw
open Go.MapKept
section
variable {fr ro:Nat->Prop} {σ:Sig} {H:Qb} {w:World}
end
section
variable {P:Program} {o:Oper} {env:Env} {H:Qb} {T kt et i t k:Nat} {x:Operand} {es:List (A×Option (List (List A)))}
end
section
variable {P:Program} {o:Oper} {env:Env} {H:Qb}
variable {T kt et:Nat} {α β:Type} [DecidableEq α] {ek:α->A} {ev:β->List A} {x y zz:Operand} {i j t k n:Nat} {l m:List (α×Option (List β))} {key:α} {rows:List β}
end
end Go.Sw
namespace Go.Sw
open Go.MapKept
section
variable {P:Program} {o:Oper} {env:Env} {H:Qb}
variable {T kt et:Nat} {α β:Type} [DecidableEq α] {ek:α->A} {ev:β->List A} {x y zz:Operand} {i j t k n:Nat} {l m:List (α×Option (List β))} {key:α} {rows:List β}
end
end Go.Sw
namespace Go.Sw
theorem QpJ{h0 d:Nat}{x y:A}{e:Env}{H:Qb}:Le h0 ((d,x)::(d,y)::e) H ((d,x)::e) H:=Le.env λs=>.inr (by
 simp[lk]
 grind)
abbrev Kat:=List (Nat×Nat×Nat)
def Qoa:Nat->Nat->List (Nat×Nat)
 |lo,0=>[(lo,lo)]
 |lo,n+1=>(lo,lo)::Qoa (lo+1) n
def rgK(p:Nat×Nat×Nat):List (Nat×Nat):=bif Nat.beq p.1 1 then[(p.2.1,p.2.1+1)]else Qoa p.2.1 (p.2.2-p.2.1)
def plK(cat:Kat):List (List (Nat×Nat)):=cat.map rgK
def rqK(bs:List Nat)(cat:Kat):List (List Nat):=cat.map λp=>bs.take p.2.1
def hsK(cat:Kat):List Bool:=cat.map λp=>Nat.beq p.1 1
def msK(bs:List Nat):List (List Nat):=(List.range (bs.length+1)).map bs.take
theorem Qig:∀(n lo:Nat),∀p∈Qoa lo n,p.1=p.2
 |0,lo,p,h=>by cases h with|head=>rfl|tail _ h=>cases h
 |n+1,lo,p,h=>by
  rcases X0.1 h with rfl|h
  .rfl
  .exact Qig n _ p h
section
variable {P:Program} {T:TyX} {h0 N m:Nat} {bs:List Nat} {cat:Kat} {l:List Oper} {ds:List Nat} {env:Env} {H:Qb} {Hs:List Qb} {Q:QV} {K:List Oper->Env->Qb->Prop}
def DobK(P:Program)(N:Nat)(cat:Kat)(l:List Oper)(ds:List Nat)(env:Env)(n:Nat)(Hs:List Qb)(zs:List A)(j:Nat):Prop:=
 ∀p∈(plK cat).getD j [],JX P N l ds zs env n n j (Hs.getD p.1 []) (Hs.getD p.2 [])
def DK(P:Program)(N m:Nat)(bs:List Nat)(cat:Kat)(l:List Oper)(ds:List Nat)(env:Env)(n:Nat)(K:List Oper->Env->Qb->Prop)(Hs:List Qb)(X:Qb)(r:List Oper)(xs:List A):Prop:=
 r=l.drop xs.length->∃ys Zs Y,xs.length+ys.length=m/\Hs.length+Zs.length=bs.length/\((∀Z∈Zs,n<=Z.length)/\(Hs.reverse++X::Zs).getD bs.length []=Y)/\(∀j,xs.length<=j->j<m->DobK P N cat l ds env n (Hs.reverse++X::Zs) (xs++ys) j)/\K (l.drop m) (Qaw ds (xs++ys) env) Y
theorem QrL{d:List A}{n:Nat}{Zs:List Qb}(f:cat.length=m)(k:∀j,0<=j->j<m->DobK P N cat l ds env n Zs d j):Qi4 P N l ds d env n (n+0) 0 ((plK cat).map λq=>q.map λp=>(Zs.getD p.1 [],Zs.getD p.2 [])):=by
 refine Qi3 _ 0 λi s a p r=>?_;rw[Xo]at a;cases e:(plK cat)[i]? with
 |none=>grind
 |some q=>
  rw[e]at a;cases a;obtain⟨t,h,rfl⟩:=Xf.1 r;have g:i<m:=by
   grind[plK]
  have:=k i (XR _) g t (by grind)
  grind
theorem QpS{id:Nat}(m:Nat)(d:List Nat)(cat:Kat)(n:P.follows .mixedOrders=true)(k:Qe6 l m N (Qbx m 0 l) (hsK cat) (rqK d cat) (msK d) (plK cat)=true)(f:Nat.beq cat.length m=true)(g:Nat.ble h0 H.length=true)
  (h:DK P N m d cat l (Qbx m 0 l) env H.length (λr e H=>WO P h0 N l.toArray r e H Q) [] H l []):TC P h0 N (.region id l.toArray true) env H Q:=by
 obtain⟨p,Zs,Y,s,t,u,j,q⟩:=h rfl;have a:=XN f;have i:(msK d).length=d.length+1:=by simp[msK]
 refine QaV m 0 _ _ _ _ _ p (H::Zs) Y n k (by grind) (by simp_all) g ?_ (by simp) (by grind) (QrL a j) (by simp[plK,a]) q
 simp_all
variable {n:Nat} {X X1:Qb} {xs:List A} {o:Oper} {r:List Oper} {x:A} {d:Nat}
theorem DK.done(a:Nat.beq xs.length m=true)(d:Nat.beq Hs.length bs.length=true)(h:K r (Qaw ds xs env) X):DK P N m bs cat l ds env n K Hs X r xs:=by
 intro f;have e:=XN a;have g:=XN d;refine⟨[],[],X,by simpa using e,by omega,⟨(λZ hZ=>by cases hZ),?_⟩,λj k i=>by omega,?_⟩
 .grind
 grind
theorem DK.add(s:∀ys Zs,l[xs.length]?=some o->DobK P N cat l ds env n (Hs.reverse++X::Zs) (xs++x::ys) xs.length)(k:DK P N m bs cat l ds env n K Hs X r (xs++[x])):DK P N m bs cat l ds env n K Hs X (o::r) xs:=by
 intro f;obtain⟨p,i⟩:=Qby f;obtain⟨ys,Zs,Y,d,g,h,e,a⟩:=k (by grind);simp[Vc,Vb]at d e a;refine⟨x::ys,Zs,Y,by grind,g,h,λj q t=>?_,a⟩
 grind
theorem QfA{Zs:List Qb}{zs:List A}{j:Nat}{c:Nat×Nat×Nat}(d:Jb cat j=some c)(h:∀p∈rgK c,JX P N l ds zs env n n j (Zs.getD p.1 []) (Zs.getD p.2 [])):DobK P N cat l ds env n Zs zs j:=by
 intro p a
 grind[QaC,plK]
theorem Qqc{Zs:List Qb}{c:Nat}(a:Nat.beq c Hs.length=true):(Hs.reverse++X::Zs).getD c []=X:=by
 simp_all
theorem DK.wo{c:Nat}(h:WO P X.length N l.toArray [o] (Ys (Qj o) 0 ds xs env) X (Jm (up (Ys (Qj o) 0 ds xs env) d x) X))(k:DK P N m bs cat l ds env n K Hs X r (xs++[x]))
  (e:Jb cat xs.length=some (0,c,c):=by exact rfl)(hd:o.dst=some d:=by exact rfl)(hcH:Nat.beq c Hs.length=true:=by exact rfl):DK P N m bs cat l ds env n K Hs X (o::r) xs:=
 .add (λys Zs ho=>QfA e λp a=>by
  have:=by
   change p∈Qoa c (c-c)at a;rw[Nat.sub_self]at a;exact Vv.1 a
  grind[Qqc,QaB,JA]) k
theorem DK.wa{lo hi:Nat}(h:∀X,WO P X.length N l.toArray [o] (Ys (Qj o) 0 ds xs env) X (Jm (up (Ys (Qj o) 0 ds xs env) d x) X))(k:DK P N m bs cat l ds env n K Hs X r (xs++[x]))
  (f:Jb cat xs.length=some (0,lo,hi):=by exact rfl)(hd:o.dst=some d:=by exact rfl):DK P N m bs cat l ds env n K Hs X (o::r) xs:=
 .add (λys Zs ho=>QfA f λp a=>by
  have e:=Qig _ _ p a
  grind[QaB,JA]) k
theorem DK.op{c s:Nat}(h:WO P X.length N l.toArray [o] (Ys (Qj o) 0 ds xs env) X (Jm (up (Ys (Qj o) 0 ds xs env) d x) X1))(k:DK P N m bs cat l ds env n K (X::Hs) X1 r (xs++[x]))(hl:Nat.ble n X1.length=true:=by exact rfl)
  (hc:Jb cat xs.length=some (1,c,s):=by exact rfl)(hd:o.dst=some d:=by exact rfl)(hcH:Nat.beq c Hs.length=true:=by exact rfl):DK P N m bs cat l ds env n K Hs X (o::r) xs:=by
 intro u;obtain⟨B,z⟩:=Qby u;obtain⟨t,Zs,Y,g,w,a,i,e⟩:=k (by grind);simp only[XY,XW,List.length_nil,Vc,VE,Vb,List.reverse_cons]at g w a i e;refine⟨x::t,X1::Zs,Y,by grind,by grind,⟨λZ f=>?_,a.2⟩,λj E F=>?_,e⟩
 .rcases X0.1 f with rfl|f
  .simp_all
  grind
 .rcases Vw xs.length j with q|q
  .grind
  .obtain rfl:j=xs.length:=by omega
   refine QfA hc λp y=>?_;have:p=(c,c+1):=Vv.1 y
   grind[Nat.eq_of_beq_eq_true,QaB,JA]
def QfR(T:TyX)(N m:Nat)(cat:Kat)(l:List Oper)(ds:List Nat)(env:Env)(n:Nat):Nat->Nat->Nat->List Qb->Qb->List Oper->List A->Option (List Qb×List Oper×List A)
 |0,_,_,Hs,X,r,xs=>some (Hs,r,xs)
 |_+1,_,_,_,_,[],_=>none
 |k+1,i,j,Hs,X,o::r,xs=>match o.dst with
  |none=>none
  |some d=>match Nat.blt d N with
   |false=>none
   |true=>match Y8 ⟨l⟩ o (Ys (Qj o) 0 ds xs env)with
    |none=>none
    |some false=>(match Qdi xs (.tup [])with
      |.mk xs'=>match Jb cat i with
       |some (0,_,_)=>QfR T N m cat l ds env n k (i+1) j Hs X r xs'
       |some (1,c,_)=>(match Nat.beq c j,Nat.ble n X.length with
        |true,true=>QfR T N m cat l ds env n k (i+1) (j+1) (X::Hs) X r xs'
        |_,_=>none)
       |_=>none)
    |some true=>match Jb cat i with
     |some (0,lo,hi)=>(match Qeh T o (Ys (Qj o) 0 ds xs env) []with
      |some x=>(match Qdi xs x with
       |.mk xs'=>QfR T N m cat l ds env n k (i+1) j Hs X r xs')
      |none=>match Nat.beq lo hi,Nat.beq lo j with
       |true,true=>(match Qeh T o (Ys (Qj o) 0 ds xs env) X with
        |none=>none
        |some x=>match Qdi xs x with
         |.mk xs'=>QfR T N m cat l ds env n k (i+1) j Hs X r xs')
       |_,_=>none)
     |_=>none
theorem Qca(hT:Qba P T):∀(k i j:Nat) {Hs Hs':List Qb} {r r':List Oper} {xs xs':List A},i=xs.length->j=Hs.length->QfR T N m cat l ds env n k i j Hs X r xs=some (Hs',r',xs')->DK P N m bs cat l ds env n K Hs' X r' xs'->DK P N m bs cat l ds env n K Hs X r xs
 |0,i,j,Hs,Hs',r,r',xs,xs',_,_,h,k=>by cases h;exact k
 |k0+1,i,j,Hs,Hs',[],r',xs,xs',_,_,h,k=>by cases h
 |k0+1,i,j,Hs,Hs',o::r,r',xs,xs',hi,hj,h,k=>by
  subst hi hj;unfold QfR at h;split at h
  .cases h
  .rename_i d hd;split at h
   .cases h
   .rename_i q2;split at h
    .cases h
    .rename_i hw;simp[JC]at h;split at h
     .rename_i lo hi' q0;exact .wa (λX=>WO.skip (QW hw) hd q2 (WO.nil Jm.mk)) (Qca hT k0 _ _ (by simp) rfl h k) q0 hd
     .rename_i c c' q0;split at h
      .rename_i q1 q3;exact .op (WO.skip (QW hw) hd q2 (WO.nil Jm.mk)) (Qca hT k0 _ _ (by simp) (by simp) h k) q3 q0 hd q1
      .cases h
     .cases h
    .rename_i hw;split at h
     .rename_i lo hi' q0;split at h
      .rename_i x hv;simp[JC]at h;exact .wa (λX=>QP (QW hw) hd q2 (Qax hT (QfE hv)) (WO.nil Jm.mk)) (Qca hT k0 _ _ (by simp) rfl h k) q0 hd
      .split at h
       .rename_i q1 q3;split at h
        .cases h
        .rename_i x hv;simp[JC]at h;obtain rfl:=XN q1;exact .wo (QP (QW hw) hd q2 (Qax hT hv) (WO.nil Jm.mk)) (Qca hT k0 _ _ (by simp) rfl h k) q0 hd q3
       .cases h
     .cases h
theorem DK.v(h:OpV P o (Ys (Qj o) 0 ds xs env) X x)(k:DK P N m bs cat l ds env n K Hs X r (xs++[x])){c:Nat}(hg:Y8 ⟨l⟩ o (Ys (Qj o) 0 ds xs env)=some true:=by exact rfl)
  (hd:o.dst=some d:=by exact rfl)(hN:Nat.blt d N=true:=by exact rfl)(hc:Jb cat xs.length=some (0,c,c):=by exact rfl)(hcH:Nat.beq c Hs.length=true:=by exact rfl):DK P N m bs cat l ds env n K Hs X (o::r) xs:=
 .wo (QP (QW hg) hd hN h (WO.nil Jm.mk)) k hc hd hcH
def allV(T:TyX)(o:Oper)(e:Env)(x:A):Nat->List Qb->Prop
 |0,_=>True
 |k+1,Y::r=>Qeh T o e Y=some x/\allV T o e x k r
 |_+1,[]=>False
theorem Qmc:∀(n lo:Nat),∀p∈Qoa lo n,lo<=p.1/\p.1<=lo+n
 |0,lo,p,h=>by cases h with|head=>omega|tail _ h=>cases h
 |n+1,lo,p,h=>by
  rcases X0.1 h with rfl|h
  .omega
  .have:=Qmc n _ p h;omega
def allW(P:Program)(N:Nat)(l:List Oper)(o:Oper)(e:Env)(d:Nat)(x:A):Nat->List Qb->Prop
 |0,_=>True
 |k+1,Y::r=>WO P Y.length N l.toArray [o] e Y (Jm (up e d x) Y)/\allW P N l o e d x k r
 |_+1,[]=>False
theorem QmN{e:Env}:∀{k:Nat} {r:List Qb},allW P N l o e d x k r->∀j,j<k->WO P (r.getD j []).length N l.toArray [o] e (r.getD j []) (Jm (up e d x) (r.getD j []))
 |0,_,_,j,hj=>(by omega)
 |k+1,[],h,_,_=>h.elim
 |k+1,Y::r,h,0,_=>h.1
 |k+1,Y::r,h,j+1,hj=>by
  have:=QmN h.2 j (by omega)
  grind
theorem QaZ{lo hi:Nat}(h:allW P N l o (Ys (Qj o) 0 ds xs env) d x (hi+1-lo) (X::Hs))(k:DK P N m bs cat l ds env n K Hs X r (xs++[x]))
  (g:Jb cat xs.length=some (0,lo,hi):=by exact rfl)(hd:o.dst=some d:=by exact rfl)(hcH:Nat.beq hi Hs.length=true:=by exact rfl)(hle:Nat.ble lo hi=true:=by exact rfl):DK P N m bs cat l ds env n K Hs X (o::r) xs:=
 .add (λys Zs ho=>QfA g λp f=>by
  have e:=Qig _ _ p f;have a:=XO hle;have hb:=Qmc (hi-lo) lo p f;have i:=XN hcH;rw[<- e];have j:=QmN h (Hs.length-p.1) (by omega);have q:(Hs.reverse++X::Zs).getD p.1 []=(X::Hs).getD (Hs.length-p.1) []:=by
   grind
  rw[q];exact QaB ho JA j hd) k
theorem DK.vs(j:Qba P T){lo hi:Nat}(h:allV T o (Ys (Qj o) 0 ds xs env) x (hi+1-lo) (X::Hs))(k:DK P N m bs cat l ds env n K Hs X r (xs++[x]))
  (g:Jb cat xs.length=some (0,lo,hi))(f:o.dst=some d)(a:Nat.beq hi Hs.length=true)(hg:Y8 ⟨l⟩ o (Ys (Qj o) 0 ds xs env)=some true)(i:Nat.blt d N=true)(e:Nat.ble lo hi=true):DK P N m bs cat l ds env n K Hs X (o::r) xs:=by
 refine QaZ ?_ k g f a e;generalize hi+1-lo=c at h;generalize X::Hs=L at h
 induction c generalizing L with
 |zero=>trivial
 |succ c p=>
  cases L with
  |nil=>exact h.elim
  |cons Y L=>exact⟨QP (QW hg) f i (Qax j h.1) (WO.nil Jm.mk),p L h.2⟩
end
def room(n:Int):Option Nat:=bif decide (0<n)&&decide (n<=4294967296)then some n.toNat else none
section
variable {P:Program} {o:Oper} {env:Env} {H:Qb}
theorem RL.put{ro:Nat->Prop}{σ:Sig}{w:World}{k:Nat}:∀{a:Nat} {es fs:List (List A)} {l m:List Value},RL ro σ w k es l->a+fs.length<=es.length->Sw.allK k fs->LR ro σ w fs.flatten m->(∀v∈m,Qz v)->
  RL ro σ w k (es.take a++fs++es.drop (a+fs.length)) (Sw.splice l (a*k) m)
 |0,es,[],l,m,h,hn,hk,hm,hp=>by
  obtain rfl:m=[]:=hm;simpa[Sw.splice]using h
 |0,[],f::fs,l,m,h,hn,hk,hm,hp=>by simp at hn
 |0,c::es,f::fs,l,m,⟨l1,l2,h1,h2,h3,h4⟩,hn,hk,hm,hp=>by
  subst h1;have hl1:=h3.1.length;have hml:=hm.length;rw[Vf,XY]at hml;have e1:m.take k++m.drop k=m:=Xx _ _;have q1:LR ro σ w f (m.take k):=by have:=hm.take k;rwa [Vf,X2 (by rw[hk.1];omega),VC (by rw[hk.1];omega)]at this
  have q2:=by have:=hm.drop k;rwa [Vf,X3 (by rw[hk.1];omega),List.drop_of_length_le (by rw[hk.1];omega),Vb]at this
  have e:=RL.put (a:=0) h4 (by grind) hk.2 q2 (λv d=>hp v (List.mem_of_mem_drop d));simp only[List.take_zero,Vb,Xu,Nat.zero_mul,Sw.splice]at e⊢;refine⟨m.take k,m.drop k++l2.drop (m.drop k).length,?_,hk.1,⟨q1,λv d=>hp v (List.mem_of_mem_take d)⟩,by simp_all⟩;have i:k<=m.length:=by rw[hml,hk.1];omega
  rw[<- Vc,e1];congr 1
  grind[List.drop_length_add_append]
 |a+1,[],fs,l,m,h,hn,hk,hm,hp=>by simp at hn
 |a+1,c::es,fs,l,m,⟨l1,l2,h1,h2,h3,h4⟩,hn,hk,hm,hp=>by
  subst h1;have hl1:=h3.1.length;have e:=RL.put (a:=a) h4 (by simp at hn;omega) hk hm hp;refine⟨l1,Sw.splice l2 (a*k) m,?_,h2,h3,?_⟩
  .have e1:(a+1)*k=l1.length+a*k:=by rw[Xm];omega
   unfold Sw.splice;rw[e1,X6,show l1.length+a*k+m.length=l1.length+(a*k+m.length)from by omega,X5];simp
  .have g:a+1+fs.length=(a+fs.length)+1:=by omega
   simpa[g]using e
def SrcP(P:Program)(H:Qb)(x:A)(k:Nat)(es:List (List A)):Prop:=
 ∀fr ro σ w v,Sim fr ro σ H w->VR ro σ w x v->(∃a c,v=.slice a es.length c)/\
  ∀j,j<=es.length->allK k (es.take j)/\ ∃l,(Builtin.firstCells k j v).run P w=.ok l.toArray w/\LR ro [] w (es.take j).flatten l/\ ∀v∈l,Qz v
theorem Qk5{fr ro:Nat->Prop}{σ:Sig}{w:World}{k j b off n c:Nat}{es:List (List A)}(h:RR ro [] w b k es off)(i:j<=es.length):
  allK k (es.take j)/\ ∃l,(Builtin.firstCells k j (.slice (some ⟨b,off,none⟩) n c)).run P w=.ok l.toArray w/\LR ro [] w (es.take j).flatten l/\ ∀v∈l,Qz v:=by
 obtain⟨e,g,a⟩:=(h.take j).flat;rw[Xw,Xz i]at a;obtain⟨l,d,f⟩:=Qcw (c:=c) e a;exact⟨g,l,(d w rfl),f⟩
theorem QfO{k n c:Nat}{a:Option Addr}{w:World}:(Builtin.firstCells k 0 (.slice a n c)).run P w=.ok #[] w:=by
 cases a<;>simp[go_sem]
theorem SrcP.osl{i s n k t:Nat}{es es':List (List A)}(hH:H[i]?=some (.row t k es))(he:(es.drop s).take n=es')(F:s+n<=es.length):SrcP P H (.osl i s n k) k es':=by
 intro fr L σ w v sm h;have g:es'.length=n:=by grind
 rcases h with⟨rfl,rfl⟩|⟨b,p,a,E,m,f,rfl,x,⟨J,u⟩,B,G⟩
 .have e:es'=[]:=(by grind);subst e;refine⟨⟨none,0,rfl⟩,λj z=>?_⟩;obtain rfl:j=0:=by omega
  exact⟨trivial,[],QfO,rfl,by simp⟩
 .rw[g];refine⟨⟨_,a,rfl⟩,λj z=>?_⟩;obtain⟨l,r,y⟩:=sm.blk i _ _ f hH;have d:=((Y5 (pre:=[]) (by simpa using r) y).drop s).take n;rw[he]at d;by_cases q:0<a
  .obtain rfl:=x q;simpa using Qk5 (fr:=fr) (σ:=σ) d (by omega)
  .obtain rfl:j=0:=by omega
   exact⟨trivial,[],QfO,rfl,by simp⟩
end
open Go.MapKept
section
variable {fr ro ro':Nat->Prop} {σ:Sig} {H:Qb} {w:World}
end
end Go.Sw
namespace Go.Sw
section
variable {P:Program} {o:Oper} {env:Env} {H:Qb} {α:Type} {e:α->List A}
end
open Go.MapKept
section
variable {P:Program} {o:Oper} {env:Env} {H:Qb}
theorem Ql0{T:Nat}(e:o.op=.makeMap T none:=by exact rfl):OpH P o env H (.map H.length) (H++[.mapP []]):=by
 intro f d σ N a w r;refine⟨.map (some w.heap.size),w.alloc (.map #[] 0),d,[some w.heap.size],?_,⟨w.heap.size,?_,rfl⟩,r.sim.alloc ⟨#[],0,Yn _ _,rfl,by simp,by simp,by simp⟩,Qk.alloc _ r.sim.roLt r.sim.frLt⟩
 .simp_all[execOp,Instr.makeMap]
 .rw[<- r.sim.len];simp
variable {T kt et:Nat} {α β:Type} [DecidableEq α] {ek:α->A} {ev:β->A} {x y:Operand} {i:Nat} {l:List (α×β)} {k:α} {z0:β} {z:Value}
theorem Qdl(K:JG P kt ek){v:β}(n:YN l k=some v)(t:P.underlying T=some (.map kt et))
  (F:o.op=.lookup T x y false:=by exact rfl)(hx:opA env x=.map i:=by exact rfl)(hH:H[i]?=some (.mapP (Qx ek ev l)):=by exact rfl)(hy:opA env y=ek k:=by exact rfl):OpV P o env H (ev v):=by
 intro Q W σ N a w r;have g:=Qi r x;rw[hx]at g;obtain⟨b,B,J⟩:=g;have m:=Qi r y;rw[hy]at m;have G:=VR.val (K.scl _) m;obtain⟨O,f,s,h,X,R,u⟩:=r.sim.blk i _ _ B hH;obtain⟨L,z⟩:=ER.find K h k u;rcases K.find w k O.toList (QbD K h)with⟨p,d⟩|⟨j,e,p,d,E⟩
 .have:=(L d).1;rw[n]at this;cases this
 .obtain⟨V,Y,q,M⟩:=z j e d E;rw[n]at q;obtain rfl:=XV q;refine⟨e.val,?_,M⟩;simp only[execOp,F,J,G,Instr.lookup,Vg,run_underlying t,Result.andThen,MapKept.run_getObj_map s,Vh,K.check,p];rfl
theorem QlX(K:JG P kt ek)(E:YN l k=none)(s:P.underlying T=some (.map kt et))(t:∀w,(zeroValue et).run P w=.ok (.pointer none) w)
  (G:o.op=.lookup T x y false:=by exact rfl)(hx:opA env x=.map i:=by exact rfl)(hH:H[i]?=some (.mapP (Qx ek ev l)):=by exact rfl)(hy:opA env y=ek k:=by exact rfl):OpV P o env H .nilp:=by
 intro O V σ N a w r;have f:=Qi r x;rw[hx]at f;obtain⟨b,B,L⟩:=f;have h:=Qi r y;rw[hy]at h;have J:=VR.val (K.scl _) h;obtain⟨M,d,q,g,W,Q,u⟩:=r.sim.blk i _ _ B hH;obtain⟨X,z⟩:=ER.find K g k u;rcases K.find w k M.toList (QbD K g)with⟨n,m⟩|⟨j,e,n,m,F⟩
 .refine⟨.pointer none,?_,rfl⟩;simp only[execOp,G,L,J,Instr.lookup,Vg,run_underlying s,Result.andThen,MapKept.run_getObj_map q,Vh,K.check,n,t];rfl
 .obtain⟨R,v',p,Y⟩:=z j e m F;rw[E]at p;cases p
theorem QnW(K:JG P kt ek){v:β}{zz:Operand}(V:YN l k=none)(B:P.underlying T=some (.map kt et))
  (J:o.op=.mapUpdate T x y zz:=by exact rfl)(hx:opA env x=.map i:=by exact rfl)(hH:H[i]?=some (.mapP (Qx ek ev l)):=by exact rfl)(hy:opA env y=ek k:=by exact rfl)(hv:opA env zz=ev v:=by exact rfl):
  OpU P o env H (H.set i (.mapP (Qx ek ev (l++[(k,v)])))):=by
 intro O G σ N a w r;have n:=Qi r x;rw[hx]at n;obtain⟨b,s,M⟩:=n;have q:=Qi r y;rw[hy]at q;have L:=VR.val (K.scl _) q;have p:=Qi r zz;rw[hv]at p;obtain⟨u,d,m,g,X,Q,E⟩:=r.sim.blk i _ _ s hH;obtain⟨Y,R⟩:=ER.find K g k E;have h:∀(obj:Obj) y,w.shape? b=some y->({w with heap:=w.heap.setIfInBounds b obj}:World).shape? b=some y:=by
  grind[World.shape?]
 rcases K.find w k u.toList (QbD K g)with⟨t,F⟩|⟨j,e,t,F,W⟩
 .have f:=r.sim.set (x':=.mapP (Qx ek ev (l++[(k,v)]))) (obj:=.map (u.push {key:=Q0 (ek k),val:=a.eval zz,born:=d}) (d+1)) s hH rfl (h _)
   (λe z=>⟨_,_,z,by
    rw[Qx,Xg,Array.toList_push];exact(g.mono e).append ⟨_,_,rfl,(Qcp (K.scl _)),p.mono e,rfl⟩,by
    grind,by
    grind,by
    grind⟩)
  refine⟨_,G,[],?_,by grind,f.2⟩;simp only[execOp,J,M,L,Vg,Instr.mapUpdate,run_underlying B,Result.andThen,MapKept.run_getObj_map m,K.check,t,MapKept.run_setObj_map _ m];rfl
 grind
end
section
variable {fr ro:Nat->Prop} {σ:Sig} {H:Qb} {w:World}
theorem Sim.shutAny(s:Sim fr ro σ H w){i b:Nat}{n:Blk}(hσ:σ[i]?=some (some b))(hH:H[i]?=some n)(hl:n.live=true):
  Sim fr (λc=>ro c\/c=b) σ (H.set i .dead) w:=by
 have hown:=s.own i b _ hσ hH hl;have ext:Ext ro σ w (λc=>ro c\/c=b) σ w:=⟨λ_ q=>.inl q,λ_ _=>rfl,λ_ _ q=>q,λ_ _ q=>q⟩;have a:∀(j:Nat) (v:Blk),(H.set i .dead)[j]?=some v->v≠ .dead->j≠i/\H[j]?=some v:=by
  grind
 refine⟨by rw[XZ];exact s.len,s.roOk.to (λ_ q=>.inl q) (λ_ _=>rfl) ?_,s.frLt,?_,?_,?_,?_,s.hidTo (· = ·) Q9 (XQ _) (λj d x c B N E L=>L.elim id λq=>((s.hid j d x c B N E).ne i b _ hσ hH hl q).elim) (λ_ _ _ _ _ _ _ q=>q) λj d y G F J=>.inl ⟨j,y,rfl,G,(a j y F (QfB J)).2,id,λ_ q=>q⟩⟩
 .rintro c (q|rfl)
  .exact s.roLt c q
  omega
 .rintro c (q|rfl)
  .exact s.roFr c q
  grind
 .intro j c v g f h;obtain⟨e,f⟩:=a j v f (Qav h);obtain⟨t,z,M⟩:=s.own j c v g f h;refine⟨t,?_,M⟩;rintro(q|rfl)
  .exact z q
  .exact e (s.inj j i c v _ g hσ f hH h hl)
 .intro j p c v r g f h u m k;exact s.inj j p c v r g f (a j v h (Qav m)).2 (a p r u (Qav k)).2 m k
 .intro j y v g f;by_cases l:v≠ .dead
  .exact(s.blk j y v g (a j v f l).2).keep ext (λ_ _ _=>rfl) (λ_ _ _ _=>rfl)
  .obtain rfl:v=.dead:=Classical.not_not.1 l;trivial
def Qch(H:Qb):List Nat->Qb
 |[]=>H
 |i::l=>Qch (H.set i .dead) l
theorem QhF{l:List Nat}:∀{H:Qb} {j:Nat},j∉l->(Qch H l)[j]?=H[j]? :=by
 induction l with
 |nil=>intro H j _;rfl
 |cons i l a=>
  grind[Qch]
theorem QeF:∀{l:List Nat} {ro:Nat->Prop} {H:Qb} (s:Sim fr ro σ H w),l.Nodup->(∀i∈l,∃x,H[i]?=some x/\x.live=true)->
  ∃ro',Sim fr ro' σ (Qch H l) w/\(∀c,ro c->ro' c)/\ ∀i∈l,∀b,σ[i]?=some (some b)->ro' b
 |[],ro,H,s,_,_=>⟨ro,s,λ_ q=>q,λ_ h=>by cases h⟩
 |i::l,ro,H,s,hn,hl=>by
  rw[List.nodup_cons]at hn;obtain⟨x,hx,hxl⟩:=hl i (by simp);have rest:∀i'∈l,∃x,(H.set i .dead)[i']?=some x/\x.live=true:=by
   grind
  have j:∃q,σ[i]?=some q:=by
   have:i<σ.length:=by rw[s.len];grind
   simp_all
  obtain⟨q,k⟩:=j;cases q with
  |some b=>
   obtain⟨ro',d,f,m⟩:=QeF (s.shutAny k hx hxl) hn.2 rest;refine⟨ro',d,(by grind),λi' a g e=>?_⟩
   grind
  |none=>
   obtain⟨ro',d,f,m⟩:=QeF (s.kill i) hn.2 rest;refine⟨ro',d,f,λi' a g e=>?_⟩
   grind
end
end Go.Sw
namespace Go.Sw
structure Fil (α β:Type) where
 number:Int
 r0:List α
 r1:List α
 r2:List α
 reports:List β
 appeal:Bool
 deriving DecidableEq
structure FK (α β:Type) where
 T:Nat
 tF:Nat
 kF:Nat
 tR:Nat
 kR:Nat
 eF:α->List A
 eR:β->List A
section
variable {α β:Type} (K:FK α β)
def Qrv(b:Nat)(x:Fil α β):List A:=[.int .i64 x.number,.osl (b+1) 0 x.r0.length K.kF,.osl (b+2) 0 x.r1.length K.kF,.osl (b+3) 0 x.r2.length K.kF,.osl (b+4) 0 x.reports.length K.kR,.bool x.appeal]
def Qmx(b:Nat)(x:Fil α β):List Blk:=[.cells K.T (Qrv K b x),.row K.tF K.kF (x.r0.map K.eF),.row K.tF K.kF (x.r1.map K.eF),.row K.tF K.kF (x.r2.map K.eF),.row K.tR K.kR (x.reports.map K.eR)]
def fall:Nat->List (Fil α β)->List Blk
 |_,[]=>[]
 |b,x::l=>Qmx K b x++fall (b+5) l
def frp(x:Fil α β):List A:=[.int .i64 x.number,.rsl K.kF (x.r0.map K.eF),.rsl K.kF (x.r1.map K.eF),.rsl K.kF (x.r2.map K.eF),.rsl K.kR (x.reports.map K.eR),.bool x.appeal]
def fent:Nat->List (Fil α β)->List (Int×Nat)
 |_,[]=>[]
 |b,x::l=>(x.number,b)::fent (b+5) l
def Qff(j:Nat):A:=.ptr j 0
def rpE(x:Fil α β):A:=.rp (frp K x)
def Qfj(fs:List (Fil α β)):List (Int×Fil α β):=fs.map λx=>(x.number,x)
theorem QhQ(b:Nat)(x:Fil α β)(l:List (Fil α β)):fall K b (x::l)=Qmx K b x++fall K (b+5) l:=rfl
theorem Qno(b:Nat)(x:Fil α β):(Qmx K b x).length=5:=rfl
end
section
variable {fr ro ro':Nat->Prop} {σ:Sig} {w:World}
theorem Qa6(sub:∀c,ro c->ro' c){i t k:Nat}{es:List (List A)}{v:Value}(r:∀b,σ[i]?=some (some b)->BR ro σ w (.row t k es) (some b)/\ro' b)(h:VR ro σ w (.osl i 0 es.length k) v):VR ro' [] w (.rsl k es) v:=by
 rcases h with⟨u,h⟩|⟨b,p,a,z,m,e,h,B,⟨d,n⟩,x,E⟩
 .have:es=[]:=(by grind);subst this;exact⟨none,0,h,XQ _,.inl rfl⟩
 .refine⟨_,a,h,d,?_⟩;by_cases f:es=[]
  .exact .inl f
  .right;have y:0<a:=X9 (by grind) d;obtain⟨⟨l,j,s⟩,g⟩:=r b e;refine⟨b,0,by simp,g,?_⟩;have:=Y5 (pre:=[]) (by simpa using j) s;exact this.keep ⟨sub,λ_ _=>rfl,λ_ _ q=>q,λ_ _ q=>q⟩ rfl
theorem Qja{ro:Nat->Prop}{w:World}{b t:Nat}:∀{cs:List A} {pre l:List Value},w.heap[b]?=some (.cells (pre++l).toArray t (0,0))->LR ro [] w cs l->(∀v∈l,Qz v)->CR ro [] w b cs pre.length
 |[],pre,l,_,_,_=>trivial
 |a::cs,pre,l,hb,hl,hp=>by
  obtain⟨v,l',rfl,h1,h2⟩:=hl;refine⟨⟨v,?_,hp v (by simp),h1⟩,?_⟩
  .unfold World.cell?
   grind
  .have:=Qja (pre:=pre++[v]) (by simpa using hb) h2 (by grind)
   grind
variable {α β:Type} (K:FK α β)
theorem QqD(sub:∀c,ro c->ro' c){b:Nat}{x:Fil α β}{v:Value}(f:∀(d c:Nat) (y:Blk),(Qmx K b x)[d]?=some y->σ[b+d]?=some (some c)->BR ro σ w y (some c)/\ro' c)(h:VR ro σ w (.ptr b 0) v):VR ro' [] w (.rp (frp K x)) v:=by
 obtain⟨c,g,j⟩:=h;obtain⟨⟨l,p,a,q⟩,n⟩:=f 0 c _ rfl g;refine⟨c,0,j,n,(Qja (pre:=[]) (by simpa using p) ?_ q)⟩;obtain⟨v0,J,rfl,m,a⟩:=a;obtain⟨u,H,rfl,z,a⟩:=a;obtain⟨s,L,rfl,N,a⟩:=a;obtain⟨t,E,rfl,B,a⟩:=a;obtain⟨r,G,rfl,F,a⟩:=a;obtain⟨k,M,rfl,i,a⟩:=a;refine⟨v0,_,rfl,m,u,_,rfl,Qa6 sub (λc e=>f 1 c _ rfl e) (by grind),s,_,rfl,Qa6 sub (λc e=>f 2 c _ rfl e) (by grind),t,_,rfl,Qa6 sub (λc e=>f 3 c _ rfl e) (by grind),
  r,_,rfl,Qa6 sub (λc e=>f 4 c _ rfl e) (by grind),k,_,rfl,i,a⟩
theorem QpP(sub:∀c,ro c->ro' c){ek:Int->A}(hek:∀(k:Int) (v:Value),VR ro σ w (ek k) v->VR ro' [] w (ek k) v):∀{b:Nat} {fs:List (Fil α β)} {es:List MapEntry},(∀(d c:Nat) (y:Blk),(fall K b fs)[d]?=some y->σ[b+d]?=some (some c)->BR ro σ w y (some c)/\ro' c)->
  ER ro σ w (Qx ek Qff (fent b fs)) es->ER ro' [] w (Qx ek (rpE K) (Qfj fs)) es
 |b,[],es,_,h=>h
 |b,x::l,es,hb,h=>by
  obtain⟨e,l',rfl,h1,h2,h3⟩:=h;refine⟨e,l',rfl,hek _ _ h1,?_,?_⟩
  .refine QqD K sub (λd c y hy hc=>hb d c y ?_ hc) h2
   grind[QhQ]
  .refine QpP sub hek (λd c y hy hc=>hb (d+5) c y ?_ (by grind)) h3
   grind[QhQ,Qno]
end
section
variable {fr ro:Nat->Prop} {σ:Sig} {w:World} {α β:Type} (K:FK α β)
theorem Sim.shutMapP{H:Qb}(s:Sim fr ro σ H w){i b:Nat}{es es':List (A×A)}(hσ:σ[i]?=some (some b))(hH:H[i]?=some (.mapP es))(he:∀l,ER ro σ w es l->ER (λc=>ro c\/c=b) [] w es' l):
  Sim fr (λc=>ro c\/c=b) σ (H.set i (.fmap es')) w:=by
 have hown:=s.own i b _ hσ hH rfl;have ext:Ext ro σ w (λc=>ro c\/c=b) σ w:=⟨λ_ q=>.inl q,λ_ _=>rfl,λ_ _ q=>q,λ_ _ q=>q⟩;have a:∀(j:Nat) (v:Blk),(H.set i (.fmap es'))[j]?=some v->v.live=true->j≠i/\H[j]?=some v:=by
  intro j v h z;by_cases e:j=i
  .subst e;rw[Xb]at h
   grind[Blk.live]
  grind
 have n:∀(j:Nat) (v:Blk),(H.set i (.fmap es'))[j]?=some v->v.holds=true->H[j]?=some v:=by
  intro j v h z;by_cases e:j=i
  .subst e;rw[Xb]at h;simp only[if_true]at h;split at h
   .cases h;cases z
   .simp at h
  grind
 refine⟨by rw[XZ];exact s.len,s.roOk.to (λ_ q=>.inl q) (λ_ _=>rfl) ?_,s.frLt,?_,?_,?_,?_,s.hidTo (· = ·) Q9 (XQ _) (λj d x c J N L M=>M.elim id λq=>((s.hid j d x c J N L).ne i b _ hσ hH rfl q).elim) (by simp) (by grind)⟩
 .rintro c (q|rfl)
  .exact s.roLt c q
  omega
 .rintro c (q|rfl)
  .exact s.roFr c q
  grind
 .intro j c v g f m;obtain⟨e,f⟩:=a j v f m;obtain⟨p,r,t⟩:=s.own j c v g f m;refine⟨p,?_,t⟩;rintro(q|rfl)
  .exact r q
  .exact e (s.inj j i c v _ g hσ f hH m rfl)
 .intro j E c v F g f m G B u;exact s.inj j E c v F g f (a j v m B).2 (a E F G u).2 B u
 .intro j y v g f;by_cases e:j=i
  .subst e;rw[Xa (XI.1 hH).1]at f;cases f;rw[hσ]at g;cases g;obtain⟨l,k,p,r,t⟩:=s.blk j _ _ hσ hH;exact⟨.inr rfl,l,k,p,he _ r,t⟩
  .rw[XM (λq=>e q.symm)]at f;exact(s.blk j y v g f).keep ext (λ_ _ _=>rfl) (λ_ _ _ _=>rfl)
end
open Go.Sort Go.Proofs Go.Shelf
theorem Qop{α:Type}{l:List α}(h:l.length=1):∃v,l=[v]:=by
 match l,h with
 |[v],_=>simp
theorem Qgh{α β:Type}(f:α->β):∀l:List α,(l.map λa=>[f a]).flatten=l.map f
 |[]=>rfl
 |a::l=>by simp[Qgh f l]
structure Elt1 (ro:Nat->Prop) (w:World) {T:Type} (ea:T->A) (l:List T) where
 x:T
 v:Value
 mem:x∈l
 rel:VR ro [] w (ea x) v
 plain:Qz v
theorem QqL{P:Program}{ρ:Ren}(L0:SlLaysF0.n6 P ρ){T:Type}[DecidableEq T]{ea:T->A}{t g:Nat}{cap:List A}{l l':List T}{cf:T->T->Option Int}(hs:Qb7 cf l=some l')
  (a2:∀x y c,cf x y=some c->C P g ([ea x,ea y]++cap) [] (λa H=>a=.int .i64 c/\H=[]))
  (aE:∀w,(isAgg (ρ.t 24)).run P w=.ok false w)(zE:∀w,(Go.sizeOf (ρ.t 24)).run P w=.ok 1 w)(eg:∀args w,(callFunc g args).run P w=.ok (.enter g args) w)(hd:Yu cap=true):
  C P (ρ.f 6) [.osl 0 0 l.length 1,.fn (.func g) [] cap] [.row t 1 (l.map λx=>[ea x])] (λa H=>a=.tup []/\H=[.row t 1 (l'.map λx=>[ea x])]):=by
 have L:SlLaysF.n6 P ρ:={L0 with a24:=aE,z24:=zE};intro fr B σ vals w s hv;obtain⟨vs,r1,rfl,bc,vf,r2,rfl,bo,hr⟩:=hv;cases(show r2=[]from hr);obtain⟨lf,lc,rfl,h1,av⟩:=bo;cases(show lf=[]from h1);have an:LR B [] w cap lc:=LR.data hd av;obtain⟨a4,ac,O,al,aw⟩:=Qdq hs;have au:∀(ad:Option Addr) (c:Nat),vs=.slice ad 0 c->l=[]->
   Calls P (ρ.f 6) [vs,.func (.func g) #[] lc.toArray].toArray w λe w'=>∃v r H' ab τ,e=.returned v/\(r=.tup []/\H'=[.row t 1 (l'.map λx=>[ea x])])/\Sim fr ab (σ++τ) H' w'/\VR ab (σ++τ) w' r v/\Qk fr B w ab w':=by
  rintro ad c rfl rfl;have am:l'=[]:=by rw[<- aw];rfl
  subst am;refine(AnyF.slices_SortFunc_none L0 ad c (.func (.func g) #[] lc.toArray) w).mono ?_;rintro e w' ⟨rfl,rfl⟩;exact⟨_,_,_,B,[],rfl,⟨rfl,rfl⟩,by simpa using s,⟨[],rfl,rfl⟩,Qk.refl _ _ _⟩
 rcases bc with⟨h0,rfl⟩|⟨b,p,cp,t',m,q1,rfl,q2,⟨q3,bq⟩,q4,q5⟩
 .grind
 .by_cases am:l=[]
  .grind
  .have bl:0<l.length:=List.length_pos_iff.2 am;obtain rfl:=q2 (X9 bl q3);obtain⟨lv,e1,e2⟩:=s.blk 0 _ _ q1 rfl;obtain⟨hb,ag,ba⟩:=s.own 0 b _ q1 rfl rfl;obtain⟨Q,F,a1,rfl,bh⟩:=RL.parts e2
   let α:=Elt1 B w ea l
   have a0:∀p∈Q,p.1∈l:=λp hp=>by rw[<- a1];exact VA hp
   have az:∀p∈Q,∃v,p.2=[v]/\VR B [] w (ea p.1) v/\Qz v:=by
    intro p hp;obtain⟨g1,g2,g3⟩:=bh p hp;obtain⟨v,e⟩:=Qop g1;rw[e]at g2 g3;obtain⟨v',l',e',g4,g5⟩:=g2;cases e';exact⟨v,e,g4,g3 v (by simp)⟩
   let val:List Value->Value:=λl=>l.headD .nilFunc
   have R:∀p∈Q,p.2=[val p.2]/\VR B [] w (ea p.1) (val p.2)/\Qz (val p.2):=by
    intro p hp;obtain⟨v,e,g⟩:=az p hp;rw[e];exact⟨rfl,g⟩
   let ds:List α:=Q.attach.map λp=>⟨p.1.1,val p.1.2,a0 _ p.2,(R _ p.2).2.1,(R _ p.2).2.2⟩
   have a3:∀{γ:Type} (f:T×List Value->γ),Q.attach.map (λp=>f p.1)=Q.map f:=λf=>by simp
   have J:ds.map (·.x)=l:=by
    show(Q.attach.map _).map _=_;rw[List.map_map];exact(a3 (·.1)).trans a1
   have ax:ds.map (·.v)=Q.map λp=>val p.2:=by
    show(Q.attach.map _).map _=_;rw[List.map_map];exact a3 λp=>val p.2
   have aj:ds.length=l.length:=by rw[<- J];simp
   have ay:ds≠[]:=by intro q;rw[q]at aj;simp at aj;omega
   let inh:Inhabited α:=⟨ds.head ay⟩
   let enc':α->Value:=λa=>a.v
   let cf':α->α->Int:=λx y=>(cf x.x y.x).getD 0
   have aa:∀x y:α,ltOf cf' x y=ltO cf x.x y.x:=by
    intro x y;obtain⟨c,u⟩:=ac x.x x.mem y.x y.mem;simp only[ltOf,ltO,cf',u,Option.getD_some]
   have hO:SWO (ltOf cf'):=⟨λx=>by rw[aa];exact O.irrefl _ x.mem,λx y z a b=>by rw[aa]at*;exact O.trans _ x.mem _ y.mem _ z.mem a b,
    λx y z a b=>by rw[aa]at*;exact O.ntrans _ x.mem _ y.mem _ z.mem a b⟩
   have bg:(Q.map (·.2)).flatten=ds.map enc':=by
    have e3:Q.map (·.2)=(Q.map λp=>val p.2).map λv=>[v]:=by
     rw[List.map_map];exact List.map_congr_left λp hp=>(R p hp).1
    rw[e3, <- ax];have:=Qgh (λv:Value=>v) (ds.map (·.v));rw[this];simp[enc']
   rw[bg]at e1;have hH:Holds enc' w b 0 ds.toArray:=by
    intro j hj;simp only[List.size_toArray]at hj;constructor
    .unfold World.cell?;simp only[e1,Option.isSome_none,Xj,if_false,Xu];rw[Qbm,XJ (by simpa using hj),Xo,Qge _ _ hj];rfl
    .unfold World.frozen?;simp only[e1];simp
   have ak:∀(d:Array α),d.size=ds.toArray.size->(putRow enc' w b 0 d).heap=w.heap.setIfInBounds b (.cells ((d.toList.map enc'++F)).toArray t (0,0)):=by
    intro d k;have ar:(d.toList.map enc').length=(ds.map enc').length:=by simp at k⊢;rw[k]
    unfold putRow mapBlock;show w.heap.modify b _=_;rw[Qbs e1];simp only[onCells];congr 2;unfold putCells;apply Array.ext_getElem?;intro i;simp only[Array.getElem?_mapIdx,Qbm,XR,true_and,Xu,Nat.sub_zero];by_cases hi:i<d.size
    .have Y:i<(d.toList.map enc').length:=by simpa using hi
     rw[XJ Y,XJ (by rw[<- ar];exact Y),XH (by rw[<- ar];exact Y),XH Y];simp only[Xk,Vm hi];congr 1;rw[getElem!_pos d i hi];simp
    .have Y:¬i<(d.toList.map enc').length:=by simpa using hi
     rw[XK (by omega),XK (by omega),ar];cases(F[i-(ds.map enc').length]?)with
     |none=>rfl
     |some v=>exact congrArg some (Vl hi)
   have M:∀(m:Nat) (os:Array Obj) (d:Array α),d.size=ds.toArray.size->
     (∀c,c<w.heap.size->c≠b->(sortWorld enc' w b 0 m d os).heap[c]?=w.heap[c]?)/\(sortWorld enc' w b 0 m d os).heap[b]?=some (.cells ((d.toList.map enc'++F)).toArray t (0,0))/\
     w.heap.size<=(sortWorld enc' w b 0 m d os).heap.size:=by
    intro m os d k;have e:(sortWorld enc' w b 0 m d os).heap=w.heap.setIfInBounds b (.cells ((d.toList.map enc'++F)).toArray t (0,0))++os:=by
     rw[<- ak d k];rfl
    rw[e];refine⟨λc u bp=>?_,?_,by simp⟩
    .rw[Array.getElem?_append_left (by simpa using u),X8,Vl (λq=>bp q.symm)]
    .rw[Array.getElem?_append_left (by simpa using hb),X8,Vm rfl,Vm hb]
   have N:∀(m:Nat) (os:Array Obj) (d:Array α),d.size=ds.toArray.size->∀c y,w.shape? c=some y->(sortWorld enc' w b 0 m d os).shape? c=some y:=by
    intro m os d k c y hy;obtain⟨g1,g2,g3⟩:=M m os d k;by_cases u:c=b
    .subst u;unfold World.shape? at hy⊢;rw[e1]at hy;rw[g2];simp only[Option.some.injEq]at hy⊢;rw[<- hy];congr 1;simp only[List.size_toArray,XY,XX];simp at k⊢;rw[k]
    .unfold World.shape? at hy⊢;rw[g1 c (Qjo hy) u];exact hy
   have af:∀(m:Nat) (os:Array Obj) (d:Array α),d.size=ds.toArray.size->∀τ,Ext B τ w B τ (sortWorld enc' w b 0 m d os):=by
    intro m os d k τ;obtain⟨g1,g2,g3⟩:=M m os d k;exact⟨λ_ q=>q,λc u=>g1 c (s.roLt c u) (λq=>ag (q▸u)),N m os d k,λ_ _ q=>q⟩
   have bf:CmpLays1 P g lc.toArray enc' cf' b 0 ds.toArray.size w:=by
    intro m os dk a6 x y;obtain⟨c,u⟩:=ac x.x x.mem y.x y.mem;have E:=af m os dk a6 [];have bb:=a2 _ _ _ u;generalize hW:sortWorld enc' w b 0 m dk os=W at*;have be:w.heap.size<=W.heap.size:=by rw[<- hW];exact(M m os dk a6).2.2
    have sW:Sim (λc=>c<W.heap.size/\ ¬B c) B [] [] W:=
     ⟨rfl,s.roOk.to (λ_ q=>q) E.keep (λc u=>X9 (s.roLt c u) be),λc u=>u.1,λc u hf=>hf.2 u,λi b x h=>by simp at h,λi j b x y h=>by simp at h,λi y x h=>by simp at h,λi b x c h=>by simp at h⟩
    have ai:LR B [] W ([ea x.x,ea y.x]++cap) ([x.v,y.v]++lc):=
     LR.append (show LR B [] W [ea x.x,ea y.x] [x.v,y.v]from⟨_,_,rfl,x.rel.mono E,_,_,rfl,y.rel.mono E,rfl⟩) (an.mono E)
    have G:=bb _ B [] _ W sW ai;have bm:(([x.v,y.v]++lc).toArray:Array Value)= #[enc' x,enc' y]++lc.toArray:=by simp[enc']
    rw[bm]at G;refine G.mono ?_;rintro e w' ⟨v,r,H',ab,τ,rfl,⟨rfl,rfl⟩,s',bn,ev⟩;refine⟨?_,?_⟩
    .rw[show v=.int .i64 c from bn];simp only[cf',u,Option.getD_some]
    .refine Qmv (λc u=>?_) ev.size ev.os ev.tape ev.output ev.drawn;by_cases a9:B c
     .exact ev.keepRo c a9
     .exact ev.keepFr c ⟨u,a9⟩
   have X:ds.toArray.size=l.length:=by simpa using aj
   have br:b+0=b:=rfl;have ae:=Any.slices_SortFunc L enc' (λx=>Qhx x.plain) cf' hO g lc.toArray b 0 cp ds.toArray w eg bf hH hb (by rw[X];unfold QC at a4;omega);rw[X]at ae;rw[Nat.zero_mul];refine ae.mono ?_;rintro e w' ⟨rfl,d,n,os,V,ao,rfl⟩;have k:d.size=ds.toArray.size:=V.1;obtain⟨g1,g2,g3⟩:=M n os d k;have aq:d.toList.Perm ds:=by
    have h:=V.2.2;have x1:d.extract 0 l.length=d:=by rw[<- X, <- k];exact Array.extract_size
    have x2:ds.toArray.extract 0 l.length=ds.toArray:=by rw[<- X];exact Array.extract_size
    rw[x1,x2]at h;simpa using h
   have a5:d.toList.map (·.x)=l':=by
    rw[<- aw];refine JO (lt:=ltO cf) ?_ ?_ ?_ (Q2 O)
    .exact((aq.map (·.x)).trans (by rw[J])).trans (Qu _ _).symm
    .intro x hx y hy;have bd:x∈l:=by rw[<- J];exact(aq.map (·.x)).mem_iff.1 hx
     have bj:y∈l:=by rw[<- J];exact(aq.map (·.x)).mem_iff.1 hy
     exact al x bd y bj
    .rw[Vy];intro i j hi hj bk;simp only[XX]at hi hj;simp only[List.getElem_map];rw[<- aa];have:=ao i j (XR _) bk (by rw[<- X, <- k];simpa using hj);rw[getElem!_pos d j (by simpa using hj),getElem!_pos d i (by simpa using hi)]at this;simpa using this
   have bi:RL B [] (sortWorld enc' w b 0 n d os) 1 (l'.map λx=>[ea x]) (d.toList.map enc'++F):=by
    have e3:d.toList.map enc'=((d.toList.map λa=>(a.x,[a.v])).map (·.2)).flatten:=by
     rw[List.map_map];exact(Qgh (λa:α=>a.v) d.toList).symm
    have e4:l'=(d.toList.map λa=>(a.x,[a.v])).map (·.1):=by rw[<- a5];simp
    rw[e3,e4];refine Qcq (enc:=λx=>[ea x]) (λ_=>rfl) ?_;intro p hp;obtain⟨a,_,rfl⟩:=Xf.1 hp;exact⟨⟨_,_,rfl,a.rel.mono (af n os d k []),rfl⟩,λv hv=>by rw[Vv.1 hv];exact a.plain⟩
   have a8:Qk fr B w B (sortWorld enc' w b 0 n d os):=
    ⟨λ_ q=>q,λc u=>g1 c (s.roLt c u) (λq=>ag (q▸u)),λc u=>g1 c (s.frLt c u) (λq=>ba (q▸u)),g3,N n os d k,rfl,rfl,rfl,Nat.le_add_right _ _⟩
   have ah:σ.length=1:=s.len;have a7:Sim fr B σ [.row t 1 (l'.map λx=>[ea x])] (sortWorld enc' w b 0 n d os):=by
    have i0:∀{i:Nat} {x:Blk},([.row t 1 (l'.map λx=>[ea x])]:Qb)[i]?=some x->i=0/\x=.row t 1 (l'.map λx=>[ea x]):=by
     intro i x h;cases i with
     |zero=>simp at h;exact⟨rfl,h.symm⟩
     |succ i=>simp at h
    refine⟨ah,s.roOk.to (λ_ q=>q) a8.keepRo (λc u=>X9 (s.roLt c u) g3),λc u=>X9 (s.frLt c u) g3,s.roFr,λi c x h1 h2 h3=>?_,λi j c x y h1 h2 h3 h4 _ _=>?_,λi y x h1 h2=>?_,λi b x c h1 h2 h3=>by obtain⟨rfl,rfl⟩:=i0 h2;exact h3.elim⟩
    .obtain⟨rfl,rfl⟩:=i0 h2;obtain⟨p1,p2⟩:=s.own 0 c _ h1 rfl rfl;exact⟨X9 p1 g3,p2⟩
    .rw[(i0 h3).1,(i0 h4).1]
    .obtain⟨rfl,rfl⟩:=i0 h2;rw[q1]at h1;cases h1;exact⟨_,g2,bi⟩
   exact⟨_,_,_,B,[],rfl,⟨rfl,rfl⟩,by simpa using a7,⟨[],rfl,rfl⟩,a8⟩
end Go.Sw
namespace Go.Sw
structure Pl where
 b:Nat
 i0:Nat
 i1:Nat
 i2:Nat
 i3:Nat
def Pl.ix(p:Pl):List Nat:=[p.b,p.i0,p.i1,p.i2,p.i3]
section
variable {α β:Type} (K:FK α β)
def Yj(p:Pl)(x:Fil α β):List A:=[.int .i64 x.number,.osl p.i0 0 x.r0.length K.kF,.osl p.i1 0 x.r1.length K.kF,.osl p.i2 0 x.r2.length K.kF,.osl p.i3 0 x.reports.length K.kR,.bool x.appeal]
structure QbX (H:Qb) (x:Fil α β) (p:Pl):Prop where
 c:H[p.b]?=some (.cells K.T (Yj K p x))
 r0:H[p.i0]?=some (.row K.tF K.kF (x.r0.map K.eF))
 r1:H[p.i1]?=some (.row K.tF K.kF (x.r1.map K.eF))
 r2:H[p.i2]?=some (.row K.tF K.kF (x.r2.map K.eF))
 r3:H[p.i3]?=some (.row K.tR K.kR (x.reports.map K.eR))
abbrev Qa5(α β:Type):=List (Fil α β×Pl)
def Y9(bk:Qa5 α β):List (Int×Nat):=bk.map λe=>(e.1.number,e.2.b)
structure YR (lo:Nat) (H:Qb) (bk:Qa5 α β):Prop where
 laid:∀e∈bk,QbX K H e.1 e.2
 own:∀e∈bk,e.2.ix.Nodup
 ne:bk.Pairwise λe f=>∀i∈e.2.ix,i∉f.2.ix
 lo:∀e∈bk,∀i∈e.2.ix,lo<=i
 num:(bk.map (·.1.number)).Nodup
variable {K} {lo:Nat} {H H':Qb} {bk l r:Qa5 α β} {e:Fil α β×Pl} {x':Fil α β} {p':Pl}
theorem YR.nil:YR K lo H []:=⟨(λ_ h=>by cases h),(λ_ h=>by cases h),List.Pairwise.nil,(λ_ h=>by cases h),List.nodup_nil⟩
theorem QbX.lt(h:QbX K H e.1 e.2):∀i∈e.2.ix,i<H.length:=by
 intro i a;have g:∀{j:Nat} {y:Blk},H[j]?=some y->j<H.length:=(by grind);simp[Pl.ix,X0,List.not_mem_nil,or_false]at a;rcases a with rfl|rfl|rfl|rfl|rfl
 .exact g h.c
 .exact g h.r0
 .exact g h.r1
 .exact g h.r2
 .exact g h.r3
theorem QbX.keep(h:QbX K H e.1 e.2)(k:∀i∈e.2.ix,H'[i]?=H[i]?):QbX K H' e.1 e.2:=by
 refine⟨?_,?_,?_,?_,?_⟩
 .rw[k _ (by simp[Pl.ix])];exact h.c
 .rw[k _ (by simp[Pl.ix])];exact h.r0
 .rw[k _ (by simp[Pl.ix])];exact h.r1
 .rw[k _ (by simp[Pl.ix])];exact h.r2
 .rw[k _ (by simp[Pl.ix])];exact h.r3
theorem YR.keep(h:YR K lo H bk)(k:∀j,lo<=j->j<H.length->H'[j]?=H[j]?):YR K lo H' bk:=
 ⟨λe he=>(h.laid e he).keep λi hi=>k i (h.lo e he i hi) ((h.laid e he).lt i hi),h.own,h.ne,h.lo,h.num⟩
theorem YR.upd(h:YR K lo H (l++e::r))(u:QbX K H' x' p')(E:x'.number=e.1.number)(x:∀j,lo<=j->j<H.length->j∉e.2.ix->H'[j]?=H[j]?)
  (hi:∀i∈p'.ix,i∈e.2.ix\/H.length<=i)(y:p'.ix.Nodup)(hl:lo<=H.length):YR K lo H' (l++(x',p')::r):=by
 obtain⟨z,w,B⟩:=List.pairwise_append.1 h.ne;obtain⟨F,t⟩:=Xc.1 w;have mem:∀f∈l++(x',p')::r,f=(x',p')\/(f∈l++e::r/\ ∀i∈f.2.ix,i∉e.2.ix):=by
  intro f a
  grind
 refine⟨?_,?_,?_,?_,?_⟩
 .intro f a;rcases mem f a with rfl|⟨d,p⟩
  .exact u
  .exact(h.laid f d).keep λi hi=>x i (h.lo f d i hi) ((h.laid f d).lt i hi) (p i hi)
 .intro f a;rcases mem f a with rfl|⟨d,p⟩
  .exact y
  .exact h.own f d
 .refine List.pairwise_append.2 ⟨z,Xc.2 ⟨?_,t⟩,?_⟩
  .intro f a i k m;rcases hi i k with q|q
   .grind
   .have:=(h.laid f (by simp[a])).lt i m;omega
  .intro f a g s i m n;rcases X0.1 s with rfl|s
   .rcases hi i n with q|q
    .grind
    .have:=(h.laid f (by simp[a])).lt i m;omega
   grind
 .intro f a;rcases mem f a with rfl|⟨d,p⟩
  .intro i k;rcases hi i k with q|q
   .exact h.lo e (by simp) i q
   .omega
  .exact h.lo f d
 .have:=h.num
  grind
theorem YR.add(h:YR K lo H bk)(m:QbX K H' x' p')(s:∀e∈bk,e.1.number≠x'.number)(n:∀j,lo<=j->j<H.length->H'[j]?=H[j]?)
  (hi:∀i∈p'.ix,H.length<=i)(p:p'.ix.Nodup)(hl:lo<=H.length):YR K lo H' (bk++[(x',p')]):=by
 have l:=h.keep n;have mem:∀f∈bk++[(x',p')],f∈bk\/f=(x',p'):=by
  simp
 refine⟨?_,?_,?_,?_,?_⟩
 .intro f d;rcases mem f d with q|rfl
  .exact l.laid f q
  .exact m
 .intro f d;rcases mem f d with q|rfl
  .exact h.own f q
  .exact p
 .refine List.pairwise_append.2 ⟨h.ne,by simp,λf d g r i a k=>?_⟩;have:=(h.laid f d).lt i a
  grind
 .intro f d i a;rcases mem f d with q|rfl
  .exact h.lo f q i a
  grind
 .rw[Xg];refine List.nodup_append.2 ⟨h.num,by simp,?_⟩
  grind
theorem Qez:∀(a:Qa5 α β) (k:Int),(YN (Y9 a) k=none/\ ∀e∈a,e.1.number≠k)\/ ∃l e r,a=l++e::r/\e.1.number=k/\(∀y∈l,y.1.number≠k)/\YN (Y9 a) k=some e.2.b
 |[],k=>.inl ⟨rfl,λ_ h=>by cases h⟩
 |e::l,k=>by
  have e0:YN (Y9 (e::l)) k=if e.1.number=k then some e.2.b else YN (Y9 l) k:=by
   grind[YN,Y9]
  by_cases q:e.1.number=k
  .exact .inr ⟨[],e,l,rfl,q,(λ_ h=>by cases h),by grind⟩
  .rcases Qez l k with⟨d,f⟩|⟨p,y,r,d,f,i,g⟩
   .grind
   grind
theorem QnF(p q:Qa5 α β):Y9 (p++q)=Y9 p++Y9 q:=by simp[Y9]
theorem QnE(a:x'.number=e.1.number)(d:p'.b=e.2.b):Y9 (l++(x',p')::r)=Y9 (l++e::r):=by simp[Y9,a,d]
end
section
variable {fr ro ro':Nat->Prop} {σ:Sig} {w:World} {α β:Type} (K:FK α β)
theorem Qpu(sub:∀c,ro c->ro' c){p:Pl}{x:Fil α β}{v:Value}{H:Qb}(hl:QbX K H x p)(e:∀i∈p.ix,∀(c:Nat) (y:Blk),H[i]?=some y->σ[i]?=some (some c)->BR ro σ w y (some c)/\ro' c)(h:VR ro σ w (.ptr p.b 0) v):VR ro' [] w (.rp (frp K x)) v:=by
 obtain⟨c,f,j⟩:=h;obtain⟨⟨l,q,a,r⟩,n⟩:=e p.b (by simp[Pl.ix]) c _ hl.c f;refine⟨c,0,j,n,(Qja (pre:=[]) (by simpa using q) ?_ r)⟩;obtain⟨v0,M,rfl,m,a⟩:=a;obtain⟨z,L,rfl,B,a⟩:=a;obtain⟨t,N,rfl,P,a⟩:=a;obtain⟨u,F,rfl,E,a⟩:=a;obtain⟨s,J,rfl,G,a⟩:=a;obtain⟨k,O,rfl,g,a⟩:=a;refine⟨v0,_,rfl,m,z,_,rfl,Qa6 sub (λc d=>e p.i0 (by simp[Pl.ix]) c _ hl.r0 d) (by grind),t,_,rfl,Qa6 sub (λc d=>e p.i1 (by simp[Pl.ix]) c _ hl.r1 d) (by grind),u,_,rfl,Qa6 sub (λc d=>e p.i2 (by simp[Pl.ix]) c _ hl.r2 d) (by grind),
  s,_,rfl,Qa6 sub (λc d=>e p.i3 (by simp[Pl.ix]) c _ hl.r3 d) (by grind),k,_,rfl,g,a⟩
theorem Qia(sub:∀c,ro c->ro' c){H:Qb}{ek:Int->A}(hek:∀(k:Int) (v:Value),VR ro σ w (ek k) v->VR ro' [] w (ek k) v):∀{bk:Qa5 α β} {es:List MapEntry},(∀e∈bk,QbX K H e.1 e.2)->(∀e∈bk,∀i∈e.2.ix,∀(c:Nat) (y:Blk),H[i]?=some y->σ[i]?=some (some c)->BR ro σ w y (some c)/\ro' c)->
  ER ro σ w (Qx ek Qff (Y9 bk)) es->ER ro' [] w (Qx ek (rpE K) (Qfj (bk.map (·.1)))) es
 |[],es,_,_,h=>h
 |x::l,es,hl,hb,h=>by
  obtain⟨e,l',rfl,h1,h2,h3⟩:=h;exact⟨e,l',rfl,hek _ _ h1,Qpu K sub (hl x (by simp)) (hb x (by simp)) h2,Qia sub hek (by grind) (λe he=>hb e (by simp[he])) h3⟩
def Qd1(bk:Qa5 α β):List Nat:=bk.flatMap λe=>e.2.ix
theorem YR.all{lo:Nat}{H:Qb}:∀{f:Qa5 α β},YR K lo H f->(Qd1 f).Nodup/\ ∀i∈Qd1 f,lo<=i/\ ∃y,H[i]?=some y/\y.live=true:=by
 intro f h;refine⟨?_,?_⟩
 .have j:=h.own;have k:=h.ne
  grind[Qd1]
 .intro i d;obtain⟨e,g,d⟩:=List.mem_flatMap.1 d;refine⟨h.lo e g i d,?_⟩;have a:=h.laid e g;simp[Pl.ix,X0,List.not_mem_nil,or_false]at d;rcases d with rfl|rfl|rfl|rfl|rfl
  .exact⟨_,a.c,rfl⟩
  .exact⟨_,a.r0,rfl⟩
  .exact⟨_,a.r1,rfl⟩
  .exact⟨_,a.r2,rfl⟩
  .exact⟨_,a.r3,rfl⟩
end
section
variable {α β:Type} (K:FK α β) {env:Env} {H:Qb}
theorem QpH{h0 lo m:Nat}{f:Qa5 α β}(z:YR K lo H f)(T:Nat.blt m lo=true)(Q:H[m]?=some (.mapP (Qx (λn=>.int .i64 n) Qff (Y9 f)))):
  Le h0 env H env ((Qch H (Qd1 f)).set m (.fmap (Qx (λn=>.int .i64 n) (rpE K) (Qfj (f.map (·.1)))))):=by
 intro V u σ N a w r;have s:=r.sim;obtain⟨nd,E⟩:=z.all;have J:m<lo:=by simp_all
 have G:∃q,σ[m]?=some q:=by
  have:m<σ.length:=by rw[s.len];grind
  simp_all
 obtain⟨q,B⟩:=G;cases q with
 |none=>exact(s.blk m _ _ B Q).elim
 |some x=>
 obtain⟨d,P,g,t⟩:=QeF s nd (by grind);have p:(Qch H (Qd1 f))[m]?=some (.mapP (Qx (λn=>.int .i64 n) Qff (Y9 f))):=by
  grind[QhF]
 have O:=P.shutMapP (es':=Qx (λn=>.int .i64 n) (rpE K) (Qfj (f.map (·.1)))) B p (λl L=>?_)
 .have sub:∀c,u c->d c\/c=x:=(by grind);have ext:Ext u σ w (λc=>d c\/c=x) σ w:=⟨sub,λ_ _=>rfl,λ_ _ q=>q,λ_ _ q=>q⟩;exact⟨_,σ,⟨O,λq=>(r.env q).mono ext,r.size,r.defers⟩,sub,rfl⟩
 .have ext:Ext u σ w d σ w:=⟨g,λ_ _=>rfl,λ_ _ q=>q,λ_ _ q=>q⟩;exact Qia K (ek:=λn=>.int .i64 n) (ro':=λc=>d c\/c=x) (λc j=>.inl j) (λk v h=>h) z.laid (λe F i M c y R j=>(⟨(s.blk _ _ _ j R).keep ext (λ_ _ _=>rfl) (λ_ _ _ _=>rfl),.inl (t _ (List.mem_flatMap.2 ⟨e,F,M⟩) c j)⟩)) L
end
section
variable {P:Program} {h0 N:Nat} {all:Array Oper} {o:Oper} {l:List Oper} {env:Env} {H:Qb} {Q:QV}
theorem Qdj{d:Nat}{f:FuncId}{args:List A}{Qr:A->Qb->Prop}(j:OpC P o env H f args)(x:C P f args H Qr)
  (k:∀r H1,Qr r H1->WO P h0 N all l (up env d r) H1 Q)(J:h0<=H.length)(hg:QA all o env true:=by exact rfl)(hd:o.dst=some d:=by exact rfl)(hN:Nat.blt d N=true:=by exact rfl):
  WO P h0 N all (o::l) env H Q:=by
 intro E fr p σ a w r hrd;obtain⟨g,t,z⟩:=j fr p σ N a w r;refine Qeg (Y0 hg r) t ?_;have hσl:=r.sim.len;refine Calls.mono (x fr p σ g w r.sim z) ?_;rintro e m ⟨v,n,H1,h,τ,rfl,B,F,y,ev⟩;have u:=k n H1 B;simp only[hd];have i:d<N:=by simp_all
 have G:Rel fr h (σ++τ) H1 (up env d n) N {a with tmps:=a.tmps.setIfInBounds d v} m:=
  ⟨F,VR.up (fr:=fr) (λs=>(r.env s).mono (ev.ext σ τ)) (by rw[r.size];exact i) y,by simpa using r.size,r.defers.keep ev⟩
 exact⟨_,rfl,Yw (λe a w q=>q.step ev (by grind)) _ _ _ (u E fr h (σ++τ) _ m G (hrd.to ev λ_ q=>q))⟩
end
section
variable {h0 n:Nat} {env env':Env} {H H':Qb}
theorem QpK(n:Nat)(hn:h0<=n)(hl:n<=H.length)(hH:(H'.map (Yi (rho (List.range n) H.length))).map some=(List.range n).map (λp=>H[p]?))(hE:Qb1 (rho (List.range n) H.length) env env'):Le h0 env H env' H':=
 QpI (List.range n) (by grind) hH.symm List.nodup_range hE
end
section
variable {P:Program} {o:Oper} {env:Env} {H:Qb} {α:Type}
theorem QnV{t E n:Nat}{x y:Operand}{l:List α}{e:α->List A}{c:α}{k:IntKind}{i:Int}{v:A}(h:idx l i=some c)(hl:l.length=n)(f:∀x,∃v,e x=[v])(R:e c=[v])(J:∀w,(underlying t).run P w=.ok (.array n E) w)(F:∀w,(isAgg E).run P w=.ok false w)(B:∀w,(Go.sizeOf E).run P w=.ok 1 w)
  (p:o.op=.index t x y:=by exact rfl)(hx:opA env x=.agg (l.map e).flatten:=by exact rfl)(hy:opA env y=.int k i:=by exact rfl):OpV P o env H v:=by
 obtain⟨j,O⟩:=Qae h;intro Q T σ N a w r;have d:=Qi r x;rw[hx]at d;obtain⟨m,d,G⟩:=d;have L:=QT r hy;have V:∀(l:List α),(l.map e).flatten[i.toNat]?=(l.map λx=>(e x).headD .any)[i.toNat]? :=by
  intro l;have:(l.map e).flatten=l.map λx=>(e x).headD .any:=by
   induction l with
   |nil=>rfl
   |cons a l z=>
    obtain⟨v,f⟩:=f a;simp[f,z]
  rw[this]
 have M:(l.map e).flatten[i.toNat]?=some v:=by
  grind
 obtain⟨u,q,s⟩:=G.get _ M;have g:i<n:=by
  grind
 refine⟨u,?_,s⟩;generalize a.eval=ρ at*;simp[p,d,L,Instr.index,J,j,g,B,F,q,go_sem]
end
section
variable {α β:Type}
def QaP(k:Int):Fil α β:=⟨k,[],[],[],[],false⟩
def Qaf(fs:List (Fil α β))(k:Int):List (Fil α β):=bif fs.any (λx=>decide (x.number=k))then fs else fs++[QaP k]
def Qb4(fs:List (Fil α β))(k:Int)(g:Fil α β->Fil α β):List (Fil α β):=fs.map λx=>bif decide (x.number=k)then g x else x
def QfU(fs:List (Fil α β)):Bool:=fs.all λx=>Nat.ble (x.r0.length+1) QC&&Nat.ble (x.r1.length+1) QC&&Nat.ble (x.r2.length+1) QC&&Nat.ble (x.reports.length+1) QC
variable (K:FK α β) {lo:Nat} {H H':Qb} {bk:Qa5 α β}
theorem QdL{fs:List (Fil α β)}{k:Int}(h:∃x∈fs,x.number=k):Qaf fs k=fs:=by
 unfold Qaf
 grind
theorem Qci{fs:List (Fil α β)}{k:Int}(h:∀x∈fs,x.number≠k):Qaf fs k=fs++[QaP k]:=by
 unfold Qaf
 grind
theorem QpX{l r:List (Fil α β)}{x:Fil α β}{k:Int}{g:Fil α β->Fil α β}(a:((l++x::r).map (·.number)).Nodup)(d:x.number=k):Qb4 (l++x::r) k g=l++g x::r:=by
 simp_all[List.nodup_append,Qb4,List.map_congr_left]
theorem Qjw{l r:List (Fil α β)}{x:Fil α β}(h:QfU (l++x::r)=true):x.r0.length+1<=QC/\x.r1.length+1<=QC/\x.r2.length+1<=QC/\x.reports.length+1<=QC:=by
 simp_all[QfU]
def Qbb(n:Nat):Pl:=⟨n,n+1,n+2,n+3,n+4⟩
def QcB(n:Nat)(k:Int):Qb:=[.cells K.T (Yj K (Qbb n) (QaP k)),.row K.tF K.kF [],.row K.tF K.kF [],.row K.tF K.kF [],.row K.tR K.kR []]
theorem Ql2{h0:Nat}{env:Env}{k:Int}(d:h0<=H.length):
  Le h0 env (H++[.cells K.T [.int .i64 k,.nils,.nils,.nils,.nils,.bool false]]) env (H++QcB K H.length k):=by
 have a:∀(n:Nat) (G:Qb) (cs cs':List A) (t k':Nat) (m:Nat),n=H.length+1+G.length->cs[m]?=some .nils->cs'=cs.set m (.osl n 0 0 k')->
   Le h0 env (H++.cells K.T cs::G) env (H++.cells K.T cs'::(G++[.row t k' []])):=by
  intro n G cs cs' t k' m hn hm hc;have:=Qcr (h0:=h0) (env:=env) (H:=H++.cells K.T cs::G) (i:=H.length) (t:=t) (k:=k') (T:=K.T)
   (by simp;omega) (by simp) hm
  grind
 refine Le.trans (a (H.length+1) [] _ _ K.tF K.kF 1 (by simp) rfl rfl) ?_;refine Le.trans (a (H.length+2) [.row K.tF K.kF []] _ _ K.tF K.kF 2 (by simp) rfl rfl) (Le.trans (a (H.length+3) [.row K.tF K.kF [],.row K.tF K.kF []] _ _ K.tF K.kF 3 (by simp) rfl rfl) ?_);exact a (H.length+4) [.row K.tF K.kF [],.row K.tF K.kF [],.row K.tF K.kF []] _ _ K.tR K.kR 4 (by simp) rfl rfl
theorem QbX.new{k:Int}:QbX K (H++QcB K H.length k) (QaP k) (Qbb H.length):=by
 have g:∀(j:Nat) (y:Blk),(QcB K H.length k)[j]?=some y->(H++QcB K H.length k)[H.length+j]?=some y:=by
  grind
 exact⟨g 0 _ rfl,g 1 _ rfl,g 2 _ rfl,g 3 _ rfl,g 4 _ rfl⟩
theorem Qmj(n:Nat):(∀i∈(Qbb n).ix,n<=i)/\(Qbb n).ix.Nodup:=by
 simp_all[Pl.ix,Qbb]
variable {K}
theorem YR.new{k:Int}(h:YR K lo H bk)(a:∀e∈bk,e.1.number≠k)(hl:lo<=H.length):YR K lo (H++QcB K H.length k) (bk++[(QaP k,Qbb H.length)]):=by
 refine h.add (QbX.new K) a (by grind) (Qmj _).1 (Qmj _).2 hl
theorem YR.row{l r:Qa5 α β}{e:Fil α β×Pl}{x':Fil α β}{p':Pl}{i:Nat}{y:Blk}(h:YR K lo H (l++e::r))(hl:lo<=H.length)(n:x'.number=e.1.number)(hi:i∈e.2.ix)(w:i≠e.2.b)(p:p'.b=e.2.b)
  (hH:H'=(H.set i .dead++[y]).set e.2.b (.cells K.T (Yj K p' x')))
  (t:p'.ix=e.2.ix.map λj=>bif Nat.beq j i then H.length else j)
  (h0:H'[p'.i0]?=some (.row K.tF K.kF (x'.r0.map K.eF)))(f:H'[p'.i1]?=some (.row K.tF K.kF (x'.r1.map K.eF)))(q:H'[p'.i2]?=some (.row K.tF K.kF (x'.r2.map K.eF)))(s:H'[p'.i3]?=some (.row K.tR K.kR (x'.reports.map K.eR))):
  YR K lo H' (l++(x',p')::r):=by
 have g:=h.laid e (by simp);have d:=g.lt;have u:e.2.b<H.length:=d _ (by simp[Pl.ix]);refine h.upd ⟨?_,h0,f,q,s⟩ n ?_ ?_ ?_ hl
 .grind
 .grind[List.getElem?_set_ne,Pl.ix]
 .grind
 .rw[t];have k:=h.own e (by simp);refine List.pairwise_map.2 (List.Pairwise.imp_of_mem ?_ k);intro a b z p m;cases B:Nat.beq a i with
  |true=>
   cases x:Nat.beq b i with
   |true=>simp_all
   |false=>grind
  |false=>
   grind
end
section
variable {fr ro:Nat->Prop} {σ:Sig} {H:Qb} {w:World}
theorem Sim.addIdle(s:Sim fr ro σ H w){x:Blk}{z:Option Nat}(m:x.holds=false)(J:BR ro (σ++[z]) w x z):Sim fr ro (σ++[z]) (H++[x]) w:=by
 have ext:Ext ro σ w ro (σ++[z]) w:=⟨λ_ q=>q,λ_ _=>rfl,λ_ _ q=>q,(by grind)⟩;have B:=s.len;have F:x.live=false:=by
  cases q:x.live with
  |true=>rw[QaH q]at m;exact m
  |false=>rfl
 have a:∀(j:Nat) (v:Blk),(H++[x])[j]?=some v->(j<H.length/\H[j]?=some v)\/(j=H.length/\v=x):=by
  grind
 have hσ:∀(j:Nat) (k:Option Nat),j<H.length->(σ++[z])[j]?=some k->σ[j]?=some k:=by
  grind
 refine⟨by simp[B],s.roOk,s.frLt,s.roFr,λi b y h e l=>?_,λi j b y n h e l G p t=>?_,λi k y h e=>?_,
  s.hidTo (· = ·) Q9 (XQ _) (by simp) (by simp) λj d y M L N=>.inl ?_⟩
 .rcases a i y e with⟨f,g⟩|⟨_,rfl⟩
  .exact s.own i b y (hσ i _ f h) g l
  grind
 .rcases a i y l with⟨f,g⟩|⟨_,rfl⟩
  .rcases a j n G with⟨E,u⟩|⟨_,rfl⟩
   .exact s.inj i j b y n (hσ i _ f h) (hσ j _ E e) g u p t
   grind
  grind
 .rcases a i y e with⟨f,g⟩|⟨r,rfl⟩
  .exact(s.blk i k y (hσ i _ f h) g).keep ext (λ_ _ _=>rfl) (λ_ _ _ _=>rfl)
  grind
 grind
end
section
variable {P:Program} {o:Oper} {env:Env} {H:Qb}
theorem QpE{T e k n:Nat}{xs:List Operand}{es:List (List A)}(E:Q1 P T e k)(ho:o.op=.buildSlice T n (Qai 0 xs).toArray)(O:xs.length=n)(F:Nat.ble (n*(k+1)) 16777216=true)
  (V:(xs.all λx=>Yr (opA env x))=true)(y:QY env xs=es)(u:allK k es)(hp:es.flatten.all Yz=true)(hd:Yu es.flatten=true):
  OpH P o env H (.osl H.length 0 n k) (H++[.frow e k es]):=by
 intro R s σ N a w r;subst y;have G:=XO F;rw[Nat.mul_add]at G;obtain⟨l,Q,B⟩:=J1 r E O (XP (by omega)) V u;have M:LR s [] w (QY env xs).flatten l:=B.data hd;have f:∀b,b<w.heap.size->(w.alloc (.cells l.toArray e)).heap[b]?=w.heap[b]? :=λb hb=>Yl _ _ b hb;have p:w.heap.size<=(w.alloc (.cells l.toArray e)).heap.size:=by simp
 have Y:=r.sim.grown f p;have h:Qk R s w s (w.alloc (.cells l.toArray e)):=Qk.alloc _ r.sim.roLt r.sim.frLt;have s2:=Y.addRo (by simp) (λq=>Nat.lt_irrefl _ (r.sim.frLt _ q)) (λi x g m J=>Nat.lt_irrefl _ (r.sim.own i _ x g m J).1)
  (λi d x g m J=>Nat.lt_irrefl _ (r.sim.hid i d x _ g m (r.sim.hidKeep g m (λz=>f d (r.sim.own i d x g m z).1) (λb q=>f b (r.sim.roLt b q)) J)).lt)
 have L:RL s [] (w.alloc (.cells l.toArray e)) k (QY env xs) l:=by
  have:=Jt (rest:=[]) u (M.mono (h.ext0 [])) (B.plain hp)
  grind
 have t:(QY env xs).length=n:=by simp[QY,O]
 have X:l.length=n*k:=by rw[B.length,YP u];grind
 have j:(w.alloc (.cells l.toArray e)).heap[w.heap.size]?=some (.cells l.toArray e (0,0)):=Yn _ _;have W:=s2.addIdle (x:=.frow e k (QY env xs)) (z:=some w.heap.size) rfl
  ⟨.inr rfl,l,j,L.mono ⟨λ_ q=>.inl q,λ_ _=>rfl,λ_ _ q=>q,λ_ _ q=>q⟩,by rw[X,t]⟩
 refine⟨_,_,λc=>s c\/c=w.heap.size,[some w.heap.size],JK ho a.eval Q,.inr ⟨w.heap.size,0,n,e,l.length,?_,rfl,λ_=>by simp,(by omega),?_,by grind⟩,W,h.trans (YQ λ_ q=>.inl q)⟩
 .rw[<- r.sim.len];simp
 .unfold World.shape?;grind
theorem Le.frow{h0 s i n k t:Nat}{es:List (List A)}(j:lk env s=.osl i 0 n k)(hH:H[i]?=some (.frow t k es))(B:es.length=n):Le h0 env H (up env s (.rsl k es)) H:=by
 intro M G σ N a w r;refine⟨G,σ,⟨r.sim,?_,r.size,r.defers⟩,λ_ q=>q,rfl⟩;intro e;simp only[lk];by_cases q:e=s
 .subst q;rw[Vz];have:=r.env e;rw[j]at this;rcases this with⟨g,f⟩|⟨b,p,d,P,m,g,f,J,⟨L,y⟩,Q,O⟩
  .have:es=[]:=(by grind);subst this;exact⟨none,0,by rw[f];rfl,XQ _,.inl rfl⟩
  .obtain⟨x,l,F,E,R⟩:=r.sim.blk i _ _ g hH;refine⟨_,d,by rw[f,B],by omega,?_⟩;by_cases h:es=[]
   .exact .inl h
   .right;have u:0<d:=(by grind);have T:=J u;exact⟨b,0,by simp,x,(Y5 (pre:=[]) (by simpa using F) E)⟩
 .have:Nat.beq e s=false:=by
   cases z:Nat.beq e s with
   |true=>simp_all
   |false=>rfl
  rw[this];exact r.env e
theorem QkL{c:Call}{T T' e e' k i n:Nat}{x y:Operand}{ya:A}{es fs gs:List (List A)}(E:Q1 P T e k)(L:∀w,(underlying T').run P w=.ok (.slice e') w)(ac:Nat.blt 0 k=true)(aa:Nat.blt 0 fs.length=true)(O:o.op=.call c)
  (m:c={callee:=.builtin .append,args:= #[x,y],argTypes:= #[T,T']})(hx:opA env x=.osl i 0 n k)(hH:H[i]?=some (.frow e k es))(G:es.length=n)(hy:opA env y=ya)(Y:Src P H ya k fs)(g:n+fs.length<=QC)
  (hg:es++fs=gs):OpH P o env H (.osl H.length 0 (n+fs.length) k) (H++[.row e k gs]):=by
 intro z q σ N a w r;subst hg;have hf:0<fs.length:=by simp_all
 have X:0<k:=by simp_all
 have h:=Qi r x;rw[hx]at h;have F:=Qi r y;rw[hy]at F;obtain⟨⟨ay,cy,u⟩,Q,l,t,M,B⟩:=Y z q σ w _ r.sim F;rw[u]at t;rcases h with⟨h0,h⟩|⟨b,p,f,t',mm,h3,h,W,⟨h5,ab⟩,h6,R⟩
 .have:es=[]:=(by grind);subst this;subst h0;have:=grown (es:=[]) E L O m h u r.sim (by omega) g (λ_ _=>Ja) t rfl (by simp) trivial M B Q rfl rfl;omega
 .obtain⟨g0,lb,g1,J,g3⟩:=r.sim.blk i _ _ h3 hH;have hm:mm=n*k:=by
   grind[World.shape?]
  have hcap:=by
   rw[hm,Xu]at R;exact Nat.le_of_mul_le_mul_right R X
  obtain⟨d,o1,o2,o3⟩:∃d:List Value,(∀s:World,s.heap=w.heap->(Builtin.firstCells k n (.slice (some ⟨b,p,none⟩) n f)).run P s=.ok d.toArray s)/\LR q [] w es.flatten d/\ ∀v∈d,Qz v:=by
   have hr:VR q σ w (.rsl k es) (.slice (some ⟨b,p,none⟩) n f):=by
    refine⟨_,f,by rw[G],by omega,?_⟩;by_cases V:es=[]
    .exact .inl V
    .right;have m:0<f:=(by grind);have hp:=W m;exact⟨b,0,by rw[hp];simp,g0,Y5 (pre:=[]) (by simpa using g1) J⟩
   have j:Src P H (.rsl k es) k es:=Src.rsl;obtain⟨_,_,l',z1,z2,z3⟩:=j z q σ w _ r.sim hr
   grind
  have:=grown E L O m h u r.sim (by omega) g o1 t o2 o3 J.allK M B Q G rfl;exact this
theorem QkN{α:Type}{e:α->List A}{c:Call}{T T' et et' k i n:Nat}{x y:Operand}{ya:A}{l m r:List α}(h:app l m=some r)(E:Q1 P T et k)(d:∀w,(underlying T').run P w=.ok (.slice et') w)(a:Src P H ya k (m.map e))
  (g:Nat.blt 0 m.length=true:=by exact rfl)(hk:Nat.blt 0 k=true:=by exact rfl)(hn:l.length=n:=by exact rfl)(ho:o.op=.call c:=by exact rfl)(hc:c={callee:=.builtin .append,args:= #[x,y],argTypes:= #[T,T']}:=by exact rfl)(hx:opA env x=.osl i 0 n k:=by exact rfl)
  (hH:H[i]?=some (.frow et k (l.map e)):=by exact rfl)(hy:opA env y=ya:=by exact rfl):
  OpH P o env H (.osl H.length 0 r.length k) (H++[.row et k (r.map e)]):=by
 obtain⟨f,rfl⟩:=QiY h;subst hn;have:=QkL E d hk (by grind) ho hc hx hH (by simp) hy a (by grind) (gs:=(l++m).map e) (by simp)
 grind
end
open Go.MapKept
section
variable {P:Program} {kt et:Nat} {α β:Type} [DecidableEq α] {ek:α->A} {ev:β->A} {ro:Nat->Prop} {σ:Sig} {w:World} (K:JG P kt ek)
include K
theorem Qes:∀{l:List (α×β)} {es:List MapEntry} {k:α},ER ro σ w (Qx ek ev l) es->(∀e∈es,e.key≠Q0 (ek k))->mdel l k=l
 |[],_,_,_,_=>rfl
 |p::l,es,k,h,hk=>by
  obtain⟨e,l',rfl,h1,h2,h3⟩:=h;have e1:=VR.val (K.scl _) h1;have ih:=Qes h3 λe he=>hk e (by simp[he])
  grind[mdel]
theorem QhD:∀{l:List (α×β)} {es:List MapEntry} {k:α} {j:Nat} {e:MapEntry},ER ro σ w (Qx ek ev l) es->(es.map (·.key)).Nodup->es[j]?=some e->e.key=Q0 (ek k)->ER ro σ w (Qx ek ev (mdel l k)) (es.eraseIdx j)
 |[],es,k,j,e,h,_,hj,_=>by
  cases(show es=[]from h);simp at hj
 |p::l,es,k,j,e,h,hn,hj,hk=>by
  obtain⟨e0,l',rfl,h1,h2,h3⟩:=h;have e1:=VR.val (K.scl _) h1;rw[Vd,List.nodup_cons]at hn;cases j with
  |zero=>
   simp at hj;have hp:p.1=k:=K.inj _ _ (by grind);have:=Qes K (k:=k) h3 (by grind);have e2:mdel (p::l) k=l:=by
    grind[mdel]
   rw[e2];exact h3
  |succ j=>
   have a:l'[j]?=some e:=by grind
   have e2:mdel (p::l) k=p::mdel l k:=by
    grind[mdel]
   rw[e2];exact⟨e0,_,rfl,h1,h2,QhD h3 hn.2 a hk⟩
variable {o:Oper} {env:Env} {H:Qb} {T T' i:Nat} {x y:Operand} {l m:List (α×β)} {k:α}
theorem OpH.mdel{c:Call}(W:some (Sw.mdel l k)=some m)(M:P.underlying T=some (.map kt et))(ho:o.op=.call c:=by exact rfl)(hc:c={callee:=.builtin .delete,args:= #[x,y],argTypes:= #[T,T']}:=by exact rfl)
  (hx:opA env x=.map i:=by exact rfl)(hH:H[i]?=some (.map (Qx ek ev l)):=by exact rfl)(hy:opA env y=ek k:=by exact rfl):OpH P o env H (.tup []) (H.set i (.map (Qx ek ev m))):=by
 obtain rfl:=XV W;subst hc;intro Y Q σ N a w r;have J:=Qi r x;rw[hx]at J;obtain⟨b,E,q2⟩:=J;have O:=Qi r y;rw[hy]at O;have h3:=VR.val (K.scl _) O;obtain⟨h,d,t,u,R,L,B⟩:=r.sim.blk i _ _ E hH;have p:∀(obj:Obj) y,w.shape? b=some y->({w with heap:=w.heap.setIfInBounds b obj}:World).shape? b=some y:=by
  grind[World.shape?]
 have run:∀es':Array MapEntry,(Builtin.delete_ #[T,T'] o.type #[.map (some b),Q0 (ek k)]).run P w=.ok (.tuple #[]) {w with heap:=w.heap.setIfInBounds b (.map es' d)}->
   (execOp a.eval o).run P w=.ok (.value (.tuple #[])) {w with heap:=w.heap.setIfInBounds b (.map es' d)}:=by
  simp_all[execOp,resolve,invoke,Go.builtin]
 rcases K.find w k h.toList (QbD K u)with⟨G,F⟩|⟨j,e,G,F,X⟩
 .have g:=r.sim.set (x':=.map (Qx ek ev (Sw.mdel l k))) (obj:=.map h d) E hH rfl (p _)
   (λe z=>⟨h,d,z,by rw[Qes K u F];exact u.mono e.nil,R,L,B⟩)
  refine⟨_,_,Q,[],run h ?_,⟨[],rfl,rfl⟩,by grind,g.2⟩;simp[Builtin.delete_,Vg,run_underlying M,Result.andThen,MapKept.run_getObj_map t,K.check,G,MapKept.run_setObj_map _ t,go_sem]
 .have s:(h.eraseIdxIfInBounds j).toList=h.toList.eraseIdx j:=by simp
  have n:∀{γ:Type} (f:MapEntry->γ),((h.eraseIdxIfInBounds j).toList.map f).Sublist (h.toList.map f):=λf=>by
   grind
  have g:=r.sim.set (x':=.map (Qx ek ev (Sw.mdel l k))) (obj:=.map (h.eraseIdxIfInBounds j) d) E hH rfl (p _)
   (λe z=>⟨_,d,z,by rw[s];exact(QhD K u B F X).mono e.nil,λV q=>R V ((by rw[s]at q;exact List.mem_of_mem_eraseIdx q)),(n _).nodup L,(n _).nodup B⟩)
  refine⟨_,_,Q,[],run _ ?_,⟨[],rfl,rfl⟩,by simpa using g.1,g.2⟩;simp[Builtin.delete_,Vg,run_underlying M,Result.andThen,MapKept.run_getObj_map t,K.check,G,MapKept.run_setObj_map _ t,go_sem]
end
end Go.Sw
namespace Go.Sw
section
variable {P:Program} {h0 N:Nat} {all:Array Oper} {o1 o2:Oper} {l:List Oper} {env:Env} {H:Qb} {Q:QV}
theorem QnJ{t n d:Nat}{z:Value}{v:A}{cs zs:List A}{y:Operand}(hz:∀w,(zeroValue t).run P w=.ok z w)(hv:ZR v z)(hs:∀w,(Go.sizeOf t).run P w=.ok n w)
  (k:WO P h0 N all l (up env d (.rp cs)) H Q)(hk:Yr v=true:=by exact rfl)(hzs:YA v=zs:=by exact rfl)(hpl:zs.all Yz=true:=by exact rfl)(hzn:zs.length=n:=by exact rfl)(hn:cs.length=n:=by exact rfl)
  (ho1:o1.op=.alloc t:=by exact rfl)(hd1:o1.dst=some d:=by exact rfl)(ho2:o2.op=.store t (.tmp d) y:=by exact rfl)(hd2:o2.dst=none:=by exact rfl)(hy:opA (up env d .any) y=.agg cs:=by exact rfl)(hda:Yu cs=true:=by exact rfl)(hcp:cs.all Yz=true:=by exact rfl)(hkc:Yr (.agg cs)=true:=by exact rfl)(hcc:YA (.agg cs)=cs:=by exact rfl)
  (hg1:QA all o1 env true:=by exact rfl)(hg2:QA all o2 (up env d .any) true:=by exact rfl)(hN:Nat.blt d N=true:=by exact rfl):WO P h0 N all (o1::o2::l) env H Q:=by
 intro rd fr p σ a w r hrd;obtain⟨V,h2,h3⟩:=(hv p σ w).cells hk;rw[hzs]at h3
 let w1:World:=w.alloc (.cells V.toArray t)
 have L:(execOp a.eval o1).run P w=.ok (.value (.pointer (some ⟨w.heap.size,0,none⟩))) w1:=by
  generalize a.eval=ρ at*;have e:(newVar t z).run P w=.ok ⟨w.heap.size,0,none⟩ (w.alloc (.cells V.toArray t)):=by
   unfold newVar;rw[h2];rfl
  simp only[execOp,ho1,Instr.alloc,Vg,hz,Result.andThen,e];rfl
 refine JS (Y0 hg1 r) L ?_;simp only[hd1,Act.put];have Y:d<N:=by simp_all
 have T:d<a.tmps.size:=by rw[r.size];exact Y
 let a1:Act:={a with tmps:=a.tmps.setIfInBounds d (.pointer (some ⟨w.heap.size,0,none⟩))}
 have B:∀b,b<w.heap.size->w1.heap[b]?=w.heap[b]? :=λb hb=>Yl _ _ b hb;have J:w.heap.size<=w1.heap.size:=by grind
 have g:Qk fr p w p w1:=Qk.alloc _ r.sim.roLt r.sim.frLt;have r1:Rel fr p σ H (up env d .any) N a1 w1:=⟨r.sim.grown B J,VR.up (fr:=fr) (λs=>(r.env s).mono (g.ext0 σ)) T trivial,by simpa[a1]using r.size,r.defers.keep g⟩;have G:=Qi r1 y;rw[hy]at G;obtain⟨m,h4,O⟩:=G.cells hkc;rw[hcc]at O;have h:w1.heap[w.heap.size]?=some (.cells V.toArray t (0,0)):=Yn _ _;have ab:V.length=n:=by rw[h3.length,hzn]
 have W:m.length=n:=by rw[O.length,hn]
 have aa:=Yy (P:=P) (vs:=m) 0 0 h (by omega) (O.plain hcp);have ac:splice V (0+0) m=m:=by
  unfold splice
  grind
 rw[ac]at aa
 let w2:World:={w1 with heap:=w1.heap.setIfInBounds w.heap.size (.cells m.toArray t (0,0))}
 have he:a1.eval (.tmp d)=.pointer (some ⟨w.heap.size,0,none⟩):=by
  show(a.tmps.setIfInBounds d _).getD d undef=_
  simp_all
 have M:(execOp a1.eval o2).run P w1=.ok .skip w2:=by
  have ag:(storeVar t ⟨w.heap.size,0,none⟩ (a1.eval y)).run P w1=.ok () w2:=by
   unfold storeVar;rw[Vg,hs];simp only[Result.andThen]
   grind
  simp_all[execOp,Instr.storeAt,Instr.sureAddr]
 refine Qjd (Y0 hg2 r1) M ?_;simp only[hd2,Act.put];have f:∀b,b<w.heap.size->w2.heap[b]?=w.heap[b]? :=λb hb=>by
  grind
 have af:w2.heap.size=w1.heap.size:=by simp[w2]
 have ae:w.heap.size<w1.heap.size:=(X7.1 h).1;have R:w.heap.size<=w2.heap.size:=by omega
 have j:w2.heap[w.heap.size]?=some (.cells m.toArray t (0,0)):=by
  grind
 have s1:=r.sim.grown f R;have s2:=s1.addRo (b:=w.heap.size) (by omega) (λq=>Nat.lt_irrefl _ (r.sim.frLt _ q)) (λi x E F p3=>Nat.lt_irrefl _ (r.sim.own i _ x E F p3).1)
  (λi d x E F p3=>Nat.lt_irrefl _ (r.sim.hid i d x _ E F (r.sim.hidKeep E F (λz=>f d (r.sim.own i d x E F z).1) (λb q=>f b (r.sim.roLt b q)) p3)).lt)
 have ev:Qk fr p w (λc=>p c\/c=w.heap.size) w2:=by
  refine⟨λb q=>.inl q,λb q=>f b (r.sim.roLt b q),λb q=>f b (r.sim.frLt b q),R,?_,g.os,g.tape,g.output,g.drawn⟩
  grind[World.shape?]
 have X:VR (λc=>p c\/c=w.heap.size) σ w2 (.rp cs) (.pointer (some ⟨w.heap.size,0,none⟩)):=by
  refine⟨w.heap.size,0,rfl,.inr rfl,?_⟩;refine Qja (pre:=[]) (by simpa using j) ?_ (O.plain hcp);have h6:LR p [] w1 cs m:=LR.data hda O;refine h6.mono ⟨λ_ q=>.inl q,λb q=>?_,λb x u=>?_,λ_ _ q=>q⟩
  .show(w1.heap.setIfInBounds w.heap.size _)[b]?=_;have:=r.sim.roLt b q;rw[Array.getElem?_setIfInBounds_ne (by omega)]
  .by_cases e:b=w.heap.size
   .subst e;unfold World.shape? at u⊢;rw[h]at u;rw[j];simp at u⊢;rw[ab]at u;rw[W];exact u
   .unfold World.shape? at u⊢;rw[show w2.heap[b]?=w1.heap[b]? from Array.getElem?_setIfInBounds_ne (Ne.symm e)];exact u
 have r2:Rel fr (λc=>p c\/c=w.heap.size) σ H (up env d (.rp cs)) N a1 w2:=
  ⟨s2,VR.up (fr:=fr) (λs=>(r.env s).mono (ev.ext0 σ)) T X,by simpa[a1]using r.size,r.defers.keep ev⟩
 exact Yw (λe a w q=>q.step ev rfl) _ _ _ (k rd fr _ σ a1 w2 r2 (hrd.to ev λ_ q=>q))
end
section
variable {P:Program} {o:Oper} {env:Env} {H:Qb}
theorem QdW{t e:TypeId}{p:Option Addr}{w:World}(a:∀w,(underlying t).run P w=.ok (.pointer e) w):(Op.equal t (.pointer p) (.pointer none)).run P w=.ok p.isNone w:=by
 have k:∀d,(Op.equalIn (d+1) t (.pointer p) (.pointer none)).run P w=.ok p.isNone w:=by
  cases p<;>simp[Op.equalIn,a]
 exact k 9999
theorem QkG{t e u:TypeId}{x:Operand}{i off:Nat}(n:∀w,(underlying t).run P w=.ok (.pointer e) w)(f:opA env x=.ptr i off)(g:o.op=.binOp .eql t x (.const (.pointer none)) u:=by exact rfl):OpV P o env H (.bool false):=by
 intro h m σ N a w r;have d:=Qi r x;rw[f]at d;obtain⟨b,j,l⟩:=d;have k:a.eval (.const (.pointer none))=.pointer none:=rfl;refine⟨_,?_,rfl⟩
 simp_all[execOp,Go.binOp,eqGuard,QdW]
theorem QkH{t e u:TypeId}{x:Operand}(l:∀w,(underlying t).run P w=.ok (.pointer e) w)(f:opA env x=.nilp)(g:o.op=.binOp .eql t x (.const (.pointer none)) u:=by exact rfl):OpV P o env H (.bool true):=by
 intro h k σ N a w r;have d:=Qi r x;rw[f]at d;have i:a.eval (.const (.pointer none))=.pointer none:=rfl;have j:a.eval x=.pointer none:=d;refine⟨_,?_,rfl⟩
 simp_all[execOp,Go.binOp,eqGuard,QdW]
end
section
variable {P:Program} {o:Oper} {env:Env} {H:Qb} {α:Type}
def Qiy(l:List α)(lo hi i:Int):Option α:=bif decide (0<=lo)&&(decide (0<=i)&&decide (lo+i<hi))then idx l (lo+i)else none
theorem Qms{l:List α}{lo hi i:Int}{v:α}(h:Qiy l lo hi i=some v):0<=lo/\0<=i/\lo+i<hi/\idx l (lo+i)=some v:=by
 unfold Qiy at h
 grind
theorem Qix{l:List α}{lo hi i:Int}{v:α}(h:Qiy l lo hi i=some v):idx l (lo+i)=some v:=(Qms h).2.2.2
theorem QgW{t a k b:Nat}{x y:Operand}{l:List α}{m:IntKind}{lo hi i:Int}{v:α}(h:Qiy l lo hi i=some v)(n:∀w,(underlying t).run P w=.ok (.slice a) w)(g:∀w,(sizeOf a).run P w=.ok k w)
  (f:o.op=.indexAddr t x y:=by exact rfl)(hx:opA env x=.osl b (0+lo.toNat) (hi.toNat-lo.toNat) k:=by exact rfl)(hy:opA env y=.int m i:=by exact rfl):OpV P o env H (.ptr b ((lo+i).toNat*k)):=by
 obtain⟨p,d,q,_⟩:=Qms h;have j:=Qi1 (H:=H) f n g hx hy d (by omega);have e:(0+lo.toNat)*k+i.toNat*k=(lo+i).toNat*k:=by
  rw[<- Xy]
  grind
 rwa [e]at j
end
theorem Qi5{h0:Nat}{env:Env}{H H':Qb}(e:H=H'):Le h0 env H env H':=e▸Le.refl h0 env H
section
variable {P:Program} {o:Oper} {env:Env} {H:Qb}
end
section
variable {env:Env} {H:Qb}
theorem OpU.ins{P:Program}{o:Oper}{H':Qb}{T:Nat}{x y zz:Operand}(f:o.op=.insert T x y zz)(h:OpU P {o with op:=.mapUpdate T x y zz} env H H'):OpU P o env H H':=by
 intro i l σ N a w r;obtain⟨g,d,τ,e,j,k⟩:=h i l σ N a w r;exact⟨g,d,τ,by simpa only[execOp,f]using e,j,k⟩
end
section
variable {P:Program} {o:Oper} {env:Env} {H:Qb} {T kt et:Nat} {α β:Type} [DecidableEq α] {ek:α->A} {ev:β->A} {x y:Operand} {i:Nat} {l:List (α×β)} {k:α} {z:Value} {zA:A}
end
open Go.Sort Go.Proofs Go.Shelf
end Go.Sw
namespace Go.Sw
def fnm(P:Program)(i:Nat):String:=match P.funcs[i]? with|some f=>f.name|none=>""
theorem QiX{P:Program}{f:FuncId}{B:Func}(d:(fnm P f=="runtime.NumGoroutine")=false)(h:P.funcs[f]?=some {B with name:=fnm P f}):Go.Proofs.Bears P f B:=⟨_,d,h⟩
def slK(P:Program)(t:Nat):Nat:=match P.underlying t with|some (.slice e)=>e|_=>0
def zA1:A->Value
 |.int k n=>.int k n
 |.bool b=>.bool b
 |.str _=>.string ⟨#[]⟩
 |.rsl _ _=>.slice none 0 0
 |.nils=>.slice none 0 0
 |.nilp=>.pointer none
 |.nilm=>.map none
 |.nilif=>.nilIface
 |_=>.nilFunc
def zA:A->Value
 |.agg r=>.agg (r.map zA1).toArray
 |a=>zA1 a
def kL(P:Program)(F:List (Nat×List (Nat×Nat)))(T:TyX)(Z:TyZ)(w:World):=
 (F.map λe=>(underlying e.1).run P w,F.map λe=>(P.fieldsOf e.1).toList.map λf=>(f.offset,(sizeOf f.type).run P w),
  T.ty.agg.map λe=>((isAgg e.1).run P w,(sizeOf e.1).run P w),T.ty.zer.map λe=>(zeroValue e.1).run P w,
  T.al.map λe=>(zeroValue e.1).run P w,T.sl.map λt=>(underlying t).run P w,Z.sl.map λe=>((underlying e.1).run P w,(sizeOf e.2.1).run P w))
def kR(P:Program)(F:List (Nat×List (Nat×Nat)))(T:TyX)(Z:TyZ)(w:World):=
 (F.map λe=>Result.ok (TypeDesc.struct (P.fieldsOf e.1)) w,F.map λe=>e.2.map λx=>(x.1,Result.ok x.2 w),
  T.ty.agg.map λe=>(Result.ok e.2.1 w,Result.ok e.2.2 w),T.ty.zer.map λe=>Result.ok (zA (.agg e.2.1)) w,
  T.al.map λe=>Result.ok (zA e.2) w,T.sl.map λt=>Result.ok (TypeDesc.slice (slK P t)) w,Z.sl.map λe=>(Result.ok (TypeDesc.slice e.2.1) w,Result.ok e.2.2 w))
def kT(F:List (Nat×List (Nat×Nat)))(T:TyX):Bool:=
 chkF F T.ty.fld&&T.ty.zer.all (λe=>zrB (.agg e.2.1) (zA (.agg e.2.1))&&F.contains (e.1,e.2.2))&&T.al.all λe=>zrB e.2 (zA e.2)&&Yr e.2&&(YA e.2).all Yz
theorem Qcg{α β:Type}{L:List α}{f g:World->α->β}(h:∀w,L.map (f w)=L.map (g w)){e:α}(he:e∈L)(w:World):f w e=g w e:=List.map_inj_left.1 (h w) e he
theorem PL.ofK{P:Program}:∀{fs:List Field} {pl:List (Nat×Nat)},(∀w:World,fs.map (λf=>(f.offset,(sizeOf f.type).run P w))=pl.map λx=>(x.1,Result.ok x.2 w))->PL P fs pl
 |[],[],_=>.nil
 |[],_::_,h=>by cases h default
 |_::_,[],h=>by cases h default
 |f::fs,(a,n)::pl,h=>by
  have h1:=λw=>List.cons.inj (h w);have e:=λw=>Prod.mk.inj (h1 w).1;obtain rfl:f.offset=a:=(e default).1;exact .cons (λw=>(e w).2) (PL.ofK λw=>(h1 w).2)
section
variable {P:Program} {F:List (Nat×List (Nat×Nat))} {T:TyX} {Z:TyZ}
theorem Qp6(h:kL P F T Z=kR P F T Z):∀e∈F,QeI P e.1 e.2:=λe he=>
 ⟨_,λw=>by simpa using Qcg (f:=λw e=>(underlying e.1).run P w) (λw=>(Prod.mk.inj (congrFun h w)).1) he w,PL.ofK λw=>Qcg (f:=λw e=>(P.fieldsOf e.1).toList.map λf=>(f.offset,(sizeOf f.type).run P w)) (λw=>(Prod.mk.inj (Prod.mk.inj (congrFun h w)).2).1) he w⟩
theorem Qba.ofK(h:kL P F T Z=kR P F T Z)(k:kT F T=true):Qba P T:=by
 have d:=Qp6 h;simp only[kT,XT,Xs]at k;refine⟨⟨Qrs d k.1.1,λe a=>?_,λe a=>?_⟩,λe a=>?_,λe a=>?_⟩
 .have:=Qcg (f:=λw e=>((isAgg e.1).run P w,(sizeOf e.1).run P w)) (λw=>(Prod.mk.inj (Prod.mk.inj (Prod.mk.inj (congrFun h w)).2).2).1) a;exact⟨λw=>(Prod.mk.inj (this w)).1,λw=>(Prod.mk.inj (this w)).2⟩
 .have:=Qcg (f:=λw e=>(zeroValue e.1).run P w) (λw=>(Prod.mk.inj (Prod.mk.inj (Prod.mk.inj (Prod.mk.inj (congrFun h w)).2).2).2).1) a;have q:=k.1.2 e a;exact⟨⟨_,this,zrC q.1⟩,d _ (List.contains_iff_mem.1 q.2)⟩
 .have:=Qcg (f:=λw e=>(zeroValue e.1).run P w) (λw=>(Prod.mk.inj (Prod.mk.inj (Prod.mk.inj (Prod.mk.inj (Prod.mk.inj (congrFun h w)).2).2).2).2).1) a;have q:=k.2 e a;exact⟨⟨_,this,zrC q.1.1⟩,q.1.2,Xs.2 q.2⟩
 .exact⟨_,Qcg (f:=λw t=>(underlying t).run P w) (λw=>(Prod.mk.inj (Prod.mk.inj (Prod.mk.inj (Prod.mk.inj (Prod.mk.inj (Prod.mk.inj (congrFun h w)).2).2).2).2).2).1) a⟩
theorem QcZ.ofK(h:kL P F T Z=kR P F T Z)(k:∀f∈Z.fn,∀(a:Array Value) (w:World),(callFunc f a).run P w=.ok (.enter f a) w):QcZ P Z:=⟨λe he=>by
 have:=Qcg (f:=λw e=>((underlying e.1).run P w,(sizeOf e.2.1).run P w)) (λw=>(Prod.mk.inj (Prod.mk.inj (Prod.mk.inj (Prod.mk.inj (Prod.mk.inj (Prod.mk.inj (congrFun h w)).2).2).2).2).2).2) he;exact⟨λw=>(Prod.mk.inj (this w)).1,λw=>(Prod.mk.inj (this w)).2⟩,k⟩
theorem QrC{L:List Nat}(h:(λ(a:Array Value) (w:World)=>L.map λf=>(callFunc f a).run P w)=λa w=>L.map λf=>.ok (.enter f a) w):∀f∈L,∀(a:Array Value) (w:World),(callFunc f a).run P w=.ok (.enter f a) w:=
 λf hf a=>Qcg (f:=λw f=>(callFunc f a).run P w) (λw=>congrFun (congrFun h a) w) hf
end
section
variable {P:Program}
theorem Ql6.c{f:Field}{fs:List Field}{h off e:Nat}{a d:List Value->Prop}(g:∀h,Qi7 P f.type (h+1) 1 false a)(j:Ql6 P fs (h+1) (off+1) e d)(i:Nat.beq f.offset off=true:=by exact rfl)(hn:f.name≠"_":=by decide):
  Ql6 P (f::fs) (h+1) off (1+e) (λl=>∃l1 l2,l=l1++l2/\a l1/\d l2):=Ql6.cons i hn (g h) (λ_=>rfl) j
theorem RF.c1{n:Nat}{T:Type}{e:T->List A}{wf:T->Prop}{f:Field}{fs:List Field}{off L:Nat}{T2:Type}{d:T2->List A}{a:T2->Prop}(h:RB P n f.type T e wf)(r:RF P n fs (off+1) L T2 d a)(g:f.offset=off:=by exact rfl)(hk:P.cellsOf f.type=1:=by kernel_rfl):
  RF P n (f::fs) off L (T×T2) (λp=>e p.1++d p.2) (λp=>wf p.1/\a p.2):=RF.cons g hk h r
end
@[reducible] def Kp{β:Type}(P:Program)(F:Option β)(f:FuncId)(args:List A)(H:Qb)(w:β->A)(H1:β->Qb):Prop:=∀r,F=some r->C P f args H (RQ w H1 r)
theorem Kp.b{β:Type}{P:Program}{F:Option β}{f:FuncId}{fn:Func}{c:Code}{N:Nat}{args:List A}{H:Qb}{w:β->A}{H1:β->Qb}(hf:P.funcs[f]?=some fn)(hb:fn.body=some c)(hN:fn.ntmps=N)(hA:Nat.ble args.length N=true)
  (h:∀r,F=some r->TC P H.length N c (Qe5 0 args) H (QaE P H.length fn (RQ w H1 r))):Kp P F f args H w H1:=λr e=>QF hf hb hN hA (h r e)
abbrev Ea:=@Ev.bind
abbrev Ec:=@FzH.keep
abbrev Ed:=@FzL.cons
abbrev Ee:=@FzA.refl
abbrev Ef:=@PL.cons
abbrev Eg:=@DS.done
abbrev Eh:=@EvI.done
abbrev Ei:=@FzL.refl
abbrev Ej:=@OpH.lit
abbrev Ek:=@RF.cons
abbrev El:=@RF.c1
abbrev Em:=@Le.trans
abbrev En:=@FzA.o
abbrev Eo:=@Le.phantom
abbrev Ep:=@Ev.or
abbrev Er:=@Ev.eq
abbrev Et:=@EvI.cont
abbrev Eu:=@Ev.iter
abbrev Ew:=@DK.op
abbrev Ex:=@OpU.store
abbrev Ey:=@OpV.load
abbrev Ez:=@Ev.const
theorem Zf.{u,v}{α:Sort u}{β:Sort v}{f:α->β}:∀x,f x=f x:=λ_=>rfl
abbrev Ze.{u,v}{α:Sort u}{β:Type v}:α->List β:=λ_=>[]
end Go.Sw
