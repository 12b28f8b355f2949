/- The rules by which the code is walked, with what they rest on (part 3). -/
import Derived.Test.YtbhpipneolcmkaaGreatDoorL2
import Derived.Laws.BytesString
import Derived.Shelf.Spec.SlicesInsertGrow
set_option linter.unusedVariables false
set_option linter.unusedSectionVars false
set_option linter.unusedSimpArgs false
namespace Go.Sw
section
variable {P:Program} {o:Oper} {env:Env} {H:Qc}
theorem Qkx{ro:Nat->Prop}{σ:Sig}{w:World}{b:Nat}{l:List Int}{off:Nat}(h:CR ro σ w b (l.map λn=>A.int .u8 n) off):(loadCells ⟨b,off,none⟩ l.length).run P w=.ok (l.map λn=>Value.int .u8 n).toArray w:=by
 obtain⟨vs,g,_,i⟩:=YF (P:=P) 0 (by simpa using h);have e:∀(l:List Int) (vs:List Value),LR ro σ w (l.map λn=>A.int .u8 n) vs->vs=l.map λn=>Value.int .u8 n:=by
  intro l
  induction l with
  |nil=>intro vs h;exact h
  |cons n l j=>
   rintro vs ⟨v,f,rfl,a,k⟩;have d:v=.int .u8 n:=a
   grind
 grind[loadCells]
theorem Qja:∀(l:List Int) (acc:ByteArray),l.foldl (λr n=>r.push (UInt8.ofNat n.toNat)) acc=⟨acc.data++(l.map Yd).toArray⟩
 |[],acc=>by simp
 |n::l,acc=>by
  rw[XC,Qja l];simp[Yd]
theorem QcA{t u e:TypeId}{x:Operand}{ax:A}{l:List Int}(k:Qli P H ax l)(g:∀w,(underlying t).run P w=.ok (.slice e) w)(he:∀w,(underlying e).run P w=.ok (.int .u8) w)(i:∀w,(underlying u).run P w=.ok .string w)
  (z:o.op=.convert t u x:=by exact rfl)(hx:opA env x=ax:=by exact rfl):OpV P o env H (.str (l.map Yd)):=by
 intro m y σ N a w r;have j:=Qg r x;rw[hx]at j;refine⟨.string ⟨(l.map Yd).toArray⟩,?_,rfl⟩;have q:(convert t u (a.eval x)).run P w=.ok (.string ⟨(l.map Yd).toArray⟩) w:=by
  rcases k m y σ w _ r.sim j with⟨ad,c,f,rfl⟩|⟨b,d,c,f,h⟩
  .rw[f];cases ad with
   |none=>simp[convert,g,i,he,go_sem];rfl
   |some ad=>simp[convert,g,i,he,loadCells,go_sem];rfl
  .rw[f];have p:(loadCells ⟨b,d,none⟩ l.length).run P w=.ok (l.map λn=>Value.int .u8 n).toArray w:=by
    rcases h with rfl|h
    .rfl
    .exact Qkx h
   have s:(convert t u (.slice (some ⟨b,d,none⟩) l.length c)).run P w=(Conv.bytesToString (.slice (some ⟨b,d,none⟩) l.length c)).run P w:=by
    simp[convert,g,i,he,go_sem]
   rw[s,run_bytesToString w ⟨b,d,none⟩ l.length c l p,Qja];simp
 simp_all[execOp]
theorem Qnf{t u:TypeId}{x y:Operand}{p q:List UInt8}(ho:o.op=.binOp .gtr t x y u)(hx:opA env x=.str p)(hy:opA env y=.str q):OpV P o env H (.bool (!(Op.bytesLess p q||p==q))):=
 Qcx (f:=λa b=> !(Op.bytesLess a b||a==b)) ho hx hy (by simp)
end
structure TyX where
 ty:TyI
 al:List (Nat×A)
 sl:List Nat
structure Qa2 (P:Program) (T:TyX):Prop where
 ty:TyOK P T.ty
 al:∀e∈T.al,(∃z,(∀w,(zeroValue e.1).run P w=.ok z w)/\ZR e.2 z)/\Yr e.2=true/\(YD e.2).all YC=true
 sl:∀t∈T.sl,∃et,∀w,(underlying t).run P w=.ok (.slice et) w
def Jc(all:Array Oper)(o:Oper)(env:Env):Option Bool:=
 match o.guard with
 |none=>some true
 |some (j,c)=>match(all[j]?).bind (·.dst)with
  |none=>none
  |some d=>match lk env d with
   |.bool true=>some c
   |.bool false=>some (!c)
   |.tup []=>some false
   |_=>none
theorem QW{all:Array Oper}{o:Oper}{env:Env}{b:Bool}(h:Jc all o env=some b):QB all o env b:=by
 unfold Jc at h;unfold QB;split at h
 .grind
 .rename_i j c q;split at h
  .cases h
  .split at h
   .simp_all
   .simp_all
   .grind
   .cases h
def Qd6:List Nat->Nat->Bool
 |[],_=>false
 |a::r,t=>bif Nat.beq a t then true else Qd6 r t
theorem Qh2{l:List Nat}{t:Nat}(h:Qd6 l t=true):t∈l:=by
 induction l with
 |nil=>cases h
 |cons a r d=>
  grind[Qd6,Nat.eq_of_beq_eq_true]
inductive FL where
 |mk (l:List A)
def fl:List A->FL
 |[]=>.mk []
 |a::r=>match fl r with
  |.mk r'=>.mk (a::r')
theorem QcJ:∀l,fl l=.mk l
 |[]=>rfl
 |a::r=>by unfold fl;rw[QcJ r]
inductive FB where
 |mk (l:List Blk)
def fb:List Blk->FB
 |[]=>.mk []
 |a::r=>match fb r with
  |.mk r'=>.mk (a::r')
theorem QlU:∀l,fb l=.mk l
 |[]=>rfl
 |a::r=>by unfold fb;rw[QlU r]
inductive FN where
 |mk (n:Nat)
def fn:List Blk->Nat->FN
 |[],n=>.mk n
 |_::r,n=>fn r (n+1)
theorem Qoi:∀(l:List Blk) (n:Nat),fn l n=.mk (l.length+n)
 |[],n=>by simp[fn]
 |a::r,n=>by unfold fn;rw[Qoi r];simp;omega
def QlS(env:Env)(pl:List (Nat×Nat)):List A->List (Nat×Operand)->Option (List A)
 |cs,[]=>some cs
 |cs,(i,x)::r=>match Y9 pl i with
  |none=>none
  |some (off,size)=>match opB env x with
   |.mk a=>match fl (YD a)with
    |.mk vs=>bif Yr a&&Nat.beq vs.length size&&Nat.ble (off+size) cs.length then(match fl (splice cs off vs)with
     |.mk cs'=>QlS env pl cs' r)else none
theorem Qjx{env:Env}{pl:List (Nat×Nat)}:∀(parts:List (Nat×Operand)) (cs:List A),QlS env pl cs parts=QeB env pl cs parts
 |[],cs=>rfl
 |(i,x)::r,cs=>by
  unfold QlS QeB;rw[Qaw];cases pl[i]? with
  |none=>rfl
  |some q=>
   obtain⟨off,size⟩:=q;cases h:opB env x with
   |mk a=>
    rw[QS h];simp[QcJ];cases(Yr a&&Nat.beq (YD a).length size&&Nat.ble (off+size) cs.length)with
    |false=>rfl
    |true=>exact Qjx r _
def QkI(env:Env):List Operand->List A
 |[]=>[]
 |x::r=>match opB env x with
  |.mk a=>a::QkI env r
theorem Qdr{env:Env}:∀l,QkI env l=l.map (opA env)
 |[]=>rfl
 |x::r=>by
  unfold QkI;cases h:opB env x with
  |mk a=>rw[Vg,QS h];rw[Qdr r]
def ptX(H:Qc):Bx->Option Lx
 |.mk (.rp cs)=>some (.mk cs)
 |.mk (.ptr i off)=>match Y9 H i with
  |some (.cells _ cs)=>some (Qgl off cs)
  |_=>none
 |_=>none
theorem Qqx{H:Qc}{p:A}{cs:List A}(h:ptX H (.mk p)=some (.mk cs)):Pts H p cs:=by
 unfold ptX at h
 grind[Pts.rp,Qaw,Pts.cells,QdE]
def QdX(T:TyX)(o:Oper)(env:Env)(H:Qc):Option A:=
 match o.op with
 |.move x=>match opB env x with|.mk a=>some a
 |.assign x=>match opB env x with|.mk a=>some a
 |.nilCheck x=>nlB (opB env x)
 |.extract x i=>exB (opB env x) i
 |.unOp u _ x=>unB u (opB env x)
 |.pick c x y=>piB (opB env c) (opB env x) (opB env y)
 |.binOp b _ x y _=>biB b (opB env x) (opB env y)
 |.fieldAddr t x f=>match Qjt T.ty.fld t f with
  |none=>none
  |some off=>match opB env x with
   |.mk (.ptr i p)=>some (.ptr i (p+off))
   |.mk (.rp cs)=>match Qgl off cs with
    |.mk r=>some (.rp r)
   |_=>none
 |.load t x=>match QcD T.ty.agg t with
  |none=>none
  |some (b,n)=>match x with
   |.global g=>match Y9 QkM g with
    |some zs=>bif b&&Nat.beq zs.length n then(match fl (zs.map (A.int .i64))with|.mk l=>some (.agg l))else none
    |none=>none
   |x=>match ptX H (opB env x)with
    |none=>none
    |some (.mk cs)=>match b with
     |true=>(match fl (cs.take n)with|.mk l=>bif Nat.beq l.length n then some (.agg l)else none)
     |false=>(match cs with|[]=>none|a::_=>some a)
 |.build t parts=>match QcD T.ty.zer t with
  |none=>none
  |some (zs,pl)=>match QlS env pl zs parts.toList with
   |some cs=>some (.agg cs)
   |none=>none
 |.makeFunc f first cap=>match fl (QkI env first.toList),fl (QkI env cap.toList)with
  |.mk l,.mk l'=>some (.fn f l l')
 |.call c=>match c with
  |{callee:=.builtin .len,args:=⟨[x]⟩,argTypes:=⟨[t]⟩}=>bif Qd6 T.sl t then(match opB env x with
   |.mk (.osl _ 0 n _)=>some (.int .i64 n)
   |_=>none)else none
  |_=>none
 |_=>none
theorem Qar{P:Program}{T:TyX}(m:Qa2 P T){o:Oper}{env:Env}{H:Qc}{x:A}(h:QdX T o env H=some x):OpV P o env H x:=by
 unfold QdX at h;split at h
 .simp_all[QbW,svB]
 .simp_all[QbW,svB]
 .simp_all[QbW,svB]
 .simp_all[QbW,svB]
 .simp_all[QbW,svB]
 .simp_all[QbW,svB]
 .simp_all[QbW,svB]
 .rename_i t y f a;split at h
  .cases h
  .rename_i u l;obtain⟨n,V⟩:=m.ty.fld _ (Qjs l);split at h
   .grind[YI,QS]
   .rename_i j Q;cases q:Qgl u j with
    |mk r=>rw[q]at h;grind[QE,QS,QdE]
   .cases h
 .rename_i t y a;split at h
  .cases h
  .rename_i b n G;obtain⟨d,s⟩:=m.ty.agg _ (Qas G);split at h
   .rename_i g;split at h
    .rename_i E B;rw[Qaw]at B;cases q:(b&&Nat.beq E.length n)with
     |false=>grind
     |true=>
      rw[q,QcJ]at h;cases h;simp only[XU]at q;obtain⟨rfl,w⟩:=q;exact QhD d s B (by simp_all) a
    .cases h
   .cases e:opB env y with
    |mk p=>
     rw[e]at h;split at h
     .cases h
     .rename_i j M;have N:=Qqx M;cases b with
      |true=>
       simp only[QcJ]at h;cases q:Nat.beq (j.take n).length n with
       |false=>grind
       |true=>
        rw[q]at h;cases h;exact Qo a d s (QS e) N rfl (by simp_all)
      |false=>
       grind[OpV.load,QS]
 .rename_i t parts a;split at h
  .cases h
  .rename_i E O L;obtain⟨⟨z,d,s⟩,F⟩:=m.ty.zer _ (Qas L);split at h
   .rename_i j l;cases h;rw[Qjx]at l;exact OpV.build d s F (by rw[a]) l
   .cases h
 .rename_i f first cap a
  simp only[QcJ]at h;cases h;rw[Qdr,Qdr];exact OpV.makeFunc (first:=first.toList) (cap:=cap.toList) (by rw[a]) rfl rfl
 .rename_i c a;split at h
  .rename_i y t;cases q:Qd6 T.sl t with
   |false=>grind
   |true=>
    rw[q]at h;obtain⟨R,J⟩:=m.sl t (Qh2 q);split at h
    .rename_i i n k w;cases h;exact Qnh J a rfl (QS w)
    .cases h
  .cases h
 .cases h
def stX(T:TyX)(h0 N:Nat)(all:Array Oper)(o:Oper)(env:Env)(H:Qc):Option (Env×Qc):=
 match Jc all o env with
 |none=>none
 |some false=>match o.dst with
  |none=>none
  |some d=>bif Nat.blt d N then some (up env d (.tup []),H)else none
 |some true=>match o.dst with
  |none=>match o.op with
   |.store t x y=>match opB env x,QcD T.ty.agg t with
    |.mk (.ptr i off),some (_,n)=>match Y9 H i with
     |some (.cells S cs)=>match opB env y with
      |.mk a=>match fl (YD a)with
       |.mk vs=>bif Nat.ble h0 H.length&&(Yr a&&(Nat.beq vs.length n&&(vs.all YC&&Nat.ble (off+n) cs.length)))then(match fl (splice cs off vs)with
        |.mk cs'=>match fb (H.set i (.cells S cs'))with
         |.mk H'=>some (env,H'))else none
     |_=>none
    |_,_=>none
   |_=>none
  |some d=>bif Nat.blt d N then(match o.op with
   |.alloc t=>match QcD T.al t with
    |some v=>bif Nat.ble h0 H.length then(match fn H 0,fl (YD v)with
     |.mk n,.mk cs=>match fb (H++[.cells t cs])with
      |.mk H'=>some (up env d (.ptr n 0),H'))else none
    |none=>none
   |.box t x=>match opB env x with
    |.mk a=>bif Nat.ble h0 H.length&&(Yr a&&(YD a).all YC)then(match fn H 0,fl (YD a)with
     |.mk n,.mk cs=>match fb (H++[.cells t cs])with
      |.mk H'=>some (up env d (.ptr n 0),H'))else none
   |_=>match QdX T o env H with
    |some a=>some (up env d a,H)
    |none=>none)else none
def runX(T:TyX)(h0 N:Nat)(all:Array Oper):Nat->List Oper->Env->Qc->Option (List Oper×Env×Qc)
 |0,l,env,H=>some (l,env,H)
 |_+1,[],_,_=>none
 |n+1,o::l,env,H=>match stX T h0 N all o env H with
  |some (env',H')=>runX T h0 N all n l env' H'
  |none=>none
section
variable {P:Program} {T:TyX} {h0 N:Nat} {all:Array Oper} {l l':List Oper} {env env':Env} {H H':Qc} {Q:QV}
theorem Qkr(m:Qa2 P T){o:Oper}(h:stX T h0 N all o env H=some (env',H'))(k:WO P h0 N all l env' H' Q):WO P h0 N all (o::l) env H Q:=by
 unfold stX at h;split at h
 .cases h
 .grind[QW,WO.skip]
 .rename_i E;have j:=QW E;split at h
  .rename_i g;split at h
   .rename_i t x y f;split at h
    .rename_i i p b n B O;split at h
     .rename_i S cs hH;rw[Qaw]at hH;cases e:opB env y with
      |mk a=>
       rw[e]at h;simp only[QcJ,QlU]at h;generalize hc:(Nat.ble h0 H.length&&(Yr a&&(Nat.beq (YD a).length n&&((YD a).all YC&&Nat.ble (p+n) cs.length))))=c at h;cases c with
       |false=>cases h
       |true=>
        cases h;simp only[XU]at hc;obtain⟨c1,r,s,R,M⟩:=hc;obtain⟨_,u⟩:=m.ty.agg _ (Qas O);exact QbK (by simp_all) j g (OpU.store f (QS B) hH u (QS e) r rfl (by simp_all) R M rfl) k
     .cases h
    .cases h
   .cases h
  .rename_i d g;cases q:Nat.blt d N with
   |false=>grind
   |true=>
    rw[q]at h;split at h
    .rename_i t f;split at h
     .rename_i v w;cases c:Nat.ble h0 H.length with
      |false=>grind
      |true=>
       rw[c]at h;simp only[QcJ,QlU,Qoi,Vl]at h;cases h;obtain⟨⟨z,F,L⟩,V,G⟩:=m.al _ (Qas w);exact Jr (by simp_all) j g q (Qda F L f V rfl G) k
     .cases h
    .rename_i t x f;cases e:opB env x with
     |mk a=>
      rw[e]at h;simp only[QcJ,QlU,Qoi]at h;generalize hc:(Nat.ble h0 H.length&&(Yr a&&(YD a).all YC))=c at h;cases c with
      |false=>cases h
      |true=>
       cases h;simp only[XU]at hc;obtain⟨c1,r,s⟩:=hc;exact Jr (by simp_all) j g q (OpH.box f (QS e) r rfl s) k
    .split at h
     .rename_i a J;cases h;exact QP j g q (Qar m J) k
     .cases h
theorem AU(hT:Qa2 P T):∀(n:Nat) {l l':List Oper} {env env':Env} {H H':Qc},runX T h0 N all n l env H=some (l',env',H')->WO P h0 N all l' env' H' Q->WO P h0 N all l env H Q
 |0,l,l',env,env',H,H',h,k=>by cases h;exact k
 |n+1,[],l',env,env',H,H',h,k=>by cases h
 |n+1,o::l,l',env,env',H,H',h,k=>by
  unfold runX at h;split at h
  .rename_i e1 H1 hs;exact Qkr hT hs (AU hT n h k)
  .cases h
end
theorem FA{P:Program}{T f off n:Nat}{fs:Array Field}{a:Field}(e:∀w,(underlying T).run P w=.ok (.struct fs) w)(g:fs[f]?=some a)(d:∀w,(sizeOf a.type).run P w=.ok n w)(h:a.offset=off:=by exact rfl)(h5:n≠0:=by decide):QN P T f off n:=⟨_,_,e,g,h,d,h5⟩
theorem Qeq:∀(π:List Nat) (H:Qc) (xs:List Blk),π.map (λp=>H[p]?)=xs.map some->YH H π xs=H
 |[],H,xs,h=>by
  simp_all[YH]
 |p::π,H,[],h=>by simp at h
 |p::π,H,x::xs,h=>by
  simp[Vg,List.cons.injEq]at h;have e:H.set p x=H:=by
   apply List.ext_getElem?
   grind
  unfold YH;rw[e];exact Qeq π H xs h.2
def Qmq:A->Option Bx
 |.bool b=>some (.mk (.bool b))
 |.int k n=>some (.mk (.int k n))
 |.str s=>some (.mk (.str s))
 |.rsl k es=>some (.mk (.rsl k es))
 |_=>none
theorem Qpp{v a:A}(h:Qmq v=some (.mk a))(ρ:Nat->Nat):Je ρ v=a:=by
 cases v<;>first|(cases h;rfl)|cases h
theorem Pc{P:Program}{h0 N:Nat}{all:Array Oper}{o:Oper}{l:List Oper}{env:Env}{H:Qc}{Q:QV}{d:Nat}{f:FuncId}{args e:List A}{Hc:Qc}{v h:A}(π:List Nat)(i:o.dst=some d)(g:OpC P o env H f args)(j:C P f e Hc (λa H1=>a=v/\H1=Hc))(m:Qmq v=some (.mk h))
  (k:WO P h0 N all l (up env d h) H Q)
  (hargs:args=Qah (rho π H.length) e:=by exact rfl)(hH:π.map (λp=>H[p]?)=(Hc.map (Yp (rho π H.length))).map some:=by exact rfl)(hπ:π.Nodup:=by decide)
  (hg:QB all o env true:=by exact rfl)(hN:Nat.blt d N=true:=by exact rfl)(hh:Nat.ble h0 H.length=true:=by exact rfl):WO P h0 N all (o::l) env H Q:=by
 refine Q2 π g j ?_ hargs hH hπ hg i hN hh
 simp_all[Qpp,Qeq]
theorem Jj{i k:Nat}{es:List (List A)}:∀H,FzH i k es H H
 |[]=>.nil
 |_::r=>.keep (Jj r)
def foN:Nat->FN
 |0=>.mk 0
 |n+1=>match foN n with
  |.mk m=>.mk (m+1)
theorem QfT:∀n,foN n=.mk n
 |0=>rfl
 |n+1=>by unfold foN;rw[QfT n]
mutual
def foA:A->Bx
 |.agg cs=>match foL cs with
  |.mk l=>.mk (.agg l)
 |.tup cs=>match foL cs with
  |.mk l=>.mk (.tup l)
 |.fn f a c=>match foL a,foL c with
  |.mk l,.mk l'=>.mk (.fn f l l')
 |.iface t v=>match foA v with
  |.mk v'=>.mk (.iface t v')
 |.ptr i off=>match foN i with
  |.mk i'=>.mk (.ptr i' off)
 |.osl i o n k=>match foN i with
  |.mk i'=>.mk (.osl i' o n k)
 |.map i=>match foN i with
  |.mk i'=>.mk (.map i')
 |a=>.mk a
def foL:List A->FL
 |[]=>.mk []
 |a::r=>match foA a,foL r with
  |.mk a',.mk r'=>.mk (a'::r')
end
mutual
theorem Qh9:∀a:A,foA a=.mk a
 |.agg cs=>by unfold foA;rw[Qc1 cs]
 |.tup cs=>by unfold foA;rw[Qc1 cs]
 |.fn f a c=>by unfold foA;rw[Qc1 a,Qc1 c]
 |.iface t v=>by unfold foA;rw[Qh9 v]
 |.ptr i off=>by unfold foA;rw[QfT]
 |.osl i o n k=>by unfold foA;rw[QfT]
 |.map i=>by unfold foA;rw[QfT]
 |.any|.bool _|.int _ _|.str _|.nilp|.rp _|.nils|.rsl _ _|.nilf|.nilif|.nilm=>by rfl
theorem Qc1:∀l:List A,foL l=.mk l
 |[]=>by rfl
 |a::r=>by unfold foL;rw[Qh9 a,Qc1 r]
end
inductive FE2 where
 |mk (l:List (List A))
def foE:List (List A)->FE2
 |[]=>.mk []
 |a::r=>match foL a,foE r with
  |.mk a',.mk r'=>.mk (a'::r')
theorem Qof:∀l,foE l=.mk l
 |[]=>rfl
 |a::r=>by unfold foE;rw[Qc1,Qof r]
def foH:List Blk->FB
 |[]=>.mk []
 |b::r=>match foH r with
  |.mk r'=>match b with
   |.cells t cs=>match foL cs with
    |.mk l=>.mk (.cells t l::r')
   |.rowr t k es=>match foE es with
    |.mk l=>.mk (.rowr t k l::r')
   |.dead=>.mk (.dead::r')
   |.row t k es=>.mk (.row t k es::r')
   |.map es=>.mk (.map es::r')
   |.iter c es=>.mk (.iter c es::r')
   |.fmap es=>.mk (.fmap es::r')
   |.mapO fz t k es=>.mk (.mapO fz t k es::r')
   |.mapP es=>.mk (.mapP es::r')
   |.frow t k es=>.mk (.frow t k es::r')
   |.ents t a b es=>match foN a,foN b with
    |.mk a',.mk b'=>.mk (.ents t a' b' es::r')
theorem QkO:∀l,foH l=.mk l
 |[]=>rfl
 |b::r=>by
  unfold foH;rw[QkO r];cases b<;>simp[Qc1,Qof,QfT]
def foS(env:Env)(H:Qc):Option (Env×Qc):=
 match foH H with
 |.mk H'=>match env with
  |[]=>some ([],H')
  |(d,a)::e=>match foA a with
   |.mk a'=>some ((d,a')::e,H')
theorem QqL(env:Env)(H:Qc):foS env H=some (env,H):=by
 unfold foS;rw[QkO];cases env with
 |nil=>rfl
 |cons p e=>simp[Qh9]
theorem FE{P:Program}{h0 N:Nat}{all:Array Oper}{l:List Oper}{env env':Env}{H H':Qc}{Q:QV}(h:foS env H=some (env',H'))(k:WO P h0 N all l env' H' Q):WO P h0 N all l env H Q:=by
 rw[QqL]at h
 grind
def entB(b1 b2:Nat):List (List A)->Option (List Ent)
 |[]=>some []
 |[.ptr b off,.int .i64 lo,.int .i64 hi]::r=>match entB b1 b2 r with
  |none=>none
  |some l=>match Nat.beq b b2 with
   |true=>some (⟨true,off,lo,hi⟩::l)
   |false=>match Nat.beq b b1 with
    |true=>some (⟨false,off,lo,hi⟩::l)
    |false=>none
 |_=>none
theorem QpU{b1 b2:Nat}:∀{es:List (List A)} {l:List Ent},entB b1 b2 es=some l->l.map (eC b1 b2)=es:=by
 intro es
 induction es with
 |nil=>intro l h;cases h;rfl
 |cons e r f=>
  intro l h;unfold entB at h;split at h
  .grind
  .rename_i b d lo j i q;cases q;split at h
   .cases h
   .rename_i g a;have e:=f a;split at h
    .rename_i q;cases h;have:=XO q;subst this;rw[Vg,e];rfl
    .split at h
     .rename_i q;cases h;have:=XO q;subst this;rw[Vg,e];rfl
     .cases h
  .cases h
theorem TE{P:Program}{h0 N:Nat}{all:Array Oper}{l:List Oper}{env:Env}{H:Qc}{Q:QV}{t:Nat}{es:List (List A)}{L:List Ent}(i b1 b2:Nat)(hH:H[i]?=some (.rowr t 3 es))(h:entB b1 b2 es=some L)
  (k:WO P h0 N all l env (H.set i (.ents t b1 b2 L)) Q):WO P h0 N all l env H Q:=QH (Qnn hH (QpU h)) k
theorem R1{P:Program}{h0:Nat}{fn:Func}{env:Env}{H Hc:Qc}{v:A}(s:Nat)(hr:fn.results= #[.tmp s])(hle:Le h0 env H [(s,v)] Hc):QbL P h0 fn (λa H=>a=v/\H=Hc) .ret env H:=
 ⟨[(s,v)],Hc,v,hle,QdL.one hr (by simp_all[lk]),rfl,rfl⟩
theorem R2{P:Program}{h0:Nat}{fn:Func}{env:Env}{H Hc:Qc}{v v':A}(s t:Nat)(hr:fn.results= #[.tmp s,.tmp t])(hn:Nat.beq t s=false)(hle:Le h0 env H [(s,v),(t,v')] Hc):QbL P h0 fn (λa H=>a=.tup [v,v']/\H=Hc) .ret env H:=
 ⟨[(s,v),(t,v')],Hc,_,hle,Qm9 hr (by simp_all[lk]) (by simp_all[lk]),rfl,rfl⟩
theorem FzA.o{i k n:Nat}{es:List (List A)}(a:n=es.length:=by first|exact(XZ ..).symm|exact rfl):FzA i k es (.osl i 0 n k) (.rsl k es):=FzA.own a
theorem Le.env{h0:Nat}{env env':Env}{H:Qc}(h:∀s,lk env' s=.any\/lk env' s=lk env s):Le h0 env H env' H:=by
 intro e d σ N a w r;refine⟨d,σ,⟨r.sim,λs=>?_,r.size,r.defers⟩,λ_ q=>q,rfl⟩;rcases h s with h|h
 .rw[h];trivial
 .rw[h];exact r.env s
def Qqh(env:Env):Env->Prop
 |[]=>True
 |(s,a)::r=>lk env s=a/\Qqh env r
theorem Qqh.ok{env:Env}:∀{env':Env},Qqh env env'->∀s,lk env' s=.any\/lk env' s=lk env s
 |[],_,s=>.inl rfl
 |(d,a)::e,⟨h1,h2⟩,s=>by
  by_cases q:s=d
  .simp_all[lk]
  .have:Nat.beq s d=false:=by
    simp_all[VJ]
   simp[lk,this];exact Qqh.ok h2 s
inductive Kf where
 |seq (c:Code)
 |blo (id:Nat)
 |unr (c:Code)
inductive Cf where
 |code (c:Code)
 |ops (all:Array Oper) (l:List Oper)
 |out (x:AEx)
def kq(P:Program)(h0 N:Nat):List Kf->QV->QV
 |[],Q=>Q
 |.seq c::k,Q=>Seq P h0 N c (kq P h0 N k Q)
 |.blo id::k,Q=>Blo id (kq P h0 N k Q)
 |.unr c::k,Q=>Qlh P h0 N c (kq P h0 N k Q)
@[reducible] def Hd(P:Program)(h0 N:Nat):Cf->List Kf->Env->Qc->QV->Prop
 |.code c,k,env,H,Q=>TC P h0 N c env H (kq P h0 N k Q)
 |.ops all l,k,env,H,Q=>WO P h0 N all l env H (kq P h0 N k Q)
 |.out x,k,env,H,Q=>kq P h0 N k Q x env H
def QgV(T:TyX)(h0 N:Nat):Cf->List Kf->Env->Qc->Option (Cf×List Kf×Env×Qc)
 |.code (.seq a b),k,env,H=>some (.code a,.seq b::k,env,H)
 |.code (.block id c),k,env,H=>some (.code c,.blo id::k,env,H)
 |.code (.loop c),k,env,H=>some (.code c,.unr c::k,env,H)
 |.code .skip,k,env,H=>some (.out .normal,k,env,H)
 |.code .ret,k,env,H=>some (.out .ret,k,env,H)
 |.code (.exit id),k,env,H=>some (.out (.exit id),k,env,H)
 |.code (.region id ⟨l⟩ false),k,env,H=>some (.ops ⟨l⟩ l,k,env,H)
 |.code (.cond x a b),k,env,H=>match opB env x with
  |.mk (.bool true)=>some (.code a,k,env,H)
  |.mk (.bool false)=>some (.code b,k,env,H)
  |_=>none
 |.ops all [],k,env,H=>some (.out .normal,k,env,H)
 |.ops all (o::l),k,env,H=>match stX T h0 N all o env H with
  |some (env',H')=>some (.ops all l,k,env',H')
  |none=>none
 |.out .normal,.seq c::k,env,H=>some (.code c,k,env,H)
 |.out (.exit i),.seq _::k,env,H=>some (.out (.exit i),k,env,H)
 |.out .ret,.seq _::k,env,H=>some (.out .ret,k,env,H)
 |.out .normal,.blo _::k,env,H=>some (.out .normal,k,env,H)
 |.out (.exit i),.blo id::k,env,H=>match Nat.beq i id with
  |true=>some (.out .normal,k,env,H)
  |false=>some (.out (.exit i),k,env,H)
 |.out .ret,.blo _::k,env,H=>some (.out .ret,k,env,H)
 |.out .normal,.unr c::k,env,H=>some (.code c,.unr c::k,env,H)
 |.out (.exit i),.unr _::k,env,H=>some (.out (.exit i),k,env,H)
 |.out .ret,.unr _::k,env,H=>some (.out .ret,k,env,H)
 |_,_,_,_=>none
def Qi1(T:TyX)(h0 N:Nat):Nat->Cf->List Kf->Env->Qc->Option (Cf×List Kf×Env×Qc)
 |0,c,k,env,H=>some (c,k,env,H)
 |n+1,c,k,env,H=>match QgV T h0 N c k env H with
  |some (c',k',env',H')=>Qi1 T h0 N n c' k' env' H'
  |none=>none
section
variable {P:Program} {T:TyX} {h0 N:Nat} {Q:QV}
theorem QnC(e:Qa2 P T){c d:Cf}{k a:List Kf}{env env':Env}{H H':Qc}(h:QgV T h0 N c k env H=some (d,a,env',H'))(g:Hd P h0 N d a env' H' Q):Hd P h0 N c k env H Q:=by
 unfold QgV at h;split at h
 .cases h;exact TC.seq g
 .cases h;exact TC.block g
 .cases h;exact Qm8 g
 .cases h;exact TC.skip g
 .cases h;exact TC.ret g
 .cases h;exact TC.exit g
 .cases h;exact TC.region g
 .split at h
  .rename_i q;cases h;exact Qj5 (QS q) rfl g
  .rename_i q;cases h;exact Qj6 (QS q) rfl g
  .cases h
 .cases h;exact WO.nil g
 .grind[Qkr]
 .cases h;exact seqN g
 .cases h;exact seqX g
 .cases h;exact seqR g
 .cases h;exact bloN g
 .split at h
  .rename_i q;cases h;have:=XO q;subst this;exact bloE g
  .rename_i q;cases h;exact bloX q g
 .cases h;exact bloR g
 .cases h;exact unrN g
 .cases h;exact unrX g
 .cases h;exact unrR g
 .cases h
theorem Qdh(hT:Qa2 P T):∀(n:Nat) {c c':Cf} {k k':List Kf} {env env':Env} {H H':Qc},Qi1 T h0 N n c k env H=some (c',k',env',H')->Hd P h0 N c' k' env' H' Q->Hd P h0 N c k env H Q
 |0,c,c',k,k',env,env',H,H',h,g=>by cases h;exact g
 |n+1,c,c',k,k',env,env',H,H',h,g=>by
  unfold Qi1 at h;split at h
  .rename_i e;exact QnC hT e (Qdh hT n h g)
  .cases h
theorem Qly{env:Env}{s:Nat}{a:A}(h:lk env s=a):∀t,lk (up env s a) t=lk env t:=by
 intro t;simp[lk];cases q:Nat.beq t s with
 |true=>simp_all
 |false=>rfl
theorem Is{α:Type}{all:Array Oper}{l:List Oper}{env:Env}{H:Qc}{b:Bool}{x y:Option α}{r:α}(s:Nat)(h:(bif b then x else y)=some r)(d:lkB env s=.mk (.bool b))
  (t:b=true->x=some r->WO P h0 N all l (up env s (.bool true)) H Q)(e:b=false->y=some r->WO P h0 N all l (up env s (.bool false)) H Q):WO P h0 N all l env H Q:=by
 have a:=QkJ d;cases b with
 |true=>exact QH (Le.env λt=>.inr (Qly a t)) (t rfl h)
 |false=>exact QH (Le.env λt=>.inr (Qly a t)) (e rfl h)
theorem Ct3E{S B1:Type}{A B C:Code}{env:Env}{H:Qc}{k:List Kf}{b:Ctl S B1}(Eb:S->Env)(Hb:S->Qc)(h:TC P h0 N A env H (kq P h0 N [.seq B] (QhJ h0 b Eb Hb (kq P h0 N (.seq C::k) Q))))(g:∀s env H,b=.cont s->Le h0 env H (Eb s) (Hb s)->kq P h0 N (.seq C::k) Q .normal env H):TC P h0 N (.seq A (.seq B C)) env H (kq P h0 N k Q):=
 QoZ Eb Hb h g
end
def dstN(o:Oper)(i:Nat):Nat:=match o.dst with|some d=>d|none=>1000000+i
def Qbq:Nat->Nat->List Oper->List Nat
 |0,_,_=>[]
 |_+1,_,[]=>[]
 |m+1,i,o::l=>dstN o i::Qbq m (i+1) l
def Ys(af:List Nat):Nat->List Nat->List A->Env->Env
 |j,d::ds,x::xs,e=>(d,bif Qd6 af j then x else .any)::Ys af (j+1) ds xs e
 |j,d::ds,[],e=>(d,.any)::Ys af (j+1) ds [] e
 |_,[],_,e=>e
theorem QgH{l:List Nat}{t:Nat}:Qd6 l t=l.contains t:=by
 induction l with
 |nil=>rfl
 |cons a r d=>
  grind[Qd6,Nat.eq_of_beq_eq_true,Nat.beq_refl]
theorem Ql2{af:List Nat}{env0:Env}{s:Nat}:∀(a:List Nat) (xs f:List A) (b:Nat),
  (∃(j:Nat) (x:A),af.contains (b+j)=true/\a[j]?=some s/\(xs++f)[j]?=some x/\lk (Ys af b a xs env0) s=x)\/lk (Ys af b a xs env0) s=.any\/(a.contains s=false/\lk (Ys af b a xs env0) s=lk env0 s):=by
 intro a
 induction a with
 |nil=>intro xs f b;right;right;exact⟨rfl,by rfl⟩
 |cons d a p=>
  intro xs f b;have next:∀(e:List A),(∃(j:Nat) (x:A),af.contains (b+1+j)=true/\a[j]?=some s/\(e++f)[j]?=some x/\lk (Ys af (b+1) a e env0) s=x)->∀n,(∃(j:Nat) (x:A),af.contains (b+j)=true/\(d::a)[j]?=some s/\(n::e++f)[j]?=some x/\lk (Ys af (b+1) a e env0) s=x):=by
   rintro e ⟨j,x,g,k,m,l⟩ n;exact⟨j+1,x,by grind,by grind,by grind,l⟩
  cases xs with
  |nil=>
   cases q:Nat.beq s d with
   |true=>simp_all[Ys,lk]
   |false=>
    have i:s≠d:=λz=>by simp_all
    simp only[Ys,lk,q,Vm];rcases p [] [] (b+1)with⟨j,x,g,k,m,l⟩|h|⟨g,k⟩
    .simp at m
    .grind
    grind
  |cons x xs=>
   cases q:Nat.beq s d with
   |true=>
    have:=XO q;subst this;simp only[Ys,lk,q,Vl];cases c:Qd6 af b with
    |true=>left;exact⟨0,x,by rw[<- QgH];exact c,rfl,rfl,rfl⟩
    |false=>simp
   |false=>
    have i:s≠d:=λz=>by simp_all
    simp only[Ys,lk,q,Vm];rcases p xs f (b+1)with h|h|⟨g,k⟩
    .exact .inl (next xs h x)
    .grind
    grind
section
variable {P:Program} {T:TyX} {h0 N m:Nat} {l:List Oper} {ds:List Nat} {env:Env} {H:Qc} {Q:QV} {K:List Oper->Env->Qc->Prop}
def DS(P:Program)(N m:Nat)(l:List Oper)(ds:List Nat)(env:Env)(H:Qc)(K:List Oper->Env->Qc->Prop)(r:List Oper)(xs:List A):Prop:=
 r=l.drop xs.length->∃ys,xs.length+ys.length=m/\(∀j,xs.length<=j->j<m->JX P N l ds (xs++ys) env H.length H.length j H H)/\K (l.drop m) (Qaq ds (xs++ys) env) H
theorem oqOf{xs:List A}:∀(c i:Nat),(∀j,i<=j->j<i+c->JX P N l ds xs env H.length H.length j H H)->Oq P N l ds xs env H i c
 |0,i,_=>.n
 |c+1,i,h=>.c (by grind) (oqOf c (i+1) (by grind))
theorem Qph{id:Nat}{k:List Kf}(m:Nat)(i:P.follows .mixedOrders=true)(d:Go.Sw.draw0 l m N (Qbq m 0 l)=true)(a:Nat.ble h0 H.length=true)
  (h:DS P N m l (Qbq m 0 l) env H (λr e H=>WO P h0 N l.toArray r e H Q) l []):TC P h0 N (.region id l.toArray true) env H Q:=by
 obtain⟨g,j,n,f⟩:=h rfl;exact TC.draw0 m _ g i d (by simp_all) a (oqOf m 0 (by grind)) f
theorem DS.done{xs:List A}{r:List Oper}(a:Nat.beq xs.length m=true)(h:K r (Qaq ds xs env) H):DS P N m l ds env H K r xs:=by
 intro d;have e:=XO a;refine⟨[],by simpa using e,λj f g=>by omega,?_⟩
 grind
theorem DS.add{xs:List A}{o:Oper}{r:List Oper}{x:A}(e:Nat.blt xs.length m=true)(g:∀ys,l[xs.length]?=some o->JX P N l ds (xs++x::ys) env H.length H.length xs.length H H)(k:DS P N m l ds env H K r (xs++[x])):DS P N m l ds env H K (o::r) xs:=by
 intro d;have a:xs.length<l.length:=by
  grind[List.drop_eq_nil_of_le]
 rw[Xp a]at d;cases d;obtain⟨ys,f,h,i⟩:=k (by simp)
 grind
theorem Qjq{xs a:List A}{x:A}:(xs++x::a)[xs.length]?=some x:=by simp
theorem DS.wo{xs:List A}{o:Oper}{r:List Oper}{x:A}{d:Nat}(h:WO P H.length N l.toArray [o] (Ys (Qi o) 0 ds xs env) H (Jm (up (Ys (Qi o) 0 ds xs env) d x) H))(k:DS P N m l ds env H K r (xs++[x]))
  (a:o.dst=some d:=by exact rfl)(hx:Nat.blt xs.length m=true:=by exact rfl):DS P N m l ds env H K (o::r) xs:=
 .add hx (λf e=>.woE o _ d x e a Qjq (he:=by
  intro s;rcases Ql2 (af:=Qi o) (env0:=env) (s:=s) ds xs (x::f) 0 with⟨j,y,g,i,p,n⟩|q|q
  .grind
  .grind
  grind) (hdd:=QeI H) (h:=h)) k
theorem DS.v{xs:List A}{o:Oper}{r:List Oper}{x:A}{d:Nat}(h:OpV P o (Ys (Qi o) 0 ds xs env) H x)(k:DS P N m l ds env H K r (xs++[x]))(hg:QB l.toArray o (Ys (Qi o) 0 ds xs env) true:=by exact rfl)
  (hd:o.dst=some d:=by exact rfl)(hN:Nat.blt d N=true:=by exact rfl)(hx:Nat.blt xs.length m=true:=by exact rfl):DS P N m l ds env H K (o::r) xs:=
 .wo (QP hg hd hN h (WO.nil Jm.mk)) k hd hx
def Qc4:List A->A->FL
 |[],x=>.mk [x]
 |a::r,x=>match Qc4 r x with
  |.mk r'=>.mk (a::r')
theorem JB:∀(l:List A) (x:A),Qc4 l x=.mk (l++[x])
 |[],x=>rfl
 |a::r,x=>by unfold Qc4;rw[JB r];rfl
def Qi2(T:TyX)(N m:Nat)(l:List Oper)(ds:List Nat)(env:Env)(H:Qc):Nat->Nat->List Oper->List A->Option (List Oper×List A)
 |0,_,r,xs=>some (r,xs)
 |_+1,_,[],_=>none
 |n+1,i,o::r,xs=>match Nat.blt i m with
  |false=>none
  |true=>match o.dst with
   |none=>none
   |some d=>match Nat.blt d N with
    |false=>none
    |true=>match Jc ⟨l⟩ o (Ys (Qi o) 0 ds xs env)with
     |none=>none
     |some false=>match Qc4 xs (.tup [])with
      |.mk xs'=>Qi2 T N m l ds env H n (i+1) r xs'
     |some true=>match QdX T o (Ys (Qi o) 0 ds xs env) H with
      |none=>none
      |some x=>match Qc4 xs x with
       |.mk xs'=>Qi2 T N m l ds env H n (i+1) r xs'
theorem Qfx(hT:Qa2 P T):∀(n i:Nat) {r r':List Oper} {xs xs':List A},i=xs.length->Qi2 T N m l ds env H n i r xs=some (r',xs')->DS P N m l ds env H K r' xs'->DS P N m l ds env H K r xs
 |0,i,r,r',xs,xs',_,h,k=>by cases h;exact k
 |n+1,i,[],r',xs,xs',_,h,k=>by cases h
 |n+1,i,o::r,r',xs,xs',hi,h,k=>by
  subst hi;unfold Qi2 at h;split at h
  .cases h
  .rename_i q1;split at h
   .cases h
   .rename_i d hd;split at h
    .cases h
    .rename_i q2;split at h
     .cases h
     .rename_i hw;simp[JB]at h;exact .wo (WO.skip (QW hw) hd q2 (WO.nil Jm.mk)) (Qfx hT n _ (by simp) h k) hd q1
     .rename_i hw;split at h
      .cases h
      .rename_i x hv;simp[JB]at h;exact .v (Qar hT hv) (Qfx hT n _ (by simp) h k) (QW hw) hd q2 q1
def QnH:List A->Nat->A->FL
 |[],_,_=>.mk []
 |_::r,0,x=>.mk (x::r)
 |a::r,n+1,x=>match QnH r n x with
  |.mk r'=>.mk (a::r')
theorem QdY:∀{l:List A} {n:Nat} {x:A},Y9 l n=some x->QnH l n x=.mk l
 |[],n,x,h=>by cases h
 |a::r,0,x,h=>by cases h;rfl
 |a::r,n+1,x,h=>by unfold QnH;rw[QdY (l:=r) h]
theorem QbS{α:Type}{b:Bool}{x y:Option α}{v:α}{xs a d:List A}{r:List Oper}(j:Nat)(h:(bif b then x else y)=some v)(g:Y9 xs j=some (.bool b))(i:QnH xs j (.bool true)=.mk a)(f:QnH xs j (.bool false)=.mk d)
  (t:b=true->x=some v->DS P N m l ds env H K r a)(e:b=false->y=some v->DS P N m l ds env H K r d):DS P N m l ds env H K r xs:=by
 cases b with
 |true=>simp_all[QdY]
 |false=>simp_all[QdY]
end
@[reducible] def RQ{β:Type}(w:β->A)(Hc:β->Qc)(r:β):A->Qc->Prop:=λa H=>a=w r/\H=Hc r
@[reducible] def Csm{β:Type}(P:Program)(f:FuncId)(args:List A)(H:Qc)(w:β->A)(r:β):Prop:=C P f args H (RQ w (λ_=>H) r)
structure TyZ where
 sl:List (Nat×Nat×Nat)
 fn:List Nat
structure QcN (P:Program) (Z:TyZ):Prop where
 sl:∀e∈Z.sl,(∀w,(underlying e.1).run P w=.ok (.slice e.2.1) w)/\ ∀w,(sizeOf e.2.1).run P w=.ok e.2.2 w
 fn:∀f∈Z.fn,∀(a:Array Value) (w:World),(callFunc f a).run P w=.ok (.enter f a) w
section
variable {P:Program} {Z:TyZ} {h0 N:Nat} {all:Array Oper} {o:Oper} {l:List Oper} {env:Env} {H:Qc} {Q:QV} {d:Nat}
theorem Izz(n:QcN P Z){α:Type}{e:α->List A}{t f k:Nat}{L:List α}{m:IntKind}{i:Int}{v:α}(h:idx L i=some v)(q:ixB o env=some (d,t,k,L.map e,m,i))(g:WO P h0 N all l (up env d (.rp (e v))) H Q)
  (r:QcD Z.sl t=some (f,k))(hg:Jc all o env=some true)(j:Nat.blt d N=true):WO P h0 N all (o::l) env H Q:=by
 obtain⟨a,p⟩:=n.sl _ (Qas r);exact Ix h a p q g (QW hg) j
theorem Ize(m:QcN P Z){α:Type}{e:α->List A}{t a k:Nat}{L:List α}{j:IntKind}{i:Int}{v:α}{cs:List A}(h:idx L i=some v)(he:e v=cs)(q:ixB o env=some (d,t,k,L.map e,j,i))(g:WO P h0 N all l (up env d (.rp cs)) H Q)
  (n:QcD Z.sl t=some (a,k))(hg:Jc all o env=some true)(f:Nat.blt d N=true):WO P h0 N all (o::l) env H Q:=by
 subst he;exact Izz m h q g n hg f
theorem Lmz(j:QcN P Z){α:Type}{e:α->List A}{t h k a:Nat}{L:List α}(q:lnB o env=some (d,t,.mk (.rsl k (L.map e))))(g:WO P h0 N all l (up env d (.int .i64 L.length)) H Q)
  (m:QcD Z.sl t=some (h,a))(hg:Jc all o env=some true)(i:Nat.blt d N=true):WO P h0 N all (o::l) env H Q:=by
 obtain⟨f,n⟩:=j.sl _ (Qas m);exact LnM f q g (QW hg) i
def QgO(Z:TyZ)(o:Oper)(env:Env):Option (Nat×Nat×List A):=
 match o.dst with
 |none=>none
 |some d=>match o.op with
  |.call {callee:=.value (.func f),args:=⟨xs⟩,argTypes:=_}=>bif Qd6 Z.fn f then(match fl (QkI env xs)with|.mk ax=>some (d,f,ax))else none
  |.call {callee:=.value (.tmp x),args:=⟨xs⟩,argTypes:=_}=>match opB env (.tmp x)with
   |.mk (.fn (.func f) vf vc)=>bif Qd6 Z.fn f then(match fl (vf++(QkI env xs++vc))with|.mk ax=>some (d,f,ax))else none
   |_=>none
  |_=>none
theorem Qfd(i:QcN P Z){f:Nat}{args:List A}(h:QgO Z o env=some (d,f,args)):o.dst=some d/\OpC P o env H f args:=by
 unfold QgO at h;split at h
 .cases h
 .rename_i n g;split at h
  .rename_i a j k e;cases q:Qd6 Z.fn a with
   |false=>grind
   |true=>
    rw[q]at h;simp only[QcJ]at h;cases h;exact⟨g,OpC.fn (i.fn _ (Qh2 q)) e rfl (Qdr j).symm⟩
  .rename_i x j k e;split at h
   .rename_i a m p l;cases q:Qd6 Z.fn a with
    |false=>grind
    |true=>
     rw[q]at h;simp only[QcJ]at h;cases h;exact⟨g,QdQ (i.fn _ (Qh2 q)) e rfl (QS l) (by rw[Qdr])⟩
   .cases h
  .cases h
theorem Czz(i:QcN P Z){β γ:Type}{F:Option β}{F':β->Option γ}{r:γ}{f:Nat}{args a:List A}{Hc:Qc}{w:β->A}(π:List Nat)(h:F.bind F'=some r)(t:∀v,F=some v->C P f a Hc (RQ w (λ_=>Hc) v))
  (e:QgO Z o env=some (d,f,args))(g:∀v,F=some v->F' v=some r->WO P h0 N all l (up env d (w v)) H Q)(n:∀v,Qmq (w v)=some (.mk (w v)))
  (hargs:args=Qah (rho π H.length) a)(hH:π.map (λp=>H[p]?)=(Hc.map (Yp (rho π H.length))).map some)(hπ:π.Nodup)(hg:Jc all o env=some true)(q:Nat.blt d N=true)(k:Nat.ble h0 H.length=true):WO P h0 N all (o::l) env H Q:=by
 obtain⟨v,m,u⟩:=YU h;obtain⟨j,s⟩:=Qfd (H:=H) i e
 grind[Pc,QW]
theorem DzZ(u:QcN P Z){K:List Oper->Env->Qc->Prop}{m:Nat}{j:List Oper}{e:List Nat}{xs:List A}{β γ:Type}{F:Option β}{F':β->Option γ}{r:γ}{f:Nat}{args a:List A}{Hc:Qc}{w:β->A}(π:List Nat)(h:F.bind F'=some r)(y:∀v,F=some v->C P f a Hc (RQ w (λ_=>Hc) v))
  (i:QgO Z o (Ys (Qi o) 0 e xs env)=some (d,f,args))(g:∀v,F=some v->F' v=some r->DS P N m j e env H K l (xs++[w v]))(q:∀v,Qmq (w v)=some (.mk (w v)))
  (hargs:args=Qah (rho π H.length) a)(hH:π.map (λp=>H[p]?)=(Hc.map (Yp (rho π H.length))).map some)(hπ:π.Nodup)(hg:Jc j.toArray o (Ys (Qi o) 0 e xs env)=some true)(t:Nat.blt d N=true)(s:Nat.blt xs.length m=true):DS P N m j e env H K (o::l) xs:=by
 obtain⟨v,n,z⟩:=YU h;obtain⟨k,x⟩:=Qfd u i;exact .wo (Pc π k x (y v n) (q v) (WO.nil Jm.mk) hargs hH hπ (QW hg) t (by simp)) (g v n z) k s
theorem ln:Qbu H [] []:=trivial
theorem ls{ax d:List A}{a:A}(k:Qbu H ax d)(h:YK a=true:=by exact rfl):Qbu H (a::ax) (a::d):=⟨.inl ⟨rfl,h⟩,k⟩
theorem lo{ax a:List A}{i n k t:Nat}{es:List (List A)}(d:Qbu H ax a)(hH:H[i]?=some (.row t k es):=by exact rfl)(hn:es.length=n:=by exact XZ ..):Qbu H (.osl i 0 n k::ax) (.rsl k es::a):=
 ⟨.inr (by grind),d⟩
theorem Cbz(n:QcN P Z){β γ:Type}{F:Option β}{F':β->Option γ}{r:γ}{f:Nat}{args a:List A}{w:β->A}(h:F.bind F'=some r)(q:∀v,F=some v->C P f a [] (RQ w (λ_=>[]) v))
  (e:QgO Z o env=some (d,f,args))(m:Qbu H args a)(g:∀v,F=some v->F' v=some r->WO P h0 N all l (up env d (w v)) H Q)(s:∀v,YE (w v)=true)
  (hg:Jc all o env=some true)(k:Nat.blt d N=true):WO P h0 N all (o::l) env H Q:=by
 obtain⟨v,j,t⟩:=YU h;obtain⟨i,p⟩:=Qfd n e;refine QdH p m (q v j) ?_ ?_ (QW hg) i k
 .grind
 grind
end
def ixL:List Nat:=[0,1,2,3,4,5,6,7,8,9,10,11,12,13,14,15,16,17,18,19,20,21,22,23,24,25,26,27,28,29,30,31,32,33,34,35,36,37,38,39,40,41,42,43,44,45,46,47,48,49,50,51,52,53,54,55,56,57,58,59,60,61,62,63]
def Qmw:List Nat->List Nat->Nat->FN
 |a::r,b::s,j=>bif Nat.beq a j then .mk b else Qmw r s j
 |_,_,j=>.mk j
mutual
def cpA(sel:List Nat):A->Bx
 |.ptr i off=>match Qmw sel ixL i with
  |.mk j=>.mk (.ptr j off)
 |.osl i o n k=>match Qmw sel ixL i with
  |.mk j=>.mk (.osl j o n k)
 |.map i=>match Qmw sel ixL i with
  |.mk j=>.mk (.map j)
 |.fn f a c=>match cpL sel a,cpL sel c with
  |.mk a',.mk c'=>.mk (.fn f a' c')
 |a=>.mk a
def cpL(sel:List Nat):List A->FL
 |[]=>.mk []
 |a::r=>match cpA sel a,cpL sel r with
  |.mk a',.mk r'=>.mk (a'::r')
end
inductive FV where
 |mk (e:Env)
def Qn3(sel:List Nat)(env:Env):List Nat->Env->FV
 |[],nE=>.mk nE
 |s::r,nE=>match lkB env s with
  |.mk a=>match cpA sel a,Qn3 sel env r nE with
   |.mk a',.mk e=>.mk ((s,a')::e)
def selH(H:Qc):List Nat->List Nat->List (Nat×Blk)->FB
 |a::r,p::ps,[]=>match Y9 H a,selH H r ps []with
  |some b,.mk l=>.mk (b::l)
  |none,.mk l=>.mk l
 |a::r,p::ps,(q,b)::n=>bif Nat.beq p q then(match selH H r ps n with|.mk l=>.mk (b::l))else(match Y9 H a,selH H r ps ((q,b)::n)with
  |some b,.mk l=>.mk (b::l)
  |none,.mk l=>.mk l)
 |_,_,_=>.mk []
def QoH(sel keep:List Nat)(nE:Env)(nH:List (Nat×Blk))(env:Env)(H:Qc):Option (Env×Qc):=
 match Qn3 sel env keep nE,selH H sel ixL nH with
 |.mk e,.mk h=>some (e,h)
section
variable {P:Program} {h0 N:Nat} {c:Code} {env:Env} {H:Qc} {Q:QV}
def CutQ{β:Type}(h0:Nat)(b:β)(E':β->Env)(H':β->Qc)(Q:QV):QV
 |.normal,env,H=>Le h0 env H (E' b) (H' b)
 |.exit id,env,H=>Q (.exit id) env H
 |.ret,env,H=>Q .ret env H
theorem QC{h0:Nat}{env:Env}{H:Qc}{Q:QV}{β:Type}{b:β}{E':β->Env}{H':β->Qc}(h:Le h0 env H (E' b) (H' b)):CutQ h0 b E' H' Q .normal env H:=h
theorem Ct{β:Type}{E':β->Env}{H':β->Qc}(b:β)(sel keep:List Nat)(nE:β->Env)(nH:β->List (Nat×Blk))(_:∀b,QoH sel keep (nE b) (nH b) env H=some (E' b,H' b))(h:TC P h0 N c env H (CutQ h0 b E' H' Q))(k:∀env H,Le h0 env H (E' b) (H' b)->Q .normal env H):TC P h0 N c env H Q:=
 h.mono λx env' H' q=>by
  cases x with
  |normal=>exact k _ _ q
  |exit id=>exact q
  |ret=>exact q
theorem Jw{S B:Type}{b:Ctl S B}{E':S->Env}{H':S->Qc}(sel keep:List Nat)(nE:S->Env)(nH:S->List (Nat×Blk))(_:∀s,QoH sel keep (nE s) (nH s) env H=some (E' s,H' s))(h:TC P h0 N c env H (QhJ h0 b E' H' Q))(k:∀s env H,b=.cont s->Le h0 env H (E' s) (H' s)->Q .normal env H):TC P h0 N c env H Q:=Qmb E' H' h k
theorem Lp{S B:Type}{step:S->Option (Ctl S B)}{E':S->Env}{H':S->Qc}{m:Nat}{s0:S}{b0:B}(sel keep:List Nat)(nE:S->Env)(nH:S->List (Nat×Blk))(h:iter step m s0=some b0)(_:∀s,QoH sel keep (nE s) (nH s) env H=some (E' s,H' s))(hI:Le h0 env H (E' s0) (H' s0))
  (body:∀s d,step s=some d->(∀b,d=.done b->b=b0)->TC P h0 N c (E' s) (H' s) (Qbt (λs env H=>Le h0 env H (E' s) (H' s)) d Q)):TC P h0 N (.loop c) env H Q:=TC.loop E' H' h hI body
end
theorem Oj{S B:Type}{d:Ctl S B}{x b0:B}(hb:∀b,d=.done b->b=b0)(h:some (Ctl.done x)=some d):x=b0:=hb x (Oi h).symm
theorem Rt{P:Program}{h0:Nat}{fn:Func}{env:Env}{H:Qc}{β:Type}{e r:β}{w:β->A}{Hc:β->Qc}(h:some e=some r)(s:Nat)(π:List Nat)(a:fn.results= #[.tmp s]:=by exact rfl)(hpre:π.take h0=List.range h0:=by exact rfl)
  (hH:π.map (λp=>H[p]?)=((Hc e).map (Yp (rho π H.length))).map some:=by exact rfl)(hπ:π.Nodup:=by decide)(hE:QeO (rho π H.length) env [(s,w e)]:=by exact⟨rfl,trivial⟩):QbL P h0 fn (RQ w Hc r) .ret env H:=by
 cases h;exact R1 s a (Lr π hpre hH hπ hE)
theorem Cl{h0:Nat}{env:Env}{H:Qc}{Q:QV}{β:Type}{e b:β}{E':β->Env}{H':β->Qc}(h:some e=some b)(π:List Nat)(a:π.take h0=List.range h0:=by exact rfl)
  (hH:π.map (λp=>H[p]?)=((H' e).map (Yp (rho π H.length))).map some:=by exact rfl)(hπ:π.Nodup:=by decide)(hE:QeO (rho π H.length) env (E' e):=by(repeat' (first|exact trivial|refine⟨rfl,?_⟩))):CutQ h0 b E' H' Q .normal env H:=by
 cases h;exact Lr π a hH hπ hE
def plC(cat:List Nat):List (List (Nat×Nat)):=cat.map λc=>match c with|0=>[(0,0)]|1=>[(0,1)]|2=>[(1,1)]|_=>[(0,0),(1,1)]
def rqC(b:Nat)(cat:List Nat):List (List Nat):=cat.map λc=>match c with|2=>[b]|_=>[]
def hsC(cat:List Nat):List Bool:=cat.map λc=>match c with|1=>true|_=>false
section
variable {P:Program} {T:TyX} {h0 N m b:Nat} {cat:List Nat} {l:List Oper} {ds:List Nat} {env:Env} {H H1:Qc} {Q:QV} {K:List Oper->Env->Qc->Prop}
theorem QiE{P:Program}{N:Nat}{l:List Oper}{ds:List Nat}{xs:List A}{env0:Env}{hB hE:Nat}:∀(ss:List (List (Qc×Qc))) (b:Nat),(∀i s,ss[i]?=some s->∀p∈s,JX P N l ds xs env0 hB hE (b+i) p.1 p.2)->QiF P N l ds xs env0 hB hE b ss
 |[],b,h=>.nil
 |s::ss,b,h=>.cons (h 0 s rfl) (QiE ss (b+1) λi s' hs=>by rw[show b+1+i=b+(i+1)by omega];simp_all)
def Dob(P:Program)(N:Nat)(cat:List Nat)(l:List Oper)(ds:List Nat)(env:Env)(H H1:Qc)(zs:List A)(j:Nat):Prop:=
 ∀p∈(plC cat).getD j [],JX P N l ds zs env H.length H.length j ([H,H1].getD p.1 []) ([H,H1].getD p.2 [])
def DB(P:Program)(N m:Nat)(cat:List Nat)(l:List Oper)(ds:List Nat)(env:Env)(H H1:Qc)(K:List Oper->Env->Qc->Prop)(r:List Oper)(xs:List A):Prop:=
 r=l.drop xs.length->∃ys,xs.length+ys.length=m/\(∀j,xs.length<=j->j<m->Dob P N cat l ds env H H1 (xs++ys) j)/\K (l.drop m) (Qaq ds (xs++ys) env) H1
def DA(P:Program)(N m:Nat)(cat:List Nat)(l:List Oper)(ds:List Nat)(env:Env)(H:Qc)(K:List Oper->Env->Qc->Prop)(r:List Oper)(xs:List A):Prop:=
 r=l.drop xs.length->∃ys H1,xs.length+ys.length=m/\H.length<=H1.length/\(∀j,xs.length<=j->j<m->Dob P N cat l ds env H H1 (xs++ys) j)/\K (l.drop m) (Qaq ds (xs++ys) env) H1
theorem Qq5{f:List A}(d:cat.length=m)(h:∀j,0<=j->j<m->Dob P N cat l ds env H H1 f j):QiF P N l ds f env H.length (H.length+0) 0 ((plC cat).map λq=>q.map λp=>([H,H1].getD p.1 [],[H,H1].getD p.2 [])):=by
 refine QiE _ 0 λi s a p k=>?_;rw[Xo]at a;cases e:(plC cat)[i]? with
 |none=>grind
 |some q=>
  rw[e]at a;cases a;obtain⟨g,n,rfl⟩:=Xf.1 k;have r:i<m:=by
   grind[plC]
  have:=h i (XS _) r g (by grind)
  grind
theorem DA.len(a:H.length<=H1.length):[H,H1].all (λX=>Nat.ble (H.length+0) X.length)=true:=by
 simp_all
theorem Qpk{id:Nat}(m b:Nat)(cat:List Nat)(i:P.follows .mixedOrders=true)(k:QeH l m N (Qbq m 0 l) (hsC cat) (rqC b cat) [[],[b]] (plC cat)=true)(f:Nat.beq cat.length m=true)(d:Nat.ble h0 H.length=true)
  (h:DA P N m cat l (Qbq m 0 l) env H (λr e H=>WO P h0 N l.toArray r e H Q) l []):TC P h0 N (.region id l.toArray true) env H Q:=by
 obtain⟨n,H1,q,p,j,g⟩:=h rfl;have a:=XO f;exact QaM m 0 _ _ _ _ _ n [H,H1] H1 i k (by grind) rfl d (DA.len p) (by simp) rfl (Qq5 a j) (by simp[plC,a]) g
theorem Qbr{xs:List A}{o:Oper}{r:List Oper}(d:o::r=l.drop xs.length):l[xs.length]?=some o/\r=l.drop (xs.length+1):=by
 have a:xs.length<l.length:=by
  grind[List.drop_eq_nil_of_le]
 rw[Xp a]at d
 grind
theorem QiK{zs:List A}{j c:Nat}(a:Y9 cat j=some c)(h:∀p∈match c with|0=>[(0,0)]|1=>[(0,1)]|2=>[(1,1)]|_=>[(0,0),(1,1)],JX P N l ds zs env H.length H.length j ([H,H1].getD p.1 []) ([H,H1].getD p.2 [])):Dob P N cat l ds env H H1 zs j:=by
 intro p d
 grind[Qaw,plC]
theorem Qav{e hE:Nat}{xs a:List A}{o:Oper}{x:A}{d:Nat}{X X':Qc}(g:l[xs.length]?=some o)(hdd:QaL e hE X X'=true)(h:WO P X.length N l.toArray [o] (Ys (Qi o) 0 ds xs env) X (Jm (up (Ys (Qi o) 0 ds xs env) d x) X'))(f:o.dst=some d):
  JX P N l ds (xs++x::a) env e hE xs.length X X':=
 .woE o _ d x g f Qjq (he:=by
  intro s;rcases Ql2 (af:=Qi o) (env0:=env) (s:=s) ds xs (x::a) 0 with⟨j,y,i,k,n,m⟩|q|q
  .grind
  .grind
  grind) (hdd:=hdd) (h:=h)
theorem JA{n:Nat}{X X':Qc}:QaL n n X X'=true:=by unfold QaL;simp
theorem DA.wo{xs:List A}{o:Oper}{r:List Oper}{x:A}{d:Nat}(h:WO P H.length N l.toArray [o] (Ys (Qi o) 0 ds xs env) H (Jm (up (Ys (Qi o) 0 ds xs env) d x) H))(k:DA P N m cat l ds env H K r (xs++[x]))
  (i:Y9 cat xs.length=some 0:=by exact rfl)(hd:o.dst=some d:=by exact rfl)(hx:Nat.blt xs.length m=true:=by exact rfl):DA P N m cat l ds env H K (o::r) xs:=by
 intro t;obtain⟨f,w⟩:=Qbr t;obtain⟨s,H1,e,u,g,a⟩:=k (by grind);simp[Vf,Ve]at e g a;refine⟨x::s,H1,by grind,u,λj y z=>?_,a⟩;rcases Vz xs.length j with q|q
 .grind
 .obtain rfl:j=xs.length:=by omega
  refine QiK i λp n=>?_;obtain rfl:=Vy.1 n;exact Qav f JA h hd
theorem DA.op{xs:List A}{o:Oper}{r:List Oper}{x:A}{d:Nat}(h:WO P H.length N l.toArray [o] (Ys (Qi o) 0 ds xs env) H (Jm (up (Ys (Qi o) 0 ds xs env) d x) H1))(k:DB P N m cat l ds env H H1 K r (xs++[x]))(hl:Nat.ble H.length H1.length=true:=by exact rfl)
  (hc:Y9 cat xs.length=some 1:=by exact rfl)(hd:o.dst=some d:=by exact rfl)(hx:Nat.blt xs.length m=true:=by exact rfl):DA P N m cat l ds env H K (o::r) xs:=by
 intro s;obtain⟨f,t⟩:=Qbr s;obtain⟨n,e,g,a⟩:=k (by grind);simp[Vf,Ve]at e g a;refine⟨x::n,H1,by grind,(by simp_all),λj u w=>?_,a⟩;rcases Vz xs.length j with q|q
 .grind
 .obtain rfl:j=xs.length:=by omega
  refine QiK hc λp i=>?_;obtain rfl:=Vy.1 i;exact Qav f JA h hd
theorem Qcf{xs:List A}{o:Oper}{r:List Oper}{x x':A}{d:Nat}{H1':Qc}(h:OpH P o (Ys (Qi o) 0 ds xs env) H x H1)(e:foA x=.mk x')(a:foH H1=.mk H1')(k:DB P N m cat l ds env H H1' K r (xs++[x']))(f:o.dst=some d:=by exact rfl)(hg:Jc ⟨l⟩ o (Ys (Qi o) 0 ds xs env)=some true:=by exact rfl)(hN:Nat.blt d N=true:=by exact rfl)(hl:Nat.ble H.length H1'.length=true:=by exact rfl)
  (hc:Y9 cat xs.length=some 1:=by exact rfl)(hx:Nat.blt xs.length m=true:=by exact rfl):DA P N m cat l ds env H K (o::r) xs:=by
 rw[Qh9]at e;rw[QkO]at a;cases e;cases a;exact .op (Jr (XR _) (QW hg) f hN h (WO.nil Jm.mk)) k hl hc f hx
theorem DB.done{xs:List A}{r:List Oper}(a:Nat.beq xs.length m=true)(h:K r (Qaq ds xs env) H1):DB P N m cat l ds env H H1 K r xs:=by
 intro d;have e:=XO a;refine⟨[],by simpa using e,λj f g=>by omega,?_⟩
 grind
theorem DB.add{xs:List A}{o:Oper}{r:List Oper}{x:A}(h:∀ys,l[xs.length]?=some o->Dob P N cat l ds env H H1 (xs++x::ys) xs.length)(k:DB P N m cat l ds env H H1 K r (xs++[x])):DB P N m cat l ds env H H1 K (o::r) xs:=by
 intro a;obtain⟨g,d⟩:=Qbr a;obtain⟨ys,f,i,e⟩:=k (by grind)
 grind
theorem DB.wo1{xs:List A}{o:Oper}{r:List Oper}{x:A}{d:Nat}(h:WO P H1.length N l.toArray [o] (Ys (Qi o) 0 ds xs env) H1 (Jm (up (Ys (Qi o) 0 ds xs env) d x) H1))(k:DB P N m cat l ds env H H1 K r (xs++[x]))
  (a:Y9 cat xs.length=some 2:=by exact rfl)(hd:o.dst=some d:=by exact rfl):DB P N m cat l ds env H H1 K (o::r) xs:=
 .add (λg e=>QiK a λp f=>by
  obtain rfl:=Vy.1 f;exact Qav e JA h hd) k
theorem DB.wo2{xs:List A}{o:Oper}{r:List Oper}{x:A}{d:Nat}(h:WO P H.length N l.toArray [o] (Ys (Qi o) 0 ds xs env) H (Jm (up (Ys (Qi o) 0 ds xs env) d x) H))(g:WO P H1.length N l.toArray [o] (Ys (Qi o) 0 ds xs env) H1 (Jm (up (Ys (Qi o) 0 ds xs env) d x) H1))(k:DB P N m cat l ds env H H1 K r (xs++[x]))
  (f:Y9 cat xs.length=some 3:=by exact rfl)(hd:o.dst=some d:=by exact rfl):DB P N m cat l ds env H H1 K (o::r) xs:=
 .add (λi e=>QiK f λp a=>by
  rcases X4.1 a with rfl|a
  .exact Qav e JA h hd
  .obtain rfl:=Vy.1 a;exact Qav e JA g hd) k
def Qi3(T:TyX)(N m:Nat)(cat:List Nat)(l:List Oper)(ds:List Nat)(env:Env)(H:Qc):Nat->Nat->List Oper->List A->Option (List Oper×List A)
 |0,_,r,xs=>some (r,xs)
 |_+1,_,[],_=>none
 |n+1,i,o::r,xs=>match Nat.blt i m,Y9 cat i with
  |true,some 0=>match o.dst with
   |none=>none
   |some d=>match Nat.blt d N with
    |false=>none
    |true=>match Jc ⟨l⟩ o (Ys (Qi o) 0 ds xs env)with
     |none=>none
     |some false=>match Qc4 xs (.tup [])with
      |.mk xs'=>Qi3 T N m cat l ds env H n (i+1) r xs'
     |some true=>match QdX T o (Ys (Qi o) 0 ds xs env) H with
      |none=>none
      |some x=>match Qc4 xs x with
       |.mk xs'=>Qi3 T N m cat l ds env H n (i+1) r xs'
  |_,_=>none
theorem QfA(hT:Qa2 P T):∀(n i:Nat) {r r':List Oper} {xs xs':List A},i=xs.length->Qi3 T N m cat l ds env H n i r xs=some (r',xs')->DA P N m cat l ds env H K r' xs'->DA P N m cat l ds env H K r xs
 |0,i,r,r',xs,xs',_,h,k=>by cases h;exact k
 |n+1,i,[],r',xs,xs',_,h,k=>by cases h
 |n+1,i,o::r,r',xs,xs',hi,h,k=>by
  subst hi;unfold Qi3 at h;split at h
  .rename_i q1 q0;split at h
   .cases h
   .rename_i d hd;split at h
    .cases h
    .rename_i q2;split at h
     .cases h
     .rename_i hw;simp[JB]at h;exact .wo (WO.skip (QW hw) hd q2 (WO.nil Jm.mk)) (QfA hT n _ (by simp) h k) q0 hd q1
     .rename_i hw;split at h
      .cases h
      .rename_i x hv;simp[JB]at h;exact .wo (QP (QW hw) hd q2 (Qar hT hv) (WO.nil Jm.mk)) (QfA hT n _ (by simp) h k) q0 hd q1
  .cases h
theorem Qpv{H:Qc}{p:Bx}{r:Lx}(h:ptX [] p=some r):ptX H p=some r:=by
 unfold ptX at h⊢
 grind[Y9]
theorem Qfm{o:Oper}{e:Env}{H:Qc}{x:A}(h:QdX T o e []=some x):QdX T o e H=some x:=by
 unfold QdX at h⊢;split at h<;>first|exact h|skip
 split at h
 .cases h
 grind[Qpv]
def Qfz(T:TyX)(N:Nat)(cat:List Nat)(l:List Oper)(ds:List Nat)(env:Env)(H1:Qc):Nat->Nat->List Oper->List A->Option (List Oper×List A)
 |0,_,r,xs=>some (r,xs)
 |_+1,_,[],_=>none
 |n+1,i,o::r,xs=>match o.dst with
  |none=>none
  |some d=>match Nat.blt d N with
   |false=>none
   |true=>match Jc ⟨l⟩ o (Ys (Qi o) 0 ds xs env)with
    |none=>none
    |some false=>match Y9 cat i with
     |some 2=>(match Qc4 xs (.tup [])with
      |.mk xs'=>Qfz T N cat l ds env H1 n (i+1) r xs')
     |some 3=>(match Qc4 xs (.tup [])with
      |.mk xs'=>Qfz T N cat l ds env H1 n (i+1) r xs')
     |_=>none
    |some true=>match Y9 cat i with
     |some 2=>(match QdX T o (Ys (Qi o) 0 ds xs env) H1 with
      |none=>none
      |some x=>match Qc4 xs x with
       |.mk xs'=>Qfz T N cat l ds env H1 n (i+1) r xs')
     |some 3=>(match QdX T o (Ys (Qi o) 0 ds xs env) []with
      |none=>none
      |some x=>match Qc4 xs x with
       |.mk xs'=>Qfz T N cat l ds env H1 n (i+1) r xs')
     |_=>none
theorem Qb0(hT:Qa2 P T):∀(n i:Nat) {r r':List Oper} {xs xs':List A},i=xs.length->Qfz T N cat l ds env H1 n i r xs=some (r',xs')->DB P N m cat l ds env H H1 K r' xs'->DB P N m cat l ds env H H1 K r xs
 |0,i,r,r',xs,xs',_,h,k=>by cases h;exact k
 |n+1,i,[],r',xs,xs',_,h,k=>by cases h
 |n+1,i,o::r,r',xs,xs',hi,h,k=>by
  subst hi;unfold Qfz at h;split at h
  .cases h
  .rename_i d hd;split at h
   .cases h
   .rename_i q2;split at h
    .cases h
    .rename_i hw;split at h
     .rename_i q0;simp[JB]at h;exact .wo1 (WO.skip (QW hw) hd q2 (WO.nil Jm.mk)) (Qb0 hT n _ (by simp) h k) q0 hd
     .rename_i q0;simp[JB]at h;exact .wo2 (WO.skip (QW hw) hd q2 (WO.nil Jm.mk)) (WO.skip (QW hw) hd q2 (WO.nil Jm.mk)) (Qb0 hT n _ (by simp) h k) q0 hd
     .cases h
    .rename_i hw;split at h
     .rename_i q0;split at h
      .cases h
      .rename_i x hv;simp[JB]at h;exact .wo1 (QP (QW hw) hd q2 (Qar hT hv) (WO.nil Jm.mk)) (Qb0 hT n _ (by simp) h k) q0 hd
     .rename_i q0;split at h
      .cases h
      .rename_i x hv;simp[JB]at h;exact .wo2 (QP (QW hw) hd q2 (Qar hT (Qfm hv)) (WO.nil Jm.mk)) (QP (QW hw) hd q2 (Qar hT (Qfm hv)) (WO.nil Jm.mk)) (Qb0 hT n _ (by simp) h k) q0 hd
     .cases h
end
def chkF(L:List (Nat×List (Nat×Nat)))(fs:List (Nat×Nat×Nat)):Bool:=
 fs.all λe=>match QcD L e.1 with
  |some pl=>(match Y9 pl e.2.1 with
   |some q=>Nat.beq q.1 e.2.2&& !(Nat.beq q.2 0)
   |none=>false)
  |none=>false
theorem PL.get{P:Program}{fs:List Field}{a:List (Nat×Nat)}(h:PL P fs a):∀{f off n:Nat},Y9 a f=some (off,n)->∃fd,fs[f]?=some fd/\fd.offset=off/\ ∀w,(sizeOf fd.type).run P w=.ok n w:=by
 induction h with
 |nil=>intro f off n h;cases h
 |cons h k e=>
  intro f off n d;cases f with
  |zero=>cases d;grind
  |succ f=>grind[Y9]
theorem QqM{P:Program}{L:List (Nat×List (Nat×Nat))}{fs:List (Nat×Nat×Nat)}(j:∀e∈L,Qek P e.1 e.2)(h:chkF L fs=true):∀e∈fs,∃n,QN P e.1 e.2.1 e.2.2 n:=by
 intro e k;have:=Xs.1 h e k;split at this
 .rename_i u a;split at this
  .rename_i q d;obtain⟨p,n⟩:=q;simp only[XU]at this;have i:=XO this.1;obtain⟨f,g,s⟩:=j _ (Qas a);obtain⟨l,t,r,m⟩:=PL.get s d;refine⟨n,⟨⟨_,l,g,by grind,r.trans i,m,?_⟩⟩⟩
   grind[Nat.beq_refl]
  .cases this
 .cases this
section
variable {P:Program} {Z:TyZ} {h0 N:Nat} {all:Array Oper} {o:Oper} {l:List Oper} {env:Env} {H:Qc} {Q:QV} {d:Nat}
theorem Cdz(n:QcN P Z){β γ:Type}{F:Option β}{F':β->Option γ}{r:γ}{f:Nat}{args a:List A}{Hc:Qc}{w:β->A}{Hr:β->Qc}(π:List Nat)(h:F.bind F'=some r)(s:∀v,F=some v->C P f a Hc (RQ w Hr v))
  (e:QgO Z o env=some (d,f,args))(g:∀v,F=some v->F' v=some r->WO P h0 N all l (up env d (Je (rho π H.length) (w v))) (YH H π ((Hr v).map (Yp (rho π H.length)))) Q)
  (hargs:args=Qah (rho π H.length) a)(hH:π.map (λp=>H[p]?)=(Hc.map (Yp (rho π H.length))).map some)(hπ:π.Nodup)(hg:Jc all o env=some true)(m:Nat.blt d N=true)(j:Nat.ble h0 H.length=true):WO P h0 N all (o::l) env H Q:=by
 obtain⟨v,k,t⟩:=YU h;obtain⟨i,q⟩:=Qfd n e;refine Q2 π q (s v k) ?_ hargs hH hπ (QW hg) i m j
 grind
end
inductive FLL where
 |mk (l:List (List A))
def cpLL(sel:List Nat):List (List A)->FLL
 |[]=>.mk []
 |a::r=>match cpL sel a,cpLL sel r with
  |.mk a',.mk r'=>.mk (a'::r')
inductive FBk where
 |mk (b:Blk)
def cpBk(sel:List Nat):Blk->FBk
 |.cells t cs=>match cpL sel cs with
  |.mk l=>.mk (.cells t l)
 |.rowr t k es=>match cpLL sel es with
  |.mk l=>.mk (.rowr t k l)
 |.ents t a b es=>match Qmw sel ixL a,Qmw sel ixL b with
  |.mk a',.mk b'=>.mk (.ents t a' b' es)
 |b=>.mk b
def selD(H:Qc)(sel:List Nat):List Nat->FB
 |[]=>.mk []
 |a::r=>match Y9 H a with
  |some b=>(match cpBk sel b,selD H sel r with
   |.mk b',.mk l=>.mk (b'::l))
  |none=>.mk []
def retC(sel sl:List Nat)(env:Env)(H:Qc):Option (Env×Qc):=
 match Qn3 sel env sl [],selD H sel sel with
 |.mk e,.mk h=>some (e,h)
theorem Rx{P:Program}{h0:Nat}{fn:Func}{env E':Env}{H H':Qc}{Qr:A->Qc->Prop}{e:A}(π sl:List Nat)(_:retC π sl env H=some (E',H'))(a:QdL P fn E' H' e)(f:Qr e H')(d:π.take h0=List.range h0:=by exact rfl)
  (hH:π.map (λp=>H[p]?)=(H'.map (Yp (rho π H.length))).map some:=by exact rfl)(hπ:π.Nodup:=by decide)(hE:QeO (rho π H.length) env E':=by(repeat' (first|exact trivial|refine⟨rfl,?_⟩))):QbL P h0 fn Qr .ret env H:=
 ⟨E',H',e,Lr π d hH hπ hE,a,f⟩
def nxL{T:Type}:List T->T->List T->Prop:=λl x rem=>l=x::rem
def QeR{S T B:Type}(step:S->T->Option (Ctl S B)):List T->S->Option (Ctl S B)
 |[],s=>some (.cont s)
 |x::l,s=>(step s x).bind λd=>match d with
  |.cont s'=>QeR step l s'
  |.done b=>some (.done b)
def QcI{S T B:Type}(step:S->Option (List T×Ctl S B)):Nat->S->Option (List T×B)
 |0,_=>none
 |n+1,s=>(step s).bind λp=>match p.2 with
  |.cont s'=>(QcI step n s').bind λq=>some (p.1++q.1,q.2)
  |.done b=>some (p.1,b)
def Qo0{S B:Type}(h1:Nat)(env:Env)(Q:QV)(d:Ctl S B)(Hp:S->Qc):QV
 |.normal,env',H'=>∃s,d=.cont s/\Le h1 env' H' [] (Hp s)
 |.exit id,env',H'=>(∃b,d=.done b)/\ ∃H2,Le h1 env' H' [] H2/\Q (.exit id) env H2
 |.ret,env',H'=>(∃b,d=.done b)/\ ∃H2,Le h1 env' H' [] H2/\Q .ret env H2
theorem QhU{S B:Type}{h1:Nat}{env env':Env}{H':Qc}{Q:QV}{s:S}{d:Ctl S B}{Hp:S->Qc}(e:some (Ctl.cont s)=some d)(h:Le h1 env' H' [] (Hp s)):Qo0 h1 env Q d Hp .normal env' H':=⟨s,(Oi e).symm,h⟩
theorem Qeg{P:Program}{h0 N:Nat}{n:Operand}{ps:List Nat}{assign body:Code}{env:Env}{H:Qc}{Q:QV}{f:FuncId}{g a:List A}{Hc:Qc}{T S B:Type}{enc:T->List A}{xs:List T}{step:S->T->Option (Ctl S B)}{t:S}{D:Ctl S B}
  (π:List Nat)(Hp:S->Qc)(h:QeR step xs t=some D)(r:Qj8 P f a Hc enc nxL xs)(m:∀x,(enc x).length=ps.length)(L:∀args w,(callFunc f args).run P w=.ok (.enter f args) w)
  (V:Nat.ble h0 H.length=true)(hg:opA env n=.fn (.func f) [] g)(hargs:g=Qah (rho π H.length) a)(hH:π.map (λp=>H[p]?)=(Hc.map (Yp (rho π H.length))).map some)(hπ:π.Nodup)(y:(ps.all λp=>Nat.blt p N)=true)
  (k:Le H.length env (Qey H π) env (Hp t))
  (i:∀s x d,step s x=some d->(∀b,d=.done b->D=.done b)->TC P H.length N assign (Qnz ps (enc x) env) (Hp s) λe env1 H1=>e=.normal/\TC P H.length N body env1 H1 (Qo0 H.length env Q d Hp))
  (j:∀s,D=.cont s->Q .normal env (Hp s)):TC P h0 N (.rangeFunc n ps.toArray assign body) env H Q:=by
 refine TC.rangeFunc π Hp (λs l=>QeR step l s=some D) t (by simp_all) hg hargs hH hπ y L r m k h ?_ ?_
 .rintro s l x rem z rfl;obtain⟨d,M,z⟩:=YU z;refine(i s x d M ?_).mono ?_
  .grind
  .rintro e env1 H1 ⟨R,O⟩;refine⟨R,O.mono ?_⟩;intro J F H2 q;cases J with
   |normal=>
    obtain⟨E,rfl,k⟩:=q;exact⟨Hp E,k,E,z,rfl⟩
   |exit id=>
    obtain⟨_,H3,u,q⟩:=q;exact⟨H3,u,q⟩
   |ret=>
    obtain⟨_,H3,u,q⟩:=q;exact⟨H3,u,q⟩
 .intro s G;exact j s (Oi G).symm
section
variable {T:Type} {X:Ctx T} {P:Program} {h0 N:Nat} {c:Code} {env:Env} {H:Qc} {st:YSt T} {Q:YV T}
def QgC{S B:Type}(h0:Nat)(E:S->Env)(Hp:S->Qc)(d:Ctl S B)(rest:List T)(Q:YV T):YV T
 |.normal,env,H,st=>∃s,d=.cont s/\Le h0 env H (E s) (Hp s)/\st=.on rest
 |.exit id,env,H,st=>Q (.exit id) env H st
 |.ret,env,H,st=>Q .ret env H st
theorem Qm7{S B:Type}{step:S->Option (List T×Ctl S B)}{E:S->Env}{Hp:S->Qc}{m:Nat}{i:S}{k rem:List T}{b:B}(h:QcI step m i=some (k,b))(F:Le h0 env H (E i) (Hp i))
  (body:∀s zs d rest,step s=some (zs,d)->(∀b',d=.done b'->b'=b/\rest=rem)->TCy X P h0 N c (E s) (Hp s) (.on (zs++rest)) (QgC h0 E Hp d rest Q)):TCy X P h0 N (.loop c) env H (.on (k++rem)) Q:=by
 refine QhC (I:=λn env H t=>∃s a,QcI step n s=some (a,b)/\t=.on (a++rem)/\Le h0 env H (E s) (Hp s)) ?_ ⟨i,k,h,rfl,F⟩;rintro n env H t ⟨s,a,f,rfl,j⟩;cases n with
 |zero=>cases f
 |succ n=>
  obtain⟨⟨zs,d⟩,r,f⟩:=YU f;refine Qc7 j ?_;cases d with
  |cont w=>
   obtain⟨⟨y,G⟩,u,f⟩:=YU f;cases f;rw[Vf];refine(body s zs (.cont w) (y++rem) r (λb' e=>by cases e)).mono ?_;rintro x g H' l q;cases x with
   |normal=>
    obtain⟨z,e,p,rfl⟩:=q;cases e;exact⟨n,Xn n,_,_,u,rfl,p⟩
   |exit id=>exact q
   |ret=>exact q
  |done b'=>
   cases f;refine(body s _ (.done b) rem r (λb' e=>by cases e;exact⟨rfl,rfl⟩)).mono ?_;rintro x g H' l q;cases x with
   |normal=>obtain⟨z,e,_⟩:=q;cases e
   |exit id=>exact q
   |ret=>exact q
def kqY(X:Ctx T)(P:Program)(h0 N:Nat):List Kf->YV T->YV T
 |[],Q=>Q
 |.seq c::k,Q=>SeqY X P h0 N c (kqY X P h0 N k Q)
 |.blo id::k,Q=>BloY id (kqY X P h0 N k Q)
 |.unr c::k,Q=>λ_ _ _ _=>False
@[reducible] def HdY(X:Ctx T)(P:Program)(h0 N:Nat):Cf->List Kf->Env->Qc->YSt T->YV T->Prop
 |.code c,k,env,H,st,Q=>TCy X P h0 N c env H st (kqY X P h0 N k Q)
 |.ops all l,k,env,H,st,Q=>WOy X P h0 N all l env H st (kqY X P h0 N k Q)
 |.out x,k,env,H,st,Q=>kqY X P h0 N k Q x env H st
def Qqc:Cf->List Kf->Bool
 |.code (.loop _),_=>false
 |.out _,.unr _::_=>false
 |_,_=>true
theorem QnB{Tx:TyX}(i:Qa2 P Tx){c f:Cf}{k d:List Kf}{env env':Env}{H H':Qc}(h:QgV Tx h0 N c k env H=some (f,d,env',H'))(a:Qqc c k=true)(g:HdY X P h0 N f d env' H' st Q):HdY X P h0 N c k env H st Q:=by
 unfold QgV at h;split at h
 .cases h;exact TCy.seq g
 .cases h;exact TCy.block g
 .cases a
 .cases h;exact TCy.skip g
 .cases h;exact TCy.ret g
 .cases h;exact TCy.exit g
 .cases h;exact TCy.region g
 .grind[TCy.cond,QS]
 .cases h;exact WOy.nil g
 .split at h
  .rename_i q;cases h;exact WOy.step (Qkr i q (WO.nil ⟨rfl,g⟩))
  .cases h
 .cases h;exact g
 .cases h;exact g
 .cases h;exact g
 .cases h;exact g
 .split at h
  .rename_i q;have e:=XO q;show(bif Nat.beq _ _ then _ else _)
   grind
  .show(bif Nat.beq _ _ then _ else _)
   grind
 .cases h;exact g
 .cases a
 .cases a
 .cases a
 .cases h
def Qkz(Tx:TyX)(h0 N:Nat):Nat->Cf->List Kf->Env->Qc->Option (Cf×List Kf×Env×Qc)
 |0,c,k,env,H=>some (c,k,env,H)
 |n+1,c,k,env,H=>match Qqc c k with
  |true=>(match QgV Tx h0 N c k env H with
   |some (c',k',env',H')=>Qkz Tx h0 N n c' k' env' H'
   |none=>none)
  |false=>none
theorem Qdg{Tx:TyX}(hT:Qa2 P Tx):∀(n:Nat) {c c':Cf} {k k':List Kf} {env env':Env} {H H':Qc},Qkz Tx h0 N n c k env H=some (c',k',env',H')->HdY X P h0 N c' k' env' H' st Q->HdY X P h0 N c k env H st Q
 |0,c,c',k,k',env,env',H,H',h,g=>by cases h;exact g
 |n+1,c,c',k,k',env,env',H,H',h,g=>by
  unfold Qkz at h;split at h
  .rename_i hn;split at h
   .rename_i e;exact QnB hT e hn (Qdg hT n h g)
   .cases h
  .cases h
theorem TCy.lf{k:List Kf}(h:TC P h0 N c env H (λx env H=>kqY X P h0 N k Q x env H st)):TCy X P h0 N c env H st (kqY X P h0 N k Q):=TCy.lift h
theorem QoS{all:Array Oper}{o:Oper}{r:List Oper}{d:Nat}{x:T}{l:List T}{e:T->A}{y z:Operand}{a:Array TypeId}(hE:X.enc=λx=>[e x])(j:X.nx=nxL)(h:o.op=.call {callee:=.value y,args:= #[z],argTypes:=a})(i:opA env y=.fn (.yield X.l) [] [])(f:opA env z=e x)(g:YK (e x)=true)
  (m:WOy X P h0 N all r (up env d (.bool true)) H (.on l) Q)(k:WOy X P h0 N all r (up env d (.bool false)) H (.off l) Q)(hg:QB all o env true:=by exact rfl)(hd:o.dst=some d:=by exact rfl)(hNd:Nat.blt d N=true:=by exact rfl):WOy X P h0 N all (o::r) env H (.on (x::l)) Q:=by
 refine WOy.yield (by rw[j];rfl) hg hd hNd ?_ ?_
 .rw[hE];exact QiN h i f g
 grind
theorem WOy.y2{all:Array Oper}{o:Oper}{r:List Oper}{d:Nat}{x:T}{l:List T}{g a:T->A}{y k j:Operand}{m:Array TypeId}(hE:X.enc=λx=>[g x,a x])(q:X.nx=nxL)(n:o.op=.call {callee:=.value y,args:= #[k,j],argTypes:=m})(p:opA env y=.fn (.yield X.l) [] [])(e:opA env k=g x)(i:opA env j=a x)(f:YK (g x)=true)(h:YK (a x)=true)
  (t:WOy X P h0 N all r (up env d (.bool true)) H (.on l) Q)(s:WOy X P h0 N all r (up env d (.bool false)) H (.off l) Q)(hg:QB all o env true:=by exact rfl)(hd:o.dst=some d:=by exact rfl)(hNd:Nat.blt d N=true:=by exact rfl):WOy X P h0 N all (o::r) env H (.on (x::l)) Q:=by
 refine WOy.yield (by rw[q];rfl) hg hd hNd ?_ ?_
 .rw[hE];exact Qmn n p e i f h
 grind
end
def yl{T R:Type}(x:T)(k:Option (List T×R)):Option (List T×R):=k.bind λp=>some (x::p.1,p.2)
def ap{T B R:Type}(a:Option (List T×B))(k:B->Option (List T×R)):Option (List T×R):=a.bind λp=>(k p.2).bind λq=>some (p.1++q.1,q.2)
theorem Qp7{T R:Type}{x:T}{k:Option (List T×R)}{a:List T}{v:R}(h:yl x k=some (a,v)):∃zs,k=some (zs,v)/\a=x::zs:=by
 obtain⟨⟨zs,d⟩,f,e⟩:=YU h
 grind
theorem ap_ok{T B R:Type}{a:Option (List T×B)}{k:B->Option (List T×R)}{d:List T}{v:R}(h:ap a k=some (d,v)):∃y1 b y2,a=some (y1,b)/\k b=some (y2,v)/\d=y1++y2:=by
 obtain⟨⟨y1,b⟩,g,e⟩:=YU h;obtain⟨⟨y2,j⟩,i,f⟩:=YU e
 grind
section
variable {T:Type} {X:Ctx T} {P:Program} {h0 N:Nat} {c c':Code} {env:Env} {H:Qc} {st:YSt T} {Q:YV T}
def Qpl{β:Type}(h0:Nat)(b:β)(E':β->Env)(H':β->Qc)(rem:List T)(Q:YV T):YV T
 |.normal,env,H,st=>Le h0 env H (E' b) (H' b)/\st=.on rem
 |.exit id,env,H,st=>Q (.exit id) env H st
 |.ret,env,H,st=>Q .ret env H st
theorem QoV{β:Type}{E':β->Env}{H':β->Qc}(b:β)(rem:List T)(sel keep:List Nat)(nE:β->Env)(nH:β->List (Nat×Blk))(_:∀b,QoH sel keep (nE b) (nH b) env H=some (E' b,H' b))(h:TCy X P h0 N c env H st (Qpl h0 b E' H' rem Q))(k:∀env H,Le h0 env H (E' b) (H' b)->Q .normal env H (.on rem)):TCy X P h0 N c env H st Q:=
 h.mono λx env' H' st' q=>by
  cases x with
  |normal=>obtain⟨q1,rfl⟩:=q;grind
  |exit id=>exact q
  |ret=>exact q
theorem cutYN{β:Type}{b:β}{E':β->Env}{H':β->Qc}{rem:List T}(h:Le h0 env H (E' b) (H' b)):Qpl h0 b E' H' rem Q .normal env H (.on rem):=⟨h,rfl⟩
theorem cutYR{β:Type}{b:β}{E':β->Env}{H':β->Qc}{rem:List T}(h:Q .ret env H st):Qpl h0 b E' H' rem Q .ret env H st:=h
theorem Qq2{S B:Type}{step:S->Option (List T×Ctl S B)}{E':S->Env}{H':S->Qc}{m:Nat}{s0:S}{ys rem:List T}{b:B}(sel keep:List Nat)(nE:S->Env)(nH:S->List (Nat×Blk))(h:QcI step m s0=some (ys,b))(_:∀s,QoH sel keep (nE s) (nH s) env H=some (E' s,H' s))(hI:Le h0 env H (E' s0) (H' s0))
  (body:∀s zs d rest,step s=some (zs,d)->(∀b',d=.done b'->b'=b/\rest=rem)->TCy X P h0 N c (E' s) (H' s) (.on (zs++rest)) (QgC h0 E' H' d rest Q)):TCy X P h0 N (.loop c) env H (.on (ys++rem)) Q:=Qm7 h hI body
theorem Qh3{S B:Type}{E':S->Env}{H':S->Qc}{s:S}{d:Ctl S B}{zs rest:List T}(e:some ([],Ctl.cont s)=some (zs,d))(h:Le h0 env H (E' s) (H' s)):QgC h0 E' H' d rest Q .normal env H (.on (zs++rest)):=by
 cases e;exact⟨s,rfl,h,rfl⟩
theorem QqE{S B:Type}{id:Nat}{E':S->Env}{H':S->Qc}{d:Ctl S B}{rest:List T}(h:Q (.exit id) env H st):QgC h0 E' H' d rest Q (.exit id) env H st:=h
theorem QqF{S B:Type}{E':S->Env}{H':S->Qc}{d:Ctl S B}{rest:List T}(h:Q .ret env H st):QgC h0 E' H' d rest Q .ret env H st:=h
theorem Oy{S B:Type}{d:Ctl S B}{x b:B}{zs rest rem:List T}(a:∀b',d=.done b'->b'=b/\rest=rem)(h:some ([],Ctl.done x)=some (zs,d)):zs=[]/\b=x/\rest=rem:=by
 grind
theorem Cny{α:Type}{x:Operand}{t:Bool}{p q:Option α}{r:α}(hx:opB env x=.mk (.bool t))(h:(bif t then p else q)=some r)(ht:t=true->p=some r->TCy X P h0 N c env H st Q)(hf:t=false->q=some r->TCy X P h0 N c' env H st Q):TCy X P h0 N (.cond x c c') env H st Q:=
 TCy.cond (QS hx) (by grind) (by grind)
theorem Qj7{f:FuncId}{fn:Func}{c:Code}{N:Nat}{a:List A}{H:Qc}{enc:T->List A}{xs:List T}(d:P.funcs[f]?=some fn)(g:fn.body=some c)(i:fn.ntmps=N)(j:Nat.ble (a.length+1) N=true)(e:fn.results= #[])
  (h:∀X,X.enc=enc->X.nx=nxL->TCy X P H.length N c (QeG 0 (.fn (.yield X.l) [] []::a)) H (.on (xs++[])) EndY):Qj8 P f a H enc nxL xs:=by
 grind[QdK]
end
open Go.MapKept
section
variable {fr ro:Nat->Prop} {σ:Sig} {H:Qc} {w:World}
end
end Go.Sw
namespace Go.Sw
open Go.MapKept
def QbT{α β:Type}(ek:α->A)(ev:β->List A)(l:List (α×Option (List β))):List (A×Option (List (List A))):=l.map λp=>(ek p.1,p.2.map (List.map ev))
def QlH{α β:Type}[DecidableEq α](l:List (α×Option (List β)))(x:α):List (α×Option (List β)):=l.map λp=>bif decide (p.1=x)then(p.1,none)else p
section
variable {P:Program} {kt:TypeId} {α β:Type} [DecidableEq α] {ek:α->A} {ev:β->List A} {ro:Nat->Prop} {w:World} {t k:Nat} (K:JF P kt ek)
include K
theorem Qme{x:α}:∀{l:List (α×Option (List β))} {es:List MapEntry},MO ro w t k (QbT ek ev l) es->MO ro w t k (QbT ek ev (QlH l x)) es
 |[],es,h=>h
 |p::l,es,h=>by
  obtain⟨e,l',rfl,h1,h2,h3⟩:=h;by_cases q:p.1=x
  .refine⟨e,l',rfl,by grind,λrows hr=>?_,Qme h3⟩
   grind
  .refine⟨e,l',rfl,by grind,(by grind),Qme h3⟩
omit K
theorem Qem{x:α}{c:Nat}:∀{l:List (α×Option (List β))} {es:List MapEntry},QeZ (QbT ek ev (QlH l x)) es c->QeZ (QbT ek ev l) es c
 |[],es,h=>by cases es<;>exact h.elim
 |p::l,[],h=>h.elim
 |p::l,e::es,h=>by
  rcases h with⟨h1,h2⟩|h
  .by_cases q:p.1=x
   .grind
   .exact .inl ⟨by grind,h2⟩
  .exact .inr (Qem h)
theorem Qnp{x:α}:∀{l:List (α×Option (List β))} {es:List MapEntry},Qlt (QbT ek ev l) es->Qlt (QbT ek ev (QlH l x)) es
 |[],es,h=>by cases es<;>trivial
 |p::l,[],h=>trivial
 |p::l,e::es,h=>by
  obtain⟨h1,h2⟩:=h;refine⟨λc q1 q2 q3=>?_,Qnp h2⟩;by_cases q:p.1=x
  .grind
  .exact h1 c (by grind) q2 (Qem q3)
include K
theorem MO.find:∀{l:List (α×Option (List β))} {es:List MapEntry},MO ro w t k (QbT ek ev l) es->∀(x:α),(es.map (·.key)).Nodup->
  ((∀e:MapEntry,e∈es->e.key≠Q0 (ek x))->YQ l x=none)/\
  (∀(j:Nat) (e:MapEntry),es[j]?=some e->e.key=Q0 (ek x)->∃q,YQ l x=some q/\(∀rows,q=some rows->SO ro w t k (rows.map ev) e.val)/\
   ∀c p n cap,q.isSome=true->e.val=.slice (some ⟨c,p,none⟩) n cap->QeZ (QbT ek ev l) es c/\(Qlt (QbT ek ev l) es->¬QeZ (QbT ek ev (QlH l x)) es c))
 |[],es,h,x,_=>by
  cases(show es=[]from h);exact⟨λ_=>rfl,(by simp)⟩
 |p::l,es,h,x,hn=>by
  obtain⟨e0,l',rfl,h1,h2,h3⟩:=h;have hk:=VR.val (K.scl _) h1;simp only[Vg,List.nodup_cons]at hn;obtain⟨a1,a2⟩:=MO.find (l:=l) h3 x hn.2;by_cases hp:p.1=x
  .subst hp;constructor
   .grind
   .intro j e he hx;cases j with
    |zero=>
     simp only[XD,Option.some.injEq]at he;subst he;refine⟨p.2,by simp[YQ],(by grind),λc p' n cap hs hv=>⟨.inl (by grind),λhd hq=>?_⟩⟩;rcases hq with⟨q1,_⟩|hq
     .simp at q1
     .exact hd.1 c (by grind) ⟨p',n,cap,hv⟩ (Qem (l:=l) hq)
    |succ j=>
     grind
  .have e1:YQ (p::l) x=YQ l x:=by simp[YQ,hp]
   rw[e1];constructor
   .grind
   .intro j e he hx;cases j with
    |zero=>
     simp only[XD,Option.some.injEq]at he;subst he;exact absurd (K.inj _ _ (hk.symm.trans hx)) hp
    |succ j=>
     obtain⟨q,d,m,g⟩:=a2 j e (by grind) hx;refine⟨q,d,m,λc p' n cap hs hv=>?_⟩;obtain⟨a,i⟩:=g c p' n cap hs hv;refine⟨.inr a,λhd hq=>?_⟩;rcases hq with⟨q1,f⟩|hq
     .exact hd.1 c (by grind) f a
     .exact i hd.2 hq
end
section
variable {P:Program} {o:Oper} {env:Env} {H:Qc}
variable {T kt et:Nat} {α β:Type} [DecidableEq α] {ek:α->A} {ev:β->List A} {x y:Operand} {i t k:Nat} {l:List (α×Option (List β))} {key:α} {rows:List β}
end
end Go.Sw
namespace Go.Sw
open Go.MapKept
theorem MO.append{ro:Nat->Prop}{w:World}{t k:Nat}:∀{l m:List (A×Option (List (List A)))} {es fs:List MapEntry},MO ro w t k l es->MO ro w t k m fs->MO ro w t k (l++m) (es++fs)
 |[],m,es,fs,h,q=>by cases(show es=[]from h);exact q
 |p::l,m,es,fs,h,q=>by
  obtain⟨e,l',rfl,h1,h2,h3⟩:=h;exact⟨e,l'++fs,rfl,h1,h2,MO.append h3 q⟩
theorem MO.length{ro:Nat->Prop}{w:World}{t k:Nat}:∀{l:List (A×Option (List (List A)))} {es:List MapEntry},MO ro w t k l es->es.length=l.length
 |[],es,h=>by cases(show es=[]from h);rfl
 |p::l,es,h=>by
  obtain⟨e,l',rfl,h1,h2,h3⟩:=h;simp[MO.length h3]
def SlB(v:Value)(c:Nat):Prop:=∃p n cap,v=.slice (some ⟨c,p,none⟩) n cap
section
variable {P:Program} {kt:TypeId} {α β:Type} [DecidableEq α] {ek:α->A} {ev:β->List A} {ro:Nat->Prop} {w:World} {t k:Nat} (K:JF P kt ek)
def Qd2{α β:Type}[DecidableEq α](l:List (α×Option (List β)))(x:α)(rows:List β):List (α×Option (List β)):=l.map λp=>bif decide (p.1=x)then(p.1,some rows)else p
include K
theorem Qg9{x:α}{rows:List β}:∀{l:List (α×Option (List β))} {es:List MapEntry},MO ro w t k (QbT ek ev l) es->(∀e∈es,e.key≠Q0 (ek x))->Qd2 l x rows=l
 |[],es,h,q=>rfl
 |p::l,es,h,q=>by
  obtain⟨e,l',rfl,h1,h2,h3⟩:=h;have hk:=VR.val (K.scl _) h1;have hp:p.1≠x:=(by grind);have:=Qg9 h3 (λe he=>q e (by simp[he])) (rows:=rows)
  simp_all[Qd2]
theorem MO.put{x:α}{rows:List β}{v:Value}(i:SO ro w t k (rows.map ev) v):∀{l:List (α×Option (List β))} {es:List MapEntry} {j:Nat} {e:MapEntry},MO ro w t k (QbT ek ev l) es->
  (es.map (·.key)).Nodup->es[j]?=some e->e.key=Q0 (ek x)->
  MO ro w t k (QbT ek ev (Qd2 l x rows)) (es.modify j λe=>{e with key:=Q0 (ek x),val:=v})/\
  (∀c,QeZ (QbT ek ev (Qd2 l x rows)) (es.modify j λe=>{e with key:=Q0 (ek x),val:=v}) c->QeZ (QbT ek ev l) es c\/SlB v c)/\
  (Qlt (QbT ek ev l) es->(∀c,QeZ (QbT ek ev l) es c->¬SlB v c)->Qlt (QbT ek ev (Qd2 l x rows)) (es.modify j λe=>{e with key:=Q0 (ek x),val:=v}))
 |[],es,j,e,h,hn,he,hk=>by cases(show es=[]from h);simp at he
 |p::l,es,j,e,h,hn,he,hk=>by
  obtain⟨e0,l',rfl,h1,h2,h3⟩:=h;have hk0:=VR.val (K.scl _) h1;simp only[Vg,List.nodup_cons]at hn;cases j with
  |zero=>
   simp[XD,Option.some.injEq]at he;subst he;have hp:=K.inj _ _ (hk0.symm.trans hk);have e0':Qd2 l x rows=l:=Qg9 K h3 λe he z=>hn.1 (by rw[hk, <- z];exact VD he);have e1:Qd2 (p::l) x rows=(p.1,some rows)::l:=by
    have:Qd2 (p::l) x rows=(p.1,some rows)::Qd2 l x rows:=by simp[Qd2,hp]
    rw[this,e0']
   rw[e1];refine⟨⟨_,l',rfl,?_,?_,h3⟩,?_,?_⟩
   .rw[<- hp];exact Qcc (K.scl _)
   .intro d B;cases B;exact i
   .rintro c (⟨_,q⟩|q)
    .exact .inr q
    .exact .inl (.inr q)
   .rintro⟨r,f⟩ a;exact⟨λc _ q z=>a c (.inr z) q,f⟩
  |succ j=>
   have hp:p.1≠x:=by
    intro q;refine hn.1 (Xf.2 ⟨e,VE he,?_⟩);rw[hk,hk0,q]
   obtain⟨s,n,y⟩:=MO.put i h3 hn.2 he hk;have e1:Qd2 (p::l) x rows=p::Qd2 l x rows:=by simp[Qd2,hp]
   rw[e1];refine⟨⟨_,_,rfl,h1,h2,s⟩,?_,?_⟩
   .rintro c (q|q)
    .exact .inl (.inl q)
    .exact(n c q).imp .inr id
   .rintro⟨r,f⟩ a;refine⟨λc g m z=>?_,y f λc u=>a c (.inr u)⟩;rcases n c z with z|z
    .exact r c g m z
    .exact a c (.inl ⟨g,m⟩) z
end
section
variable {P:Program} {o:Oper} {env:Env} {H:Qc}
variable {T kt et:Nat} {α β:Type} [DecidableEq α] {ek:α->A} {ev:β->List A} {x y zz:Operand} {i j t k n:Nat} {l m:List (α×Option (List β))} {key:α} {rows:List β}
end
end Go.Sw
namespace Go.Sw
open Go.MapKept
section
variable {fr ro:Nat->Prop} {σ:Sig} {H:Qc} {w:World}
end
section
variable {P:Program} {o:Oper} {env:Env} {H:Qc} {T kt et i t k:Nat} {x:Operand} {es:List (A×Option (List (List A)))}
end
section
variable {P:Program} {o:Oper} {env:Env} {H:Qc}
variable {T kt et:Nat} {α β:Type} [DecidableEq α] {ek:α->A} {ev:β->List A} {x y zz:Operand} {i j t k n:Nat} {l m:List (α×Option (List β))} {key:α} {rows:List β}
end
end Go.Sw
namespace Go.Sw
open Go.MapKept
section
variable {P:Program} {o:Oper} {env:Env} {H:Qc}
variable {T kt et:Nat} {α β:Type} [DecidableEq α] {ek:α->A} {ev:β->List A} {x y zz:Operand} {i j t k n:Nat} {l m:List (α×Option (List β))} {key:α} {rows:List β}
end
end Go.Sw
namespace Go.Sw
theorem Qo9{h0 d:Nat}{x y:A}{e:Env}{H:Qc}:Le h0 ((d,x)::(d,y)::e) H ((d,x)::e) H:=Le.env λs=>.inr (by
 simp[lk]
 grind)
abbrev Kat:=List (Nat×Nat×Nat)
def Qny:Nat->Nat->List (Nat×Nat)
 |lo,0=>[(lo,lo)]
 |lo,n+1=>(lo,lo)::Qny (lo+1) n
def rgK(p:Nat×Nat×Nat):List (Nat×Nat):=bif Nat.beq p.1 1 then[(p.2.1,p.2.1+1)]else Qny p.2.1 (p.2.2-p.2.1)
def plK(cat:Kat):List (List (Nat×Nat)):=cat.map rgK
def rqK(bs:List Nat)(cat:Kat):List (List Nat):=cat.map λp=>bs.take p.2.1
def hsK(cat:Kat):List Bool:=cat.map λp=>Nat.beq p.1 1
def msK(bs:List Nat):List (List Nat):=(List.range (bs.length+1)).map bs.take
theorem QhP:∀(n lo:Nat),∀p∈Qny lo n,p.1=p.2
 |0,lo,p,h=>by cases h with|head=>rfl|tail _ h=>cases h
 |n+1,lo,p,h=>by
  rcases X4.1 h with rfl|h
  .rfl
  .exact QhP n _ p h
section
variable {P:Program} {T:TyX} {h0 N m:Nat} {bs:List Nat} {cat:Kat} {l:List Oper} {ds:List Nat} {env:Env} {H:Qc} {Hs:List Qc} {Q:QV} {K:List Oper->Env->Qc->Prop}
def DobK(P:Program)(N:Nat)(cat:Kat)(l:List Oper)(ds:List Nat)(env:Env)(n:Nat)(Hs:List Qc)(zs:List A)(j:Nat):Prop:=
 ∀p∈(plK cat).getD j [],JX P N l ds zs env n n j (Hs.getD p.1 []) (Hs.getD p.2 [])
def DK(P:Program)(N m:Nat)(bs:List Nat)(cat:Kat)(l:List Oper)(ds:List Nat)(env:Env)(n:Nat)(K:List Oper->Env->Qc->Prop)(Hs:List Qc)(X:Qc)(r:List Oper)(xs:List A):Prop:=
 r=l.drop xs.length->∃ys Zs Y,xs.length+ys.length=m/\Hs.length+Zs.length=bs.length/\((∀Z∈Zs,n<=Z.length)/\(Hs.reverse++X::Zs).getD bs.length []=Y)/\(∀j,xs.length<=j->j<m->DobK P N cat l ds env n (Hs.reverse++X::Zs) (xs++ys) j)/\K (l.drop m) (Qaq ds (xs++ys) env) Y
theorem Qq4{f:List A}{n:Nat}{Zs:List Qc}(d:cat.length=m)(h:∀j,0<=j->j<m->DobK P N cat l ds env n Zs f j):QiF P N l ds f env n (n+0) 0 ((plK cat).map λq=>q.map λp=>(Zs.getD p.1 [],Zs.getD p.2 [])):=by
 refine QiE _ 0 λi s a p k=>?_;rw[Xo]at a;cases e:(plK cat)[i]? with
 |none=>grind
 |some q=>
  rw[e]at a;cases a;obtain⟨g,r,rfl⟩:=Xf.1 k;have t:i<m:=by
   grind[plK]
  have:=h i (XS _) t g (by grind)
  grind
theorem Qpi{id:Nat}(m:Nat)(d:List Nat)(cat:Kat)(n:P.follows .mixedOrders=true)(p:QeH l m N (Qbq m 0 l) (hsK cat) (rqK d cat) (msK d) (plK cat)=true)(g:Nat.beq cat.length m=true)(f:Nat.ble h0 H.length=true)
  (h:DK P N m d cat l (Qbq m 0 l) env H.length (λr e H=>WO P h0 N l.toArray r e H Q) [] H l []):TC P h0 N (.region id l.toArray true) env H Q:=by
 obtain⟨q,Zs,Y,s,u,t,j,k⟩:=h rfl;have a:=XO g;have i:(msK d).length=d.length+1:=by simp[msK]
 refine QaM m 0 _ _ _ _ _ q (H::Zs) Y n p (by grind) (by simp_all) f ?_ (by simp) (by grind) (Qq4 a j) (by simp[plK,a]) k
 simp_all
variable {n:Nat} {X X1:Qc} {xs:List A} {o:Oper} {r:List Oper} {x:A} {d:Nat}
theorem DK.done(a:Nat.beq xs.length m=true)(d:Nat.beq Hs.length bs.length=true)(h:K r (Qaq ds xs env) X):DK P N m bs cat l ds env n K Hs X r xs:=by
 intro i;have e:=XO a;have f:=XO d;refine⟨[],[],X,by simpa using e,by omega,⟨(λZ hZ=>by cases hZ),?_⟩,λj g k=>by omega,?_⟩
 .grind
 grind
theorem DK.add(s:∀ys Zs,l[xs.length]?=some o->DobK P N cat l ds env n (Hs.reverse++X::Zs) (xs++x::ys) xs.length)(k:DK P N m bs cat l ds env n K Hs X r (xs++[x])):DK P N m bs cat l ds env n K Hs X (o::r) xs:=by
 intro g;obtain⟨q,i⟩:=Qbr g;obtain⟨ys,Zs,Y,e,h,f,d,a⟩:=k (by grind);simp[Vf,Ve]at e d a;refine⟨x::ys,Zs,Y,by grind,h,f,λj p t=>?_,a⟩
 grind
theorem Qfi{Zs:List Qc}{zs:List A}{j:Nat}{c:Nat×Nat×Nat}(a:Y9 cat j=some c)(h:∀p∈rgK c,JX P N l ds zs env n n j (Zs.getD p.1 []) (Zs.getD p.2 [])):DobK P N cat l ds env n Zs zs j:=by
 intro p d
 grind[Qaw,plK]
theorem QpB{Zs:List Qc}{c:Nat}(a:Nat.beq c Hs.length=true):(Hs.reverse++X::Zs).getD c []=X:=by
 simp_all
theorem DK.wo{c:Nat}(h:WO P X.length N l.toArray [o] (Ys (Qi o) 0 ds xs env) X (Jm (up (Ys (Qi o) 0 ds xs env) d x) X))(k:DK P N m bs cat l ds env n K Hs X r (xs++[x]))
  (e:Y9 cat xs.length=some (0,c,c):=by exact rfl)(hd:o.dst=some d:=by exact rfl)(hcH:Nat.beq c Hs.length=true:=by exact rfl):DK P N m bs cat l ds env n K Hs X (o::r) xs:=
 .add (λys Zs ho=>Qfi e λp a=>by
  have:=by
   change p∈Qny c (c-c)at a;rw[Nat.sub_self]at a;exact Vy.1 a
  grind[QpB,Qav,JA]) k
theorem DK.wa{lo hi:Nat}(h:∀X,WO P X.length N l.toArray [o] (Ys (Qi o) 0 ds xs env) X (Jm (up (Ys (Qi o) 0 ds xs env) d x) X))(k:DK P N m bs cat l ds env n K Hs X r (xs++[x]))
  (a:Y9 cat xs.length=some (0,lo,hi):=by exact rfl)(hd:o.dst=some d:=by exact rfl):DK P N m bs cat l ds env n K Hs X (o::r) xs:=
 .add (λys Zs ho=>Qfi a λp f=>by
  have e:=QhP _ _ p f
  grind[Qav,JA]) k
theorem DK.op{c s:Nat}(h:WO P X.length N l.toArray [o] (Ys (Qi o) 0 ds xs env) X (Jm (up (Ys (Qi o) 0 ds xs env) d x) X1))(k:DK P N m bs cat l ds env n K (X::Hs) X1 r (xs++[x]))(hl:Nat.ble n X1.length=true:=by exact rfl)
  (hc:Y9 cat xs.length=some (1,c,s):=by exact rfl)(hd:o.dst=some d:=by exact rfl)(hcH:Nat.beq c Hs.length=true:=by exact rfl):DK P N m bs cat l ds env n K Hs X (o::r) xs:=by
 intro w;obtain⟨E,z⟩:=Qbr w;obtain⟨u,Zs,Y,i,y,f,g,a⟩:=k (by grind);simp only[X0,XY,List.length_nil,Vf,VH,Ve,List.reverse_cons]at i y f g a;refine⟨x::u,X1::Zs,Y,by grind,by grind,⟨λZ e=>?_,f.2⟩,λj B F=>?_,a⟩
 .rcases X4.1 e with rfl|e
  .simp_all
  grind
 .rcases Vz xs.length j with q|q
  .grind
  .obtain rfl:j=xs.length:=by omega
   refine Qfi hc λp t=>?_;have:p=(c,c+1):=Vy.1 t
   grind[Nat.eq_of_beq_eq_true,Qav,JA]
def Qfy(T:TyX)(N m:Nat)(cat:Kat)(l:List Oper)(ds:List Nat)(env:Env)(n:Nat):Nat->Nat->Nat->List Qc->Qc->List Oper->List A->Option (List Qc×List Oper×List A)
 |0,_,_,Hs,X,r,xs=>some (Hs,r,xs)
 |_+1,_,_,_,_,[],_=>none
 |k+1,i,j,Hs,X,o::r,xs=>match o.dst with
  |none=>none
  |some d=>match Nat.blt d N with
   |false=>none
   |true=>match Jc ⟨l⟩ o (Ys (Qi o) 0 ds xs env)with
    |none=>none
    |some false=>(match Qc4 xs (.tup [])with
      |.mk xs'=>match Y9 cat i with
       |some (0,_,_)=>Qfy T N m cat l ds env n k (i+1) j Hs X r xs'
       |some (1,c,_)=>(match Nat.beq c j,Nat.ble n X.length with
        |true,true=>Qfy T N m cat l ds env n k (i+1) (j+1) (X::Hs) X r xs'
        |_,_=>none)
       |_=>none)
    |some true=>match Y9 cat i with
     |some (0,lo,hi)=>(match QdX T o (Ys (Qi o) 0 ds xs env) []with
      |some x=>(match Qc4 xs x with
       |.mk xs'=>Qfy T N m cat l ds env n k (i+1) j Hs X r xs')
      |none=>match Nat.beq lo hi,Nat.beq lo j with
       |true,true=>(match QdX T o (Ys (Qi o) 0 ds xs env) X with
        |none=>none
        |some x=>match Qc4 xs x with
         |.mk xs'=>Qfy T N m cat l ds env n k (i+1) j Hs X r xs')
       |_,_=>none)
     |_=>none
theorem QbZ(hT:Qa2 P T):∀(k i j:Nat) {Hs Hs':List Qc} {r r':List Oper} {xs xs':List A},i=xs.length->j=Hs.length->Qfy T N m cat l ds env n k i j Hs X r xs=some (Hs',r',xs')->DK P N m bs cat l ds env n K Hs' X r' xs'->DK P N m bs cat l ds env n K Hs X r xs
 |0,i,j,Hs,Hs',r,r',xs,xs',_,_,h,k=>by cases h;exact k
 |k0+1,i,j,Hs,Hs',[],r',xs,xs',_,_,h,k=>by cases h
 |k0+1,i,j,Hs,Hs',o::r,r',xs,xs',hi,hj,h,k=>by
  subst hi hj;unfold Qfy at h;split at h
  .cases h
  .rename_i d hd;split at h
   .cases h
   .rename_i q2;split at h
    .cases h
    .rename_i hw;simp[JB]at h;split at h
     .rename_i lo hi' q0;exact .wa (λX=>WO.skip (QW hw) hd q2 (WO.nil Jm.mk)) (QbZ hT k0 _ _ (by simp) rfl h k) q0 hd
     .rename_i c c' q0;split at h
      .rename_i q1 q3;exact .op (WO.skip (QW hw) hd q2 (WO.nil Jm.mk)) (QbZ hT k0 _ _ (by simp) (by simp) h k) q3 q0 hd q1
      .cases h
     .cases h
    .rename_i hw;split at h
     .rename_i lo hi' q0;split at h
      .rename_i x hv;simp[JB]at h;exact .wa (λX=>QP (QW hw) hd q2 (Qar hT (Qfm hv)) (WO.nil Jm.mk)) (QbZ hT k0 _ _ (by simp) rfl h k) q0 hd
      .split at h
       .rename_i q1 q3;split at h
        .cases h
        .rename_i x hv;simp[JB]at h;obtain rfl:=XO q1;exact .wo (QP (QW hw) hd q2 (Qar hT hv) (WO.nil Jm.mk)) (QbZ hT k0 _ _ (by simp) rfl h k) q0 hd q3
       .cases h
     .cases h
theorem DK.v(h:OpV P o (Ys (Qi o) 0 ds xs env) X x)(k:DK P N m bs cat l ds env n K Hs X r (xs++[x])){c:Nat}(hg:Jc ⟨l⟩ o (Ys (Qi o) 0 ds xs env)=some true:=by exact rfl)
  (hd:o.dst=some d:=by exact rfl)(hN:Nat.blt d N=true:=by exact rfl)(hc:Y9 cat xs.length=some (0,c,c):=by exact rfl)(hcH:Nat.beq c Hs.length=true:=by exact rfl):DK P N m bs cat l ds env n K Hs X (o::r) xs:=
 .wo (QP (QW hg) hd hN h (WO.nil Jm.mk)) k hc hd hcH
def allV(T:TyX)(o:Oper)(e:Env)(x:A):Nat->List Qc->Prop
 |0,_=>True
 |k+1,Y::r=>QdX T o e Y=some x/\allV T o e x k r
 |_+1,[]=>False
theorem Qlz:∀(n lo:Nat),∀p∈Qny lo n,lo<=p.1/\p.1<=lo+n
 |0,lo,p,h=>by cases h with|head=>omega|tail _ h=>cases h
 |n+1,lo,p,h=>by
  rcases X4.1 h with rfl|h
  .omega
  .have:=Qlz n _ p h;omega
def allW(P:Program)(N:Nat)(l:List Oper)(o:Oper)(e:Env)(d:Nat)(x:A):Nat->List Qc->Prop
 |0,_=>True
 |k+1,Y::r=>WO P Y.length N l.toArray [o] e Y (Jm (up e d x) Y)/\allW P N l o e d x k r
 |_+1,[]=>False
theorem Qma{e:Env}:∀{k:Nat} {r:List Qc},allW P N l o e d x k r->∀j,j<k->WO P (r.getD j []).length N l.toArray [o] e (r.getD j []) (Jm (up e d x) (r.getD j []))
 |0,_,_,j,hj=>(by omega)
 |k+1,[],h,_,_=>h.elim
 |k+1,Y::r,h,0,_=>h.1
 |k+1,Y::r,h,j+1,hj=>by
  have:=Qma h.2 j (by omega)
  grind
theorem QeP{lo hi:Nat}(h:allW P N l o (Ys (Qi o) 0 ds xs env) d x (hi+1-lo) (X::Hs))(k:DK P N m bs cat l ds env n K Hs X r (xs++[x]))
  (j:Y9 cat xs.length=some (0,lo,hi):=by exact rfl)(hd:o.dst=some d:=by exact rfl)(hcH:Nat.beq hi Hs.length=true:=by exact rfl)(hle:Nat.ble lo hi=true:=by exact rfl):DK P N m bs cat l ds env n K Hs X (o::r) xs:=
 .add (λys Zs ho=>Qfi j λp a=>by
  have e:=QhP _ _ p a;have f:=XP hle;have hb:=Qlz (hi-lo) lo p a;have i:=XO hcH;rw[<- e];have g:=Qma h (Hs.length-p.1) (by omega);have q:(Hs.reverse++X::Zs).getD p.1 []=(X::Hs).getD (Hs.length-p.1) []:=by
   grind
  rw[q];exact Qav ho JA g hd) k
theorem DK.vs(i:Qa2 P T){lo hi:Nat}(h:allV T o (Ys (Qi o) 0 ds xs env) x (hi+1-lo) (X::Hs))(k:DK P N m bs cat l ds env n K Hs X r (xs++[x]))
  (g:Y9 cat xs.length=some (0,lo,hi))(f:o.dst=some d)(a:Nat.beq hi Hs.length=true)(hg:Jc ⟨l⟩ o (Ys (Qi o) 0 ds xs env)=some true)(j:Nat.blt d N=true)(e:Nat.ble lo hi=true):DK P N m bs cat l ds env n K Hs X (o::r) xs:=by
 refine QeP ?_ k g f a e;generalize hi+1-lo=c at h;generalize X::Hs=L at h
 induction c generalizing L with
 |zero=>trivial
 |succ c p=>
  cases L with
  |nil=>exact h.elim
  |cons Y L=>exact⟨QP (QW hg) f j (Qar i h.1) (WO.nil Jm.mk),p L h.2⟩
end
def room(n:Int):Option Nat:=bif decide (0<n)&&decide (n<=4294967296)then some n.toNat else none
section
variable {P:Program} {o:Oper} {env:Env} {H:Qc}
theorem RL.put{ro:Nat->Prop}{σ:Sig}{w:World}{k:Nat}:∀{a:Nat} {es fs:List (List A)} {l m:List Value},RL ro σ w k es l->a+fs.length<=es.length->Sw.allK k fs->LR ro σ w fs.flatten m->(∀v∈m,Qy v)->
  RL ro σ w k (es.take a++fs++es.drop (a+fs.length)) (Sw.splice l (a*k) m)
 |0,es,[],l,m,h,hn,hk,hm,hp=>by
  obtain rfl:m=[]:=hm;simpa[Sw.splice]using h
 |0,[],f::fs,l,m,h,hn,hk,hm,hp=>by simp at hn
 |0,c::es,f::fs,l,m,⟨l1,l2,h1,h2,h3,h4⟩,hn,hk,hm,hp=>by
  subst h1;have hl1:=h3.1.length;have hml:=hm.length;rw[Vi,X0]at hml;have e1:m.take k++m.drop k=m:=Xx _ _;have q1:LR ro σ w f (m.take k):=by have:=hm.take k;rwa [Vi,X5 (by rw[hk.1];omega),VF (by rw[hk.1];omega)]at this
  have q2:=by have:=hm.drop k;rwa [Vi,X6 (by rw[hk.1];omega),List.drop_of_length_le (by rw[hk.1];omega),Ve]at this
  have d:=RL.put (a:=0) h4 (by grind) hk.2 q2 (λv e=>hp v (List.mem_of_mem_drop e));simp only[List.take_zero,Ve,Xu,Nat.zero_mul,Sw.splice]at d⊢;refine⟨m.take k,m.drop k++l2.drop (m.drop k).length,?_,hk.1,⟨q1,λv e=>hp v (List.mem_of_mem_take e)⟩,by simp_all⟩;have g:k<=m.length:=by rw[hml,hk.1];omega
  rw[<- Vf,e1];congr 1
  grind[List.drop_length_add_append]
 |a+1,[],fs,l,m,h,hn,hk,hm,hp=>by simp at hn
 |a+1,c::es,fs,l,m,⟨l1,l2,h1,h2,h3,h4⟩,hn,hk,hm,hp=>by
  subst h1;have hl1:=h3.1.length;have d:=RL.put (a:=a) h4 (by simp at hn;omega) hk hm hp;refine⟨l1,Sw.splice l2 (a*k) m,?_,h2,h3,?_⟩
  .have e1:(a+1)*k=l1.length+a*k:=by rw[Xm];omega
   unfold Sw.splice;rw[e1,X9,show l1.length+a*k+m.length=l1.length+(a*k+m.length)from by omega,X8];simp
  .have i:a+1+fs.length=(a+fs.length)+1:=by omega
   simpa[i]using d
def SrcP(P:Program)(H:Qc)(x:A)(k:Nat)(es:List (List A)):Prop:=
 ∀fr ro σ w v,Sim fr ro σ H w->VR ro σ w x v->(∃a c,v=.slice a es.length c)/\
  ∀j,j<=es.length->allK k (es.take j)/\ ∃l,(Builtin.firstCells k j v).run P w=.ok l.toArray w/\LR ro [] w (es.take j).flatten l/\ ∀v∈l,Qy v
theorem Qky{fr ro:Nat->Prop}{σ:Sig}{w:World}{k j b off n c:Nat}{es:List (List A)}(h:RR ro [] w b k es off)(f:j<=es.length):
  allK k (es.take j)/\ ∃l,(Builtin.firstCells k j (.slice (some ⟨b,off,none⟩) n c)).run P w=.ok l.toArray w/\LR ro [] w (es.take j).flatten l/\ ∀v∈l,Qy v:=by
 obtain⟨e,g,a⟩:=(h.take j).flat;rw[Xw,Xz f]at a;obtain⟨l,i,d⟩:=Qci (c:=c) e a;exact⟨g,l,(i w rfl),d⟩
theorem Qfv{k n c:Nat}{a:Option Addr}{w:World}:(Builtin.firstCells k 0 (.slice a n c)).run P w=.ok #[] w:=by
 cases a<;>simp[go_sem]
theorem SrcP.osl{i s n k t:Nat}{es es':List (List A)}(hH:H[i]?=some (.row t k es))(he:(es.drop s).take n=es')(J:s+n<=es.length):SrcP P H (.osl i s n k) k es':=by
 intro fr L σ w v sm h;have x:es'.length=n:=by grind
 rcases h with⟨rfl,rfl⟩|⟨b,p,a,G,m,g,rfl,z,⟨F,r⟩,B,E⟩
 .have e:es'=[]:=(by grind);subst e;refine⟨⟨none,0,rfl⟩,λj q=>?_⟩;obtain rfl:j=0:=by omega
  exact⟨trivial,[],Qfv,rfl,by simp⟩
 .rw[x];refine⟨⟨_,a,rfl⟩,λj q=>?_⟩;obtain⟨l,f,u⟩:=sm.blk i _ _ g hH;have d:=((Y4 (pre:=[]) (by simpa using f) u).drop s).take n;rw[he]at d;by_cases y:0<a
  .obtain rfl:=z y;simpa using Qky (fr:=fr) (σ:=σ) d (by omega)
  .obtain rfl:j=0:=by omega
   exact⟨trivial,[],Qfv,rfl,by simp⟩
end
open Go.MapKept
section
variable {fr ro ro':Nat->Prop} {σ:Sig} {H:Qc} {w:World}
end
end Go.Sw
namespace Go.Sw
section
variable {P:Program} {o:Oper} {env:Env} {H:Qc} {α:Type} {e:α->List A}
end
open Go.MapKept
section
variable {P:Program} {o:Oper} {env:Env} {H:Qc}
theorem Qlq{T:Nat}(f:o.op=.makeMap T none:=by exact rfl):OpH P o env H (.map H.length) (H++[.mapP []]):=by
 intro e d σ N a w r;refine⟨.map (some w.heap.size),w.alloc (.map #[] 0),d,[some w.heap.size],?_,⟨w.heap.size,?_,rfl⟩,r.sim.alloc ⟨#[],0,Ym _ _,rfl,by simp,by simp,by simp⟩,Qj.alloc _ r.sim.roLt r.sim.frLt⟩
 .simp_all[execOp,Instr.makeMap]
 .rw[<- r.sim.len];simp
variable {T kt et:Nat} {α β:Type} [DecidableEq α] {ek:α->A} {ev:β->A} {x y:Operand} {i:Nat} {l:List (α×β)} {k:α} {z0:β} {z:Value}
theorem Qc8(K:JF P kt ek){v:β}(h:YQ l k=some v)(E:P.underlying T=some (.map kt et))
  (t:o.op=.lookup T x y false:=by exact rfl)(hx:opA env x=.map i:=by exact rfl)(hH:H[i]?=some (.mapP (Qw ek ev l)):=by exact rfl)(hy:opA env y=ek k:=by exact rfl):OpV P o env H (ev v):=by
 intro Y R σ N a w r;have g:=Qg r x;rw[hx]at g;obtain⟨b,G,u⟩:=g;have m:=Qg r y;rw[hy]at m;have B:=VR.val (K.scl _) m;obtain⟨F,d,J,n,V,W,z⟩:=r.sim.blk i _ _ G hH;obtain⟨s,L⟩:=ER.find K n k z;rcases K.find w k F.toList (Qbv K n)with⟨p,f⟩|⟨j,e,p,f,O⟩
 .have:=(s f).1;rw[h]at this;cases this
 .obtain⟨Q,X,q,M⟩:=L j e f O;rw[h]at q;obtain rfl:=XX q;refine⟨e.val,?_,M⟩;simp only[execOp,t,u,B,Instr.lookup,Vj,run_underlying E,Result.andThen,MapKept.run_getObj_map J,Vk,K.check,p];rfl
theorem Qln(K:JF P kt ek)(q:YQ l k=none)(B:P.underlying T=some (.map kt et))(F:∀w,(zeroValue et).run P w=.ok (.pointer none) w)
  (s:o.op=.lookup T x y false:=by exact rfl)(hx:opA env x=.map i:=by exact rfl)(hH:H[i]?=some (.mapP (Qw ek ev l)):=by exact rfl)(hy:opA env y=ek k:=by exact rfl):OpV P o env H .nilp:=by
 intro fr R σ N a w r;have f:=Qg r x;rw[hx]at f;obtain⟨b,G,t⟩:=f;have g:=Qg r y;rw[hy]at g;have z:=VR.val (K.scl _) g;obtain⟨E,d,J,h,V,W,u⟩:=r.sim.blk i _ _ G hH;obtain⟨O,L⟩:=ER.find K h k u;rcases K.find w k E.toList (Qbv K h)with⟨m,p⟩|⟨j,e,m,p,M⟩
 .refine⟨.pointer none,?_,rfl⟩;simp only[execOp,s,t,z,Instr.lookup,Vj,run_underlying B,Result.andThen,MapKept.run_getObj_map J,Vk,K.check,m,F];rfl
 .obtain⟨Q,X,n,Y⟩:=L j e p M;rw[q]at n;cases n
theorem Qnj(K:JF P kt ek){v:β}{zz:Operand}(Q:YQ l k=none)(L:P.underlying T=some (.map kt et))
  (z:o.op=.mapUpdate T x y zz:=by exact rfl)(hx:opA env x=.map i:=by exact rfl)(hH:H[i]?=some (.mapP (Qw ek ev l)):=by exact rfl)(hy:opA env y=ek k:=by exact rfl)(hv:opA env zz=ev v:=by exact rfl):
  OpU P o env H (H.set i (.mapP (Qw ek ev (l++[(k,v)])))):=by
 intro Y F σ N a w r;have m:=Qg r x;rw[hx]at m;obtain⟨b,q,B⟩:=m;have n:=Qg r y;rw[hy]at n;have G:=VR.val (K.scl _) n;have u:=Qg r zz;rw[hv]at u;obtain⟨p,d,s,h,R,V,E⟩:=r.sim.blk i _ _ q hH;obtain⟨O,W⟩:=ER.find K h k E;have g:∀(obj:Obj) y,w.shape? b=some y->({w with heap:=w.heap.setIfInBounds b obj}:World).shape? b=some y:=by
  grind[World.shape?]
 rcases K.find w k p.toList (Qbv K h)with⟨t,M⟩|⟨j,e,t,M,X⟩
 .have f:=r.sim.set (x':=.mapP (Qw ek ev (l++[(k,v)]))) (obj:=.map (p.push {key:=Q0 (ek k),val:=a.eval zz,born:=d}) (d+1)) q hH rfl (g _)
   (λe J=>⟨_,_,J,by
    rw[Qw,Xg,Array.toList_push];exact(h.mono e).append ⟨_,_,rfl,(Qcc (K.scl _)),u.mono e,rfl⟩,by
    grind,by
    grind,by
    grind⟩)
  refine⟨_,F,[],?_,by grind,f.2⟩;simp only[execOp,z,B,G,Vj,Instr.mapUpdate,run_underlying L,Result.andThen,MapKept.run_getObj_map s,K.check,t,MapKept.run_setObj_map _ s];rfl
 grind
end
section
variable {fr ro:Nat->Prop} {σ:Sig} {H:Qc} {w:World}
theorem Sim.shutAny(s:Sim fr ro σ H w){i b:Nat}{n:Blk}(hσ:σ[i]?=some (some b))(hH:H[i]?=some n)(hl:n.live=true):
  Sim fr (λc=>ro c\/c=b) σ (H.set i .dead) w:=by
 have hown:=s.own i b _ hσ hH hl;have ext:Ext ro σ w (λc=>ro c\/c=b) σ w:=⟨λ_ q=>.inl q,λ_ _=>rfl,λ_ _ q=>q,λ_ _ q=>q⟩;have a:∀(j:Nat) (v:Blk),(H.set i .dead)[j]?=some v->v≠ .dead->j≠i/\H[j]?=some v:=by
  grind
 refine⟨by rw[X2];exact s.len,s.roOk.to (λ_ q=>.inl q) (λ_ _=>rfl) ?_,s.frLt,?_,?_,?_,?_,s.hidTo (· = ·) Ya (XR _) (λj d x c E t M G=>G.elim id λq=>((s.hid j d x c E t M).ne i b _ hσ hH hl q).elim) (λ_ _ _ _ _ _ _ q=>q) λj d y F N L=>.inl ⟨j,y,rfl,F,(a j y N (Qfj L)).2,id,λ_ q=>q⟩⟩
 .rintro c (q|rfl)
  .exact s.roLt c q
  omega
 .rintro c (q|rfl)
  .exact s.roFr c q
  grind
 .intro j c v g f h;obtain⟨e,f⟩:=a j v f (Qap h);obtain⟨B,z,u⟩:=s.own j c v g f h;refine⟨B,?_,u⟩;rintro(q|rfl)
  .exact z q
  .exact e (s.inj j i c v _ g hσ f hH h hl)
 .intro j m c v p g f h J r l;exact s.inj j m c v p g f (a j v h (Qap r)).2 (a m p J (Qap l)).2 r l
 .intro j y v g f;by_cases k:v≠ .dead
  .exact(s.blk j y v g (a j v f k).2).keep ext (λ_ _ _=>rfl) (λ_ _ _ _=>rfl)
  .obtain rfl:v=.dead:=Classical.not_not.1 k;trivial
def Qb5(H:Qc):List Nat->Qc
 |[]=>H
 |i::l=>Qb5 (H.set i .dead) l
theorem Qhe{l:List Nat}:∀{H:Qc} {j:Nat},j∉l->(Qb5 H l)[j]?=H[j]? :=by
 induction l with
 |nil=>intro H j _;rfl
 |cons i l a=>
  grind[Qb5]
theorem Qeh:∀{l:List Nat} {ro:Nat->Prop} {H:Qc} (s:Sim fr ro σ H w),l.Nodup->(∀i∈l,∃x,H[i]?=some x/\x.live=true)->
  ∃ro',Sim fr ro' σ (Qb5 H l) w/\(∀c,ro c->ro' c)/\ ∀i∈l,∀b,σ[i]?=some (some b)->ro' b
 |[],ro,H,s,_,_=>⟨ro,s,λ_ q=>q,λ_ h=>by cases h⟩
 |i::l,ro,H,s,hn,hl=>by
  rw[List.nodup_cons]at hn;obtain⟨x,hx,hxl⟩:=hl i (by simp);have rest:∀i'∈l,∃x,(H.set i .dead)[i']?=some x/\x.live=true:=by
   grind
  have g:∃q,σ[i]?=some q:=by
   have:i<σ.length:=by rw[s.len];grind
   simp_all
  obtain⟨q,j⟩:=g;cases q with
  |some b=>
   obtain⟨ro',d,f,m⟩:=Qeh (s.shutAny j hx hxl) hn.2 rest;refine⟨ro',d,(by grind),λi' a k e=>?_⟩
   grind
  |none=>
   obtain⟨ro',d,f,m⟩:=Qeh (s.kill i) hn.2 rest;refine⟨ro',d,f,λi' a k e=>?_⟩
   grind
end
end Go.Sw
namespace Go.Sw
structure Fil (α β:Type) where
 number:Int
 r0:List α
 r1:List α
 r2:List α
 reports:List β
 appeal:Bool
 deriving DecidableEq
structure FK (α β:Type) where
 T:Nat
 tF:Nat
 kF:Nat
 tR:Nat
 kR:Nat
 eF:α->List A
 eR:β->List A
section
variable {α β:Type} (K:FK α β)
def QqP(b:Nat)(x:Fil α β):List A:=[.int .i64 x.number,.osl (b+1) 0 x.r0.length K.kF,.osl (b+2) 0 x.r1.length K.kF,.osl (b+3) 0 x.r2.length K.kF,.osl (b+4) 0 x.reports.length K.kR,.bool x.appeal]
def QlT(b:Nat)(x:Fil α β):List Blk:=[.cells K.T (QqP K b x),.row K.tF K.kF (x.r0.map K.eF),.row K.tF K.kF (x.r1.map K.eF),.row K.tF K.kF (x.r2.map K.eF),.row K.tR K.kR (x.reports.map K.eR)]
def fall:Nat->List (Fil α β)->List Blk
 |_,[]=>[]
 |b,x::l=>QlT K b x++fall (b+5) l
def frp(x:Fil α β):List A:=[.int .i64 x.number,.rsl K.kF (x.r0.map K.eF),.rsl K.kF (x.r1.map K.eF),.rsl K.kF (x.r2.map K.eF),.rsl K.kR (x.reports.map K.eR),.bool x.appeal]
def fent:Nat->List (Fil α β)->List (Int×Nat)
 |_,[]=>[]
 |b,x::l=>(x.number,b)::fent (b+5) l
def QeS(j:Nat):A:=.ptr j 0
def rpE(x:Fil α β):A:=.rp (frp K x)
def QeW(fs:List (Fil α β)):List (Int×Fil α β):=fs.map λx=>(x.number,x)
theorem Qho(b:Nat)(x:Fil α β)(l:List (Fil α β)):fall K b (x::l)=QlT K b x++fall K (b+5) l:=rfl
theorem QmM(b:Nat)(x:Fil α β):(QlT K b x).length=5:=rfl
end
section
variable {fr ro ro':Nat->Prop} {σ:Sig} {w:World}
theorem QaX(sub:∀c,ro c->ro' c){i t k:Nat}{es:List (List A)}{v:Value}(j:∀b,σ[i]?=some (some b)->BR ro σ w (.row t k es) (some b)/\ro' b)(h:VR ro σ w (.osl i 0 es.length k) v):VR ro' [] w (.rsl k es) v:=by
 rcases h with⟨B,h⟩|⟨b,p,a,y,m,f,h,E,⟨d,g⟩,u,x⟩
 .have:es=[]:=(by grind);subst this;exact⟨none,0,h,XR _,.inl rfl⟩
 .refine⟨_,a,h,d,?_⟩;by_cases r:es=[]
  .exact .inl r
  .right;have z:0<a:=Vc (by grind) d;obtain⟨⟨l,e,n⟩,s⟩:=j b f;refine⟨b,0,by simp,s,?_⟩;have:=Y4 (pre:=[]) (by simpa using e) n;exact this.keep ⟨sub,λ_ _=>rfl,λ_ _ q=>q,λ_ _ q=>q⟩ rfl
theorem QiL{ro:Nat->Prop}{w:World}{b t:Nat}:∀{cs:List A} {pre l:List Value},w.heap[b]?=some (.cells (pre++l).toArray t (0,0))->LR ro [] w cs l->(∀v∈l,Qy v)->CR ro [] w b cs pre.length
 |[],pre,l,_,_,_=>trivial
 |a::cs,pre,l,hb,hl,hp=>by
  obtain⟨v,l',rfl,h1,h2⟩:=hl;refine⟨⟨v,?_,hp v (by simp),h1⟩,?_⟩
  .unfold World.cell?
   grind
  .have:=QiL (pre:=pre++[v]) (by simpa using hb) h2 (by grind)
   grind
variable {α β:Type} (K:FK α β)
theorem QpZ(sub:∀c,ro c->ro' c){b:Nat}{x:Fil α β}{v:Value}(f:∀(d c:Nat) (y:Blk),(QlT K b x)[d]?=some y->σ[b+d]?=some (some c)->BR ro σ w y (some c)/\ro' c)(h:VR ro σ w (.ptr b 0) v):VR ro' [] w (.rp (frp K x)) v:=by
 obtain⟨c,g,n⟩:=h;obtain⟨⟨l,q,a,u⟩,t⟩:=f 0 c _ rfl g;refine⟨c,0,n,t,(QiL (pre:=[]) (by simpa using q) ?_ u)⟩;obtain⟨v0,M,rfl,s,a⟩:=a;obtain⟨i,F,rfl,G,a⟩:=a;obtain⟨m,J,rfl,E,a⟩:=a;obtain⟨k,z,rfl,N,a⟩:=a;obtain⟨r,B,rfl,L,a⟩:=a;obtain⟨p,H,rfl,j,a⟩:=a;refine⟨v0,_,rfl,s,i,_,rfl,QaX sub (λc e=>f 1 c _ rfl e) (by grind),m,_,rfl,QaX sub (λc e=>f 2 c _ rfl e) (by grind),k,_,rfl,QaX sub (λc e=>f 3 c _ rfl e) (by grind),
  r,_,rfl,QaX sub (λc e=>f 4 c _ rfl e) (by grind),p,_,rfl,j,a⟩
theorem Qpf(sub:∀c,ro c->ro' c){ek:Int->A}(hek:∀(k:Int) (v:Value),VR ro σ w (ek k) v->VR ro' [] w (ek k) v):∀{b:Nat} {fs:List (Fil α β)} {es:List MapEntry},(∀(d c:Nat) (y:Blk),(fall K b fs)[d]?=some y->σ[b+d]?=some (some c)->BR ro σ w y (some c)/\ro' c)->
  ER ro σ w (Qw ek QeS (fent b fs)) es->ER ro' [] w (Qw ek (rpE K) (QeW fs)) es
 |b,[],es,_,h=>h
 |b,x::l,es,hb,h=>by
  obtain⟨e,l',rfl,h1,h2,h3⟩:=h;refine⟨e,l',rfl,hek _ _ h1,?_,?_⟩
  .refine QpZ K sub (λd c y hy hc=>hb d c y ?_ hc) h2
   grind[Qho]
  .refine Qpf sub hek (λd c y hy hc=>hb (d+5) c y ?_ (by grind)) h3
   grind[Qho,QmM]
end
section
variable {fr ro:Nat->Prop} {σ:Sig} {w:World} {α β:Type} (K:FK α β)
theorem Sim.shutMapP{H:Qc}(s:Sim fr ro σ H w){i b:Nat}{es es':List (A×A)}(hσ:σ[i]?=some (some b))(hH:H[i]?=some (.mapP es))(he:∀l,ER ro σ w es l->ER (λc=>ro c\/c=b) [] w es' l):
  Sim fr (λc=>ro c\/c=b) σ (H.set i (.fmap es')) w:=by
 have hown:=s.own i b _ hσ hH rfl;have ext:Ext ro σ w (λc=>ro c\/c=b) σ w:=⟨λ_ q=>.inl q,λ_ _=>rfl,λ_ _ q=>q,λ_ _ q=>q⟩;have a:∀(j:Nat) (v:Blk),(H.set i (.fmap es'))[j]?=some v->v.live=true->j≠i/\H[j]?=some v:=by
  intro j v h u;by_cases e:j=i
  .subst e;rw[Xb]at h
   grind[Blk.live]
  grind
 have n:∀(j:Nat) (v:Blk),(H.set i (.fmap es'))[j]?=some v->v.holds=true->H[j]?=some v:=by
  intro j v h u;by_cases e:j=i
  .subst e;rw[Xb]at h;simp only[if_true]at h;split at h
   .cases h;cases u
   .simp at h
  grind
 refine⟨by rw[X2];exact s.len,s.roOk.to (λ_ q=>.inl q) (λ_ _=>rfl) ?_,s.frLt,?_,?_,?_,?_,s.hidTo (· = ·) Ya (XR _) (λj d x c J G N L=>L.elim id λq=>((s.hid j d x c J G N).ne i b _ hσ hH rfl q).elim) (by simp) (by grind)⟩
 .rintro c (q|rfl)
  .exact s.roLt c q
  omega
 .rintro c (q|rfl)
  .exact s.roFr c q
  grind
 .intro j c v g f m;obtain⟨e,f⟩:=a j v f m;obtain⟨t,r,p⟩:=s.own j c v g f m;refine⟨t,?_,p⟩;rintro(q|rfl)
  .exact r q
  .exact e (s.inj j i c v _ g hσ f hH m rfl)
 .intro j B c v E g f m M F z;exact s.inj j B c v E g f (a j v m F).2 (a B E M z).2 F z
 .intro j y v g f;by_cases e:j=i
  .subst e;rw[Xa (XJ.1 hH).1]at f;cases f;rw[hσ]at g;cases g;obtain⟨l,k,t,r,p⟩:=s.blk j _ _ hσ hH;exact⟨.inr rfl,l,k,t,he _ r,p⟩
  .rw[XN (λq=>e q.symm)]at f;exact(s.blk j y v g f).keep ext (λ_ _ _=>rfl) (λ_ _ _ _=>rfl)
end
open Go.Sort Go.Proofs Go.Shelf
theorem QnO{α:Type}{l:List α}(h:l.length=1):∃v,l=[v]:=by
 match l,h with
 |[v],_=>simp
theorem QfU{α β:Type}(f:α->β):∀l:List α,(l.map λa=>[f a]).flatten=l.map f
 |[]=>rfl
 |a::l=>by simp[QfU f l]
structure Elt1 (ro:Nat->Prop) (w:World) {T:Type} (ea:T->A) (l:List T) where
 x:T
 v:Value
 mem:x∈l
 rel:VR ro [] w (ea x) v
 plain:Qy v
theorem Qp6{P:Program}{ρ:Ren}(L0:SlLaysF0.n6 P ρ){T:Type}[DecidableEq T]{ea:T->A}{t g:Nat}{cap:List A}{l l':List T}{cf:T->T->Option Int}(hs:QbX cf l=some l')
  (ba:∀x y c,cf x y=some c->C P g ([ea x,ea y]++cap) [] (λa H=>a=.int .i64 c/\H=[]))
  (aE:∀w,(isAgg (ρ.t 24)).run P w=.ok false w)(zE:∀w,(Go.sizeOf (ρ.t 24)).run P w=.ok 1 w)(eg:∀args w,(callFunc g args).run P w=.ok (.enter g args) w)(hd:Yx cap=true):
  C P (ρ.f 6) [.osl 0 0 l.length 1,.fn (.func g) [] cap] [.row t 1 (l.map λx=>[ea x])] (λa H=>a=.tup []/\H=[.row t 1 (l'.map λx=>[ea x])]):=by
 have L:SlLaysF.n6 P ρ:={L0 with a24:=aE,z24:=zE};intro fr B σ vals w s hv;obtain⟨vs,r1,rfl,bo,vf,r2,rfl,bh,hr⟩:=hv;cases(show r2=[]from hr);obtain⟨lf,lc,rfl,h1,av⟩:=bh;cases(show lf=[]from h1);have ah:LR B [] w cap lc:=LR.data hd av;obtain⟨ax,ae,M,al,ay⟩:=Qdb hs;have au:∀(ad:Option Addr) (c:Nat),vs=.slice ad 0 c->l=[]->
   Calls P (ρ.f 6) [vs,.func (.func g) #[] lc.toArray].toArray w λe w'=>∃v r H' aa τ,e=.returned v/\(r=.tup []/\H'=[.row t 1 (l'.map λx=>[ea x])])/\Sim fr aa (σ++τ) H' w'/\VR aa (σ++τ) w' r v/\Qj fr B w aa w':=by
  rintro ad c rfl rfl;have ai:l'=[]:=by rw[<- ay];rfl
  subst ai;refine(AnyF.slices_SortFunc_none L0 ad c (.func (.func g) #[] lc.toArray) w).mono ?_;rintro e w' ⟨rfl,rfl⟩;exact⟨_,_,_,B,[],rfl,⟨rfl,rfl⟩,by simpa using s,⟨[],rfl,rfl⟩,Qj.refl _ _ _⟩
 rcases bo with⟨h0,rfl⟩|⟨b,p,cp,t',m,q1,rfl,q2,⟨q3,br⟩,q4,q5⟩
 .grind
 .by_cases ai:l=[]
  .grind
  .have bk:0<l.length:=List.length_pos_iff.2 ai;obtain rfl:=q2 (Vc bk q3);obtain⟨lv,e1,e2⟩:=s.blk 0 _ _ q1 rfl;obtain⟨hb,af,a9⟩:=s.own 0 b _ q1 rfl rfl;obtain⟨Q,F,a6,rfl,bb⟩:=RL.parts e2
   let α:=Elt1 B w ea l
   have a0:∀p∈Q,p.1∈l:=λp hp=>by rw[<- a6];exact VD hp
   have a3:∀p∈Q,∃v,p.2=[v]/\VR B [] w (ea p.1) v/\Qy v:=by
    intro p hp;obtain⟨g1,g2,g3⟩:=bb p hp;obtain⟨v,e⟩:=QnO g1;rw[e]at g2 g3;obtain⟨v',l',e',g4,g5⟩:=g2;cases e';exact⟨v,e,g4,g3 v (by simp)⟩
   let val:List Value->Value:=λl=>l.headD .nilFunc
   have X:∀p∈Q,p.2=[val p.2]/\VR B [] w (ea p.1) (val p.2)/\Qy (val p.2):=by
    intro p hp;obtain⟨v,e,g⟩:=a3 p hp;rw[e];exact⟨rfl,g⟩
   let ds:List α:=Q.attach.map λp=>⟨p.1.1,val p.1.2,a0 _ p.2,(X _ p.2).2.1,(X _ p.2).2.2⟩
   have aw:∀{γ:Type} (f:T×List Value->γ),Q.attach.map (λp=>f p.1)=Q.map f:=λf=>by simp
   have G:ds.map (·.x)=l:=by
    show(Q.attach.map _).map _=_;rw[List.map_map];exact(aw (·.1)).trans a6
   have a5:ds.map (·.v)=Q.map λp=>val p.2:=by
    show(Q.attach.map _).map _=_;rw[List.map_map];exact aw λp=>val p.2
   have am:ds.length=l.length:=by rw[<- G];simp
   have a8:ds≠[]:=by intro q;rw[q]at am;simp at am;omega
   let inh:Inhabited α:=⟨ds.head a8⟩
   let enc':α->Value:=λa=>a.v
   let cf':α->α->Int:=λx y=>(cf x.x y.x).getD 0
   have ab:∀x y:α,ltOf cf' x y=ltO cf x.x y.x:=by
    intro x y;obtain⟨c,u⟩:=ae x.x x.mem y.x y.mem;simp only[ltOf,ltO,cf',u,Option.getD_some]
   have hO:SWO (ltOf cf'):=⟨λx=>by rw[ab];exact M.irrefl _ x.mem,λx y z a b=>by rw[ab]at*;exact M.trans _ x.mem _ y.mem _ z.mem a b,
    λx y z a b=>by rw[ab]at*;exact M.ntrans _ x.mem _ y.mem _ z.mem a b⟩
   have be:(Q.map (·.2)).flatten=ds.map enc':=by
    have e3:Q.map (·.2)=(Q.map λp=>val p.2).map λv=>[v]:=by
     rw[List.map_map];exact List.map_congr_left λp hp=>(X p hp).1
    rw[e3, <- a5];have:=QfU (λv:Value=>v) (ds.map (·.v));rw[this];simp[enc']
   rw[be]at e1;have hH:Holds enc' w b 0 ds.toArray:=by
    intro j hj;simp only[List.size_toArray]at hj;constructor
    .unfold World.cell?;simp only[e1,Option.isSome_none,Xj,if_false,Xu];rw[Qbg,XK (by simpa using hj),Xo,QfR _ _ hj];rfl
    .unfold World.frozen?;simp only[e1];simp
   have ar:∀(d:Array α),d.size=ds.toArray.size->(putRow enc' w b 0 d).heap=w.heap.setIfInBounds b (.cells ((d.toList.map enc'++F)).toArray t (0,0)):=by
    intro d k;have aq:(d.toList.map enc').length=(ds.map enc').length:=by simp at k⊢;rw[k]
    unfold putRow mapBlock;show w.heap.modify b _=_;rw[Qbm e1];simp only[onCells];congr 2;unfold putCells;apply Array.ext_getElem?;intro i;simp only[Array.getElem?_mapIdx,Qbg,XS,true_and,Xu,Nat.sub_zero];by_cases hi:i<d.size
    .have R:i<(d.toList.map enc').length:=by simpa using hi
     rw[XK R,XK (by rw[<- aq];exact R),XI (by rw[<- aq];exact R),XI R];simp only[Xk,Vq hi];congr 1;rw[getElem!_pos d i hi];simp
    .have R:¬i<(d.toList.map enc').length:=by simpa using hi
     rw[XL (by omega),XL (by omega),aq];cases(F[i-(ds.map enc').length]?)with
     |none=>rfl
     |some v=>exact congrArg some (Vp hi)
   have J:∀(m:Nat) (os:Array Obj) (d:Array α),d.size=ds.toArray.size->
     (∀c,c<w.heap.size->c≠b->(sortWorld enc' w b 0 m d os).heap[c]?=w.heap[c]?)/\(sortWorld enc' w b 0 m d os).heap[b]?=some (.cells ((d.toList.map enc'++F)).toArray t (0,0))/\
     w.heap.size<=(sortWorld enc' w b 0 m d os).heap.size:=by
    intro m os d k;have e:(sortWorld enc' w b 0 m d os).heap=w.heap.setIfInBounds b (.cells ((d.toList.map enc'++F)).toArray t (0,0))++os:=by
     rw[<- ar d k];rfl
    rw[e];refine⟨λc u bf=>?_,?_,by simp⟩
    .rw[Array.getElem?_append_left (by simpa using u),Vb,Vp (λq=>bf q.symm)]
    .rw[Array.getElem?_append_left (by simpa using hb),Vb,Vq rfl,Vq hb]
   have N:∀(m:Nat) (os:Array Obj) (d:Array α),d.size=ds.toArray.size->∀c y,w.shape? c=some y->(sortWorld enc' w b 0 m d os).shape? c=some y:=by
    intro m os d k c y hy;obtain⟨g1,g2,g3⟩:=J m os d k;by_cases u:c=b
    .subst u;unfold World.shape? at hy⊢;rw[e1]at hy;rw[g2];simp only[Option.some.injEq]at hy⊢;rw[<- hy];congr 1;simp only[List.size_toArray,X0,XZ];simp at k⊢;rw[k]
    .unfold World.shape? at hy⊢;rw[g1 c (QiW hy) u];exact hy
   have ag:∀(m:Nat) (os:Array Obj) (d:Array α),d.size=ds.toArray.size->∀τ,Ext B τ w B τ (sortWorld enc' w b 0 m d os):=by
    intro m os d k τ;obtain⟨g1,g2,g3⟩:=J m os d k;exact⟨λ_ q=>q,λc u=>g1 c (s.roLt c u) (λq=>af (q▸u)),N m os d k,λ_ _ q=>q⟩
   have bl:CmpLays1 P g lc.toArray enc' cf' b 0 ds.toArray.size w:=by
    intro m os dk a4 x y;obtain⟨c,u⟩:=ae x.x x.mem y.x y.mem;have E:=ag m os dk a4 [];have bn:=ba _ _ _ u;generalize hW:sortWorld enc' w b 0 m dk os=W at*;have bp:w.heap.size<=W.heap.size:=by rw[<- hW];exact(J m os dk a4).2.2
    have sW:Sim (λc=>c<W.heap.size/\ ¬B c) B [] [] W:=
     ⟨rfl,s.roOk.to (λ_ q=>q) E.keep (λc u=>Vc (s.roLt c u) bp),λc u=>u.1,λc u hf=>hf.2 u,λi b x h=>by simp at h,λi j b x y h=>by simp at h,λi y x h=>by simp at h,λi b x c h=>by simp at h⟩
    have an:LR B [] W ([ea x.x,ea y.x]++cap) ([x.v,y.v]++lc):=
     LR.append (show LR B [] W [ea x.x,ea y.x] [x.v,y.v]from⟨_,_,rfl,x.rel.mono E,_,_,rfl,y.rel.mono E,rfl⟩) (ah.mono E)
    have O:=bn _ B [] _ W sW an;have bg:(([x.v,y.v]++lc).toArray:Array Value)= #[enc' x,enc' y]++lc.toArray:=by simp[enc']
    rw[bg]at O;refine O.mono ?_;rintro e w' ⟨v,r,H',aa,τ,rfl,⟨rfl,rfl⟩,s',bm,ev⟩;refine⟨?_,?_⟩
    .rw[show v=.int .i64 c from bm];simp only[cf',u,Option.getD_some]
    .refine QlR (λc u=>?_) ev.size ev.os ev.tape ev.output ev.drawn;by_cases az:B c
     .exact ev.keepRo c az
     .exact ev.keepFr c ⟨u,az⟩
   have V:ds.toArray.size=l.length:=by simpa using am
   have bq:b+0=b:=rfl;have ac:=Any.slices_SortFunc L enc' (λx=>Qg7 x.plain) cf' hO g lc.toArray b 0 cp ds.toArray w eg bl hH hb (by rw[V];unfold QD at ax;omega);rw[V]at ac;rw[Nat.zero_mul];refine ac.mono ?_;rintro e w' ⟨rfl,d,n,os,Y,aj,rfl⟩;have k:d.size=ds.toArray.size:=Y.1;obtain⟨g1,g2,g3⟩:=J n os d k;have ak:d.toList.Perm ds:=by
    have h:=Y.2.2;have x1:d.extract 0 l.length=d:=by rw[<- V, <- k];exact Array.extract_size
    have x2:ds.toArray.extract 0 l.length=ds.toArray:=by rw[<- V];exact Array.extract_size
    rw[x1,x2]at h;simpa using h
   have a1:d.toList.map (·.x)=l':=by
    rw[<- ay];refine JN (lt:=ltO cf) ?_ ?_ ?_ (Q6 M)
    .exact((ak.map (·.x)).trans (by rw[G])).trans (Qt _ _).symm
    .intro x hx y hy;have bi:x∈l:=by rw[<- G];exact(ak.map (·.x)).mem_iff.1 hx
     have bj:y∈l:=by rw[<- G];exact(ak.map (·.x)).mem_iff.1 hy
     exact al x bi y bj
    .rw[VB];intro i j hi hj bc;simp only[XZ]at hi hj;simp only[List.getElem_map];rw[<- ab];have:=aj i j (XS _) bc (by rw[<- V, <- k];simpa using hj);rw[getElem!_pos d j (by simpa using hj),getElem!_pos d i (by simpa using hi)]at this;simpa using this
   have bd:RL B [] (sortWorld enc' w b 0 n d os) 1 (l'.map λx=>[ea x]) (d.toList.map enc'++F):=by
    have e3:d.toList.map enc'=((d.toList.map λa=>(a.x,[a.v])).map (·.2)).flatten:=by
     rw[List.map_map];exact(QfU (λa:α=>a.v) d.toList).symm
    have e4:l'=(d.toList.map λa=>(a.x,[a.v])).map (·.1):=by rw[<- a1];simp
    rw[e3,e4];refine Qcd (enc:=λx=>[ea x]) (λ_=>rfl) ?_;intro p hp;obtain⟨a,_,rfl⟩:=Xf.1 hp;exact⟨⟨_,_,rfl,a.rel.mono (ag n os d k []),rfl⟩,λv hv=>by rw[Vy.1 hv];exact a.plain⟩
   have a2:Qj fr B w B (sortWorld enc' w b 0 n d os):=
    ⟨λ_ q=>q,λc u=>g1 c (s.roLt c u) (λq=>af (q▸u)),λc u=>g1 c (s.frLt c u) (λq=>a9 (q▸u)),g3,N n os d k,rfl,rfl,rfl,Nat.le_add_right _ _⟩
   have ao:σ.length=1:=s.len;have a7:Sim fr B σ [.row t 1 (l'.map λx=>[ea x])] (sortWorld enc' w b 0 n d os):=by
    have i0:∀{i:Nat} {x:Blk},([.row t 1 (l'.map λx=>[ea x])]:Qc)[i]?=some x->i=0/\x=.row t 1 (l'.map λx=>[ea x]):=by
     intro i x h;cases i with
     |zero=>simp at h;exact⟨rfl,h.symm⟩
     |succ i=>simp at h
    refine⟨ao,s.roOk.to (λ_ q=>q) a2.keepRo (λc u=>Vc (s.roLt c u) g3),λc u=>Vc (s.frLt c u) g3,s.roFr,λi c x h1 h2 h3=>?_,λi j c x y h1 h2 h3 h4 _ _=>?_,λi y x h1 h2=>?_,λi b x c h1 h2 h3=>by obtain⟨rfl,rfl⟩:=i0 h2;exact h3.elim⟩
    .obtain⟨rfl,rfl⟩:=i0 h2;obtain⟨p1,p2⟩:=s.own 0 c _ h1 rfl rfl;exact⟨Vc p1 g3,p2⟩
    .rw[(i0 h3).1,(i0 h4).1]
    .obtain⟨rfl,rfl⟩:=i0 h2;rw[q1]at h1;cases h1;exact⟨_,g2,bd⟩
   exact⟨_,_,_,B,[],rfl,⟨rfl,rfl⟩,by simpa using a7,⟨[],rfl,rfl⟩,a2⟩
end Go.Sw
namespace Go.Sw
structure Pl where
 b:Nat
 i0:Nat
 i1:Nat
 i2:Nat
 i3:Nat
def Pl.ix(p:Pl):List Nat:=[p.b,p.i0,p.i1,p.i2,p.i3]
section
variable {α β:Type} (K:FK α β)
def Yj(p:Pl)(x:Fil α β):List A:=[.int .i64 x.number,.osl p.i0 0 x.r0.length K.kF,.osl p.i1 0 x.r1.length K.kF,.osl p.i2 0 x.r2.length K.kF,.osl p.i3 0 x.reports.length K.kR,.bool x.appeal]
structure QbO (H:Qc) (x:Fil α β) (p:Pl):Prop where
 c:H[p.b]?=some (.cells K.T (Yj K p x))
 r0:H[p.i0]?=some (.row K.tF K.kF (x.r0.map K.eF))
 r1:H[p.i1]?=some (.row K.tF K.kF (x.r1.map K.eF))
 r2:H[p.i2]?=some (.row K.tF K.kF (x.r2.map K.eF))
 r3:H[p.i3]?=some (.row K.tR K.kR (x.reports.map K.eR))
abbrev QaV(α β:Type):=List (Fil α β×Pl)
def Y7(bk:QaV α β):List (Int×Nat):=bk.map λe=>(e.1.number,e.2.b)
structure YP (lo:Nat) (H:Qc) (bk:QaV α β):Prop where
 laid:∀e∈bk,QbO K H e.1 e.2
 own:∀e∈bk,e.2.ix.Nodup
 ne:bk.Pairwise λe f=>∀i∈e.2.ix,i∉f.2.ix
 lo:∀e∈bk,∀i∈e.2.ix,lo<=i
 num:(bk.map (·.1.number)).Nodup
variable {K} {lo:Nat} {H H':Qc} {bk l r:QaV α β} {e:Fil α β×Pl} {x':Fil α β} {p':Pl}
theorem YP.nil:YP K lo H []:=⟨(λ_ h=>by cases h),(λ_ h=>by cases h),List.Pairwise.nil,(λ_ h=>by cases h),List.nodup_nil⟩
theorem QbO.lt(h:QbO K H e.1 e.2):∀i∈e.2.ix,i<H.length:=by
 intro i a;have g:∀{j:Nat} {y:Blk},H[j]?=some y->j<H.length:=(by grind);simp[Pl.ix,X4,List.not_mem_nil,or_false]at a;rcases a with rfl|rfl|rfl|rfl|rfl
 .exact g h.c
 .exact g h.r0
 .exact g h.r1
 .exact g h.r2
 .exact g h.r3
theorem QbO.keep(h:QbO K H e.1 e.2)(k:∀i∈e.2.ix,H'[i]?=H[i]?):QbO K H' e.1 e.2:=by
 refine⟨?_,?_,?_,?_,?_⟩
 .rw[k _ (by simp[Pl.ix])];exact h.c
 .rw[k _ (by simp[Pl.ix])];exact h.r0
 .rw[k _ (by simp[Pl.ix])];exact h.r1
 .rw[k _ (by simp[Pl.ix])];exact h.r2
 .rw[k _ (by simp[Pl.ix])];exact h.r3
theorem YP.keep(h:YP K lo H bk)(k:∀j,lo<=j->j<H.length->H'[j]?=H[j]?):YP K lo H' bk:=
 ⟨λe he=>(h.laid e he).keep λi hi=>k i (h.lo e he i hi) ((h.laid e he).lt i hi),h.own,h.ne,h.lo,h.num⟩
theorem YP.upd(h:YP K lo H (l++e::r))(y:QbO K H' x' p')(B:x'.number=e.1.number)(t:∀j,lo<=j->j<H.length->j∉e.2.ix->H'[j]?=H[j]?)
  (hi:∀i∈p'.ix,i∈e.2.ix\/H.length<=i)(x:p'.ix.Nodup)(hl:lo<=H.length):YP K lo H' (l++(x',p')::r):=by
 obtain⟨z,w,F⟩:=List.pairwise_append.1 h.ne;obtain⟨E,u⟩:=Xc.1 w;have mem:∀f∈l++(x',p')::r,f=(x',p')\/(f∈l++e::r/\ ∀i∈f.2.ix,i∉e.2.ix):=by
  intro f a
  grind
 refine⟨?_,?_,?_,?_,?_⟩
 .intro f a;rcases mem f a with rfl|⟨d,n⟩
  .exact y
  .exact(h.laid f d).keep λi hi=>t i (h.lo f d i hi) ((h.laid f d).lt i hi) (n i hi)
 .intro f a;rcases mem f a with rfl|⟨d,n⟩
  .exact x
  .exact h.own f d
 .refine List.pairwise_append.2 ⟨z,Xc.2 ⟨?_,u⟩,?_⟩
  .intro f a i k m;rcases hi i k with q|q
   .grind
   .have:=(h.laid f (by simp[a])).lt i m;omega
  .intro f a g s i m p;rcases X4.1 s with rfl|s
   .rcases hi i p with q|q
    .grind
    .have:=(h.laid f (by simp[a])).lt i m;omega
   grind
 .intro f a;rcases mem f a with rfl|⟨d,n⟩
  .intro i k;rcases hi i k with q|q
   .exact h.lo e (by simp) i q
   .omega
  .exact h.lo f d
 .have:=h.num
  grind
theorem YP.add(h:YP K lo H bk)(l:QbO K H' x' p')(r:∀e∈bk,e.1.number≠x'.number)(k:∀j,lo<=j->j<H.length->H'[j]?=H[j]?)
  (hi:∀i∈p'.ix,H.length<=i)(m:p'.ix.Nodup)(hl:lo<=H.length):YP K lo H' (bk++[(x',p')]):=by
 have n:=h.keep k;have mem:∀f∈bk++[(x',p')],f∈bk\/f=(x',p'):=by
  simp
 refine⟨?_,?_,?_,?_,?_⟩
 .intro f a;rcases mem f a with q|rfl
  .exact n.laid f q
  .exact l
 .intro f a;rcases mem f a with q|rfl
  .exact h.own f q
  .exact m
 .refine List.pairwise_append.2 ⟨h.ne,by simp,λf a g s i d p=>?_⟩;have:=(h.laid f a).lt i d
  grind
 .intro f a i d;rcases mem f a with q|rfl
  .exact h.lo f q i d
  grind
 .rw[Xg];refine List.nodup_append.2 ⟨h.num,by simp,?_⟩
  grind
theorem Qed:∀(a:QaV α β) (k:Int),(YQ (Y7 a) k=none/\ ∀e∈a,e.1.number≠k)\/ ∃l e r,a=l++e::r/\e.1.number=k/\(∀y∈l,y.1.number≠k)/\YQ (Y7 a) k=some e.2.b
 |[],k=>.inl ⟨rfl,λ_ h=>by cases h⟩
 |e::l,k=>by
  have e0:YQ (Y7 (e::l)) k=if e.1.number=k then some e.2.b else YQ (Y7 l) k:=by
   grind[YQ,Y7]
  by_cases q:e.1.number=k
  .exact .inr ⟨[],e,l,rfl,q,(λ_ h=>by cases h),by grind⟩
  .rcases Qed l k with⟨d,f⟩|⟨p,y,r,d,f,i,g⟩
   .grind
   grind
theorem Qm3(p q:QaV α β):Y7 (p++q)=Y7 p++Y7 q:=by simp[Y7]
theorem Qm2(d:x'.number=e.1.number)(a:p'.b=e.2.b):Y7 (l++(x',p')::r)=Y7 (l++e::r):=by simp[Y7,d,a]
end
section
variable {fr ro ro':Nat->Prop} {σ:Sig} {w:World} {α β:Type} (K:FK α β)
theorem QoU(sub:∀c,ro c->ro' c){p:Pl}{x:Fil α β}{v:Value}{H:Qc}(hl:QbO K H x p)(e:∀i∈p.ix,∀(c:Nat) (y:Blk),H[i]?=some y->σ[i]?=some (some c)->BR ro σ w y (some c)/\ro' c)(h:VR ro σ w (.ptr p.b 0) v):VR ro' [] w (.rp (frp K x)) v:=by
 obtain⟨c,f,n⟩:=h;obtain⟨⟨l,r,a,z⟩,u⟩:=e p.b (by simp[Pl.ix]) c _ hl.c f;refine⟨c,0,n,u,(QiL (pre:=[]) (by simpa using r) ?_ z)⟩;obtain⟨v0,O,rfl,t,a⟩:=a;obtain⟨g,G,rfl,J,a⟩:=a;obtain⟨m,M,rfl,F,a⟩:=a;obtain⟨k,B,rfl,P,a⟩:=a;obtain⟨s,E,rfl,N,a⟩:=a;obtain⟨q,L,rfl,j,a⟩:=a;refine⟨v0,_,rfl,t,g,_,rfl,QaX sub (λc d=>e p.i0 (by simp[Pl.ix]) c _ hl.r0 d) (by grind),m,_,rfl,QaX sub (λc d=>e p.i1 (by simp[Pl.ix]) c _ hl.r1 d) (by grind),k,_,rfl,QaX sub (λc d=>e p.i2 (by simp[Pl.ix]) c _ hl.r2 d) (by grind),
  s,_,rfl,QaX sub (λc d=>e p.i3 (by simp[Pl.ix]) c _ hl.r3 d) (by grind),q,_,rfl,j,a⟩
theorem QhI(sub:∀c,ro c->ro' c){H:Qc}{ek:Int->A}(hek:∀(k:Int) (v:Value),VR ro σ w (ek k) v->VR ro' [] w (ek k) v):∀{bk:QaV α β} {es:List MapEntry},(∀e∈bk,QbO K H e.1 e.2)->(∀e∈bk,∀i∈e.2.ix,∀(c:Nat) (y:Blk),H[i]?=some y->σ[i]?=some (some c)->BR ro σ w y (some c)/\ro' c)->
  ER ro σ w (Qw ek QeS (Y7 bk)) es->ER ro' [] w (Qw ek (rpE K) (QeW (bk.map (·.1)))) es
 |[],es,_,_,h=>h
 |x::l,es,hl,hb,h=>by
  obtain⟨e,l',rfl,h1,h2,h3⟩:=h;exact⟨e,l',rfl,hek _ _ h1,QoU K sub (hl x (by simp)) (hb x (by simp)) h2,QhI sub hek (by grind) (λe he=>hb e (by simp[he])) h3⟩
def QdG(bk:QaV α β):List Nat:=bk.flatMap λe=>e.2.ix
theorem YP.all{lo:Nat}{H:Qc}:∀{f:QaV α β},YP K lo H f->(QdG f).Nodup/\ ∀i∈QdG f,lo<=i/\ ∃y,H[i]?=some y/\y.live=true:=by
 intro f h;refine⟨?_,?_⟩
 .have k:=h.own;have j:=h.ne
  grind[QdG]
 .intro i d;obtain⟨e,g,d⟩:=List.mem_flatMap.1 d;refine⟨h.lo e g i d,?_⟩;have a:=h.laid e g;simp[Pl.ix,X4,List.not_mem_nil,or_false]at d;rcases d with rfl|rfl|rfl|rfl|rfl
  .exact⟨_,a.c,rfl⟩
  .exact⟨_,a.r0,rfl⟩
  .exact⟨_,a.r1,rfl⟩
  .exact⟨_,a.r2,rfl⟩
  .exact⟨_,a.r3,rfl⟩
end
section
variable {α β:Type} (K:FK α β) {env:Env} {H:Qc}
theorem Qo7{h0 lo m:Nat}{f:QaV α β}(E:YP K lo H f)(Q:Nat.blt m lo=true)(G:H[m]?=some (.mapP (Qw (λn=>.int .i64 n) QeS (Y7 f)))):
  Le h0 env H env ((Qb5 H (QdG f)).set m (.fmap (Qw (λn=>.int .i64 n) (rpE K) (QeW (f.map (·.1)))))):=by
 intro V t σ N a w r;have s:=r.sim;obtain⟨nd,B⟩:=E.all;have O:m<lo:=by simp_all
 have F:∃q,σ[m]?=some q:=by
  have:m<σ.length:=by rw[s.len];grind
  simp_all
 obtain⟨q,z⟩:=F;cases q with
 |none=>exact(s.blk m _ _ z G).elim
 |some x=>
 obtain⟨d,P,g,p⟩:=Qeh s nd (by grind);have u:(Qb5 H (QdG f))[m]?=some (.mapP (Qw (λn=>.int .i64 n) QeS (Y7 f))):=by
  grind[Qhe]
 have L:=P.shutMapP (es':=Qw (λn=>.int .i64 n) (rpE K) (QeW (f.map (·.1)))) z u (λl J=>?_)
 .have sub:∀c,t c->d c\/c=x:=(by grind);have ext:Ext t σ w (λc=>d c\/c=x) σ w:=⟨sub,λ_ _=>rfl,λ_ _ q=>q,λ_ _ q=>q⟩;exact⟨_,σ,⟨L,λq=>(r.env q).mono ext,r.size,r.defers⟩,sub,rfl⟩
 .have ext:Ext t σ w d σ w:=⟨g,λ_ _=>rfl,λ_ _ q=>q,λ_ _ q=>q⟩;exact QhI K (ek:=λn=>.int .i64 n) (ro':=λc=>d c\/c=x) (λc j=>.inl j) (λk v h=>h) E.laid (λe R i T c y M j=>(⟨(s.blk _ _ _ j M).keep ext (λ_ _ _=>rfl) (λ_ _ _ _=>rfl),.inl (p _ (List.mem_flatMap.2 ⟨e,R,T⟩) c j)⟩)) J
end
section
variable {P:Program} {h0 N:Nat} {all:Array Oper} {o:Oper} {l:List Oper} {env:Env} {H:Qc} {Q:QV}
theorem Qc6{d:Nat}{f:FuncId}{args:List A}{Qr:A->Qc->Prop}(j:OpC P o env H f args)(F:C P f args H Qr)
  (k:∀r H1,Qr r H1->WO P h0 N all l (up env d r) H1 Q)(J:h0<=H.length)(hg:QB all o env true:=by exact rfl)(hd:o.dst=some d:=by exact rfl)(hN:Nat.blt d N=true:=by exact rfl):
  WO P h0 N all (o::l) env H Q:=by
 intro z fr p σ a w r hrd;obtain⟨h,x,G⟩:=j fr p σ N a w r;refine QdW (YX hg r) x ?_;have hσl:=r.sim.len;refine Calls.mono (F fr p σ h w r.sim G) ?_;rintro e m ⟨v,n,H1,g,τ,rfl,t,B,u,ev⟩;have y:=k n H1 t;simp only[hd];have i:d<N:=by simp_all
 have E:Rel fr g (σ++τ) H1 (up env d n) N {a with tmps:=a.tmps.setIfInBounds d v} m:=
  ⟨B,VR.up (fr:=fr) (λs=>(r.env s).mono (ev.ext σ τ)) (by rw[r.size];exact i) u,by simpa using r.size,r.defers.keep ev⟩
 exact⟨_,rfl,Yz (λe a w q=>q.step ev (by grind)) _ _ _ (y z fr g (σ++τ) _ m E (hrd.to ev λ_ q=>q))⟩
end
section
variable {h0 n:Nat} {env env':Env} {H H':Qc}
theorem Qpa(n:Nat)(hn:h0<=n)(hl:n<=H.length)(hH:(H'.map (Yp (rho (List.range n) H.length))).map some=(List.range n).map (λp=>H[p]?))(hE:QeO (rho (List.range n) H.length) env env'):Le h0 env H env' H':=
 Qo8 (List.range n) (by grind) hH.symm List.nodup_range hE
end
section
variable {P:Program} {o:Oper} {env:Env} {H:Qc} {α:Type}
theorem Qni{t E n:Nat}{x y:Operand}{l:List α}{e:α->List A}{c:α}{k:IntKind}{i:Int}{v:A}(h:idx l i=some c)(hl:l.length=n)(f:∀x,∃v,e x=[v])(Q:e c=[v])(G:∀w,(underlying t).run P w=.ok (.array n E) w)(F:∀w,(isAgg E).run P w=.ok false w)(j:∀w,(Go.sizeOf E).run P w=.ok 1 w)
  (p:o.op=.index t x y:=by exact rfl)(hx:opA env x=.agg (l.map e).flatten:=by exact rfl)(hy:opA env y=.int k i:=by exact rfl):OpV P o env H v:=by
 obtain⟨B,O⟩:=Qac h;intro V R σ N a w r;have d:=Qg r x;rw[hx]at d;obtain⟨m,d,q⟩:=d;have L:=QT r hy;have T:∀(l:List α),(l.map e).flatten[i.toNat]?=(l.map λx=>(e x).headD .any)[i.toNat]? :=by
  intro l;have:(l.map e).flatten=l.map λx=>(e x).headD .any:=by
   induction l with
   |nil=>rfl
   |cons a l M=>
    obtain⟨v,f⟩:=f a;simp[f,M]
  rw[this]
 have z:(l.map e).flatten[i.toNat]?=some v:=by
  grind
 obtain⟨u,s,J⟩:=q.get _ z;have g:i<n:=by
  grind
 refine⟨u,?_,J⟩;generalize a.eval=ρ at*;simp[p,d,L,Instr.index,G,B,g,j,F,s,go_sem]
end
section
variable {α β:Type}
def QaI(k:Int):Fil α β:=⟨k,[],[],[],[],false⟩
def Qad(fs:List (Fil α β))(k:Int):List (Fil α β):=bif fs.any (λx=>decide (x.number=k))then fs else fs++[QaI k]
def QbV(fs:List (Fil α β))(k:Int)(g:Fil α β->Fil α β):List (Fil α β):=fs.map λx=>bif decide (x.number=k)then g x else x
def QfB(fs:List (Fil α β)):Bool:=fs.all λx=>Nat.ble (x.r0.length+1) QD&&Nat.ble (x.r1.length+1) QD&&Nat.ble (x.r2.length+1) QD&&Nat.ble (x.reports.length+1) QD
variable (K:FK α β) {lo:Nat} {H H':Qc} {bk:QaV α β}
theorem Qdu{fs:List (Fil α β)}{k:Int}(h:∃x∈fs,x.number=k):Qad fs k=fs:=by
 unfold Qad
 grind
theorem Qb6{fs:List (Fil α β)}{k:Int}(h:∀x∈fs,x.number≠k):Qad fs k=fs++[QaI k]:=by
 unfold Qad
 grind
theorem Qpn{l r:List (Fil α β)}{x:Fil α β}{k:Int}{g:Fil α β->Fil α β}(d:((l++x::r).map (·.number)).Nodup)(a:x.number=k):QbV (l++x::r) k g=l++g x::r:=by
 simp_all[List.nodup_append,QbV,List.map_congr_left]
theorem Qi4{l r:List (Fil α β)}{x:Fil α β}(h:QfB (l++x::r)=true):x.r0.length+1<=QD/\x.r1.length+1<=QD/\x.r2.length+1<=QD/\x.reports.length+1<=QD:=by
 simp_all[QfB]
def Qa3(n:Nat):Pl:=⟨n,n+1,n+2,n+3,n+4⟩
def Qco(n:Nat)(k:Int):Qc:=[.cells K.T (Yj K (Qa3 n) (QaI k)),.row K.tF K.kF [],.row K.tF K.kF [],.row K.tF K.kF [],.row K.tR K.kR []]
theorem Qls{h0:Nat}{env:Env}{k:Int}(d:h0<=H.length):
  Le h0 env (H++[.cells K.T [.int .i64 k,.nils,.nils,.nils,.nils,.bool false]]) env (H++Qco K H.length k):=by
 have a:∀(n:Nat) (G:Qc) (cs cs':List A) (t k':Nat) (m:Nat),n=H.length+1+G.length->cs[m]?=some .nils->cs'=cs.set m (.osl n 0 0 k')->
   Le h0 env (H++.cells K.T cs::G) env (H++.cells K.T cs'::(G++[.row t k' []])):=by
  intro n G cs cs' t k' m hn hm hc;have:=Qce (h0:=h0) (env:=env) (H:=H++.cells K.T cs::G) (i:=H.length) (t:=t) (k:=k') (T:=K.T)
   (by simp;omega) (by simp) hm
  grind
 refine Le.trans (a (H.length+1) [] _ _ K.tF K.kF 1 (by simp) rfl rfl) ?_;refine Le.trans (a (H.length+2) [.row K.tF K.kF []] _ _ K.tF K.kF 2 (by simp) rfl rfl) (Le.trans (a (H.length+3) [.row K.tF K.kF [],.row K.tF K.kF []] _ _ K.tF K.kF 3 (by simp) rfl rfl) ?_);exact a (H.length+4) [.row K.tF K.kF [],.row K.tF K.kF [],.row K.tF K.kF []] _ _ K.tR K.kR 4 (by simp) rfl rfl
theorem QbO.new{k:Int}:QbO K (H++Qco K H.length k) (QaI k) (Qa3 H.length):=by
 have g:∀(j:Nat) (y:Blk),(Qco K H.length k)[j]?=some y->(H++Qco K H.length k)[H.length+j]?=some y:=by
  grind
 exact⟨g 0 _ rfl,g 1 _ rfl,g 2 _ rfl,g 3 _ rfl,g 4 _ rfl⟩
theorem QlF(n:Nat):(∀i∈(Qa3 n).ix,n<=i)/\(Qa3 n).ix.Nodup:=by
 simp_all[Pl.ix,Qa3]
variable {K}
theorem YP.new{k:Int}(h:YP K lo H bk)(a:∀e∈bk,e.1.number≠k)(hl:lo<=H.length):YP K lo (H++Qco K H.length k) (bk++[(QaI k,Qa3 H.length)]):=by
 refine h.add (QbO.new K) a (by grind) (QlF _).1 (QlF _).2 hl
theorem YP.row{l r:QaV α β}{e:Fil α β×Pl}{x':Fil α β}{p':Pl}{i:Nat}{y:Blk}(h:YP K lo H (l++e::r))(hl:lo<=H.length)(u:x'.number=e.1.number)(hi:i∈e.2.ix)(f:i≠e.2.b)(n:p'.b=e.2.b)
  (hH:H'=(H.set i .dead++[y]).set e.2.b (.cells K.T (Yj K p' x')))
  (t:p'.ix=e.2.ix.map λj=>bif Nat.beq j i then H.length else j)
  (h0:H'[p'.i0]?=some (.row K.tF K.kF (x'.r0.map K.eF)))(k:H'[p'.i1]?=some (.row K.tF K.kF (x'.r1.map K.eF)))(p:H'[p'.i2]?=some (.row K.tF K.kF (x'.r2.map K.eF)))(q:H'[p'.i3]?=some (.row K.tR K.kR (x'.reports.map K.eR))):
  YP K lo H' (l++(x',p')::r):=by
 have s:=h.laid e (by simp);have d:=s.lt;have g:e.2.b<H.length:=d _ (by simp[Pl.ix]);refine h.upd ⟨?_,h0,k,p,q⟩ u ?_ ?_ ?_ hl
 .grind
 .grind[List.getElem?_set_ne,Pl.ix]
 .grind
 .rw[t];have m:=h.own e (by simp);refine List.pairwise_map.2 (List.Pairwise.imp_of_mem ?_ m);intro a b x n w;cases B:Nat.beq a i with
  |true=>
   cases z:Nat.beq b i with
   |true=>simp_all
   |false=>grind
  |false=>
   grind
end
section
variable {fr ro:Nat->Prop} {σ:Sig} {H:Qc} {w:World}
theorem Sim.addIdle(s:Sim fr ro σ H w){x:Blk}{z:Option Nat}(m:x.holds=false)(L:BR ro (σ++[z]) w x z):Sim fr ro (σ++[z]) (H++[x]) w:=by
 have ext:Ext ro σ w ro (σ++[z]) w:=⟨λ_ q=>q,λ_ _=>rfl,λ_ _ q=>q,(by grind)⟩;have t:=s.len;have p:x.live=false:=by
  cases q:x.live with
  |true=>rw[Qaz q]at m;exact m
  |false=>rfl
 have a:∀(j:Nat) (v:Blk),(H++[x])[j]?=some v->(j<H.length/\H[j]?=some v)\/(j=H.length/\v=x):=by
  grind
 have hσ:∀(j:Nat) (k:Option Nat),j<H.length->(σ++[z])[j]?=some k->σ[j]?=some k:=by
  grind
 refine⟨by simp[t],s.roOk,s.frLt,s.roFr,λi b y e f l=>?_,λi j b y n e f l B u F=>?_,λi k y e f=>?_,
  s.hidTo (· = ·) Ya (XR _) (by simp) (by simp) λj d y J N M=>.inl ?_⟩
 .rcases a i y f with⟨h,g⟩|⟨_,rfl⟩
  .exact s.own i b y (hσ i _ h e) g l
  grind
 .rcases a i y l with⟨h,g⟩|⟨_,rfl⟩
  .rcases a j n B with⟨E,G⟩|⟨_,rfl⟩
   .exact s.inj i j b y n (hσ i _ h e) (hσ j _ E f) g G u F
   grind
  grind
 .rcases a i y f with⟨h,g⟩|⟨r,rfl⟩
  .exact(s.blk i k y (hσ i _ h e) g).keep ext (λ_ _ _=>rfl) (λ_ _ _ _=>rfl)
  grind
 grind
end
section
variable {P:Program} {o:Oper} {env:Env} {H:Qc}
theorem Qo4{T e k n:Nat}{xs:List Operand}{es:List (List A)}(E:Q1 P T e k)(V:o.op=.buildSlice T n (Qag 0 xs).toArray)(O:xs.length=n)(u:Nat.ble (n*(k+1)) 16777216=true)
  (Y:(xs.all λx=>Yr (opA env x))=true)(L:QY env xs=es)(M:allK k es)(hp:es.flatten.all YC=true)(hd:Yx es.flatten=true):
  OpH P o env H (.osl H.length 0 n k) (H++[.frow e k es]):=by
 intro fr j σ N a w r;subst L;have J:=XP u;rw[Nat.mul_add]at J;obtain⟨l,R,G⟩:=J1 r E O (XQ (by omega)) Y M;have y:LR j [] w (QY env xs).flatten l:=G.data hd;have f:∀b,b<w.heap.size->(w.alloc (.cells l.toArray e)).heap[b]?=w.heap[b]? :=λb hb=>Yk _ _ b hb;have h:w.heap.size<=(w.alloc (.cells l.toArray e)).heap.size:=by simp
 have s1:=r.sim.grown f h;have m:Qj fr j w j (w.alloc (.cells l.toArray e)):=Qj.alloc _ r.sim.roLt r.sim.frLt;have X:=s1.addRo (by simp) (λq=>Nat.lt_irrefl _ (r.sim.frLt _ q)) (λi x s p B=>Nat.lt_irrefl _ (r.sim.own i _ x s p B).1)
  (λi d x s p B=>Nat.lt_irrefl _ (r.sim.hid i d x _ s p (r.sim.hidKeep s p (λz=>f d (r.sim.own i d x s p z).1) (λb q=>f b (r.sim.roLt b q)) B)).lt)
 have F:RL j [] (w.alloc (.cells l.toArray e)) k (QY env xs) l:=by
  have:=Jt (rest:=[]) M (y.mono (m.ext0 [])) (G.plain hp)
  grind
 have g:(QY env xs).length=n:=by simp[QY,O]
 have W:l.length=n*k:=by rw[G.length,YN M];grind
 have t:(w.alloc (.cells l.toArray e)).heap[w.heap.size]?=some (.cells l.toArray e (0,0)):=Ym _ _;have Q:=X.addIdle (x:=.frow e k (QY env xs)) (z:=some w.heap.size) rfl
  ⟨.inr rfl,l,t,F.mono ⟨λ_ q=>.inl q,λ_ _=>rfl,λ_ _ q=>q,λ_ _ q=>q⟩,by rw[W,g]⟩
 refine⟨_,_,λc=>j c\/c=w.heap.size,[some w.heap.size],JJ V a.eval R,.inr ⟨w.heap.size,0,n,e,l.length,?_,rfl,λ_=>by simp,(by omega),?_,by grind⟩,Q,m.trans (YO λ_ q=>.inl q)⟩
 .rw[<- r.sim.len];simp
 .unfold World.shape?;grind
theorem Le.frow{h0 s i n k t:Nat}{es:List (List A)}(h:lk env s=.osl i 0 n k)(hH:H[i]?=some (.frow t k es))(G:es.length=n):Le h0 env H (up env s (.rsl k es)) H:=by
 intro T u σ N a w r;refine⟨u,σ,⟨r.sim,?_,r.size,r.defers⟩,λ_ q=>q,rfl⟩;intro d;simp only[lk];by_cases q:d=s
 .subst q;rw[VC];have:=r.env d;rw[h]at this;rcases this with⟨g,f⟩|⟨b,p,e,M,m,g,f,x,⟨P,B⟩,Q,L⟩
  .have:es=[]:=(by grind);subst this;exact⟨none,0,by rw[f];rfl,XR _,.inl rfl⟩
  .obtain⟨j,l,E,J,R⟩:=r.sim.blk i _ _ g hH;refine⟨_,e,by rw[f,G],by omega,?_⟩;by_cases y:es=[]
   .exact .inl y
   .right;have F:0<e:=(by grind);have O:=x F;exact⟨b,0,by simp,j,(Y4 (pre:=[]) (by simpa using E) J)⟩
 .have:Nat.beq d s=false:=by
   cases z:Nat.beq d s with
   |true=>simp_all
   |false=>rfl
  rw[this];exact r.env d
theorem Qke{c:Call}{T T' e e' k i n:Nat}{x y:Operand}{ya:A}{es fs gs:List (List A)}(E:Q1 P T e k)(G:∀w,(underlying T').run P w=.ok (.slice e') w)(ab:Nat.blt 0 k=true)(Y:Nat.blt 0 fs.length=true)(z:o.op=.call c)
  (q:c={callee:=.builtin .append,args:= #[x,y],argTypes:= #[T,T']})(hx:opA env x=.osl i 0 n k)(hH:H[i]?=some (.frow e k es))(O:es.length=n)(hy:opA env y=ya)(V:Src P H ya k fs)(g:n+fs.length<=QD)
  (hg:es++fs=gs):OpH P o env H (.osl H.length 0 (n+fs.length) k) (H++[.row e k gs]):=by
 intro Q m σ N a w r;subst hg;have hf:0<fs.length:=by simp_all
 have hk:0<k:=by simp_all
 have h:=Qg r x;rw[hx]at h;have J:=Qg r y;rw[hy]at J;obtain⟨⟨ay,cy,t⟩,B,l,u,M,F⟩:=V Q m σ w _ r.sim J;rw[t]at u;rcases h with⟨h0,h⟩|⟨b,p,f,t',mm,h3,h,h4,⟨h5,aa⟩,h6,L⟩
 .have:es=[]:=(by grind);subst this;subst h0;have:=grown (es:=[]) E G z q h t r.sim (by omega) g (λ_ _=>Y8) u rfl (by simp) trivial M F B rfl rfl;omega
 .obtain⟨W,lb,g1,R,g3⟩:=r.sim.blk i _ _ h3 hH;have X:mm=n*k:=by
   grind[World.shape?]
  have hcap:=by
   rw[X,Xu]at L;exact Nat.le_of_mul_le_mul_right L hk
  obtain⟨d,o1,o2,o3⟩:∃d:List Value,(∀s:World,s.heap=w.heap->(Builtin.firstCells k n (.slice (some ⟨b,p,none⟩) n f)).run P s=.ok d.toArray s)/\LR m [] w es.flatten d/\ ∀v∈d,Qy v:=by
   have hr:VR m σ w (.rsl k es) (.slice (some ⟨b,p,none⟩) n f):=by
    refine⟨_,f,by rw[O],by omega,?_⟩;by_cases he:es=[]
    .exact .inl he
    .right;have q:0<f:=(by grind);have hp:=h4 q;exact⟨b,0,by rw[hp];simp,W,Y4 (pre:=[]) (by simpa using g1) R⟩
   have j:Src P H (.rsl k es) k es:=Src.rsl;obtain⟨_,_,l',z1,z2,z3⟩:=j Q m σ w _ r.sim hr
   grind
  have:=grown E G z q h t r.sim (by omega) g o1 u o2 o3 R.allK M F B O rfl;exact this
theorem Qkg{α:Type}{e:α->List A}{c:Call}{T T' et et' k i n:Nat}{x y:Operand}{ya:A}{l m r:List α}(h:app l m=some r)(E:Q1 P T et k)(a:∀w,(underlying T').run P w=.ok (.slice et') w)(d:Src P H ya k (m.map e))
  (f:Nat.blt 0 m.length=true:=by exact rfl)(hk:Nat.blt 0 k=true:=by exact rfl)(hn:l.length=n:=by exact rfl)(ho:o.op=.call c:=by exact rfl)(hc:c={callee:=.builtin .append,args:= #[x,y],argTypes:= #[T,T']}:=by exact rfl)(hx:opA env x=.osl i 0 n k:=by exact rfl)
  (hH:H[i]?=some (.frow et k (l.map e)):=by exact rfl)(hy:opA env y=ya:=by exact rfl):
  OpH P o env H (.osl H.length 0 r.length k) (H++[.row et k (r.map e)]):=by
 obtain⟨g,rfl⟩:=Qiz h;subst hn;have:=Qke E a hk (by grind) ho hc hx hH (by simp) hy d (by grind) (gs:=(l++m).map e) (by simp)
 grind
end
open Go.MapKept
section
variable {P:Program} {kt et:Nat} {α β:Type} [DecidableEq α] {ek:α->A} {ev:β->A} {ro:Nat->Prop} {σ:Sig} {w:World} (K:JF P kt ek)
include K
theorem Qd7:∀{l:List (α×β)} {es:List MapEntry} {k:α},ER ro σ w (Qw ek ev l) es->(∀e∈es,e.key≠Q0 (ek k))->mdel l k=l
 |[],_,_,_,_=>rfl
 |p::l,es,k,h,hk=>by
  obtain⟨e,l',rfl,h1,h2,h3⟩:=h;have e1:=VR.val (K.scl _) h1;have ih:=Qd7 h3 λe he=>hk e (by simp[he])
  grind[mdel]
theorem Qhc:∀{l:List (α×β)} {es:List MapEntry} {k:α} {j:Nat} {e:MapEntry},ER ro σ w (Qw ek ev l) es->(es.map (·.key)).Nodup->es[j]?=some e->e.key=Q0 (ek k)->ER ro σ w (Qw ek ev (mdel l k)) (es.eraseIdx j)
 |[],es,k,j,e,h,_,hj,_=>by
  cases(show es=[]from h);simp at hj
 |p::l,es,k,j,e,h,hn,hj,hk=>by
  obtain⟨e0,l',rfl,h1,h2,h3⟩:=h;have e1:=VR.val (K.scl _) h1;rw[Vg,List.nodup_cons]at hn;cases j with
  |zero=>
   simp at hj;have hp:p.1=k:=K.inj _ _ (by grind);have:=Qd7 K (k:=k) h3 (by grind);have e2:mdel (p::l) k=l:=by
    grind[mdel]
   rw[e2];exact h3
  |succ j=>
   have a:l'[j]?=some e:=by grind
   have e2:mdel (p::l) k=p::mdel l k:=by
    grind[mdel]
   rw[e2];exact⟨e0,_,rfl,h1,h2,Qhc h3 hn.2 a hk⟩
variable {o:Oper} {env:Env} {H:Qc} {T T' i:Nat} {x y:Operand} {l m:List (α×β)} {k:α}
theorem OpH.mdel{c:Call}(V:some (Sw.mdel l k)=some m)(O:P.underlying T=some (.map kt et))(Y:o.op=.call c:=by exact rfl)(hc:c={callee:=.builtin .delete,args:= #[x,y],argTypes:= #[T,T']}:=by exact rfl)
  (hx:opA env x=.map i:=by exact rfl)(hH:H[i]?=some (.map (Qw ek ev l)):=by exact rfl)(hy:opA env y=ek k:=by exact rfl):OpH P o env H (.tup []) (H.set i (.map (Qw ek ev m))):=by
 obtain rfl:=XX V;subst hc;intro fr L σ N a w r;have J:=Qg r x;rw[hx]at J;obtain⟨b,E,q2⟩:=J;have Q:=Qg r y;rw[hy]at Q;have h3:=VR.val (K.scl _) Q;obtain⟨h,d,u,t,M,R,z⟩:=r.sim.blk i _ _ E hH;have p:∀(obj:Obj) y,w.shape? b=some y->({w with heap:=w.heap.setIfInBounds b obj}:World).shape? b=some y:=by
  grind[World.shape?]
 have run:∀es':Array MapEntry,(Builtin.delete_ #[T,T'] o.type #[.map (some b),Q0 (ek k)]).run P w=.ok (.tuple #[]) {w with heap:=w.heap.setIfInBounds b (.map es' d)}->
   (execOp a.eval o).run P w=.ok (.value (.tuple #[])) {w with heap:=w.heap.setIfInBounds b (.map es' d)}:=by
  simp_all[execOp,resolve,invoke,Go.builtin]
 rcases K.find w k h.toList (Qbv K t)with⟨F,G⟩|⟨j,e,F,G,X⟩
 .have g:=r.sim.set (x':=.map (Qw ek ev (Sw.mdel l k))) (obj:=.map h d) E hH rfl (p _)
   (λe B=>⟨h,d,B,by rw[Qd7 K t G];exact t.mono e.nil,M,R,z⟩)
  refine⟨_,_,L,[],run h ?_,⟨[],rfl,rfl⟩,by grind,g.2⟩;simp[Builtin.delete_,Vj,run_underlying O,Result.andThen,MapKept.run_getObj_map u,K.check,F,MapKept.run_setObj_map _ u,go_sem]
 .have q:(h.eraseIdxIfInBounds j).toList=h.toList.eraseIdx j:=by simp
  have n:∀{γ:Type} (f:MapEntry->γ),((h.eraseIdxIfInBounds j).toList.map f).Sublist (h.toList.map f):=λf=>by
   grind
  have g:=r.sim.set (x':=.map (Qw ek ev (Sw.mdel l k))) (obj:=.map (h.eraseIdxIfInBounds j) d) E hH rfl (p _)
   (λe B=>⟨_,d,B,by rw[q];exact(Qhc K t z G X).mono e.nil,λW s=>M W ((by rw[q]at s;exact List.mem_of_mem_eraseIdx s)),(n _).nodup R,(n _).nodup z⟩)
  refine⟨_,_,L,[],run _ ?_,⟨[],rfl,rfl⟩,by simpa using g.1,g.2⟩;simp[Builtin.delete_,Vj,run_underlying O,Result.andThen,MapKept.run_getObj_map u,K.check,F,MapKept.run_setObj_map _ u,go_sem]
end
end Go.Sw
namespace Go.Sw
section
variable {P:Program} {h0 N:Nat} {all:Array Oper} {o1 o2:Oper} {l:List Oper} {env:Env} {H:Qc} {Q:QV}
theorem Qm6{t n d:Nat}{z:Value}{v:A}{cs zs:List A}{y:Operand}(hz:∀w,(zeroValue t).run P w=.ok z w)(hv:ZR v z)(hs:∀w,(Go.sizeOf t).run P w=.ok n w)
  (k:WO P h0 N all l (up env d (.rp cs)) H Q)(hk:Yr v=true:=by exact rfl)(hzs:YD v=zs:=by exact rfl)(hpl:zs.all YC=true:=by exact rfl)(hzn:zs.length=n:=by exact rfl)(hn:cs.length=n:=by exact rfl)
  (ho1:o1.op=.alloc t:=by exact rfl)(hd1:o1.dst=some d:=by exact rfl)(ho2:o2.op=.store t (.tmp d) y:=by exact rfl)(hd2:o2.dst=none:=by exact rfl)(hy:opA (up env d .any) y=.agg cs:=by exact rfl)(hda:Yx cs=true:=by exact rfl)(hcp:cs.all YC=true:=by exact rfl)(hkc:Yr (.agg cs)=true:=by exact rfl)(hcc:YD (.agg cs)=cs:=by exact rfl)
  (hg1:QB all o1 env true:=by exact rfl)(hg2:QB all o2 (up env d .any) true:=by exact rfl)(hN:Nat.blt d N=true:=by exact rfl):WO P h0 N all (o1::o2::l) env H Q:=by
 intro rd fr p σ a w r hrd;obtain⟨G,h2,h3⟩:=(hv p σ w).cells hk;rw[hzs]at h3
 let w1:World:=w.alloc (.cells G.toArray t)
 have T:(execOp a.eval o1).run P w=.ok (.value (.pointer (some ⟨w.heap.size,0,none⟩))) w1:=by
  generalize a.eval=ρ at*;have e:(newVar t z).run P w=.ok ⟨w.heap.size,0,none⟩ (w.alloc (.cells G.toArray t)):=by
   unfold newVar;rw[h2];rfl
  simp only[execOp,ho1,Instr.alloc,Vj,hz,Result.andThen,e];rfl
 refine JS (YX hg1 r) T ?_;simp only[hd1,Act.put];have X:d<N:=by simp_all
 have L:d<a.tmps.size:=by rw[r.size];exact X
 let a1:Act:={a with tmps:=a.tmps.setIfInBounds d (.pointer (some ⟨w.heap.size,0,none⟩))}
 have u:∀b,b<w.heap.size->w1.heap[b]?=w.heap[b]? :=λb hb=>Yk _ _ b hb;have J:w.heap.size<=w1.heap.size:=by grind
 have g:Qj fr p w p w1:=Qj.alloc _ r.sim.roLt r.sim.frLt;have r1:Rel fr p σ H (up env d .any) N a1 w1:=⟨r.sim.grown u J,VR.up (fr:=fr) (λs=>(r.env s).mono (g.ext0 σ)) L trivial,by simpa[a1]using r.size,r.defers.keep g⟩;have M:=Qg r1 y;rw[hy]at M;obtain⟨m,h4,V⟩:=M.cells hkc;rw[hcc]at V;have j:w1.heap[w.heap.size]?=some (.cells G.toArray t (0,0)):=Ym _ _;have W:G.length=n:=by rw[h3.length,hzn]
 have ac:m.length=n:=by rw[V.length,hn]
 have ab:=YB (P:=P) (vs:=m) 0 0 j (by omega) (V.plain hcp);have ae:splice G (0+0) m=m:=by
  unfold splice
  grind
 rw[ae]at ab
 let w2:World:={w1 with heap:=w1.heap.setIfInBounds w.heap.size (.cells m.toArray t (0,0))}
 have he:a1.eval (.tmp d)=.pointer (some ⟨w.heap.size,0,none⟩):=by
  show(a.tmps.setIfInBounds d _).getD d undef=_
  simp_all
 have F:(execOp a1.eval o2).run P w1=.ok .skip w2:=by
  have ah:(storeVar t ⟨w.heap.size,0,none⟩ (a1.eval y)).run P w1=.ok () w2:=by
   unfold storeVar;rw[Vj,hs];simp only[Result.andThen]
   grind
  simp_all[execOp,Instr.storeAt,Instr.sureAddr]
 refine QiO (YX hg2 r1) F ?_;simp only[hd2,Act.put];have f:∀b,b<w.heap.size->w2.heap[b]?=w.heap[b]? :=λb hb=>by
  grind
 have af:w2.heap.size=w1.heap.size:=by simp[w2]
 have ag:w.heap.size<w1.heap.size:=(Va.1 j).1;have E:w.heap.size<=w2.heap.size:=by omega
 have h:w2.heap[w.heap.size]?=some (.cells m.toArray t (0,0)):=by
  grind
 have s1:=r.sim.grown f E;have s2:=s1.addRo (b:=w.heap.size) (by omega) (λq=>Nat.lt_irrefl _ (r.sim.frLt _ q)) (λi x R O Y=>Nat.lt_irrefl _ (r.sim.own i _ x R O Y).1)
  (λi d x R O Y=>Nat.lt_irrefl _ (r.sim.hid i d x _ R O (r.sim.hidKeep R O (λz=>f d (r.sim.own i d x R O z).1) (λb q=>f b (r.sim.roLt b q)) Y)).lt)
 have ev:Qj fr p w (λc=>p c\/c=w.heap.size) w2:=by
  refine⟨λb q=>.inl q,λb q=>f b (r.sim.roLt b q),λb q=>f b (r.sim.frLt b q),E,?_,g.os,g.tape,g.output,g.drawn⟩
  grind[World.shape?]
 have aa:VR (λc=>p c\/c=w.heap.size) σ w2 (.rp cs) (.pointer (some ⟨w.heap.size,0,none⟩)):=by
  refine⟨w.heap.size,0,rfl,.inr rfl,?_⟩;refine QiL (pre:=[]) (by simpa using h) ?_ (V.plain hcp);have h6:LR p [] w1 cs m:=LR.data hda V;refine h6.mono ⟨λ_ q=>.inl q,λb q=>?_,λb x B=>?_,λ_ _ q=>q⟩
  .show(w1.heap.setIfInBounds w.heap.size _)[b]?=_;have:=r.sim.roLt b q;rw[Array.getElem?_setIfInBounds_ne (by omega)]
  .by_cases e:b=w.heap.size
   .subst e;unfold World.shape? at B⊢;rw[j]at B;rw[h];simp at B⊢;rw[W]at B;rw[ac];exact B
   .unfold World.shape? at B⊢;rw[show w2.heap[b]?=w1.heap[b]? from Array.getElem?_setIfInBounds_ne (Ne.symm e)];exact B
 have r2:Rel fr (λc=>p c\/c=w.heap.size) σ H (up env d (.rp cs)) N a1 w2:=
  ⟨s2,VR.up (fr:=fr) (λs=>(r.env s).mono (ev.ext0 σ)) L aa,by simpa[a1]using r.size,r.defers.keep ev⟩
 exact Yz (λe a w q=>q.step ev rfl) _ _ _ (k rd fr _ σ a1 w2 r2 (hrd.to ev λ_ q=>q))
end
section
variable {P:Program} {o:Oper} {env:Env} {H:Qc}
theorem QdC{t e:TypeId}{p:Option Addr}{w:World}(a:∀w,(underlying t).run P w=.ok (.pointer e) w):(Op.equal t (.pointer p) (.pointer none)).run P w=.ok p.isNone w:=by
 have k:∀d,(Op.equalIn (d+1) t (.pointer p) (.pointer none)).run P w=.ok p.isNone w:=by
  cases p<;>simp[Op.equalIn,a]
 exact k 9999
theorem Qj9{t e u:TypeId}{x:Operand}{i off:Nat}(l:∀w,(underlying t).run P w=.ok (.pointer e) w)(f:opA env x=.ptr i off)(h:o.op=.binOp .eql t x (.const (.pointer none)) u:=by exact rfl):OpV P o env H (.bool false):=by
 intro j n σ N a w r;have d:=Qg r x;rw[f]at d;obtain⟨b,g,k⟩:=d;have m:a.eval (.const (.pointer none))=.pointer none:=rfl;refine⟨_,?_,rfl⟩
 simp_all[execOp,Go.binOp,eqGuard,QdC]
theorem Qka{t e u:TypeId}{x:Operand}(j:∀w,(underlying t).run P w=.ok (.pointer e) w)(f:opA env x=.nilp)(g:o.op=.binOp .eql t x (.const (.pointer none)) u:=by exact rfl):OpV P o env H (.bool true):=by
 intro h l σ N a w r;have d:=Qg r x;rw[f]at d;have k:a.eval (.const (.pointer none))=.pointer none:=rfl;have i:a.eval x=.pointer none:=d;refine⟨_,?_,rfl⟩
 simp_all[execOp,Go.binOp,eqGuard,QdC]
end
section
variable {P:Program} {o:Oper} {env:Env} {H:Qc} {α:Type}
def Qh7(l:List α)(lo hi i:Int):Option α:=bif decide (0<=lo)&&(decide (0<=i)&&decide (lo+i<hi))then idx l (lo+i)else none
theorem QlO{l:List α}{lo hi i:Int}{v:α}(h:Qh7 l lo hi i=some v):0<=lo/\0<=i/\lo+i<hi/\idx l (lo+i)=some v:=by
 unfold Qh7 at h
 grind
theorem Qh6{l:List α}{lo hi i:Int}{v:α}(h:Qh7 l lo hi i=some v):idx l (lo+i)=some v:=(QlO h).2.2.2
theorem Qgv{t a k b:Nat}{x y:Operand}{l:List α}{j:IntKind}{lo hi i:Int}{v:α}(h:Qh7 l lo hi i=some v)(n:∀w,(underlying t).run P w=.ok (.slice a) w)(d:∀w,(sizeOf a).run P w=.ok k w)
  (g:o.op=.indexAddr t x y:=by exact rfl)(hx:opA env x=.osl b (0+lo.toNat) (hi.toNat-lo.toNat) k:=by exact rfl)(hy:opA env y=.int j i:=by exact rfl):OpV P o env H (.ptr b ((lo+i).toNat*k)):=by
 obtain⟨p,f,q,_⟩:=QlO h;have m:=QiC (H:=H) g n d hx hy f (by omega);have e:(0+lo.toNat)*k+i.toNat*k=(lo+i).toNat*k:=by
  rw[<- Xy]
  grind
 rwa [e]at m
end
theorem QiG{h0:Nat}{env:Env}{H H':Qc}(e:H=H'):Le h0 env H env H':=e▸Le.refl h0 env H
section
variable {P:Program} {o:Oper} {env:Env} {H:Qc}
end
section
variable {env:Env} {H:Qc}
theorem OpU.ins{P:Program}{o:Oper}{H':Qc}{T:Nat}{x y zz:Operand}(f:o.op=.insert T x y zz)(h:OpU P {o with op:=.mapUpdate T x y zz} env H H'):OpU P o env H H':=by
 intro j l σ N a w r;obtain⟨i,d,τ,e,k,g⟩:=h j l σ N a w r;exact⟨i,d,τ,by simpa only[execOp,f]using e,k,g⟩
end
section
variable {P:Program} {o:Oper} {env:Env} {H:Qc} {T kt et:Nat} {α β:Type} [DecidableEq α] {ek:α->A} {ev:β->A} {x y:Operand} {i:Nat} {l:List (α×β)} {k:α} {z:Value} {zA:A}
end
open Go.Sort Go.Proofs Go.Shelf
end Go.Sw
namespace Go.Sw
def fnm(P:Program)(i:Nat):String:=match P.funcs[i]? with|some f=>f.name|none=>""
theorem Qiy{P:Program}{f:FuncId}{B:Func}(d:(fnm P f=="runtime.NumGoroutine")=false)(h:P.funcs[f]?=some {B with name:=fnm P f}):Go.Proofs.Bears P f B:=⟨_,d,h⟩
def slK(P:Program)(t:Nat):Nat:=match P.underlying t with|some (.slice e)=>e|_=>0
def zA1:A->Value
 |.int k n=>.int k n
 |.bool b=>.bool b
 |.str _=>.string ⟨#[]⟩
 |.rsl _ _=>.slice none 0 0
 |.nils=>.slice none 0 0
 |.nilp=>.pointer none
 |.nilm=>.map none
 |.nilif=>.nilIface
 |_=>.nilFunc
def zA:A->Value
 |.agg r=>.agg (r.map zA1).toArray
 |a=>zA1 a
def kL(P:Program)(F:List (Nat×List (Nat×Nat)))(T:TyX)(Z:TyZ)(w:World):=
 (F.map λe=>(underlying e.1).run P w,F.map λe=>(P.fieldsOf e.1).toList.map λf=>(f.offset,(sizeOf f.type).run P w),
  T.ty.agg.map λe=>((isAgg e.1).run P w,(sizeOf e.1).run P w),T.ty.zer.map λe=>(zeroValue e.1).run P w,
  T.al.map λe=>(zeroValue e.1).run P w,T.sl.map λt=>(underlying t).run P w,Z.sl.map λe=>((underlying e.1).run P w,(sizeOf e.2.1).run P w))
def kR(P:Program)(F:List (Nat×List (Nat×Nat)))(T:TyX)(Z:TyZ)(w:World):=
 (F.map λe=>Result.ok (TypeDesc.struct (P.fieldsOf e.1)) w,F.map λe=>e.2.map λx=>(x.1,Result.ok x.2 w),
  T.ty.agg.map λe=>(Result.ok e.2.1 w,Result.ok e.2.2 w),T.ty.zer.map λe=>Result.ok (zA (.agg e.2.1)) w,
  T.al.map λe=>Result.ok (zA e.2) w,T.sl.map λt=>Result.ok (TypeDesc.slice (slK P t)) w,Z.sl.map λe=>(Result.ok (TypeDesc.slice e.2.1) w,Result.ok e.2.2 w))
def kT(F:List (Nat×List (Nat×Nat)))(T:TyX):Bool:=
 chkF F T.ty.fld&&T.ty.zer.all (λe=>zrB (.agg e.2.1) (zA (.agg e.2.1))&&F.contains (e.1,e.2.2))&&T.al.all λe=>zrB e.2 (zA e.2)&&Yr e.2&&(YD e.2).all YC
theorem Qb4{α β:Type}{L:List α}{f g:World->α->β}(h:∀w,L.map (f w)=L.map (g w)){e:α}(he:e∈L)(w:World):f w e=g w e:=List.map_inj_left.1 (h w) e he
theorem PL.ofK{P:Program}:∀{fs:List Field} {pl:List (Nat×Nat)},(∀w:World,fs.map (λf=>(f.offset,(sizeOf f.type).run P w))=pl.map λx=>(x.1,Result.ok x.2 w))->PL P fs pl
 |[],[],_=>.nil
 |[],_::_,h=>by cases h default
 |_::_,[],h=>by cases h default
 |f::fs,(a,n)::pl,h=>by
  have h1:=λw=>List.cons.inj (h w);have e:=λw=>Prod.mk.inj (h1 w).1;obtain rfl:f.offset=a:=(e default).1;exact .cons (λw=>(e w).2) (PL.ofK λw=>(h1 w).2)
section
variable {P:Program} {F:List (Nat×List (Nat×Nat))} {T:TyX} {Z:TyZ}
theorem Qpw(h:kL P F T Z=kR P F T Z):∀e∈F,Qek P e.1 e.2:=λe he=>
 ⟨_,λw=>by simpa using Qb4 (f:=λw e=>(underlying e.1).run P w) (λw=>(Prod.mk.inj (congrFun h w)).1) he w,PL.ofK λw=>Qb4 (f:=λw e=>(P.fieldsOf e.1).toList.map λf=>(f.offset,(sizeOf f.type).run P w)) (λw=>(Prod.mk.inj (Prod.mk.inj (congrFun h w)).2).1) he w⟩
theorem Qa2.ofK(h:kL P F T Z=kR P F T Z)(k:kT F T=true):Qa2 P T:=by
 have d:=Qpw h;simp only[kT,XU,Xs]at k;refine⟨⟨QqM d k.1.1,λe a=>?_,λe a=>?_⟩,λe a=>?_,λe a=>?_⟩
 .have:=Qb4 (f:=λw e=>((isAgg e.1).run P w,(sizeOf e.1).run P w)) (λw=>(Prod.mk.inj (Prod.mk.inj (Prod.mk.inj (congrFun h w)).2).2).1) a;exact⟨λw=>(Prod.mk.inj (this w)).1,λw=>(Prod.mk.inj (this w)).2⟩
 .have:=Qb4 (f:=λw e=>(zeroValue e.1).run P w) (λw=>(Prod.mk.inj (Prod.mk.inj (Prod.mk.inj (Prod.mk.inj (congrFun h w)).2).2).2).1) a;have q:=k.1.2 e a;exact⟨⟨_,this,zrC q.1⟩,d _ (List.contains_iff_mem.1 q.2)⟩
 .have:=Qb4 (f:=λw e=>(zeroValue e.1).run P w) (λw=>(Prod.mk.inj (Prod.mk.inj (Prod.mk.inj (Prod.mk.inj (Prod.mk.inj (congrFun h w)).2).2).2).2).1) a;have q:=k.2 e a;exact⟨⟨_,this,zrC q.1.1⟩,q.1.2,Xs.2 q.2⟩
 .exact⟨_,Qb4 (f:=λw t=>(underlying t).run P w) (λw=>(Prod.mk.inj (Prod.mk.inj (Prod.mk.inj (Prod.mk.inj (Prod.mk.inj (Prod.mk.inj (congrFun h w)).2).2).2).2).2).1) a⟩
theorem QcN.ofK(h:kL P F T Z=kR P F T Z)(k:∀f∈Z.fn,∀(a:Array Value) (w:World),(callFunc f a).run P w=.ok (.enter f a) w):QcN P Z:=⟨λe he=>by
 have:=Qb4 (f:=λw e=>((underlying e.1).run P w,(sizeOf e.2.1).run P w)) (λw=>(Prod.mk.inj (Prod.mk.inj (Prod.mk.inj (Prod.mk.inj (Prod.mk.inj (Prod.mk.inj (congrFun h w)).2).2).2).2).2).2) he;exact⟨λw=>(Prod.mk.inj (this w)).1,λw=>(Prod.mk.inj (this w)).2⟩,k⟩
theorem QqW{L:List Nat}(h:(λ(a:Array Value) (w:World)=>L.map λf=>(callFunc f a).run P w)=λa w=>L.map λf=>.ok (.enter f a) w):∀f∈L,∀(a:Array Value) (w:World),(callFunc f a).run P w=.ok (.enter f a) w:=
 λf hf a=>Qb4 (f:=λw f=>(callFunc f a).run P w) (λw=>congrFun (congrFun h a) w) hf
end
section
variable {P:Program}
theorem Qlw.c{f:Field}{fs:List Field}{h off e:Nat}{a d:List Value->Prop}(g:∀h,QiI P f.type (h+1) 1 false a)(j:Qlw P fs (h+1) (off+1) e d)(i:Nat.beq f.offset off=true:=by exact rfl)(hn:f.name≠"_":=by decide):
  Qlw P (f::fs) (h+1) off (1+e) (λl=>∃l1 l2,l=l1++l2/\a l1/\d l2):=Qlw.cons i hn (g h) (λ_=>rfl) j
theorem RF.c1{n:Nat}{T:Type}{e:T->List A}{wf:T->Prop}{f:Field}{fs:List Field}{off L:Nat}{T2:Type}{d:T2->List A}{a:T2->Prop}(h:RB P n f.type T e wf)(r:RF P n fs (off+1) L T2 d a)(g:f.offset=off:=by exact rfl)(hk:P.cellsOf f.type=1:=by kernel_rfl):
  RF P n (f::fs) off L (T×T2) (λp=>e p.1++d p.2) (λp=>wf p.1/\a p.2):=RF.cons g hk h r
end
@[reducible] def Kp{β:Type}(P:Program)(F:Option β)(f:FuncId)(args:List A)(H:Qc)(w:β->A)(H1:β->Qc):Prop:=∀r,F=some r->C P f args H (RQ w H1 r)
theorem Kp.b{β:Type}{P:Program}{F:Option β}{f:FuncId}{fn:Func}{c:Code}{N:Nat}{args:List A}{H:Qc}{w:β->A}{H1:β->Qc}(hf:P.funcs[f]?=some fn)(hb:fn.body=some c)(hN:fn.ntmps=N)(hA:Nat.ble args.length N=true)
  (h:∀r,F=some r->TC P H.length N c (QeG 0 args) H (QbL P H.length fn (RQ w H1 r))):Kp P F f args H w H1:=λr e=>QG hf hb hN hA (h r e)
abbrev Ea:=@Ev.bind
abbrev Ec:=@FzH.keep
abbrev Ed:=@FzL.cons
abbrev Ee:=@FzA.refl
abbrev Ef:=@PL.cons
abbrev Eg:=@DS.done
abbrev Eh:=@EvI.done
abbrev Ei:=@FzL.refl
abbrev Ej:=@OpH.lit
abbrev Ek:=@RF.cons
abbrev El:=@RF.c1
abbrev Em:=@Le.trans
abbrev En:=@FzA.o
abbrev Eo:=@Le.phantom
abbrev Ep:=@Ev.or
abbrev Er:=@Ev.eq
abbrev Et:=@EvI.cont
abbrev Eu:=@Ev.iter
abbrev Ew:=@DK.op
abbrev Ex:=@OpU.store
abbrev Ey:=@OpV.load
abbrev Ez:=@Ev.const
theorem Zf.{u,v}{α:Sort u}{β:Sort v}{f:α->β}:∀x,f x=f x:=λ_=>rfl
abbrev Ze.{u,v}{α:Sort u}{β:Type v}:α->List β:=λ_=>[]
end Go.Sw
