/- The rules by which the code is walked, with what they rest on (part 3). -/
import Derived.Test.YtkfjchmhgpkcbaaGreatL2
set_option linter.unusedVariables false
set_option linter.unusedSectionVars false
set_option linter.unusedSimpArgs false
namespace Go.Sw
structure TyX where
 ty:TyI
 al:List (Nat×A)
 sl:List Nat
structure Qby (P:Program) (T:TyX):Prop where
 ty:TyOK P T.ty
 al:∀e∈T.al,(∃z,(∀w,(zeroValue e.1).run P w=.ok z w)/\ZR e.2 z)/\Yv e.2=true/\(Yj e.2).all YG=true
 sl:∀t∈T.sl,∃et,∀w,(underlying t).run P w=.ok (.slice et) w
def Y1(all:Array Oper)(o:Oper)(env:Env):Option Bool:=
 match o.guard with
 |none=>some true
 |some (j,c)=>match(all[j]?).bind (·.dst)with
  |none=>none
  |some d=>match lk env d with
   |.bool true=>some c
   |.bool false=>some (!c)
   |.tup []=>some false
   |_=>none
theorem QZ{all:Array Oper}{o:Oper}{env:Env}{b:Bool}(h:Y1 all o env=some b):Qx all o env b:=by
 unfold Y1 at h;unfold Qx;split at h
 .rename_i q;rw[q];cases h;rfl
 .rename_i j c q;rw[q];split at h
  .cases h
  .rename_i d e;refine⟨d,e,?_⟩;split at h
   .rename_i a;cases h;exact .inl ⟨true,a,by simp⟩
   .rename_i a;cases h;exact .inl ⟨false,a,by cases c<;>rfl⟩
   .rename_i a;cases h;exact .inr ⟨a,rfl⟩
   .cases h
def Qde:List Nat->Nat->Bool
 |[],_=>false
 |a::r,t=>bif Nat.beq a t then true else Qde r t
theorem Qgp{l:List Nat}{t:Nat}(h:Qde l t=true):t∈l:=by
 induction l with
 |nil=>cases h
 |cons a r b=>
  unfold Qde at h;cases q:Nat.beq a t with
  |true=>have:=XY q;subst this;exact .head _
  |false=>rw[q]at h;exact .tail _ (b h)
inductive FL where
 |mk (l:List A)
def fl:List A->FL
 |[]=>.mk []
 |a::r=>match fl r with
  |.mk r'=>.mk (a::r')
theorem Qb6:∀l:List A,fl l=.mk l
 |[]=>rfl
 |a::r=>by unfold fl;rw[Qb6 r]
inductive FB where
 |mk (l:List Blk)
def fb:List Blk->FB
 |[]=>.mk []
 |a::r=>match fb r with
  |.mk r'=>.mk (a::r')
theorem Qjq:∀l:List Blk,fb l=.mk l
 |[]=>rfl
 |a::r=>by unfold fb;rw[Qjq r]
inductive FN where
 |mk (n:Nat)
def fn:List Blk->Nat->FN
 |[],n=>.mk n
 |_::r,n=>fn r (n+1)
theorem Ql7:∀(l:List Blk) (n:Nat),fn l n=.mk (l.length+n)
 |[],n=>by simp[fn]
 |a::r,n=>by unfold fn;rw[Ql7 r];simp;omega
def Qjo(env:Env)(pl:List (Nat×Nat)):List A->List (Nat×Operand)->Option (List A)
 |cs,[]=>some cs
 |cs,(i,x)::r=>match Y0 pl i with
  |none=>none
  |some (off,size)=>match opB env x with
   |.mk a=>match fl (Yj a)with
    |.mk vs=>bif Yv a&&Nat.beq vs.length size&&Nat.ble (off+size) cs.length then(match fl (splice cs off vs)with
     |.mk cs'=>Qjo env pl cs' r)else none
theorem Qhw{env:Env}{pl:List (Nat×Nat)}:∀(parts:List (Nat×Operand)) (cs:List A),Qjo env pl cs parts=QeG env pl cs parts
 |[],cs=>rfl
 |(i,x)::r,cs=>by
  unfold Qjo QeG;rw[Qay];cases pl[i]? with
  |none=>rfl
  |some q=>
   obtain⟨off,size⟩:=q;cases h:opB env x with
   |mk a=>
    rw[QH h];simp only[Qb6];cases(Yv a&&Nat.beq (Yj a).length size&&Nat.ble (off+size) cs.length)with
    |false=>rfl
    |true=>exact Qhw r _
def Qhj(env:Env):List Operand->List A
 |[]=>[]
 |x::r=>match opB env x with
  |.mk a=>a::Qhj env r
theorem QcE{env:Env}:∀l:List Operand,Qhj env l=l.map (opA env)
 |[]=>rfl
 |x::r=>by
  unfold Qhj;cases h:opB env x with
  |mk a=>rw[Vs,QH h];show a::Qhj env r=_;rw[QcE r]
def ptX(H:Qc):Bx->Option Lx
 |.mk (.rp cs)=>some (.mk cs)
 |.mk (.ptr i off)=>match Y0 H i with
  |some (.cells _ cs)=>some (QhO off cs)
  |_=>none
 |_=>none
theorem QoJ{H:Qc}{p:A}{cs:List A}(h:ptX H (.mk p)=some (.mk cs)):Pts H p cs:=by
 unfold ptX at h;split at h
 .rename_i q;cases q;cases h;exact Pts.rp
 .rename_i i b q;cases q;split at h
  .rename_i a;rw[Qay]at a;simp only[Option.some.injEq]at h;exact Pts.cells a (QeX h)
  .cases h
 .cases h
def Qc4(T:TyX)(o:Oper)(env:Env)(H:Qc):Option A:=
 match o.op with
 |.move x=>match opB env x with|.mk a=>some a
 |.assign x=>match opB env x with|.mk a=>some a
 |.nilCheck x=>nlB (opB env x)
 |.extract x i=>exB (opB env x) i
 |.unOp u _ x=>unB u (opB env x)
 |.pick c x y=>piB (opB env c) (opB env x) (opB env y)
 |.binOp b _ x y _=>biB b (opB env x) (opB env y)
 |.fieldAddr t x f=>match Qht T.ty.fld t f with
  |none=>none
  |some off=>match opB env x with
   |.mk (.ptr i p)=>some (.ptr i (p+off))
   |.mk (.rp cs)=>match QhO off cs with
    |.mk r=>some (.rp r)
   |_=>none
 |.load t x=>match Qb1 T.ty.agg t with
  |none=>none
  |some (b,n)=>match x with
   |.global g=>match Y0 Qir g with
    |some zs=>bif b&&Nat.beq zs.length n then(match fl (zs.map (A.int .i64))with|.mk l=>some (.agg l))else none
    |none=>none
   |x=>match ptX H (opB env x)with
    |none=>none
    |some (.mk cs)=>match b with
     |true=>(match fl (cs.take n)with|.mk l=>bif Nat.beq l.length n then some (.agg l)else none)
     |false=>(match cs with|[]=>none|a::_=>some a)
 |.build t parts=>match Qb1 T.ty.zer t with
  |none=>none
  |some (zs,pl)=>match Qjo env pl zs parts.toList with
   |some cs=>some (.agg cs)
   |none=>none
 |.makeFunc f first cap=>match fl (Qhj env first.toList),fl (Qhj env cap.toList)with
  |.mk l,.mk l'=>some (.fn f l l')
 |.call c=>match c with
  |{callee:=.builtin .len,args:=⟨[x]⟩,argTypes:=⟨[t]⟩}=>bif Qde T.sl t then(match opB env x with
   |.mk (.osl _ 0 n _)=>some (.int .i64 n)
   |_=>none)else none
  |_=>none
 |_=>none
theorem Qat{P:Program}{T:TyX}(s:Qby P T){o:Oper}{env:Env}{H:Qc}{x:A}(h:Qc4 T o env H=some x):OpV P o env H x:=by
 unfold Qc4 at h;split at h
 .rename_i y a;exact QbB a (by unfold svB;exact h)
 .rename_i y a;exact QbB a (by unfold svB;exact h)
 .rename_i y a;exact QbB a (by unfold svB;exact h)
 .rename_i y i a;exact QbB a (by unfold svB;exact h)
 .rename_i u t y a;exact QbB a (by unfold svB;exact h)
 .rename_i c y z a;exact QbB a (by unfold svB;exact h)
 .rename_i b t y z u a;exact QbB a (by unfold svB;exact h)
 .rename_i t y f a;split at h
  .cases h
  .rename_i w l;obtain⟨n,F⟩:=s.ty.fld _ (Qhs l);split at h
   .rename_i i p B;cases h;exact Qco F a (QH B)
   .rename_i d B;cases q:QhO w d with
    |mk r=>rw[q]at h;cases h;exact Qfe F a (QH B) (QeX q)
   .cases h
 .rename_i t y a;split at h
  .cases h
  .rename_i b n R;obtain⟨j,m⟩:=s.ty.agg _ (Qau R);split at h
   .rename_i g;split at h
    .rename_i J G;rw[Qay]at G;cases q:(b&&Nat.beq J.length n)with
     |false=>rw[q]at h;cases h
     |true=>
      rw[q,Qb6]at h;cases h;simp only[X5]at q;obtain⟨rfl,E⟩:=q;exact Qf6 j m G (XY E) a
    .cases h
   .cases e:opB env y with
    |mk p=>
     rw[e]at h;split at h
     .cases h
     .rename_i d M;have L:=QoJ M;cases b with
      |true=>
       simp only[Qb6]at h;cases q:Nat.beq (d.take n).length n with
       |false=>rw[q]at h;cases h
       |true=>
        rw[q]at h;cases h;exact QX a j m (QH e) L rfl (XY q)
      |false=>
       cases d with
       |nil=>cases h
       |cons v d=>cases h;exact OpV.load a j (QH e) L
 .rename_i t parts a;split at h
  .cases h
  .rename_i J W O;obtain⟨⟨z,j,m⟩,N⟩:=s.ty.zer _ (Qau O);split at h
   .rename_i d l;cases h;rw[Qhw]at l;exact OpV.build j m N (by rw[a]) l
   .cases h
 .rename_i f first cap a
  simp only[Qb6]at h;cases h;rw[QcE,QcE];exact OpV.makeFunc (first:=first.toList) (cap:=cap.toList) (by rw[a]) rfl rfl
 .rename_i c a;split at h
  .rename_i y t;cases q:Qde T.sl t with
   |false=>rw[q]at h;cases h
   |true=>
    rw[q]at h;simp only[cond_true]at h;obtain⟨V,Q⟩:=s.sl t (Qgp q);split at h
    .rename_i i n k E;cases h;exact QkQ Q a rfl (QH E)
    .cases h
  .cases h
 .cases h
def stX(T:TyX)(h0 N:Nat)(all:Array Oper)(o:Oper)(env:Env)(H:Qc):Option (Env×Qc):=
 match Y1 all o env with
 |none=>none
 |some false=>match o.dst with
  |none=>none
  |some d=>bif Nat.blt d N then some (up env d (.tup []),H)else none
 |some true=>match o.dst with
  |none=>match o.op with
   |.store t x y=>match opB env x,Qb1 T.ty.agg t with
    |.mk (.ptr i off),some (_,n)=>match Y0 H i with
     |some (.cells S cs)=>match opB env y with
      |.mk a=>match fl (Yj a)with
       |.mk vs=>bif Nat.ble h0 H.length&&(Yv a&&(Nat.beq vs.length n&&(vs.all YG&&Nat.ble (off+n) cs.length)))then(match fl (splice cs off vs)with
        |.mk cs'=>match fb (H.set i (.cells S cs'))with
         |.mk H'=>some (env,H'))else none
     |_=>none
    |_,_=>none
   |_=>none
  |some d=>bif Nat.blt d N then(match o.op with
   |.alloc t=>match Qb1 T.al t with
    |some v=>bif Nat.ble h0 H.length then(match fn H 0,fl (Yj v)with
     |.mk n,.mk cs=>match fb (H++[.cells t cs])with
      |.mk H'=>some (up env d (.ptr n 0),H'))else none
    |none=>none
   |.box t x=>match opB env x with
    |.mk a=>bif Nat.ble h0 H.length&&(Yv a&&(Yj a).all YG)then(match fn H 0,fl (Yj a)with
     |.mk n,.mk cs=>match fb (H++[.cells t cs])with
      |.mk H'=>some (up env d (.ptr n 0),H'))else none
   |_=>match Qc4 T o env H with
    |some a=>some (up env d a,H)
    |none=>none)else none
section
variable {P:Program}{T:TyX}{h0 N:Nat}{all:Array Oper}{l l':List Oper}{env env':Env}{H H':Qc}{Q:QE}
theorem Qli(s:Qby P T){o:Oper}(h:stX T h0 N all o env H=some (env',H'))(k:WO P h0 N all l env' H' Q):WO P h0 N all (o::l) env H Q:=by
 unfold stX at h;split at h
 .cases h
 .rename_i u;have g:=QZ u;split at h
  .cases h
  .rename_i d f;cases q:Nat.blt d N with
   |false=>rw[q]at h;cases h
   |true=>rw[q]at h;cases h;exact WO.skip g f q k
 .rename_i u;have g:=QZ u;split at h
  .rename_i f;split at h
   .rename_i t x y j;split at h
    .rename_i i r b n V L;split at h
     .rename_i S cs hH;rw[Qay]at hH;cases e:opB env y with
      |mk a=>
       rw[e]at h;simp only[Qb6,Qjq]at h;generalize hc:(Nat.ble h0 H.length&&(Yv a&&(Nat.beq (Yj a).length n&&((Yj a).all YG&&Nat.ble (r+n) cs.length))))=c at h;cases c with
       |false=>cases h
       |true=>
        cases h;simp only[X5]at hc;obtain⟨m,p,w,R,E⟩:=hc;obtain⟨_,M⟩:=s.ty.agg _ (Qau L);exact QiN (XZ m) g f (OpU.store j (QH V) hH M (QH e) p rfl (XY w) R E rfl) k
     .cases h
    .cases h
   .cases h
  .rename_i d f;cases q:Nat.blt d N with
   |false=>rw[q]at h;cases h
   |true=>
    rw[q]at h;simp only[cond_true]at h;split at h
    .rename_i t j;split at h
     .rename_i v G;cases c:Nat.ble h0 H.length with
      |false=>rw[c]at h;cases h
      |true=>
       rw[c]at h;simp only[Qb6,Qjq,Ql7,cond_true,XD]at h;cases h;obtain⟨⟨z,O,F⟩,B,J⟩:=s.al _ (Qau G);exact Qcm (XZ c) g f q (Qcp O F j B rfl J) k
     .cases h
    .rename_i t x j;cases e:opB env x with
     |mk a=>
      rw[e]at h;simp only[Qb6,Qjq,Ql7,XD]at h;generalize hc:(Nat.ble h0 H.length&&(Yv a&&(Yj a).all YG))=c at h;cases c with
      |false=>cases h
      |true=>
       cases h;simp only[X5]at hc;obtain⟨m,p,w⟩:=hc;exact Qcm (XZ m) g f q (OpH.box j (QH e) p rfl w) k
    .split at h
     .rename_i a W;cases h;exact QM g f q (Qat s W) k
     .cases h
end
theorem yc{α:Type}{p:α->Prop}{a:α}{l:List α}(h:p a)(k:∀x∈l,p x):∀x∈a::l,p x:=List.forall_mem_cons.2 ⟨h,k⟩
theorem FA{P:Program}{T f off n:Nat}{fs:Array Field}{a:Field}(b:∀w,(underlying T).run P w=.ok (.struct fs) w)(d:fs[f]?=some a)(g:∀w,(sizeOf a.type).run P w=.ok n w)(e:a.offset=off:=by exact rfl)(h5:n≠0:=by decide):Jy P T f off n:=⟨_,_,b,d,e,g,h5⟩
theorem QbC:∀(π:List Nat) (H:Qc) (xs:List Blk),π.map (λp=>H[p]?)=xs.map some->Ys H π xs=H
 |[],H,xs,h=>by
  have:xs=[]:=by cases xs with
   |nil=>rfl
   |cons x xs=>simp at h
  subst this;simp[Ys]
 |p::π,H,[],h=>by simp at h
 |p::π,H,x::xs,h=>by
  simp only[Vs,List.cons.injEq]at h;have e:H.set p x=H:=by
   apply List.ext_getElem?;intro i;rw[Xb];by_cases q:p=i
   .subst q;rw[if_pos rfl,h.1];have:=(XT.1 h.1).1;rw[if_pos this]
   .rw[if_neg q]
  unfold Ys;rw[e];exact QbC π H xs h.2
def Qii:A->Option Bx
 |.bool b=>some (.mk (.bool b))
 |.int k n=>some (.mk (.int k n))
 |.str s=>some (.mk (.str s))
 |.rsl k es=>some (.mk (.rsl k es))
 |_=>none
theorem Qi8{v a:A}(h:Qii v=some (.mk a))(ρ:Nat->Nat):YK ρ v=a:=by
 cases v<;>first|(cases h;rfl)|cases h
theorem Pc{P:Program}{h0 N:Nat}{all:Array Oper}{o:Oper}{l:List Oper}{env:Env}{H:Qc}{Q:QE}{d:Nat}{f:FuncId}{args b:List A}{Hc:Qc}{v g:A}(π:List Nat)(i:o.dst=some d)(e:OpC P o env H f args)(j:C P f b Hc (λa H1=>a=v/\H1=Hc))(h:Qii v=some (.mk g))
  (k:WO P h0 N all l (up env d g) H Q)
  (hargs:args=Qaa (rho π H.length) b:=by exact rfl)(hH:π.map (λp=>H[p]?)=(Hc.map (Q9 (rho π H.length))).map some:=by exact rfl)(hπ:π.Nodup:=by decide)
  (hg:Qx all o env true:=by exact rfl)(hN:Nat.blt d N=true:=by exact rfl)(hh:Nat.ble h0 H.length=true:=by exact rfl):WO P h0 N all (o::l) env H Q:=by
 refine QA π e j ?_ hargs hH hπ hg i hN hh;rintro r H1 ⟨rfl,rfl⟩;rw[Qi8 h,QbC π H _ hH];exact k
theorem Ya{i k:Nat}{es:List (List A)}:∀H:Qc,FzH i k es H H
 |[]=>.nil
 |_::r=>.keep (Ya r)
def foN:Nat->FN
 |0=>.mk 0
 |n+1=>match foN n with
  |.mk m=>.mk (m+1)
theorem QeE:∀n,foN n=.mk n
 |0=>rfl
 |n+1=>by unfold foN;rw[QeE n]
mutual
def foA:A->Bx
 |.agg cs=>match foL cs with
  |.mk l=>.mk (.agg l)
 |.tup cs=>match foL cs with
  |.mk l=>.mk (.tup l)
 |.fn f a c=>match foL a,foL c with
  |.mk l,.mk l'=>.mk (.fn f l l')
 |.iface t v=>match foA v with
  |.mk v'=>.mk (.iface t v')
 |.ptr i off=>match foN i with
  |.mk i'=>.mk (.ptr i' off)
 |.osl i o n k=>match foN i with
  |.mk i'=>.mk (.osl i' o n k)
 |.map i=>match foN i with
  |.mk i'=>.mk (.map i')
 |a=>.mk a
def foL:List A->FL
 |[]=>.mk []
 |a::r=>match foA a,foL r with
  |.mk a',.mk r'=>.mk (a'::r')
end
mutual
theorem Qis:∀a:A,foA a=.mk a
 |.agg cs=>by unfold foA;rw[Qci cs]
 |.tup cs=>by unfold foA;rw[Qci cs]
 |.fn f a c=>by unfold foA;rw[Qci a,Qci c]
 |.iface t v=>by unfold foA;rw[Qis v]
 |.ptr i off=>by unfold foA;rw[QeE]
 |.osl i o n k=>by unfold foA;rw[QeE]
 |.map i=>by unfold foA;rw[QeE]
 |.any|.bool _|.int _ _|.str _|.nilp|.rp _|.nils|.rsl _ _|.nilf|.nilif|.nilm=>by rfl
theorem Qci:∀l:List A,foL l=.mk l
 |[]=>by rfl
 |a::r=>by unfold foL;rw[Qis a,Qci r]
end
inductive FE2 where
 |mk (l:List (List A))
def foE:List (List A)->FE2
 |[]=>.mk []
 |a::r=>match foL a,foE r with
  |.mk a',.mk r'=>.mk (a'::r')
theorem Ql6:∀l,foE l=.mk l
 |[]=>rfl
 |a::r=>by unfold foE;rw[Qci,Ql6 r]
def foH:List Blk->FB
 |[]=>.mk []
 |b::r=>match foH r with
  |.mk r'=>match b with
   |.cells t cs=>match foL cs with
    |.mk l=>.mk (.cells t l::r')
   |.rowr t k es=>match foE es with
    |.mk l=>.mk (.rowr t k l::r')
   |.dead=>.mk (.dead::r')
   |.row t k es=>.mk (.row t k es::r')
   |.map es=>.mk (.map es::r')
   |.iter c es=>.mk (.iter c es::r')
   |.fmap es=>.mk (.fmap es::r')
   |.mapO fz t k es=>.mk (.mapO fz t k es::r')
   |.ents t a b es=>match foN a,foN b with
    |.mk a',.mk b'=>.mk (.ents t a' b' es::r')
theorem Ql5:∀l,foH l=.mk l
 |[]=>rfl
 |b::r=>by
  unfold foH;rw[Ql5 r];cases b<;>simp only[Qci,Ql6,QeE]
def foS(env:Env)(H:Qc):Option (Env×Qc):=
 match foH H with
 |.mk H'=>match env with
  |[]=>some ([],H')
  |(d,a)::e=>match foA a with
   |.mk a'=>some ((d,a')::e,H')
theorem Qo2(env:Env)(H:Qc):foS env H=some (env,H):=by
 unfold foS;rw[Ql5];cases env with
 |nil=>rfl
 |cons p e=>obtain⟨d,a⟩:=p;simp only[Qis]
theorem FE{P:Program}{h0 N:Nat}{all:Array Oper}{l:List Oper}{env env':Env}{H H':Qc}{Q:QE}(h:foS env H=some (env',H'))(k:WO P h0 N all l env' H' Q):WO P h0 N all l env H Q:=by
 rw[Qo2]at h;cases h;exact k
theorem R1{P:Program}{h0:Nat}{fn:Func}{env:Env}{H Hc:Qc}{v:A}(s:Nat)(hr:fn.results= #[.tmp s])(hle:Le h0 env H [(s,v)] Hc):QcT P h0 fn (λa H=>a=v/\H=Hc) .ret env H:=
 ⟨[(s,v)],Hc,v,hle,QcU.one hr (by show lk [(s,v)] s=v;unfold lk;rw[Nat.beq_refl];rfl),rfl,rfl⟩
theorem R2{P:Program}{h0:Nat}{fn:Func}{env:Env}{H Hc:Qc}{v v':A}(s t:Nat)(hr:fn.results= #[.tmp s,.tmp t])(hn:Nat.beq t s=false)(hle:Le h0 env H [(s,v),(t,v')] Hc):QcT P h0 fn (λa H=>a=.tup [v,v']/\H=Hc) .ret env H:=
 ⟨[(s,v),(t,v')],Hc,_,hle,QkI hr (by show lk [(s,v),(t,v')] s=v;unfold lk;rw[Nat.beq_refl];rfl) (by show lk [(s,v),(t,v')] t=v';unfold lk lk;rw[hn,Nat.beq_refl];rfl),rfl,rfl⟩
theorem FzA.o{i k n:Nat}{es:List (List A)}(a:n=es.length:=by first|exact(Va ..).symm|exact rfl):FzA i k es (.osl i 0 n k) (.rsl k es):=FzA.own a
end Go.Sw
namespace Go.Sw
theorem Le.env{h0:Nat}{env env':Env}{H:Qc}(h:∀s,lk env' s=.any\/lk env' s=lk env s):Le h0 env H env' H:=by
 intro d b σ N a w r;refine⟨b,σ,⟨r.sim,λs=>?_,r.size,r.defers⟩,λ_ q=>q,rfl⟩;rcases h s with h|h
 .rw[h];trivial
 .rw[h];exact r.env s
def Qm9(env:Env):Env->Prop
 |[]=>True
 |(s,a)::r=>lk env s=a/\Qm9 env r
theorem Qm9.ok{env:Env}:∀{env':Env},Qm9 env env'->∀s,lk env' s=.any\/lk env' s=lk env s
 |[],_,s=>.inl rfl
 |(d,a)::e,⟨h1,h2⟩,s=>by
  by_cases q:s=d
  .subst q;right;simp only[lk,Nat.beq_refl,cond_true];exact h1.symm
  .have:Nat.beq s d=false:=by
    rw[Bool.eq_false_iff];intro b;exact q (XY b)
   simp only[lk,this,cond_false];exact Qm9.ok h2 s
theorem Lw{h0:Nat}{env env':Env}{H:Qc}(h:Qm9 env env'):Le h0 env H env' H:=Le.env h.ok
theorem Qow(n i:Nat):rho (List.range n) n i=i:=by
 unfold rho;by_cases h:i<n
 .rw[List.getElem?_range h]
 .rw[XW (by rw[Xz];omega)];simp only[Xz];omega
mutual
theorem Qjb{ρ:Nat->Nat}(h:∀i,ρ i=i):∀a:A,YK ρ a=a
 |.ptr i off=>by simp[YK,h]
 |.osl i o n k=>by simp[YK,h]
 |.agg cs=>by simp[YK,QaL h cs]
 |.fn f a c=>by simp[YK,QaL h a,QaL h c]
 |.iface t v=>by simp[YK,Qjb h v]
 |.map i=>by simp[YK,h]
 |.tup vs=>by simp[YK,QaL h vs]
 |.any|.bool _|.int _ _|.str _|.nilp|.rp _|.nils|.rsl _ _|.nilf|.nilif|.nilm=>by rfl
theorem QaL{ρ:Nat->Nat}(h:∀i,ρ i=i):∀l:List A,Qaa ρ l=l
 |[]=>rfl
 |a::r=>by simp[Qaa,Qjb h a,QaL h r]
end
theorem Qja{ρ:Nat->Nat}(h:∀i,ρ i=i):∀l:List (List A),Qgi ρ l=l
 |[]=>rfl
 |a::r=>by simp[Qgi,QaL h a,Qja h r]
theorem Qno{ρ:Nat->Nat}(h:∀i,ρ i=i):∀b:Blk,Q9 ρ b=b
 |.cells t cs=>by simp[Q9,QaL h cs]
 |.rowr t k es=>by simp[Q9,Qja h es]
 |.ents t a b es=>by simp[Q9,h]
 |.dead|.row _ _ _|.map _|.iter _ _|.fmap _|.mapO _ _ _ _=>by rfl
theorem Pw{P:Program}{h0 N:Nat}{all:Array Oper}{o:Oper}{l:List Oper}{env:Env}{H:Qc}{Q:QE}{d:Nat}{f:FuncId}{args:List A}{v j:A}(m:o.dst=some d)(g:OpC P o env H f args)(w:C P f args H (λa H1=>a=v/\H1=H))(u:Qii v=some (.mk j))
  (hg:Qx all o env true)(s:Nat.blt d N=true)(t:h0<=H.length)(k:WO P h0 N all l (up env d j) H Q):WO P h0 N all (o::l) env H Q:=by
 have e:=Qow H.length;have n:H.map (Q9 (rho (List.range H.length) H.length))=H:=by
  conv=>rhs;rw[<- List.map_id H]
  exact List.map_congr_left λb _=>Qno e b
 have h:(List.range H.length).map (λp=>H[p]?)=(H.map (Q9 (rho (List.range H.length) H.length))).map some:=by
  rw[n];apply List.ext_getElem?;intro i;by_cases q:i<H.length
  .simp[q]
  .simp[q]
 refine QA (List.range H.length) g w ?_ (by rw[QaL e]) h List.nodup_range hg m s (X0 t);rintro r H1 ⟨rfl,rfl⟩;rw[Qi8 u,QbC _ _ _ h];exact k
def ixE(d:Nat)(g:Ground):Edge:={on:=d,ground:=g}
def ixO(d:Nat)(op:Op)(t:Nat)(pos:String)(af:Array Edge):Oper:={dst:=some d,op:=op,type:=t,pos:=pos,after:=af,guard:=none}
def Qo0(ts te tf tI tB:Nat):Code:=
 (Code.region 0 [ixO 4 (.assign (.const (.int .i64 0))) tI "slices.go:107" #[]].toArray false).seq
  (((Code.region 1 [ixO 6 (.move (.tmp 0)) ts "slices.go:108" #[],ixO 7 (.call {callee:=.builtin .len,args:= #[.tmp 6],argTypes:= #[ts]}) tI "slices.go:108" #[ixE 0 .data],ixO 8 (.move (.const (.int .i64 0))) tI "slices.go:108" #[]].toArray false).seq
   (.block 0 (.loop ((Code.region 2 [ixO 9 (.binOp .lss tI (.tmp 8) (.tmp 7) tI) 0 "slices.go:108" #[]].toArray false).seq
    ((Code.cond (.tmp 9) .skip (.exit 0)).seq
    ((Code.block 1 ((Code.region 3 [ixO 10 (.move (.tmp 8)) tI "slices.go:108" #[],ixO 5 (.assign (.tmp 10)) tI "slices.go:108" #[ixE 0 .data,ixE 0 .phase]].toArray false).seq
     ((Code.region 4 [ixO 11 (.move (.tmp 1)) tf "slices.go:109" #[],ixO 12 (.move (.tmp 0)) ts "slices.go:109" #[],ixO 13 (.move (.tmp 5)) tI "slices.go:109" #[],ixO 14 (.indexAddr ts (.tmp 12) (.tmp 13)) 0 "slices.go:109" #[ixE 1 .data,ixE 2 .data],
       ixO 15 (.load te (.tmp 14)) te "slices.go:109" #[ixE 3 .data],ixO 16 (.call {callee:=.value (.tmp 11),args:= #[.tmp 15],argTypes:= #[te]}) tB "slices.go:109" #[ixE 0 .data,ixE 4 .data]].toArray false).seq
      (Code.cond (.tmp 16) ((Code.region 5 [ixO 17 (.move (.tmp 5)) tI "slices.go:110" #[],ixO 4 (.assign (.tmp 17)) tI "slices.go:110" #[ixE 0 .data,ixE 0 .phase]].toArray false).seq .ret) .skip)))).seq
     (Code.region 6 [ixO 18 (.binOp .add tI (.tmp 8) (.const (.int .i64 1)) tI) tI "slices.go:108" #[],ixO 8 (.move (.tmp 18)) tI "slices.go:108" #[ixE 0 .data]].toArray false))))))).seq
  ((Code.region 7 [ixO 4 (.assign (.const (.int .i64 (-1)))) tI "slices.go:113" #[]].toArray false).seq .ret))
theorem QR{P:Program}{T:Type}{e:T->List A}{el:T->A}{R z tf tI tB k:Nat}{Q m:FuncId}{fn:Func}{i:List A}{Hc:Qc}{L:List T}{g:T->Option Bool}{n:Nat}{r:Int}
  (Y:P.funcs[Q]?=some fn)(X:fn.body=some (Qo0 R z tf tI tB))(W:fn.ntmps=19)(O:fn.results= #[.tmp 4])(V:∀w,(underlying R).run P w=.ok (.slice z) w)(hs:∀w,(sizeOf z).run P w=.ok k w)
  (G:∀(o:Oper) (env:Env) (H:Qc) (x:T),o.op=.load z (.tmp 14)->opA env (.tmp 14)=.rp (e x)->OpV P o env H (el x))
  (N:∀(a:Array Value) (w:World),(callFunc m a).run P w=.ok (.enter m a) w)
  (J:∀x b,g x=some b->C P m (el x::i) Hc (λa H=>a=.bool b/\H=Hc))
  (h:((iter (λs:Int=>bif decide (s<(L.length:Int))then(idx L s).bind λx=>(g x).bind λb=>(bif b then some (Ctl.done (Ctl.done s))else some (Ctl.cont (IntKind.i64.wrap (s+1))))else some (Ctl.done (Ctl.cont ()))) n (0:Int):Option (Ctl Unit Int)).bind λb=>match b with|.cont _=>some (-1)|.done s=>some s)=some r):
  C P Q [.rsl k (L.map e),.fn (.func m) [] i] Hc (λa H=>a=.int .i64 r/\H=Hc):=by
 refine Qb Y X W rfl ?_;refine Rg (S rfl (Nx (TC.seq (Rg (S rfl (LnM V rfl (S rfl (Nx (Bd h λB F h=>?_)))))))));refine QjJ (b:=B) (λ_=>[]) (λ_=>Hc) ?_ (λsb10 env H hbe hle=>?_)
 .refine TC.block ?_;refine TC.loop (E:=λq=>[(0,.rsl k (L.map e)),(1,.fn (.func m) [] i),(7,.int .i64 (L.length:Int)),(8,.int .i64 q)]) (Hp:=λ_=>Hc) F ?_ ?_
  .exact Lw ⟨rfl,rfl,rfl,rfl,trivial⟩
  intro q aa d l;refine Rg (S rfl (Nx (TC.seq (QW rfl d (λt d=>?_) (λt d=>?_)))))
  .refine ExX (Qh d ?_);obtain rfl:=l _ (Oi d).symm;exact bloE (Qn rfl (Lw trivial))
  refine SkN (TC.seq (TC.block (Rg (S rfl (S rfl (Nx (Rg (S rfl (S rfl (S rfl (Bd d λj y d=>Ix y V hs rfl ?_)))))))))));refine QM (x:=el j) rfl rfl rfl (G _ _ _ j rfl rfl) ?_;refine Bd d λM u d=>?_;refine Pw rfl (QgP (f:=m) (x:=.tmp 11) (xs:=[.tmp 15]) (vf:=[]) (vc:=i) (args:=el j::i) N rfl rfl rfl rfl) (J j M u) rfl rfl rfl (X2 _) ?_;refine Nx (Cn rfl d (λp d=>?_) (λp d=>?_))
  .refine Rg (S rfl (S rfl (Nx (TC.ret (bloR (seqR (Qm d ?_)))))));obtain rfl:=l _ (Oi d).symm;refine bloR (Qi (seqR ?_));obtain rfl:=Oi h;exact R1 4 O (Lw ⟨rfl,trivial⟩)
  exact TC.skip (bloN (Qlo (TC.region (S rfl (S rfl (WO.nil (Qg d (Lw ⟨rfl,rfl,rfl,rfl,trivial⟩))))))))
 subst hbe;refine Qlo (TC.le hle (Rg (S rfl (Nx (TC.ret ?_)))));obtain rfl:=Oi h;exact R1 4 O (Lw ⟨rfl,trivial⟩)
end Go.Sw
namespace Go.Sw
inductive Kf where
 |seq (c:Code)
 |blo (id:Nat)
 |unr (c:Code)
inductive Cf where
 |code (c:Code)
 |ops (all:Array Oper) (l:List Oper)
 |out (x:AEx)
def kq(P:Program)(h0 N:Nat):List Kf->QE->QE
 |[],Q=>Q
 |.seq c::k,Q=>Seq P h0 N c (kq P h0 N k Q)
 |.blo id::k,Q=>Blo id (kq P h0 N k Q)
 |.unr c::k,Q=>QiO P h0 N c (kq P h0 N k Q)
@[reducible] def Hd(P:Program)(h0 N:Nat):Cf->List Kf->Env->Qc->QE->Prop
 |.code c,k,env,H,Q=>TC P h0 N c env H (kq P h0 N k Q)
 |.ops all l,k,env,H,Q=>WO P h0 N all l env H (kq P h0 N k Q)
 |.out x,k,env,H,Q=>kq P h0 N k Q x env H
def Qfx(T:TyX)(h0 N:Nat):Cf->List Kf->Env->Qc->Option (Cf×List Kf×Env×Qc)
 |.code (.seq a b),k,env,H=>some (.code a,.seq b::k,env,H)
 |.code (.block id c),k,env,H=>some (.code c,.blo id::k,env,H)
 |.code (.loop c),k,env,H=>some (.code c,.unr c::k,env,H)
 |.code .skip,k,env,H=>some (.out .normal,k,env,H)
 |.code .ret,k,env,H=>some (.out .ret,k,env,H)
 |.code (.exit id),k,env,H=>some (.out (.exit id),k,env,H)
 |.code (.region id ⟨l⟩ false),k,env,H=>some (.ops ⟨l⟩ l,k,env,H)
 |.code (.cond x a b),k,env,H=>match opB env x with
  |.mk (.bool true)=>some (.code a,k,env,H)
  |.mk (.bool false)=>some (.code b,k,env,H)
  |_=>none
 |.ops all [],k,env,H=>some (.out .normal,k,env,H)
 |.ops all (o::l),k,env,H=>match stX T h0 N all o env H with
  |some (env',H')=>some (.ops all l,k,env',H')
  |none=>none
 |.out .normal,.seq c::k,env,H=>some (.code c,k,env,H)
 |.out (.exit i),.seq _::k,env,H=>some (.out (.exit i),k,env,H)
 |.out .ret,.seq _::k,env,H=>some (.out .ret,k,env,H)
 |.out .normal,.blo _::k,env,H=>some (.out .normal,k,env,H)
 |.out (.exit i),.blo id::k,env,H=>match Nat.beq i id with
  |true=>some (.out .normal,k,env,H)
  |false=>some (.out (.exit i),k,env,H)
 |.out .ret,.blo _::k,env,H=>some (.out .ret,k,env,H)
 |.out .normal,.unr c::k,env,H=>some (.code c,.unr c::k,env,H)
 |.out (.exit i),.unr _::k,env,H=>some (.out (.exit i),k,env,H)
 |.out .ret,.unr _::k,env,H=>some (.out .ret,k,env,H)
 |_,_,_,_=>none
def Qij(T:TyX)(h0 N:Nat):Nat->Cf->List Kf->Env->Qc->Option (Cf×List Kf×Env×Qc)
 |0,c,k,env,H=>some (c,k,env,H)
 |n+1,c,k,env,H=>match Qfx T h0 N c k env H with
  |some (c',k',env',H')=>Qij T h0 N n c' k' env' H'
  |none=>none
section
variable {P:Program}{T:TyX}{h0 N:Nat}{Q:QE}
theorem Qlf(d:Qby P T){c b:Cf}{k a:List Kf}{env env':Env}{H H':Qc}(h:Qfx T h0 N c k env H=some (b,a,env',H'))(g:Hd P h0 N b a env' H' Q):Hd P h0 N c k env H Q:=by
 unfold Qfx at h;split at h
 .cases h;exact TC.seq g
 .cases h;exact TC.block g
 .cases h;exact QkG g
 .cases h;exact TC.skip g
 .cases h;exact TC.ret g
 .cases h;exact TC.exit g
 .cases h;exact TC.region g
 .split at h
  .rename_i q;cases h;exact QmT (QH q) rfl g
  .rename_i q;cases h;exact QmU (QH q) rfl g
  .cases h
 .cases h;exact WO.nil g
 .split at h
  .rename_i q;cases h;exact Qli d q g
  .cases h
 .cases h;exact Qlo g
 .cases h;exact seqX g
 .cases h;exact seqR g
 .cases h;exact bloN g
 .split at h
  .rename_i q;cases h;have:=XY q;subst this;exact bloE g
  .rename_i q;cases h;exact bloX q g
 .cases h;exact bloR g
 .cases h;exact unrN g
 .cases h;exact unrX g
 .cases h;exact unrR g
 .cases h
theorem Qcv(hT:Qby P T):∀(n:Nat) {c c':Cf}{k k':List Kf}{env env':Env}{H H':Qc},Qij T h0 N n c k env H=some (c',k',env',H')->Hd P h0 N c' k' env' H' Q->Hd P h0 N c k env H Q
 |0,c,c',k,k',env,env',H,H',h,g=>by cases h;exact g
 |n+1,c,c',k,k',env,env',H,H',h,g=>by
  unfold Qij at h;split at h
  .rename_i e;exact Qlf hT e (Qcv hT n h g)
  .cases h
theorem Qi1{env:Env}{s:Nat}{a:A}(h:lk env s=a):∀t,lk (up env s a) t=lk env t:=by
 intro t;simp only[up,lk];cases q:Nat.beq t s with
 |true=>have:=XY q;subst this;exact h.symm
 |false=>rfl
theorem Is{α:Type}{all:Array Oper}{l:List Oper}{env:Env}{H:Qc}{b:Bool}{x y:Option α}{r:α}(s:Nat)(h:(bif b then x else y)=some r)(d:lkB env s=.mk (.bool b))
  (t:b=true->x=some r->WO P h0 N all l (up env s (.bool true)) H Q)(e:b=false->y=some r->WO P h0 N all l (up env s (.bool false)) H Q):WO P h0 N all l env H Q:=by
 have a:=Qio d;cases b with
 |true=>exact WO.le (Le.env λt=>.inr (Qi1 a t)) (t rfl h)
 |false=>exact WO.le (Le.env λt=>.inr (Qi1 a t)) (e rfl h)
end
def dstN(o:Oper)(i:Nat):Nat:=match o.dst with|some d=>d|none=>1000000+i
def Qam:Nat->Nat->List Oper->List Nat
 |0,_,_=>[]
 |_+1,_,[]=>[]
 |m+1,i,o::l=>dstN o i::Qam m (i+1) l
def Yl(af:List Nat):Nat->List Nat->List A->Env->Env
 |j,d::ds,x::xs,e=>(d,bif Qde af j then x else .any)::Yl af (j+1) ds xs e
 |j,d::ds,[],e=>(d,.any)::Yl af (j+1) ds [] e
 |_,[],_,e=>e
theorem Qfr{l:List Nat}{t:Nat}:Qde l t=l.contains t:=by
 induction l with
 |nil=>rfl
 |cons a r d=>
  unfold Qde;rw[List.contains_cons,d];cases q:Nat.beq a t with
  |true=>have:=XY q;subst this;simp
  |false=>
   have b:t≠a:=λz=>by subst z;rw[Nat.beq_refl]at q;cases q
   simp[b]
theorem Qjx{af:List Nat}{env0:Env}{s:Nat}:∀(a:List Nat) (xs i:List A) (b:Nat),
  (∃(j:Nat) (x:A),af.contains (b+j)=true/\a[j]?=some s/\(xs++i)[j]?=some x/\lk (Yl af b a xs env0) s=x)\/lk (Yl af b a xs env0) s=.any\/(a.contains s=false/\lk (Yl af b a xs env0) s=lk env0 s):=by
 intro a
 induction a with
 |nil=>intro xs i b;right;right;exact⟨rfl,by cases xs<;>rfl⟩
 |cons d a m=>
  intro xs i b;have next:∀(e:List A),(∃(j:Nat) (x:A),af.contains (b+1+j)=true/\a[j]?=some s/\(e++i)[j]?=some x/\lk (Yl af (b+1) a e env0) s=x)->∀p,(∃(j:Nat) (x:A),af.contains (b+j)=true/\(d::a)[j]?=some s/\(p::e++i)[j]?=some x/\lk (Yl af (b+1) a e env0) s=x):=by
   rintro e ⟨j,x,g,k,l,n⟩ p;exact⟨j+1,x,by rw[show b+(j+1)=b+1+j by omega];exact g,by simpa using k,by simpa using l,n⟩
  cases xs with
  |nil=>
   cases q:Nat.beq s d with
   |true=>right;left;simp only[Yl,lk,q,cond_true]
   |false=>
    have f:s≠d:=λz=>by subst z;rw[Nat.beq_refl]at q;cases q
    simp only[Yl,lk,q,cond_false];rcases m [] [] (b+1)with⟨j,x,g,k,l,n⟩|h|⟨g,k⟩
    .simp at l
    .exact .inr (.inl h)
    .exact .inr (.inr ⟨by rw[List.contains_cons,g];simpa using f,k⟩)
  |cons x xs=>
   cases q:Nat.beq s d with
   |true=>
    have:=XY q;subst this;simp only[Yl,lk,q,cond_true];cases c:Qde af b with
    |true=>left;exact⟨0,x,by rw[<- Qfr];exact c,rfl,rfl,rfl⟩
    |false=>right;left;rfl
   |false=>
    have f:s≠d:=λz=>by subst z;rw[Nat.beq_refl]at q;cases q
    simp only[Yl,lk,q,cond_false];rcases m xs i (b+1)with h|h|⟨g,k⟩
    .exact .inl (next xs h x)
    .exact .inr (.inl h)
    .exact .inr (.inr ⟨by rw[List.contains_cons,g];simpa using f,k⟩)
section
variable {P:Program}{T:TyX}{h0 N m:Nat}{l:List Oper}{ds:List Nat}{env:Env}{H:Qc}{Q:QE}{K:List Oper->Env->Qc->Prop}
def DS(P:Program)(N m:Nat)(l:List Oper)(ds:List Nat)(env:Env)(H:Qc)(K:List Oper->Env->Qc->Prop)(r:List Oper)(xs:List A):Prop:=
 r=l.drop xs.length->∃ys,xs.length+ys.length=m/\(∀j,xs.length<=j->j<m->Qab P N l ds (xs++ys) env H.length H.length j H H)/\K (l.drop m) (Qas ds (xs++ys) env) H
theorem oqOf{xs:List A}:∀(c i:Nat),(∀j,i<=j->j<i+c->Qab P N l ds xs env H.length H.length j H H)->Oq P N l ds xs env H i c
 |0,i,_=>.n
 |c+1,i,h=>.c (h i (X2 _) (by omega)) (oqOf c (i+1) λj h1 h2=>h j (by omega) (by omega))
theorem Qnc{id:Nat}{k:List Kf}(m:Nat)(n:P.follows .mixedOrders=true)(i:Go.Sw.draw0 l m N (Qam m 0 l)=true)(a:Nat.ble h0 H.length=true)
  (h:DS P N m l (Qam m 0 l) env H (λr e H=>WO P h0 N l.toArray r e H Q) l []):TC P h0 N (.region id l.toArray true) env H Q:=by
 obtain⟨g,b,f,d⟩:=h rfl;simp only[List.length_nil,XC,Vq]at b f d;exact TC.draw0 m _ g n i (by rw[b];exact Nat.beq_refl m) a (oqOf m 0 λj _ q=>f j (X3 _) (by omega)) d
theorem Qk3{T':Type}{X:Ctx T'}{f:YSt T'}{QY:YC T'}{id:Nat}(m:Nat)(t:P.follows .mixedOrders=true)(u:Go.Sw.draw0 l m N (Qam m 0 l)=true)(b:Nat.ble h0 H.length=true)
  (h:DS P N m l (Qam m 0 l) env H (λr e H=>WOy X P h0 N l.toArray r e H f QY) l []):TCy X P h0 N (.region id l.toArray true) env H f QY:=by
 obtain⟨p,d,n,i⟩:=h rfl;simp only[List.length_nil,XC,Vq]at d n i;intro k x s B σ a w g r hj hrd;refine Qcz m _ p t u (by rw[d];exact Nat.beq_refl m) b (oqOf m 0 λj _ q=>n j (X3 _) (by omega)) r (hrd▸QbY) λro' σ' a' w' hr hev htk hdf=>?_;have:=i k x s ro' σ' a' w' g hr ⟨k.ev hj.1 (hev.frMono hj.2.sub),by rw[hdf];exact hj.2⟩ hrd;refine Yz (λe y z q=>?_) _ _ _ this;exact q.grow hev.sub hev.size htk (by rw[hdf];exact Grow.refl _ _ _)
theorem DS.done{xs:List A}{r:List Oper}(b:Nat.beq xs.length m=true)(h:K r (Qas ds xs env) H):DS P N m l ds env H K r xs:=by
 intro a;have e:=XY b;subst a;refine⟨[],by simpa using e,λj f d=>by omega,?_⟩;rw[<- e,Vp];exact h
theorem DS.add{xs:List A}{o:Oper}{r:List Oper}{x:A}(i:Nat.blt xs.length m=true)(g:∀ys,l[xs.length]?=some o->Qab P N l ds (xs++x::ys) env H.length H.length xs.length H H)(k:DS P N m l ds env H K r (xs++[x])):DS P N m l ds env H K (o::r) xs:=by
 intro b;have a:xs.length<l.length:=by
  rcases Nat.lt_or_ge xs.length l.length with q|q
  .exact q
  .rw[List.drop_eq_nil_of_le q]at b;cases b
 rw[Xs a]at b;cases b;obtain⟨ys,f,e,d⟩:=k (by simp);simp only[Vb,X9,List.length_nil,Vr,List.cons_append,Vq]at f e d;refine⟨x::ys,by simp only[X9];omega,λj n h=>?_,d⟩;rcases Nat.lt_or_ge xs.length j with q|q
 .exact e j (by omega) h
 .obtain rfl:j=xs.length:=by omega
  exact g ys (XS a)
theorem Qhr{xs a:List A}{x:A}:(xs++x::a)[xs.length]?=some x:=by simp
theorem DS.wo{xs:List A}{o:Oper}{r:List Oper}{x:A}{d:Nat}(h:WO P H.length N l.toArray [o] (Yl (Ql o) 0 ds xs env) H (Jd (up (Yl (Ql o) 0 ds xs env) d x) H))(k:DS P N m l ds env H K r (xs++[x]))
  (e:o.dst=some d:=by exact rfl)(hx:Nat.blt xs.length m=true:=by exact rfl):DS P N m l ds env H K (o::r) xs:=
 .add hx (λb i=>.woE o _ d x i e Qhr (he:=by
  intro s;rcases Qjx (af:=Ql o) (env0:=env) (s:=s) ds xs (x::b) 0 with⟨j,y,a,n,f,g⟩|q|q
  .rw[XC]at a;exact .inl ⟨j,y,a,n,f,g⟩
  .exact .inr (.inl q)
  .exact .inr (.inr q)) (hdd:=QhQ H) (h:=h)) k
theorem DS.v{xs:List A}{o:Oper}{r:List Oper}{x:A}{d:Nat}(h:OpV P o (Yl (Ql o) 0 ds xs env) H x)(k:DS P N m l ds env H K r (xs++[x]))(hg:Qx l.toArray o (Yl (Ql o) 0 ds xs env) true:=by exact rfl)
  (hd:o.dst=some d:=by exact rfl)(hN:Nat.blt d N=true:=by exact rfl)(hx:Nat.blt xs.length m=true:=by exact rfl):DS P N m l ds env H K (o::r) xs:=
 .wo (QM hg hd hN h (WO.nil Jd.mk)) k hd hx
def QcM:List A->A->FL
 |[],x=>.mk [x]
 |a::r,x=>match QcM r x with
  |.mk r'=>.mk (a::r')
theorem Ji:∀(l:List A) (x:A),QcM l x=.mk (l++[x])
 |[],x=>rfl
 |a::r,x=>by unfold QcM;rw[Ji r];rfl
def Qg7(T:TyX)(N m:Nat)(l:List Oper)(ds:List Nat)(env:Env)(H:Qc):Nat->Nat->List Oper->List A->Option (List Oper×List A)
 |0,_,r,xs=>some (r,xs)
 |_+1,_,[],_=>none
 |n+1,i,o::r,xs=>match Nat.blt i m with
  |false=>none
  |true=>match o.dst with
   |none=>none
   |some d=>match Nat.blt d N with
    |false=>none
    |true=>match Y1 ⟨l⟩ o (Yl (Ql o) 0 ds xs env)with
     |none=>none
     |some false=>match QcM xs (.tup [])with
      |.mk xs'=>Qg7 T N m l ds env H n (i+1) r xs'
     |some true=>match Qc4 T o (Yl (Ql o) 0 ds xs env) H with
      |none=>none
      |some x=>match QcM xs x with
       |.mk xs'=>Qg7 T N m l ds env H n (i+1) r xs'
theorem Qei(hT:Qby P T):∀(n i:Nat) {r r':List Oper}{xs xs':List A},i=xs.length->Qg7 T N m l ds env H n i r xs=some (r',xs')->DS P N m l ds env H K r' xs'->DS P N m l ds env H K r xs
 |0,i,r,r',xs,xs',_,h,k=>by cases h;exact k
 |n+1,i,[],r',xs,xs',_,h,k=>by cases h
 |n+1,i,o::r,r',xs,xs',hi,h,k=>by
  subst hi;unfold Qg7 at h;split at h
  .cases h
  .rename_i q1;split at h
   .cases h
   .rename_i d hd;split at h
    .cases h
    .rename_i q2;split at h
     .cases h
     .rename_i hw;simp only[Ji]at h;exact .wo (WO.skip (QZ hw) hd q2 (WO.nil Jd.mk)) (Qei hT n _ (by simp) h k) hd q1
     .rename_i hw;split at h
      .cases h
      .rename_i x hv;simp only[Ji]at h;exact .v (Qat hT hv) (Qei hT n _ (by simp) h k) (QZ hw) hd q2 q1
def Qlm:List A->Nat->A->FL
 |[],_,_=>.mk []
 |_::r,0,x=>.mk (x::r)
 |a::r,n+1,x=>match Qlm r n x with
  |.mk r'=>.mk (a::r')
theorem Qc6:∀{l:List A}{n:Nat}{x:A},Y0 l n=some x->Qlm l n x=.mk l
 |[],n,x,h=>by cases h
 |a::r,0,x,h=>by cases h;rfl
 |a::r,n+1,x,h=>by unfold Qlm;rw[Qc6 (l:=r) (n:=n) h]
theorem Yr{α:Type}{b:Bool}{x y:Option α}{v:α}{xs i g:List A}{r:List Oper}(j:Nat)(h:(bif b then x else y)=some v)(d:Y0 xs j=some (.bool b))(a:Qlm xs j (.bool true)=.mk i)(f:Qlm xs j (.bool false)=.mk g)
  (t:b=true->x=some v->DS P N m l ds env H K r i)(e:b=false->y=some v->DS P N m l ds env H K r g):DS P N m l ds env H K r xs:=by
 cases b with
 |true=>rw[Qc6 d]at a;cases a;exact t rfl h
 |false=>rw[Qc6 d]at f;cases f;exact e rfl h
end
end Go.Sw
namespace Go.Sw
@[reducible] def RQ{β:Type}(w:β->A)(Hc:β->Qc)(r:β):A->Qc->Prop:=λa H=>a=w r/\H=Hc r
@[reducible] def Csm{β:Type}(P:Program)(f:FuncId)(args:List A)(H:Qc)(w:β->A)(r:β):Prop:=C P f args H (RQ w (λ_=>H) r)
structure TyZ where
 sl:List (Nat×Nat×Nat)
 fn:List Nat
structure QcO (P:Program) (Z:TyZ):Prop where
 sl:∀e∈Z.sl,(∀w,(underlying e.1).run P w=.ok (.slice e.2.1) w)/\ ∀w,(sizeOf e.2.1).run P w=.ok e.2.2 w
 fn:∀f∈Z.fn,∀(a:Array Value) (w:World),(callFunc f a).run P w=.ok (.enter f a) w
section
variable {P:Program}{Z:TyZ}{h0 N:Nat}{all:Array Oper}{o:Oper}{l:List Oper}{env:Env}{H:Qc}{Q:QE}{d:Nat}
theorem Izz(f:QcO P Z){α:Type}{e:α->List A}{t et k:Nat}{L:List α}{m:IntKind}{i:Int}{v:α}(h:idx L i=some v)(q:ixB o env=some (d,t,k,L.map e,m,i))(g:WO P h0 N all l (up env d (.rp (e v))) H Q)
  (b:Qb1 Z.sl t=some (et,k))(hg:Y1 all o env=some true)(j:Nat.blt d N=true):WO P h0 N all (o::l) env H Q:=by
 obtain⟨a,n⟩:=f.sl _ (Qau b);exact Ix h a n q g (QZ hg) j
theorem Ize(j:QcO P Z){α:Type}{e:α->List A}{t et k:Nat}{L:List α}{f:IntKind}{i:Int}{v:α}{cs:List A}(h:idx L i=some v)(he:e v=cs)(q:ixB o env=some (d,t,k,L.map e,f,i))(g:WO P h0 N all l (up env d (.rp cs)) H Q)
  (b:Qb1 Z.sl t=some (et,k))(hg:Y1 all o env=some true)(a:Nat.blt d N=true):WO P h0 N all (o::l) env H Q:=by
 subst he;exact Izz j h q g b hg a
theorem Lmz(f:QcO P Z){α:Type}{e:α->List A}{t et k i:Nat}{L:List α}(q:lnB o env=some (d,t,.mk (.rsl k (L.map e))))(g:WO P h0 N all l (up env d (.int .i64 L.length)) H Q)
  (b:Qb1 Z.sl t=some (et,i))(hg:Y1 all o env=some true)(h:Nat.blt d N=true):WO P h0 N all (o::l) env H Q:=by
 obtain⟨a,j⟩:=f.sl _ (Qau b);exact LnM a q g (QZ hg) h
def Qft(Z:TyZ)(o:Oper)(env:Env):Option (Nat×Nat×List A):=
 match o.dst with
 |none=>none
 |some d=>match o.op with
  |.call {callee:=.value (.func f),args:=⟨xs⟩,argTypes:=_}=>bif Qde Z.fn f then(match fl (Qhj env xs)with|.mk ax=>some (d,f,ax))else none
  |.call {callee:=.value (.tmp x),args:=⟨xs⟩,argTypes:=_}=>match opB env (.tmp x)with
   |.mk (.fn (.func f) vf vc)=>bif Qde Z.fn f then(match fl (vf++(Qhj env xs++vc))with|.mk ax=>some (d,f,ax))else none
   |_=>none
  |_=>none
theorem QdY(g:QcO P Z){f:Nat}{args:List A}(h:Qft Z o env=some (d,f,args)):o.dst=some d/\OpC P o env H f args:=by
 unfold Qft at h;split at h
 .cases h
 .rename_i m e;split at h
  .rename_i b xs i a;cases q:Qde Z.fn b with
   |false=>rw[q]at h;cases h
   |true=>
    rw[q]at h;simp only[Qb6,cond_true]at h;cases h;exact⟨e,OpC.fn (xs:=xs) (g.fn _ (Qgp q)) a rfl (QcE xs).symm⟩
  .rename_i x xs i a;split at h
   .rename_i b l k j;cases q:Qde Z.fn b with
    |false=>rw[q]at h;cases h
    |true=>
     rw[q]at h;simp only[Qb6,cond_true]at h;cases h;exact⟨e,QgP (xs:=xs) (g.fn _ (Qgp q)) a rfl (QH j) (by rw[QcE])⟩
   .cases h
  .cases h
theorem Czz(m:QcO P Z){β γ:Type}{F:Option β}{F':β->Option γ}{r:γ}{f:Nat}{args a:List A}{Hc:Qc}{w:β->A}(π:List Nat)(h:F.bind F'=some r)(s:∀v,F=some v->C P f a Hc (RQ w (λ_=>Hc) v))
  (b:Qft Z o env=some (d,f,args))(g:∀v,F=some v->F' v=some r->WO P h0 N all l (up env d (w v)) H Q)(q:∀v,Qii (w v)=some (.mk (w v)))
  (hargs:args=Qaa (rho π H.length) a)(i:π.map (λp=>H[p]?)=(Hc.map (Q9 (rho π H.length))).map some)(hπ:π.Nodup)(hg:Y1 all o env=some true)(j:Nat.blt d N=true)(k:Nat.ble h0 H.length=true):WO P h0 N all (o::l) env H Q:=by
 obtain⟨v,e,u⟩:=Yy h;obtain⟨n,t⟩:=QdY (H:=H) m b;exact Pc π n t (s v e) (q v) (g v e u) hargs i hπ (QZ hg) j k
theorem DzZ(s:QcO P Z){K:List Oper->Env->Qc->Prop}{m:Nat}{i:List Oper}{b:List Nat}{xs:List A}{β γ:Type}{F:Option β}{F':β->Option γ}{r:γ}{f:Nat}{args a:List A}{Hc:Qc}{w:β->A}(π:List Nat)(h:F.bind F'=some r)(u:∀v,F=some v->C P f a Hc (RQ w (λ_=>Hc) v))
  (e:Qft Z o (Yl (Ql o) 0 b xs env)=some (d,f,args))(g:∀v,F=some v->F' v=some r->DS P N m i b env H K l (xs++[w v]))(t:∀v,Qii (w v)=some (.mk (w v)))
  (hargs:args=Qaa (rho π H.length) a)(n:π.map (λp=>H[p]?)=(Hc.map (Q9 (rho π H.length))).map some)(hπ:π.Nodup)(hg:Y1 i.toArray o (Yl (Ql o) 0 b xs env)=some true)(q:Nat.blt d N=true)(x:Nat.blt xs.length m=true):DS P N m i b env H K (o::l) xs:=by
 obtain⟨v,j,z⟩:=Yy h;obtain⟨k,y⟩:=QdY (H:=H) s e;exact .wo (Pc π k y (u v j) (t v) (WO.nil Jd.mk) hargs n hπ (QZ hg) q (X0 (X2 _))) (g v j z) k x
theorem ln:Qbc H [] []:=trivial
theorem ls{ax b:List A}{a:A}(k:Qbc H ax b)(h:Yp a=true:=by exact rfl):Qbc H (a::ax) (a::b):=⟨.inl ⟨rfl,h⟩,k⟩
theorem lo{ax a:List A}{i n k t:Nat}{es:List (List A)}(b:Qbc H ax a)(d:H[i]?=some (.row t k es):=by exact rfl)(hn:es.length=n:=by exact Va ..):Qbc H (.osl i 0 n k::ax) (.rsl k es::a):=
 ⟨.inr ⟨_,_,_,_,_,rfl,d,hn,rfl⟩,b⟩
theorem Cbz(k:QcO P Z){β γ:Type}{F:Option β}{F':β->Option γ}{r:γ}{f:Nat}{args a:List A}{w:β->A}(h:F.bind F'=some r)(p:∀v,F=some v->C P f a [] (RQ w (λ_=>[]) v))
  (b:Qft Z o env=some (d,f,args))(i:Qbc H args a)(g:∀v,F=some v->F' v=some r->WO P h0 N all l (up env d (w v)) H Q)(n:∀v,Ym (w v)=true)
  (hg:Y1 all o env=some true)(j:Nat.blt d N=true):WO P h0 N all (o::l) env H Q:=by
 obtain⟨v,e,s⟩:=Yy h;obtain⟨m,q⟩:=QdY (H:=H) k b;refine QcN q i (p v e) ?_ ?_ (QZ hg) m j
 .rintro _ _ ⟨rfl,rfl⟩;exact n v
 .rintro _ _ ⟨rfl,rfl⟩;exact g v e s
end
def ixL:List Nat:=[0,1,2,3,4,5,6,7,8,9,10,11,12,13,14,15,16,17,18,19,20,21,22,23,24,25,26,27,28,29,30,31,32,33,34,35,36,37,38,39,40,41,42,43,44,45,46,47,48,49,50,51,52,53,54,55,56,57,58,59,60,61,62,63]
def Qj0:List Nat->List Nat->Nat->FN
 |a::r,b::s,j=>bif Nat.beq a j then .mk b else Qj0 r s j
 |_,_,j=>.mk j
mutual
def cpA(sel:List Nat):A->Bx
 |.ptr i off=>match Qj0 sel ixL i with
  |.mk j=>.mk (.ptr j off)
 |.osl i o n k=>match Qj0 sel ixL i with
  |.mk j=>.mk (.osl j o n k)
 |.map i=>match Qj0 sel ixL i with
  |.mk j=>.mk (.map j)
 |.fn f a c=>match cpL sel a,cpL sel c with
  |.mk a',.mk c'=>.mk (.fn f a' c')
 |a=>.mk a
def cpL(sel:List Nat):List A->FL
 |[]=>.mk []
 |a::r=>match cpA sel a,cpL sel r with
  |.mk a',.mk r'=>.mk (a'::r')
end
inductive FV where
 |mk (e:Env)
def QlX(sel:List Nat)(env:Env):List Nat->Env->FV
 |[],nE=>.mk nE
 |s::r,nE=>match lkB env s with
  |.mk a=>match cpA sel a,QlX sel env r nE with
   |.mk a',.mk e=>.mk ((s,a')::e)
def selH(H:Qc):List Nat->List Nat->List (Nat×Blk)->FB
 |a::r,p::ps,[]=>match Y0 H a,selH H r ps []with
  |some b,.mk l=>.mk (b::l)
  |none,.mk l=>.mk l
 |a::r,p::ps,(q,b)::n=>bif Nat.beq p q then(match selH H r ps n with|.mk l=>.mk (b::l))else(match Y0 H a,selH H r ps ((q,b)::n)with
  |some b,.mk l=>.mk (b::l)
  |none,.mk l=>.mk l)
 |_,_,_=>.mk []
def QmH(sel keep:List Nat)(nE:Env)(nH:List (Nat×Blk))(env:Env)(H:Qc):Option (Env×Qc):=
 match QlX sel env keep nE,selH H sel ixL nH with
 |.mk e,.mk h=>some (e,h)
section
variable {P:Program}{h0 N:Nat}{c:Code}{env:Env}{H:Qc}{Q:QE}
def CutQ{β:Type}(h0:Nat)(b:β)(E':β->Env)(H':β->Qc)(Q:QE):QE
 |.normal,env,H=>Le h0 env H (E' b) (H' b)
 |.exit id,env,H=>Q (.exit id) env H
 |.ret,env,H=>Q .ret env H
theorem QC{h0:Nat}{env:Env}{H:Qc}{Q:QE}{β:Type}{b:β}{E':β->Env}{H':β->Qc}(h:Le h0 env H (E' b) (H' b)):CutQ h0 b E' H' Q .normal env H:=h
theorem Ct{β:Type}{E':β->Env}{H':β->Qc}(b:β)(sel keep:List Nat)(nE:β->Env)(nH:β->List (Nat×Blk))(_:∀b,QmH sel keep (nE b) (nH b) env H=some (E' b,H' b))(h:TC P h0 N c env H (CutQ h0 b E' H' Q))(k:∀env H,Le h0 env H (E' b) (H' b)->Q .normal env H):TC P h0 N c env H Q:=
 h.mono λx env' H' q=>by
  cases x with
  |normal=>exact k _ _ q
  |exit id=>exact q
  |ret=>exact q
theorem YH{S B:Type}{b:Ctl S B}{E':S->Env}{H':S->Qc}(sel keep:List Nat)(nE:S->Env)(nH:S->List (Nat×Blk))(_:∀s,QmH sel keep (nE s) (nH s) env H=some (E' s,H' s))(h:TC P h0 N c env H (QjR h0 b E' H' Q))(k:∀s env H,b=.cont s->Le h0 env H (E' s) (H' s)->Q .normal env H):TC P h0 N c env H Q:=QjJ E' H' h k
theorem Lp{S B:Type}{step:S->Option (Ctl S B)}{E':S->Env}{H':S->Qc}{m:Nat}{s0:S}{b0:B}(sel keep:List Nat)(nE:S->Env)(nH:S->List (Nat×Blk))(h:iter step m s0=some b0)(_:∀s,QmH sel keep (nE s) (nH s) env H=some (E' s,H' s))(hI:Le h0 env H (E' s0) (H' s0))
  (body:∀s d,step s=some d->(∀b,d=.done b->b=b0)->TC P h0 N c (E' s) (H' s) (Qbb (λs env H=>Le h0 env H (E' s) (H' s)) d Q)):TC P h0 N (.loop c) env H Q:=TC.loop E' H' h hI body
end
theorem Oj{S B:Type}{d:Ctl S B}{x b0:B}(hb:∀b,d=.done b->b=b0)(h:some (Ctl.done x)=some d):x=b0:=hb x (Oi h).symm
theorem Rt{P:Program}{h0:Nat}{fn:Func}{env:Env}{H:Qc}{β:Type}{e r:β}{w:β->A}{Hc:β->Qc}(h:some e=some r)(s:Nat)(π:List Nat)(a:fn.results= #[.tmp s]:=by exact rfl)(hpre:π.take h0=List.range h0:=by exact rfl)
  (hH:π.map (λp=>H[p]?)=((Hc e).map (Q9 (rho π H.length))).map some:=by exact rfl)(hπ:π.Nodup:=by decide)(hE:Qfn (rho π H.length) env [(s,w e)]:=by exact⟨rfl,trivial⟩):QcT P h0 fn (RQ w Hc r) .ret env H:=by
 cases h;exact R1 s a (Lr π hpre hH hπ hE)
theorem Cl{h0:Nat}{env:Env}{H:Qc}{Q:QE}{β:Type}{e b:β}{E':β->Env}{H':β->Qc}(h:some e=some b)(π:List Nat)(a:π.take h0=List.range h0:=by exact rfl)
  (hH:π.map (λp=>H[p]?)=((H' e).map (Q9 (rho π H.length))).map some:=by exact rfl)(hπ:π.Nodup:=by decide)(hE:Qfn (rho π H.length) env (E' e):=by(repeat' (first|exact trivial|refine⟨rfl,?_⟩))):CutQ h0 b E' H' Q .normal env H:=by
 cases h;exact Lr π a hH hπ hE
end Go.Sw
namespace Go.Sw
def plC(cat:List Nat):List (List (Nat×Nat)):=cat.map λc=>match c with|0=>[(0,0)]|1=>[(0,1)]|2=>[(1,1)]|_=>[(0,0),(1,1)]
def rqC(b:Nat)(cat:List Nat):List (List Nat):=cat.map λc=>match c with|2=>[b]|_=>[]
def hsC(cat:List Nat):List Bool:=cat.map λc=>match c with|1=>true|_=>false
section
variable {P:Program}{T:TyX}{h0 N m b:Nat}{cat:List Nat}{l:List Oper}{ds:List Nat}{env:Env}{H H1:Qc}{Q:QE}{K:List Oper->Env->Qc->Prop}
theorem QgQ{P:Program}{N:Nat}{l:List Oper}{ds:List Nat}{xs:List A}{env0:Env}{hB hE:Nat}:∀(ss:List (List (Qc×Qc))) (b:Nat),(∀i s,ss[i]?=some s->∀p∈s,Qab P N l ds xs env0 hB hE (b+i) p.1 p.2)->QgR P N l ds xs env0 hB hE b ss
 |[],b,h=>.nil
 |s::ss,b,h=>.cons (h 0 s rfl) (QgQ ss (b+1) λi s' hs=>by rw[show b+1+i=b+(i+1)by omega];exact h (i+1) s' hs)
def Dob(P:Program)(N:Nat)(cat:List Nat)(l:List Oper)(ds:List Nat)(env:Env)(H H1:Qc)(zs:List A)(j:Nat):Prop:=
 ∀p∈(plC cat).getD j [],Qab P N l ds zs env H.length H.length j ([H,H1].getD p.1 []) ([H,H1].getD p.2 [])
def DB(P:Program)(N m:Nat)(cat:List Nat)(l:List Oper)(ds:List Nat)(env:Env)(H H1:Qc)(K:List Oper->Env->Qc->Prop)(r:List Oper)(xs:List A):Prop:=
 r=l.drop xs.length->∃ys,xs.length+ys.length=m/\(∀j,xs.length<=j->j<m->Dob P N cat l ds env H H1 (xs++ys) j)/\K (l.drop m) (Qas ds (xs++ys) env) H1
def DA(P:Program)(N m:Nat)(cat:List Nat)(l:List Oper)(ds:List Nat)(env:Env)(H:Qc)(K:List Oper->Env->Qc->Prop)(r:List Oper)(xs:List A):Prop:=
 r=l.drop xs.length->∃ys H1,xs.length+ys.length=m/\H.length<=H1.length/\(∀j,xs.length<=j->j<m->Dob P N cat l ds env H H1 (xs++ys) j)/\K (l.drop m) (Qas ds (xs++ys) env) H1
theorem Qpm{f:List A}(a:cat.length=m)(k:∀j,0<=j->j<m->Dob P N cat l ds env H H1 f j):QgR P N l ds f env H.length (H.length+0) 0 ((plC cat).map λq=>q.map λp=>([H,H1].getD p.1 [],[H,H1].getD p.2 [])):=by
 refine QgQ _ 0 λi s b p h=>?_;rw[Xr]at b;cases e:(plC cat)[i]? with
 |none=>rw[e]at b;cases b
 |some q=>
  rw[e]at b;cases b;obtain⟨n,d,rfl⟩:=Xf.1 h;have g:i<m:=by
   have:=(XT.1 e).1;simpa[plC,a]using this
  have:=k i (X3 _) g n (by rw[Qjm e];exact d);simpa using this
theorem DA.len(a:H.length<=H1.length):[H,H1].all (λX=>Nat.ble (H.length+0) X.length)=true:=by
 simp only[List.all_cons,List.all_nil,Bool.and_true,XD,X5];exact⟨X0 (X2 _),X0 a⟩
theorem Qne{id:Nat}(m b:Nat)(cat:List Nat)(n:P.follows .mixedOrders=true)(p:QdC l m N (Qam m 0 l) (hsC cat) (rqC b cat) [[],[b]] (plC cat)=true)(d:Nat.beq cat.length m=true)(f:Nat.ble h0 H.length=true)
  (h:DA P N m cat l (Qam m 0 l) env H (λr e H=>WO P h0 N l.toArray r e H Q) l []):TC P h0 N (.region id l.toArray true) env H Q:=by
 obtain⟨k,H1,g,q,j,i⟩:=h rfl;simp only[List.length_nil,XC,Vq]at g j i;have a:=XY d;exact Qa8 m 0 _ _ _ _ _ k [H,H1] H1 n p (by rw[g];exact Nat.beq_refl m) rfl f (DA.len q) (by simp) rfl (Qpm a j) (by simp[plC,a]) i
theorem Qa6{xs:List A}{o:Oper}{r:List Oper}(b:o::r=l.drop xs.length):l[xs.length]?=some o/\r=l.drop (xs.length+1):=by
 have a:xs.length<l.length:=by
  rcases Nat.lt_or_ge xs.length l.length with q|q
  .exact q
  .rw[List.drop_eq_nil_of_le q]at b;cases b
 rw[Xs a]at b;cases b;exact⟨XS a,rfl⟩
theorem QgV{zs:List A}{j c:Nat}(b:Y0 cat j=some c)(h:∀p∈(match c with|0=>[(0,0)]|1=>[(0,1)]|2=>[(1,1)]|_=>[(0,0),(1,1)]:List (Nat×Nat)),Qab P N l ds zs env H.length H.length j ([H,H1].getD p.1 []) ([H,H1].getD p.2 [])):Dob P N cat l ds env H H1 zs j:=by
 intro p a;rw[Qay]at b;unfold plC at a;rw[List.getD_eq_getElem?_getD,Xr,b]at a;exact h p a
theorem Qax{hB hE:Nat}{xs a:List A}{o:Oper}{x:A}{d:Nat}{X X':Qc}(e:l[xs.length]?=some o)(hdd:Qaq hB hE X X'=true)(h:WO P X.length N l.toArray [o] (Yl (Ql o) 0 ds xs env) X (Jd (up (Yl (Ql o) 0 ds xs env) d x) X'))(f:o.dst=some d):
  Qab P N l ds (xs++x::a) env hB hE xs.length X X':=
 .woE o _ d x e f Qhr (he:=by
  intro s;rcases Qjx (af:=Ql o) (env0:=env) (s:=s) ds xs (x::a) 0 with⟨j,y,b,i,g,k⟩|q|q
  .rw[XC]at b;exact .inl ⟨j,y,b,i,g,k⟩
  .exact .inr (.inl q)
  .exact .inr (.inr q)) (hdd:=hdd) (h:=h)
theorem Jb{n:Nat}{X X':Qc}:Qaq n n X X'=true:=by unfold Qaq;rw[Nat.sub_self];rfl
theorem DA.wo{xs:List A}{o:Oper}{r:List Oper}{x:A}{d:Nat}(h:WO P H.length N l.toArray [o] (Yl (Ql o) 0 ds xs env) H (Jd (up (Yl (Ql o) 0 ds xs env) d x) H))(k:DA P N m cat l ds env H K r (xs++[x]))
  (n:Y0 cat xs.length=some 0:=by exact rfl)(hd:o.dst=some d:=by exact rfl)(hx:Nat.blt xs.length m=true:=by exact rfl):DA P N m cat l ds env H K (o::r) xs:=by
 intro s;obtain⟨t,a⟩:=Qa6 s;obtain⟨g,H1,f,w,e,b⟩:=k (by simpa using a);simp only[Vb,X9,List.length_nil,Vr,List.cons_append,Vq]at f e b;refine⟨x::g,H1,by simp only[X9];omega,w,λj y u=>?_,b⟩;rcases Nat.lt_or_ge xs.length j with q|q
 .exact e j (by omega) u
 .obtain rfl:j=xs.length:=by omega
  refine QgV n λp i=>?_;obtain rfl:=List.mem_singleton.1 i;exact Qax t Jb h hd
theorem DA.op{xs:List A}{o:Oper}{r:List Oper}{x:A}{d:Nat}(h:WO P H.length N l.toArray [o] (Yl (Ql o) 0 ds xs env) H (Jd (up (Yl (Ql o) 0 ds xs env) d x) H1))(k:DB P N m cat l ds env H H1 K r (xs++[x]))(n:Nat.ble H.length H1.length=true:=by exact rfl)
  (hc:Y0 cat xs.length=some 1:=by exact rfl)(hd:o.dst=some d:=by exact rfl)(hx:Nat.blt xs.length m=true:=by exact rfl):DA P N m cat l ds env H K (o::r) xs:=by
 intro s;obtain⟨t,a⟩:=Qa6 s;obtain⟨g,f,e,b⟩:=k (by simpa using a);simp only[Vb,X9,List.length_nil,Vr,List.cons_append,Vq]at f e b;refine⟨x::g,H1,by simp only[X9];omega,XZ n,λj w u=>?_,b⟩;rcases Nat.lt_or_ge xs.length j with q|q
 .exact e j (by omega) u
 .obtain rfl:j=xs.length:=by omega
  refine QgV hc λp i=>?_;obtain rfl:=List.mem_singleton.1 i;exact Qax t Jb h hd
theorem DB.done{xs:List A}{r:List Oper}(b:Nat.beq xs.length m=true)(h:K r (Qas ds xs env) H1):DB P N m cat l ds env H H1 K r xs:=by
 intro a;have e:=XY b;subst a;refine⟨[],by simpa using e,λj f d=>by omega,?_⟩;rw[<- e,Vp];exact h
theorem DB.add{xs:List A}{o:Oper}{r:List Oper}{x:A}(f:∀ys,l[xs.length]?=some o->Dob P N cat l ds env H H1 (xs++x::ys) xs.length)(k:DB P N m cat l ds env H H1 K r (xs++[x])):DB P N m cat l ds env H H1 K (o::r) xs:=by
 intro g;obtain⟨h,a⟩:=Qa6 g;obtain⟨ys,e,d,b⟩:=k (by simpa using a);simp only[Vb,X9,List.length_nil,Vr,List.cons_append,Vq]at e d b;refine⟨x::ys,by simp only[X9];omega,λj n i=>?_,b⟩;rcases Nat.lt_or_ge xs.length j with q|q
 .exact d j (by omega) i
 .obtain rfl:j=xs.length:=by omega
  exact f ys h
theorem DB.wo1{xs:List A}{o:Oper}{r:List Oper}{x:A}{d:Nat}(h:WO P H1.length N l.toArray [o] (Yl (Ql o) 0 ds xs env) H1 (Jd (up (Yl (Ql o) 0 ds xs env) d x) H1))(k:DB P N m cat l ds env H H1 K r (xs++[x]))
  (b:Y0 cat xs.length=some 2:=by exact rfl)(hd:o.dst=some d:=by exact rfl):DB P N m cat l ds env H H1 K (o::r) xs:=
 .add (λf a=>QgV b λp e=>by
  obtain rfl:=List.mem_singleton.1 e;exact Qax a Jb h hd) k
theorem DB.wo2{xs:List A}{o:Oper}{r:List Oper}{x:A}{d:Nat}(h:WO P H.length N l.toArray [o] (Yl (Ql o) 0 ds xs env) H (Jd (up (Yl (Ql o) 0 ds xs env) d x) H))(e:WO P H1.length N l.toArray [o] (Yl (Ql o) 0 ds xs env) H1 (Jd (up (Yl (Ql o) 0 ds xs env) d x) H1))(k:DB P N m cat l ds env H H1 K r (xs++[x]))
  (f:Y0 cat xs.length=some 3:=by exact rfl)(hd:o.dst=some d:=by exact rfl):DB P N m cat l ds env H H1 K (o::r) xs:=
 .add (λg b=>QgV f λp a=>by
  rcases Vf.1 a with rfl|a
  .exact Qax b Jb h hd
  .obtain rfl:=List.mem_singleton.1 a;exact Qax b Jb e hd) k
def Qg8(T:TyX)(N m:Nat)(cat:List Nat)(l:List Oper)(ds:List Nat)(env:Env)(H:Qc):Nat->Nat->List Oper->List A->Option (List Oper×List A)
 |0,_,r,xs=>some (r,xs)
 |_+1,_,[],_=>none
 |n+1,i,o::r,xs=>match Nat.blt i m,Y0 cat i with
  |true,some 0=>match o.dst with
   |none=>none
   |some d=>match Nat.blt d N with
    |false=>none
    |true=>match Y1 ⟨l⟩ o (Yl (Ql o) 0 ds xs env)with
     |none=>none
     |some false=>match QcM xs (.tup [])with
      |.mk xs'=>Qg8 T N m cat l ds env H n (i+1) r xs'
     |some true=>match Qc4 T o (Yl (Ql o) 0 ds xs env) H with
      |none=>none
      |some x=>match QcM xs x with
       |.mk xs'=>Qg8 T N m cat l ds env H n (i+1) r xs'
  |_,_=>none
theorem Qel(hT:Qby P T):∀(n i:Nat) {r r':List Oper}{xs xs':List A},i=xs.length->Qg8 T N m cat l ds env H n i r xs=some (r',xs')->DA P N m cat l ds env H K r' xs'->DA P N m cat l ds env H K r xs
 |0,i,r,r',xs,xs',_,h,k=>by cases h;exact k
 |n+1,i,[],r',xs,xs',_,h,k=>by cases h
 |n+1,i,o::r,r',xs,xs',hi,h,k=>by
  subst hi;unfold Qg8 at h;split at h
  .rename_i q1 q0;split at h
   .cases h
   .rename_i d hd;split at h
    .cases h
    .rename_i q2;split at h
     .cases h
     .rename_i hw;simp only[Ji]at h;exact .wo (WO.skip (QZ hw) hd q2 (WO.nil Jd.mk)) (Qel hT n _ (by simp) h k) q0 hd q1
     .rename_i hw;split at h
      .cases h
      .rename_i x hv;simp only[Ji]at h;exact .wo (QM (QZ hw) hd q2 (Qat hT hv) (WO.nil Jd.mk)) (Qel hT n _ (by simp) h k) q0 hd q1
  .cases h
theorem Qnq{H:Qc}{p:Bx}{r:Lx}(h:ptX [] p=some r):ptX H p=some r:=by
 unfold ptX at h⊢;split at h
 .exact h
 .rename_i i a;simp only[Y0]at h;cases h
 .cases h
theorem Qd7{o:Oper}{e:Env}{H:Qc}{x:A}(h:Qc4 T o e []=some x):Qc4 T o e H=some x:=by
 unfold Qc4 at h⊢;split at h<;>first|exact h|skip
 rename_i t y g;split at h
 .cases h
 .rename_i b n f;split at h
  .exact h
  .rename_i a;cases q:ptX [] (opB e y)with
   |none=>rw[q]at h;cases h
   |some r=>
    rw[q]at h;have d:=Qnq (H:=H) q;simp only[d];exact h
def Qek(T:TyX)(N:Nat)(cat:List Nat)(l:List Oper)(ds:List Nat)(env:Env)(H1:Qc):Nat->Nat->List Oper->List A->Option (List Oper×List A)
 |0,_,r,xs=>some (r,xs)
 |_+1,_,[],_=>none
 |n+1,i,o::r,xs=>match o.dst with
  |none=>none
  |some d=>match Nat.blt d N with
   |false=>none
   |true=>match Y1 ⟨l⟩ o (Yl (Ql o) 0 ds xs env)with
    |none=>none
    |some false=>match Y0 cat i with
     |some 2=>(match QcM xs (.tup [])with
      |.mk xs'=>Qek T N cat l ds env H1 n (i+1) r xs')
     |some 3=>(match QcM xs (.tup [])with
      |.mk xs'=>Qek T N cat l ds env H1 n (i+1) r xs')
     |_=>none
    |some true=>match Y0 cat i with
     |some 2=>(match Qc4 T o (Yl (Ql o) 0 ds xs env) H1 with
      |none=>none
      |some x=>match QcM xs x with
       |.mk xs'=>Qek T N cat l ds env H1 n (i+1) r xs')
     |some 3=>(match Qc4 T o (Yl (Ql o) 0 ds xs env) []with
      |none=>none
      |some x=>match QcM xs x with
       |.mk xs'=>Qek T N cat l ds env H1 n (i+1) r xs')
     |_=>none
theorem QbG(hT:Qby P T):∀(n i:Nat) {r r':List Oper}{xs xs':List A},i=xs.length->Qek T N cat l ds env H1 n i r xs=some (r',xs')->DB P N m cat l ds env H H1 K r' xs'->DB P N m cat l ds env H H1 K r xs
 |0,i,r,r',xs,xs',_,h,k=>by cases h;exact k
 |n+1,i,[],r',xs,xs',_,h,k=>by cases h
 |n+1,i,o::r,r',xs,xs',hi,h,k=>by
  subst hi;unfold Qek at h;split at h
  .cases h
  .rename_i d hd;split at h
   .cases h
   .rename_i q2;split at h
    .cases h
    .rename_i hw;split at h
     .rename_i q0;simp only[Ji]at h;exact .wo1 (WO.skip (QZ hw) hd q2 (WO.nil Jd.mk)) (QbG hT n _ (by simp) h k) q0 hd
     .rename_i q0;simp only[Ji]at h;exact .wo2 (WO.skip (QZ hw) hd q2 (WO.nil Jd.mk)) (WO.skip (QZ hw) hd q2 (WO.nil Jd.mk)) (QbG hT n _ (by simp) h k) q0 hd
     .cases h
    .rename_i hw;split at h
     .rename_i q0;split at h
      .cases h
      .rename_i x hv;simp only[Ji]at h;exact .wo1 (QM (QZ hw) hd q2 (Qat hT hv) (WO.nil Jd.mk)) (QbG hT n _ (by simp) h k) q0 hd
     .rename_i q0;split at h
      .cases h
      .rename_i x hv;simp only[Ji]at h;exact .wo2 (QM (QZ hw) hd q2 (Qat hT (Qd7 hv)) (WO.nil Jd.mk)) (QM (QZ hw) hd q2 (Qat hT (Qd7 hv)) (WO.nil Jd.mk)) (QbG hT n _ (by simp) h k) q0 hd
     .cases h
end
end Go.Sw
namespace Go.Sw
def chkF(L:List (Nat×List (Nat×Nat)))(fs:List (Nat×Nat×Nat)):Bool:=
 fs.all λe=>match Qb1 L e.1 with
  |some pl=>(match Y0 pl e.2.1 with
   |some q=>Nat.beq q.1 e.2.2&& !(Nat.beq q.2 0)
   |none=>false)
  |none=>false
theorem PL.get{P:Program}{fs:List Field}{a:List (Nat×Nat)}(h:PL P fs a):∀{f off n:Nat},Y0 a f=some (off,n)->∃fd,fs[f]?=some fd/\fd.offset=off/\ ∀w,(sizeOf fd.type).run P w=.ok n w:=by
 induction h with
 |nil=>intro f off n h;cases h
 |cons h k e=>
  intro f off n b;cases f with
  |zero=>cases b;exact⟨_,rfl,rfl,h⟩
  |succ f=>obtain⟨fd,d,g⟩:=e (show Y0 _ f=_ from b);exact⟨fd,by simpa using d,g⟩
theorem Qo3{P:Program}{L:List (Nat×List (Nat×Nat))}{fs:List (Nat×Nat×Nat)}(f:∀e∈L,QT P e.1 e.2)(h:chkF L fs=true):∀e∈fs,∃n,Jy P e.1 e.2.1 e.2.2 n:=by
 intro e j;have:=Xx.1 h e j;split at this
 .rename_i t b;split at this
  .rename_i q i;obtain⟨r,n⟩:=q;simp only[X5,Bool.not_eq_true']at this;have p:=XY this.1;obtain⟨s,d,a⟩:=f _ (Qau b);obtain⟨l,g,k,m⟩:=PL.get a i;refine⟨n,⟨⟨_,l,d,by simpa using g,k.trans p,m,?_⟩⟩⟩;intro z;have a:=this.2;rw[z,Nat.beq_refl]at a;cases a
  .cases this
 .cases this
section
variable {P:Program}{Z:TyZ}{h0 N:Nat}{all:Array Oper}{o:Oper}{l:List Oper}{env:Env}{H:Qc}{Q:QE}{d:Nat}
theorem Cdz(m:QcO P Z){β γ:Type}{F:Option β}{F':β->Option γ}{r:γ}{f:Nat}{args a:List A}{Hc:Qc}{w:β->A}{Hr:β->Qc}(π:List Nat)(h:F.bind F'=some r)(q:∀v,F=some v->C P f a Hc (RQ w Hr v))
  (b:Qft Z o env=some (d,f,args))(g:∀v,F=some v->F' v=some r->WO P h0 N all l (up env d (YK (rho π H.length) (w v))) (Ys H π ((Hr v).map (Q9 (rho π H.length)))) Q)
  (hargs:args=Qaa (rho π H.length) a)(i:π.map (λp=>H[p]?)=(Hc.map (Q9 (rho π H.length))).map some)(hπ:π.Nodup)(hg:Y1 all o env=some true)(j:Nat.blt d N=true)(k:Nat.ble h0 H.length=true):WO P h0 N all (o::l) env H Q:=by
 obtain⟨v,e,t⟩:=Yy h;obtain⟨n,s⟩:=QdY (H:=H) m b;refine QA π s (q v e) ?_ hargs i hπ (QZ hg) n j k;rintro _ _ ⟨rfl,rfl⟩;exact g v e t
end
inductive FLL where
 |mk (l:List (List A))
def cpLL(sel:List Nat):List (List A)->FLL
 |[]=>.mk []
 |a::r=>match cpL sel a,cpLL sel r with
  |.mk a',.mk r'=>.mk (a'::r')
inductive FBk where
 |mk (b:Blk)
def cpBk(sel:List Nat):Blk->FBk
 |.cells t cs=>match cpL sel cs with
  |.mk l=>.mk (.cells t l)
 |.rowr t k es=>match cpLL sel es with
  |.mk l=>.mk (.rowr t k l)
 |.ents t a b es=>match Qj0 sel ixL a,Qj0 sel ixL b with
  |.mk a',.mk b'=>.mk (.ents t a' b' es)
 |b=>.mk b
def selD(H:Qc)(sel:List Nat):List Nat->FB
 |[]=>.mk []
 |a::r=>match Y0 H a with
  |some b=>(match cpBk sel b,selD H sel r with
   |.mk b',.mk l=>.mk (b'::l))
  |none=>.mk []
def retC(sel sl:List Nat)(env:Env)(H:Qc):Option (Env×Qc):=
 match QlX sel env sl [],selD H sel sel with
 |.mk e,.mk h=>some (e,h)
theorem Rx{P:Program}{h0:Nat}{fn:Func}{env E':Env}{H H':Qc}{Qr:A->Qc->Prop}{d:A}(π sl:List Nat)(_:retC π sl env H=some (E',H'))(b:QcU P fn E' H' d)(e:Qr d H')(a:π.take h0=List.range h0:=by exact rfl)
  (hH:π.map (λp=>H[p]?)=(H'.map (Q9 (rho π H.length))).map some:=by exact rfl)(hπ:π.Nodup:=by decide)(hE:Qfn (rho π H.length) env E':=by(repeat' (first|exact trivial|refine⟨rfl,?_⟩))):QcT P h0 fn Qr .ret env H:=
 ⟨E',H',d,Lr π a hH hπ hE,b,e⟩
end Go.Sw
namespace Go.Sw
def nxL{T:Type}:List T->T->List T->Prop:=λl x rem=>l=x::rem
def Qcw{S T B:Type}(step:S->T->Option (Ctl S B)):List T->S->Option (Ctl S B)
 |[],s=>some (.cont s)
 |x::l,s=>(step s x).bind λd=>match d with
  |.cont s'=>Qcw step l s'
  |.done b=>some (.done b)
def Qbw{S T B:Type}(step:S->Option (List T×Ctl S B)):Nat->S->Option (List T×B)
 |0,_=>none
 |n+1,s=>(step s).bind λp=>match p.2 with
  |.cont s'=>(Qbw step n s').bind λq=>some (p.1++q.1,q.2)
  |.done b=>some (p.1,b)
def QiQ{S B:Type}(h1:Nat)(env:Env)(Q:QE)(d:Ctl S B)(Hp:S->Qc):QE
 |.normal,env',H'=>∃s,d=.cont s/\Le h1 env' H' [] (Hp s)
 |.exit id,env',H'=>(∃b,d=.done b)/\ ∃H2,Le h1 env' H' [] H2/\Q (.exit id) env H2
 |.ret,env',H'=>(∃b,d=.done b)/\ ∃H2,Le h1 env' H' [] H2/\Q .ret env H2
theorem QaK{S B:Type}{h1:Nat}{env env':Env}{H':Qc}{Q:QE}{s:S}{d:Ctl S B}{Hp:S->Qc}(e:some (Ctl.cont s)=some d)(h:Le h1 env' H' [] (Hp s)):QiQ h1 env Q d Hp .normal env' H':=⟨s,(Oi e).symm,h⟩
theorem Qi9{S B:Type}{h1:Nat}{env env':Env}{H' H2:Qc}{Q:QE}{b:B}{d:Ctl S B}{Hp:S->Qc}(e:some (Ctl.done b)=some d)(h:Le h1 env' H' [] H2)(q:Q .ret env H2):QiQ h1 env Q d Hp .ret env' H':=⟨⟨b,(Oi e).symm⟩,H2,h,q⟩
theorem Jq{P:Program}{h0 N:Nat}{r:Operand}{ps:List Nat}{assign body:Code}{env:Env}{H:Qc}{Q:QE}{f:FuncId}{a g:List A}{Hc:Qc}{T S B:Type}{enc:T->List A}{xs:List T}{step:S->T->Option (Ctl S B)}{s0:S}{D:Ctl S B}
  (π:List Nat)(Hp:S->Qc)(h:Qcw step xs s0=some D)(m:QdL P f g Hc enc nxL xs)(n:∀x,(enc x).length=ps.length)(M:∀args w,(callFunc f args).run P w=.ok (.enter f args) w)
  (O:Nat.ble h0 H.length=true)(hg:opA env r=.fn (.func f) [] a)(hargs:a=Qaa (rho π H.length) g)(F:π.map (λp=>H[p]?)=(Hc.map (Q9 (rho π H.length))).map some)(hπ:π.Nodup)(u:(ps.all λp=>Nat.blt p N)=true)
  (j:Le H.length env (Qdv H π) env (Hp s0))
  (k:∀s x d,step s x=some d->(∀b,d=.done b->D=.done b)->TC P H.length N assign (Qlc ps (enc x) env) (Hp s) λe env1 H1=>e=.normal/\TC P H.length N body env1 H1 (QiQ H.length env Q d Hp))
  (i:∀s,D=.cont s->Q .normal env (Hp s)):TC P h0 N (.rangeFunc r ps.toArray assign body) env H Q:=by
 refine TC.rangeFunc π Hp (λs l=>Qcw step l s=some D) s0 (XZ O) hg hargs F hπ u M m n j h ?_ ?_
 .rintro s l x rem t rfl;obtain⟨d,J,t⟩:=Yy t;refine(k s x d J ?_).mono ?_
  .rintro b rfl;exact(Oi t).symm
  .rintro e env1 H1 ⟨R,L⟩;refine⟨R,L.mono ?_⟩;intro G z H2 q;cases G with
   |normal=>
    obtain⟨E,rfl,j⟩:=q;exact⟨Hp E,j,E,t,rfl⟩
   |exit id=>
    obtain⟨_,H3,y,q⟩:=q;exact⟨H3,y,q⟩
   |ret=>
    obtain⟨_,H3,y,q⟩:=q;exact⟨H3,y,q⟩
 .intro s V;exact i s (Oi V).symm
section
variable {T:Type}{X:Ctx T}{P:Program}{h0 N:Nat}{c:Code}{env:Env}{H:Qc}{st:YSt T}{Q:YC T}
def Qfj{S B:Type}(h0:Nat)(E:S->Env)(Hp:S->Qc)(d:Ctl S B)(rest:List T)(Q:YC T):YC T
 |.normal,env,H,st=>∃s,d=.cont s/\Le h0 env H (E s) (Hp s)/\st=.on rest
 |.exit id,env,H,st=>Q (.exit id) env H st
 |.ret,env,H,st=>Q .ret env H st
theorem QkF{S B:Type}{step:S->Option (List T×Ctl S B)}{E:S->Env}{Hp:S->Qc}{m:Nat}{s0:S}{i rem:List T}{b:B}(h:Qbw step m s0=some (i,b))(z:Le h0 env H (E s0) (Hp s0))
  (body:∀s zs d rest,step s=some (zs,d)->(∀b',d=.done b'->b'=b/\rest=rem)->TCy X P h0 N c (E s) (Hp s) (.on (zs++rest)) (Qfj h0 E Hp d rest Q)):TCy X P h0 N (.loop c) env H (.on (i++rem)) Q:=by
 refine Qf4 (I:=λn env H p=>∃s f,Qbw step n s=some (f,b)/\p=.on (f++rem)/\Le h0 env H (E s) (Hp s)) ?_ ⟨s0,i,h,rfl,z⟩;rintro n env H p ⟨s,f,a,rfl,l⟩;cases n with
 |zero=>cases a
 |succ n=>
  obtain⟨⟨zs,d⟩,r,a⟩:=Yy a;refine TCy.le l ?_;cases d with
  |cont y=>
   obtain⟨⟨w,F⟩,u,a⟩:=Yy a;cases a;rw[Vr];refine(body s zs (.cont y) (w++rem) r (λb' e=>by cases e)).mono ?_;rintro x g H' j q;cases x with
   |normal=>
    obtain⟨t,e,k,rfl⟩:=q;cases e;exact⟨n,Xp n,_,_,u,rfl,k⟩
   |exit id=>exact q
   |ret=>exact q
  |done b'=>
   cases a;refine(body s _ (.done b) rem r (λb' e=>by cases e;exact⟨rfl,rfl⟩)).mono ?_;rintro x g H' j q;cases x with
   |normal=>obtain⟨t,e,_⟩:=q;cases e
   |exit id=>exact q
   |ret=>exact q
def kqY(X:Ctx T)(P:Program)(h0 N:Nat):List Kf->YC T->YC T
 |[],Q=>Q
 |.seq c::k,Q=>SeqY X P h0 N c (kqY X P h0 N k Q)
 |.blo id::k,Q=>BloY id (kqY X P h0 N k Q)
 |.unr c::k,Q=>λ_ _ _ _=>False
@[reducible] def HdY(X:Ctx T)(P:Program)(h0 N:Nat):Cf->List Kf->Env->Qc->YSt T->YC T->Prop
 |.code c,k,env,H,st,Q=>TCy X P h0 N c env H st (kqY X P h0 N k Q)
 |.ops all l,k,env,H,st,Q=>WOy X P h0 N all l env H st (kqY X P h0 N k Q)
 |.out x,k,env,H,st,Q=>kqY X P h0 N k Q x env H st
def Qon:Cf->List Kf->Bool
 |.code (.loop _),_=>false
 |.out _,.unr _::_=>false
 |_,_=>true
theorem Qle{Tx:TyX}(f:Qby P Tx){c d:Cf}{k b:List Kf}{env env':Env}{H H':Qc}(h:Qfx Tx h0 N c k env H=some (d,b,env',H'))(a:Qon c k=true)(g:HdY X P h0 N d b env' H' st Q):HdY X P h0 N c k env H st Q:=by
 unfold Qfx at h;split at h
 .cases h;exact TCy.seq g
 .cases h;exact TCy.block g
 .cases a
 .cases h;exact TCy.skip g
 .cases h;exact TCy.ret g
 .cases h;exact TCy.exit g
 .cases h;exact TCy.region g
 .split at h
  .rename_i q;cases h;exact TCy.cond (QH q) (λ_=>g) (λe=>by cases e)
  .rename_i q;cases h;exact TCy.cond (QH q) (λe=>by cases e) (λ_=>g)
  .cases h
 .cases h;exact WOy.nil g
 .split at h
  .rename_i q;cases h;exact WOy.step (Qli f q (WO.nil ⟨rfl,g⟩))
  .cases h
 .cases h;exact g
 .cases h;exact g
 .cases h;exact g
 .cases h;exact g
 .split at h
  .rename_i q;cases h;have e:=XY q;subst e;show(bif Nat.beq _ _ then _ else _);rw[Nat.beq_refl];exact g
  .rename_i q;cases h;show(bif Nat.beq _ _ then _ else _);rw[q];exact g
 .cases h;exact g
 .cases a
 .cases a
 .cases a
 .cases h
def QjW(Tx:TyX)(h0 N:Nat):Nat->Cf->List Kf->Env->Qc->Option (Cf×List Kf×Env×Qc)
 |0,c,k,env,H=>some (c,k,env,H)
 |n+1,c,k,env,H=>match Qon c k with
  |true=>(match Qfx Tx h0 N c k env H with
   |some (c',k',env',H')=>QjW Tx h0 N n c' k' env' H'
   |none=>none)
  |false=>none
theorem QdR{Tx:TyX}(hT:Qby P Tx):∀(n:Nat) {c c':Cf}{k k':List Kf}{env env':Env}{H H':Qc},QjW Tx h0 N n c k env H=some (c',k',env',H')->HdY X P h0 N c' k' env' H' st Q->HdY X P h0 N c k env H st Q
 |0,c,c',k,k',env,env',H,H',h,g=>by cases h;exact g
 |n+1,c,c',k,k',env,env',H,H',h,g=>by
  unfold QjW at h;split at h
  .rename_i hn;split at h
   .rename_i e;exact Qle hT e hn (QdR hT n h g)
   .cases h
  .cases h
theorem TCy.lf{k:List Kf}(h:TC P h0 N c env H (λx env H=>kqY X P h0 N k Q x env H st)):TCy X P h0 N c env H st (kqY X P h0 N k Q):=TCy.lift h
theorem QmN{all:Array Oper}{o:Oper}{r:List Oper}{d:Nat}{x:T}{l:List T}{e:T->A}{y z:Operand}{k:Array TypeId}(hE:X.enc=λx=>[e x])(f:X.nx=nxL)(i:o.op=.call {callee:=.value y,args:= #[z],argTypes:=k})(m:opA env y=.fn (.yield X.l) [] [])(a:opA env z=e x)(j:Yp (e x)=true)
  (h:WOy X P h0 N all r (up env d (.bool true)) H (.on l) Q)(g:WOy X P h0 N all r (up env d (.bool false)) H (.off l) Q)(hg:Qx all o env true:=by exact rfl)(hd:o.dst=some d:=by exact rfl)(hNd:Nat.blt d N=true:=by exact rfl):WOy X P h0 N all (o::r) env H (.on (x::l)) Q:=by
 refine WOy.yield (x:=x) (rem:=l) (by rw[f];rfl) hg hd hNd ?_ ?_
 .rw[hE];exact QgY i m a j
 .intro b;cases b with
  |true=>exact h
  |false=>exact g
theorem QmM{all:Array Oper}{o:Oper}{r:List Oper}{d:Nat}{x:T}{l:List T}{e1 e2:T->A}{y i h:Operand}{p:Array TypeId}(hE:X.enc=λx=>[e1 x,e2 x])(j:X.nx=nxL)(n:o.op=.call {callee:=.value y,args:= #[i,h],argTypes:=p})(q:opA env y=.fn (.yield X.l) [] [])(g:opA env i=e1 x)(f:opA env h=e2 x)(a:Yp (e1 x)=true)(e:Yp (e2 x)=true)
  (m:WOy X P h0 N all r (up env d (.bool true)) H (.on l) Q)(k:WOy X P h0 N all r (up env d (.bool false)) H (.off l) Q)(hg:Qx all o env true:=by exact rfl)(hd:o.dst=some d:=by exact rfl)(hNd:Nat.blt d N=true:=by exact rfl):WOy X P h0 N all (o::r) env H (.on (x::l)) Q:=by
 refine WOy.yield (x:=x) (rem:=l) (by rw[j];rfl) hg hd hNd ?_ ?_
 .rw[hE];exact QjU n q g f a e
 .intro b;cases b with
  |true=>exact m
  |false=>exact k
end
end Go.Sw
namespace Go.Sw
def yl{T R:Type}(x:T)(k:Option (List T×R)):Option (List T×R):=k.bind λp=>some (x::p.1,p.2)
def ap{T B R:Type}(a:Option (List T×B))(k:B->Option (List T×R)):Option (List T×R):=a.bind λp=>(k p.2).bind λq=>some (p.1++q.1,q.2)
theorem QiY{T R:Type}{x:T}{k:Option (List T×R)}{a:List T}{v:R}(h:yl x k=some (a,v)):∃zs,k=some (zs,v)/\a=x::zs:=by
 obtain⟨⟨zs,e⟩,b,d⟩:=Yy h;cases d;exact⟨zs,b,rfl⟩
theorem QjE{T B R:Type}{a:Option (List T×B)}{k:B->Option (List T×R)}{d:List T}{v:R}(h:ap a k=some (d,v)):∃y1 b y2,a=some (y1,b)/\k b=some (y2,v)/\d=y1++y2:=by
 obtain⟨⟨y1,b⟩,e,i⟩:=Yy h;obtain⟨⟨y2,j⟩,g,f⟩:=Yy i;cases f;exact⟨y1,b,y2,e,g,rfl⟩
section
variable {T:Type}{X:Ctx T}{P:Program}{h0 N:Nat}{c c':Code}{env:Env}{H:Qc}{st:YSt T}{Q:YC T}
def Qnf{β:Type}(h0:Nat)(b:β)(E':β->Env)(H':β->Qc)(rem:List T)(Q:YC T):YC T
 |.normal,env,H,st=>Le h0 env H (E' b) (H' b)/\st=.on rem
 |.exit id,env,H,st=>Q (.exit id) env H st
 |.ret,env,H,st=>Q .ret env H st
theorem QcP{β:Type}{E':β->Env}{H':β->Qc}(b:β)(rem:List T)(sel keep:List Nat)(nE:β->Env)(nH:β->List (Nat×Blk))(_:∀b,QmH sel keep (nE b) (nH b) env H=some (E' b,H' b))(h:TCy X P h0 N c env H st (Qnf h0 b E' H' rem Q))(k:∀env H,Le h0 env H (E' b) (H' b)->Q .normal env H (.on rem)):TCy X P h0 N c env H st Q:=
 h.mono λx env' H' st' q=>by
  cases x with
  |normal=>obtain⟨q1,rfl⟩:=q;exact k _ _ q1
  |exit id=>exact q
  |ret=>exact q
theorem QjA{β:Type}{b:β}{E':β->Env}{H':β->Qc}{rem:List T}(h:Le h0 env H (E' b) (H' b)):Qnf h0 b E' H' rem Q .normal env H (.on rem):=⟨h,rfl⟩
theorem Qjz{β:Type}{b:β}{E':β->Env}{H':β->Qc}{rem:List T}(h:Q .ret env H st):Qnf h0 b E' H' rem Q .ret env H st:=h
theorem QgM{S B:Type}{step:S->Option (List T×Ctl S B)}{E':S->Env}{H':S->Qc}{m:Nat}{s0:S}{ys rem:List T}{b:B}(sel keep:List Nat)(nE:S->Env)(nH:S->List (Nat×Blk))(h:Qbw step m s0=some (ys,b))(_:∀s,QmH sel keep (nE s) (nH s) env H=some (E' s,H' s))(hI:Le h0 env H (E' s0) (H' s0))
  (body:∀s zs d rest,step s=some (zs,d)->(∀b',d=.done b'->b'=b/\rest=rem)->TCy X P h0 N c (E' s) (H' s) (.on (zs++rest)) (Qfj h0 E' H' d rest Q)):TCy X P h0 N (.loop c) env H (.on (ys++rem)) Q:=QkF h hI body
theorem Qes{S B:Type}{E':S->Env}{H':S->Qc}{s:S}{d:Ctl S B}{zs rest:List T}(e:some (([]:List T),Ctl.cont s)=some (zs,d))(h:Le h0 env H (E' s) (H' s)):Qfj h0 E' H' d rest Q .normal env H (.on (zs++rest)):=by
 cases e;exact⟨s,rfl,h,rfl⟩
theorem Qgq{S B:Type}{id:Nat}{E':S->Env}{H':S->Qc}{d:Ctl S B}{rest:List T}(h:Q (.exit id) env H st):Qfj h0 E' H' d rest Q (.exit id) env H st:=h
theorem Qgr{S B:Type}{E':S->Env}{H':S->Qc}{d:Ctl S B}{rest:List T}(h:Q .ret env H st):Qfj h0 E' H' d rest Q .ret env H st:=h
theorem Oy{S B:Type}{d:Ctl S B}{x b:B}{zs rest rem:List T}(e:∀b',d=.done b'->b'=b/\rest=rem)(h:some (([]:List T),Ctl.done x)=some (zs,d)):zs=[]/\b=x/\rest=rem:=by
 cases h;obtain⟨a,f⟩:=e x rfl;exact⟨rfl,a.symm,f⟩
theorem Qao{f:FuncId}{fn:Func}{c:Code}{N:Nat}{a:List A}{H:Qc}{enc:T->List A}{xs:List T}(e:P.funcs[f]?=some fn)(b:fn.body=some c)(g:fn.ntmps=N)(i:Nat.ble (a.length+1) N=true)(d:fn.results= #[])
  (h:∀X:Ctx T,X.enc=enc->X.nx=nxL->TCy X P H.length N c (QfY 0 (.fn (.yield X.l) [] []::a)) H (.on (xs++[])) EndY):QdL P f a H enc nxL xs:=by
 rw[Vp]at h;exact QcS e b g i d h
end
end Go.Sw
namespace Go.Sw
open Go.MapKept
section
variable {fr ro:Nat->Prop}{σ:Sig}{H:Qc}{w:World}
theorem Sim.lendO(s:Sim fr ro σ H w){i b:Nat}{x x':Blk}(hσ:σ[i]?=some (some b))(l:H[i]?=some x)(r:BR ro σ w x' (some b))(O:∀d,Hid w x' b d->Hid w x b d)(F:x'.live=true->x.live=true:=by exact id):
  Sim fr ro σ (H.set i x') w:=by
 have L:i<H.length:=(XT.1 l).1;have a:∀(j:Nat) (v:Blk),(H.set i x')[j]?=some v->(j=i/\v=x')\/(j≠i/\H[j]?=some v):=by
  intro j v h;by_cases e:j=i
  .subst e;rw[Xa L]at h;cases h;exact .inl ⟨rfl,rfl⟩
  .rw[XX (λq=>e q.symm)]at h;exact .inr ⟨e,h⟩
 have B:∀(j:Nat) (v:Blk),(H.set i x')[j]?=some v->v.live=true->∃g,H[j]?=some g/\g.live=true:=by
  intro j v h G;rcases a j v h with⟨rfl,rfl⟩|⟨_,h⟩
  .exact⟨x,l,F G⟩
  .exact⟨v,h,G⟩
 refine⟨by rw[Vc];exact s.len,s.roOk,s.frLt,s.roFr,?_,?_,?_,s.hidTo (· = ·) Yc (X2 _) (λ_ _ _ _ _ _ _ q=>q) (λ_ _ _ _ _ _ _ q=>q) λj d y m P T=>.inl ?_⟩
 .intro j b v f k p;obtain⟨g,t,E⟩:=B j v k p;exact s.own j b g f t E
 .intro j J b v g f k p Q N M;obtain⟨u,t,E⟩:=B j v p N;obtain⟨R,n,z⟩:=B J g Q M;exact s.inj j J b u R f k t n E z
 .intro j y v f k;rcases a j v k with⟨rfl,rfl⟩|⟨_,h⟩
  .rw[hσ]at f;cases f;exact r
  .exact s.blk j y v f h
 .rcases a j y P with⟨rfl,rfl⟩|⟨_,h⟩
  .rw[hσ]at m;cases m;exact⟨j,x,rfl,hσ,l,F,O⟩
  .exact⟨j,y,rfl,m,h,id,λ_ q=>q⟩
theorem Sim.unhide(s:Sim fr ro σ H w){i b c:Nat}{x x' y:Blk}(hσ:σ[i]?=some (some b))(p:H[i]?=some x)(hx:Hid w x b c)(N:x'.live=true->x.live=true)
  (X:BR ro σ w x' (some b))(hh:∀d,Hid w x' b d->Hid w x b d/\d≠c)(hy:BR ro (σ++[some c]) w y (some c))(M:∀d,Hid w y c d->False):
  Sim fr ro (σ++[some c]) (H.set i x'++[y]) w:=by
 have E:=s.len;have hi:i<H.length:=(XT.1 p).1;have F:=s.hid i b x c hσ p hx;have a:∀(j:Nat) (z:Option Nat) (v:Blk),(σ++[some c])[j]?=some z->(H.set i x'++[y])[j]?=some v->
   (j=i/\z=some b/\v=x')\/(j≠i/\j<σ.length/\σ[j]?=some z/\H[j]?=some v)\/(j=σ.length/\z=some c/\v=y):=by
  intro j z v g m;rcases Nat.lt_trichotomy j σ.length with q|q|q
  .rw[XU q]at g;rw[XU (by rw[Vc];omega)]at m;by_cases e:j=i
   .subst e;rw[Xa hi]at m;rw[hσ]at g;cases m;cases g;exact .inl ⟨rfl,rfl,rfl⟩
   .rw[XX (λq=>e q.symm)]at m;exact .inr (.inl ⟨e,q,g,m⟩)
  .subst q;have e1:(σ++[some c])[σ.length]?=some (some c):=by simp
   have e2:(H.set i x'++[y])[σ.length]?=some y:=by rw[E,show H.length=(H.set i x').length from by simp];simp
   rw[e1]at g;rw[e2]at m;cases g;cases m;exact .inr (.inr ⟨rfl,rfl,rfl⟩)
  .rw[XW (by simp;omega)]at g;simp at g
 have ext:Ext ro σ w ro (σ++[some c]) w:=⟨λ_ q=>q,λ_ _=>rfl,λ_ _ q=>q,λ_ _ h=>Jm h⟩;refine⟨by simp[E],s.roOk,s.frLt,s.roFr,?_,?_,?_,?_⟩
 .intro j d v g m B;rcases a j _ v g m with⟨rfl,e,rfl⟩|⟨_,_,t,u⟩|⟨rfl,e,rfl⟩
  .cases e;exact s.own j _ x hσ p (N B)
  .exact s.own j d v t u B
  .cases e;exact⟨F.lt,F.ro,F.fr⟩
 .intro j f d v l g m B Y L R;rcases a j _ v g B with⟨T,e,rfl⟩|⟨n1,l1,t,u⟩|⟨T,e,rfl⟩<;>rcases a f _ l m Y with⟨r1',e',rfl⟩|⟨n1',l1',q1',q2'⟩|⟨r1',e',rfl⟩
  .rw[T,r1']
  .cases e;exact(n1' (s.inj f i _ l x q1' hσ q2' p R (N L))).elim
  .cases e;cases e';exact(F.ne i _ x hσ p (N L) rfl).elim
  .cases e';exact(n1 (s.inj j i _ v x t hσ u p L (N R))).elim
  .exact s.inj j f d v l t q1' u q2' L R
  .cases e';exact(F.ne j _ v t u L rfl).elim
  .cases e;cases e';exact(F.ne i _ x hσ p (N R) rfl).elim
  .cases e;exact(F.ne f _ l q1' q2' R rfl).elim
  .rw[T,r1']
 .intro j z v g m;rcases a j _ v g m with⟨rfl,rfl,rfl⟩|⟨_,_,t,u⟩|⟨rfl,rfl,rfl⟩
  .exact X.keep ext (λ_ _ _=>rfl) (λ_ _ _ _=>rfl)
  .exact(s.blk j z v t u).keep ext (λ_ _ _=>rfl) (λ_ _ _ _=>rfl)
  .exact hy
 .intro j d v V g m B;rcases a j _ v g m with⟨T,e,r2⟩|⟨n1,l1,t,u⟩|⟨rfl,e,rfl⟩
  .cases e;subst T r2;obtain⟨Y,L⟩:=hh V B;have k:=s.hid j _ x V hσ p Y;refine⟨k.lt,k.ro,k.fr,λf J l G Q n=>?_,λf J l G Q n=>?_⟩
   .rcases a f _ l G Q with⟨_,e,rfl⟩|⟨_,_,P,O⟩|⟨_,e,rfl⟩
    .cases e;exact k.ne j _ x hσ p (N n)
    .exact k.ne f J l P O n
    .cases e;exact L
   .rcases a f _ l G Q with⟨r,e,rfl⟩|⟨_,_,P,O⟩|⟨_,e,rfl⟩
    .cases e;exact⟨rfl,r⟩
    .exact k.one f J l P O n
    .cases e;exact(M _ n).elim
  .have k:=s.hid j d v V t u B;have W:V≠c:=λe=>by subst e;exact n1 (F.one j d v t u B).2
   refine⟨k.lt,k.ro,k.fr,λf J l G Q n=>?_,λf J l G Q n=>?_⟩
   .rcases a f _ l G Q with⟨_,e,rfl⟩|⟨_,_,P,O⟩|⟨_,e,rfl⟩
    .cases e;exact k.ne i _ x hσ p (N n)
    .exact k.ne f J l P O n
    .cases e;exact W
   .rcases a f _ l G Q with⟨r,e,rfl⟩|⟨_,_,P,O⟩|⟨_,e,rfl⟩
    .cases e;subst r;exact k.one f _ x hσ p (hh V n).1
    .exact k.one f J l P O n
    .cases e;exact(M _ n).elim
  .cases e;exact(M _ B).elim
theorem Sim.hideSet(s:Sim fr ro σ H w){i b j c:Nat}{x x' y:Blk}{obj:Obj}(hσ:σ[i]?=some (some b))(L:H[i]?=some x)(P:x.live=true)(hσj:σ[j]?=some (some c))(J:H[j]?=some y)(O:y.live=true)(ai:i≠j)
  (ag:∀y,w.shape? b=some y->({w with heap:=w.heap.setIfInBounds b obj}:World).shape? b=some y)
  (ae:Ext ro σ w ro σ {w with heap:=w.heap.setIfInBounds b obj}->({w with heap:=w.heap.setIfInBounds b obj}:World).heap[b]?=some obj->(∀d,d≠b->({w with heap:=w.heap.setIfInBounds b obj}:World).heap[d]?=w.heap[d]?)->BR ro σ {w with heap:=w.heap.setIfInBounds b obj} x' (some b))
  (X:∀d,Hid {w with heap:=w.heap.setIfInBounds b obj} x' b d->Hid w x b d\/d=c):
  Sim fr ro σ ((H.set j .dead).set i x') {w with heap:=w.heap.setIfInBounds b obj}/\Qj fr ro w ro {w with heap:=w.heap.setIfInBounds b obj}:=by
 obtain⟨hb,R,Q⟩:=s.own i b x hσ L P;obtain⟨hc,ab,aa⟩:=s.own j c y hσj J O;have ad:b≠c:=λe=>ai (s.inj i j b x y hσ (by rw[e];exact hσj) L J P O);have G:∀c,c≠b->({w with heap:=w.heap.setIfInBounds b obj}:World).heap[c]?=w.heap[c]? :=by
  intro c hc;show(w.heap.setIfInBounds b obj)[c]?=_;rw[Vn,if_neg (λq=>hc q.symm)]
 have ah:({w with heap:=w.heap.setIfInBounds b obj}:World).heap[b]?=some obj:=by
  show(w.heap.setIfInBounds b obj)[b]?=_;rw[Vn,if_pos rfl,if_pos hb]
 have E:({w with heap:=w.heap.setIfInBounds b obj}:World).heap.size=w.heap.size:=by simp
 have ev:Qj fr ro w ro {w with heap:=w.heap.setIfInBounds b obj}:=
  ⟨λ_ h=>h,λc h=>G c (λq=>R (q▸h)),λc h=>G c (λq=>Q (q▸h)),by rw[E];exact X2 _,by
   intro c y h;by_cases q:c=b
   .subst q;exact ag y h
   .unfold World.shape? at h⊢;rw[G c q];exact h,rfl,rfl,rfl,X2 _⟩
 have hi:i<H.length:=(XT.1 L).1;have a:∀(p:Nat) (v:Blk),((H.set j .dead).set i x')[p]?=some v->(p=i/\v=x')\/v=.dead\/(p≠i/\p≠j/\H[p]?=some v):=by
  intro p v h;by_cases e:p=i
  .subst e;rw[Xa (by rw[Vc];exact hi)]at h;cases h;exact .inl ⟨rfl,rfl⟩
  .rw[XX (λq=>e q.symm)]at h;by_cases e':p=j
   .subst e';rw[Xa (XT.1 J).1]at h;cases h;exact .inr (.inl rfl)
   .rw[XX (λq=>e' q.symm)]at h;exact .inr (.inr ⟨e,e',h⟩)
 have ac:=ae (ev.ext0 σ) ah G;have t:∀(p d:Nat) (v:Blk) (e:Nat),p≠i->σ[p]?=some (some d)->H[p]?=some v->Hid {w with heap:=w.heap.setIfInBounds b obj} v d e->Hid w v d e:=λp d v e n m M q=>
  s.hidKeep m M (λz=>G d (λr=>n (s.inj p i b v x (r▸m) hσ M L z P))) ev.keepRo q
 refine⟨⟨by rw[Vc,Vc];exact s.len,s.roOk.to (λ_ q=>q) ev.keepRo (λc h=>by rw[E];exact s.roLt c h),λc h=>by rw[E];exact s.frLt c h,s.roFr,?_,?_,?_,?_⟩,ev⟩
 .intro p d v m M T;rw[E];rcases a p v M with⟨rfl,rfl⟩|rfl|⟨_,_,q⟩
  .rw[hσ]at m;cases m;exact⟨hb,R,Q⟩
  .cases T
  .exact s.own p d v m q T
 .intro p f d v l m M T h4 Y h6;rcases a p v T with⟨r,rfl⟩|rfl|⟨n,_,q⟩<;>rcases a f l h4 with⟨V,rfl⟩|rfl|⟨W,_,B⟩
  .rw[r,V]
  .cases h6
  .subst r;exact s.inj p f d x l m M L B P h6
  .cases Y
  .cases Y
  .cases Y
  .subst V;exact s.inj p f d v x m M q L Y P
  .cases h6
  .exact s.inj p f d v l m M q B Y h6
 .intro p z v m M;rcases a p v M with⟨rfl,rfl⟩|rfl|⟨n,_,q⟩
  .rw[hσ]at m;cases m;exact ac
  .trivial
  .refine(s.blk p z v m q).keep (ev.ext0 σ) ?_ ?_
   .rintro d rfl hz;exact G d (λr=>n (s.inj p i b v x (r▸m) hσ q L hz P))
   .rintro d e rfl hz;exact G e ((s.hid p d v e m q hz).ne i b x hσ L P)
 .intro p d v e m M T;rcases a p v M with⟨r,rfl⟩|rfl|⟨n,nj,q⟩
  .subst r;rw[hσ]at m;cases m;rcases X e T with h4|rfl
   .have k:=s.hid p b x e hσ L h4;refine⟨by rw[E];exact k.lt,k.ro,k.fr,λf F l g N u=>?_,λf F l g N u=>?_⟩
    .rcases a f l N with⟨rfl,rfl⟩|rfl|⟨_,_,B⟩
     .exact k.ne f F x g L P
     .cases u
     .exact k.ne f F l g B u
    .rcases a f l N with⟨V,rfl⟩|rfl|⟨W,_,B⟩
     .subst V;rw[hσ]at g;cases g;exact⟨rfl,rfl⟩
     .exact u.elim
     .exact k.one f F l g B (t f F l e W g B u)
   .refine⟨by rw[E];exact hc,ab,aa,λf F l g N u=>?_,λf F l g N u=>?_⟩
    .rcases a f l N with⟨rfl,rfl⟩|rfl|⟨_,af,B⟩
     .rw[hσ]at g;cases g;exact λz=>ad z.symm
     .cases u
     .exact λz=>af (s.inj f j e l y (z▸g) hσj B J u O)
    .rcases a f l N with⟨V,rfl⟩|rfl|⟨W,_,B⟩
     .subst V;rw[hσ]at g;cases g;exact⟨rfl,rfl⟩
     .exact u.elim
     .exact((s.hid f F l e g B (t f F l e W g B u)).ne j e y hσj J O rfl).elim
  .exact T.elim
  .have k:=s.hid p d v e m q (t p d v e n m q T);refine⟨by rw[E];exact k.lt,k.ro,k.fr,λf F l g N u=>?_,λf F l g N u=>?_⟩
   .rcases a f l N with⟨rfl,rfl⟩|rfl|⟨_,_,B⟩
    .exact k.ne f F x g L P
    .cases u
    .exact k.ne f F l g B u
   .rcases a f l N with⟨V,rfl⟩|rfl|⟨W,_,B⟩
    .subst V;rw[hσ]at g;cases g;rcases X e u with h4|rfl
     .exact k.one f b x hσ L h4
     .exact(k.ne j e y hσj J O rfl).elim
    .exact u.elim
    .exact k.one f F l g B (t f F l e W g B u)
end
end Go.Sw
namespace Go.Sw
open Go.MapKept
def Q0{α β:Type}(ek:α->A)(ev:β->List A)(l:List (α×Option (List β))):List (A×Option (List (List A))):=l.map λp=>(ek p.1,p.2.map (List.map ev))
def Qj4{α β:Type}[DecidableEq α](l:List (α×Option (List β)))(x:α):Option (List β):=match YV l x with
 |none=>some []
 |some q=>q
def Qar{α β:Type}[DecidableEq α](l:List (α×Option (List β)))(x:α):List (α×Option (List β)):=l.map λp=>bif decide (p.1=x)then(p.1,none)else p
section
variable {P:Program}{kt:TypeId}{α β:Type} [DecidableEq α] {ek:α->A}{ev:β->List A}{ro:Nat->Prop}{w:World}{t k:Nat} (K:Jg P kt ek)
include K
theorem MO.keys:∀{l:List (α×Option (List β))}{es:List MapEntry},MO ro w t k (Q0 ek ev l) es->es.map (·.key)=l.map λp=>Qw (ek p.1)
 |[],es,h=>by cases(show es=[]from h);rfl
 |p::l,es,h=>by
  obtain⟨e,l',rfl,h1,h2,h3⟩:=h;simp only[Vs];rw[VR.val (K.scl _) h1,MO.keys (l:=l) h3]
theorem Qh6{l:List (α×Option (List β))}{es:List MapEntry}(h:MO ro w t k (Q0 ek ev l) es):∀e∈es,∃y,e.key=Qw (ek y):=by
 intro e a;have:e.key∈es.map (·.key):=List.mem_map_of_mem a;rw[MO.keys K h]at this;obtain⟨p,_,b⟩:=Xf.1 this;exact⟨p.1,b.symm⟩
theorem QgS{x:α}:∀{l:List (α×Option (List β))}{es:List MapEntry},MO ro w t k (Q0 ek ev l) es->MO ro w t k (Q0 ek ev (Qar l x)) es
 |[],es,h=>h
 |p::l,es,h=>by
  obtain⟨e,l',rfl,h1,h2,h3⟩:=h;by_cases q:p.1=x
  .refine⟨e,l',rfl,by simpa[q]using h1,λrows hr=>?_,QgS (l:=l) h3⟩;simp[q]at hr
  .refine⟨e,l',rfl,by simpa[q]using h1,λrows hr=>h2 rows (by simpa[q]using hr),QgS (l:=l) h3⟩
omit K
theorem Qb0{x:α}{c:Nat}:∀{l:List (α×Option (List β))}{es:List MapEntry},Jo (Q0 ek ev (Qar l x)) es c->Jo (Q0 ek ev l) es c
 |[],es,h=>by cases es<;>exact h.elim
 |p::l,[],h=>h.elim
 |p::l,e::es,h=>by
  rcases h with⟨h1,h2⟩|h
  .by_cases q:p.1=x
   .simp[q]at h1
   .exact .inl ⟨by simpa[q]using h1,h2⟩
  .exact .inr (Qb0 (l:=l) h)
theorem Qf9{x:α}:∀{l:List (α×Option (List β))}{es:List MapEntry},Qcq (Q0 ek ev l) es->Qcq (Q0 ek ev (Qar l x)) es
 |[],es,h=>by cases es<;>trivial
 |p::l,[],h=>trivial
 |p::l,e::es,h=>by
  obtain⟨h1,h2⟩:=h;refine⟨λc q1 q2 q3=>?_,Qf9 (l:=l) h2⟩;by_cases q:p.1=x
  .simp[q]at q1
  .exact h1 c (by simpa[q]using q1) q2 (Qb0 (l:=l) q3)
include K
theorem MO.find:∀{l:List (α×Option (List β))}{es:List MapEntry},MO ro w t k (Q0 ek ev l) es->∀(x:α),(es.map (·.key)).Nodup->
  ((∀e:MapEntry,e∈es->e.key≠Qw (ek x))->YV l x=none)/\
  (∀(j:Nat) (e:MapEntry),es[j]?=some e->e.key=Qw (ek x)->∃q,YV l x=some q/\(∀rows,q=some rows->SO ro w t k (rows.map ev) e.val)/\
   ∀c p n cap,q.isSome=true->e.val=.slice (some ⟨c,p,none⟩) n cap->Jo (Q0 ek ev l) es c/\(Qcq (Q0 ek ev l) es->¬Jo (Q0 ek ev (Qar l x)) es c))
 |[],es,h,x,_=>by
  cases(show es=[]from h);exact⟨λ_=>rfl,λj e he=>by simp at he⟩
 |p::l,es,h,x,hn=>by
  obtain⟨e0,l',rfl,h1,h2,h3⟩:=h;have hk:e0.key=Qw (ek p.1):=VR.val (K.scl _) h1;simp only[Vs,List.nodup_cons]at hn;obtain⟨a1,a2⟩:=MO.find (l:=l) h3 x hn.2;by_cases hp:p.1=x
  .subst hp;constructor
   .intro q;exact absurd hk (q e0 (by simp))
   .intro j e he hx;cases j with
    |zero=>
     simp only[XM,Option.some.injEq]at he;subst he;refine⟨p.2,by simp[YV],λrows hr=>h2 (rows.map ev) (by simp[hr]),λc p' n cap hs hv=>⟨.inl ⟨by simpa using hs,p',n,cap,hv⟩,λhd hq=>?_⟩⟩;rcases hq with⟨q1,_⟩|hq
     .simp at q1
     .exact hd.1 c (by simpa using hs) ⟨p',n,cap,hv⟩ (Qb0 (l:=l) hq)
    |succ j=>
     simp only[XN]at he;exact absurd (hk.trans hx.symm▸List.mem_map_of_mem (f:=λe:MapEntry=>e.key) (List.mem_of_getElem? he)) hn.1
  .have e1:YV (p::l) x=YV l x:=by simp[YV,hp]
   rw[e1];constructor
   .intro q;exact a1 λe he=>q e (by simp[he])
   .intro j e he hx;cases j with
    |zero=>
     simp only[XM,Option.some.injEq]at he;subst he;exact absurd (K.inj _ _ (hk.symm.trans hx)) hp
    |succ j=>
     obtain⟨q,b,d,i⟩:=a2 j e (by simpa using he) hx;refine⟨q,b,d,λc p' n cap hs hv=>?_⟩;obtain⟨a,g⟩:=i c p' n cap hs hv;refine⟨.inr a,λhd hq=>?_⟩;rcases hq with⟨q1,m⟩|hq
     .exact hd.1 c (by simpa[hp]using q1) m a
     .exact g hd.2 hq
end
section
variable {P:Program}{o:Oper}{env:Env}{H:Qc}
variable {T kt et:Nat}{α β:Type} [DecidableEq α] {ek:α->A}{ev:β->List A}{x y:Operand}{i t k:Nat}{l:List (α×Option (List β))}{key:α}{rows:List β}
theorem QiV(t k:Nat)(f:o.op=.makeMap T none:=by exact rfl):OpH P o env H (.map H.length) (H++[.mapO false t k []]):=by
 intro m g σ N a w r;refine⟨.map (some w.heap.size),w.alloc (.map #[] 0),g,[some w.heap.size],?_,⟨w.heap.size,?_,rfl⟩,r.sim.alloc ⟨(λh=>by cases h), #[],0,YU _ _,rfl,trivial,by simp,by simp,by simp,rfl,λi e h=>by simp at h⟩ (λc h=>?_),Qj.alloc _ r.sim.roLt r.sim.frLt⟩
 .generalize a.eval=ρ at*;simp only[execOp,f,Instr.makeMap,Xl,Vv];rfl
 .rw[<- r.sim.len];simp
 .obtain⟨l,n,j,b⟩:=h;cases d:l.toList with
  |nil=>rw[d]at b;exact b
  |cons e r=>rw[d]at b;exact b
theorem QkV{fz:Bool}(K:Jg P kt ek)(O:Qj4 l key=some rows)(hT:P.underlying T=some (.map kt et))(hz:∀w,(zeroValue et).run P w=.ok (.slice none 0 0) w)
  (ho:o.op=.lookup T x y false:=by exact rfl)(hx:opA env x=.map i:=by exact rfl)(hH:H[i]?=some (.mapO fz t k (Q0 ek ev l)):=by exact rfl)(hy:opA env y=ek key:=by exact rfl):
  OpH P o env H (.osl H.length 0 rows.length k) (H.set i (.mapO fz t k (Q0 ek ev (Qar l key)))++[.row t k (rows.map ev)]):=by
 intro X F σ N a w r;have h1:=Qk r x;rw[hx]at h1;obtain⟨b,V,q2⟩:=h1;have h2:=Qk r y;rw[hy]at h2;have h3:=VR.val (K.scl _) h2;have hB:=r.sim.blk i _ _ V hH;obtain⟨p0,W,g,n,J,pd,p3,p4,Y⟩:=hB;obtain⟨f1,f2⟩:=MO.find K J key Y.1;have z:BR F σ w (.mapO fz t k (Q0 ek ev (Qar l key))) (some b):=⟨p0,W,g,n,QgS K J,Qf9 pd,p3,p4,Y⟩;have s:∀d,Hid w (.mapO fz t k (Q0 ek ev (Qar l key))) b d->Hid w (.mapO fz t k (Q0 ek ev l)) b d:=by
  rintro d ⟨l',cl,m,Q⟩;exact⟨l',cl,m,Qb0 Q⟩
 have u:=r.sim.len;have f:rows=[]->(execOp a.eval o).run P w=.ok (.value (.slice none 0 0)) w->∃v w' ro' τ,(execOp a.eval o).run P w=.ok (.value v) w'/\VR ro' (σ++τ) w' (.osl H.length 0 rows.length k) v/\
   Sim X ro' (σ++τ) (H.set i (.mapO fz t k (Q0 ek ev (Qar l key)))++[.row t k (rows.map ev)]) w'/\Qj X F w ro' w':=by
  rintro rfl E;refine⟨_,w,F,[none],E,.inl ⟨rfl,rfl⟩,?_,Qj.refl _ _ _⟩;exact(r.sim.lendO V hH z s).phantom t k
 rcases K.find w key W.toList (Qh6 K J)with⟨R,L⟩|⟨j,e,R,L,h6⟩
 .have m:=f1 L;have hr:rows=[]:=by simp[Qj4,m]at O;exact O
  refine f hr ?_;simp only[execOp,ho,q2,h3,Vv,Instr.lookup,run_underlying hT,Result.andThen,MapKept.run_getObj_map n,Vw,K.check,R,hz];rfl
 .obtain⟨q,m,Q,g3⟩:=f2 j e L h6;have hq:q=some rows:=by simpa[Qj4,m]using O
  subst hq;have E:(execOp a.eval o).run P w=.ok (.value e.val) w:=by
   simp only[execOp,ho,q2,h3,Vv,Instr.lookup,run_underlying hT,Result.andThen,MapKept.run_getObj_map n,Vw,K.check,R];rfl
  rcases Q rows rfl with⟨G,M⟩|⟨c,p,B,vs,G,M,z3,z4,z5,z6⟩
  .exact f (by simpa using G) (by rw[E,M])
  .rw[G]at E;obtain⟨f3,f4⟩:=g3 c p _ B rfl G;refine⟨_,w,F,[some c],E,.inr ⟨c,p,B,t,vs.length,?_,by simp,λq=>by simpa using z6 q,by simpa using M,?_,by simpa using z4⟩,?_,Qj.refl _ _ _⟩
   .rw[<- u];simp
   .unfold World.shape?;rw[z3];simp
   .refine r.sim.unhide V hH ⟨W,g,n,f3⟩ id z (λd hd=>⟨s d hd,?_⟩) ⟨vs,z3,z5⟩ (λ_ h=>h.elim);rintro rfl;obtain⟨l',cl,g4,g5⟩:=hd;rw[n]at g4;cases g4;exact f4 pd g5
end
end Go.Sw
namespace Go.Sw
open Go.MapKept
theorem MO.append{ro:Nat->Prop}{w:World}{t k:Nat}:∀{l m:List (A×Option (List (List A)))}{es fs:List MapEntry},MO ro w t k l es->MO ro w t k m fs->MO ro w t k (l++m) (es++fs)
 |[],m,es,fs,h,q=>by cases(show es=[]from h);exact q
 |p::l,m,es,fs,h,q=>by
  obtain⟨e,l',rfl,h1,h2,h3⟩:=h;exact⟨e,l'++fs,rfl,h1,h2,MO.append h3 q⟩
theorem MO.length{ro:Nat->Prop}{w:World}{t k:Nat}:∀{l:List (A×Option (List (List A)))}{es:List MapEntry},MO ro w t k l es->es.length=l.length
 |[],es,h=>by cases(show es=[]from h);rfl
 |p::l,es,h=>by
  obtain⟨e,l',rfl,h1,h2,h3⟩:=h;simp[MO.length h3]
def SlB(v:Value)(c:Nat):Prop:=∃p n cap,v=.slice (some ⟨c,p,none⟩) n cap
theorem Jo.push{c:Nat}{x:A}{r:Option (List (List A))}{e:MapEntry}:∀{l:List (A×Option (List (List A)))}{es:List MapEntry},es.length=l.length->Jo (l++[(x,r)]) (es++[e]) c->Jo l es c\/SlB e.val c
 |[],[],_,h=>by
  rcases h with⟨_,h⟩|h
  .exact .inr h
  .exact h.elim
 |[],_::_,q,_=>by simp at q
 |_::_,[],q,_=>by simp at q
 |p::l,e0::es,q,h=>by
  rcases h with h|h
  .exact .inl (.inl h)
  .exact(Jo.push (l:=l) (es:=es) (by simpa using q) h).imp .inr id
theorem Qcq.push{x:A}{r:Option (List (List A))}{e:MapEntry}:∀{l:List (A×Option (List (List A)))}{es:List MapEntry},es.length=l.length->Qcq l es->(∀c,Jo l es c->¬SlB e.val c)->Qcq (l++[(x,r)]) (es++[e])
 |[],[],_,_,_=>⟨λ_ _ _ h=>h.elim,trivial⟩
 |[],_::_,q,_,_=>by simp at q
 |_::_,[],q,_,_=>by simp at q
 |p::l,e0::es,q,⟨h1,h2⟩,hn=>by
  refine⟨λc q1 q2 q3=>?_,Qcq.push (l:=l) (es:=es) (by simpa using q) h2 λc hc=>hn c (.inr hc)⟩;rcases Jo.push (l:=l) (es:=es) (by simpa using q) q3 with q4|q4
  .exact h1 c q1 q2 q4
  .exact hn c (.inl ⟨q1,q2⟩) q4
section
variable {P:Program}{kt:TypeId}{α β:Type} [DecidableEq α] {ek:α->A}{ev:β->List A}{ro:Nat->Prop}{w:World}{t k:Nat} (K:Jg P kt ek)
def QbA{α β:Type}[DecidableEq α](l:List (α×Option (List β)))(x:α)(rows:List β):List (α×Option (List β)):=l.map λp=>bif decide (p.1=x)then(p.1,some rows)else p
include K
theorem QfH{x:α}{rows:List β}:∀{l:List (α×Option (List β))}{es:List MapEntry},MO ro w t k (Q0 ek ev l) es->(∀e∈es,e.key≠Qw (ek x))->QbA l x rows=l
 |[],es,h,q=>rfl
 |p::l,es,h,q=>by
  obtain⟨e,l',rfl,h1,h2,h3⟩:=h;have hk:e.key=Qw (ek p.1):=VR.val (K.scl _) h1;have hp:p.1≠x:=λz=>q e (by simp) (by rw[hk,z]);have:=QfH (l:=l) h3 (λe he=>q e (by simp[he])) (rows:=rows);simp only[QbA,Vs,decide_false,hp,cond_false];rw[show(l.map λp=>bif decide (p.1=x)then(p.1,some rows)else p)=l from this]
theorem MO.put{x:α}{rows:List β}{v:Value}(i:SO ro w t k (rows.map ev) v):∀{l:List (α×Option (List β))}{es:List MapEntry}{j:Nat}{e:MapEntry},MO ro w t k (Q0 ek ev l) es->
  (es.map (·.key)).Nodup->es[j]?=some e->e.key=Qw (ek x)->
  MO ro w t k (Q0 ek ev (QbA l x rows)) (es.modify j λe=>{e with key:=Qw (ek x),val:=v})/\
  (∀c,Jo (Q0 ek ev (QbA l x rows)) (es.modify j λe=>{e with key:=Qw (ek x),val:=v}) c->Jo (Q0 ek ev l) es c\/SlB v c)/\
  (Qcq (Q0 ek ev l) es->(∀c,Jo (Q0 ek ev l) es c->¬SlB v c)->Qcq (Q0 ek ev (QbA l x rows)) (es.modify j λe=>{e with key:=Qw (ek x),val:=v}))
 |[],es,j,e,h,hn,he,hk=>by cases(show es=[]from h);simp at he
 |p::l,es,j,e,h,hn,he,hk=>by
  obtain⟨e0,l',rfl,h1,h2,h3⟩:=h;have hk0:e0.key=Qw (ek p.1):=VR.val (K.scl _) h1;simp only[Vs,List.nodup_cons]at hn;cases j with
  |zero=>
   simp only[XM,Option.some.injEq]at he;subst he;have hp:p.1=x:=K.inj _ _ (hk0.symm.trans hk);simp only[List.modify_zero_cons];have e0':QbA l x rows=l:=QfH K h3 λe he z=>hn.1 (by rw[hk, <- z];exact List.mem_map_of_mem he);have e1:QbA (p::l) x rows=(p.1,some rows)::l:=by
    have:QbA (p::l) x rows=(p.1,some rows)::QbA l x rows:=by simp[QbA,hp]
    rw[this,e0']
   rw[e1];refine⟨⟨_,l',rfl,?_,?_,h3⟩,?_,?_⟩
   .show VR ro [] w (ek p.1) (Qw (ek x));rw[<- hp];exact QbP (K.scl _)
   .intro d u;cases u;exact i
   .rintro c (⟨_,q⟩|q)
    .exact .inr q
    .exact .inl (.inr q)
   .rintro⟨m,b⟩ a;exact⟨λc _ q z=>a c (.inr z) q,b⟩
  |succ j=>
   simp only[XN]at he;have hp:p.1≠x:=by
    intro q;refine hn.1 (Xf.2 ⟨e,List.mem_of_getElem? he,?_⟩);rw[hk,hk0,q]
   simp only[List.modify_succ_cons];obtain⟨y,f,r⟩:=MO.put i h3 hn.2 he hk;have e1:QbA (p::l) x rows=p::QbA l x rows:=by simp[QbA,hp]
   rw[e1];refine⟨⟨_,_,rfl,h1,h2,y⟩,?_,?_⟩
   .rintro c (q|q)
    .exact .inl (.inl q)
    .exact(f c q).imp .inr id
   .rintro⟨m,b⟩ a;refine⟨λc g n z=>?_,r b λc s=>a c (.inr s)⟩;rcases f c z with z|z
    .exact m c g n z
    .exact a c (.inl ⟨g,n⟩) z
end
section
variable {P:Program}{o:Oper}{env:Env}{H:Qc}
variable {T kt et:Nat}{α β:Type} [DecidableEq α] {ek:α->A}{ev:β->List A}{x y zz:Operand}{i j t k n:Nat}{l m:List (α×Option (List β))}{key:α}{rows:List β}
theorem Qnp(K:Jg P kt ek){ro:Nat->Prop}{w:World}{b:Nat}{es:Array MapEntry}{v:Value}(E:MO ro w t k (Q0 ek ev l) es.toList)(u:Qcq (Q0 ek ev l) es.toList)
  (G:∀e∈es.toList,e.born<b)(H:(es.toList.map (·.born)).Nodup)(m:(es.toList.map (·.key)).Nodup/\Qfo es b)(z:SO ro w t k (rows.map ev) v)(j:∀c,Jo (Q0 ek ev l) es.toList c->¬SlB v c)
  {d:Nat}{e:MapEntry}(p:es.toList[d]?=some e)(r:e.key=Qw (ek key)):
  MO ro w t k (Q0 ek ev (QbA l key rows)) (es.modify d λe=>{e with key:=Qw (ek key),val:=v}).toList/\Qcq (Q0 ek ev (QbA l key rows)) (es.modify d λe=>{e with key:=Qw (ek key),val:=v}).toList/\
   (∀c,Jo (Q0 ek ev (QbA l key rows)) (es.modify d λe=>{e with key:=Qw (ek key),val:=v}).toList c->Jo (Q0 ek ev l) es.toList c\/SlB v c)/\(∀e'∈(es.modify d λe=>{e with key:=Qw (ek key),val:=v}).toList,e'.born<b)/\
   ((es.modify d λe=>{e with key:=Qw (ek key),val:=v}).toList.map (·.born)).Nodup/\((es.modify d λe=>{e with key:=Qw (ek key),val:=v}).toList.map (·.key)).Nodup/\Qfo (es.modify d λe=>{e with key:=Qw (ek key),val:=v}) b:=by
 have a:(es.modify d λe=>{e with key:=Qw (ek key),val:=v}).toList=es.toList.modify d λe=>{e with key:=Qw (ek key),val:=v}:=by simp
 have g:∀{γ:Type} (f:MapEntry->γ),(∀e',es.toList[d]?=some e'->f {e' with key:=Qw (ek key),val:=v}=f e')->(es.toList.modify d λe=>{e with key:=Qw (ek key),val:=v}).map f=es.toList.map f:=by
  intro γ f hf;apply List.ext_getElem?;intro n;rw[Xr,Xr,List.getElem?_modify];by_cases j:d=n
  .subst j;cases q:es.toList[d]? with
   |none=>rfl
   |some e'=>simp[hf e' q]
  .simp[j]
 obtain⟨F,s,x⟩:=MO.put K z E m.1 p r;refine⟨?_,?_,?_,?_,?_,?_,m.2.modify λ_=>rfl⟩
 .rw[a];exact F
 .rw[a];exact x u j
 .rw[a];exact s
 .rw[a];intro e' i;have:e'.born∈(es.toList.modify d λe=>{e with key:=Qw (ek key),val:=v}).map (·.born):=List.mem_map_of_mem i;rw[g (·.born) (λ_ _=>rfl)]at this;obtain⟨y,h,B⟩:=Xf.1 this;rw[<- B];exact G y h
 .rw[a,g (·.born) (λ_ _=>rfl)];exact H
 .rw[a,g (·.key) (λe' i=>by rw[p]at i;cases i;exact r.symm)];exact m.1
theorem Qlq(K:Jg P kt ek)(hT:P.underlying T=some (.map kt et)){ro:Nat->Prop}{w:World}{b f:Nat}{es:Array MapEntry}{v:Value}{a:Act}(ho:o.op=.mapUpdate T x y zz)
  (q2:a.eval x=.map (some b))(W:a.eval y=Qw (ek key))(Y:a.eval zz=v)(F:w.heap[b]?=some (.map es f))(r:MO ro w t k (Q0 ek ev l) es.toList)(X:Qcq (Q0 ek ev l) es.toList)
  (Q:∀e∈es.toList,e.born<f)(V:(es.toList.map (·.born)).Nodup)(E:(es.toList.map (·.key)).Nodup/\Qfo es f)(hv:SO ro w t k (rows.map ev) v)(R:∀c,Jo (Q0 ek ev l) es.toList c->¬SlB v c):
  ∃es' clock',(execOp a.eval o).run P w=.ok .skip {w with heap:=w.heap.setIfInBounds b (.map es' clock')}/\MO ro w t k (Q0 ek ev (Q5 l key (some rows))) es'.toList/\Qcq (Q0 ek ev (Q5 l key (some rows))) es'.toList/\
   (∀c,Jo (Q0 ek ev (Q5 l key (some rows))) es'.toList c->Jo (Q0 ek ev l) es.toList c\/SlB v c)/\(∀e∈es'.toList,e.born<clock')/\(es'.toList.map (·.born)).Nodup/\(es'.toList.map (·.key)).Nodup/\Qfo es' clock':=by
 have hk:∀q:α×Option (List β),q∈l->∃e∈es.toList,e.key=Qw (ek q.1):=by
  intro q M;have:Qw (ek q.1)∈l.map λp=>Qw (ek p.1):=Xf.2 ⟨q,M,rfl⟩;rw[<- MO.keys K r]at this;obtain⟨e,g,h⟩:=Xf.1 this;exact⟨e,g,h⟩
 rcases K.find w key es.toList (Qh6 K r)with⟨H,s⟩|⟨J,e,H,s,O⟩
 .have m:Q5 l key (some rows)=l++[(key,some rows)]:=by
   unfold Q5;have:(l.any λp=>decide (p.1=key))=false:=by
    rw[List.any_eq_false];intro q M z;obtain⟨e,g,h⟩:=hk q M;exact s e g (by rw[h,of_decide_eq_true z])
   rw[this];rfl
  have n:Q0 ek ev (l++[(key,some rows)])=Q0 ek ev l++[(ek key,some (rows.map ev))]:=by simp[Q0]
  have i:=MO.length r;refine⟨es.push {key:=Qw (ek key),val:=v,born:=f},f+1,?_,?_,?_,?_,?_,?_,?_,E.2.push rfl⟩
  .simp only[execOp,ho,q2,W,Y,Vv,Instr.mapUpdate,run_underlying hT,Result.andThen,MapKept.run_getObj_map F,K.check,H,MapKept.run_setObj_map _ F];rfl
  .rw[m,n,Array.toList_push];exact r.append ⟨_,_,rfl,QbP (K.scl _),λN hr=>by cases hr;exact hv,rfl⟩
  .rw[m,n,Array.toList_push];exact Qcq.push i X R
  .rw[m,n,Array.toList_push];intro c u;exact Jo.push i u
  .rw[Array.toList_push];intro e g;rcases List.mem_append.1 g with q|q
   .exact Nat.lt_succ_of_lt (Q e q)
   .simp at q;subst q;exact Xp _
  .rw[Array.toList_push,Xg];refine List.nodup_append.2 ⟨V,by simp,?_⟩;intro c u d B;simp at B;subst B;obtain⟨e,g,rfl⟩:=Xf.1 u;exact Nat.ne_of_lt (Q e g)
  .rw[Array.toList_push,Xg];refine List.nodup_append.2 ⟨E.1,by simp,?_⟩;intro c u d B;simp at B;subst B;obtain⟨e,g,rfl⟩:=Xf.1 u;exact s e g
 .have m:Q5 l key (some rows)=QbA l key rows:=by
   unfold Q5 QbA;obtain⟨f1,f2⟩:=MO.find K r key E.1;obtain⟨q,G,_⟩:=f2 J e s O;have:(l.any λp=>decide (p.1=key))=true:=by
    unfold YV at G;cases L:l.find? λp=>decide (p.1=key)with
    |none=>rw[L]at G;cases G
    |some z=>exact Xy.2 ⟨z,List.mem_of_find?_eq_some L,by have:=List.find?_some L;simpa using this⟩
   rw[this];rfl
  have hj:es[J]?=some e:=by rw[<- s];simp
  have j:=K.stays w key;obtain⟨r1,r2,r3,r4,r5,r6⟩:=Qnp K r X Q V E hv R s O;refine⟨es.modify J λe=>{e with key:=Qw (ek key),val:=v},f,?_,?_,?_,?_,r4,r5,r6⟩
  .simp only[execOp,ho,q2,W,Y,Vv,Instr.mapUpdate,run_underlying hT,Result.andThen,MapKept.run_getObj_map F,K.check,H,hj,Xk,Option.getD_some,O,j,MapKept.run_setObj_map _ F];rfl
  .rw[m];exact r1
  .rw[m];exact r2
  .rw[m];exact r3
def PutsO(P:Program)(o:Oper)(env:Env)(x zz:Operand)(t k:Nat)(L M:List (A×Option (List (List A))))(R:List (List A)):Prop:=
 ∀(ro:Nat->Prop) (σ:Sig) (a:Act) (w:World) (b clock:Nat) (es:Array MapEntry) (v:Value),(∀s,VR ro σ w (opA env s) (a.eval s))->a.eval x=.map (some b)->a.eval zz=v->w.heap[b]?=some (.map es clock)->MO ro w t k L es.toList->Qcq L es.toList->
  (∀e∈es.toList,e.born<clock)->(es.toList.map (·.born)).Nodup->(es.toList.map (·.key)).Nodup/\Qfo es clock->SO ro w t k R v->(∀c,Jo L es.toList c->¬SlB v c)->
  ∃es' clock',(execOp a.eval o).run P w=.ok .skip {w with heap:=w.heap.setIfInBounds b (.map es' clock')}/\MO ro w t k M es'.toList/\Qcq M es'.toList/\
   (∀c,Jo M es'.toList c->Jo L es.toList c\/SlB v c)/\(∀e∈es'.toList,e.born<clock')/\(es'.toList.map (·.born)).Nodup/\(es'.toList.map (·.key)).Nodup/\Qfo es' clock'
theorem Qm1(hr:PutsO P o env x zz t k (Q0 ek ev l) (Q0 ek ev m) (rows.map ev))
  (hx:opA env x=.map i:=by exact rfl)(hH:H[i]?=some (.mapO false t k (Q0 ek ev l)):=by exact rfl)(hv:opA env zz=.osl j 0 n k:=by exact rfl)
  (hHj:H[j]?=some (.row t k (rows.map ev)):=by exact rfl)(hn:rows.length=n:=by exact rfl)(hij:Nat.beq i j=false:=by exact rfl):
  OpU P o env H ((H.set j .dead).set i (.mapO false t k (Q0 ek ev m))):=by
 subst hn;intro fr X σ N a w r;have E:i≠j:=λe=>by subst e;rw[Nat.beq_refl]at hij;cases hij
 have h1:=Qk r x;rw[hx]at h1;obtain⟨b,B,q2⟩:=h1;have h4:=Qk r zz;rw[hv]at h4;obtain⟨_,G,u,V,p2,pd,p3,p4,p5⟩:=r.sim.blk i _ _ B hH;have Q:∀(obj:Obj) y,w.shape? b=some y->({w with heap:=w.heap.setIfInBounds b obj}:World).shape? b=some y:=by
  intro obj y hy;unfold World.shape? at hy;rw[V]at hy;simp at hy
 have h:∀c,Jo (Q0 ek ev l) G.toList c->Hid w (.mapO false t k (Q0 ek ev l)) b c:=λc F=>⟨G,u,V,F⟩;rcases h4 with⟨z0,J⟩|⟨c,p,T,t',mm,J,z2,z3,z4,Y,z6⟩
 .have aa:rows=[]:=List.length_eq_zero_iff.1 z0;obtain⟨f,g,f1,f2,f3,f4,f5,f6,f7⟩:=hr X σ a w b u G _ (λs=>Qk r s) q2 J V p2 pd p3 p4 p5 (.inl ⟨by simp[aa],rfl⟩) (λc _ q=>by obtain⟨_,_,_,q⟩:=q;cases q);have ac:(H.set j .dead)[i]?=some (.mapO false t k (Q0 ek ev l)):=by rw[XX (λe=>E e.symm)];exact hH
  have M:∀c,Jo (Q0 ek ev m) f.toList c->Jo (Q0 ek ev l) G.toList c:=λc F=>(f4 c F).elim id λq=>by obtain⟨_,_,_,q⟩:=q;cases q
  have s1:=r.sim.kill j;obtain⟨s2,e2⟩:=s1.set (x':=.mapO false t k (Q0 ek ev m)) (obj:=.map f g) B ac rfl (Q _) (λext hh=>⟨(λz=>by cases z),f,g,hh,f2.mono ext (λc F=>by
    show(w.heap.setIfInBounds b _)[c]?=_;rw[Vn,if_neg];exact λe=>(r.sim.hid i b _ c B hH (h c (M c F))).ne i b _ B hH rfl e.symm),f3,f5,f6,f7⟩) (λc F=>by
    obtain⟨l',cl,L,g2⟩:=F;have:({w with heap:=w.heap.setIfInBounds b (.map f g)}:World).heap[b]?=some (.map f g):=by
     show(w.heap.setIfInBounds b _)[b]?=_;rw[Vn,if_pos rfl,if_pos (r.sim.own i b _ B hH rfl).1]
    rw[this]at L;cases L;exact h c (M c g2))
  exact⟨_,X,[],f1,by simpa using s2,e2⟩
 .obtain⟨vs,y1,y2⟩:=r.sim.blk j _ _ J hHj;have O:T*k<=vs.length:=by
   unfold World.shape? at Y;rw[y1]at Y;simp at Y;have:=Y.2;simp at z6;omega
  have ae:∀c',Jo (Q0 ek ev l) G.toList c'->¬SlB (a.eval zz) c':=by
   intro c' F W;obtain⟨_,_,_,W⟩:=W;rw[z2]at W;cases W;exact(r.sim.hid i b _ _ B hH (h _ F)).ne j _ _ J hHj rfl rfl
  obtain⟨f,g,f1,f2,f3,f4,f5,f6,f7⟩:=hr X σ a w b u G _ (λs=>Qk r s) q2 rfl V p2 pd p3 p4 p5 (.inr ⟨c,p,T,vs,by rw[z2];simp,by simpa using z4,y1,O,y2,λq=>by simpa using z3 q⟩) ae;have M:∀d,Jo (Q0 ek ev m) f.toList d->Jo (Q0 ek ev l) G.toList d\/d=c:=λd R=>(f4 d R).imp id λq=>by
   obtain⟨_,_,_,q⟩:=q;rw[z2]at q;cases q;rfl
  have ad:c≠b:=λe=>E (r.sim.inj i j b _ _ B (e▸J) hH hHj rfl rfl);obtain⟨s2,e2⟩:=r.sim.hideSet (x':=.mapO false t k (Q0 ek ev m)) (obj:=.map f g) B hH rfl J hHj rfl E (Q _)
   (λext hh ab=>⟨(λz=>by cases z),f,g,hh,f2.mono ext (λd R=>ab d ((M d R).elim (λq=>(r.sim.hid i b _ d B hH (h d q)).ne i b _ B hH rfl) (λq=>q▸ad))),f3,f5,f6,f7⟩)
   (λd R=>by
    obtain⟨l',cl,L,g2⟩:=R;have:({w with heap:=w.heap.setIfInBounds b (.map f g)}:World).heap[b]?=some (.map f g):=by
     show(w.heap.setIfInBounds b _)[b]?=_;rw[Vn,if_pos rfl,if_pos (r.sim.own i b _ B hH rfl).1]
    rw[this]at L;cases L;exact(M d g2).imp (h d) id)
  exact⟨_,X,[],f1,by simpa using s2,e2⟩
theorem Qm0(K:Jg P kt ek)(e:some (Q5 l key (some rows))=some m)(g:P.underlying T=some (.map kt et))
  (f:o.op=.mapUpdate T x y zz:=by exact rfl)(hx:opA env x=.map i:=by exact rfl)(hH:H[i]?=some (.mapO false t k (Q0 ek ev l)):=by exact rfl)(hy:opA env y=ek key:=by exact rfl)(hv:opA env zz=.osl j 0 n k:=by exact rfl)
  (hHj:H[j]?=some (.row t k (rows.map ev)):=by exact rfl)(hn:rows.length=n:=by exact rfl)(hij:Nat.beq i j=false:=by exact rfl):
  OpU P o env H ((H.set j .dead).set i (.mapO false t k (Q0 ek ev m))):=by
 obtain rfl:=X8 e;refine Qm1 (λro σ a w b clock es v hE q2 h4 p1 p2 pd p3 p4 p5 hv hn=>?_) hx hH hv hHj hn hij;have d:=hE y;rw[hy]at d;exact Qlq K g f q2 (VR.val (K.scl _) d) h4 p1 p2 pd p3 p4 p5 hv hn
end
end Go.Sw
namespace Go.Sw
open Go.MapKept
section
variable {fr ro:Nat->Prop}{σ:Sig}{H:Qc}{w:World}
theorem MO.er{t k:Nat}:∀{es:List (A×Option (List (List A)))}{l:List MapEntry},MO ro w t k es l->ER ro [] w (es.map λe=>(e.1,.any)) l
 |[],_,h=>h
 |x::r,_,⟨e,l',h1,h2,h3,h4⟩=>⟨e,l',h1,h2,trivial,MO.er h4⟩
end
section
variable {P:Program}{o:Oper}{env:Env}{H:Qc}{T kt et i t k:Nat}{x:Operand}{es:List (A×Option (List (List A)))}
end
def Qhc{α β:Type}[DecidableEq α](l:List (α×Option (List β)))(x:α):Option (List β×List (α×Option (List β))):=(Qj4 l x).map λr=>(r,Qar l x)
section
variable {P:Program}{o:Oper}{env:Env}{H:Qc}
variable {T kt et:Nat}{α β:Type} [DecidableEq α] {ek:α->A}{ev:β->List A}{x y zz:Operand}{i j t k n:Nat}{l m:List (α×Option (List β))}{key:α}{rows:List β}
theorem QkU{fz:Bool}{p:List β×List (α×Option (List β))}(K:Jg P kt ek)(a:Qhc l key=some p)(b:P.underlying T=some (.map kt et))(e:∀w,(zeroValue et).run P w=.ok (.slice none 0 0) w)
  (d:o.op=.lookup T x y false:=by exact rfl)(hx:opA env x=.map i:=by exact rfl)(hH:H[i]?=some (.mapO fz t k (Q0 ek ev l)):=by exact rfl)(hy:opA env y=ek key:=by exact rfl):
  OpH P o env H (.osl H.length 0 p.1.length k) (H.set i (.mapO fz t k (Q0 ek ev p.2))++[.row t k (p.1.map ev)]):=by
 unfold Qhc at a;cases h:Qj4 l key with
 |none=>rw[h]at a;cases a
 |some r=>rw[h]at a;cases a;exact QkV K h b e d hx hH hy
end
end Go.Sw
namespace Go.Sw
open Go.MapKept
section
variable {P:Program}{o:Oper}{env:Env}{H:Qc}
variable {T kt et:Nat}{α β:Type} [DecidableEq α] {ek:α->A}{ev:β->List A}{x y zz:Operand}{i j t k n:Nat}{l m:List (α×Option (List β))}{key:α}{rows:List β}
end
end Go.Sw
namespace Go.Sw
abbrev Kat:=List (Nat×Nat×Nat)
def Qlb:Nat->Nat->List (Nat×Nat)
 |lo,0=>[(lo,lo)]
 |lo,n+1=>(lo,lo)::Qlb (lo+1) n
def rgK(p:Nat×Nat×Nat):List (Nat×Nat):=bif Nat.beq p.1 1 then[(p.2.1,p.2.1+1)]else Qlb p.2.1 (p.2.2-p.2.1)
def plK(cat:Kat):List (List (Nat×Nat)):=cat.map rgK
def rqK(bs:List Nat)(cat:Kat):List (List Nat):=cat.map λp=>bs.take p.2.1
def hsK(cat:Kat):List Bool:=cat.map λp=>Nat.beq p.1 1
def msK(bs:List Nat):List (List Nat):=(List.range (bs.length+1)).map bs.take
theorem Qgf:∀(n lo:Nat),∀p∈Qlb lo n,p.1=p.2
 |0,lo,p,h=>by cases h with|head=>rfl|tail _ h=>cases h
 |n+1,lo,p,h=>by
  rcases Vf.1 h with rfl|h
  .rfl
  .exact Qgf n _ p h
section
variable {P:Program}{T:TyX}{h0 N m:Nat}{bs:List Nat}{cat:Kat}{l:List Oper}{ds:List Nat}{env:Env}{H:Qc}{Hs:List Qc}{Q:QE}{K:List Oper->Env->Qc->Prop}
def DobK(P:Program)(N:Nat)(cat:Kat)(l:List Oper)(ds:List Nat)(env:Env)(n:Nat)(Hs:List Qc)(zs:List A)(j:Nat):Prop:=
 ∀p∈(plK cat).getD j [],Qab P N l ds zs env n n j (Hs.getD p.1 []) (Hs.getD p.2 [])
def DK(P:Program)(N m:Nat)(bs:List Nat)(cat:Kat)(l:List Oper)(ds:List Nat)(env:Env)(n:Nat)(K:List Oper->Env->Qc->Prop)(Hs:List Qc)(X:Qc)(r:List Oper)(xs:List A):Prop:=
 r=l.drop xs.length->∃ys Zs Y,xs.length+ys.length=m/\Hs.length+Zs.length=bs.length/\((∀Z∈Zs,n<=Z.length)/\(Hs.reverse++X::Zs).getD bs.length []=Y)/\(∀j,xs.length<=j->j<m->DobK P N cat l ds env n (Hs.reverse++X::Zs) (xs++ys) j)/\K (l.drop m) (Qas ds (xs++ys) env) Y
theorem Qpl{f:List A}{n:Nat}{Zs:List Qc}(a:cat.length=m)(k:∀j,0<=j->j<m->DobK P N cat l ds env n Zs f j):QgR P N l ds f env n (n+0) 0 ((plK cat).map λq=>q.map λp=>(Zs.getD p.1 [],Zs.getD p.2 [])):=by
 refine QgQ _ 0 λi s b p h=>?_;rw[Xr]at b;cases e:(plK cat)[i]? with
 |none=>rw[e]at b;cases b
 |some q=>
  rw[e]at b;cases b;obtain⟨r,d,rfl⟩:=Xf.1 h;have g:i<m:=by
   have:=(XT.1 e).1;simpa[plK,a]using this
  have:=k i (X3 _) g r (by rw[Qjm e];exact d);simpa using this
theorem Qnd{id:Nat}(m:Nat)(d:List Nat)(cat:Kat)(t:P.follows .mixedOrders=true)(u:QdC l m N (Qam m 0 l) (hsK cat) (rqK d cat) (msK d) (plK cat)=true)(g:Nat.beq cat.length m=true)(j:Nat.ble h0 H.length=true)
  (h:DK P N m d cat l (Qam m 0 l) env H.length (λr e H=>WO P h0 N l.toArray r e H Q) [] H l []):TC P h0 N (.region id l.toArray true) env H Q:=by
 obtain⟨s,Zs,Y,k,q,i,p,n⟩:=h rfl;simp only[List.length_nil,XC,Vq,List.reverse_nil]at k q i p n;have b:=XY g;have a:(msK d).length=d.length+1:=by simp[msK]
 refine Qa8 m 0 _ _ _ _ _ s (H::Zs) Y t u (by rw[k];exact Nat.beq_refl m) (by rw[a];simp[q]) j ?_ (by simp) (by rw[a];exact i.2) (Qpl b p) (by simp[plK,b]) n;rw[Xx];intro Z f;rcases Vf.1 f with rfl|f
 .exact X0 (X2 _)
 .exact X0 (i.1 Z f)
variable {n:Nat}{X X1:Qc}{xs:List A}{o:Oper}{r:List Oper}{x:A}{d:Nat}
theorem DK.done(f:Nat.beq xs.length m=true)(d:Nat.beq Hs.length bs.length=true)(h:K r (Qas ds xs env) X):DK P N m bs cat l ds env n K Hs X r xs:=by
 intro b;have e:=XY f;have a:=XY d;subst b;refine⟨[],[],X,by simpa using e,by simpa using a,⟨(λZ hZ=>by cases hZ),?_⟩,λj i g=>by omega,?_⟩
 .rw[<- a,List.getD_eq_getElem?_getD,XV (by simp)];simp
 .rw[<- e,Vp];exact h
theorem DK.add(f:∀ys Zs,l[xs.length]?=some o->DobK P N cat l ds env n (Hs.reverse++X::Zs) (xs++x::ys) xs.length)(k:DK P N m bs cat l ds env n K Hs X r (xs++[x])):DK P N m bs cat l ds env n K Hs X (o::r) xs:=by
 intro g;obtain⟨h,a⟩:=Qa6 g;obtain⟨ys,Zs,Y,e,s,i,d,b⟩:=k (by simpa using a);simp only[Vb,X9,List.length_nil,Vr,List.cons_append,Vq]at e d b;refine⟨x::ys,Zs,Y,by simp only[X9];omega,s,i,λj t p=>?_,b⟩;rcases Nat.lt_or_ge xs.length j with q|q
 .exact d j (by omega) p
 .obtain rfl:j=xs.length:=by omega
  exact f ys Zs h
theorem Qd3{Zs:List Qc}{zs:List A}{j:Nat}{c:Nat×Nat×Nat}(b:Y0 cat j=some c)(h:∀p∈rgK c,Qab P N l ds zs env n n j (Zs.getD p.1 []) (Zs.getD p.2 [])):DobK P N cat l ds env n Zs zs j:=by
 intro p a;rw[Qay]at b;unfold plK at a;rw[List.getD_eq_getElem?_getD,Xr,b]at a;exact h p a
theorem Qgv{Zs:List Qc}{c:Nat}(a:Nat.beq c Hs.length=true):(Hs.reverse++X::Zs).getD c []=X:=by
 rw[XY a,List.getD_eq_getElem?_getD,XV (by simp)];simp
theorem DK.wo{c:Nat}(h:WO P X.length N l.toArray [o] (Yl (Ql o) 0 ds xs env) X (Jd (up (Yl (Ql o) 0 ds xs env) d x) X))(k:DK P N m bs cat l ds env n K Hs X r (xs++[x]))
  (b:Y0 cat xs.length=some (0,c,c):=by exact rfl)(hd:o.dst=some d:=by exact rfl)(hcH:Nat.beq c Hs.length=true:=by exact rfl):DK P N m bs cat l ds env n K Hs X (o::r) xs:=
 .add (λys Zs ho=>Qd3 b λp a=>by
  have:p=(c,c):=by
   change p∈Qlb c (c-c)at a;rw[Nat.sub_self]at a;exact List.mem_singleton.1 a
  subst this;rw[Qgv hcH];exact Qax ho Jb h hd) k
theorem DK.wa{lo hi:Nat}(h:∀X,WO P X.length N l.toArray [o] (Yl (Ql o) 0 ds xs env) X (Jd (up (Yl (Ql o) 0 ds xs env) d x) X))(k:DK P N m bs cat l ds env n K Hs X r (xs++[x]))
  (a:Y0 cat xs.length=some (0,lo,hi):=by exact rfl)(hd:o.dst=some d:=by exact rfl):DK P N m bs cat l ds env n K Hs X (o::r) xs:=
 .add (λys Zs ho=>Qd3 a λp b=>by
  have e:p.1=p.2:=Qgf _ _ p b;rw[<- e];exact Qax ho Jb (h _) hd) k
theorem DK.op{c B:Nat}(h:WO P X.length N l.toArray [o] (Yl (Ql o) 0 ds xs env) X (Jd (up (Yl (Ql o) 0 ds xs env) d x) X1))(k:DK P N m bs cat l ds env n K (X::Hs) X1 r (xs++[x]))(u:Nat.ble n X1.length=true:=by exact rfl)
  (hc:Y0 cat xs.length=some (1,c,B):=by exact rfl)(hd:o.dst=some d:=by exact rfl)(hcH:Nat.beq c Hs.length=true:=by exact rfl):DK P N m bs cat l ds env n K Hs X (o::r) xs:=by
 intro w;obtain⟨y,a⟩:=Qa6 w;obtain⟨s,Zs,Y,i,G,e,g,f⟩:=k (by simpa using a);simp only[Vb,X9,List.length_nil,Vr,List.cons_append,Vq,List.reverse_cons]at i G e g f;refine⟨x::s,X1::Zs,Y,by simp only[X9];omega,by simp only[X9];omega,⟨λZ b=>?_,e.2⟩,λj H F=>?_,f⟩
 .rcases Vf.1 b with rfl|b
  .exact XZ u
  .exact e.1 Z b
 .rcases Nat.lt_or_ge xs.length j with q|q
  .exact g j (by omega) F
  .obtain rfl:j=xs.length:=by omega
   refine Qd3 hc λp t=>?_;have:p=(c,c+1):=List.mem_singleton.1 t;subst this;have E:(Hs.reverse++X::X1::Zs).getD c []=X:=Qgv hcH;have z:(Hs.reverse++X::X1::Zs).getD (c+1) []=X1:=by
    have:=Qgv (X:=X1) (Zs:=Zs) (Hs:=X::Hs) (c:=c+1) (by rw[XY hcH];exact Nat.beq_refl _);simpa using this
   simp only;rw[E,z];exact Qax y Jb h hd
def Qej(T:TyX)(N m:Nat)(cat:Kat)(l:List Oper)(ds:List Nat)(env:Env)(n:Nat):Nat->Nat->Nat->List Qc->Qc->List Oper->List A->Option (List Qc×List Oper×List A)
 |0,_,_,Hs,X,r,xs=>some (Hs,r,xs)
 |_+1,_,_,_,_,[],_=>none
 |k+1,i,j,Hs,X,o::r,xs=>match o.dst with
  |none=>none
  |some d=>match Nat.blt d N with
   |false=>none
   |true=>match Y1 ⟨l⟩ o (Yl (Ql o) 0 ds xs env)with
    |none=>none
    |some false=>(match QcM xs (.tup [])with
      |.mk xs'=>match Y0 cat i with
       |some (0,_,_)=>Qej T N m cat l ds env n k (i+1) j Hs X r xs'
       |some (1,c,_)=>(match Nat.beq c j,Nat.ble n X.length with
        |true,true=>Qej T N m cat l ds env n k (i+1) (j+1) (X::Hs) X r xs'
        |_,_=>none)
       |_=>none)
    |some true=>match Y0 cat i with
     |some (0,lo,hi)=>(match Qc4 T o (Yl (Ql o) 0 ds xs env) []with
      |some x=>(match QcM xs x with
       |.mk xs'=>Qej T N m cat l ds env n k (i+1) j Hs X r xs')
      |none=>match Nat.beq lo hi,Nat.beq lo j with
       |true,true=>(match Qc4 T o (Yl (Ql o) 0 ds xs env) X with
        |none=>none
        |some x=>match QcM xs x with
         |.mk xs'=>Qej T N m cat l ds env n k (i+1) j Hs X r xs')
       |_,_=>none)
     |_=>none
theorem QbF(hT:Qby P T):∀(k i j:Nat) {Hs Hs':List Qc}{r r':List Oper}{xs xs':List A},i=xs.length->j=Hs.length->Qej T N m cat l ds env n k i j Hs X r xs=some (Hs',r',xs')->DK P N m bs cat l ds env n K Hs' X r' xs'->DK P N m bs cat l ds env n K Hs X r xs
 |0,i,j,Hs,Hs',r,r',xs,xs',_,_,h,k=>by cases h;exact k
 |k0+1,i,j,Hs,Hs',[],r',xs,xs',_,_,h,k=>by cases h
 |k0+1,i,j,Hs,Hs',o::r,r',xs,xs',hi,hj,h,k=>by
  subst hi hj;unfold Qej at h;split at h
  .cases h
  .rename_i d hd;split at h
   .cases h
   .rename_i q2;split at h
    .cases h
    .rename_i hw;simp only[Ji]at h;split at h
     .rename_i lo hi' q0;exact .wa (λX=>WO.skip (QZ hw) hd q2 (WO.nil Jd.mk)) (QbF hT k0 _ _ (by simp) rfl h k) q0 hd
     .rename_i c c' q0;split at h
      .rename_i q1 q3;exact .op (WO.skip (QZ hw) hd q2 (WO.nil Jd.mk)) (QbF hT k0 _ _ (by simp) (by simp) h k) q3 q0 hd q1
      .cases h
     .cases h
    .rename_i hw;split at h
     .rename_i lo hi' q0;split at h
      .rename_i x hv;simp only[Ji]at h;exact .wa (λX=>QM (QZ hw) hd q2 (Qat hT (Qd7 hv)) (WO.nil Jd.mk)) (QbF hT k0 _ _ (by simp) rfl h k) q0 hd
      .split at h
       .rename_i q1 q3;split at h
        .cases h
        .rename_i x hv;simp only[Ji]at h;obtain rfl:=XY q1;exact .wo (QM (QZ hw) hd q2 (Qat hT hv) (WO.nil Jd.mk)) (QbF hT k0 _ _ (by simp) rfl h k) q0 hd q3
       .cases h
     .cases h
def allV(T:TyX)(o:Oper)(e:Env)(x:A):Nat->List Qc->Prop
 |0,_=>True
 |k+1,Y::r=>Qc4 T o e Y=some x/\allV T o e x k r
 |_+1,[]=>False
theorem Qi2:∀(n lo:Nat),∀p∈Qlb lo n,lo<=p.1/\p.1<=lo+n
 |0,lo,p,h=>by cases h with|head=>exact⟨X2 _,X2 _⟩|tail _ h=>cases h
 |n+1,lo,p,h=>by
  rcases Vf.1 h with rfl|h
  .exact⟨X2 _,Nat.le_add_right _ _⟩
  .have:=Qi2 n _ p h;omega
def allW(P:Program)(N:Nat)(l:List Oper)(o:Oper)(e:Env)(d:Nat)(x:A):Nat->List Qc->Prop
 |0,_=>True
 |k+1,Y::r=>WO P Y.length N l.toArray [o] e Y (Jd (up e d x) Y)/\allW P N l o e d x k r
 |_+1,[]=>False
theorem QjH{e:Env}:∀{k:Nat}{r:List Qc},allW P N l o e d x k r->∀j,j<k->WO P (r.getD j []).length N l.toArray [o] e (r.getD j []) (Jd (up e d x) (r.getD j []))
 |0,_,_,j,hj=>absurd hj (Xo _)
 |k+1,[],h,_,_=>h.elim
 |k+1,Y::r,h,0,_=>h.1
 |k+1,Y::r,h,j+1,hj=>by
  have:=QjH h.2 j (by omega);simpa using this
theorem QjQ{lo hi:Nat}(h:allW P N l o (Yl (Ql o) 0 ds xs env) d x (hi+1-lo) (X::Hs))(k:DK P N m bs cat l ds env n K Hs X r (xs++[x]))
  (f:Y0 cat xs.length=some (0,lo,hi):=by exact rfl)(hd:o.dst=some d:=by exact rfl)(hcH:Nat.beq hi Hs.length=true:=by exact rfl)(hle:Nat.ble lo hi=true:=by exact rfl):DK P N m bs cat l ds env n K Hs X (o::r) xs:=
 .add (λys Zs ho=>Qd3 f λp a=>by
  have e:p.1=p.2:=Qgf _ _ p a;have b:=XZ hle;have s:lo<=p.1/\p.1<=lo+(hi-lo):=Qi2 (hi-lo) lo p a;have i:=XY hcH;rw[<- e];have g:=QjH h (Hs.length-p.1) (by omega);have j:(Hs.reverse++X::Zs).getD p.1 []=(X::Hs).getD (Hs.length-p.1) []:=by
   rw[List.getD_eq_getElem?_getD,List.getD_eq_getElem?_getD];congr 1;rcases Nat.lt_or_ge p.1 Hs.length with q|q
   .rw[XU (by simpa using q),List.getElem?_reverse q,show Hs.length-p.1=Hs.length-1-p.1+1 by omega,XN]
   .have:p.1=Hs.length:=by omega
    rw[this,XV (by simp)];simp
  rw[j];exact Qax ho Jb g hd) k
theorem DK.vs(g:Qby P T){lo hi:Nat}(h:allV T o (Yl (Ql o) 0 ds xs env) x (hi+1-lo) (X::Hs))(k:DK P N m bs cat l ds env n K Hs X r (xs++[x]))
  (j:Y0 cat xs.length=some (0,lo,hi))(e:o.dst=some d)(b:Nat.beq hi Hs.length=true)(hg:Y1 ⟨l⟩ o (Yl (Ql o) 0 ds xs env)=some true)(i:Nat.blt d N=true)(a:Nat.ble lo hi=true):DK P N m bs cat l ds env n K Hs X (o::r) xs:=by
 refine QjQ ?_ k j e b a;generalize hi+1-lo=c at h;generalize X::Hs=L at h
 induction c generalizing L with
 |zero=>trivial
 |succ c f=>
  cases L with
  |nil=>exact h.elim
  |cons Y L=>exact⟨QM (QZ hg) e i (Qat g h.1) (WO.nil Jd.mk),f L h.2⟩
end
end Go.Sw
namespace Go.Sw
def room(n:Int):Option Nat:=bif decide (0<n)&&decide (n<=4294967296)then some n.toNat else none
theorem Qnm{n:Int}{m:Nat}(h:room n=some m):0<n/\n<=4294967296/\n.toNat=m:=by
 unfold room at h;cases q:(decide (0<n)&&decide (n<=4294967296))with
 |true=>rw[q]at h;simp at q;exact⟨q.1,q.2,X8 h⟩
 |false=>rw[q]at h;cases h
section
variable {P:Program}{o:Oper}{env:Env}{H:Qc}
theorem Qh3{c:Call}{t e:TypeId}{x:Operand}(f:∀w,(underlying t).run P w=.ok (.slice e) w)(d:o.op=.call c:=by exact rfl)(hc:c={callee:=.builtin .cap,args:= #[x],argTypes:= #[t]}:=by exact rfl)
  (hx:opA env x=.nils:=by exact rfl):OpV P o env H (.int .i64 0):=by
 intro h g σ N a w r;have b:=Qk r x;rw[hx]at b;simp only[VR]at b;refine⟨_,?_,rfl⟩;generalize a.eval=ρ at*;subst hc;simp[execOp,d,b,resolve,invoke,Go.builtin,Builtin.cap_,f,goInt,go_sem]
theorem Qm3{α:Type}{e:α->List A}{c:Call}{T T' et k m:Nat}{x y:Operand}{n:Int}{kk:IntKind}(h:room n=some m)(E:Q6 P T et k)(hd:∀w,(underlying T').run P w=.ok (.int kk) w)
  (ho:o.op=.call c:=by exact rfl)(hc:c={callee:=.builtin .append,args:= #[x,y],argTypes:= #[T,T']}:=by exact rfl)(hx:opA env x=.nils:=by exact rfl)(hy:opA env y=.int .i64 n:=by exact rfl):
  OpH P o env H (.osl H.length 0 m k) (H++[.row et k (([]:List α).map e)]):=by
 intro M p σ N a w r;obtain⟨n0,n1,rfl⟩:=Qnm h;have O:a.eval x=.slice none 0 0:=by have:=Qk r x;rw[hx]at this;exact this
 have h2:a.eval y=.int .i64 n:=by have:=Qk r y;rw[hy]at this;exact this
 obtain⟨z,R,f⟩:=E.zero;obtain⟨i,hi,hb⟩:=E.bytes
 let need:=n.toNat
 let nc:=need+w.tape w.drawn (.appendCap need 0 et)%(2^63-need)
 let cells:List Value:=(Builtin.zeroCells z.cells need).toList++(Builtin.zeroCells z.cells (nc-need)).toList
 let w0:World:={w with drawn:=w.drawn+1}
 have g:0<need:=by show 0<n.toNat;omega
 have hw:IntKind.i64.wrap n=n:=by
  unfold IntKind.wrap;simp[IntKind.bits,IntKind.signed];omega
 have b:¬(need<=0):=by omega
 have aa:need<=4294967296:=by show n.toNat<=_;omega
 have Y:¬(n<0):=by omega
 have V:¬(n*(i.bytes:Int)>2^48):=by
  have O:n*(i.bytes:Int)<=4294967296*4096:=Int.mul_le_mul n1 (by omega) (by omega) (by omega);omega
 have Q:¬((need:Int)>IntKind.i64.max):=by
  have:IntKind.i64.max=9223372036854775807:=by decide
  rw[this];omega
 have g3:¬(Builtin.nextslicecap need 0*i.bytes>2^48):=by
  have:=Qbu need 0 g;have h3:Builtin.nextslicecap need 0*i.bytes<=(4*need+1000)*4096:=Nat.mul_le_mul this hb;omega
 have J:∀W:World,(choose (.appendCap need 0 et)).run P W=.ok (need+W.tape W.drawn (.appendCap need 0 et)%(2^63-need)) {W with drawn:=W.drawn+1}:=by
  intro W;simp[choose,Sem.run,Question.forced,Question.cut]
 have L:∀(x:Nat) (W:World),(askRoom x).run P W=.ok () W:=by
  intro x W;unfold askRoom;split<;>rfl
 have s:∀(c:Array Value) (W:World),(newRow et c).run P W=.ok ⟨W.heap.size,0,none⟩ (W.alloc (.cells c et)):=λc W=>rfl;have u:∀(k:IntKind) (m:Int) (W:World),(asInt (.int k m)).run P W=.ok m W:=λk m W=>rfl;have F:∀W:World,((if need*k=0 then pure #[]else do pure (Builtin.zeroCells (<- zeroValue et).cells need):Sem (Array Value))).run P W=.ok (Builtin.zeroCells z.cells need) W:=by
  intro W;by_cases q:need*k=0
  .rw[if_pos q];have:Builtin.zeroCells z.cells need= #[]:=by unfold Builtin.zeroCells;rw[f,q];simp
   rw[this];rfl
  .rw[if_neg q];simp only[Vv,R,Result.andThen,Vw]
 have j:(Builtin.append_ #[T,T'] o.type #[.slice none 0 0,.int .i64 n]).run P w=.ok (.slice (some ⟨w.heap.size,0,none⟩) need nc) (w0.alloc (.cells cells.toArray et)):=by
  unfold Builtin.append_;have e3:(#[]:Array Value)++Builtin.zeroCells z.cells need++Builtin.zeroCells z.cells (nc-need)=cells.toArray:=by
   apply Array.toList_inj.1;simp[cells]
  have B:∀W:World,(Builtin.firstCells k 0 (.slice none 0 0)).run P W=.ok #[] W:=λW=>Qad;have G:(0:Nat)+n.toNat=need:=XC _;simp only[XO,XM,XN,Vv,E.sl,E.size,hd,hi,R,Result.andThen,Vw,u,hw,XP,if_true,if_neg Y,if_neg V,G,if_neg b];have g4:¬((need:Int)>IntKind.i64.max/\(True\/i.bytes=0)):=λq=>Q q.1;simp only[Q,false_and,if_false,if_neg g3,J,L,B,Result.andThen];have t:(if n.toNat*k=0 then(Result.ok #[] w0:Result (Array Value))else Result.ok (Builtin.zeroCells z.cells n.toNat) w0)=Result.ok (Builtin.zeroCells z.cells n.toNat) w0:=by
   have:=F w0;by_cases q:n.toNat*k=0
   .rw[if_pos q];have:Builtin.zeroCells z.cells n.toNat= #[]:=by unfold Builtin.zeroCells;rw[f,q];simp
    rw[this]
   .rw[if_neg q]
  simp only[Xh,Xj,if_false];rw[t];simp only[s];show(Result.ok _ _)=_;rw[<- e3]
 have s0:Sim M p σ H w0:=r.sim.heap rfl;have e0:Qj M p w p w0:=Qj.heap rfl rfl rfl rfl (Nat.le_succ _);obtain⟨X,e1⟩:=Qfk (T:=et) (k:=k) (es:=[]) (l:=[]) (rest:=cells) s0 trivial rfl (by simp);have d:(execOp a.eval o).run P w=.ok (.value (.slice (some ⟨w.heap.size,0,none⟩) need nc)) (w0.alloc (.cells cells.toArray et)):=by
  subst hc;generalize a.eval=ρ at*;simp only[execOp,ho,resolve,invoke,Go.builtin,Vv,Vw,Result.andThen];simp only[XQ,Vs,Vt,O,h2,j]
 refine⟨_,_,p,[some w.heap.size],d,.inr ⟨w.heap.size,0,nc,et,cells.length,?_,rfl,λ_=>by simp,Nat.le_add_right _ _,?_,?_⟩,X,e0.trans e1⟩
 .rw[<- r.sim.len];simp
 .unfold World.shape?;rw[show w.heap.size=w0.heap.size from rfl,YU];simp
 .simp[cells,Builtin.zeroCells,f,nc, <- XH]
theorem QmX{T et k b m:Nat}{x y:Operand}(E1:∀w,(underlying T).run P w=.ok (.slice et) w)(E2:∀w,(sizeOf et).run P w=.ok k w)(a:o.op=.slice T x none (some y) none:=by exact rfl)
  (hx:opA env x=.osl b 0 m k:=by exact rfl)(hy:opA env y=.int .i64 0:=by exact rfl):OpV P o env H (.osl b 0 0 k):=by
 have:=Qh2 (H:=H) E1 E2 a hx (.inl ⟨rfl,rfl⟩) (.inr ⟨y,0,rfl,hy,by omega,rfl⟩) (X2 _) (X3 _);simpa using this
theorem QkR{T et k:Nat}{x y:Operand}(E1:∀w,(underlying T).run P w=.ok (.slice et) w)(E2:∀w,(sizeOf et).run P w=.ok k w)(a:o.op=.slice T x none (some y) none:=by exact rfl)
  (hx:opA env x=.nils:=by exact rfl)(hy:opA env y=.int .i64 0:=by exact rfl):OpV P o env H .nils:=
 QmZ E1 E2 a hx (.inl ⟨rfl,rfl⟩) (.inr ⟨y,0,rfl,hy,by omega,rfl⟩) (X2 _) (X2 _)
theorem Qpj{h0 i:Nat}{x x':Blk}(b:H[i]?=some x)(e:x=x'):Le h0 env H env (H.set i x'):=by
 subst e;obtain⟨d,a⟩:=XT.1 b;rw[<- a,List.set_getElem_self];exact Le.refl _ _ _
theorem Sim.shutRow{fr ro:Nat->Prop}{σ:Sig}{w:World}(s:Sim fr ro σ H w){i b t k:Nat}{es:List (List A)}(hσ:σ[i]?=some (some b))(p:H[i]?=some (.row t k es)):
  Sim fr (λc=>ro c\/c=b) σ (H.set i .dead) w:=by
 have g:b<w.heap.size/\ ¬ro b/\ ¬fr b:=s.own i b _ hσ p rfl;have ext:Ext ro σ w (λc=>ro c\/c=b) σ w:=⟨λ_ q=>.inl q,λ_ _=>rfl,λ_ _ q=>q,λ_ _ q=>q⟩;have a:∀(j:Nat) (v:Blk),(H.set i .dead)[j]?=some v->v≠ .dead->j≠i/\H[j]?=some v:=by
  intro j v h n;by_cases e:j=i
  .subst e;rw[Xb]at h;simp only[if_true]at h;split at h
   .cases h;exact absurd rfl n
   .simp at h
  .rw[XX (λq=>e q.symm)]at h;exact⟨e,h⟩
 refine⟨by rw[Vc];exact s.len,s.roOk.to (λ_ q=>.inl q) (λ_ _=>rfl) ?_,s.frLt,?_,?_,?_,?_,s.hidTo (· = ·) Yc (X2 _) (λj d x c Q R L J=>J.elim id λq=>((s.hid j d x c Q R L).ne i b _ hσ p rfl q).elim) (λ_ _ _ _ _ _ _ q=>q) λj d y E M O=>.inl ⟨j,y,rfl,E,(a j y M (Qd4 O)).2,id,λ_ q=>q⟩⟩
 .rintro c (q|rfl)
  .exact s.roLt c q
  .exact g.1
 .rintro c (q|rfl)
  .exact s.roFr c q
  .exact g.2.2
 .intro j c v l f m;obtain⟨e,f⟩:=a j v f (Blk.nd m);obtain⟨F,G,P⟩:=s.own j c v l f m;refine⟨F,?_,P⟩;rintro(q|rfl)
  .exact G q
  .exact e (s.inj j i c v _ l hσ f p m rfl)
 .intro j z c v B l f m N u r;exact s.inj j z c v B l f (a j v m (Blk.nd u)).2 (a z B N (Blk.nd r)).2 u r
 .intro j y v l f;by_cases n:v≠ .dead
  .exact(s.blk j y v l (a j v f n).2).keep ext (λ_ _ _=>rfl) (λ_ _ _ _=>rfl)
  .obtain rfl:v=.dead:=Classical.not_not.1 n;trivial
theorem Qm2{α:Type}{e:α->List A}{T et k i n ta:Nat}{x y:Operand}{l l':List α}{j:Int}(h:slc l 0 j=some l')(F:l.length=n)(hk:∀x,(e x).length=k)(Q:∀w,(underlying T).run P w=.ok (.array n et) w)(g:∀w,(sizeOf et).run P w=.ok k w)
  (M:o.op=.slice T x none (some y) none:=by exact rfl)(hx:opA env x=.ptr i 0:=by exact rfl)(hy:opA env y=.int .i64 j:=by exact rfl)(hH:H[i]?=some (.row ta k (l.map e)):=by exact rfl):
  OpH P o env H (.rsl k (l'.map e)) (H.set i .dead):=by
 intro W p σ N a w r;obtain⟨R,Y,G,u⟩:=slc0 h;have t:=Qk r x;rw[hx]at t;obtain⟨b,z,V⟩:=t;have s:=Qk r y;rw[hy]at s;have m:a.eval y=.int .i64 j:=s;obtain⟨X,E,J⟩:=r.sim.blk i _ _ z hH;have B:=r.sim.shutRow z hH;refine⟨.slice (some ⟨b,0,none⟩) j.toNat n,w,(λc=>p c\/c=b),[],?_,⟨_,n,by rw[Va,u],by rw[Va,u];omega,?_⟩,by simpa using B,YN (ro':=λc=>p c\/c=b) (λ_ q=>Or.inl q)⟩
 .have O:(Instr.sliceBounds false n n none (some (.int .i64 j)) none).run P w=.ok (0,j.toNat,n) w:=by
   simp only[Instr.sliceBounds,Vv,Vw,Result.andThen,Y3 R (show j<=(n:Int)by omega),Xj,if_false]
  have f:(Instr.sliceAt T (.pointer (some ⟨b,0,none⟩)) none (some (.int .i64 j)) none).run P w=.ok (.slice (some ⟨b,0,none⟩) j.toNat n) w:=by
   have d:(if n=0 then(⟨b,0,none⟩:Addr)else(⟨b,0,none⟩:Addr).add (0*k))=⟨b,0,none⟩:=by
    by_cases q:n=0
    .rw[if_pos q]
    .rw[if_neg q,Nat.zero_mul];simp[Addr.add]
   simp only[Instr.sliceAt,Vv,Q,Result.andThen,Instr.sureAddr,O,g,Vw,d,XB]
  generalize a.eval=ρ at*;simp only[execOp,M,V,Xl,Xk,m,Vv,f,Result.andThen,Vw]
 .right;refine⟨b,0,rfl,.inr rfl,?_⟩;have L:=Jw (pre:=[]) (by simpa using E) J;have:=L.take j.toNat;rw[<- List.map_take,G]at this;exact this.keep ⟨λ_ q=>.inl q,λ_ _=>rfl,λ_ _ q=>q,λ_ _ q=>q⟩ rfl
theorem RL.put{ro:Nat->Prop}{σ:Sig}{w:World}{k:Nat}:∀{a:Nat}{es fs:List (List A)}{l m:List Value},RL ro σ w k es l->a+fs.length<=es.length->Sw.allK k fs->LR ro σ w fs.flatten m->(∀v∈m,Qz v)->
  RL ro σ w k (es.take a++fs++es.drop (a+fs.length)) (Sw.splice l (a*k) m)
 |0,es,[],l,m,h,hn,hk,hm,hp=>by
  obtain rfl:m=[]:=hm;simpa[Sw.splice]using h
 |0,[],f::fs,l,m,h,hn,hk,hm,hp=>by simp at hn
 |0,c::es,f::fs,l,m,⟨l1,l2,h1,h2,h3,h4⟩,hn,hk,hm,hp=>by
  subst h1;have hl1:=h3.1.length;have hml:=hm.length;rw[Vu,Vb]at hml;have e1:m.take k++m.drop k=m:=XG _ _;have q1:LR ro σ w f (m.take k):=by have:=hm.take k;rwa [Vu,Vg (by rw[hk.1];exact X2 _),List.take_of_length_le (by rw[hk.1];exact X2 _)]at this
  have j:LR ro σ w fs.flatten (m.drop k):=by have:=hm.drop k;rwa [Vu,Vh (by rw[hk.1];exact X2 _),Xt (by rw[hk.1];exact X2 _),Vq]at this
  have b:=RL.put (a:=0) h4 (by simpa using hn) hk.2 j (λv d=>hp v (List.mem_of_mem_drop d));simp only[List.take_zero,Vq,XC,Nat.zero_mul,Sw.splice]at b⊢;refine⟨m.take k,m.drop k++l2.drop (m.drop k).length,?_,hk.1,⟨q1,λv d=>hp v (List.mem_of_mem_take d)⟩,by simpa using b⟩;have e:k<=m.length:=by rw[hml,hk.1];exact Nat.le_add_right _ _
  rw[<- Vr,e1];congr 1;rw[XF,show m.length=l1.length+(m.length-k)from by omega,Vj];have g:l1.length+(m.length-k)-k=m.length-k:=by omega
  rw[g]
 |a+1,[],fs,l,m,h,hn,hk,hm,hp=>by simp at hn
 |a+1,c::es,fs,l,m,⟨l1,l2,h1,h2,h3,h4⟩,hn,hk,hm,hp=>by
  subst h1;have hl1:=h3.1.length;have b:=RL.put (a:=a) h4 (by simp at hn;omega) hk hm hp;refine⟨l1,Sw.splice l2 (a*k) m,?_,h2,h3,?_⟩
  .have e1:(a+1)*k=l1.length+a*k:=by rw[Xn];omega
   unfold Sw.splice;rw[e1,Vk,show l1.length+a*k+m.length=l1.length+(a*k+m.length)from by omega,Vj];simp
  .have i:a+1+fs.length=(a+fs.length)+1:=by omega
   simpa[i]using b
def QkH(P:Program)(H:Qc)(x:A)(k:Nat)(es:List (List A)):Prop:=
 ∀fr ro σ w v,Sim fr ro σ H w->VR ro σ w x v->(∃a c,v=.slice a es.length c)/\
  ∀j,j<=es.length->allK k (es.take j)/\ ∃l,(Builtin.firstCells k j v).run P w=.ok l.toArray w/\LR ro [] w (es.take j).flatten l/\ ∀v∈l,Qz v
theorem Qeh{fr ro:Nat->Prop}{σ:Sig}{w:World}{k j b off n c:Nat}{es:List (List A)}(h:RR ro [] w b k es off)(e:j<=es.length):
  allK k (es.take j)/\ ∃l,(Builtin.firstCells k j (.slice (some ⟨b,off,none⟩) n c)).run P w=.ok l.toArray w/\LR ro [] w (es.take j).flatten l/\ ∀v∈l,Qz v:=by
 obtain⟨f,i,a⟩:=(h.take j).flat;rw[XE,XI e]at a;obtain⟨l,g,d⟩:=Qc7 (P:=P) (n:=j) (c:=c) f a;refine⟨i,l,?_,d⟩;exact g w rfl
theorem Qca{k n c:Nat}{a:Option Addr}{w:World}:(Builtin.firstCells k 0 (.slice a n c)).run P w=.ok #[] w:=by
 cases a<;>simp[Builtin.firstCells,loadCells,loadCellsFrom,go_sem]
theorem Qn6{α:Type}{e:α->List A}{k:Nat}{l:List α}:QkH P H (.rsl k (l.map e)) k (l.map e):=by
 intro fr m σ w v s ⟨a,c,h1,h2,f⟩;subst h1;refine⟨⟨a,c,rfl⟩,λj d=>?_⟩;rcases f with f|⟨b,h,rfl,i,g⟩
 .rw[f]at d⊢;obtain rfl:j=0:=by simpa using d
  exact⟨trivial,[],Qca,rfl,by simp⟩
 .exact Qeh (fr:=fr) (σ:=σ) g d
theorem QkH.osl{i s n k t:Nat}{es a:List (List A)}(u:H[i]?=some (.row t k es))(he:(es.drop s).take n=a)(E:s+n<=es.length):QkH P H (.osl i s n k) k a:=by
 intro fr L σ w v sm h;have g:a.length=n:=by rw[<- he];simp;omega
 rcases h with⟨rfl,rfl⟩|⟨b,p,d,J,m,r,rfl,B,M,G,F⟩
 .have e:a=[]:=List.length_eq_zero_iff.1 g;subst e;refine⟨⟨none,0,rfl⟩,λj f=>?_⟩;obtain rfl:j=0:=by simpa using f
  exact⟨trivial,[],Qca,rfl,by simp⟩
 .rw[g];refine⟨⟨_,d,rfl⟩,λj f=>?_⟩;obtain⟨l,y,z⟩:=sm.blk i _ _ r u;have q:=((Jw (pre:=[]) (by simpa using y) z).drop s).take n;rw[he]at q;by_cases x:0<d
  .obtain rfl:=B x;simpa using Qeh (P:=P) (fr:=fr) (σ:=σ) (n:=n) (c:=d) q (by rw[g];exact f)
  .obtain rfl:j=0:=by omega
   exact⟨trivial,[],Qca,rfl,by simp⟩
theorem Qn7{α:Type}{e:α->List A}{b t k:Nat}{l r:List α}{a c:Int}(h:slc l a c=some r)(d:H[b]?=some (.row t k (l.map e)):=by exact rfl):QkH P H (.osl b (0+a.toNat) (c.toNat-a.toNat) k) k (r.map e):=by
 obtain⟨i,g,j,f⟩:=Qc5 h;refine QkH.osl d ?_ (by rw[Va];omega);rw[<- f, <- List.map_drop, <- List.map_take,XC,List.drop_take]
def cpy{α:Type}(l:List α)(a c:Int)(m:List α):Option (List α):=some (l.take a.toNat++m.take (c.toNat-a.toNat)++l.drop (a.toNat+min m.length (c.toNat-a.toNat)))
theorem QdX{α:Type}{l r l' m:List α}{a c:Int}(h:slc l a c=some r)(b:cpy l a c m=some l'):l.length=l'.length:=by
 obtain⟨e,d,f,_⟩:=Qc5 h;rw[<- X8 b];simp only[Vb,XE,XF];omega
theorem QeZ{α:Type}{l l' m:List α}(a:cpy l 0 (l.length:Int) m=some l'):l.length=l'.length:=by
 rw[<- X8 a];simp only[Vb,XE,XF];simp;omega
theorem Qf8{α:Type}{e:α->List A}{c:Call}{T T' et k b a n t:Nat}{x y:Operand}{ya:A}{l m l':List α}(ab:a+n<=l.length)(V:l.take a++m.take n++l.drop (a+min m.length n)=l')(hT:∀w,(underlying T).run P w=.ok (.slice et) w)(z:∀w,(sizeOf et).run P w=.ok k w)(hs:QkH P H ya k (m.map e))
  (ho:o.op=.call c)(hc:c={callee:=.builtin .copy,args:= #[x,y],argTypes:= #[T,T']})(hx:opA env x=.osl b a n k)(O:H[b]?=some (.row t k (l.map e)))(Y:opA env y=ya):
  OpH P o env H (.int .i64 (min m.length n:Nat)) (H.set b (.row t k (l'.map e))):=by
 intro Q M σ N ac w r;have s:=Qk r x;rw[hx]at s;have h2:=Qk r y;rw[Y]at h2;obtain⟨⟨ay,cy,e1⟩,q2⟩:=hs Q M σ w _ r.sim h2;rw[Va]at e1 q2;obtain⟨q3,J,L,W,q6⟩:=q2 (min m.length n) (Nat.min_le_left _ _);have d:((m.map e).take (min m.length n)).length=min m.length n:=by rw[XE,Va];omega
 have E:l'.map e=(l.map e).take a++(m.map e).take (min m.length n)++(l.map e).drop (a+((m.map e).take (min m.length n)).length):=by
  rw[d, <- V,Xg,Xg, <- List.map_take, <- List.map_take, <- List.map_drop];have e2:m.take (min m.length n)=m.take n:=by
   by_cases q:m.length<=n
   .rw[XI q,Vi,List.take_of_length_le q]
   .rw[Nat.min_eq_right (by omega)]
  rw[e2]
 have f:(Builtin.copy_ #[T,T'] o.type #[ac.eval x,ac.eval y]).run P w=.ok (.int .i64 (min m.length n:Nat)) w->min m.length n=0->
   ∃v w' ro' τ,(execOp ac.eval o).run P w=.ok (.value v) w'/\VR ro' (σ++τ) w' (.int .i64 (min m.length n:Nat)) v/\Sim Q ro' (σ++τ) (H.set b (.row t k (l'.map e))) w'/\Qj Q M w ro' w':=by
  intro h hz;have hs:H.set b (.row t k (l'.map e))=H:=by
   have:l'.map e=l.map e:=by rw[E,d,hz];simp
   rw[this];obtain⟨hb,hv⟩:=XT.1 O;rw[<- hv,List.set_getElem_self]
  refine⟨_,w,M,[],?_,rfl,by simpa[hs]using r.sim,Qj.refl _ _ _⟩;subst hc;generalize ac.eval=ρ at*;simp only[execOp,ho,resolve,Vv,Vw,Result.andThen,invoke,builtin,XQ,Vs,Vt,h]
 have F:∀j:Nat,goInt j=.int .i64 j:=λ_=>rfl;rcases s with⟨G,s⟩|⟨bb,p,ae,t',mm,s,h3,h4,h5,h6,h7⟩
 .refine f ?_ (by omega);rw[e1]at L⊢;rw[s];have:Nat.min m.length 0=min m.length n:=by rw[G]
  simp only[Builtin.copy_,XO,XM,XN,Vv,hT,z,Result.andThen,Builtin.lenOf,Vw,this,L,F]
 .have g:∀R:Result Unit,(storeCells ⟨bb,p,none⟩ J).run P w=R->(Builtin.copy_ #[T,T'] o.type #[ac.eval x,ac.eval y]).run P w=R.andThen λ_ w=>.ok (.int .i64 (min m.length n:Nat)) w:=by
   intro R hR;rw[e1]at L⊢;rw[h3];have:Nat.min m.length n=min m.length n:=rfl;simp only[Builtin.copy_,XO,XM,XN,Vv,hT,z,Result.andThen,Builtin.lenOf,Vw,this,L,F,hR]
  by_cases G:min m.length n=0
  .have u:J=[]:=by
    have:=W.length;rw[G]at this;exact List.length_eq_zero_iff.1 (by simpa using this)
   refine f ?_ G;have:=g (.ok () w) (by rw[u];rfl);rw[this];rfl
  .obtain rfl:=h4 (by omega);obtain⟨l0,g1,g2⟩:=r.sim.blk b _ _ s O;have X:=g2.length;have u:=W.length;rw[Y5 q3,d]at u;have ad:a*k+(min m.length n)*k<=l0.length:=by
    rw[<- XH];refine X4 (XJ k ?_) X;rw[Va];omega
   have B:=YT (P:=P) (vs:=J) (a*k) 0 g1 (by omega) q6;rw[XD]at B;have h:=g _ B;have i:=r.sim.set (x':=.row t k (l'.map e)) (obj:=.cells (splice l0 (a*k) J).toArray t (0,0)) s O rfl
    (λy Y=>QaY g1 (Yx (by omega)) y Y)
    (λex aa=>⟨_,aa,by
     rw[E];exact(RL.put g2 (by rw[d,Va];omega) q3 W q6).mono ex.nil⟩)
   refine⟨_,_,M,[],?_,rfl,by simpa using i.1,i.2⟩;subst hc;generalize ac.eval=ρ at*;simp only[execOp,ho,resolve,Vv,Vw,Result.andThen,invoke,builtin,XQ,Vs,Vt,h]
theorem QkW{α:Type}{e:α->List A}{c:Call}{T T' et k b t:Nat}{x y:Operand}{ya:A}{l m l':List α}(h:cpy l 0 (l.length:Int) m=some l')(f:∀w,(underlying T).run P w=.ok (.slice et) w)(a:∀w,(sizeOf et).run P w=.ok k w)(g:QkH P H ya k (m.map e))
  (d:o.op=.call c:=by exact rfl)(hc:c={callee:=.builtin .copy,args:= #[x,y],argTypes:= #[T,T']}:=by exact rfl)(hx:opA env x=.osl b 0 l.length k:=by exact rfl)(hH:H[b]?=some (.row t k (l.map e)):=by exact rfl)(hy:opA env y=ya:=by exact rfl):
  OpH P o env H (.int .i64 (min m.length l.length:Nat)) (H.set b (.row t k (l'.map e))):=by
 refine Qf8 (Nat.le_of_eq (XC _)) ?_ f a g d hc hx hH hy;rw[<- X8 h];rfl
theorem QkX{α:Type}{e:α->List A}{c:Call}{T T' et k b t:Nat}{x y:Operand}{ya:A}{l p m l':List α}{i j:Int}(hi:slc l i j=some p)(h:cpy l i j m=some l')(n:∀w,(underlying T).run P w=.ok (.slice et) w)(d:∀w,(sizeOf et).run P w=.ok k w)(g:QkH P H ya k (m.map e))
  (f:o.op=.call c:=by exact rfl)(hc:c={callee:=.builtin .copy,args:= #[x,y],argTypes:= #[T,T']}:=by exact rfl)(hx:opA env x=.osl b (0+i.toNat) (j.toNat-i.toNat) k:=by exact rfl)(hH:H[b]?=some (.row t k (l.map e)):=by exact rfl)(hy:opA env y=ya:=by exact rfl):
  OpH P o env H (.int .i64 (min m.length (j.toNat-i.toNat):Nat)) (H.set b (.row t k (l'.map e))):=by
 obtain⟨q,u,s,r⟩:=Qc5 hi;refine Qf8 (a:=i.toNat) (by omega) (X8 h) n d g f hc ?_ hH hy;rw[hx,XC]
end
end Go.Sw
namespace Go.Sw
open Go.MapKept
section
variable {fr ro ro':Nat->Prop}{σ:Sig}{H:Qc}{w:World}
theorem SO.toVR{t k:Nat}{rows:List (List A)}{v:Value}(ext:Ext ro [] w ro' [] w)(h:SO ro w t k rows v)(i:∀c p n cap,v=.slice (some ⟨c,p,none⟩) n cap->ro' c):VR ro' [] w (.rsl k rows) v:=by
 rcases h with⟨rfl,rfl⟩|⟨c,p,cap,vs,a,b,f,j,g,d⟩
 .exact⟨none,0,rfl,X2 _,.inl rfl⟩
 .refine⟨some ⟨c,p,none⟩,cap,a,b,?_⟩;by_cases e:rows=[]
  .exact .inl e
  .obtain rfl:=d (Vo (List.length_pos_iff.2 e) b);exact .inr ⟨c,0,rfl,i c _ _ _ a,Jw (pre:=[]) (by simpa using f) (g.mono ext)⟩
theorem QjM{t k:Nat}(ext:Ext ro [] w ro' [] w):∀{es:List (A×Option (List (List A)))}{l:List MapEntry},MO ro w t k es l->(∀e∈es,e.2.isSome=true)->(∀c,Jo es l c->ro' c)->ER ro' [] w (es.map λe=>(e.1,A.rsl k (e.2.getD []))) l
 |[],_,h,_,_=>h
 |x::r,_,⟨e,l',h1,h2,h3,h4⟩,ha,hr=>by
  subst h1;have hx:=ha x (Vd ..);obtain⟨rows,hx2⟩:=Option.isSome_iff_exists.1 hx;refine⟨e,l',rfl,h2.mono ext,?_,QjM ext h4 (λe he=>ha e (Ve _ he)) λc hc=>hr c (.inr hc)⟩;have:=(h3 rows hx2).toVR ext λc p n cap hv=>hr c (.inl ⟨hx,p,n,cap,hv⟩);show VR ro' [] w (.rsl k (x.2.getD [])) e.val;rw[hx2];exact this
theorem Sim.shutOF(s:Sim fr ro σ H w){i b t k:Nat}{es:List (A×Option (List (List A)))}(hσ:σ[i]?=some (some b))(x:H[i]?=some (.mapO false t k es))(ha:∀e∈es,e.2.isSome=true):
  Sim fr (λc=>ro c\/c=b\/Hid w (.mapO false t k es) b c) σ (H.set i (.fmap (es.map λe=>(e.1,A.rsl k (e.2.getD []))))) w:=by
 have r:b<w.heap.size/\ ¬ro b/\ ¬fr b:=s.own i b _ hσ x rfl;have hid:=λc q=>s.hid i b _ c hσ x q;have ext:Ext ro σ w (λc=>ro c\/c=b\/Hid w (.mapO false t k es) b c) σ w:=⟨λ_ q=>.inl q,λ_ _=>rfl,λ_ _ q=>q,λ_ _ q=>q⟩;have N:i<H.length:=(XT.1 x).1;have a:∀(j:Nat) (v:Blk),(H.set i (.fmap (es.map λe=>(e.1,A.rsl k (e.2.getD [])))))[j]?=some v->(v.live=true\/ ∃d c,Hid w v d c)->j≠i/\H[j]?=some v:=by
  intro j v h B;by_cases e:j=i
  .subst e;rw[Xa N]at h;cases h;rcases B with B|⟨d,c,B⟩
   .cases B
   .exact B.elim
  .rw[XX (λq=>e q.symm)]at h;exact⟨e,h⟩
 refine⟨by rw[Vc];exact s.len,s.roOk.to (λ_ q=>.inl q) (λ_ _=>rfl) ?_,s.frLt,?_,?_,?_,?_,?_⟩
 .rintro c (q|rfl|q)
  .exact s.roLt c q
  .exact r.1
  .exact(hid c q).lt
 .rintro c (q|rfl|q)
  .exact s.roFr c q
  .exact r.2.2
  .exact(hid c q).fr
 .intro j c v n f p;obtain⟨e,f⟩:=a j v f (.inl p);obtain⟨F,G,R⟩:=s.own j c v n f p;refine⟨F,?_,R⟩;rintro(q|rfl|q)
  .exact G q
  .exact e (s.inj j i c v _ n hσ f x p rfl)
  .exact(hid c q).ne j c v n f p rfl
 .intro j u c v Q n f p Y P O;exact s.inj j u c v Q n f (a j v p (.inl P)).2 (a u Q Y (.inl O)).2 P O
 .intro j y v n f;by_cases e:j=i
  .subst e;rw[Xa N]at f;cases f;rw[hσ]at n;cases n;obtain⟨_,l,m,F,G,R,X,V,T,_⟩:=s.blk j _ _ hσ x;exact⟨.inr (.inl rfl),l,m,F,QjM ext.nil G ha (λc W=>.inr (.inr ⟨l,m,F,W⟩)),X,V,T⟩
  .rw[XX (λq=>e q.symm)]at f;exact(s.blk j y v n f).keep ext (λ_ _ _=>rfl) (λ_ _ _ _=>rfl)
 .intro j d y c n f p;obtain⟨e,f⟩:=a j y f (.inr ⟨d,c,p⟩);have g:=s.hid j d y c n f p;refine⟨g.lt,?_,g.fr,λu J E M L z=>g.ne u J E M (a u E L (.inl z)).2 z,λu J E M L z=>g.one u J E M (a u E L (.inr ⟨_,_,z⟩)).2 z⟩;rintro(q|rfl|q)
  .exact g.ro q
  .exact g.ne i c _ hσ x rfl rfl
  .exact e ((g.one i b _ hσ x q).2.symm)
end
def QcC{α β:Type}:List (α×Option (List β))->Option (List (α×List β))
 |[]=>some []
 |(x,some r)::l=>(QcC l).map ((x,r):: ·)
 |(_,none)::_=>none
theorem Qhf{α β:Type}{ek:α->A}{ev:β->List A}{k:Nat}:∀{l:List (α×Option (List β))}{m:List (α×List β)},QcC l=some m->
  ((Q0 ek ev l).map λe=>(e.1,A.rsl k (e.2.getD [])))=Qy ek (λr=>A.rsl k (r.map ev)) m/\ ∀e∈Q0 ek ev l,e.2.isSome=true
 |[],m,h=>by obtain rfl:=X8 h;exact⟨rfl,λe he=>by cases he⟩
 |(x,some r)::l,m,h=>by
  unfold QcC at h;cases q:QcC l with
  |none=>rw[q]at h;cases h
  |some m'=>
   rw[q]at h;obtain rfl:=X8 h;obtain⟨h1,h2⟩:=Qhf (ek:=ek) (ev:=ev) (k:=k) q;refine⟨?_,λe he=>?_⟩
   .unfold Q0 Qy at*;simp only[Vs,h1];rfl
   .rcases Vf.1 he with rfl|he
    .rfl
    .exact h2 e he
 |(x,none)::l,m,h=>by cases h
theorem Qm5{α β:Type}{ek:α->A}{ev:β->List A}{h0 i t k:Nat}{env:Env}{H:Qc}{l:List (α×Option (List β))}{m:List (α×List β)}(h:QcC l=some m)(e:H[i]?=some (.mapO false t k (Q0 ek ev l)):=by exact rfl):
  Le h0 env H env (H.set i (.fmap (Qy ek (λr=>A.rsl k (r.map ev)) m))):=by
 intro j n σ N a w r;obtain⟨g,f⟩:=Qhf (ek:=ek) (ev:=ev) (k:=k) h;have d:∃s,σ[i]?=some s:=by
  have:i<σ.length:=by rw[r.sim.len];exact(XT.1 e).1
  exact⟨_,XS this⟩
 obtain⟨s,d⟩:=d;cases s with
 |none=>exact(r.sim.blk i _ _ d e).elim
 |some b=>
  have:=r.sim.shutOF d e f;rw[g]at this;exact⟨_,σ,⟨this,λq=>(r.env q).mono ⟨λ_ q=>.inl q,λ_ _=>rfl,λ_ _ q=>q,λ_ _ q=>q⟩,r.size,r.defers⟩,λ_ q=>.inl q,rfl⟩
theorem Ojr{S B:Type}{d D:Ctl S B}{x:B}(hb:∀b,d=.done b->D=.done b)(h:some (Ctl.done x)=some d):D=.done x:=hb x (Oi h).symm
theorem Qm4{α β:Type}{ek:α->A}{ev:β->List A}{h0 i t k:Nat}{env:Env}{H H':Qc}{l:List (α×Option (List β))}{m:List (α×List β)}(h:QcC l=some m)(a:H[i]?=some (.mapO false t k (Q0 ek ev l)):=by exact rfl)
  (e:H.set i (.fmap (Qy ek (λr=>A.rsl k (r.map ev)) m))=H':=by exact rfl):Le h0 env H env H':=e▸Qm5 h a
abbrev Ea:=@Ev.bind
abbrev Ec:=@FzH.keep
abbrev Ed:=@FzL.cons
abbrev Ee:=@FzA.refl
abbrev Ef:=@TC.le
abbrev Eg:=@PL.cons
abbrev Eh:=@DS.done
abbrev Ei:=@Ev.and
abbrev Ej:=@EvI.done
abbrev Ek:=@FzL.refl
abbrev El:=@OpH.lit
abbrev Em:=@RF.cons
abbrev En:=@Le.trans
abbrev Eo:=@ZR.int
abbrev Ep:=@FzA.o
abbrev Er:=@Le.phantom
abbrev Et:=@WO.le
abbrev Eu:=@Ev.eq
abbrev Ew:=@EvI.cont
abbrev Ex:=@Ev.iter
abbrev Ey:=@OpU.store
abbrev Ez:=@OpV.load
abbrev EA:=@Ev.const
theorem Zf.{u,v}{α:Sort u}{β:Sort v}{f:α->β}:∀x,f x=f x:=λ_=>rfl
abbrev Ze.{u,v}{α:Sort u}{β:Type v}:α->List β:=λ_=>[]
end Go.Sw
