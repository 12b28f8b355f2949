/- The rules by which the code is walked, with what they rest on (part 3). -/
import Derived.Test.YtkfjchmhgpkcbaaGreatL2
set_option linter.unusedVariables false
set_option linter.unusedSectionVars false
set_option linter.unusedSimpArgs false
namespace Go.Sw
structure TyX where
 ty:TyI
 al:List (Nat×A)
 sl:List Nat
structure Qbo (P:Program) (T:TyX):Prop where
 ty:TyOK P T.ty
 al:∀e∈T.al,(∃z,(∀w,(zeroValue e.1).run P w=.ok z w)/\ZR e.2 z)/\Yk e.2=true/\(Q8 e.2).all Ys=true
 sl:∀t∈T.sl,∃et,∀w,(underlying t).run P w=.ok (.slice et) w
def Y1(all:Array Oper)(o:Oper)(env:Env):Option Bool:=
 match o.guard with
 |none=>some true
 |some (j,c)=>match(all[j]?).bind (·.dst)with
  |none=>none
  |some d=>match lk env d with
   |.bool true=>some c
   |.bool false=>some (!c)
   |.tup []=>some false
   |_=>none
theorem QP{all:Array Oper}{o:Oper}{env:Env}{b:Bool}(h:Y1 all o env=some b):Qx all o env b:=by
 unfold Y1 at h;unfold Qx;split at h
 .rename_i q;rw[q];cases h;rfl
 .rename_i j c q;rw[q];split at h
  .cases h
  .rename_i d e;refine⟨d,e,?_⟩;split at h
   .rename_i a;cases h;exact .inl ⟨true,a,by simp⟩
   .rename_i a;cases h;exact .inl ⟨false,a,by cases c<;>rfl⟩
   .rename_i a;cases h;exact .inr ⟨a,rfl⟩
   .cases h
def Qc3:List Nat->Nat->Bool
 |[],_=>false
 |a::r,t=>bif Nat.beq a t then true else Qc3 r t
theorem Qf7{l:List Nat}{t:Nat}(h:Qc3 l t=true):t∈l:=by
 induction l with
 |nil=>cases h
 |cons a r b=>
  unfold Qc3 at h;cases q:Nat.beq a t with
  |true=>have:=XX q;subst this;exact .head _
  |false=>rw[q]at h;exact .tail _ (b h)
inductive FL where
 |mk (l:List A)
def fl:List A->FL
 |[]=>.mk []
 |a::r=>match fl r with
  |.mk r'=>.mk (a::r')
theorem QbU:∀l:List A,fl l=.mk l
 |[]=>rfl
 |a::r=>by unfold fl;rw[QbU r]
inductive FB where
 |mk (l:List Blk)
def fb:List Blk->FB
 |[]=>.mk []
 |a::r=>match fb r with
  |.mk r'=>.mk (a::r')
theorem Qje:∀l:List Blk,fb l=.mk l
 |[]=>rfl
 |a::r=>by unfold fb;rw[Qje r]
inductive FN where
 |mk (n:Nat)
def fn:List Blk->Nat->FN
 |[],n=>.mk n
 |_::r,n=>fn r (n+1)
theorem QlU:∀(l:List Blk) (n:Nat),fn l n=.mk (l.length+n)
 |[],n=>by simp[fn]
 |a::r,n=>by unfold fn;rw[QlU r];simp;omega
def Qjc(env:Env)(pl:List (Nat×Nat)):List A->List (Nat×Operand)->Option (List A)
 |cs,[]=>some cs
 |cs,(i,x)::r=>match YO pl i with
  |none=>none
  |some (off,size)=>match opB env x with
   |.mk a=>match fl (Q8 a)with
    |.mk vs=>bif Yk a&&Nat.beq vs.length size&&Nat.ble (off+size) cs.length then(match fl (splice cs off vs)with
     |.mk cs'=>Qjc env pl cs' r)else none
theorem Qhg{env:Env}{pl:List (Nat×Nat)}:∀(parts:List (Nat×Operand)) (cs:List A),Qjc env pl cs parts=Qet env pl cs parts
 |[],cs=>rfl
 |(i,x)::r,cs=>by
  unfold Qjc Qet;rw[Qax];cases pl[i]? with
  |none=>rfl
  |some q=>
   obtain⟨off,size⟩:=q;cases h:opB env x with
   |mk a=>
    rw[QB h];simp only[QbU];cases(Yk a&&Nat.beq (Q8 a).length size&&Nat.ble (off+size) cs.length)with
    |false=>rfl
    |true=>exact Qhg r _
def Qg1(env:Env):List Operand->List A
 |[]=>[]
 |x::r=>match opB env x with
  |.mk a=>a::Qg1 env r
theorem Qcq{env:Env}:∀l:List Operand,Qg1 env l=l.map (opA env)
 |[]=>rfl
 |x::r=>by
  unfold Qg1;cases h:opB env x with
  |mk a=>rw[Vr,QB h];show a::Qg1 env r=_;rw[Qcq r]
def ptX(H:Qc):Bx->Option Lx
 |.mk (.rp cs)=>some (.mk cs)
 |.mk (.ptr i off)=>match YO H i with
  |some (.cells _ cs)=>some (Qhx off cs)
  |_=>none
 |_=>none
theorem Qot{H:Qc}{p:A}{cs:List A}(h:ptX H (.mk p)=some (.mk cs)):Pts H p cs:=by
 unfold ptX at h;split at h
 .rename_i q;cases q;cases h;exact Pts.rp
 .rename_i i b q;cases q;split at h
  .rename_i a;rw[Qax]at a;simp only[Option.some.injEq]at h;exact Pts.cells a (QeF h)
  .cases h
 .cases h
def QcT(T:TyX)(o:Oper)(env:Env)(H:Qc):Option A:=
 match o.op with
 |.move x=>match opB env x with|.mk a=>some a
 |.assign x=>match opB env x with|.mk a=>some a
 |.nilCheck x=>nlB (opB env x)
 |.extract x i=>exB (opB env x) i
 |.unOp u _ x=>unB u (opB env x)
 |.pick c x y=>piB (opB env c) (opB env x) (opB env y)
 |.binOp b _ x y _=>biB b (opB env x) (opB env y)
 |.fieldAddr t x f=>match Qhd T.ty.fld t f with
  |none=>none
  |some off=>match opB env x with
   |.mk (.ptr i p)=>some (.ptr i (p+off))
   |.mk (.rp cs)=>match Qhx off cs with
    |.mk r=>some (.rp r)
   |_=>none
 |.load t x=>match QbP T.ty.agg t with
  |none=>none
  |some (b,n)=>match x with
   |.global g=>match YO Qib g with
    |some zs=>bif b&&Nat.beq zs.length n then(match fl (zs.map (A.int .i64))with|.mk l=>some (.agg l))else none
    |none=>none
   |x=>match ptX H (opB env x)with
    |none=>none
    |some (.mk cs)=>match b with
     |true=>(match fl (cs.take n)with|.mk l=>bif Nat.beq l.length n then some (.agg l)else none)
     |false=>(match cs with|[]=>none|a::_=>some a)
 |.build t parts=>match QbP T.ty.zer t with
  |none=>none
  |some (zs,pl)=>match Qjc env pl zs parts.toList with
   |some cs=>some (.agg cs)
   |none=>none
 |.makeFunc f first cap=>match fl (Qg1 env first.toList),fl (Qg1 env cap.toList)with
  |.mk l,.mk l'=>some (.fn f l l')
 |.call c=>match c with
  |{callee:=.builtin .len,args:=⟨[x]⟩,argTypes:=⟨[t]⟩}=>bif Qc3 T.sl t then(match opB env x with
   |.mk (.osl _ 0 n _)=>some (.int .i64 n)
   |_=>none)else none
  |_=>none
 |_=>none
theorem Qas{P:Program}{T:TyX}(s:Qbo P T){o:Oper}{env:Env}{H:Qc}{x:A}(h:QcT T o env H=some x):OpV P o env H x:=by
 unfold QcT at h;split at h
 .rename_i y a;exact Qbr a (by unfold svB;exact h)
 .rename_i y a;exact Qbr a (by unfold svB;exact h)
 .rename_i y a;exact Qbr a (by unfold svB;exact h)
 .rename_i y i a;exact Qbr a (by unfold svB;exact h)
 .rename_i u t y a;exact Qbr a (by unfold svB;exact h)
 .rename_i c y z a;exact Qbr a (by unfold svB;exact h)
 .rename_i b t y z u a;exact Qbr a (by unfold svB;exact h)
 .rename_i t y f a;split at h
  .cases h
  .rename_i B l;obtain⟨n,J⟩:=s.ty.fld _ (Qhc l);split at h
   .rename_i i p w;cases h;exact Qcb J a (QB w)
   .rename_i d w;cases q:Qhx B d with
    |mk r=>rw[q]at h;cases h;exact QeV J a (QB w) (QeF q)
   .cases h
 .rename_i t y a;split at h
  .cases h
  .rename_i b n R;obtain⟨j,m⟩:=s.ty.agg _ (Qat R);split at h
   .rename_i g;split at h
    .rename_i F L;rw[Qax]at L;cases q:(b&&Nat.beq F.length n)with
     |false=>rw[q]at h;cases h
     |true=>
      rw[q,QbU]at h;cases h;simp only[X4]at q;obtain⟨rfl,E⟩:=q;exact QfP j m L (XX E) a
    .cases h
   .cases e:opB env y with
    |mk p=>
     rw[e]at h;split at h
     .cases h
     .rename_i d Q;have G:=Qot Q;cases b with
      |true=>
       simp only[QbU]at h;cases q:Nat.beq (d.take n).length n with
       |false=>rw[q]at h;cases h
       |true=>
        rw[q]at h;cases h;exact Qy a j m (QB e) G rfl (XX q)
      |false=>
       cases d with
       |nil=>cases h
       |cons v d=>cases h;exact OpV.load a j (QB e) G
 .rename_i t parts a;split at h
  .cases h
  .rename_i F W N;obtain⟨⟨z,j,m⟩,M⟩:=s.ty.zer _ (Qat N);split at h
   .rename_i d l;cases h;rw[Qhg]at l;exact OpV.build j m M (by rw[a]) l
   .cases h
 .rename_i f first cap a
  simp only[QbU]at h;cases h;rw[Qcq,Qcq];exact OpV.makeFunc (first:=first.toList) (cap:=cap.toList) (by rw[a]) rfl rfl
 .rename_i c a;split at h
  .rename_i y t;cases q:Qc3 T.sl t with
   |false=>rw[q]at h;cases h
   |true=>
    rw[q]at h;simp only[cond_true]at h;obtain⟨V,O⟩:=s.sl t (Qf7 q);split at h
    .rename_i i n k E;cases h;exact Qkx O a rfl (QB E)
    .cases h
  .cases h
 .cases h
def stX(T:TyX)(h0 N:Nat)(all:Array Oper)(o:Oper)(env:Env)(H:Qc):Option (Env×Qc):=
 match Y1 all o env with
 |none=>none
 |some false=>match o.dst with
  |none=>none
  |some d=>bif Nat.blt d N then some (up env d (.tup []),H)else none
 |some true=>match o.dst with
  |none=>match o.op with
   |.store t x y=>match opB env x,QbP T.ty.agg t with
    |.mk (.ptr i off),some (_,n)=>match YO H i with
     |some (.cells S cs)=>match opB env y with
      |.mk a=>match fl (Q8 a)with
       |.mk vs=>bif Nat.ble h0 H.length&&(Yk a&&(Nat.beq vs.length n&&(vs.all Ys&&Nat.ble (off+n) cs.length)))then(match fl (splice cs off vs)with
        |.mk cs'=>match fb (H.set i (.cells S cs'))with
         |.mk H'=>some (env,H'))else none
     |_=>none
    |_,_=>none
   |_=>none
  |some d=>bif Nat.blt d N then(match o.op with
   |.alloc t=>match QbP T.al t with
    |some v=>bif Nat.ble h0 H.length then(match fn H 0,fl (Q8 v)with
     |.mk n,.mk cs=>match fb (H++[.cells t cs])with
      |.mk H'=>some (up env d (.ptr n 0),H'))else none
    |none=>none
   |.box t x=>match opB env x with
    |.mk a=>bif Nat.ble h0 H.length&&(Yk a&&(Q8 a).all Ys)then(match fn H 0,fl (Q8 a)with
     |.mk n,.mk cs=>match fb (H++[.cells t cs])with
      |.mk H'=>some (up env d (.ptr n 0),H'))else none
   |_=>match QcT T o env H with
    |some a=>some (up env d a,H)
    |none=>none)else none
section
variable {P:Program}{T:TyX}{h0 N:Nat}{all:Array Oper}{l l':List Oper}{env env':Env}{H H':Qc}{Q:QC}
theorem QkY(r:Qbo P T){o:Oper}(h:stX T h0 N all o env H=some (env',H'))(k:WO P h0 N all l env' H' Q):WO P h0 N all (o::l) env H Q:=by
 unfold stX at h;split at h
 .cases h
 .rename_i m;have g:=QP m;split at h
  .cases h
  .rename_i d f;cases q:Nat.blt d N with
   |false=>rw[q]at h;cases h
   |true=>rw[q]at h;cases h;exact WO.skip g f q k
 .rename_i m;have g:=QP m;split at h
  .rename_i f;split at h
   .rename_i t x y j;split at h
    .rename_i i w b n M O;split at h
     .rename_i S cs hH;rw[Qax]at hH;cases e:opB env y with
      |mk a=>
       rw[e]at h;simp only[QbU,Qje]at h;generalize hc:(Nat.ble h0 H.length&&(Yk a&&(Nat.beq (Q8 a).length n&&((Q8 a).all Ys&&Nat.ble (w+n) cs.length))))=c at h;cases c with
       |false=>cases h
       |true=>
        cases h;simp only[X4]at hc;obtain⟨u,s,p,V,R⟩:=hc;obtain⟨_,J⟩:=r.ty.agg _ (Qat O);exact Qiw (XY u) g f (OpU.store j (QB M) hH J (QB e) s rfl (XX p) V R rfl) k
     .cases h
    .cases h
   .cases h
  .rename_i d f;cases q:Nat.blt d N with
   |false=>rw[q]at h;cases h
   |true=>
    rw[q]at h;simp only[cond_true]at h;split at h
    .rename_i t j;split at h
     .rename_i v W;cases c:Nat.ble h0 H.length with
      |false=>rw[c]at h;cases h
      |true=>
       rw[c]at h;simp only[QbU,Qje,QlU,cond_true,XC]at h;cases h;obtain⟨⟨z,E,L⟩,G,F⟩:=r.al _ (Qat W);exact Qca (XY c) g f q (Qcc E L j G rfl F) k
     .cases h
    .rename_i t x j;cases e:opB env x with
     |mk a=>
      rw[e]at h;simp only[QbU,Qje,QlU,XC]at h;generalize hc:(Nat.ble h0 H.length&&(Yk a&&(Q8 a).all Ys))=c at h;cases c with
      |false=>cases h
      |true=>
       cases h;simp only[X4]at hc;obtain⟨u,s,p⟩:=hc;exact Qca (XY u) g f q (OpH.box j (QB e) s rfl p) k
    .split at h
     .rename_i a B;cases h;exact QH g f q (Qas r B) k
     .cases h
end
theorem yc{α:Type}{p:α->Prop}{a:α}{l:List α}(h:p a)(k:∀x∈l,p x):∀x∈a::l,p x:=List.forall_mem_cons.2 ⟨h,k⟩
theorem FA{P:Program}{T f off n:Nat}{fs:Array Field}{a:Field}(g:∀w,(underlying T).run P w=.ok (.struct fs) w)(e:fs[f]?=some a)(b:∀w,(sizeOf a.type).run P w=.ok n w)(d:a.offset=off:=by exact rfl)(h5:n≠0:=by decide):Y8 P T f off n:=⟨_,_,g,e,d,b,h5⟩
theorem Qbt:∀(π:List Nat) (H:Qc) (xs:List Blk),π.map (λp=>H[p]?)=xs.map some->Yg H π xs=H
 |[],H,xs,h=>by
  have:xs=[]:=by cases xs with
   |nil=>rfl
   |cons x xs=>simp at h
  subst this;simp[Yg]
 |p::π,H,[],h=>by simp at h
 |p::π,H,x::xs,h=>by
  simp only[Vr,List.cons.injEq]at h;have e:H.set p x=H:=by
   apply List.ext_getElem?;intro i;rw[Xb];by_cases q:p=i
   .subst q;rw[if_pos rfl,h.1];have:=(XS.1 h.1).1;rw[if_pos this]
   .rw[if_neg q]
  unfold Yg;rw[e];exact Qbt π H xs h.2
def Qh3:A->Option Bx
 |.bool b=>some (.mk (.bool b))
 |.int k n=>some (.mk (.int k n))
 |.str s=>some (.mk (.str s))
 |.rsl k es=>some (.mk (.rsl k es))
 |_=>none
theorem QiT{v a:A}(h:Qh3 v=some (.mk a))(ρ:Nat->Nat):Yx ρ v=a:=by
 cases v<;>first|(cases h;rfl)|cases h
theorem Pc{P:Program}{h0 N:Nat}{all:Array Oper}{o:Oper}{l:List Oper}{env:Env}{H:Qc}{Q:QC}{d:Nat}{f:FuncId}{args b:List A}{Hc:Qc}{v g:A}(π:List Nat)(h:o.dst=some d)(e:OpC P o env H f args)(i:C P f b Hc (λa H1=>a=v/\H1=Hc))(j:Qh3 v=some (.mk g))
  (k:WO P h0 N all l (up env d g) H Q)
  (hargs:args=Qaa (rho π H.length) b:=by exact rfl)(hH:π.map (λp=>H[p]?)=(Hc.map (QZ (rho π H.length))).map some:=by exact rfl)(hπ:π.Nodup:=by decide)
  (hg:Qx all o env true:=by exact rfl)(hN:Nat.blt d N=true:=by exact rfl)(hh:Nat.ble h0 H.length=true:=by exact rfl):WO P h0 N all (o::l) env H Q:=by
 refine Qt π e i ?_ hargs hH hπ hg h hN hh;rintro r H1 ⟨rfl,rfl⟩;rw[QiT j,Qbt π H _ hH];exact k
theorem Q3{i k:Nat}{es:List (List A)}:∀H:Qc,FzH i k es H H
 |[]=>.nil
 |_::r=>.keep (Q3 r)
def foN:Nat->FN
 |0=>.mk 0
 |n+1=>match foN n with
  |.mk m=>.mk (m+1)
theorem Qer:∀n,foN n=.mk n
 |0=>rfl
 |n+1=>by unfold foN;rw[Qer n]
mutual
def foA:A->Bx
 |.agg cs=>match foL cs with
  |.mk l=>.mk (.agg l)
 |.tup cs=>match foL cs with
  |.mk l=>.mk (.tup l)
 |.fn f a c=>match foL a,foL c with
  |.mk l,.mk l'=>.mk (.fn f l l')
 |.iface t v=>match foA v with
  |.mk v'=>.mk (.iface t v')
 |.ptr i off=>match foN i with
  |.mk i'=>.mk (.ptr i' off)
 |.osl i o n k=>match foN i with
  |.mk i'=>.mk (.osl i' o n k)
 |.map i=>match foN i with
  |.mk i'=>.mk (.map i')
 |a=>.mk a
def foL:List A->FL
 |[]=>.mk []
 |a::r=>match foA a,foL r with
  |.mk a',.mk r'=>.mk (a'::r')
end
mutual
theorem Qid:∀a:A,foA a=.mk a
 |.agg cs=>by unfold foA;rw[Qb6 cs]
 |.tup cs=>by unfold foA;rw[Qb6 cs]
 |.fn f a c=>by unfold foA;rw[Qb6 a,Qb6 c]
 |.iface t v=>by unfold foA;rw[Qid v]
 |.ptr i off=>by unfold foA;rw[Qer]
 |.osl i o n k=>by unfold foA;rw[Qer]
 |.map i=>by unfold foA;rw[Qer]
 |.any|.bool _|.int _ _|.str _|.nilp|.rp _|.nils|.rsl _ _|.nilf|.nilif|.nilm=>by rfl
theorem Qb6:∀l:List A,foL l=.mk l
 |[]=>by rfl
 |a::r=>by unfold foL;rw[Qid a,Qb6 r]
end
inductive FE2 where
 |mk (l:List (List A))
def foE:List (List A)->FE2
 |[]=>.mk []
 |a::r=>match foL a,foE r with
  |.mk a',.mk r'=>.mk (a'::r')
theorem QlT:∀l,foE l=.mk l
 |[]=>rfl
 |a::r=>by unfold foE;rw[Qb6,QlT r]
def foH:List Blk->FB
 |[]=>.mk []
 |b::r=>match foH r with
  |.mk r'=>match b with
   |.cells t cs=>match foL cs with
    |.mk l=>.mk (.cells t l::r')
   |.rowr t k es=>match foE es with
    |.mk l=>.mk (.rowr t k l::r')
   |.dead=>.mk (.dead::r')
   |.row t k es=>.mk (.row t k es::r')
   |.map es=>.mk (.map es::r')
   |.iter c es=>.mk (.iter c es::r')
   |.fmap es=>.mk (.fmap es::r')
   |.mapO fz t k es=>.mk (.mapO fz t k es::r')
   |.ents t a b es=>match foN a,foN b with
    |.mk a',.mk b'=>.mk (.ents t a' b' es::r')
theorem QlS:∀l,foH l=.mk l
 |[]=>rfl
 |b::r=>by
  unfold foH;rw[QlS r];cases b<;>simp only[Qb6,QlT,Qer]
def foS(env:Env)(H:Qc):Option (Env×Qc):=
 match foH H with
 |.mk H'=>match env with
  |[]=>some ([],H')
  |(d,a)::e=>match foA a with
   |.mk a'=>some ((d,a')::e,H')
theorem QoN(env:Env)(H:Qc):foS env H=some (env,H):=by
 unfold foS;rw[QlS];cases env with
 |nil=>rfl
 |cons p e=>obtain⟨d,a⟩:=p;simp only[Qid]
theorem FE{P:Program}{h0 N:Nat}{all:Array Oper}{l:List Oper}{env env':Env}{H H':Qc}{Q:QC}(h:foS env H=some (env',H'))(k:WO P h0 N all l env' H' Q):WO P h0 N all l env H Q:=by
 rw[QoN]at h;cases h;exact k
theorem R1{P:Program}{h0:Nat}{fn:Func}{env:Env}{H Hc:Qc}{v:A}(s:Nat)(hr:fn.results= #[.tmp s])(hle:Le h0 env H [(s,v)] Hc):QcG P h0 fn (λa H=>a=v/\H=Hc) .ret env H:=
 ⟨[(s,v)],Hc,v,hle,QcH.one hr (by show lk [(s,v)] s=v;unfold lk;rw[Nat.beq_refl];rfl),rfl,rfl⟩
theorem R2{P:Program}{h0:Nat}{fn:Func}{env:Env}{H Hc:Qc}{v v':A}(s t:Nat)(hr:fn.results= #[.tmp s,.tmp t])(hn:Nat.beq t s=false)(hle:Le h0 env H [(s,v),(t,v')] Hc):QcG P h0 fn (λa H=>a=.tup [v,v']/\H=Hc) .ret env H:=
 ⟨[(s,v),(t,v')],Hc,_,hle,Qkp hr (by show lk [(s,v),(t,v')] s=v;unfold lk;rw[Nat.beq_refl];rfl) (by show lk [(s,v),(t,v')] t=v';unfold lk lk;rw[hn,Nat.beq_refl];rfl),rfl,rfl⟩
theorem FzA.o{i k n:Nat}{es:List (List A)}(a:n=es.length:=by first|exact(X9 ..).symm|exact rfl):FzA i k es (.osl i 0 n k) (.rsl k es):=FzA.own a
end Go.Sw
namespace Go.Sw
theorem Le.env{h0:Nat}{env env':Env}{H:Qc}(h:∀s,lk env' s=.any\/lk env' s=lk env s):Le h0 env H env' H:=by
 intro d b σ N a w r;refine⟨b,σ,⟨r.sim,λs=>?_,r.size,r.defers⟩,λ_ q=>q,rfl⟩;rcases h s with h|h
 .rw[h];trivial
 .rw[h];exact r.env s
def QmN(env:Env):Env->Prop
 |[]=>True
 |(s,a)::r=>lk env s=a/\QmN env r
theorem QmN.ok{env:Env}:∀{env':Env},QmN env env'->∀s,lk env' s=.any\/lk env' s=lk env s
 |[],_,s=>.inl rfl
 |(d,a)::e,⟨h1,h2⟩,s=>by
  by_cases q:s=d
  .subst q;right;simp only[lk,Nat.beq_refl,cond_true];exact h1.symm
  .have:Nat.beq s d=false:=by
    rw[Bool.eq_false_iff];intro b;exact q (XX b)
   simp only[lk,this,cond_false];exact QmN.ok h2 s
theorem Lw{h0:Nat}{env env':Env}{H:Qc}(h:QmN env env'):Le h0 env H env' H:=Le.env h.ok
theorem Qog(n i:Nat):rho (List.range n) n i=i:=by
 unfold rho;by_cases h:i<n
 .rw[List.getElem?_range h]
 .rw[XV (by rw[Xy];omega)];simp only[Xy];omega
mutual
theorem QiZ{ρ:Nat->Nat}(h:∀i,ρ i=i):∀a:A,Yx ρ a=a
 |.ptr i off=>by simp[Yx,h]
 |.osl i o n k=>by simp[Yx,h]
 |.agg cs=>by simp[Yx,QaJ h cs]
 |.fn f a c=>by simp[Yx,QaJ h a,QaJ h c]
 |.iface t v=>by simp[Yx,QiZ h v]
 |.map i=>by simp[Yx,h]
 |.tup vs=>by simp[Yx,QaJ h vs]
 |.any|.bool _|.int _ _|.str _|.nilp|.rp _|.nils|.rsl _ _|.nilf|.nilif|.nilm=>by rfl
theorem QaJ{ρ:Nat->Nat}(h:∀i,ρ i=i):∀l:List A,Qaa ρ l=l
 |[]=>rfl
 |a::r=>by simp[Qaa,QiZ h a,QaJ h r]
end
theorem QiY{ρ:Nat->Nat}(h:∀i,ρ i=i):∀l:List (List A),Qf0 ρ l=l
 |[]=>rfl
 |a::r=>by simp[Qf0,QaJ h a,QiY h r]
theorem Qm2{ρ:Nat->Nat}(h:∀i,ρ i=i):∀b:Blk,QZ ρ b=b
 |.cells t cs=>by simp[QZ,QaJ h cs]
 |.rowr t k es=>by simp[QZ,QiY h es]
 |.ents t a b es=>by simp[QZ,h]
 |.dead|.row _ _ _|.map _|.iter _ _|.fmap _|.mapO _ _ _ _=>by rfl
theorem Pw{P:Program}{h0 N:Nat}{all:Array Oper}{o:Oper}{l:List Oper}{env:Env}{H:Qc}{Q:QC}{d:Nat}{f:FuncId}{args:List A}{v j:A}(t:o.dst=some d)(g:OpC P o env H f args)(u:C P f args H (λa H1=>a=v/\H1=H))(w:Qh3 v=some (.mk j))
  (hg:Qx all o env true)(s:Nat.blt d N=true)(n:h0<=H.length)(k:WO P h0 N all l (up env d j) H Q):WO P h0 N all (o::l) env H Q:=by
 have e:=Qog H.length;have m:H.map (QZ (rho (List.range H.length) H.length))=H:=by
  conv=>rhs;rw[<- List.map_id H]
  exact List.map_congr_left λb _=>Qm2 e b
 have h:(List.range H.length).map (λp=>H[p]?)=(H.map (QZ (rho (List.range H.length) H.length))).map some:=by
  rw[m];apply List.ext_getElem?;intro i;by_cases q:i<H.length
  .simp[q]
  .simp[q]
 refine Qt (List.range H.length) g u ?_ (by rw[QaJ e]) h List.nodup_range hg t s (XZ n);rintro r H1 ⟨rfl,rfl⟩;rw[QiT w,Qbt _ _ _ h];exact k
def ixE(d:Nat)(g:Ground):Edge:={on:=d,ground:=g}
def ixO(d:Nat)(op:Op)(t:Nat)(pos:String)(af:Array Edge):Oper:={dst:=some d,op:=op,type:=t,pos:=pos,after:=af,guard:=none}
def QoL(ts te tf tI tB:Nat):Code:=
 (Code.region 0 [ixO 4 (.assign (.const (.int .i64 0))) tI "slices.go:107" #[]].toArray false).seq
  (((Code.region 1 [ixO 6 (.move (.tmp 0)) ts "slices.go:108" #[],ixO 7 (.call {callee:=.builtin .len,args:= #[.tmp 6],argTypes:= #[ts]}) tI "slices.go:108" #[ixE 0 .data],ixO 8 (.move (.const (.int .i64 0))) tI "slices.go:108" #[]].toArray false).seq
   (.block 0 (.loop ((Code.region 2 [ixO 9 (.binOp .lss tI (.tmp 8) (.tmp 7) tI) 0 "slices.go:108" #[]].toArray false).seq
    ((Code.cond (.tmp 9) .skip (.exit 0)).seq
    ((Code.block 1 ((Code.region 3 [ixO 10 (.move (.tmp 8)) tI "slices.go:108" #[],ixO 5 (.assign (.tmp 10)) tI "slices.go:108" #[ixE 0 .data,ixE 0 .phase]].toArray false).seq
     ((Code.region 4 [ixO 11 (.move (.tmp 1)) tf "slices.go:109" #[],ixO 12 (.move (.tmp 0)) ts "slices.go:109" #[],ixO 13 (.move (.tmp 5)) tI "slices.go:109" #[],ixO 14 (.indexAddr ts (.tmp 12) (.tmp 13)) 0 "slices.go:109" #[ixE 1 .data,ixE 2 .data],
       ixO 15 (.load te (.tmp 14)) te "slices.go:109" #[ixE 3 .data],ixO 16 (.call {callee:=.value (.tmp 11),args:= #[.tmp 15],argTypes:= #[te]}) tB "slices.go:109" #[ixE 0 .data,ixE 4 .data]].toArray false).seq
      (Code.cond (.tmp 16) ((Code.region 5 [ixO 17 (.move (.tmp 5)) tI "slices.go:110" #[],ixO 4 (.assign (.tmp 17)) tI "slices.go:110" #[ixE 0 .data,ixE 0 .phase]].toArray false).seq .ret) .skip)))).seq
     (Code.region 6 [ixO 18 (.binOp .add tI (.tmp 8) (.const (.int .i64 1)) tI) tI "slices.go:108" #[],ixO 8 (.move (.tmp 18)) tI "slices.go:108" #[ixE 0 .data]].toArray false))))))).seq
  ((Code.region 7 [ixO 4 (.assign (.const (.int .i64 (-1)))) tI "slices.go:113" #[]].toArray false).seq .ret))
theorem QJ{P:Program}{T:Type}{e:T->List A}{el:T->A}{Q z tf tI tB k:Nat}{V m:FuncId}{fn:Func}{i:List A}{Hc:Qc}{L:List T}{g:T->Option Bool}{n:Nat}{r:Int}
  (Y:P.funcs[V]?=some fn)(X:fn.body=some (QoL Q z tf tI tB))(hN:fn.ntmps=19)(O:fn.results= #[.tmp 4])(R:∀w,(underlying Q).run P w=.ok (.slice z) w)(hs:∀w,(sizeOf z).run P w=.ok k w)
  (B:∀(o:Oper) (env:Env) (H:Qc) (x:T),o.op=.load z (.tmp 14)->opA env (.tmp 14)=.rp (e x)->OpV P o env H (el x))
  (N:∀(a:Array Value) (w:World),(callFunc m a).run P w=.ok (.enter m a) w)
  (G:∀x b,g x=some b->C P m (el x::i) Hc (λa H=>a=.bool b/\H=Hc))
  (h:((iter (λs:Int=>bif decide (s<(L.length:Int))then(idx L s).bind λx=>(g x).bind λb=>(bif b then some (Ctl.done (Ctl.done s))else some (Ctl.cont (IntKind.i64.wrap (s+1))))else some (Ctl.done (Ctl.cont ()))) n (0:Int):Option (Ctl Unit Int)).bind λb=>match b with|.cont _=>some (-1)|.done s=>some s)=some r):
  C P V [.rsl k (L.map e),.fn (.func m) [] i] Hc (λa H=>a=.int .i64 r/\H=Hc):=by
 refine Qb Y X hN rfl ?_;refine Rg (S rfl (Nx (TC.seq (Rg (S rfl (LnM R rfl (S rfl (Nx (Bd h λF J h=>?_)))))))));refine Qjw (b:=F) (λ_=>[]) (λ_=>Hc) ?_ (λsb10 env H hbe hle=>?_)
 .refine TC.block ?_;refine TC.loop (E:=λp=>[(0,.rsl k (L.map e)),(1,.fn (.func m) [] i),(7,.int .i64 (L.length:Int)),(8,.int .i64 p)]) (Hp:=λ_=>Hc) J ?_ ?_
  .exact Lw ⟨rfl,rfl,rfl,rfl,trivial⟩
  intro p W d l;refine Rg (S rfl (Nx (TC.seq (Ya rfl d (λu d=>?_) (λu d=>?_)))))
  .refine ExX (Qk d ?_);obtain rfl:=l _ (Oi d).symm;exact bloE (Qp rfl (Lw trivial))
  refine SkN (TC.seq (TC.block (Rg (S rfl (S rfl (Nx (Rg (S rfl (S rfl (S rfl (Bd d λj t d=>Ix t R hs rfl ?_)))))))))));refine QH (x:=el j) rfl rfl rfl (B _ _ _ j rfl rfl) ?_;refine Bd d λM q d=>?_;refine Pw rfl (Qgx (f:=m) (x:=.tmp 11) (xs:=[.tmp 15]) (vf:=[]) (vc:=i) (args:=el j::i) N rfl rfl rfl rfl) (G j M q) rfl rfl rfl (X0 _) ?_;refine Nx (Cn rfl d (λy d=>?_) (λy d=>?_))
  .refine Rg (S rfl (S rfl (Nx (TC.ret (bloR (seqR (Qn d ?_)))))));obtain rfl:=l _ (Oi d).symm;refine bloR (Qm (seqR ?_));obtain rfl:=Oi h;exact R1 4 O (Lw ⟨rfl,trivial⟩)
  exact TC.skip (bloN (Qk3 (TC.region (S rfl (S rfl (WO.nil (Qj d (Lw ⟨rfl,rfl,rfl,rfl,trivial⟩))))))))
 subst hbe;refine Qk3 (TC.le hle (Rg (S rfl (Nx (TC.ret ?_)))));obtain rfl:=Oi h;exact R1 4 O (Lw ⟨rfl,trivial⟩)
end Go.Sw
namespace Go.Sw
inductive Kf where
 |seq (c:Code)
 |blo (id:Nat)
 |unr (c:Code)
inductive Cf where
 |code (c:Code)
 |ops (all:Array Oper) (l:List Oper)
 |out (x:AEx)
def kq(P:Program)(h0 N:Nat):List Kf->QC->QC
 |[],Q=>Q
 |.seq c::k,Q=>Seq P h0 N c (kq P h0 N k Q)
 |.blo id::k,Q=>Blo id (kq P h0 N k Q)
 |.unr c::k,Q=>Qix P h0 N c (kq P h0 N k Q)
@[reducible] def Hd(P:Program)(h0 N:Nat):Cf->List Kf->Env->Qc->QC->Prop
 |.code c,k,env,H,Q=>TC P h0 N c env H (kq P h0 N k Q)
 |.ops all l,k,env,H,Q=>WO P h0 N all l env H (kq P h0 N k Q)
 |.out x,k,env,H,Q=>kq P h0 N k Q x env H
def Qfd(T:TyX)(h0 N:Nat):Cf->List Kf->Env->Qc->Option (Cf×List Kf×Env×Qc)
 |.code (.seq a b),k,env,H=>some (.code a,.seq b::k,env,H)
 |.code (.block id c),k,env,H=>some (.code c,.blo id::k,env,H)
 |.code (.loop c),k,env,H=>some (.code c,.unr c::k,env,H)
 |.code .skip,k,env,H=>some (.out .normal,k,env,H)
 |.code .ret,k,env,H=>some (.out .ret,k,env,H)
 |.code (.exit id),k,env,H=>some (.out (.exit id),k,env,H)
 |.code (.region id ⟨l⟩ false),k,env,H=>some (.ops ⟨l⟩ l,k,env,H)
 |.code (.cond x a b),k,env,H=>match opB env x with
  |.mk (.bool true)=>some (.code a,k,env,H)
  |.mk (.bool false)=>some (.code b,k,env,H)
  |_=>none
 |.ops all [],k,env,H=>some (.out .normal,k,env,H)
 |.ops all (o::l),k,env,H=>match stX T h0 N all o env H with
  |some (env',H')=>some (.ops all l,k,env',H')
  |none=>none
 |.out .normal,.seq c::k,env,H=>some (.code c,k,env,H)
 |.out (.exit i),.seq _::k,env,H=>some (.out (.exit i),k,env,H)
 |.out .ret,.seq _::k,env,H=>some (.out .ret,k,env,H)
 |.out .normal,.blo _::k,env,H=>some (.out .normal,k,env,H)
 |.out (.exit i),.blo id::k,env,H=>match Nat.beq i id with
  |true=>some (.out .normal,k,env,H)
  |false=>some (.out (.exit i),k,env,H)
 |.out .ret,.blo _::k,env,H=>some (.out .ret,k,env,H)
 |.out .normal,.unr c::k,env,H=>some (.code c,.unr c::k,env,H)
 |.out (.exit i),.unr _::k,env,H=>some (.out (.exit i),k,env,H)
 |.out .ret,.unr _::k,env,H=>some (.out .ret,k,env,H)
 |_,_,_,_=>none
def Qh4(T:TyX)(h0 N:Nat):Nat->Cf->List Kf->Env->Qc->Option (Cf×List Kf×Env×Qc)
 |0,c,k,env,H=>some (c,k,env,H)
 |n+1,c,k,env,H=>match Qfd T h0 N c k env H with
  |some (c',k',env',H')=>Qh4 T h0 N n c' k' env' H'
  |none=>none
section
variable {P:Program}{T:TyX}{h0 N:Nat}{Q:QC}
theorem QkV(d:Qbo P T){c b:Cf}{k a:List Kf}{env env':Env}{H H':Qc}(h:Qfd T h0 N c k env H=some (b,a,env',H'))(g:Hd P h0 N b a env' H' Q):Hd P h0 N c k env H Q:=by
 unfold Qfd at h;split at h
 .cases h;exact TC.seq g
 .cases h;exact TC.block g
 .cases h;exact Qkn g
 .cases h;exact TC.skip g
 .cases h;exact TC.ret g
 .cases h;exact TC.exit g
 .cases h;exact TC.region g
 .split at h
  .rename_i q;cases h;exact Qmz (QB q) rfl g
  .rename_i q;cases h;exact QhJ (QB q) rfl g
  .cases h
 .cases h;exact WO.nil g
 .split at h
  .rename_i q;cases h;exact QkY d q g
  .cases h
 .cases h;exact Qk3 g
 .cases h;exact seqX g
 .cases h;exact seqR g
 .cases h;exact bloN g
 .split at h
  .rename_i q;cases h;have:=XX q;subst this;exact bloE g
  .rename_i q;cases h;exact bloX q g
 .cases h;exact bloR g
 .cases h;exact unrN g
 .cases h;exact unrX g
 .cases h;exact unrR g
 .cases h
theorem Qci(hT:Qbo P T):∀(n:Nat) {c c':Cf}{k k':List Kf}{env env':Env}{H H':Qc},Qh4 T h0 N n c k env H=some (c',k',env',H')->Hd P h0 N c' k' env' H' Q->Hd P h0 N c k env H Q
 |0,c,c',k,k',env,env',H,H',h,g=>by cases h;exact g
 |n+1,c,c',k,k',env,env',H,H',h,g=>by
  unfold Qh4 at h;split at h
  .rename_i e;exact QkV hT e (Qci hT n h g)
  .cases h
theorem QiN{env:Env}{s:Nat}{a:A}(h:lk env s=a):∀t,lk (up env s a) t=lk env t:=by
 intro t;simp only[up,lk];cases q:Nat.beq t s with
 |true=>have:=XX q;subst this;exact h.symm
 |false=>rfl
theorem Is{α:Type}{all:Array Oper}{l:List Oper}{env:Env}{H:Qc}{b:Bool}{x y:Option α}{r:α}(s:Nat)(h:(bif b then x else y)=some r)(d:lkB env s=.mk (.bool b))
  (t:b=true->x=some r->WO P h0 N all l (up env s (.bool true)) H Q)(e:b=false->y=some r->WO P h0 N all l (up env s (.bool false)) H Q):WO P h0 N all l env H Q:=by
 have a:=Qh8 d;cases b with
 |true=>exact WO.le (Le.env λt=>.inr (QiN a t)) (t rfl h)
 |false=>exact WO.le (Le.env λt=>.inr (QiN a t)) (e rfl h)
end
def dstN(o:Oper)(i:Nat):Nat:=match o.dst with|some d=>d|none=>1000000+i
def Qal:Nat->Nat->List Oper->List Nat
 |0,_,_=>[]
 |_+1,_,[]=>[]
 |m+1,i,o::l=>dstN o i::Qal m (i+1) l
def Yi(af:List Nat):Nat->List Nat->List A->Env->Env
 |j,d::ds,x::xs,e=>(d,bif Qc3 af j then x else .any)::Yi af (j+1) ds xs e
 |j,d::ds,[],e=>(d,.any)::Yi af (j+1) ds [] e
 |_,[],_,e=>e
theorem Qe7{l:List Nat}{t:Nat}:Qc3 l t=l.contains t:=by
 induction l with
 |nil=>rfl
 |cons a r d=>
  unfold Qc3;rw[List.contains_cons,d];cases q:Nat.beq a t with
  |true=>have:=XX q;subst this;simp
  |false=>
   have b:t≠a:=λz=>by subst z;rw[Nat.beq_refl]at q;cases q
   simp[b]
theorem Qjk{af:List Nat}{env0:Env}{s:Nat}:∀(a:List Nat) (xs g:List A) (b:Nat),
  (∃(j:Nat) (x:A),af.contains (b+j)=true/\a[j]?=some s/\(xs++g)[j]?=some x/\lk (Yi af b a xs env0) s=x)\/lk (Yi af b a xs env0) s=.any\/(a.contains s=false/\lk (Yi af b a xs env0) s=lk env0 s):=by
 intro a
 induction a with
 |nil=>intro xs g b;right;right;exact⟨rfl,by cases xs<;>rfl⟩
 |cons d a p=>
  intro xs g b;have next:∀(e:List A),(∃(j:Nat) (x:A),af.contains (b+1+j)=true/\a[j]?=some s/\(e++g)[j]?=some x/\lk (Yi af (b+1) a e env0) s=x)->∀n,(∃(j:Nat) (x:A),af.contains (b+j)=true/\(d::a)[j]?=some s/\(n::e++g)[j]?=some x/\lk (Yi af (b+1) a e env0) s=x):=by
   rintro e ⟨j,x,k,i,l,m⟩ n;exact⟨j+1,x,by rw[show b+(j+1)=b+1+j by omega];exact k,by simpa using i,by simpa using l,m⟩
  cases xs with
  |nil=>
   cases q:Nat.beq s d with
   |true=>right;left;simp only[Yi,lk,q,cond_true]
   |false=>
    have f:s≠d:=λz=>by subst z;rw[Nat.beq_refl]at q;cases q
    simp only[Yi,lk,q,cond_false];rcases p [] [] (b+1)with⟨j,x,k,i,l,m⟩|h|⟨k,i⟩
    .simp at l
    .exact .inr (.inl h)
    .exact .inr (.inr ⟨by rw[List.contains_cons,k];simpa using f,i⟩)
  |cons x xs=>
   cases q:Nat.beq s d with
   |true=>
    have:=XX q;subst this;simp only[Yi,lk,q,cond_true];cases c:Qc3 af b with
    |true=>left;exact⟨0,x,by rw[<- Qe7];exact c,rfl,rfl,rfl⟩
    |false=>right;left;rfl
   |false=>
    have f:s≠d:=λz=>by subst z;rw[Nat.beq_refl]at q;cases q
    simp only[Yi,lk,q,cond_false];rcases p xs g (b+1)with h|h|⟨k,i⟩
    .exact .inl (next xs h x)
    .exact .inr (.inl h)
    .exact .inr (.inr ⟨by rw[List.contains_cons,k];simpa using f,i⟩)
section
variable {P:Program}{T:TyX}{h0 N m:Nat}{l:List Oper}{ds:List Nat}{env:Env}{H:Qc}{Q:QC}{K:List Oper->Env->Qc->Prop}
def DS(P:Program)(N m:Nat)(l:List Oper)(ds:List Nat)(env:Env)(H:Qc)(K:List Oper->Env->Qc->Prop)(r:List Oper)(xs:List A):Prop:=
 r=l.drop xs.length->∃ys,xs.length+ys.length=m/\(∀j,xs.length<=j->j<m->Jo P N l ds (xs++ys) env H.length H.length j H H)/\K (l.drop m) (Qar ds (xs++ys) env) H
theorem oqOf{xs:List A}:∀(c i:Nat),(∀j,i<=j->j<i+c->Jo P N l ds xs env H.length H.length j H H)->Oq P N l ds xs env H i c
 |0,i,_=>.n
 |c+1,i,h=>.c (h i (X0 _) (by omega)) (oqOf c (i+1) λj h1 h2=>h j (by omega) (by omega))
theorem QmQ{id:Nat}{k:List Kf}(m:Nat)(g:P.follows .mixedOrders=true)(n:Go.Sw.draw0 l m N (Qal m 0 l)=true)(a:Nat.ble h0 H.length=true)
  (h:DS P N m l (Qal m 0 l) env H (λr e H=>WO P h0 N l.toArray r e H Q) l []):TC P h0 N (.region id l.toArray true) env H Q:=by
 obtain⟨i,f,d,b⟩:=h rfl;simp only[List.length_nil,XB,Vp]at f d b;exact TC.draw0 m _ i g n (by rw[f];exact Nat.beq_refl m) a (oqOf m 0 λj _ q=>d j (X2 _) (by omega)) b
theorem QkK{T':Type}{X:Ctx T'}{i:YSt T'}{QY:Yq T'}{id:Nat}(m:Nat)(p:P.follows .mixedOrders=true)(t:Go.Sw.draw0 l m N (Qal m 0 l)=true)(b:Nat.ble h0 H.length=true)
  (h:DS P N m l (Qal m 0 l) env H (λr e H=>WOy X P h0 N l.toArray r e H i QY) l []):TCy X P h0 N (.region id l.toArray true) env H i QY:=by
 obtain⟨s,k,f,n⟩:=h rfl;simp only[List.length_nil,XB,Vp]at k f n;intro d u x y σ a w g r hj hrd;refine Qck m _ s p t (by rw[k];exact Nat.beq_refl m) b (oqOf m 0 λj _ q=>f j (X2 _) (by omega)) r (hrd▸QbM) λro' σ' a' w' hr hev htk hdf=>?_;have:=n d u x ro' σ' a' w' g hr ⟨d.ev hj.1 (hev.frMono hj.2.sub),by rw[hdf];exact hj.2⟩ hrd;refine Yn (λe z B q=>?_) _ _ _ this;exact q.grow hev.sub hev.size htk (by rw[hdf];exact Grow.refl _ _ _)
theorem DS.done{xs:List A}{r:List Oper}(b:Nat.beq xs.length m=true)(h:K r (Qar ds xs env) H):DS P N m l ds env H K r xs:=by
 intro a;have e:=XX b;subst a;refine⟨[],by simpa using e,λj d f=>by omega,?_⟩;rw[<- e,Vo];exact h
theorem DS.add{xs:List A}{o:Oper}{r:List Oper}{x:A}(i:Nat.blt xs.length m=true)(f:∀ys,l[xs.length]?=some o->Jo P N l ds (xs++x::ys) env H.length H.length xs.length H H)(k:DS P N m l ds env H K r (xs++[x])):DS P N m l ds env H K (o::r) xs:=by
 intro b;have a:xs.length<l.length:=by
  rcases Nat.lt_or_ge xs.length l.length with q|q
  .exact q
  .rw[List.drop_eq_nil_of_le q]at b;cases b
 rw[Xs a]at b;cases b;obtain⟨ys,g,d,e⟩:=k (by simp);simp only[Va,X8,List.length_nil,Vq,List.cons_append,Vp]at g d e;refine⟨x::ys,by simp only[X8];omega,λj n h=>?_,e⟩;rcases Nat.lt_or_ge xs.length j with q|q
 .exact d j (by omega) h
 .obtain rfl:j=xs.length:=by omega
  exact f ys (XR a)
theorem Qhb{xs a:List A}{x:A}:(xs++x::a)[xs.length]?=some x:=by simp
theorem DS.wo{xs:List A}{o:Oper}{r:List Oper}{x:A}{d:Nat}(h:WO P H.length N l.toArray [o] (Yi (Qh o) 0 ds xs env) H (YU (up (Yi (Qh o) 0 ds xs env) d x) H))(k:DS P N m l ds env H K r (xs++[x]))
  (f:o.dst=some d:=by exact rfl)(hx:Nat.blt xs.length m=true:=by exact rfl):DS P N m l ds env H K (o::r) xs:=
 .add hx (λb g=>.woE o _ d x g f Qhb (he:=by
  intro s;rcases Qjk (af:=Qh o) (env0:=env) (s:=s) ds xs (x::b) 0 with⟨j,y,a,n,i,e⟩|q|q
  .rw[XB]at a;exact .inl ⟨j,y,a,n,i,e⟩
  .exact .inr (.inl q)
  .exact .inr (.inr q)) (hdd:=Qdq H) (h:=h)) k
theorem DS.v{xs:List A}{o:Oper}{r:List Oper}{x:A}{d:Nat}(h:OpV P o (Yi (Qh o) 0 ds xs env) H x)(k:DS P N m l ds env H K r (xs++[x]))(hg:Qx l.toArray o (Yi (Qh o) 0 ds xs env) true:=by exact rfl)
  (hd:o.dst=some d:=by exact rfl)(hN:Nat.blt d N=true:=by exact rfl)(hx:Nat.blt xs.length m=true:=by exact rfl):DS P N m l ds env H K (o::r) xs:=
 .wo (QH hg hd hN h (WO.nil YU.mk)) k hd hx
def Qcz:List A->A->FL
 |[],x=>.mk [x]
 |a::r,x=>match Qcz r x with
  |.mk r'=>.mk (a::r')
theorem Y7:∀(l:List A) (x:A),Qcz l x=.mk (l++[x])
 |[],x=>rfl
 |a::r,x=>by unfold Qcz;rw[Y7 r];rfl
def QgR(T:TyX)(N m:Nat)(l:List Oper)(ds:List Nat)(env:Env)(H:Qc):Nat->Nat->List Oper->List A->Option (List Oper×List A)
 |0,_,r,xs=>some (r,xs)
 |_+1,_,[],_=>none
 |n+1,i,o::r,xs=>match Nat.blt i m with
  |false=>none
  |true=>match o.dst with
   |none=>none
   |some d=>match Nat.blt d N with
    |false=>none
    |true=>match Y1 ⟨l⟩ o (Yi (Qh o) 0 ds xs env)with
     |none=>none
     |some false=>match Qcz xs (.tup [])with
      |.mk xs'=>QgR T N m l ds env H n (i+1) r xs'
     |some true=>match QcT T o (Yi (Qh o) 0 ds xs env) H with
      |none=>none
      |some x=>match Qcz xs x with
       |.mk xs'=>QgR T N m l ds env H n (i+1) r xs'
theorem Qd4(hT:Qbo P T):∀(n i:Nat) {r r':List Oper}{xs xs':List A},i=xs.length->QgR T N m l ds env H n i r xs=some (r',xs')->DS P N m l ds env H K r' xs'->DS P N m l ds env H K r xs
 |0,i,r,r',xs,xs',_,h,k=>by cases h;exact k
 |n+1,i,[],r',xs,xs',_,h,k=>by cases h
 |n+1,i,o::r,r',xs,xs',hi,h,k=>by
  subst hi;unfold QgR at h;split at h
  .cases h
  .rename_i q1;split at h
   .cases h
   .rename_i d hd;split at h
    .cases h
    .rename_i q2;split at h
     .cases h
     .rename_i hw;simp only[Y7]at h;exact .wo (WO.skip (QP hw) hd q2 (WO.nil YU.mk)) (Qd4 hT n _ (by simp) h k) hd q1
     .rename_i hw;split at h
      .cases h
      .rename_i x hv;simp only[Y7]at h;exact .v (Qas hT hv) (Qd4 hT n _ (by simp) h k) (QP hw) hd q2 q1
def Qk1:List A->Nat->A->FL
 |[],_,_=>.mk []
 |_::r,0,x=>.mk (x::r)
 |a::r,n+1,x=>match Qk1 r n x with
  |.mk r'=>.mk (a::r')
theorem QcU:∀{l:List A}{n:Nat}{x:A},YO l n=some x->Qk1 l n x=.mk l
 |[],n,x,h=>by cases h
 |a::r,0,x,h=>by cases h;rfl
 |a::r,n+1,x,h=>by unfold Qk1;rw[QcU (l:=r) (n:=n) h]
theorem Yr{α:Type}{b:Bool}{x y:Option α}{v:α}{xs i d:List A}{r:List Oper}(j:Nat)(h:(bif b then x else y)=some v)(g:YO xs j=some (.bool b))(a:Qk1 xs j (.bool true)=.mk i)(f:Qk1 xs j (.bool false)=.mk d)
  (t:b=true->x=some v->DS P N m l ds env H K r i)(e:b=false->y=some v->DS P N m l ds env H K r d):DS P N m l ds env H K r xs:=by
 cases b with
 |true=>rw[QcU g]at a;cases a;exact t rfl h
 |false=>rw[QcU g]at f;cases f;exact e rfl h
end
end Go.Sw
namespace Go.Sw
@[reducible] def RQ{β:Type}(w:β->A)(Hc:β->Qc)(r:β):A->Qc->Prop:=λa H=>a=w r/\H=Hc r
@[reducible] def Csm{β:Type}(P:Program)(f:FuncId)(args:List A)(H:Qc)(w:β->A)(r:β):Prop:=C P f args H (RQ w (λ_=>H) r)
structure TyZ where
 sl:List (Nat×Nat×Nat)
 fn:List Nat
structure QcB (P:Program) (Z:TyZ):Prop where
 sl:∀e∈Z.sl,(∀w,(underlying e.1).run P w=.ok (.slice e.2.1) w)/\ ∀w,(sizeOf e.2.1).run P w=.ok e.2.2 w
 fn:∀f∈Z.fn,∀(a:Array Value) (w:World),(callFunc f a).run P w=.ok (.enter f a) w
section
variable {P:Program}{Z:TyZ}{h0 N:Nat}{all:Array Oper}{o:Oper}{l:List Oper}{env:Env}{H:Qc}{Q:QC}{d:Nat}
theorem Izz(b:QcB P Z){α:Type}{e:α->List A}{t et k:Nat}{L:List α}{f:IntKind}{i:Int}{v:α}(h:idx L i=some v)(q:ixB o env=some (d,t,k,L.map e,f,i))(g:WO P h0 N all l (up env d (.rp (e v))) H Q)
  (a:QbP Z.sl t=some (et,k))(hg:Y1 all o env=some true)(j:Nat.blt d N=true):WO P h0 N all (o::l) env H Q:=by
 obtain⟨n,m⟩:=b.sl _ (Qat a);exact Ix h n m q g (QP hg) j
theorem Ize(b:QcB P Z){α:Type}{e:α->List A}{t et k:Nat}{L:List α}{j:IntKind}{i:Int}{v:α}{cs:List A}(h:idx L i=some v)(he:e v=cs)(q:ixB o env=some (d,t,k,L.map e,j,i))(g:WO P h0 N all l (up env d (.rp cs)) H Q)
  (a:QbP Z.sl t=some (et,k))(hg:Y1 all o env=some true)(f:Nat.blt d N=true):WO P h0 N all (o::l) env H Q:=by
 subst he;exact Izz b h q g a hg f
theorem Lmz(b:QcB P Z){α:Type}{e:α->List A}{t et k f:Nat}{L:List α}(q:lnB o env=some (d,t,.mk (.rsl k (L.map e))))(g:WO P h0 N all l (up env d (.int .i64 L.length)) H Q)
  (a:QbP Z.sl t=some (et,f))(hg:Y1 all o env=some true)(h:Nat.blt d N=true):WO P h0 N all (o::l) env H Q:=by
 obtain⟨i,j⟩:=b.sl _ (Qat a);exact LnM i q g (QP hg) h
def Qe9(Z:TyZ)(o:Oper)(env:Env):Option (Nat×Nat×List A):=
 match o.dst with
 |none=>none
 |some d=>match o.op with
  |.call {callee:=.value (.func f),args:=⟨xs⟩,argTypes:=_}=>bif Qc3 Z.fn f then(match fl (Qg1 env xs)with|.mk ax=>some (d,f,ax))else none
  |.call {callee:=.value (.tmp x),args:=⟨xs⟩,argTypes:=_}=>match opB env (.tmp x)with
   |.mk (.fn (.func f) vf vc)=>bif Qc3 Z.fn f then(match fl (vf++(Qg1 env xs++vc))with|.mk ax=>some (d,f,ax))else none
   |_=>none
  |_=>none
theorem QdI(g:QcB P Z){f:Nat}{args:List A}(h:Qe9 Z o env=some (d,f,args)):o.dst=some d/\OpC P o env H f args:=by
 unfold Qe9 at h;split at h
 .cases h
 .rename_i m e;split at h
  .rename_i a xs j b;cases q:Qc3 Z.fn a with
   |false=>rw[q]at h;cases h
   |true=>
    rw[q]at h;simp only[QbU,cond_true]at h;cases h;exact⟨e,OpC.fn (xs:=xs) (g.fn _ (Qf7 q)) b rfl (Qcq xs).symm⟩
  .rename_i x xs j b;split at h
   .rename_i a k l i;cases q:Qc3 Z.fn a with
    |false=>rw[q]at h;cases h
    |true=>
     rw[q]at h;simp only[QbU,cond_true]at h;cases h;exact⟨e,Qgx (xs:=xs) (g.fn _ (Qf7 q)) b rfl (QB i) (by rw[Qcq])⟩
   .cases h
  .cases h
theorem Czz(q:QcB P Z){β γ:Type}{F:Option β}{F':β->Option γ}{r:γ}{f:Nat}{args a:List A}{Hc:Qc}{w:β->A}(π:List Nat)(h:F.bind F'=some r)(s:∀v,F=some v->C P f a Hc (RQ w (λ_=>Hc) v))
  (b:Qe9 Z o env=some (d,f,args))(g:∀v,F=some v->F' v=some r->WO P h0 N all l (up env d (w v)) H Q)(u:∀v,Qh3 (w v)=some (.mk (w v)))
  (hargs:args=Qaa (rho π H.length) a)(i:π.map (λp=>H[p]?)=(Hc.map (QZ (rho π H.length))).map some)(hπ:π.Nodup)(hg:Y1 all o env=some true)(k:Nat.blt d N=true)(j:Nat.ble h0 H.length=true):WO P h0 N all (o::l) env H Q:=by
 obtain⟨v,e,m⟩:=YP h;obtain⟨n,t⟩:=QdI (H:=H) q b;exact Pc π n t (s v e) (u v) (g v e m) hargs i hπ (QP hg) k j
theorem DzZ(t:QcB P Z){K:List Oper->Env->Qc->Prop}{m:Nat}{i:List Oper}{b:List Nat}{xs:List A}{β γ:Type}{F:Option β}{F':β->Option γ}{r:γ}{f:Nat}{args a:List A}{Hc:Qc}{w:β->A}(π:List Nat)(h:F.bind F'=some r)(u:∀v,F=some v->C P f a Hc (RQ w (λ_=>Hc) v))
  (e:Qe9 Z o (Yi (Qh o) 0 b xs env)=some (d,f,args))(g:∀v,F=some v->F' v=some r->DS P N m i b env H K l (xs++[w v]))(z:∀v,Qh3 (w v)=some (.mk (w v)))
  (hargs:args=Qaa (rho π H.length) a)(n:π.map (λp=>H[p]?)=(Hc.map (QZ (rho π H.length))).map some)(hπ:π.Nodup)(hg:Y1 i.toArray o (Yi (Qh o) 0 b xs env)=some true)(y:Nat.blt d N=true)(s:Nat.blt xs.length m=true):DS P N m i b env H K (o::l) xs:=by
 obtain⟨v,j,q⟩:=YP h;obtain⟨k,x⟩:=QdI (H:=H) t e;exact .wo (Pc π k x (u v j) (z v) (WO.nil YU.mk) hargs n hπ (QP hg) y (XZ (X0 _))) (g v j q) k s
theorem ln:Qa3 H [] []:=trivial
theorem ls{ax b:List A}{a:A}(k:Qa3 H ax b)(h:Ye a=true:=by exact rfl):Qa3 H (a::ax) (a::b):=⟨.inl ⟨rfl,h⟩,k⟩
theorem lo{ax a:List A}{i n k t:Nat}{es:List (List A)}(d:Qa3 H ax a)(b:H[i]?=some (.row t k es):=by exact rfl)(hn:es.length=n:=by exact X9 ..):Qa3 H (.osl i 0 n k::ax) (.rsl k es::a):=
 ⟨.inr ⟨_,_,_,_,_,rfl,b,hn,rfl⟩,d⟩
theorem Cbz(n:QcB P Z){β γ:Type}{F:Option β}{F':β->Option γ}{r:γ}{f:Nat}{args a:List A}{w:β->A}(h:F.bind F'=some r)(p:∀v,F=some v->C P f a [] (RQ w (λ_=>[]) v))
  (b:Qe9 Z o env=some (d,f,args))(i:Qa3 H args a)(g:∀v,F=some v->F' v=some r->WO P h0 N all l (up env d (w v)) H Q)(s:∀v,Yb (w v)=true)
  (hg:Y1 all o env=some true)(j:Nat.blt d N=true):WO P h0 N all (o::l) env H Q:=by
 obtain⟨v,e,k⟩:=YP h;obtain⟨m,q⟩:=QdI (H:=H) n b;refine QcA q i (p v e) ?_ ?_ (QP hg) m j
 .rintro _ _ ⟨rfl,rfl⟩;exact s v
 .rintro _ _ ⟨rfl,rfl⟩;exact g v e k
end
def ixL:List Nat:=[0,1,2,3,4,5,6,7,8,9,10,11,12,13,14,15,16,17,18,19,20,21,22,23,24,25,26,27,28,29,30,31,32,33,34,35,36,37,38,39,40,41,42,43,44,45,46,47,48,49,50,51,52,53,54,55,56,57,58,59,60,61,62,63]
def QjL:List Nat->List Nat->Nat->FN
 |a::r,b::s,j=>bif Nat.beq a j then .mk b else QjL r s j
 |_,_,j=>.mk j
mutual
def cpA(sel:List Nat):A->Bx
 |.ptr i off=>match QjL sel ixL i with
  |.mk j=>.mk (.ptr j off)
 |.osl i o n k=>match QjL sel ixL i with
  |.mk j=>.mk (.osl j o n k)
 |.map i=>match QjL sel ixL i with
  |.mk j=>.mk (.map j)
 |.fn f a c=>match cpL sel a,cpL sel c with
  |.mk a',.mk c'=>.mk (.fn f a' c')
 |a=>.mk a
def cpL(sel:List Nat):List A->FL
 |[]=>.mk []
 |a::r=>match cpA sel a,cpL sel r with
  |.mk a',.mk r'=>.mk (a'::r')
end
inductive FV where
 |mk (e:Env)
def QlJ(sel:List Nat)(env:Env):List Nat->Env->FV
 |[],nE=>.mk nE
 |s::r,nE=>match lkB env s with
  |.mk a=>match cpA sel a,QlJ sel env r nE with
   |.mk a',.mk e=>.mk ((s,a')::e)
def selH(H:Qc):List Nat->List Nat->List (Nat×Blk)->FB
 |a::r,p::ps,[]=>match YO H a,selH H r ps []with
  |some b,.mk l=>.mk (b::l)
  |none,.mk l=>.mk l
 |a::r,p::ps,(q,b)::n=>bif Nat.beq p q then(match selH H r ps n with|.mk l=>.mk (b::l))else(match YO H a,selH H r ps ((q,b)::n)with
  |some b,.mk l=>.mk (b::l)
  |none,.mk l=>.mk l)
 |_,_,_=>.mk []
def Qmm(sel keep:List Nat)(nE:Env)(nH:List (Nat×Blk))(env:Env)(H:Qc):Option (Env×Qc):=
 match QlJ sel env keep nE,selH H sel ixL nH with
 |.mk e,.mk h=>some (e,h)
section
variable {P:Program}{h0 N:Nat}{c:Code}{env:Env}{H:Qc}{Q:QC}
def CutQ{β:Type}(h0:Nat)(b:β)(E':β->Env)(H':β->Qc)(Q:QC):QC
 |.normal,env,H=>Le h0 env H (E' b) (H' b)
 |.exit id,env,H=>Q (.exit id) env H
 |.ret,env,H=>Q .ret env H
theorem Q1{h0:Nat}{env:Env}{H:Qc}{Q:QC}{β:Type}{b:β}{E':β->Env}{H':β->Qc}(h:Le h0 env H (E' b) (H' b)):CutQ h0 b E' H' Q .normal env H:=h
theorem Ct{β:Type}{E':β->Env}{H':β->Qc}(b:β)(sel keep:List Nat)(nE:β->Env)(nH:β->List (Nat×Blk))(_:∀b,Qmm sel keep (nE b) (nH b) env H=some (E' b,H' b))(h:TC P h0 N c env H (CutQ h0 b E' H' Q))(k:∀env H,Le h0 env H (E' b) (H' b)->Q .normal env H):TC P h0 N c env H Q:=
 h.mono λx env' H' q=>by
  cases x with
  |normal=>exact k _ _ q
  |exit id=>exact q
  |ret=>exact q
theorem Ja{S B:Type}{b:Ctl S B}{E':S->Env}{H':S->Qc}(sel keep:List Nat)(nE:S->Env)(nH:S->List (Nat×Blk))(_:∀s,Qmm sel keep (nE s) (nH s) env H=some (E' s,H' s))(h:TC P h0 N c env H (QjD h0 b E' H' Q))(k:∀s env H,b=.cont s->Le h0 env H (E' s) (H' s)->Q .normal env H):TC P h0 N c env H Q:=Qjw E' H' h k
theorem Lp{S B:Type}{step:S->Option (Ctl S B)}{E':S->Env}{H':S->Qc}{m:Nat}{s0:S}{b0:B}(sel keep:List Nat)(nE:S->Env)(nH:S->List (Nat×Blk))(h:iter step m s0=some b0)(_:∀s,Qmm sel keep (nE s) (nH s) env H=some (E' s,H' s))(hI:Le h0 env H (E' s0) (H' s0))
  (body:∀s d,step s=some d->(∀b,d=.done b->b=b0)->TC P h0 N c (E' s) (H' s) (Qa2 (λs env H=>Le h0 env H (E' s) (H' s)) d Q)):TC P h0 N (.loop c) env H Q:=TC.loop E' H' h hI body
end
theorem Oj{S B:Type}{d:Ctl S B}{x b0:B}(hb:∀b,d=.done b->b=b0)(h:some (Ctl.done x)=some d):x=b0:=hb x (Oi h).symm
theorem Rt{P:Program}{h0:Nat}{fn:Func}{env:Env}{H:Qc}{β:Type}{e r:β}{w:β->A}{Hc:β->Qc}(h:some e=some r)(s:Nat)(π:List Nat)(a:fn.results= #[.tmp s]:=by exact rfl)(hpre:π.take h0=List.range h0:=by exact rfl)
  (hH:π.map (λp=>H[p]?)=((Hc e).map (QZ (rho π H.length))).map some:=by exact rfl)(hπ:π.Nodup:=by decide)(hE:Qe4 (rho π H.length) env [(s,w e)]:=by exact⟨rfl,trivial⟩):QcG P h0 fn (RQ w Hc r) .ret env H:=by
 cases h;exact R1 s a (Lr π hpre hH hπ hE)
theorem Cl{h0:Nat}{env:Env}{H:Qc}{Q:QC}{β:Type}{e b:β}{E':β->Env}{H':β->Qc}(h:some e=some b)(π:List Nat)(a:π.take h0=List.range h0:=by exact rfl)
  (hH:π.map (λp=>H[p]?)=((H' e).map (QZ (rho π H.length))).map some:=by exact rfl)(hπ:π.Nodup:=by decide)(hE:Qe4 (rho π H.length) env (E' e):=by(repeat' (first|exact trivial|refine⟨rfl,?_⟩))):CutQ h0 b E' H' Q .normal env H:=by
 cases h;exact Lr π a hH hπ hE
end Go.Sw
namespace Go.Sw
def plC(cat:List Nat):List (List (Nat×Nat)):=cat.map λc=>match c with|0=>[(0,0)]|1=>[(0,1)]|2=>[(1,1)]|_=>[(0,0),(1,1)]
def rqC(b:Nat)(cat:List Nat):List (List Nat):=cat.map λc=>match c with|2=>[b]|_=>[]
def hsC(cat:List Nat):List Bool:=cat.map λc=>match c with|1=>true|_=>false
section
variable {P:Program}{T:TyX}{h0 N m b:Nat}{cat:List Nat}{l:List Oper}{ds:List Nat}{env:Env}{H H1:Qc}{Q:QC}{K:List Oper->Env->Qc->Prop}
theorem Qgy{P:Program}{N:Nat}{l:List Oper}{ds:List Nat}{xs:List A}{env0:Env}{hB hE:Nat}:∀(ss:List (List (Qc×Qc))) (b:Nat),(∀i s,ss[i]?=some s->∀p∈s,Jo P N l ds xs env0 hB hE (b+i) p.1 p.2)->Qgz P N l ds xs env0 hB hE b ss
 |[],b,h=>.nil
 |s::ss,b,h=>.cons (h 0 s rfl) (Qgy ss (b+1) λi s' hs=>by rw[show b+1+i=b+(i+1)by omega];exact h (i+1) s' hs)
def Dob(P:Program)(N:Nat)(cat:List Nat)(l:List Oper)(ds:List Nat)(env:Env)(H H1:Qc)(zs:List A)(j:Nat):Prop:=
 ∀p∈(plC cat).getD j [],Jo P N l ds zs env H.length H.length j ([H,H1].getD p.1 []) ([H,H1].getD p.2 [])
def DB(P:Program)(N m:Nat)(cat:List Nat)(l:List Oper)(ds:List Nat)(env:Env)(H H1:Qc)(K:List Oper->Env->Qc->Prop)(r:List Oper)(xs:List A):Prop:=
 r=l.drop xs.length->∃ys,xs.length+ys.length=m/\(∀j,xs.length<=j->j<m->Dob P N cat l ds env H H1 (xs++ys) j)/\K (l.drop m) (Qar ds (xs++ys) env) H1
def DA(P:Program)(N m:Nat)(cat:List Nat)(l:List Oper)(ds:List Nat)(env:Env)(H:Qc)(K:List Oper->Env->Qc->Prop)(r:List Oper)(xs:List A):Prop:=
 r=l.drop xs.length->∃ys H1,xs.length+ys.length=m/\H.length<=H1.length/\(∀j,xs.length<=j->j<m->Dob P N cat l ds env H H1 (xs++ys) j)/\K (l.drop m) (Qar ds (xs++ys) env) H1
theorem Qo8{f:List A}(a:cat.length=m)(n:∀j,0<=j->j<m->Dob P N cat l ds env H H1 f j):Qgz P N l ds f env H.length (H.length+0) 0 ((plC cat).map λq=>q.map λp=>([H,H1].getD p.1 [],[H,H1].getD p.2 [])):=by
 refine Qgy _ 0 λi s b p h=>?_;rw[Xr]at b;cases e:(plC cat)[i]? with
 |none=>rw[e]at b;cases b
 |some q=>
  rw[e]at b;cases b;obtain⟨g,d,rfl⟩:=Xf.1 h;have k:i<m:=by
   have:=(XS.1 e).1;simpa[plC,a]using this
  have:=n i (X2 _) k g (by rw[Qja e];exact d);simpa using this
theorem DA.len(a:H.length<=H1.length):[H,H1].all (λX=>Nat.ble (H.length+0) X.length)=true:=by
 simp only[List.all_cons,List.all_nil,Bool.and_true,XC,X4];exact⟨XZ (X0 _),XZ a⟩
theorem QmS{id:Nat}(m b:Nat)(cat:List Nat)(k:P.follows .mixedOrders=true)(p:Qdp l m N (Qal m 0 l) (hsC cat) (rqC b cat) [[],[b]] (plC cat)=true)(f:Nat.beq cat.length m=true)(d:Nat.ble h0 H.length=true)
  (h:DA P N m cat l (Qal m 0 l) env H (λr e H=>WO P h0 N l.toArray r e H Q) l []):TC P h0 N (.region id l.toArray true) env H Q:=by
 obtain⟨n,H1,i,q,j,g⟩:=h rfl;simp only[List.length_nil,XB,Vp]at i j g;have a:=XX f;exact QaE m 0 _ _ _ _ _ n [H,H1] H1 k p (by rw[i];exact Nat.beq_refl m) rfl d (DA.len q) (by simp) rfl (Qo8 a j) (by simp[plC,a]) g
theorem QaZ{xs:List A}{o:Oper}{r:List Oper}(b:o::r=l.drop xs.length):l[xs.length]?=some o/\r=l.drop (xs.length+1):=by
 have a:xs.length<l.length:=by
  rcases Nat.lt_or_ge xs.length l.length with q|q
  .exact q
  .rw[List.drop_eq_nil_of_le q]at b;cases b
 rw[Xs a]at b;cases b;exact⟨XR a,rfl⟩
theorem QgE{zs:List A}{j c:Nat}(b:YO cat j=some c)(h:∀p∈(match c with|0=>[(0,0)]|1=>[(0,1)]|2=>[(1,1)]|_=>[(0,0),(1,1)]:List (Nat×Nat)),Jo P N l ds zs env H.length H.length j ([H,H1].getD p.1 []) ([H,H1].getD p.2 [])):Dob P N cat l ds env H H1 zs j:=by
 intro p a;rw[Qax]at b;unfold plC at a;rw[List.getD_eq_getElem?_getD,Xr,b]at a;exact h p a
theorem Qaw{hB hE:Nat}{xs b:List A}{o:Oper}{x:A}{d:Nat}{X X':Qc}(f:l[xs.length]?=some o)(hdd:Qap hB hE X X'=true)(h:WO P X.length N l.toArray [o] (Yi (Qh o) 0 ds xs env) X (YU (up (Yi (Qh o) 0 ds xs env) d x) X'))(k:o.dst=some d):
  Jo P N l ds (xs++x::b) env hB hE xs.length X X':=
 .woE o _ d x f k Qhb (he:=by
  intro s;rcases Qjk (af:=Qh o) (env0:=env) (s:=s) ds xs (x::b) 0 with⟨j,y,a,i,g,e⟩|q|q
  .rw[XB]at a;exact .inl ⟨j,y,a,i,g,e⟩
  .exact .inr (.inl q)
  .exact .inr (.inr q)) (hdd:=hdd) (h:=h)
theorem YY{n:Nat}{X X':Qc}:Qap n n X X'=true:=by unfold Qap;rw[Nat.sub_self];rfl
theorem DA.wo{xs:List A}{o:Oper}{r:List Oper}{x:A}{d:Nat}(h:WO P H.length N l.toArray [o] (Yi (Qh o) 0 ds xs env) H (YU (up (Yi (Qh o) 0 ds xs env) d x) H))(k:DA P N m cat l ds env H K r (xs++[x]))
  (i:YO cat xs.length=some 0:=by exact rfl)(hd:o.dst=some d:=by exact rfl)(hx:Nat.blt xs.length m=true:=by exact rfl):DA P N m cat l ds env H K (o::r) xs:=by
 intro g;obtain⟨u,a⟩:=QaZ g;obtain⟨f,H1,s,n,e,b⟩:=k (by simpa using a);simp only[Va,X8,List.length_nil,Vq,List.cons_append,Vp]at s e b;refine⟨x::f,H1,by simp only[X8];omega,n,λj y w=>?_,b⟩;rcases Nat.lt_or_ge xs.length j with q|q
 .exact e j (by omega) w
 .obtain rfl:j=xs.length:=by omega
  refine QgE i λp t=>?_;obtain rfl:=List.mem_singleton.1 t;exact Qaw u YY h hd
theorem DA.op{xs:List A}{o:Oper}{r:List Oper}{x:A}{d:Nat}(h:WO P H.length N l.toArray [o] (Yi (Qh o) 0 ds xs env) H (YU (up (Yi (Qh o) 0 ds xs env) d x) H1))(k:DB P N m cat l ds env H H1 K r (xs++[x]))(f:Nat.ble H.length H1.length=true:=by exact rfl)
  (hc:YO cat xs.length=some 1:=by exact rfl)(hd:o.dst=some d:=by exact rfl)(hx:Nat.blt xs.length m=true:=by exact rfl):DA P N m cat l ds env H K (o::r) xs:=by
 intro i;obtain⟨t,a⟩:=QaZ i;obtain⟨g,n,e,b⟩:=k (by simpa using a);simp only[Va,X8,List.length_nil,Vq,List.cons_append,Vp]at n e b;refine⟨x::g,H1,by simp only[X8];omega,XY f,λj w u=>?_,b⟩;rcases Nat.lt_or_ge xs.length j with q|q
 .exact e j (by omega) u
 .obtain rfl:j=xs.length:=by omega
  refine QgE hc λp s=>?_;obtain rfl:=List.mem_singleton.1 s;exact Qaw t YY h hd
theorem DB.done{xs:List A}{r:List Oper}(b:Nat.beq xs.length m=true)(h:K r (Qar ds xs env) H1):DB P N m cat l ds env H H1 K r xs:=by
 intro a;have e:=XX b;subst a;refine⟨[],by simpa using e,λj d f=>by omega,?_⟩;rw[<- e,Vo];exact h
theorem DB.add{xs:List A}{o:Oper}{r:List Oper}{x:A}(e:∀ys,l[xs.length]?=some o->Dob P N cat l ds env H H1 (xs++x::ys) xs.length)(k:DB P N m cat l ds env H H1 K r (xs++[x])):DB P N m cat l ds env H H1 K (o::r) xs:=by
 intro f;obtain⟨h,a⟩:=QaZ f;obtain⟨ys,g,d,b⟩:=k (by simpa using a);simp only[Va,X8,List.length_nil,Vq,List.cons_append,Vp]at g d b;refine⟨x::ys,by simp only[X8];omega,λj n i=>?_,b⟩;rcases Nat.lt_or_ge xs.length j with q|q
 .exact d j (by omega) i
 .obtain rfl:j=xs.length:=by omega
  exact e ys h
theorem DB.wo1{xs:List A}{o:Oper}{r:List Oper}{x:A}{d:Nat}(h:WO P H1.length N l.toArray [o] (Yi (Qh o) 0 ds xs env) H1 (YU (up (Yi (Qh o) 0 ds xs env) d x) H1))(k:DB P N m cat l ds env H H1 K r (xs++[x]))
  (a:YO cat xs.length=some 2:=by exact rfl)(hd:o.dst=some d:=by exact rfl):DB P N m cat l ds env H H1 K (o::r) xs:=
 .add (λf b=>QgE a λp e=>by
  obtain rfl:=List.mem_singleton.1 e;exact Qaw b YY h hd) k
theorem DB.wo2{xs:List A}{o:Oper}{r:List Oper}{x:A}{d:Nat}(h:WO P H.length N l.toArray [o] (Yi (Qh o) 0 ds xs env) H (YU (up (Yi (Qh o) 0 ds xs env) d x) H))(f:WO P H1.length N l.toArray [o] (Yi (Qh o) 0 ds xs env) H1 (YU (up (Yi (Qh o) 0 ds xs env) d x) H1))(k:DB P N m cat l ds env H H1 K r (xs++[x]))
  (e:YO cat xs.length=some 3:=by exact rfl)(hd:o.dst=some d:=by exact rfl):DB P N m cat l ds env H H1 K (o::r) xs:=
 .add (λg b=>QgE e λp a=>by
  rcases Ve.1 a with rfl|a
  .exact Qaw b YY h hd
  .obtain rfl:=List.mem_singleton.1 a;exact Qaw b YY f hd) k
def QgS(T:TyX)(N m:Nat)(cat:List Nat)(l:List Oper)(ds:List Nat)(env:Env)(H:Qc):Nat->Nat->List Oper->List A->Option (List Oper×List A)
 |0,_,r,xs=>some (r,xs)
 |_+1,_,[],_=>none
 |n+1,i,o::r,xs=>match Nat.blt i m,YO cat i with
  |true,some 0=>match o.dst with
   |none=>none
   |some d=>match Nat.blt d N with
    |false=>none
    |true=>match Y1 ⟨l⟩ o (Yi (Qh o) 0 ds xs env)with
     |none=>none
     |some false=>match Qcz xs (.tup [])with
      |.mk xs'=>QgS T N m cat l ds env H n (i+1) r xs'
     |some true=>match QcT T o (Yi (Qh o) 0 ds xs env) H with
      |none=>none
      |some x=>match Qcz xs x with
       |.mk xs'=>QgS T N m cat l ds env H n (i+1) r xs'
  |_,_=>none
theorem Qd7(hT:Qbo P T):∀(n i:Nat) {r r':List Oper}{xs xs':List A},i=xs.length->QgS T N m cat l ds env H n i r xs=some (r',xs')->DA P N m cat l ds env H K r' xs'->DA P N m cat l ds env H K r xs
 |0,i,r,r',xs,xs',_,h,k=>by cases h;exact k
 |n+1,i,[],r',xs,xs',_,h,k=>by cases h
 |n+1,i,o::r,r',xs,xs',hi,h,k=>by
  subst hi;unfold QgS at h;split at h
  .rename_i q1 q0;split at h
   .cases h
   .rename_i d hd;split at h
    .cases h
    .rename_i q2;split at h
     .cases h
     .rename_i hw;simp only[Y7]at h;exact .wo (WO.skip (QP hw) hd q2 (WO.nil YU.mk)) (Qd7 hT n _ (by simp) h k) q0 hd q1
     .rename_i hw;split at h
      .cases h
      .rename_i x hv;simp only[Y7]at h;exact .wo (QH (QP hw) hd q2 (Qas hT hv) (WO.nil YU.mk)) (Qd7 hT n _ (by simp) h k) q0 hd q1
  .cases h
theorem Qm4{H:Qc}{p:Bx}{r:Lx}(h:ptX [] p=some r):ptX H p=some r:=by
 unfold ptX at h⊢;split at h
 .exact h
 .rename_i i a;simp only[YO]at h;cases h
 .cases h
theorem QdS{o:Oper}{e:Env}{H:Qc}{x:A}(h:QcT T o e []=some x):QcT T o e H=some x:=by
 unfold QcT at h⊢;split at h<;>first|exact h|skip
 rename_i t y g;split at h
 .cases h
 .rename_i b n f;split at h
  .exact h
  .rename_i d;cases q:ptX [] (opB e y)with
   |none=>rw[q]at h;cases h
   |some r=>
    rw[q]at h;have a:=Qm4 (H:=H) q;simp only[a];exact h
def Qd6(T:TyX)(N:Nat)(cat:List Nat)(l:List Oper)(ds:List Nat)(env:Env)(H1:Qc):Nat->Nat->List Oper->List A->Option (List Oper×List A)
 |0,_,r,xs=>some (r,xs)
 |_+1,_,[],_=>none
 |n+1,i,o::r,xs=>match o.dst with
  |none=>none
  |some d=>match Nat.blt d N with
   |false=>none
   |true=>match Y1 ⟨l⟩ o (Yi (Qh o) 0 ds xs env)with
    |none=>none
    |some false=>match YO cat i with
     |some 2=>(match Qcz xs (.tup [])with
      |.mk xs'=>Qd6 T N cat l ds env H1 n (i+1) r xs')
     |some 3=>(match Qcz xs (.tup [])with
      |.mk xs'=>Qd6 T N cat l ds env H1 n (i+1) r xs')
     |_=>none
    |some true=>match YO cat i with
     |some 2=>(match QcT T o (Yi (Qh o) 0 ds xs env) H1 with
      |none=>none
      |some x=>match Qcz xs x with
       |.mk xs'=>Qd6 T N cat l ds env H1 n (i+1) r xs')
     |some 3=>(match QcT T o (Yi (Qh o) 0 ds xs env) []with
      |none=>none
      |some x=>match Qcz xs x with
       |.mk xs'=>Qd6 T N cat l ds env H1 n (i+1) r xs')
     |_=>none
theorem Qbx(hT:Qbo P T):∀(n i:Nat) {r r':List Oper}{xs xs':List A},i=xs.length->Qd6 T N cat l ds env H1 n i r xs=some (r',xs')->DB P N m cat l ds env H H1 K r' xs'->DB P N m cat l ds env H H1 K r xs
 |0,i,r,r',xs,xs',_,h,k=>by cases h;exact k
 |n+1,i,[],r',xs,xs',_,h,k=>by cases h
 |n+1,i,o::r,r',xs,xs',hi,h,k=>by
  subst hi;unfold Qd6 at h;split at h
  .cases h
  .rename_i d hd;split at h
   .cases h
   .rename_i q2;split at h
    .cases h
    .rename_i hw;split at h
     .rename_i q0;simp only[Y7]at h;exact .wo1 (WO.skip (QP hw) hd q2 (WO.nil YU.mk)) (Qbx hT n _ (by simp) h k) q0 hd
     .rename_i q0;simp only[Y7]at h;exact .wo2 (WO.skip (QP hw) hd q2 (WO.nil YU.mk)) (WO.skip (QP hw) hd q2 (WO.nil YU.mk)) (Qbx hT n _ (by simp) h k) q0 hd
     .cases h
    .rename_i hw;split at h
     .rename_i q0;split at h
      .cases h
      .rename_i x hv;simp only[Y7]at h;exact .wo1 (QH (QP hw) hd q2 (Qas hT hv) (WO.nil YU.mk)) (Qbx hT n _ (by simp) h k) q0 hd
     .rename_i q0;split at h
      .cases h
      .rename_i x hv;simp only[Y7]at h;exact .wo2 (QH (QP hw) hd q2 (Qas hT (QdS hv)) (WO.nil YU.mk)) (QH (QP hw) hd q2 (Qas hT (QdS hv)) (WO.nil YU.mk)) (Qbx hT n _ (by simp) h k) q0 hd
     .cases h
end
end Go.Sw
namespace Go.Sw
def chkF(L:List (Nat×List (Nat×Nat)))(fs:List (Nat×Nat×Nat)):Bool:=
 fs.all λe=>match QbP L e.1 with
  |some pl=>(match YO pl e.2.1 with
   |some q=>Nat.beq q.1 e.2.2&& !(Nat.beq q.2 0)
   |none=>false)
  |none=>false
theorem PL.get{P:Program}{fs:List Field}{a:List (Nat×Nat)}(h:PL P fs a):∀{f off n:Nat},YO a f=some (off,n)->∃fd,fs[f]?=some fd/\fd.offset=off/\ ∀w,(sizeOf fd.type).run P w=.ok n w:=by
 induction h with
 |nil=>intro f off n h;cases h
 |cons h k d=>
  intro f off n b;cases f with
  |zero=>cases b;exact⟨_,rfl,rfl,h⟩
  |succ f=>obtain⟨fd,g,e⟩:=d (show YO _ f=_ from b);exact⟨fd,by simpa using g,e⟩
theorem QoO{P:Program}{L:List (Nat×List (Nat×Nat))}{fs:List (Nat×Nat×Nat)}(d:∀e∈L,QL P e.1 e.2)(h:chkF L fs=true):∀e∈fs,∃n,Y8 P e.1 e.2.1 e.2.2 n:=by
 intro e m;have:=Xw.1 h e m;split at this
 .rename_i t b;split at this
  .rename_i q l;obtain⟨p,n⟩:=q;simp only[X4,Bool.not_eq_true']at this;have k:=XX this.1;obtain⟨r,i,a⟩:=d _ (Qat b);obtain⟨f,j,s,g⟩:=PL.get a l;refine⟨n,⟨⟨_,f,i,by simpa using j,s.trans k,g,?_⟩⟩⟩;intro z;have a:=this.2;rw[z,Nat.beq_refl]at a;cases a
  .cases this
 .cases this
section
variable {P:Program}{Z:TyZ}{h0 N:Nat}{all:Array Oper}{o:Oper}{l:List Oper}{env:Env}{H:Qc}{Q:QC}{d:Nat}
theorem Cdz(q:QcB P Z){β γ:Type}{F:Option β}{F':β->Option γ}{r:γ}{f:Nat}{args a:List A}{Hc:Qc}{w:β->A}{Hr:β->Qc}(π:List Nat)(h:F.bind F'=some r)(s:∀v,F=some v->C P f a Hc (RQ w Hr v))
  (b:Qe9 Z o env=some (d,f,args))(g:∀v,F=some v->F' v=some r->WO P h0 N all l (up env d (Yx (rho π H.length) (w v))) (Yg H π ((Hr v).map (QZ (rho π H.length)))) Q)
  (hargs:args=Qaa (rho π H.length) a)(i:π.map (λp=>H[p]?)=(Hc.map (QZ (rho π H.length))).map some)(hπ:π.Nodup)(hg:Y1 all o env=some true)(k:Nat.blt d N=true)(j:Nat.ble h0 H.length=true):WO P h0 N all (o::l) env H Q:=by
 obtain⟨v,e,m⟩:=YP h;obtain⟨n,t⟩:=QdI (H:=H) q b;refine Qt π t (s v e) ?_ hargs i hπ (QP hg) n k j;rintro _ _ ⟨rfl,rfl⟩;exact g v e m
end
inductive FLL where
 |mk (l:List (List A))
def cpLL(sel:List Nat):List (List A)->FLL
 |[]=>.mk []
 |a::r=>match cpL sel a,cpLL sel r with
  |.mk a',.mk r'=>.mk (a'::r')
inductive FBk where
 |mk (b:Blk)
def cpBk(sel:List Nat):Blk->FBk
 |.cells t cs=>match cpL sel cs with
  |.mk l=>.mk (.cells t l)
 |.rowr t k es=>match cpLL sel es with
  |.mk l=>.mk (.rowr t k l)
 |.ents t a b es=>match QjL sel ixL a,QjL sel ixL b with
  |.mk a',.mk b'=>.mk (.ents t a' b' es)
 |b=>.mk b
def selD(H:Qc)(sel:List Nat):List Nat->FB
 |[]=>.mk []
 |a::r=>match YO H a with
  |some b=>(match cpBk sel b,selD H sel r with
   |.mk b',.mk l=>.mk (b'::l))
  |none=>.mk []
def retC(sel sl:List Nat)(env:Env)(H:Qc):Option (Env×Qc):=
 match QlJ sel env sl [],selD H sel sel with
 |.mk e,.mk h=>some (e,h)
theorem Rx{P:Program}{h0:Nat}{fn:Func}{env E':Env}{H H':Qc}{Qr:A->Qc->Prop}{d:A}(π sl:List Nat)(_:retC π sl env H=some (E',H'))(a:QcH P fn E' H' d)(e:Qr d H')(b:π.take h0=List.range h0:=by exact rfl)
  (hH:π.map (λp=>H[p]?)=(H'.map (QZ (rho π H.length))).map some:=by exact rfl)(hπ:π.Nodup:=by decide)(hE:Qe4 (rho π H.length) env E':=by(repeat' (first|exact trivial|refine⟨rfl,?_⟩))):QcG P h0 fn Qr .ret env H:=
 ⟨E',H',d,Lr π b hH hπ hE,a,e⟩
end Go.Sw
namespace Go.Sw
def nxL{T:Type}:List T->T->List T->Prop:=λl x rem=>l=x::rem
def Qcj{S T B:Type}(step:S->T->Option (Ctl S B)):List T->S->Option (Ctl S B)
 |[],s=>some (.cont s)
 |x::l,s=>(step s x).bind λd=>match d with
  |.cont s'=>Qcj step l s'
  |.done b=>some (.done b)
def Qbm{S T B:Type}(step:S->Option (List T×Ctl S B)):Nat->S->Option (List T×B)
 |0,_=>none
 |n+1,s=>(step s).bind λp=>match p.2 with
  |.cont s'=>(Qbm step n s').bind λq=>some (p.1++q.1,q.2)
  |.done b=>some (p.1,b)
def Qiz{S B:Type}(h1:Nat)(env:Env)(Q:QC)(d:Ctl S B)(Hp:S->Qc):QC
 |.normal,env',H'=>∃s,d=.cont s/\Le h1 env' H' [] (Hp s)
 |.exit id,env',H'=>(∃b,d=.done b)/\ ∃H2,Le h1 env' H' [] H2/\Q (.exit id) env H2
 |.ret,env',H'=>(∃b,d=.done b)/\ ∃H2,Le h1 env' H' [] H2/\Q .ret env H2
theorem QaI{S B:Type}{h1:Nat}{env env':Env}{H':Qc}{Q:QC}{s:S}{d:Ctl S B}{Hp:S->Qc}(e:some (Ctl.cont s)=some d)(h:Le h1 env' H' [] (Hp s)):Qiz h1 env Q d Hp .normal env' H':=⟨s,(Oi e).symm,h⟩
theorem QiX{S B:Type}{h1:Nat}{env env':Env}{H' H2:Qc}{Q:QC}{b:B}{d:Ctl S B}{Hp:S->Qc}(e:some (Ctl.done b)=some d)(h:Le h1 env' H' [] H2)(q:Q .ret env H2):Qiz h1 env Q d Hp .ret env' H':=⟨⟨b,(Oi e).symm⟩,H2,h,q⟩
theorem Ji{P:Program}{h0 N:Nat}{n:Operand}{ps:List Nat}{assign body:Code}{env:Env}{H:Qc}{Q:QC}{f:FuncId}{g a:List A}{Hc:Qc}{T S B:Type}{enc:T->List A}{xs:List T}{step:S->T->Option (Ctl S B)}{s0:S}{D:Ctl S B}
  (π:List Nat)(Hp:S->Qc)(h:Qcj step xs s0=some D)(m:Qdx P f a Hc enc nxL xs)(r:∀x,(enc x).length=ps.length)(J:∀args w,(callFunc f args).run P w=.ok (.enter f args) w)
  (L:Nat.ble h0 H.length=true)(hg:opA env n=.fn (.func f) [] g)(hargs:g=Qaa (rho π H.length) a)(G:π.map (λp=>H[p]?)=(Hc.map (QZ (rho π H.length))).map some)(hπ:π.Nodup)(u:(ps.all λp=>Nat.blt p N)=true)
  (j:Le H.length env (Qdk H π) env (Hp s0))
  (i:∀s x d,step s x=some d->(∀b,d=.done b->D=.done b)->TC P H.length N assign (QkR ps (enc x) env) (Hp s) λe env1 H1=>e=.normal/\TC P H.length N body env1 H1 (Qiz H.length env Q d Hp))
  (k:∀s,D=.cont s->Q .normal env (Hp s)):TC P h0 N (.rangeFunc n ps.toArray assign body) env H Q:=by
 refine TC.rangeFunc π Hp (λs l=>Qcj step l s=some D) s0 (XY L) hg hargs G hπ u J m r j h ?_ ?_
 .rintro s l x rem t rfl;obtain⟨d,O,t⟩:=YP t;refine(i s x d O ?_).mono ?_
  .rintro b rfl;exact(Oi t).symm
  .rintro e env1 H1 ⟨R,F⟩;refine⟨R,F.mono ?_⟩;intro M E H2 q;cases M with
   |normal=>
    obtain⟨z,rfl,j⟩:=q;exact⟨Hp z,j,z,t,rfl⟩
   |exit id=>
    obtain⟨_,H3,y,q⟩:=q;exact⟨H3,y,q⟩
   |ret=>
    obtain⟨_,H3,y,q⟩:=q;exact⟨H3,y,q⟩
 .intro s V;exact k s (Oi V).symm
section
variable {T:Type}{X:Ctx T}{P:Program}{h0 N:Nat}{c:Code}{env:Env}{H:Qc}{st:YSt T}{Q:Yq T}
def Qe0{S B:Type}(h0:Nat)(E:S->Env)(Hp:S->Qc)(d:Ctl S B)(rest:List T)(Q:Yq T):Yq T
 |.normal,env,H,st=>∃s,d=.cont s/\Le h0 env H (E s) (Hp s)/\st=.on rest
 |.exit id,env,H,st=>Q (.exit id) env H st
 |.ret,env,H,st=>Q .ret env H st
theorem Qkm{S B:Type}{step:S->Option (List T×Ctl S B)}{E:S->Env}{Hp:S->Qc}{m:Nat}{s0:S}{j rem:List T}{b:B}(h:Qbm step m s0=some (j,b))(w:Le h0 env H (E s0) (Hp s0))
  (body:∀s zs d rest,step s=some (zs,d)->(∀b',d=.done b'->b'=b/\rest=rem)->TCy X P h0 N c (E s) (Hp s) (.on (zs++rest)) (Qe0 h0 E Hp d rest Q)):TCy X P h0 N (.loop c) env H (.on (j++rem)) Q:=by
 refine QfN (I:=λn env H p=>∃s a,Qbm step n s=some (a,b)/\p=.on (a++rem)/\Le h0 env H (E s) (Hp s)) ?_ ⟨s0,j,h,rfl,w⟩;rintro n env H p ⟨s,a,f,rfl,k⟩;cases n with
 |zero=>cases f
 |succ n=>
  obtain⟨⟨zs,d⟩,r,f⟩:=YP f;refine TCy.le k ?_;cases d with
  |cont u=>
   obtain⟨⟨t,F⟩,y,f⟩:=YP f;cases f;rw[Vq];refine(body s zs (.cont u) (t++rem) r (λb' e=>by cases e)).mono ?_;rintro x g H' i q;cases x with
   |normal=>
    obtain⟨z,e,l,rfl⟩:=q;cases e;exact⟨n,Xp n,_,_,y,rfl,l⟩
   |exit id=>exact q
   |ret=>exact q
  |done b'=>
   cases f;refine(body s _ (.done b) rem r (λb' e=>by cases e;exact⟨rfl,rfl⟩)).mono ?_;rintro x g H' i q;cases x with
   |normal=>obtain⟨z,e,_⟩:=q;cases e
   |exit id=>exact q
   |ret=>exact q
def kqY(X:Ctx T)(P:Program)(h0 N:Nat):List Kf->Yq T->Yq T
 |[],Q=>Q
 |.seq c::k,Q=>SeqY X P h0 N c (kqY X P h0 N k Q)
 |.blo id::k,Q=>BloY id (kqY X P h0 N k Q)
 |.unr c::k,Q=>λ_ _ _ _=>False
@[reducible] def HdY(X:Ctx T)(P:Program)(h0 N:Nat):Cf->List Kf->Env->Qc->YSt T->Yq T->Prop
 |.code c,k,env,H,st,Q=>TCy X P h0 N c env H st (kqY X P h0 N k Q)
 |.ops all l,k,env,H,st,Q=>WOy X P h0 N all l env H st (kqY X P h0 N k Q)
 |.out x,k,env,H,st,Q=>kqY X P h0 N k Q x env H st
def Qn4:Cf->List Kf->Bool
 |.code (.loop _),_=>false
 |.out _,.unr _::_=>false
 |_,_=>true
theorem QkU{Tx:TyX}(f:Qbo P Tx){c d:Cf}{k b:List Kf}{env env':Env}{H H':Qc}(h:Qfd Tx h0 N c k env H=some (d,b,env',H'))(a:Qn4 c k=true)(g:HdY X P h0 N d b env' H' st Q):HdY X P h0 N c k env H st Q:=by
 unfold Qfd at h;split at h
 .cases h;exact TCy.seq g
 .cases h;exact TCy.block g
 .cases a
 .cases h;exact TCy.skip g
 .cases h;exact TCy.ret g
 .cases h;exact TCy.exit g
 .cases h;exact TCy.region g
 .split at h
  .rename_i q;cases h;exact TCy.cond (QB q) (λ_=>g) (λe=>by cases e)
  .rename_i q;cases h;exact TCy.cond (QB q) (λe=>by cases e) (λ_=>g)
  .cases h
 .cases h;exact WOy.nil g
 .split at h
  .rename_i q;cases h;exact WOy.step (QkY f q (WO.nil ⟨rfl,g⟩))
  .cases h
 .cases h;exact g
 .cases h;exact g
 .cases h;exact g
 .cases h;exact g
 .split at h
  .rename_i q;cases h;have e:=XX q;subst e;show(bif Nat.beq _ _ then _ else _);rw[Nat.beq_refl];exact g
  .rename_i q;cases h;show(bif Nat.beq _ _ then _ else _);rw[q];exact g
 .cases h;exact g
 .cases a
 .cases a
 .cases a
 .cases h
def QjH(Tx:TyX)(h0 N:Nat):Nat->Cf->List Kf->Env->Qc->Option (Cf×List Kf×Env×Qc)
 |0,c,k,env,H=>some (c,k,env,H)
 |n+1,c,k,env,H=>match Qn4 c k with
  |true=>(match Qfd Tx h0 N c k env H with
   |some (c',k',env',H')=>QjH Tx h0 N n c' k' env' H'
   |none=>none)
  |false=>none
theorem QdB{Tx:TyX}(hT:Qbo P Tx):∀(n:Nat) {c c':Cf}{k k':List Kf}{env env':Env}{H H':Qc},QjH Tx h0 N n c k env H=some (c',k',env',H')->HdY X P h0 N c' k' env' H' st Q->HdY X P h0 N c k env H st Q
 |0,c,c',k,k',env,env',H,H',h,g=>by cases h;exact g
 |n+1,c,c',k,k',env,env',H,H',h,g=>by
  unfold QjH at h;split at h
  .rename_i hn;split at h
   .rename_i e;exact QkU hT e hn (QdB hT n h g)
   .cases h
  .cases h
theorem TCy.lf{k:List Kf}(h:TC P h0 N c env H (λx env H=>kqY X P h0 N k Q x env H st)):TCy X P h0 N c env H st (kqY X P h0 N k Q):=TCy.lift h
theorem Qmt{all:Array Oper}{o:Oper}{r:List Oper}{d:Nat}{x:T}{l:List T}{e:T->A}{y z:Operand}{g:Array TypeId}(hE:X.enc=λx=>[e x])(k:X.nx=nxL)(i:o.op=.call {callee:=.value y,args:= #[z],argTypes:=g})(h:opA env y=.fn (.yield X.l) [] [])(m:opA env z=e x)(j:Ye (e x)=true)
  (a:WOy X P h0 N all r (up env d (.bool true)) H (.on l) Q)(f:WOy X P h0 N all r (up env d (.bool false)) H (.off l) Q)(hg:Qx all o env true:=by exact rfl)(hd:o.dst=some d:=by exact rfl)(hNd:Nat.blt d N=true:=by exact rfl):WOy X P h0 N all (o::r) env H (.on (x::l)) Q:=by
 refine WOy.yield (x:=x) (rem:=l) (by rw[k];rfl) hg hd hNd ?_ ?_
 .rw[hE];exact QgI i h m j
 .intro b;cases b with
  |true=>exact a
  |false=>exact f
theorem Qms{all:Array Oper}{o:Oper}{r:List Oper}{d:Nat}{x:T}{l:List T}{e1 e2:T->A}{y h i:Operand}{n:Array TypeId}(hE:X.enc=λx=>[e1 x,e2 x])(j:X.nx=nxL)(q:o.op=.call {callee:=.value y,args:= #[h,i],argTypes:=n})(p:opA env y=.fn (.yield X.l) [] [])(e:opA env h=e1 x)(a:opA env i=e2 x)(g:Ye (e1 x)=true)(f:Ye (e2 x)=true)
  (k:WOy X P h0 N all r (up env d (.bool true)) H (.on l) Q)(m:WOy X P h0 N all r (up env d (.bool false)) H (.off l) Q)(hg:Qx all o env true:=by exact rfl)(hd:o.dst=some d:=by exact rfl)(hNd:Nat.blt d N=true:=by exact rfl):WOy X P h0 N all (o::r) env H (.on (x::l)) Q:=by
 refine WOy.yield (x:=x) (rem:=l) (by rw[j];rfl) hg hd hNd ?_ ?_
 .rw[hE];exact QjF q p e a g f
 .intro b;cases b with
  |true=>exact k
  |false=>exact m
end
end Go.Sw
namespace Go.Sw
def yl{T R:Type}(x:T)(k:Option (List T×R)):Option (List T×R):=k.bind λp=>some (x::p.1,p.2)
def ap{T B R:Type}(a:Option (List T×B))(k:B->Option (List T×R)):Option (List T×R):=a.bind λp=>(k p.2).bind λq=>some (p.1++q.1,q.2)
theorem QiI{T R:Type}{x:T}{k:Option (List T×R)}{a:List T}{v:R}(h:yl x k=some (a,v)):∃zs,k=some (zs,v)/\a=x::zs:=by
 obtain⟨⟨zs,e⟩,d,b⟩:=YP h;cases b;exact⟨zs,d,rfl⟩
theorem Qjq{T B R:Type}{a:Option (List T×B)}{k:B->Option (List T×R)}{d:List T}{v:R}(h:ap a k=some (d,v)):∃y1 b y2,a=some (y1,b)/\k b=some (y2,v)/\d=y1++y2:=by
 obtain⟨⟨y1,b⟩,g,f⟩:=YP h;obtain⟨⟨y2,j⟩,i,e⟩:=YP f;cases e;exact⟨y1,b,y2,g,i,rfl⟩
section
variable {T:Type}{X:Ctx T}{P:Program}{h0 N:Nat}{c c':Code}{env:Env}{H:Qc}{st:YSt T}{Q:Yq T}
def QmT{β:Type}(h0:Nat)(b:β)(E':β->Env)(H':β->Qc)(rem:List T)(Q:Yq T):Yq T
 |.normal,env,H,st=>Le h0 env H (E' b) (H' b)/\st=.on rem
 |.exit id,env,H,st=>Q (.exit id) env H st
 |.ret,env,H,st=>Q .ret env H st
theorem QcC{β:Type}{E':β->Env}{H':β->Qc}(b:β)(rem:List T)(sel keep:List Nat)(nE:β->Env)(nH:β->List (Nat×Blk))(_:∀b,Qmm sel keep (nE b) (nH b) env H=some (E' b,H' b))(h:TCy X P h0 N c env H st (QmT h0 b E' H' rem Q))(k:∀env H,Le h0 env H (E' b) (H' b)->Q .normal env H (.on rem)):TCy X P h0 N c env H st Q:=
 h.mono λx env' H' st' q=>by
  cases x with
  |normal=>obtain⟨q1,rfl⟩:=q;exact k _ _ q1
  |exit id=>exact q
  |ret=>exact q
theorem Qjn{β:Type}{b:β}{E':β->Env}{H':β->Qc}{rem:List T}(h:Le h0 env H (E' b) (H' b)):QmT h0 b E' H' rem Q .normal env H (.on rem):=⟨h,rfl⟩
theorem Qjm{β:Type}{b:β}{E':β->Env}{H':β->Qc}{rem:List T}(h:Q .ret env H st):QmT h0 b E' H' rem Q .ret env H st:=h
theorem Qgt{S B:Type}{step:S->Option (List T×Ctl S B)}{E':S->Env}{H':S->Qc}{m:Nat}{s0:S}{ys rem:List T}{b:B}(sel keep:List Nat)(nE:S->Env)(nH:S->List (Nat×Blk))(h:Qbm step m s0=some (ys,b))(_:∀s,Qmm sel keep (nE s) (nH s) env H=some (E' s,H' s))(hI:Le h0 env H (E' s0) (H' s0))
  (body:∀s zs d rest,step s=some (zs,d)->(∀b',d=.done b'->b'=b/\rest=rem)->TCy X P h0 N c (E' s) (H' s) (.on (zs++rest)) (Qe0 h0 E' H' d rest Q)):TCy X P h0 N (.loop c) env H (.on (ys++rem)) Q:=Qkm h hI body
theorem Qeh{S B:Type}{E':S->Env}{H':S->Qc}{s:S}{d:Ctl S B}{zs rest:List T}(e:some (([]:List T),Ctl.cont s)=some (zs,d))(h:Le h0 env H (E' s) (H' s)):Qe0 h0 E' H' d rest Q .normal env H (.on (zs++rest)):=by
 cases e;exact⟨s,rfl,h,rfl⟩
theorem Qf8{S B:Type}{id:Nat}{E':S->Env}{H':S->Qc}{d:Ctl S B}{rest:List T}(h:Q (.exit id) env H st):Qe0 h0 E' H' d rest Q (.exit id) env H st:=h
theorem Qf9{S B:Type}{E':S->Env}{H':S->Qc}{d:Ctl S B}{rest:List T}(h:Q .ret env H st):Qe0 h0 E' H' d rest Q .ret env H st:=h
theorem Oy{S B:Type}{d:Ctl S B}{x b:B}{zs rest rem:List T}(a:∀b',d=.done b'->b'=b/\rest=rem)(h:some (([]:List T),Ctl.done x)=some (zs,d)):zs=[]/\b=x/\rest=rem:=by
 cases h;obtain⟨f,e⟩:=a x rfl;exact⟨rfl,f.symm,e⟩
theorem Qam{f:FuncId}{fn:Func}{c:Code}{N:Nat}{a:List A}{H:Qc}{enc:T->List A}{xs:List T}(e:P.funcs[f]?=some fn)(d:fn.body=some c)(g:fn.ntmps=N)(i:Nat.ble (a.length+1) N=true)(b:fn.results= #[])
  (h:∀X:Ctx T,X.enc=enc->X.nx=nxL->TCy X P H.length N c (QfF 0 (.fn (.yield X.l) [] []::a)) H (.on (xs++[])) EndY):Qdx P f a H enc nxL xs:=by
 rw[Vo]at h;exact QcF e d g i b h
end
end Go.Sw
namespace Go.Sw
open Go.MapKept
section
variable {fr ro:Nat->Prop}{σ:Sig}{H:Qc}{w:World}
theorem Sim.lendO(s:Sim fr ro σ H w){i b:Nat}{x x':Blk}(hσ:σ[i]?=some (some b))(p:H[i]?=some x)(E:BR ro σ w x' (some b))(M:∀d,Hid w x' b d->Hid w x b d)(G:x'.live=true->x.live=true:=by exact id):
  Sim fr ro σ (H.set i x') w:=by
 have N:i<H.length:=(XS.1 p).1;have a:∀(j:Nat) (v:Blk),(H.set i x')[j]?=some v->(j=i/\v=x')\/(j≠i/\H[j]?=some v):=by
  intro j v h;by_cases e:j=i
  .subst e;rw[Xa N]at h;cases h;exact .inl ⟨rfl,rfl⟩
  .rw[XW (λq=>e q.symm)]at h;exact .inr ⟨e,h⟩
 have r:∀(j:Nat) (v:Blk),(H.set i x')[j]?=some v->v.live=true->∃g,H[j]?=some g/\g.live=true:=by
  intro j v h J;rcases a j v h with⟨rfl,rfl⟩|⟨_,h⟩
  .exact⟨x,p,G J⟩
  .exact⟨v,h,J⟩
 refine⟨by rw[Vb];exact s.len,s.roOk,s.frLt,s.roFr,?_,?_,?_,s.hidTo (· = ·) Q2 (X0 _) (λ_ _ _ _ _ _ _ q=>q) (λ_ _ _ _ _ _ _ q=>q) λj d y z Q T=>.inl ?_⟩
 .intro j b v f k l;obtain⟨g,n,B⟩:=r j v k l;exact s.own j b g f n B
 .intro j F b v g f k l L R P;obtain⟨u,n,B⟩:=r j v l R;obtain⟨O,t,m⟩:=r F g L P;exact s.inj j F b u O f k n t B m
 .intro j y v f k;rcases a j v k with⟨rfl,rfl⟩|⟨_,h⟩
  .rw[hσ]at f;cases f;exact E
  .exact s.blk j y v f h
 .rcases a j y Q with⟨rfl,rfl⟩|⟨_,h⟩
  .rw[hσ]at z;cases z;exact⟨j,x,rfl,hσ,p,G,M⟩
  .exact⟨j,y,rfl,z,h,id,λ_ q=>q⟩
theorem Sim.unhide(s:Sim fr ro σ H w){i b c:Nat}{x x' y:Blk}(hσ:σ[i]?=some (some b))(p:H[i]?=some x)(hx:Hid w x b c)(J:x'.live=true->x.live=true)
  (aa:BR ro σ w x' (some b))(hh:∀d,Hid w x' b d->Hid w x b d/\d≠c)(hy:BR ro (σ++[some c]) w y (some c))(M:∀d,Hid w y c d->False):
  Sim fr ro (σ++[some c]) (H.set i x'++[y]) w:=by
 have F:=s.len;have hi:i<H.length:=(XS.1 p).1;have E:=s.hid i b x c hσ p hx;have a:∀(j:Nat) (z:Option Nat) (v:Blk),(σ++[some c])[j]?=some z->(H.set i x'++[y])[j]?=some v->
   (j=i/\z=some b/\v=x')\/(j≠i/\j<σ.length/\σ[j]?=some z/\H[j]?=some v)\/(j=σ.length/\z=some c/\v=y):=by
  intro j z v l m;rcases Nat.lt_trichotomy j σ.length with q|q|q
  .rw[XT q]at l;rw[XT (by rw[Vb];omega)]at m;by_cases e:j=i
   .subst e;rw[Xa hi]at m;rw[hσ]at l;cases m;cases l;exact .inl ⟨rfl,rfl,rfl⟩
   .rw[XW (λq=>e q.symm)]at m;exact .inr (.inl ⟨e,q,l,m⟩)
  .subst q;have e1:(σ++[some c])[σ.length]?=some (some c):=by simp
   have e2:(H.set i x'++[y])[σ.length]?=some y:=by rw[F,show H.length=(H.set i x').length from by simp];simp
   rw[e1]at l;rw[e2]at m;cases l;cases m;exact .inr (.inr ⟨rfl,rfl,rfl⟩)
  .rw[XV (by simp;omega)]at l;simp at l
 have ext:Ext ro σ w ro (σ++[some c]) w:=⟨λ_ q=>q,λ_ _=>rfl,λ_ _ q=>q,λ_ _ h=>Jd h⟩;refine⟨by simp[F],s.roOk,s.frLt,s.roFr,?_,?_,?_,?_⟩
 .intro j d v l m B;rcases a j _ v l m with⟨rfl,e,rfl⟩|⟨_,_,t,u⟩|⟨rfl,e,rfl⟩
  .cases e;exact s.own j _ x hσ p (J B)
  .exact s.own j d v t u B
  .cases e;exact⟨E.lt,E.ro,E.fr⟩
 .intro j f d v g l m B W P V;rcases a j _ v l B with⟨R,e,rfl⟩|⟨X,l1,t,u⟩|⟨R,e,rfl⟩<;>rcases a f _ g m W with⟨r1',e',rfl⟩|⟨n1',l1',q1',q2'⟩|⟨r1',e',rfl⟩
  .rw[R,r1']
  .cases e;exact(n1' (s.inj f i _ g x q1' hσ q2' p V (J P))).elim
  .cases e;cases e';exact(E.ne i _ x hσ p (J P) rfl).elim
  .cases e';exact(X (s.inj j i _ v x t hσ u p P (J V))).elim
  .exact s.inj j f d v g t q1' u q2' P V
  .cases e';exact(E.ne j _ v t u P rfl).elim
  .cases e;cases e';exact(E.ne i _ x hσ p (J V) rfl).elim
  .cases e;exact(E.ne f _ g q1' q2' V rfl).elim
  .rw[R,r1']
 .intro j z v l m;rcases a j _ v l m with⟨rfl,rfl,rfl⟩|⟨_,_,t,u⟩|⟨rfl,rfl,rfl⟩
  .exact aa.keep ext (λ_ _ _=>rfl) (λ_ _ _ _=>rfl)
  .exact(s.blk j z v t u).keep ext (λ_ _ _=>rfl) (λ_ _ _ _=>rfl)
  .exact hy
 .intro j d v T l m B;rcases a j _ v l m with⟨R,e,r2⟩|⟨X,l1,t,u⟩|⟨rfl,e,rfl⟩
  .cases e;subst R r2;obtain⟨W,P⟩:=hh T B;have k:=s.hid j _ x T hσ p W;refine⟨k.lt,k.ro,k.fr,λf L g Q O n=>?_,λf L g Q O n=>?_⟩
   .rcases a f _ g Q O with⟨_,e,rfl⟩|⟨_,_,G,N⟩|⟨_,e,rfl⟩
    .cases e;exact k.ne j _ x hσ p (J n)
    .exact k.ne f L g G N n
    .cases e;exact P
   .rcases a f _ g Q O with⟨r,e,rfl⟩|⟨_,_,G,N⟩|⟨_,e,rfl⟩
    .cases e;exact⟨rfl,r⟩
    .exact k.one f L g G N n
    .cases e;exact(M _ n).elim
  .have k:=s.hid j d v T t u B;have Y:T≠c:=λe=>by subst e;exact X (E.one j d v t u B).2
   refine⟨k.lt,k.ro,k.fr,λf L g Q O n=>?_,λf L g Q O n=>?_⟩
   .rcases a f _ g Q O with⟨_,e,rfl⟩|⟨_,_,G,N⟩|⟨_,e,rfl⟩
    .cases e;exact k.ne i _ x hσ p (J n)
    .exact k.ne f L g G N n
    .cases e;exact Y
   .rcases a f _ g Q O with⟨r,e,rfl⟩|⟨_,_,G,N⟩|⟨_,e,rfl⟩
    .cases e;subst r;exact k.one f _ x hσ p (hh T n).1
    .exact k.one f L g G N n
    .cases e;exact(M _ n).elim
  .cases e;exact(M _ B).elim
theorem Sim.hideSet(s:Sim fr ro σ H w){i b j c:Nat}{x x' y:Blk}{obj:Obj}(hσ:σ[i]?=some (some b))(M:H[i]?=some x)(P:x.live=true)(hσj:σ[j]?=some (some c))(J:H[j]?=some y)(N:y.live=true)(ad:i≠j)
  (ah:∀y,w.shape? b=some y->({w with heap:=w.heap.setIfInBounds b obj}:World).shape? b=some y)
  (ai:Ext ro σ w ro σ {w with heap:=w.heap.setIfInBounds b obj}->({w with heap:=w.heap.setIfInBounds b obj}:World).heap[b]?=some obj->(∀d,d≠b->({w with heap:=w.heap.setIfInBounds b obj}:World).heap[d]?=w.heap[d]?)->BR ro σ {w with heap:=w.heap.setIfInBounds b obj} x' (some b))
  (ab:∀d,Hid {w with heap:=w.heap.setIfInBounds b obj} x' b d->Hid w x b d\/d=c):
  Sim fr ro σ ((H.set j .dead).set i x') {w with heap:=w.heap.setIfInBounds b obj}/\Qf fr ro w ro {w with heap:=w.heap.setIfInBounds b obj}:=by
 obtain⟨hb,T,V⟩:=s.own i b x hσ M P;obtain⟨hc,Y,aa⟩:=s.own j c y hσj J N;have af:b≠c:=λe=>ad (s.inj i j b x y hσ (by rw[e];exact hσj) M J P N);have F:∀c,c≠b->({w with heap:=w.heap.setIfInBounds b obj}:World).heap[c]?=w.heap[c]? :=by
  intro c hc;show(w.heap.setIfInBounds b obj)[c]?=_;rw[Vm,if_neg (λq=>hc q.symm)]
 have ag:({w with heap:=w.heap.setIfInBounds b obj}:World).heap[b]?=some obj:=by
  show(w.heap.setIfInBounds b obj)[b]?=_;rw[Vm,if_pos rfl,if_pos hb]
 have G:({w with heap:=w.heap.setIfInBounds b obj}:World).heap.size=w.heap.size:=by simp
 have ev:Qf fr ro w ro {w with heap:=w.heap.setIfInBounds b obj}:=
  ⟨λ_ h=>h,λc h=>F c (λq=>T (q▸h)),λc h=>F c (λq=>V (q▸h)),by rw[G];exact X0 _,by
   intro c y h;by_cases q:c=b
   .subst q;exact ah y h
   .unfold World.shape? at h⊢;rw[F c q];exact h,rfl,rfl,rfl,X0 _⟩
 have hi:i<H.length:=(XS.1 M).1;have a:∀(p:Nat) (v:Blk),((H.set j .dead).set i x')[p]?=some v->(p=i/\v=x')\/v=.dead\/(p≠i/\p≠j/\H[p]?=some v):=by
  intro p v h;by_cases e:p=i
  .subst e;rw[Xa (by rw[Vb];exact hi)]at h;cases h;exact .inl ⟨rfl,rfl⟩
  .rw[XW (λq=>e q.symm)]at h;by_cases e':p=j
   .subst e';rw[Xa (XS.1 J).1]at h;cases h;exact .inr (.inl rfl)
   .rw[XW (λq=>e' q.symm)]at h;exact .inr (.inr ⟨e,e',h⟩)
 have ac:=ai (ev.ext0 σ) ag F;have t:∀(p d:Nat) (v:Blk) (e:Nat),p≠i->σ[p]?=some (some d)->H[p]?=some v->Hid {w with heap:=w.heap.setIfInBounds b obj} v d e->Hid w v d e:=λp d v e n m L q=>
  s.hidKeep m L (λz=>F d (λr=>n (s.inj p i b v x (r▸m) hσ L M z P))) ev.keepRo q
 refine⟨⟨by rw[Vb,Vb];exact s.len,s.roOk.to (λ_ q=>q) ev.keepRo (λc h=>by rw[G];exact s.roLt c h),λc h=>by rw[G];exact s.frLt c h,s.roFr,?_,?_,?_,?_⟩,ev⟩
 .intro p d v m L Q;rw[G];rcases a p v L with⟨rfl,rfl⟩|rfl|⟨_,_,q⟩
  .rw[hσ]at m;cases m;exact⟨hb,T,V⟩
  .cases Q
  .exact s.own p d v m q Q
 .intro p f d v g m L Q X h5 h6;rcases a p v Q with⟨r,rfl⟩|rfl|⟨n,_,q⟩<;>rcases a f g X with⟨R,rfl⟩|rfl|⟨W,_,B⟩
  .rw[r,R]
  .cases h6
  .subst r;exact s.inj p f d x g m L M B P h6
  .cases h5
  .cases h5
  .cases h5
  .subst R;exact s.inj p f d v x m L q M h5 P
  .cases h6
  .exact s.inj p f d v g m L q B h5 h6
 .intro p z v m L;rcases a p v L with⟨rfl,rfl⟩|rfl|⟨n,_,q⟩
  .rw[hσ]at m;cases m;exact ac
  .trivial
  .refine(s.blk p z v m q).keep (ev.ext0 σ) ?_ ?_
   .rintro d rfl hz;exact F d (λr=>n (s.inj p i b v x (r▸m) hσ q M hz P))
   .rintro d e rfl hz;exact F e ((s.hid p d v e m q hz).ne i b x hσ M P)
 .intro p d v e m L Q;rcases a p v L with⟨r,rfl⟩|rfl|⟨n,nj,q⟩
  .subst r;rw[hσ]at m;cases m;rcases ab e Q with X|rfl
   .have k:=s.hid p b x e hσ M X;refine⟨by rw[G];exact k.lt,k.ro,k.fr,λf E g l O u=>?_,λf E g l O u=>?_⟩
    .rcases a f g O with⟨rfl,rfl⟩|rfl|⟨_,_,B⟩
     .exact k.ne f E x l M P
     .cases u
     .exact k.ne f E g l B u
    .rcases a f g O with⟨R,rfl⟩|rfl|⟨W,_,B⟩
     .subst R;rw[hσ]at l;cases l;exact⟨rfl,rfl⟩
     .exact u.elim
     .exact k.one f E g l B (t f E g e W l B u)
   .refine⟨by rw[G];exact hc,Y,aa,λf E g l O u=>?_,λf E g l O u=>?_⟩
    .rcases a f g O with⟨rfl,rfl⟩|rfl|⟨_,ae,B⟩
     .rw[hσ]at l;cases l;exact λz=>af z.symm
     .cases u
     .exact λz=>ae (s.inj f j e g y (z▸l) hσj B J u N)
    .rcases a f g O with⟨R,rfl⟩|rfl|⟨W,_,B⟩
     .subst R;rw[hσ]at l;cases l;exact⟨rfl,rfl⟩
     .exact u.elim
     .exact((s.hid f E g e l B (t f E g e W l B u)).ne j e y hσj J N rfl).elim
  .exact Q.elim
  .have k:=s.hid p d v e m q (t p d v e n m q Q);refine⟨by rw[G];exact k.lt,k.ro,k.fr,λf E g l O u=>?_,λf E g l O u=>?_⟩
   .rcases a f g O with⟨rfl,rfl⟩|rfl|⟨_,_,B⟩
    .exact k.ne f E x l M P
    .cases u
    .exact k.ne f E g l B u
   .rcases a f g O with⟨R,rfl⟩|rfl|⟨W,_,B⟩
    .subst R;rw[hσ]at l;cases l;rcases ab e u with X|rfl
     .exact k.one f b x hσ M X
     .exact(k.ne j e y hσj J N rfl).elim
    .exact u.elim
    .exact k.one f E g l B (t f E g e W l B u)
end
end Go.Sw
namespace Go.Sw
open Go.MapKept
def QQ{α β:Type}(ek:α->A)(ev:β->List A)(l:List (α×Option (List β))):List (A×Option (List (List A))):=l.map λp=>(ek p.1,p.2.map (List.map ev))
def QjP{α β:Type}[DecidableEq α](l:List (α×Option (List β)))(x:α):Option (List β):=match YK l x with
 |none=>some []
 |some q=>q
def Qaq{α β:Type}[DecidableEq α](l:List (α×Option (List β)))(x:α):List (α×Option (List β)):=l.map λp=>bif decide (p.1=x)then(p.1,none)else p
section
variable {P:Program}{kt:TypeId}{α β:Type} [DecidableEq α] {ek:α->A}{ev:β->List A}{ro:Nat->Prop}{w:World}{t k:Nat} (K:Y5 P kt ek)
include K
theorem MO.keys:∀{l:List (α×Option (List β))}{es:List MapEntry},MO ro w t k (QQ ek ev l) es->es.map (·.key)=l.map λp=>Qw (ek p.1)
 |[],es,h=>by cases(show es=[]from h);rfl
 |p::l,es,h=>by
  obtain⟨e,l',rfl,h1,h2,h3⟩:=h;simp only[Vr];rw[VR.val (K.scl _) h1,MO.keys (l:=l) h3]
theorem QhR{l:List (α×Option (List β))}{es:List MapEntry}(h:MO ro w t k (QQ ek ev l) es):∀e∈es,∃y,e.key=Qw (ek y):=by
 intro e b;have:e.key∈es.map (·.key):=List.mem_map_of_mem b;rw[MO.keys K h]at this;obtain⟨p,_,a⟩:=Xf.1 this;exact⟨p.1,a.symm⟩
theorem QgA{x:α}:∀{l:List (α×Option (List β))}{es:List MapEntry},MO ro w t k (QQ ek ev l) es->MO ro w t k (QQ ek ev (Qaq l x)) es
 |[],es,h=>h
 |p::l,es,h=>by
  obtain⟨e,l',rfl,h1,h2,h3⟩:=h;by_cases q:p.1=x
  .refine⟨e,l',rfl,by simpa[q]using h1,λrows hr=>?_,QgA (l:=l) h3⟩;simp[q]at hr
  .refine⟨e,l',rfl,by simpa[q]using h1,λrows hr=>h2 rows (by simpa[q]using hr),QgA (l:=l) h3⟩
omit K
theorem QbO{x:α}{c:Nat}:∀{l:List (α×Option (List β))}{es:List MapEntry},Jf (QQ ek ev (Qaq l x)) es c->Jf (QQ ek ev l) es c
 |[],es,h=>by cases es<;>exact h.elim
 |p::l,[],h=>h.elim
 |p::l,e::es,h=>by
  rcases h with⟨h1,h2⟩|h
  .by_cases q:p.1=x
   .simp[q]at h1
   .exact .inl ⟨by simpa[q]using h1,h2⟩
  .exact .inr (QbO (l:=l) h)
theorem QfS{x:α}:∀{l:List (α×Option (List β))}{es:List MapEntry},Qcd (QQ ek ev l) es->Qcd (QQ ek ev (Qaq l x)) es
 |[],es,h=>by cases es<;>trivial
 |p::l,[],h=>trivial
 |p::l,e::es,h=>by
  obtain⟨h1,h2⟩:=h;refine⟨λc q1 q2 q3=>?_,QfS (l:=l) h2⟩;by_cases q:p.1=x
  .simp[q]at q1
  .exact h1 c (by simpa[q]using q1) q2 (QbO (l:=l) q3)
include K
theorem MO.find:∀{l:List (α×Option (List β))}{es:List MapEntry},MO ro w t k (QQ ek ev l) es->∀(x:α),(es.map (·.key)).Nodup->
  ((∀e:MapEntry,e∈es->e.key≠Qw (ek x))->YK l x=none)/\
  (∀(j:Nat) (e:MapEntry),es[j]?=some e->e.key=Qw (ek x)->∃q,YK l x=some q/\(∀rows,q=some rows->SO ro w t k (rows.map ev) e.val)/\
   ∀c p n cap,q.isSome=true->e.val=.slice (some ⟨c,p,none⟩) n cap->Jf (QQ ek ev l) es c/\(Qcd (QQ ek ev l) es->¬Jf (QQ ek ev (Qaq l x)) es c))
 |[],es,h,x,_=>by
  cases(show es=[]from h);exact⟨λ_=>rfl,λj e he=>by simp at he⟩
 |p::l,es,h,x,hn=>by
  obtain⟨e0,l',rfl,h1,h2,h3⟩:=h;have hk:e0.key=Qw (ek p.1):=VR.val (K.scl _) h1;simp only[Vr,List.nodup_cons]at hn;obtain⟨a1,a2⟩:=MO.find (l:=l) h3 x hn.2;by_cases hp:p.1=x
  .subst hp;constructor
   .intro q;exact absurd hk (q e0 (by simp))
   .intro j e he hx;cases j with
    |zero=>
     simp only[XL,Option.some.injEq]at he;subst he;refine⟨p.2,by simp[YK],λrows hr=>h2 (rows.map ev) (by simp[hr]),λc p' n cap hs hv=>⟨.inl ⟨by simpa using hs,p',n,cap,hv⟩,λhd hq=>?_⟩⟩;rcases hq with⟨q1,_⟩|hq
     .simp at q1
     .exact hd.1 c (by simpa using hs) ⟨p',n,cap,hv⟩ (QbO (l:=l) hq)
    |succ j=>
     simp only[XM]at he;exact absurd (hk.trans hx.symm▸List.mem_map_of_mem (f:=λe:MapEntry=>e.key) (List.mem_of_getElem? he)) hn.1
  .have e1:YK (p::l) x=YK l x:=by simp[YK,hp]
   rw[e1];constructor
   .intro q;exact a1 λe he=>q e (by simp[he])
   .intro j e he hx;cases j with
    |zero=>
     simp only[XL,Option.some.injEq]at he;subst he;exact absurd (K.inj _ _ (hk.symm.trans hx)) hp
    |succ j=>
     obtain⟨q,d,m,b⟩:=a2 j e (by simpa using he) hx;refine⟨q,d,m,λc p' n cap hs hv=>?_⟩;obtain⟨a,i⟩:=b c p' n cap hs hv;refine⟨.inr a,λhd hq=>?_⟩;rcases hq with⟨q1,g⟩|hq
     .exact hd.1 c (by simpa[hp]using q1) g a
     .exact i hd.2 hq
end
section
variable {P:Program}{o:Oper}{env:Env}{H:Qc}
variable {T kt et:Nat}{α β:Type} [DecidableEq α] {ek:α->A}{ev:β->List A}{x y:Operand}{i t k:Nat}{l:List (α×Option (List β))}{key:α}{rows:List β}
theorem QiE(t k:Nat)(f:o.op=.makeMap T none:=by exact rfl):OpH P o env H (.map H.length) (H++[.mapO false t k []]):=by
 intro n g σ N a w r;refine⟨.map (some w.heap.size),w.alloc (.map #[] 0),g,[some w.heap.size],?_,⟨w.heap.size,?_,rfl⟩,r.sim.alloc ⟨(λh=>by cases h), #[],0,YH _ _,rfl,trivial,by simp,by simp,by simp,rfl,λi e h=>by simp at h⟩ (λc h=>?_),Qf.alloc _ r.sim.roLt r.sim.frLt⟩
 .generalize a.eval=ρ at*;simp only[execOp,f,Instr.makeMap,Xl,Vu];rfl
 .rw[<- r.sim.len];simp
 .obtain⟨l,m,j,b⟩:=h;cases d:l.toList with
  |nil=>rw[d]at b;exact b
  |cons e r=>rw[d]at b;exact b
theorem QkC{fz:Bool}(K:Y5 P kt ek)(Q:QjP l key=some rows)(hT:P.underlying T=some (.map kt et))(hz:∀w,(zeroValue et).run P w=.ok (.slice none 0 0) w)
  (ho:o.op=.lookup T x y false:=by exact rfl)(hx:opA env x=.map i:=by exact rfl)(hH:H[i]?=some (.mapO fz t k (QQ ek ev l)):=by exact rfl)(hy:opA env y=ek key:=by exact rfl):
  OpH P o env H (.osl H.length 0 rows.length k) (H.set i (.mapO fz t k (QQ ek ev (Qaq l key)))++[.row t k (rows.map ev)]):=by
 intro fr G σ N a w r;have h1:=Qg r x;rw[hx]at h1;obtain⟨b,M,q2⟩:=h1;have X:=Qg r y;rw[hy]at X;have h3:=VR.val (K.scl _) X;have hB:=r.sim.blk i _ _ M hH;obtain⟨p0,V,g,n,J,pd,p3,p4,p5⟩:=hB;obtain⟨f1,f2⟩:=MO.find K J key p5.1;have E:BR G σ w (.mapO fz t k (QQ ek ev (Qaq l key))) (some b):=⟨p0,V,g,n,QgA K J,QfS pd,p3,p4,p5⟩;have u:∀d,Hid w (.mapO fz t k (QQ ek ev (Qaq l key))) b d->Hid w (.mapO fz t k (QQ ek ev l)) b d:=by
  rintro d ⟨l',Y,z,O⟩;exact⟨l',Y,z,QbO O⟩
 have B:=r.sim.len;have f:rows=[]->(execOp a.eval o).run P w=.ok (.value (.slice none 0 0)) w->∃v w' ro' τ,(execOp a.eval o).run P w=.ok (.value v) w'/\VR ro' (σ++τ) w' (.osl H.length 0 rows.length k) v/\
   Sim fr ro' (σ++τ) (H.set i (.mapO fz t k (QQ ek ev (Qaq l key)))++[.row t k (rows.map ev)]) w'/\Qf fr G w ro' w':=by
  rintro rfl s;refine⟨_,w,G,[none],s,.inl ⟨rfl,rfl⟩,?_,Qf.refl _ _ _⟩;exact(r.sim.lendO M hH E u).phantom t k
 rcases K.find w key V.toList (QhR K J)with⟨L,R⟩|⟨j,e,L,R,h6⟩
 .have z:=f1 R;have hr:rows=[]:=by simp[QjP,z]at Q;exact Q
  refine f hr ?_;simp only[execOp,ho,q2,h3,Vu,Instr.lookup,run_underlying hT,Result.andThen,MapKept.run_getObj_map n,Vv,K.check,L,hz];rfl
 .obtain⟨q,z,O,g3⟩:=f2 j e R h6;have hq:q=some rows:=by simpa[QjP,z]using Q
  subst hq;have s:(execOp a.eval o).run P w=.ok (.value e.val) w:=by
   simp only[execOp,ho,q2,h3,Vu,Instr.lookup,run_underlying hT,Result.andThen,MapKept.run_getObj_map n,Vv,K.check,L];rfl
  rcases O rows rfl with⟨F,W⟩|⟨c,p,m,vs,F,W,z3,z4,z5,z6⟩
  .exact f (by simpa using F) (by rw[s,W])
  .rw[F]at s;obtain⟨f3,f4⟩:=g3 c p _ m rfl F;refine⟨_,w,G,[some c],s,.inr ⟨c,p,m,t,vs.length,?_,by simp,λq=>by simpa using z6 q,by simpa using W,?_,by simpa using z4⟩,?_,Qf.refl _ _ _⟩
   .rw[<- B];simp
   .unfold World.shape?;rw[z3];simp
   .refine r.sim.unhide M hH ⟨V,g,n,f3⟩ id E (λd hd=>⟨u d hd,?_⟩) ⟨vs,z3,z5⟩ (λ_ h=>h.elim);rintro rfl;obtain⟨l',Y,g4,g5⟩:=hd;rw[n]at g4;cases g4;exact f4 pd g5
end
end Go.Sw
namespace Go.Sw
open Go.MapKept
theorem MO.append{ro:Nat->Prop}{w:World}{t k:Nat}:∀{l m:List (A×Option (List (List A)))}{es fs:List MapEntry},MO ro w t k l es->MO ro w t k m fs->MO ro w t k (l++m) (es++fs)
 |[],m,es,fs,h,q=>by cases(show es=[]from h);exact q
 |p::l,m,es,fs,h,q=>by
  obtain⟨e,l',rfl,h1,h2,h3⟩:=h;exact⟨e,l'++fs,rfl,h1,h2,MO.append h3 q⟩
theorem MO.length{ro:Nat->Prop}{w:World}{t k:Nat}:∀{l:List (A×Option (List (List A)))}{es:List MapEntry},MO ro w t k l es->es.length=l.length
 |[],es,h=>by cases(show es=[]from h);rfl
 |p::l,es,h=>by
  obtain⟨e,l',rfl,h1,h2,h3⟩:=h;simp[MO.length h3]
def SlB(v:Value)(c:Nat):Prop:=∃p n cap,v=.slice (some ⟨c,p,none⟩) n cap
theorem Jf.push{c:Nat}{x:A}{r:Option (List (List A))}{e:MapEntry}:∀{l:List (A×Option (List (List A)))}{es:List MapEntry},es.length=l.length->Jf (l++[(x,r)]) (es++[e]) c->Jf l es c\/SlB e.val c
 |[],[],_,h=>by
  rcases h with⟨_,h⟩|h
  .exact .inr h
  .exact h.elim
 |[],_::_,q,_=>by simp at q
 |_::_,[],q,_=>by simp at q
 |p::l,e0::es,q,h=>by
  rcases h with h|h
  .exact .inl (.inl h)
  .exact(Jf.push (l:=l) (es:=es) (by simpa using q) h).imp .inr id
theorem Qcd.push{x:A}{r:Option (List (List A))}{e:MapEntry}:∀{l:List (A×Option (List (List A)))}{es:List MapEntry},es.length=l.length->Qcd l es->(∀c,Jf l es c->¬SlB e.val c)->Qcd (l++[(x,r)]) (es++[e])
 |[],[],_,_,_=>⟨λ_ _ _ h=>h.elim,trivial⟩
 |[],_::_,q,_,_=>by simp at q
 |_::_,[],q,_,_=>by simp at q
 |p::l,e0::es,q,⟨h1,h2⟩,hn=>by
  refine⟨λc q1 q2 q3=>?_,Qcd.push (l:=l) (es:=es) (by simpa using q) h2 λc hc=>hn c (.inr hc)⟩;rcases Jf.push (l:=l) (es:=es) (by simpa using q) q3 with q4|q4
  .exact h1 c q1 q2 q4
  .exact hn c (.inl ⟨q1,q2⟩) q4
section
variable {P:Program}{kt:TypeId}{α β:Type} [DecidableEq α] {ek:α->A}{ev:β->List A}{ro:Nat->Prop}{w:World}{t k:Nat} (K:Y5 P kt ek)
def Qbp{α β:Type}[DecidableEq α](l:List (α×Option (List β)))(x:α)(rows:List β):List (α×Option (List β)):=l.map λp=>bif decide (p.1=x)then(p.1,some rows)else p
include K
theorem Qfl{x:α}{rows:List β}:∀{l:List (α×Option (List β))}{es:List MapEntry},MO ro w t k (QQ ek ev l) es->(∀e∈es,e.key≠Qw (ek x))->Qbp l x rows=l
 |[],es,h,q=>rfl
 |p::l,es,h,q=>by
  obtain⟨e,l',rfl,h1,h2,h3⟩:=h;have hk:e.key=Qw (ek p.1):=VR.val (K.scl _) h1;have hp:p.1≠x:=λz=>q e (by simp) (by rw[hk,z]);have:=Qfl (l:=l) h3 (λe he=>q e (by simp[he])) (rows:=rows);simp only[Qbp,Vr,decide_false,hp,cond_false];rw[show(l.map λp=>bif decide (p.1=x)then(p.1,some rows)else p)=l from this]
theorem MO.put{x:α}{rows:List β}{v:Value}(n:SO ro w t k (rows.map ev) v):∀{l:List (α×Option (List β))}{es:List MapEntry}{j:Nat}{e:MapEntry},MO ro w t k (QQ ek ev l) es->
  (es.map (·.key)).Nodup->es[j]?=some e->e.key=Qw (ek x)->
  MO ro w t k (QQ ek ev (Qbp l x rows)) (es.modify j λe=>{e with key:=Qw (ek x),val:=v})/\
  (∀c,Jf (QQ ek ev (Qbp l x rows)) (es.modify j λe=>{e with key:=Qw (ek x),val:=v}) c->Jf (QQ ek ev l) es c\/SlB v c)/\
  (Qcd (QQ ek ev l) es->(∀c,Jf (QQ ek ev l) es c->¬SlB v c)->Qcd (QQ ek ev (Qbp l x rows)) (es.modify j λe=>{e with key:=Qw (ek x),val:=v}))
 |[],es,j,e,h,hn,he,hk=>by cases(show es=[]from h);simp at he
 |p::l,es,j,e,h,hn,he,hk=>by
  obtain⟨e0,l',rfl,h1,h2,h3⟩:=h;have hk0:e0.key=Qw (ek p.1):=VR.val (K.scl _) h1;simp only[Vr,List.nodup_cons]at hn;cases j with
  |zero=>
   simp only[XL,Option.some.injEq]at he;subst he;have hp:p.1=x:=K.inj _ _ (hk0.symm.trans hk);simp only[List.modify_zero_cons];have e0':Qbp l x rows=l:=Qfl K h3 λe he z=>hn.1 (by rw[hk, <- z];exact List.mem_map_of_mem he);have e1:Qbp (p::l) x rows=(p.1,some rows)::l:=by
    have:Qbp (p::l) x rows=(p.1,some rows)::Qbp l x rows:=by simp[Qbp,hp]
    rw[this,e0']
   rw[e1];refine⟨⟨_,l',rfl,?_,?_,h3⟩,?_,?_⟩
   .show VR ro [] w (ek p.1) (Qw (ek x));rw[<- hp];exact QbE (K.scl _)
   .intro d u;cases u;exact n
   .rintro c (⟨_,q⟩|q)
    .exact .inr q
    .exact .inl (.inr q)
   .rintro⟨g,b⟩ a;exact⟨λc _ q z=>a c (.inr z) q,b⟩
  |succ j=>
   simp only[XM]at he;have hp:p.1≠x:=by
    intro q;refine hn.1 (Xf.2 ⟨e,List.mem_of_getElem? he,?_⟩);rw[hk,hk0,q]
   simp only[List.modify_succ_cons];obtain⟨r,f,s⟩:=MO.put n h3 hn.2 he hk;have e1:Qbp (p::l) x rows=p::Qbp l x rows:=by simp[Qbp,hp]
   rw[e1];refine⟨⟨_,_,rfl,h1,h2,r⟩,?_,?_⟩
   .rintro c (q|q)
    .exact .inl (.inl q)
    .exact(f c q).imp .inr id
   .rintro⟨g,b⟩ a;refine⟨λc i m z=>?_,s b λc y=>a c (.inr y)⟩;rcases f c z with z|z
    .exact g c i m z
    .exact a c (.inl ⟨i,m⟩) z
end
section
variable {P:Program}{o:Oper}{env:Env}{H:Qc}
variable {T kt et:Nat}{α β:Type} [DecidableEq α] {ek:α->A}{ev:β->List A}{x y zz:Operand}{i j t k n:Nat}{l m:List (α×Option (List β))}{key:α}{rows:List β}
theorem Qm3(K:Y5 P kt ek){ro:Nat->Prop}{w:World}{b:Nat}{es:Array MapEntry}{v:Value}(B:MO ro w t k (QQ ek ev l) es.toList)(F:Qcd (QQ ek ev l) es.toList)
  (x:∀e∈es.toList,e.born<b)(E:(es.toList.map (·.born)).Nodup)(m:(es.toList.map (·.key)).Nodup/\Qe5 es b)(H:SO ro w t k (rows.map ev) v)(j:∀c,Jf (QQ ek ev l) es.toList c->¬SlB v c)
  {d:Nat}{e:MapEntry}(r:es.toList[d]?=some e)(p:e.key=Qw (ek key)):
  MO ro w t k (QQ ek ev (Qbp l key rows)) (es.modify d λe=>{e with key:=Qw (ek key),val:=v}).toList/\Qcd (QQ ek ev (Qbp l key rows)) (es.modify d λe=>{e with key:=Qw (ek key),val:=v}).toList/\
   (∀c,Jf (QQ ek ev (Qbp l key rows)) (es.modify d λe=>{e with key:=Qw (ek key),val:=v}).toList c->Jf (QQ ek ev l) es.toList c\/SlB v c)/\(∀e'∈(es.modify d λe=>{e with key:=Qw (ek key),val:=v}).toList,e'.born<b)/\
   ((es.modify d λe=>{e with key:=Qw (ek key),val:=v}).toList.map (·.born)).Nodup/\((es.modify d λe=>{e with key:=Qw (ek key),val:=v}).toList.map (·.key)).Nodup/\Qe5 (es.modify d λe=>{e with key:=Qw (ek key),val:=v}) b:=by
 have a:(es.modify d λe=>{e with key:=Qw (ek key),val:=v}).toList=es.toList.modify d λe=>{e with key:=Qw (ek key),val:=v}:=by simp
 have g:∀{γ:Type} (f:MapEntry->γ),(∀e',es.toList[d]?=some e'->f {e' with key:=Qw (ek key),val:=v}=f e')->(es.toList.modify d λe=>{e with key:=Qw (ek key),val:=v}).map f=es.toList.map f:=by
  intro γ f hf;apply List.ext_getElem?;intro n;rw[Xr,Xr,List.getElem?_modify];by_cases j:d=n
  .subst j;cases q:es.toList[d]? with
   |none=>rfl
   |some e'=>simp[hf e' q]
  .simp[j]
 obtain⟨s,y,u⟩:=MO.put K H B m.1 r p;refine⟨?_,?_,?_,?_,?_,?_,m.2.modify λ_=>rfl⟩
 .rw[a];exact s
 .rw[a];exact u F j
 .rw[a];exact y
 .rw[a];intro e' i;have:e'.born∈(es.toList.modify d λe=>{e with key:=Qw (ek key),val:=v}).map (·.born):=List.mem_map_of_mem i;rw[g (·.born) (λ_ _=>rfl)]at this;obtain⟨G,h,z⟩:=Xf.1 this;rw[<- z];exact x G h
 .rw[a,g (·.born) (λ_ _=>rfl)];exact E
 .rw[a,g (·.key) (λe' i=>by rw[r]at i;cases i;exact p.symm)];exact m.1
theorem Qk5(K:Y5 P kt ek)(R:P.underlying T=some (.map kt et)){ro:Nat->Prop}{w:World}{b f:Nat}{es:Array MapEntry}{v:Value}{a:Act}(X:o.op=.mapUpdate T x y zz)
  (q2:a.eval x=.map (some b))(V:a.eval y=Qw (ek key))(W:a.eval zz=v)(E:w.heap[b]?=some (.map es f))(r:MO ro w t k (QQ ek ev l) es.toList)(pd:Qcd (QQ ek ev l) es.toList)
  (N:∀e∈es.toList,e.born<f)(p4:(es.toList.map (·.born)).Nodup)(F:(es.toList.map (·.key)).Nodup/\Qe5 es f)(hv:SO ro w t k (rows.map ev) v)(Y:∀c,Jf (QQ ek ev l) es.toList c->¬SlB v c):
  ∃es' clock',(execOp a.eval o).run P w=.ok .skip {w with heap:=w.heap.setIfInBounds b (.map es' clock')}/\MO ro w t k (QQ ek ev (QW l key (some rows))) es'.toList/\Qcd (QQ ek ev (QW l key (some rows))) es'.toList/\
   (∀c,Jf (QQ ek ev (QW l key (some rows))) es'.toList c->Jf (QQ ek ev l) es.toList c\/SlB v c)/\(∀e∈es'.toList,e.born<clock')/\(es'.toList.map (·.born)).Nodup/\(es'.toList.map (·.key)).Nodup/\Qe5 es' clock':=by
 have hk:∀q:α×Option (List β),q∈l->∃e∈es.toList,e.key=Qw (ek q.1):=by
  intro q J;have:Qw (ek q.1)∈l.map λp=>Qw (ek p.1):=Xf.2 ⟨q,J,rfl⟩;rw[<- MO.keys K r]at this;obtain⟨e,g,h⟩:=Xf.1 this;exact⟨e,g,h⟩
 rcases K.find w key es.toList (QhR K r)with⟨Q,s⟩|⟨L,e,Q,s,M⟩
 .have m:QW l key (some rows)=l++[(key,some rows)]:=by
   unfold QW;have:(l.any λp=>decide (p.1=key))=false:=by
    rw[List.any_eq_false];intro q J z;obtain⟨e,g,h⟩:=hk q J;exact s e g (by rw[h,of_decide_eq_true z])
   rw[this];rfl
  have j:QQ ek ev (l++[(key,some rows)])=QQ ek ev l++[(ek key,some (rows.map ev))]:=by simp[QQ]
  have i:=MO.length r;refine⟨es.push {key:=Qw (ek key),val:=v,born:=f},f+1,?_,?_,?_,?_,?_,?_,?_,F.2.push rfl⟩
  .simp only[execOp,X,q2,V,W,Vu,Instr.mapUpdate,run_underlying R,Result.andThen,MapKept.run_getObj_map E,K.check,Q,MapKept.run_setObj_map _ E];rfl
  .rw[m,j,Array.toList_push];exact r.append ⟨_,_,rfl,QbE (K.scl _),λO hr=>by cases hr;exact hv,rfl⟩
  .rw[m,j,Array.toList_push];exact Qcd.push i pd Y
  .rw[m,j,Array.toList_push];intro c u;exact Jf.push i u
  .rw[Array.toList_push];intro e g;rcases List.mem_append.1 g with q|q
   .exact Nat.lt_succ_of_lt (N e q)
   .simp at q;subst q;exact Xp _
  .rw[Array.toList_push,Xg];refine List.nodup_append.2 ⟨p4,by simp,?_⟩;intro c u d B;simp at B;subst B;obtain⟨e,g,rfl⟩:=Xf.1 u;exact Nat.ne_of_lt (N e g)
  .rw[Array.toList_push,Xg];refine List.nodup_append.2 ⟨F.1,by simp,?_⟩;intro c u d B;simp at B;subst B;obtain⟨e,g,rfl⟩:=Xf.1 u;exact s e g
 .have m:QW l key (some rows)=Qbp l key rows:=by
   unfold QW Qbp;obtain⟨f1,f2⟩:=MO.find K r key F.1;obtain⟨q,H,_⟩:=f2 L e s M;have:(l.any λp=>decide (p.1=key))=true:=by
    unfold YK at H;cases G:l.find? λp=>decide (p.1=key)with
    |none=>rw[G]at H;cases H
    |some z=>exact Xx.2 ⟨z,List.mem_of_find?_eq_some G,by have:=List.find?_some G;simpa using this⟩
   rw[this];rfl
  have hj:es[L]?=some e:=by rw[<- s];simp
  have n:=K.stays w key;obtain⟨r1,r2,r3,r4,r5,r6⟩:=Qm3 K r pd N p4 F hv Y s M;refine⟨es.modify L λe=>{e with key:=Qw (ek key),val:=v},f,?_,?_,?_,?_,r4,r5,r6⟩
  .simp only[execOp,X,q2,V,W,Vu,Instr.mapUpdate,run_underlying R,Result.andThen,MapKept.run_getObj_map E,K.check,Q,hj,Xk,Option.getD_some,M,n,MapKept.run_setObj_map _ E];rfl
  .rw[m];exact r1
  .rw[m];exact r2
  .rw[m];exact r3
def PutsO(P:Program)(o:Oper)(env:Env)(x zz:Operand)(t k:Nat)(L M:List (A×Option (List (List A))))(R:List (List A)):Prop:=
 ∀(ro:Nat->Prop) (σ:Sig) (a:Act) (w:World) (b clock:Nat) (es:Array MapEntry) (v:Value),(∀s,VR ro σ w (opA env s) (a.eval s))->a.eval x=.map (some b)->a.eval zz=v->w.heap[b]?=some (.map es clock)->MO ro w t k L es.toList->Qcd L es.toList->
  (∀e∈es.toList,e.born<clock)->(es.toList.map (·.born)).Nodup->(es.toList.map (·.key)).Nodup/\Qe5 es clock->SO ro w t k R v->(∀c,Jf L es.toList c->¬SlB v c)->
  ∃es' clock',(execOp a.eval o).run P w=.ok .skip {w with heap:=w.heap.setIfInBounds b (.map es' clock')}/\MO ro w t k M es'.toList/\Qcd M es'.toList/\
   (∀c,Jf M es'.toList c->Jf L es.toList c\/SlB v c)/\(∀e∈es'.toList,e.born<clock')/\(es'.toList.map (·.born)).Nodup/\(es'.toList.map (·.key)).Nodup/\Qe5 es' clock'
theorem QmF(hr:PutsO P o env x zz t k (QQ ek ev l) (QQ ek ev m) (rows.map ev))
  (hx:opA env x=.map i:=by exact rfl)(hH:H[i]?=some (.mapO false t k (QQ ek ev l)):=by exact rfl)(hv:opA env zz=.osl j 0 n k:=by exact rfl)
  (hHj:H[j]?=some (.row t k (rows.map ev)):=by exact rfl)(hn:rows.length=n:=by exact rfl)(hij:Nat.beq i j=false:=by exact rfl):
  OpU P o env H ((H.set j .dead).set i (.mapO false t k (QQ ek ev m))):=by
 subst hn;intro fr X σ N a w r;have E:i≠j:=λe=>by subst e;rw[Nat.beq_refl]at hij;cases hij
 have h1:=Qg r x;rw[hx]at h1;obtain⟨b,B,q2⟩:=h1;have h4:=Qg r zz;rw[hv]at h4;obtain⟨_,G,u,V,p2,pd,p3,p4,p5⟩:=r.sim.blk i _ _ B hH;have R:∀(obj:Obj) y,w.shape? b=some y->({w with heap:=w.heap.setIfInBounds b obj}:World).shape? b=some y:=by
  intro obj y hy;unfold World.shape? at hy;rw[V]at hy;simp at hy
 have h:∀c,Jf (QQ ek ev l) G.toList c->Hid w (.mapO false t k (QQ ek ev l)) b c:=λc F=>⟨G,u,V,F⟩;rcases h4 with⟨z0,J⟩|⟨c,p,L,t',mm,J,z2,z3,z4,Y,z6⟩
 .have ac:rows=[]:=List.length_eq_zero_iff.1 z0;obtain⟨f,g,f1,f2,f3,f4,f5,f6,f7⟩:=hr X σ a w b u G _ (λs=>Qg r s) q2 J V p2 pd p3 p4 p5 (.inl ⟨by simp[ac],rfl⟩) (λc _ q=>by obtain⟨_,_,_,q⟩:=q;cases q);have ae:(H.set j .dead)[i]?=some (.mapO false t k (QQ ek ev l)):=by rw[XW (λe=>E e.symm)];exact hH
  have T:∀c,Jf (QQ ek ev m) f.toList c->Jf (QQ ek ev l) G.toList c:=λc F=>(f4 c F).elim id λq=>by obtain⟨_,_,_,q⟩:=q;cases q
  have s1:=r.sim.kill j;obtain⟨s2,e2⟩:=s1.set (x':=.mapO false t k (QQ ek ev m)) (obj:=.map f g) B ae rfl (R _) (λext hh=>⟨(λz=>by cases z),f,g,hh,f2.mono ext (λc F=>by
    show(w.heap.setIfInBounds b _)[c]?=_;rw[Vm,if_neg];exact λe=>(r.sim.hid i b _ c B hH (h c (T c F))).ne i b _ B hH rfl e.symm),f3,f5,f6,f7⟩) (λc F=>by
    obtain⟨l',cl,Q,g2⟩:=F;have:({w with heap:=w.heap.setIfInBounds b (.map f g)}:World).heap[b]?=some (.map f g):=by
     show(w.heap.setIfInBounds b _)[b]?=_;rw[Vm,if_pos rfl,if_pos (r.sim.own i b _ B hH rfl).1]
    rw[this]at Q;cases Q;exact h c (T c g2))
  exact⟨_,X,[],f1,by simpa using s2,e2⟩
 .obtain⟨vs,y1,y2⟩:=r.sim.blk j _ _ J hHj;have M:L*k<=vs.length:=by
   unfold World.shape? at Y;rw[y1]at Y;simp at Y;have:=Y.2;simp at z6;omega
  have ab:∀c',Jf (QQ ek ev l) G.toList c'->¬SlB (a.eval zz) c':=by
   intro c' F W;obtain⟨_,_,_,W⟩:=W;rw[z2]at W;cases W;exact(r.sim.hid i b _ _ B hH (h _ F)).ne j _ _ J hHj rfl rfl
  obtain⟨f,g,f1,f2,f3,f4,f5,f6,f7⟩:=hr X σ a w b u G _ (λs=>Qg r s) q2 rfl V p2 pd p3 p4 p5 (.inr ⟨c,p,L,vs,by rw[z2];simp,by simpa using z4,y1,M,y2,λq=>by simpa using z3 q⟩) ab;have T:∀d,Jf (QQ ek ev m) f.toList d->Jf (QQ ek ev l) G.toList d\/d=c:=λd O=>(f4 d O).imp id λq=>by
   obtain⟨_,_,_,q⟩:=q;rw[z2]at q;cases q;rfl
  have aa:c≠b:=λe=>E (r.sim.inj i j b _ _ B (e▸J) hH hHj rfl rfl);obtain⟨s2,e2⟩:=r.sim.hideSet (x':=.mapO false t k (QQ ek ev m)) (obj:=.map f g) B hH rfl J hHj rfl E (R _)
   (λext hh ad=>⟨(λz=>by cases z),f,g,hh,f2.mono ext (λd O=>ad d ((T d O).elim (λq=>(r.sim.hid i b _ d B hH (h d q)).ne i b _ B hH rfl) (λq=>q▸aa))),f3,f5,f6,f7⟩)
   (λd O=>by
    obtain⟨l',cl,Q,g2⟩:=O;have:({w with heap:=w.heap.setIfInBounds b (.map f g)}:World).heap[b]?=some (.map f g):=by
     show(w.heap.setIfInBounds b _)[b]?=_;rw[Vm,if_pos rfl,if_pos (r.sim.own i b _ B hH rfl).1]
    rw[this]at Q;cases Q;exact(T d g2).imp (h d) id)
  exact⟨_,X,[],f1,by simpa using s2,e2⟩
theorem QmE(K:Y5 P kt ek)(e:some (QW l key (some rows))=some m)(f:P.underlying T=some (.map kt et))
  (g:o.op=.mapUpdate T x y zz:=by exact rfl)(hx:opA env x=.map i:=by exact rfl)(hH:H[i]?=some (.mapO false t k (QQ ek ev l)):=by exact rfl)(hy:opA env y=ek key:=by exact rfl)(hv:opA env zz=.osl j 0 n k:=by exact rfl)
  (hHj:H[j]?=some (.row t k (rows.map ev)):=by exact rfl)(hn:rows.length=n:=by exact rfl)(hij:Nat.beq i j=false:=by exact rfl):
  OpU P o env H ((H.set j .dead).set i (.mapO false t k (QQ ek ev m))):=by
 obtain rfl:=X7 e;refine QmF (λro σ a w b clock es v hE q2 h4 p1 p2 pd p3 p4 p5 hv hn=>?_) hx hH hv hHj hn hij;have d:=hE y;rw[hy]at d;exact Qk5 K f g q2 (VR.val (K.scl _) d) h4 p1 p2 pd p3 p4 p5 hv hn
end
end Go.Sw
namespace Go.Sw
open Go.MapKept
section
variable {fr ro:Nat->Prop}{σ:Sig}{H:Qc}{w:World}
theorem MO.er{t k:Nat}:∀{es:List (A×Option (List (List A)))}{l:List MapEntry},MO ro w t k es l->ER ro [] w (es.map λe=>(e.1,.any)) l
 |[],_,h=>h
 |x::r,_,⟨e,l',h1,h2,h3,h4⟩=>⟨e,l',h1,h2,trivial,MO.er h4⟩
end
section
variable {P:Program}{o:Oper}{env:Env}{H:Qc}{T kt et i t k:Nat}{x:Operand}{es:List (A×Option (List (List A)))}
end
def QgV{α β:Type}[DecidableEq α](l:List (α×Option (List β)))(x:α):Option (List β×List (α×Option (List β))):=(QjP l x).map λr=>(r,Qaq l x)
section
variable {P:Program}{o:Oper}{env:Env}{H:Qc}
variable {T kt et:Nat}{α β:Type} [DecidableEq α] {ek:α->A}{ev:β->List A}{x y zz:Operand}{i j t k n:Nat}{l m:List (α×Option (List β))}{key:α}{rows:List β}
theorem QkB{fz:Bool}{p:List β×List (α×Option (List β))}(K:Y5 P kt ek)(a:QgV l key=some p)(d:P.underlying T=some (.map kt et))(b:∀w,(zeroValue et).run P w=.ok (.slice none 0 0) w)
  (e:o.op=.lookup T x y false:=by exact rfl)(hx:opA env x=.map i:=by exact rfl)(hH:H[i]?=some (.mapO fz t k (QQ ek ev l)):=by exact rfl)(hy:opA env y=ek key:=by exact rfl):
  OpH P o env H (.osl H.length 0 p.1.length k) (H.set i (.mapO fz t k (QQ ek ev p.2))++[.row t k (p.1.map ev)]):=by
 unfold QgV at a;cases h:QjP l key with
 |none=>rw[h]at a;cases a
 |some r=>rw[h]at a;cases a;exact QkC K h d b e hx hH hy
end
end Go.Sw
namespace Go.Sw
open Go.MapKept
section
variable {P:Program}{o:Oper}{env:Env}{H:Qc}
variable {T kt et:Nat}{α β:Type} [DecidableEq α] {ek:α->A}{ev:β->List A}{x y zz:Operand}{i j t k n:Nat}{l m:List (α×Option (List β))}{key:α}{rows:List β}
end
end Go.Sw
namespace Go.Sw
abbrev Kat:=List (Nat×Nat×Nat)
def QkQ:Nat->Nat->List (Nat×Nat)
 |lo,0=>[(lo,lo)]
 |lo,n+1=>(lo,lo)::QkQ (lo+1) n
def rgK(p:Nat×Nat×Nat):List (Nat×Nat):=bif Nat.beq p.1 1 then[(p.2.1,p.2.1+1)]else QkQ p.2.1 (p.2.2-p.2.1)
def plK(cat:Kat):List (List (Nat×Nat)):=cat.map rgK
def rqK(bs:List Nat)(cat:Kat):List (List Nat):=cat.map λp=>bs.take p.2.1
def hsK(cat:Kat):List Bool:=cat.map λp=>Nat.beq p.1 1
def msK(bs:List Nat):List (List Nat):=(List.range (bs.length+1)).map bs.take
theorem QfW:∀(n lo:Nat),∀p∈QkQ lo n,p.1=p.2
 |0,lo,p,h=>by cases h with|head=>rfl|tail _ h=>cases h
 |n+1,lo,p,h=>by
  rcases Ve.1 h with rfl|h
  .rfl
  .exact QfW n _ p h
section
variable {P:Program}{T:TyX}{h0 N m:Nat}{bs:List Nat}{cat:Kat}{l:List Oper}{ds:List Nat}{env:Env}{H:Qc}{Hs:List Qc}{Q:QC}{K:List Oper->Env->Qc->Prop}
def DobK(P:Program)(N:Nat)(cat:Kat)(l:List Oper)(ds:List Nat)(env:Env)(n:Nat)(Hs:List Qc)(zs:List A)(j:Nat):Prop:=
 ∀p∈(plK cat).getD j [],Jo P N l ds zs env n n j (Hs.getD p.1 []) (Hs.getD p.2 [])
def DK(P:Program)(N m:Nat)(bs:List Nat)(cat:Kat)(l:List Oper)(ds:List Nat)(env:Env)(n:Nat)(K:List Oper->Env->Qc->Prop)(Hs:List Qc)(X:Qc)(r:List Oper)(xs:List A):Prop:=
 r=l.drop xs.length->∃ys Zs Y,xs.length+ys.length=m/\Hs.length+Zs.length=bs.length/\((∀Z∈Zs,n<=Z.length)/\(Hs.reverse++X::Zs).getD bs.length []=Y)/\(∀j,xs.length<=j->j<m->DobK P N cat l ds env n (Hs.reverse++X::Zs) (xs++ys) j)/\K (l.drop m) (Qar ds (xs++ys) env) Y
theorem Qo7{f:List A}{n:Nat}{Zs:List Qc}(a:cat.length=m)(r:∀j,0<=j->j<m->DobK P N cat l ds env n Zs f j):Qgz P N l ds f env n (n+0) 0 ((plK cat).map λq=>q.map λp=>(Zs.getD p.1 [],Zs.getD p.2 [])):=by
 refine Qgy _ 0 λi s b p h=>?_;rw[Xr]at b;cases e:(plK cat)[i]? with
 |none=>rw[e]at b;cases b
 |some q=>
  rw[e]at b;cases b;obtain⟨g,d,rfl⟩:=Xf.1 h;have k:i<m:=by
   have:=(XS.1 e).1;simpa[plK,a]using this
  have:=r i (X2 _) k g (by rw[Qja e];exact d);simpa using this
theorem QmR{id:Nat}(m:Nat)(d:List Nat)(cat:Kat)(s:P.follows .mixedOrders=true)(u:Qdp l m N (Qal m 0 l) (hsK cat) (rqK d cat) (msK d) (plK cat)=true)(j:Nat.beq cat.length m=true)(f:Nat.ble h0 H.length=true)
  (h:DK P N m d cat l (Qal m 0 l) env H.length (λr e H=>WO P h0 N l.toArray r e H Q) [] H l []):TC P h0 N (.region id l.toArray true) env H Q:=by
 obtain⟨t,Zs,Y,q,p,i,k,n⟩:=h rfl;simp only[List.length_nil,XB,Vp,List.reverse_nil]at q p i k n;have a:=XX j;have b:(msK d).length=d.length+1:=by simp[msK]
 refine QaE m 0 _ _ _ _ _ t (H::Zs) Y s u (by rw[q];exact Nat.beq_refl m) (by rw[b];simp[p]) f ?_ (by simp) (by rw[b];exact i.2) (Qo7 a k) (by simp[plK,a]) n;rw[Xw];intro Z g;rcases Ve.1 g with rfl|g
 .exact XZ (X0 _)
 .exact XZ (i.1 Z g)
variable {n:Nat}{X X1:Qc}{xs:List A}{o:Oper}{r:List Oper}{x:A}{d:Nat}
theorem DK.done(f:Nat.beq xs.length m=true)(b:Nat.beq Hs.length bs.length=true)(h:K r (Qar ds xs env) X):DK P N m bs cat l ds env n K Hs X r xs:=by
 intro d;have e:=XX f;have a:=XX b;subst d;refine⟨[],[],X,by simpa using e,by simpa using a,⟨(λZ hZ=>by cases hZ),?_⟩,λj g i=>by omega,?_⟩
 .rw[<- a,List.getD_eq_getElem?_getD,XU (by simp)];simp
 .rw[<- e,Vo];exact h
theorem DK.add(e:∀ys Zs,l[xs.length]?=some o->DobK P N cat l ds env n (Hs.reverse++X::Zs) (xs++x::ys) xs.length)(k:DK P N m bs cat l ds env n K Hs X r (xs++[x])):DK P N m bs cat l ds env n K Hs X (o::r) xs:=by
 intro f;obtain⟨i,a⟩:=QaZ f;obtain⟨ys,Zs,Y,h,g,s,b,d⟩:=k (by simpa using a);simp only[Va,X8,List.length_nil,Vq,List.cons_append,Vp]at h b d;refine⟨x::ys,Zs,Y,by simp only[X8];omega,g,s,λj t p=>?_,d⟩;rcases Nat.lt_or_ge xs.length j with q|q
 .exact b j (by omega) p
 .obtain rfl:j=xs.length:=by omega
  exact e ys Zs i
theorem QdO{Zs:List Qc}{zs:List A}{j:Nat}{c:Nat×Nat×Nat}(b:YO cat j=some c)(h:∀p∈rgK c,Jo P N l ds zs env n n j (Zs.getD p.1 []) (Zs.getD p.2 [])):DobK P N cat l ds env n Zs zs j:=by
 intro p a;rw[Qax]at b;unfold plK at a;rw[List.getD_eq_getElem?_getD,Xr,b]at a;exact h p a
theorem Qgd{Zs:List Qc}{c:Nat}(a:Nat.beq c Hs.length=true):(Hs.reverse++X::Zs).getD c []=X:=by
 rw[XX a,List.getD_eq_getElem?_getD,XU (by simp)];simp
theorem DK.wo{c:Nat}(h:WO P X.length N l.toArray [o] (Yi (Qh o) 0 ds xs env) X (YU (up (Yi (Qh o) 0 ds xs env) d x) X))(k:DK P N m bs cat l ds env n K Hs X r (xs++[x]))
  (b:YO cat xs.length=some (0,c,c):=by exact rfl)(hd:o.dst=some d:=by exact rfl)(hcH:Nat.beq c Hs.length=true:=by exact rfl):DK P N m bs cat l ds env n K Hs X (o::r) xs:=
 .add (λys Zs ho=>QdO b λp a=>by
  have:p=(c,c):=by
   change p∈QkQ c (c-c)at a;rw[Nat.sub_self]at a;exact List.mem_singleton.1 a
  subst this;rw[Qgd hcH];exact Qaw ho YY h hd) k
theorem DK.wa{lo a:Nat}(h:∀X,WO P X.length N l.toArray [o] (Yi (Qh o) 0 ds xs env) X (YU (up (Yi (Qh o) 0 ds xs env) d x) X))(k:DK P N m bs cat l ds env n K Hs X r (xs++[x]))
  (f:YO cat xs.length=some (0,lo,a):=by exact rfl)(hd:o.dst=some d:=by exact rfl):DK P N m bs cat l ds env n K Hs X (o::r) xs:=
 .add (λys Zs ho=>QdO f λp b=>by
  have e:p.1=p.2:=QfW _ _ p b;rw[<- e];exact Qaw ho YY (h _) hd) k
theorem DK.op{c y:Nat}(h:WO P X.length N l.toArray [o] (Yi (Qh o) 0 ds xs env) X (YU (up (Yi (Qh o) 0 ds xs env) d x) X1))(k:DK P N m bs cat l ds env n K (X::Hs) X1 r (xs++[x]))(i:Nat.ble n X1.length=true:=by exact rfl)
  (hc:YO cat xs.length=some (1,c,y):=by exact rfl)(hd:o.dst=some d:=by exact rfl)(hcH:Nat.beq c Hs.length=true:=by exact rfl):DK P N m bs cat l ds env n K Hs X (o::r) xs:=by
 intro t;obtain⟨F,e⟩:=QaZ t;obtain⟨s,Zs,Y,z,w,b,f,g⟩:=k (by simpa using e);simp only[Va,X8,List.length_nil,Vq,List.cons_append,Vp,List.reverse_cons]at z w b f g;refine⟨x::s,X1::Zs,Y,by simp only[X8];omega,by simp only[X8];omega,⟨λZ a=>?_,b.2⟩,λj H G=>?_,g⟩
 .rcases Ve.1 a with rfl|a
  .exact XY i
  .exact b.1 Z a
 .rcases Nat.lt_or_ge xs.length j with q|q
  .exact f j (by omega) G
  .obtain rfl:j=xs.length:=by omega
   refine QdO hc λp E=>?_;have:p=(c,c+1):=List.mem_singleton.1 E;subst this;have B:(Hs.reverse++X::X1::Zs).getD c []=X:=Qgd hcH;have u:(Hs.reverse++X::X1::Zs).getD (c+1) []=X1:=by
    have:=Qgd (X:=X1) (Zs:=Zs) (Hs:=X::Hs) (c:=c+1) (by rw[XX hcH];exact Nat.beq_refl _);simpa using this
   simp only;rw[B,u];exact Qaw F YY h hd
def Qd5(T:TyX)(N m:Nat)(cat:Kat)(l:List Oper)(ds:List Nat)(env:Env)(n:Nat):Nat->Nat->Nat->List Qc->Qc->List Oper->List A->Option (List Qc×List Oper×List A)
 |0,_,_,Hs,X,r,xs=>some (Hs,r,xs)
 |_+1,_,_,_,_,[],_=>none
 |k+1,i,j,Hs,X,o::r,xs=>match o.dst with
  |none=>none
  |some d=>match Nat.blt d N with
   |false=>none
   |true=>match Y1 ⟨l⟩ o (Yi (Qh o) 0 ds xs env)with
    |none=>none
    |some false=>(match Qcz xs (.tup [])with
      |.mk xs'=>match YO cat i with
       |some (0,_,_)=>Qd5 T N m cat l ds env n k (i+1) j Hs X r xs'
       |some (1,c,_)=>(match Nat.beq c j,Nat.ble n X.length with
        |true,true=>Qd5 T N m cat l ds env n k (i+1) (j+1) (X::Hs) X r xs'
        |_,_=>none)
       |_=>none)
    |some true=>match YO cat i with
     |some (0,lo,hi)=>(match QcT T o (Yi (Qh o) 0 ds xs env) []with
      |some x=>(match Qcz xs x with
       |.mk xs'=>Qd5 T N m cat l ds env n k (i+1) j Hs X r xs')
      |none=>match Nat.beq lo hi,Nat.beq lo j with
       |true,true=>(match QcT T o (Yi (Qh o) 0 ds xs env) X with
        |none=>none
        |some x=>match Qcz xs x with
         |.mk xs'=>Qd5 T N m cat l ds env n k (i+1) j Hs X r xs')
       |_,_=>none)
     |_=>none
theorem Qbw(hT:Qbo P T):∀(k i j:Nat) {Hs Hs':List Qc}{r r':List Oper}{xs xs':List A},i=xs.length->j=Hs.length->Qd5 T N m cat l ds env n k i j Hs X r xs=some (Hs',r',xs')->DK P N m bs cat l ds env n K Hs' X r' xs'->DK P N m bs cat l ds env n K Hs X r xs
 |0,i,j,Hs,Hs',r,r',xs,xs',_,_,h,k=>by cases h;exact k
 |k0+1,i,j,Hs,Hs',[],r',xs,xs',_,_,h,k=>by cases h
 |k0+1,i,j,Hs,Hs',o::r,r',xs,xs',hi,hj,h,k=>by
  subst hi hj;unfold Qd5 at h;split at h
  .cases h
  .rename_i d hd;split at h
   .cases h
   .rename_i q2;split at h
    .cases h
    .rename_i hw;simp only[Y7]at h;split at h
     .rename_i lo hi' q0;exact .wa (λX=>WO.skip (QP hw) hd q2 (WO.nil YU.mk)) (Qbw hT k0 _ _ (by simp) rfl h k) q0 hd
     .rename_i c c' q0;split at h
      .rename_i q1 q3;exact .op (WO.skip (QP hw) hd q2 (WO.nil YU.mk)) (Qbw hT k0 _ _ (by simp) (by simp) h k) q3 q0 hd q1
      .cases h
     .cases h
    .rename_i hw;split at h
     .rename_i lo hi' q0;split at h
      .rename_i x hv;simp only[Y7]at h;exact .wa (λX=>QH (QP hw) hd q2 (Qas hT (QdS hv)) (WO.nil YU.mk)) (Qbw hT k0 _ _ (by simp) rfl h k) q0 hd
      .split at h
       .rename_i q1 q3;split at h
        .cases h
        .rename_i x hv;simp only[Y7]at h;obtain rfl:=XX q1;exact .wo (QH (QP hw) hd q2 (Qas hT hv) (WO.nil YU.mk)) (Qbw hT k0 _ _ (by simp) rfl h k) q0 hd q3
       .cases h
     .cases h
def allV(T:TyX)(o:Oper)(e:Env)(x:A):Nat->List Qc->Prop
 |0,_=>True
 |k+1,Y::r=>QcT T o e Y=some x/\allV T o e x k r
 |_+1,[]=>False
theorem QiO:∀(n lo:Nat),∀p∈QkQ lo n,lo<=p.1/\p.1<=lo+n
 |0,lo,p,h=>by cases h with|head=>exact⟨X0 _,X0 _⟩|tail _ h=>cases h
 |n+1,lo,p,h=>by
  rcases Ve.1 h with rfl|h
  .exact⟨X0 _,Nat.le_add_right _ _⟩
  .have:=QiO n _ p h;omega
def allW(P:Program)(N:Nat)(l:List Oper)(o:Oper)(e:Env)(d:Nat)(x:A):Nat->List Qc->Prop
 |0,_=>True
 |k+1,Y::r=>WO P Y.length N l.toArray [o] e Y (YU (up e d x) Y)/\allW P N l o e d x k r
 |_+1,[]=>False
theorem Qju{e:Env}:∀{k:Nat}{r:List Qc},allW P N l o e d x k r->∀j,j<k->WO P (r.getD j []).length N l.toArray [o] e (r.getD j []) (YU (up e d x) (r.getD j []))
 |0,_,_,j,hj=>absurd hj (Xo _)
 |k+1,[],h,_,_=>h.elim
 |k+1,Y::r,h,0,_=>h.1
 |k+1,Y::r,h,j+1,hj=>by
  have:=Qju h.2 j (by omega);simpa using this
theorem DK.ws{lo a:Nat}(h:allW P N l o (Yi (Qh o) 0 ds xs env) d x (a+1-lo) (X::Hs))(k:DK P N m bs cat l ds env n K Hs X r (xs++[x]))
  (g:YO cat xs.length=some (0,lo,a):=by exact rfl)(hd:o.dst=some d:=by exact rfl)(hcH:Nat.beq a Hs.length=true:=by exact rfl)(hle:Nat.ble lo a=true:=by exact rfl):DK P N m bs cat l ds env n K Hs X (o::r) xs:=
 .add (λys Zs ho=>QdO g λp b=>by
  have e:p.1=p.2:=QfW _ _ p b;have f:=XY hle;have t:lo<=p.1/\p.1<=lo+(a-lo):=QiO (a-lo) lo p b;have j:=XX hcH;rw[<- e];have s:=Qju h (Hs.length-p.1) (by omega);have i:(Hs.reverse++X::Zs).getD p.1 []=(X::Hs).getD (Hs.length-p.1) []:=by
   rw[List.getD_eq_getElem?_getD,List.getD_eq_getElem?_getD];congr 1;rcases Nat.lt_or_ge p.1 Hs.length with q|q
   .rw[XT (by simpa using q),List.getElem?_reverse q,show Hs.length-p.1=Hs.length-1-p.1+1 by omega,XM]
   .have:p.1=Hs.length:=by omega
    rw[this,XU (by simp)];simp
  rw[i];exact Qaw ho YY s hd) k
theorem DK.vs(j:Qbo P T){lo a:Nat}(h:allV T o (Yi (Qh o) 0 ds xs env) x (a+1-lo) (X::Hs))(k:DK P N m bs cat l ds env n K Hs X r (xs++[x]))
  (g:YO cat xs.length=some (0,lo,a))(f:o.dst=some d)(e:Nat.beq a Hs.length=true)(hg:Y1 ⟨l⟩ o (Yi (Qh o) 0 ds xs env)=some true)(p:Nat.blt d N=true)(b:Nat.ble lo a=true):DK P N m bs cat l ds env n K Hs X (o::r) xs:=by
 refine DK.ws ?_ k g f e b;generalize a+1-lo=c at h;generalize X::Hs=L at h
 induction c generalizing L with
 |zero=>trivial
 |succ c i=>
  cases L with
  |nil=>exact h.elim
  |cons Y L=>exact⟨QH (QP hg) f p (Qas j h.1) (WO.nil YU.mk),i L h.2⟩
end
end Go.Sw
namespace Go.Sw
def room(n:Int):Option Nat:=bif decide (0<n)&&decide (n<=4294967296)then some n.toNat else none
theorem Qm0{n:Int}{m:Nat}(h:room n=some m):0<n/\n<=4294967296/\n.toNat=m:=by
 unfold room at h;cases q:(decide (0<n)&&decide (n<=4294967296))with
 |true=>rw[q]at h;simp at q;exact⟨q.1,q.2,X7 h⟩
 |false=>rw[q]at h;cases h
section
variable {P:Program}{o:Oper}{env:Env}{H:Qc}
theorem QhP{c:Call}{t e:TypeId}{x:Operand}(d:∀w,(underlying t).run P w=.ok (.slice e) w)(f:o.op=.call c:=by exact rfl)(hc:c={callee:=.builtin .cap,args:= #[x],argTypes:= #[t]}:=by exact rfl)
  (hx:opA env x=.nils:=by exact rfl):OpV P o env H (.int .i64 0):=by
 intro h g σ N a w r;have b:=Qg r x;rw[hx]at b;simp only[VR]at b;refine⟨_,?_,rfl⟩;generalize a.eval=ρ at*;subst hc;simp[execOp,f,b,resolve,invoke,Go.builtin,Builtin.cap_,d,goInt,go_sem]
theorem QmH{α:Type}{e:α->List A}{c:Call}{T T' et k m:Nat}{x y:Operand}{n:Int}{kk:IntKind}(h:room n=some m)(E:Q0 P T et k)(hd:∀w,(underlying T').run P w=.ok (.int kk) w)
  (ho:o.op=.call c:=by exact rfl)(hc:c={callee:=.builtin .append,args:= #[x,y],argTypes:= #[T,T']}:=by exact rfl)(hx:opA env x=.nils:=by exact rfl)(hy:opA env y=.int .i64 n:=by exact rfl):
  OpH P o env H (.osl H.length 0 m k) (H++[.row et k (([]:List α).map e)]):=by
 intro Q p σ N a w r;obtain⟨n0,n1,rfl⟩:=Qm0 h;have R:a.eval x=.slice none 0 0:=by have:=Qg r x;rw[hx]at this;exact this
 have X:a.eval y=.int .i64 n:=by have:=Qg r y;rw[hy]at this;exact this
 obtain⟨z,M,f⟩:=E.zero;obtain⟨i,hi,hb⟩:=E.bytes
 let need:=n.toNat
 let nc:=need+w.tape w.drawn (.appendCap need 0 et)%(2^63-need)
 let cells:List Value:=(Builtin.zeroCells z.cells need).toList++(Builtin.zeroCells z.cells (nc-need)).toList
 let w0:World:={w with drawn:=w.drawn+1}
 have g:0<need:=by show 0<n.toNat;omega
 have V:IntKind.i64.wrap n=n:=by
  unfold IntKind.wrap;simp[IntKind.bits,IntKind.signed];omega
 have b:¬(need<=0):=by omega
 have Y:need<=4294967296:=by show n.toNat<=_;omega
 have g0:¬(n<0):=by omega
 have g1:¬(n*(i.bytes:Int)>2^48):=by
  have R:n*(i.bytes:Int)<=4294967296*4096:=Int.mul_le_mul n1 (by omega) (by omega) (by omega);omega
 have O:¬((need:Int)>IntKind.i64.max):=by
  have:IntKind.i64.max=9223372036854775807:=by decide
  rw[this];omega
 have g3:¬(Builtin.nextslicecap need 0*i.bytes>2^48):=by
  have:=Qbk need 0 g;have h3:Builtin.nextslicecap need 0*i.bytes<=(4*need+1000)*4096:=Nat.mul_le_mul this hb;omega
 have u:∀W:World,(choose (.appendCap need 0 et)).run P W=.ok (need+W.tape W.drawn (.appendCap need 0 et)%(2^63-need)) {W with drawn:=W.drawn+1}:=by
  intro W;simp[choose,Sem.run,Question.forced,Question.cut]
 have t:∀(x:Nat) (W:World),(askRoom x).run P W=.ok () W:=by
  intro x W;unfold askRoom;split<;>rfl
 have J:∀(c:Array Value) (W:World),(newRow et c).run P W=.ok ⟨W.heap.size,0,none⟩ (W.alloc (.cells c et)):=λc W=>rfl;have B:∀(k:IntKind) (m:Int) (W:World),(asInt (.int k m)).run P W=.ok m W:=λk m W=>rfl;have F:∀W:World,((if need*k=0 then pure #[]else do pure (Builtin.zeroCells (<- zeroValue et).cells need):Sem (Array Value))).run P W=.ok (Builtin.zeroCells z.cells need) W:=by
  intro W;by_cases q:need*k=0
  .rw[if_pos q];have:Builtin.zeroCells z.cells need= #[]:=by unfold Builtin.zeroCells;rw[f,q];simp
   rw[this];rfl
  .rw[if_neg q];simp only[Vu,M,Result.andThen,Vv]
 have j:(Builtin.append_ #[T,T'] o.type #[.slice none 0 0,.int .i64 n]).run P w=.ok (.slice (some ⟨w.heap.size,0,none⟩) need nc) (w0.alloc (.cells cells.toArray et)):=by
  unfold Builtin.append_;have e3:(#[]:Array Value)++Builtin.zeroCells z.cells need++Builtin.zeroCells z.cells (nc-need)=cells.toArray:=by
   apply Array.toList_inj.1;simp[cells]
  have G:∀W:World,(Builtin.firstCells k 0 (.slice none 0 0)).run P W=.ok #[] W:=λW=>Qad;have L:(0:Nat)+n.toNat=need:=XB _;simp only[XN,XL,XM,Vu,E.sl,E.size,hd,hi,M,Result.andThen,Vv,B,V,XO,if_true,if_neg g0,if_neg g1,L,if_neg b];have g4:¬((need:Int)>IntKind.i64.max/\(True\/i.bytes=0)):=λq=>O q.1;simp only[O,false_and,if_false,if_neg g3,u,t,G,Result.andThen];have s:(if n.toNat*k=0 then(Result.ok #[] w0:Result (Array Value))else Result.ok (Builtin.zeroCells z.cells n.toNat) w0)=Result.ok (Builtin.zeroCells z.cells n.toNat) w0:=by
   have:=F w0;by_cases q:n.toNat*k=0
   .rw[if_pos q];have:Builtin.zeroCells z.cells n.toNat= #[]:=by unfold Builtin.zeroCells;rw[f,q];simp
    rw[this]
   .rw[if_neg q]
  simp only[Xh,Xj,if_false];rw[s];simp only[J];show(Result.ok _ _)=_;rw[<- e3]
 have s0:Sim Q p σ H w0:=r.sim.heap rfl;have e0:Qf Q p w p w0:=Qf.heap rfl rfl rfl rfl (Nat.le_succ _);obtain⟨s1,e1⟩:=Qe1 (T:=et) (k:=k) (es:=[]) (l:=[]) (rest:=cells) s0 trivial rfl (by simp);have d:(execOp a.eval o).run P w=.ok (.value (.slice (some ⟨w.heap.size,0,none⟩) need nc)) (w0.alloc (.cells cells.toArray et)):=by
  subst hc;generalize a.eval=ρ at*;simp only[execOp,ho,resolve,invoke,Go.builtin,Vu,Vv,Result.andThen];simp only[XP,Vr,Vs,R,X,j]
 refine⟨_,_,p,[some w.heap.size],d,.inr ⟨w.heap.size,0,nc,et,cells.length,?_,rfl,λ_=>by simp,Nat.le_add_right _ _,?_,?_⟩,s1,e0.trans e1⟩
 .rw[<- r.sim.len];simp
 .unfold World.shape?;rw[show w.heap.size=w0.heap.size from rfl,YH];simp
 .simp[cells,Builtin.zeroCells,f,nc, <- XG]
theorem QmC{T et k b m:Nat}{x y:Operand}(E1:∀w,(underlying T).run P w=.ok (.slice et) w)(E2:∀w,(sizeOf et).run P w=.ok k w)(a:o.op=.slice T x none (some y) none:=by exact rfl)
  (hx:opA env x=.osl b 0 m k:=by exact rfl)(hy:opA env y=.int .i64 0:=by exact rfl):OpV P o env H (.osl b 0 0 k):=by
 have:=QhO (H:=H) E1 E2 a hx (.inl ⟨rfl,rfl⟩) (.inr ⟨y,0,rfl,hy,by omega,rfl⟩) (X0 _) (X2 _);simpa using this
theorem Qky{T et k:Nat}{x y:Operand}(E1:∀w,(underlying T).run P w=.ok (.slice et) w)(E2:∀w,(sizeOf et).run P w=.ok k w)(a:o.op=.slice T x none (some y) none:=by exact rfl)
  (hx:opA env x=.nils:=by exact rfl)(hy:opA env y=.int .i64 0:=by exact rfl):OpV P o env H .nils:=
 QmD E1 E2 a hx (.inl ⟨rfl,rfl⟩) (.inr ⟨y,0,rfl,hy,by omega,rfl⟩) (X0 _) (X0 _)
theorem Qo6{h0 i:Nat}{x x':Blk}(a:H[i]?=some x)(e:x=x'):Le h0 env H env (H.set i x'):=by
 subst e;obtain⟨d,b⟩:=XS.1 a;rw[<- b,List.set_getElem_self];exact Le.refl _ _ _
theorem Sim.shutRow{fr ro:Nat->Prop}{σ:Sig}{w:World}(s:Sim fr ro σ H w){i b t k:Nat}{es:List (List A)}(hσ:σ[i]?=some (some b))(p:H[i]?=some (.row t k es)):
  Sim fr (λc=>ro c\/c=b) σ (H.set i .dead) w:=by
 have g:b<w.heap.size/\ ¬ro b/\ ¬fr b:=s.own i b _ hσ p rfl;have ext:Ext ro σ w (λc=>ro c\/c=b) σ w:=⟨λ_ q=>.inl q,λ_ _=>rfl,λ_ _ q=>q,λ_ _ q=>q⟩;have a:∀(j:Nat) (v:Blk),(H.set i .dead)[j]?=some v->v≠ .dead->j≠i/\H[j]?=some v:=by
  intro j v h n;by_cases e:j=i
  .subst e;rw[Xb]at h;simp only[if_true]at h;split at h
   .cases h;exact absurd rfl n
   .simp at h
  .rw[XW (λq=>e q.symm)]at h;exact⟨e,h⟩
 refine⟨by rw[Vb];exact s.len,s.roOk.to (λ_ q=>.inl q) (λ_ _=>rfl) ?_,s.frLt,?_,?_,?_,?_,s.hidTo (· = ·) Q2 (X0 _) (λj d x c L R E P=>P.elim id λq=>((s.hid j d x c L R E).ne i b _ hσ p rfl q).elim) (λ_ _ _ _ _ _ _ q=>q) λj d y Q M N=>.inl ⟨j,y,rfl,Q,(a j y M (QdP N)).2,id,λ_ q=>q⟩⟩
 .rintro c (q|rfl)
  .exact s.roLt c q
  .exact g.1
 .rintro c (q|rfl)
  .exact s.roFr c q
  .exact g.2.2
 .intro j c v l f m;obtain⟨e,f⟩:=a j v f (Blk.nd m);obtain⟨F,G,O⟩:=s.own j c v l f m;refine⟨F,?_,O⟩;rintro(q|rfl)
  .exact G q
  .exact e (s.inj j i c v _ l hσ f p m rfl)
 .intro j r c v B l f m J z u;exact s.inj j r c v B l f (a j v m (Blk.nd z)).2 (a r B J (Blk.nd u)).2 z u
 .intro j y v l f;by_cases n:v≠ .dead
  .exact(s.blk j y v l (a j v f n).2).keep ext (λ_ _ _=>rfl) (λ_ _ _ _=>rfl)
  .obtain rfl:v=.dead:=Classical.not_not.1 n;trivial
theorem QmG{α:Type}{e:α->List A}{T et k i n ta:Nat}{x y:Operand}{l l':List α}{j:Int}(h:slc l 0 j=some l')(Q:l.length=n)(W:∀x,(e x).length=k)(R:∀w,(underlying T).run P w=.ok (.array n et) w)(m:∀w,(sizeOf et).run P w=.ok k w)
  (O:o.op=.slice T x none (some y) none:=by exact rfl)(hx:opA env x=.ptr i 0:=by exact rfl)(hy:opA env y=.int .i64 j:=by exact rfl)(hH:H[i]?=some (.row ta k (l.map e)):=by exact rfl):
  OpH P o env H (.rsl k (l'.map e)) (H.set i .dead):=by
 intro X u σ N a w r;obtain⟨B,z2,F,p⟩:=slc0 h;have z:=Qg r x;rw[hx]at z;obtain⟨b,t,V⟩:=z;have s:=Qg r y;rw[hy]at s;have g:a.eval y=.int .i64 j:=s;obtain⟨Y,G,J⟩:=r.sim.blk i _ _ t hH;have E:=r.sim.shutRow t hH;refine⟨.slice (some ⟨b,0,none⟩) j.toNat n,w,(λc=>u c\/c=b),[],?_,⟨_,n,by rw[X9,p],by rw[X9,p];omega,?_⟩,by simpa using E,YB (ro':=λc=>u c\/c=b) (λ_ q=>Or.inl q)⟩
 .have L:(Instr.sliceBounds false n n none (some (.int .i64 j)) none).run P w=.ok (0,j.toNat,n) w:=by
   simp only[Instr.sliceBounds,Vu,Vv,Result.andThen,YQ B (show j<=(n:Int)by omega),Xj,if_false]
  have f:(Instr.sliceAt T (.pointer (some ⟨b,0,none⟩)) none (some (.int .i64 j)) none).run P w=.ok (.slice (some ⟨b,0,none⟩) j.toNat n) w:=by
   have d:(if n=0 then(⟨b,0,none⟩:Addr)else(⟨b,0,none⟩:Addr).add (0*k))=⟨b,0,none⟩:=by
    by_cases q:n=0
    .rw[if_pos q]
    .rw[if_neg q,Nat.zero_mul];simp[Addr.add]
   simp only[Instr.sliceAt,Vu,R,Result.andThen,Instr.sureAddr,L,m,Vv,d,XA]
  generalize a.eval=ρ at*;simp only[execOp,O,V,Xl,Xk,g,Vu,f,Result.andThen,Vv]
 .right;refine⟨b,0,rfl,.inr rfl,?_⟩;have M:=Jm (pre:=[]) (by simpa using G) J;have:=M.take j.toNat;rw[<- List.map_take,F]at this;exact this.keep ⟨λ_ q=>.inl q,λ_ _=>rfl,λ_ _ q=>q,λ_ _ q=>q⟩ rfl
theorem RL.put{ro:Nat->Prop}{σ:Sig}{w:World}{k:Nat}:∀{a:Nat}{es fs:List (List A)}{l m:List Value},RL ro σ w k es l->a+fs.length<=es.length->Sw.allK k fs->LR ro σ w fs.flatten m->(∀v∈m,QA v)->
  RL ro σ w k (es.take a++fs++es.drop (a+fs.length)) (Sw.splice l (a*k) m)
 |0,es,[],l,m,h,hn,hk,hm,hp=>by
  obtain rfl:m=[]:=hm;simpa[Sw.splice]using h
 |0,[],f::fs,l,m,h,hn,hk,hm,hp=>by simp at hn
 |0,c::es,f::fs,l,m,⟨l1,l2,h1,h2,h3,h4⟩,hn,hk,hm,hp=>by
  subst h1;have hl1:=h3.1.length;have hml:=hm.length;rw[Vt,Va]at hml;have e1:m.take k++m.drop k=m:=XF _ _;have q1:LR ro σ w f (m.take k):=by have:=hm.take k;rwa [Vt,Vf (by rw[hk.1];exact X0 _),List.take_of_length_le (by rw[hk.1];exact X0 _)]at this
  have j:LR ro σ w fs.flatten (m.drop k):=by have:=hm.drop k;rwa [Vt,Vg (by rw[hk.1];exact X0 _),Xt (by rw[hk.1];exact X0 _),Vp]at this
  have b:=RL.put (a:=0) h4 (by simpa using hn) hk.2 j (λv d=>hp v (List.mem_of_mem_drop d));simp only[List.take_zero,Vp,XB,Nat.zero_mul,Sw.splice]at b⊢;refine⟨m.take k,m.drop k++l2.drop (m.drop k).length,?_,hk.1,⟨q1,λv d=>hp v (List.mem_of_mem_take d)⟩,by simpa using b⟩;have i:k<=m.length:=by rw[hml,hk.1];exact Nat.le_add_right _ _
  rw[<- Vq,e1];congr 1;rw[XE,show m.length=l1.length+(m.length-k)from by omega,Vi];have g:l1.length+(m.length-k)-k=m.length-k:=by omega
  rw[g]
 |a+1,[],fs,l,m,h,hn,hk,hm,hp=>by simp at hn
 |a+1,c::es,fs,l,m,⟨l1,l2,h1,h2,h3,h4⟩,hn,hk,hm,hp=>by
  subst h1;have hl1:=h3.1.length;have b:=RL.put (a:=a) h4 (by simp at hn;omega) hk hm hp;refine⟨l1,Sw.splice l2 (a*k) m,?_,h2,h3,?_⟩
  .have e1:(a+1)*k=l1.length+a*k:=by rw[Xn];omega
   unfold Sw.splice;rw[e1,Vj,show l1.length+a*k+m.length=l1.length+(a*k+m.length)from by omega,Vi];simp
  .have e:a+1+fs.length=(a+fs.length)+1:=by omega
   simpa[e]using b
def Qko(P:Program)(H:Qc)(x:A)(k:Nat)(es:List (List A)):Prop:=
 ∀fr ro σ w v,Sim fr ro σ H w->VR ro σ w x v->(∃a c,v=.slice a es.length c)/\
  ∀j,j<=es.length->allK k (es.take j)/\ ∃l,(Builtin.firstCells k j v).run P w=.ok l.toArray w/\LR ro [] w (es.take j).flatten l/\ ∀v∈l,QA v
theorem Qd3{fr ro:Nat->Prop}{σ:Sig}{w:World}{k j b off n c:Nat}{es:List (List A)}(h:RR ro [] w b k es off)(g:j<=es.length):
  allK k (es.take j)/\ ∃l,(Builtin.firstCells k j (.slice (some ⟨b,off,none⟩) n c)).run P w=.ok l.toArray w/\LR ro [] w (es.take j).flatten l/\ ∀v∈l,QA v:=by
 obtain⟨f,i,a⟩:=(h.take j).flat;rw[XD,XH g]at a;obtain⟨l,d,e⟩:=QcV (P:=P) (n:=j) (c:=c) f a;refine⟨i,l,?_,e⟩;exact d w rfl
theorem QbX{k n c:Nat}{a:Option Addr}{w:World}:(Builtin.firstCells k 0 (.slice a n c)).run P w=.ok #[] w:=by
 cases a<;>simp[Builtin.firstCells,loadCells,loadCellsFrom,go_sem]
theorem QnK{α:Type}{e:α->List A}{k:Nat}{l:List α}:Qko P H (.rsl k (l.map e)) k (l.map e):=by
 intro fr m σ w v s ⟨a,c,h1,h2,f⟩;subst h1;refine⟨⟨a,c,rfl⟩,λj d=>?_⟩;rcases f with f|⟨b,h,rfl,i,g⟩
 .rw[f]at d⊢;obtain rfl:j=0:=by simpa using d
  exact⟨trivial,[],QbX,rfl,by simp⟩
 .exact Qd3 (fr:=fr) (σ:=σ) g d
theorem Qko.osl{i s n k t:Nat}{es a:List (List A)}(r:H[i]?=some (.row t k es))(he:(es.drop s).take n=a)(F:s+n<=es.length):Qko P H (.osl i s n k) k a:=by
 intro fr J σ w v sm h;have f:a.length=n:=by rw[<- he];simp;omega
 rcases h with⟨rfl,rfl⟩|⟨b,p,d,M,m,y,rfl,x,L,E,G⟩
 .have e:a=[]:=List.length_eq_zero_iff.1 f;subst e;refine⟨⟨none,0,rfl⟩,λj g=>?_⟩;obtain rfl:j=0:=by simpa using g
  exact⟨trivial,[],QbX,rfl,by simp⟩
 .rw[f];refine⟨⟨_,d,rfl⟩,λj g=>?_⟩;obtain⟨l,z,B⟩:=sm.blk i _ _ y r;have q:=((Jm (pre:=[]) (by simpa using z) B).drop s).take n;rw[he]at q;by_cases u:0<d
  .obtain rfl:=x u;simpa using Qd3 (P:=P) (fr:=fr) (σ:=σ) (n:=n) (c:=d) q (by rw[f];exact g)
  .obtain rfl:j=0:=by omega
   exact⟨trivial,[],QbX,rfl,by simp⟩
theorem QnL{α:Type}{e:α->List A}{b t k:Nat}{l r:List α}{a c:Int}(h:slc l a c=some r)(d:H[b]?=some (.row t k (l.map e)):=by exact rfl):Qko P H (.osl b (0+a.toNat) (c.toNat-a.toNat) k) k (r.map e):=by
 obtain⟨g,j,i,f⟩:=QdX h;refine Qko.osl d ?_ (by rw[X9];omega);rw[<- f, <- List.map_drop, <- List.map_take,XB,List.drop_take]
def cpy{α:Type}(l:List α)(a c:Int)(m:List α):Option (List α):=some (l.take a.toNat++m.take (c.toNat-a.toNat)++l.drop (a.toNat+min m.length (c.toNat-a.toNat)))
theorem QdH{α:Type}{l r l' m:List α}{a c:Int}(h:slc l a c=some r)(b:cpy l a c m=some l'):l.length=l'.length:=by
 obtain⟨d,f,e,_⟩:=QdX h;rw[<- X7 b];simp only[Va,XD,XE];omega
theorem QeG{α:Type}{l l' m:List α}(a:cpy l 0 (l.length:Int) m=some l'):l.length=l'.length:=by
 rw[<- X7 a];simp only[Va,XD,XE];simp;omega
theorem QfR{α:Type}{e:α->List A}{c:Call}{T T' et k b a n t:Nat}{x y:Operand}{ya:A}{l m l':List α}(ad:a+n<=l.length)(aa:l.take a++m.take n++l.drop (a+min m.length n)=l')(hT:∀w,(underlying T).run P w=.ok (.slice et) w)(F:∀w,(sizeOf et).run P w=.ok k w)(W:Qko P H ya k (m.map e))
  (ho:o.op=.call c)(hc:c={callee:=.builtin .copy,args:= #[x,y],argTypes:= #[T,T']})(hx:opA env x=.osl b a n k)(Y:H[b]?=some (.row t k (l.map e)))(V:opA env y=ya):
  OpH P o env H (.int .i64 (min m.length n:Nat)) (H.set b (.row t k (l'.map e))):=by
 intro X M σ N ac w r;have u:=Qg r x;rw[hx]at u;have h2:=Qg r y;rw[V]at h2;obtain⟨⟨ay,cy,Q⟩,q2⟩:=W X M σ w _ r.sim h2;rw[X9]at Q q2;obtain⟨q3,G,L,q5,q6⟩:=q2 (min m.length n) (Nat.min_le_left _ _);have d:((m.map e).take (min m.length n)).length=min m.length n:=by rw[XD,X9];omega
 have z:l'.map e=(l.map e).take a++(m.map e).take (min m.length n)++(l.map e).drop (a+((m.map e).take (min m.length n)).length):=by
  rw[d, <- aa,Xg,Xg, <- List.map_take, <- List.map_take, <- List.map_drop];have e2:m.take (min m.length n)=m.take n:=by
   by_cases q:m.length<=n
   .rw[XH q,Vh,List.take_of_length_le q]
   .rw[Nat.min_eq_right (by omega)]
  rw[e2]
 have g:(Builtin.copy_ #[T,T'] o.type #[ac.eval x,ac.eval y]).run P w=.ok (.int .i64 (min m.length n:Nat)) w->min m.length n=0->
   ∃v w' ro' τ,(execOp ac.eval o).run P w=.ok (.value v) w'/\VR ro' (σ++τ) w' (.int .i64 (min m.length n:Nat)) v/\Sim X ro' (σ++τ) (H.set b (.row t k (l'.map e))) w'/\Qf X M w ro' w':=by
  intro h hz;have W:H.set b (.row t k (l'.map e))=H:=by
   have:l'.map e=l.map e:=by rw[z,d,hz];simp
   rw[this];obtain⟨hb,hv⟩:=XS.1 Y;rw[<- hv,List.set_getElem_self]
  refine⟨_,w,M,[],?_,rfl,by simpa[W]using r.sim,Qf.refl _ _ _⟩;subst hc;generalize ac.eval=ρ at*;simp only[execOp,ho,resolve,Vu,Vv,Result.andThen,invoke,builtin,XP,Vr,Vs,h]
 have E:∀j:Nat,goInt j=.int .i64 j:=λ_=>rfl;rcases u with⟨J,u⟩|⟨bb,p,ae,t',mm,u,h3,h4,h5,h6,h7⟩
 .refine g ?_ (by omega);rw[Q]at L⊢;rw[u];have:Nat.min m.length 0=min m.length n:=by rw[J]
  simp only[Builtin.copy_,XN,XL,XM,Vu,hT,F,Result.andThen,Builtin.lenOf,Vv,this,L,E]
 .have f:∀R:Result Unit,(storeCells ⟨bb,p,none⟩ G).run P w=R->(Builtin.copy_ #[T,T'] o.type #[ac.eval x,ac.eval y]).run P w=R.andThen λ_ w=>.ok (.int .i64 (min m.length n:Nat)) w:=by
   intro R hR;rw[Q]at L⊢;rw[h3];have:Nat.min m.length n=min m.length n:=rfl;simp only[Builtin.copy_,XN,XL,XM,Vu,hT,F,Result.andThen,Builtin.lenOf,Vv,this,L,E,hR]
  by_cases J:min m.length n=0
  .have s:G=[]:=by
    have:=q5.length;rw[J]at this;exact List.length_eq_zero_iff.1 (by simpa using this)
   refine g ?_ J;have:=f (.ok () w) (by rw[s];rfl);rw[this];rfl
  .obtain rfl:=h4 (by omega);obtain⟨l0,g1,g2⟩:=r.sim.blk b _ _ u Y;have ab:=g2.length;have s:=q5.length;rw[YS q3,d]at s;have af:a*k+(min m.length n)*k<=l0.length:=by
    rw[<- XG];refine X3 (XI k ?_) ab;rw[X9];omega
   have B:=YF (P:=P) (vs:=G) (a*k) 0 g1 (by omega) q6;rw[XC]at B;have h:=f _ B;have i:=r.sim.set (x':=.row t k (l'.map e)) (obj:=.cells (splice l0 (a*k) G).toArray t (0,0)) u Y rfl
    (λy V=>QaR g1 (Yl (by omega)) y V)
    (λex O=>⟨_,O,by
     rw[z];exact(RL.put g2 (by rw[d,X9];omega) q3 q5 q6).mono ex.nil⟩)
   refine⟨_,_,M,[],?_,rfl,by simpa using i.1,i.2⟩;subst hc;generalize ac.eval=ρ at*;simp only[execOp,ho,resolve,Vu,Vv,Result.andThen,invoke,builtin,XP,Vr,Vs,h]
theorem QkD{α:Type}{e:α->List A}{c:Call}{T T' et k b t:Nat}{x y:Operand}{ya:A}{l m l':List α}(h:cpy l 0 (l.length:Int) m=some l')(f:∀w,(underlying T).run P w=.ok (.slice et) w)(a:∀w,(sizeOf et).run P w=.ok k w)(d:Qko P H ya k (m.map e))
  (g:o.op=.call c:=by exact rfl)(hc:c={callee:=.builtin .copy,args:= #[x,y],argTypes:= #[T,T']}:=by exact rfl)(hx:opA env x=.osl b 0 l.length k:=by exact rfl)(hH:H[b]?=some (.row t k (l.map e)):=by exact rfl)(hy:opA env y=ya:=by exact rfl):
  OpH P o env H (.int .i64 (min m.length l.length:Nat)) (H.set b (.row t k (l'.map e))):=by
 refine QfR (Nat.le_of_eq (XB _)) ?_ f a d g hc hx hH hy;rw[<- X7 h];rfl
theorem QkE{α:Type}{e:α->List A}{c:Call}{T T' et k b t:Nat}{x y:Operand}{ya:A}{l f m l':List α}{i j:Int}(p:slc l i j=some f)(h:cpy l i j m=some l')(g:∀w,(underlying T).run P w=.ok (.slice et) w)(d:∀w,(sizeOf et).run P w=.ok k w)(q:Qko P H ya k (m.map e))
  (n:o.op=.call c:=by exact rfl)(hc:c={callee:=.builtin .copy,args:= #[x,y],argTypes:= #[T,T']}:=by exact rfl)(hx:opA env x=.osl b (0+i.toNat) (j.toNat-i.toNat) k:=by exact rfl)(hH:H[b]?=some (.row t k (l.map e)):=by exact rfl)(hy:opA env y=ya:=by exact rfl):
  OpH P o env H (.int .i64 (min m.length (j.toNat-i.toNat):Nat)) (H.set b (.row t k (l'.map e))):=by
 obtain⟨u,s,z,r⟩:=QdX p;refine QfR (a:=i.toNat) (by omega) (X7 h) g d q n hc ?_ hH hy;rw[hx,XB]
end
end Go.Sw
namespace Go.Sw
open Go.MapKept
section
variable {fr ro ro':Nat->Prop}{σ:Sig}{H:Qc}{w:World}
theorem SO.toVR{t k:Nat}{rows:List (List A)}{v:Value}(ext:Ext ro [] w ro' [] w)(h:SO ro w t k rows v)(f:∀c p n cap,v=.slice (some ⟨c,p,none⟩) n cap->ro' c):VR ro' [] w (.rsl k rows) v:=by
 rcases h with⟨rfl,rfl⟩|⟨c,p,cap,vs,a,b,i,j,d,g⟩
 .exact⟨none,0,rfl,X0 _,.inl rfl⟩
 .refine⟨some ⟨c,p,none⟩,cap,a,b,?_⟩;by_cases e:rows=[]
  .exact .inl e
  .obtain rfl:=g (Vn (List.length_pos_iff.2 e) b);exact .inr ⟨c,0,rfl,f c _ _ _ a,Jm (pre:=[]) (by simpa using i) (d.mono ext)⟩
theorem Qjz{t k:Nat}(ext:Ext ro [] w ro' [] w):∀{es:List (A×Option (List (List A)))}{l:List MapEntry},MO ro w t k es l->(∀e∈es,e.2.isSome=true)->(∀c,Jf es l c->ro' c)->ER ro' [] w (es.map λe=>(e.1,A.rsl k (e.2.getD []))) l
 |[],_,h,_,_=>h
 |x::r,_,⟨e,l',h1,h2,h3,h4⟩,ha,hr=>by
  subst h1;have hx:=ha x (Vc ..);obtain⟨rows,hx2⟩:=Option.isSome_iff_exists.1 hx;refine⟨e,l',rfl,h2.mono ext,?_,Qjz ext h4 (λe he=>ha e (Vd _ he)) λc hc=>hr c (.inr hc)⟩;have:=(h3 rows hx2).toVR ext λc p n cap hv=>hr c (.inl ⟨hx,p,n,cap,hv⟩);show VR ro' [] w (.rsl k (x.2.getD [])) e.val;rw[hx2];exact this
theorem Sim.shutOF(s:Sim fr ro σ H w){i b t k:Nat}{es:List (A×Option (List (List A)))}(hσ:σ[i]?=some (some b))(x:H[i]?=some (.mapO false t k es))(T:∀e∈es,e.2.isSome=true):
  Sim fr (λc=>ro c\/c=b\/Hid w (.mapO false t k es) b c) σ (H.set i (.fmap (es.map λe=>(e.1,A.rsl k (e.2.getD []))))) w:=by
 have u:b<w.heap.size/\ ¬ro b/\ ¬fr b:=s.own i b _ hσ x rfl;have hid:=λc q=>s.hid i b _ c hσ x q;have ext:Ext ro σ w (λc=>ro c\/c=b\/Hid w (.mapO false t k es) b c) σ w:=⟨λ_ q=>.inl q,λ_ _=>rfl,λ_ _ q=>q,λ_ _ q=>q⟩;have N:i<H.length:=(XS.1 x).1;have a:∀(j:Nat) (v:Blk),(H.set i (.fmap (es.map λe=>(e.1,A.rsl k (e.2.getD [])))))[j]?=some v->(v.live=true\/ ∃d c,Hid w v d c)->j≠i/\H[j]?=some v:=by
  intro j v h E;by_cases e:j=i
  .subst e;rw[Xa N]at h;cases h;rcases E with E|⟨d,c,E⟩
   .cases E
   .exact E.elim
  .rw[XW (λq=>e q.symm)]at h;exact⟨e,h⟩
 refine⟨by rw[Vb];exact s.len,s.roOk.to (λ_ q=>.inl q) (λ_ _=>rfl) ?_,s.frLt,?_,?_,?_,?_,?_⟩
 .rintro c (q|rfl|q)
  .exact s.roLt c q
  .exact u.1
  .exact(hid c q).lt
 .rintro c (q|rfl|q)
  .exact s.roFr c q
  .exact u.2.2
  .exact(hid c q).fr
 .intro j c v n f p;obtain⟨e,f⟩:=a j v f (.inl p);obtain⟨F,J,Q⟩:=s.own j c v n f p;refine⟨F,?_,Q⟩;rintro(q|rfl|q)
  .exact J q
  .exact e (s.inj j i c v _ n hσ f x p rfl)
  .exact(hid c q).ne j c v n f p rfl
 .intro j r c v R n f p V P O;exact s.inj j r c v R n f (a j v p (.inl P)).2 (a r R V (.inl O)).2 P O
 .intro j y v n f;by_cases e:j=i
  .subst e;rw[Xa N]at f;cases f;rw[hσ]at n;cases n;obtain⟨_,l,m,F,J,Q,p4,X,W,_⟩:=s.blk j _ _ hσ x;exact⟨.inr (.inl rfl),l,m,F,Qjz ext.nil J T (λc Y=>.inr (.inr ⟨l,m,F,Y⟩)),p4,X,W⟩
  .rw[XW (λq=>e q.symm)]at f;exact(s.blk j y v n f).keep ext (λ_ _ _=>rfl) (λ_ _ _ _=>rfl)
 .intro j d y c n f p;obtain⟨e,f⟩:=a j y f (.inr ⟨d,c,p⟩);have g:=s.hid j d y c n f p;refine⟨g.lt,?_,g.fr,λr L B G M z=>g.ne r L B G (a r B M (.inl z)).2 z,λr L B G M z=>g.one r L B G (a r B M (.inr ⟨_,_,z⟩)).2 z⟩;rintro(q|rfl|q)
  .exact g.ro q
  .exact g.ne i c _ hσ x rfl rfl
  .exact e ((g.one i b _ hσ x q).2.symm)
end
def Qcp{α β:Type}:List (α×Option (List β))->Option (List (α×List β))
 |[]=>some []
 |(x,some r)::l=>(Qcp l).map ((x,r):: ·)
 |(_,none)::_=>none
theorem QgY{α β:Type}{ek:α->A}{ev:β->List A}{k:Nat}:∀{l:List (α×Option (List β))}{m:List (α×List β)},Qcp l=some m->
  ((QQ ek ev l).map λe=>(e.1,A.rsl k (e.2.getD [])))=Qz ek (λr=>A.rsl k (r.map ev)) m/\ ∀e∈QQ ek ev l,e.2.isSome=true
 |[],m,h=>by obtain rfl:=X7 h;exact⟨rfl,λe he=>by cases he⟩
 |(x,some r)::l,m,h=>by
  unfold Qcp at h;cases q:Qcp l with
  |none=>rw[q]at h;cases h
  |some m'=>
   rw[q]at h;obtain rfl:=X7 h;obtain⟨h1,h2⟩:=QgY (ek:=ek) (ev:=ev) (k:=k) q;refine⟨?_,λe he=>?_⟩
   .unfold QQ Qz at*;simp only[Vr,h1];rfl
   .rcases Ve.1 he with rfl|he
    .rfl
    .exact h2 e he
 |(x,none)::l,m,h=>by cases h
theorem QmK{α β:Type}{ek:α->A}{ev:β->List A}{h0 i t k:Nat}{env:Env}{H:Qc}{l:List (α×Option (List β))}{m:List (α×List β)}(h:Qcp l=some m)(e:H[i]?=some (.mapO false t k (QQ ek ev l)):=by exact rfl):
  Le h0 env H env (H.set i (.fmap (Qz ek (λr=>A.rsl k (r.map ev)) m))):=by
 intro n j σ N a w r;obtain⟨f,g⟩:=QgY (ek:=ek) (ev:=ev) (k:=k) h;have d:∃s,σ[i]?=some s:=by
  have:i<σ.length:=by rw[r.sim.len];exact(XS.1 e).1
  exact⟨_,XR this⟩
 obtain⟨s,d⟩:=d;cases s with
 |none=>exact(r.sim.blk i _ _ d e).elim
 |some b=>
  have:=r.sim.shutOF d e g;rw[f]at this;exact⟨_,σ,⟨this,λq=>(r.env q).mono ⟨λ_ q=>.inl q,λ_ _=>rfl,λ_ _ q=>q,λ_ _ q=>q⟩,r.size,r.defers⟩,λ_ q=>.inl q,rfl⟩
theorem Ojr{S B:Type}{d D:Ctl S B}{x:B}(hb:∀b,d=.done b->D=.done b)(h:some (Ctl.done x)=some d):D=.done x:=hb x (Oi h).symm
theorem QmJ{α β:Type}{ek:α->A}{ev:β->List A}{h0 i t k:Nat}{env:Env}{H H':Qc}{l:List (α×Option (List β))}{m:List (α×List β)}(h:Qcp l=some m)(a:H[i]?=some (.mapO false t k (QQ ek ev l)):=by exact rfl)
  (e:H.set i (.fmap (Qz ek (λr=>A.rsl k (r.map ev)) m))=H':=by exact rfl):Le h0 env H env H':=e▸QmK h a
end Go.Sw
namespace Go.Sw
theorem gd20{α:Type}{n:Int}{x:Option α}{r:α}(h:(bif decide (n<20)then x else none)=some r):decide (20<=n)=false/\decide (20<n)=false/\x=some r:=by
 cases q:decide (n<20)with
 |false=>rw[q]at h;cases h
 |true=>
  rw[q]at h;have:=of_decide_eq_true q;exact⟨decide_eq_false (by omega),decide_eq_false (by omega),h⟩
def Qcs{α:Type}(l:List α)(o:Option (List α)):Option (List α):=o.bind λr=>bif Nat.beq l.length r.length then some r else none
theorem Qg4{α:Type}{l r:List α}{o:Option (List α)}(h:Qcs l o=some r):o=some r/\l.length=r.length:=by
 cases o with
 |none=>cases h
 |some x=>
  have a:(bif Nat.beq l.length x.length then some x else none)=some r:=h;cases q:Nat.beq l.length x.length with
  |false=>rw[q]at a;cases a
  |true=>
   rw[q]at a;obtain rfl:=X7 a;exact⟨rfl,XX q⟩
theorem Qek{α:Type}{l r:List α}{o:Option (List α)}(h:Qcs l o=some r):o=some r:=(Qg4 h).1
theorem Jh{α:Type}{l r:List α}{o:Option (List α)}(h:Qcs l o=some r):l.length=r.length:=(Qg4 h).2
section
variable {P:Program}{o:Oper}{env:Env}{H:Qc}{α:Type}{e:α->List A}
end
abbrev Ea:=@Ev.bind
abbrev Ec:=@FzH.keep
abbrev Ed:=@FzL.cons
abbrev Ee:=@FzA.refl
abbrev Ef:=@TC.le
abbrev Eg:=@PL.cons
abbrev Eh:=@DS.done
abbrev Ei:=@Ev.and
abbrev Ej:=@EvI.done
abbrev Ek:=@FzL.refl
abbrev El:=@OpH.lit
abbrev Em:=@RF.cons
abbrev En:=@Le.trans
abbrev Eo:=@ZR.int
abbrev Ep:=@FzA.o
abbrev Er:=@Le.phantom
abbrev Et:=@WO.le
abbrev Eu:=@EvI.cont
abbrev Ew:=@Ev.iter
abbrev Ex:=@OpU.store
abbrev Ey:=@OpV.load
abbrev Ez:=@Ev.const
theorem Zf.{u,v}{α:Sort u}{β:Sort v}{f:α->β}:∀x,f x=f x:=λ_=>rfl
abbrev Ze.{u,v}{α:Sort u}{β:Type v}:α->List β:=λ_=>[]
end Go.Sw
