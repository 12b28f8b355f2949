/- The rules by which the code is walked, with what they rest on (part 3). -/
import Derived.Test.YtkfjchmhgpkcbaaGreatL2
set_option linter.unusedVariables false
set_option linter.unusedSectionVars false
set_option linter.unusedSimpArgs false
namespace Go.Sw
structure TyX where
 ty:TyI
 al:List (Nat×A)
 sl:List Nat
structure Qbw (P:Program) (T:TyX):Prop where
 ty:TyOK P T.ty
 al:∀e∈T.al,(∃z,(∀w,(zeroValue e.1).run P w=.ok z w)/\ZR e.2 z)/\Yl e.2=true/\(Q9 e.2).all Yt=true
 sl:∀t∈T.sl,∃et,∀w,(underlying t).run P w=.ok (.slice et) w
def YY(all:Array Oper)(o:Oper)(env:Env):Option Bool:=
 match o.guard with
 |none=>some true
 |some (j,c)=>match(all[j]?).bind (·.dst)with
  |none=>none
  |some d=>match lk env d with
   |.bool true=>some c
   |.bool false=>some (!c)
   |.tup []=>some false
   |_=>none
theorem QM{all:Array Oper}{o:Oper}{env:Env}{b:Bool}(h:YY all o env=some b):Qs all o env b:=by
 unfold YY at h;unfold Qs;split at h
 .rename_i q;rw[q];cases h;rfl
 .rename_i j c q;rw[q];split at h
  .cases h
  .rename_i d e;refine⟨d,e,?_⟩;split at h
   .rename_i a;cases h;exact .inl ⟨true,a,by simp⟩
   .rename_i a;cases h;exact .inl ⟨false,a,by cases c<;>rfl⟩
   .rename_i a;cases h;exact .inr ⟨a,rfl⟩
   .cases h
def Qda:List Nat->Nat->Bool
 |[],_=>false
 |a::r,t=>bif Nat.beq a t then true else Qda r t
theorem Qgm{l:List Nat}{t:Nat}(h:Qda l t=true):t∈l:=by
 induction l with
 |nil=>cases h
 |cons a r b=>
  unfold Qda at h;cases q:Nat.beq a t with
  |true=>have:=XX q;subst this;exact .head _
  |false=>rw[q]at h;exact .tail _ (b h)
inductive FL where
 |mk (l:List A)
def fl:List A->FL
 |[]=>.mk []
 |a::r=>match fl r with
  |.mk r'=>.mk (a::r')
theorem Qb3:∀l:List A,fl l=.mk l
 |[]=>rfl
 |a::r=>by unfold fl;rw[Qb3 r]
inductive FB where
 |mk (l:List Blk)
def fb:List Blk->FB
 |[]=>.mk []
 |a::r=>match fb r with
  |.mk r'=>.mk (a::r')
theorem Qjm:∀l:List Blk,fb l=.mk l
 |[]=>rfl
 |a::r=>by unfold fb;rw[Qjm r]
inductive FN where
 |mk (n:Nat)
def fn:List Blk->Nat->FN
 |[],n=>.mk n
 |_::r,n=>fn r (n+1)
theorem Ql6:∀(l:List Blk) (n:Nat),fn l n=.mk (l.length+n)
 |[],n=>by simp[fn]
 |a::r,n=>by unfold fn;rw[Ql6 r];simp;omega
def Qjk(env:Env)(pl:List (Nat×Nat)):List A->List (Nat×Operand)->Option (List A)
 |cs,[]=>some cs
 |cs,(i,x)::r=>match YN pl i with
  |none=>none
  |some (off,size)=>match opB env x with
   |.mk a=>match fl (Q9 a)with
    |.mk vs=>bif Yl a&&Nat.beq vs.length size&&Nat.ble (off+size) cs.length then(match fl (splice cs off vs)with
     |.mk cs'=>Qjk env pl cs' r)else none
theorem Qhr{env:Env}{pl:List (Nat×Nat)}:∀(parts:List (Nat×Operand)) (cs:List A),Qjk env pl cs parts=QeF env pl cs parts
 |[],cs=>rfl
 |(i,x)::r,cs=>by
  unfold Qjk QeF;rw[Qaz];cases pl[i]? with
  |none=>rfl
  |some q=>
   obtain⟨off,size⟩:=q;cases h:opB env x with
   |mk a=>
    rw[QC h];simp only[Qb3];cases(Yl a&&Nat.beq (Q9 a).length size&&Nat.ble (off+size) cs.length)with
    |false=>rfl
    |true=>exact Qhr r _
def Qhc(env:Env):List Operand->List A
 |[]=>[]
 |x::r=>match opB env x with
  |.mk a=>a::Qhc env r
theorem Qcz{env:Env}:∀l:List Operand,Qhc env l=l.map (opA env)
 |[]=>rfl
 |x::r=>by
  unfold Qhc;cases h:opB env x with
  |mk a=>rw[Vr,QC h];show a::Qhc env r=_;rw[Qcz r]
def ptX(H:Qc):Bx->Option Lx
 |.mk (.rp cs)=>some (.mk cs)
 |.mk (.ptr i off)=>match YN H i with
  |some (.cells _ cs)=>some (QhH off cs)
  |_=>none
 |_=>none
theorem QoP{H:Qc}{p:A}{cs:List A}(h:ptX H (.mk p)=some (.mk cs)):Pts H p cs:=by
 unfold ptX at h;split at h
 .rename_i q;cases q;cases h;exact Pts.rp
 .rename_i i b q;cases q;split at h
  .rename_i a;rw[Qaz]at a;simp only[Option.some.injEq]at h;exact Pts.cells a (QeU h)
  .cases h
 .cases h
def Qc1(T:TyX)(o:Oper)(env:Env)(H:Qc):Option A:=
 match o.op with
 |.move x=>match opB env x with|.mk a=>some a
 |.assign x=>match opB env x with|.mk a=>some a
 |.nilCheck x=>nlB (opB env x)
 |.extract x i=>exB (opB env x) i
 |.unOp u _ x=>unB u (opB env x)
 |.pick c x y=>piB (opB env c) (opB env x) (opB env y)
 |.binOp b _ x y _=>biB b (opB env x) (opB env y)
 |.fieldAddr t x f=>match Qho T.ty.fld t f with
  |none=>none
  |some off=>match opB env x with
   |.mk (.ptr i p)=>some (.ptr i (p+off))
   |.mk (.rp cs)=>match QhH off cs with
    |.mk r=>some (.rp r)
   |_=>none
 |.load t x=>match QbY T.ty.agg t with
  |none=>none
  |some (b,n)=>match x with
   |.global g=>match YN Qil g with
    |some zs=>bif b&&Nat.beq zs.length n then(match fl (zs.map (A.int .i64))with|.mk l=>some (.agg l))else none
    |none=>none
   |x=>match ptX H (opB env x)with
    |none=>none
    |some (.mk cs)=>match b with
     |true=>(match fl (cs.take n)with|.mk l=>bif Nat.beq l.length n then some (.agg l)else none)
     |false=>(match cs with|[]=>none|a::_=>some a)
 |.build t parts=>match QbY T.ty.zer t with
  |none=>none
  |some (zs,pl)=>match Qjk env pl zs parts.toList with
   |some cs=>some (.agg cs)
   |none=>none
 |.makeFunc f first cap=>match fl (Qhc env first.toList),fl (Qhc env cap.toList)with
  |.mk l,.mk l'=>some (.fn f l l')
 |.call c=>match c with
  |{callee:=.builtin .len,args:=⟨[x]⟩,argTypes:=⟨[t]⟩}=>bif Qda T.sl t then(match opB env x with
   |.mk (.osl _ 0 n _)=>some (.int .i64 n)
   |_=>none)else none
  |_=>none
 |_=>none
theorem Qau{P:Program}{T:TyX}(s:Qbw P T){o:Oper}{env:Env}{H:Qc}{x:A}(h:Qc1 T o env H=some x):OpV P o env H x:=by
 unfold Qc1 at h;split at h
 .rename_i y a;exact Qbz a (by unfold svB;exact h)
 .rename_i y a;exact Qbz a (by unfold svB;exact h)
 .rename_i y a;exact Qbz a (by unfold svB;exact h)
 .rename_i y i a;exact Qbz a (by unfold svB;exact h)
 .rename_i u t y a;exact Qbz a (by unfold svB;exact h)
 .rename_i c y z a;exact Qbz a (by unfold svB;exact h)
 .rename_i b t y z u a;exact Qbz a (by unfold svB;exact h)
 .rename_i t y f a;split at h
  .cases h
  .rename_i E m;obtain⟨n,J⟩:=s.ty.fld _ (Qhn m);split at h
   .rename_i i p w;cases h;exact Qcj J a (QC w)
   .rename_i d w;cases q:QhH E d with
    |mk r=>rw[q]at h;cases h;exact Qfb J a (QC w) (QeU q)
   .cases h
 .rename_i t y a;split at h
  .cases h
  .rename_i b n Q;obtain⟨j,l⟩:=s.ty.agg _ (Qav Q);split at h
   .rename_i g;split at h
    .rename_i G L;rw[Qaz]at L;cases q:(b&&Nat.beq G.length n)with
     |false=>rw[q]at h;cases h
     |true=>
      rw[q,Qb3]at h;cases h;simp only[X4]at q;obtain⟨rfl,B⟩:=q;exact Qf5 j l L (XX B) a
    .cases h
   .cases e:opB env y with
    |mk p=>
     rw[e]at h;split at h
     .cases h
     .rename_i d N;have F:=QoP N;cases b with
      |true=>
       simp only[Qb3]at h;cases q:Nat.beq (d.take n).length n with
       |false=>rw[q]at h;cases h
       |true=>
        rw[q]at h;cases h;exact QI a j l (QC e) F rfl (XX q)
      |false=>
       cases d with
       |nil=>cases h
       |cons v d=>cases h;exact OpV.load a j (QC e) F
 .rename_i t parts a;split at h
  .cases h
  .rename_i G V R;obtain⟨⟨z,j,l⟩,M⟩:=s.ty.zer _ (Qav R);split at h
   .rename_i d m;cases h;rw[Qhr]at m;exact OpV.build j l M (by rw[a]) m
   .cases h
 .rename_i f first cap a
  simp only[Qb3]at h;cases h;rw[Qcz,Qcz];exact OpV.makeFunc (first:=first.toList) (cap:=cap.toList) (by rw[a]) rfl rfl
 .rename_i c a;split at h
  .rename_i y t;cases q:Qda T.sl t with
   |false=>rw[q]at h;cases h
   |true=>
    rw[q]at h;simp only[cond_true]at h;obtain⟨W,O⟩:=s.sl t (Qgm q);split at h
    .rename_i i n k B;cases h;exact QkM O a rfl (QC B)
    .cases h
  .cases h
 .cases h
def stX(T:TyX)(h0 N:Nat)(all:Array Oper)(o:Oper)(env:Env)(H:Qc):Option (Env×Qc):=
 match YY all o env with
 |none=>none
 |some false=>match o.dst with
  |none=>none
  |some d=>bif Nat.blt d N then some (up env d (.tup []),H)else none
 |some true=>match o.dst with
  |none=>match o.op with
   |.store t x y=>match opB env x,QbY T.ty.agg t with
    |.mk (.ptr i off),some (_,n)=>match YN H i with
     |some (.cells S cs)=>match opB env y with
      |.mk a=>match fl (Q9 a)with
       |.mk vs=>bif Nat.ble h0 H.length&&(Yl a&&(Nat.beq vs.length n&&(vs.all Yt&&Nat.ble (off+n) cs.length)))then(match fl (splice cs off vs)with
        |.mk cs'=>match fb (H.set i (.cells S cs'))with
         |.mk H'=>some (env,H'))else none
     |_=>none
    |_,_=>none
   |_=>none
  |some d=>bif Nat.blt d N then(match o.op with
   |.alloc t=>match QbY T.al t with
    |some v=>bif Nat.ble h0 H.length then(match fn H 0,fl (Q9 v)with
     |.mk n,.mk cs=>match fb (H++[.cells t cs])with
      |.mk H'=>some (up env d (.ptr n 0),H'))else none
    |none=>none
   |.box t x=>match opB env x with
    |.mk a=>bif Nat.ble h0 H.length&&(Yl a&&(Q9 a).all Yt)then(match fn H 0,fl (Q9 a)with
     |.mk n,.mk cs=>match fb (H++[.cells t cs])with
      |.mk H'=>some (up env d (.ptr n 0),H'))else none
   |_=>match Qc1 T o env H with
    |some a=>some (up env d a,H)
    |none=>none)else none
section
variable {P:Program}{T:TyX}{h0 N:Nat}{all:Array Oper}{l l':List Oper}{env env':Env}{H H':Qc}{Q:Qy}
theorem Qlc(w:Qbw P T){o:Oper}(h:stX T h0 N all o env H=some (env',H'))(k:WO P h0 N all l env' H' Q):WO P h0 N all (o::l) env H Q:=by
 unfold stX at h;split at h
 .cases h
 .rename_i m;have g:=QM m;split at h
  .cases h
  .rename_i d f;cases q:Nat.blt d N with
   |false=>rw[q]at h;cases h
   |true=>rw[q]at h;cases h;exact WO.skip g f q k
 .rename_i m;have g:=QM m;split at h
  .rename_i f;split at h
   .rename_i t x y j;split at h
    .rename_i i u b n R V;split at h
     .rename_i S cs hH;rw[Qaz]at hH;cases e:opB env y with
      |mk a=>
       rw[e]at h;simp only[Qb3,Qjm]at h;generalize hc:(Nat.ble h0 H.length&&(Yl a&&(Nat.beq (Q9 a).length n&&((Q9 a).all Yt&&Nat.ble (u+n) cs.length))))=c at h;cases c with
       |false=>cases h
       |true=>
        cases h;simp only[X4]at hc;obtain⟨s,r,p,F,L⟩:=hc;obtain⟨_,M⟩:=w.ty.agg _ (Qav V);exact QiG (XY s) g f (OpU.store j (QC R) hH M (QC e) r rfl (XX p) F L rfl) k
     .cases h
    .cases h
   .cases h
  .rename_i d f;cases q:Nat.blt d N with
   |false=>rw[q]at h;cases h
   |true=>
    rw[q]at h;simp only[cond_true]at h;split at h
    .rename_i t j;split at h
     .rename_i v J;cases c:Nat.ble h0 H.length with
      |false=>rw[c]at h;cases h
      |true=>
       rw[c]at h;simp only[Qb3,Qjm,Ql6,cond_true,XC]at h;cases h;obtain⟨⟨z,B,E⟩,W,G⟩:=w.al _ (Qav J);exact Qci (XY c) g f q (Qck B E j W rfl G) k
     .cases h
    .rename_i t x j;cases e:opB env x with
     |mk a=>
      rw[e]at h;simp only[Qb3,Qjm,Ql6,XC]at h;generalize hc:(Nat.ble h0 H.length&&(Yl a&&(Q9 a).all Yt))=c at h;cases c with
      |false=>cases h
      |true=>
       cases h;simp only[X4]at hc;obtain⟨s,r,p⟩:=hc;exact Qci (XY s) g f q (OpH.box j (QC e) r rfl p) k
    .split at h
     .rename_i a O;cases h;exact QF g f q (Qau w O) k
     .cases h
end
theorem yc{α:Type}{p:α->Prop}{a:α}{l:List α}(h:p a)(k:∀x∈l,p x):∀x∈a::l,p x:=List.forall_mem_cons.2 ⟨h,k⟩
theorem FA{P:Program}{T f off n:Nat}{fs:Array Field}{a:Field}(g:∀w,(underlying T).run P w=.ok (.struct fs) w)(b:fs[f]?=some a)(d:∀w,(sizeOf a.type).run P w=.ok n w)(e:a.offset=off:=by exact rfl)(h5:n≠0:=by decide):Jk P T f off n:=⟨_,_,g,b,e,d,h5⟩
theorem QbA:∀(π:List Nat) (H:Qc) (xs:List Blk),π.map (λp=>H[p]?)=xs.map some->Yh H π xs=H
 |[],H,xs,h=>by
  have:xs=[]:=by cases xs with
   |nil=>rfl
   |cons x xs=>simp at h
  subst this;simp[Yh]
 |p::π,H,[],h=>by simp at h
 |p::π,H,x::xs,h=>by
  simp only[Vr,List.cons.injEq]at h;have e:H.set p x=H:=by
   apply List.ext_getElem?;intro i;rw[Xb];by_cases q:p=i
   .subst q;rw[if_pos rfl,h.1];have:=(XS.1 h.1).1;rw[if_pos this]
   .rw[if_neg q]
  unfold Yh;rw[e];exact QbA π H xs h.2
def Qid:A->Option Bx
 |.bool b=>some (.mk (.bool b))
 |.int k n=>some (.mk (.int k n))
 |.str s=>some (.mk (.str s))
 |.rsl k es=>some (.mk (.rsl k es))
 |_=>none
theorem Qi2{v a:A}(h:Qid v=some (.mk a))(ρ:Nat->Nat):Yw ρ v=a:=by
 cases v<;>first|(cases h;rfl)|cases h
theorem Pc{P:Program}{h0 N:Nat}{all:Array Oper}{o:Oper}{l:List Oper}{env:Env}{H:Qc}{Q:Qy}{d:Nat}{f:FuncId}{args b:List A}{Hc:Qc}{v g:A}(π:List Nat)(j:o.dst=some d)(e:OpC P o env H f args)(h:C P f b Hc (λa H1=>a=v/\H1=Hc))(i:Qid v=some (.mk g))
  (k:WO P h0 N all l (up env d g) H Q)
  (hargs:args=Qaa (rho π H.length) b:=by exact rfl)(hH:π.map (λp=>H[p]?)=(Hc.map (QV (rho π H.length))).map some:=by exact rfl)(hπ:π.Nodup:=by decide)
  (hg:Qs all o env true:=by exact rfl)(hN:Nat.blt d N=true:=by exact rfl)(hh:Nat.ble h0 H.length=true:=by exact rfl):WO P h0 N all (o::l) env H Q:=by
 refine Qw π e h ?_ hargs hH hπ hg j hN hh;rintro r H1 ⟨rfl,rfl⟩;rw[Qi2 i,QbA π H _ hH];exact k
theorem Q2{i k:Nat}{es:List (List A)}:∀H:Qc,FzH i k es H H
 |[]=>.nil
 |_::r=>.keep (Q2 r)
def foN:Nat->FN
 |0=>.mk 0
 |n+1=>match foN n with
  |.mk m=>.mk (m+1)
theorem QeD:∀n,foN n=.mk n
 |0=>rfl
 |n+1=>by unfold foN;rw[QeD n]
mutual
def foA:A->Bx
 |.agg cs=>match foL cs with
  |.mk l=>.mk (.agg l)
 |.tup cs=>match foL cs with
  |.mk l=>.mk (.tup l)
 |.fn f a c=>match foL a,foL c with
  |.mk l,.mk l'=>.mk (.fn f l l')
 |.iface t v=>match foA v with
  |.mk v'=>.mk (.iface t v')
 |.ptr i off=>match foN i with
  |.mk i'=>.mk (.ptr i' off)
 |.osl i o n k=>match foN i with
  |.mk i'=>.mk (.osl i' o n k)
 |.map i=>match foN i with
  |.mk i'=>.mk (.map i')
 |a=>.mk a
def foL:List A->FL
 |[]=>.mk []
 |a::r=>match foA a,foL r with
  |.mk a',.mk r'=>.mk (a'::r')
end
mutual
theorem Qim:∀a:A,foA a=.mk a
 |.agg cs=>by unfold foA;rw[Qcf cs]
 |.tup cs=>by unfold foA;rw[Qcf cs]
 |.fn f a c=>by unfold foA;rw[Qcf a,Qcf c]
 |.iface t v=>by unfold foA;rw[Qim v]
 |.ptr i off=>by unfold foA;rw[QeD]
 |.osl i o n k=>by unfold foA;rw[QeD]
 |.map i=>by unfold foA;rw[QeD]
 |.any|.bool _|.int _ _|.str _|.nilp|.rp _|.nils|.rsl _ _|.nilf|.nilif|.nilm=>by rfl
theorem Qcf:∀l:List A,foL l=.mk l
 |[]=>by rfl
 |a::r=>by unfold foL;rw[Qim a,Qcf r]
end
inductive FE2 where
 |mk (l:List (List A))
def foE:List (List A)->FE2
 |[]=>.mk []
 |a::r=>match foL a,foE r with
  |.mk a',.mk r'=>.mk (a'::r')
theorem Ql5:∀l,foE l=.mk l
 |[]=>rfl
 |a::r=>by unfold foE;rw[Qcf,Ql5 r]
def foH:List Blk->FB
 |[]=>.mk []
 |b::r=>match foH r with
  |.mk r'=>match b with
   |.cells t cs=>match foL cs with
    |.mk l=>.mk (.cells t l::r')
   |.rowr t k es=>match foE es with
    |.mk l=>.mk (.rowr t k l::r')
   |.dead=>.mk (.dead::r')
   |.row t k es=>.mk (.row t k es::r')
   |.map es=>.mk (.map es::r')
   |.iter c es=>.mk (.iter c es::r')
   |.fmap es=>.mk (.fmap es::r')
   |.mapO fz t k es=>.mk (.mapO fz t k es::r')
   |.ents t a b es=>match foN a,foN b with
    |.mk a',.mk b'=>.mk (.ents t a' b' es::r')
theorem Ql4:∀l,foH l=.mk l
 |[]=>rfl
 |b::r=>by
  unfold foH;rw[Ql4 r];cases b<;>simp only[Qcf,Ql5,QeD]
def foS(env:Env)(H:Qc):Option (Env×Qc):=
 match foH H with
 |.mk H'=>match env with
  |[]=>some ([],H')
  |(d,a)::e=>match foA a with
   |.mk a'=>some ((d,a')::e,H')
theorem Qpa(env:Env)(H:Qc):foS env H=some (env,H):=by
 unfold foS;rw[Ql4];cases env with
 |nil=>rfl
 |cons p e=>obtain⟨d,a⟩:=p;simp only[Qim]
theorem FE{P:Program}{h0 N:Nat}{all:Array Oper}{l:List Oper}{env env':Env}{H H':Qc}{Q:Qy}(h:foS env H=some (env',H'))(k:WO P h0 N all l env' H' Q):WO P h0 N all l env H Q:=by
 rw[Qpa]at h;cases h;exact k
theorem R1{P:Program}{h0:Nat}{fn:Func}{env:Env}{H Hc:Qc}{v:A}(s:Nat)(hr:fn.results= #[.tmp s])(hle:Le h0 env H [(s,v)] Hc):QcN P h0 fn (λa H=>a=v/\H=Hc) .ret env H:=
 ⟨[(s,v)],Hc,v,hle,QcO.one hr (by show lk [(s,v)] s=v;unfold lk;rw[Nat.beq_refl];rfl),rfl,rfl⟩
theorem R2{P:Program}{h0:Nat}{fn:Func}{env:Env}{H Hc:Qc}{v v':A}(s t:Nat)(hr:fn.results= #[.tmp s,.tmp t])(hn:Nat.beq t s=false)(hle:Le h0 env H [(s,v),(t,v')] Hc):QcN P h0 fn (λa H=>a=.tup [v,v']/\H=Hc) .ret env H:=
 ⟨[(s,v),(t,v')],Hc,_,hle,QkE hr (by show lk [(s,v),(t,v')] s=v;unfold lk;rw[Nat.beq_refl];rfl) (by show lk [(s,v),(t,v')] t=v';unfold lk lk;rw[hn,Nat.beq_refl];rfl),rfl,rfl⟩
theorem FzA.o{i k n:Nat}{es:List (List A)}(a:n=es.length:=by first|exact(X9 ..).symm|exact rfl):FzA i k es (.osl i 0 n k) (.rsl k es):=FzA.own a
end Go.Sw
namespace Go.Sw
theorem Le.env{h0:Nat}{env env':Env}{H:Qc}(h:∀s,lk env' s=.any\/lk env' s=lk env s):Le h0 env H env' H:=by
 intro d b σ N a w r;refine⟨b,σ,⟨r.sim,λs=>?_,r.size,r.defers⟩,λ_ q=>q,rfl⟩;rcases h s with h|h
 .rw[h];trivial
 .rw[h];exact r.env s
def Qm8(env:Env):Env->Prop
 |[]=>True
 |(s,a)::r=>lk env s=a/\Qm8 env r
theorem Qm8.ok{env:Env}:∀{env':Env},Qm8 env env'->∀s,lk env' s=.any\/lk env' s=lk env s
 |[],_,s=>.inl rfl
 |(d,a)::e,⟨h1,h2⟩,s=>by
  by_cases q:s=d
  .subst q;right;simp only[lk,Nat.beq_refl,cond_true];exact h1.symm
  .have:Nat.beq s d=false:=by
    rw[Bool.eq_false_iff];intro b;exact q (XX b)
   simp only[lk,this,cond_false];exact Qm8.ok h2 s
theorem Lw{h0:Nat}{env env':Env}{H:Qc}(h:Qm8 env env'):Le h0 env H env' H:=Le.env h.ok
theorem QoC(n i:Nat):rho (List.range n) n i=i:=by
 unfold rho;by_cases h:i<n
 .rw[List.getElem?_range h]
 .rw[XV (by rw[Xy];omega)];simp only[Xy];omega
mutual
theorem Qi8{ρ:Nat->Nat}(h:∀i,ρ i=i):∀a:A,Yw ρ a=a
 |.ptr i off=>by simp[Yw,h]
 |.osl i o n k=>by simp[Yw,h]
 |.agg cs=>by simp[Yw,QaQ h cs]
 |.fn f a c=>by simp[Yw,QaQ h a,QaQ h c]
 |.iface t v=>by simp[Yw,Qi8 h v]
 |.map i=>by simp[Yw,h]
 |.tup vs=>by simp[Yw,QaQ h vs]
 |.any|.bool _|.int _ _|.str _|.nilp|.rp _|.nils|.rsl _ _|.nilf|.nilif|.nilm=>by rfl
theorem QaQ{ρ:Nat->Nat}(h:∀i,ρ i=i):∀l:List A,Qaa ρ l=l
 |[]=>rfl
 |a::r=>by simp[Qaa,Qi8 h a,QaQ h r]
end
theorem Qi7{ρ:Nat->Nat}(h:∀i,ρ i=i):∀l:List (List A),Qgg ρ l=l
 |[]=>rfl
 |a::r=>by simp[Qgg,QaQ h a,Qi7 h r]
theorem Qnp{ρ:Nat->Nat}(h:∀i,ρ i=i):∀b:Blk,QV ρ b=b
 |.cells t cs=>by simp[QV,QaQ h cs]
 |.rowr t k es=>by simp[QV,Qi7 h es]
 |.ents t a b es=>by simp[QV,h]
 |.dead|.row _ _ _|.map _|.iter _ _|.fmap _|.mapO _ _ _ _=>by rfl
theorem Pw{P:Program}{h0 N:Nat}{all:Array Oper}{o:Oper}{l:List Oper}{env:Env}{H:Qc}{Q:Qy}{d:Nat}{f:FuncId}{args:List A}{v h:A}(u:o.dst=some d)(g:OpC P o env H f args)(n:C P f args H (λa H1=>a=v/\H1=H))(w:Qid v=some (.mk h))
  (hg:Qs all o env true)(t:Nat.blt d N=true)(s:h0<=H.length)(k:WO P h0 N all l (up env d h) H Q):WO P h0 N all (o::l) env H Q:=by
 have e:=QoC H.length;have m:H.map (QV (rho (List.range H.length) H.length))=H:=by
  conv=>rhs;rw[<- List.map_id H]
  exact List.map_congr_left λb _=>Qnp e b
 have j:(List.range H.length).map (λp=>H[p]?)=(H.map (QV (rho (List.range H.length) H.length))).map some:=by
  rw[m];apply List.ext_getElem?;intro i;by_cases q:i<H.length
  .simp[q]
  .simp[q]
 refine Qw (List.range H.length) g n ?_ (by rw[QaQ e]) j List.nodup_range hg u t (XZ s);rintro r H1 ⟨rfl,rfl⟩;rw[Qi2 w,QbA _ _ _ j];exact k
def ixE(d:Nat)(g:Ground):Edge:={on:=d,ground:=g}
def ixO(d:Nat)(op:Op)(t:Nat)(pos:String)(af:Array Edge):Oper:={dst:=some d,op:=op,type:=t,pos:=pos,after:=af,guard:=none}
def Qo8(ts te tf tI tB:Nat):Code:=
 (Code.region 0 [ixO 4 (.assign (.const (.int .i64 0))) tI "slices.go:107" #[]].toArray false).seq
  (((Code.region 1 [ixO 6 (.move (.tmp 0)) ts "slices.go:108" #[],ixO 7 (.call {callee:=.builtin .len,args:= #[.tmp 6],argTypes:= #[ts]}) tI "slices.go:108" #[ixE 0 .data],ixO 8 (.move (.const (.int .i64 0))) tI "slices.go:108" #[]].toArray false).seq
   (.block 0 (.loop ((Code.region 2 [ixO 9 (.binOp .lss tI (.tmp 8) (.tmp 7) tI) 0 "slices.go:108" #[]].toArray false).seq
    ((Code.cond (.tmp 9) .skip (.exit 0)).seq
    ((Code.block 1 ((Code.region 3 [ixO 10 (.move (.tmp 8)) tI "slices.go:108" #[],ixO 5 (.assign (.tmp 10)) tI "slices.go:108" #[ixE 0 .data,ixE 0 .phase]].toArray false).seq
     ((Code.region 4 [ixO 11 (.move (.tmp 1)) tf "slices.go:109" #[],ixO 12 (.move (.tmp 0)) ts "slices.go:109" #[],ixO 13 (.move (.tmp 5)) tI "slices.go:109" #[],ixO 14 (.indexAddr ts (.tmp 12) (.tmp 13)) 0 "slices.go:109" #[ixE 1 .data,ixE 2 .data],
       ixO 15 (.load te (.tmp 14)) te "slices.go:109" #[ixE 3 .data],ixO 16 (.call {callee:=.value (.tmp 11),args:= #[.tmp 15],argTypes:= #[te]}) tB "slices.go:109" #[ixE 0 .data,ixE 4 .data]].toArray false).seq
      (Code.cond (.tmp 16) ((Code.region 5 [ixO 17 (.move (.tmp 5)) tI "slices.go:110" #[],ixO 4 (.assign (.tmp 17)) tI "slices.go:110" #[ixE 0 .data,ixE 0 .phase]].toArray false).seq .ret) .skip)))).seq
     (Code.region 6 [ixO 18 (.binOp .add tI (.tmp 8) (.const (.int .i64 1)) tI) tI "slices.go:108" #[],ixO 8 (.move (.tmp 18)) tI "slices.go:108" #[ixE 0 .data]].toArray false))))))).seq
  ((Code.region 7 [ixO 4 (.assign (.const (.int .i64 (-1)))) tI "slices.go:113" #[]].toArray false).seq .ret))
theorem QK{P:Program}{T:Type}{e:T->List A}{el:T->A}{R z tf tI tB k:Nat}{Q m:FuncId}{fn:Func}{i:List A}{Hc:Qc}{L:List T}{g:T->Option Bool}{n:Nat}{r:Int}
  (X:P.funcs[Q]?=some fn)(hb:fn.body=some (Qo8 R z tf tI tB))(hN:fn.ntmps=19)(V:fn.results= #[.tmp 4])(O:∀w,(underlying R).run P w=.ok (.slice z) w)(Y:∀w,(sizeOf z).run P w=.ok k w)
  (J:∀(o:Oper) (env:Env) (H:Qc) (x:T),o.op=.load z (.tmp 14)->opA env (.tmp 14)=.rp (e x)->OpV P o env H (el x))
  (F:∀(a:Array Value) (w:World),(callFunc m a).run P w=.ok (.enter m a) w)
  (N:∀x b,g x=some b->C P m (el x::i) Hc (λa H=>a=.bool b/\H=Hc))
  (h:((iter (λs:Int=>bif decide (s<(L.length:Int))then(idx L s).bind λx=>(g x).bind λb=>(bif b then some (Ctl.done (Ctl.done s))else some (Ctl.cont (IntKind.i64.wrap (s+1))))else some (Ctl.done (Ctl.cont ()))) n (0:Int):Option (Ctl Unit Int)).bind λb=>match b with|.cont _=>some (-1)|.done s=>some s)=some r):
  C P Q [.rsl k (L.map e),.fn (.func m) [] i] Hc (λa H=>a=.int .i64 r/\H=Hc):=by
 refine Qb X hb hN rfl ?_;refine Rg (S rfl (Nx (TC.seq (Rg (S rfl (LnM O rfl (S rfl (Nx (Bd h λB M h=>?_)))))))));refine QjE (b:=B) (λ_=>[]) (λ_=>Hc) ?_ (λsb10 env H hbe hle=>?_)
 .refine TC.block ?_;refine TC.loop (E:=λq=>[(0,.rsl k (L.map e)),(1,.fn (.func m) [] i),(7,.int .i64 (L.length:Int)),(8,.int .i64 q)]) (Hp:=λ_=>Hc) M ?_ ?_
  .exact Lw ⟨rfl,rfl,rfl,rfl,trivial⟩
  intro q W d l;refine Rg (S rfl (Nx (TC.seq (Yi rfl d (λu d=>?_) (λu d=>?_)))))
  .refine ExX (Qk d ?_);obtain rfl:=l _ (Oi d).symm;exact bloE (Qo rfl (Lw trivial))
  refine SkN (TC.seq (TC.block (Rg (S rfl (S rfl (Nx (Rg (S rfl (S rfl (S rfl (Bd d λj p d=>Ix p O Y rfl ?_)))))))))));refine QF (x:=el j) rfl rfl rfl (J _ _ _ j rfl rfl) ?_;refine Bd d λG y d=>?_;refine Pw rfl (QgK (f:=m) (x:=.tmp 11) (xs:=[.tmp 15]) (vf:=[]) (vc:=i) (args:=el j::i) F rfl rfl rfl rfl) (N j G y) rfl rfl rfl (X0 _) ?_;refine Nx (Cn rfl d (λt d=>?_) (λt d=>?_))
  .refine Rg (S rfl (S rfl (Nx (TC.ret (bloR (seqR (Qn d ?_)))))));obtain rfl:=l _ (Oi d).symm;refine bloR (Ql (seqR ?_));obtain rfl:=Oi h;exact R1 4 V (Lw ⟨rfl,trivial⟩)
  exact TC.skip (bloN (Qlg (TC.region (S rfl (S rfl (WO.nil (Qj d (Lw ⟨rfl,rfl,rfl,rfl,trivial⟩))))))))
 subst hbe;refine Qlg (TC.le hle (Rg (S rfl (Nx (TC.ret ?_)))));obtain rfl:=Oi h;exact R1 4 V (Lw ⟨rfl,trivial⟩)
end Go.Sw
namespace Go.Sw
inductive Kf where
 |seq (c:Code)
 |blo (id:Nat)
 |unr (c:Code)
inductive Cf where
 |code (c:Code)
 |ops (all:Array Oper) (l:List Oper)
 |out (x:AEx)
def kq(P:Program)(h0 N:Nat):List Kf->Qy->Qy
 |[],Q=>Q
 |.seq c::k,Q=>Seq P h0 N c (kq P h0 N k Q)
 |.blo id::k,Q=>Blo id (kq P h0 N k Q)
 |.unr c::k,Q=>QiH P h0 N c (kq P h0 N k Q)
@[reducible] def Hd(P:Program)(h0 N:Nat):Cf->List Kf->Env->Qc->Qy->Prop
 |.code c,k,env,H,Q=>TC P h0 N c env H (kq P h0 N k Q)
 |.ops all l,k,env,H,Q=>WO P h0 N all l env H (kq P h0 N k Q)
 |.out x,k,env,H,Q=>kq P h0 N k Q x env H
def Qfs(T:TyX)(h0 N:Nat):Cf->List Kf->Env->Qc->Option (Cf×List Kf×Env×Qc)
 |.code (.seq a b),k,env,H=>some (.code a,.seq b::k,env,H)
 |.code (.block id c),k,env,H=>some (.code c,.blo id::k,env,H)
 |.code (.loop c),k,env,H=>some (.code c,.unr c::k,env,H)
 |.code .skip,k,env,H=>some (.out .normal,k,env,H)
 |.code .ret,k,env,H=>some (.out .ret,k,env,H)
 |.code (.exit id),k,env,H=>some (.out (.exit id),k,env,H)
 |.code (.region id ⟨l⟩ false),k,env,H=>some (.ops ⟨l⟩ l,k,env,H)
 |.code (.cond x a b),k,env,H=>match opB env x with
  |.mk (.bool true)=>some (.code a,k,env,H)
  |.mk (.bool false)=>some (.code b,k,env,H)
  |_=>none
 |.ops all [],k,env,H=>some (.out .normal,k,env,H)
 |.ops all (o::l),k,env,H=>match stX T h0 N all o env H with
  |some (env',H')=>some (.ops all l,k,env',H')
  |none=>none
 |.out .normal,.seq c::k,env,H=>some (.code c,k,env,H)
 |.out (.exit i),.seq _::k,env,H=>some (.out (.exit i),k,env,H)
 |.out .ret,.seq _::k,env,H=>some (.out .ret,k,env,H)
 |.out .normal,.blo _::k,env,H=>some (.out .normal,k,env,H)
 |.out (.exit i),.blo id::k,env,H=>match Nat.beq i id with
  |true=>some (.out .normal,k,env,H)
  |false=>some (.out (.exit i),k,env,H)
 |.out .ret,.blo _::k,env,H=>some (.out .ret,k,env,H)
 |.out .normal,.unr c::k,env,H=>some (.code c,.unr c::k,env,H)
 |.out (.exit i),.unr _::k,env,H=>some (.out (.exit i),k,env,H)
 |.out .ret,.unr _::k,env,H=>some (.out .ret,k,env,H)
 |_,_,_,_=>none
def Qie(T:TyX)(h0 N:Nat):Nat->Cf->List Kf->Env->Qc->Option (Cf×List Kf×Env×Qc)
 |0,c,k,env,H=>some (c,k,env,H)
 |n+1,c,k,env,H=>match Qfs T h0 N c k env H with
  |some (c',k',env',H')=>Qie T h0 N n c' k' env' H'
  |none=>none
section
variable {P:Program}{T:TyX}{h0 N:Nat}{Q:Qy}
theorem Qk9(d:Qbw P T){c b:Cf}{k a:List Kf}{env env':Env}{H H':Qc}(h:Qfs T h0 N c k env H=some (b,a,env',H'))(g:Hd P h0 N b a env' H' Q):Hd P h0 N c k env H Q:=by
 unfold Qfs at h;split at h
 .cases h;exact TC.seq g
 .cases h;exact TC.block g
 .cases h;exact QkC g
 .cases h;exact TC.skip g
 .cases h;exact TC.ret g
 .cases h;exact TC.exit g
 .cases h;exact TC.region g
 .split at h
  .rename_i q;cases h;exact QmT (QC q) rfl g
  .rename_i q;cases h;exact QmU (QC q) rfl g
  .cases h
 .cases h;exact WO.nil g
 .split at h
  .rename_i q;cases h;exact Qlc d q g
  .cases h
 .cases h;exact Qlg g
 .cases h;exact seqX g
 .cases h;exact seqR g
 .cases h;exact bloN g
 .split at h
  .rename_i q;cases h;have:=XX q;subst this;exact bloE g
  .rename_i q;cases h;exact bloX q g
 .cases h;exact bloR g
 .cases h;exact unrN g
 .cases h;exact unrX g
 .cases h;exact unrR g
 .cases h
theorem Qcr(hT:Qbw P T):∀(n:Nat) {c c':Cf}{k k':List Kf}{env env':Env}{H H':Qc},Qie T h0 N n c k env H=some (c',k',env',H')->Hd P h0 N c' k' env' H' Q->Hd P h0 N c k env H Q
 |0,c,c',k,k',env,env',H,H',h,g=>by cases h;exact g
 |n+1,c,c',k,k',env,env',H,H',h,g=>by
  unfold Qie at h;split at h
  .rename_i e;exact Qk9 hT e (Qcr hT n h g)
  .cases h
theorem QiX{env:Env}{s:Nat}{a:A}(h:lk env s=a):∀t,lk (up env s a) t=lk env t:=by
 intro t;simp only[up,lk];cases q:Nat.beq t s with
 |true=>have:=XX q;subst this;exact h.symm
 |false=>rfl
theorem Is{α:Type}{all:Array Oper}{l:List Oper}{env:Env}{H:Qc}{b:Bool}{x y:Option α}{r:α}(s:Nat)(h:(bif b then x else y)=some r)(d:lkB env s=.mk (.bool b))
  (t:b=true->x=some r->WO P h0 N all l (up env s (.bool true)) H Q)(e:b=false->y=some r->WO P h0 N all l (up env s (.bool false)) H Q):WO P h0 N all l env H Q:=by
 have a:=Qij d;cases b with
 |true=>exact WO.le (Le.env λt=>.inr (QiX a t)) (t rfl h)
 |false=>exact WO.le (Le.env λt=>.inr (QiX a t)) (e rfl h)
end
def dstN(o:Oper)(i:Nat):Nat:=match o.dst with|some d=>d|none=>1000000+i
def Qan:Nat->Nat->List Oper->List Nat
 |0,_,_=>[]
 |_+1,_,[]=>[]
 |m+1,i,o::l=>dstN o i::Qan m (i+1) l
def Yj(af:List Nat):Nat->List Nat->List A->Env->Env
 |j,d::ds,x::xs,e=>(d,bif Qda af j then x else .any)::Yj af (j+1) ds xs e
 |j,d::ds,[],e=>(d,.any)::Yj af (j+1) ds [] e
 |_,[],_,e=>e
theorem Qfm{l:List Nat}{t:Nat}:Qda l t=l.contains t:=by
 induction l with
 |nil=>rfl
 |cons a r d=>
  unfold Qda;rw[List.contains_cons,d];cases q:Nat.beq a t with
  |true=>have:=XX q;subst this;simp
  |false=>
   have b:t≠a:=λz=>by subst z;rw[Nat.beq_refl]at q;cases q
   simp[b]
theorem Qjq{af:List Nat}{env0:Env}{s:Nat}:∀(a:List Nat) (xs i:List A) (b:Nat),
  (∃(j:Nat) (x:A),af.contains (b+j)=true/\a[j]?=some s/\(xs++i)[j]?=some x/\lk (Yj af b a xs env0) s=x)\/lk (Yj af b a xs env0) s=.any\/(a.contains s=false/\lk (Yj af b a xs env0) s=lk env0 s):=by
 intro a
 induction a with
 |nil=>intro xs i b;right;right;exact⟨rfl,by cases xs<;>rfl⟩
 |cons d a n=>
  intro xs i b;have next:∀(e:List A),(∃(j:Nat) (x:A),af.contains (b+1+j)=true/\a[j]?=some s/\(e++i)[j]?=some x/\lk (Yj af (b+1) a e env0) s=x)->∀p,(∃(j:Nat) (x:A),af.contains (b+j)=true/\(d::a)[j]?=some s/\(p::e++i)[j]?=some x/\lk (Yj af (b+1) a e env0) s=x):=by
   rintro e ⟨j,x,g,k,l,m⟩ p;exact⟨j+1,x,by rw[show b+(j+1)=b+1+j by omega];exact g,by simpa using k,by simpa using l,m⟩
  cases xs with
  |nil=>
   cases q:Nat.beq s d with
   |true=>right;left;simp only[Yj,lk,q,cond_true]
   |false=>
    have f:s≠d:=λz=>by subst z;rw[Nat.beq_refl]at q;cases q
    simp only[Yj,lk,q,cond_false];rcases n [] [] (b+1)with⟨j,x,g,k,l,m⟩|h|⟨g,k⟩
    .simp at l
    .exact .inr (.inl h)
    .exact .inr (.inr ⟨by rw[List.contains_cons,g];simpa using f,k⟩)
  |cons x xs=>
   cases q:Nat.beq s d with
   |true=>
    have:=XX q;subst this;simp only[Yj,lk,q,cond_true];cases c:Qda af b with
    |true=>left;exact⟨0,x,by rw[<- Qfm];exact c,rfl,rfl,rfl⟩
    |false=>right;left;rfl
   |false=>
    have f:s≠d:=λz=>by subst z;rw[Nat.beq_refl]at q;cases q
    simp only[Yj,lk,q,cond_false];rcases n xs i (b+1)with h|h|⟨g,k⟩
    .exact .inl (next xs h x)
    .exact .inr (.inl h)
    .exact .inr (.inr ⟨by rw[List.contains_cons,g];simpa using f,k⟩)
section
variable {P:Program}{T:TyX}{h0 N m:Nat}{l:List Oper}{ds:List Nat}{env:Env}{H:Qc}{Q:Qy}{K:List Oper->Env->Qc->Prop}
def DS(P:Program)(N m:Nat)(l:List Oper)(ds:List Nat)(env:Env)(H:Qc)(K:List Oper->Env->Qc->Prop)(r:List Oper)(xs:List A):Prop:=
 r=l.drop xs.length->∃ys,xs.length+ys.length=m/\(∀j,xs.length<=j->j<m->Qab P N l ds (xs++ys) env H.length H.length j H H)/\K (l.drop m) (Qat ds (xs++ys) env) H
theorem oqOf{xs:List A}:∀(c i:Nat),(∀j,i<=j->j<i+c->Qab P N l ds xs env H.length H.length j H H)->Oq P N l ds xs env H i c
 |0,i,_=>.n
 |c+1,i,h=>.c (h i (X0 _) (by omega)) (oqOf c (i+1) λj h1 h2=>h j (by omega) (by omega))
theorem Qnb{id:Nat}{k:List Kf}(m:Nat)(g:P.follows .mixedOrders=true)(i:Go.Sw.draw0 l m N (Qan m 0 l)=true)(a:Nat.ble h0 H.length=true)
  (h:DS P N m l (Qan m 0 l) env H (λr e H=>WO P h0 N l.toArray r e H Q) l []):TC P h0 N (.region id l.toArray true) env H Q:=by
 obtain⟨n,f,b,d⟩:=h rfl;simp only[List.length_nil,XB,Vp]at f b d;exact TC.draw0 m _ n g i (by rw[f];exact Nat.beq_refl m) a (oqOf m 0 λj _ q=>b j (X2 _) (by omega)) d
theorem QkY{T':Type}{X:Ctx T'}{d:YSt T'}{QY:Ys T'}{id:Nat}(m:Nat)(p:P.follows .mixedOrders=true)(s:Go.Sw.draw0 l m N (Qan m 0 l)=true)(b:Nat.ble h0 H.length=true)
  (h:DS P N m l (Qan m 0 l) env H (λr e H=>WOy X P h0 N l.toArray r e H d QY) l []):TCy X P h0 N (.region id l.toArray true) env H d QY:=by
 obtain⟨t,i,k,f⟩:=h rfl;simp only[List.length_nil,XB,Vp]at i k f;intro n u x z σ a w g r hj hrd;refine Qcs m _ t p s (by rw[i];exact Nat.beq_refl m) b (oqOf m 0 λj _ q=>k j (X2 _) (by omega)) r (hrd▸QbV) λro' σ' a' w' hr hev htk hdf=>?_;have:=f n u x ro' σ' a' w' g hr ⟨n.ev hj.1 (hev.frMono hj.2.sub),by rw[hdf];exact hj.2⟩ hrd;refine Yo (λe B y q=>?_) _ _ _ this;exact q.grow hev.sub hev.size htk (by rw[hdf];exact Grow.refl _ _ _)
theorem DS.done{xs:List A}{r:List Oper}(a:Nat.beq xs.length m=true)(h:K r (Qat ds xs env) H):DS P N m l ds env H K r xs:=by
 intro b;have e:=XX a;subst b;refine⟨[],by simpa using e,λj f d=>by omega,?_⟩;rw[<- e,Vo];exact h
theorem DS.add{xs:List A}{o:Oper}{r:List Oper}{x:A}(n:Nat.blt xs.length m=true)(h:∀ys,l[xs.length]?=some o->Qab P N l ds (xs++x::ys) env H.length H.length xs.length H H)(k:DS P N m l ds env H K r (xs++[x])):DS P N m l ds env H K (o::r) xs:=by
 intro b;have a:xs.length<l.length:=by
  rcases Nat.lt_or_ge xs.length l.length with q|q
  .exact q
  .rw[List.drop_eq_nil_of_le q]at b;cases b
 rw[Xs a]at b;cases b;obtain⟨ys,f,e,d⟩:=k (by simp);simp only[Va,X8,List.length_nil,Vq,List.cons_append,Vp]at f e d;refine⟨x::ys,by simp only[X8];omega,λj i g=>?_,d⟩;rcases Nat.lt_or_ge xs.length j with q|q
 .exact e j (by omega) g
 .obtain rfl:j=xs.length:=by omega
  exact h ys (XR a)
theorem Qhm{xs a:List A}{x:A}:(xs++x::a)[xs.length]?=some x:=by simp
theorem DS.wo{xs:List A}{o:Oper}{r:List Oper}{x:A}{d:Nat}(h:WO P H.length N l.toArray [o] (Yj (Qh o) 0 ds xs env) H (YZ (up (Yj (Qh o) 0 ds xs env) d x) H))(k:DS P N m l ds env H K r (xs++[x]))
  (f:o.dst=some d:=by exact rfl)(hx:Nat.blt xs.length m=true:=by exact rfl):DS P N m l ds env H K (o::r) xs:=
 .add hx (λe b=>.woE o _ d x b f Qhm (he:=by
  intro s;rcases Qjq (af:=Qh o) (env0:=env) (s:=s) ds xs (x::e) 0 with⟨j,y,a,n,i,g⟩|q|q
  .rw[XB]at a;exact .inl ⟨j,y,a,n,i,g⟩
  .exact .inr (.inl q)
  .exact .inr (.inr q)) (hdd:=QhM H) (h:=h)) k
theorem DS.v{xs:List A}{o:Oper}{r:List Oper}{x:A}{d:Nat}(h:OpV P o (Yj (Qh o) 0 ds xs env) H x)(k:DS P N m l ds env H K r (xs++[x]))(hg:Qs l.toArray o (Yj (Qh o) 0 ds xs env) true:=by exact rfl)
  (hd:o.dst=some d:=by exact rfl)(hN:Nat.blt d N=true:=by exact rfl)(hx:Nat.blt xs.length m=true:=by exact rfl):DS P N m l ds env H K (o::r) xs:=
 .wo (QF hg hd hN h (WO.nil YZ.mk)) k hd hx
def QcH:List A->A->FL
 |[],x=>.mk [x]
 |a::r,x=>match QcH r x with
  |.mk r'=>.mk (a::r')
theorem Y5:∀(l:List A) (x:A),QcH l x=.mk (l++[x])
 |[],x=>rfl
 |a::r,x=>by unfold QcH;rw[Y5 r];rfl
def Qg4(T:TyX)(N m:Nat)(l:List Oper)(ds:List Nat)(env:Env)(H:Qc):Nat->Nat->List Oper->List A->Option (List Oper×List A)
 |0,_,r,xs=>some (r,xs)
 |_+1,_,[],_=>none
 |n+1,i,o::r,xs=>match Nat.blt i m with
  |false=>none
  |true=>match o.dst with
   |none=>none
   |some d=>match Nat.blt d N with
    |false=>none
    |true=>match YY ⟨l⟩ o (Yj (Qh o) 0 ds xs env)with
     |none=>none
     |some false=>match QcH xs (.tup [])with
      |.mk xs'=>Qg4 T N m l ds env H n (i+1) r xs'
     |some true=>match Qc1 T o (Yj (Qh o) 0 ds xs env) H with
      |none=>none
      |some x=>match QcH xs x with
       |.mk xs'=>Qg4 T N m l ds env H n (i+1) r xs'
theorem Qee(hT:Qbw P T):∀(n i:Nat) {r r':List Oper}{xs xs':List A},i=xs.length->Qg4 T N m l ds env H n i r xs=some (r',xs')->DS P N m l ds env H K r' xs'->DS P N m l ds env H K r xs
 |0,i,r,r',xs,xs',_,h,k=>by cases h;exact k
 |n+1,i,[],r',xs,xs',_,h,k=>by cases h
 |n+1,i,o::r,r',xs,xs',hi,h,k=>by
  subst hi;unfold Qg4 at h;split at h
  .cases h
  .rename_i q1;split at h
   .cases h
   .rename_i d hd;split at h
    .cases h
    .rename_i q2;split at h
     .cases h
     .rename_i hw;simp only[Y5]at h;exact .wo (WO.skip (QM hw) hd q2 (WO.nil YZ.mk)) (Qee hT n _ (by simp) h k) hd q1
     .rename_i hw;split at h
      .cases h
      .rename_i x hv;simp only[Y5]at h;exact .v (Qau hT hv) (Qee hT n _ (by simp) h k) (QM hw) hd q2 q1
def Qle:List A->Nat->A->FL
 |[],_,_=>.mk []
 |_::r,0,x=>.mk (x::r)
 |a::r,n+1,x=>match Qle r n x with
  |.mk r'=>.mk (a::r')
theorem Qc2:∀{l:List A}{n:Nat}{x:A},YN l n=some x->Qle l n x=.mk l
 |[],n,x,h=>by cases h
 |a::r,0,x,h=>by cases h;rfl
 |a::r,n+1,x,h=>by unfold Qle;rw[Qc2 (l:=r) (n:=n) h]
theorem YC{α:Type}{b:Bool}{x y:Option α}{v:α}{xs g i:List A}{r:List Oper}(j:Nat)(h:(bif b then x else y)=some v)(f:YN xs j=some (.bool b))(d:Qle xs j (.bool true)=.mk g)(a:Qle xs j (.bool false)=.mk i)
  (t:b=true->x=some v->DS P N m l ds env H K r g)(e:b=false->y=some v->DS P N m l ds env H K r i):DS P N m l ds env H K r xs:=by
 cases b with
 |true=>rw[Qc2 f]at d;cases d;exact t rfl h
 |false=>rw[Qc2 f]at a;cases a;exact e rfl h
end
end Go.Sw
namespace Go.Sw
@[reducible] def RQ{β:Type}(w:β->A)(Hc:β->Qc)(r:β):A->Qc->Prop:=λa H=>a=w r/\H=Hc r
@[reducible] def Csm{β:Type}(P:Program)(f:FuncId)(args:List A)(H:Qc)(w:β->A)(r:β):Prop:=C P f args H (RQ w (λ_=>H) r)
structure TyZ where
 sl:List (Nat×Nat×Nat)
 fn:List Nat
structure QcI (P:Program) (Z:TyZ):Prop where
 sl:∀e∈Z.sl,(∀w,(underlying e.1).run P w=.ok (.slice e.2.1) w)/\ ∀w,(sizeOf e.2.1).run P w=.ok e.2.2 w
 fn:∀f∈Z.fn,∀(a:Array Value) (w:World),(callFunc f a).run P w=.ok (.enter f a) w
section
variable {P:Program}{Z:TyZ}{h0 N:Nat}{all:Array Oper}{o:Oper}{l:List Oper}{env:Env}{H:Qc}{Q:Qy}{d:Nat}
theorem Izz(b:QcI P Z){α:Type}{e:α->List A}{t et k:Nat}{L:List α}{n:IntKind}{i:Int}{v:α}(h:idx L i=some v)(q:ixB o env=some (d,t,k,L.map e,n,i))(g:WO P h0 N all l (up env d (.rp (e v))) H Q)
  (f:QbY Z.sl t=some (et,k))(hg:YY all o env=some true)(m:Nat.blt d N=true):WO P h0 N all (o::l) env H Q:=by
 obtain⟨j,a⟩:=b.sl _ (Qav f);exact Ix h j a q g (QM hg) m
theorem Ize(a:QcI P Z){α:Type}{e:α->List A}{t et k:Nat}{L:List α}{f:IntKind}{i:Int}{v:α}{cs:List A}(h:idx L i=some v)(he:e v=cs)(q:ixB o env=some (d,t,k,L.map e,f,i))(g:WO P h0 N all l (up env d (.rp cs)) H Q)
  (b:QbY Z.sl t=some (et,k))(hg:YY all o env=some true)(j:Nat.blt d N=true):WO P h0 N all (o::l) env H Q:=by
 subst he;exact Izz a h q g b hg j
theorem Lmz(b:QcI P Z){α:Type}{e:α->List A}{t et k a:Nat}{L:List α}(q:lnB o env=some (d,t,.mk (.rsl k (L.map e))))(g:WO P h0 N all l (up env d (.int .i64 L.length)) H Q)
  (f:QbY Z.sl t=some (et,a))(hg:YY all o env=some true)(i:Nat.blt d N=true):WO P h0 N all (o::l) env H Q:=by
 obtain⟨h,j⟩:=b.sl _ (Qav f);exact LnM h q g (QM hg) i
def Qfo(Z:TyZ)(o:Oper)(env:Env):Option (Nat×Nat×List A):=
 match o.dst with
 |none=>none
 |some d=>match o.op with
  |.call {callee:=.value (.func f),args:=⟨xs⟩,argTypes:=_}=>bif Qda Z.fn f then(match fl (Qhc env xs)with|.mk ax=>some (d,f,ax))else none
  |.call {callee:=.value (.tmp x),args:=⟨xs⟩,argTypes:=_}=>match opB env (.tmp x)with
   |.mk (.fn (.func f) vf vc)=>bif Qda Z.fn f then(match fl (vf++(Qhc env xs++vc))with|.mk ax=>some (d,f,ax))else none
   |_=>none
  |_=>none
theorem QdU(e:QcI P Z){f:Nat}{args:List A}(h:Qfo Z o env=some (d,f,args)):o.dst=some d/\OpC P o env H f args:=by
 unfold Qfo at h;split at h
 .cases h
 .rename_i k g;split at h
  .rename_i b xs i a;cases q:Qda Z.fn b with
   |false=>rw[q]at h;cases h
   |true=>
    rw[q]at h;simp only[Qb3,cond_true]at h;cases h;exact⟨g,OpC.fn (xs:=xs) (e.fn _ (Qgm q)) a rfl (Qcz xs).symm⟩
  .rename_i x xs i a;split at h
   .rename_i b l m j;cases q:Qda Z.fn b with
    |false=>rw[q]at h;cases h
    |true=>
     rw[q]at h;simp only[Qb3,cond_true]at h;cases h;exact⟨g,QgK (xs:=xs) (e.fn _ (Qgm q)) a rfl (QC j) (by rw[Qcz])⟩
   .cases h
  .cases h
theorem Czz(j:QcI P Z){β γ:Type}{F:Option β}{F':β->Option γ}{r:γ}{f:Nat}{args a:List A}{Hc:Qc}{w:β->A}(π:List Nat)(h:F.bind F'=some r)(i:∀v,F=some v->C P f a Hc (RQ w (λ_=>Hc) v))
  (b:Qfo Z o env=some (d,f,args))(g:∀v,F=some v->F' v=some r->WO P h0 N all l (up env d (w v)) H Q)(q:∀v,Qid (w v)=some (.mk (w v)))
  (hargs:args=Qaa (rho π H.length) a)(t:π.map (λp=>H[p]?)=(Hc.map (QV (rho π H.length))).map some)(hπ:π.Nodup)(hg:YY all o env=some true)(m:Nat.blt d N=true)(k:Nat.ble h0 H.length=true):WO P h0 N all (o::l) env H Q:=by
 obtain⟨v,e,s⟩:=Y1 h;obtain⟨n,u⟩:=QdU (H:=H) j b;exact Pc π n u (i v e) (q v) (g v e s) hargs t hπ (QM hg) m k
theorem DzZ(q:QcI P Z){K:List Oper->Env->Qc->Prop}{m:Nat}{i:List Oper}{b:List Nat}{xs:List A}{β γ:Type}{F:Option β}{F':β->Option γ}{r:γ}{f:Nat}{args a:List A}{Hc:Qc}{w:β->A}(π:List Nat)(h:F.bind F'=some r)(n:∀v,F=some v->C P f a Hc (RQ w (λ_=>Hc) v))
  (e:Qfo Z o (Yj (Qh o) 0 b xs env)=some (d,f,args))(g:∀v,F=some v->F' v=some r->DS P N m i b env H K l (xs++[w v]))(t:∀v,Qid (w v)=some (.mk (w v)))
  (hargs:args=Qaa (rho π H.length) a)(x:π.map (λp=>H[p]?)=(Hc.map (QV (rho π H.length))).map some)(hπ:π.Nodup)(hg:YY i.toArray o (Yj (Qh o) 0 b xs env)=some true)(s:Nat.blt d N=true)(y:Nat.blt xs.length m=true):DS P N m i b env H K (o::l) xs:=by
 obtain⟨v,j,u⟩:=Y1 h;obtain⟨k,z⟩:=QdU (H:=H) q e;exact .wo (Pc π k z (n v j) (t v) (WO.nil YZ.mk) hargs x hπ (QM hg) s (XZ (X0 _))) (g v j u) k y
theorem ln:Qbd H [] []:=trivial
theorem ls{ax b:List A}{a:A}(k:Qbd H ax b)(h:Ye a=true:=by exact rfl):Qbd H (a::ax) (a::b):=⟨.inl ⟨rfl,h⟩,k⟩
theorem lo{ax a:List A}{i n k t:Nat}{es:List (List A)}(d:Qbd H ax a)(b:H[i]?=some (.row t k es):=by exact rfl)(hn:es.length=n:=by exact X9 ..):Qbd H (.osl i 0 n k::ax) (.rsl k es::a):=
 ⟨.inr ⟨_,_,_,_,_,rfl,b,hn,rfl⟩,d⟩
theorem Cbz(j:QcI P Z){β γ:Type}{F:Option β}{F':β->Option γ}{r:γ}{f:Nat}{args a:List A}{w:β->A}(h:F.bind F'=some r)(i:∀v,F=some v->C P f a [] (RQ w (λ_=>[]) v))
  (b:Qfo Z o env=some (d,f,args))(k:Qbd H args a)(g:∀v,F=some v->F' v=some r->WO P h0 N all l (up env d (w v)) H Q)(p:∀v,Yb (w v)=true)
  (hg:YY all o env=some true)(m:Nat.blt d N=true):WO P h0 N all (o::l) env H Q:=by
 obtain⟨v,e,q⟩:=Y1 h;obtain⟨n,s⟩:=QdU (H:=H) j b;refine QhU s k (i v e) ?_ ?_ (QM hg) n m
 .rintro _ _ ⟨rfl,rfl⟩;exact p v
 .rintro _ _ ⟨rfl,rfl⟩;exact g v e q
end
def ixL:List Nat:=[0,1,2,3,4,5,6,7,8,9,10,11,12,13,14,15,16,17,18,19,20,21,22,23,24,25,26,27,28,29,30,31,32,33,34,35,36,37,38,39,40,41,42,43,44,45,46,47,48,49,50,51,52,53,54,55,56,57,58,59,60,61,62,63]
def QjV:List Nat->List Nat->Nat->FN
 |a::r,b::s,j=>bif Nat.beq a j then .mk b else QjV r s j
 |_,_,j=>.mk j
mutual
def cpA(sel:List Nat):A->Bx
 |.ptr i off=>match QjV sel ixL i with
  |.mk j=>.mk (.ptr j off)
 |.osl i o n k=>match QjV sel ixL i with
  |.mk j=>.mk (.osl j o n k)
 |.map i=>match QjV sel ixL i with
  |.mk j=>.mk (.map j)
 |.fn f a c=>match cpL sel a,cpL sel c with
  |.mk a',.mk c'=>.mk (.fn f a' c')
 |a=>.mk a
def cpL(sel:List Nat):List A->FL
 |[]=>.mk []
 |a::r=>match cpA sel a,cpL sel r with
  |.mk a',.mk r'=>.mk (a'::r')
end
inductive FV where
 |mk (e:Env)
def QlV(sel:List Nat)(env:Env):List Nat->Env->FV
 |[],nE=>.mk nE
 |s::r,nE=>match lkB env s with
  |.mk a=>match cpA sel a,QlV sel env r nE with
   |.mk a',.mk e=>.mk ((s,a')::e)
def selH(H:Qc):List Nat->List Nat->List (Nat×Blk)->FB
 |a::r,p::ps,[]=>match YN H a,selH H r ps []with
  |some b,.mk l=>.mk (b::l)
  |none,.mk l=>.mk l
 |a::r,p::ps,(q,b)::n=>bif Nat.beq p q then(match selH H r ps n with|.mk l=>.mk (b::l))else(match YN H a,selH H r ps ((q,b)::n)with
  |some b,.mk l=>.mk (b::l)
  |none,.mk l=>.mk l)
 |_,_,_=>.mk []
def QmE(sel keep:List Nat)(nE:Env)(nH:List (Nat×Blk))(env:Env)(H:Qc):Option (Env×Qc):=
 match QlV sel env keep nE,selH H sel ixL nH with
 |.mk e,.mk h=>some (e,h)
section
variable {P:Program}{h0 N:Nat}{c:Code}{env:Env}{H:Qc}{Q:Qy}
def CutQ{β:Type}(h0:Nat)(b:β)(E':β->Env)(H':β->Qc)(Q:Qy):Qy
 |.normal,env,H=>Le h0 env H (E' b) (H' b)
 |.exit id,env,H=>Q (.exit id) env H
 |.ret,env,H=>Q .ret env H
theorem Q4{h0:Nat}{env:Env}{H:Qc}{Q:Qy}{β:Type}{b:β}{E':β->Env}{H':β->Qc}(h:Le h0 env H (E' b) (H' b)):CutQ h0 b E' H' Q .normal env H:=h
theorem Ct{β:Type}{E':β->Env}{H':β->Qc}(b:β)(sel keep:List Nat)(nE:β->Env)(nH:β->List (Nat×Blk))(_:∀b,QmE sel keep (nE b) (nH b) env H=some (E' b,H' b))(h:TC P h0 N c env H (CutQ h0 b E' H' Q))(k:∀env H,Le h0 env H (E' b) (H' b)->Q .normal env H):TC P h0 N c env H Q:=
 h.mono λx env' H' q=>by
  cases x with
  |normal=>exact k _ _ q
  |exit id=>exact q
  |ret=>exact q
theorem Y0{S B:Type}{b:Ctl S B}{E':S->Env}{H':S->Qc}(sel keep:List Nat)(nE:S->Env)(nH:S->List (Nat×Blk))(_:∀s,QmE sel keep (nE s) (nH s) env H=some (E' s,H' s))(h:TC P h0 N c env H (QjM h0 b E' H' Q))(k:∀s env H,b=.cont s->Le h0 env H (E' s) (H' s)->Q .normal env H):TC P h0 N c env H Q:=QjE E' H' h k
theorem Lp{S B:Type}{step:S->Option (Ctl S B)}{E':S->Env}{H':S->Qc}{m:Nat}{s0:S}{b0:B}(sel keep:List Nat)(nE:S->Env)(nH:S->List (Nat×Blk))(h:iter step m s0=some b0)(_:∀s,QmE sel keep (nE s) (nH s) env H=some (E' s,H' s))(hI:Le h0 env H (E' s0) (H' s0))
  (body:∀s d,step s=some d->(∀b,d=.done b->b=b0)->TC P h0 N c (E' s) (H' s) (Qbc (λs env H=>Le h0 env H (E' s) (H' s)) d Q)):TC P h0 N (.loop c) env H Q:=TC.loop E' H' h hI body
end
theorem Oj{S B:Type}{d:Ctl S B}{x b0:B}(hb:∀b,d=.done b->b=b0)(h:some (Ctl.done x)=some d):x=b0:=hb x (Oi h).symm
theorem Rt{P:Program}{h0:Nat}{fn:Func}{env:Env}{H:Qc}{β:Type}{e r:β}{w:β->A}{Hc:β->Qc}(h:some e=some r)(s:Nat)(π:List Nat)(a:fn.results= #[.tmp s]:=by exact rfl)(hpre:π.take h0=List.range h0:=by exact rfl)
  (hH:π.map (λp=>H[p]?)=((Hc e).map (QV (rho π H.length))).map some:=by exact rfl)(hπ:π.Nodup:=by decide)(hE:Qfj (rho π H.length) env [(s,w e)]:=by exact⟨rfl,trivial⟩):QcN P h0 fn (RQ w Hc r) .ret env H:=by
 cases h;exact R1 s a (Lr π hpre hH hπ hE)
theorem Cl{h0:Nat}{env:Env}{H:Qc}{Q:Qy}{β:Type}{e b:β}{E':β->Env}{H':β->Qc}(h:some e=some b)(π:List Nat)(a:π.take h0=List.range h0:=by exact rfl)
  (hH:π.map (λp=>H[p]?)=((H' e).map (QV (rho π H.length))).map some:=by exact rfl)(hπ:π.Nodup:=by decide)(hE:Qfj (rho π H.length) env (E' e):=by(repeat' (first|exact trivial|refine⟨rfl,?_⟩))):CutQ h0 b E' H' Q .normal env H:=by
 cases h;exact Lr π a hH hπ hE
end Go.Sw
namespace Go.Sw
def plC(cat:List Nat):List (List (Nat×Nat)):=cat.map λc=>match c with|0=>[(0,0)]|1=>[(0,1)]|2=>[(1,1)]|_=>[(0,0),(1,1)]
def rqC(b:Nat)(cat:List Nat):List (List Nat):=cat.map λc=>match c with|2=>[b]|_=>[]
def hsC(cat:List Nat):List Bool:=cat.map λc=>match c with|1=>true|_=>false
section
variable {P:Program}{T:TyX}{h0 N m b:Nat}{cat:List Nat}{l:List Oper}{ds:List Nat}{env:Env}{H H1:Qc}{Q:Qy}{K:List Oper->Env->Qc->Prop}
theorem QgL{P:Program}{N:Nat}{l:List Oper}{ds:List Nat}{xs:List A}{env0:Env}{hB hE:Nat}:∀(ss:List (List (Qc×Qc))) (b:Nat),(∀i s,ss[i]?=some s->∀p∈s,Qab P N l ds xs env0 hB hE (b+i) p.1 p.2)->QgM P N l ds xs env0 hB hE b ss
 |[],b,h=>.nil
 |s::ss,b,h=>.cons (h 0 s rfl) (QgL ss (b+1) λi s' hs=>by rw[show b+1+i=b+(i+1)by omega];exact h (i+1) s' hs)
def Dob(P:Program)(N:Nat)(cat:List Nat)(l:List Oper)(ds:List Nat)(env:Env)(H H1:Qc)(zs:List A)(j:Nat):Prop:=
 ∀p∈(plC cat).getD j [],Qab P N l ds zs env H.length H.length j ([H,H1].getD p.1 []) ([H,H1].getD p.2 [])
def DB(P:Program)(N m:Nat)(cat:List Nat)(l:List Oper)(ds:List Nat)(env:Env)(H H1:Qc)(K:List Oper->Env->Qc->Prop)(r:List Oper)(xs:List A):Prop:=
 r=l.drop xs.length->∃ys,xs.length+ys.length=m/\(∀j,xs.length<=j->j<m->Dob P N cat l ds env H H1 (xs++ys) j)/\K (l.drop m) (Qat ds (xs++ys) env) H1
def DA(P:Program)(N m:Nat)(cat:List Nat)(l:List Oper)(ds:List Nat)(env:Env)(H:Qc)(K:List Oper->Env->Qc->Prop)(r:List Oper)(xs:List A):Prop:=
 r=l.drop xs.length->∃ys H1,xs.length+ys.length=m/\H.length<=H1.length/\(∀j,xs.length<=j->j<m->Dob P N cat l ds env H H1 (xs++ys) j)/\K (l.drop m) (Qat ds (xs++ys) env) H1
theorem Qpt{f:List A}(b:cat.length=m)(h:∀j,0<=j->j<m->Dob P N cat l ds env H H1 f j):QgM P N l ds f env H.length (H.length+0) 0 ((plC cat).map λq=>q.map λp=>([H,H1].getD p.1 [],[H,H1].getD p.2 [])):=by
 refine QgL _ 0 λi s a p k=>?_;rw[Xr]at a;cases e:(plC cat)[i]? with
 |none=>rw[e]at a;cases a
 |some q=>
  rw[e]at a;cases a;obtain⟨n,d,rfl⟩:=Xf.1 k;have g:i<m:=by
   have:=(XS.1 e).1;simpa[plC,b]using this
  have:=h i (X2 _) g n (by rw[Qji e];exact d);simpa using this
theorem DA.len(a:H.length<=H1.length):[H,H1].all (λX=>Nat.ble (H.length+0) X.length)=true:=by
 simp only[List.all_cons,List.all_nil,Bool.and_true,XC,X4];exact⟨XZ (X0 _),XZ a⟩
theorem Qnd{id:Nat}(m b:Nat)(cat:List Nat)(k:P.follows .mixedOrders=true)(n:QdA l m N (Qan m 0 l) (hsC cat) (rqC b cat) [[],[b]] (plC cat)=true)(d:Nat.beq cat.length m=true)(f:Nat.ble h0 H.length=true)
  (h:DA P N m cat l (Qan m 0 l) env H (λr e H=>WO P h0 N l.toArray r e H Q) l []):TC P h0 N (.region id l.toArray true) env H Q:=by
 obtain⟨p,H1,j,q,i,g⟩:=h rfl;simp only[List.length_nil,XB,Vp]at j i g;have a:=XX d;exact Qba m 0 _ _ _ _ _ p [H,H1] H1 k n (by rw[j];exact Nat.beq_refl m) rfl f (DA.len q) (by simp) rfl (Qpt a i) (by simp[plC,a]) g
theorem Qa8{xs:List A}{o:Oper}{r:List Oper}(b:o::r=l.drop xs.length):l[xs.length]?=some o/\r=l.drop (xs.length+1):=by
 have a:xs.length<l.length:=by
  rcases Nat.lt_or_ge xs.length l.length with q|q
  .exact q
  .rw[List.drop_eq_nil_of_le q]at b;cases b
 rw[Xs a]at b;cases b;exact⟨XR a,rfl⟩
theorem QgR{zs:List A}{j c:Nat}(b:YN cat j=some c)(h:∀p∈(match c with|0=>[(0,0)]|1=>[(0,1)]|2=>[(1,1)]|_=>[(0,0),(1,1)]:List (Nat×Nat)),Qab P N l ds zs env H.length H.length j ([H,H1].getD p.1 []) ([H,H1].getD p.2 [])):Dob P N cat l ds env H H1 zs j:=by
 intro p a;rw[Qaz]at b;unfold plC at a;rw[List.getD_eq_getElem?_getD,Xr,b]at a;exact h p a
theorem Qay{hB hE:Nat}{xs a:List A}{o:Oper}{x:A}{d:Nat}{X X':Qc}(e:l[xs.length]?=some o)(hdd:Qar hB hE X X'=true)(h:WO P X.length N l.toArray [o] (Yj (Qh o) 0 ds xs env) X (YZ (up (Yj (Qh o) 0 ds xs env) d x) X'))(k:o.dst=some d):
  Qab P N l ds (xs++x::a) env hB hE xs.length X X':=
 .woE o _ d x e k Qhm (he:=by
  intro s;rcases Qjq (af:=Qh o) (env0:=env) (s:=s) ds xs (x::a) 0 with⟨j,y,b,i,g,f⟩|q|q
  .rw[XB]at b;exact .inl ⟨j,y,b,i,g,f⟩
  .exact .inr (.inl q)
  .exact .inr (.inr q)) (hdd:=hdd) (h:=h)
theorem YV{n:Nat}{X X':Qc}:Qar n n X X'=true:=by unfold Qar;rw[Nat.sub_self];rfl
theorem DA.wo{xs:List A}{o:Oper}{r:List Oper}{x:A}{d:Nat}(h:WO P H.length N l.toArray [o] (Yj (Qh o) 0 ds xs env) H (YZ (up (Yj (Qh o) 0 ds xs env) d x) H))(k:DA P N m cat l ds env H K r (xs++[x]))
  (i:YN cat xs.length=some 0:=by exact rfl)(hd:o.dst=some d:=by exact rfl)(hx:Nat.blt xs.length m=true:=by exact rfl):DA P N m cat l ds env H K (o::r) xs:=by
 intro u;obtain⟨g,a⟩:=Qa8 u;obtain⟨n,H1,f,t,e,b⟩:=k (by simpa using a);simp only[Va,X8,List.length_nil,Vq,List.cons_append,Vp]at f e b;refine⟨x::n,H1,by simp only[X8];omega,t,λj y w=>?_,b⟩;rcases Nat.lt_or_ge xs.length j with q|q
 .exact e j (by omega) w
 .obtain rfl:j=xs.length:=by omega
  refine QgR i λp s=>?_;obtain rfl:=List.mem_singleton.1 s;exact Qay g YV h hd
theorem DA.op{xs:List A}{o:Oper}{r:List Oper}{x:A}{d:Nat}(h:WO P H.length N l.toArray [o] (Yj (Qh o) 0 ds xs env) H (YZ (up (Yj (Qh o) 0 ds xs env) d x) H1))(k:DB P N m cat l ds env H H1 K r (xs++[x]))(i:Nat.ble H.length H1.length=true:=by exact rfl)
  (hc:YN cat xs.length=some 1:=by exact rfl)(hd:o.dst=some d:=by exact rfl)(hx:Nat.blt xs.length m=true:=by exact rfl):DA P N m cat l ds env H K (o::r) xs:=by
 intro t;obtain⟨g,a⟩:=Qa8 t;obtain⟨n,f,e,b⟩:=k (by simpa using a);simp only[Va,X8,List.length_nil,Vq,List.cons_append,Vp]at f e b;refine⟨x::n,H1,by simp only[X8];omega,XY i,λj w u=>?_,b⟩;rcases Nat.lt_or_ge xs.length j with q|q
 .exact e j (by omega) u
 .obtain rfl:j=xs.length:=by omega
  refine QgR hc λp s=>?_;obtain rfl:=List.mem_singleton.1 s;exact Qay g YV h hd
theorem DB.done{xs:List A}{r:List Oper}(a:Nat.beq xs.length m=true)(h:K r (Qat ds xs env) H1):DB P N m cat l ds env H H1 K r xs:=by
 intro b;have e:=XX a;subst b;refine⟨[],by simpa using e,λj f d=>by omega,?_⟩;rw[<- e,Vo];exact h
theorem DB.add{xs:List A}{o:Oper}{r:List Oper}{x:A}(i:∀ys,l[xs.length]?=some o->Dob P N cat l ds env H H1 (xs++x::ys) xs.length)(k:DB P N m cat l ds env H H1 K r (xs++[x])):DB P N m cat l ds env H H1 K (o::r) xs:=by
 intro g;obtain⟨f,a⟩:=Qa8 g;obtain⟨ys,e,d,b⟩:=k (by simpa using a);simp only[Va,X8,List.length_nil,Vq,List.cons_append,Vp]at e d b;refine⟨x::ys,by simp only[X8];omega,λj n h=>?_,b⟩;rcases Nat.lt_or_ge xs.length j with q|q
 .exact d j (by omega) h
 .obtain rfl:j=xs.length:=by omega
  exact i ys f
theorem DB.wo1{xs:List A}{o:Oper}{r:List Oper}{x:A}{d:Nat}(h:WO P H1.length N l.toArray [o] (Yj (Qh o) 0 ds xs env) H1 (YZ (up (Yj (Qh o) 0 ds xs env) d x) H1))(k:DB P N m cat l ds env H H1 K r (xs++[x]))
  (e:YN cat xs.length=some 2:=by exact rfl)(hd:o.dst=some d:=by exact rfl):DB P N m cat l ds env H H1 K (o::r) xs:=
 .add (λf b=>QgR e λp a=>by
  obtain rfl:=List.mem_singleton.1 a;exact Qay b YV h hd) k
theorem DB.wo2{xs:List A}{o:Oper}{r:List Oper}{x:A}{d:Nat}(h:WO P H.length N l.toArray [o] (Yj (Qh o) 0 ds xs env) H (YZ (up (Yj (Qh o) 0 ds xs env) d x) H))(e:WO P H1.length N l.toArray [o] (Yj (Qh o) 0 ds xs env) H1 (YZ (up (Yj (Qh o) 0 ds xs env) d x) H1))(k:DB P N m cat l ds env H H1 K r (xs++[x]))
  (f:YN cat xs.length=some 3:=by exact rfl)(hd:o.dst=some d:=by exact rfl):DB P N m cat l ds env H H1 K (o::r) xs:=
 .add (λg b=>QgR f λp a=>by
  rcases Ve.1 a with rfl|a
  .exact Qay b YV h hd
  .obtain rfl:=List.mem_singleton.1 a;exact Qay b YV e hd) k
def Qg5(T:TyX)(N m:Nat)(cat:List Nat)(l:List Oper)(ds:List Nat)(env:Env)(H:Qc):Nat->Nat->List Oper->List A->Option (List Oper×List A)
 |0,_,r,xs=>some (r,xs)
 |_+1,_,[],_=>none
 |n+1,i,o::r,xs=>match Nat.blt i m,YN cat i with
  |true,some 0=>match o.dst with
   |none=>none
   |some d=>match Nat.blt d N with
    |false=>none
    |true=>match YY ⟨l⟩ o (Yj (Qh o) 0 ds xs env)with
     |none=>none
     |some false=>match QcH xs (.tup [])with
      |.mk xs'=>Qg5 T N m cat l ds env H n (i+1) r xs'
     |some true=>match Qc1 T o (Yj (Qh o) 0 ds xs env) H with
      |none=>none
      |some x=>match QcH xs x with
       |.mk xs'=>Qg5 T N m cat l ds env H n (i+1) r xs'
  |_,_=>none
theorem Qeh(hT:Qbw P T):∀(n i:Nat) {r r':List Oper}{xs xs':List A},i=xs.length->Qg5 T N m cat l ds env H n i r xs=some (r',xs')->DA P N m cat l ds env H K r' xs'->DA P N m cat l ds env H K r xs
 |0,i,r,r',xs,xs',_,h,k=>by cases h;exact k
 |n+1,i,[],r',xs,xs',_,h,k=>by cases h
 |n+1,i,o::r,r',xs,xs',hi,h,k=>by
  subst hi;unfold Qg5 at h;split at h
  .rename_i q1 q0;split at h
   .cases h
   .rename_i d hd;split at h
    .cases h
    .rename_i q2;split at h
     .cases h
     .rename_i hw;simp only[Y5]at h;exact .wo (WO.skip (QM hw) hd q2 (WO.nil YZ.mk)) (Qeh hT n _ (by simp) h k) q0 hd q1
     .rename_i hw;split at h
      .cases h
      .rename_i x hv;simp only[Y5]at h;exact .wo (QF (QM hw) hd q2 (Qau hT hv) (WO.nil YZ.mk)) (Qeh hT n _ (by simp) h k) q0 hd q1
  .cases h
theorem Qnr{H:Qc}{p:Bx}{r:Lx}(h:ptX [] p=some r):ptX H p=some r:=by
 unfold ptX at h⊢;split at h
 .exact h
 .rename_i i a;simp only[YN]at h;cases h
 .cases h
theorem Qd2{o:Oper}{e:Env}{H:Qc}{x:A}(h:Qc1 T o e []=some x):Qc1 T o e H=some x:=by
 unfold Qc1 at h⊢;split at h<;>first|exact h|skip
 rename_i t y g;split at h
 .cases h
 .rename_i b n f;split at h
  .exact h
  .rename_i a;cases q:ptX [] (opB e y)with
   |none=>rw[q]at h;cases h
   |some r=>
    rw[q]at h;have d:=Qnr (H:=H) q;simp only[d];exact h
def Qeg(T:TyX)(N:Nat)(cat:List Nat)(l:List Oper)(ds:List Nat)(env:Env)(H1:Qc):Nat->Nat->List Oper->List A->Option (List Oper×List A)
 |0,_,r,xs=>some (r,xs)
 |_+1,_,[],_=>none
 |n+1,i,o::r,xs=>match o.dst with
  |none=>none
  |some d=>match Nat.blt d N with
   |false=>none
   |true=>match YY ⟨l⟩ o (Yj (Qh o) 0 ds xs env)with
    |none=>none
    |some false=>match YN cat i with
     |some 2=>(match QcH xs (.tup [])with
      |.mk xs'=>Qeg T N cat l ds env H1 n (i+1) r xs')
     |some 3=>(match QcH xs (.tup [])with
      |.mk xs'=>Qeg T N cat l ds env H1 n (i+1) r xs')
     |_=>none
    |some true=>match YN cat i with
     |some 2=>(match Qc1 T o (Yj (Qh o) 0 ds xs env) H1 with
      |none=>none
      |some x=>match QcH xs x with
       |.mk xs'=>Qeg T N cat l ds env H1 n (i+1) r xs')
     |some 3=>(match Qc1 T o (Yj (Qh o) 0 ds xs env) []with
      |none=>none
      |some x=>match QcH xs x with
       |.mk xs'=>Qeg T N cat l ds env H1 n (i+1) r xs')
     |_=>none
theorem QbE(hT:Qbw P T):∀(n i:Nat) {r r':List Oper}{xs xs':List A},i=xs.length->Qeg T N cat l ds env H1 n i r xs=some (r',xs')->DB P N m cat l ds env H H1 K r' xs'->DB P N m cat l ds env H H1 K r xs
 |0,i,r,r',xs,xs',_,h,k=>by cases h;exact k
 |n+1,i,[],r',xs,xs',_,h,k=>by cases h
 |n+1,i,o::r,r',xs,xs',hi,h,k=>by
  subst hi;unfold Qeg at h;split at h
  .cases h
  .rename_i d hd;split at h
   .cases h
   .rename_i q2;split at h
    .cases h
    .rename_i hw;split at h
     .rename_i q0;simp only[Y5]at h;exact .wo1 (WO.skip (QM hw) hd q2 (WO.nil YZ.mk)) (QbE hT n _ (by simp) h k) q0 hd
     .rename_i q0;simp only[Y5]at h;exact .wo2 (WO.skip (QM hw) hd q2 (WO.nil YZ.mk)) (WO.skip (QM hw) hd q2 (WO.nil YZ.mk)) (QbE hT n _ (by simp) h k) q0 hd
     .cases h
    .rename_i hw;split at h
     .rename_i q0;split at h
      .cases h
      .rename_i x hv;simp only[Y5]at h;exact .wo1 (QF (QM hw) hd q2 (Qau hT hv) (WO.nil YZ.mk)) (QbE hT n _ (by simp) h k) q0 hd
     .rename_i q0;split at h
      .cases h
      .rename_i x hv;simp only[Y5]at h;exact .wo2 (QF (QM hw) hd q2 (Qau hT (Qd2 hv)) (WO.nil YZ.mk)) (QF (QM hw) hd q2 (Qau hT (Qd2 hv)) (WO.nil YZ.mk)) (QbE hT n _ (by simp) h k) q0 hd
     .cases h
end
end Go.Sw
namespace Go.Sw
def chkF(L:List (Nat×List (Nat×Nat)))(fs:List (Nat×Nat×Nat)):Bool:=
 fs.all λe=>match QbY L e.1 with
  |some pl=>(match YN pl e.2.1 with
   |some q=>Nat.beq q.1 e.2.2&& !(Nat.beq q.2 0)
   |none=>false)
  |none=>false
theorem PL.get{P:Program}{fs:List Field}{a:List (Nat×Nat)}(h:PL P fs a):∀{f off n:Nat},YN a f=some (off,n)->∃fd,fs[f]?=some fd/\fd.offset=off/\ ∀w,(sizeOf fd.type).run P w=.ok n w:=by
 induction h with
 |nil=>intro f off n h;cases h
 |cons h k g=>
  intro f off n b;cases f with
  |zero=>cases b;exact⟨_,rfl,rfl,h⟩
  |succ f=>obtain⟨fd,e,d⟩:=g (show YN _ f=_ from b);exact⟨fd,by simpa using e,d⟩
theorem Qpb{P:Program}{L:List (Nat×List (Nat×Nat))}{fs:List (Nat×Nat×Nat)}(d:∀e∈L,QL P e.1 e.2)(h:chkF L fs=true):∀e∈fs,∃n,Jk P e.1 e.2.1 e.2.2 n:=by
 intro e i;have:=Xw.1 h e i;split at this
 .rename_i t b;split at this
  .rename_i q l;obtain⟨s,n⟩:=q;simp only[X4,Bool.not_eq_true']at this;have r:=XX this.1;obtain⟨k,f,a⟩:=d _ (Qav b);obtain⟨m,p,g,j⟩:=PL.get a l;refine⟨n,⟨⟨_,m,f,by simpa using p,g.trans r,j,?_⟩⟩⟩;intro z;have a:=this.2;rw[z,Nat.beq_refl]at a;cases a
  .cases this
 .cases this
section
variable {P:Program}{Z:TyZ}{h0 N:Nat}{all:Array Oper}{o:Oper}{l:List Oper}{env:Env}{H:Qc}{Q:Qy}{d:Nat}
theorem Cdz(j:QcI P Z){β γ:Type}{F:Option β}{F':β->Option γ}{r:γ}{f:Nat}{args a:List A}{Hc:Qc}{w:β->A}{Hr:β->Qc}(π:List Nat)(h:F.bind F'=some r)(i:∀v,F=some v->C P f a Hc (RQ w Hr v))
  (b:Qfo Z o env=some (d,f,args))(g:∀v,F=some v->F' v=some r->WO P h0 N all l (up env d (Yw (rho π H.length) (w v))) (Yh H π ((Hr v).map (QV (rho π H.length)))) Q)
  (hargs:args=Qaa (rho π H.length) a)(s:π.map (λp=>H[p]?)=(Hc.map (QV (rho π H.length))).map some)(hπ:π.Nodup)(hg:YY all o env=some true)(m:Nat.blt d N=true)(k:Nat.ble h0 H.length=true):WO P h0 N all (o::l) env H Q:=by
 obtain⟨v,e,q⟩:=Y1 h;obtain⟨n,t⟩:=QdU (H:=H) j b;refine Qw π t (i v e) ?_ hargs s hπ (QM hg) n m k;rintro _ _ ⟨rfl,rfl⟩;exact g v e q
end
inductive FLL where
 |mk (l:List (List A))
def cpLL(sel:List Nat):List (List A)->FLL
 |[]=>.mk []
 |a::r=>match cpL sel a,cpLL sel r with
  |.mk a',.mk r'=>.mk (a'::r')
inductive FBk where
 |mk (b:Blk)
def cpBk(sel:List Nat):Blk->FBk
 |.cells t cs=>match cpL sel cs with
  |.mk l=>.mk (.cells t l)
 |.rowr t k es=>match cpLL sel es with
  |.mk l=>.mk (.rowr t k l)
 |.ents t a b es=>match QjV sel ixL a,QjV sel ixL b with
  |.mk a',.mk b'=>.mk (.ents t a' b' es)
 |b=>.mk b
def selD(H:Qc)(sel:List Nat):List Nat->FB
 |[]=>.mk []
 |a::r=>match YN H a with
  |some b=>(match cpBk sel b,selD H sel r with
   |.mk b',.mk l=>.mk (b'::l))
  |none=>.mk []
def retC(sel sl:List Nat)(env:Env)(H:Qc):Option (Env×Qc):=
 match QlV sel env sl [],selD H sel sel with
 |.mk e,.mk h=>some (e,h)
theorem Rx{P:Program}{h0:Nat}{fn:Func}{env E':Env}{H H':Qc}{Qr:A->Qc->Prop}{d:A}(π sl:List Nat)(_:retC π sl env H=some (E',H'))(b:QcO P fn E' H' d)(e:Qr d H')(a:π.take h0=List.range h0:=by exact rfl)
  (hH:π.map (λp=>H[p]?)=(H'.map (QV (rho π H.length))).map some:=by exact rfl)(hπ:π.Nodup:=by decide)(hE:Qfj (rho π H.length) env E':=by(repeat' (first|exact trivial|refine⟨rfl,?_⟩))):QcN P h0 fn Qr .ret env H:=
 ⟨E',H',d,Lr π a hH hπ hE,b,e⟩
end Go.Sw
namespace Go.Sw
def nxL{T:Type}:List T->T->List T->Prop:=λl x rem=>l=x::rem
def Qbf{S T B:Type}(step:S->T->Option (Ctl S B)):List T->S->Option (Ctl S B)
 |[],s=>some (.cont s)
 |x::l,s=>(step s x).bind λd=>match d with
  |.cont s'=>Qbf step l s'
  |.done b=>some (.done b)
def Qbu{S T B:Type}(step:S->Option (List T×Ctl S B)):Nat->S->Option (List T×B)
 |0,_=>none
 |n+1,s=>(step s).bind λp=>match p.2 with
  |.cont s'=>(Qbu step n s').bind λq=>some (p.1++q.1,q.2)
  |.done b=>some (p.1,b)
def QiJ{S B:Type}(h1:Nat)(env:Env)(Q:Qy)(d:Ctl S B)(Hp:S->Qc):Qy
 |.normal,env',H'=>∃s,d=.cont s/\Le h1 env' H' [] (Hp s)
 |.exit id,env',H'=>(∃b,d=.done b)/\ ∃H2,Le h1 env' H' [] H2/\Q (.exit id) env H2
 |.ret,env',H'=>(∃b,d=.done b)/\ ∃H2,Le h1 env' H' [] H2/\Q .ret env H2
theorem QaP{S B:Type}{h1:Nat}{env env':Env}{H':Qc}{Q:Qy}{s:S}{d:Ctl S B}{Hp:S->Qc}(e:some (Ctl.cont s)=some d)(h:Le h1 env' H' [] (Hp s)):QiJ h1 env Q d Hp .normal env' H':=⟨s,(Oi e).symm,h⟩
theorem Qi6{S B:Type}{h1:Nat}{env env':Env}{H' H2:Qc}{Q:Qy}{b:B}{d:Ctl S B}{Hp:S->Qc}(e:some (Ctl.done b)=some d)(h:Le h1 env' H' [] H2)(q:Q .ret env H2):QiJ h1 env Q d Hp .ret env' H':=⟨⟨b,(Oi e).symm⟩,H2,h,q⟩
theorem Jd{P:Program}{h0 N:Nat}{r:Operand}{ps:List Nat}{assign body:Code}{env:Env}{H:Qc}{Q:Qy}{f:FuncId}{a g:List A}{Hc:Qc}{T S B:Type}{enc:T->List A}{xs:List T}{step:S->T->Option (Ctl S B)}{s0:S}{D:Ctl S B}
  (π:List Nat)(Hp:S->Qc)(h:Qbf step xs s0=some D)(m:QdI P f g Hc enc nxL xs)(n:∀x,(enc x).length=ps.length)(R:∀args w,(callFunc f args).run P w=.ok (.enter f args) w)
  (G:Nat.ble h0 H.length=true)(hg:opA env r=.fn (.func f) [] a)(hargs:a=Qaa (rho π H.length) g)(L:π.map (λp=>H[p]?)=(Hc.map (QV (rho π H.length))).map some)(hπ:π.Nodup)(y:(ps.all λp=>Nat.blt p N)=true)
  (j:Le H.length env (Qdu H π) env (Hp s0))
  (i:∀s x d,step s x=some d->(∀b,d=.done b->D=.done b)->TC P H.length N assign (Qk5 ps (enc x) env) (Hp s) λe env1 H1=>e=.normal/\TC P H.length N body env1 H1 (QiJ H.length env Q d Hp))
  (k:∀s,D=.cont s->Q .normal env (Hp s)):TC P h0 N (.rangeFunc r ps.toArray assign body) env H Q:=by
 refine TC.rangeFunc π Hp (λs l=>Qbf step l s=some D) s0 (XY G) hg hargs L hπ y R m n j h ?_ ?_
 .rintro s l x rem t rfl;obtain⟨d,J,t⟩:=Y1 t;refine(i s x d J ?_).mono ?_
  .rintro b rfl;exact(Oi t).symm
  .rintro e env1 H1 ⟨V,O⟩;refine⟨V,O.mono ?_⟩;intro M z H2 q;cases M with
   |normal=>
    obtain⟨E,rfl,j⟩:=q;exact⟨Hp E,j,E,t,rfl⟩
   |exit id=>
    obtain⟨_,H3,u,q⟩:=q;exact⟨H3,u,q⟩
   |ret=>
    obtain⟨_,H3,u,q⟩:=q;exact⟨H3,u,q⟩
 .intro s F;exact k s (Oi F).symm
section
variable {T:Type}{X:Ctx T}{P:Program}{h0 N:Nat}{c:Code}{env:Env}{H:Qc}{st:YSt T}{Q:Ys T}
def Qfg{S B:Type}(h0:Nat)(E:S->Env)(Hp:S->Qc)(d:Ctl S B)(rest:List T)(Q:Ys T):Ys T
 |.normal,env,H,st=>∃s,d=.cont s/\Le h0 env H (E s) (Hp s)/\st=.on rest
 |.exit id,env,H,st=>Q (.exit id) env H st
 |.ret,env,H,st=>Q .ret env H st
theorem QkB{S B:Type}{step:S->Option (List T×Ctl S B)}{E:S->Env}{Hp:S->Qc}{m:Nat}{s0:S}{i rem:List T}{b:B}(h:Qbu step m s0=some (i,b))(u:Le h0 env H (E s0) (Hp s0))
  (body:∀s zs d rest,step s=some (zs,d)->(∀b',d=.done b'->b'=b/\rest=rem)->TCy X P h0 N c (E s) (Hp s) (.on (zs++rest)) (Qfg h0 E Hp d rest Q)):TCy X P h0 N (.loop c) env H (.on (i++rem)) Q:=by
 refine Qf3 (I:=λn env H p=>∃s f,Qbu step n s=some (f,b)/\p=.on (f++rem)/\Le h0 env H (E s) (Hp s)) ?_ ⟨s0,i,h,rfl,u⟩;rintro n env H p ⟨s,f,a,rfl,j⟩;cases n with
 |zero=>cases a
 |succ n=>
  obtain⟨⟨zs,d⟩,r,a⟩:=Y1 a;refine TCy.le j ?_;cases d with
  |cont z=>
   obtain⟨⟨t,F⟩,y,a⟩:=Y1 a;cases a;rw[Vq];refine(body s zs (.cont z) (t++rem) r (λb' e=>by cases e)).mono ?_;rintro x g H' k q;cases x with
   |normal=>
    obtain⟨w,e,l,rfl⟩:=q;cases e;exact⟨n,Xp n,_,_,y,rfl,l⟩
   |exit id=>exact q
   |ret=>exact q
  |done b'=>
   cases a;refine(body s _ (.done b) rem r (λb' e=>by cases e;exact⟨rfl,rfl⟩)).mono ?_;rintro x g H' k q;cases x with
   |normal=>obtain⟨w,e,_⟩:=q;cases e
   |exit id=>exact q
   |ret=>exact q
def kqY(X:Ctx T)(P:Program)(h0 N:Nat):List Kf->Ys T->Ys T
 |[],Q=>Q
 |.seq c::k,Q=>SeqY X P h0 N c (kqY X P h0 N k Q)
 |.blo id::k,Q=>BloY id (kqY X P h0 N k Q)
 |.unr c::k,Q=>λ_ _ _ _=>False
@[reducible] def HdY(X:Ctx T)(P:Program)(h0 N:Nat):Cf->List Kf->Env->Qc->YSt T->Ys T->Prop
 |.code c,k,env,H,st,Q=>TCy X P h0 N c env H st (kqY X P h0 N k Q)
 |.ops all l,k,env,H,st,Q=>WOy X P h0 N all l env H st (kqY X P h0 N k Q)
 |.out x,k,env,H,st,Q=>kqY X P h0 N k Q x env H st
def Qop:Cf->List Kf->Bool
 |.code (.loop _),_=>false
 |.out _,.unr _::_=>false
 |_,_=>true
theorem Qk7{Tx:TyX}(f:Qbw P Tx){c d:Cf}{k b:List Kf}{env env':Env}{H H':Qc}(h:Qfs Tx h0 N c k env H=some (d,b,env',H'))(a:Qop c k=true)(g:HdY X P h0 N d b env' H' st Q):HdY X P h0 N c k env H st Q:=by
 unfold Qfs at h;split at h
 .cases h;exact TCy.seq g
 .cases h;exact TCy.block g
 .cases a
 .cases h;exact TCy.skip g
 .cases h;exact TCy.ret g
 .cases h;exact TCy.exit g
 .cases h;exact TCy.region g
 .split at h
  .rename_i q;cases h;exact TCy.cond (QC q) (λ_=>g) (λe=>by cases e)
  .rename_i q;cases h;exact TCy.cond (QC q) (λe=>by cases e) (λ_=>g)
  .cases h
 .cases h;exact WOy.nil g
 .split at h
  .rename_i q;cases h;exact WOy.step (Qlc f q (WO.nil ⟨rfl,g⟩))
  .cases h
 .cases h;exact g
 .cases h;exact g
 .cases h;exact g
 .cases h;exact g
 .split at h
  .rename_i q;cases h;have e:=XX q;subst e;show(bif Nat.beq _ _ then _ else _);rw[Nat.beq_refl];exact g
  .rename_i q;cases h;show(bif Nat.beq _ _ then _ else _);rw[q];exact g
 .cases h;exact g
 .cases a
 .cases a
 .cases a
 .cases h
def QjQ(Tx:TyX)(h0 N:Nat):Nat->Cf->List Kf->Env->Qc->Option (Cf×List Kf×Env×Qc)
 |0,c,k,env,H=>some (c,k,env,H)
 |n+1,c,k,env,H=>match Qop c k with
  |true=>(match Qfs Tx h0 N c k env H with
   |some (c',k',env',H')=>QjQ Tx h0 N n c' k' env' H'
   |none=>none)
  |false=>none
theorem QdM{Tx:TyX}(hT:Qbw P Tx):∀(n:Nat) {c c':Cf}{k k':List Kf}{env env':Env}{H H':Qc},QjQ Tx h0 N n c k env H=some (c',k',env',H')->HdY X P h0 N c' k' env' H' st Q->HdY X P h0 N c k env H st Q
 |0,c,c',k,k',env,env',H,H',h,g=>by cases h;exact g
 |n+1,c,c',k,k',env,env',H,H',h,g=>by
  unfold QjQ at h;split at h
  .rename_i hn;split at h
   .rename_i e;exact Qk7 hT e hn (QdM hT n h g)
   .cases h
  .cases h
theorem TCy.lf{k:List Kf}(h:TC P h0 N c env H (λx env H=>kqY X P h0 N k Q x env H st)):TCy X P h0 N c env H st (kqY X P h0 N k Q):=TCy.lift h
theorem QmN{all:Array Oper}{o:Oper}{r:List Oper}{d:Nat}{x:T}{l:List T}{e:T->A}{y z:Operand}{i:Array TypeId}(hE:X.enc=λx=>[e x])(j:X.nx=nxL)(g:o.op=.call {callee:=.value y,args:= #[z],argTypes:=i})(h:opA env y=.fn (.yield X.l) [] [])(m:opA env z=e x)(f:Ye (e x)=true)
  (k:WOy X P h0 N all r (up env d (.bool true)) H (.on l) Q)(a:WOy X P h0 N all r (up env d (.bool false)) H (.off l) Q)(hg:Qs all o env true:=by exact rfl)(hd:o.dst=some d:=by exact rfl)(hNd:Nat.blt d N=true:=by exact rfl):WOy X P h0 N all (o::r) env H (.on (x::l)) Q:=by
 refine WOy.yield (x:=x) (rem:=l) (by rw[j];rfl) hg hd hNd ?_ ?_
 .rw[hE];exact QgV g h m f
 .intro b;cases b with
  |true=>exact k
  |false=>exact a
theorem QmM{all:Array Oper}{o:Oper}{r:List Oper}{d:Nat}{x:T}{l:List T}{e1 e2:T->A}{y h i:Operand}{n:Array TypeId}(hE:X.enc=λx=>[e1 x,e2 x])(p:X.nx=nxL)(m:o.op=.call {callee:=.value y,args:= #[h,i],argTypes:=n})(k:opA env y=.fn (.yield X.l) [] [])(g:opA env h=e1 x)(f:opA env i=e2 x)(a:Ye (e1 x)=true)(e:Ye (e2 x)=true)
  (q:WOy X P h0 N all r (up env d (.bool true)) H (.on l) Q)(j:WOy X P h0 N all r (up env d (.bool false)) H (.off l) Q)(hg:Qs all o env true:=by exact rfl)(hd:o.dst=some d:=by exact rfl)(hNd:Nat.blt d N=true:=by exact rfl):WOy X P h0 N all (o::r) env H (.on (x::l)) Q:=by
 refine WOy.yield (x:=x) (rem:=l) (by rw[p];rfl) hg hd hNd ?_ ?_
 .rw[hE];exact QjO m k g f a e
 .intro b;cases b with
  |true=>exact q
  |false=>exact j
end
end Go.Sw
namespace Go.Sw
def yl{T R:Type}(x:T)(k:Option (List T×R)):Option (List T×R):=k.bind λp=>some (x::p.1,p.2)
def ap{T B R:Type}(a:Option (List T×B))(k:B->Option (List T×R)):Option (List T×R):=a.bind λp=>(k p.2).bind λq=>some (p.1++q.1,q.2)
theorem QiS{T R:Type}{x:T}{k:Option (List T×R)}{a:List T}{v:R}(h:yl x k=some (a,v)):∃zs,k=some (zs,v)/\a=x::zs:=by
 obtain⟨⟨zs,e⟩,d,b⟩:=Y1 h;cases b;exact⟨zs,d,rfl⟩
theorem Qjx{T B R:Type}{a:Option (List T×B)}{k:B->Option (List T×R)}{d:List T}{v:R}(h:ap a k=some (d,v)):∃y1 b y2,a=some (y1,b)/\k b=some (y2,v)/\d=y1++y2:=by
 obtain⟨⟨y1,b⟩,g,i⟩:=Y1 h;obtain⟨⟨y2,j⟩,f,e⟩:=Y1 i;cases e;exact⟨y1,b,y2,g,f,rfl⟩
section
variable {T:Type}{X:Ctx T}{P:Program}{h0 N:Nat}{c c':Code}{env:Env}{H:Qc}{st:YSt T}{Q:Ys T}
def Qne{β:Type}(h0:Nat)(b:β)(E':β->Env)(H':β->Qc)(rem:List T)(Q:Ys T):Ys T
 |.normal,env,H,st=>Le h0 env H (E' b) (H' b)/\st=.on rem
 |.exit id,env,H,st=>Q (.exit id) env H st
 |.ret,env,H,st=>Q .ret env H st
theorem QcJ{β:Type}{E':β->Env}{H':β->Qc}(b:β)(rem:List T)(sel keep:List Nat)(nE:β->Env)(nH:β->List (Nat×Blk))(_:∀b,QmE sel keep (nE b) (nH b) env H=some (E' b,H' b))(h:TCy X P h0 N c env H st (Qne h0 b E' H' rem Q))(k:∀env H,Le h0 env H (E' b) (H' b)->Q .normal env H (.on rem)):TCy X P h0 N c env H st Q:=
 h.mono λx env' H' st' q=>by
  cases x with
  |normal=>obtain⟨q1,rfl⟩:=q;exact k _ _ q1
  |exit id=>exact q
  |ret=>exact q
theorem Qjv{β:Type}{b:β}{E':β->Env}{H':β->Qc}{rem:List T}(h:Le h0 env H (E' b) (H' b)):Qne h0 b E' H' rem Q .normal env H (.on rem):=⟨h,rfl⟩
theorem Qju{β:Type}{b:β}{E':β->Env}{H':β->Qc}{rem:List T}(h:Q .ret env H st):Qne h0 b E' H' rem Q .ret env H st:=h
theorem QgG{S B:Type}{step:S->Option (List T×Ctl S B)}{E':S->Env}{H':S->Qc}{m:Nat}{s0:S}{ys rem:List T}{b:B}(sel keep:List Nat)(nE:S->Env)(nH:S->List (Nat×Blk))(h:Qbu step m s0=some (ys,b))(_:∀s,QmE sel keep (nE s) (nH s) env H=some (E' s,H' s))(hI:Le h0 env H (E' s0) (H' s0))
  (body:∀s zs d rest,step s=some (zs,d)->(∀b',d=.done b'->b'=b/\rest=rem)->TCy X P h0 N c (E' s) (H' s) (.on (zs++rest)) (Qfg h0 E' H' d rest Q)):TCy X P h0 N (.loop c) env H (.on (ys++rem)) Q:=QkB h hI body
theorem Qeq{S B:Type}{E':S->Env}{H':S->Qc}{s:S}{d:Ctl S B}{zs rest:List T}(e:some (([]:List T),Ctl.cont s)=some (zs,d))(h:Le h0 env H (E' s) (H' s)):Qfg h0 E' H' d rest Q .normal env H (.on (zs++rest)):=by
 cases e;exact⟨s,rfl,h,rfl⟩
theorem Qgn{S B:Type}{id:Nat}{E':S->Env}{H':S->Qc}{d:Ctl S B}{rest:List T}(h:Q (.exit id) env H st):Qfg h0 E' H' d rest Q (.exit id) env H st:=h
theorem Qgo{S B:Type}{E':S->Env}{H':S->Qc}{d:Ctl S B}{rest:List T}(h:Q .ret env H st):Qfg h0 E' H' d rest Q .ret env H st:=h
theorem Oy{S B:Type}{d:Ctl S B}{x b:B}{zs rest rem:List T}(f:∀b',d=.done b'->b'=b/\rest=rem)(h:some (([]:List T),Ctl.done x)=some (zs,d)):zs=[]/\b=x/\rest=rem:=by
 cases h;obtain⟨e,a⟩:=f x rfl;exact⟨rfl,e.symm,a⟩
theorem Qao{f:FuncId}{fn:Func}{c:Code}{N:Nat}{a:List A}{H:Qc}{enc:T->List A}{xs:List T}(b:P.funcs[f]?=some fn)(i:fn.body=some c)(e:fn.ntmps=N)(g:Nat.ble (a.length+1) N=true)(d:fn.results= #[])
  (h:∀X:Ctx T,X.enc=enc->X.nx=nxL->TCy X P H.length N c (QfV 0 (.fn (.yield X.l) [] []::a)) H (.on (xs++[])) EndY):QdI P f a H enc nxL xs:=by
 rw[Vo]at h;exact QcM b i e g d h
end
end Go.Sw
namespace Go.Sw
open Go.MapKept
section
variable {fr ro:Nat->Prop}{σ:Sig}{H:Qc}{w:World}
theorem Sim.lendO(s:Sim fr ro σ H w){i b:Nat}{x x':Blk}(hσ:σ[i]?=some (some b))(z:H[i]?=some x)(p:BR ro σ w x' (some b))(M:∀d,Hid w x' b d->Hid w x b d)(J:x'.live=true->x.live=true:=by exact id):
  Sim fr ro σ (H.set i x') w:=by
 have Q:i<H.length:=(XS.1 z).1;have a:∀(j:Nat) (v:Blk),(H.set i x')[j]?=some v->(j=i/\v=x')\/(j≠i/\H[j]?=some v):=by
  intro j v h;by_cases e:j=i
  .subst e;rw[Xa Q]at h;cases h;exact .inl ⟨rfl,rfl⟩
  .rw[XW (λq=>e q.symm)]at h;exact .inr ⟨e,h⟩
 have B:∀(j:Nat) (v:Blk),(H.set i x')[j]?=some v->v.live=true->∃g,H[j]?=some g/\g.live=true:=by
  intro j v h F;rcases a j v h with⟨rfl,rfl⟩|⟨_,h⟩
  .exact⟨x,z,J F⟩
  .exact⟨v,h,F⟩
 refine⟨by rw[Vb];exact s.len,s.roOk,s.frLt,s.roFr,?_,?_,?_,s.hidTo (· = ·) Q0 (X0 _) (λ_ _ _ _ _ _ _ q=>q) (λ_ _ _ _ _ _ _ q=>q) λj d y t N T=>.inl ?_⟩
 .intro j b v f k l;obtain⟨g,r,n⟩:=B j v k l;exact s.own j b g f r n
 .intro j G b v g f k l L P O;obtain⟨u,r,n⟩:=B j v l P;obtain⟨R,E,m⟩:=B G g L O;exact s.inj j G b u R f k r E n m
 .intro j y v f k;rcases a j v k with⟨rfl,rfl⟩|⟨_,h⟩
  .rw[hσ]at f;cases f;exact p
  .exact s.blk j y v f h
 .rcases a j y N with⟨rfl,rfl⟩|⟨_,h⟩
  .rw[hσ]at t;cases t;exact⟨j,x,rfl,hσ,z,J,M⟩
  .exact⟨j,y,rfl,t,h,id,λ_ q=>q⟩
theorem Sim.unhide(s:Sim fr ro σ H w){i b c:Nat}{x x' y:Blk}(hσ:σ[i]?=some (some b))(p:H[i]?=some x)(hx:Hid w x b c)(P:x'.live=true->x.live=true)
  (X:BR ro σ w x' (some b))(hh:∀d,Hid w x' b d->Hid w x b d/\d≠c)(hy:BR ro (σ++[some c]) w y (some c))(O:∀d,Hid w y c d->False):
  Sim fr ro (σ++[some c]) (H.set i x'++[y]) w:=by
 have E:=s.len;have hi:i<H.length:=(XS.1 p).1;have F:=s.hid i b x c hσ p hx;have a:∀(j:Nat) (z:Option Nat) (v:Blk),(σ++[some c])[j]?=some z->(H.set i x'++[y])[j]?=some v->
   (j=i/\z=some b/\v=x')\/(j≠i/\j<σ.length/\σ[j]?=some z/\H[j]?=some v)\/(j=σ.length/\z=some c/\v=y):=by
  intro j z v l m;rcases Nat.lt_trichotomy j σ.length with q|q|q
  .rw[XT q]at l;rw[XT (by rw[Vb];omega)]at m;by_cases e:j=i
   .subst e;rw[Xa hi]at m;rw[hσ]at l;cases m;cases l;exact .inl ⟨rfl,rfl,rfl⟩
   .rw[XW (λq=>e q.symm)]at m;exact .inr (.inl ⟨e,q,l,m⟩)
  .subst q;have e1:(σ++[some c])[σ.length]?=some (some c):=by simp
   have e2:(H.set i x'++[y])[σ.length]?=some y:=by rw[E,show H.length=(H.set i x').length from by simp];simp
   rw[e1]at l;rw[e2]at m;cases l;cases m;exact .inr (.inr ⟨rfl,rfl,rfl⟩)
  .rw[XV (by simp;omega)]at l;simp at l
 have ext:Ext ro σ w ro (σ++[some c]) w:=⟨λ_ q=>q,λ_ _=>rfl,λ_ _ q=>q,λ_ _ h=>Y9 h⟩;refine⟨by simp[E],s.roOk,s.frLt,s.roFr,?_,?_,?_,?_⟩
 .intro j d v l m B;rcases a j _ v l m with⟨rfl,e,rfl⟩|⟨_,_,u,t⟩|⟨rfl,e,rfl⟩
  .cases e;exact s.own j _ x hσ p (P B)
  .exact s.own j d v u t B
  .cases e;exact⟨F.lt,F.ro,F.fr⟩
 .intro j f d v g l m B W J R;rcases a j _ v l B with⟨T,e,rfl⟩|⟨n1,l1,u,t⟩|⟨T,e,rfl⟩<;>rcases a f _ g m W with⟨r1',e',rfl⟩|⟨n1',l1',q1',q2'⟩|⟨r1',e',rfl⟩
  .rw[T,r1']
  .cases e;exact(n1' (s.inj f i _ g x q1' hσ q2' p R (P J))).elim
  .cases e;cases e';exact(F.ne i _ x hσ p (P J) rfl).elim
  .cases e';exact(n1 (s.inj j i _ v x u hσ t p J (P R))).elim
  .exact s.inj j f d v g u q1' t q2' J R
  .cases e';exact(F.ne j _ v u t J rfl).elim
  .cases e;cases e';exact(F.ne i _ x hσ p (P R) rfl).elim
  .cases e;exact(F.ne f _ g q1' q2' R rfl).elim
  .rw[T,r1']
 .intro j z v l m;rcases a j _ v l m with⟨rfl,rfl,rfl⟩|⟨_,_,u,t⟩|⟨rfl,rfl,rfl⟩
  .exact X.keep ext (λ_ _ _=>rfl) (λ_ _ _ _=>rfl)
  .exact(s.blk j z v u t).keep ext (λ_ _ _=>rfl) (λ_ _ _ _=>rfl)
  .exact hy
 .intro j d v V l m B;rcases a j _ v l m with⟨T,e,r2⟩|⟨n1,l1,u,t⟩|⟨rfl,e,rfl⟩
  .cases e;subst T r2;obtain⟨W,J⟩:=hh V B;have k:=s.hid j _ x V hσ p W;refine⟨k.lt,k.ro,k.fr,λf M g N G n=>?_,λf M g N G n=>?_⟩
   .rcases a f _ g N G with⟨_,e,rfl⟩|⟨_,_,L,Q⟩|⟨_,e,rfl⟩
    .cases e;exact k.ne j _ x hσ p (P n)
    .exact k.ne f M g L Q n
    .cases e;exact J
   .rcases a f _ g N G with⟨r,e,rfl⟩|⟨_,_,L,Q⟩|⟨_,e,rfl⟩
    .cases e;exact⟨rfl,r⟩
    .exact k.one f M g L Q n
    .cases e;exact(O _ n).elim
  .have k:=s.hid j d v V u t B;have Y:V≠c:=λe=>by subst e;exact n1 (F.one j d v u t B).2
   refine⟨k.lt,k.ro,k.fr,λf M g N G n=>?_,λf M g N G n=>?_⟩
   .rcases a f _ g N G with⟨_,e,rfl⟩|⟨_,_,L,Q⟩|⟨_,e,rfl⟩
    .cases e;exact k.ne i _ x hσ p (P n)
    .exact k.ne f M g L Q n
    .cases e;exact Y
   .rcases a f _ g N G with⟨r,e,rfl⟩|⟨_,_,L,Q⟩|⟨_,e,rfl⟩
    .cases e;subst r;exact k.one f _ x hσ p (hh V n).1
    .exact k.one f M g L Q n
    .cases e;exact(O _ n).elim
  .cases e;exact(O _ B).elim
theorem Sim.hideSet(s:Sim fr ro σ H w){i b j c:Nat}{x x' y:Blk}{obj:Obj}(hσ:σ[i]?=some (some b))(M:H[i]?=some x)(P:x.live=true)(hσj:σ[j]?=some (some c))(J:H[j]?=some y)(O:y.live=true)(aj:i≠j)
  (ai:∀y,w.shape? b=some y->({w with heap:=w.heap.setIfInBounds b obj}:World).shape? b=some y)
  (ae:Ext ro σ w ro σ {w with heap:=w.heap.setIfInBounds b obj}->({w with heap:=w.heap.setIfInBounds b obj}:World).heap[b]?=some obj->(∀d,d≠b->({w with heap:=w.heap.setIfInBounds b obj}:World).heap[d]?=w.heap[d]?)->BR ro σ {w with heap:=w.heap.setIfInBounds b obj} x' (some b))
  (ab:∀d,Hid {w with heap:=w.heap.setIfInBounds b obj} x' b d->Hid w x b d\/d=c):
  Sim fr ro σ ((H.set j .dead).set i x') {w with heap:=w.heap.setIfInBounds b obj}/\Qf fr ro w ro {w with heap:=w.heap.setIfInBounds b obj}:=by
 obtain⟨hb,R,T⟩:=s.own i b x hσ M P;obtain⟨hc,ac,ad⟩:=s.own j c y hσj J O;have ag:b≠c:=λe=>aj (s.inj i j b x y hσ (by rw[e];exact hσj) M J P O);have F:∀c,c≠b->({w with heap:=w.heap.setIfInBounds b obj}:World).heap[c]?=w.heap[c]? :=by
  intro c hc;show(w.heap.setIfInBounds b obj)[c]?=_;rw[Vm,if_neg (λq=>hc q.symm)]
 have af:({w with heap:=w.heap.setIfInBounds b obj}:World).heap[b]?=some obj:=by
  show(w.heap.setIfInBounds b obj)[b]?=_;rw[Vm,if_pos rfl,if_pos hb]
 have E:({w with heap:=w.heap.setIfInBounds b obj}:World).heap.size=w.heap.size:=by simp
 have ev:Qf fr ro w ro {w with heap:=w.heap.setIfInBounds b obj}:=
  ⟨λ_ h=>h,λc h=>F c (λq=>R (q▸h)),λc h=>F c (λq=>T (q▸h)),by rw[E];exact X0 _,by
   intro c y h;by_cases q:c=b
   .subst q;exact ai y h
   .unfold World.shape? at h⊢;rw[F c q];exact h,rfl,rfl,rfl,X0 _⟩
 have hi:i<H.length:=(XS.1 M).1;have a:∀(p:Nat) (v:Blk),((H.set j .dead).set i x')[p]?=some v->(p=i/\v=x')\/v=.dead\/(p≠i/\p≠j/\H[p]?=some v):=by
  intro p v h;by_cases e:p=i
  .subst e;rw[Xa (by rw[Vb];exact hi)]at h;cases h;exact .inl ⟨rfl,rfl⟩
  .rw[XW (λq=>e q.symm)]at h;by_cases e':p=j
   .subst e';rw[Xa (XS.1 J).1]at h;cases h;exact .inr (.inl rfl)
   .rw[XW (λq=>e' q.symm)]at h;exact .inr (.inr ⟨e,e',h⟩)
 have aa:=ae (ev.ext0 σ) af F;have t:∀(p d:Nat) (v:Blk) (e:Nat),p≠i->σ[p]?=some (some d)->H[p]?=some v->Hid {w with heap:=w.heap.setIfInBounds b obj} v d e->Hid w v d e:=λp d v e n m L q=>
  s.hidKeep m L (λz=>F d (λr=>n (s.inj p i b v x (r▸m) hσ L M z P))) ev.keepRo q
 refine⟨⟨by rw[Vb,Vb];exact s.len,s.roOk.to (λ_ q=>q) ev.keepRo (λc h=>by rw[E];exact s.roLt c h),λc h=>by rw[E];exact s.frLt c h,s.roFr,?_,?_,?_,?_⟩,ev⟩
 .intro p d v m L Q;rw[E];rcases a p v L with⟨rfl,rfl⟩|rfl|⟨_,_,q⟩
  .rw[hσ]at m;cases m;exact⟨hb,R,T⟩
  .cases Q
  .exact s.own p d v m q Q
 .intro p f d v g m L Q X Y h6;rcases a p v Q with⟨r,rfl⟩|rfl|⟨n,_,q⟩<;>rcases a f g X with⟨V,rfl⟩|rfl|⟨W,_,B⟩
  .rw[r,V]
  .cases h6
  .subst r;exact s.inj p f d x g m L M B P h6
  .cases Y
  .cases Y
  .cases Y
  .subst V;exact s.inj p f d v x m L q M Y P
  .cases h6
  .exact s.inj p f d v g m L q B Y h6
 .intro p z v m L;rcases a p v L with⟨rfl,rfl⟩|rfl|⟨n,_,q⟩
  .rw[hσ]at m;cases m;exact aa
  .trivial
  .refine(s.blk p z v m q).keep (ev.ext0 σ) ?_ ?_
   .rintro d rfl hz;exact F d (λr=>n (s.inj p i b v x (r▸m) hσ q M hz P))
   .rintro d e rfl hz;exact F e ((s.hid p d v e m q hz).ne i b x hσ M P)
 .intro p d v e m L Q;rcases a p v L with⟨r,rfl⟩|rfl|⟨n,nj,q⟩
  .subst r;rw[hσ]at m;cases m;rcases ab e Q with X|rfl
   .have k:=s.hid p b x e hσ M X;refine⟨by rw[E];exact k.lt,k.ro,k.fr,λf G g l N u=>?_,λf G g l N u=>?_⟩
    .rcases a f g N with⟨rfl,rfl⟩|rfl|⟨_,_,B⟩
     .exact k.ne f G x l M P
     .cases u
     .exact k.ne f G g l B u
    .rcases a f g N with⟨V,rfl⟩|rfl|⟨W,_,B⟩
     .subst V;rw[hσ]at l;cases l;exact⟨rfl,rfl⟩
     .exact u.elim
     .exact k.one f G g l B (t f G g e W l B u)
   .refine⟨by rw[E];exact hc,ac,ad,λf G g l N u=>?_,λf G g l N u=>?_⟩
    .rcases a f g N with⟨rfl,rfl⟩|rfl|⟨_,ah,B⟩
     .rw[hσ]at l;cases l;exact λz=>ag z.symm
     .cases u
     .exact λz=>ah (s.inj f j e g y (z▸l) hσj B J u O)
    .rcases a f g N with⟨V,rfl⟩|rfl|⟨W,_,B⟩
     .subst V;rw[hσ]at l;cases l;exact⟨rfl,rfl⟩
     .exact u.elim
     .exact((s.hid f G g e l B (t f G g e W l B u)).ne j e y hσj J O rfl).elim
  .exact Q.elim
  .have k:=s.hid p d v e m q (t p d v e n m q Q);refine⟨by rw[E];exact k.lt,k.ro,k.fr,λf G g l N u=>?_,λf G g l N u=>?_⟩
   .rcases a f g N with⟨rfl,rfl⟩|rfl|⟨_,_,B⟩
    .exact k.ne f G x l M P
    .cases u
    .exact k.ne f G g l B u
   .rcases a f g N with⟨V,rfl⟩|rfl|⟨W,_,B⟩
    .subst V;rw[hσ]at l;cases l;rcases ab e u with X|rfl
     .exact k.one f b x hσ M X
     .exact(k.ne j e y hσj J O rfl).elim
    .exact u.elim
    .exact k.one f G g l B (t f G g e W l B u)
end
end Go.Sw
namespace Go.Sw
open Go.MapKept
def QN{α β:Type}(ek:α->A)(ev:β->List A)(l:List (α×Option (List β))):List (A×Option (List (List A))):=l.map λp=>(ek p.1,p.2.map (List.map ev))
def QjZ{α β:Type}[DecidableEq α](l:List (α×Option (List β)))(x:α):Option (List β):=match YI l x with
 |none=>some []
 |some q=>q
def Qas{α β:Type}[DecidableEq α](l:List (α×Option (List β)))(x:α):List (α×Option (List β)):=l.map λp=>bif decide (p.1=x)then(p.1,none)else p
section
variable {P:Program}{kt:TypeId}{α β:Type} [DecidableEq α] {ek:α->A}{ev:β->List A}{ro:Nat->Prop}{w:World}{t k:Nat} (K:Y3 P kt ek)
include K
theorem MO.keys:∀{l:List (α×Option (List β))}{es:List MapEntry},MO ro w t k (QN ek ev l) es->es.map (·.key)=l.map λp=>Qq (ek p.1)
 |[],es,h=>by cases(show es=[]from h);rfl
 |p::l,es,h=>by
  obtain⟨e,l',rfl,h1,h2,h3⟩:=h;simp only[Vr];rw[VR.val (K.scl _) h1,MO.keys (l:=l) h3]
theorem Qh2{l:List (α×Option (List β))}{es:List MapEntry}(h:MO ro w t k (QN ek ev l) es):∀e∈es,∃y,e.key=Qq (ek y):=by
 intro e b;have:e.key∈es.map (·.key):=List.mem_map_of_mem b;rw[MO.keys K h]at this;obtain⟨p,_,a⟩:=Xf.1 this;exact⟨p.1,a.symm⟩
theorem QgN{x:α}:∀{l:List (α×Option (List β))}{es:List MapEntry},MO ro w t k (QN ek ev l) es->MO ro w t k (QN ek ev (Qas l x)) es
 |[],es,h=>h
 |p::l,es,h=>by
  obtain⟨e,l',rfl,h1,h2,h3⟩:=h;by_cases q:p.1=x
  .refine⟨e,l',rfl,by simpa[q]using h1,λrows hr=>?_,QgN (l:=l) h3⟩;simp[q]at hr
  .refine⟨e,l',rfl,by simpa[q]using h1,λrows hr=>h2 rows (by simpa[q]using hr),QgN (l:=l) h3⟩
omit K
theorem QbX{x:α}{c:Nat}:∀{l:List (α×Option (List β))}{es:List MapEntry},Jb (QN ek ev (Qas l x)) es c->Jb (QN ek ev l) es c
 |[],es,h=>by cases es<;>exact h.elim
 |p::l,[],h=>h.elim
 |p::l,e::es,h=>by
  rcases h with⟨h1,h2⟩|h
  .by_cases q:p.1=x
   .simp[q]at h1
   .exact .inl ⟨by simpa[q]using h1,h2⟩
  .exact .inr (QbX (l:=l) h)
theorem Qf9{x:α}:∀{l:List (α×Option (List β))}{es:List MapEntry},Qcl (QN ek ev l) es->Qcl (QN ek ev (Qas l x)) es
 |[],es,h=>by cases es<;>trivial
 |p::l,[],h=>trivial
 |p::l,e::es,h=>by
  obtain⟨h1,h2⟩:=h;refine⟨λc q1 q2 q3=>?_,Qf9 (l:=l) h2⟩;by_cases q:p.1=x
  .simp[q]at q1
  .exact h1 c (by simpa[q]using q1) q2 (QbX (l:=l) q3)
include K
theorem MO.find:∀{l:List (α×Option (List β))}{es:List MapEntry},MO ro w t k (QN ek ev l) es->∀(x:α),(es.map (·.key)).Nodup->
  ((∀e:MapEntry,e∈es->e.key≠Qq (ek x))->YI l x=none)/\
  (∀(j:Nat) (e:MapEntry),es[j]?=some e->e.key=Qq (ek x)->∃q,YI l x=some q/\(∀rows,q=some rows->SO ro w t k (rows.map ev) e.val)/\
   ∀c p n cap,q.isSome=true->e.val=.slice (some ⟨c,p,none⟩) n cap->Jb (QN ek ev l) es c/\(Qcl (QN ek ev l) es->¬Jb (QN ek ev (Qas l x)) es c))
 |[],es,h,x,_=>by
  cases(show es=[]from h);exact⟨λ_=>rfl,λj e he=>by simp at he⟩
 |p::l,es,h,x,hn=>by
  obtain⟨e0,l',rfl,h1,h2,h3⟩:=h;have hk:e0.key=Qq (ek p.1):=VR.val (K.scl _) h1;simp only[Vr,List.nodup_cons]at hn;obtain⟨a1,a2⟩:=MO.find (l:=l) h3 x hn.2;by_cases hp:p.1=x
  .subst hp;constructor
   .intro q;exact absurd hk (q e0 (by simp))
   .intro j e he hx;cases j with
    |zero=>
     simp only[XL,Option.some.injEq]at he;subst he;refine⟨p.2,by simp[YI],λrows hr=>h2 (rows.map ev) (by simp[hr]),λc p' n cap hs hv=>⟨.inl ⟨by simpa using hs,p',n,cap,hv⟩,λhd hq=>?_⟩⟩;rcases hq with⟨q1,_⟩|hq
     .simp at q1
     .exact hd.1 c (by simpa using hs) ⟨p',n,cap,hv⟩ (QbX (l:=l) hq)
    |succ j=>
     simp only[XM]at he;exact absurd (hk.trans hx.symm▸List.mem_map_of_mem (f:=λe:MapEntry=>e.key) (List.mem_of_getElem? he)) hn.1
  .have e1:YI (p::l) x=YI l x:=by simp[YI,hp]
   rw[e1];constructor
   .intro q;exact a1 λe he=>q e (by simp[he])
   .intro j e he hx;cases j with
    |zero=>
     simp only[XL,Option.some.injEq]at he;subst he;exact absurd (K.inj _ _ (hk.symm.trans hx)) hp
    |succ j=>
     obtain⟨q,i,b,d⟩:=a2 j e (by simpa using he) hx;refine⟨q,i,b,λc p' n cap hs hv=>?_⟩;obtain⟨a,g⟩:=d c p' n cap hs hv;refine⟨.inr a,λhd hq=>?_⟩;rcases hq with⟨q1,m⟩|hq
     .exact hd.1 c (by simpa[hp]using q1) m a
     .exact g hd.2 hq
end
section
variable {P:Program}{o:Oper}{env:Env}{H:Qc}
variable {T kt et:Nat}{α β:Type} [DecidableEq α] {ek:α->A}{ev:β->List A}{x y:Operand}{i t k:Nat}{l:List (α×Option (List β))}{key:α}{rows:List β}
theorem QiO(t k:Nat)(f:o.op=.makeMap T none:=by exact rfl):OpH P o env H (.map H.length) (H++[.mapO false t k []]):=by
 intro n g σ N a w r;refine⟨.map (some w.heap.size),w.alloc (.map #[] 0),g,[some w.heap.size],?_,⟨w.heap.size,?_,rfl⟩,r.sim.alloc ⟨(λh=>by cases h), #[],0,YH _ _,rfl,trivial,by simp,by simp,by simp,rfl,λi e h=>by simp at h⟩ (λc h=>?_),Qf.alloc _ r.sim.roLt r.sim.frLt⟩
 .generalize a.eval=ρ at*;simp only[execOp,f,Instr.makeMap,Xl,Vu];rfl
 .rw[<- r.sim.len];simp
 .obtain⟨l,j,m,b⟩:=h;cases d:l.toList with
  |nil=>rw[d]at b;exact b
  |cons e r=>rw[d]at b;exact b
theorem QkQ{fz:Bool}(K:Y3 P kt ek)(V:QjZ l key=some rows)(hT:P.underlying T=some (.map kt et))(hz:∀w,(zeroValue et).run P w=.ok (.slice none 0 0) w)
  (ho:o.op=.lookup T x y false:=by exact rfl)(hx:opA env x=.map i:=by exact rfl)(hH:H[i]?=some (.mapO fz t k (QN ek ev l)):=by exact rfl)(hy:opA env y=ek key:=by exact rfl):
  OpH P o env H (.osl H.length 0 rows.length k) (H.set i (.mapO fz t k (QN ek ev (Qas l key)))++[.row t k (rows.map ev)]):=by
 intro fr G σ N a w r;have h1:=Qg r x;rw[hx]at h1;obtain⟨b,Q,q2⟩:=h1;have h2:=Qg r y;rw[hy]at h2;have Y:=VR.val (K.scl _) h2;have hB:=r.sim.blk i _ _ Q hH;obtain⟨p0,W,g,u,R,pd,p3,p4,p5⟩:=hB;obtain⟨f1,f2⟩:=MO.find K R key p5.1;have n:BR G σ w (.mapO fz t k (QN ek ev (Qas l key))) (some b):=⟨p0,W,g,u,QgN K R,Qf9 pd,p3,p4,p5⟩;have m:∀d,Hid w (.mapO fz t k (QN ek ev (Qas l key))) b d->Hid w (.mapO fz t k (QN ek ev l)) b d:=by
  rintro d ⟨l',X,z,L⟩;exact⟨l',X,z,QbX L⟩
 have B:=r.sim.len;have f:rows=[]->(execOp a.eval o).run P w=.ok (.value (.slice none 0 0)) w->∃v w' ro' τ,(execOp a.eval o).run P w=.ok (.value v) w'/\VR ro' (σ++τ) w' (.osl H.length 0 rows.length k) v/\
   Sim fr ro' (σ++τ) (H.set i (.mapO fz t k (QN ek ev (Qas l key)))++[.row t k (rows.map ev)]) w'/\Qf fr G w ro' w':=by
  rintro rfl s;refine⟨_,w,G,[none],s,.inl ⟨rfl,rfl⟩,?_,Qf.refl _ _ _⟩;exact(r.sim.lendO Q hH n m).phantom t k
 rcases K.find w key W.toList (Qh2 K R)with⟨J,M⟩|⟨j,e,J,M,h6⟩
 .have z:=f1 M;have hr:rows=[]:=by simp[QjZ,z]at V;exact V
  refine f hr ?_;simp only[execOp,ho,q2,Y,Vu,Instr.lookup,run_underlying hT,Result.andThen,MapKept.run_getObj_map u,Vv,K.check,J,hz];rfl
 .obtain⟨q,z,L,g3⟩:=f2 j e M h6;have hq:q=some rows:=by simpa[QjZ,z]using V
  subst hq;have s:(execOp a.eval o).run P w=.ok (.value e.val) w:=by
   simp only[execOp,ho,q2,Y,Vu,Instr.lookup,run_underlying hT,Result.andThen,MapKept.run_getObj_map u,Vv,K.check,J];rfl
  rcases L rows rfl with⟨F,O⟩|⟨c,p,E,vs,F,O,z3,z4,z5,z6⟩
  .exact f (by simpa using F) (by rw[s,O])
  .rw[F]at s;obtain⟨f3,f4⟩:=g3 c p _ E rfl F;refine⟨_,w,G,[some c],s,.inr ⟨c,p,E,t,vs.length,?_,by simp,λq=>by simpa using z6 q,by simpa using O,?_,by simpa using z4⟩,?_,Qf.refl _ _ _⟩
   .rw[<- B];simp
   .unfold World.shape?;rw[z3];simp
   .refine r.sim.unhide Q hH ⟨W,g,u,f3⟩ id n (λd hd=>⟨m d hd,?_⟩) ⟨vs,z3,z5⟩ (λ_ h=>h.elim);rintro rfl;obtain⟨l',X,g4,g5⟩:=hd;rw[u]at g4;cases g4;exact f4 pd g5
end
end Go.Sw
namespace Go.Sw
open Go.MapKept
theorem MO.append{ro:Nat->Prop}{w:World}{t k:Nat}:∀{l m:List (A×Option (List (List A)))}{es fs:List MapEntry},MO ro w t k l es->MO ro w t k m fs->MO ro w t k (l++m) (es++fs)
 |[],m,es,fs,h,q=>by cases(show es=[]from h);exact q
 |p::l,m,es,fs,h,q=>by
  obtain⟨e,l',rfl,h1,h2,h3⟩:=h;exact⟨e,l'++fs,rfl,h1,h2,MO.append h3 q⟩
theorem MO.length{ro:Nat->Prop}{w:World}{t k:Nat}:∀{l:List (A×Option (List (List A)))}{es:List MapEntry},MO ro w t k l es->es.length=l.length
 |[],es,h=>by cases(show es=[]from h);rfl
 |p::l,es,h=>by
  obtain⟨e,l',rfl,h1,h2,h3⟩:=h;simp[MO.length h3]
def SlB(v:Value)(c:Nat):Prop:=∃p n cap,v=.slice (some ⟨c,p,none⟩) n cap
theorem Jb.push{c:Nat}{x:A}{r:Option (List (List A))}{e:MapEntry}:∀{l:List (A×Option (List (List A)))}{es:List MapEntry},es.length=l.length->Jb (l++[(x,r)]) (es++[e]) c->Jb l es c\/SlB e.val c
 |[],[],_,h=>by
  rcases h with⟨_,h⟩|h
  .exact .inr h
  .exact h.elim
 |[],_::_,q,_=>by simp at q
 |_::_,[],q,_=>by simp at q
 |p::l,e0::es,q,h=>by
  rcases h with h|h
  .exact .inl (.inl h)
  .exact(Jb.push (l:=l) (es:=es) (by simpa using q) h).imp .inr id
theorem Qcl.push{x:A}{r:Option (List (List A))}{e:MapEntry}:∀{l:List (A×Option (List (List A)))}{es:List MapEntry},es.length=l.length->Qcl l es->(∀c,Jb l es c->¬SlB e.val c)->Qcl (l++[(x,r)]) (es++[e])
 |[],[],_,_,_=>⟨λ_ _ _ h=>h.elim,trivial⟩
 |[],_::_,q,_,_=>by simp at q
 |_::_,[],q,_,_=>by simp at q
 |p::l,e0::es,q,⟨h1,h2⟩,hn=>by
  refine⟨λc q1 q2 q3=>?_,Qcl.push (l:=l) (es:=es) (by simpa using q) h2 λc hc=>hn c (.inr hc)⟩;rcases Jb.push (l:=l) (es:=es) (by simpa using q) q3 with q4|q4
  .exact h1 c q1 q2 q4
  .exact hn c (.inl ⟨q1,q2⟩) q4
section
variable {P:Program}{kt:TypeId}{α β:Type} [DecidableEq α] {ek:α->A}{ev:β->List A}{ro:Nat->Prop}{w:World}{t k:Nat} (K:Y3 P kt ek)
def Qbx{α β:Type}[DecidableEq α](l:List (α×Option (List β)))(x:α)(rows:List β):List (α×Option (List β)):=l.map λp=>bif decide (p.1=x)then(p.1,some rows)else p
include K
theorem QfA{x:α}{rows:List β}:∀{l:List (α×Option (List β))}{es:List MapEntry},MO ro w t k (QN ek ev l) es->(∀e∈es,e.key≠Qq (ek x))->Qbx l x rows=l
 |[],es,h,q=>rfl
 |p::l,es,h,q=>by
  obtain⟨e,l',rfl,h1,h2,h3⟩:=h;have hk:e.key=Qq (ek p.1):=VR.val (K.scl _) h1;have hp:p.1≠x:=λz=>q e (by simp) (by rw[hk,z]);have:=QfA (l:=l) h3 (λe he=>q e (by simp[he])) (rows:=rows);simp only[Qbx,Vr,decide_false,hp,cond_false];rw[show(l.map λp=>bif decide (p.1=x)then(p.1,some rows)else p)=l from this]
theorem MO.put{x:α}{rows:List β}{v:Value}(i:SO ro w t k (rows.map ev) v):∀{l:List (α×Option (List β))}{es:List MapEntry}{j:Nat}{e:MapEntry},MO ro w t k (QN ek ev l) es->
  (es.map (·.key)).Nodup->es[j]?=some e->e.key=Qq (ek x)->
  MO ro w t k (QN ek ev (Qbx l x rows)) (es.modify j λe=>{e with key:=Qq (ek x),val:=v})/\
  (∀c,Jb (QN ek ev (Qbx l x rows)) (es.modify j λe=>{e with key:=Qq (ek x),val:=v}) c->Jb (QN ek ev l) es c\/SlB v c)/\
  (Qcl (QN ek ev l) es->(∀c,Jb (QN ek ev l) es c->¬SlB v c)->Qcl (QN ek ev (Qbx l x rows)) (es.modify j λe=>{e with key:=Qq (ek x),val:=v}))
 |[],es,j,e,h,hn,he,hk=>by cases(show es=[]from h);simp at he
 |p::l,es,j,e,h,hn,he,hk=>by
  obtain⟨e0,l',rfl,h1,h2,h3⟩:=h;have hk0:e0.key=Qq (ek p.1):=VR.val (K.scl _) h1;simp only[Vr,List.nodup_cons]at hn;cases j with
  |zero=>
   simp only[XL,Option.some.injEq]at he;subst he;have hp:p.1=x:=K.inj _ _ (hk0.symm.trans hk);simp only[List.modify_zero_cons];have e0':Qbx l x rows=l:=QfA K h3 λe he z=>hn.1 (by rw[hk, <- z];exact List.mem_map_of_mem he);have e1:Qbx (p::l) x rows=(p.1,some rows)::l:=by
    have:Qbx (p::l) x rows=(p.1,some rows)::Qbx l x rows:=by simp[Qbx,hp]
    rw[this,e0']
   rw[e1];refine⟨⟨_,l',rfl,?_,?_,h3⟩,?_,?_⟩
   .show VR ro [] w (ek p.1) (Qq (ek x));rw[<- hp];exact QbL (K.scl _)
   .intro b u;cases u;exact i
   .rintro c (⟨_,q⟩|q)
    .exact .inr q
    .exact .inl (.inr q)
   .rintro⟨m,d⟩ a;exact⟨λc _ q z=>a c (.inr z) q,d⟩
  |succ j=>
   simp only[XM]at he;have hp:p.1≠x:=by
    intro q;refine hn.1 (Xf.2 ⟨e,List.mem_of_getElem? he,?_⟩);rw[hk,hk0,q]
   simp only[List.modify_succ_cons];obtain⟨s,f,r⟩:=MO.put i h3 hn.2 he hk;have e1:Qbx (p::l) x rows=p::Qbx l x rows:=by simp[Qbx,hp]
   rw[e1];refine⟨⟨_,_,rfl,h1,h2,s⟩,?_,?_⟩
   .rintro c (q|q)
    .exact .inl (.inl q)
    .exact(f c q).imp .inr id
   .rintro⟨m,d⟩ a;refine⟨λc g n z=>?_,r d λc y=>a c (.inr y)⟩;rcases f c z with z|z
    .exact m c g n z
    .exact a c (.inl ⟨g,n⟩) z
end
section
variable {P:Program}{o:Oper}{env:Env}{H:Qc}
variable {T kt et:Nat}{α β:Type} [DecidableEq α] {ek:α->A}{ev:β->List A}{x y zz:Operand}{i j t k n:Nat}{l m:List (α×Option (List β))}{key:α}{rows:List β}
theorem Qnq(K:Y3 P kt ek){ro:Nat->Prop}{w:World}{b:Nat}{es:Array MapEntry}{v:Value}(z:MO ro w t k (QN ek ev l) es.toList)(x:Qcl (QN ek ev l) es.toList)
  (E:∀e∈es.toList,e.born<b)(u:(es.toList.map (·.born)).Nodup)(m:(es.toList.map (·.key)).Nodup/\Qfk es b)(G:SO ro w t k (rows.map ev) v)(j:∀c,Jb (QN ek ev l) es.toList c->¬SlB v c)
  {d:Nat}{e:MapEntry}(p:es.toList[d]?=some e)(r:e.key=Qq (ek key)):
  MO ro w t k (QN ek ev (Qbx l key rows)) (es.modify d λe=>{e with key:=Qq (ek key),val:=v}).toList/\Qcl (QN ek ev (Qbx l key rows)) (es.modify d λe=>{e with key:=Qq (ek key),val:=v}).toList/\
   (∀c,Jb (QN ek ev (Qbx l key rows)) (es.modify d λe=>{e with key:=Qq (ek key),val:=v}).toList c->Jb (QN ek ev l) es.toList c\/SlB v c)/\(∀e'∈(es.modify d λe=>{e with key:=Qq (ek key),val:=v}).toList,e'.born<b)/\
   ((es.modify d λe=>{e with key:=Qq (ek key),val:=v}).toList.map (·.born)).Nodup/\((es.modify d λe=>{e with key:=Qq (ek key),val:=v}).toList.map (·.key)).Nodup/\Qfk (es.modify d λe=>{e with key:=Qq (ek key),val:=v}) b:=by
 have a:(es.modify d λe=>{e with key:=Qq (ek key),val:=v}).toList=es.toList.modify d λe=>{e with key:=Qq (ek key),val:=v}:=by simp
 have g:∀{γ:Type} (f:MapEntry->γ),(∀e',es.toList[d]?=some e'->f {e' with key:=Qq (ek key),val:=v}=f e')->(es.toList.modify d λe=>{e with key:=Qq (ek key),val:=v}).map f=es.toList.map f:=by
  intro γ f hf;apply List.ext_getElem?;intro n;rw[Xr,Xr,List.getElem?_modify];by_cases j:d=n
  .subst j;cases q:es.toList[d]? with
   |none=>rfl
   |some e'=>simp[hf e' q]
  .simp[j]
 obtain⟨y,s,F⟩:=MO.put K G z m.1 p r;refine⟨?_,?_,?_,?_,?_,?_,m.2.modify λ_=>rfl⟩
 .rw[a];exact y
 .rw[a];exact F x j
 .rw[a];exact s
 .rw[a];intro e' i;have:e'.born∈(es.toList.modify d λe=>{e with key:=Qq (ek key),val:=v}).map (·.born):=List.mem_map_of_mem i;rw[g (·.born) (λ_ _=>rfl)]at this;obtain⟨B,h,H⟩:=Xf.1 this;rw[<- H];exact E B h
 .rw[a,g (·.born) (λ_ _=>rfl)];exact u
 .rw[a,g (·.key) (λe' i=>by rw[p]at i;cases i;exact r.symm)];exact m.1
theorem Qli(K:Y3 P kt ek)(hT:P.underlying T=some (.map kt et)){ro:Nat->Prop}{w:World}{b f:Nat}{es:Array MapEntry}{v:Value}{a:Act}(ho:o.op=.mapUpdate T x y zz)
  (X:a.eval x=.map (some b))(V:a.eval y=Qq (ek key))(R:a.eval zz=v)(E:w.heap[b]?=some (.map es f))(s:MO ro w t k (QN ek ev l) es.toList)(W:Qcl (QN ek ev l) es.toList)
  (L:∀e∈es.toList,e.born<f)(p4:(es.toList.map (·.born)).Nodup)(F:(es.toList.map (·.key)).Nodup/\Qfk es f)(hv:SO ro w t k (rows.map ev) v)(Y:∀c,Jb (QN ek ev l) es.toList c->¬SlB v c):
  ∃es' clock',(execOp a.eval o).run P w=.ok .skip {w with heap:=w.heap.setIfInBounds b (.map es' clock')}/\MO ro w t k (QN ek ev (QR l key (some rows))) es'.toList/\Qcl (QN ek ev (QR l key (some rows))) es'.toList/\
   (∀c,Jb (QN ek ev (QR l key (some rows))) es'.toList c->Jb (QN ek ev l) es.toList c\/SlB v c)/\(∀e∈es'.toList,e.born<clock')/\(es'.toList.map (·.born)).Nodup/\(es'.toList.map (·.key)).Nodup/\Qfk es' clock':=by
 have hk:∀q:α×Option (List β),q∈l->∃e∈es.toList,e.key=Qq (ek q.1):=by
  intro q G;have:Qq (ek q.1)∈l.map λp=>Qq (ek p.1):=Xf.2 ⟨q,G,rfl⟩;rw[<- MO.keys K s]at this;obtain⟨e,g,h⟩:=Xf.1 this;exact⟨e,g,h⟩
 rcases K.find w key es.toList (Qh2 K s)with⟨O,r⟩|⟨N,e,O,r,Q⟩
 .have n:QR l key (some rows)=l++[(key,some rows)]:=by
   unfold QR;have:(l.any λp=>decide (p.1=key))=false:=by
    rw[List.any_eq_false];intro q G z;obtain⟨e,g,h⟩:=hk q G;exact r e g (by rw[h,of_decide_eq_true z])
   rw[this];rfl
  have m:QN ek ev (l++[(key,some rows)])=QN ek ev l++[(ek key,some (rows.map ev))]:=by simp[QN]
  have i:=MO.length s;refine⟨es.push {key:=Qq (ek key),val:=v,born:=f},f+1,?_,?_,?_,?_,?_,?_,?_,F.2.push rfl⟩
  .simp only[execOp,ho,X,V,R,Vu,Instr.mapUpdate,run_underlying hT,Result.andThen,MapKept.run_getObj_map E,K.check,O,MapKept.run_setObj_map _ E];rfl
  .rw[n,m,Array.toList_push];exact s.append ⟨_,_,rfl,QbL (K.scl _),λJ hr=>by cases hr;exact hv,rfl⟩
  .rw[n,m,Array.toList_push];exact Qcl.push i W Y
  .rw[n,m,Array.toList_push];intro c u;exact Jb.push i u
  .rw[Array.toList_push];intro e g;rcases List.mem_append.1 g with q|q
   .exact Nat.lt_succ_of_lt (L e q)
   .simp at q;subst q;exact Xp _
  .rw[Array.toList_push,Xg];refine List.nodup_append.2 ⟨p4,by simp,?_⟩;intro c u d B;simp at B;subst B;obtain⟨e,g,rfl⟩:=Xf.1 u;exact Nat.ne_of_lt (L e g)
  .rw[Array.toList_push,Xg];refine List.nodup_append.2 ⟨F.1,by simp,?_⟩;intro c u d B;simp at B;subst B;obtain⟨e,g,rfl⟩:=Xf.1 u;exact r e g
 .have n:QR l key (some rows)=Qbx l key rows:=by
   unfold QR Qbx;obtain⟨f1,f2⟩:=MO.find K s key F.1;obtain⟨q,H,_⟩:=f2 N e r Q;have:(l.any λp=>decide (p.1=key))=true:=by
    unfold YI at H;cases M:l.find? λp=>decide (p.1=key)with
    |none=>rw[M]at H;cases H
    |some z=>exact Xx.2 ⟨z,List.mem_of_find?_eq_some M,by have:=List.find?_some M;simpa using this⟩
   rw[this];rfl
  have hj:es[N]?=some e:=by rw[<- r];simp
  have j:=K.stays w key;obtain⟨r1,r2,r3,r4,r5,r6⟩:=Qnq K s W L p4 F hv Y r Q;refine⟨es.modify N λe=>{e with key:=Qq (ek key),val:=v},f,?_,?_,?_,?_,r4,r5,r6⟩
  .simp only[execOp,ho,X,V,R,Vu,Instr.mapUpdate,run_underlying hT,Result.andThen,MapKept.run_getObj_map E,K.check,O,hj,Xk,Option.getD_some,Q,j,MapKept.run_setObj_map _ E];rfl
  .rw[n];exact r1
  .rw[n];exact r2
  .rw[n];exact r3
def PutsO(P:Program)(o:Oper)(env:Env)(x zz:Operand)(t k:Nat)(L M:List (A×Option (List (List A))))(R:List (List A)):Prop:=
 ∀(ro:Nat->Prop) (σ:Sig) (a:Act) (w:World) (b clock:Nat) (es:Array MapEntry) (v:Value),(∀s,VR ro σ w (opA env s) (a.eval s))->a.eval x=.map (some b)->a.eval zz=v->w.heap[b]?=some (.map es clock)->MO ro w t k L es.toList->Qcl L es.toList->
  (∀e∈es.toList,e.born<clock)->(es.toList.map (·.born)).Nodup->(es.toList.map (·.key)).Nodup/\Qfk es clock->SO ro w t k R v->(∀c,Jb L es.toList c->¬SlB v c)->
  ∃es' clock',(execOp a.eval o).run P w=.ok .skip {w with heap:=w.heap.setIfInBounds b (.map es' clock')}/\MO ro w t k M es'.toList/\Qcl M es'.toList/\
   (∀c,Jb M es'.toList c->Jb L es.toList c\/SlB v c)/\(∀e∈es'.toList,e.born<clock')/\(es'.toList.map (·.born)).Nodup/\(es'.toList.map (·.key)).Nodup/\Qfk es' clock'
theorem Qm0(hr:PutsO P o env x zz t k (QN ek ev l) (QN ek ev m) (rows.map ev))
  (hx:opA env x=.map i:=by exact rfl)(hH:H[i]?=some (.mapO false t k (QN ek ev l)):=by exact rfl)(hv:opA env zz=.osl j 0 n k:=by exact rfl)
  (hHj:H[j]?=some (.row t k (rows.map ev)):=by exact rfl)(hn:rows.length=n:=by exact rfl)(hij:Nat.beq i j=false:=by exact rfl):
  OpU P o env H ((H.set j .dead).set i (.mapO false t k (QN ek ev m))):=by
 subst hn;intro fr W σ N a w r;have E:i≠j:=λe=>by subst e;rw[Nat.beq_refl]at hij;cases hij
 have h1:=Qg r x;rw[hx]at h1;obtain⟨b,B,q2⟩:=h1;have h4:=Qg r zz;rw[hv]at h4;obtain⟨_,G,u,X,p2,pd,p3,p4,p5⟩:=r.sim.blk i _ _ B hH;have Q:∀(obj:Obj) y,w.shape? b=some y->({w with heap:=w.heap.setIfInBounds b obj}:World).shape? b=some y:=by
  intro obj y hy;unfold World.shape? at hy;rw[X]at hy;simp at hy
 have h:∀c,Jb (QN ek ev l) G.toList c->Hid w (.mapO false t k (QN ek ev l)) b c:=λc F=>⟨G,u,X,F⟩;rcases h4 with⟨z0,J⟩|⟨c,p,T,t',mm,J,z2,z3,z4,Y,z6⟩
 .have ad:rows=[]:=List.length_eq_zero_iff.1 z0;obtain⟨f,g,f1,f2,f3,f4,f5,f6,f7⟩:=hr W σ a w b u G _ (λs=>Qg r s) q2 J X p2 pd p3 p4 p5 (.inl ⟨by simp[ad],rfl⟩) (λc _ q=>by obtain⟨_,_,_,q⟩:=q;cases q);have ae:(H.set j .dead)[i]?=some (.mapO false t k (QN ek ev l)):=by rw[XW (λe=>E e.symm)];exact hH
  have R:∀c,Jb (QN ek ev m) f.toList c->Jb (QN ek ev l) G.toList c:=λc F=>(f4 c F).elim id λq=>by obtain⟨_,_,_,q⟩:=q;cases q
  have s1:=r.sim.kill j;obtain⟨s2,e2⟩:=s1.set (x':=.mapO false t k (QN ek ev m)) (obj:=.map f g) B ae rfl (Q _) (λext hh=>⟨(λz=>by cases z),f,g,hh,f2.mono ext (λc F=>by
    show(w.heap.setIfInBounds b _)[c]?=_;rw[Vm,if_neg];exact λe=>(r.sim.hid i b _ c B hH (h c (R c F))).ne i b _ B hH rfl e.symm),f3,f5,f6,f7⟩) (λc F=>by
    obtain⟨l',cl,O,g2⟩:=F;have:({w with heap:=w.heap.setIfInBounds b (.map f g)}:World).heap[b]?=some (.map f g):=by
     show(w.heap.setIfInBounds b _)[b]?=_;rw[Vm,if_pos rfl,if_pos (r.sim.own i b _ B hH rfl).1]
    rw[this]at O;cases O;exact h c (R c g2))
  exact⟨_,W,[],f1,by simpa using s2,e2⟩
 .obtain⟨vs,y1,y2⟩:=r.sim.blk j _ _ J hHj;have L:T*k<=vs.length:=by
   unfold World.shape? at Y;rw[y1]at Y;simp at Y;have:=Y.2;simp at z6;omega
  have ab:∀c',Jb (QN ek ev l) G.toList c'->¬SlB (a.eval zz) c':=by
   intro c' F V;obtain⟨_,_,_,V⟩:=V;rw[z2]at V;cases V;exact(r.sim.hid i b _ _ B hH (h _ F)).ne j _ _ J hHj rfl rfl
  obtain⟨f,g,f1,f2,f3,f4,f5,f6,f7⟩:=hr W σ a w b u G _ (λs=>Qg r s) q2 rfl X p2 pd p3 p4 p5 (.inr ⟨c,p,T,vs,by rw[z2];simp,by simpa using z4,y1,L,y2,λq=>by simpa using z3 q⟩) ab;have R:∀d,Jb (QN ek ev m) f.toList d->Jb (QN ek ev l) G.toList d\/d=c:=λd M=>(f4 d M).imp id λq=>by
   obtain⟨_,_,_,q⟩:=q;rw[z2]at q;cases q;rfl
  have ac:c≠b:=λe=>E (r.sim.inj i j b _ _ B (e▸J) hH hHj rfl rfl);obtain⟨s2,e2⟩:=r.sim.hideSet (x':=.mapO false t k (QN ek ev m)) (obj:=.map f g) B hH rfl J hHj rfl E (Q _)
   (λext hh aa=>⟨(λz=>by cases z),f,g,hh,f2.mono ext (λd M=>aa d ((R d M).elim (λq=>(r.sim.hid i b _ d B hH (h d q)).ne i b _ B hH rfl) (λq=>q▸ac))),f3,f5,f6,f7⟩)
   (λd M=>by
    obtain⟨l',cl,O,g2⟩:=M;have:({w with heap:=w.heap.setIfInBounds b (.map f g)}:World).heap[b]?=some (.map f g):=by
     show(w.heap.setIfInBounds b _)[b]?=_;rw[Vm,if_pos rfl,if_pos (r.sim.own i b _ B hH rfl).1]
    rw[this]at O;cases O;exact(R d g2).imp (h d) id)
  exact⟨_,W,[],f1,by simpa using s2,e2⟩
theorem QmZ(K:Y3 P kt ek)(e:some (QR l key (some rows))=some m)(f:P.underlying T=some (.map kt et))
  (g:o.op=.mapUpdate T x y zz:=by exact rfl)(hx:opA env x=.map i:=by exact rfl)(hH:H[i]?=some (.mapO false t k (QN ek ev l)):=by exact rfl)(hy:opA env y=ek key:=by exact rfl)(hv:opA env zz=.osl j 0 n k:=by exact rfl)
  (hHj:H[j]?=some (.row t k (rows.map ev)):=by exact rfl)(hn:rows.length=n:=by exact rfl)(hij:Nat.beq i j=false:=by exact rfl):
  OpU P o env H ((H.set j .dead).set i (.mapO false t k (QN ek ev m))):=by
 obtain rfl:=X7 e;refine Qm0 (λro σ a w b clock es v hE q2 h4 p1 p2 pd p3 p4 p5 hv hn=>?_) hx hH hv hHj hn hij;have d:=hE y;rw[hy]at d;exact Qli K f g q2 (VR.val (K.scl _) d) h4 p1 p2 pd p3 p4 p5 hv hn
end
end Go.Sw
namespace Go.Sw
open Go.MapKept
section
variable {fr ro:Nat->Prop}{σ:Sig}{H:Qc}{w:World}
theorem MO.er{t k:Nat}:∀{es:List (A×Option (List (List A)))}{l:List MapEntry},MO ro w t k es l->ER ro [] w (es.map λe=>(e.1,.any)) l
 |[],_,h=>h
 |x::r,_,⟨e,l',h1,h2,h3,h4⟩=>⟨e,l',h1,h2,trivial,MO.er h4⟩
end
section
variable {P:Program}{o:Oper}{env:Env}{H:Qc}{T kt et i t k:Nat}{x:Operand}{es:List (A×Option (List (List A)))}
end
def Qg8{α β:Type}[DecidableEq α](l:List (α×Option (List β)))(x:α):Option (List β×List (α×Option (List β))):=(QjZ l x).map λr=>(r,Qas l x)
section
variable {P:Program}{o:Oper}{env:Env}{H:Qc}
variable {T kt et:Nat}{α β:Type} [DecidableEq α] {ek:α->A}{ev:β->List A}{x y zz:Operand}{i j t k n:Nat}{l m:List (α×Option (List β))}{key:α}{rows:List β}
theorem QkP{fz:Bool}{p:List β×List (α×Option (List β))}(K:Y3 P kt ek)(a:Qg8 l key=some p)(b:P.underlying T=some (.map kt et))(d:∀w,(zeroValue et).run P w=.ok (.slice none 0 0) w)
  (e:o.op=.lookup T x y false:=by exact rfl)(hx:opA env x=.map i:=by exact rfl)(hH:H[i]?=some (.mapO fz t k (QN ek ev l)):=by exact rfl)(hy:opA env y=ek key:=by exact rfl):
  OpH P o env H (.osl H.length 0 p.1.length k) (H.set i (.mapO fz t k (QN ek ev p.2))++[.row t k (p.1.map ev)]):=by
 unfold Qg8 at a;cases h:QjZ l key with
 |none=>rw[h]at a;cases a
 |some r=>rw[h]at a;cases a;exact QkQ K h b d e hx hH hy
end
end Go.Sw
namespace Go.Sw
open Go.MapKept
section
variable {P:Program}{o:Oper}{env:Env}{H:Qc}
variable {T kt et:Nat}{α β:Type} [DecidableEq α] {ek:α->A}{ev:β->List A}{x y zz:Operand}{i j t k n:Nat}{l m:List (α×Option (List β))}{key:α}{rows:List β}
end
end Go.Sw
namespace Go.Sw
abbrev Kat:=List (Nat×Nat×Nat)
def Qk4:Nat->Nat->List (Nat×Nat)
 |lo,0=>[(lo,lo)]
 |lo,n+1=>(lo,lo)::Qk4 (lo+1) n
def rgK(p:Nat×Nat×Nat):List (Nat×Nat):=bif Nat.beq p.1 1 then[(p.2.1,p.2.1+1)]else Qk4 p.2.1 (p.2.2-p.2.1)
def plK(cat:Kat):List (List (Nat×Nat)):=cat.map rgK
def rqK(bs:List Nat)(cat:Kat):List (List Nat):=cat.map λp=>bs.take p.2.1
def hsK(cat:Kat):List Bool:=cat.map λp=>Nat.beq p.1 1
def msK(bs:List Nat):List (List Nat):=(List.range (bs.length+1)).map bs.take
theorem Qgc:∀(n lo:Nat),∀p∈Qk4 lo n,p.1=p.2
 |0,lo,p,h=>by cases h with|head=>rfl|tail _ h=>cases h
 |n+1,lo,p,h=>by
  rcases Ve.1 h with rfl|h
  .rfl
  .exact Qgc n _ p h
section
variable {P:Program}{T:TyX}{h0 N m:Nat}{bs:List Nat}{cat:Kat}{l:List Oper}{ds:List Nat}{env:Env}{H:Qc}{Hs:List Qc}{Q:Qy}{K:List Oper->Env->Qc->Prop}
def DobK(P:Program)(N:Nat)(cat:Kat)(l:List Oper)(ds:List Nat)(env:Env)(n:Nat)(Hs:List Qc)(zs:List A)(j:Nat):Prop:=
 ∀p∈(plK cat).getD j [],Qab P N l ds zs env n n j (Hs.getD p.1 []) (Hs.getD p.2 [])
def DK(P:Program)(N m:Nat)(bs:List Nat)(cat:Kat)(l:List Oper)(ds:List Nat)(env:Env)(n:Nat)(K:List Oper->Env->Qc->Prop)(Hs:List Qc)(X:Qc)(r:List Oper)(xs:List A):Prop:=
 r=l.drop xs.length->∃ys Zs Y,xs.length+ys.length=m/\Hs.length+Zs.length=bs.length/\((∀Z∈Zs,n<=Z.length)/\(Hs.reverse++X::Zs).getD bs.length []=Y)/\(∀j,xs.length<=j->j<m->DobK P N cat l ds env n (Hs.reverse++X::Zs) (xs++ys) j)/\K (l.drop m) (Qat ds (xs++ys) env) Y
theorem Qps{f:List A}{n:Nat}{Zs:List Qc}(b:cat.length=m)(h:∀j,0<=j->j<m->DobK P N cat l ds env n Zs f j):QgM P N l ds f env n (n+0) 0 ((plK cat).map λq=>q.map λp=>(Zs.getD p.1 [],Zs.getD p.2 [])):=by
 refine QgL _ 0 λi s a p k=>?_;rw[Xr]at a;cases e:(plK cat)[i]? with
 |none=>rw[e]at a;cases a
 |some q=>
  rw[e]at a;cases a;obtain⟨r,d,rfl⟩:=Xf.1 k;have g:i<m:=by
   have:=(XS.1 e).1;simpa[plK,b]using this
  have:=h i (X2 _) g r (by rw[Qji e];exact d);simpa using this
theorem Qnc{id:Nat}(m:Nat)(d:List Nat)(cat:Kat)(s:P.follows .mixedOrders=true)(t:QdA l m N (Qan m 0 l) (hsK cat) (rqK d cat) (msK d) (plK cat)=true)(i:Nat.beq cat.length m=true)(j:Nat.ble h0 H.length=true)
  (h:DK P N m d cat l (Qan m 0 l) env H.length (λr e H=>WO P h0 N l.toArray r e H Q) [] H l []):TC P h0 N (.region id l.toArray true) env H Q:=by
 obtain⟨u,Zs,Y,n,q,g,k,p⟩:=h rfl;simp only[List.length_nil,XB,Vp,List.reverse_nil]at n q g k p;have a:=XX i;have b:(msK d).length=d.length+1:=by simp[msK]
 refine Qba m 0 _ _ _ _ _ u (H::Zs) Y s t (by rw[n];exact Nat.beq_refl m) (by rw[b];simp[q]) j ?_ (by simp) (by rw[b];exact g.2) (Qps a k) (by simp[plK,a]) p;rw[Xw];intro Z f;rcases Ve.1 f with rfl|f
 .exact XZ (X0 _)
 .exact XZ (g.1 Z f)
variable {n:Nat}{X X1:Qc}{xs:List A}{o:Oper}{r:List Oper}{x:A}{d:Nat}
theorem DK.done(d:Nat.beq xs.length m=true)(f:Nat.beq Hs.length bs.length=true)(h:K r (Qat ds xs env) X):DK P N m bs cat l ds env n K Hs X r xs:=by
 intro b;have e:=XX d;have a:=XX f;subst b;refine⟨[],[],X,by simpa using e,by simpa using a,⟨(λZ hZ=>by cases hZ),?_⟩,λj i g=>by omega,?_⟩
 .rw[<- a,List.getD_eq_getElem?_getD,XU (by simp)];simp
 .rw[<- e,Vo];exact h
theorem DK.add(s:∀ys Zs,l[xs.length]?=some o->DobK P N cat l ds env n (Hs.reverse++X::Zs) (xs++x::ys) xs.length)(k:DK P N m bs cat l ds env n K Hs X r (xs++[x])):DK P N m bs cat l ds env n K Hs X (o::r) xs:=by
 intro i;obtain⟨g,a⟩:=Qa8 i;obtain⟨ys,Zs,Y,f,h,e,b,d⟩:=k (by simpa using a);simp only[Va,X8,List.length_nil,Vq,List.cons_append,Vp]at f b d;refine⟨x::ys,Zs,Y,by simp only[X8];omega,h,e,λj t p=>?_,d⟩;rcases Nat.lt_or_ge xs.length j with q|q
 .exact b j (by omega) p
 .obtain rfl:j=xs.length:=by omega
  exact s ys Zs g
theorem Qd0{Zs:List Qc}{zs:List A}{j:Nat}{c:Nat×Nat×Nat}(b:YN cat j=some c)(h:∀p∈rgK c,Qab P N l ds zs env n n j (Zs.getD p.1 []) (Zs.getD p.2 [])):DobK P N cat l ds env n Zs zs j:=by
 intro p a;rw[Qaz]at b;unfold plK at a;rw[List.getD_eq_getElem?_getD,Xr,b]at a;exact h p a
theorem Qgs{Zs:List Qc}{c:Nat}(a:Nat.beq c Hs.length=true):(Hs.reverse++X::Zs).getD c []=X:=by
 rw[XX a,List.getD_eq_getElem?_getD,XU (by simp)];simp
theorem DK.wo{c:Nat}(h:WO P X.length N l.toArray [o] (Yj (Qh o) 0 ds xs env) X (YZ (up (Yj (Qh o) 0 ds xs env) d x) X))(k:DK P N m bs cat l ds env n K Hs X r (xs++[x]))
  (b:YN cat xs.length=some (0,c,c):=by exact rfl)(hd:o.dst=some d:=by exact rfl)(hcH:Nat.beq c Hs.length=true:=by exact rfl):DK P N m bs cat l ds env n K Hs X (o::r) xs:=
 .add (λys Zs ho=>Qd0 b λp a=>by
  have:p=(c,c):=by
   change p∈Qk4 c (c-c)at a;rw[Nat.sub_self]at a;exact List.mem_singleton.1 a
  subst this;rw[Qgs hcH];exact Qay ho YV h hd) k
theorem DK.wa{lo a:Nat}(h:∀X,WO P X.length N l.toArray [o] (Yj (Qh o) 0 ds xs env) X (YZ (up (Yj (Qh o) 0 ds xs env) d x) X))(k:DK P N m bs cat l ds env n K Hs X r (xs++[x]))
  (f:YN cat xs.length=some (0,lo,a):=by exact rfl)(hd:o.dst=some d:=by exact rfl):DK P N m bs cat l ds env n K Hs X (o::r) xs:=
 .add (λys Zs ho=>Qd0 f λp b=>by
  have e:p.1=p.2:=Qgc _ _ p b;rw[<- e];exact Qay ho YV (h _) hd) k
theorem DK.op{c F:Nat}(h:WO P X.length N l.toArray [o] (Yj (Qh o) 0 ds xs env) X (YZ (up (Yj (Qh o) 0 ds xs env) d x) X1))(k:DK P N m bs cat l ds env n K (X::Hs) X1 r (xs++[x]))(t:Nat.ble n X1.length=true:=by exact rfl)
  (hc:YN cat xs.length=some (1,c,F):=by exact rfl)(hd:o.dst=some d:=by exact rfl)(hcH:Nat.beq c Hs.length=true:=by exact rfl):DK P N m bs cat l ds env n K Hs X (o::r) xs:=by
 intro E;obtain⟨s,e⟩:=Qa8 E;obtain⟨y,Zs,Y,i,z,b,f,g⟩:=k (by simpa using e);simp only[Va,X8,List.length_nil,Vq,List.cons_append,Vp,List.reverse_cons]at i z b f g;refine⟨x::y,X1::Zs,Y,by simp only[X8];omega,by simp only[X8];omega,⟨λZ a=>?_,b.2⟩,λj H G=>?_,g⟩
 .rcases Ve.1 a with rfl|a
  .exact XY t
  .exact b.1 Z a
 .rcases Nat.lt_or_ge xs.length j with q|q
  .exact f j (by omega) G
  .obtain rfl:j=xs.length:=by omega
   refine Qd0 hc λp u=>?_;have:p=(c,c+1):=List.mem_singleton.1 u;subst this;have B:(Hs.reverse++X::X1::Zs).getD c []=X:=Qgs hcH;have w:(Hs.reverse++X::X1::Zs).getD (c+1) []=X1:=by
    have:=Qgs (X:=X1) (Zs:=Zs) (Hs:=X::Hs) (c:=c+1) (by rw[XX hcH];exact Nat.beq_refl _);simpa using this
   simp only;rw[B,w];exact Qay s YV h hd
def Qef(T:TyX)(N m:Nat)(cat:Kat)(l:List Oper)(ds:List Nat)(env:Env)(n:Nat):Nat->Nat->Nat->List Qc->Qc->List Oper->List A->Option (List Qc×List Oper×List A)
 |0,_,_,Hs,X,r,xs=>some (Hs,r,xs)
 |_+1,_,_,_,_,[],_=>none
 |k+1,i,j,Hs,X,o::r,xs=>match o.dst with
  |none=>none
  |some d=>match Nat.blt d N with
   |false=>none
   |true=>match YY ⟨l⟩ o (Yj (Qh o) 0 ds xs env)with
    |none=>none
    |some false=>(match QcH xs (.tup [])with
      |.mk xs'=>match YN cat i with
       |some (0,_,_)=>Qef T N m cat l ds env n k (i+1) j Hs X r xs'
       |some (1,c,_)=>(match Nat.beq c j,Nat.ble n X.length with
        |true,true=>Qef T N m cat l ds env n k (i+1) (j+1) (X::Hs) X r xs'
        |_,_=>none)
       |_=>none)
    |some true=>match YN cat i with
     |some (0,lo,hi)=>(match Qc1 T o (Yj (Qh o) 0 ds xs env) []with
      |some x=>(match QcH xs x with
       |.mk xs'=>Qef T N m cat l ds env n k (i+1) j Hs X r xs')
      |none=>match Nat.beq lo hi,Nat.beq lo j with
       |true,true=>(match Qc1 T o (Yj (Qh o) 0 ds xs env) X with
        |none=>none
        |some x=>match QcH xs x with
         |.mk xs'=>Qef T N m cat l ds env n k (i+1) j Hs X r xs')
       |_,_=>none)
     |_=>none
theorem QbD(hT:Qbw P T):∀(k i j:Nat) {Hs Hs':List Qc}{r r':List Oper}{xs xs':List A},i=xs.length->j=Hs.length->Qef T N m cat l ds env n k i j Hs X r xs=some (Hs',r',xs')->DK P N m bs cat l ds env n K Hs' X r' xs'->DK P N m bs cat l ds env n K Hs X r xs
 |0,i,j,Hs,Hs',r,r',xs,xs',_,_,h,k=>by cases h;exact k
 |k0+1,i,j,Hs,Hs',[],r',xs,xs',_,_,h,k=>by cases h
 |k0+1,i,j,Hs,Hs',o::r,r',xs,xs',hi,hj,h,k=>by
  subst hi hj;unfold Qef at h;split at h
  .cases h
  .rename_i d hd;split at h
   .cases h
   .rename_i q2;split at h
    .cases h
    .rename_i hw;simp only[Y5]at h;split at h
     .rename_i lo hi' q0;exact .wa (λX=>WO.skip (QM hw) hd q2 (WO.nil YZ.mk)) (QbD hT k0 _ _ (by simp) rfl h k) q0 hd
     .rename_i c c' q0;split at h
      .rename_i q1 q3;exact .op (WO.skip (QM hw) hd q2 (WO.nil YZ.mk)) (QbD hT k0 _ _ (by simp) (by simp) h k) q3 q0 hd q1
      .cases h
     .cases h
    .rename_i hw;split at h
     .rename_i lo hi' q0;split at h
      .rename_i x hv;simp only[Y5]at h;exact .wa (λX=>QF (QM hw) hd q2 (Qau hT (Qd2 hv)) (WO.nil YZ.mk)) (QbD hT k0 _ _ (by simp) rfl h k) q0 hd
      .split at h
       .rename_i q1 q3;split at h
        .cases h
        .rename_i x hv;simp only[Y5]at h;obtain rfl:=XX q1;exact .wo (QF (QM hw) hd q2 (Qau hT hv) (WO.nil YZ.mk)) (QbD hT k0 _ _ (by simp) rfl h k) q0 hd q3
       .cases h
     .cases h
def allV(T:TyX)(o:Oper)(e:Env)(x:A):Nat->List Qc->Prop
 |0,_=>True
 |k+1,Y::r=>Qc1 T o e Y=some x/\allV T o e x k r
 |_+1,[]=>False
theorem QiY:∀(n lo:Nat),∀p∈Qk4 lo n,lo<=p.1/\p.1<=lo+n
 |0,lo,p,h=>by cases h with|head=>exact⟨X0 _,X0 _⟩|tail _ h=>cases h
 |n+1,lo,p,h=>by
  rcases Ve.1 h with rfl|h
  .exact⟨X0 _,Nat.le_add_right _ _⟩
  .have:=QiY n _ p h;omega
def allW(P:Program)(N:Nat)(l:List Oper)(o:Oper)(e:Env)(d:Nat)(x:A):Nat->List Qc->Prop
 |0,_=>True
 |k+1,Y::r=>WO P Y.length N l.toArray [o] e Y (YZ (up e d x) Y)/\allW P N l o e d x k r
 |_+1,[]=>False
theorem QjC{e:Env}:∀{k:Nat}{r:List Qc},allW P N l o e d x k r->∀j,j<k->WO P (r.getD j []).length N l.toArray [o] e (r.getD j []) (YZ (up e d x) (r.getD j []))
 |0,_,_,j,hj=>absurd hj (Xo _)
 |k+1,[],h,_,_=>h.elim
 |k+1,Y::r,h,0,_=>h.1
 |k+1,Y::r,h,j+1,hj=>by
  have:=QjC h.2 j (by omega);simpa using this
theorem DK.ws{lo a:Nat}(h:allW P N l o (Yj (Qh o) 0 ds xs env) d x (a+1-lo) (X::Hs))(k:DK P N m bs cat l ds env n K Hs X r (xs++[x]))
  (g:YN cat xs.length=some (0,lo,a):=by exact rfl)(hd:o.dst=some d:=by exact rfl)(hcH:Nat.beq a Hs.length=true:=by exact rfl)(hle:Nat.ble lo a=true:=by exact rfl):DK P N m bs cat l ds env n K Hs X (o::r) xs:=
 .add (λys Zs ho=>Qd0 g λp b=>by
  have e:p.1=p.2:=Qgc _ _ p b;have f:=XY hle;have t:lo<=p.1/\p.1<=lo+(a-lo):=QiY (a-lo) lo p b;have j:=XX hcH;rw[<- e];have i:=QjC h (Hs.length-p.1) (by omega);have s:(Hs.reverse++X::Zs).getD p.1 []=(X::Hs).getD (Hs.length-p.1) []:=by
   rw[List.getD_eq_getElem?_getD,List.getD_eq_getElem?_getD];congr 1;rcases Nat.lt_or_ge p.1 Hs.length with q|q
   .rw[XT (by simpa using q),List.getElem?_reverse q,show Hs.length-p.1=Hs.length-1-p.1+1 by omega,XM]
   .have:p.1=Hs.length:=by omega
    rw[this,XU (by simp)];simp
  rw[s];exact Qay ho YV i hd) k
theorem DK.vs(p:Qbw P T){lo a:Nat}(h:allV T o (Yj (Qh o) 0 ds xs env) x (a+1-lo) (X::Hs))(k:DK P N m bs cat l ds env n K Hs X r (xs++[x]))
  (i:YN cat xs.length=some (0,lo,a))(f:o.dst=some d)(e:Nat.beq a Hs.length=true)(hg:YY ⟨l⟩ o (Yj (Qh o) 0 ds xs env)=some true)(j:Nat.blt d N=true)(b:Nat.ble lo a=true):DK P N m bs cat l ds env n K Hs X (o::r) xs:=by
 refine DK.ws ?_ k i f e b;generalize a+1-lo=c at h;generalize X::Hs=L at h
 induction c generalizing L with
 |zero=>trivial
 |succ c g=>
  cases L with
  |nil=>exact h.elim
  |cons Y L=>exact⟨QF (QM hg) f j (Qau p h.1) (WO.nil YZ.mk),g L h.2⟩
end
end Go.Sw
namespace Go.Sw
def room(n:Int):Option Nat:=bif decide (0<n)&&decide (n<=4294967296)then some n.toNat else none
theorem Qnn{n:Int}{m:Nat}(h:room n=some m):0<n/\n<=4294967296/\n.toNat=m:=by
 unfold room at h;cases q:(decide (0<n)&&decide (n<=4294967296))with
 |true=>rw[q]at h;simp at q;exact⟨q.1,q.2,X7 h⟩
 |false=>rw[q]at h;cases h
section
variable {P:Program}{o:Oper}{env:Env}{H:Qc}
theorem Qh0{c:Call}{t e:TypeId}{x:Operand}(d:∀w,(underlying t).run P w=.ok (.slice e) w)(f:o.op=.call c:=by exact rfl)(hc:c={callee:=.builtin .cap,args:= #[x],argTypes:= #[t]}:=by exact rfl)
  (hx:opA env x=.nils:=by exact rfl):OpV P o env H (.int .i64 0):=by
 intro h g σ N a w r;have b:=Qg r x;rw[hx]at b;simp only[VR]at b;refine⟨_,?_,rfl⟩;generalize a.eval=ρ at*;subst hc;simp[execOp,f,b,resolve,invoke,Go.builtin,Builtin.cap_,d,goInt,go_sem]
theorem Qm2{α:Type}{e:α->List A}{c:Call}{T T' et k m:Nat}{x y:Operand}{n:Int}{kk:IntKind}(h:room n=some m)(E:QX P T et k)(hd:∀w,(underlying T').run P w=.ok (.int kk) w)
  (ho:o.op=.call c:=by exact rfl)(hc:c={callee:=.builtin .append,args:= #[x,y],argTypes:= #[T,T']}:=by exact rfl)(hx:opA env x=.nils:=by exact rfl)(hy:opA env y=.int .i64 n:=by exact rfl):
  OpH P o env H (.osl H.length 0 m k) (H++[.row et k (([]:List α).map e)]):=by
 intro O p σ N a w r;obtain⟨n0,n1,rfl⟩:=Qnn h;have Q:a.eval x=.slice none 0 0:=by have:=Qg r x;rw[hx]at this;exact this
 have Y:a.eval y=.int .i64 n:=by have:=Qg r y;rw[hy]at this;exact this
 obtain⟨z,R,d⟩:=E.zero;obtain⟨i,hi,hb⟩:=E.bytes
 let need:=n.toNat
 let nc:=need+w.tape w.drawn (.appendCap need 0 et)%(2^63-need)
 let cells:List Value:=(Builtin.zeroCells z.cells need).toList++(Builtin.zeroCells z.cells (nc-need)).toList
 let w0:World:={w with drawn:=w.drawn+1}
 have j:0<need:=by show 0<n.toNat;omega
 have hw:IntKind.i64.wrap n=n:=by
  unfold IntKind.wrap;simp[IntKind.bits,IntKind.signed];omega
 have f:¬(need<=0):=by omega
 have aa:need<=4294967296:=by show n.toNat<=_;omega
 have g0:¬(n<0):=by omega
 have g1:¬(n*(i.bytes:Int)>2^48):=by
  have Q:n*(i.bytes:Int)<=4294967296*4096:=Int.mul_le_mul n1 (by omega) (by omega) (by omega);omega
 have M:¬((need:Int)>IntKind.i64.max):=by
  have:IntKind.i64.max=9223372036854775807:=by decide
  rw[this];omega
 have g3:¬(Builtin.nextslicecap need 0*i.bytes>2^48):=by
  have:=Qbs need 0 j;have h3:Builtin.nextslicecap need 0*i.bytes<=(4*need+1000)*4096:=Nat.mul_le_mul this hb;omega
 have u:∀W:World,(choose (.appendCap need 0 et)).run P W=.ok (need+W.tape W.drawn (.appendCap need 0 et)%(2^63-need)) {W with drawn:=W.drawn+1}:=by
  intro W;simp[choose,Sem.run,Question.forced,Question.cut]
 have L:∀(x:Nat) (W:World),(askRoom x).run P W=.ok () W:=by
  intro x W;unfold askRoom;split<;>rfl
 have B:∀(c:Array Value) (W:World),(newRow et c).run P W=.ok ⟨W.heap.size,0,none⟩ (W.alloc (.cells c et)):=λc W=>rfl;have s:∀(k:IntKind) (m:Int) (W:World),(asInt (.int k m)).run P W=.ok m W:=λk m W=>rfl;have F:∀W:World,((if need*k=0 then pure #[]else do pure (Builtin.zeroCells (<- zeroValue et).cells need):Sem (Array Value))).run P W=.ok (Builtin.zeroCells z.cells need) W:=by
  intro W;by_cases q:need*k=0
  .rw[if_pos q];have:Builtin.zeroCells z.cells need= #[]:=by unfold Builtin.zeroCells;rw[d,q];simp
   rw[this];rfl
  .rw[if_neg q];simp only[Vu,R,Result.andThen,Vv]
 have g:(Builtin.append_ #[T,T'] o.type #[.slice none 0 0,.int .i64 n]).run P w=.ok (.slice (some ⟨w.heap.size,0,none⟩) need nc) (w0.alloc (.cells cells.toArray et)):=by
  unfold Builtin.append_;have e3:(#[]:Array Value)++Builtin.zeroCells z.cells need++Builtin.zeroCells z.cells (nc-need)=cells.toArray:=by
   apply Array.toList_inj.1;simp[cells]
  have t:∀W:World,(Builtin.firstCells k 0 (.slice none 0 0)).run P W=.ok #[] W:=λW=>Qae;have G:(0:Nat)+n.toNat=need:=XB _;simp only[XN,XL,XM,Vu,E.sl,E.size,hd,hi,R,Result.andThen,Vv,s,hw,XO,if_true,if_neg g0,if_neg g1,G,if_neg f];have g4:¬((need:Int)>IntKind.i64.max/\(True\/i.bytes=0)):=λq=>M q.1;simp only[M,false_and,if_false,if_neg g3,u,L,t,Result.andThen];have J:(if n.toNat*k=0 then(Result.ok #[] w0:Result (Array Value))else Result.ok (Builtin.zeroCells z.cells n.toNat) w0)=Result.ok (Builtin.zeroCells z.cells n.toNat) w0:=by
   have:=F w0;by_cases q:n.toNat*k=0
   .rw[if_pos q];have:Builtin.zeroCells z.cells n.toNat= #[]:=by unfold Builtin.zeroCells;rw[d,q];simp
    rw[this]
   .rw[if_neg q]
  simp only[Xh,Xj,if_false];rw[J];simp only[B];show(Result.ok _ _)=_;rw[<- e3]
 have V:Sim O p σ H w0:=r.sim.heap rfl;have X:Qf O p w p w0:=Qf.heap rfl rfl rfl rfl (Nat.le_succ _);obtain⟨s1,e1⟩:=Qfh (T:=et) (k:=k) (es:=[]) (l:=[]) (rest:=cells) V trivial rfl (by simp);have b:(execOp a.eval o).run P w=.ok (.value (.slice (some ⟨w.heap.size,0,none⟩) need nc)) (w0.alloc (.cells cells.toArray et)):=by
  subst hc;generalize a.eval=ρ at*;simp only[execOp,ho,resolve,invoke,Go.builtin,Vu,Vv,Result.andThen];simp only[XP,Vr,Vs,Q,Y,g]
 refine⟨_,_,p,[some w.heap.size],b,.inr ⟨w.heap.size,0,nc,et,cells.length,?_,rfl,λ_=>by simp,Nat.le_add_right _ _,?_,?_⟩,s1,X.trans e1⟩
 .rw[<- r.sim.len];simp
 .unfold World.shape?;rw[show w.heap.size=w0.heap.size from rfl,YH];simp
 .simp[cells,Builtin.zeroCells,d,nc, <- XG]
theorem QmX{T et k b m:Nat}{x y:Operand}(E1:∀w,(underlying T).run P w=.ok (.slice et) w)(E2:∀w,(sizeOf et).run P w=.ok k w)(a:o.op=.slice T x none (some y) none:=by exact rfl)
  (hx:opA env x=.osl b 0 m k:=by exact rfl)(hy:opA env y=.int .i64 0:=by exact rfl):OpV P o env H (.osl b 0 0 k):=by
 have:=QhZ (H:=H) E1 E2 a hx (.inl ⟨rfl,rfl⟩) (.inr ⟨y,0,rfl,hy,by omega,rfl⟩) (X0 _) (X2 _);simpa using this
theorem QkN{T et k:Nat}{x y:Operand}(E1:∀w,(underlying T).run P w=.ok (.slice et) w)(E2:∀w,(sizeOf et).run P w=.ok k w)(a:o.op=.slice T x none (some y) none:=by exact rfl)
  (hx:opA env x=.nils:=by exact rfl)(hy:opA env y=.int .i64 0:=by exact rfl):OpV P o env H .nils:=
 QmY E1 E2 a hx (.inl ⟨rfl,rfl⟩) (.inr ⟨y,0,rfl,hy,by omega,rfl⟩) (X0 _) (X0 _)
theorem Qpr{h0 i:Nat}{x x':Blk}(b:H[i]?=some x)(e:x=x'):Le h0 env H env (H.set i x'):=by
 subst e;obtain⟨d,a⟩:=XS.1 b;rw[<- a,List.set_getElem_self];exact Le.refl _ _ _
theorem Sim.shutRow{fr ro:Nat->Prop}{σ:Sig}{w:World}(s:Sim fr ro σ H w){i b t k:Nat}{es:List (List A)}(hσ:σ[i]?=some (some b))(p:H[i]?=some (.row t k es)):
  Sim fr (λc=>ro c\/c=b) σ (H.set i .dead) w:=by
 have g:b<w.heap.size/\ ¬ro b/\ ¬fr b:=s.own i b _ hσ p rfl;have ext:Ext ro σ w (λc=>ro c\/c=b) σ w:=⟨λ_ q=>.inl q,λ_ _=>rfl,λ_ _ q=>q,λ_ _ q=>q⟩;have a:∀(j:Nat) (v:Blk),(H.set i .dead)[j]?=some v->v≠ .dead->j≠i/\H[j]?=some v:=by
  intro j v h n;by_cases e:j=i
  .subst e;rw[Xb]at h;simp only[if_true]at h;split at h
   .cases h;exact absurd rfl n
   .simp at h
  .rw[XW (λq=>e q.symm)]at h;exact⟨e,h⟩
 refine⟨by rw[Vb];exact s.len,s.roOk.to (λ_ q=>.inl q) (λ_ _=>rfl) ?_,s.frLt,?_,?_,?_,?_,s.hidTo (· = ·) Q0 (X0 _) (λj d x c L G R Q=>Q.elim id λq=>((s.hid j d x c L G R).ne i b _ hσ p rfl q).elim) (λ_ _ _ _ _ _ _ q=>q) λj d y N F P=>.inl ⟨j,y,rfl,N,(a j y F (Qd1 P)).2,id,λ_ q=>q⟩⟩
 .rintro c (q|rfl)
  .exact s.roLt c q
  .exact g.1
 .rintro c (q|rfl)
  .exact s.roFr c q
  .exact g.2.2
 .intro j c v l f m;obtain⟨e,f⟩:=a j v f (Blk.nd m);obtain⟨M,O,J⟩:=s.own j c v l f m;refine⟨M,?_,J⟩;rintro(q|rfl)
  .exact O q
  .exact e (s.inj j i c v _ l hσ f p m rfl)
 .intro j B c v z l f m E u r;exact s.inj j B c v z l f (a j v m (Blk.nd u)).2 (a B z E (Blk.nd r)).2 u r
 .intro j y v l f;by_cases n:v≠ .dead
  .exact(s.blk j y v l (a j v f n).2).keep ext (λ_ _ _=>rfl) (λ_ _ _ _=>rfl)
  .obtain rfl:v=.dead:=Classical.not_not.1 n;trivial
theorem Qm1{α:Type}{e:α->List A}{T et k i n ta:Nat}{x y:Operand}{l l':List α}{j:Int}(h:slc l 0 j=some l')(G:l.length=n)(Y:∀x,(e x).length=k)(R:∀w,(underlying T).run P w=.ok (.array n et) w)(g:∀w,(sizeOf et).run P w=.ok k w)
  (L:o.op=.slice T x none (some y) none:=by exact rfl)(hx:opA env x=.ptr i 0:=by exact rfl)(hy:opA env y=.int .i64 j:=by exact rfl)(hH:H[i]?=some (.row ta k (l.map e)):=by exact rfl):
  OpH P o env H (.rsl k (l'.map e)) (H.set i .dead):=by
 intro X t σ N a w r;obtain⟨B,W,V,s⟩:=slc0 h;have z:=Qg r x;rw[hx]at z;obtain⟨b,u,E⟩:=z;have p:=Qg r y;rw[hy]at p;have m:a.eval y=.int .i64 j:=p;obtain⟨lv,O,Q⟩:=r.sim.blk i _ _ u hH;have J:=r.sim.shutRow u hH;refine⟨.slice (some ⟨b,0,none⟩) j.toNat n,w,(λc=>t c\/c=b),[],?_,⟨_,n,by rw[X9,s],by rw[X9,s];omega,?_⟩,by simpa using J,YA (ro':=λc=>t c\/c=b) (λ_ q=>Or.inl q)⟩
 .have F:(Instr.sliceBounds false n n none (some (.int .i64 j)) none).run P w=.ok (0,j.toNat,n) w:=by
   simp only[Instr.sliceBounds,Vu,Vv,Result.andThen,YO B (show j<=(n:Int)by omega),Xj,if_false]
  have d:(Instr.sliceAt T (.pointer (some ⟨b,0,none⟩)) none (some (.int .i64 j)) none).run P w=.ok (.slice (some ⟨b,0,none⟩) j.toNat n) w:=by
   have f:(if n=0 then(⟨b,0,none⟩:Addr)else(⟨b,0,none⟩:Addr).add (0*k))=⟨b,0,none⟩:=by
    by_cases q:n=0
    .rw[if_pos q]
    .rw[if_neg q,Nat.zero_mul];simp[Addr.add]
   simp only[Instr.sliceAt,Vu,R,Result.andThen,Instr.sureAddr,F,g,Vv,f,XA]
  generalize a.eval=ρ at*;simp only[execOp,L,E,Xl,Xk,m,Vu,d,Result.andThen,Vv]
 .right;refine⟨b,0,rfl,.inr rfl,?_⟩;have M:=Jj (pre:=[]) (by simpa using O) Q;have:=M.take j.toNat;rw[<- List.map_take,V]at this;exact this.keep ⟨λ_ q=>.inl q,λ_ _=>rfl,λ_ _ q=>q,λ_ _ q=>q⟩ rfl
theorem RL.put{ro:Nat->Prop}{σ:Sig}{w:World}{k:Nat}:∀{a:Nat}{es fs:List (List A)}{l m:List Value},RL ro σ w k es l->a+fs.length<=es.length->Sw.allK k fs->LR ro σ w fs.flatten m->(∀v∈m,Qv v)->
  RL ro σ w k (es.take a++fs++es.drop (a+fs.length)) (Sw.splice l (a*k) m)
 |0,es,[],l,m,h,hn,hk,hm,hp=>by
  obtain rfl:m=[]:=hm;simpa[Sw.splice]using h
 |0,[],f::fs,l,m,h,hn,hk,hm,hp=>by simp at hn
 |0,c::es,f::fs,l,m,⟨l1,l2,h1,h2,h3,h4⟩,hn,hk,hm,hp=>by
  subst h1;have hl1:=h3.1.length;have hml:=hm.length;rw[Vt,Va]at hml;have e1:m.take k++m.drop k=m:=XF _ _;have q1:LR ro σ w f (m.take k):=by have:=hm.take k;rwa [Vt,Vf (by rw[hk.1];exact X0 _),List.take_of_length_le (by rw[hk.1];exact X0 _)]at this
  have j:LR ro σ w fs.flatten (m.drop k):=by have:=hm.drop k;rwa [Vt,Vg (by rw[hk.1];exact X0 _),Xt (by rw[hk.1];exact X0 _),Vp]at this
  have b:=RL.put (a:=0) h4 (by simpa using hn) hk.2 j (λv d=>hp v (List.mem_of_mem_drop d));simp only[List.take_zero,Vp,XB,Nat.zero_mul,Sw.splice]at b⊢;refine⟨m.take k,m.drop k++l2.drop (m.drop k).length,?_,hk.1,⟨q1,λv d=>hp v (List.mem_of_mem_take d)⟩,by simpa using b⟩;have e:k<=m.length:=by rw[hml,hk.1];exact Nat.le_add_right _ _
  rw[<- Vq,e1];congr 1;rw[XE,show m.length=l1.length+(m.length-k)from by omega,Vi];have g:l1.length+(m.length-k)-k=m.length-k:=by omega
  rw[g]
 |a+1,[],fs,l,m,h,hn,hk,hm,hp=>by simp at hn
 |a+1,c::es,fs,l,m,⟨l1,l2,h1,h2,h3,h4⟩,hn,hk,hm,hp=>by
  subst h1;have hl1:=h3.1.length;have b:=RL.put (a:=a) h4 (by simp at hn;omega) hk hm hp;refine⟨l1,Sw.splice l2 (a*k) m,?_,h2,h3,?_⟩
  .have e1:(a+1)*k=l1.length+a*k:=by rw[Xn];omega
   unfold Sw.splice;rw[e1,Vj,show l1.length+a*k+m.length=l1.length+(a*k+m.length)from by omega,Vi];simp
  .have i:a+1+fs.length=(a+fs.length)+1:=by omega
   simpa[i]using b
def QkD(P:Program)(H:Qc)(x:A)(k:Nat)(es:List (List A)):Prop:=
 ∀fr ro σ w v,Sim fr ro σ H w->VR ro σ w x v->(∃a c,v=.slice a es.length c)/\
  ∀j,j<=es.length->allK k (es.take j)/\ ∃l,(Builtin.firstCells k j v).run P w=.ok l.toArray w/\LR ro [] w (es.take j).flatten l/\ ∀v∈l,Qv v
theorem Qed{fr ro:Nat->Prop}{σ:Sig}{w:World}{k j b off n c:Nat}{es:List (List A)}(h:RR ro [] w b k es off)(f:j<=es.length):
  allK k (es.take j)/\ ∃l,(Builtin.firstCells k j (.slice (some ⟨b,off,none⟩) n c)).run P w=.ok l.toArray w/\LR ro [] w (es.take j).flatten l/\ ∀v∈l,Qv v:=by
 obtain⟨e,i,a⟩:=(h.take j).flat;rw[XD,XH f]at a;obtain⟨l,d,g⟩:=Qc3 (P:=P) (n:=j) (c:=c) e a;refine⟨i,l,?_,g⟩;exact d w rfl
theorem Qb7{k n c:Nat}{a:Option Addr}{w:World}:(Builtin.firstCells k 0 (.slice a n c)).run P w=.ok #[] w:=by
 cases a<;>simp[Builtin.firstCells,loadCells,loadCellsFrom,go_sem]
theorem Qn6{α:Type}{e:α->List A}{k:Nat}{l:List α}:QkD P H (.rsl k (l.map e)) k (l.map e):=by
 intro fr m σ w v s ⟨a,c,h1,h2,d⟩;subst h1;refine⟨⟨a,c,rfl⟩,λj f=>?_⟩;rcases d with d|⟨b,h,rfl,i,g⟩
 .rw[d]at f⊢;obtain rfl:j=0:=by simpa using f
  exact⟨trivial,[],Qb7,rfl,by simp⟩
 .exact Qed (fr:=fr) (σ:=σ) g f
theorem QkD.osl{i s n k t:Nat}{es a:List (List A)}(z:H[i]?=some (.row t k es))(he:(es.drop s).take n=a)(M:s+n<=es.length):QkD P H (.osl i s n k) k a:=by
 intro fr G σ w v sm h;have f:a.length=n:=by rw[<- he];simp;omega
 rcases h with⟨rfl,rfl⟩|⟨b,p,d,L,m,r,rfl,y,F,E,J⟩
 .have e:a=[]:=List.length_eq_zero_iff.1 f;subst e;refine⟨⟨none,0,rfl⟩,λj g=>?_⟩;obtain rfl:j=0:=by simpa using g
  exact⟨trivial,[],Qb7,rfl,by simp⟩
 .rw[f];refine⟨⟨_,d,rfl⟩,λj g=>?_⟩;obtain⟨l,x,B⟩:=sm.blk i _ _ r z;have q:=((Jj (pre:=[]) (by simpa using x) B).drop s).take n;rw[he]at q;by_cases u:0<d
  .obtain rfl:=y u;simpa using Qed (P:=P) (fr:=fr) (σ:=σ) (n:=n) (c:=d) q (by rw[f];exact g)
  .obtain rfl:j=0:=by omega
   exact⟨trivial,[],Qb7,rfl,by simp⟩
theorem Qn7{α:Type}{e:α->List A}{b t k:Nat}{l r:List α}{a c:Int}(h:slc l a c=some r)(f:H[b]?=some (.row t k (l.map e)):=by exact rfl):QkD P H (.osl b (0+a.toNat) (c.toNat-a.toNat) k) k (r.map e):=by
 obtain⟨j,i,g,d⟩:=Qd7 h;refine QkD.osl f ?_ (by rw[X9];omega);rw[<- d, <- List.map_drop, <- List.map_take,XB,List.drop_take]
def cpy{α:Type}(l:List α)(a c:Int)(m:List α):Option (List α):=some (l.take a.toNat++m.take (c.toNat-a.toNat)++l.drop (a.toNat+min m.length (c.toNat-a.toNat)))
theorem QdT{α:Type}{l r l' m:List α}{a c:Int}(h:slc l a c=some r)(b:cpy l a c m=some l'):l.length=l'.length:=by
 obtain⟨d,f,e,_⟩:=Qd7 h;rw[<- X7 b];simp only[Va,XD,XE];omega
theorem QeV{α:Type}{l l' m:List α}(a:cpy l 0 (l.length:Int) m=some l'):l.length=l'.length:=by
 rw[<- X7 a];simp only[Va,XD,XE];simp;omega
theorem Qf8{α:Type}{e:α->List A}{c:Call}{T T' et k b a n t:Nat}{x y:Operand}{ya:A}{l m l':List α}(ad:a+n<=l.length)(X:l.take a++m.take n++l.drop (a+min m.length n)=l')(hT:∀w,(underlying T).run P w=.ok (.slice et) w)(z:∀w,(sizeOf et).run P w=.ok k w)(W:QkD P H ya k (m.map e))
  (ho:o.op=.call c)(hc:c={callee:=.builtin .copy,args:= #[x,y],argTypes:= #[T,T']})(hx:opA env x=.osl b a n k)(hH:H[b]?=some (.row t k (l.map e)))(O:opA env y=ya):
  OpH P o env H (.int .i64 (min m.length n:Nat)) (H.set b (.row t k (l'.map e))):=by
 intro Q J σ N ac w r;have u:=Qg r x;rw[hx]at u;have h2:=Qg r y;rw[O]at h2;obtain⟨⟨ay,cy,Y⟩,q2⟩:=W Q J σ w _ r.sim h2;rw[X9]at Y q2;obtain⟨q3,M,L,q5,q6⟩:=q2 (min m.length n) (Nat.min_le_left _ _);have d:((m.map e).take (min m.length n)).length=min m.length n:=by rw[XD,X9];omega
 have F:l'.map e=(l.map e).take a++(m.map e).take (min m.length n)++(l.map e).drop (a+((m.map e).take (min m.length n)).length):=by
  rw[d, <- X,Xg,Xg, <- List.map_take, <- List.map_take, <- List.map_drop];have e2:m.take (min m.length n)=m.take n:=by
   by_cases q:m.length<=n
   .rw[XH q,Vh,List.take_of_length_le q]
   .rw[Nat.min_eq_right (by omega)]
  rw[e2]
 have h:(Builtin.copy_ #[T,T'] o.type #[ac.eval x,ac.eval y]).run P w=.ok (.int .i64 (min m.length n:Nat)) w->min m.length n=0->
   ∃v w' ro' τ,(execOp ac.eval o).run P w=.ok (.value v) w'/\VR ro' (σ++τ) w' (.int .i64 (min m.length n:Nat)) v/\Sim Q ro' (σ++τ) (H.set b (.row t k (l'.map e))) w'/\Qf Q J w ro' w':=by
  intro g hz;have W:H.set b (.row t k (l'.map e))=H:=by
   have:l'.map e=l.map e:=by rw[F,d,hz];simp
   rw[this];obtain⟨hb,hv⟩:=XS.1 hH;rw[<- hv,List.set_getElem_self]
  refine⟨_,w,J,[],?_,rfl,by simpa[W]using r.sim,Qf.refl _ _ _⟩;subst hc;generalize ac.eval=ρ at*;simp only[execOp,ho,resolve,Vu,Vv,Result.andThen,invoke,builtin,XP,Vr,Vs,g]
 have E:∀j:Nat,goInt j=.int .i64 j:=λ_=>rfl;rcases u with⟨G,u⟩|⟨bb,p,ae,t',mm,u,h3,h4,h5,h6,h7⟩
 .refine h ?_ (by omega);rw[Y]at L⊢;rw[u];have:Nat.min m.length 0=min m.length n:=by rw[G]
  simp only[Builtin.copy_,XN,XL,XM,Vu,hT,z,Result.andThen,Builtin.lenOf,Vv,this,L,E]
 .have f:∀R:Result Unit,(storeCells ⟨bb,p,none⟩ M).run P w=R->(Builtin.copy_ #[T,T'] o.type #[ac.eval x,ac.eval y]).run P w=R.andThen λ_ w=>.ok (.int .i64 (min m.length n:Nat)) w:=by
   intro R hR;rw[Y]at L⊢;rw[h3];have:Nat.min m.length n=min m.length n:=rfl;simp only[Builtin.copy_,XN,XL,XM,Vu,hT,z,Result.andThen,Builtin.lenOf,Vv,this,L,E,hR]
  by_cases G:min m.length n=0
  .have s:M=[]:=by
    have:=q5.length;rw[G]at this;exact List.length_eq_zero_iff.1 (by simpa using this)
   refine h ?_ G;have:=f (.ok () w) (by rw[s];rfl);rw[this];rfl
  .obtain rfl:=h4 (by omega);obtain⟨l0,g1,g2⟩:=r.sim.blk b _ _ u hH;have V:=g2.length;have s:=q5.length;rw[YP q3,d]at s;have ab:a*k+(min m.length n)*k<=l0.length:=by
    rw[<- XG];refine X3 (XI k ?_) V;rw[X9];omega
   have B:=YG (P:=P) (vs:=M) (a*k) 0 g1 (by omega) q6;rw[XC]at B;have g:=f _ B;have i:=r.sim.set (x':=.row t k (l'.map e)) (obj:=.cells (splice l0 (a*k) M).toArray t (0,0)) u hH rfl
    (λy O=>QaZ g1 (Yn (by omega)) y O)
    (λex aa=>⟨_,aa,by
     rw[F];exact(RL.put g2 (by rw[d,X9];omega) q3 q5 q6).mono ex.nil⟩)
   refine⟨_,_,J,[],?_,rfl,by simpa using i.1,i.2⟩;subst hc;generalize ac.eval=ρ at*;simp only[execOp,ho,resolve,Vu,Vv,Result.andThen,invoke,builtin,XP,Vr,Vs,g]
theorem QkR{α:Type}{e:α->List A}{c:Call}{T T' et k b t:Nat}{x y:Operand}{ya:A}{l m l':List α}(h:cpy l 0 (l.length:Int) m=some l')(d:∀w,(underlying T).run P w=.ok (.slice et) w)(a:∀w,(sizeOf et).run P w=.ok k w)(g:QkD P H ya k (m.map e))
  (f:o.op=.call c:=by exact rfl)(hc:c={callee:=.builtin .copy,args:= #[x,y],argTypes:= #[T,T']}:=by exact rfl)(hx:opA env x=.osl b 0 l.length k:=by exact rfl)(hH:H[b]?=some (.row t k (l.map e)):=by exact rfl)(hy:opA env y=ya:=by exact rfl):
  OpH P o env H (.int .i64 (min m.length l.length:Nat)) (H.set b (.row t k (l'.map e))):=by
 refine Qf8 (Nat.le_of_eq (XB _)) ?_ d a g f hc hx hH hy;rw[<- X7 h];rfl
theorem QkS{α:Type}{e:α->List A}{c:Call}{T T' et k b t:Nat}{x y:Operand}{ya:A}{l f m l':List α}{i j:Int}(g:slc l i j=some f)(h:cpy l i j m=some l')(q:∀w,(underlying T).run P w=.ok (.slice et) w)(d:∀w,(sizeOf et).run P w=.ok k w)(n:QkD P H ya k (m.map e))
  (p:o.op=.call c:=by exact rfl)(hc:c={callee:=.builtin .copy,args:= #[x,y],argTypes:= #[T,T']}:=by exact rfl)(hx:opA env x=.osl b (0+i.toNat) (j.toNat-i.toNat) k:=by exact rfl)(hH:H[b]?=some (.row t k (l.map e)):=by exact rfl)(hy:opA env y=ya:=by exact rfl):
  OpH P o env H (.int .i64 (min m.length (j.toNat-i.toNat):Nat)) (H.set b (.row t k (l'.map e))):=by
 obtain⟨u,z,s,r⟩:=Qd7 g;refine Qf8 (a:=i.toNat) (by omega) (X7 h) q d n p hc ?_ hH hy;rw[hx,XB]
end
end Go.Sw
namespace Go.Sw
open Go.MapKept
section
variable {fr ro ro':Nat->Prop}{σ:Sig}{H:Qc}{w:World}
theorem SO.toVR{t k:Nat}{rows:List (List A)}{v:Value}(ext:Ext ro [] w ro' [] w)(h:SO ro w t k rows v)(f:∀c p n cap,v=.slice (some ⟨c,p,none⟩) n cap->ro' c):VR ro' [] w (.rsl k rows) v:=by
 rcases h with⟨rfl,rfl⟩|⟨c,p,cap,vs,a,b,g,j,d,i⟩
 .exact⟨none,0,rfl,X0 _,.inl rfl⟩
 .refine⟨some ⟨c,p,none⟩,cap,a,b,?_⟩;by_cases e:rows=[]
  .exact .inl e
  .obtain rfl:=i (Vn (List.length_pos_iff.2 e) b);exact .inr ⟨c,0,rfl,f c _ _ _ a,Jj (pre:=[]) (by simpa using g) (d.mono ext)⟩
theorem QjH{t k:Nat}(ext:Ext ro [] w ro' [] w):∀{es:List (A×Option (List (List A)))}{l:List MapEntry},MO ro w t k es l->(∀e∈es,e.2.isSome=true)->(∀c,Jb es l c->ro' c)->ER ro' [] w (es.map λe=>(e.1,A.rsl k (e.2.getD []))) l
 |[],_,h,_,_=>h
 |x::r,_,⟨e,l',h1,h2,h3,h4⟩,ha,hr=>by
  subst h1;have hx:=ha x (Vc ..);obtain⟨rows,hx2⟩:=Option.isSome_iff_exists.1 hx;refine⟨e,l',rfl,h2.mono ext,?_,QjH ext h4 (λe he=>ha e (Vd _ he)) λc hc=>hr c (.inr hc)⟩;have:=(h3 rows hx2).toVR ext λc p n cap hv=>hr c (.inl ⟨hx,p,n,cap,hv⟩);show VR ro' [] w (.rsl k (x.2.getD [])) e.val;rw[hx2];exact this
theorem Sim.shutOF(s:Sim fr ro σ H w){i b t k:Nat}{es:List (A×Option (List (List A)))}(hσ:σ[i]?=some (some b))(x:H[i]?=some (.mapO false t k es))(Y:∀e∈es,e.2.isSome=true):
  Sim fr (λc=>ro c\/c=b\/Hid w (.mapO false t k es) b c) σ (H.set i (.fmap (es.map λe=>(e.1,A.rsl k (e.2.getD []))))) w:=by
 have u:b<w.heap.size/\ ¬ro b/\ ¬fr b:=s.own i b _ hσ x rfl;have hid:=λc q=>s.hid i b _ c hσ x q;have ext:Ext ro σ w (λc=>ro c\/c=b\/Hid w (.mapO false t k es) b c) σ w:=⟨λ_ q=>.inl q,λ_ _=>rfl,λ_ _ q=>q,λ_ _ q=>q⟩;have R:i<H.length:=(XS.1 x).1;have a:∀(j:Nat) (v:Blk),(H.set i (.fmap (es.map λe=>(e.1,A.rsl k (e.2.getD [])))))[j]?=some v->(v.live=true\/ ∃d c,Hid w v d c)->j≠i/\H[j]?=some v:=by
  intro j v h B;by_cases e:j=i
  .subst e;rw[Xa R]at h;cases h;rcases B with B|⟨d,c,B⟩
   .cases B
   .exact B.elim
  .rw[XW (λq=>e q.symm)]at h;exact⟨e,h⟩
 refine⟨by rw[Vb];exact s.len,s.roOk.to (λ_ q=>.inl q) (λ_ _=>rfl) ?_,s.frLt,?_,?_,?_,?_,?_⟩
 .rintro c (q|rfl|q)
  .exact s.roLt c q
  .exact u.1
  .exact(hid c q).lt
 .rintro c (q|rfl|q)
  .exact s.roFr c q
  .exact u.2.2
  .exact(hid c q).fr
 .intro j c v n f p;obtain⟨e,f⟩:=a j v f (.inl p);obtain⟨F,M,P⟩:=s.own j c v n f p;refine⟨F,?_,P⟩;rintro(q|rfl|q)
  .exact M q
  .exact e (s.inj j i c v _ n hσ f x p rfl)
  .exact(hid c q).ne j c v n f p rfl
 .intro j r c v Q n f p T O N;exact s.inj j r c v Q n f (a j v p (.inl O)).2 (a r Q T (.inl N)).2 O N
 .intro j y v n f;by_cases e:j=i
  .subst e;rw[Xa R]at f;cases f;rw[hσ]at n;cases n;obtain⟨_,l,m,F,M,P,X,p5,W,_⟩:=s.blk j _ _ hσ x;exact⟨.inr (.inl rfl),l,m,F,QjH ext.nil M Y (λc V=>.inr (.inr ⟨l,m,F,V⟩)),X,p5,W⟩
  .rw[XW (λq=>e q.symm)]at f;exact(s.blk j y v n f).keep ext (λ_ _ _=>rfl) (λ_ _ _ _=>rfl)
 .intro j d y c n f p;obtain⟨e,f⟩:=a j y f (.inr ⟨d,c,p⟩);have g:=s.hid j d y c n f p;refine⟨g.lt,?_,g.fr,λr L z G J E=>g.ne r L z G (a r z J (.inl E)).2 E,λr L z G J E=>g.one r L z G (a r z J (.inr ⟨_,_,E⟩)).2 E⟩;rintro(q|rfl|q)
  .exact g.ro q
  .exact g.ne i c _ hσ x rfl rfl
  .exact e ((g.one i b _ hσ x q).2.symm)
end
def Qcw{α β:Type}:List (α×Option (List β))->Option (List (α×List β))
 |[]=>some []
 |(x,some r)::l=>(Qcw l).map ((x,r):: ·)
 |(_,none)::_=>none
theorem Qhb{α β:Type}{ek:α->A}{ev:β->List A}{k:Nat}:∀{l:List (α×Option (List β))}{m:List (α×List β)},Qcw l=some m->
  ((QN ek ev l).map λe=>(e.1,A.rsl k (e.2.getD [])))=Qt ek (λr=>A.rsl k (r.map ev)) m/\ ∀e∈QN ek ev l,e.2.isSome=true
 |[],m,h=>by obtain rfl:=X7 h;exact⟨rfl,λe he=>by cases he⟩
 |(x,some r)::l,m,h=>by
  unfold Qcw at h;cases q:Qcw l with
  |none=>rw[q]at h;cases h
  |some m'=>
   rw[q]at h;obtain rfl:=X7 h;obtain⟨h1,h2⟩:=Qhb (ek:=ek) (ev:=ev) (k:=k) q;refine⟨?_,λe he=>?_⟩
   .unfold QN Qt at*;simp only[Vr,h1];rfl
   .rcases Ve.1 he with rfl|he
    .rfl
    .exact h2 e he
 |(x,none)::l,m,h=>by cases h
theorem Qm5{α β:Type}{ek:α->A}{ev:β->List A}{h0 i t k:Nat}{env:Env}{H:Qc}{l:List (α×Option (List β))}{m:List (α×List β)}(h:Qcw l=some m)(e:H[i]?=some (.mapO false t k (QN ek ev l)):=by exact rfl):
  Le h0 env H env (H.set i (.fmap (Qt ek (λr=>A.rsl k (r.map ev)) m))):=by
 intro n j σ N a w r;obtain⟨f,g⟩:=Qhb (ek:=ek) (ev:=ev) (k:=k) h;have d:∃s,σ[i]?=some s:=by
  have:i<σ.length:=by rw[r.sim.len];exact(XS.1 e).1
  exact⟨_,XR this⟩
 obtain⟨s,d⟩:=d;cases s with
 |none=>exact(r.sim.blk i _ _ d e).elim
 |some b=>
  have:=r.sim.shutOF d e g;rw[f]at this;exact⟨_,σ,⟨this,λq=>(r.env q).mono ⟨λ_ q=>.inl q,λ_ _=>rfl,λ_ _ q=>q,λ_ _ q=>q⟩,r.size,r.defers⟩,λ_ q=>.inl q,rfl⟩
theorem Ojr{S B:Type}{d D:Ctl S B}{x:B}(hb:∀b,d=.done b->D=.done b)(h:some (Ctl.done x)=some d):D=.done x:=hb x (Oi h).symm
theorem Qm4{α β:Type}{ek:α->A}{ev:β->List A}{h0 i t k:Nat}{env:Env}{H H':Qc}{l:List (α×Option (List β))}{m:List (α×List β)}(h:Qcw l=some m)(a:H[i]?=some (.mapO false t k (QN ek ev l)):=by exact rfl)
  (e:H.set i (.fmap (Qt ek (λr=>A.rsl k (r.map ev)) m))=H':=by exact rfl):Le h0 env H env H':=e▸Qm5 h a
abbrev Ea:=@Ev.bind
abbrev Ec:=@FzH.keep
abbrev Ed:=@FzL.cons
abbrev Ee:=@FzA.refl
abbrev Ef:=@TC.le
abbrev Eg:=@PL.cons
abbrev Eh:=@DS.done
abbrev Ei:=@Ev.and
abbrev Ej:=@EvI.done
abbrev Ek:=@FzL.refl
abbrev El:=@OpH.lit
abbrev Em:=@RF.cons
abbrev En:=@Le.trans
abbrev Eo:=@ZR.int
abbrev Ep:=@FzA.o
abbrev Er:=@Le.phantom
abbrev Et:=@WO.le
abbrev Eu:=@EvI.cont
abbrev Ew:=@Ev.iter
abbrev Ex:=@OpU.store
abbrev Ey:=@OpV.load
abbrev Ez:=@Ev.const
theorem Zf.{u,v}{α:Sort u}{β:Sort v}{f:α->β}:∀x,f x=f x:=λ_=>rfl
abbrev Ze.{u,v}{α:Sort u}{β:Type v}:α->List β:=λ_=>[]
end Go.Sw
