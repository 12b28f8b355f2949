/- The rules by which the code is walked, with what they rest on (part 3). -/
import Derived.Test.YtgjcbknjiemdgaaGreatDoorL2
import Derived.Shelf.Spec.SlicesInsertGrow
set_option linter.unusedVariables false
set_option linter.unusedSectionVars false
set_option linter.unusedSimpArgs false
namespace Go.Sw
theorem Le.env{b:Nat}{env env':Env}{H:Qd}(h:∀s,lk env' s=.any\/lk env' s=lk env s):Le b env H env' H:=by
 intro e d σ N a w r;refine⟨d,σ,⟨r.sim,λs=>?_,r.size,r.defers⟩,λ_ q=>q,rfl⟩;rcases h s with h|h
 .rw[h];trivial
 .rw[h];exact r.env s
def Qm1(env:Env):Env->Prop
 |[]=>True
 |(s,a)::r=>lk env s=a/\Qm1 env r
theorem Qm1.ok{env:Env}:∀{env':Env},Qm1 env env'->∀s,lk env' s=.any\/lk env' s=lk env s
 |[],_,s=>.inl rfl
 |(d,a)::e,⟨h1,h2⟩,s=>by
  by_cases q:s=d
  .simp_all[lk]
  .have:Nat.beq s d=false:=by
    simp_all[VM]
   simp only[lk,this,Vq];exact Qm1.ok h2 s
theorem Lw{h0:Nat}{env env':Env}{H:Qd}(h:Qm1 env env'):Le h0 env H env' H:=Le.env h.ok
theorem Qok(n i:Nat):rho (List.range n) n i=i:=by
 grind[rho]
mutual
theorem Qgx{ρ:Nat->Nat}(h:∀i,ρ i=i):∀a:A,Yu ρ a=a
 |.ptr i off=>by simp[Yu,h]
 |.osl i o n k=>by simp[Yu,h]
 |.agg cs=>by simp[Yu,QaW h cs]
 |.fn f a c=>by simp[Yu,QaW h a,QaW h c]
 |.iface t v=>by simp[Yu,Qgx h v]
 |.map i=>by simp[Yu,h]
 |.tup vs=>by simp[Yu,QaW h vs]
 |.any|.bool _|.int _ _|.str _|.nilp|.rp _|.nils|.rsl _ _|.nilf|.nilif|.nilm=>by rfl
theorem QaW{ρ:Nat->Nat}(h:∀i,ρ i=i):∀l:List A,Qaa ρ l=l
 |[]=>rfl
 |a::r=>by simp[Qaa,Qgx h a,QaW h r]
end
theorem Qjr{ρ:Nat->Nat}(h:∀i,ρ i=i):∀l:List (List A),Qfz ρ l=l
 |[]=>rfl
 |a::r=>by simp[Qfz,QaW h a,Qjr h r]
theorem Qjq{ρ:Nat->Nat}(h:∀i,ρ i=i):∀l:List (A×A),Qj7 ρ l=l
 |[]=>rfl
 |a::r=>by simp[Qj7,Qgx h,Qjq h r]
theorem Qnl{ρ:Nat->Nat}(h:∀i,ρ i=i):∀b:Blk,QO ρ b=b
 |.cells t cs=>by simp[QO,QaW h cs]
 |.rowr t k es=>by simp[QO,Qjr h es]
 |.ents t a b es=>by simp[QO,h]
 |.wins t a n c=>by simp[QO,h]
 |.mapP es=>by simp[QO,Qjq h es]
 |.dead|.row _ _ _|.map _|.iter _ _|.fmap _|.mapO _ _ _ _|.frow _ _ _=>by rfl
theorem Pw{P:Program}{h0 N:Nat}{all:Array Oper}{o:Oper}{l:List Oper}{env:Env}{H:Qd}{Q:QA}{d:Nat}{f:FuncId}{args:List A}{v g:A}(r:o.dst=some d)(e:OpC P o env H f args)(m:C P f args H (λa H1=>a=v/\H1=H))(t:Qiv v=some (.mk g))
  (hg:Qs all o env true)(j:Nat.blt d N=true)(n:h0<=H.length)(k:WO P h0 N all l (up env d g) H Q):WO P h0 N all (o::l) env H Q:=by
 have b:=Qok H.length;have s:H.map (QO (rho (List.range H.length) H.length))=H:=by
  conv=>rhs;rw[<- List.map_id H]
  grind[List.map_congr_left,Qnl]
 have h:(List.range H.length).map (λp=>H[p]?)=(H.map (QO (rho (List.range H.length) H.length))).map some:=by
  rw[s];apply List.ext_getElem?;intro i;by_cases q:i<H.length
  .simp[q]
  .simp[q]
 refine Qq (List.range H.length) e m ?_ (by rw[QaW b]) h List.nodup_range hg r j (XS n)
 simp_all[Qjo,QbH]
def ixE(d:Nat)(g:Ground):Edge:={on:=d,ground:=g}
def ixO(d:Nat)(op:Op)(t:Nat)(pos:String)(af:Array Edge):Oper:={dst:=some d,op:=op,type:=t,pos:=pos,after:=af,guard:=none}
def QoW(ts te tf tI tB:Nat):Code:=
 (Code.region 0 [ixO 4 (.assign (.const (.int .i64 0))) tI "slices.go:107" #[]].toArray false).seq
  (((Code.region 1 [ixO 6 (.move (.tmp 0)) ts "slices.go:108" #[],ixO 7 (.call {callee:=.builtin .len,args:= #[.tmp 6],argTypes:= #[ts]}) tI "slices.go:108" #[ixE 0 .data],ixO 8 (.move (.const (.int .i64 0))) tI "slices.go:108" #[]].toArray false).seq
   (.block 0 (.loop ((Code.region 2 [ixO 9 (.binOp .lss tI (.tmp 8) (.tmp 7) tI) 0 "slices.go:108" #[]].toArray false).seq
    ((Code.cond (.tmp 9) .skip (.exit 0)).seq
    ((Code.block 1 ((Code.region 3 [ixO 10 (.move (.tmp 8)) tI "slices.go:108" #[],ixO 5 (.assign (.tmp 10)) tI "slices.go:108" #[ixE 0 .data,ixE 0 .phase]].toArray false).seq
     ((Code.region 4 [ixO 11 (.move (.tmp 1)) tf "slices.go:109" #[],ixO 12 (.move (.tmp 0)) ts "slices.go:109" #[],ixO 13 (.move (.tmp 5)) tI "slices.go:109" #[],ixO 14 (.indexAddr ts (.tmp 12) (.tmp 13)) 0 "slices.go:109" #[ixE 1 .data,ixE 2 .data],
       ixO 15 (.load te (.tmp 14)) te "slices.go:109" #[ixE 3 .data],ixO 16 (.call {callee:=.value (.tmp 11),args:= #[.tmp 15],argTypes:= #[te]}) tB "slices.go:109" #[ixE 0 .data,ixE 4 .data]].toArray false).seq
      (Code.cond (.tmp 16) ((Code.region 5 [ixO 17 (.move (.tmp 5)) tI "slices.go:110" #[],ixO 4 (.assign (.tmp 17)) tI "slices.go:110" #[ixE 0 .data,ixE 0 .phase]].toArray false).seq .ret) .skip)))).seq
     (Code.region 6 [ixO 18 (.binOp .add tI (.tmp 8) (.const (.int .i64 1)) tI) tI "slices.go:108" #[],ixO 8 (.move (.tmp 18)) tI "slices.go:108" #[ixE 0 .data]].toArray false))))))).seq
  ((Code.region 7 [ixO 4 (.assign (.const (.int .i64 (-1)))) tI "slices.go:113" #[]].toArray false).seq .ret))
theorem Q6{P:Program}{T:Type}{e:T->List A}{el:T->A}{Q z tf tI tB k:Nat}{V m:FuncId}{fn:Func}{i:List A}{Hc:Qd}{L:List T}{g:T->Option Bool}{n:Nat}{r:Int}
  (W:P.funcs[V]?=some fn)(X:fn.body=some (QoW Q z tf tI tB))(hN:fn.ntmps=19)(O:fn.results= #[.tmp 4])(R:∀w,(underlying Q).run P w=.ok (.slice z) w)(Y:∀w,(sizeOf z).run P w=.ok k w)
  (M:∀(o:Oper) (env:Env) (H:Qd) (x:T),o.op=.load z (.tmp 14)->opA env (.tmp 14)=.rp (e x)->OpV P o env H (el x))
  (F:∀(a:Array Value) (w:World),(callFunc m a).run P w=.ok (.enter m a) w)
  (N:∀x b,g x=some b->C P m (el x::i) Hc (λa H=>a=.bool b/\H=Hc))
  (h:((iter (λs:Int=>bif decide (s<(L.length:Int))then(idx L s).bind λx=>(g x).bind λb=>(bif b then some (Ctl.done (Ctl.done s))else some (Ctl.cont (IntKind.i64.wrap (s+1))))else some (Ctl.done (Ctl.cont ()))) n (0:Int):Option (Ctl Unit Int)).bind λb=>match b with|.cont _=>some (-1)|.done s=>some s)=some r):
  C P V [.rsl k (L.map e),.fn (.func m) [] i] Hc (λa H=>a=.int .i64 r/\H=Hc):=by
 refine Qc W X hN rfl ?_;refine Rg (S rfl (Nx (TC.seq (Rg (S rfl (LnM R rfl (S rfl (Nx (Bd h λG J h=>?_)))))))));refine Qg4 (b:=G) (λ_=>[]) (λ_=>Hc) ?_ (λsb10 env H hbe hle=>?_)
 .refine TC.block ?_;refine TC.loop (E:=λp=>[(0,.rsl k (L.map e)),(1,.fn (.func m) [] i),(7,.int .i64 (L.length:Int)),(8,.int .i64 p)]) (Hp:=λ_=>Hc) J ?_ ?_
  .exact Lw ⟨rfl,rfl,rfl,rfl,trivial⟩
  intro p aa d l;refine Rg (S rfl (Nx (TC.seq (Jg rfl d (λu d=>?_) (λu d=>?_)))))
  .refine ExX (QB d ?_);obtain rfl:=l _ (Oi d).symm;exact bloE (QE rfl (Lw trivial))
  refine SkN (TC.seq (TC.block (Rg (S rfl (S rfl (Nx (Rg (S rfl (S rfl (S rfl (Bd d λj y d=>Ix y R Y rfl ?_)))))))))));refine Yv (x:=el j) rfl rfl rfl (M _ _ _ j rfl rfl) ?_;refine Bd d λB t d=>?_;refine Pw rfl (Qha (f:=m) (x:=.tmp 11) (xs:=[.tmp 15]) (vf:=[]) (vc:=i) (args:=el j::i) F rfl rfl rfl rfl) (N j B t) rfl rfl rfl (XT _) ?_;refine Nx (Cn rfl d (λq d=>?_) (λq d=>?_))
  .refine Rg (S rfl (S rfl (Nx (TC.ret (bloR (seqR (Yb d ?_)))))));obtain rfl:=l _ (Oi d).symm;refine bloR (QR (seqR ?_));obtain rfl:=Oi h;exact R1 4 O (Lw ⟨rfl,trivial⟩)
  exact TC.skip (bloN (Qlj (TC.region (S rfl (S rfl (WO.nil (Qx d (Lw ⟨rfl,rfl,rfl,rfl,trivial⟩))))))))
 subst hbe;refine Qlj (Qg hle (Rg (S rfl (Nx (TC.ret ?_)))));obtain rfl:=Oi h;exact R1 4 O (Lw ⟨rfl,trivial⟩)
end Go.Sw
namespace Go.Sw
inductive Kf where
 |seq (c:Code)
 |blo (id:Nat)
 |unr (c:Code)
inductive Cf where
 |code (c:Code)
 |ops (all:Array Oper) (l:List Oper)
 |out (x:AEx)
def kq(P:Program)(h0 N:Nat):List Kf->QA->QA
 |[],Q=>Q
 |.seq c::k,Q=>Seq P h0 N c (kq P h0 N k Q)
 |.blo id::k,Q=>Blo id (kq P h0 N k Q)
 |.unr c::k,Q=>Qi5 P h0 N c (kq P h0 N k Q)
@[reducible] def Hd(P:Program)(h0 N:Nat):Cf->List Kf->Env->Qd->QA->Prop
 |.code c,k,env,H,Q=>TC P h0 N c env H (kq P h0 N k Q)
 |.ops all l,k,env,H,Q=>WO P h0 N all l env H (kq P h0 N k Q)
 |.out x,k,env,H,Q=>kq P h0 N k Q x env H
def QfK(T:TyX)(h0 N:Nat):Cf->List Kf->Env->Qd->Option (Cf×List Kf×Env×Qd)
 |.code (.seq a b),k,env,H=>some (.code a,.seq b::k,env,H)
 |.code (.block id c),k,env,H=>some (.code c,.blo id::k,env,H)
 |.code (.loop c),k,env,H=>some (.code c,.unr c::k,env,H)
 |.code .skip,k,env,H=>some (.out .normal,k,env,H)
 |.code .ret,k,env,H=>some (.out .ret,k,env,H)
 |.code (.exit id),k,env,H=>some (.out (.exit id),k,env,H)
 |.code (.region id ⟨l⟩ false),k,env,H=>some (.ops ⟨l⟩ l,k,env,H)
 |.code (.cond x a b),k,env,H=>match opB env x with
  |.mk (.bool true)=>some (.code a,k,env,H)
  |.mk (.bool false)=>some (.code b,k,env,H)
  |_=>none
 |.ops all [],k,env,H=>some (.out .normal,k,env,H)
 |.ops all (o::l),k,env,H=>match stX T h0 N all o env H with
  |some (env',H')=>some (.ops all l,k,env',H')
  |none=>none
 |.out .normal,.seq c::k,env,H=>some (.code c,k,env,H)
 |.out (.exit i),.seq _::k,env,H=>some (.out (.exit i),k,env,H)
 |.out .ret,.seq _::k,env,H=>some (.out .ret,k,env,H)
 |.out .normal,.blo _::k,env,H=>some (.out .normal,k,env,H)
 |.out (.exit i),.blo id::k,env,H=>match Nat.beq i id with
  |true=>some (.out .normal,k,env,H)
  |false=>some (.out (.exit i),k,env,H)
 |.out .ret,.blo _::k,env,H=>some (.out .ret,k,env,H)
 |.out .normal,.unr c::k,env,H=>some (.code c,.unr c::k,env,H)
 |.out (.exit i),.unr _::k,env,H=>some (.out (.exit i),k,env,H)
 |.out .ret,.unr _::k,env,H=>some (.out .ret,k,env,H)
 |_,_,_,_=>none
def Qiw(T:TyX)(h0 N:Nat):Nat->Cf->List Kf->Env->Qd->Option (Cf×List Kf×Env×Qd)
 |0,c,k,env,H=>some (c,k,env,H)
 |n+1,c,k,env,H=>match QfK T h0 N c k env H with
  |some (c',k',env',H')=>Qiw T h0 N n c' k' env' H'
  |none=>none
section
variable {P:Program} {T:TyX} {h0 N:Nat} {Q:QA}
theorem Qlc(d:Qbh P T){c b:Cf}{k a:List Kf}{env env':Env}{H H':Qd}(h:QfK T h0 N c k env H=some (b,a,env',H'))(g:Hd P h0 N b a env' H' Q):Hd P h0 N c k env H Q:=by
 unfold QfK at h;split at h
 .cases h;exact TC.seq g
 .cases h;exact TC.block g
 .cases h;exact QkF g
 .cases h;exact TC.skip g
 .cases h;exact TC.ret g
 .cases h;exact TC.exit g
 .cases h;exact TC.region g
 .split at h
  .rename_i q;cases h;exact QmK (QK q) rfl g
  .rename_i q;cases h;exact QmL (QK q) rfl g
  .cases h
 .cases h;exact WO.nil g
 .grind[Qir]
 .cases h;exact Qlj g
 .cases h;exact seqX g
 .cases h;exact seqR g
 .cases h;exact bloN g
 .split at h
  .rename_i q;cases h;have:=XQ q;subst this;exact bloE g
  .rename_i q;cases h;exact bloX q g
 .cases h;exact bloR g
 .cases h;exact unrN g
 .cases h;exact unrX g
 .cases h;exact unrR g
 .cases h
theorem QcB(hT:Qbh P T):∀(n:Nat) {c c':Cf} {k k':List Kf} {env env':Env} {H H':Qd},Qiw T h0 N n c k env H=some (c',k',env',H')->Hd P h0 N c' k' env' H' Q->Hd P h0 N c k env H Q
 |0,c,c',k,k',env,env',H,H',h,g=>by cases h;exact g
 |n+1,c,c',k,k',env,env',H,H',h,g=>by
  unfold Qiw at h;split at h
  .rename_i e;exact Qlc hT e (QcB hT n h g)
  .cases h
theorem Qji{env:Env}{s:Nat}{a:A}(h:lk env s=a):∀t,lk (up env s a) t=lk env t:=by
 intro t;simp only[up,lk];cases q:Nat.beq t s with
 |true=>simp_all
 |false=>rfl
theorem Is{α:Type}{all:Array Oper}{l:List Oper}{env:Env}{H:Qd}{b:Bool}{x y:Option α}{r:α}(s:Nat)(h:(bif b then x else y)=some r)(d:lkB env s=.mk (.bool b))
  (t:b=true->x=some r->WO P h0 N all l (up env s (.bool true)) H Q)(e:b=false->y=some r->WO P h0 N all l (up env s (.bool false)) H Q):WO P h0 N all l env H Q:=by
 have a:=QiF d;cases b with
 |true=>exact Qy (Le.env λt=>.inr (Qji a t)) (t rfl h)
 |false=>exact Qy (Le.env λt=>.inr (Qji a t)) (e rfl h)
theorem Ct3E{S B1:Type}{A B C:Code}{env:Env}{H:Qd}{k:List Kf}{b:Ctl S B1}(Eb:S->Env)(Hb:S->Qd)(h:TC P h0 N A env H (kq P h0 N [.seq B] (Qgl h0 b Eb Hb (kq P h0 N (.seq C::k) Q))))(g:∀s env H,b=.cont s->Le h0 env H (Eb s) (Hb s)->kq P h0 N (.seq C::k) Q .normal env H):TC P h0 N (.seq A (.seq B C)) env H (kq P h0 N k Q):=
 QmJ Eb Hb h g
end
def dstN(o:Oper)(i:Nat):Nat:=match o.dst with|some d=>d|none=>1000000+i
def Qbd:Nat->Nat->List Oper->List Nat
 |0,_,_=>[]
 |_+1,_,[]=>[]
 |m+1,i,o::l=>dstN o i::Qbd m (i+1) l
def Yd(af:List Nat):Nat->List Nat->List A->Env->Env
 |j,d::ds,x::xs,e=>(d,bif Qdk af j then x else .any)::Yd af (j+1) ds xs e
 |j,d::ds,[],e=>(d,.any)::Yd af (j+1) ds [] e
 |_,[],_,e=>e
theorem QfA{l:List Nat}{t:Nat}:Qdk l t=l.contains t:=by
 induction l with
 |nil=>rfl
 |cons a r b=>
  grind[Qdk,Nat.eq_of_beq_eq_true,Nat.beq_refl]
theorem QjM{af:List Nat}{env0:Env}{s:Nat}:∀(a:List Nat) (xs f:List A) (b:Nat),
  (∃(j:Nat) (x:A),af.contains (b+j)=true/\a[j]?=some s/\(xs++f)[j]?=some x/\lk (Yd af b a xs env0) s=x)\/lk (Yd af b a xs env0) s=.any\/(a.contains s=false/\lk (Yd af b a xs env0) s=lk env0 s):=by
 intro a
 induction a with
 |nil=>intro xs f b;right;right;exact⟨rfl,by rfl⟩
 |cons d a n=>
  intro xs f b;have next:∀(e:List A),(∃(j:Nat) (x:A),af.contains (b+1+j)=true/\a[j]?=some s/\(e++f)[j]?=some x/\lk (Yd af (b+1) a e env0) s=x)->∀p,(∃(j:Nat) (x:A),af.contains (b+j)=true/\(d::a)[j]?=some s/\(p::e++f)[j]?=some x/\lk (Yd af (b+1) a e env0) s=x):=by
   rintro e ⟨j,x,i,g,l,m⟩ p;exact⟨j+1,x,by grind,by grind,by grind,m⟩
  cases xs with
  |nil=>
   cases q:Nat.beq s d with
   |true=>simp_all[Yd,lk]
   |false=>
    have k:s≠d:=λz=>by simp_all
    simp only[Yd,lk,q,Vq];rcases n [] [] (b+1)with⟨j,x,i,g,l,m⟩|h|⟨i,g⟩
    .simp at l
    .grind
    grind
  |cons x xs=>
   cases q:Nat.beq s d with
   |true=>
    have:=XQ q;subst this;simp only[Yd,lk,q,Vp];cases c:Qdk af b with
    |true=>left;exact⟨0,x,by rw[<- QfA];exact c,rfl,rfl,rfl⟩
    |false=>simp
   |false=>
    have k:s≠d:=λz=>by simp_all
    simp only[Yd,lk,q,Vq];rcases n xs f (b+1)with h|h|⟨i,g⟩
    .exact .inl (next xs h x)
    .grind
    grind
section
variable {P:Program} {T:TyX} {h0 N m:Nat} {l:List Oper} {ds:List Nat} {env:Env} {H:Qd} {Q:QA} {K:List Oper->Env->Qd->Prop}
def DS(P:Program)(N m:Nat)(l:List Oper)(ds:List Nat)(env:Env)(H:Qd)(K:List Oper->Env->Qd->Prop)(r:List Oper)(xs:List A):Prop:=
 r=l.drop xs.length->∃ys,xs.length+ys.length=m/\(∀j,xs.length<=j->j<m->Jh P N l ds (xs++ys) env H.length H.length j H H)/\K (l.drop m) (Qas ds (xs++ys) env) H
theorem oqOf{xs:List A}:∀(c i:Nat),(∀j,i<=j->j<i+c->Jh P N l ds xs env H.length H.length j H H)->Oq P N l ds xs env H i c
 |0,i,_=>.n
 |c+1,i,h=>.c (by grind) (oqOf c (i+1) (by grind))
theorem Qm6{id:Nat}{k:List Kf}(m:Nat)(i:P.follows .mixedOrders=true)(j:Go.Sw.draw0 l m N (Qbd m 0 l)=true)(a:Nat.ble h0 H.length=true)
  (h:DS P N m l (Qbd m 0 l) env H (λr e H=>WO P h0 N l.toArray r e H Q) l []):TC P h0 N (.region id l.toArray true) env H Q:=by
 obtain⟨d,f,g,b⟩:=h rfl;simp only[List.length_nil,Xv,Vh]at f g b;exact TC.draw0 m _ d i j (by simp_all) a (oqOf m 0 (by grind)) b
theorem DS.done{xs:List A}{r:List Oper}(a:Nat.beq xs.length m=true)(h:K r (Qas ds xs env) H):DS P N m l ds env H K r xs:=by
 intro b;have e:=XQ a;subst b;refine⟨[],by simpa using e,λj d f=>by omega,?_⟩
 grind
theorem DS.add{xs:List A}{o:Oper}{r:List Oper}{x:A}(g:Nat.blt xs.length m=true)(h:∀ys,l[xs.length]?=some o->Jh P N l ds (xs++x::ys) env H.length H.length xs.length H H)(k:DS P N m l ds env H K r (xs++[x])):DS P N m l ds env H K (o::r) xs:=by
 intro b;have a:xs.length<l.length:=by
  grind[List.drop_eq_nil_of_le]
 rw[Xp a]at b;cases b;obtain⟨ys,d,e,f⟩:=k (by simp)
 grind
theorem QhE{xs a:List A}{x:A}:(xs++x::a)[xs.length]?=some x:=by simp
theorem DS.wo{xs:List A}{o:Oper}{r:List Oper}{x:A}{d:Nat}(h:WO P H.length N l.toArray [o] (Yd (Qh o) 0 ds xs env) H (YW (up (Yd (Qh o) 0 ds xs env) d x) H))(k:DS P N m l ds env H K r (xs++[x]))
  (a:o.dst=some d:=by exact rfl)(hx:Nat.blt xs.length m=true:=by exact rfl):DS P N m l ds env H K (o::r) xs:=
 .add hx (λb e=>.woE o _ d x e a QhE (he:=by
  intro s;rcases QjM (af:=Qh o) (env0:=env) (s:=s) ds xs (x::b) 0 with⟨j,y,f,g,n,i⟩|q|q
  .grind
  .grind
  grind) (hdd:=QdU H) (h:=h)) k
theorem DS.v{xs:List A}{o:Oper}{r:List Oper}{x:A}{d:Nat}(h:OpV P o (Yd (Qh o) 0 ds xs env) H x)(k:DS P N m l ds env H K r (xs++[x]))(hg:Qs l.toArray o (Yd (Qh o) 0 ds xs env) true:=by exact rfl)
  (hd:o.dst=some d:=by exact rfl)(hN:Nat.blt d N=true:=by exact rfl)(hx:Nat.blt xs.length m=true:=by exact rfl):DS P N m l ds env H K (o::r) xs:=
 .wo (Yv hg hd hN h (WO.nil YW.mk)) k hd hx
def QcR:List A->A->FL
 |[],x=>.mk [x]
 |a::r,x=>match QcR r x with
  |.mk r'=>.mk (a::r')
theorem Y8:∀(l:List A) (x:A),QcR l x=.mk (l++[x])
 |[],x=>rfl
 |a::r,x=>by unfold QcR;rw[Y8 r];rfl
def Qhq(T:TyX)(N m:Nat)(l:List Oper)(ds:List Nat)(env:Env)(H:Qd):Nat->Nat->List Oper->List A->Option (List Oper×List A)
 |0,_,r,xs=>some (r,xs)
 |_+1,_,[],_=>none
 |n+1,i,o::r,xs=>match Nat.blt i m with
  |false=>none
  |true=>match o.dst with
   |none=>none
   |some d=>match Nat.blt d N with
    |false=>none
    |true=>match YV ⟨l⟩ o (Yd (Qh o) 0 ds xs env)with
     |none=>none
     |some false=>match QcR xs (.tup [])with
      |.mk xs'=>Qhq T N m l ds env H n (i+1) r xs'
     |some true=>match Qc6 T o (Yd (Qh o) 0 ds xs env) H with
      |none=>none
      |some x=>match QcR xs x with
       |.mk xs'=>Qhq T N m l ds env H n (i+1) r xs'
theorem QeA(hT:Qbh P T):∀(n i:Nat) {r r':List Oper} {xs xs':List A},i=xs.length->Qhq T N m l ds env H n i r xs=some (r',xs')->DS P N m l ds env H K r' xs'->DS P N m l ds env H K r xs
 |0,i,r,r',xs,xs',_,h,k=>by cases h;exact k
 |n+1,i,[],r',xs,xs',_,h,k=>by cases h
 |n+1,i,o::r,r',xs,xs',hi,h,k=>by
  subst hi;unfold Qhq at h;split at h
  .cases h
  .rename_i q1;split at h
   .cases h
   .rename_i d hd;split at h
    .cases h
    .rename_i q2;split at h
     .cases h
     .rename_i hw;simp only[Y8]at h;exact .wo (WO.skip (QJ hw) hd q2 (WO.nil YW.mk)) (QeA hT n _ (by simp) h k) hd q1
     .rename_i hw;split at h
      .cases h
      .rename_i x hv;simp only[Y8]at h;exact .v (Qau hT hv) (QeA hT n _ (by simp) h k) (QJ hw) hd q2 q1
def Qli:List A->Nat->A->FL
 |[],_,_=>.mk []
 |_::r,0,x=>.mk (x::r)
 |a::r,n+1,x=>match Qli r n x with
  |.mk r'=>.mk (a::r')
theorem Qc8:∀{l:List A} {n:Nat} {x:A},YP l n=some x->Qli l n x=.mk l
 |[],n,x,h=>by cases h
 |a::r,0,x,h=>by cases h;rfl
 |a::r,n+1,x,h=>by unfold Qli;rw[Qc8 (l:=r) (n:=n) h]
theorem Qd1{α:Type}{b:Bool}{x y:Option α}{v:α}{xs d a:List A}{r:List Oper}(j:Nat)(h:(bif b then x else y)=some v)(f:YP xs j=some (.bool b))(i:Qli xs j (.bool true)=.mk d)(g:Qli xs j (.bool false)=.mk a)
  (t:b=true->x=some v->DS P N m l ds env H K r d)(e:b=false->y=some v->DS P N m l ds env H K r a):DS P N m l ds env H K r xs:=by
 cases b with
 |true=>simp_all[Qc8]
 |false=>simp_all[Qc8]
end
end Go.Sw
namespace Go.Sw
@[reducible] def RQ{β:Type}(w:β->A)(Hc:β->Qd)(r:β):A->Qd->Prop:=λa H=>a=w r/\H=Hc r
@[reducible] def Csm{β:Type}(P:Program)(f:FuncId)(args:List A)(H:Qd)(w:β->A)(r:β):Prop:=C P f args H (RQ w (λ_=>H) r)
structure TyZ where
 sl:List (Nat×Nat×Nat)
 fn:List Nat
structure QcT (P:Program) (Z:TyZ):Prop where
 sl:∀e∈Z.sl,(∀w,(underlying e.1).run P w=.ok (.slice e.2.1) w)/\ ∀w,(sizeOf e.2.1).run P w=.ok e.2.2 w
 fn:∀f∈Z.fn,∀(a:Array Value) (w:World),(callFunc f a).run P w=.ok (.enter f a) w
section
variable {P:Program} {Z:TyZ} {h0 N:Nat} {all:Array Oper} {o:Oper} {l:List Oper} {env:Env} {H:Qd} {Q:QA} {d:Nat}
theorem Izz(p:QcT P Z){α:Type}{e:α->List A}{t j k:Nat}{L:List α}{n:IntKind}{i:Int}{v:α}(h:idx L i=some v)(q:ixB o env=some (d,t,k,L.map e,n,i))(g:WO P h0 N all l (up env d (.rp (e v))) H Q)
  (m:Qb7 Z.sl t=some (j,k))(hg:YV all o env=some true)(a:Nat.blt d N=true):WO P h0 N all (o::l) env H Q:=by
 obtain⟨b,f⟩:=p.sl _ (Qav m);exact Ix h b f q g (QJ hg) a
theorem Ize(m:QcT P Z){α:Type}{e:α->List A}{t b k:Nat}{L:List α}{j:IntKind}{i:Int}{v:α}{cs:List A}(h:idx L i=some v)(he:e v=cs)(q:ixB o env=some (d,t,k,L.map e,j,i))(g:WO P h0 N all l (up env d (.rp cs)) H Q)
  (f:Qb7 Z.sl t=some (b,k))(hg:YV all o env=some true)(a:Nat.blt d N=true):WO P h0 N all (o::l) env H Q:=by
 subst he;exact Izz m h q g f hg a
theorem Lmz(j:QcT P Z){α:Type}{e:α->List A}{t f k h:Nat}{L:List α}(q:lnB o env=some (d,t,.mk (.rsl k (L.map e))))(g:WO P h0 N all l (up env d (.int .i64 L.length)) H Q)
  (i:Qb7 Z.sl t=some (f,h))(hg:YV all o env=some true)(a:Nat.blt d N=true):WO P h0 N all (o::l) env H Q:=by
 obtain⟨b,m⟩:=j.sl _ (Qav i);exact LnM b q g (QJ hg) a
def QfF(Z:TyZ)(o:Oper)(env:Env):Option (Nat×Nat×List A):=
 match o.dst with
 |none=>none
 |some d=>match o.op with
  |.call {callee:=.value (.func f),args:=⟨xs⟩,argTypes:=_}=>bif Qdk Z.fn f then(match fl (Qhw env xs)with|.mk ax=>some (d,f,ax))else none
  |.call {callee:=.value (.tmp x),args:=⟨xs⟩,argTypes:=_}=>match opB env (.tmp x)with
   |.mk (.fn (.func f) vf vc)=>bif Qdk Z.fn f then(match fl (vf++(Qhw env xs++vc))with|.mk ax=>some (d,f,ax))else none
   |_=>none
  |_=>none
theorem Qej(e:QcT P Z){f:Nat}{args:List A}(h:QfF Z o env=some (d,f,args)):o.dst=some d/\OpC P o env H f args:=by
 unfold QfF at h;split at h
 .cases h
 .rename_i l g;split at h
  .rename_i a xs i b;cases q:Qdk Z.fn a with
   |false=>grind
   |true=>
    rw[q]at h;simp only[Qcd,Vp]at h;cases h;exact⟨g,OpC.fn (xs:=xs) (e.fn _ (QgG q)) b rfl (QcF xs).symm⟩
  .rename_i x xs i b;split at h
   .rename_i a k m j;cases q:Qdk Z.fn a with
    |false=>grind
    |true=>
     rw[q]at h;simp only[Qcd,Vp]at h;cases h;exact⟨g,Qha (xs:=xs) (e.fn _ (QgG q)) b rfl (QK j) (by rw[QcF])⟩
   .cases h
  .cases h
theorem Czz(e:QcT P Z){β γ:Type}{F:Option β}{F':β->Option γ}{r:γ}{f:Nat}{args a:List A}{Hc:Qd}{w:β->A}(π:List Nat)(h:F.bind F'=some r)(q:∀v,F=some v->C P f a Hc (RQ w (λ_=>Hc) v))
  (b:QfF Z o env=some (d,f,args))(g:∀v,F=some v->F' v=some r->WO P h0 N all l (up env d (w v)) H Q)(u:∀v,Qiv (w v)=some (.mk (w v)))
  (hargs:args=Qaa (rho π H.length) a)(i:π.map (λp=>H[p]?)=(Hc.map (QO (rho π H.length))).map some)(hπ:π.Nodup)(hg:YV all o env=some true)(j:Nat.blt d N=true)(t:Nat.ble h0 H.length=true):WO P h0 N all (o::l) env H Q:=by
 obtain⟨v,k,m⟩:=YX h;obtain⟨n,s⟩:=Qej (H:=H) e b
 grind[Pc,QJ]
theorem DzZ(u:QcT P Z){K:List Oper->Env->Qd->Prop}{m:Nat}{e:List Oper}{b:List Nat}{xs:List A}{β γ:Type}{F:Option β}{F':β->Option γ}{r:γ}{f:Nat}{args a:List A}{Hc:Qd}{w:β->A}(π:List Nat)(h:F.bind F'=some r)(x:∀v,F=some v->C P f a Hc (RQ w (λ_=>Hc) v))
  (i:QfF Z o (Yd (Qh o) 0 b xs env)=some (d,f,args))(g:∀v,F=some v->F' v=some r->DS P N m e b env H K l (xs++[w v]))(z:∀v,Qiv (w v)=some (.mk (w v)))
  (hargs:args=Qaa (rho π H.length) a)(n:π.map (λp=>H[p]?)=(Hc.map (QO (rho π H.length))).map some)(hπ:π.Nodup)(hg:YV e.toArray o (Yd (Qh o) 0 b xs env)=some true)(q:Nat.blt d N=true)(t:Nat.blt xs.length m=true):DS P N m e b env H K (o::l) xs:=by
 obtain⟨v,j,s⟩:=YX h;obtain⟨k,y⟩:=Qej (H:=H) u i;exact .wo (Pc π k y (x v j) (z v) (WO.nil YW.mk) hargs n hπ (QJ hg) q (by simp)) (g v j s) k t
theorem ln:Qbk H [] []:=trivial
theorem ls{ax b:List A}{a:A}(k:Qbk H ax b)(h:Yr a=true:=by exact rfl):Qbk H (a::ax) (a::b):=⟨.inl ⟨rfl,h⟩,k⟩
theorem lo{ax a:List A}{i n k t:Nat}{es:List (List A)}(b:Qbk H ax a)(d:H[i]?=some (.row t k es):=by exact rfl)(hn:es.length=n:=by exact X2 ..):Qbk H (.osl i 0 n k::ax) (.rsl k es::a):=
 ⟨.inr (by grind),b⟩
theorem Cbz(m:QcT P Z){β γ:Type}{F:Option β}{F':β->Option γ}{r:γ}{f:Nat}{args a:List A}{w:β->A}(h:F.bind F'=some r)(n:∀v,F=some v->C P f a [] (RQ w (λ_=>[]) v))
  (b:QfF Z o env=some (d,f,args))(e:Qbk H args a)(g:∀v,F=some v->F' v=some r->WO P h0 N all l (up env d (w v)) H Q)(s:∀v,Yg (w v)=true)
  (hg:YV all o env=some true)(i:Nat.blt d N=true):WO P h0 N all (o::l) env H Q:=by
 obtain⟨v,j,q⟩:=YX h;obtain⟨k,p⟩:=Qej (H:=H) m b;refine QmD p e (n v j) ?_ ?_ (QJ hg) k i
 .grind
 grind
end
def ixL:List Nat:=[0,1,2,3,4,5,6,7,8,9,10,11,12,13,14,15,16,17,18,19,20,21,22,23,24,25,26,27,28,29,30,31,32,33,34,35,36,37,38,39,40,41,42,43,44,45,46,47,48,49,50,51,52,53,54,55,56,57,58,59,60,61,62,63]
def QiA:List Nat->List Nat->Nat->FN
 |a::r,b::s,j=>bif Nat.beq a j then .mk b else QiA r s j
 |_,_,j=>.mk j
mutual
def cpA(sel:List Nat):A->Bx
 |.ptr i off=>match QiA sel ixL i with
  |.mk j=>.mk (.ptr j off)
 |.osl i o n k=>match QiA sel ixL i with
  |.mk j=>.mk (.osl j o n k)
 |.map i=>match QiA sel ixL i with
  |.mk j=>.mk (.map j)
 |.fn f a c=>match cpL sel a,cpL sel c with
  |.mk a',.mk c'=>.mk (.fn f a' c')
 |a=>.mk a
def cpL(sel:List Nat):List A->FL
 |[]=>.mk []
 |a::r=>match cpA sel a,cpL sel r with
  |.mk a',.mk r'=>.mk (a'::r')
end
inductive FV where
 |mk (e:Env)
def QlQ(sel:List Nat)(env:Env):List Nat->Env->FV
 |[],nE=>.mk nE
 |s::r,nE=>match lkB env s with
  |.mk a=>match cpA sel a,QlQ sel env r nE with
   |.mk a',.mk e=>.mk ((s,a')::e)
def selH(H:Qd):List Nat->List Nat->List (Nat×Blk)->FB
 |a::r,p::ps,[]=>match YP H a,selH H r ps []with
  |some b,.mk l=>.mk (b::l)
  |none,.mk l=>.mk l
 |a::r,p::ps,(q,b)::n=>bif Nat.beq p q then(match selH H r ps n with|.mk l=>.mk (b::l))else(match YP H a,selH H r ps ((q,b)::n)with
  |some b,.mk l=>.mk (b::l)
  |none,.mk l=>.mk l)
 |_,_,_=>.mk []
def Qmr(sel keep:List Nat)(nE:Env)(nH:List (Nat×Blk))(env:Env)(H:Qd):Option (Env×Qd):=
 match QlQ sel env keep nE,selH H sel ixL nH with
 |.mk e,.mk h=>some (e,h)
section
variable {P:Program} {h0 N:Nat} {c:Code} {env:Env} {H:Qd} {Q:QA}
def CutQ{β:Type}(h0:Nat)(b:β)(E':β->Env)(H':β->Qd)(Q:QA):QA
 |.normal,env,H=>Le h0 env H (E' b) (H' b)
 |.exit id,env,H=>Q (.exit id) env H
 |.ret,env,H=>Q .ret env H
theorem QX{h0:Nat}{env:Env}{H:Qd}{Q:QA}{β:Type}{b:β}{E':β->Env}{H':β->Qd}(h:Le h0 env H (E' b) (H' b)):CutQ h0 b E' H' Q .normal env H:=h
theorem Ct{β:Type}{E':β->Env}{H':β->Qd}(b:β)(sel keep:List Nat)(nE:β->Env)(nH:β->List (Nat×Blk))(_:∀b,Qmr sel keep (nE b) (nH b) env H=some (E' b,H' b))(h:TC P h0 N c env H (CutQ h0 b E' H' Q))(k:∀env H,Le h0 env H (E' b) (H' b)->Q .normal env H):TC P h0 N c env H Q:=
 h.mono λx env' H' q=>by
  cases x with
  |normal=>exact k _ _ q
  |exit id=>exact q
  |ret=>exact q
theorem CtE{S B:Type}{b:Ctl S B}{E':S->Env}{H':S->Qd}(sel keep:List Nat)(nE:S->Env)(nH:S->List (Nat×Blk))(_:∀s,Qmr sel keep (nE s) (nH s) env H=some (E' s,H' s))(h:TC P h0 N c env H (Qgl h0 b E' H' Q))(k:∀s env H,b=.cont s->Le h0 env H (E' s) (H' s)->Q .normal env H):TC P h0 N c env H Q:=Qg4 E' H' h k
theorem Lp{S B:Type}{step:S->Option (Ctl S B)}{E':S->Env}{H':S->Qd}{m:Nat}{s0:S}{b0:B}(sel keep:List Nat)(nE:S->Env)(nH:S->List (Nat×Blk))(h:iter step m s0=some b0)(_:∀s,Qmr sel keep (nE s) (nH s) env H=some (E' s,H' s))(hI:Le h0 env H (E' s0) (H' s0))
  (body:∀s d,step s=some d->(∀b,d=.done b->b=b0)->TC P h0 N c (E' s) (H' s) (Qbj (λs env H=>Le h0 env H (E' s) (H' s)) d Q)):TC P h0 N (.loop c) env H Q:=TC.loop E' H' h hI body
end
theorem Oj{S B:Type}{d:Ctl S B}{x b0:B}(hb:∀b,d=.done b->b=b0)(h:some (Ctl.done x)=some d):x=b0:=hb x (Oi h).symm
theorem Rt{P:Program}{a:Nat}{fn:Func}{env:Env}{H:Qd}{β:Type}{e r:β}{w:β->A}{Hc:β->Qd}(h:some e=some r)(s:Nat)(π:List Nat)(b:fn.results= #[.tmp s]:=by exact rfl)(hpre:π.take a=List.range a:=by exact rfl)
  (hH:π.map (λp=>H[p]?)=((Hc e).map (QO (rho π H.length))).map some:=by exact rfl)(hπ:π.Nodup:=by decide)(hE:Qfx (rho π H.length) env [(s,w e)]:=by exact⟨rfl,trivial⟩):QcW P a fn (RQ w Hc r) .ret env H:=by
 cases h;exact R1 s b (Lr π hpre hH hπ hE)
theorem Cl{d:Nat}{env:Env}{H:Qd}{Q:QA}{β:Type}{e b:β}{E':β->Env}{H':β->Qd}(h:some e=some b)(π:List Nat)(a:π.take d=List.range d:=by exact rfl)
  (hH:π.map (λp=>H[p]?)=((H' e).map (QO (rho π H.length))).map some:=by exact rfl)(hπ:π.Nodup:=by decide)(hE:Qfx (rho π H.length) env (E' e):=by(repeat' (first|exact trivial|refine⟨rfl,?_⟩))):CutQ d b E' H' Q .normal env H:=by
 cases h;exact Lr π a hH hπ hE
end Go.Sw
namespace Go.Sw
def plC(cat:List Nat):List (List (Nat×Nat)):=cat.map λc=>match c with|0=>[(0,0)]|1=>[(0,1)]|2=>[(1,1)]|_=>[(0,0),(1,1)]
def rqC(b:Nat)(cat:List Nat):List (List Nat):=cat.map λc=>match c with|2=>[b]|_=>[]
def hsC(cat:List Nat):List Bool:=cat.map λc=>match c with|1=>true|_=>false
section
variable {P:Program} {T:TyX} {h0 N m b:Nat} {cat:List Nat} {l:List Oper} {ds:List Nat} {env:Env} {H H1:Qd} {Q:QA} {K:List Oper->Env->Qd->Prop}
theorem Qhb{P:Program}{N:Nat}{l:List Oper}{ds:List Nat}{xs:List A}{env0:Env}{hB hE:Nat}:∀(ss:List (List (Qd×Qd))) (b:Nat),(∀i s,ss[i]?=some s->∀p∈s,Jh P N l ds xs env0 hB hE (b+i) p.1 p.2)->Qhc P N l ds xs env0 hB hE b ss
 |[],b,h=>.nil
 |s::ss,b,h=>.cons (h 0 s rfl) (Qhb ss (b+1) λi s' hs=>by rw[show b+1+i=b+(i+1)by omega];simp_all)
def Dob(P:Program)(N:Nat)(cat:List Nat)(l:List Oper)(ds:List Nat)(env:Env)(H H1:Qd)(zs:List A)(j:Nat):Prop:=
 ∀p∈(plC cat).getD j [],Jh P N l ds zs env H.length H.length j ([H,H1].getD p.1 []) ([H,H1].getD p.2 [])
def DB(P:Program)(N m:Nat)(cat:List Nat)(l:List Oper)(ds:List Nat)(env:Env)(H H1:Qd)(K:List Oper->Env->Qd->Prop)(r:List Oper)(xs:List A):Prop:=
 r=l.drop xs.length->∃ys,xs.length+ys.length=m/\(∀j,xs.length<=j->j<m->Dob P N cat l ds env H H1 (xs++ys) j)/\K (l.drop m) (Qas ds (xs++ys) env) H1
def DA(P:Program)(N m:Nat)(cat:List Nat)(l:List Oper)(ds:List Nat)(env:Env)(H:Qd)(K:List Oper->Env->Qd->Prop)(r:List Oper)(xs:List A):Prop:=
 r=l.drop xs.length->∃ys H1,xs.length+ys.length=m/\H.length<=H1.length/\(∀j,xs.length<=j->j<m->Dob P N cat l ds env H H1 (xs++ys) j)/\K (l.drop m) (Qas ds (xs++ys) env) H1
theorem Qpj{d:List A}(b:cat.length=m)(g:∀j,0<=j->j<m->Dob P N cat l ds env H H1 d j):Qhc P N l ds d env H.length (H.length+0) 0 ((plC cat).map λq=>q.map λp=>([H,H1].getD p.1 [],[H,H1].getD p.2 [])):=by
 refine Qhb _ 0 λi s a p k=>?_;rw[Xo]at a;cases e:(plC cat)[i]? with
 |none=>grind
 |some q=>
  rw[e]at a;cases a;obtain⟨n,h,rfl⟩:=Xe.1 k;have f:i<m:=by
   grind[plC]
  have:=g i (XU _) f n (by grind)
  grind
theorem DA.len(a:H.length<=H1.length):[H,H1].all (λX=>Nat.ble (H.length+0) X.length)=true:=by
 simp_all
theorem Qm8{id:Nat}(m b:Nat)(cat:List Nat)(q:P.follows .mixedOrders=true)(n:QdT l m N (Qbd m 0 l) (hsC cat) (rqC b cat) [[],[b]] (plC cat)=true)(d:Nat.beq cat.length m=true)(f:Nat.ble h0 H.length=true)
  (h:DA P N m cat l (Qbd m 0 l) env H (λr e H=>WO P h0 N l.toArray r e H Q) l []):TC P h0 N (.region id l.toArray true) env H Q:=by
 obtain⟨p,H1,j,k,g,i⟩:=h rfl;simp only[List.length_nil,Xv,Vh]at j g i;have a:=XQ d;exact Y4 m 0 _ _ _ _ _ p [H,H1] H1 q n (by grind) rfl f (DA.len k) (by simp) rfl (Qpj a g) (by simp[plC,a]) i
theorem Qbe{xs:List A}{o:Oper}{r:List Oper}(b:o::r=l.drop xs.length):l[xs.length]?=some o/\r=l.drop (xs.length+1):=by
 have a:xs.length<l.length:=by
  grind[List.drop_eq_nil_of_le]
 rw[Xp a]at b
 grind
theorem Qhi{zs:List A}{j c:Nat}(b:YP cat j=some c)(h:∀p∈(match c with|0=>[(0,0)]|1=>[(0,1)]|2=>[(1,1)]|_=>[(0,0),(1,1)]:List (Nat×Nat)),Jh P N l ds zs env H.length H.length j ([H,H1].getD p.1 []) ([H,H1].getD p.2 [])):Dob P N cat l ds env H H1 zs j:=by
 intro p a
 grind[QaB,plC]
theorem Qay{hB hE:Nat}{xs a:List A}{o:Oper}{x:A}{d:Nat}{X X':Qd}(e:l[xs.length]?=some o)(hdd:Qap hB hE X X'=true)(h:WO P X.length N l.toArray [o] (Yd (Qh o) 0 ds xs env) X (YW (up (Yd (Qh o) 0 ds xs env) d x) X'))(b:o.dst=some d):
  Jh P N l ds (xs++x::a) env hB hE xs.length X X':=
 .woE o _ d x e b QhE (he:=by
  intro s;rcases QjM (af:=Qh o) (env0:=env) (s:=s) ds xs (x::a) 0 with⟨j,y,i,f,k,g⟩|q|q
  .grind
  .grind
  grind) (hdd:=hdd) (h:=h)
theorem Y0{n:Nat}{X X':Qd}:Qap n n X X'=true:=by unfold Qap;simp
theorem DA.wo{xs:List A}{o:Oper}{r:List Oper}{x:A}{d:Nat}(h:WO P H.length N l.toArray [o] (Yd (Qh o) 0 ds xs env) H (YW (up (Yd (Qh o) 0 ds xs env) d x) H))(k:DA P N m cat l ds env H K r (xs++[x]))
  (i:YP cat xs.length=some 0:=by exact rfl)(hd:o.dst=some d:=by exact rfl)(hx:Nat.blt xs.length m=true:=by exact rfl):DA P N m cat l ds env H K (o::r) xs:=by
 intro b;obtain⟨u,n⟩:=Qbe b;obtain⟨s,H1,f,e,g,a⟩:=k (by grind);simp only[X3,X0,List.length_nil,Vi,VK,Vh]at f g a;refine⟨x::s,H1,by grind,e,λj w y=>?_,a⟩;rcases VC xs.length j with q|q
 .grind
 .obtain rfl:j=xs.length:=by omega
  refine Qhi i λp t=>?_;obtain rfl:=VB.1 t;exact Qay u Y0 h hd
theorem DA.op{xs:List A}{o:Oper}{r:List Oper}{x:A}{d:Nat}(h:WO P H.length N l.toArray [o] (Yd (Qh o) 0 ds xs env) H (YW (up (Yd (Qh o) 0 ds xs env) d x) H1))(k:DB P N m cat l ds env H H1 K r (xs++[x]))(w:Nat.ble H.length H1.length=true:=by exact rfl)
  (hc:YP cat xs.length=some 1:=by exact rfl)(hd:o.dst=some d:=by exact rfl)(hx:Nat.blt xs.length m=true:=by exact rfl):DA P N m cat l ds env H K (o::r) xs:=by
 intro b;obtain⟨s,g⟩:=Qbe b;obtain⟨i,e,f,a⟩:=k (by grind);simp only[X3,X0,List.length_nil,Vi,VK,Vh]at e f a;refine⟨x::i,H1,by grind,(by simp_all),λj t u=>?_,a⟩;rcases VC xs.length j with q|q
 .grind
 .obtain rfl:j=xs.length:=by omega
  refine Qhi hc λp n=>?_;obtain rfl:=VB.1 n;exact Qay s Y0 h hd
theorem QbW{xs:List A}{o:Oper}{r:List Oper}{x x':A}{d:Nat}{H1':Qd}(h:OpH P o (Yd (Qh o) 0 ds xs env) H x H1)(a:foA x=.mk x')(b:foH H1=.mk H1')(k:DB P N m cat l ds env H H1' K r (xs++[x']))(e:o.dst=some d:=by exact rfl)(hg:YV ⟨l⟩ o (Yd (Qh o) 0 ds xs env)=some true:=by exact rfl)(hN:Nat.blt d N=true:=by exact rfl)(hl:Nat.ble H.length H1'.length=true:=by exact rfl)
  (hc:YP cat xs.length=some 1:=by exact rfl)(hx:Nat.blt xs.length m=true:=by exact rfl):DA P N m cat l ds env H K (o::r) xs:=by
 rw[QgN]at a;rw[QiK]at b;cases a;cases b;exact .op (Qg3 (XT _) (QJ hg) e hN h (WO.nil YW.mk)) k hl hc e hx
theorem DB.done{xs:List A}{r:List Oper}(a:Nat.beq xs.length m=true)(h:K r (Qas ds xs env) H1):DB P N m cat l ds env H H1 K r xs:=by
 intro b;have e:=XQ a;subst b;refine⟨[],by simpa using e,λj d f=>by omega,?_⟩
 grind
theorem DB.add{xs:List A}{o:Oper}{r:List Oper}{x:A}(g:∀ys,l[xs.length]?=some o->Dob P N cat l ds env H H1 (xs++x::ys) xs.length)(k:DB P N m cat l ds env H H1 K r (xs++[x])):DB P N m cat l ds env H H1 K (o::r) xs:=by
 intro a;obtain⟨h,b⟩:=Qbe a;obtain⟨ys,d,e,f⟩:=k (by grind)
 grind
theorem DB.wo1{xs:List A}{o:Oper}{r:List Oper}{x:A}{d:Nat}(h:WO P H1.length N l.toArray [o] (Yd (Qh o) 0 ds xs env) H1 (YW (up (Yd (Qh o) 0 ds xs env) d x) H1))(k:DB P N m cat l ds env H H1 K r (xs++[x]))
  (e:YP cat xs.length=some 2:=by exact rfl)(hd:o.dst=some d:=by exact rfl):DB P N m cat l ds env H H1 K (o::r) xs:=
 .add (λf a=>Qhi e λp b=>by
  obtain rfl:=VB.1 b;exact Qay a Y0 h hd) k
theorem DB.wo2{xs:List A}{o:Oper}{r:List Oper}{x:A}{d:Nat}(h:WO P H.length N l.toArray [o] (Yd (Qh o) 0 ds xs env) H (YW (up (Yd (Qh o) 0 ds xs env) d x) H))(e:WO P H1.length N l.toArray [o] (Yd (Qh o) 0 ds xs env) H1 (YW (up (Yd (Qh o) 0 ds xs env) d x) H1))(k:DB P N m cat l ds env H H1 K r (xs++[x]))
  (f:YP cat xs.length=some 3:=by exact rfl)(hd:o.dst=some d:=by exact rfl):DB P N m cat l ds env H H1 K (o::r) xs:=
 .add (λg b=>Qhi f λp a=>by
  rcases X6.1 a with rfl|a
  .exact Qay b Y0 h hd
  .obtain rfl:=VB.1 a;exact Qay b Y0 e hd) k
def Qhr(T:TyX)(N m:Nat)(cat:List Nat)(l:List Oper)(ds:List Nat)(env:Env)(H:Qd):Nat->Nat->List Oper->List A->Option (List Oper×List A)
 |0,_,r,xs=>some (r,xs)
 |_+1,_,[],_=>none
 |n+1,i,o::r,xs=>match Nat.blt i m,YP cat i with
  |true,some 0=>match o.dst with
   |none=>none
   |some d=>match Nat.blt d N with
    |false=>none
    |true=>match YV ⟨l⟩ o (Yd (Qh o) 0 ds xs env)with
     |none=>none
     |some false=>match QcR xs (.tup [])with
      |.mk xs'=>Qhr T N m cat l ds env H n (i+1) r xs'
     |some true=>match Qc6 T o (Yd (Qh o) 0 ds xs env) H with
      |none=>none
      |some x=>match QcR xs x with
       |.mk xs'=>Qhr T N m cat l ds env H n (i+1) r xs'
  |_,_=>none
theorem QeD(hT:Qbh P T):∀(n i:Nat) {r r':List Oper} {xs xs':List A},i=xs.length->Qhr T N m cat l ds env H n i r xs=some (r',xs')->DA P N m cat l ds env H K r' xs'->DA P N m cat l ds env H K r xs
 |0,i,r,r',xs,xs',_,h,k=>by cases h;exact k
 |n+1,i,[],r',xs,xs',_,h,k=>by cases h
 |n+1,i,o::r,r',xs,xs',hi,h,k=>by
  subst hi;unfold Qhr at h;split at h
  .rename_i q1 q0;split at h
   .cases h
   .rename_i d hd;split at h
    .cases h
    .rename_i q2;split at h
     .cases h
     .rename_i hw;simp only[Y8]at h;exact .wo (WO.skip (QJ hw) hd q2 (WO.nil YW.mk)) (QeD hT n _ (by simp) h k) q0 hd q1
     .rename_i hw;split at h
      .cases h
      .rename_i x hv;simp only[Y8]at h;exact .wo (Yv (QJ hw) hd q2 (Qau hT hv) (WO.nil YW.mk)) (QeD hT n _ (by simp) h k) q0 hd q1
  .cases h
theorem Qnm{H:Qd}{p:Bx}{r:Lx}(h:ptX [] p=some r):ptX H p=some r:=by
 unfold ptX at h⊢
 grind[YP]
theorem Qeq{o:Oper}{e:Env}{H:Qd}{x:A}(h:Qc6 T o e []=some x):Qc6 T o e H=some x:=by
 unfold Qc6 at h⊢;split at h<;>first|exact h|skip
 rename_i t y a;split at h
 .cases h
 grind[Qnm]
def QeC(T:TyX)(N:Nat)(cat:List Nat)(l:List Oper)(ds:List Nat)(env:Env)(H1:Qd):Nat->Nat->List Oper->List A->Option (List Oper×List A)
 |0,_,r,xs=>some (r,xs)
 |_+1,_,[],_=>none
 |n+1,i,o::r,xs=>match o.dst with
  |none=>none
  |some d=>match Nat.blt d N with
   |false=>none
   |true=>match YV ⟨l⟩ o (Yd (Qh o) 0 ds xs env)with
    |none=>none
    |some false=>match YP cat i with
     |some 2=>(match QcR xs (.tup [])with
      |.mk xs'=>QeC T N cat l ds env H1 n (i+1) r xs')
     |some 3=>(match QcR xs (.tup [])with
      |.mk xs'=>QeC T N cat l ds env H1 n (i+1) r xs')
     |_=>none
    |some true=>match YP cat i with
     |some 2=>(match Qc6 T o (Yd (Qh o) 0 ds xs env) H1 with
      |none=>none
      |some x=>match QcR xs x with
       |.mk xs'=>QeC T N cat l ds env H1 n (i+1) r xs')
     |some 3=>(match Qc6 T o (Yd (Qh o) 0 ds xs env) []with
      |none=>none
      |some x=>match QcR xs x with
       |.mk xs'=>QeC T N cat l ds env H1 n (i+1) r xs')
     |_=>none
theorem QbK(hT:Qbh P T):∀(n i:Nat) {r r':List Oper} {xs xs':List A},i=xs.length->QeC T N cat l ds env H1 n i r xs=some (r',xs')->DB P N m cat l ds env H H1 K r' xs'->DB P N m cat l ds env H H1 K r xs
 |0,i,r,r',xs,xs',_,h,k=>by cases h;exact k
 |n+1,i,[],r',xs,xs',_,h,k=>by cases h
 |n+1,i,o::r,r',xs,xs',hi,h,k=>by
  subst hi;unfold QeC at h;split at h
  .cases h
  .rename_i d hd;split at h
   .cases h
   .rename_i q2;split at h
    .cases h
    .rename_i hw;split at h
     .rename_i q0;simp only[Y8]at h;exact .wo1 (WO.skip (QJ hw) hd q2 (WO.nil YW.mk)) (QbK hT n _ (by simp) h k) q0 hd
     .rename_i q0;simp only[Y8]at h;exact .wo2 (WO.skip (QJ hw) hd q2 (WO.nil YW.mk)) (WO.skip (QJ hw) hd q2 (WO.nil YW.mk)) (QbK hT n _ (by simp) h k) q0 hd
     .cases h
    .rename_i hw;split at h
     .rename_i q0;split at h
      .cases h
      .rename_i x hv;simp only[Y8]at h;exact .wo1 (Yv (QJ hw) hd q2 (Qau hT hv) (WO.nil YW.mk)) (QbK hT n _ (by simp) h k) q0 hd
     .rename_i q0;split at h
      .cases h
      .rename_i x hv;simp only[Y8]at h;exact .wo2 (Yv (QJ hw) hd q2 (Qau hT (Qeq hv)) (WO.nil YW.mk)) (Yv (QJ hw) hd q2 (Qau hT (Qeq hv)) (WO.nil YW.mk)) (QbK hT n _ (by simp) h k) q0 hd
     .cases h
end
end Go.Sw
namespace Go.Sw
def chkF(L:List (Nat×List (Nat×Nat)))(fs:List (Nat×Nat×Nat)):Bool:=
 fs.all λe=>match Qb7 L e.1 with
  |some pl=>(match YP pl e.2.1 with
   |some q=>Nat.beq q.1 e.2.2&& !(Nat.beq q.2 0)
   |none=>false)
  |none=>false
theorem PL.get{P:Program}{fs:List Field}{a:List (Nat×Nat)}(h:PL P fs a):∀{f off n:Nat},YP a f=some (off,n)->∃fd,fs[f]?=some fd/\fd.offset=off/\ ∀w,(sizeOf fd.type).run P w=.ok n w:=by
 induction h with
 |nil=>intro f off n h;cases h
 |cons h k d=>
  intro f off n b;cases f with
  |zero=>cases b;grind
  |succ f=>grind[YP]
theorem Qo0{P:Program}{L:List (Nat×List (Nat×Nat))}{fs:List (Nat×Nat×Nat)}(b:∀e∈L,Qz P e.1 e.2)(h:chkF L fs=true):∀e∈fs,∃n,YO P e.1 e.2.1 e.2.2 n:=by
 intro e f;have:=Xs.1 h e f;split at this
 .rename_i s a;split at this
  .rename_i q d;obtain⟨k,n⟩:=q;simp only[XW,Bool.not_eq_true']at this;have p:=XQ this.1;obtain⟨l,i,g⟩:=b _ (Qav a);obtain⟨r,t,j,m⟩:=PL.get g d;refine⟨n,⟨⟨_,r,i,by grind,j.trans p,m,?_⟩⟩⟩
   grind[Nat.beq_refl]
  .cases this
 .cases this
section
variable {P:Program} {Z:TyZ} {h0 N:Nat} {all:Array Oper} {o:Oper} {l:List Oper} {env:Env} {H:Qd} {Q:QA} {d:Nat}
theorem Cdz(m:QcT P Z){β γ:Type}{F:Option β}{F':β->Option γ}{r:γ}{f:Nat}{args a:List A}{Hc:Qd}{w:β->A}{Hr:β->Qd}(π:List Nat)(h:F.bind F'=some r)(n:∀v,F=some v->C P f a Hc (RQ w Hr v))
  (b:QfF Z o env=some (d,f,args))(g:∀v,F=some v->F' v=some r->WO P h0 N all l (up env d (Yu (rho π H.length) (w v))) (Yi H π ((Hr v).map (QO (rho π H.length)))) Q)
  (hargs:args=Qaa (rho π H.length) a)(e:π.map (λp=>H[p]?)=(Hc.map (QO (rho π H.length))).map some)(hπ:π.Nodup)(hg:YV all o env=some true)(i:Nat.blt d N=true)(s:Nat.ble h0 H.length=true):WO P h0 N all (o::l) env H Q:=by
 obtain⟨v,j,t⟩:=YX h;obtain⟨k,q⟩:=Qej (H:=H) m b;refine Qq π q (n v j) ?_ hargs e hπ (QJ hg) k i s
 grind
end
inductive FLL where
 |mk (l:List (List A))
def cpLL(sel:List Nat):List (List A)->FLL
 |[]=>.mk []
 |a::r=>match cpL sel a,cpLL sel r with
  |.mk a',.mk r'=>.mk (a'::r')
inductive FBk where
 |mk (b:Blk)
def cpBk(sel:List Nat):Blk->FBk
 |.cells t cs=>match cpL sel cs with
  |.mk l=>.mk (.cells t l)
 |.rowr t k es=>match cpLL sel es with
  |.mk l=>.mk (.rowr t k l)
 |.wins t a n c=>match QiA sel ixL a with
  |.mk a'=>.mk (.wins t a' n c)
 |.ents t a b es=>match QiA sel ixL a,QiA sel ixL b with
  |.mk a',.mk b'=>.mk (.ents t a' b' es)
 |b=>.mk b
def selD(H:Qd)(sel:List Nat):List Nat->FB
 |[]=>.mk []
 |a::r=>match YP H a with
  |some b=>(match cpBk sel b,selD H sel r with
   |.mk b',.mk l=>.mk (b'::l))
  |none=>.mk []
def retC(sel sl:List Nat)(env:Env)(H:Qd):Option (Env×Qd):=
 match QlQ sel env sl [],selD H sel sel with
 |.mk e,.mk h=>some (e,h)
theorem Rx{P:Program}{e:Nat}{fn:Func}{env E':Env}{H H':Qd}{Qr:A->Qd->Prop}{d:A}(π sl:List Nat)(_:retC π sl env H=some (E',H'))(b:Qce P fn E' H' d)(f:Qr d H')(a:π.take e=List.range e:=by exact rfl)
  (hH:π.map (λp=>H[p]?)=(H'.map (QO (rho π H.length))).map some:=by exact rfl)(hπ:π.Nodup:=by decide)(hE:Qfx (rho π H.length) env E':=by(repeat' (first|exact trivial|refine⟨rfl,?_⟩))):QcW P e fn Qr .ret env H:=
 ⟨E',H',d,Lr π a hH hπ hE,b,f⟩
end Go.Sw
namespace Go.Sw
def nxL{T:Type}:List T->T->List T->Prop:=λl x rem=>l=x::rem
def runL{S T B:Type}(step:S->T->Option (Ctl S B)):List T->S->Option (Ctl S B)
 |[],s=>some (.cont s)
 |x::l,s=>(step s x).bind λd=>match d with
  |.cont s'=>runL step l s'
  |.done b=>some (.done b)
def QbM{S T B:Type}(step:S->Option (List T×Ctl S B)):Nat->S->Option (List T×B)
 |0,_=>none
 |n+1,s=>(step s).bind λp=>match p.2 with
  |.cont s'=>(QbM step n s').bind λq=>some (p.1++q.1,q.2)
  |.done b=>some (p.1,b)
def QmO{S B:Type}(h1:Nat)(env:Env)(Q:QA)(d:Ctl S B)(Hp:S->Qd):QA
 |.normal,env',H'=>∃s,d=.cont s/\Le h1 env' H' [] (Hp s)
 |.exit id,env',H'=>(∃b,d=.done b)/\ ∃H2,Le h1 env' H' [] H2/\Q (.exit id) env H2
 |.ret,env',H'=>(∃b,d=.done b)/\ ∃H2,Le h1 env' H' [] H2/\Q .ret env H2
theorem QcC{S B:Type}{h1:Nat}{env env':Env}{H':Qd}{Q:QA}{s:S}{d:Ctl S B}{Hp:S->Qd}(e:some (Ctl.cont s)=some d)(h:Le h1 env' H' [] (Hp s)):QmO h1 env Q d Hp .normal env' H':=⟨s,(Oi e).symm,h⟩
theorem Qbi{P:Program}{h0 N:Nat}{r:Operand}{ps:List Nat}{assign body:Code}{env:Env}{H:Qd}{Q:QA}{f:FuncId}{a g:List A}{Hc:Qd}{T S B:Type}{enc:T->List A}{xs:List T}{step:S->T->Option (Ctl S B)}{s0:S}{D:Ctl S B}
  (π:List Nat)(Hp:S->Qd)(h:runL step xs s0=some D)(n:QmM P f g Hc enc nxL xs)(m:∀x,(enc x).length=ps.length)(R:∀args w,(callFunc f args).run P w=.ok (.enter f args) w)
  (V:Nat.ble h0 H.length=true)(hg:opA env r=.fn (.func f) [] a)(hargs:a=Qaa (rho π H.length) g)(F:π.map (λp=>H[p]?)=(Hc.map (QO (rho π H.length))).map some)(hπ:π.Nodup)(t:(ps.all λp=>Nat.blt p N)=true)
  (i:Le H.length env (QdM H π) env (Hp s0))
  (j:∀s x d,step s x=some d->(∀b,d=.done b->D=.done b)->TC P H.length N assign (Qk9 ps (enc x) env) (Hp s) λe env1 H1=>e=.normal/\TC P H.length N body env1 H1 (QmO H.length env Q d Hp))
  (k:∀s,D=.cont s->Q .normal env (Hp s)):TC P h0 N (.rangeFunc r ps.toArray assign body) env H Q:=by
 refine TC.rangeFunc π Hp (λs l=>runL step l s=some D) s0 (by simp_all) hg hargs F hπ t R n m i h ?_ ?_
 .rintro s l x rem y rfl;obtain⟨d,O,y⟩:=YX y;refine(j s x d O ?_).mono ?_
  .grind
  .rintro e env1 H1 ⟨M,G⟩;refine⟨M,G.mono ?_⟩;intro L z H2 q;cases L with
   |normal=>
    obtain⟨E,rfl,i⟩:=q;exact⟨Hp E,i,E,y,rfl⟩
   |exit id=>
    obtain⟨_,H3,u,q⟩:=q;exact⟨H3,u,q⟩
   |ret=>
    obtain⟨_,H3,u,q⟩:=q;exact⟨H3,u,q⟩
 .intro s J;exact k s (Oi J).symm
section
variable {T:Type} {X:Ctx T} {P:Program} {h0 N:Nat} {c:Code} {env:Env} {H:Qd} {st:YSt T} {Q:YD T}
def Qfu{S B:Type}(h0:Nat)(E:S->Env)(Hp:S->Qd)(d:Ctl S B)(rest:List T)(Q:YD T):YD T
 |.normal,env,H,st=>∃s,d=.cont s/\Le h0 env H (E s) (Hp s)/\st=.on rest
 |.exit id,env,H,st=>Q (.exit id) env H st
 |.ret,env,H,st=>Q .ret env H st
theorem QkD{S B:Type}{step:S->Option (List T×Ctl S B)}{E:S->Env}{Hp:S->Qd}{m:Nat}{s0:S}{l rem:List T}{b:B}(h:QbM step m s0=some (l,b))(w:Le h0 env H (E s0) (Hp s0))
  (body:∀s zs d rest,step s=some (zs,d)->(∀b',d=.done b'->b'=b/\rest=rem)->TCy X P h0 N c (E s) (Hp s) (.on (zs++rest)) (Qfu h0 E Hp d rest Q)):TCy X P h0 N (.loop c) env H (.on (l++rem)) Q:=by
 refine QkE (I:=λn env H r=>∃s f,QbM step n s=some (f,b)/\r=.on (f++rem)/\Le h0 env H (E s) (Hp s)) ?_ ⟨s0,l,h,rfl,w⟩;rintro n env H r ⟨s,f,a,rfl,k⟩;cases n with
 |zero=>cases a
 |succ n=>
  obtain⟨⟨zs,d⟩,p,a⟩:=YX a;refine Qpe k ?_;cases d with
  |cont u=>
   obtain⟨⟨y,F⟩,t,a⟩:=YX a;cases a;rw[Vi];refine(body s zs (.cont u) (y++rem) p (λb' e=>by cases e)).mono ?_;rintro x g H' j q;cases x with
   |normal=>
    obtain⟨z,e,i,rfl⟩:=q;cases e;exact⟨n,Xn n,_,_,t,rfl,i⟩
   |exit id=>exact q
   |ret=>exact q
  |done b'=>
   cases a;refine(body s _ (.done b) rem p (λb' e=>by cases e;exact⟨rfl,rfl⟩)).mono ?_;rintro x g H' j q;cases x with
   |normal=>obtain⟨z,e,_⟩:=q;cases e
   |exit id=>exact q
   |ret=>exact q
def kqY(X:Ctx T)(P:Program)(h0 N:Nat):List Kf->YD T->YD T
 |[],Q=>Q
 |.seq c::k,Q=>SeqY X P h0 N c (kqY X P h0 N k Q)
 |.blo id::k,Q=>BloY id (kqY X P h0 N k Q)
 |.unr c::k,Q=>λ_ _ _ _=>False
@[reducible] def HdY(X:Ctx T)(P:Program)(h0 N:Nat):Cf->List Kf->Env->Qd->YSt T->YD T->Prop
 |.code c,k,env,H,st,Q=>TCy X P h0 N c env H st (kqY X P h0 N k Q)
 |.ops all l,k,env,H,st,Q=>WOy X P h0 N all l env H st (kqY X P h0 N k Q)
 |.out x,k,env,H,st,Q=>kqY X P h0 N k Q x env H st
def Qn3:Cf->List Kf->Bool
 |.code (.loop _),_=>false
 |.out _,.unr _::_=>false
 |_,_=>true
theorem Qlb{Tx:TyX}(f:Qbh P Tx){c d:Cf}{k b:List Kf}{env env':Env}{H H':Qd}(h:QfK Tx h0 N c k env H=some (d,b,env',H'))(a:Qn3 c k=true)(g:HdY X P h0 N d b env' H' st Q):HdY X P h0 N c k env H st Q:=by
 unfold QfK at h;split at h
 .cases h;exact TCy.seq g
 .cases h;exact TCy.block g
 .cases a
 .cases h;exact TCy.skip g
 .cases h;exact TCy.ret g
 .cases h;exact TCy.exit g
 .cases h;exact TCy.region g
 .grind[TCy.cond,QK]
 .cases h;exact WOy.nil g
 .split at h
  .rename_i q;cases h;exact WOy.step (Qir f q (WO.nil ⟨rfl,g⟩))
  .cases h
 .cases h;exact g
 .cases h;exact g
 .cases h;exact g
 .cases h;exact g
 .split at h
  .rename_i q;cases h;have e:=XQ q;subst e;show(bif Nat.beq _ _ then _ else _)
   grind
  .rename_i q;cases h;show(bif Nat.beq _ _ then _ else _)
   grind
 .cases h;exact g
 .cases a
 .cases a
 .cases a
 .cases h
def Qj5(Tx:TyX)(h0 N:Nat):Nat->Cf->List Kf->Env->Qd->Option (Cf×List Kf×Env×Qd)
 |0,c,k,env,H=>some (c,k,env,H)
 |n+1,c,k,env,H=>match Qn3 c k with
  |true=>(match QfK Tx h0 N c k env H with
   |some (c',k',env',H')=>Qj5 Tx h0 N n c' k' env' H'
   |none=>none)
  |false=>none
theorem Qea{Tx:TyX}(hT:Qbh P Tx):∀(n:Nat) {c c':Cf} {k k':List Kf} {env env':Env} {H H':Qd},Qj5 Tx h0 N n c k env H=some (c',k',env',H')->HdY X P h0 N c' k' env' H' st Q->HdY X P h0 N c k env H st Q
 |0,c,c',k,k',env,env',H,H',h,g=>by cases h;exact g
 |n+1,c,c',k,k',env,env',H,H',h,g=>by
  unfold Qj5 at h;split at h
  .rename_i hn;split at h
   .rename_i e;exact Qlb hT e hn (Qea hT n h g)
   .cases h
  .cases h
theorem TCy.lf{k:List Kf}(h:TC P h0 N c env H (λx env H=>kqY X P h0 N k Q x env H st)):TCy X P h0 N c env H st (kqY X P h0 N k Q):=TCy.lift h
theorem Qpa{all:Array Oper}{o:Oper}{r:List Oper}{d:Nat}{x:T}{l:List T}{e:T->A}{y z:Operand}{b:Array TypeId}(hE:X.enc=λx=>[e x])(a:X.nx=nxL)(i:o.op=.call {callee:=.value y,args:= #[z],argTypes:=b})(f:opA env y=.fn (.yield X.l) [] [])(g:opA env z=e x)(h:Yr (e x)=true)
  (j:WOy X P h0 N all r (up env d (.bool true)) H (.on l) Q)(k:WOy X P h0 N all r (up env d (.bool false)) H (.off l) Q)(hg:Qs all o env true:=by exact rfl)(hd:o.dst=some d:=by exact rfl)(hNd:Nat.blt d N=true:=by exact rfl):WOy X P h0 N all (o::r) env H (.on (x::l)) Q:=by
 refine WOy.yield (x:=x) (rem:=l) (by rw[a];rfl) hg hd hNd ?_ ?_
 .rw[hE];exact Qk5 i f g h
 grind
theorem WOy.y2{all:Array Oper}{o:Oper}{r:List Oper}{d:Nat}{x:T}{l:List T}{h e:T->A}{y j i:Operand}{m:Array TypeId}(hE:X.enc=λx=>[h x,e x])(k:X.nx=nxL)(p:o.op=.call {callee:=.value y,args:= #[j,i],argTypes:=m})(n:opA env y=.fn (.yield X.l) [] [])(a:opA env j=h x)(b:opA env i=e x)(g:Yr (h x)=true)(f:Yr (e x)=true)
  (q:WOy X P h0 N all r (up env d (.bool true)) H (.on l) Q)(s:WOy X P h0 N all r (up env d (.bool false)) H (.off l) Q)(hg:Qs all o env true:=by exact rfl)(hd:o.dst=some d:=by exact rfl)(hNd:Nat.blt d N=true:=by exact rfl):WOy X P h0 N all (o::r) env H (.on (x::l)) Q:=by
 refine WOy.yield (x:=x) (rem:=l) (by rw[k];rfl) hg hd hNd ?_ ?_
 .rw[hE];exact Qj2 p n a b g f
 grind
end
end Go.Sw
namespace Go.Sw
def yl{T R:Type}(x:T)(k:Option (List T×R)):Option (List T×R):=k.bind λp=>some (x::p.1,p.2)
def ap{T B R:Type}(a:Option (List T×B))(k:B->Option (List T×R)):Option (List T×R):=a.bind λp=>(k p.2).bind λq=>some (p.1++q.1,q.2)
theorem yl_ok{T R:Type}{x:T}{k:Option (List T×R)}{a:List T}{v:R}(h:yl x k=some (a,v)):∃zs,k=some (zs,v)/\a=x::zs:=by
 obtain⟨⟨zs,e⟩,b,d⟩:=YX h
 grind
theorem ap_ok{T B R:Type}{a:Option (List T×B)}{k:B->Option (List T×R)}{d:List T}{v:R}(h:ap a k=some (d,v)):∃y1 b y2,a=some (y1,b)/\k b=some (y2,v)/\d=y1++y2:=by
 obtain⟨⟨y1,b⟩,f,e⟩:=YX h;obtain⟨⟨y2,j⟩,g,i⟩:=YX e
 grind
section
variable {T:Type} {X:Ctx T} {P:Program} {h0 N:Nat} {c c':Code} {env:Env} {H:Qd} {st:YSt T} {Q:YD T}
def Qm9{β:Type}(h0:Nat)(b:β)(E':β->Env)(H':β->Qd)(rem:List T)(Q:YD T):YD T
 |.normal,env,H,st=>Le h0 env H (E' b) (H' b)/\st=.on rem
 |.exit id,env,H,st=>Q (.exit id) env H st
 |.ret,env,H,st=>Q .ret env H st
theorem QmE{β:Type}{E':β->Env}{H':β->Qd}(b:β)(rem:List T)(sel keep:List Nat)(nE:β->Env)(nH:β->List (Nat×Blk))(_:∀b,Qmr sel keep (nE b) (nH b) env H=some (E' b,H' b))(h:TCy X P h0 N c env H st (Qm9 h0 b E' H' rem Q))(k:∀env H,Le h0 env H (E' b) (H' b)->Q .normal env H (.on rem)):TCy X P h0 N c env H st Q:=
 h.mono λx env' H' st' q=>by
  cases x with
  |normal=>obtain⟨q1,rfl⟩:=q;grind
  |exit id=>exact q
  |ret=>exact q
theorem cutYN{β:Type}{b:β}{E':β->Env}{H':β->Qd}{rem:List T}(h:Le h0 env H (E' b) (H' b)):Qm9 h0 b E' H' rem Q .normal env H (.on rem):=⟨h,rfl⟩
theorem cutYR{β:Type}{b:β}{E':β->Env}{H':β->Qd}{rem:List T}(h:Q .ret env H st):Qm9 h0 b E' H' rem Q .ret env H st:=h
theorem Qpd{S B:Type}{step:S->Option (List T×Ctl S B)}{E':S->Env}{H':S->Qd}{m:Nat}{s0:S}{ys rem:List T}{b:B}(sel keep:List Nat)(nE:S->Env)(nH:S->List (Nat×Blk))(h:QbM step m s0=some (ys,b))(_:∀s,Qmr sel keep (nE s) (nH s) env H=some (E' s,H' s))(hI:Le h0 env H (E' s0) (H' s0))
  (body:∀s zs d rest,step s=some (zs,d)->(∀b',d=.done b'->b'=b/\rest=rem)->TCy X P h0 N c (E' s) (H' s) (.on (zs++rest)) (Qfu h0 E' H' d rest Q)):TCy X P h0 N (.loop c) env H (.on (ys++rem)) Q:=QkD h hI body
theorem QoT{S B:Type}{E':S->Env}{H':S->Qd}{s:S}{d:Ctl S B}{zs rest:List T}(e:some (([]:List T),Ctl.cont s)=some (zs,d))(h:Le h0 env H (E' s) (H' s)):Qfu h0 E' H' d rest Q .normal env H (.on (zs++rest)):=by
 cases e;exact⟨s,rfl,h,rfl⟩
theorem QoR{S B:Type}{id:Nat}{E':S->Env}{H':S->Qd}{d:Ctl S B}{rest:List T}(h:Q (.exit id) env H st):Qfu h0 E' H' d rest Q (.exit id) env H st:=h
theorem QoS{S B:Type}{E':S->Env}{H':S->Qd}{d:Ctl S B}{rest:List T}(h:Q .ret env H st):Qfu h0 E' H' d rest Q .ret env H st:=h
theorem Oy{S B:Type}{d:Ctl S B}{x b:B}{zs rest rem:List T}(a:∀b',d=.done b'->b'=b/\rest=rem)(h:some (([]:List T),Ctl.done x)=some (zs,d)):zs=[]/\b=x/\rest=rem:=by
 grind
theorem Qic{f:FuncId}{fn:Func}{c:Code}{N:Nat}{a:List A}{H:Qd}{enc:T->List A}{xs:List T}(g:P.funcs[f]?=some fn)(e:fn.body=some c)(d:fn.ntmps=N)(i:Nat.ble (a.length+1) N=true)(b:fn.results= #[])
  (h:∀X:Ctx T,X.enc=enc->X.nx=nxL->TCy X P H.length N c (Qf8 0 (.fn (.yield X.l) [] []::a)) H (.on (xs++[])) EndY):QmM P f a H enc nxL xs:=by
 grind[Qg5]
end
end Go.Sw
namespace Go.Sw
open Go.MapKept
section
variable {fr ro:Nat->Prop} {σ:Sig} {H:Qd} {w:World}
end
end Go.Sw
namespace Go.Sw
open Go.MapKept
def QbB{α β:Type}(ek:α->A)(ev:β->List A)(l:List (α×Option (List β))):List (A×Option (List (List A))):=l.map λp=>(ek p.1,p.2.map (List.map ev))
def Qju{α β:Type}[DecidableEq α](l:List (α×Option (List β)))(x:α):List (α×Option (List β)):=l.map λp=>bif decide (p.1=x)then(p.1,none)else p
section
variable {P:Program} {kt:TypeId} {α β:Type} [DecidableEq α] {ek:α->A} {ev:β->List A} {ro:Nat->Prop} {w:World} {t k:Nat} (K:Qab P kt ek)
include K
theorem QjV{x:α}:∀{l:List (α×Option (List β))} {es:List MapEntry},MO ro w t k (QbB ek ev l) es->MO ro w t k (QbB ek ev (Qju l x)) es
 |[],es,h=>h
 |p::l,es,h=>by
  obtain⟨e,l',rfl,h1,h2,h3⟩:=h;by_cases q:p.1=x
  .refine⟨e,l',rfl,by grind,λrows hr=>?_,QjV (l:=l) h3⟩
   grind
  .refine⟨e,l',rfl,by grind,(by grind),QjV (l:=l) h3⟩
omit K
theorem QdB{x:α}{c:Nat}:∀{l:List (α×Option (List β))} {es:List MapEntry},Qd7 (QbB ek ev (Qju l x)) es c->Qd7 (QbB ek ev l) es c
 |[],es,h=>by cases es<;>exact h.elim
 |p::l,[],h=>h.elim
 |p::l,e::es,h=>by
  rcases h with⟨h1,h2⟩|h
  .by_cases q:p.1=x
   .grind
   .exact .inl ⟨by grind,h2⟩
  .exact .inr (QdB (l:=l) h)
theorem QkY{x:α}:∀{l:List (α×Option (List β))} {es:List MapEntry},Qjc (QbB ek ev l) es->Qjc (QbB ek ev (Qju l x)) es
 |[],es,h=>by cases es<;>trivial
 |p::l,[],h=>trivial
 |p::l,e::es,h=>by
  obtain⟨h1,h2⟩:=h;refine⟨λc q1 q2 q3=>?_,QkY (l:=l) h2⟩;by_cases q:p.1=x
  .grind
  .exact h1 c (by grind) q2 (QdB (l:=l) q3)
include K
theorem MO.find:∀{l:List (α×Option (List β))} {es:List MapEntry},MO ro w t k (QbB ek ev l) es->∀(x:α),(es.map (·.key)).Nodup->
  ((∀e:MapEntry,e∈es->e.key≠QH (ek x))->Qag l x=none)/\
  (∀(j:Nat) (e:MapEntry),es[j]?=some e->e.key=QH (ek x)->∃q,Qag l x=some q/\(∀rows,q=some rows->SO ro w t k (rows.map ev) e.val)/\
   ∀c p n cap,q.isSome=true->e.val=.slice (some ⟨c,p,none⟩) n cap->Qd7 (QbB ek ev l) es c/\(Qjc (QbB ek ev l) es->¬Qd7 (QbB ek ev (Qju l x)) es c))
 |[],es,h,x,_=>by
  cases(show es=[]from h);exact⟨λ_=>rfl,(by simp)⟩
 |p::l,es,h,x,hn=>by
  obtain⟨e0,l',rfl,h1,h2,h3⟩:=h;have hk:e0.key=QH (ek p.1):=VR.val (K.scl _) h1;simp only[Vj,List.nodup_cons]at hn;obtain⟨a1,a2⟩:=MO.find (l:=l) h3 x hn.2;by_cases hp:p.1=x
  .subst hp;constructor
   .grind
   .intro j e he hx;cases j with
    |zero=>
     simp only[XE,Option.some.injEq]at he;subst he;refine⟨p.2,by simp[Qag],(by grind),λc p' n cap hs hv=>⟨.inl (by grind),λhd hq=>?_⟩⟩;rcases hq with⟨q1,_⟩|hq
     .simp at q1
     .exact hd.1 c (by grind) ⟨p',n,cap,hv⟩ (QdB (l:=l) hq)
    |succ j=>
     grind
  .have e1:Qag (p::l) x=Qag l x:=by simp[Qag,hp]
   rw[e1];constructor
   .grind
   .intro j e he hx;cases j with
    |zero=>
     simp only[XE,Option.some.injEq]at he;subst he;exact absurd (K.inj _ _ (hk.symm.trans hx)) hp
    |succ j=>
     obtain⟨q,d,b,i⟩:=a2 j e (by grind) hx;refine⟨q,d,b,λc p' n cap hs hv=>?_⟩;obtain⟨a,g⟩:=i c p' n cap hs hv;refine⟨.inr a,λhd hq=>?_⟩;rcases hq with⟨q1,f⟩|hq
     .exact hd.1 c (by grind) f a
     .exact g hd.2 hq
end
section
variable {P:Program} {o:Oper} {env:Env} {H:Qd}
variable {T kt et:Nat} {α β:Type} [DecidableEq α] {ek:α->A} {ev:β->List A} {x y:Operand} {i t k:Nat} {l:List (α×Option (List β))} {key:α} {rows:List β}
end
end Go.Sw
namespace Go.Sw
open Go.MapKept
theorem MO.append{ro:Nat->Prop}{w:World}{t k:Nat}:∀{l m:List (A×Option (List (List A)))} {es fs:List MapEntry},MO ro w t k l es->MO ro w t k m fs->MO ro w t k (l++m) (es++fs)
 |[],m,es,fs,h,q=>by cases(show es=[]from h);exact q
 |p::l,m,es,fs,h,q=>by
  obtain⟨e,l',rfl,h1,h2,h3⟩:=h;exact⟨e,l'++fs,rfl,h1,h2,MO.append h3 q⟩
theorem MO.length{ro:Nat->Prop}{w:World}{t k:Nat}:∀{l:List (A×Option (List (List A)))} {es:List MapEntry},MO ro w t k l es->es.length=l.length
 |[],es,h=>by cases(show es=[]from h);rfl
 |p::l,es,h=>by
  obtain⟨e,l',rfl,h1,h2,h3⟩:=h;simp[MO.length h3]
def SlB(v:Value)(c:Nat):Prop:=∃p n cap,v=.slice (some ⟨c,p,none⟩) n cap
section
variable {P:Program} {kt:TypeId} {α β:Type} [DecidableEq α] {ek:α->A} {ev:β->List A} {ro:Nat->Prop} {w:World} {t k:Nat} (K:Qab P kt ek)
def Qde{α β:Type}[DecidableEq α](l:List (α×Option (List β)))(x:α)(rows:List β):List (α×Option (List β)):=l.map λp=>bif decide (p.1=x)then(p.1,some rows)else p
include K
theorem QfT{x:α}{rows:List β}:∀{l:List (α×Option (List β))} {es:List MapEntry},MO ro w t k (QbB ek ev l) es->(∀e∈es,e.key≠QH (ek x))->Qde l x rows=l
 |[],es,h,q=>rfl
 |p::l,es,h,q=>by
  obtain⟨e,l',rfl,h1,h2,h3⟩:=h;have hk:e.key=QH (ek p.1):=VR.val (K.scl _) h1;have hp:p.1≠x:=(by grind);have:=QfT (l:=l) h3 (λe he=>q e (by simp[he])) (rows:=rows)
  simp_all[Qde]
theorem MO.put{x:α}{rows:List β}{v:Value}(m:SO ro w t k (rows.map ev) v):∀{l:List (α×Option (List β))} {es:List MapEntry} {j:Nat} {e:MapEntry},MO ro w t k (QbB ek ev l) es->
  (es.map (·.key)).Nodup->es[j]?=some e->e.key=QH (ek x)->
  MO ro w t k (QbB ek ev (Qde l x rows)) (es.modify j λe=>{e with key:=QH (ek x),val:=v})/\
  (∀c,Qd7 (QbB ek ev (Qde l x rows)) (es.modify j λe=>{e with key:=QH (ek x),val:=v}) c->Qd7 (QbB ek ev l) es c\/SlB v c)/\
  (Qjc (QbB ek ev l) es->(∀c,Qd7 (QbB ek ev l) es c->¬SlB v c)->Qjc (QbB ek ev (Qde l x rows)) (es.modify j λe=>{e with key:=QH (ek x),val:=v}))
 |[],es,j,e,h,hn,he,hk=>by cases(show es=[]from h);simp at he
 |p::l,es,j,e,h,hn,he,hk=>by
  obtain⟨e0,l',rfl,h1,h2,h3⟩:=h;have hk0:e0.key=QH (ek p.1):=VR.val (K.scl _) h1;simp only[Vj,List.nodup_cons]at hn;cases j with
  |zero=>
   simp only[XE,Option.some.injEq]at he;subst he;have hp:p.1=x:=K.inj _ _ (hk0.symm.trans hk);simp only[List.modify_zero_cons];have e0':Qde l x rows=l:=QfT K h3 λe he z=>hn.1 (by rw[hk, <- z];exact VG he);have e1:Qde (p::l) x rows=(p.1,some rows)::l:=by
    have:Qde (p::l) x rows=(p.1,some rows)::Qde l x rows:=by simp[Qde,hp]
    rw[this,e0']
   rw[e1];refine⟨⟨_,l',rfl,?_,?_,h3⟩,?_,?_⟩
   .show VR ro [] w (ek p.1) (QH (ek x));rw[<- hp];exact QcS (K.scl _)
   .intro d s;cases s;exact m
   .rintro c (⟨_,q⟩|q)
    .exact .inr q
    .exact .inl (.inr q)
   .rintro⟨g,b⟩ a;exact⟨λc _ q z=>a c (.inr z) q,b⟩
  |succ j=>
   simp only[XF]at he;have hp:p.1≠x:=by
    intro q;refine hn.1 (Xe.2 ⟨e,VH he,?_⟩);rw[hk,hk0,q]
   simp only[List.modify_succ_cons];obtain⟨u,n,r⟩:=MO.put m h3 hn.2 he hk;have e1:Qde (p::l) x rows=p::Qde l x rows:=by simp[Qde,hp]
   rw[e1];refine⟨⟨_,_,rfl,h1,h2,u⟩,?_,?_⟩
   .rintro c (q|q)
    .exact .inl (.inl q)
    .exact(n c q).imp .inr id
   .rintro⟨g,b⟩ a;refine⟨λc f i z=>?_,r b λc y=>a c (.inr y)⟩;rcases n c z with z|z
    .exact g c f i z
    .exact a c (.inl ⟨f,i⟩) z
end
section
variable {P:Program} {o:Oper} {env:Env} {H:Qd}
variable {T kt et:Nat} {α β:Type} [DecidableEq α] {ek:α->A} {ev:β->List A} {x y zz:Operand} {i j t k n:Nat} {l m:List (α×Option (List β))} {key:α} {rows:List β}
end
end Go.Sw
namespace Go.Sw
open Go.MapKept
section
variable {fr ro:Nat->Prop} {σ:Sig} {H:Qd} {w:World}
theorem MO.er{t k:Nat}:∀{es:List (A×Option (List (List A)))} {l:List MapEntry},MO ro w t k es l->ER ro [] w (es.map λe=>(e.1,.any)) l
 |[],_,h=>h
 |x::r,_,⟨e,l',h1,h2,h3,h4⟩=>⟨e,l',h1,h2,trivial,MO.er h4⟩
end
section
variable {P:Program} {o:Oper} {env:Env} {H:Qd} {T kt et i t k:Nat} {x:Operand} {es:List (A×Option (List (List A)))}
end
section
variable {P:Program} {o:Oper} {env:Env} {H:Qd}
variable {T kt et:Nat} {α β:Type} [DecidableEq α] {ek:α->A} {ev:β->List A} {x y zz:Operand} {i j t k n:Nat} {l m:List (α×Option (List β))} {key:α} {rows:List β}
end
end Go.Sw
namespace Go.Sw
open Go.MapKept
section
variable {P:Program} {o:Oper} {env:Env} {H:Qd}
variable {T kt et:Nat} {α β:Type} [DecidableEq α] {ek:α->A} {ev:β->List A} {x y zz:Operand} {i j t k n:Nat} {l m:List (α×Option (List β))} {key:α} {rows:List β}
end
end Go.Sw
namespace Go.Sw
theorem QmX{h0 d:Nat}{x y:A}{e:Env}{H:Qd}:Le h0 ((d,x)::(d,y)::e) H ((d,x)::e) H:=Le.env λs=>.inr (by
 simp only[lk]
 grind)
abbrev Kat:=List (Nat×Nat×Nat)
def Qk8:Nat->Nat->List (Nat×Nat)
 |lo,0=>[(lo,lo)]
 |lo,n+1=>(lo,lo)::Qk8 (lo+1) n
def rgK(p:Nat×Nat×Nat):List (Nat×Nat):=bif Nat.beq p.1 1 then[(p.2.1,p.2.1+1)]else Qk8 p.2.1 (p.2.2-p.2.1)
def plK(cat:Kat):List (List (Nat×Nat)):=cat.map rgK
def rqK(bs:List Nat)(cat:Kat):List (List Nat):=cat.map λp=>bs.take p.2.1
def hsK(cat:Kat):List Bool:=cat.map λp=>Nat.beq p.1 1
def msK(bs:List Nat):List (List Nat):=(List.range (bs.length+1)).map bs.take
theorem Qgq:∀(n lo:Nat),∀p∈Qk8 lo n,p.1=p.2
 |0,lo,p,h=>by cases h with|head=>rfl|tail _ h=>cases h
 |n+1,lo,p,h=>by
  rcases X6.1 h with rfl|h
  .rfl
  .exact Qgq n _ p h
section
variable {P:Program} {T:TyX} {h0 N m:Nat} {bs:List Nat} {cat:Kat} {l:List Oper} {ds:List Nat} {env:Env} {H:Qd} {Hs:List Qd} {Q:QA} {K:List Oper->Env->Qd->Prop}
def DobK(P:Program)(N:Nat)(cat:Kat)(l:List Oper)(ds:List Nat)(env:Env)(n:Nat)(Hs:List Qd)(zs:List A)(j:Nat):Prop:=
 ∀p∈(plK cat).getD j [],Jh P N l ds zs env n n j (Hs.getD p.1 []) (Hs.getD p.2 [])
def DK(P:Program)(N m:Nat)(bs:List Nat)(cat:Kat)(l:List Oper)(ds:List Nat)(env:Env)(n:Nat)(K:List Oper->Env->Qd->Prop)(Hs:List Qd)(X:Qd)(r:List Oper)(xs:List A):Prop:=
 r=l.drop xs.length->∃ys Zs Y,xs.length+ys.length=m/\Hs.length+Zs.length=bs.length/\((∀Z∈Zs,n<=Z.length)/\(Hs.reverse++X::Zs).getD bs.length []=Y)/\(∀j,xs.length<=j->j<m->DobK P N cat l ds env n (Hs.reverse++X::Zs) (xs++ys) j)/\K (l.drop m) (Qas ds (xs++ys) env) Y
theorem Qpi{d:List A}{n:Nat}{Zs:List Qd}(b:cat.length=m)(g:∀j,0<=j->j<m->DobK P N cat l ds env n Zs d j):Qhc P N l ds d env n (n+0) 0 ((plK cat).map λq=>q.map λp=>(Zs.getD p.1 [],Zs.getD p.2 [])):=by
 refine Qhb _ 0 λi s a p k=>?_;rw[Xo]at a;cases e:(plK cat)[i]? with
 |none=>grind
 |some q=>
  rw[e]at a;cases a;obtain⟨r,h,rfl⟩:=Xe.1 k;have f:i<m:=by
   grind[plK]
  have:=g i (XU _) f r (by grind)
  grind
theorem Qm7{id:Nat}(m:Nat)(b:List Nat)(cat:Kat)(t:P.follows .mixedOrders=true)(q:QdT l m N (Qbd m 0 l) (hsK cat) (rqK b cat) (msK b) (plK cat)=true)(d:Nat.beq cat.length m=true)(f:Nat.ble h0 H.length=true)
  (h:DK P N m b cat l (Qbd m 0 l) env H.length (λr e H=>WO P h0 N l.toArray r e H Q) [] H l []):TC P h0 N (.region id l.toArray true) env H Q:=by
 obtain⟨s,Zs,Y,k,n,p,i,j⟩:=h rfl;simp only[List.length_nil,Xv,Vh,List.reverse_nil]at k n p i j;have a:=XQ d;have g:(msK b).length=b.length+1:=by simp[msK]
 refine Y4 m 0 _ _ _ _ _ s (H::Zs) Y t q (by grind) (by simp_all) f ?_ (by simp) (by grind) (Qpi a i) (by simp[plK,a]) j
 simp_all
variable {n:Nat} {X X1:Qd} {xs:List A} {o:Oper} {r:List Oper} {x:A} {d:Nat}
theorem DK.done(d:Nat.beq xs.length m=true)(b:Nat.beq Hs.length bs.length=true)(h:K r (Qas ds xs env) X):DK P N m bs cat l ds env n K Hs X r xs:=by
 intro a;have e:=XQ d;have f:=XQ b;subst a;refine⟨[],[],X,by simpa using e,by omega,⟨(λZ hZ=>by cases hZ),?_⟩,λj g i=>by omega,?_⟩
 .grind
 grind
theorem DK.add(q:∀ys Zs,l[xs.length]?=some o->DobK P N cat l ds env n (Hs.reverse++X::Zs) (xs++x::ys) xs.length)(k:DK P N m bs cat l ds env n K Hs X r (xs++[x])):DK P N m bs cat l ds env n K Hs X (o::r) xs:=by
 intro b;obtain⟨s,h⟩:=Qbe b;obtain⟨ys,Zs,Y,e,d,f,g,a⟩:=k (by grind);simp only[X3,X0,List.length_nil,Vi,VK,Vh]at e g a;refine⟨x::ys,Zs,Y,by grind,d,f,λj i p=>?_,a⟩
 grind
theorem Qem{Zs:List Qd}{zs:List A}{j:Nat}{c:Nat×Nat×Nat}(b:YP cat j=some c)(h:∀p∈rgK c,Jh P N l ds zs env n n j (Zs.getD p.1 []) (Zs.getD p.2 [])):DobK P N cat l ds env n Zs zs j:=by
 intro p a
 grind[QaB,plK]
theorem Qnu{Zs:List Qd}{c:Nat}(a:Nat.beq c Hs.length=true):(Hs.reverse++X::Zs).getD c []=X:=by
 simp_all
theorem DK.wo{c:Nat}(h:WO P X.length N l.toArray [o] (Yd (Qh o) 0 ds xs env) X (YW (up (Yd (Qh o) 0 ds xs env) d x) X))(k:DK P N m bs cat l ds env n K Hs X r (xs++[x]))
  (b:YP cat xs.length=some (0,c,c):=by exact rfl)(hd:o.dst=some d:=by exact rfl)(hcH:Nat.beq c Hs.length=true:=by exact rfl):DK P N m bs cat l ds env n K Hs X (o::r) xs:=
 .add (λys Zs ho=>Qem b λp a=>by
  have:p=(c,c):=by
   change p∈Qk8 c (c-c)at a;rw[Nat.sub_self]at a;exact VB.1 a
  grind[Qnu,Qay,Y0]) k
theorem DK.wa{lo hi:Nat}(h:∀X,WO P X.length N l.toArray [o] (Yd (Qh o) 0 ds xs env) X (YW (up (Yd (Qh o) 0 ds xs env) d x) X))(k:DK P N m bs cat l ds env n K Hs X r (xs++[x]))
  (b:YP cat xs.length=some (0,lo,hi):=by exact rfl)(hd:o.dst=some d:=by exact rfl):DK P N m bs cat l ds env n K Hs X (o::r) xs:=
 .add (λys Zs ho=>Qem b λp a=>by
  have e:p.1=p.2:=Qgq _ _ p a
  grind[Qay,Y0]) k
theorem DK.op{c t:Nat}(h:WO P X.length N l.toArray [o] (Yd (Qh o) 0 ds xs env) X (YW (up (Yd (Qh o) 0 ds xs env) d x) X1))(k:DK P N m bs cat l ds env n K (X::Hs) X1 r (xs++[x]))(E:Nat.ble n X1.length=true:=by exact rfl)
  (hc:YP cat xs.length=some (1,c,t):=by exact rfl)(hd:o.dst=some d:=by exact rfl)(hcH:Nat.beq c Hs.length=true:=by exact rfl):DK P N m bs cat l ds env n K Hs X (o::r) xs:=by
 intro f;obtain⟨F,u⟩:=Qbe f;obtain⟨w,Zs,Y,i,g,a,s,e⟩:=k (by grind);simp only[X3,X0,List.length_nil,Vi,VK,Vh,List.reverse_cons]at i g a s e;refine⟨x::w,X1::Zs,Y,by grind,by grind,⟨λZ b=>?_,a.2⟩,λj z B=>?_,e⟩
 .rcases X6.1 b with rfl|b
  .simp_all
  grind
 .rcases VC xs.length j with q|q
  .grind
  .obtain rfl:j=xs.length:=by omega
   refine Qem hc λp y=>?_;have:p=(c,c+1):=VB.1 y
   grind[Nat.eq_of_beq_eq_true,Qay,Y0]
def QeB(T:TyX)(N m:Nat)(cat:Kat)(l:List Oper)(ds:List Nat)(env:Env)(n:Nat):Nat->Nat->Nat->List Qd->Qd->List Oper->List A->Option (List Qd×List Oper×List A)
 |0,_,_,Hs,X,r,xs=>some (Hs,r,xs)
 |_+1,_,_,_,_,[],_=>none
 |k+1,i,j,Hs,X,o::r,xs=>match o.dst with
  |none=>none
  |some d=>match Nat.blt d N with
   |false=>none
   |true=>match YV ⟨l⟩ o (Yd (Qh o) 0 ds xs env)with
    |none=>none
    |some false=>(match QcR xs (.tup [])with
      |.mk xs'=>match YP cat i with
       |some (0,_,_)=>QeB T N m cat l ds env n k (i+1) j Hs X r xs'
       |some (1,c,_)=>(match Nat.beq c j,Nat.ble n X.length with
        |true,true=>QeB T N m cat l ds env n k (i+1) (j+1) (X::Hs) X r xs'
        |_,_=>none)
       |_=>none)
    |some true=>match YP cat i with
     |some (0,lo,hi)=>(match Qc6 T o (Yd (Qh o) 0 ds xs env) []with
      |some x=>(match QcR xs x with
       |.mk xs'=>QeB T N m cat l ds env n k (i+1) j Hs X r xs')
      |none=>match Nat.beq lo hi,Nat.beq lo j with
       |true,true=>(match Qc6 T o (Yd (Qh o) 0 ds xs env) X with
        |none=>none
        |some x=>match QcR xs x with
         |.mk xs'=>QeB T N m cat l ds env n k (i+1) j Hs X r xs')
       |_,_=>none)
     |_=>none
theorem QbJ(hT:Qbh P T):∀(k i j:Nat) {Hs Hs':List Qd} {r r':List Oper} {xs xs':List A},i=xs.length->j=Hs.length->QeB T N m cat l ds env n k i j Hs X r xs=some (Hs',r',xs')->DK P N m bs cat l ds env n K Hs' X r' xs'->DK P N m bs cat l ds env n K Hs X r xs
 |0,i,j,Hs,Hs',r,r',xs,xs',_,_,h,k=>by cases h;exact k
 |k0+1,i,j,Hs,Hs',[],r',xs,xs',_,_,h,k=>by cases h
 |k0+1,i,j,Hs,Hs',o::r,r',xs,xs',hi,hj,h,k=>by
  subst hi hj;unfold QeB at h;split at h
  .cases h
  .rename_i d hd;split at h
   .cases h
   .rename_i q2;split at h
    .cases h
    .rename_i hw;simp only[Y8]at h;split at h
     .rename_i lo hi' q0;exact .wa (λX=>WO.skip (QJ hw) hd q2 (WO.nil YW.mk)) (QbJ hT k0 _ _ (by simp) rfl h k) q0 hd
     .rename_i c c' q0;split at h
      .rename_i q1 q3;exact .op (WO.skip (QJ hw) hd q2 (WO.nil YW.mk)) (QbJ hT k0 _ _ (by simp) (by simp) h k) q3 q0 hd q1
      .cases h
     .cases h
    .rename_i hw;split at h
     .rename_i lo hi' q0;split at h
      .rename_i x hv;simp only[Y8]at h;exact .wa (λX=>Yv (QJ hw) hd q2 (Qau hT (Qeq hv)) (WO.nil YW.mk)) (QbJ hT k0 _ _ (by simp) rfl h k) q0 hd
      .split at h
       .rename_i q1 q3;split at h
        .cases h
        .rename_i x hv;simp only[Y8]at h;obtain rfl:=XQ q1;exact .wo (Yv (QJ hw) hd q2 (Qau hT hv) (WO.nil YW.mk)) (QbJ hT k0 _ _ (by simp) rfl h k) q0 hd q3
       .cases h
     .cases h
theorem DK.v(h:OpV P o (Yd (Qh o) 0 ds xs env) X x)(k:DK P N m bs cat l ds env n K Hs X r (xs++[x])){c:Nat}(hg:YV ⟨l⟩ o (Yd (Qh o) 0 ds xs env)=some true:=by exact rfl)
  (hd:o.dst=some d:=by exact rfl)(hN:Nat.blt d N=true:=by exact rfl)(hc:YP cat xs.length=some (0,c,c):=by exact rfl)(hcH:Nat.beq c Hs.length=true:=by exact rfl):DK P N m bs cat l ds env n K Hs X (o::r) xs:=
 .wo (Yv (QJ hg) hd hN h (WO.nil YW.mk)) k hc hd hcH
def allV(T:TyX)(o:Oper)(e:Env)(x:A):Nat->List Qd->Prop
 |0,_=>True
 |k+1,Y::r=>Qc6 T o e Y=some x/\allV T o e x k r
 |_+1,[]=>False
theorem Qjj:∀(n lo:Nat),∀p∈Qk8 lo n,lo<=p.1/\p.1<=lo+n
 |0,lo,p,h=>by cases h with|head=>omega|tail _ h=>cases h
 |n+1,lo,p,h=>by
  rcases X6.1 h with rfl|h
  .omega
  .have:=Qjj n _ p h;omega
def allW(P:Program)(N:Nat)(l:List Oper)(o:Oper)(e:Env)(d:Nat)(x:A):Nat->List Qd->Prop
 |0,_=>True
 |k+1,Y::r=>WO P Y.length N l.toArray [o] e Y (YW (up e d x) Y)/\allW P N l o e d x k r
 |_+1,[]=>False
theorem QjQ{e:Env}:∀{k:Nat} {r:List Qd},allW P N l o e d x k r->∀j,j<k->WO P (r.getD j []).length N l.toArray [o] e (r.getD j []) (YW (up e d x) (r.getD j []))
 |0,_,_,j,hj=>(by omega)
 |k+1,[],h,_,_=>h.elim
 |k+1,Y::r,h,0,_=>h.1
 |k+1,Y::r,h,j+1,hj=>by
  have:=QjQ h.2 j (by omega)
  grind
theorem DK.ws{lo hi:Nat}(h:allW P N l o (Yd (Qh o) 0 ds xs env) d x (hi+1-lo) (X::Hs))(k:DK P N m bs cat l ds env n K Hs X r (xs++[x]))
  (g:YP cat xs.length=some (0,lo,hi):=by exact rfl)(hd:o.dst=some d:=by exact rfl)(hcH:Nat.beq hi Hs.length=true:=by exact rfl)(hle:Nat.ble lo hi=true:=by exact rfl):DK P N m bs cat l ds env n K Hs X (o::r) xs:=
 .add (λys Zs ho=>Qem g λp a=>by
  have e:p.1=p.2:=Qgq _ _ p a;have b:=XR hle;have q:lo<=p.1/\p.1<=lo+(hi-lo):=Qjj (hi-lo) lo p a;have f:=XQ hcH;rw[<- e];have i:=QjQ h (Hs.length-p.1) (by omega);have j:(Hs.reverse++X::Zs).getD p.1 []=(X::Hs).getD (Hs.length-p.1) []:=by
   grind
  rw[j];exact Qay ho Y0 i hd) k
theorem DK.vs(g:Qbh P T){lo hi:Nat}(h:allV T o (Yd (Qh o) 0 ds xs env) x (hi+1-lo) (X::Hs))(k:DK P N m bs cat l ds env n K Hs X r (xs++[x]))
  (j:YP cat xs.length=some (0,lo,hi))(e:o.dst=some d)(b:Nat.beq hi Hs.length=true)(hg:YV ⟨l⟩ o (Yd (Qh o) 0 ds xs env)=some true)(i:Nat.blt d N=true)(a:Nat.ble lo hi=true):DK P N m bs cat l ds env n K Hs X (o::r) xs:=by
 refine DK.ws ?_ k j e b a;generalize hi+1-lo=c at h;generalize X::Hs=L at h
 induction c generalizing L with
 |zero=>trivial
 |succ c f=>
  cases L with
  |nil=>exact h.elim
  |cons Y L=>exact⟨Yv (QJ hg) e i (Qau g h.1) (WO.nil YW.mk),f L h.2⟩
end
end Go.Sw
namespace Go.Sw
def room(n:Int):Option Nat:=bif decide (0<n)&&decide (n<=4294967296)then some n.toNat else none
section
variable {P:Program} {o:Oper} {env:Env} {H:Qd}
theorem QmW{a i:Nat}{x x':Blk}(b:H[i]?=some x)(e:x=x'):Le a env H env (H.set i x'):=by
 grind[List.set_getElem_self,Le.refl]
theorem RL.put{ro:Nat->Prop}{σ:Sig}{w:World}{k:Nat}:∀{a:Nat} {es fs:List (List A)} {l m:List Value},RL ro σ w k es l->a+fs.length<=es.length->Sw.allK k fs->LR ro σ w fs.flatten m->(∀v∈m,Qo v)->
  RL ro σ w k (es.take a++fs++es.drop (a+fs.length)) (Sw.splice l (a*k) m)
 |0,es,[],l,m,h,hn,hk,hm,hp=>by
  obtain rfl:m=[]:=hm;simpa[Sw.splice]using h
 |0,[],f::fs,l,m,h,hn,hk,hm,hp=>by simp at hn
 |0,c::es,f::fs,l,m,⟨l1,l2,h1,h2,h3,h4⟩,hn,hk,hm,hp=>by
  subst h1;have hl1:=h3.1.length;have hml:=hm.length;rw[Vl,X3]at hml;have e1:m.take k++m.drop k=m:=Xz _ _;have q1:LR ro σ w f (m.take k):=by have:=hm.take k;rwa [Vl,X7 (by rw[hk.1];omega),VI (by rw[hk.1];omega)]at this
  have g:LR ro σ w fs.flatten (m.drop k):=by have:=hm.drop k;rwa [Vl,X8 (by rw[hk.1];omega),List.drop_of_length_le (by rw[hk.1];omega),Vh]at this
  have b:=RL.put (a:=0) h4 (by grind) hk.2 g (λv d=>hp v (List.mem_of_mem_drop d));simp only[List.take_zero,Vh,Xv,Nat.zero_mul,Sw.splice]at b⊢;refine⟨m.take k,m.drop k++l2.drop (m.drop k).length,?_,hk.1,⟨q1,λv d=>hp v (List.mem_of_mem_take d)⟩,by simp_all⟩;have e:k<=m.length:=by rw[hml,hk.1];omega
  rw[<- Vi,e1];congr 1
  grind[List.drop_length_add_append]
 |a+1,[],fs,l,m,h,hn,hk,hm,hp=>by simp at hn
 |a+1,c::es,fs,l,m,⟨l1,l2,h1,h2,h3,h4⟩,hn,hk,hm,hp=>by
  subst h1;have hl1:=h3.1.length;have b:=RL.put (a:=a) h4 (by simp at hn;omega) hk hm hp;refine⟨l1,Sw.splice l2 (a*k) m,?_,h2,h3,?_⟩
  .have e1:(a+1)*k=l1.length+a*k:=by rw[Xl];omega
   unfold Sw.splice;rw[e1,Vb,show l1.length+a*k+m.length=l1.length+(a*k+m.length)from by omega,Va];simp
  .have i:a+1+fs.length=(a+fs.length)+1:=by omega
   simpa[i]using b
def QkG(P:Program)(H:Qd)(x:A)(k:Nat)(es:List (List A)):Prop:=
 ∀fr ro σ w v,Sim fr ro σ H w->VR ro σ w x v->(∃a c,v=.slice a es.length c)/\
  ∀j,j<=es.length->allK k (es.take j)/\ ∃l,(Builtin.firstCells k j v).run P w=.ok l.toArray w/\LR ro [] w (es.take j).flatten l/\ ∀v∈l,Qo v
theorem Qez{fr ro:Nat->Prop}{σ:Sig}{w:World}{k j b off n c:Nat}{es:List (List A)}(h:RR ro [] w b k es off)(e:j<=es.length):
  allK k (es.take j)/\ ∃l,(Builtin.firstCells k j (.slice (some ⟨b,off,none⟩) n c)).run P w=.ok l.toArray w/\LR ro [] w (es.take j).flatten l/\ ∀v∈l,Qo v:=by
 obtain⟨f,g,a⟩:=(h.take j).flat;rw[Xy,XB e]at a;obtain⟨l,i,d⟩:=Qa8 (P:=P) (n:=j) (c:=c) f a;refine⟨g,l,?_,d⟩;exact i w rfl
theorem Qcm{k n c:Nat}{a:Option Addr}{w:World}:(Builtin.firstCells k 0 (.slice a n c)).run P w=.ok #[] w:=by
 cases a<;>simp[Builtin.firstCells,loadCells,loadCellsFrom,go_sem]
theorem QnN{α:Type}{e:α->List A}{k:Nat}{l:List α}:QkG P H (.rsl k (l.map e)) k (l.map e):=by
 intro fr m σ w v s ⟨a,c,h1,h2,d⟩;subst h1;refine⟨⟨a,c,rfl⟩,λj f=>?_⟩;rcases d with d|⟨b,h,rfl,i,g⟩
 .rw[d]at f⊢;obtain rfl:j=0:=by grind
  exact⟨trivial,[],Qcm,rfl,by simp⟩
 .exact Qez (fr:=fr) (σ:=σ) g f
theorem QkG.osl{i s n k t:Nat}{es a:List (List A)}(g:H[i]?=some (.row t k es))(he:(es.drop s).take n=a)(J:s+n<=es.length):QkG P H (.osl i s n k) k a:=by
 intro fr N σ w v sm h;have E:a.length=n:=by grind
 rcases h with⟨rfl,rfl⟩|⟨b,p,d,F,m,q,rfl,r,⟨G,y⟩,L,M⟩
 .have e:a=[]:=(by grind);subst e;refine⟨⟨none,0,rfl⟩,λj u=>?_⟩;obtain rfl:j=0:=by omega
  exact⟨trivial,[],Qcm,rfl,by simp⟩
 .rw[E];refine⟨⟨_,d,rfl⟩,λj u=>?_⟩;obtain⟨l,x,B⟩:=sm.blk i _ _ q g;have f:=((Yt (pre:=[]) (by simpa using x) B).drop s).take n;rw[he]at f;by_cases z:0<d
  .obtain rfl:=r z;simpa using Qez (P:=P) (fr:=fr) (σ:=σ) (n:=n) (c:=d) f (by omega)
  .obtain rfl:j=0:=by omega
   exact⟨trivial,[],Qcm,rfl,by simp⟩
theorem QnO{α:Type}{e:α->List A}{b t k:Nat}{l r:List α}{a c:Int}(h:slc l a c=some r)(d:H[b]?=some (.row t k (l.map e)):=by exact rfl):QkG P H (.osl b (0+a.toNat) (c.toNat-a.toNat) k) k (r.map e):=by
 obtain⟨j,g,i,f⟩:=Qck h;refine QkG.osl d ?_ (by grind);rw[<- f, <- List.map_drop, <- List.map_take,Xv,List.drop_take]
def cpy{α:Type}(l:List α)(a c:Int)(m:List α):Option (List α):=some (l.take a.toNat++m.take (c.toNat-a.toNat)++l.drop (a.toNat+min m.length (c.toNat-a.toNat)))
theorem Qei{α:Type}{l r l' m:List α}{a c:Int}(h:slc l a c=some r)(b:cpy l a c m=some l'):l.length=l'.length:=by
 obtain⟨d,e,f,_⟩:=Qck h;rw[<- XZ b]
 grind
theorem Qfe{α:Type}{l l' m:List α}(a:cpy l 0 (l.length:Int) m=some l'):l.length=l'.length:=by
 rw[<- XZ a]
 grind
theorem Qgi{α:Type}{e:α->List A}{c:Call}{T T' et k b a n t:Nat}{x y:Operand}{ya:A}{l m l':List α}(ae:a+n<=l.length)(aa:l.take a++m.take n++l.drop (a+min m.length n)=l')(hT:∀w,(underlying T).run P w=.ok (.slice et) w)(z:∀w,(sizeOf et).run P w=.ok k w)(W:QkG P H ya k (m.map e))
  (ho:o.op=.call c)(hc:c={callee:=.builtin .copy,args:= #[x,y],argTypes:= #[T,T']})(hx:opA env x=.osl b a n k)(hH:H[b]?=some (.row t k (l.map e)))(V:opA env y=ya):
  OpH P o env H (.int .i64 (min m.length n:Nat)) (H.set b (.row t k (l'.map e))):=by
 intro O J σ N ac w r;have q:=Qk r x;rw[hx]at q;have h2:=Qk r y;rw[V]at h2;obtain⟨⟨ay,cy,Q⟩,q2⟩:=W O J σ w _ r.sim h2;rw[X2]at Q q2;obtain⟨q3,F,G,Y,q6⟩:=q2 (min m.length n) (Nat.min_le_left _ _);have g:((m.map e).take (min m.length n)).length=min m.length n:=by simp
 have M:l'.map e=(l.map e).take a++(m.map e).take (min m.length n)++(l.map e).drop (a+((m.map e).take (min m.length n)).length):=by
  grind[List.map_take,List.map_drop]
 have d:(Builtin.copy_ #[T,T'] o.type #[ac.eval x,ac.eval y]).run P w=.ok (.int .i64 (min m.length n:Nat)) w->min m.length n=0->
   ∃v w' ro' τ,(execOp ac.eval o).run P w=.ok (.value v) w'/\VR ro' (σ++τ) w' (.int .i64 (min m.length n:Nat)) v/\Sim O ro' (σ++τ) (H.set b (.row t k (l'.map e))) w'/\Qi O J w ro' w':=by
  intro i hz;have W:H.set b (.row t k (l'.map e))=H:=by
   have:l'.map e=l.map e:=by simp_all
   grind[List.set_getElem_self]
  refine⟨_,w,J,[],?_,rfl,by simpa[W]using r.sim,Qi.refl _ _ _⟩;subst hc;generalize ac.eval=ρ at*
  simp_all[execOp,resolve,invoke,builtin]
 have u:∀j:Nat,goInt j=.int .i64 j:=λ_=>rfl;rcases q with⟨E,q⟩|⟨bb,p,ab,t',mm,q,h3,h4,⟨h5,ad⟩,h6,h7⟩
 .refine d ?_ (by omega);rw[Q]at G⊢;rw[q];have:Nat.min m.length 0=min m.length n:=by rw[E]
  simp only[Builtin.copy_,XG,XE,XF,Vm,hT,z,Result.andThen,Builtin.lenOf,Vn,this,G,u]
 .have f:∀R:Result Unit,(storeCells ⟨bb,p,none⟩ F).run P w=R->(Builtin.copy_ #[T,T'] o.type #[ac.eval x,ac.eval y]).run P w=R.andThen λ_ w=>.ok (.int .i64 (min m.length n:Nat)) w:=by
   intro R hR;rw[Q]at G⊢;rw[h3];have:Nat.min m.length n=min m.length n:=rfl;simp only[Builtin.copy_,XG,XE,XF,Vm,hT,z,Result.andThen,Builtin.lenOf,Vn,this,G,u,hR]
  by_cases E:min m.length n=0
  .have s:F=[]:=by
    have:=Y.length;rw[E]at this;exact VJ.1 (by simpa using this)
   refine d ?_ E;have:=f (.ok () w) (by rw[s];rfl);rw[this];rfl
  .obtain rfl:=h4 (by omega);obtain⟨l0,g1,g2⟩:=r.sim.blk b _ _ q hH;have L:=g2.length;have s:=Y.length;rw[Yf q3,g]at s;have af:a*k+(min m.length n)*k<=l0.length:=by
    rw[<- XA];refine XV (XC k ?_) L;rw[X2];omega
   have B:=Q4 (P:=P) (vs:=F) (a*k) 0 g1 (by omega) q6;rw[Xw]at B;have i:=f _ B;have h:=r.sim.set (x':=.row t k (l'.map e)) (obj:=.cells (splice l0 (a*k) F).toArray t (0,0)) q hH rfl
    (λy V=>Jf g1 (Q1 (by omega)) y V)
    (λex X=>⟨_,X,by
     rw[M];exact(RL.put g2 (by rw[g,X2];omega) q3 Y q6).mono ex.nil⟩)
   refine⟨_,_,J,[],?_,rfl,by simpa using h.1,h.2⟩;subst hc;generalize ac.eval=ρ at*;simp only[execOp,ho,resolve,Vm,Vn,Result.andThen,invoke,builtin,XI,Vj,Vk,i]
theorem QkQ{α:Type}{e:α->List A}{c:Call}{T T' et k b t:Nat}{x y:Operand}{d:A}{l m l':List α}(h:cpy l 0 (l.length:Int) m=some l')(f:∀w,(underlying T).run P w=.ok (.slice et) w)(a:∀w,(sizeOf et).run P w=.ok k w)(g:QkG P H d k (m.map e))
  (i:o.op=.call c:=by exact rfl)(hc:c={callee:=.builtin .copy,args:= #[x,y],argTypes:= #[T,T']}:=by exact rfl)(hx:opA env x=.osl b 0 l.length k:=by exact rfl)(hH:H[b]?=some (.row t k (l.map e)):=by exact rfl)(hy:opA env y=d:=by exact rfl):
  OpH P o env H (.int .i64 (min m.length l.length:Nat)) (H.set b (.row t k (l'.map e))):=by
 refine Qgi (by omega) ?_ f a g i hc hx hH hy;rw[<- XZ h];rfl
theorem QkR{α:Type}{e:α->List A}{c:Call}{T T' et k b t:Nat}{x y:Operand}{f:A}{l p m l':List α}{i j:Int}(hi:slc l i j=some p)(h:cpy l i j m=some l')(g:∀w,(underlying T).run P w=.ok (.slice et) w)(d:∀w,(sizeOf et).run P w=.ok k w)(n:QkG P H f k (m.map e))
  (q:o.op=.call c:=by exact rfl)(hc:c={callee:=.builtin .copy,args:= #[x,y],argTypes:= #[T,T']}:=by exact rfl)(hx:opA env x=.osl b (0+i.toNat) (j.toNat-i.toNat) k:=by exact rfl)(hH:H[b]?=some (.row t k (l.map e)):=by exact rfl)(hy:opA env y=f:=by exact rfl):
  OpH P o env H (.int .i64 (min m.length (j.toNat-i.toNat):Nat)) (H.set b (.row t k (l'.map e))):=by
 obtain⟨r,s,u,z⟩:=Qck hi;refine Qgi (a:=i.toNat) (by omega) (XZ h) g d n q hc ?_ hH hy
 grind
end
end Go.Sw
namespace Go.Sw
open Go.MapKept
section
variable {fr ro ro':Nat->Prop} {σ:Sig} {H:Qd} {w:World}
end
end Go.Sw
namespace Go.Sw
def QhA{α:Type}(l:List α)(o:Option (List α)):Option (List α):=o.bind λr=>bif Nat.beq l.length r.length then some r else none
theorem Qhz{α:Type}{l r:List α}{o:Option (List α)}(h:QhA l o=some r):o=some r/\l.length=r.length:=by
 cases o with
 |none=>cases h
 |some x=>
  have a:(bif Nat.beq l.length x.length then some x else none)=some r:=h;cases q:Nat.beq l.length x.length with
  |false=>grind
  |true=>
   simp_all
theorem QlP{α:Type}{l r:List α}{o:Option (List α)}(h:QhA l o=some r):o=some r:=(Qhz h).1
theorem QfV{α:Type}{l r:List α}{o:Option (List α)}(h:QhA l o=some r):l.length=r.length:=(Qhz h).2
section
variable {P:Program} {o:Oper} {env:Env} {H:Qd} {α:Type} {e:α->List A}
end
end Go.Sw
namespace Go.Sw
open Go.MapKept
section
variable {P:Program} {o:Oper} {env:Env} {H:Qd}
variable {T kt et:Nat} {α β:Type} [DecidableEq α] {ek:α->A} {ev:β->A} {x y:Operand} {i:Nat} {l:List (α×β)} {k:α} {z0:β} {z:Value}
end
section
variable {fr ro:Nat->Prop} {σ:Sig} {H:Qd} {w:World}
theorem Sim.shutAny(s:Sim fr ro σ H w){i b:Nat}{u:Blk}(hσ:σ[i]?=some (some b))(k:H[i]?=some u)(l:u.live=true):
  Sim fr (λc=>ro c\/c=b) σ (H.set i .dead) w:=by
 have n:b<w.heap.size/\ ¬ro b/\ ¬fr b:=s.own i b _ hσ k l;have ext:Ext ro σ w (λc=>ro c\/c=b) σ w:=⟨λ_ q=>.inl q,λ_ _=>rfl,λ_ _ q=>q,λ_ _ q=>q⟩;have a:∀(j:Nat) (v:Blk),(H.set i .dead)[j]?=some v->v≠ .dead->j≠i/\H[j]?=some v:=by
  grind
 refine⟨by rw[X4];exact s.len,s.roOk.to (λ_ q=>.inl q) (λ_ _=>rfl) ?_,s.frLt,?_,?_,?_,?_,s.hidTo (· = ·) Q3 (XT _) (λj d x c N P L F=>F.elim id λq=>((s.hid j d x c N P L).ne i b _ hσ k l q).elim) (λ_ _ _ _ _ _ _ q=>q) λj d y J M Q=>.inl ⟨j,y,rfl,J,(a j y M (Qen Q)).2,id,λ_ q=>q⟩⟩
 .rintro c (q|rfl)
  .exact s.roLt c q
  omega
 .rintro c (q|rfl)
  .exact s.roFr c q
  grind
 .intro j c v g f h;obtain⟨e,f⟩:=a j v f (Qar h);obtain⟨B,G,E⟩:=s.own j c v g f h;refine⟨B,?_,E⟩;rintro(q|rfl)
  .exact G q
  .exact e (s.inj j i c v _ g hσ f k h l)
 .intro j m c v z g f h O r t;exact s.inj j m c v z g f (a j v h (Qar r)).2 (a m z O (Qar t)).2 r t
 .intro j y v g f;by_cases p:v≠ .dead
  .exact(s.blk j y v g (a j v f p).2).keep ext (λ_ _ _=>rfl) (λ_ _ _ _=>rfl)
  .obtain rfl:v=.dead:=Classical.not_not.1 p;trivial
def Qn4(H:Qd):List Nat->Qd
 |[]=>H
 |i::l=>Qn4 (H.set i .dead) l
theorem Sim.shutL:∀{l:List Nat} {ro:Nat->Prop} {H:Qd} (s:Sim fr ro σ H w),l.Nodup->(∀i∈l,∃x,H[i]?=some x/\x.live=true)->
  ∃ro',Sim fr ro' σ (Qn4 H l) w/\(∀c,ro c->ro' c)/\ ∀i∈l,∀b,σ[i]?=some (some b)->ro' b
 |[],ro,H,s,_,_=>⟨ro,s,λ_ q=>q,λ_ h=>by cases h⟩
 |i::l,ro,H,s,hn,hl=>by
  rw[List.nodup_cons]at hn;obtain⟨x,hx,hxl⟩:=hl i (by simp);have rest:∀i'∈l,∃x,(H.set i .dead)[i']?=some x/\x.live=true:=by
   grind
  have k:∃q,σ[i]?=some q:=by
   have:i<σ.length:=by rw[s.len];grind
   simp_all
  obtain⟨q,g⟩:=k;cases q with
  |some b=>
   obtain⟨ro',a,f,m⟩:=Sim.shutL (s.shutAny g hx hxl) hn.2 rest;refine⟨ro',a,(by grind),λi' e j d=>?_⟩
   grind
  |none=>
   obtain⟨ro',a,f,m⟩:=Sim.shutL (s.kill i) hn.2 rest;refine⟨ro',a,f,λi' e j d=>?_⟩
   grind
end
end Go.Sw
namespace Go.Sw
structure Fil (α β:Type) where
 number:Int
 r0:List α
 r1:List α
 r2:List α
 reports:List β
 appeal:Bool
 deriving DecidableEq
structure FK (α β:Type) where
 T:Nat
 tF:Nat
 kF:Nat
 tR:Nat
 kR:Nat
 eF:α->List A
 eR:β->List A
section
variable {α β:Type} (K:FK α β)
def Ql3(b:Nat)(x:Fil α β):List A:=[.int .i64 x.number,.osl (b+1) 0 x.r0.length K.kF,.osl (b+2) 0 x.r1.length K.kF,.osl (b+3) 0 x.r2.length K.kF,.osl (b+4) 0 x.reports.length K.kR,.bool x.appeal]
def QjG(b:Nat)(x:Fil α β):List Blk:=[.cells K.T (Ql3 K b x),.row K.tF K.kF (x.r0.map K.eF),.row K.tF K.kF (x.r1.map K.eF),.row K.tF K.kF (x.r2.map K.eF),.row K.tR K.kR (x.reports.map K.eR)]
def fall:Nat->List (Fil α β)->List Blk
 |_,[]=>[]
 |b,x::l=>QjG K b x++fall (b+5) l
def frp(x:Fil α β):List A:=[.int .i64 x.number,.rsl K.kF (x.r0.map K.eF),.rsl K.kF (x.r1.map K.eF),.rsl K.kF (x.r2.map K.eF),.rsl K.kR (x.reports.map K.eR),.bool x.appeal]
def fent:Nat->List (Fil α β)->List (Int×Nat)
 |_,[]=>[]
 |b,x::l=>(x.number,b)::fent (b+5) l
def ptr0(j:Nat):A:=.ptr j 0
def rpE(x:Fil α β):A:=.rp (frp K x)
def fnum(fs:List (Fil α β)):List (Int×Fil α β):=fs.map λx=>(x.number,x)
theorem QfZ(b:Nat)(x:Fil α β)(l:List (Fil α β)):fall K b (x::l)=QjG K b x++fall K (b+5) l:=rfl
theorem Qkm(b:Nat)(x:Fil α β):(QjG K b x).length=5:=rfl
end
section
variable {fr ro ro':Nat->Prop} {σ:Sig} {w:World}
theorem Qeb(sub:∀c,ro c->ro' c){i t k:Nat}{es:List (List A)}{v:Value}(s:∀b,σ[i]?=some (some b)->BR ro σ w (.row t k es) (some b)/\ro' b)(h:VR ro σ w (.osl i 0 es.length k) v):VR ro' [] w (.rsl k es) v:=by
 rcases h with⟨E,h⟩|⟨b,p,a,y,m,e,h,f,⟨d,j⟩,z,B⟩
 .have:es=[]:=(by grind);subst this;exact⟨none,0,h,XT _,.inl rfl⟩
 .refine⟨_,a,h,d,?_⟩;by_cases u:es=[]
  .exact .inl u
  .right;have n:0<a:=Vf (by grind) d;obtain rfl:=f n;obtain⟨⟨l,g,r⟩,x⟩:=s b e;refine⟨b,0,by simp,x,?_⟩;have:=Yt (pre:=[]) (by simpa using g) r;exact this.keep ⟨sub,λ_ _=>rfl,λ_ _ q=>q,λ_ _ q=>q⟩ rfl
theorem Qna{ro:Nat->Prop}{w:World}{b t:Nat}:∀{cs:List A} {pre l:List Value},w.heap[b]?=some (.cells (pre++l).toArray t (0,0))->LR ro [] w cs l->(∀v∈l,Qo v)->CR ro [] w b cs pre.length
 |[],pre,l,_,_,_=>trivial
 |a::cs,pre,l,hb,hl,hp=>by
  obtain⟨v,l',rfl,h1,h2⟩:=hl;refine⟨⟨v,?_,hp v (by simp),h1⟩,?_⟩
  .unfold World.cell?
   grind
  .have:=Qna (pre:=pre++[v]) (l:=l') (by simpa using hb) h2 (by grind)
   grind
variable {α β:Type} (K:FK α β)
theorem QnL(sub:∀c,ro c->ro' c){b:Nat}{x:Fil α β}{v:Value}(f:∀(d c:Nat) (y:Blk),(QjG K b x)[d]?=some y->σ[b+d]?=some (some c)->BR ro σ w y (some c)/\ro' c)(h:VR ro σ w (.ptr b 0) v):VR ro' [] w (.rp (frp K x)) v:=by
 obtain⟨c,g,m⟩:=h;obtain⟨⟨l,k,a,u⟩,z⟩:=f 0 c _ rfl g;refine⟨c,0,m,z,?_⟩;refine Qna (pre:=[]) (by simpa using k) ?_ u;unfold Ql3 at a;obtain⟨v0,B,rfl,n,a⟩:=a;obtain⟨i,N,rfl,J,a⟩:=a;obtain⟨j,H,rfl,M,a⟩:=a;obtain⟨p,L,rfl,G,a⟩:=a;obtain⟨q,O,rfl,E,a⟩:=a;obtain⟨r,F,rfl,s,a⟩:=a;refine⟨v0,_,rfl,n,i,_,rfl,Qeb sub (t:=K.tF) (λc e=>f 1 c _ rfl e) (by grind),j,_,rfl,Qeb sub (t:=K.tF) (λc e=>f 2 c _ rfl e) (by grind),p,_,rfl,Qeb sub (t:=K.tF) (λc e=>f 3 c _ rfl e) (by grind),
  q,_,rfl,Qeb sub (t:=K.tR) (λc e=>f 4 c _ rfl e) (by grind),r,_,rfl,s,a⟩
theorem Qm4(sub:∀c,ro c->ro' c){ek:Int->A}(hek:∀(k:Int) (v:Value),VR ro σ w (ek k) v->VR ro' [] w (ek k) v):∀{b:Nat} {fs:List (Fil α β)} {es:List MapEntry},(∀(d c:Nat) (y:Blk),(fall K b fs)[d]?=some y->σ[b+d]?=some (some c)->BR ro σ w y (some c)/\ro' c)->
  ER ro σ w (QV ek ptr0 (fent b fs)) es->ER ro' [] w (QV ek (rpE K) (fnum fs)) es
 |b,[],es,_,h=>h
 |b,x::l,es,hb,h=>by
  obtain⟨e,l',rfl,h1,h2,h3⟩:=h;refine⟨e,l',rfl,hek _ _ h1,?_,?_⟩
  .refine QnL K sub (λd c y hy hc=>hb d c y ?_ hc) h2
   grind[QfZ]
  .refine Qm4 sub hek (b:=b+5) (fs:=l) (λd c y hy hc=>hb (d+5) c y ?_ (by grind)) h3
   grind[QfZ,Qkm]
end
section
variable {fr ro:Nat->Prop} {σ:Sig} {w:World} {α β:Type} (K:FK α β)
end
end Go.Sw
namespace Go.Sw
open Go.Sort Go.Proofs Go.Shelf
end Go.Sw
namespace Go.Sw
structure Pl where
 b:Nat
 i0:Nat
 i1:Nat
 i2:Nat
 i3:Nat
def Pl.ix(p:Pl):List Nat:=[p.b,p.i0,p.i1,p.i2,p.i3]
section
variable {α β:Type} (K:FK α β)
def Qi1(p:Pl)(x:Fil α β):List A:=[.int .i64 x.number,.osl p.i0 0 x.r0.length K.kF,.osl p.i1 0 x.r1.length K.kF,.osl p.i2 0 x.r2.length K.kF,.osl p.i3 0 x.reports.length K.kR,.bool x.appeal]
structure Qcx (H:Qd) (x:Fil α β) (p:Pl):Prop where
 c:H[p.b]?=some (.cells K.T (Qi1 K p x))
 r0:H[p.i0]?=some (.row K.tF K.kF (x.r0.map K.eF))
 r1:H[p.i1]?=some (.row K.tF K.kF (x.r1.map K.eF))
 r2:H[p.i2]?=some (.row K.tF K.kF (x.r2.map K.eF))
 r3:H[p.i3]?=some (.row K.tR K.kR (x.reports.map K.eR))
abbrev Qje(α β:Type):=List (Fil α β×Pl)
structure QbA (lo:Nat) (H:Qd) (bk:Qje α β):Prop where
 laid:∀e∈bk,Qcx K H e.1 e.2
 own:∀e∈bk,e.2.ix.Nodup
 ne:bk.Pairwise λe f=>∀i∈e.2.ix,i∉f.2.ix
 lo:∀e∈bk,∀i∈e.2.ix,lo<=i
 num:(bk.map (·.1.number)).Nodup
variable {K} {lo:Nat} {H H':Qd} {bk l r:Qje α β} {e:Fil α β×Pl} {x':Fil α β} {p':Pl}
theorem QbA.nil:QbA K lo H ([]:Qje α β):=⟨(λ_ h=>by cases h),(λ_ h=>by cases h),List.Pairwise.nil,(λ_ h=>by cases h),List.nodup_nil⟩
theorem Qcx.lt(h:Qcx K H e.1 e.2):∀i∈e.2.ix,i<H.length:=by
 intro i a;have g:∀{j:Nat} {y:Blk},H[j]?=some y->j<H.length:=(by grind);simp only[Pl.ix,X6,List.not_mem_nil,or_false]at a;rcases a with rfl|rfl|rfl|rfl|rfl
 .exact g h.c
 .exact g h.r0
 .exact g h.r1
 .exact g h.r2
 .exact g h.r3
theorem Qcx.keep(h:Qcx K H e.1 e.2)(k:∀i∈e.2.ix,H'[i]?=H[i]?):Qcx K H' e.1 e.2:=by
 refine⟨?_,?_,?_,?_,?_⟩
 .rw[k _ (by simp[Pl.ix])];exact h.c
 .rw[k _ (by simp[Pl.ix])];exact h.r0
 .rw[k _ (by simp[Pl.ix])];exact h.r1
 .rw[k _ (by simp[Pl.ix])];exact h.r2
 .rw[k _ (by simp[Pl.ix])];exact h.r3
theorem QbA.keep(h:QbA K lo H bk)(k:∀j,lo<=j->j<H.length->H'[j]?=H[j]?):QbA K lo H' bk:=
 ⟨λe he=>(h.laid e he).keep λi hi=>k i (h.lo e he i hi) ((h.laid e he).lt i hi),h.own,h.ne,h.lo,h.num⟩
theorem QbA.upd(h:QbA K lo H (l++e::r))(t:Qcx K H' x' p')(z:x'.number=e.1.number)(y:∀j,lo<=j->j<H.length->j∉e.2.ix->H'[j]?=H[j]?)
  (hi:∀i∈p'.ix,i∈e.2.ix\/H.length<=i)(x:p'.ix.Nodup)(F:lo<=H.length):QbA K lo H' (l++(x',p')::r):=by
 obtain⟨s,w,B⟩:=List.pairwise_append.1 h.ne;obtain⟨E,u⟩:=Xc.1 w;have mem:∀f∈l++(x',p')::r,f=(x',p')\/(f∈l++e::r/\ ∀i∈f.2.ix,i∉e.2.ix):=by
  intro f a
  grind
 refine⟨?_,?_,?_,?_,?_⟩
 .intro f a;rcases mem f a with rfl|⟨b,n⟩
  .exact t
  .exact(h.laid f b).keep λi hi=>y i (h.lo f b i hi) ((h.laid f b).lt i hi) (n i hi)
 .intro f a;rcases mem f a with rfl|⟨b,n⟩
  .exact x
  .exact h.own f b
 .refine List.pairwise_append.2 ⟨s,Xc.2 ⟨?_,u⟩,?_⟩
  .intro f a i d k;rcases hi i d with q|q
   .grind
   .have:=(h.laid f (by simp[a])).lt i k;omega
  .intro f a g p i k m;rcases X6.1 p with rfl|p
   .rcases hi i m with q|q
    .grind
    .have:=(h.laid f (by simp[a])).lt i k;omega
   grind
 .intro f a;rcases mem f a with rfl|⟨b,n⟩
  .intro i d;rcases hi i d with q|q
   .exact h.lo e (by simp) i q
   .omega
  .exact h.lo f b
 .have:=h.num
  grind
theorem QbA.add(h:QbA K lo H bk)(l:Qcx K H' x' p')(r:∀e∈bk,e.1.number≠x'.number)(p:∀j,lo<=j->j<H.length->H'[j]?=H[j]?)
  (hi:∀i∈p'.ix,H.length<=i)(n:p'.ix.Nodup)(s:lo<=H.length):QbA K lo H' (bk++[(x',p')]):=by
 have k:=h.keep p;have mem:∀f∈bk++[(x',p')],f∈bk\/f=(x',p'):=by
  simp
 refine⟨?_,?_,?_,?_,?_⟩
 .intro f a;rcases mem f a with q|rfl
  .exact k.laid f q
  .exact l
 .intro f a;rcases mem f a with q|rfl
  .exact h.own f q
  .exact n
 .refine List.pairwise_append.2 ⟨h.ne,by simp,λf a g d i b m=>?_⟩;obtain rfl:=VB.1 d;have:=(h.laid f a).lt i b
  grind
 .intro f a i b;rcases mem f a with q|rfl
  .exact h.lo f q i b
  grind
 .rw[Xf];refine List.nodup_append.2 ⟨h.num,by simp,?_⟩
  grind
end
section
variable {fr ro ro':Nat->Prop} {σ:Sig} {w:World} {α β:Type} (K:FK α β)
def Qmy(bk:Qje α β):List Nat:=bk.flatMap λe=>e.2.ix
theorem QbA.all{lo:Nat}{H:Qd}:∀{d:Qje α β},QbA K lo H d->(Qmy d).Nodup/\ ∀i∈Qmy d,lo<=i/\ ∃y,H[i]?=some y/\y.live=true:=by
 intro d h;refine⟨?_,?_⟩
 .have g:=h.own;have j:=h.ne
  grind[Qmy]
 .intro i a;obtain⟨e,f,a⟩:=List.mem_flatMap.1 a;refine⟨h.lo e f i a,?_⟩;have b:=h.laid e f;simp only[Pl.ix,X6,List.not_mem_nil,or_false]at a;rcases a with rfl|rfl|rfl|rfl|rfl
  .exact⟨_,b.c,rfl⟩
  .exact⟨_,b.r0,rfl⟩
  .exact⟨_,b.r1,rfl⟩
  .exact⟨_,b.r2,rfl⟩
  .exact⟨_,b.r3,rfl⟩
end
section
variable {α β:Type} (K:FK α β) {env:Env} {H:Qd}
end
end Go.Sw
namespace Go.Sw
section
variable {P:Program} {h0 N:Nat} {all:Array Oper} {o:Oper} {l:List Oper} {env:Env} {H:Qd} {Q:QA}
end
section
variable {h0 n:Nat} {env env':Env} {H H':Qd}
end
section
variable {P:Program} {o:Oper} {env:Env} {H:Qd} {α:Type}
end
end Go.Sw
namespace Go.Sw
section
variable {α β:Type}
def newF(k:Int):Fil α β:=⟨k,[],[],[],[],false⟩
variable (K:FK α β) {lo:Nat} {H H':Qd} {bk:Qje α β}
def Qkc(n:Nat):Pl:=⟨n,n+1,n+2,n+3,n+4⟩
def Qed(n:Nat)(k:Int):Qd:=[.cells K.T (Qi1 K (Qkc n) (newF k)),.row K.tF K.kF [],.row K.tF K.kF [],.row K.tF K.kF [],.row K.tR K.kR []]
theorem Qcx.new{k:Int}:Qcx K (H++Qed K H.length k) (newF k) (Qkc H.length):=by
 have g:∀(j:Nat) (y:Blk),(Qed K H.length k)[j]?=some y->(H++Qed K H.length k)[H.length+j]?=some y:=by
  grind
 exact⟨g 0 _ rfl,g 1 _ rfl,g 2 _ rfl,g 3 _ rfl,g 4 _ rfl⟩
theorem Qjs(n:Nat):(∀i∈(Qkc n).ix,n<=i)/\(Qkc n).ix.Nodup:=by
 simp_all[Pl.ix,Qkc]
variable {K}
theorem QbA.new{k:Int}(h:QbA K lo H bk)(a:∀e∈bk,e.1.number≠k)(b:lo<=H.length):QbA K lo (H++Qed K H.length k) (bk++[(newF k,Qkc H.length)]):=by
 refine h.add (Qcx.new K) a (by grind) (Qjs _).1 (Qjs _).2 b
theorem QbA.row{l r:Qje α β}{e:Fil α β×Pl}{x':Fil α β}{d:Pl}{i:Nat}{y:Blk}(h:QbA K lo H (l++e::r))(t:lo<=H.length)(k:x'.number=e.1.number)(hi:i∈e.2.ix)(w:i≠e.2.b)(g:d.b=e.2.b)
  (F:H'=(H.set i .dead++[y]).set e.2.b (.cells K.T (Qi1 K d x')))
  (z:d.ix=e.2.ix.map λj=>bif Nat.beq j i then H.length else j)
  (B:H'[d.i0]?=some (.row K.tF K.kF (x'.r0.map K.eF)))(m:H'[d.i1]?=some (.row K.tF K.kF (x'.r1.map K.eF)))(n:H'[d.i2]?=some (.row K.tF K.kF (x'.r2.map K.eF)))(u:H'[d.i3]?=some (.row K.tR K.kR (x'.reports.map K.eR))):
  QbA K lo H' (l++(x',d)::r):=by
 have q:=h.laid e (by simp);have f:=q.lt;have E:e.2.b<H.length:=f _ (by simp[Pl.ix]);refine h.upd ⟨?_,B,m,n,u⟩ k ?_ ?_ ?_ t
 .grind
 .grind[List.getElem?_set_ne,Pl.ix]
 .grind
 .rw[z];have s:=h.own e (by simp);refine List.pairwise_map.2 (List.Pairwise.imp_of_mem ?_ s);intro a b x g p;have G:=f a x;have L:=f b g;cases J:Nat.beq a i with
  |true=>
   cases M:Nat.beq b i with
   |true=>simp_all
   |false=>grind
  |false=>
   grind
end
end Go.Sw
namespace Go.Sw
section
variable {fr ro:Nat->Prop} {σ:Sig} {H:Qd} {w:World}
end
section
variable {P:Program} {o:Oper} {env:Env} {H:Qd}
theorem Le.frow{B s i n k t:Nat}{es:List (List A)}(J:lk env s=.osl i 0 n k)(j:H[i]?=some (.frow t k es))(u:es.length=n):Le B env H (up env s (.rsl k es)) H:=by
 intro Q h σ N a w r;refine⟨h,σ,⟨r.sim,?_,r.size,r.defers⟩,λ_ q=>q,rfl⟩;intro e;simp only[lk];by_cases q:e=s
 .subst q;rw[VF];have:=r.env e;rw[J]at this;show VR h σ w (.rsl k es) _;rcases this with⟨g,f⟩|⟨b,p,d,P,m,g,f,M,⟨V,F⟩,R,T⟩
  .have:es=[]:=(by grind);subst this;exact⟨none,0,by rw[f];rfl,XT _,.inl rfl⟩
  .obtain⟨y,l,x,E,W⟩:=r.sim.blk i _ _ g j;refine⟨_,d,by rw[f,u],by omega,?_⟩;by_cases L:es=[]
   .exact .inl L
   .right;have G:0<d:=(by grind);have O:=M G;refine⟨b,0,by rw[O];simp,y,?_⟩;exact Yt (pre:=[]) (by simpa using x) E
 .have:Nat.beq e s=false:=by
   cases z:Nat.beq e s with
   |true=>simp_all
   |false=>rfl
  rw[this];exact r.env e
end
end Go.Sw
namespace Go.Sw
open Go.MapKept
section
variable {P:Program} {kt et:Nat} {α β:Type} [DecidableEq α] {ek:α->A} {ev:β->A} {ro:Nat->Prop} {σ:Sig} {w:World} (K:Qab P kt ek)
include K
variable {o:Oper} {env:Env} {H:Qd} {T T' i:Nat} {x y:Operand} {l m:List (α×β)} {k:α}
end
end Go.Sw
namespace Go.Sw
section
variable {P:Program} {h0 N:Nat} {all:Array Oper} {o1 o2:Oper} {l:List Oper} {env:Env} {H:Qd} {Q:QA}
end
end Go.Sw
namespace Go.Sw
section
variable {P:Program} {o:Oper} {env:Env} {H:Qd}
end
end Go.Sw
namespace Go.Sw
section
variable {P:Program} {o:Oper} {env:Env} {H:Qd} {α:Type}
def QbC(l:List α)(lo hi i:Int):Option α:=bif decide (0<=lo)&&(decide (0<=i)&&decide (lo+i<hi))then idx l (lo+i)else none
theorem QjC{l:List α}{lo hi i:Int}{v:α}(h:QbC l lo hi i=some v):0<=lo/\0<=i/\lo+i<hi/\idx l (lo+i)=some v:=by
 unfold QbC at h
 grind
theorem QaA{l:List α}{lo hi i:Int}{v:α}(h:QbC l lo hi i=some v):idx l (lo+i)=some v:=(QjC h).2.2.2
theorem Jn{t a k b:Nat}{x y:Operand}{l:List α}{m:IntKind}{lo hi i:Int}{v:α}(h:QbC l lo hi i=some v)(g:∀w,(underlying t).run P w=.ok (.slice a) w)(j:∀w,(sizeOf a).run P w=.ok k w)
  (n:o.op=.indexAddr t x y:=by exact rfl)(hx:opA env x=.osl b (0+lo.toNat) (hi.toNat-lo.toNat) k:=by exact rfl)(hy:opA env y=.int m i:=by exact rfl):OpV P o env H (.ptr b ((lo+i).toNat*k)):=by
 obtain⟨q,d,p,_⟩:=QjC h;have f:=Qg8 (H:=H) n g j hx hy d (by omega);have e:(0+lo.toNat)*k+i.toNat*k=(lo+i).toNat*k:=by
  rw[<- XA]
  grind
 rwa [e]at f
end
theorem Qhd{h0:Nat}{env:Env}{H H':Qd}(e:H=H'):Le h0 env H env H':=e▸Le.refl h0 env H
end Go.Sw
namespace Go.Sw
section
variable {P:Program} {o:Oper} {env:Env} {H:Qd}
end
end Go.Sw
namespace Go.Sw
section
variable {env:Env} {H:Qd}
theorem Qgk{h0 i j m o' n k T:Nat}{x:Blk}{cs:List A}(hi:H[i]?=some x)(E:H[j]?=some (.cells T cs))(s:cs[m]?=some (.osl i o' n k))(f:Nat.beq i j=false)(W:Nat.ble h0 H.length=true):
  Le h0 env H env ((H.set i .dead).set j (.cells T (cs.set m (.osl H.length o' n k)))++[x]):=by
 intro Y B σ N a w r;have hiσ:i<σ.length:=by rw[r.sim.len];exact(XL.1 hi).1
 have hσ:σ[i]?=some σ[i]:=XK hiσ;have ext:Ext B σ w B (σ++[σ[i]]) w:=⟨λ_ q=>q,λ_ _=>rfl,λ_ _ q=>q,λ_ _ h=>Qae h⟩;have M:=r.sim.moved hi hσ;have g:j<H.length:=(XL.1 E).1;have z:i≠j:=λq=>by rw[q,VF]at f;cases f
 have e:(H.set i .dead++[x])[j]?=some (.cells T cs):=by
  rw[XM (by simpa using g),XP z];exact E
 have J:(H.set i .dead).set j (.cells T (cs.set m (.osl H.length o' n k)))++[x]=(H.set i .dead++[x]).set j (.cells T (cs.set m (.osl H.length o' n k))):=by
  rw[List.set_append_left _ _ (by simpa using g)]
 rw[J];refine⟨B,σ++[σ[i]],⟨M.weaken e rfl ?_,λq=>(r.env q).mono ext,r.size,r.defers⟩,λ_ q=>q,QC (by rw[r.sim.len];exact XR W)⟩;have d:σ.length=H.length:=r.sim.len;intro y h;cases y with
 |none=>exact h
 |some b=>
  obtain⟨l,O,R,Q⟩:=h;refine⟨l,O,?_,Q⟩;clear O Q e J E M
  induction cs generalizing m l with
  |nil=>cases s
  |cons c cs X=>
   obtain⟨v,F,rfl,L,P⟩:=R;cases m with
   |zero=>
    simp at s;subst s;refine⟨v,F,rfl,?_,P⟩;rcases L with h|⟨b,p,u,t,m,G,V⟩
    .exact .inl h
    .refine .inr ⟨b,p,u,t,m,?_,V⟩;rw[XM hiσ,hσ]at G;rw[<- d];simpa using G
   |succ m=>exact⟨v,F,rfl,L,X (by simpa using s) F P⟩
theorem OpU.ins{P:Program}{o:Oper}{H':Qd}{T:Nat}{x y d:Operand}(l:o.op=.insert T x y d)(h:OpU P {o with op:=.mapUpdate T x y d} env H H'):OpU P o env H H':=by
 intro j k σ N a w r;obtain⟨e,b,τ,g,f,i⟩:=h j k σ N a w r;exact⟨e,b,τ,by simpa only[execOp,l]using g,f,i⟩
end
section
variable {P:Program} {o:Oper} {env:Env} {H:Qd} {T kt et:Nat} {α β:Type} [DecidableEq α] {ek:α->A} {ev:β->A} {x y:Operand} {i:Nat} {l:List (α×β)} {k:α} {z:Value} {zA:A}
end
end Go.Sw
namespace Go.Sw
open Go.Sort Go.Proofs Go.Shelf
end Go.Sw
namespace Go.Sw
end Go.Sw
namespace Go.Sw
theorem TC.label{P:Program}{h0 N l:Nat}{env:Env}{H:Qd}{Q:QA}(h:Q .normal env H):TC P h0 N (.label l) env H Q:=
 λrd fr ro σ a w r hrd=>wpIn_label ⟨_,env,H,ro,σ,fr,rfl,h,r,Qi.refl _ _ _,rfl,Grow.refl _ _ _⟩
theorem Qhm{P:Program}{b:Frame}{a:Act}{k:List Item}{cs:List Frame}{w:World}{c:Code}:step P (lone (b.atR a (.code (.scope c)::k)) cs w)=.next (lone (b.atR a (.code c::.inScope c::k)) cs w):=
 step_lone_go (by simp[stepG,stepG.exec,Frame.atR])
theorem Qfy{P:Program}{b:Frame}{a:Act}{k:List Item}{cs:List Frame}{w:World}{c:Code}:step P (lone (b.atR a (.inScope c::k)) cs w)=.next (lone (b.atR a k) cs w):=
 step_lone_go (by simp[stepG,stepG.exec,Frame.atR])
theorem TC.scope{P:Program}{h0 N:Nat}{c:Code}{env:Env}{H:Qd}{Q:QA}(h:TC P h0 N c env H Q):TC P h0 N (.scope c) env H Q:=by
 intro t s y σ a w r hrd b k cs hro hb f;obtain⟨e,m,l,i,d⟩:=h t s y σ a w r hrd b (.inScope c::k) cs hro hb f;refine⟨e,m,l,i,.of_steps (.one (fenced_calm hb f rfl) Qhm) ?_⟩;obtain⟨x,j,H',n,σ',q,p,_⟩:=i;cases e with
 |normal=>exact StepsIn.trans d (.one (fenced_calm hb f rfl) Qfy)
 |exit id=>exact⟨λu g=>d.1 u (by rw[exitTo];exact g;simp),λf g=>d.2 f (by rw[exitTo];exact g;simp)⟩
 |ret=>exact d
 |_=>exact p.elim
end Go.Sw
namespace Go.Sw
theorem Qc0{P:Program}{o:Oper}{env:Env}{H:Qd}{p:Nat}{α:Type}{e:α->List A}{T et k:Nat}{x y:Operand}{g M:IntKind}{n:Int}{zv:α}{l:List α}{z:Value}{a:A}(F:mk n zv=some l)(E:Q9 P T et k)(s:∀w,(zeroValue et).run P w=.ok z w)(f:ZR a z)
  (u:Yj a=true)(t:Q8 a=e zv)(O:(Q8 a).all Yq=true)(b:Nat.beq (e zv).length k=true)
  (G:o.op=.makeSlice T x y:=by exact rfl)(hx:opA env x=.int g n:=by exact rfl)(hy:opA env y=.int M n:=by exact rfl):
  OpZR P o env H p (.osl p 0 l.length k) (.row et k (l.map e)):=by
 intro R B σ N act w r;obtain⟨d,i,j,J,L,m,Q⟩:=Qjw F E s f u t O b G hx hy r;refine⟨_,_,i,λ_ h=>h.elim,λ σ' hσ ext=>⟨.inr ⟨w.heap.size,0,l.length,et,d.length,hσ,rfl,λ_=>by simp,⟨XT _,by omega⟩,?_,by rw[m,Xv];exact XT _⟩,⟨d,Q0 _ _,?_⟩⟩⟩
 .unfold World.shape?;rw[Q0];simp
 .have:=YM (rest:=[]) L (j.mono (w':=w.alloc (.cells d.toArray et)) (σ':=[]) (ro':=B) ⟨λ_ q=>q,ext.keep,ext.shape,λ_ _ q=>q⟩) J
  rwa [Vg]at this
end Go.Sw
namespace Go.Sw
theorem Qcv{P:Program}{o:Oper}{env:Env}{H:Qd}{T f off n:Nat}{x:Operand}{cs:List A}{v:A}{fs:Array Field}{e:Field}(i:YO P T f off n)(k:∀w,(underlying T).run P w=.ok (.struct fs) w)(b:fs[f]?=some e)(a:∀w,(isAgg e.type).run P w=.ok false w)
  (l:o.op=.field T x f:=by exact rfl)(hx:opA env x=.agg cs:=by exact rfl)(hv:cs[off]?=some v:=by exact rfl):OpV P o env H v:=
 OpV.field i (λj g h d w=>by
  have:=(h w).symm.trans (k w);cases this;rw[b]at d;cases d;exact a w) l hx hv
end Go.Sw
namespace Go.Sw
section
variable {P:Program} {o:Oper} {env:Env} {H:Qd} {fr ro:Nat->Prop} {σ:Sig} {w:World}
theorem Qc4(i n c:Nat):Qd3 i n (c+1)=Qd3 i n c++[[.osl i (c*n) n 1]]:=by simp[Qd3,Xu]
theorem QaV(i n c:Nat):(Qd3 i n c).length=c:=by simp[Qd3]
theorem Qpg{g i t b n:Nat}(e:H[i]?=some (.row t 1 [])):Le g env H env (H.set i (.wins t b n 0)):=by
 intro k j σ N a w r;refine⟨j,σ,⟨r.sim.weaken (x':=.wins t b n 0) e rfl ?_,r.env,r.size,r.defers⟩,λ_ q=>q,rfl⟩;intro y h;cases y with
 |none=>rfl
 |some d=>obtain⟨l,f,m⟩:=h;exact⟨l,f,trivial⟩
theorem srcR{j m t k:Nat}{l:List (List A)}{x:Blk}{v:Value}(s:Sim fr ro σ H w)(q:H[j]?=some x)(hB:∀d,BR ro σ w x (some d)->∃lb:List Value,w.heap[d]?=some (.cells lb.toArray t (0,0))/\RL ro σ w k l lb)(f:l.length=m)(h:VR ro σ w (.osl j 0 m k) v):
  (∃a c,v=.slice a m c)/\(l=[]\/allK k l)/\ ∃vs:List Value,(∀w':World,w'.heap=w.heap->(Builtin.firstCells k m v).run P w'=.ok vs.toArray w')/\LR ro σ w l.flatten vs/\ ∀v∈vs,Qo v:=by
 rcases h with⟨rfl,rfl⟩|⟨b,p,e,G,N,r,rfl,u,⟨J,z⟩,L,M⟩
 .have:l=[]:=VJ.1 f;subst this;exact⟨⟨none,0,rfl⟩,.inl rfl,[],λ_ _=>YC,rfl,by simp⟩
 .obtain⟨lb,y,g⟩:=hB b (s.blk j _ _ r q);refine⟨⟨_,e,rfl⟩,.inr g.allK,?_⟩;have i:=Yt (pre:=[]) (by simpa using y) g;by_cases B:0<e
  .obtain rfl:=u B;obtain⟨F,O,E⟩:=i.flat;have:=Qa8 (P:=P) (k:=k) (n:=m) (c:=e) F (by rw[E];simp[f]);simpa using this
  .obtain rfl:m=0:=by omega
   have:l=[]:=VJ.1 f;subst this;exact⟨[],λ_ _=>YC,rfl,by simp⟩
theorem QmS{c:Call}{T T' t e' i j n b u m off:Nat}{x y:Operand}(E:Q9 P T t 1)(hd:∀w,(underlying T').run P w=.ok (.slice e') w)(ak:n+1<=Q7)(J:off=n*m)(hu:u=m)
  (ho:o.op=.call c:=by exact rfl)(hc:c={callee:=.builtin .append,args:= #[x,y],argTypes:= #[T,T']}:=by exact rfl)(hx:opA env x=.osl i 0 n 1:=by exact rfl)(hH:H[i]?=some (.wins t b m n):=by exact rfl)
  (hy:opA env y=.osl j 0 1 1:=by exact rfl)(hHj:H[j]?=some (.rowr t 1 [[.osl b off u 1]]):=by exact rfl):
  OpH P o env H (.osl H.length 0 (n+1) 1) (H.set i .dead++[.wins t b m (n+1)]):=by
 subst J hu;intro fr F σ N a w r;have B:=Qk r x;rw[hx]at B;have h2:=Qk r y;rw[hy]at h2;obtain⟨⟨ay,cy,Y⟩,-,vs,q3,V,q5⟩:=srcR (P:=P) (t:=t) (k:=1) (m:=1) (l:=[[A.osl b (n*u) u 1]]) r.sim hHj (λ_ q=>q) rfl h2;rw[Y]at q3;have Q:allK 1 [[A.osl b (n*u) u 1]]:=⟨rfl,trivial⟩;obtain⟨⟨ax,cap,ex⟩,z,f,o1,o2,o3⟩:=srcR (P:=P) (t:=t) (k:=1) (m:=n) (l:=Qd3 b u n) r.sim hH (λ_ q=>q) (QaV _ _ _) B;have z:allK 1 (Qd3 b u n):=by
  rcases z with q|q
  .rw[q];trivial
  .exact q
 have W:i<H.length:=(XL.1 hH).1;have G:vs.length=1:=by rw[V.length];rfl
 have ab:f.length=n:=by rw[o2.length,Yf z,QaV];omega
 rw[ex]at o1 B;by_cases s:n+1<=cap
 .rcases B with⟨_,B⟩|⟨d,p,aj,t',mm,h3,B,h4,⟨h5,ac⟩,h6,h7⟩
  .cases B;omega
  cases B;have M:=r.sim.blk i _ _ h3 hH;obtain⟨lb,X,g2⟩:=M;obtain rfl:p=0*1:=h4 (by omega);have h:=QbI (t:=o.type) E hd (ad:=some ⟨d,0*1,none⟩) (n:=n) (m:=1) (cap:=cap) (c:=cy) (ax:=ay) s (q3 w rfl);have L:(n+1)*1<=lb.length:=by
   have:w.shape? d=some (t,lb.length):=by unfold World.shape?;rw[X];simp
   rw[this]at h6;cases h6;exact XV (XC 1 s) (by simpa using h7)
  have ae:=Q4 (P:=P) (vs:=vs) (n*1) 0 X (by rw[G];simpa using L) q5;have g:=r.sim.set (x':=.wins t b u (n+1)) (obj:=.cells (splice lb (n*1) vs).toArray t (0,0)) h3 hH rfl
   (λy hy=>Jf X (Q1 (by rw[G];simpa using L)) y hy)
   (λex ah=>⟨_,ah,by
    have:=(g2.app (n:=n) (by simp[QaV]) Q V q5).mono ex;rw[VI (by simp[QaV])]at this;rw[Qc4];exact this⟩)
  have sm:=g.1.moved (i:=i) (Xa W) h3;rw[List.set_set]at sm;refine⟨.slice (some ⟨d,0*1,none⟩) (n+1) cap,_,F,[some d],?_,.inr ⟨d,0*1,cap,t',mm,?_,rfl,h4,⟨s,ac⟩,?_,h7⟩,sm,g.2⟩
  .refine Yy ho hc _ ?_;rw[ex,Y,h];simp only[YR,Nat.zero_mul,Xv,Vm,ae,Result.andThen,Vn];simp
  .rw[<- r.sim.len];simp
  .exact g.2.shape _ _ h6
 .obtain⟨e,nc,aa,ai,h⟩:=Qey (t:=o.type) E hd rfl (by omega) (by omega) q3 o1
  let w0:World:={w with drawn:=w.drawn+1}
  have O:Sim fr F σ (H.set i .dead) w0:=(r.sim.kill i).heap rfl;have e0:Qi fr F w F w0:=Qi.heap rfl rfl rfl rfl (Nat.le_succ _);have af:LR F σ w0 (Qd3 b u (n+1)).flatten (f++vs):=by
   rw[Qc4,Xr];exact(o2.append V).mono (Ext.heap (w:=w) (w':=w0) rfl)
  have R:∀v∈f++vs,Qo v:=λv hv=>by rcases VD.1 hv with q|q;exact o3 v q;exact q5 v q
  have s1:=O.alloc (x:=.wins t b u (n+1)) (obj:=.cells ((f++vs)++e).toArray t) ⟨(f++vs)++e,Q0 _ _,(YM (by rw[Qc4];exact QbS z Q) af R).mono ((Qi.alloc (fr:=fr) _ O.roLt O.frLt).ext σ _)⟩;have ag:Qi fr F w0 F (w0.alloc (.cells ((f++vs)++e).toArray t)):=Qi.alloc _ O.roLt O.frLt;refine⟨_,_,F,[some w.heap.size],Yy ho hc a.eval (by rw[ex,Y];exact h),.inr ⟨w.heap.size,0,nc,t,(f++vs++e).length,?_,rfl,λ_=>by simp,aa,?_,?_⟩,s1,e0.trans ag⟩
  .rw[<- r.sim.len];simp
  .have:=Q0 w0 (.cells ((f++vs)++e).toArray t);unfold World.shape?;rw[show w.heap.size=w0.heap.size from rfl,this];simp
  .simp only[X3,ai,ab,G,Xv];omega
theorem Qnc{ro':Nat->Prop}{i n j t:Nat}{es:List (List A)}{v:Value}(s:Sim fr ro σ H w)(hσ:∀c,σ[i]?=some (some c)->ro' c)(x:∀c,ro c->ro' c)(f:H[i]?=some (.row t 1 es))(F:j*n+n<=es.length)
  (h:VR ro σ w (.osl i (j*n) n 1) v):VR ro' [] w (.rsl 1 ((es.drop (j*n)).take n)) v:=by
 have a:((es.drop (j*n)).take n).length=n:=by simp;omega
 rcases h with⟨rfl,rfl⟩|⟨c,p,b,z,m,e,rfl,g,⟨k,_⟩,B,E⟩
 .exact⟨none,0,by rw[a],by rw[a];exact XT _,.inl (VJ.1 a)⟩
 .refine⟨_,b,by rw[a],by rw[a];exact k,?_⟩;by_cases y:n=0
  .exact .inl (VJ.1 (a.trans y))
  .obtain rfl:=g (by omega);obtain⟨l,r,u⟩:=s.blk i _ _ e f;have q:=(Yt (pre:=[]) (by simpa using r) u).keep (ro':=ro') (σ':=[]) (w':=w) ⟨x,λ_ _=>rfl,λ_ _ q=>q,λ_ _ q=>q⟩ rfl;refine .inr ⟨c,_,rfl,hσ c e,?_⟩;have d:=(q.drop (j*n)).take n;simpa using d
def Qhk{α:Type}(l:List α)(n c:Nat):List (List α):=(List.range c).map λj=>(l.drop (j*n)).take n
theorem QjR{ro':Nat->Prop}{i n t d:Nat}{es:List (List A)}(s:Sim fr ro σ H w)(hσ:∀c,σ[i]?=some (some c)->ro' c)(hs:∀c,ro c->ro' c)(hH:H[i]?=some (.row t 1 es)):
  ∀(l:List Nat) (off:Nat),(∀j∈l,j*n+n<=es.length)->RR ro σ w d 1 (l.map λj=>[.osl i (j*n) n 1]) off->RR ro' [] w d 1 (l.map λj=>[.rsl 1 ((es.drop (j*n)).take n)]) off
 |[],_,_,_=>trivial
 |j::l,off,hl,h=>by
  obtain⟨_,⟨⟨v,h2,h3,h4⟩,_⟩,h6⟩:=h;exact⟨rfl,⟨⟨v,h2,h3,Qnc s hσ hs hH (hl j (by simp)) h4⟩,trivial⟩,QjR s hσ hs hH l (off+1) (λj hj=>hl j (by simp[hj])) h6⟩
theorem QnQ{y s i b t M n c:Nat}{α:Type}{e:α->List A}{l:List α}(O:c*n<=l.length)(hi:Nat.ble y i=true)(hb:Nat.ble y b=true)(X:lk env s=.osl i 0 c 1)(x:H[i]?=some (.wins t b n c))(f:H[b]?=some (.row M 1 (l.map e))):
  Le y env H (up env s (.rsl 1 ((Qhk l n c).map (Qj 1 e)))) ((H.set b .dead).set i .dead):=by
 intro fr Y σ N a w r;have F:b≠i:=by rintro rfl;rw[x]at f;cases f
 obtain⟨g,P,E,L⟩:=r.sim.shutL (l:=[b,i]) (by simp[F]) (by
  intro j u;simp at u;rcases u with rfl|rfl
  .exact⟨_,f,rfl⟩
  .exact⟨_,x,rfl⟩)
 refine⟨g,σ,⟨P,?_,r.size,r.defers⟩,E,rfl⟩;have ext:Ext Y σ w g σ w:=⟨E,λ_ _=>rfl,λ_ _ q=>q,λ_ _ q=>q⟩;intro k;simp only[lk];by_cases q:k=s
 .subst q;rw[VF];have h:=r.env k;rw[X]at h;have R:(Qhk l n c).map (Qj 1 e)=(List.range c).map λj=>[A.rsl 1 ((((l.map e).drop (j*n)).take n))]:=by
   simp[Qhk,Qj,List.map_drop,List.map_take]
  rw[R];rcases h with⟨z,h⟩|⟨d,p,B,t',m,J,h,Q,⟨h3,V⟩,h4,h5⟩
  .subst z;exact⟨none,0,h,XT _,.inl rfl⟩
  .refine⟨_,B,by simpa using h,by simpa using h3,?_⟩;by_cases W:c=0
   .left;subst W;rfl
   .right;obtain rfl:=Q (by omega);obtain⟨lv,T,q2⟩:=r.sim.blk i _ _ J x;refine⟨d,0,by simp,L i (by simp) d J,?_⟩;refine QjR r.sim (L b (by simp)) E f (List.range c) 0 ?_ (Yt (pre:=[]) (by simpa using T) q2);intro j u;have G:j<c:=by simpa using u
    rw[X2];refine XV ?_ O;have:=XC n (show j+1<=c from G)
    rwa [XA,Nat.one_mul]at this
 .have:Nat.beq k s=false:=by
   rw[VM];intro q';exact q (XQ q')
  rw[this];exact(r.env k).mono ext
theorem QfQ{T e k:Nat}(E1:∀w,(underlying T).run P w=.ok (.slice e) w)(E2:∀w,(sizeOf e).run P w=.ok k w){ad:Option Addr}{n cap:Nat}{y z:Int}(a:n<=cap)(b:0<=y)(f:y<=z)(g:z<=n):
  (Instr.sliceAt T (.slice ad n cap) (some (.int .i64 y)) (some (.int .i64 z)) (some (.int .i64 z))).run P w=.ok (.slice (if z.toNat=y.toNat then ad else ad.map (·.add (y.toNat*k))) (z.toNat-y.toNat) (z.toNat-y.toNat)) w:=by
 have d:(Instr.sliceBounds true n cap (some (.int .i64 y)) (some (.int .i64 z)) (some (.int .i64 z))).run P w=.ok (y.toNat,z.toNat,z.toNat) w:=by
  simp only[Instr.sliceBounds,Vm,Vn,Result.andThen,Yp (show 0<=z by omega) (show z<=(cap:Int)by omega),Yp (show 0<=z by omega) (show z<=(z.toNat:Int)by omega),Yp b (show y<=(z.toNat:Int)by omega)]
 simp only[Instr.sliceAt,Vm,E1,Result.andThen,Instr.slice,d,E2,Vn]
theorem QkP{α:Type}{T et k b:Nat}{x lo hi G:Operand}{l r:List α}{c d:Int}(h:slc l c d=some r)(E1:∀w,(underlying T).run P w=.ok (.slice et) w)(E2:∀w,(sizeOf et).run P w=.ok k w)
  (B:o.op=.slice T x (some lo) (some hi) (some G):=by exact rfl)(hx:opA env x=.osl b 0 l.length k:=by exact rfl)(h0:opA env lo=.int .i64 c:=by exact rfl)(h1:opA env hi=.int .i64 d:=by exact rfl)(h2:opA env G=.int .i64 d:=by exact rfl):
  OpV P o env H (.osl b (0+Int.toNat c) (Int.toNat d-Int.toNat c) k):=by
 intro V Q σ N a w r;obtain⟨j,s,O,_⟩:=Qck h;have u:=Qk r x;rw[hx]at u;rcases u with⟨g,i⟩|⟨f,p,cap,E,m,g,i,L,⟨M,R⟩,F,J⟩
 .have e:=QfQ (P:=P) (w:=w) E1 E2 (ad:=none) (n:=0) (cap:=0) (y:=c) (z:=d) (XT 0) j s (by omega);refine⟨_,by simp only[execOp,B,i,Vm,Xk,Xj,Qw r h0,Qw r h1,Qw r h2,e,Result.andThen,Vn];rfl,?_⟩;left;have:d.toNat-c.toNat=0:=by omega
  simp[this]
 .have e:=QfQ (P:=P) (w:=w) E1 E2 (ad:=some ⟨f,p,none⟩) (n:=l.length) (cap:=cap) (y:=c) (z:=d) M j s O;refine⟨_,by simp only[execOp,B,i,Vm,Xk,Xj,Qw r h0,Qw r h1,Qw r h2,e,Result.andThen,Vn];rfl,?_⟩;right;by_cases t:d.toNat=c.toNat
  .refine⟨f,p,d.toNat-c.toNat,E,m,g,by simp[t],λq=>by omega,⟨XT _,by omega⟩,F,?_⟩;refine XV (XC k ?_) J;omega
  .refine⟨f,p+c.toNat*k,d.toNat-c.toNat,E,m,g,by simp[t,YR],λq=>?_,⟨XT _,by omega⟩,F,?_⟩
   .rw[L (by omega)];simp
   .refine XV (XC k ?_) J;omega
end
abbrev Ea:=@Ev.bind
abbrev Ec:=@FzH.keep
abbrev Ed:=@FzL.cons
abbrev Ee:=@FzA.refl
abbrev Ef:=@PL.cons
abbrev Eg:=@DS.done
abbrev Eh:=@Ev.and
abbrev Ei:=@EvI.done
abbrev Ej:=@FzL.refl
abbrev Ek:=@OpH.lit
abbrev El:=@RF.cons
abbrev Em:=@Le.trans
abbrev En:=@ZR.int
abbrev Eo:=@FzA.o
abbrev Ep:=@Le.phantom
abbrev Er:=@Ev.or
abbrev Et:=@EvI.cont
abbrev Eu:=@OpU.store
abbrev Ew:=@OpV.load
abbrev Ex:=@Ev.const
theorem Zf.{u,v}{α:Sort u}{β:Sort v}{f:α->β}:∀x,f x=f x:=λ_=>rfl
abbrev Ze.{u,v}{α:Sort u}{β:Type v}:α->List β:=λ_=>[]
end Go.Sw
