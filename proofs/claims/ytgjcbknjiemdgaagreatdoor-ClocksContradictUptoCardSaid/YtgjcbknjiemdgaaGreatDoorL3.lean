/- The rules by which the code is walked, with what they rest on (part 3). -/
import Derived.Test.YtgjcbknjiemdgaaGreatDoorL2
import Derived.Shelf.Spec.SlicesInsertGrow
set_option linter.unusedVariables false
set_option linter.unusedSectionVars false
set_option linter.unusedSimpArgs false
namespace Go.Sw
theorem Le.env{b:Nat}{env env':Env}{H:Qd}(h:∀s,lk env' s=.any\/lk env' s=lk env s):Le b env H env' H:=by
 intro e d σ N a w r;refine⟨d,σ,⟨r.sim,λs=>?_,r.size,r.defers⟩,λ_ q=>q,rfl⟩;rcases h s with h|h
 .rw[h];trivial
 .rw[h];exact r.env s
def QmU(env:Env):Env->Prop
 |[]=>True
 |(s,a)::r=>lk env s=a/\QmU env r
theorem QmU.ok{env:Env}:∀{env':Env},QmU env env'->∀s,lk env' s=.any\/lk env' s=lk env s
 |[],_,s=>.inl rfl
 |(d,a)::e,⟨h1,h2⟩,s=>by
  by_cases q:s=d
  .simp_all[lk]
  .have:Nat.beq s d=false:=by
    simp_all[VL]
   simp only[lk,this,Vp];exact QmU.ok h2 s
theorem Lw{h0:Nat}{env env':Env}{H:Qd}(h:QmU env env'):Le h0 env H env' H:=Le.env h.ok
theorem Qod(n i:Nat):rho (List.range n) n i=i:=by
 grind[rho]
mutual
theorem Qgr{ρ:Nat->Nat}(h:∀i,ρ i=i):∀a:A,Yu ρ a=a
 |.ptr i off=>by simp[Yu,h]
 |.osl i o n k=>by simp[Yu,h]
 |.agg cs=>by simp[Yu,QaT h cs]
 |.fn f a c=>by simp[Yu,QaT h a,QaT h c]
 |.iface t v=>by simp[Yu,Qgr h v]
 |.map i=>by simp[Yu,h]
 |.tup vs=>by simp[Yu,QaT h vs]
 |.any|.bool _|.int _ _|.str _|.nilp|.rp _|.nils|.rsl _ _|.nilf|.nilif|.nilm=>by rfl
theorem QaT{ρ:Nat->Nat}(h:∀i,ρ i=i):∀l:List A,Qaa ρ l=l
 |[]=>rfl
 |a::r=>by simp[Qaa,Qgr h a,QaT h r]
end
theorem Qjm{ρ:Nat->Nat}(h:∀i,ρ i=i):∀l:List (List A),Qfu ρ l=l
 |[]=>rfl
 |a::r=>by simp[Qfu,QaT h a,Qjm h r]
theorem Qjl{ρ:Nat->Nat}(h:∀i,ρ i=i):∀l:List (A×A),Qj3 ρ l=l
 |[]=>rfl
 |a::r=>by simp[Qj3,Qgr h,Qjl h r]
theorem Qne{ρ:Nat->Nat}(h:∀i,ρ i=i):∀b:Blk,QO ρ b=b
 |.cells t cs=>by simp[QO,QaT h cs]
 |.rowr t k es=>by simp[QO,Qjm h es]
 |.ents t a b es=>by simp[QO,h]
 |.wins t a n c=>by simp[QO,h]
 |.mapP es=>by simp[QO,Qjl h es]
 |.dead|.row _ _ _|.map _|.iter _ _|.fmap _|.mapO _ _ _ _|.frow _ _ _=>by rfl
theorem Pw{P:Program}{h0 N:Nat}{all:Array Oper}{o:Oper}{l:List Oper}{env:Env}{H:Qd}{Q:Qz}{d:Nat}{f:FuncId}{args:List A}{v g:A}(r:o.dst=some d)(e:OpC P o env H f args)(h:C P f args H (λa H1=>a=v/\H1=H))(t:Qip v=some (.mk g))
  (hg:Qs all o env true)(m:Nat.blt d N=true)(s:h0<=H.length)(k:WO P h0 N all l (up env d g) H Q):WO P h0 N all (o::l) env H Q:=by
 have b:=Qod H.length;have j:H.map (QO (rho (List.range H.length) H.length))=H:=by
  conv=>rhs;rw[<- List.map_id H]
  grind[List.map_congr_left,Qne]
 have n:(List.range H.length).map (λp=>H[p]?)=(H.map (QO (rho (List.range H.length) H.length))).map some:=by
  rw[j];apply List.ext_getElem?;intro i;by_cases q:i<H.length
  .simp[q]
  .simp[q]
 refine Qt (List.range H.length) e h ?_ (by rw[QaT b]) n List.nodup_range hg r m (XS s)
 simp_all[Qji,QbE]
def ixE(d:Nat)(g:Ground):Edge:={on:=d,ground:=g}
def ixO(d:Nat)(op:Op)(t:Nat)(pos:String)(af:Array Edge):Oper:={dst:=some d,op:=op,type:=t,pos:=pos,after:=af,guard:=none}
def QoP(ts te tf tI tB:Nat):Code:=
 (Code.region 0 [ixO 4 (.assign (.const (.int .i64 0))) tI "slices.go:107" #[]].toArray false).seq
  (((Code.region 1 [ixO 6 (.move (.tmp 0)) ts "slices.go:108" #[],ixO 7 (.call {callee:=.builtin .len,args:= #[.tmp 6],argTypes:= #[ts]}) tI "slices.go:108" #[ixE 0 .data],ixO 8 (.move (.const (.int .i64 0))) tI "slices.go:108" #[]].toArray false).seq
   (.block 0 (.loop ((Code.region 2 [ixO 9 (.binOp .lss tI (.tmp 8) (.tmp 7) tI) 0 "slices.go:108" #[]].toArray false).seq
    ((Code.cond (.tmp 9) .skip (.exit 0)).seq
    ((Code.block 1 ((Code.region 3 [ixO 10 (.move (.tmp 8)) tI "slices.go:108" #[],ixO 5 (.assign (.tmp 10)) tI "slices.go:108" #[ixE 0 .data,ixE 0 .phase]].toArray false).seq
     ((Code.region 4 [ixO 11 (.move (.tmp 1)) tf "slices.go:109" #[],ixO 12 (.move (.tmp 0)) ts "slices.go:109" #[],ixO 13 (.move (.tmp 5)) tI "slices.go:109" #[],ixO 14 (.indexAddr ts (.tmp 12) (.tmp 13)) 0 "slices.go:109" #[ixE 1 .data,ixE 2 .data],
       ixO 15 (.load te (.tmp 14)) te "slices.go:109" #[ixE 3 .data],ixO 16 (.call {callee:=.value (.tmp 11),args:= #[.tmp 15],argTypes:= #[te]}) tB "slices.go:109" #[ixE 0 .data,ixE 4 .data]].toArray false).seq
      (Code.cond (.tmp 16) ((Code.region 5 [ixO 17 (.move (.tmp 5)) tI "slices.go:110" #[],ixO 4 (.assign (.tmp 17)) tI "slices.go:110" #[ixE 0 .data,ixE 0 .phase]].toArray false).seq .ret) .skip)))).seq
     (Code.region 6 [ixO 18 (.binOp .add tI (.tmp 8) (.const (.int .i64 1)) tI) tI "slices.go:108" #[],ixO 8 (.move (.tmp 18)) tI "slices.go:108" #[ixE 0 .data]].toArray false))))))).seq
  ((Code.region 7 [ixO 4 (.assign (.const (.int .i64 (-1)))) tI "slices.go:113" #[]].toArray false).seq .ret))
theorem Q5{P:Program}{T:Type}{e:T->List A}{el:T->A}{Q z W tI tB k:Nat}{V m:FuncId}{fn:Func}{i:List A}{Hc:Qd}{L:List T}{g:T->Option Bool}{n:Nat}{r:Int}
  (hf:P.funcs[V]?=some fn)(hb:fn.body=some (QoP Q z W tI tB))(X:fn.ntmps=19)(O:fn.results= #[.tmp 4])(R:∀w,(underlying Q).run P w=.ok (.slice z) w)(hs:∀w,(sizeOf z).run P w=.ok k w)
  (F:∀(o:Oper) (env:Env) (H:Qd) (x:T),o.op=.load z (.tmp 14)->opA env (.tmp 14)=.rp (e x)->OpV P o env H (el x))
  (B:∀(a:Array Value) (w:World),(callFunc m a).run P w=.ok (.enter m a) w)
  (N:∀x b,g x=some b->C P m (el x::i) Hc (λa H=>a=.bool b/\H=Hc))
  (h:((iter (λs:Int=>bif decide (s<(L.length:Int))then(idx L s).bind λx=>(g x).bind λb=>(bif b then some (Ctl.done (Ctl.done s))else some (Ctl.cont (IntKind.i64.wrap (s+1))))else some (Ctl.done (Ctl.cont ()))) n (0:Int):Option (Ctl Unit Int)).bind λb=>match b with|.cont _=>some (-1)|.done s=>some s)=some r):
  C P V [.rsl k (L.map e),.fn (.func m) [] i] Hc (λa H=>a=.int .i64 r/\H=Hc):=by
 refine Qc hf hb X rfl ?_;refine Rg (S rfl (Nx (TC.seq (Rg (S rfl (LnM R rfl (S rfl (Nx (Bd h λM G h=>?_)))))))));refine QgW (b:=M) (λ_=>[]) (λ_=>Hc) ?_ (λsb10 env H hbe hle=>?_)
 .refine TC.block ?_;refine TC.loop (E:=λq=>[(0,.rsl k (L.map e)),(1,.fn (.func m) [] i),(7,.int .i64 (L.length:Int)),(8,.int .i64 q)]) (Hp:=λ_=>Hc) G ?_ ?_
  .exact Lw ⟨rfl,rfl,rfl,rfl,trivial⟩
  intro q Y d l;refine Rg (S rfl (Nx (TC.seq (Je rfl d (λp d=>?_) (λp d=>?_)))))
  .refine ExX (QC d ?_);obtain rfl:=l _ (Oi d).symm;exact bloE (QE rfl (Lw trivial))
  refine SkN (TC.seq (TC.block (Rg (S rfl (S rfl (Nx (Rg (S rfl (S rfl (S rfl (Bd d λj y d=>Ix y R hs rfl ?_)))))))))));refine Yv (x:=el j) rfl rfl rfl (F _ _ _ j rfl rfl) ?_;refine Bd d λJ u d=>?_;refine Pw rfl (Qg2 (f:=m) (x:=.tmp 11) (xs:=[.tmp 15]) (vf:=[]) (vc:=i) (args:=el j::i) B rfl rfl rfl rfl) (N j J u) rfl rfl rfl (XT _) ?_;refine Nx (Cn rfl d (λt d=>?_) (λt d=>?_))
  .refine Rg (S rfl (S rfl (Nx (TC.ret (bloR (seqR (Yc d ?_)))))));obtain rfl:=l _ (Oi d).symm;refine bloR (QX (seqR ?_));obtain rfl:=Oi h;exact R1 4 O (Lw ⟨rfl,trivial⟩)
  exact TC.skip (bloN (Qle (TC.region (S rfl (S rfl (WO.nil (Qx d (Lw ⟨rfl,rfl,rfl,rfl,trivial⟩))))))))
 subst hbe;refine Qle (Qg hle (Rg (S rfl (Nx (TC.ret ?_)))));obtain rfl:=Oi h;exact R1 4 O (Lw ⟨rfl,trivial⟩)
inductive Kf where
 |seq (c:Code)
 |blo (id:Nat)
 |unr (c:Code)
inductive Cf where
 |code (c:Code)
 |ops (all:Array Oper) (l:List Oper)
 |out (x:AEx)
def kq(P:Program)(h0 N:Nat):List Kf->Qz->Qz
 |[],Q=>Q
 |.seq c::k,Q=>Seq P h0 N c (kq P h0 N k Q)
 |.blo id::k,Q=>Blo id (kq P h0 N k Q)
 |.unr c::k,Q=>QiX P h0 N c (kq P h0 N k Q)
@[reducible] def Hd(P:Program)(h0 N:Nat):Cf->List Kf->Env->Qd->Qz->Prop
 |.code c,k,env,H,Q=>TC P h0 N c env H (kq P h0 N k Q)
 |.ops all l,k,env,H,Q=>WO P h0 N all l env H (kq P h0 N k Q)
 |.out x,k,env,H,Q=>kq P h0 N k Q x env H
def QfF(T:TyX)(h0 N:Nat):Cf->List Kf->Env->Qd->Option (Cf×List Kf×Env×Qd)
 |.code (.seq a b),k,env,H=>some (.code a,.seq b::k,env,H)
 |.code (.block id c),k,env,H=>some (.code c,.blo id::k,env,H)
 |.code (.loop c),k,env,H=>some (.code c,.unr c::k,env,H)
 |.code .skip,k,env,H=>some (.out .normal,k,env,H)
 |.code .ret,k,env,H=>some (.out .ret,k,env,H)
 |.code (.exit id),k,env,H=>some (.out (.exit id),k,env,H)
 |.code (.region id ⟨l⟩ false),k,env,H=>some (.ops ⟨l⟩ l,k,env,H)
 |.code (.cond x a b),k,env,H=>match opB env x with
  |.mk (.bool true)=>some (.code a,k,env,H)
  |.mk (.bool false)=>some (.code b,k,env,H)
  |_=>none
 |.ops all [],k,env,H=>some (.out .normal,k,env,H)
 |.ops all (o::l),k,env,H=>match stX T h0 N all o env H with
  |some (env',H')=>some (.ops all l,k,env',H')
  |none=>none
 |.out .normal,.seq c::k,env,H=>some (.code c,k,env,H)
 |.out (.exit i),.seq _::k,env,H=>some (.out (.exit i),k,env,H)
 |.out .ret,.seq _::k,env,H=>some (.out .ret,k,env,H)
 |.out .normal,.blo _::k,env,H=>some (.out .normal,k,env,H)
 |.out (.exit i),.blo id::k,env,H=>match Nat.beq i id with
  |true=>some (.out .normal,k,env,H)
  |false=>some (.out (.exit i),k,env,H)
 |.out .ret,.blo _::k,env,H=>some (.out .ret,k,env,H)
 |.out .normal,.unr c::k,env,H=>some (.code c,.unr c::k,env,H)
 |.out (.exit i),.unr _::k,env,H=>some (.out (.exit i),k,env,H)
 |.out .ret,.unr _::k,env,H=>some (.out .ret,k,env,H)
 |_,_,_,_=>none
def Qiq(T:TyX)(h0 N:Nat):Nat->Cf->List Kf->Env->Qd->Option (Cf×List Kf×Env×Qd)
 |0,c,k,env,H=>some (c,k,env,H)
 |n+1,c,k,env,H=>match QfF T h0 N c k env H with
  |some (c',k',env',H')=>Qiq T h0 N n c' k' env' H'
  |none=>none
section
variable {P:Program} {T:TyX} {h0 N:Nat} {Q:Qz}
theorem Qk7(d:Qbc P T){c a:Cf}{k b:List Kf}{env env':Env}{H H':Qd}(h:QfF T h0 N c k env H=some (a,b,env',H'))(g:Hd P h0 N a b env' H' Q):Hd P h0 N c k env H Q:=by
 unfold QfF at h;split at h
 .cases h;exact TC.seq g
 .cases h;exact TC.block g
 .cases h;exact QkA g
 .cases h;exact TC.skip g
 .cases h;exact TC.ret g
 .cases h;exact TC.exit g
 .cases h;exact TC.region g
 .split at h
  .rename_i q;cases h;exact QmF (QI q) rfl g
  .rename_i q;cases h;exact QmG (QI q) rfl g
  .cases h
 .cases h;exact WO.nil g
 .grind[Qik]
 .cases h;exact Qle g
 .cases h;exact seqX g
 .cases h;exact seqR g
 .cases h;exact bloN g
 .split at h
  .rename_i q;cases h;have:=XQ q;subst this;exact bloE g
  .rename_i q;cases h;exact bloX q g
 .cases h;exact bloR g
 .cases h;exact unrN g
 .cases h;exact unrX g
 .cases h;exact unrR g
 .cases h
theorem Qcv(hT:Qbc P T):∀(n:Nat) {c c':Cf} {k k':List Kf} {env env':Env} {H H':Qd},Qiq T h0 N n c k env H=some (c',k',env',H')->Hd P h0 N c' k' env' H' Q->Hd P h0 N c k env H Q
 |0,c,c',k,k',env,env',H,H',h,g=>by cases h;exact g
 |n+1,c,c',k,k',env,env',H,H',h,g=>by
  unfold Qiq at h;split at h
  .rename_i e;exact Qk7 hT e (Qcv hT n h g)
  .cases h
theorem Qjb{env:Env}{s:Nat}{a:A}(h:lk env s=a):∀t,lk (up env s a) t=lk env t:=by
 intro t;simp only[up,lk];cases q:Nat.beq t s with
 |true=>simp_all
 |false=>rfl
theorem Is{α:Type}{all:Array Oper}{l:List Oper}{env:Env}{H:Qd}{b:Bool}{x y:Option α}{r:α}(s:Nat)(h:(bif b then x else y)=some r)(d:lkB env s=.mk (.bool b))
  (t:b=true->x=some r->WO P h0 N all l (up env s (.bool true)) H Q)(e:b=false->y=some r->WO P h0 N all l (up env s (.bool false)) H Q):WO P h0 N all l env H Q:=by
 have a:=QiA d;cases b with
 |true=>exact QB (Le.env λt=>.inr (Qjb a t)) (t rfl h)
 |false=>exact QB (Le.env λt=>.inr (Qjb a t)) (e rfl h)
theorem Ct3E{S B1:Type}{A B C:Code}{env:Env}{H:Qd}{k:List Kf}{b:Ctl S B1}(Eb:S->Env)(Hb:S->Qd)(h:TC P h0 N A env H (kq P h0 N [.seq B] (Qgi h0 b Eb Hb (kq P h0 N (.seq C::k) Q))))(g:∀s env H,b=.cont s->Le h0 env H (Eb s) (Hb s)->kq P h0 N (.seq C::k) Q .normal env H):TC P h0 N (.seq A (.seq B C)) env H (kq P h0 N k Q):=
 QmE Eb Hb h g
end
def dstN(o:Oper)(i:Nat):Nat:=match o.dst with|some d=>d|none=>1000000+i
def Qa8:Nat->Nat->List Oper->List Nat
 |0,_,_=>[]
 |_+1,_,[]=>[]
 |m+1,i,o::l=>dstN o i::Qa8 m (i+1) l
def Ya(af:List Nat):Nat->List Nat->List A->Env->Env
 |j,d::ds,x::xs,e=>(d,bif Qdi af j then x else .any)::Ya af (j+1) ds xs e
 |j,d::ds,[],e=>(d,.any)::Ya af (j+1) ds [] e
 |_,[],_,e=>e
theorem Qfv{l:List Nat}{t:Nat}:Qdi l t=l.contains t:=by
 induction l with
 |nil=>rfl
 |cons a r b=>
  grind[Qdi,Nat.eq_of_beq_eq_true,Nat.beq_refl]
theorem QjH{af:List Nat}{env0:Env}{s:Nat}:∀(a:List Nat) (xs f:List A) (b:Nat),
  (∃(j:Nat) (x:A),af.contains (b+j)=true/\a[j]?=some s/\(xs++f)[j]?=some x/\lk (Ya af b a xs env0) s=x)\/lk (Ya af b a xs env0) s=.any\/(a.contains s=false/\lk (Ya af b a xs env0) s=lk env0 s):=by
 intro a
 induction a with
 |nil=>intro xs f b;right;right;exact⟨rfl,by rfl⟩
 |cons d a p=>
  intro xs f b;have next:∀(e:List A),(∃(j:Nat) (x:A),af.contains (b+1+j)=true/\a[j]?=some s/\(e++f)[j]?=some x/\lk (Ya af (b+1) a e env0) s=x)->∀l,(∃(j:Nat) (x:A),af.contains (b+j)=true/\(d::a)[j]?=some s/\(l::e++f)[j]?=some x/\lk (Ya af (b+1) a e env0) s=x):=by
   rintro e ⟨j,x,i,g,n,m⟩ l;exact⟨j+1,x,by grind,by grind,by grind,m⟩
  cases xs with
  |nil=>
   cases q:Nat.beq s d with
   |true=>simp_all[Ya,lk]
   |false=>
    have k:s≠d:=λz=>by simp_all
    simp only[Ya,lk,q,Vp];rcases p [] [] (b+1)with⟨j,x,i,g,n,m⟩|h|⟨i,g⟩
    .simp at n
    .grind
    grind
  |cons x xs=>
   cases q:Nat.beq s d with
   |true=>
    have:=XQ q;subst this;simp only[Ya,lk,q,Vn];cases c:Qdi af b with
    |true=>left;exact⟨0,x,by rw[<- Qfv];exact c,rfl,rfl,rfl⟩
    |false=>simp
   |false=>
    have k:s≠d:=λz=>by simp_all
    simp only[Ya,lk,q,Vp];rcases p xs f (b+1)with h|h|⟨i,g⟩
    .exact .inl (next xs h x)
    .grind
    grind
section
variable {P:Program} {T:TyX} {h0 N m:Nat} {l:List Oper} {ds:List Nat} {env:Env} {H:Qd} {Q:Qz} {K:List Oper->Env->Qd->Prop}
def DS(P:Program)(N m:Nat)(l:List Oper)(ds:List Nat)(env:Env)(H:Qd)(K:List Oper->Env->Qd->Prop)(r:List Oper)(xs:List A):Prop:=
 r=l.drop xs.length->∃ys,xs.length+ys.length=m/\(∀j,xs.length<=j->j<m->Jd P N l ds (xs++ys) env H.length H.length j H H)/\K (l.drop m) (Qar ds (xs++ys) env) H
theorem oqOf{xs:List A}:∀(c i:Nat),(∀j,i<=j->j<i+c->Jd P N l ds xs env H.length H.length j H H)->Oq P N l ds xs env H i c
 |0,i,_=>.n
 |c+1,i,h=>.c (by grind) (oqOf c (i+1) (by grind))
theorem QmZ{id:Nat}{k:List Kf}(m:Nat)(f:P.follows .mixedOrders=true)(j:Go.Sw.draw0 l m N (Qa8 m 0 l)=true)(a:Nat.ble h0 H.length=true)
  (h:DS P N m l (Qa8 m 0 l) env H (λr e H=>WO P h0 N l.toArray r e H Q) l []):TC P h0 N (.region id l.toArray true) env H Q:=by
 obtain⟨g,i,d,b⟩:=h rfl;simp only[List.length_nil,Xv,Vg]at i d b;exact TC.draw0 m _ g f j (by simp_all) a (oqOf m 0 (by grind)) b
theorem DS.done{xs:List A}{r:List Oper}(b:Nat.beq xs.length m=true)(h:K r (Qar ds xs env) H):DS P N m l ds env H K r xs:=by
 intro a;have e:=XQ b;subst a;refine⟨[],by simpa using e,λj f d=>by omega,?_⟩
 grind
theorem DS.add{xs:List A}{o:Oper}{r:List Oper}{x:A}(f:Nat.blt xs.length m=true)(e:∀ys,l[xs.length]?=some o->Jd P N l ds (xs++x::ys) env H.length H.length xs.length H H)(k:DS P N m l ds env H K r (xs++[x])):DS P N m l ds env H K (o::r) xs:=by
 intro b;have a:xs.length<l.length:=by
  grind[List.drop_eq_nil_of_le]
 rw[Xp a]at b;cases b;obtain⟨ys,h,d,g⟩:=k (by simp)
 grind
theorem Qhw{xs a:List A}{x:A}:(xs++x::a)[xs.length]?=some x:=by simp
theorem DS.wo{xs:List A}{o:Oper}{r:List Oper}{x:A}{d:Nat}(h:WO P H.length N l.toArray [o] (Ya (Qh o) 0 ds xs env) H (YS (up (Ya (Qh o) 0 ds xs env) d x) H))(k:DS P N m l ds env H K r (xs++[x]))
  (a:o.dst=some d:=by exact rfl)(hx:Nat.blt xs.length m=true:=by exact rfl):DS P N m l ds env H K (o::r) xs:=
 .add hx (λb e=>.woE o _ d x e a Qhw (he:=by
  intro s;rcases QjH (af:=Qh o) (env0:=env) (s:=s) ds xs (x::b) 0 with⟨j,y,i,f,n,g⟩|q|q
  .grind
  .grind
  grind) (hdd:=QdQ H) (h:=h)) k
theorem DS.v{xs:List A}{o:Oper}{r:List Oper}{x:A}{d:Nat}(h:OpV P o (Ya (Qh o) 0 ds xs env) H x)(k:DS P N m l ds env H K r (xs++[x]))(hg:Qs l.toArray o (Ya (Qh o) 0 ds xs env) true:=by exact rfl)
  (hd:o.dst=some d:=by exact rfl)(hN:Nat.blt d N=true:=by exact rfl)(hx:Nat.blt xs.length m=true:=by exact rfl):DS P N m l ds env H K (o::r) xs:=
 .wo (Yv hg hd hN h (WO.nil YS.mk)) k hd hx
def QcO:List A->A->FL
 |[],x=>.mk [x]
 |a::r,x=>match QcO r x with
  |.mk r'=>.mk (a::r')
theorem Y4:∀(l:List A) (x:A),QcO l x=.mk (l++[x])
 |[],x=>rfl
 |a::r,x=>by unfold QcO;rw[Y4 r];rfl
def Qhh(T:TyX)(N m:Nat)(l:List Oper)(ds:List Nat)(env:Env)(H:Qd):Nat->Nat->List Oper->List A->Option (List Oper×List A)
 |0,_,r,xs=>some (r,xs)
 |_+1,_,[],_=>none
 |n+1,i,o::r,xs=>match Nat.blt i m with
  |false=>none
  |true=>match o.dst with
   |none=>none
   |some d=>match Nat.blt d N with
    |false=>none
    |true=>match YR ⟨l⟩ o (Ya (Qh o) 0 ds xs env)with
     |none=>none
     |some false=>match QcO xs (.tup [])with
      |.mk xs'=>Qhh T N m l ds env H n (i+1) r xs'
     |some true=>match Qc3 T o (Ya (Qh o) 0 ds xs env) H with
      |none=>none
      |some x=>match QcO xs x with
       |.mk xs'=>Qhh T N m l ds env H n (i+1) r xs'
theorem Qew(hT:Qbc P T):∀(n i:Nat) {r r':List Oper} {xs xs':List A},i=xs.length->Qhh T N m l ds env H n i r xs=some (r',xs')->DS P N m l ds env H K r' xs'->DS P N m l ds env H K r xs
 |0,i,r,r',xs,xs',_,h,k=>by cases h;exact k
 |n+1,i,[],r',xs,xs',_,h,k=>by cases h
 |n+1,i,o::r,r',xs,xs',hi,h,k=>by
  subst hi;unfold Qhh at h;split at h
  .cases h
  .rename_i q1;split at h
   .cases h
   .rename_i d hd;split at h
    .cases h
    .rename_i q2;split at h
     .cases h
     .rename_i hw;simp only[Y4]at h;exact .wo (WO.skip (QH hw) hd q2 (WO.nil YS.mk)) (Qew hT n _ (by simp) h k) hd q1
     .rename_i hw;split at h
      .cases h
      .rename_i x hv;simp only[Y4]at h;exact .v (Qat hT hv) (Qew hT n _ (by simp) h k) (QH hw) hd q2 q1
def Qld:List A->Nat->A->FL
 |[],_,_=>.mk []
 |_::r,0,x=>.mk (x::r)
 |a::r,n+1,x=>match Qld r n x with
  |.mk r'=>.mk (a::r')
theorem Qc6:∀{l:List A} {n:Nat} {x:A},YN l n=some x->Qld l n x=.mk l
 |[],n,x,h=>by cases h
 |a::r,0,x,h=>by cases h;rfl
 |a::r,n+1,x,h=>by unfold Qld;rw[Qc6 (l:=r) (n:=n) h]
theorem QcY{α:Type}{b:Bool}{x y:Option α}{v:α}{xs d a:List A}{r:List Oper}(j:Nat)(h:(bif b then x else y)=some v)(i:YN xs j=some (.bool b))(f:Qld xs j (.bool true)=.mk d)(g:Qld xs j (.bool false)=.mk a)
  (t:b=true->x=some v->DS P N m l ds env H K r d)(e:b=false->y=some v->DS P N m l ds env H K r a):DS P N m l ds env H K r xs:=by
 cases b with
 |true=>simp_all[Qc6]
 |false=>simp_all[Qc6]
end
@[reducible] def RQ{β:Type}(w:β->A)(Hc:β->Qd)(r:β):A->Qd->Prop:=λa H=>a=w r/\H=Hc r
@[reducible] def Csm{β:Type}(P:Program)(f:FuncId)(args:List A)(H:Qd)(w:β->A)(r:β):Prop:=C P f args H (RQ w (λ_=>H) r)
structure TyZ where
 sl:List (Nat×Nat×Nat)
 fn:List Nat
structure QcQ (P:Program) (Z:TyZ):Prop where
 sl:∀e∈Z.sl,(∀w,(underlying e.1).run P w=.ok (.slice e.2.1) w)/\ ∀w,(sizeOf e.2.1).run P w=.ok e.2.2 w
 fn:∀f∈Z.fn,∀(a:Array Value) (w:World),(callFunc f a).run P w=.ok (.enter f a) w
section
variable {P:Program} {Z:TyZ} {h0 N:Nat} {all:Array Oper} {o:Oper} {l:List Oper} {env:Env} {H:Qd} {Q:Qz} {d:Nat}
theorem Izz(n:QcQ P Z){α:Type}{e:α->List A}{t m k:Nat}{L:List α}{j:IntKind}{i:Int}{v:α}(h:idx L i=some v)(q:ixB o env=some (d,t,k,L.map e,j,i))(g:WO P h0 N all l (up env d (.rp (e v))) H Q)
  (p:Qb3 Z.sl t=some (m,k))(hg:YR all o env=some true)(b:Nat.blt d N=true):WO P h0 N all (o::l) env H Q:=by
 obtain⟨f,a⟩:=n.sl _ (Qau p);exact Ix h f a q g (QH hg) b
theorem Ize(j:QcQ P Z){α:Type}{e:α->List A}{t f k:Nat}{L:List α}{b:IntKind}{i:Int}{v:α}{cs:List A}(h:idx L i=some v)(he:e v=cs)(q:ixB o env=some (d,t,k,L.map e,b,i))(g:WO P h0 N all l (up env d (.rp cs)) H Q)
  (m:Qb3 Z.sl t=some (f,k))(hg:YR all o env=some true)(a:Nat.blt d N=true):WO P h0 N all (o::l) env H Q:=by
 subst he;exact Izz j h q g m hg a
theorem Lmz(i:QcQ P Z){α:Type}{e:α->List A}{t h k f:Nat}{L:List α}(q:lnB o env=some (d,t,.mk (.rsl k (L.map e))))(g:WO P h0 N all l (up env d (.int .i64 L.length)) H Q)
  (j:Qb3 Z.sl t=some (h,f))(hg:YR all o env=some true)(a:Nat.blt d N=true):WO P h0 N all (o::l) env H Q:=by
 obtain⟨b,m⟩:=i.sl _ (Qau j);exact LnM b q g (QH hg) a
def QfA(Z:TyZ)(o:Oper)(env:Env):Option (Nat×Nat×List A):=
 match o.dst with
 |none=>none
 |some d=>match o.op with
  |.call {callee:=.value (.func f),args:=⟨xs⟩,argTypes:=_}=>bif Qdi Z.fn f then(match fl (Qhn env xs)with|.mk ax=>some (d,f,ax))else none
  |.call {callee:=.value (.tmp x),args:=⟨xs⟩,argTypes:=_}=>match opB env (.tmp x)with
   |.mk (.fn (.func f) vf vc)=>bif Qdi Z.fn f then(match fl (vf++(Qhn env xs++vc))with|.mk ax=>some (d,f,ax))else none
   |_=>none
  |_=>none
theorem Qef(e:QcQ P Z){f:Nat}{args:List A}(h:QfA Z o env=some (d,f,args)):o.dst=some d/\OpC P o env H f args:=by
 unfold QfA at h;split at h
 .cases h
 .rename_i l g;split at h
  .rename_i a xs i b;cases q:Qdi Z.fn a with
   |false=>grind
   |true=>
    rw[q]at h;simp only[Qb9,Vn]at h;cases h;exact⟨g,OpC.fn (xs:=xs) (e.fn _ (QgA q)) b rfl (QcA xs).symm⟩
  .rename_i x xs i b;split at h
   .rename_i a k m j;cases q:Qdi Z.fn a with
    |false=>grind
    |true=>
     rw[q]at h;simp only[Qb9,Vn]at h;cases h;exact⟨g,Qg2 (xs:=xs) (e.fn _ (QgA q)) b rfl (QI j) (by rw[QcA])⟩
   .cases h
  .cases h
theorem Czz(e:QcQ P Z){β γ:Type}{F:Option β}{F':β->Option γ}{r:γ}{f:Nat}{args a:List A}{Hc:Qd}{w:β->A}(π:List Nat)(h:F.bind F'=some r)(j:∀v,F=some v->C P f a Hc (RQ w (λ_=>Hc) v))
  (b:QfA Z o env=some (d,f,args))(g:∀v,F=some v->F' v=some r->WO P h0 N all l (up env d (w v)) H Q)(q:∀v,Qip (w v)=some (.mk (w v)))
  (hargs:args=Qaa (rho π H.length) a)(s:π.map (λp=>H[p]?)=(Hc.map (QO (rho π H.length))).map some)(hπ:π.Nodup)(hg:YR all o env=some true)(k:Nat.blt d N=true)(m:Nat.ble h0 H.length=true):WO P h0 N all (o::l) env H Q:=by
 obtain⟨v,t,i⟩:=Ja h;obtain⟨u,n⟩:=Qef (H:=H) e b
 grind[Pc,QH]
theorem DzZ(z:QcQ P Z){K:List Oper->Env->Qd->Prop}{m:Nat}{e:List Oper}{b:List Nat}{xs:List A}{β γ:Type}{F:Option β}{F':β->Option γ}{r:γ}{f:Nat}{args a:List A}{Hc:Qd}{w:β->A}(π:List Nat)(h:F.bind F'=some r)(q:∀v,F=some v->C P f a Hc (RQ w (λ_=>Hc) v))
  (i:QfA Z o (Ya (Qh o) 0 b xs env)=some (d,f,args))(g:∀v,F=some v->F' v=some r->DS P N m e b env H K l (xs++[w v]))(u:∀v,Qip (w v)=some (.mk (w v)))
  (hargs:args=Qaa (rho π H.length) a)(x:π.map (λp=>H[p]?)=(Hc.map (QO (rho π H.length))).map some)(hπ:π.Nodup)(hg:YR e.toArray o (Ya (Qh o) 0 b xs env)=some true)(s:Nat.blt d N=true)(y:Nat.blt xs.length m=true):DS P N m e b env H K (o::l) xs:=by
 obtain⟨v,j,n⟩:=Ja h;obtain⟨k,t⟩:=Qef (H:=H) z i;exact .wo (Pc π k t (q v j) (u v) (WO.nil YS.mk) hargs x hπ (QH hg) s (by simp)) (g v j n) k y
theorem ln:Qbf H [] []:=trivial
theorem ls{ax b:List A}{a:A}(k:Qbf H ax b)(h:Yq a=true:=by exact rfl):Qbf H (a::ax) (a::b):=⟨.inl ⟨rfl,h⟩,k⟩
theorem lo{ax a:List A}{i n k t:Nat}{es:List (List A)}(b:Qbf H ax a)(d:H[i]?=some (.row t k es):=by exact rfl)(hn:es.length=n:=by exact X0 ..):Qbf H (.osl i 0 n k::ax) (.rsl k es::a):=
 ⟨.inr (by grind),b⟩
theorem Cbz(p:QcQ P Z){β γ:Type}{F:Option β}{F':β->Option γ}{r:γ}{f:Nat}{args a:List A}{w:β->A}(h:F.bind F'=some r)(i:∀v,F=some v->C P f a [] (RQ w (λ_=>[]) v))
  (b:QfA Z o env=some (d,f,args))(e:Qbf H args a)(g:∀v,F=some v->F' v=some r->WO P h0 N all l (up env d (w v)) H Q)(s:∀v,Ye (w v)=true)
  (hg:YR all o env=some true)(j:Nat.blt d N=true):WO P h0 N all (o::l) env H Q:=by
 obtain⟨v,m,q⟩:=Ja h;obtain⟨n,k⟩:=Qef (H:=H) p b;refine Qmy k e (i v m) ?_ ?_ (QH hg) n j
 .grind
 grind
end
def ixL:List Nat:=[0,1,2,3,4,5,6,7,8,9,10,11,12,13,14,15,16,17,18,19,20,21,22,23,24,25,26,27,28,29,30,31,32,33,34,35,36,37,38,39,40,41,42,43,44,45,46,47,48,49,50,51,52,53,54,55,56,57,58,59,60,61,62,63]
def Qiu:List Nat->List Nat->Nat->FN
 |a::r,b::s,j=>bif Nat.beq a j then .mk b else Qiu r s j
 |_,_,j=>.mk j
mutual
def cpA(sel:List Nat):A->Bx
 |.ptr i off=>match Qiu sel ixL i with
  |.mk j=>.mk (.ptr j off)
 |.osl i o n k=>match Qiu sel ixL i with
  |.mk j=>.mk (.osl j o n k)
 |.map i=>match Qiu sel ixL i with
  |.mk j=>.mk (.map j)
 |.fn f a c=>match cpL sel a,cpL sel c with
  |.mk a',.mk c'=>.mk (.fn f a' c')
 |a=>.mk a
def cpL(sel:List Nat):List A->FL
 |[]=>.mk []
 |a::r=>match cpA sel a,cpL sel r with
  |.mk a',.mk r'=>.mk (a'::r')
end
inductive FV where
 |mk (e:Env)
def QlL(sel:List Nat)(env:Env):List Nat->Env->FV
 |[],nE=>.mk nE
 |s::r,nE=>match lkB env s with
  |.mk a=>match cpA sel a,QlL sel env r nE with
   |.mk a',.mk e=>.mk ((s,a')::e)
def selH(H:Qd):List Nat->List Nat->List (Nat×Blk)->FB
 |a::r,p::ps,[]=>match YN H a,selH H r ps []with
  |some b,.mk l=>.mk (b::l)
  |none,.mk l=>.mk l
 |a::r,p::ps,(q,b)::n=>bif Nat.beq p q then(match selH H r ps n with|.mk l=>.mk (b::l))else(match YN H a,selH H r ps ((q,b)::n)with
  |some b,.mk l=>.mk (b::l)
  |none,.mk l=>.mk l)
 |_,_,_=>.mk []
def Qmm(sel keep:List Nat)(nE:Env)(nH:List (Nat×Blk))(env:Env)(H:Qd):Option (Env×Qd):=
 match QlL sel env keep nE,selH H sel ixL nH with
 |.mk e,.mk h=>some (e,h)
section
variable {P:Program} {h0 N:Nat} {c:Code} {env:Env} {H:Qd} {Q:Qz}
def CutQ{β:Type}(h0:Nat)(b:β)(E':β->Env)(H':β->Qd)(Q:Qz):Qz
 |.normal,env,H=>Le h0 env H (E' b) (H' b)
 |.exit id,env,H=>Q (.exit id) env H
 |.ret,env,H=>Q .ret env H
theorem QW{h0:Nat}{env:Env}{H:Qd}{Q:Qz}{β:Type}{b:β}{E':β->Env}{H':β->Qd}(h:Le h0 env H (E' b) (H' b)):CutQ h0 b E' H' Q .normal env H:=h
theorem Ct{β:Type}{E':β->Env}{H':β->Qd}(b:β)(sel keep:List Nat)(nE:β->Env)(nH:β->List (Nat×Blk))(_:∀b,Qmm sel keep (nE b) (nH b) env H=some (E' b,H' b))(h:TC P h0 N c env H (CutQ h0 b E' H' Q))(k:∀env H,Le h0 env H (E' b) (H' b)->Q .normal env H):TC P h0 N c env H Q:=
 h.mono λx env' H' q=>by
  cases x with
  |normal=>exact k _ _ q
  |exit id=>exact q
  |ret=>exact q
theorem CtE{S B:Type}{b:Ctl S B}{E':S->Env}{H':S->Qd}(sel keep:List Nat)(nE:S->Env)(nH:S->List (Nat×Blk))(_:∀s,Qmm sel keep (nE s) (nH s) env H=some (E' s,H' s))(h:TC P h0 N c env H (Qgi h0 b E' H' Q))(k:∀s env H,b=.cont s->Le h0 env H (E' s) (H' s)->Q .normal env H):TC P h0 N c env H Q:=QgW E' H' h k
theorem Lp{S B:Type}{step:S->Option (Ctl S B)}{E':S->Env}{H':S->Qd}{m:Nat}{s0:S}{b0:B}(sel keep:List Nat)(nE:S->Env)(nH:S->List (Nat×Blk))(h:iter step m s0=some b0)(_:∀s,Qmm sel keep (nE s) (nH s) env H=some (E' s,H' s))(hI:Le h0 env H (E' s0) (H' s0))
  (body:∀s d,step s=some d->(∀b,d=.done b->b=b0)->TC P h0 N c (E' s) (H' s) (Qbe (λs env H=>Le h0 env H (E' s) (H' s)) d Q)):TC P h0 N (.loop c) env H Q:=TC.loop E' H' h hI body
end
theorem Oj{S B:Type}{d:Ctl S B}{x b0:B}(hb:∀b,d=.done b->b=b0)(h:some (Ctl.done x)=some d):x=b0:=hb x (Oi h).symm
theorem Rt{P:Program}{a:Nat}{fn:Func}{env:Env}{H:Qd}{β:Type}{e r:β}{w:β->A}{Hc:β->Qd}(h:some e=some r)(s:Nat)(π:List Nat)(b:fn.results= #[.tmp s]:=by exact rfl)(hpre:π.take a=List.range a:=by exact rfl)
  (hH:π.map (λp=>H[p]?)=((Hc e).map (QO (rho π H.length))).map some:=by exact rfl)(hπ:π.Nodup:=by decide)(hE:Qfs (rho π H.length) env [(s,w e)]:=by exact⟨rfl,trivial⟩):QcT P a fn (RQ w Hc r) .ret env H:=by
 cases h;exact R1 s b (Lr π hpre hH hπ hE)
theorem Cl{d:Nat}{env:Env}{H:Qd}{Q:Qz}{β:Type}{e b:β}{E':β->Env}{H':β->Qd}(h:some e=some b)(π:List Nat)(a:π.take d=List.range d:=by exact rfl)
  (hH:π.map (λp=>H[p]?)=((H' e).map (QO (rho π H.length))).map some:=by exact rfl)(hπ:π.Nodup:=by decide)(hE:Qfs (rho π H.length) env (E' e):=by(repeat' (first|exact trivial|refine⟨rfl,?_⟩))):CutQ d b E' H' Q .normal env H:=by
 cases h;exact Lr π a hH hπ hE
def plC(cat:List Nat):List (List (Nat×Nat)):=cat.map λc=>match c with|0=>[(0,0)]|1=>[(0,1)]|2=>[(1,1)]|_=>[(0,0),(1,1)]
def rqC(b:Nat)(cat:List Nat):List (List Nat):=cat.map λc=>match c with|2=>[b]|_=>[]
def hsC(cat:List Nat):List Bool:=cat.map λc=>match c with|1=>true|_=>false
section
variable {P:Program} {T:TyX} {h0 N m b:Nat} {cat:List Nat} {l:List Oper} {ds:List Nat} {env:Env} {H H1:Qd} {Q:Qz} {K:List Oper->Env->Qd->Prop}
theorem Qg3{P:Program}{N:Nat}{l:List Oper}{ds:List Nat}{xs:List A}{env0:Env}{hB hE:Nat}:∀(ss:List (List (Qd×Qd))) (b:Nat),(∀i s,ss[i]?=some s->∀p∈s,Jd P N l ds xs env0 hB hE (b+i) p.1 p.2)->Qg4 P N l ds xs env0 hB hE b ss
 |[],b,h=>.nil
 |s::ss,b,h=>.cons (h 0 s rfl) (Qg3 ss (b+1) λi s' hs=>by rw[show b+1+i=b+(i+1)by omega];simp_all)
def Dob(P:Program)(N:Nat)(cat:List Nat)(l:List Oper)(ds:List Nat)(env:Env)(H H1:Qd)(zs:List A)(j:Nat):Prop:=
 ∀p∈(plC cat).getD j [],Jd P N l ds zs env H.length H.length j ([H,H1].getD p.1 []) ([H,H1].getD p.2 [])
def DB(P:Program)(N m:Nat)(cat:List Nat)(l:List Oper)(ds:List Nat)(env:Env)(H H1:Qd)(K:List Oper->Env->Qd->Prop)(r:List Oper)(xs:List A):Prop:=
 r=l.drop xs.length->∃ys,xs.length+ys.length=m/\(∀j,xs.length<=j->j<m->Dob P N cat l ds env H H1 (xs++ys) j)/\K (l.drop m) (Qar ds (xs++ys) env) H1
def DA(P:Program)(N m:Nat)(cat:List Nat)(l:List Oper)(ds:List Nat)(env:Env)(H:Qd)(K:List Oper->Env->Qd->Prop)(r:List Oper)(xs:List A):Prop:=
 r=l.drop xs.length->∃ys H1,xs.length+ys.length=m/\H.length<=H1.length/\(∀j,xs.length<=j->j<m->Dob P N cat l ds env H H1 (xs++ys) j)/\K (l.drop m) (Qar ds (xs++ys) env) H1
theorem Qpa{d:List A}(b:cat.length=m)(n:∀j,0<=j->j<m->Dob P N cat l ds env H H1 d j):Qg4 P N l ds d env H.length (H.length+0) 0 ((plC cat).map λq=>q.map λp=>([H,H1].getD p.1 [],[H,H1].getD p.2 [])):=by
 refine Qg3 _ 0 λi s a p g=>?_;rw[Xo]at a;cases e:(plC cat)[i]? with
 |none=>grind
 |some q=>
  rw[e]at a;cases a;obtain⟨f,k,rfl⟩:=Xe.1 g;have h:i<m:=by
   grind[plC]
  have:=n i (XU _) h f (by grind)
  grind
theorem DA.len(a:H.length<=H1.length):[H,H1].all (λX=>Nat.ble (H.length+0) X.length)=true:=by
 simp_all
theorem Qm1{id:Nat}(m b:Nat)(cat:List Nat)(k:P.follows .mixedOrders=true)(q:QdP l m N (Qa8 m 0 l) (hsC cat) (rqC b cat) [[],[b]] (plC cat)=true)(d:Nat.beq cat.length m=true)(f:Nat.ble h0 H.length=true)
  (h:DA P N m cat l (Qa8 m 0 l) env H (λr e H=>WO P h0 N l.toArray r e H Q) l []):TC P h0 N (.region id l.toArray true) env H Q:=by
 obtain⟨n,H1,p,j,i,g⟩:=h rfl;simp only[List.length_nil,Xv,Vg]at p i g;have a:=XQ d;exact Jk m 0 _ _ _ _ _ n [H,H1] H1 k q (by grind) rfl f (DA.len j) (by simp) rfl (Qpa a i) (by simp[plC,a]) g
theorem Qa9{xs:List A}{o:Oper}{r:List Oper}(b:o::r=l.drop xs.length):l[xs.length]?=some o/\r=l.drop (xs.length+1):=by
 have a:xs.length<l.length:=by
  grind[List.drop_eq_nil_of_le]
 rw[Xp a]at b
 grind
theorem Qg9{zs:List A}{j c:Nat}(b:YN cat j=some c)(h:∀p∈(match c with|0=>[(0,0)]|1=>[(0,1)]|2=>[(1,1)]|_=>[(0,0),(1,1)]:List (Nat×Nat)),Jd P N l ds zs env H.length H.length j ([H,H1].getD p.1 []) ([H,H1].getD p.2 [])):Dob P N cat l ds env H H1 zs j:=by
 intro p a
 grind[QaA,plC]
theorem Qax{hB hE:Nat}{xs a:List A}{o:Oper}{x:A}{d:Nat}{X X':Qd}(e:l[xs.length]?=some o)(hdd:Qap hB hE X X'=true)(h:WO P X.length N l.toArray [o] (Ya (Qh o) 0 ds xs env) X (YS (up (Ya (Qh o) 0 ds xs env) d x) X'))(b:o.dst=some d):
  Jd P N l ds (xs++x::a) env hB hE xs.length X X':=
 .woE o _ d x e b Qhw (he:=by
  intro s;rcases QjH (af:=Qh o) (env0:=env) (s:=s) ds xs (x::a) 0 with⟨j,y,g,i,k,f⟩|q|q
  .grind
  .grind
  grind) (hdd:=hdd) (h:=h)
theorem YY{n:Nat}{X X':Qd}:Qap n n X X'=true:=by unfold Qap;simp
theorem DA.wo{xs:List A}{o:Oper}{r:List Oper}{x:A}{d:Nat}(h:WO P H.length N l.toArray [o] (Ya (Qh o) 0 ds xs env) H (YS (up (Ya (Qh o) 0 ds xs env) d x) H))(k:DA P N m cat l ds env H K r (xs++[x]))
  (t:YN cat xs.length=some 0:=by exact rfl)(hd:o.dst=some d:=by exact rfl)(hx:Nat.blt xs.length m=true:=by exact rfl):DA P N m cat l ds env H K (o::r) xs:=by
 intro f;obtain⟨u,b⟩:=Qa9 f;obtain⟨i,H1,n,e,s,a⟩:=k (by grind);simp only[X2,XZ,List.length_nil,Vh,VJ,Vg]at n s a;refine⟨x::i,H1,by grind,e,λj y w=>?_,a⟩;rcases VB xs.length j with q|q
 .grind
 .obtain rfl:j=xs.length:=by omega
  refine Qg9 t λp g=>?_;obtain rfl:=VA.1 g;exact Qax u YY h hd
theorem DA.op{xs:List A}{o:Oper}{r:List Oper}{x:A}{d:Nat}(h:WO P H.length N l.toArray [o] (Ya (Qh o) 0 ds xs env) H (YS (up (Ya (Qh o) 0 ds xs env) d x) H1))(k:DB P N m cat l ds env H H1 K r (xs++[x]))(t:Nat.ble H.length H1.length=true:=by exact rfl)
  (hc:YN cat xs.length=some 1:=by exact rfl)(hd:o.dst=some d:=by exact rfl)(hx:Nat.blt xs.length m=true:=by exact rfl):DA P N m cat l ds env H K (o::r) xs:=by
 intro e;obtain⟨s,b⟩:=Qa9 e;obtain⟨g,i,n,a⟩:=k (by grind);simp only[X2,XZ,List.length_nil,Vh,VJ,Vg]at i n a;refine⟨x::g,H1,by grind,(by simp_all),λj w u=>?_,a⟩;rcases VB xs.length j with q|q
 .grind
 .obtain rfl:j=xs.length:=by omega
  refine Qg9 hc λp f=>?_;obtain rfl:=VA.1 f;exact Qax s YY h hd
theorem QbT{xs:List A}{o:Oper}{r:List Oper}{x x':A}{d:Nat}{H1':Qd}(h:OpH P o (Ya (Qh o) 0 ds xs env) H x H1)(b:foA x=.mk x')(a:foH H1=.mk H1')(k:DB P N m cat l ds env H H1' K r (xs++[x']))(e:o.dst=some d:=by exact rfl)(hg:YR ⟨l⟩ o (Ya (Qh o) 0 ds xs env)=some true:=by exact rfl)(hN:Nat.blt d N=true:=by exact rfl)(hl:Nat.ble H.length H1'.length=true:=by exact rfl)
  (hc:YN cat xs.length=some 1:=by exact rfl)(hx:Nat.blt xs.length m=true:=by exact rfl):DA P N m cat l ds env H K (o::r) xs:=by
 rw[QgG]at b;rw[QiF]at a;cases b;cases a;exact .op (QgV (XT _) (QH hg) e hN h (WO.nil YS.mk)) k hl hc e hx
theorem DB.done{xs:List A}{r:List Oper}(b:Nat.beq xs.length m=true)(h:K r (Qar ds xs env) H1):DB P N m cat l ds env H H1 K r xs:=by
 intro a;have e:=XQ b;subst a;refine⟨[],by simpa using e,λj f d=>by omega,?_⟩
 grind
theorem DB.add{xs:List A}{o:Oper}{r:List Oper}{x:A}(e:∀ys,l[xs.length]?=some o->Dob P N cat l ds env H H1 (xs++x::ys) xs.length)(k:DB P N m cat l ds env H H1 K r (xs++[x])):DB P N m cat l ds env H H1 K (o::r) xs:=by
 intro b;obtain⟨h,a⟩:=Qa9 b;obtain⟨ys,g,f,d⟩:=k (by grind)
 grind
theorem DB.wo1{xs:List A}{o:Oper}{r:List Oper}{x:A}{d:Nat}(h:WO P H1.length N l.toArray [o] (Ya (Qh o) 0 ds xs env) H1 (YS (up (Ya (Qh o) 0 ds xs env) d x) H1))(k:DB P N m cat l ds env H H1 K r (xs++[x]))
  (e:YN cat xs.length=some 2:=by exact rfl)(hd:o.dst=some d:=by exact rfl):DB P N m cat l ds env H H1 K (o::r) xs:=
 .add (λf b=>Qg9 e λp a=>by
  obtain rfl:=VA.1 a;exact Qax b YY h hd) k
theorem DB.wo2{xs:List A}{o:Oper}{r:List Oper}{x:A}{d:Nat}(h:WO P H.length N l.toArray [o] (Ya (Qh o) 0 ds xs env) H (YS (up (Ya (Qh o) 0 ds xs env) d x) H))(f:WO P H1.length N l.toArray [o] (Ya (Qh o) 0 ds xs env) H1 (YS (up (Ya (Qh o) 0 ds xs env) d x) H1))(k:DB P N m cat l ds env H H1 K r (xs++[x]))
  (e:YN cat xs.length=some 3:=by exact rfl)(hd:o.dst=some d:=by exact rfl):DB P N m cat l ds env H H1 K (o::r) xs:=
 .add (λg b=>Qg9 e λp a=>by
  rcases X5.1 a with rfl|a
  .exact Qax b YY h hd
  .obtain rfl:=VA.1 a;exact Qax b YY f hd) k
def Qhi(T:TyX)(N m:Nat)(cat:List Nat)(l:List Oper)(ds:List Nat)(env:Env)(H:Qd):Nat->Nat->List Oper->List A->Option (List Oper×List A)
 |0,_,r,xs=>some (r,xs)
 |_+1,_,[],_=>none
 |n+1,i,o::r,xs=>match Nat.blt i m,YN cat i with
  |true,some 0=>match o.dst with
   |none=>none
   |some d=>match Nat.blt d N with
    |false=>none
    |true=>match YR ⟨l⟩ o (Ya (Qh o) 0 ds xs env)with
     |none=>none
     |some false=>match QcO xs (.tup [])with
      |.mk xs'=>Qhi T N m cat l ds env H n (i+1) r xs'
     |some true=>match Qc3 T o (Ya (Qh o) 0 ds xs env) H with
      |none=>none
      |some x=>match QcO xs x with
       |.mk xs'=>Qhi T N m cat l ds env H n (i+1) r xs'
  |_,_=>none
theorem Qez(hT:Qbc P T):∀(n i:Nat) {r r':List Oper} {xs xs':List A},i=xs.length->Qhi T N m cat l ds env H n i r xs=some (r',xs')->DA P N m cat l ds env H K r' xs'->DA P N m cat l ds env H K r xs
 |0,i,r,r',xs,xs',_,h,k=>by cases h;exact k
 |n+1,i,[],r',xs,xs',_,h,k=>by cases h
 |n+1,i,o::r,r',xs,xs',hi,h,k=>by
  subst hi;unfold Qhi at h;split at h
  .rename_i q1 q0;split at h
   .cases h
   .rename_i d hd;split at h
    .cases h
    .rename_i q2;split at h
     .cases h
     .rename_i hw;simp only[Y4]at h;exact .wo (WO.skip (QH hw) hd q2 (WO.nil YS.mk)) (Qez hT n _ (by simp) h k) q0 hd q1
     .rename_i hw;split at h
      .cases h
      .rename_i x hv;simp only[Y4]at h;exact .wo (Yv (QH hw) hd q2 (Qat hT hv) (WO.nil YS.mk)) (Qez hT n _ (by simp) h k) q0 hd q1
  .cases h
theorem Qnf{H:Qd}{p:Bx}{r:Lx}(h:ptX [] p=some r):ptX H p=some r:=by
 unfold ptX at h⊢
 grind[YN]
theorem Qem{o:Oper}{e:Env}{H:Qd}{x:A}(h:Qc3 T o e []=some x):Qc3 T o e H=some x:=by
 unfold Qc3 at h⊢;split at h<;>first|exact h|skip
 rename_i t y a;split at h
 .cases h
 grind[Qnf]
def Qey(T:TyX)(N:Nat)(cat:List Nat)(l:List Oper)(ds:List Nat)(env:Env)(H1:Qd):Nat->Nat->List Oper->List A->Option (List Oper×List A)
 |0,_,r,xs=>some (r,xs)
 |_+1,_,[],_=>none
 |n+1,i,o::r,xs=>match o.dst with
  |none=>none
  |some d=>match Nat.blt d N with
   |false=>none
   |true=>match YR ⟨l⟩ o (Ya (Qh o) 0 ds xs env)with
    |none=>none
    |some false=>match YN cat i with
     |some 2=>(match QcO xs (.tup [])with
      |.mk xs'=>Qey T N cat l ds env H1 n (i+1) r xs')
     |some 3=>(match QcO xs (.tup [])with
      |.mk xs'=>Qey T N cat l ds env H1 n (i+1) r xs')
     |_=>none
    |some true=>match YN cat i with
     |some 2=>(match Qc3 T o (Ya (Qh o) 0 ds xs env) H1 with
      |none=>none
      |some x=>match QcO xs x with
       |.mk xs'=>Qey T N cat l ds env H1 n (i+1) r xs')
     |some 3=>(match Qc3 T o (Ya (Qh o) 0 ds xs env) []with
      |none=>none
      |some x=>match QcO xs x with
       |.mk xs'=>Qey T N cat l ds env H1 n (i+1) r xs')
     |_=>none
theorem QbH(hT:Qbc P T):∀(n i:Nat) {r r':List Oper} {xs xs':List A},i=xs.length->Qey T N cat l ds env H1 n i r xs=some (r',xs')->DB P N m cat l ds env H H1 K r' xs'->DB P N m cat l ds env H H1 K r xs
 |0,i,r,r',xs,xs',_,h,k=>by cases h;exact k
 |n+1,i,[],r',xs,xs',_,h,k=>by cases h
 |n+1,i,o::r,r',xs,xs',hi,h,k=>by
  subst hi;unfold Qey at h;split at h
  .cases h
  .rename_i d hd;split at h
   .cases h
   .rename_i q2;split at h
    .cases h
    .rename_i hw;split at h
     .rename_i q0;simp only[Y4]at h;exact .wo1 (WO.skip (QH hw) hd q2 (WO.nil YS.mk)) (QbH hT n _ (by simp) h k) q0 hd
     .rename_i q0;simp only[Y4]at h;exact .wo2 (WO.skip (QH hw) hd q2 (WO.nil YS.mk)) (WO.skip (QH hw) hd q2 (WO.nil YS.mk)) (QbH hT n _ (by simp) h k) q0 hd
     .cases h
    .rename_i hw;split at h
     .rename_i q0;split at h
      .cases h
      .rename_i x hv;simp only[Y4]at h;exact .wo1 (Yv (QH hw) hd q2 (Qat hT hv) (WO.nil YS.mk)) (QbH hT n _ (by simp) h k) q0 hd
     .rename_i q0;split at h
      .cases h
      .rename_i x hv;simp only[Y4]at h;exact .wo2 (Yv (QH hw) hd q2 (Qat hT (Qem hv)) (WO.nil YS.mk)) (Yv (QH hw) hd q2 (Qat hT (Qem hv)) (WO.nil YS.mk)) (QbH hT n _ (by simp) h k) q0 hd
     .cases h
end
def chkF(L:List (Nat×List (Nat×Nat)))(fs:List (Nat×Nat×Nat)):Bool:=
 fs.all λe=>match Qb3 L e.1 with
  |some pl=>(match YN pl e.2.1 with
   |some q=>Nat.beq q.1 e.2.2&& !(Nat.beq q.2 0)
   |none=>false)
  |none=>false
theorem PL.get{P:Program}{fs:List Field}{a:List (Nat×Nat)}(h:PL P fs a):∀{f off n:Nat},YN a f=some (off,n)->∃fd,fs[f]?=some fd/\fd.offset=off/\ ∀w,(sizeOf fd.type).run P w=.ok n w:=by
 induction h with
 |nil=>intro f off n h;cases h
 |cons h k d=>
  intro f off n b;cases f with
  |zero=>cases b;grind
  |succ f=>grind[YN]
theorem QoT{P:Program}{L:List (Nat×List (Nat×Nat))}{fs:List (Nat×Nat×Nat)}(f:∀e∈L,Qy P e.1 e.2)(h:chkF L fs=true):∀e∈fs,∃n,YL P e.1 e.2.1 e.2.2 n:=by
 intro e i;have:=Xs.1 h e i;split at this
 .rename_i t a;split at this
  .rename_i q m;obtain⟨p,n⟩:=q;simp only[XW,Bool.not_eq_true']at this;have r:=XQ this.1;obtain⟨j,l,d⟩:=f _ (Qau a);obtain⟨b,s,g,k⟩:=PL.get d m;refine⟨n,⟨⟨_,b,l,by grind,g.trans r,k,?_⟩⟩⟩
   grind[Nat.beq_refl]
  .cases this
 .cases this
section
variable {P:Program} {Z:TyZ} {h0 N:Nat} {all:Array Oper} {o:Oper} {l:List Oper} {env:Env} {H:Qd} {Q:Qz} {d:Nat}
theorem Cdz(s:QcQ P Z){β γ:Type}{F:Option β}{F':β->Option γ}{r:γ}{f:Nat}{args a:List A}{Hc:Qd}{w:β->A}{Hr:β->Qd}(π:List Nat)(h:F.bind F'=some r)(e:∀v,F=some v->C P f a Hc (RQ w Hr v))
  (b:QfA Z o env=some (d,f,args))(g:∀v,F=some v->F' v=some r->WO P h0 N all l (up env d (Yu (rho π H.length) (w v))) (Yh H π ((Hr v).map (QO (rho π H.length)))) Q)
  (hargs:args=Qaa (rho π H.length) a)(m:π.map (λp=>H[p]?)=(Hc.map (QO (rho π H.length))).map some)(hπ:π.Nodup)(hg:YR all o env=some true)(i:Nat.blt d N=true)(j:Nat.ble h0 H.length=true):WO P h0 N all (o::l) env H Q:=by
 obtain⟨v,n,t⟩:=Ja h;obtain⟨q,k⟩:=Qef (H:=H) s b;refine Qt π k (e v n) ?_ hargs m hπ (QH hg) q i j
 grind
end
inductive FLL where
 |mk (l:List (List A))
def cpLL(sel:List Nat):List (List A)->FLL
 |[]=>.mk []
 |a::r=>match cpL sel a,cpLL sel r with
  |.mk a',.mk r'=>.mk (a'::r')
inductive FBk where
 |mk (b:Blk)
def cpBk(sel:List Nat):Blk->FBk
 |.cells t cs=>match cpL sel cs with
  |.mk l=>.mk (.cells t l)
 |.rowr t k es=>match cpLL sel es with
  |.mk l=>.mk (.rowr t k l)
 |.wins t a n c=>match Qiu sel ixL a with
  |.mk a'=>.mk (.wins t a' n c)
 |.ents t a b es=>match Qiu sel ixL a,Qiu sel ixL b with
  |.mk a',.mk b'=>.mk (.ents t a' b' es)
 |b=>.mk b
def selD(H:Qd)(sel:List Nat):List Nat->FB
 |[]=>.mk []
 |a::r=>match YN H a with
  |some b=>(match cpBk sel b,selD H sel r with
   |.mk b',.mk l=>.mk (b'::l))
  |none=>.mk []
def retC(sel sl:List Nat)(env:Env)(H:Qd):Option (Env×Qd):=
 match QlL sel env sl [],selD H sel sel with
 |.mk e,.mk h=>some (e,h)
theorem Rx{P:Program}{d:Nat}{fn:Func}{env E':Env}{H H':Qd}{Qr:A->Qd->Prop}{e:A}(π sl:List Nat)(_:retC π sl env H=some (E',H'))(b:Qca P fn E' H' e)(f:Qr e H')(a:π.take d=List.range d:=by exact rfl)
  (hH:π.map (λp=>H[p]?)=(H'.map (QO (rho π H.length))).map some:=by exact rfl)(hπ:π.Nodup:=by decide)(hE:Qfs (rho π H.length) env E':=by(repeat' (first|exact trivial|refine⟨rfl,?_⟩))):QcT P d fn Qr .ret env H:=
 ⟨E',H',e,Lr π a hH hπ hE,b,f⟩
def nxL{T:Type}:List T->T->List T->Prop:=λl x rem=>l=x::rem
def runL{S T B:Type}(step:S->T->Option (Ctl S B)):List T->S->Option (Ctl S B)
 |[],s=>some (.cont s)
 |x::l,s=>(step s x).bind λd=>match d with
  |.cont s'=>runL step l s'
  |.done b=>some (.done b)
def QbJ{S T B:Type}(step:S->Option (List T×Ctl S B)):Nat->S->Option (List T×B)
 |0,_=>none
 |n+1,s=>(step s).bind λp=>match p.2 with
  |.cont s'=>(QbJ step n s').bind λq=>some (p.1++q.1,q.2)
  |.done b=>some (p.1,b)
def QmJ{S B:Type}(h1:Nat)(env:Env)(Q:Qz)(d:Ctl S B)(Hp:S->Qd):Qz
 |.normal,env',H'=>∃s,d=.cont s/\Le h1 env' H' [] (Hp s)
 |.exit id,env',H'=>(∃b,d=.done b)/\ ∃H2,Le h1 env' H' [] H2/\Q (.exit id) env H2
 |.ret,env',H'=>(∃b,d=.done b)/\ ∃H2,Le h1 env' H' [] H2/\Q .ret env H2
theorem Qcw{S B:Type}{h1:Nat}{env env':Env}{H':Qd}{Q:Qz}{s:S}{d:Ctl S B}{Hp:S->Qd}(e:some (Ctl.cont s)=some d)(h:Le h1 env' H' [] (Hp s)):QmJ h1 env Q d Hp .normal env' H':=⟨s,(Oi e).symm,h⟩
theorem Qbd{P:Program}{h0 N:Nat}{m:Operand}{ps:List Nat}{assign body:Code}{env:Env}{H:Qd}{Q:Qz}{f:FuncId}{g a:List A}{Hc:Qd}{T S B:Type}{enc:T->List A}{xs:List T}{step:S->T->Option (Ctl S B)}{s0:S}{D:Ctl S B}
  (π:List Nat)(Hp:S->Qd)(h:runL step xs s0=some D)(n:QmH P f a Hc enc nxL xs)(r:∀x,(enc x).length=ps.length)(M:∀args w,(callFunc f args).run P w=.ok (.enter f args) w)
  (V:Nat.ble h0 H.length=true)(hg:opA env m=.fn (.func f) [] g)(hargs:g=Qaa (rho π H.length) a)(J:π.map (λp=>H[p]?)=(Hc.map (QO (rho π H.length))).map some)(hπ:π.Nodup)(y:(ps.all λp=>Nat.blt p N)=true)
  (j:Le H.length env (QdJ H π) env (Hp s0))
  (i:∀s x d,step s x=some d->(∀b,d=.done b->D=.done b)->TC P H.length N assign (Qk4 ps (enc x) env) (Hp s) λe env1 H1=>e=.normal/\TC P H.length N body env1 H1 (QmJ H.length env Q d Hp))
  (k:∀s,D=.cont s->Q .normal env (Hp s)):TC P h0 N (.rangeFunc m ps.toArray assign body) env H Q:=by
 refine TC.rangeFunc π Hp (λs l=>runL step l s=some D) s0 (by simp_all) hg hargs J hπ y M n r j h ?_ ?_
 .rintro s l x rem t rfl;obtain⟨d,O,t⟩:=Ja t;refine(i s x d O ?_).mono ?_
  .grind
  .rintro e env1 H1 ⟨G,L⟩;refine⟨G,L.mono ?_⟩;intro F z H2 q;cases F with
   |normal=>
    obtain⟨E,rfl,j⟩:=q;exact⟨Hp E,j,E,t,rfl⟩
   |exit id=>
    obtain⟨_,H3,u,q⟩:=q;exact⟨H3,u,q⟩
   |ret=>
    obtain⟨_,H3,u,q⟩:=q;exact⟨H3,u,q⟩
 .intro s R;exact k s (Oi R).symm
section
variable {T:Type} {X:Ctx T} {P:Program} {h0 N:Nat} {c:Code} {env:Env} {H:Qd} {st:YSt T} {Q:YD T}
def Qfq{S B:Type}(h0:Nat)(E:S->Env)(Hp:S->Qd)(d:Ctl S B)(rest:List T)(Q:YD T):YD T
 |.normal,env,H,st=>∃s,d=.cont s/\Le h0 env H (E s) (Hp s)/\st=.on rest
 |.exit id,env,H,st=>Q (.exit id) env H st
 |.ret,env,H,st=>Q .ret env H st
theorem Qky{S B:Type}{step:S->Option (List T×Ctl S B)}{E:S->Env}{Hp:S->Qd}{m:Nat}{s0:S}{l rem:List T}{b:B}(h:QbJ step m s0=some (l,b))(z:Le h0 env H (E s0) (Hp s0))
  (body:∀s zs d rest,step s=some (zs,d)->(∀b',d=.done b'->b'=b/\rest=rem)->TCy X P h0 N c (E s) (Hp s) (.on (zs++rest)) (Qfq h0 E Hp d rest Q)):TCy X P h0 N (.loop c) env H (.on (l++rem)) Q:=by
 refine Qkz (I:=λn env H r=>∃s a,QbJ step n s=some (a,b)/\r=.on (a++rem)/\Le h0 env H (E s) (Hp s)) ?_ ⟨s0,l,h,rfl,z⟩;rintro n env H r ⟨s,a,f,rfl,k⟩;cases n with
 |zero=>cases f
 |succ n=>
  obtain⟨⟨zs,d⟩,p,f⟩:=Ja f;refine Qo5 k ?_;cases d with
  |cont u=>
   obtain⟨⟨w,F⟩,y,f⟩:=Ja f;cases f;rw[Vh];refine(body s zs (.cont u) (w++rem) p (λb' e=>by cases e)).mono ?_;rintro x g H' i q;cases x with
   |normal=>
    obtain⟨t,e,j,rfl⟩:=q;cases e;exact⟨n,Xn n,_,_,y,rfl,j⟩
   |exit id=>exact q
   |ret=>exact q
  |done b'=>
   cases f;refine(body s _ (.done b) rem p (λb' e=>by cases e;exact⟨rfl,rfl⟩)).mono ?_;rintro x g H' i q;cases x with
   |normal=>obtain⟨t,e,_⟩:=q;cases e
   |exit id=>exact q
   |ret=>exact q
def kqY(X:Ctx T)(P:Program)(h0 N:Nat):List Kf->YD T->YD T
 |[],Q=>Q
 |.seq c::k,Q=>SeqY X P h0 N c (kqY X P h0 N k Q)
 |.blo id::k,Q=>BloY id (kqY X P h0 N k Q)
 |.unr c::k,Q=>λ_ _ _ _=>False
@[reducible] def HdY(X:Ctx T)(P:Program)(h0 N:Nat):Cf->List Kf->Env->Qd->YSt T->YD T->Prop
 |.code c,k,env,H,st,Q=>TCy X P h0 N c env H st (kqY X P h0 N k Q)
 |.ops all l,k,env,H,st,Q=>WOy X P h0 N all l env H st (kqY X P h0 N k Q)
 |.out x,k,env,H,st,Q=>kqY X P h0 N k Q x env H st
def QnX:Cf->List Kf->Bool
 |.code (.loop _),_=>false
 |.out _,.unr _::_=>false
 |_,_=>true
theorem Qk6{Tx:TyX}(f:Qbc P Tx){c b:Cf}{k d:List Kf}{env env':Env}{H H':Qd}(h:QfF Tx h0 N c k env H=some (b,d,env',H'))(a:QnX c k=true)(g:HdY X P h0 N b d env' H' st Q):HdY X P h0 N c k env H st Q:=by
 unfold QfF at h;split at h
 .cases h;exact TCy.seq g
 .cases h;exact TCy.block g
 .cases a
 .cases h;exact TCy.skip g
 .cases h;exact TCy.ret g
 .cases h;exact TCy.exit g
 .cases h;exact TCy.region g
 .grind[TCy.cond,QI]
 .cases h;exact WOy.nil g
 .split at h
  .rename_i q;cases h;exact WOy.step (Qik f q (WO.nil ⟨rfl,g⟩))
  .cases h
 .cases h;exact g
 .cases h;exact g
 .cases h;exact g
 .cases h;exact g
 .split at h
  .rename_i q;cases h;have e:=XQ q;subst e;show(bif Nat.beq _ _ then _ else _)
   grind
  .rename_i q;cases h;show(bif Nat.beq _ _ then _ else _)
   grind
 .cases h;exact g
 .cases a
 .cases a
 .cases a
 .cases h
def Qj1(Tx:TyX)(h0 N:Nat):Nat->Cf->List Kf->Env->Qd->Option (Cf×List Kf×Env×Qd)
 |0,c,k,env,H=>some (c,k,env,H)
 |n+1,c,k,env,H=>match QnX c k with
  |true=>(match QfF Tx h0 N c k env H with
   |some (c',k',env',H')=>Qj1 Tx h0 N n c' k' env' H'
   |none=>none)
  |false=>none
theorem Qd6{Tx:TyX}(hT:Qbc P Tx):∀(n:Nat) {c c':Cf} {k k':List Kf} {env env':Env} {H H':Qd},Qj1 Tx h0 N n c k env H=some (c',k',env',H')->HdY X P h0 N c' k' env' H' st Q->HdY X P h0 N c k env H st Q
 |0,c,c',k,k',env,env',H,H',h,g=>by cases h;exact g
 |n+1,c,c',k,k',env,env',H,H',h,g=>by
  unfold Qj1 at h;split at h
  .rename_i hn;split at h
   .rename_i e;exact Qk6 hT e hn (Qd6 hT n h g)
   .cases h
  .cases h
theorem TCy.lf{k:List Kf}(h:TC P h0 N c env H (λx env H=>kqY X P h0 N k Q x env H st)):TCy X P h0 N c env H st (kqY X P h0 N k Q):=TCy.lift h
theorem Qo1{all:Array Oper}{o:Oper}{r:List Oper}{d:Nat}{x:T}{l:List T}{e:T->A}{y z:Operand}{a:Array TypeId}(hE:X.enc=λx=>[e x])(b:X.nx=nxL)(i:o.op=.call {callee:=.value y,args:= #[z],argTypes:=a})(g:opA env y=.fn (.yield X.l) [] [])(f:opA env z=e x)(h:Yq (e x)=true)
  (k:WOy X P h0 N all r (up env d (.bool true)) H (.on l) Q)(j:WOy X P h0 N all r (up env d (.bool false)) H (.off l) Q)(hg:Qs all o env true:=by exact rfl)(hd:o.dst=some d:=by exact rfl)(hNd:Nat.blt d N=true:=by exact rfl):WOy X P h0 N all (o::r) env H (.on (x::l)) Q:=by
 refine WOy.yield (x:=x) (rem:=l) (by rw[b];rfl) hg hd hNd ?_ ?_
 .rw[hE];exact Qk0 i g f h
 grind
theorem WOy.y2{all:Array Oper}{o:Oper}{r:List Oper}{d:Nat}{x:T}{l:List T}{h a:T->A}{y i j:Operand}{k:Array TypeId}(hE:X.enc=λx=>[h x,a x])(m:X.nx=nxL)(p:o.op=.call {callee:=.value y,args:= #[i,j],argTypes:=k})(n:opA env y=.fn (.yield X.l) [] [])(e:opA env i=h x)(f:opA env j=a x)(g:Yq (h x)=true)(b:Yq (a x)=true)
  (s:WOy X P h0 N all r (up env d (.bool true)) H (.on l) Q)(q:WOy X P h0 N all r (up env d (.bool false)) H (.off l) Q)(hg:Qs all o env true:=by exact rfl)(hd:o.dst=some d:=by exact rfl)(hNd:Nat.blt d N=true:=by exact rfl):WOy X P h0 N all (o::r) env H (.on (x::l)) Q:=by
 refine WOy.yield (x:=x) (rem:=l) (by rw[m];rfl) hg hd hNd ?_ ?_
 .rw[hE];exact QjY p n e f g b
 grind
end
def yl{T R:Type}(x:T)(k:Option (List T×R)):Option (List T×R):=k.bind λp=>some (x::p.1,p.2)
def ap{T B R:Type}(a:Option (List T×B))(k:B->Option (List T×R)):Option (List T×R):=a.bind λp=>(k p.2).bind λq=>some (p.1++q.1,q.2)
theorem yl_ok{T R:Type}{x:T}{k:Option (List T×R)}{a:List T}{v:R}(h:yl x k=some (a,v)):∃zs,k=some (zs,v)/\a=x::zs:=by
 obtain⟨⟨zs,b⟩,e,d⟩:=Ja h
 grind
theorem ap_ok{T B R:Type}{a:Option (List T×B)}{k:B->Option (List T×R)}{d:List T}{v:R}(h:ap a k=some (d,v)):∃y1 b y2,a=some (y1,b)/\k b=some (y2,v)/\d=y1++y2:=by
 obtain⟨⟨y1,b⟩,j,e⟩:=Ja h;obtain⟨⟨y2,g⟩,i,f⟩:=Ja e
 grind
section
variable {T:Type} {X:Ctx T} {P:Program} {h0 N:Nat} {c c':Code} {env:Env} {H:Qd} {st:YSt T} {Q:YD T}
def Qm2{β:Type}(h0:Nat)(b:β)(E':β->Env)(H':β->Qd)(rem:List T)(Q:YD T):YD T
 |.normal,env,H,st=>Le h0 env H (E' b) (H' b)/\st=.on rem
 |.exit id,env,H,st=>Q (.exit id) env H st
 |.ret,env,H,st=>Q .ret env H st
theorem Qmz{β:Type}{E':β->Env}{H':β->Qd}(b:β)(rem:List T)(sel keep:List Nat)(nE:β->Env)(nH:β->List (Nat×Blk))(_:∀b,Qmm sel keep (nE b) (nH b) env H=some (E' b,H' b))(h:TCy X P h0 N c env H st (Qm2 h0 b E' H' rem Q))(k:∀env H,Le h0 env H (E' b) (H' b)->Q .normal env H (.on rem)):TCy X P h0 N c env H st Q:=
 h.mono λx env' H' st' q=>by
  cases x with
  |normal=>obtain⟨q1,rfl⟩:=q;grind
  |exit id=>exact q
  |ret=>exact q
theorem cutYN{β:Type}{b:β}{E':β->Env}{H':β->Qd}{rem:List T}(h:Le h0 env H (E' b) (H' b)):Qm2 h0 b E' H' rem Q .normal env H (.on rem):=⟨h,rfl⟩
theorem cutYR{β:Type}{b:β}{E':β->Env}{H':β->Qd}{rem:List T}(h:Q .ret env H st):Qm2 h0 b E' H' rem Q .ret env H st:=h
theorem Qo4{S B:Type}{step:S->Option (List T×Ctl S B)}{E':S->Env}{H':S->Qd}{m:Nat}{s0:S}{ys rem:List T}{b:B}(sel keep:List Nat)(nE:S->Env)(nH:S->List (Nat×Blk))(h:QbJ step m s0=some (ys,b))(_:∀s,Qmm sel keep (nE s) (nH s) env H=some (E' s,H' s))(hI:Le h0 env H (E' s0) (H' s0))
  (body:∀s zs d rest,step s=some (zs,d)->(∀b',d=.done b'->b'=b/\rest=rem)->TCy X P h0 N c (E' s) (H' s) (.on (zs++rest)) (Qfq h0 E' H' d rest Q)):TCy X P h0 N (.loop c) env H (.on (ys++rem)) Q:=Qky h hI body
theorem QoM{S B:Type}{E':S->Env}{H':S->Qd}{s:S}{d:Ctl S B}{zs rest:List T}(e:some (([]:List T),Ctl.cont s)=some (zs,d))(h:Le h0 env H (E' s) (H' s)):Qfq h0 E' H' d rest Q .normal env H (.on (zs++rest)):=by
 cases e;exact⟨s,rfl,h,rfl⟩
theorem QoK{S B:Type}{id:Nat}{E':S->Env}{H':S->Qd}{d:Ctl S B}{rest:List T}(h:Q (.exit id) env H st):Qfq h0 E' H' d rest Q (.exit id) env H st:=h
theorem QoL{S B:Type}{E':S->Env}{H':S->Qd}{d:Ctl S B}{rest:List T}(h:Q .ret env H st):Qfq h0 E' H' d rest Q .ret env H st:=h
theorem Oy{S B:Type}{d:Ctl S B}{x b:B}{zs rest rem:List T}(a:∀b',d=.done b'->b'=b/\rest=rem)(h:some (([]:List T),Ctl.done x)=some (zs,d)):zs=[]/\b=x/\rest=rem:=by
 grind
theorem Qh4{f:FuncId}{fn:Func}{c:Code}{N:Nat}{a:List A}{H:Qd}{enc:T->List A}{xs:List T}(e:P.funcs[f]?=some fn)(b:fn.body=some c)(d:fn.ntmps=N)(g:Nat.ble (a.length+1) N=true)(i:fn.results= #[])
  (h:∀X:Ctx T,X.enc=enc->X.nx=nxL->TCy X P H.length N c (Qf3 0 (.fn (.yield X.l) [] []::a)) H (.on (xs++[])) EndY):QmH P f a H enc nxL xs:=by
 grind[QgX]
end
open Go.MapKept
section
variable {fr ro:Nat->Prop} {σ:Sig} {H:Qd} {w:World}
end
end Go.Sw
namespace Go.Sw
open Go.MapKept
def Qby{α β:Type}(ek:α->A)(ev:β->List A)(l:List (α×Option (List β))):List (A×Option (List (List A))):=l.map λp=>(ek p.1,p.2.map (List.map ev))
def Qjp{α β:Type}[DecidableEq α](l:List (α×Option (List β)))(x:α):List (α×Option (List β)):=l.map λp=>bif decide (p.1=x)then(p.1,none)else p
section
variable {P:Program} {kt:TypeId} {α β:Type} [DecidableEq α] {ek:α->A} {ev:β->List A} {ro:Nat->Prop} {w:World} {t k:Nat} (K:Qab P kt ek)
include K
theorem QjQ{x:α}:∀{l:List (α×Option (List β))} {es:List MapEntry},MO ro w t k (Qby ek ev l) es->MO ro w t k (Qby ek ev (Qjp l x)) es
 |[],es,h=>h
 |p::l,es,h=>by
  obtain⟨e,l',rfl,h1,h2,h3⟩:=h;by_cases q:p.1=x
  .refine⟨e,l',rfl,by grind,λrows hr=>?_,QjQ (l:=l) h3⟩
   grind
  .refine⟨e,l',rfl,by grind,(by grind),QjQ (l:=l) h3⟩
omit K
theorem Qdy{x:α}{c:Nat}:∀{l:List (α×Option (List β))} {es:List MapEntry},Qd3 (Qby ek ev (Qjp l x)) es c->Qd3 (Qby ek ev l) es c
 |[],es,h=>by cases es<;>exact h.elim
 |p::l,[],h=>h.elim
 |p::l,e::es,h=>by
  rcases h with⟨h1,h2⟩|h
  .by_cases q:p.1=x
   .grind
   .exact .inl ⟨by grind,h2⟩
  .exact .inr (Qdy (l:=l) h)
theorem QkT{x:α}:∀{l:List (α×Option (List β))} {es:List MapEntry},Qi4 (Qby ek ev l) es->Qi4 (Qby ek ev (Qjp l x)) es
 |[],es,h=>by cases es<;>trivial
 |p::l,[],h=>trivial
 |p::l,e::es,h=>by
  obtain⟨h1,h2⟩:=h;refine⟨λc q1 q2 q3=>?_,QkT (l:=l) h2⟩;by_cases q:p.1=x
  .grind
  .exact h1 c (by grind) q2 (Qdy (l:=l) q3)
include K
theorem MO.find:∀{l:List (α×Option (List β))} {es:List MapEntry},MO ro w t k (Qby ek ev l) es->∀(x:α),(es.map (·.key)).Nodup->
  ((∀e:MapEntry,e∈es->e.key≠QG (ek x))->Qag l x=none)/\
  (∀(j:Nat) (e:MapEntry),es[j]?=some e->e.key=QG (ek x)->∃q,Qag l x=some q/\(∀rows,q=some rows->SO ro w t k (rows.map ev) e.val)/\
   ∀c p n cap,q.isSome=true->e.val=.slice (some ⟨c,p,none⟩) n cap->Qd3 (Qby ek ev l) es c/\(Qi4 (Qby ek ev l) es->¬Qd3 (Qby ek ev (Qjp l x)) es c))
 |[],es,h,x,_=>by
  cases(show es=[]from h);exact⟨λ_=>rfl,(by simp)⟩
 |p::l,es,h,x,hn=>by
  obtain⟨e0,l',rfl,h1,h2,h3⟩:=h;have hk:e0.key=QG (ek p.1):=VR.val (K.scl _) h1;simp only[Vi,List.nodup_cons]at hn;obtain⟨a1,a2⟩:=MO.find (l:=l) h3 x hn.2;by_cases hp:p.1=x
  .subst hp;constructor
   .grind
   .intro j e he hx;cases j with
    |zero=>
     simp only[XE,Option.some.injEq]at he;subst he;refine⟨p.2,by simp[Qag],(by grind),λc p' n cap hs hv=>⟨.inl (by grind),λhd hq=>?_⟩⟩;rcases hq with⟨q1,_⟩|hq
     .simp at q1
     .exact hd.1 c (by grind) ⟨p',n,cap,hv⟩ (Qdy (l:=l) hq)
    |succ j=>
     grind
  .have e1:Qag (p::l) x=Qag l x:=by simp[Qag,hp]
   rw[e1];constructor
   .grind
   .intro j e he hx;cases j with
    |zero=>
     simp only[XE,Option.some.injEq]at he;subst he;exact absurd (K.inj _ _ (hk.symm.trans hx)) hp
    |succ j=>
     obtain⟨q,d,b,g⟩:=a2 j e (by grind) hx;refine⟨q,d,b,λc p' n cap hs hv=>?_⟩;obtain⟨a,i⟩:=g c p' n cap hs hv;refine⟨.inr a,λhd hq=>?_⟩;rcases hq with⟨q1,f⟩|hq
     .exact hd.1 c (by grind) f a
     .exact i hd.2 hq
end
section
variable {P:Program} {o:Oper} {env:Env} {H:Qd}
variable {T kt et:Nat} {α β:Type} [DecidableEq α] {ek:α->A} {ev:β->List A} {x y:Operand} {i t k:Nat} {l:List (α×Option (List β))} {key:α} {rows:List β}
end
end Go.Sw
namespace Go.Sw
open Go.MapKept
theorem MO.append{ro:Nat->Prop}{w:World}{t k:Nat}:∀{l m:List (A×Option (List (List A)))} {es fs:List MapEntry},MO ro w t k l es->MO ro w t k m fs->MO ro w t k (l++m) (es++fs)
 |[],m,es,fs,h,q=>by cases(show es=[]from h);exact q
 |p::l,m,es,fs,h,q=>by
  obtain⟨e,l',rfl,h1,h2,h3⟩:=h;exact⟨e,l'++fs,rfl,h1,h2,MO.append h3 q⟩
theorem MO.length{ro:Nat->Prop}{w:World}{t k:Nat}:∀{l:List (A×Option (List (List A)))} {es:List MapEntry},MO ro w t k l es->es.length=l.length
 |[],es,h=>by cases(show es=[]from h);rfl
 |p::l,es,h=>by
  obtain⟨e,l',rfl,h1,h2,h3⟩:=h;simp[MO.length h3]
def SlB(v:Value)(c:Nat):Prop:=∃p n cap,v=.slice (some ⟨c,p,none⟩) n cap
section
variable {P:Program} {kt:TypeId} {α β:Type} [DecidableEq α] {ek:α->A} {ev:β->List A} {ro:Nat->Prop} {w:World} {t k:Nat} (K:Qab P kt ek)
def Qdc{α β:Type}[DecidableEq α](l:List (α×Option (List β)))(x:α)(rows:List β):List (α×Option (List β)):=l.map λp=>bif decide (p.1=x)then(p.1,some rows)else p
include K
theorem QfO{x:α}{rows:List β}:∀{l:List (α×Option (List β))} {es:List MapEntry},MO ro w t k (Qby ek ev l) es->(∀e∈es,e.key≠QG (ek x))->Qdc l x rows=l
 |[],es,h,q=>rfl
 |p::l,es,h,q=>by
  obtain⟨e,l',rfl,h1,h2,h3⟩:=h;have hk:e.key=QG (ek p.1):=VR.val (K.scl _) h1;have hp:p.1≠x:=(by grind);have:=QfO (l:=l) h3 (λe he=>q e (by simp[he])) (rows:=rows)
  simp_all[Qdc]
theorem MO.put{x:α}{rows:List β}{v:Value}(g:SO ro w t k (rows.map ev) v):∀{l:List (α×Option (List β))} {es:List MapEntry} {j:Nat} {e:MapEntry},MO ro w t k (Qby ek ev l) es->
  (es.map (·.key)).Nodup->es[j]?=some e->e.key=QG (ek x)->
  MO ro w t k (Qby ek ev (Qdc l x rows)) (es.modify j λe=>{e with key:=QG (ek x),val:=v})/\
  (∀c,Qd3 (Qby ek ev (Qdc l x rows)) (es.modify j λe=>{e with key:=QG (ek x),val:=v}) c->Qd3 (Qby ek ev l) es c\/SlB v c)/\
  (Qi4 (Qby ek ev l) es->(∀c,Qd3 (Qby ek ev l) es c->¬SlB v c)->Qi4 (Qby ek ev (Qdc l x rows)) (es.modify j λe=>{e with key:=QG (ek x),val:=v}))
 |[],es,j,e,h,hn,he,hk=>by cases(show es=[]from h);simp at he
 |p::l,es,j,e,h,hn,he,hk=>by
  obtain⟨e0,l',rfl,h1,h2,h3⟩:=h;have hk0:e0.key=QG (ek p.1):=VR.val (K.scl _) h1;simp only[Vi,List.nodup_cons]at hn;cases j with
  |zero=>
   simp only[XE,Option.some.injEq]at he;subst he;have hp:p.1=x:=K.inj _ _ (hk0.symm.trans hk);simp only[List.modify_zero_cons];have e0':Qdc l x rows=l:=QfO K h3 λe he z=>hn.1 (by rw[hk, <- z];exact VF he);have e1:Qdc (p::l) x rows=(p.1,some rows)::l:=by
    have:Qdc (p::l) x rows=(p.1,some rows)::Qdc l x rows:=by simp[Qdc,hp]
    rw[this,e0']
   rw[e1];refine⟨⟨_,l',rfl,?_,?_,h3⟩,?_,?_⟩
   .show VR ro [] w (ek p.1) (QG (ek x));rw[<- hp];exact QcP (K.scl _)
   .intro d s;cases s;exact g
   .rintro c (⟨_,q⟩|q)
    .exact .inr q
    .exact .inl (.inr q)
   .rintro⟨i,b⟩ a;exact⟨λc _ q z=>a c (.inr z) q,b⟩
  |succ j=>
   simp only[XF]at he;have hp:p.1≠x:=by
    intro q;refine hn.1 (Xe.2 ⟨e,VG he,?_⟩);rw[hk,hk0,q]
   simp only[List.modify_succ_cons];obtain⟨y,n,u⟩:=MO.put g h3 hn.2 he hk;have e1:Qdc (p::l) x rows=p::Qdc l x rows:=by simp[Qdc,hp]
   rw[e1];refine⟨⟨_,_,rfl,h1,h2,y⟩,?_,?_⟩
   .rintro c (q|q)
    .exact .inl (.inl q)
    .exact(n c q).imp .inr id
   .rintro⟨i,b⟩ a;refine⟨λc m f z=>?_,u b λc r=>a c (.inr r)⟩;rcases n c z with z|z
    .exact i c m f z
    .exact a c (.inl ⟨m,f⟩) z
end
section
variable {P:Program} {o:Oper} {env:Env} {H:Qd}
variable {T kt et:Nat} {α β:Type} [DecidableEq α] {ek:α->A} {ev:β->List A} {x y zz:Operand} {i j t k n:Nat} {l m:List (α×Option (List β))} {key:α} {rows:List β}
end
end Go.Sw
namespace Go.Sw
open Go.MapKept
section
variable {fr ro:Nat->Prop} {σ:Sig} {H:Qd} {w:World}
theorem MO.er{t k:Nat}:∀{es:List (A×Option (List (List A)))} {l:List MapEntry},MO ro w t k es l->ER ro [] w (es.map λe=>(e.1,.any)) l
 |[],_,h=>h
 |x::r,_,⟨e,l',h1,h2,h3,h4⟩=>⟨e,l',h1,h2,trivial,MO.er h4⟩
end
section
variable {P:Program} {o:Oper} {env:Env} {H:Qd} {T kt et i t k:Nat} {x:Operand} {es:List (A×Option (List (List A)))}
end
section
variable {P:Program} {o:Oper} {env:Env} {H:Qd}
variable {T kt et:Nat} {α β:Type} [DecidableEq α] {ek:α->A} {ev:β->List A} {x y zz:Operand} {i j t k n:Nat} {l m:List (α×Option (List β))} {key:α} {rows:List β}
end
end Go.Sw
namespace Go.Sw
open Go.MapKept
section
variable {P:Program} {o:Oper} {env:Env} {H:Qd}
variable {T kt et:Nat} {α β:Type} [DecidableEq α] {ek:α->A} {ev:β->List A} {x y zz:Operand} {i j t k n:Nat} {l m:List (α×Option (List β))} {key:α} {rows:List β}
end
end Go.Sw
namespace Go.Sw
abbrev Kat:=List (Nat×Nat×Nat)
def Qk3:Nat->Nat->List (Nat×Nat)
 |lo,0=>[(lo,lo)]
 |lo,n+1=>(lo,lo)::Qk3 (lo+1) n
def rgK(p:Nat×Nat×Nat):List (Nat×Nat):=bif Nat.beq p.1 1 then[(p.2.1,p.2.1+1)]else Qk3 p.2.1 (p.2.2-p.2.1)
def plK(cat:Kat):List (List (Nat×Nat)):=cat.map rgK
def rqK(bs:List Nat)(cat:Kat):List (List Nat):=cat.map λp=>bs.take p.2.1
def hsK(cat:Kat):List Bool:=cat.map λp=>Nat.beq p.1 1
def msK(bs:List Nat):List (List Nat):=(List.range (bs.length+1)).map bs.take
theorem Qgn:∀(n lo:Nat),∀p∈Qk3 lo n,p.1=p.2
 |0,lo,p,h=>by cases h with|head=>rfl|tail _ h=>cases h
 |n+1,lo,p,h=>by
  rcases X5.1 h with rfl|h
  .rfl
  .exact Qgn n _ p h
section
variable {P:Program} {T:TyX} {h0 N m:Nat} {bs:List Nat} {cat:Kat} {l:List Oper} {ds:List Nat} {env:Env} {H:Qd} {Hs:List Qd} {Q:Qz} {K:List Oper->Env->Qd->Prop}
def DobK(P:Program)(N:Nat)(cat:Kat)(l:List Oper)(ds:List Nat)(env:Env)(n:Nat)(Hs:List Qd)(zs:List A)(j:Nat):Prop:=
 ∀p∈(plK cat).getD j [],Jd P N l ds zs env n n j (Hs.getD p.1 []) (Hs.getD p.2 [])
def DK(P:Program)(N m:Nat)(bs:List Nat)(cat:Kat)(l:List Oper)(ds:List Nat)(env:Env)(n:Nat)(K:List Oper->Env->Qd->Prop)(Hs:List Qd)(X:Qd)(r:List Oper)(xs:List A):Prop:=
 r=l.drop xs.length->∃ys Zs Y,xs.length+ys.length=m/\Hs.length+Zs.length=bs.length/\((∀Z∈Zs,n<=Z.length)/\(Hs.reverse++X::Zs).getD bs.length []=Y)/\(∀j,xs.length<=j->j<m->DobK P N cat l ds env n (Hs.reverse++X::Zs) (xs++ys) j)/\K (l.drop m) (Qar ds (xs++ys) env) Y
theorem Qo9{d:List A}{n:Nat}{Zs:List Qd}(b:cat.length=m)(r:∀j,0<=j->j<m->DobK P N cat l ds env n Zs d j):Qg4 P N l ds d env n (n+0) 0 ((plK cat).map λq=>q.map λp=>(Zs.getD p.1 [],Zs.getD p.2 [])):=by
 refine Qg3 _ 0 λi s a p g=>?_;rw[Xo]at a;cases e:(plK cat)[i]? with
 |none=>grind
 |some q=>
  rw[e]at a;cases a;obtain⟨f,k,rfl⟩:=Xe.1 g;have h:i<m:=by
   grind[plK]
  have:=r i (XU _) h f (by grind)
  grind
theorem Qm0{id:Nat}(m:Nat)(b:List Nat)(cat:Kat)(n:P.follows .mixedOrders=true)(t:QdP l m N (Qa8 m 0 l) (hsK cat) (rqK b cat) (msK b) (plK cat)=true)(d:Nat.beq cat.length m=true)(f:Nat.ble h0 H.length=true)
  (h:DK P N m b cat l (Qa8 m 0 l) env H.length (λr e H=>WO P h0 N l.toArray r e H Q) [] H l []):TC P h0 N (.region id l.toArray true) env H Q:=by
 obtain⟨q,Zs,Y,s,k,p,j,g⟩:=h rfl;simp only[List.length_nil,Xv,Vg,List.reverse_nil]at s k p j g;have a:=XQ d;have i:(msK b).length=b.length+1:=by simp[msK]
 refine Jk m 0 _ _ _ _ _ q (H::Zs) Y n t (by grind) (by simp_all) f ?_ (by simp) (by grind) (Qo9 a j) (by simp[plK,a]) g
 simp_all
variable {n:Nat} {X X1:Qd} {xs:List A} {o:Oper} {r:List Oper} {x:A} {d:Nat}
theorem DK.done(b:Nat.beq xs.length m=true)(a:Nat.beq Hs.length bs.length=true)(h:K r (Qar ds xs env) X):DK P N m bs cat l ds env n K Hs X r xs:=by
 intro d;have e:=XQ b;have f:=XQ a;subst d;refine⟨[],[],X,by simpa using e,by omega,⟨(λZ hZ=>by cases hZ),?_⟩,λj g i=>by omega,?_⟩
 .grind
 grind
theorem DK.add(p:∀ys Zs,l[xs.length]?=some o->DobK P N cat l ds env n (Hs.reverse++X::Zs) (xs++x::ys) xs.length)(k:DK P N m bs cat l ds env n K Hs X r (xs++[x])):DK P N m bs cat l ds env n K Hs X (o::r) xs:=by
 intro e;obtain⟨s,b⟩:=Qa9 e;obtain⟨ys,Zs,Y,h,d,g,f,a⟩:=k (by grind);simp only[X2,XZ,List.length_nil,Vh,VJ,Vg]at h f a;refine⟨x::ys,Zs,Y,by grind,d,g,λj q i=>?_,a⟩
 grind
theorem Qei{Zs:List Qd}{zs:List A}{j:Nat}{c:Nat×Nat×Nat}(b:YN cat j=some c)(h:∀p∈rgK c,Jd P N l ds zs env n n j (Zs.getD p.1 []) (Zs.getD p.2 [])):DobK P N cat l ds env n Zs zs j:=by
 intro p a
 grind[QaA,plK]
theorem Qnp{Zs:List Qd}{c:Nat}(a:Nat.beq c Hs.length=true):(Hs.reverse++X::Zs).getD c []=X:=by
 simp_all
theorem DK.wo{c:Nat}(h:WO P X.length N l.toArray [o] (Ya (Qh o) 0 ds xs env) X (YS (up (Ya (Qh o) 0 ds xs env) d x) X))(k:DK P N m bs cat l ds env n K Hs X r (xs++[x]))
  (b:YN cat xs.length=some (0,c,c):=by exact rfl)(hd:o.dst=some d:=by exact rfl)(hcH:Nat.beq c Hs.length=true:=by exact rfl):DK P N m bs cat l ds env n K Hs X (o::r) xs:=
 .add (λys Zs ho=>Qei b λp a=>by
  have:p=(c,c):=by
   change p∈Qk3 c (c-c)at a;rw[Nat.sub_self]at a;exact VA.1 a
  grind[Qnp,Qax,YY]) k
theorem DK.wa{lo hi:Nat}(h:∀X,WO P X.length N l.toArray [o] (Ya (Qh o) 0 ds xs env) X (YS (up (Ya (Qh o) 0 ds xs env) d x) X))(k:DK P N m bs cat l ds env n K Hs X r (xs++[x]))
  (b:YN cat xs.length=some (0,lo,hi):=by exact rfl)(hd:o.dst=some d:=by exact rfl):DK P N m bs cat l ds env n K Hs X (o::r) xs:=
 .add (λys Zs ho=>Qei b λp a=>by
  have e:p.1=p.2:=Qgn _ _ p a
  grind[Qax,YY]) k
theorem DK.op{c y:Nat}(h:WO P X.length N l.toArray [o] (Ya (Qh o) 0 ds xs env) X (YS (up (Ya (Qh o) 0 ds xs env) d x) X1))(k:DK P N m bs cat l ds env n K (X::Hs) X1 r (xs++[x]))(z:Nat.ble n X1.length=true:=by exact rfl)
  (hc:YN cat xs.length=some (1,c,y):=by exact rfl)(hd:o.dst=some d:=by exact rfl)(hcH:Nat.beq c Hs.length=true:=by exact rfl):DK P N m bs cat l ds env n K Hs X (o::r) xs:=by
 intro i;obtain⟨F,f⟩:=Qa9 i;obtain⟨u,Zs,Y,w,g,b,t,a⟩:=k (by grind);simp only[X2,XZ,List.length_nil,Vh,VJ,Vg,List.reverse_cons]at w g b t a;refine⟨x::u,X1::Zs,Y,by grind,by grind,⟨λZ e=>?_,b.2⟩,λj E B=>?_,a⟩
 .rcases X5.1 e with rfl|e
  .simp_all
  grind
 .rcases VB xs.length j with q|q
  .grind
  .obtain rfl:j=xs.length:=by omega
   refine Qei hc λp s=>?_;have:p=(c,c+1):=VA.1 s
   grind[Nat.eq_of_beq_eq_true,Qax,YY]
def Qex(T:TyX)(N m:Nat)(cat:Kat)(l:List Oper)(ds:List Nat)(env:Env)(n:Nat):Nat->Nat->Nat->List Qd->Qd->List Oper->List A->Option (List Qd×List Oper×List A)
 |0,_,_,Hs,X,r,xs=>some (Hs,r,xs)
 |_+1,_,_,_,_,[],_=>none
 |k+1,i,j,Hs,X,o::r,xs=>match o.dst with
  |none=>none
  |some d=>match Nat.blt d N with
   |false=>none
   |true=>match YR ⟨l⟩ o (Ya (Qh o) 0 ds xs env)with
    |none=>none
    |some false=>(match QcO xs (.tup [])with
      |.mk xs'=>match YN cat i with
       |some (0,_,_)=>Qex T N m cat l ds env n k (i+1) j Hs X r xs'
       |some (1,c,_)=>(match Nat.beq c j,Nat.ble n X.length with
        |true,true=>Qex T N m cat l ds env n k (i+1) (j+1) (X::Hs) X r xs'
        |_,_=>none)
       |_=>none)
    |some true=>match YN cat i with
     |some (0,lo,hi)=>(match Qc3 T o (Ya (Qh o) 0 ds xs env) []with
      |some x=>(match QcO xs x with
       |.mk xs'=>Qex T N m cat l ds env n k (i+1) j Hs X r xs')
      |none=>match Nat.beq lo hi,Nat.beq lo j with
       |true,true=>(match Qc3 T o (Ya (Qh o) 0 ds xs env) X with
        |none=>none
        |some x=>match QcO xs x with
         |.mk xs'=>Qex T N m cat l ds env n k (i+1) j Hs X r xs')
       |_,_=>none)
     |_=>none
theorem QbG(hT:Qbc P T):∀(k i j:Nat) {Hs Hs':List Qd} {r r':List Oper} {xs xs':List A},i=xs.length->j=Hs.length->Qex T N m cat l ds env n k i j Hs X r xs=some (Hs',r',xs')->DK P N m bs cat l ds env n K Hs' X r' xs'->DK P N m bs cat l ds env n K Hs X r xs
 |0,i,j,Hs,Hs',r,r',xs,xs',_,_,h,k=>by cases h;exact k
 |k0+1,i,j,Hs,Hs',[],r',xs,xs',_,_,h,k=>by cases h
 |k0+1,i,j,Hs,Hs',o::r,r',xs,xs',hi,hj,h,k=>by
  subst hi hj;unfold Qex at h;split at h
  .cases h
  .rename_i d hd;split at h
   .cases h
   .rename_i q2;split at h
    .cases h
    .rename_i hw;simp only[Y4]at h;split at h
     .rename_i lo hi' q0;exact .wa (λX=>WO.skip (QH hw) hd q2 (WO.nil YS.mk)) (QbG hT k0 _ _ (by simp) rfl h k) q0 hd
     .rename_i c c' q0;split at h
      .rename_i q1 q3;exact .op (WO.skip (QH hw) hd q2 (WO.nil YS.mk)) (QbG hT k0 _ _ (by simp) (by simp) h k) q3 q0 hd q1
      .cases h
     .cases h
    .rename_i hw;split at h
     .rename_i lo hi' q0;split at h
      .rename_i x hv;simp only[Y4]at h;exact .wa (λX=>Yv (QH hw) hd q2 (Qat hT (Qem hv)) (WO.nil YS.mk)) (QbG hT k0 _ _ (by simp) rfl h k) q0 hd
      .split at h
       .rename_i q1 q3;split at h
        .cases h
        .rename_i x hv;simp only[Y4]at h;obtain rfl:=XQ q1;exact .wo (Yv (QH hw) hd q2 (Qat hT hv) (WO.nil YS.mk)) (QbG hT k0 _ _ (by simp) rfl h k) q0 hd q3
       .cases h
     .cases h
theorem DK.v(h:OpV P o (Ya (Qh o) 0 ds xs env) X x)(k:DK P N m bs cat l ds env n K Hs X r (xs++[x])){c:Nat}(hg:YR ⟨l⟩ o (Ya (Qh o) 0 ds xs env)=some true:=by exact rfl)
  (hd:o.dst=some d:=by exact rfl)(hN:Nat.blt d N=true:=by exact rfl)(hc:YN cat xs.length=some (0,c,c):=by exact rfl)(hcH:Nat.beq c Hs.length=true:=by exact rfl):DK P N m bs cat l ds env n K Hs X (o::r) xs:=
 .wo (Yv (QH hg) hd hN h (WO.nil YS.mk)) k hc hd hcH
def allV(T:TyX)(o:Oper)(e:Env)(x:A):Nat->List Qd->Prop
 |0,_=>True
 |k+1,Y::r=>Qc3 T o e Y=some x/\allV T o e x k r
 |_+1,[]=>False
theorem Qjc:∀(n lo:Nat),∀p∈Qk3 lo n,lo<=p.1/\p.1<=lo+n
 |0,lo,p,h=>by cases h with|head=>omega|tail _ h=>cases h
 |n+1,lo,p,h=>by
  rcases X5.1 h with rfl|h
  .omega
  .have:=Qjc n _ p h;omega
def allW(P:Program)(N:Nat)(l:List Oper)(o:Oper)(e:Env)(d:Nat)(x:A):Nat->List Qd->Prop
 |0,_=>True
 |k+1,Y::r=>WO P Y.length N l.toArray [o] e Y (YS (up e d x) Y)/\allW P N l o e d x k r
 |_+1,[]=>False
theorem QjL{e:Env}:∀{k:Nat} {r:List Qd},allW P N l o e d x k r->∀j,j<k->WO P (r.getD j []).length N l.toArray [o] e (r.getD j []) (YS (up e d x) (r.getD j []))
 |0,_,_,j,hj=>(by omega)
 |k+1,[],h,_,_=>h.elim
 |k+1,Y::r,h,0,_=>h.1
 |k+1,Y::r,h,j+1,hj=>by
  have:=QjL h.2 j (by omega)
  grind
theorem DK.ws{lo hi:Nat}(h:allW P N l o (Ya (Qh o) 0 ds xs env) d x (hi+1-lo) (X::Hs))(k:DK P N m bs cat l ds env n K Hs X r (xs++[x]))
  (j:YN cat xs.length=some (0,lo,hi):=by exact rfl)(hd:o.dst=some d:=by exact rfl)(hcH:Nat.beq hi Hs.length=true:=by exact rfl)(hle:Nat.ble lo hi=true:=by exact rfl):DK P N m bs cat l ds env n K Hs X (o::r) xs:=
 .add (λys Zs ho=>Qei j λp a=>by
  have e:p.1=p.2:=Qgn _ _ p a;have b:=XR hle;have q:lo<=p.1/\p.1<=lo+(hi-lo):=Qjc (hi-lo) lo p a;have i:=XQ hcH;rw[<- e];have g:=QjL h (Hs.length-p.1) (by omega);have f:(Hs.reverse++X::Zs).getD p.1 []=(X::Hs).getD (Hs.length-p.1) []:=by
   grind
  rw[f];exact Qax ho YY g hd) k
theorem DK.vs(g:Qbc P T){lo hi:Nat}(h:allV T o (Ya (Qh o) 0 ds xs env) x (hi+1-lo) (X::Hs))(k:DK P N m bs cat l ds env n K Hs X r (xs++[x]))
  (i:YN cat xs.length=some (0,lo,hi))(e:o.dst=some d)(a:Nat.beq hi Hs.length=true)(hg:YR ⟨l⟩ o (Ya (Qh o) 0 ds xs env)=some true)(f:Nat.blt d N=true)(b:Nat.ble lo hi=true):DK P N m bs cat l ds env n K Hs X (o::r) xs:=by
 refine DK.ws ?_ k i e a b;generalize hi+1-lo=c at h;generalize X::Hs=L at h
 induction c generalizing L with
 |zero=>trivial
 |succ c j=>
  cases L with
  |nil=>exact h.elim
  |cons Y L=>exact⟨Yv (QH hg) e f (Qat g h.1) (WO.nil YS.mk),j L h.2⟩
end
def room(n:Int):Option Nat:=bif decide (0<n)&&decide (n<=4294967296)then some n.toNat else none
section
variable {P:Program} {o:Oper} {env:Env} {H:Qd}
theorem QmP{a i:Nat}{x x':Blk}(b:H[i]?=some x)(e:x=x'):Le a env H env (H.set i x'):=by
 grind[List.set_getElem_self,Le.refl]
theorem RL.put{ro:Nat->Prop}{σ:Sig}{w:World}{k:Nat}:∀{a:Nat} {es fs:List (List A)} {l m:List Value},RL ro σ w k es l->a+fs.length<=es.length->Sw.allK k fs->LR ro σ w fs.flatten m->(∀v∈m,Qo v)->
  RL ro σ w k (es.take a++fs++es.drop (a+fs.length)) (Sw.splice l (a*k) m)
 |0,es,[],l,m,h,hn,hk,hm,hp=>by
  obtain rfl:m=[]:=hm;simpa[Sw.splice]using h
 |0,[],f::fs,l,m,h,hn,hk,hm,hp=>by simp at hn
 |0,c::es,f::fs,l,m,⟨l1,l2,h1,h2,h3,h4⟩,hn,hk,hm,hp=>by
  subst h1;have hl1:=h3.1.length;have hml:=hm.length;rw[Vk,X2]at hml;have e1:m.take k++m.drop k=m:=Xz _ _;have q1:LR ro σ w f (m.take k):=by have:=hm.take k;rwa [Vk,X6 (by rw[hk.1];omega),VH (by rw[hk.1];omega)]at this
  have g:LR ro σ w fs.flatten (m.drop k):=by have:=hm.drop k;rwa [Vk,X7 (by rw[hk.1];omega),List.drop_of_length_le (by rw[hk.1];omega),Vg]at this
  have d:=RL.put (a:=0) h4 (by grind) hk.2 g (λv b=>hp v (List.mem_of_mem_drop b));simp only[List.take_zero,Vg,Xv,Nat.zero_mul,Sw.splice]at d⊢;refine⟨m.take k,m.drop k++l2.drop (m.drop k).length,?_,hk.1,⟨q1,λv b=>hp v (List.mem_of_mem_take b)⟩,by simp_all⟩;have i:k<=m.length:=by rw[hml,hk.1];omega
  rw[<- Vh,e1];congr 1
  grind[List.drop_length_add_append]
 |a+1,[],fs,l,m,h,hn,hk,hm,hp=>by simp at hn
 |a+1,c::es,fs,l,m,⟨l1,l2,h1,h2,h3,h4⟩,hn,hk,hm,hp=>by
  subst h1;have hl1:=h3.1.length;have d:=RL.put (a:=a) h4 (by simp at hn;omega) hk hm hp;refine⟨l1,Sw.splice l2 (a*k) m,?_,h2,h3,?_⟩
  .have e1:(a+1)*k=l1.length+a*k:=by rw[Xl];omega
   unfold Sw.splice;rw[e1,Va,show l1.length+a*k+m.length=l1.length+(a*k+m.length)from by omega,X9];simp
  .have e:a+1+fs.length=(a+fs.length)+1:=by omega
   simpa[e]using d
def QkB(P:Program)(H:Qd)(x:A)(k:Nat)(es:List (List A)):Prop:=
 ∀fr ro σ w v,Sim fr ro σ H w->VR ro σ w x v->(∃a c,v=.slice a es.length c)/\
  ∀j,j<=es.length->allK k (es.take j)/\ ∃l,(Builtin.firstCells k j v).run P w=.ok l.toArray w/\LR ro [] w (es.take j).flatten l/\ ∀v∈l,Qo v
theorem Qev{fr ro:Nat->Prop}{σ:Sig}{w:World}{k j b off n c:Nat}{es:List (List A)}(h:RR ro [] w b k es off)(g:j<=es.length):
  allK k (es.take j)/\ ∃l,(Builtin.firstCells k j (.slice (some ⟨b,off,none⟩) n c)).run P w=.ok l.toArray w/\LR ro [] w (es.take j).flatten l/\ ∀v∈l,Qo v:=by
 obtain⟨f,e,a⟩:=(h.take j).flat;rw[Xy,XB g]at a;obtain⟨l,d,i⟩:=Qa4 (P:=P) (n:=j) (c:=c) f a;refine⟨e,l,?_,i⟩;exact d w rfl
theorem Qcf{k n c:Nat}{a:Option Addr}{w:World}:(Builtin.firstCells k 0 (.slice a n c)).run P w=.ok #[] w:=by
 cases a<;>simp[Builtin.firstCells,loadCells,loadCellsFrom,go_sem]
theorem QnI{α:Type}{e:α->List A}{k:Nat}{l:List α}:QkB P H (.rsl k (l.map e)) k (l.map e):=by
 intro fr i σ w v s ⟨a,c,h1,h2,d⟩;subst h1;refine⟨⟨a,c,rfl⟩,λj f=>?_⟩;rcases d with d|⟨b,h,rfl,m,g⟩
 .rw[d]at f⊢;obtain rfl:j=0:=by grind
  exact⟨trivial,[],Qcf,rfl,by simp⟩
 .exact Qev (fr:=fr) (σ:=σ) g f
theorem QkB.osl{i s n k t:Nat}{es a:List (List A)}(x:H[i]?=some (.row t k es))(he:(es.drop s).take n=a)(J:s+n<=es.length):QkB P H (.osl i s n k) k a:=by
 intro fr G σ w v sm h;have q:a.length=n:=by grind
 rcases h with⟨rfl,rfl⟩|⟨b,p,d,N,m,B,rfl,g,⟨M,u⟩,L,F⟩
 .have e:a=[]:=(by grind);subst e;refine⟨⟨none,0,rfl⟩,λj E=>?_⟩;obtain rfl:j=0:=by omega
  exact⟨trivial,[],Qcf,rfl,by simp⟩
 .rw[q];refine⟨⟨_,d,rfl⟩,λj E=>?_⟩;obtain⟨l,z,r⟩:=sm.blk i _ _ B x;have f:=((Yt (pre:=[]) (by simpa using z) r).drop s).take n;rw[he]at f;by_cases y:0<d
  .obtain rfl:=g y;simpa using Qev (P:=P) (fr:=fr) (σ:=σ) (n:=n) (c:=d) f (by omega)
  .obtain rfl:j=0:=by omega
   exact⟨trivial,[],Qcf,rfl,by simp⟩
theorem QnJ{α:Type}{e:α->List A}{b t k:Nat}{l r:List α}{a c:Int}(h:slc l a c=some r)(d:H[b]?=some (.row t k (l.map e)):=by exact rfl):QkB P H (.osl b (0+a.toNat) (c.toNat-a.toNat) k) k (r.map e):=by
 obtain⟨j,i,g,f⟩:=Qc5 h;refine QkB.osl d ?_ (by grind);rw[<- f, <- List.map_drop, <- List.map_take,Xv,List.drop_take]
def cpy{α:Type}(l:List α)(a c:Int)(m:List α):Option (List α):=some (l.take a.toNat++m.take (c.toNat-a.toNat)++l.drop (a.toNat+min m.length (c.toNat-a.toNat)))
theorem Qee{α:Type}{l r l' m:List α}{a c:Int}(h:slc l a c=some r)(b:cpy l a c m=some l'):l.length=l'.length:=by
 obtain⟨d,f,e,_⟩:=Qc5 h;rw[<- XY b]
 grind
theorem Qfb{α:Type}{l l' m:List α}(a:cpy l 0 (l.length:Int) m=some l'):l.length=l'.length:=by
 rw[<- XY a]
 grind
theorem Qgf{α:Type}{e:α->List A}{c:Call}{T T' et k b a n t:Nat}{x y:Operand}{ya:A}{l m l':List α}(af:a+n<=l.length)(ad:l.take a++m.take n++l.drop (a+min m.length n)=l')(hT:∀w,(underlying T).run P w=.ok (.slice et) w)(z:∀w,(sizeOf et).run P w=.ok k w)(O:QkB P H ya k (m.map e))
  (ho:o.op=.call c)(hc:c={callee:=.builtin .copy,args:= #[x,y],argTypes:= #[T,T']})(hx:opA env x=.osl b a n k)(hH:H[b]?=some (.row t k (l.map e)))(Q:opA env y=ya):
  OpH P o env H (.int .i64 (min m.length n:Nat)) (H.set b (.row t k (l'.map e))):=by
 intro V E σ N ac w r;have s:=Qj r x;rw[hx]at s;have h2:=Qj r y;rw[Q]at h2;obtain⟨⟨ay,cy,Y⟩,q2⟩:=O V E σ w _ r.sim h2;rw[X0]at Y q2;obtain⟨q3,G,J,M,q6⟩:=q2 (min m.length n) (Nat.min_le_left _ _);have h:((m.map e).take (min m.length n)).length=min m.length n:=by simp
 have L:l'.map e=(l.map e).take a++(m.map e).take (min m.length n)++(l.map e).drop (a+((m.map e).take (min m.length n)).length):=by
  grind[List.map_take,List.map_drop]
 have f:(Builtin.copy_ #[T,T'] o.type #[ac.eval x,ac.eval y]).run P w=.ok (.int .i64 (min m.length n:Nat)) w->min m.length n=0->
   ∃v w' ro' τ,(execOp ac.eval o).run P w=.ok (.value v) w'/\VR ro' (σ++τ) w' (.int .i64 (min m.length n:Nat)) v/\Sim V ro' (σ++τ) (H.set b (.row t k (l'.map e))) w'/\Qi V E w ro' w':=by
  intro i hz;have O:H.set b (.row t k (l'.map e))=H:=by
   have:l'.map e=l.map e:=by simp_all
   grind[List.set_getElem_self]
  refine⟨_,w,E,[],?_,rfl,by simpa[O]using r.sim,Qi.refl _ _ _⟩;subst hc;generalize ac.eval=ρ at*
  simp_all[execOp,resolve,invoke,builtin]
 have B:∀j:Nat,goInt j=.int .i64 j:=λ_=>rfl;rcases s with⟨F,s⟩|⟨bb,p,ae,t',mm,s,h3,h4,⟨h5,ab⟩,h6,h7⟩
 .refine f ?_ (by omega);rw[Y]at J⊢;rw[s];have:Nat.min m.length 0=min m.length n:=by rw[F]
  simp only[Builtin.copy_,XG,XE,XF,Vl,hT,z,Result.andThen,Builtin.lenOf,Vm,this,J,B]
 .have d:∀R:Result Unit,(storeCells ⟨bb,p,none⟩ G).run P w=R->(Builtin.copy_ #[T,T'] o.type #[ac.eval x,ac.eval y]).run P w=R.andThen λ_ w=>.ok (.int .i64 (min m.length n:Nat)) w:=by
   intro R hR;rw[Y]at J⊢;rw[h3];have:Nat.min m.length n=min m.length n:=rfl;simp only[Builtin.copy_,XG,XE,XF,Vl,hT,z,Result.andThen,Builtin.lenOf,Vm,this,J,B,hR]
  by_cases F:min m.length n=0
  .have q:G=[]:=by
    have:=M.length;rw[F]at this;exact VI.1 (by simpa using this)
   refine f ?_ F;have:=d (.ok () w) (by rw[q];rfl);rw[this];rfl
  .obtain rfl:=h4 (by omega);obtain⟨l0,g1,g2⟩:=r.sim.blk b _ _ s hH;have X:=g2.length;have q:=M.length;rw[Yd q3,h]at q;have aa:a*k+(min m.length n)*k<=l0.length:=by
    rw[<- XA];refine XV (XC k ?_) X;rw[X0];omega
   have u:=Q4 (P:=P) (vs:=G) (a*k) 0 g1 (by omega) q6;rw[Xw]at u;have i:=d _ u;have g:=r.sim.set (x':=.row t k (l'.map e)) (obj:=.cells (splice l0 (a*k) G).toArray t (0,0)) s hH rfl
    (λy Q=>Jc g1 (Q1 (by omega)) y Q)
    (λex W=>⟨_,W,by
     rw[L];exact(RL.put g2 (by rw[h,X0];omega) q3 M q6).mono ex.nil⟩)
   refine⟨_,_,E,[],?_,rfl,by simpa using g.1,g.2⟩;subst hc;generalize ac.eval=ρ at*;simp only[execOp,ho,resolve,Vl,Vm,Result.andThen,invoke,builtin,XI,Vi,Vj,i]
theorem QkL{α:Type}{e:α->List A}{c:Call}{T T' et k b t:Nat}{x y:Operand}{d:A}{l m l':List α}(h:cpy l 0 (l.length:Int) m=some l')(f:∀w,(underlying T).run P w=.ok (.slice et) w)(a:∀w,(sizeOf et).run P w=.ok k w)(g:QkB P H d k (m.map e))
  (i:o.op=.call c:=by exact rfl)(hc:c={callee:=.builtin .copy,args:= #[x,y],argTypes:= #[T,T']}:=by exact rfl)(hx:opA env x=.osl b 0 l.length k:=by exact rfl)(hH:H[b]?=some (.row t k (l.map e)):=by exact rfl)(hy:opA env y=d:=by exact rfl):
  OpH P o env H (.int .i64 (min m.length l.length:Nat)) (H.set b (.row t k (l'.map e))):=by
 refine Qgf (by omega) ?_ f a g i hc hx hH hy;rw[<- XY h];rfl
theorem QkM{α:Type}{e:α->List A}{c:Call}{T T' et k b t:Nat}{x y:Operand}{f:A}{l g m l':List α}{i j:Int}(hi:slc l i j=some g)(h:cpy l i j m=some l')(n:∀w,(underlying T).run P w=.ok (.slice et) w)(d:∀w,(sizeOf et).run P w=.ok k w)(p:QkB P H f k (m.map e))
  (q:o.op=.call c:=by exact rfl)(hc:c={callee:=.builtin .copy,args:= #[x,y],argTypes:= #[T,T']}:=by exact rfl)(hx:opA env x=.osl b (0+i.toNat) (j.toNat-i.toNat) k:=by exact rfl)(hH:H[b]?=some (.row t k (l.map e)):=by exact rfl)(hy:opA env y=f:=by exact rfl):
  OpH P o env H (.int .i64 (min m.length (j.toNat-i.toNat):Nat)) (H.set b (.row t k (l'.map e))):=by
 obtain⟨z,r,u,s⟩:=Qc5 hi;refine Qgf (a:=i.toNat) (by omega) (XY h) n d p q hc ?_ hH hy
 grind
end
open Go.MapKept
section
variable {fr ro ro':Nat->Prop} {σ:Sig} {H:Qd} {w:World}
end
end Go.Sw
namespace Go.Sw
def Qhr{α:Type}(l:List α)(o:Option (List α)):Option (List α):=o.bind λr=>bif Nat.beq l.length r.length then some r else none
theorem Qhq{α:Type}{l r:List α}{o:Option (List α)}(h:Qhr l o=some r):o=some r/\l.length=r.length:=by
 cases o with
 |none=>cases h
 |some x=>
  have a:(bif Nat.beq l.length x.length then some x else none)=some r:=h;cases q:Nat.beq l.length x.length with
  |false=>grind
  |true=>
   simp_all
theorem QlK{α:Type}{l r:List α}{o:Option (List α)}(h:Qhr l o=some r):o=some r:=(Qhq h).1
theorem QfQ{α:Type}{l r:List α}{o:Option (List α)}(h:Qhr l o=some r):l.length=r.length:=(Qhq h).2
section
variable {P:Program} {o:Oper} {env:Env} {H:Qd} {α:Type} {e:α->List A}
end
open Go.MapKept
section
variable {P:Program} {o:Oper} {env:Env} {H:Qd}
variable {T kt et:Nat} {α β:Type} [DecidableEq α] {ek:α->A} {ev:β->A} {x y:Operand} {i:Nat} {l:List (α×β)} {k:α} {z0:β} {z:Value}
end
section
variable {fr ro:Nat->Prop} {σ:Sig} {H:Qd} {w:World}
theorem Sim.shutAny(s:Sim fr ro σ H w){i b:Nat}{r:Blk}(hσ:σ[i]?=some (some b))(k:H[i]?=some r)(l:r.live=true):
  Sim fr (λc=>ro c\/c=b) σ (H.set i .dead) w:=by
 have u:b<w.heap.size/\ ¬ro b/\ ¬fr b:=s.own i b _ hσ k l;have ext:Ext ro σ w (λc=>ro c\/c=b) σ w:=⟨λ_ q=>.inl q,λ_ _=>rfl,λ_ _ q=>q,λ_ _ q=>q⟩;have a:∀(j:Nat) (v:Blk),(H.set i .dead)[j]?=some v->v≠ .dead->j≠i/\H[j]?=some v:=by
  grind
 refine⟨by rw[X3];exact s.len,s.roOk.to (λ_ q=>.inl q) (λ_ _=>rfl) ?_,s.frLt,?_,?_,?_,?_,s.hidTo (· = ·) Q3 (XT _) (λj d x c E J G P=>P.elim id λq=>((s.hid j d x c E J G).ne i b _ hσ k l q).elim) (λ_ _ _ _ _ _ _ q=>q) λj d y B M N=>.inl ⟨j,y,rfl,B,(a j y M (Qej N)).2,id,λ_ q=>q⟩⟩
 .rintro c (q|rfl)
  .exact s.roLt c q
  omega
 .rintro c (q|rfl)
  .exact s.roFr c q
  grind
 .intro j c v g f h;obtain⟨e,f⟩:=a j v f (Qaq h);obtain⟨Q,F,O⟩:=s.own j c v g f h;refine⟨Q,?_,O⟩;rintro(q|rfl)
  .exact F q
  .exact e (s.inj j i c v _ g hσ f k h l)
 .intro j z c v t g f h L m n;exact s.inj j z c v t g f (a j v h (Qaq m)).2 (a z t L (Qaq n)).2 m n
 .intro j y v g f;by_cases p:v≠ .dead
  .exact(s.blk j y v g (a j v f p).2).keep ext (λ_ _ _=>rfl) (λ_ _ _ _=>rfl)
  .obtain rfl:v=.dead:=Classical.not_not.1 p;trivial
def QnY(H:Qd):List Nat->Qd
 |[]=>H
 |i::l=>QnY (H.set i .dead) l
theorem Sim.shutL:∀{l:List Nat} {ro:Nat->Prop} {H:Qd} (s:Sim fr ro σ H w),l.Nodup->(∀i∈l,∃x,H[i]?=some x/\x.live=true)->
  ∃ro',Sim fr ro' σ (QnY H l) w/\(∀c,ro c->ro' c)/\ ∀i∈l,∀b,σ[i]?=some (some b)->ro' b
 |[],ro,H,s,_,_=>⟨ro,s,λ_ q=>q,λ_ h=>by cases h⟩
 |i::l,ro,H,s,hn,hl=>by
  rw[List.nodup_cons]at hn;obtain⟨x,hx,hxl⟩:=hl i (by simp);have rest:∀i'∈l,∃x,(H.set i .dead)[i']?=some x/\x.live=true:=by
   grind
  have m:∃q,σ[i]?=some q:=by
   have:i<σ.length:=by rw[s.len];grind
   simp_all
  obtain⟨q,k⟩:=m;cases q with
  |some b=>
   obtain⟨ro',a,f,j⟩:=Sim.shutL (s.shutAny k hx hxl) hn.2 rest;refine⟨ro',a,(by grind),λi' d g e=>?_⟩
   grind
  |none=>
   obtain⟨ro',a,f,j⟩:=Sim.shutL (s.kill i) hn.2 rest;refine⟨ro',a,f,λi' d g e=>?_⟩
   grind
end
end Go.Sw
namespace Go.Sw
structure Fil (α β:Type) where
 number:Int
 r0:List α
 r1:List α
 r2:List α
 reports:List β
 appeal:Bool
 deriving DecidableEq
structure FK (α β:Type) where
 T:Nat
 tF:Nat
 kF:Nat
 tR:Nat
 kR:Nat
 eF:α->List A
 eR:β->List A
section
variable {α β:Type} (K:FK α β)
def QlX(b:Nat)(x:Fil α β):List A:=[.int .i64 x.number,.osl (b+1) 0 x.r0.length K.kF,.osl (b+2) 0 x.r1.length K.kF,.osl (b+3) 0 x.r2.length K.kF,.osl (b+4) 0 x.reports.length K.kR,.bool x.appeal]
def QjA(b:Nat)(x:Fil α β):List Blk:=[.cells K.T (QlX K b x),.row K.tF K.kF (x.r0.map K.eF),.row K.tF K.kF (x.r1.map K.eF),.row K.tF K.kF (x.r2.map K.eF),.row K.tR K.kR (x.reports.map K.eR)]
def fall:Nat->List (Fil α β)->List Blk
 |_,[]=>[]
 |b,x::l=>QjA K b x++fall (b+5) l
def frp(x:Fil α β):List A:=[.int .i64 x.number,.rsl K.kF (x.r0.map K.eF),.rsl K.kF (x.r1.map K.eF),.rsl K.kF (x.r2.map K.eF),.rsl K.kR (x.reports.map K.eR),.bool x.appeal]
def fent:Nat->List (Fil α β)->List (Int×Nat)
 |_,[]=>[]
 |b,x::l=>(x.number,b)::fent (b+5) l
def ptr0(j:Nat):A:=.ptr j 0
def rpE(x:Fil α β):A:=.rp (frp K x)
def fnum(fs:List (Fil α β)):List (Int×Fil α β):=fs.map λx=>(x.number,x)
theorem QfU(b:Nat)(x:Fil α β)(l:List (Fil α β)):fall K b (x::l)=QjA K b x++fall K (b+5) l:=rfl
theorem Qki(b:Nat)(x:Fil α β):(QjA K b x).length=5:=rfl
end
section
variable {fr ro ro':Nat->Prop} {σ:Sig} {w:World}
theorem Qd7(sub:∀c,ro c->ro' c){i t k:Nat}{es:List (List A)}{v:Value}(n:∀b,σ[i]?=some (some b)->BR ro σ w (.row t k es) (some b)/\ro' b)(h:VR ro σ w (.osl i 0 es.length k) v):VR ro' [] w (.rsl k es) v:=by
 rcases h with⟨B,h⟩|⟨b,p,a,E,m,u,h,e,⟨d,g⟩,z,y⟩
 .have:es=[]:=(by grind);subst this;exact⟨none,0,h,XT _,.inl rfl⟩
 .refine⟨_,a,h,d,?_⟩;by_cases f:es=[]
  .exact .inl f
  .right;have r:0<a:=Ve (by grind) d;obtain rfl:=e r;obtain⟨⟨l,s,j⟩,x⟩:=n b u;refine⟨b,0,by simp,x,?_⟩;have:=Yt (pre:=[]) (by simpa using s) j;exact this.keep ⟨sub,λ_ _=>rfl,λ_ _ q=>q,λ_ _ q=>q⟩ rfl
theorem Qm3{ro:Nat->Prop}{w:World}{b t:Nat}:∀{cs:List A} {pre l:List Value},w.heap[b]?=some (.cells (pre++l).toArray t (0,0))->LR ro [] w cs l->(∀v∈l,Qo v)->CR ro [] w b cs pre.length
 |[],pre,l,_,_,_=>trivial
 |a::cs,pre,l,hb,hl,hp=>by
  obtain⟨v,l',rfl,h1,h2⟩:=hl;refine⟨⟨v,?_,hp v (by simp),h1⟩,?_⟩
  .unfold World.cell?
   grind
  .have:=Qm3 (pre:=pre++[v]) (l:=l') (by simpa using hb) h2 (by grind)
   grind
variable {α β:Type} (K:FK α β)
theorem QnG(sub:∀c,ro c->ro' c){b:Nat}{x:Fil α β}{v:Value}(f:∀(d c:Nat) (y:Blk),(QjA K b x)[d]?=some y->σ[b+d]?=some (some c)->BR ro σ w y (some c)/\ro' c)(h:VR ro σ w (.ptr b 0) v):VR ro' [] w (.rp (frp K x)) v:=by
 obtain⟨c,s,m⟩:=h;obtain⟨⟨l,g,a,p⟩,u⟩:=f 0 c _ rfl s;refine⟨c,0,m,u,?_⟩;refine Qm3 (pre:=[]) (by simpa using g) ?_ p;unfold QlX at a;obtain⟨v0,B,rfl,k,a⟩:=a;obtain⟨q,J,rfl,E,a⟩:=a;obtain⟨r,H,rfl,L,a⟩:=a;obtain⟨z,G,rfl,F,a⟩:=a;obtain⟨j,N,rfl,O,a⟩:=a;obtain⟨n,M,rfl,i,a⟩:=a;refine⟨v0,_,rfl,k,q,_,rfl,Qd7 sub (t:=K.tF) (λc e=>f 1 c _ rfl e) (by grind),r,_,rfl,Qd7 sub (t:=K.tF) (λc e=>f 2 c _ rfl e) (by grind),z,_,rfl,Qd7 sub (t:=K.tF) (λc e=>f 3 c _ rfl e) (by grind),
  j,_,rfl,Qd7 sub (t:=K.tR) (λc e=>f 4 c _ rfl e) (by grind),n,_,rfl,i,a⟩
theorem QmX(sub:∀c,ro c->ro' c){ek:Int->A}(hek:∀(k:Int) (v:Value),VR ro σ w (ek k) v->VR ro' [] w (ek k) v):∀{b:Nat} {fs:List (Fil α β)} {es:List MapEntry},(∀(d c:Nat) (y:Blk),(fall K b fs)[d]?=some y->σ[b+d]?=some (some c)->BR ro σ w y (some c)/\ro' c)->
  ER ro σ w (QS ek ptr0 (fent b fs)) es->ER ro' [] w (QS ek (rpE K) (fnum fs)) es
 |b,[],es,_,h=>h
 |b,x::l,es,hb,h=>by
  obtain⟨e,l',rfl,h1,h2,h3⟩:=h;refine⟨e,l',rfl,hek _ _ h1,?_,?_⟩
  .refine QnG K sub (λd c y hy hc=>hb d c y ?_ hc) h2
   grind[QfU]
  .refine QmX sub hek (b:=b+5) (fs:=l) (λd c y hy hc=>hb (d+5) c y ?_ (by grind)) h3
   grind[QfU,Qki]
end
section
variable {fr ro:Nat->Prop} {σ:Sig} {w:World} {α β:Type} (K:FK α β)
end
open Go.Sort Go.Proofs Go.Shelf
end Go.Sw
namespace Go.Sw
structure Pl where
 b:Nat
 i0:Nat
 i1:Nat
 i2:Nat
 i3:Nat
def Pl.ix(p:Pl):List Nat:=[p.b,p.i0,p.i1,p.i2,p.i3]
section
variable {α β:Type} (K:FK α β)
def QiU(p:Pl)(x:Fil α β):List A:=[.int .i64 x.number,.osl p.i0 0 x.r0.length K.kF,.osl p.i1 0 x.r1.length K.kF,.osl p.i2 0 x.r2.length K.kF,.osl p.i3 0 x.reports.length K.kR,.bool x.appeal]
structure Qcr (H:Qd) (x:Fil α β) (p:Pl):Prop where
 c:H[p.b]?=some (.cells K.T (QiU K p x))
 r0:H[p.i0]?=some (.row K.tF K.kF (x.r0.map K.eF))
 r1:H[p.i1]?=some (.row K.tF K.kF (x.r1.map K.eF))
 r2:H[p.i2]?=some (.row K.tF K.kF (x.r2.map K.eF))
 r3:H[p.i3]?=some (.row K.tR K.kR (x.reports.map K.eR))
abbrev Qi7(α β:Type):=List (Fil α β×Pl)
structure Qbx (lo:Nat) (H:Qd) (bk:Qi7 α β):Prop where
 laid:∀e∈bk,Qcr K H e.1 e.2
 own:∀e∈bk,e.2.ix.Nodup
 ne:bk.Pairwise λe f=>∀i∈e.2.ix,i∉f.2.ix
 lo:∀e∈bk,∀i∈e.2.ix,lo<=i
 num:(bk.map (·.1.number)).Nodup
variable {K} {lo:Nat} {H H':Qd} {bk l r:Qi7 α β} {e:Fil α β×Pl} {x':Fil α β} {p':Pl}
theorem Qbx.nil:Qbx K lo H ([]:Qi7 α β):=⟨(λ_ h=>by cases h),(λ_ h=>by cases h),List.Pairwise.nil,(λ_ h=>by cases h),List.nodup_nil⟩
theorem Qcr.lt(h:Qcr K H e.1 e.2):∀i∈e.2.ix,i<H.length:=by
 intro i a;have g:∀{j:Nat} {y:Blk},H[j]?=some y->j<H.length:=(by grind);simp only[Pl.ix,X5,List.not_mem_nil,or_false]at a;rcases a with rfl|rfl|rfl|rfl|rfl
 .exact g h.c
 .exact g h.r0
 .exact g h.r1
 .exact g h.r2
 .exact g h.r3
theorem Qcr.keep(h:Qcr K H e.1 e.2)(k:∀i∈e.2.ix,H'[i]?=H[i]?):Qcr K H' e.1 e.2:=by
 refine⟨?_,?_,?_,?_,?_⟩
 .rw[k _ (by simp[Pl.ix])];exact h.c
 .rw[k _ (by simp[Pl.ix])];exact h.r0
 .rw[k _ (by simp[Pl.ix])];exact h.r1
 .rw[k _ (by simp[Pl.ix])];exact h.r2
 .rw[k _ (by simp[Pl.ix])];exact h.r3
theorem Qbx.keep(h:Qbx K lo H bk)(k:∀j,lo<=j->j<H.length->H'[j]?=H[j]?):Qbx K lo H' bk:=
 ⟨λe he=>(h.laid e he).keep λi hi=>k i (h.lo e he i hi) ((h.laid e he).lt i hi),h.own,h.ne,h.lo,h.num⟩
theorem Qbx.upd(h:Qbx K lo H (l++e::r))(x:Qcr K H' x' p')(E:x'.number=e.1.number)(y:∀j,lo<=j->j<H.length->j∉e.2.ix->H'[j]?=H[j]?)
  (hi:∀i∈p'.ix,i∈e.2.ix\/H.length<=i)(w:p'.ix.Nodup)(z:lo<=H.length):Qbx K lo H' (l++(x',p')::r):=by
 obtain⟨s,u,F⟩:=List.pairwise_append.1 h.ne;obtain⟨B,t⟩:=Xc.1 u;have mem:∀f∈l++(x',p')::r,f=(x',p')\/(f∈l++e::r/\ ∀i∈f.2.ix,i∉e.2.ix):=by
  intro f a
  grind
 refine⟨?_,?_,?_,?_,?_⟩
 .intro f a;rcases mem f a with rfl|⟨k,m⟩
  .exact x
  .exact(h.laid f k).keep λi hi=>y i (h.lo f k i hi) ((h.laid f k).lt i hi) (m i hi)
 .intro f a;rcases mem f a with rfl|⟨k,m⟩
  .exact w
  .exact h.own f k
 .refine List.pairwise_append.2 ⟨s,Xc.2 ⟨?_,t⟩,?_⟩
  .intro f a i b d;rcases hi i b with q|q
   .grind
   .have:=(h.laid f (by simp[a])).lt i d;omega
  .intro f a g p i d n;rcases X5.1 p with rfl|p
   .rcases hi i n with q|q
    .grind
    .have:=(h.laid f (by simp[a])).lt i d;omega
   grind
 .intro f a;rcases mem f a with rfl|⟨k,m⟩
  .intro i b;rcases hi i b with q|q
   .exact h.lo e (by simp) i q
   .omega
  .exact h.lo f k
 .have:=h.num
  grind
theorem Qbx.add(h:Qbx K lo H bk)(n:Qcr K H' x' p')(s:∀e∈bk,e.1.number≠x'.number)(p:∀j,lo<=j->j<H.length->H'[j]?=H[j]?)
  (hi:∀i∈p'.ix,H.length<=i)(m:p'.ix.Nodup)(r:lo<=H.length):Qbx K lo H' (bk++[(x',p')]):=by
 have k:=h.keep p;have mem:∀f∈bk++[(x',p')],f∈bk\/f=(x',p'):=by
  simp
 refine⟨?_,?_,?_,?_,?_⟩
 .intro f a;rcases mem f a with q|rfl
  .exact k.laid f q
  .exact n
 .intro f a;rcases mem f a with q|rfl
  .exact h.own f q
  .exact m
 .refine List.pairwise_append.2 ⟨h.ne,by simp,λf a g d i b l=>?_⟩;obtain rfl:=VA.1 d;have:=(h.laid f a).lt i b
  grind
 .intro f a i b;rcases mem f a with q|rfl
  .exact h.lo f q i b
  grind
 .rw[Xf];refine List.nodup_append.2 ⟨h.num,by simp,?_⟩
  grind
end
section
variable {fr ro ro':Nat->Prop} {σ:Sig} {w:World} {α β:Type} (K:FK α β)
def Qmt(bk:Qi7 α β):List Nat:=bk.flatMap λe=>e.2.ix
theorem Qbx.all{lo:Nat}{H:Qd}:∀{d:Qi7 α β},Qbx K lo H d->(Qmt d).Nodup/\ ∀i∈Qmt d,lo<=i/\ ∃y,H[i]?=some y/\y.live=true:=by
 intro d h;refine⟨?_,?_⟩
 .have g:=h.own;have j:=h.ne
  grind[Qmt]
 .intro i b;obtain⟨e,f,b⟩:=List.mem_flatMap.1 b;refine⟨h.lo e f i b,?_⟩;have a:=h.laid e f;simp only[Pl.ix,X5,List.not_mem_nil,or_false]at b;rcases b with rfl|rfl|rfl|rfl|rfl
  .exact⟨_,a.c,rfl⟩
  .exact⟨_,a.r0,rfl⟩
  .exact⟨_,a.r1,rfl⟩
  .exact⟨_,a.r2,rfl⟩
  .exact⟨_,a.r3,rfl⟩
end
section
variable {α β:Type} (K:FK α β) {env:Env} {H:Qd}
end
section
variable {P:Program} {h0 N:Nat} {all:Array Oper} {o:Oper} {l:List Oper} {env:Env} {H:Qd} {Q:Qz}
end
section
variable {h0 n:Nat} {env env':Env} {H H':Qd}
end
section
variable {P:Program} {o:Oper} {env:Env} {H:Qd} {α:Type}
end
section
variable {α β:Type}
def newF(k:Int):Fil α β:=⟨k,[],[],[],[],false⟩
variable (K:FK α β) {lo:Nat} {H H':Qd} {bk:Qi7 α β}
def Qj8(n:Nat):Pl:=⟨n,n+1,n+2,n+3,n+4⟩
def Qd9(n:Nat)(k:Int):Qd:=[.cells K.T (QiU K (Qj8 n) (newF k)),.row K.tF K.kF [],.row K.tF K.kF [],.row K.tF K.kF [],.row K.tR K.kR []]
theorem Qcr.new{k:Int}:Qcr K (H++Qd9 K H.length k) (newF k) (Qj8 H.length):=by
 have g:∀(j:Nat) (y:Blk),(Qd9 K H.length k)[j]?=some y->(H++Qd9 K H.length k)[H.length+j]?=some y:=by
  grind
 exact⟨g 0 _ rfl,g 1 _ rfl,g 2 _ rfl,g 3 _ rfl,g 4 _ rfl⟩
theorem Qjn(n:Nat):(∀i∈(Qj8 n).ix,n<=i)/\(Qj8 n).ix.Nodup:=by
 simp_all[Pl.ix,Qj8]
variable {K}
theorem Qbx.new{k:Int}(h:Qbx K lo H bk)(b:∀e∈bk,e.1.number≠k)(a:lo<=H.length):Qbx K lo (H++Qd9 K H.length k) (bk++[(newF k,Qj8 H.length)]):=by
 refine h.add (Qcr.new K) b (by grind) (Qjn _).1 (Qjn _).2 a
theorem Qbx.row{l r:Qi7 α β}{e:Fil α β×Pl}{x':Fil α β}{d:Pl}{i:Nat}{y:Blk}(h:Qbx K lo H (l++e::r))(t:lo<=H.length)(w:x'.number=e.1.number)(hi:i∈e.2.ix)(x:i≠e.2.b)(g:d.b=e.2.b)
  (F:H'=(H.set i .dead++[y]).set e.2.b (.cells K.T (QiU K d x')))
  (u:d.ix=e.2.ix.map λj=>bif Nat.beq j i then H.length else j)
  (q:H'[d.i0]?=some (.row K.tF K.kF (x'.r0.map K.eF)))(p:H'[d.i1]?=some (.row K.tF K.kF (x'.r1.map K.eF)))(k:H'[d.i2]?=some (.row K.tF K.kF (x'.r2.map K.eF)))(n:H'[d.i3]?=some (.row K.tR K.kR (x'.reports.map K.eR))):
  Qbx K lo H' (l++(x',d)::r):=by
 have m:=h.laid e (by simp);have f:=m.lt;have B:e.2.b<H.length:=f _ (by simp[Pl.ix]);refine h.upd ⟨?_,q,p,k,n⟩ w ?_ ?_ ?_ t
 .grind
 .grind[List.getElem?_set_ne,Pl.ix]
 .grind
 .rw[u];have E:=h.own e (by simp);refine List.pairwise_map.2 (List.Pairwise.imp_of_mem ?_ E);intro a b z g s;have G:=f a z;have M:=f b g;cases J:Nat.beq a i with
  |true=>
   cases L:Nat.beq b i with
   |true=>simp_all
   |false=>grind
  |false=>
   grind
end
section
variable {fr ro:Nat->Prop} {σ:Sig} {H:Qd} {w:World}
end
section
variable {P:Program} {o:Oper} {env:Env} {H:Qd}
theorem Le.frow{L s i n k t:Nat}{es:List (List A)}(O:lk env s=.osl i 0 n k)(G:H[i]?=some (.frow t k es))(y:es.length=n):Le L env H (up env s (.rsl k es)) H:=by
 intro V g σ N a w r;refine⟨g,σ,⟨r.sim,?_,r.size,r.defers⟩,λ_ q=>q,rfl⟩;intro d;simp only[lk];by_cases q:d=s
 .subst q;rw[VE];have:=r.env d;rw[O]at this;show VR g σ w (.rsl k es) _;rcases this with⟨h,f⟩|⟨b,p,e,W,m,h,f,J,⟨R,u⟩,P,Q⟩
  .have:es=[]:=(by grind);subst this;exact⟨none,0,by rw[f];rfl,XT _,.inl rfl⟩
  .obtain⟨M,l,j,E,T⟩:=r.sim.blk i _ _ h G;refine⟨_,e,by rw[f,y],by omega,?_⟩;by_cases F:es=[]
   .exact .inl F
   .right;have B:0<e:=(by grind);have x:=J B;refine⟨b,0,by rw[x];simp,M,?_⟩;exact Yt (pre:=[]) (by simpa using j) E
 .have:Nat.beq d s=false:=by
   cases z:Nat.beq d s with
   |true=>simp_all
   |false=>rfl
  rw[this];exact r.env d
end
open Go.MapKept
section
variable {P:Program} {kt et:Nat} {α β:Type} [DecidableEq α] {ek:α->A} {ev:β->A} {ro:Nat->Prop} {σ:Sig} {w:World} (K:Qab P kt ek)
include K
variable {o:Oper} {env:Env} {H:Qd} {T T' i:Nat} {x y:Operand} {l m:List (α×β)} {k:α}
end
end Go.Sw
namespace Go.Sw
section
variable {P:Program} {h0 N:Nat} {all:Array Oper} {o1 o2:Oper} {l:List Oper} {env:Env} {H:Qd} {Q:Qz}
end
section
variable {P:Program} {o:Oper} {env:Env} {H:Qd}
end
section
variable {P:Program} {o:Oper} {env:Env} {H:Qd} {α:Type}
def Qbz(l:List α)(lo hi i:Int):Option α:=bif decide (0<=lo)&&(decide (0<=i)&&decide (lo+i<hi))then idx l (lo+i)else none
theorem Qjw{l:List α}{lo hi i:Int}{v:α}(h:Qbz l lo hi i=some v):0<=lo/\0<=i/\lo+i<hi/\idx l (lo+i)=some v:=by
 unfold Qbz at h
 grind
theorem Qaz{l:List α}{lo hi i:Int}{v:α}(h:Qbz l lo hi i=some v):idx l (lo+i)=some v:=(Qjw h).2.2.2
theorem Jl{t a k b:Nat}{x y:Operand}{l:List α}{d:IntKind}{lo hi i:Int}{v:α}(h:Qbz l lo hi i=some v)(f:∀w,(underlying t).run P w=.ok (.slice a) w)(m:∀w,(sizeOf a).run P w=.ok k w)
  (n:o.op=.indexAddr t x y:=by exact rfl)(hx:opA env x=.osl b (0+lo.toNat) (hi.toNat-lo.toNat) k:=by exact rfl)(hy:opA env y=.int d i:=by exact rfl):OpV P o env H (.ptr b ((lo+i).toNat*k)):=by
 obtain⟨q,j,p,_⟩:=Qjw h;have g:=Qg0 (H:=H) n f m hx hy j (by omega);have e:(0+lo.toNat)*k+i.toNat*k=(lo+i).toNat*k:=by
  rw[<- XA]
  grind
 rwa [e]at g
end
theorem Qg5{h0:Nat}{env:Env}{H H':Qd}(e:H=H'):Le h0 env H env H':=e▸Le.refl h0 env H
section
variable {P:Program} {o:Oper} {env:Env} {H:Qd}
end
section
variable {env:Env} {H:Qd}
theorem Qgh{h0 i j m o' n k T:Nat}{x:Blk}{cs:List A}(hi:H[i]?=some x)(F:H[j]?=some (.cells T cs))(s:cs[m]?=some (.osl i o' n k))(e:Nat.beq i j=false)(X:Nat.ble h0 H.length=true):
  Le h0 env H env ((H.set i .dead).set j (.cells T (cs.set m (.osl H.length o' n k)))++[x]):=by
 intro Y z σ N a w r;have hiσ:i<σ.length:=by rw[r.sim.len];exact(XL.1 hi).1
 have hσ:σ[i]?=some σ[i]:=XK hiσ;have ext:Ext z σ w z (σ++[σ[i]]) w:=⟨λ_ q=>q,λ_ _=>rfl,λ_ _ q=>q,λ_ _ h=>Qae h⟩;have Q:=r.sim.moved hi hσ;have d:j<H.length:=(XL.1 F).1;have E:i≠j:=λq=>by rw[q,VE]at e;cases e
 have f:(H.set i .dead++[x])[j]?=some (.cells T cs):=by
  rw[XM (by simpa using d),XP E];exact F
 have O:(H.set i .dead).set j (.cells T (cs.set m (.osl H.length o' n k)))++[x]=(H.set i .dead++[x]).set j (.cells T (cs.set m (.osl H.length o' n k))):=by
  rw[List.set_append_left _ _ (by simpa using d)]
 rw[O];refine⟨z,σ++[σ[i]],⟨Q.weaken f rfl ?_,λq=>(r.env q).mono ext,r.size,r.defers⟩,λ_ q=>q,QA (by rw[r.sim.len];exact XR X)⟩;have g:σ.length=H.length:=r.sim.len;intro y h;cases y with
 |none=>exact h
 |some b=>
  obtain⟨l,G,V,J⟩:=h;refine⟨l,G,?_,J⟩;clear G J f O F Q
  induction cs generalizing m l with
  |nil=>cases s
  |cons c cs W=>
   obtain⟨v,B,rfl,M,P⟩:=V;cases m with
   |zero=>
    simp at s;subst s;refine⟨v,B,rfl,?_,P⟩;rcases M with h|⟨b,p,u,t,m,L,R⟩
    .exact .inl h
    .refine .inr ⟨b,p,u,t,m,?_,R⟩;rw[XM hiσ,hσ]at L;rw[<- g];simpa using L
   |succ m=>exact⟨v,B,rfl,M,W (by simpa using s) B P⟩
theorem OpU.ins{P:Program}{o:Oper}{H':Qd}{T:Nat}{x y d:Operand}(l:o.op=.insert T x y d)(h:OpU P {o with op:=.mapUpdate T x y d} env H H'):OpU P o env H H':=by
 intro g f σ N a w r;obtain⟨i,b,τ,k,e,j⟩:=h g f σ N a w r;exact⟨i,b,τ,by simpa only[execOp,l]using k,e,j⟩
end
section
variable {P:Program} {o:Oper} {env:Env} {H:Qd} {T kt et:Nat} {α β:Type} [DecidableEq α] {ek:α->A} {ev:β->A} {x y:Operand} {i:Nat} {l:List (α×β)} {k:α} {z:Value} {zA:A}
end
open Go.Sort Go.Proofs Go.Shelf
end Go.Sw
namespace Go.Sw
theorem TC.label{P:Program}{h0 N l:Nat}{env:Env}{H:Qd}{Q:Qz}(h:Q .normal env H):TC P h0 N (.label l) env H Q:=
 λrd fr ro σ a w r hrd=>wpIn_label ⟨_,env,H,ro,σ,fr,rfl,h,r,Qi.refl _ _ _,rfl,Grow.refl _ _ _⟩
theorem Qhd{P:Program}{b:Frame}{a:Act}{k:List Item}{cs:List Frame}{w:World}{c:Code}:step P (lone (b.atR a (.code (.scope c)::k)) cs w)=.next (lone (b.atR a (.code c::.inScope c::k)) cs w):=
 step_lone_go (by simp[stepG,stepG.exec,Frame.atR])
theorem Qft{P:Program}{b:Frame}{a:Act}{k:List Item}{cs:List Frame}{w:World}{c:Code}:step P (lone (b.atR a (.inScope c::k)) cs w)=.next (lone (b.atR a k) cs w):=
 step_lone_go (by simp[stepG,stepG.exec,Frame.atR])
theorem TC.scope{P:Program}{h0 N:Nat}{c:Code}{env:Env}{H:Qd}{Q:Qz}(h:TC P h0 N c env H Q):TC P h0 N (.scope c) env H Q:=by
 intro m t q σ a w r hrd b k cs hro hb f;obtain⟨e,n,u,j,d⟩:=h m t q σ a w r hrd b (.inScope c::k) cs hro hb f;refine⟨e,n,u,j,.of_steps (.one (fenced_calm hb f rfl) Qhd) ?_⟩;obtain⟨x,i,H',s,σ',l,y,_⟩:=j;cases e with
 |normal=>exact StepsIn.trans d (.one (fenced_calm hb f rfl) Qft)
 |exit id=>exact⟨λp g=>d.1 p (by rw[exitTo];exact g;simp),λf g=>d.2 f (by rw[exitTo];exact g;simp)⟩
 |ret=>exact d
 |_=>exact y.elim
theorem QcX{P:Program}{o:Oper}{env:Env}{H:Qd}{p:Nat}{α:Type}{e:α->List A}{T et k:Nat}{x y:Operand}{M s:IntKind}{n:Int}{zv:α}{l:List α}{z:Value}{a:A}(j:mk n zv=some l)(E:Q7 P T et k)(F:∀w,(zeroValue et).run P w=.ok z w)(d:ZR a z)
  (B:Yi a=true)(L:Q6 a=e zv)(G:(Q6 a).all Yo=true)(b:Nat.beq (e zv).length k=true)
  (O:o.op=.makeSlice T x y:=by exact rfl)(hx:opA env x=.int M n:=by exact rfl)(hy:opA env y=.int s n:=by exact rfl):
  OpZR P o env H p (.osl p 0 l.length k) (.row et k (l.map e)):=by
 intro R m σ N act w r;obtain⟨f,u,i,t,J,g,Q⟩:=Qjr j E F d B L G b O hx hy r;refine⟨_,_,u,λ_ h=>h.elim,λ σ' hσ ext=>⟨.inr ⟨w.heap.size,0,l.length,et,f.length,hσ,rfl,λ_=>by simp,⟨XT _,by omega⟩,?_,by rw[g,Xv];exact XT _⟩,⟨f,Q0 _ _,?_⟩⟩⟩
 .unfold World.shape?;rw[Q0];simp
 .have:=YJ (rest:=[]) J (i.mono (w':=w.alloc (.cells f.toArray et)) (σ':=[]) (ro':=m) ⟨λ_ q=>q,ext.keep,ext.shape,λ_ _ q=>q⟩) t
  rwa [Vf]at this
theorem Qco{P:Program}{o:Oper}{env:Env}{H:Qd}{T f off n:Nat}{x:Operand}{cs:List A}{v:A}{fs:Array Field}{d:Field}(h:YL P T f off n)(g:∀w,(underlying T).run P w=.ok (.struct fs) w)(a:fs[f]?=some d)(b:∀w,(isAgg d.type).run P w=.ok false w)
  (l:o.op=.field T x f:=by exact rfl)(hx:opA env x=.agg cs:=by exact rfl)(hv:cs[off]?=some v:=by exact rfl):OpV P o env H v:=
 OpV.field h (λi k j e w=>by
  have:=(j w).symm.trans (g w);cases this;rw[a]at e;cases e;exact b w) l hx hv
section
variable {P:Program} {o:Oper} {env:Env} {H:Qd} {fr ro:Nat->Prop} {σ:Sig} {w:World}
theorem Qc1(i n c:Nat):QdZ i n (c+1)=QdZ i n c++[[.osl i (c*n) n 1]]:=by simp[QdZ,Xu]
theorem QaS(i n c:Nat):(QdZ i n c).length=c:=by simp[QdZ]
theorem Qo7{j i t b n:Nat}(e:H[i]?=some (.row t 1 [])):Le j env H env (H.set i (.wins t b n 0)):=by
 intro m g σ N a w r;refine⟨g,σ,⟨r.sim.weaken (x':=.wins t b n 0) e rfl ?_,r.env,r.size,r.defers⟩,λ_ q=>q,rfl⟩;intro y h;cases y with
 |none=>rfl
 |some d=>obtain⟨l,f,k⟩:=h;exact⟨l,f,trivial⟩
theorem srcR{j m t k:Nat}{l:List (List A)}{x:Blk}{v:Value}(s:Sim fr ro σ H w)(y:H[j]?=some x)(hB:∀d,BR ro σ w x (some d)->∃lb:List Value,w.heap[d]?=some (.cells lb.toArray t (0,0))/\RL ro σ w k l lb)(f:l.length=m)(h:VR ro σ w (.osl j 0 m k) v):
  (∃a c,v=.slice a m c)/\(l=[]\/allK k l)/\ ∃vs:List Value,(∀w':World,w'.heap=w.heap->(Builtin.firstCells k m v).run P w'=.ok vs.toArray w')/\LR ro σ w l.flatten vs/\ ∀v∈vs,Qo v:=by
 rcases h with⟨rfl,rfl⟩|⟨b,p,e,O,J,E,rfl,i,⟨M,r⟩,L,G⟩
 .have:l=[]:=VI.1 f;subst this;exact⟨⟨none,0,rfl⟩,.inl rfl,[],λ_ _=>YC,rfl,by simp⟩
 .obtain⟨lb,B,g⟩:=hB b (s.blk j _ _ E y);refine⟨⟨_,e,rfl⟩,.inr g.allK,?_⟩;have q:=Yt (pre:=[]) (by simpa using B) g;by_cases z:0<e
  .obtain rfl:=i z;obtain⟨F,N,u⟩:=q.flat;have:=Qa4 (P:=P) (k:=k) (n:=m) (c:=e) F (by rw[u];simp[f]);simpa using this
  .obtain rfl:m=0:=by omega
   have:l=[]:=VI.1 f;subst this;exact⟨[],λ_ _=>YC,rfl,by simp⟩
theorem QmL{c:Call}{T T' t e' i j n b u m off:Nat}{x y:Operand}(E:Q7 P T t 1)(hd:∀w,(underlying T').run P w=.ok (.slice e') w)(ak:n+1<=Q9)(J:off=n*m)(hu:u=m)
  (ho:o.op=.call c:=by exact rfl)(hc:c={callee:=.builtin .append,args:= #[x,y],argTypes:= #[T,T']}:=by exact rfl)(hx:opA env x=.osl i 0 n 1:=by exact rfl)(hH:H[i]?=some (.wins t b m n):=by exact rfl)
  (hy:opA env y=.osl j 0 1 1:=by exact rfl)(hHj:H[j]?=some (.rowr t 1 [[.osl b off u 1]]):=by exact rfl):
  OpH P o env H (.osl H.length 0 (n+1) 1) (H.set i .dead++[.wins t b m (n+1)]):=by
 subst J hu;intro fr B σ N a w r;have F:=Qj r x;rw[hx]at F;have h2:=Qj r y;rw[hy]at h2;obtain⟨⟨ay,cy,e1⟩,-,vs,q3,q4,V⟩:=srcR (P:=P) (t:=t) (k:=1) (m:=1) (l:=[[A.osl b (n*u) u 1]]) r.sim hHj (λ_ q=>q) rfl h2;rw[e1]at q3;have L:allK 1 [[A.osl b (n*u) u 1]]:=⟨rfl,trivial⟩;obtain⟨⟨ax,cap,ex⟩,z,e,o1,o2,o3⟩:=srcR (P:=P) (t:=t) (k:=1) (m:=n) (l:=QdZ b u n) r.sim hH (λ_ q=>q) (QaS _ _ _) F;have z:allK 1 (QdZ b u n):=by
  rcases z with q|q
  .rw[q];trivial
  .exact q
 have ah:i<H.length:=(XL.1 hH).1;have G:vs.length=1:=by rw[q4.length];rfl
 have ag:e.length=n:=by rw[o2.length,Yd z,QaS];omega
 rw[ex]at o1 F;by_cases s:n+1<=cap
 .rcases F with⟨_,F⟩|⟨d,p,aj,t',mm,h3,F,h4,⟨h5,ac⟩,W,h7⟩
  .cases F;omega
  cases F;have O:=r.sim.blk i _ _ h3 hH;obtain⟨lb,R,g2⟩:=O;obtain rfl:p=0*1:=h4 (by omega);have h:=QbF (t:=o.type) E hd (ad:=some ⟨d,0*1,none⟩) (n:=n) (m:=1) (cap:=cap) (c:=cy) (ax:=ay) s (q3 w rfl);have Q:(n+1)*1<=lb.length:=by
   have:w.shape? d=some (t,lb.length):=by unfold World.shape?;rw[R];simp
   rw[this]at W;cases W;exact XV (XC 1 s) (by simpa using h7)
  have ae:=Q4 (P:=P) (vs:=vs) (n*1) 0 R (by rw[G];simpa using Q) V;have g:=r.sim.set (x':=.wins t b u (n+1)) (obj:=.cells (splice lb (n*1) vs).toArray t (0,0)) h3 hH rfl
   (λy hy=>Jc R (Q1 (by rw[G];simpa using Q)) y hy)
   (λex af=>⟨_,af,by
    have:=(g2.app (n:=n) (by simp[QaS]) L q4 V).mono ex;rw[VH (by simp[QaS])]at this;rw[Qc1];exact this⟩)
  have sm:=g.1.moved (i:=i) (Xa ah) h3;rw[List.set_set]at sm;refine⟨.slice (some ⟨d,0*1,none⟩) (n+1) cap,_,B,[some d],?_,.inr ⟨d,0*1,cap,t',mm,?_,rfl,h4,⟨s,ac⟩,?_,h7⟩,sm,g.2⟩
  .refine Yy ho hc _ ?_;rw[ex,e1,h];simp only[YU,Nat.zero_mul,Xv,Vl,ae,Result.andThen,Vm];simp
  .rw[<- r.sim.len];simp
  .exact g.2.shape _ _ W
 .obtain⟨f,nc,ab,aa,h⟩:=Qeu (t:=o.type) E hd rfl (by omega) (by omega) q3 o1
  let w0:World:={w with drawn:=w.drawn+1}
  have M:Sim fr B σ (H.set i .dead) w0:=(r.sim.kill i).heap rfl;have e0:Qi fr B w B w0:=Qi.heap rfl rfl rfl rfl (Nat.le_succ _);have X:LR B σ w0 (QdZ b u (n+1)).flatten (e++vs):=by
   rw[Qc1,Xr];exact(o2.append q4).mono (Ext.heap (w:=w) (w':=w0) rfl)
  have Y:∀v∈e++vs,Qo v:=λv hv=>by rcases VC.1 hv with q|q;exact o3 v q;exact V v q
  have s1:=M.alloc (x:=.wins t b u (n+1)) (obj:=.cells ((e++vs)++f).toArray t) ⟨(e++vs)++f,Q0 _ _,(YJ (by rw[Qc1];exact QbP z L) X Y).mono ((Qi.alloc (fr:=fr) _ M.roLt M.frLt).ext σ _)⟩;have ai:Qi fr B w0 B (w0.alloc (.cells ((e++vs)++f).toArray t)):=Qi.alloc _ M.roLt M.frLt;refine⟨_,_,B,[some w.heap.size],Yy ho hc a.eval (by rw[ex,e1];exact h),.inr ⟨w.heap.size,0,nc,t,(e++vs++f).length,?_,rfl,λ_=>by simp,ab,?_,?_⟩,s1,e0.trans ai⟩
  .rw[<- r.sim.len];simp
  .have:=Q0 w0 (.cells ((e++vs)++f).toArray t);unfold World.shape?;rw[show w.heap.size=w0.heap.size from rfl,this];simp
  .simp only[X2,aa,ag,G,Xv];omega
theorem Qm5{ro':Nat->Prop}{i n j t:Nat}{es:List (List A)}{v:Value}(s:Sim fr ro σ H w)(hσ:∀c,σ[i]?=some (some c)->ro' c)(y:∀c,ro c->ro' c)(k:H[i]?=some (.row t 1 es))(B:j*n+n<=es.length)
  (h:VR ro σ w (.osl i (j*n) n 1) v):VR ro' [] w (.rsl 1 ((es.drop (j*n)).take n)) v:=by
 have a:((es.drop (j*n)).take n).length=n:=by simp;omega
 rcases h with⟨rfl,rfl⟩|⟨c,p,b,F,m,e,rfl,f,⟨r,_⟩,E,z⟩
 .exact⟨none,0,by rw[a],by rw[a];exact XT _,.inl (VI.1 a)⟩
 .refine⟨_,b,by rw[a],by rw[a];exact r,?_⟩;by_cases x:n=0
  .exact .inl (VI.1 (a.trans x))
  .obtain rfl:=f (by omega);obtain⟨l,u,g⟩:=s.blk i _ _ e k;have q:=(Yt (pre:=[]) (by simpa using u) g).keep (ro':=ro') (σ':=[]) (w':=w) ⟨y,λ_ _=>rfl,λ_ _ q=>q,λ_ _ q=>q⟩ rfl;refine .inr ⟨c,_,rfl,hσ c e,?_⟩;have d:=(q.drop (j*n)).take n;simpa using d
def Qhb{α:Type}(l:List α)(n c:Nat):List (List α):=(List.range c).map λj=>(l.drop (j*n)).take n
theorem QjM{ro':Nat->Prop}{i n t d:Nat}{es:List (List A)}(s:Sim fr ro σ H w)(hσ:∀c,σ[i]?=some (some c)->ro' c)(hs:∀c,ro c->ro' c)(hH:H[i]?=some (.row t 1 es)):
  ∀(l:List Nat) (off:Nat),(∀j∈l,j*n+n<=es.length)->RR ro σ w d 1 (l.map λj=>[.osl i (j*n) n 1]) off->RR ro' [] w d 1 (l.map λj=>[.rsl 1 ((es.drop (j*n)).take n)]) off
 |[],_,_,_=>trivial
 |j::l,off,hl,h=>by
  obtain⟨_,⟨⟨v,h2,h3,h4⟩,_⟩,h6⟩:=h;exact⟨rfl,⟨⟨v,h2,h3,Qm5 s hσ hs hH (hl j (by simp)) h4⟩,trivial⟩,QjM s hσ hs hH l (off+1) (λj hj=>hl j (by simp[hj])) h6⟩
theorem QnL{F s i b t W n c:Nat}{α:Type}{e:α->List A}{l:List α}(hl:c*n<=l.length)(hi:Nat.ble F i=true)(hb:Nat.ble F b=true)(hs:lk env s=.osl i 0 c 1)(B:H[i]?=some (.wins t b n c))(f:H[b]?=some (.row W 1 (l.map e))):
  Le F env H (up env s (.rsl 1 ((Qhb l n c).map (Qn 1 e)))) ((H.set b .dead).set i .dead):=by
 intro fr O σ N a w r;have E:b≠i:=by rintro rfl;rw[B]at f;cases f
 obtain⟨g,M,x,J⟩:=r.sim.shutL (l:=[b,i]) (by simp[E]) (by
  intro j u;simp at u;rcases u with rfl|rfl
  .exact⟨_,f,rfl⟩
  .exact⟨_,B,rfl⟩)
 refine⟨g,σ,⟨M,?_,r.size,r.defers⟩,x,rfl⟩;have ext:Ext O σ w g σ w:=⟨x,λ_ _=>rfl,λ_ _ q=>q,λ_ _ q=>q⟩;intro k;simp only[lk];by_cases q:k=s
 .subst q;rw[VE];have h:=r.env k;rw[hs]at h;have T:(Qhb l n c).map (Qn 1 e)=(List.range c).map λj=>[A.rsl 1 ((((l.map e).drop (j*n)).take n))]:=by
   simp[Qhb,Qn,List.map_drop,List.map_take]
  rw[T];rcases h with⟨z,h⟩|⟨d,p,y,t',m,L,h,X,⟨Y,Q⟩,h4,h5⟩
  .subst z;exact⟨none,0,h,XT _,.inl rfl⟩
  .refine⟨_,y,by simpa using h,by simpa using Y,?_⟩;by_cases V:c=0
   .left;subst V;rfl
   .right;obtain rfl:=X (by omega);obtain⟨lv,P,R⟩:=r.sim.blk i _ _ L B;refine⟨d,0,by simp,J i (by simp) d L,?_⟩;refine QjM r.sim (J b (by simp)) x f (List.range c) 0 ?_ (Yt (pre:=[]) (by simpa using P) R);intro j u;have G:j<c:=by simpa using u
    rw[X0];refine XV ?_ hl;have:=XC n (show j+1<=c from G)
    rwa [XA,Nat.one_mul]at this
 .have:Nat.beq k s=false:=by
   rw[VL];intro q';exact q (XQ q')
  rw[this];exact(r.env k).mono ext
theorem QfL{T e k:Nat}(E1:∀w,(underlying T).run P w=.ok (.slice e) w)(E2:∀w,(sizeOf e).run P w=.ok k w){ad:Option Addr}{n cap:Nat}{y z:Int}(a:n<=cap)(d:0<=y)(g:y<=z)(f:z<=n):
  (Instr.sliceAt T (.slice ad n cap) (some (.int .i64 y)) (some (.int .i64 z)) (some (.int .i64 z))).run P w=.ok (.slice (if z.toNat=y.toNat then ad else ad.map (·.add (y.toNat*k))) (z.toNat-y.toNat) (z.toNat-y.toNat)) w:=by
 have b:(Instr.sliceBounds true n cap (some (.int .i64 y)) (some (.int .i64 z)) (some (.int .i64 z))).run P w=.ok (y.toNat,z.toNat,z.toNat) w:=by
  simp only[Instr.sliceBounds,Vl,Vm,Result.andThen,Yn (show 0<=z by omega) (show z<=(cap:Int)by omega),Yn (show 0<=z by omega) (show z<=(z.toNat:Int)by omega),Yn d (show y<=(z.toNat:Int)by omega)]
 simp only[Instr.sliceAt,Vl,E1,Result.andThen,Instr.slice,b,E2,Vm]
theorem QkK{α:Type}{T et k b:Nat}{x lo hi B:Operand}{l r:List α}{c d:Int}(h:slc l c d=some r)(E1:∀w,(underlying T).run P w=.ok (.slice et) w)(E2:∀w,(sizeOf et).run P w=.ok k w)
  (J:o.op=.slice T x (some lo) (some hi) (some B):=by exact rfl)(hx:opA env x=.osl b 0 l.length k:=by exact rfl)(h0:opA env lo=.int .i64 c:=by exact rfl)(h1:opA env hi=.int .i64 d:=by exact rfl)(h2:opA env B=.int .i64 d:=by exact rfl):
  OpV P o env H (.osl b (0+Int.toNat c) (Int.toNat d-Int.toNat c) k):=by
 intro R Q σ N a w r;obtain⟨u,t,O,_⟩:=Qc5 h;have s:=Qj r x;rw[hx]at s;rcases s with⟨g,i⟩|⟨f,p,cap,G,m,g,i,L,⟨M,V⟩,j,F⟩
 .have e:=QfL (P:=P) (w:=w) E1 E2 (ad:=none) (n:=0) (cap:=0) (y:=c) (z:=d) (XT 0) u t (by omega);refine⟨_,by simp only[execOp,J,i,Vl,Xk,Xj,Qw r h0,Qw r h1,Qw r h2,e,Result.andThen,Vm];rfl,?_⟩;left;have:d.toNat-c.toNat=0:=by omega
  simp[this]
 .have e:=QfL (P:=P) (w:=w) E1 E2 (ad:=some ⟨f,p,none⟩) (n:=l.length) (cap:=cap) (y:=c) (z:=d) M u t O;refine⟨_,by simp only[execOp,J,i,Vl,Xk,Xj,Qw r h0,Qw r h1,Qw r h2,e,Result.andThen,Vm];rfl,?_⟩;right;by_cases E:d.toNat=c.toNat
  .refine⟨f,p,d.toNat-c.toNat,G,m,g,by simp[E],λq=>by omega,⟨XT _,by omega⟩,j,?_⟩;refine XV (XC k ?_) F;omega
  .refine⟨f,p+c.toNat*k,d.toNat-c.toNat,G,m,g,by simp[E,YU],λq=>?_,⟨XT _,by omega⟩,j,?_⟩
   .rw[L (by omega)];simp
   .refine XV (XC k ?_) F;omega
end
abbrev Ea:=@Ev.bind
abbrev Ec:=@FzH.keep
abbrev Ed:=@FzL.cons
abbrev Ee:=@FzA.refl
abbrev Ef:=@PL.cons
abbrev Eg:=@DS.done
abbrev Eh:=@Ev.and
abbrev Ei:=@EvI.done
abbrev Ej:=@FzL.refl
abbrev Ek:=@OpH.lit
abbrev El:=@RF.cons
abbrev Em:=@Le.trans
abbrev En:=@ZR.int
abbrev Eo:=@FzA.o
abbrev Ep:=@Le.phantom
abbrev Er:=@Ev.or
abbrev Et:=@EvI.cont
abbrev Eu:=@OpU.store
abbrev Ew:=@OpV.load
abbrev Ex:=@Ev.const
theorem Zf.{u,v}{α:Sort u}{β:Sort v}{f:α->β}:∀x,f x=f x:=λ_=>rfl
abbrev Ze.{u,v}{α:Sort u}{β:Type v}:α->List β:=λ_=>[]
end Go.Sw
