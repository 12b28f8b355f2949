/- The rules by which the code is walked, with what they rest on (part 3). -/
import Derived.Test.YtgjcbknjiemdgaaGreatDoorL2
import Derived.Shelf.Spec.SlicesInsertGrow
set_option linter.unusedVariables false
set_option linter.unusedSectionVars false
set_option linter.unusedSimpArgs false
namespace Go.Sw
theorem Le.env{b:Nat}{env env':Env}{H:Qd}(h:∀s,lk env' s=.any\/lk env' s=lk env s):Le b env H env' H:=by
 intro e d σ N a w r;refine⟨d,σ,⟨r.sim,λs=>?_,r.size,r.defers⟩,λ_ q=>q,rfl⟩;rcases h s with h|h
 .rw[h];trivial
 .rw[h];exact r.env s
def Qm6(env:Env):Env->Prop
 |[]=>True
 |(s,a)::r=>lk env s=a/\Qm6 env r
theorem Qm6.ok{env:Env}:∀{env':Env},Qm6 env env'->∀s,lk env' s=.any\/lk env' s=lk env s
 |[],_,s=>.inl rfl
 |(d,a)::e,⟨h1,h2⟩,s=>by
  by_cases q:s=d
  .simp_all[lk]
  .have:Nat.beq s d=false:=by
    simp_all[VM]
   simp only[lk,this,Vq];exact Qm6.ok h2 s
theorem Lw{h0:Nat}{env env':Env}{H:Qd}(h:Qm6 env env'):Le h0 env H env' H:=Le.env h.ok
theorem Qou(n i:Nat):rho (List.range n) n i=i:=by
 grind[rho]
mutual
theorem QgE{ρ:Nat->Nat}(h:∀i,ρ i=i):∀a:A,Yr ρ a=a
 |.ptr i off=>by simp[Yr,h]
 |.osl i o n k=>by simp[Yr,h]
 |.agg cs=>by simp[Yr,QaS h cs]
 |.fn f a c=>by simp[Yr,QaS h a,QaS h c]
 |.iface t v=>by simp[Yr,QgE h v]
 |.map i=>by simp[Yr,h]
 |.tup vs=>by simp[Yr,QaS h vs]
 |.any|.bool _|.int _ _|.str _|.nilp|.rp _|.nils|.rsl _ _|.nilf|.nilif|.nilm=>by rfl
theorem QaS{ρ:Nat->Nat}(h:∀i,ρ i=i):∀l:List A,Qaa ρ l=l
 |[]=>rfl
 |a::r=>by simp[Qaa,QgE h a,QaS h r]
end
theorem Qjx{ρ:Nat->Nat}(h:∀i,ρ i=i):∀l:List (List A),QfF ρ l=l
 |[]=>rfl
 |a::r=>by simp[QfF,QaS h a,Qjx h r]
theorem Qjw{ρ:Nat->Nat}(h:∀i,ρ i=i):∀l:List (A×A),Qke ρ l=l
 |[]=>rfl
 |a::r=>by simp[Qke,QgE h,Qjw h r]
theorem Qnq{ρ:Nat->Nat}(h:∀i,ρ i=i):∀b:Blk,QQ ρ b=b
 |.cells t cs=>by simp[QQ,QaS h cs]
 |.rowr t k es=>by simp[QQ,Qjx h es]
 |.ents t a b es=>by simp[QQ,h]
 |.wins t a n c=>by simp[QQ,h]
 |.mapP es=>by simp[QQ,Qjw h es]
 |.dead|.row _ _ _|.map _|.iter _ _|.fmap _|.mapO _ _ _ _|.frow _ _ _=>by rfl
theorem Pw{P:Program}{h0 N:Nat}{all:Array Oper}{o:Oper}{l:List Oper}{env:Env}{H:Qd}{Q:QA}{d:Nat}{f:FuncId}{args:List A}{v g:A}(m:o.dst=some d)(e:OpC P o env H f args)(r:C P f args H (λa H1=>a=v/\H1=H))(t:QiC v=some (.mk g))
  (hg:Qt all o env true)(j:Nat.blt d N=true)(h:h0<=H.length)(k:WO P h0 N all l (up env d g) H Q):WO P h0 N all (o::l) env H Q:=by
 have b:=Qou H.length;have s:H.map (QQ (rho (List.range H.length) H.length))=H:=by
  conv=>rhs;rw[<- List.map_id H]
  grind[List.map_congr_left,Qnq]
 have n:(List.range H.length).map (λp=>H[p]?)=(H.map (QQ (rho (List.range H.length) H.length))).map some:=by
  rw[s];apply List.ext_getElem?;intro i;by_cases q:i<H.length
  .simp[q]
  .simp[q]
 refine Qs (List.range H.length) e r ?_ (by rw[QaS b]) n List.nodup_range hg m j (XS h)
 simp_all[Qjt,QbD]
def ixE(d:Nat)(g:Ground):Edge:={on:=d,ground:=g}
def ixO(d:Nat)(op:Op)(t:Nat)(pos:String)(af:Array Edge):Oper:={dst:=some d,op:=op,type:=t,pos:=pos,after:=af,guard:=none}
def Qo6(ts te tf tI tB:Nat):Code:=
 (Code.region 0 [ixO 4 (.assign (.const (.int .i64 0))) tI "slices.go:107" #[]].toArray false).seq
  (((Code.region 1 [ixO 6 (.move (.tmp 0)) ts "slices.go:108" #[],ixO 7 (.call {callee:=.builtin .len,args:= #[.tmp 6],argTypes:= #[ts]}) tI "slices.go:108" #[ixE 0 .data],ixO 8 (.move (.const (.int .i64 0))) tI "slices.go:108" #[]].toArray false).seq
   (.block 0 (.loop ((Code.region 2 [ixO 9 (.binOp .lss tI (.tmp 8) (.tmp 7) tI) 0 "slices.go:108" #[]].toArray false).seq
    ((Code.cond (.tmp 9) .skip (.exit 0)).seq
    ((Code.block 1 ((Code.region 3 [ixO 10 (.move (.tmp 8)) tI "slices.go:108" #[],ixO 5 (.assign (.tmp 10)) tI "slices.go:108" #[ixE 0 .data,ixE 0 .phase]].toArray false).seq
     ((Code.region 4 [ixO 11 (.move (.tmp 1)) tf "slices.go:109" #[],ixO 12 (.move (.tmp 0)) ts "slices.go:109" #[],ixO 13 (.move (.tmp 5)) tI "slices.go:109" #[],ixO 14 (.indexAddr ts (.tmp 12) (.tmp 13)) 0 "slices.go:109" #[ixE 1 .data,ixE 2 .data],
       ixO 15 (.load te (.tmp 14)) te "slices.go:109" #[ixE 3 .data],ixO 16 (.call {callee:=.value (.tmp 11),args:= #[.tmp 15],argTypes:= #[te]}) tB "slices.go:109" #[ixE 0 .data,ixE 4 .data]].toArray false).seq
      (Code.cond (.tmp 16) ((Code.region 5 [ixO 17 (.move (.tmp 5)) tI "slices.go:110" #[],ixO 4 (.assign (.tmp 17)) tI "slices.go:110" #[ixE 0 .data,ixE 0 .phase]].toArray false).seq .ret) .skip)))).seq
     (Code.region 6 [ixO 18 (.binOp .add tI (.tmp 8) (.const (.int .i64 1)) tI) tI "slices.go:108" #[],ixO 8 (.move (.tmp 18)) tI "slices.go:108" #[ixE 0 .data]].toArray false))))))).seq
  ((Code.region 7 [ixO 4 (.assign (.const (.int .i64 (-1)))) tI "slices.go:113" #[]].toArray false).seq .ret))
theorem QU{P:Program}{T:Type}{e:T->List A}{el:T->A}{O z tf W tB k:Nat}{V m:FuncId}{fn:Func}{i:List A}{Hc:Qd}{L:List T}{g:T->Option Bool}{n:Nat}{r:Int}
  (hf:P.funcs[V]?=some fn)(Y:fn.body=some (Qo6 O z tf W tB))(X:fn.ntmps=19)(R:fn.results= #[.tmp 4])(Q:∀w,(underlying O).run P w=.ok (.slice z) w)(hs:∀w,(sizeOf z).run P w=.ok k w)
  (M:∀(o:Oper) (env:Env) (H:Qd) (x:T),o.op=.load z (.tmp 14)->opA env (.tmp 14)=.rp (e x)->OpV P o env H (el x))
  (N:∀(a:Array Value) (w:World),(callFunc m a).run P w=.ok (.enter m a) w)
  (J:∀x b,g x=some b->C P m (el x::i) Hc (λa H=>a=.bool b/\H=Hc))
  (h:((iter (λs:Int=>bif decide (s<(L.length:Int))then(idx L s).bind λx=>(g x).bind λb=>(bif b then some (Ctl.done (Ctl.done s))else some (Ctl.cont (IntKind.i64.wrap (s+1))))else some (Ctl.done (Ctl.cont ()))) n (0:Int):Option (Ctl Unit Int)).bind λb=>match b with|.cont _=>some (-1)|.done s=>some s)=some r):
  C P V [.rsl k (L.map e),.fn (.func m) [] i] Hc (λa H=>a=.int .i64 r/\H=Hc):=by
 refine Qc hf Y X rfl ?_;refine Rg (S rfl (Nx (TC.seq (Rg (S rfl (LnM Q rfl (S rfl (Nx (Bd h λB G h=>?_)))))))));refine Qg9 (b:=B) (λ_=>[]) (λ_=>Hc) ?_ (λsb10 env H hbe hle=>?_)
 .refine TC.block ?_;refine TC.loop (E:=λt=>[(0,.rsl k (L.map e)),(1,.fn (.func m) [] i),(7,.int .i64 (L.length:Int)),(8,.int .i64 t)]) (Hp:=λ_=>Hc) G ?_ ?_
  .exact Lw ⟨rfl,rfl,rfl,rfl,trivial⟩
  intro t aa d l;refine Rg (S rfl (Nx (TC.seq (Ja rfl d (λu d=>?_) (λu d=>?_)))))
  .refine ExX (Qz d ?_);obtain rfl:=l _ (Oi d).symm;exact bloE (QD rfl (Lw trivial))
  refine SkN (TC.seq (TC.block (Rg (S rfl (S rfl (Nx (Rg (S rfl (S rfl (S rfl (Bd d λj y d=>Ix y Q hs rfl ?_)))))))))));refine Ys (x:=el j) rfl rfl rfl (M _ _ _ j rfl rfl) ?_;refine Bd d λF q d=>?_;refine Pw rfl (Qhf (f:=m) (x:=.tmp 11) (xs:=[.tmp 15]) (vf:=[]) (vc:=i) (args:=el j::i) N rfl rfl rfl rfl) (J j F q) rfl rfl rfl (XT _) ?_;refine Nx (Cn rfl d (λp d=>?_) (λp d=>?_))
  .refine Rg (S rfl (S rfl (Nx (TC.ret (bloR (seqR (Q4 d ?_)))))));obtain rfl:=l _ (Oi d).symm;refine bloR (QR (seqR ?_));obtain rfl:=Oi h;exact R1 4 R (Lw ⟨rfl,trivial⟩)
  exact TC.skip (bloN (Qlq (TC.region (S rfl (S rfl (WO.nil (Qv d (Lw ⟨rfl,rfl,rfl,rfl,trivial⟩))))))))
 subst hbe;refine Qlq (TC.le hle (Rg (S rfl (Nx (TC.ret ?_)))));obtain rfl:=Oi h;exact R1 4 R (Lw ⟨rfl,trivial⟩)
inductive Kf where
 |seq (c:Code)
 |blo (id:Nat)
 |unr (c:Code)
inductive Cf where
 |code (c:Code)
 |ops (all:Array Oper) (l:List Oper)
 |out (x:AEx)
def kq(P:Program)(h0 N:Nat):List Kf->QA->QA
 |[],Q=>Q
 |.seq c::k,Q=>Seq P h0 N c (kq P h0 N k Q)
 |.blo id::k,Q=>Blo id (kq P h0 N k Q)
 |.unr c::k,Q=>Qja P h0 N c (kq P h0 N k Q)
@[reducible] def Hd(P:Program)(h0 N:Nat):Cf->List Kf->Env->Qd->QA->Prop
 |.code c,k,env,H,Q=>TC P h0 N c env H (kq P h0 N k Q)
 |.ops all l,k,env,H,Q=>WO P h0 N all l env H (kq P h0 N k Q)
 |.out x,k,env,H,Q=>kq P h0 N k Q x env H
def QfQ(T:TyX)(h0 N:Nat):Cf->List Kf->Env->Qd->Option (Cf×List Kf×Env×Qd)
 |.code (.seq a b),k,env,H=>some (.code a,.seq b::k,env,H)
 |.code (.block id c),k,env,H=>some (.code c,.blo id::k,env,H)
 |.code (.loop c),k,env,H=>some (.code c,.unr c::k,env,H)
 |.code .skip,k,env,H=>some (.out .normal,k,env,H)
 |.code .ret,k,env,H=>some (.out .ret,k,env,H)
 |.code (.exit id),k,env,H=>some (.out (.exit id),k,env,H)
 |.code (.region id ⟨l⟩ false),k,env,H=>some (.ops ⟨l⟩ l,k,env,H)
 |.code (.cond x a b),k,env,H=>match opB env x with
  |.mk (.bool true)=>some (.code a,k,env,H)
  |.mk (.bool false)=>some (.code b,k,env,H)
  |_=>none
 |.ops all [],k,env,H=>some (.out .normal,k,env,H)
 |.ops all (o::l),k,env,H=>match stX T h0 N all o env H with
  |some (env',H')=>some (.ops all l,k,env',H')
  |none=>none
 |.out .normal,.seq c::k,env,H=>some (.code c,k,env,H)
 |.out (.exit i),.seq _::k,env,H=>some (.out (.exit i),k,env,H)
 |.out .ret,.seq _::k,env,H=>some (.out .ret,k,env,H)
 |.out .normal,.blo _::k,env,H=>some (.out .normal,k,env,H)
 |.out (.exit i),.blo id::k,env,H=>match Nat.beq i id with
  |true=>some (.out .normal,k,env,H)
  |false=>some (.out (.exit i),k,env,H)
 |.out .ret,.blo _::k,env,H=>some (.out .ret,k,env,H)
 |.out .normal,.unr c::k,env,H=>some (.code c,.unr c::k,env,H)
 |.out (.exit i),.unr _::k,env,H=>some (.out (.exit i),k,env,H)
 |.out .ret,.unr _::k,env,H=>some (.out .ret,k,env,H)
 |_,_,_,_=>none
def QiD(T:TyX)(h0 N:Nat):Nat->Cf->List Kf->Env->Qd->Option (Cf×List Kf×Env×Qd)
 |0,c,k,env,H=>some (c,k,env,H)
 |n+1,c,k,env,H=>match QfQ T h0 N c k env H with
  |some (c',k',env',H')=>QiD T h0 N n c' k' env' H'
  |none=>none
section
variable {P:Program} {T:TyX} {h0 N:Nat} {Q:QA}
theorem Qlj(d:Qbd P T){c b:Cf}{k a:List Kf}{env env':Env}{H H':Qd}(h:QfQ T h0 N c k env H=some (b,a,env',H'))(g:Hd P h0 N b a env' H' Q):Hd P h0 N c k env H Q:=by
 unfold QfQ at h;split at h
 .cases h;exact TC.seq g
 .cases h;exact TC.block g
 .cases h;exact QkM g
 .cases h;exact TC.skip g
 .cases h;exact TC.ret g
 .cases h;exact TC.exit g
 .cases h;exact TC.region g
 .split at h
  .rename_i q;cases h;exact QmQ (QJ q) rfl g
  .rename_i q;cases h;exact QmR (QJ q) rfl g
  .cases h
 .cases h;exact WO.nil g
 .grind[Qiw]
 .cases h;exact Qlq g
 .cases h;exact seqX g
 .cases h;exact seqR g
 .cases h;exact bloN g
 .split at h
  .rename_i q;cases h;have:=XQ q;subst this;exact bloE g
  .rename_i q;cases h;exact bloX q g
 .cases h;exact bloR g
 .cases h;exact unrN g
 .cases h;exact unrX g
 .cases h;exact unrR g
 .cases h
theorem Qcz(hT:Qbd P T):∀(n:Nat) {c c':Cf} {k k':List Kf} {env env':Env} {H H':Qd},QiD T h0 N n c k env H=some (c',k',env',H')->Hd P h0 N c' k' env' H' Q->Hd P h0 N c k env H Q
 |0,c,c',k,k',env,env',H,H',h,g=>by cases h;exact g
 |n+1,c,c',k,k',env,env',H,H',h,g=>by
  unfold QiD at h;split at h
  .rename_i e;exact Qlj hT e (Qcz hT n h g)
  .cases h
theorem Qjn{env:Env}{s:Nat}{a:A}(h:lk env s=a):∀t,lk (up env s a) t=lk env t:=by
 intro t;simp only[up,lk];cases q:Nat.beq t s with
 |true=>simp_all
 |false=>rfl
theorem Is{α:Type}{all:Array Oper}{l:List Oper}{env:Env}{H:Qd}{b:Bool}{x y:Option α}{r:α}(s:Nat)(h:(bif b then x else y)=some r)(d:lkB env s=.mk (.bool b))
  (t:b=true->x=some r->WO P h0 N all l (up env s (.bool true)) H Q)(e:b=false->y=some r->WO P h0 N all l (up env s (.bool false)) H Q):WO P h0 N all l env H Q:=by
 have a:=QiN d;cases b with
 |true=>exact WO.le (Le.env λt=>.inr (Qjn a t)) (t rfl h)
 |false=>exact WO.le (Le.env λt=>.inr (Qjn a t)) (e rfl h)
theorem Ct3E{S B1:Type}{A B C:Code}{env:Env}{H:Qd}{k:List Kf}{b:Ctl S B1}(Eb:S->Env)(Hb:S->Qd)(h:TC P h0 N A env H (kq P h0 N [.seq B] (Qgv h0 b Eb Hb (kq P h0 N (.seq C::k) Q))))(g:∀s env H,b=.cont s->Le h0 env H (Eb s) (Hb s)->kq P h0 N (.seq C::k) Q .normal env H):TC P h0 N (.seq A (.seq B C)) env H (kq P h0 N k Q):=
 QmP Eb Hb h g
end
def dstN(o:Oper)(i:Nat):Nat:=match o.dst with|some d=>d|none=>1000000+i
def Qa9:Nat->Nat->List Oper->List Nat
 |0,_,_=>[]
 |_+1,_,[]=>[]
 |m+1,i,o::l=>dstN o i::Qa9 m (i+1) l
def Ya(af:List Nat):Nat->List Nat->List A->Env->Env
 |j,d::ds,x::xs,e=>(d,bif Qdm af j then x else .any)::Ya af (j+1) ds xs e
 |j,d::ds,[],e=>(d,.any)::Ya af (j+1) ds [] e
 |_,[],_,e=>e
theorem QfG{l:List Nat}{t:Nat}:Qdm l t=l.contains t:=by
 induction l with
 |nil=>rfl
 |cons a r b=>
  grind[Qdm,Nat.eq_of_beq_eq_true,Nat.beq_refl]
theorem QjS{af:List Nat}{env0:Env}{s:Nat}:∀(a:List Nat) (xs f:List A) (b:Nat),
  (∃(j:Nat) (x:A),af.contains (b+j)=true/\a[j]?=some s/\(xs++f)[j]?=some x/\lk (Ya af b a xs env0) s=x)\/lk (Ya af b a xs env0) s=.any\/(a.contains s=false/\lk (Ya af b a xs env0) s=lk env0 s):=by
 intro a
 induction a with
 |nil=>intro xs f b;right;right;exact⟨rfl,by rfl⟩
 |cons d a p=>
  intro xs f b;have next:∀(e:List A),(∃(j:Nat) (x:A),af.contains (b+1+j)=true/\a[j]?=some s/\(e++f)[j]?=some x/\lk (Ya af (b+1) a e env0) s=x)->∀l,(∃(j:Nat) (x:A),af.contains (b+j)=true/\(d::a)[j]?=some s/\(l::e++f)[j]?=some x/\lk (Ya af (b+1) a e env0) s=x):=by
   rintro e ⟨j,x,g,k,n,m⟩ l;exact⟨j+1,x,by grind,by grind,by grind,m⟩
  cases xs with
  |nil=>
   cases q:Nat.beq s d with
   |true=>simp_all[Ya,lk]
   |false=>
    have i:s≠d:=λz=>by simp_all
    simp only[Ya,lk,q,Vq];rcases p [] [] (b+1)with⟨j,x,g,k,n,m⟩|h|⟨g,k⟩
    .simp at n
    .grind
    grind
  |cons x xs=>
   cases q:Nat.beq s d with
   |true=>
    have:=XQ q;subst this;simp only[Ya,lk,q,Vp];cases c:Qdm af b with
    |true=>left;exact⟨0,x,by rw[<- QfG];exact c,rfl,rfl,rfl⟩
    |false=>simp
   |false=>
    have i:s≠d:=λz=>by simp_all
    simp only[Ya,lk,q,Vq];rcases p xs f (b+1)with h|h|⟨g,k⟩
    .exact .inl (next xs h x)
    .grind
    grind
section
variable {P:Program} {T:TyX} {h0 N m:Nat} {l:List Oper} {ds:List Nat} {env:Env} {H:Qd} {Q:QA} {K:List Oper->Env->Qd->Prop}
def DS(P:Program)(N m:Nat)(l:List Oper)(ds:List Nat)(env:Env)(H:Qd)(K:List Oper->Env->Qd->Prop)(r:List Oper)(xs:List A):Prop:=
 r=l.drop xs.length->∃ys,xs.length+ys.length=m/\(∀j,xs.length<=j->j<m->Jd P N l ds (xs++ys) env H.length H.length j H H)/\K (l.drop m) (Qar ds (xs++ys) env) H
theorem oqOf{xs:List A}:∀(c i:Nat),(∀j,i<=j->j<i+c->Jd P N l ds xs env H.length H.length j H H)->Oq P N l ds xs env H i c
 |0,i,_=>.n
 |c+1,i,h=>.c (by grind) (oqOf c (i+1) (by grind))
theorem Qnb{id:Nat}{k:List Kf}(m:Nat)(j:P.follows .mixedOrders=true)(g:Go.Sw.draw0 l m N (Qa9 m 0 l)=true)(a:Nat.ble h0 H.length=true)
  (h:DS P N m l (Qa9 m 0 l) env H (λr e H=>WO P h0 N l.toArray r e H Q) l []):TC P h0 N (.region id l.toArray true) env H Q:=by
 obtain⟨f,d,i,b⟩:=h rfl;simp only[List.length_nil,Xv,Vh]at d i b;exact TC.draw0 m _ f j g (by simp_all) a (oqOf m 0 (by grind)) b
theorem DS.done{xs:List A}{r:List Oper}(b:Nat.beq xs.length m=true)(h:K r (Qar ds xs env) H):DS P N m l ds env H K r xs:=by
 intro a;have e:=XQ b;subst a;refine⟨[],by simpa using e,λj f d=>by omega,?_⟩
 grind
theorem DS.add{xs:List A}{o:Oper}{r:List Oper}{x:A}(g:Nat.blt xs.length m=true)(f:∀ys,l[xs.length]?=some o->Jd P N l ds (xs++x::ys) env H.length H.length xs.length H H)(k:DS P N m l ds env H K r (xs++[x])):DS P N m l ds env H K (o::r) xs:=by
 intro b;have a:xs.length<l.length:=by
  grind[List.drop_eq_nil_of_le]
 rw[Xp a]at b;cases b;obtain⟨ys,d,h,e⟩:=k (by simp)
 grind
theorem QhJ{xs a:List A}{x:A}:(xs++x::a)[xs.length]?=some x:=by simp
theorem DS.wo{xs:List A}{o:Oper}{r:List Oper}{x:A}{d:Nat}(h:WO P H.length N l.toArray [o] (Ya (Qg o) 0 ds xs env) H (YT (up (Ya (Qg o) 0 ds xs env) d x) H))(k:DS P N m l ds env H K r (xs++[x]))
  (b:o.dst=some d:=by exact rfl)(hx:Nat.blt xs.length m=true:=by exact rfl):DS P N m l ds env H K (o::r) xs:=
 .add hx (λa e=>.woE o _ d x e b QhJ (he:=by
  intro s;rcases QjS (af:=Qg o) (env0:=env) (s:=s) ds xs (x::a) 0 with⟨j,y,g,n,i,f⟩|q|q
  .grind
  .grind
  grind) (hdd:=QdW H) (h:=h)) k
theorem DS.v{xs:List A}{o:Oper}{r:List Oper}{x:A}{d:Nat}(h:OpV P o (Ya (Qg o) 0 ds xs env) H x)(k:DS P N m l ds env H K r (xs++[x]))(hg:Qt l.toArray o (Ya (Qg o) 0 ds xs env) true:=by exact rfl)
  (hd:o.dst=some d:=by exact rfl)(hN:Nat.blt d N=true:=by exact rfl)(hx:Nat.blt xs.length m=true:=by exact rfl):DS P N m l ds env H K (o::r) xs:=
 .wo (Ys hg hd hN h (WO.nil YT.mk)) k hd hx
def QcR:List A->A->FL
 |[],x=>.mk [x]
 |a::r,x=>match QcR r x with
  |.mk r'=>.mk (a::r')
theorem Y3:∀(l:List A) (x:A),QcR l x=.mk (l++[x])
 |[],x=>rfl
 |a::r,x=>by unfold QcR;rw[Y3 r];rfl
def Qhu(T:TyX)(N m:Nat)(l:List Oper)(ds:List Nat)(env:Env)(H:Qd):Nat->Nat->List Oper->List A->Option (List Oper×List A)
 |0,_,r,xs=>some (r,xs)
 |_+1,_,[],_=>none
 |n+1,i,o::r,xs=>match Nat.blt i m with
  |false=>none
  |true=>match o.dst with
   |none=>none
   |some d=>match Nat.blt d N with
    |false=>none
    |true=>match YS ⟨l⟩ o (Ya (Qg o) 0 ds xs env)with
     |none=>none
     |some false=>match QcR xs (.tup [])with
      |.mk xs'=>Qhu T N m l ds env H n (i+1) r xs'
     |some true=>match Qc7 T o (Ya (Qg o) 0 ds xs env) H with
      |none=>none
      |some x=>match QcR xs x with
       |.mk xs'=>Qhu T N m l ds env H n (i+1) r xs'
theorem QeF(hT:Qbd P T):∀(n i:Nat) {r r':List Oper} {xs xs':List A},i=xs.length->Qhu T N m l ds env H n i r xs=some (r',xs')->DS P N m l ds env H K r' xs'->DS P N m l ds env H K r xs
 |0,i,r,r',xs,xs',_,h,k=>by cases h;exact k
 |n+1,i,[],r',xs,xs',_,h,k=>by cases h
 |n+1,i,o::r,r',xs,xs',hi,h,k=>by
  subst hi;unfold Qhu at h;split at h
  .cases h
  .rename_i q1;split at h
   .cases h
   .rename_i d hd;split at h
    .cases h
    .rename_i q2;split at h
     .cases h
     .rename_i hw;simp only[Y3]at h;exact .wo (WO.skip (QI hw) hd q2 (WO.nil YT.mk)) (QeF hT n _ (by simp) h k) hd q1
     .rename_i hw;split at h
      .cases h
      .rename_i x hv;simp only[Y3]at h;exact .v (Qat hT hv) (QeF hT n _ (by simp) h k) (QI hw) hd q2 q1
def Qlp:List A->Nat->A->FL
 |[],_,_=>.mk []
 |_::r,0,x=>.mk (x::r)
 |a::r,n+1,x=>match Qlp r n x with
  |.mk r'=>.mk (a::r')
theorem Qda:∀{l:List A} {n:Nat} {x:A},YM l n=some x->Qlp l n x=.mk l
 |[],n,x,h=>by cases h
 |a::r,0,x,h=>by cases h;rfl
 |a::r,n+1,x,h=>by unfold Qlp;rw[Qda (l:=r) (n:=n) h]
theorem Qc2{α:Type}{b:Bool}{x y:Option α}{v:α}{xs a d:List A}{r:List Oper}(j:Nat)(h:(bif b then x else y)=some v)(g:YM xs j=some (.bool b))(f:Qlp xs j (.bool true)=.mk a)(i:Qlp xs j (.bool false)=.mk d)
  (t:b=true->x=some v->DS P N m l ds env H K r a)(e:b=false->y=some v->DS P N m l ds env H K r d):DS P N m l ds env H K r xs:=by
 cases b with
 |true=>simp_all[Qda]
 |false=>simp_all[Qda]
end
@[reducible] def RQ{β:Type}(w:β->A)(Hc:β->Qd)(r:β):A->Qd->Prop:=λa H=>a=w r/\H=Hc r
@[reducible] def Csm{β:Type}(P:Program)(f:FuncId)(args:List A)(H:Qd)(w:β->A)(r:β):Prop:=C P f args H (RQ w (λ_=>H) r)
structure TyZ where
 sl:List (Nat×Nat×Nat)
 fn:List Nat
structure QcT (P:Program) (Z:TyZ):Prop where
 sl:∀e∈Z.sl,(∀w,(underlying e.1).run P w=.ok (.slice e.2.1) w)/\ ∀w,(sizeOf e.2.1).run P w=.ok e.2.2 w
 fn:∀f∈Z.fn,∀(a:Array Value) (w:World),(callFunc f a).run P w=.ok (.enter f a) w
section
variable {P:Program} {Z:TyZ} {h0 N:Nat} {all:Array Oper} {o:Oper} {l:List Oper} {env:Env} {H:Qd} {Q:QA} {d:Nat}
theorem Izz(m:QcT P Z){α:Type}{e:α->List A}{t p k:Nat}{L:List α}{f:IntKind}{i:Int}{v:α}(h:idx L i=some v)(q:ixB o env=some (d,t,k,L.map e,f,i))(g:WO P h0 N all l (up env d (.rp (e v))) H Q)
  (b:Qb6 Z.sl t=some (p,k))(hg:YS all o env=some true)(j:Nat.blt d N=true):WO P h0 N all (o::l) env H Q:=by
 obtain⟨a,n⟩:=m.sl _ (Qau b);exact Ix h a n q g (QI hg) j
theorem Ize(j:QcT P Z){α:Type}{e:α->List A}{t m k:Nat}{L:List α}{b:IntKind}{i:Int}{v:α}{cs:List A}(h:idx L i=some v)(he:e v=cs)(q:ixB o env=some (d,t,k,L.map e,b,i))(g:WO P h0 N all l (up env d (.rp cs)) H Q)
  (a:Qb6 Z.sl t=some (m,k))(hg:YS all o env=some true)(f:Nat.blt d N=true):WO P h0 N all (o::l) env H Q:=by
 subst he;exact Izz j h q g a hg f
theorem Lmz(i:QcT P Z){α:Type}{e:α->List A}{t j k b:Nat}{L:List α}(q:lnB o env=some (d,t,.mk (.rsl k (L.map e))))(g:WO P h0 N all l (up env d (.int .i64 L.length)) H Q)
  (f:Qb6 Z.sl t=some (j,b))(hg:YS all o env=some true)(h:Nat.blt d N=true):WO P h0 N all (o::l) env H Q:=by
 obtain⟨a,m⟩:=i.sl _ (Qau f);exact LnM a q g (QI hg) h
def QfL(Z:TyZ)(o:Oper)(env:Env):Option (Nat×Nat×List A):=
 match o.dst with
 |none=>none
 |some d=>match o.op with
  |.call {callee:=.value (.func f),args:=⟨xs⟩,argTypes:=_}=>bif Qdm Z.fn f then(match fl (QhA env xs)with|.mk ax=>some (d,f,ax))else none
  |.call {callee:=.value (.tmp x),args:=⟨xs⟩,argTypes:=_}=>match opB env (.tmp x)with
   |.mk (.fn (.func f) vf vc)=>bif Qdm Z.fn f then(match fl (vf++(QhA env xs++vc))with|.mk ax=>some (d,f,ax))else none
   |_=>none
  |_=>none
theorem Qen(e:QcT P Z){f:Nat}{args:List A}(h:QfL Z o env=some (d,f,args)):o.dst=some d/\OpC P o env H f args:=by
 unfold QfL at h;split at h
 .cases h
 .rename_i m g;split at h
  .rename_i a xs i b;cases q:Qdm Z.fn a with
   |false=>grind
   |true=>
    rw[q]at h;simp only[Qcc,Vp]at h;cases h;exact⟨g,OpC.fn (xs:=xs) (e.fn _ (QgM q)) b rfl (QcE xs).symm⟩
  .rename_i x xs i b;split at h
   .rename_i a k l j;cases q:Qdm Z.fn a with
    |false=>grind
    |true=>
     rw[q]at h;simp only[Qcc,Vp]at h;cases h;exact⟨g,Qhf (xs:=xs) (e.fn _ (QgM q)) b rfl (QJ j) (by rw[QcE])⟩
   .cases h
  .cases h
theorem Czz(e:QcT P Z){β γ:Type}{F:Option β}{F':β->Option γ}{r:γ}{f:Nat}{args a:List A}{Hc:Qd}{w:β->A}(π:List Nat)(h:F.bind F'=some r)(j:∀v,F=some v->C P f a Hc (RQ w (λ_=>Hc) v))
  (b:QfL Z o env=some (d,f,args))(g:∀v,F=some v->F' v=some r->WO P h0 N all l (up env d (w v)) H Q)(k:∀v,QiC (w v)=some (.mk (w v)))
  (hargs:args=Qaa (rho π H.length) a)(t:π.map (λp=>H[p]?)=(Hc.map (QQ (rho π H.length))).map some)(hπ:π.Nodup)(hg:YS all o env=some true)(m:Nat.blt d N=true)(i:Nat.ble h0 H.length=true):WO P h0 N all (o::l) env H Q:=by
 obtain⟨v,q,u⟩:=YN h;obtain⟨n,s⟩:=Qen (H:=H) e b
 grind[Pc,QI]
theorem DzZ(s:QcT P Z){K:List Oper->Env->Qd->Prop}{m:Nat}{e:List Oper}{b:List Nat}{xs:List A}{β γ:Type}{F:Option β}{F':β->Option γ}{r:γ}{f:Nat}{args a:List A}{Hc:Qd}{w:β->A}(π:List Nat)(h:F.bind F'=some r)(n:∀v,F=some v->C P f a Hc (RQ w (λ_=>Hc) v))
  (i:QfL Z o (Ya (Qg o) 0 b xs env)=some (d,f,args))(g:∀v,F=some v->F' v=some r->DS P N m e b env H K l (xs++[w v]))(q:∀v,QiC (w v)=some (.mk (w v)))
  (hargs:args=Qaa (rho π H.length) a)(x:π.map (λp=>H[p]?)=(Hc.map (QQ (rho π H.length))).map some)(hπ:π.Nodup)(hg:YS e.toArray o (Ya (Qg o) 0 b xs env)=some true)(t:Nat.blt d N=true)(y:Nat.blt xs.length m=true):DS P N m e b env H K (o::l) xs:=by
 obtain⟨v,k,z⟩:=YN h;obtain⟨j,u⟩:=Qen (H:=H) s i;exact .wo (Pc π j u (n v k) (q v) (WO.nil YT.mk) hargs x hπ (QI hg) t (by simp)) (g v k z) j y
theorem ln:Qbg H [] []:=trivial
theorem ls{ax b:List A}{a:A}(k:Qbg H ax b)(h:Yn a=true:=by exact rfl):Qbg H (a::ax) (a::b):=⟨.inl ⟨rfl,h⟩,k⟩
theorem lo{ax a:List A}{i n k t:Nat}{es:List (List A)}(b:Qbg H ax a)(d:H[i]?=some (.row t k es):=by exact rfl)(hn:es.length=n:=by exact X2 ..):Qbg H (.osl i 0 n k::ax) (.rsl k es::a):=
 ⟨.inr (by grind),b⟩
theorem Cbz(j:QcT P Z){β γ:Type}{F:Option β}{F':β->Option γ}{r:γ}{f:Nat}{args a:List A}{w:β->A}(h:F.bind F'=some r)(i:∀v,F=some v->C P f a [] (RQ w (λ_=>[]) v))
  (b:QfL Z o env=some (d,f,args))(e:Qbg H args a)(g:∀v,F=some v->F' v=some r->WO P h0 N all l (up env d (w v)) H Q)(q:∀v,Yd (w v)=true)
  (hg:YS all o env=some true)(k:Nat.blt d N=true):WO P h0 N all (o::l) env H Q:=by
 obtain⟨v,n,s⟩:=YN h;obtain⟨m,p⟩:=Qen (H:=H) j b;refine Qig p e (i v n) ?_ ?_ (QI hg) m k
 .grind
 grind
end
def ixL:List Nat:=[0,1,2,3,4,5,6,7,8,9,10,11,12,13,14,15,16,17,18,19,20,21,22,23,24,25,26,27,28,29,30,31,32,33,34,35,36,37,38,39,40,41,42,43,44,45,46,47,48,49,50,51,52,53,54,55,56,57,58,59,60,61,62,63]
def QiH:List Nat->List Nat->Nat->FN
 |a::r,b::s,j=>bif Nat.beq a j then .mk b else QiH r s j
 |_,_,j=>.mk j
mutual
def cpA(sel:List Nat):A->Bx
 |.ptr i off=>match QiH sel ixL i with
  |.mk j=>.mk (.ptr j off)
 |.osl i o n k=>match QiH sel ixL i with
  |.mk j=>.mk (.osl j o n k)
 |.map i=>match QiH sel ixL i with
  |.mk j=>.mk (.map j)
 |.fn f a c=>match cpL sel a,cpL sel c with
  |.mk a',.mk c'=>.mk (.fn f a' c')
 |a=>.mk a
def cpL(sel:List Nat):List A->FL
 |[]=>.mk []
 |a::r=>match cpA sel a,cpL sel r with
  |.mk a',.mk r'=>.mk (a'::r')
end
inductive FV where
 |mk (e:Env)
def QlW(sel:List Nat)(env:Env):List Nat->Env->FV
 |[],nE=>.mk nE
 |s::r,nE=>match lkB env s with
  |.mk a=>match cpA sel a,QlW sel env r nE with
   |.mk a',.mk e=>.mk ((s,a')::e)
def selH(H:Qd):List Nat->List Nat->List (Nat×Blk)->FB
 |a::r,p::ps,[]=>match YM H a,selH H r ps []with
  |some b,.mk l=>.mk (b::l)
  |none,.mk l=>.mk l
 |a::r,p::ps,(q,b)::n=>bif Nat.beq p q then(match selH H r ps n with|.mk l=>.mk (b::l))else(match YM H a,selH H r ps ((q,b)::n)with
  |some b,.mk l=>.mk (b::l)
  |none,.mk l=>.mk l)
 |_,_,_=>.mk []
def Qmy(sel keep:List Nat)(nE:Env)(nH:List (Nat×Blk))(env:Env)(H:Qd):Option (Env×Qd):=
 match QlW sel env keep nE,selH H sel ixL nH with
 |.mk e,.mk h=>some (e,h)
section
variable {P:Program} {h0 N:Nat} {c:Code} {env:Env} {H:Qd} {Q:QA}
def CutQ{β:Type}(h0:Nat)(b:β)(E':β->Env)(H':β->Qd)(Q:QA):QA
 |.normal,env,H=>Le h0 env H (E' b) (H' b)
 |.exit id,env,H=>Q (.exit id) env H
 |.ret,env,H=>Q .ret env H
theorem QW{h0:Nat}{env:Env}{H:Qd}{Q:QA}{β:Type}{b:β}{E':β->Env}{H':β->Qd}(h:Le h0 env H (E' b) (H' b)):CutQ h0 b E' H' Q .normal env H:=h
theorem Ct{β:Type}{E':β->Env}{H':β->Qd}(b:β)(sel keep:List Nat)(nE:β->Env)(nH:β->List (Nat×Blk))(_:∀b,Qmy sel keep (nE b) (nH b) env H=some (E' b,H' b))(h:TC P h0 N c env H (CutQ h0 b E' H' Q))(k:∀env H,Le h0 env H (E' b) (H' b)->Q .normal env H):TC P h0 N c env H Q:=
 h.mono λx env' H' q=>by
  cases x with
  |normal=>exact k _ _ q
  |exit id=>exact q
  |ret=>exact q
theorem CtE{S B:Type}{b:Ctl S B}{E':S->Env}{H':S->Qd}(sel keep:List Nat)(nE:S->Env)(nH:S->List (Nat×Blk))(_:∀s,Qmy sel keep (nE s) (nH s) env H=some (E' s,H' s))(h:TC P h0 N c env H (Qgv h0 b E' H' Q))(k:∀s env H,b=.cont s->Le h0 env H (E' s) (H' s)->Q .normal env H):TC P h0 N c env H Q:=Qg9 E' H' h k
theorem Lp{S B:Type}{step:S->Option (Ctl S B)}{E':S->Env}{H':S->Qd}{m:Nat}{s0:S}{b0:B}(sel keep:List Nat)(nE:S->Env)(nH:S->List (Nat×Blk))(h:iter step m s0=some b0)(_:∀s,Qmy sel keep (nE s) (nH s) env H=some (E' s,H' s))(hI:Le h0 env H (E' s0) (H' s0))
  (body:∀s d,step s=some d->(∀b,d=.done b->b=b0)->TC P h0 N c (E' s) (H' s) (Qbf (λs env H=>Le h0 env H (E' s) (H' s)) d Q)):TC P h0 N (.loop c) env H Q:=TC.loop E' H' h hI body
end
theorem Oj{S B:Type}{d:Ctl S B}{x b0:B}(hb:∀b,d=.done b->b=b0)(h:some (Ctl.done x)=some d):x=b0:=hb x (Oi h).symm
theorem Rt{P:Program}{a:Nat}{fn:Func}{env:Env}{H:Qd}{β:Type}{e r:β}{w:β->A}{Hc:β->Qd}(h:some e=some r)(s:Nat)(π:List Nat)(b:fn.results= #[.tmp s]:=by exact rfl)(hpre:π.take a=List.range a:=by exact rfl)
  (hH:π.map (λp=>H[p]?)=((Hc e).map (QQ (rho π H.length))).map some:=by exact rfl)(hπ:π.Nodup:=by decide)(hE:QfD (rho π H.length) env [(s,w e)]:=by exact⟨rfl,trivial⟩):QcW P a fn (RQ w Hc r) .ret env H:=by
 cases h;exact R1 s b (Lr π hpre hH hπ hE)
theorem Cl{d:Nat}{env:Env}{H:Qd}{Q:QA}{β:Type}{e b:β}{E':β->Env}{H':β->Qd}(h:some e=some b)(π:List Nat)(a:π.take d=List.range d:=by exact rfl)
  (hH:π.map (λp=>H[p]?)=((H' e).map (QQ (rho π H.length))).map some:=by exact rfl)(hπ:π.Nodup:=by decide)(hE:QfD (rho π H.length) env (E' e):=by(repeat' (first|exact trivial|refine⟨rfl,?_⟩))):CutQ d b E' H' Q .normal env H:=by
 cases h;exact Lr π a hH hπ hE
def plC(cat:List Nat):List (List (Nat×Nat)):=cat.map λc=>match c with|0=>[(0,0)]|1=>[(0,1)]|2=>[(1,1)]|_=>[(0,0),(1,1)]
def rqC(b:Nat)(cat:List Nat):List (List Nat):=cat.map λc=>match c with|2=>[b]|_=>[]
def hsC(cat:List Nat):List Bool:=cat.map λc=>match c with|1=>true|_=>false
section
variable {P:Program} {T:TyX} {h0 N m b:Nat} {cat:List Nat} {l:List Oper} {ds:List Nat} {env:Env} {H H1:Qd} {Q:QA} {K:List Oper->Env->Qd->Prop}
theorem Qhg{P:Program}{N:Nat}{l:List Oper}{ds:List Nat}{xs:List A}{env0:Env}{hB hE:Nat}:∀(ss:List (List (Qd×Qd))) (b:Nat),(∀i s,ss[i]?=some s->∀p∈s,Jd P N l ds xs env0 hB hE (b+i) p.1 p.2)->Qhh P N l ds xs env0 hB hE b ss
 |[],b,h=>.nil
 |s::ss,b,h=>.cons (h 0 s rfl) (Qhg ss (b+1) λi s' hs=>by rw[show b+1+i=b+(i+1)by omega];simp_all)
def Dob(P:Program)(N:Nat)(cat:List Nat)(l:List Oper)(ds:List Nat)(env:Env)(H H1:Qd)(zs:List A)(j:Nat):Prop:=
 ∀p∈(plC cat).getD j [],Jd P N l ds zs env H.length H.length j ([H,H1].getD p.1 []) ([H,H1].getD p.2 [])
def DB(P:Program)(N m:Nat)(cat:List Nat)(l:List Oper)(ds:List Nat)(env:Env)(H H1:Qd)(K:List Oper->Env->Qd->Prop)(r:List Oper)(xs:List A):Prop:=
 r=l.drop xs.length->∃ys,xs.length+ys.length=m/\(∀j,xs.length<=j->j<m->Dob P N cat l ds env H H1 (xs++ys) j)/\K (l.drop m) (Qar ds (xs++ys) env) H1
def DA(P:Program)(N m:Nat)(cat:List Nat)(l:List Oper)(ds:List Nat)(env:Env)(H:Qd)(K:List Oper->Env->Qd->Prop)(r:List Oper)(xs:List A):Prop:=
 r=l.drop xs.length->∃ys H1,xs.length+ys.length=m/\H.length<=H1.length/\(∀j,xs.length<=j->j<m->Dob P N cat l ds env H H1 (xs++ys) j)/\K (l.drop m) (Qar ds (xs++ys) env) H1
theorem Qpu{b:List A}(d:cat.length=m)(g:∀j,0<=j->j<m->Dob P N cat l ds env H H1 b j):Qhh P N l ds b env H.length (H.length+0) 0 ((plC cat).map λq=>q.map λp=>([H,H1].getD p.1 [],[H,H1].getD p.2 [])):=by
 refine Qhg _ 0 λi s a p f=>?_;rw[Xo]at a;cases e:(plC cat)[i]? with
 |none=>grind
 |some q=>
  rw[e]at a;cases a;obtain⟨n,h,rfl⟩:=Xe.1 f;have k:i<m:=by
   grind[plC]
  have:=g i (XU _) k n (by grind)
  grind
theorem DA.len(a:H.length<=H1.length):[H,H1].all (λX=>Nat.ble (H.length+0) X.length)=true:=by
 simp_all
theorem Qnd{id:Nat}(m b:Nat)(cat:List Nat)(q:P.follows .mixedOrders=true)(n:QdV l m N (Qa9 m 0 l) (hsC cat) (rqC b cat) [[],[b]] (plC cat)=true)(f:Nat.beq cat.length m=true)(d:Nat.ble h0 H.length=true)
  (h:DA P N m cat l (Qa9 m 0 l) env H (λr e H=>WO P h0 N l.toArray r e H Q) l []):TC P h0 N (.region id l.toArray true) env H Q:=by
 obtain⟨j,H1,k,p,i,g⟩:=h rfl;simp only[List.length_nil,Xv,Vh]at k i g;have a:=XQ f;exact Jj m 0 _ _ _ _ _ j [H,H1] H1 q n (by grind) rfl d (DA.len p) (by simp) rfl (Qpu a i) (by simp[plC,a]) g
theorem Qba{xs:List A}{o:Oper}{r:List Oper}(b:o::r=l.drop xs.length):l[xs.length]?=some o/\r=l.drop (xs.length+1):=by
 have a:xs.length<l.length:=by
  grind[List.drop_eq_nil_of_le]
 rw[Xp a]at b
 grind
theorem Qhm{zs:List A}{j c:Nat}(a:YM cat j=some c)(h:∀p∈(match c with|0=>[(0,0)]|1=>[(0,1)]|2=>[(1,1)]|_=>[(0,0),(1,1)]:List (Nat×Nat)),Jd P N l ds zs env H.length H.length j ([H,H1].getD p.1 []) ([H,H1].getD p.2 [])):Dob P N cat l ds env H H1 zs j:=by
 intro p b
 grind[QaA,plC]
theorem Qax{hB hE:Nat}{xs a:List A}{o:Oper}{x:A}{d:Nat}{X X':Qd}(e:l[xs.length]?=some o)(hdd:Qap hB hE X X'=true)(h:WO P X.length N l.toArray [o] (Ya (Qg o) 0 ds xs env) X (YT (up (Ya (Qg o) 0 ds xs env) d x) X'))(b:o.dst=some d):
  Jd P N l ds (xs++x::a) env hB hE xs.length X X':=
 .woE o _ d x e b QhJ (he:=by
  intro s;rcases QjS (af:=Qg o) (env0:=env) (s:=s) ds xs (x::a) 0 with⟨j,y,k,g,f,i⟩|q|q
  .grind
  .grind
  grind) (hdd:=hdd) (h:=h)
theorem YX{n:Nat}{X X':Qd}:Qap n n X X'=true:=by unfold Qap;simp
theorem DA.wo{xs:List A}{o:Oper}{r:List Oper}{x:A}{d:Nat}(h:WO P H.length N l.toArray [o] (Ya (Qg o) 0 ds xs env) H (YT (up (Ya (Qg o) 0 ds xs env) d x) H))(k:DA P N m cat l ds env H K r (xs++[x]))
  (n:YM cat xs.length=some 0:=by exact rfl)(hd:o.dst=some d:=by exact rfl)(hx:Nat.blt xs.length m=true:=by exact rfl):DA P N m cat l ds env H K (o::r) xs:=by
 intro e;obtain⟨t,f⟩:=Qba e;obtain⟨b,H1,i,u,s,a⟩:=k (by grind);simp only[X3,X0,List.length_nil,Vi,VK,Vh]at i s a;refine⟨x::b,H1,by grind,u,λj w y=>?_,a⟩;rcases VC xs.length j with q|q
 .grind
 .obtain rfl:j=xs.length:=by omega
  refine Qhm n λp g=>?_;obtain rfl:=VB.1 g;exact Qax t YX h hd
theorem DA.op{xs:List A}{o:Oper}{r:List Oper}{x:A}{d:Nat}(h:WO P H.length N l.toArray [o] (Ya (Qg o) 0 ds xs env) H (YT (up (Ya (Qg o) 0 ds xs env) d x) H1))(k:DB P N m cat l ds env H H1 K r (xs++[x]))(u:Nat.ble H.length H1.length=true:=by exact rfl)
  (hc:YM cat xs.length=some 1:=by exact rfl)(hd:o.dst=some d:=by exact rfl)(hx:Nat.blt xs.length m=true:=by exact rfl):DA P N m cat l ds env H K (o::r) xs:=by
 intro e;obtain⟨s,f⟩:=Qba e;obtain⟨b,i,n,a⟩:=k (by grind);simp only[X3,X0,List.length_nil,Vi,VK,Vh]at i n a;refine⟨x::b,H1,by grind,(by simp_all),λj t w=>?_,a⟩;rcases VC xs.length j with q|q
 .grind
 .obtain rfl:j=xs.length:=by omega
  refine Qhm hc λp g=>?_;obtain rfl:=VB.1 g;exact Qax s YX h hd
theorem QbS{xs:List A}{o:Oper}{r:List Oper}{x x':A}{d:Nat}{H1':Qd}(h:OpH P o (Ya (Qg o) 0 ds xs env) H x H1)(a:foA x=.mk x')(b:foH H1=.mk H1')(k:DB P N m cat l ds env H H1' K r (xs++[x']))(e:o.dst=some d:=by exact rfl)(hg:YS ⟨l⟩ o (Ya (Qg o) 0 ds xs env)=some true:=by exact rfl)(hN:Nat.blt d N=true:=by exact rfl)(hl:Nat.ble H.length H1'.length=true:=by exact rfl)
  (hc:YM cat xs.length=some 1:=by exact rfl)(hx:Nat.blt xs.length m=true:=by exact rfl):DA P N m cat l ds env H K (o::r) xs:=by
 rw[QgS]at a;rw[QiS]at b;cases a;cases b;exact .op (Qg8 (XT _) (QI hg) e hN h (WO.nil YT.mk)) k hl hc e hx
theorem DB.done{xs:List A}{r:List Oper}(b:Nat.beq xs.length m=true)(h:K r (Qar ds xs env) H1):DB P N m cat l ds env H H1 K r xs:=by
 intro a;have e:=XQ b;subst a;refine⟨[],by simpa using e,λj f d=>by omega,?_⟩
 grind
theorem DB.add{xs:List A}{o:Oper}{r:List Oper}{x:A}(h:∀ys,l[xs.length]?=some o->Dob P N cat l ds env H H1 (xs++x::ys) xs.length)(k:DB P N m cat l ds env H H1 K r (xs++[x])):DB P N m cat l ds env H H1 K (o::r) xs:=by
 intro a;obtain⟨g,b⟩:=Qba a;obtain⟨ys,e,f,d⟩:=k (by grind)
 grind
theorem DB.wo1{xs:List A}{o:Oper}{r:List Oper}{x:A}{d:Nat}(h:WO P H1.length N l.toArray [o] (Ya (Qg o) 0 ds xs env) H1 (YT (up (Ya (Qg o) 0 ds xs env) d x) H1))(k:DB P N m cat l ds env H H1 K r (xs++[x]))
  (a:YM cat xs.length=some 2:=by exact rfl)(hd:o.dst=some d:=by exact rfl):DB P N m cat l ds env H H1 K (o::r) xs:=
 .add (λf b=>Qhm a λp e=>by
  obtain rfl:=VB.1 e;exact Qax b YX h hd) k
theorem DB.wo2{xs:List A}{o:Oper}{r:List Oper}{x:A}{d:Nat}(h:WO P H.length N l.toArray [o] (Ya (Qg o) 0 ds xs env) H (YT (up (Ya (Qg o) 0 ds xs env) d x) H))(e:WO P H1.length N l.toArray [o] (Ya (Qg o) 0 ds xs env) H1 (YT (up (Ya (Qg o) 0 ds xs env) d x) H1))(k:DB P N m cat l ds env H H1 K r (xs++[x]))
  (f:YM cat xs.length=some 3:=by exact rfl)(hd:o.dst=some d:=by exact rfl):DB P N m cat l ds env H H1 K (o::r) xs:=
 .add (λg b=>Qhm f λp a=>by
  rcases X6.1 a with rfl|a
  .exact Qax b YX h hd
  .obtain rfl:=VB.1 a;exact Qax b YX e hd) k
def Qhv(T:TyX)(N m:Nat)(cat:List Nat)(l:List Oper)(ds:List Nat)(env:Env)(H:Qd):Nat->Nat->List Oper->List A->Option (List Oper×List A)
 |0,_,r,xs=>some (r,xs)
 |_+1,_,[],_=>none
 |n+1,i,o::r,xs=>match Nat.blt i m,YM cat i with
  |true,some 0=>match o.dst with
   |none=>none
   |some d=>match Nat.blt d N with
    |false=>none
    |true=>match YS ⟨l⟩ o (Ya (Qg o) 0 ds xs env)with
     |none=>none
     |some false=>match QcR xs (.tup [])with
      |.mk xs'=>Qhv T N m cat l ds env H n (i+1) r xs'
     |some true=>match Qc7 T o (Ya (Qg o) 0 ds xs env) H with
      |none=>none
      |some x=>match QcR xs x with
       |.mk xs'=>Qhv T N m cat l ds env H n (i+1) r xs'
  |_,_=>none
theorem QeI(hT:Qbd P T):∀(n i:Nat) {r r':List Oper} {xs xs':List A},i=xs.length->Qhv T N m cat l ds env H n i r xs=some (r',xs')->DA P N m cat l ds env H K r' xs'->DA P N m cat l ds env H K r xs
 |0,i,r,r',xs,xs',_,h,k=>by cases h;exact k
 |n+1,i,[],r',xs,xs',_,h,k=>by cases h
 |n+1,i,o::r,r',xs,xs',hi,h,k=>by
  subst hi;unfold Qhv at h;split at h
  .rename_i q1 q0;split at h
   .cases h
   .rename_i d hd;split at h
    .cases h
    .rename_i q2;split at h
     .cases h
     .rename_i hw;simp only[Y3]at h;exact .wo (WO.skip (QI hw) hd q2 (WO.nil YT.mk)) (QeI hT n _ (by simp) h k) q0 hd q1
     .rename_i hw;split at h
      .cases h
      .rename_i x hv;simp only[Y3]at h;exact .wo (Ys (QI hw) hd q2 (Qat hT hv) (WO.nil YT.mk)) (QeI hT n _ (by simp) h k) q0 hd q1
  .cases h
theorem Qnr{H:Qd}{p:Bx}{r:Lx}(h:ptX [] p=some r):ptX H p=some r:=by
 unfold ptX at h⊢
 grind[YM]
theorem Qev{o:Oper}{e:Env}{H:Qd}{x:A}(h:Qc7 T o e []=some x):Qc7 T o e H=some x:=by
 unfold Qc7 at h⊢;split at h<;>first|exact h|skip
 rename_i t y a;split at h
 .cases h
 grind[Qnr]
def QeH(T:TyX)(N:Nat)(cat:List Nat)(l:List Oper)(ds:List Nat)(env:Env)(H1:Qd):Nat->Nat->List Oper->List A->Option (List Oper×List A)
 |0,_,r,xs=>some (r,xs)
 |_+1,_,[],_=>none
 |n+1,i,o::r,xs=>match o.dst with
  |none=>none
  |some d=>match Nat.blt d N with
   |false=>none
   |true=>match YS ⟨l⟩ o (Ya (Qg o) 0 ds xs env)with
    |none=>none
    |some false=>match YM cat i with
     |some 2=>(match QcR xs (.tup [])with
      |.mk xs'=>QeH T N cat l ds env H1 n (i+1) r xs')
     |some 3=>(match QcR xs (.tup [])with
      |.mk xs'=>QeH T N cat l ds env H1 n (i+1) r xs')
     |_=>none
    |some true=>match YM cat i with
     |some 2=>(match Qc7 T o (Ya (Qg o) 0 ds xs env) H1 with
      |none=>none
      |some x=>match QcR xs x with
       |.mk xs'=>QeH T N cat l ds env H1 n (i+1) r xs')
     |some 3=>(match Qc7 T o (Ya (Qg o) 0 ds xs env) []with
      |none=>none
      |some x=>match QcR xs x with
       |.mk xs'=>QeH T N cat l ds env H1 n (i+1) r xs')
     |_=>none
theorem QbG(hT:Qbd P T):∀(n i:Nat) {r r':List Oper} {xs xs':List A},i=xs.length->QeH T N cat l ds env H1 n i r xs=some (r',xs')->DB P N m cat l ds env H H1 K r' xs'->DB P N m cat l ds env H H1 K r xs
 |0,i,r,r',xs,xs',_,h,k=>by cases h;exact k
 |n+1,i,[],r',xs,xs',_,h,k=>by cases h
 |n+1,i,o::r,r',xs,xs',hi,h,k=>by
  subst hi;unfold QeH at h;split at h
  .cases h
  .rename_i d hd;split at h
   .cases h
   .rename_i q2;split at h
    .cases h
    .rename_i hw;split at h
     .rename_i q0;simp only[Y3]at h;exact .wo1 (WO.skip (QI hw) hd q2 (WO.nil YT.mk)) (QbG hT n _ (by simp) h k) q0 hd
     .rename_i q0;simp only[Y3]at h;exact .wo2 (WO.skip (QI hw) hd q2 (WO.nil YT.mk)) (WO.skip (QI hw) hd q2 (WO.nil YT.mk)) (QbG hT n _ (by simp) h k) q0 hd
     .cases h
    .rename_i hw;split at h
     .rename_i q0;split at h
      .cases h
      .rename_i x hv;simp only[Y3]at h;exact .wo1 (Ys (QI hw) hd q2 (Qat hT hv) (WO.nil YT.mk)) (QbG hT n _ (by simp) h k) q0 hd
     .rename_i q0;split at h
      .cases h
      .rename_i x hv;simp only[Y3]at h;exact .wo2 (Ys (QI hw) hd q2 (Qat hT (Qev hv)) (WO.nil YT.mk)) (Ys (QI hw) hd q2 (Qat hT (Qev hv)) (WO.nil YT.mk)) (QbG hT n _ (by simp) h k) q0 hd
     .cases h
end
def chkF(L:List (Nat×List (Nat×Nat)))(fs:List (Nat×Nat×Nat)):Bool:=
 fs.all λe=>match Qb6 L e.1 with
  |some pl=>(match YM pl e.2.1 with
   |some q=>Nat.beq q.1 e.2.2&& !(Nat.beq q.2 0)
   |none=>false)
  |none=>false
theorem PL.get{P:Program}{fs:List Field}{a:List (Nat×Nat)}(h:PL P fs a):∀{f off n:Nat},YM a f=some (off,n)->∃fd,fs[f]?=some fd/\fd.offset=off/\ ∀w,(sizeOf fd.type).run P w=.ok n w:=by
 induction h with
 |nil=>intro f off n h;cases h
 |cons h k d=>
  intro f off n b;cases f with
  |zero=>cases b;grind
  |succ f=>grind[YM]
theorem Qpa{P:Program}{L:List (Nat×List (Nat×Nat))}{fs:List (Nat×Nat×Nat)}(d:∀e∈L,Qy P e.1 e.2)(h:chkF L fs=true):∀e∈fs,∃n,YK P e.1 e.2.1 e.2.2 n:=by
 intro e f;have:=Xs.1 h e f;split at this
 .rename_i s a;split at this
  .rename_i q l;obtain⟨k,n⟩:=q;simp only[XW,Bool.not_eq_true']at this;have j:=XQ this.1;obtain⟨b,g,r⟩:=d _ (Qau a);obtain⟨p,t,m,i⟩:=PL.get r l;refine⟨n,⟨⟨_,p,g,by grind,m.trans j,i,?_⟩⟩⟩
   grind[Nat.beq_refl]
  .cases this
 .cases this
section
variable {P:Program} {Z:TyZ} {h0 N:Nat} {all:Array Oper} {o:Oper} {l:List Oper} {env:Env} {H:Qd} {Q:QA} {d:Nat}
theorem Cdz(k:QcT P Z){β γ:Type}{F:Option β}{F':β->Option γ}{r:γ}{f:Nat}{args a:List A}{Hc:Qd}{w:β->A}{Hr:β->Qd}(π:List Nat)(h:F.bind F'=some r)(i:∀v,F=some v->C P f a Hc (RQ w Hr v))
  (b:QfL Z o env=some (d,f,args))(g:∀v,F=some v->F' v=some r->WO P h0 N all l (up env d (Yr (rho π H.length) (w v))) (Yf H π ((Hr v).map (QQ (rho π H.length)))) Q)
  (hargs:args=Qaa (rho π H.length) a)(s:π.map (λp=>H[p]?)=(Hc.map (QQ (rho π H.length))).map some)(hπ:π.Nodup)(hg:YS all o env=some true)(j:Nat.blt d N=true)(e:Nat.ble h0 H.length=true):WO P h0 N all (o::l) env H Q:=by
 obtain⟨v,n,t⟩:=YN h;obtain⟨m,q⟩:=Qen (H:=H) k b;refine Qs π q (i v n) ?_ hargs s hπ (QI hg) m j e
 grind
end
inductive FLL where
 |mk (l:List (List A))
def cpLL(sel:List Nat):List (List A)->FLL
 |[]=>.mk []
 |a::r=>match cpL sel a,cpLL sel r with
  |.mk a',.mk r'=>.mk (a'::r')
inductive FBk where
 |mk (b:Blk)
def cpBk(sel:List Nat):Blk->FBk
 |.cells t cs=>match cpL sel cs with
  |.mk l=>.mk (.cells t l)
 |.rowr t k es=>match cpLL sel es with
  |.mk l=>.mk (.rowr t k l)
 |.wins t a n c=>match QiH sel ixL a with
  |.mk a'=>.mk (.wins t a' n c)
 |.ents t a b es=>match QiH sel ixL a,QiH sel ixL b with
  |.mk a',.mk b'=>.mk (.ents t a' b' es)
 |b=>.mk b
def selD(H:Qd)(sel:List Nat):List Nat->FB
 |[]=>.mk []
 |a::r=>match YM H a with
  |some b=>(match cpBk sel b,selD H sel r with
   |.mk b',.mk l=>.mk (b'::l))
  |none=>.mk []
def retC(sel sl:List Nat)(env:Env)(H:Qd):Option (Env×Qd):=
 match QlW sel env sl [],selD H sel sel with
 |.mk e,.mk h=>some (e,h)
theorem Rx{P:Program}{e:Nat}{fn:Func}{env E':Env}{H H':Qd}{Qr:A->Qd->Prop}{d:A}(π sl:List Nat)(_:retC π sl env H=some (E',H'))(a:Qcd P fn E' H' d)(f:Qr d H')(b:π.take e=List.range e:=by exact rfl)
  (hH:π.map (λp=>H[p]?)=(H'.map (QQ (rho π H.length))).map some:=by exact rfl)(hπ:π.Nodup:=by decide)(hE:QfD (rho π H.length) env E':=by(repeat' (first|exact trivial|refine⟨rfl,?_⟩))):QcW P e fn Qr .ret env H:=
 ⟨E',H',d,Lr π b hH hπ hE,a,f⟩
def nxL{T:Type}:List T->T->List T->Prop:=λl x rem=>l=x::rem
def runL{S T B:Type}(step:S->T->Option (Ctl S B)):List T->S->Option (Ctl S B)
 |[],s=>some (.cont s)
 |x::l,s=>(step s x).bind λd=>match d with
  |.cont s'=>runL step l s'
  |.done b=>some (.done b)
def QbI{S T B:Type}(step:S->Option (List T×Ctl S B)):Nat->S->Option (List T×B)
 |0,_=>none
 |n+1,s=>(step s).bind λp=>match p.2 with
  |.cont s'=>(QbI step n s').bind λq=>some (p.1++q.1,q.2)
  |.done b=>some (p.1,b)
def QmU{S B:Type}(h1:Nat)(env:Env)(Q:QA)(d:Ctl S B)(Hp:S->Qd):QA
 |.normal,env',H'=>∃s,d=.cont s/\Le h1 env' H' [] (Hp s)
 |.exit id,env',H'=>(∃b,d=.done b)/\ ∃H2,Le h1 env' H' [] H2/\Q (.exit id) env H2
 |.ret,env',H'=>(∃b,d=.done b)/\ ∃H2,Le h1 env' H' [] H2/\Q .ret env H2
theorem QcA{S B:Type}{h1:Nat}{env env':Env}{H':Qd}{Q:QA}{s:S}{d:Ctl S B}{Hp:S->Qd}(e:some (Ctl.cont s)=some d)(h:Le h1 env' H' [] (Hp s)):QmU h1 env Q d Hp .normal env' H':=⟨s,(Oi e).symm,h⟩
theorem Qbe{P:Program}{h0 N:Nat}{m:Operand}{ps:List Nat}{assign body:Code}{env:Env}{H:Qd}{Q:QA}{f:FuncId}{a g:List A}{Hc:Qd}{T S B:Type}{enc:T->List A}{xs:List T}{step:S->T->Option (Ctl S B)}{s0:S}{D:Ctl S B}
  (π:List Nat)(Hp:S->Qd)(h:runL step xs s0=some D)(n:QmS P f g Hc enc nxL xs)(r:∀x,(enc x).length=ps.length)(M:∀args w,(callFunc f args).run P w=.ok (.enter f args) w)
  (V:Nat.ble h0 H.length=true)(hg:opA env m=.fn (.func f) [] a)(hargs:a=Qaa (rho π H.length) g)(R:π.map (λp=>H[p]?)=(Hc.map (QQ (rho π H.length))).map some)(hπ:π.Nodup)(t:(ps.all λp=>Nat.blt p N)=true)
  (i:Le H.length env (QdN H π) env (Hp s0))
  (k:∀s x d,step s x=some d->(∀b,d=.done b->D=.done b)->TC P H.length N assign (Qlg ps (enc x) env) (Hp s) λe env1 H1=>e=.normal/\TC P H.length N body env1 H1 (QmU H.length env Q d Hp))
  (j:∀s,D=.cont s->Q .normal env (Hp s)):TC P h0 N (.rangeFunc m ps.toArray assign body) env H Q:=by
 refine TC.rangeFunc π Hp (λs l=>runL step l s=some D) s0 (by simp_all) hg hargs R hπ t M n r i h ?_ ?_
 .rintro s l x rem u rfl;obtain⟨d,F,u⟩:=YN u;refine(k s x d F ?_).mono ?_
  .grind
  .rintro e env1 H1 ⟨O,G⟩;refine⟨O,G.mono ?_⟩;intro J E H2 q;cases J with
   |normal=>
    obtain⟨z,rfl,i⟩:=q;exact⟨Hp z,i,z,u,rfl⟩
   |exit id=>
    obtain⟨_,H3,y,q⟩:=q;exact⟨H3,y,q⟩
   |ret=>
    obtain⟨_,H3,y,q⟩:=q;exact⟨H3,y,q⟩
 .intro s L;exact j s (Oi L).symm
section
variable {T:Type} {X:Ctx T} {P:Program} {h0 N:Nat} {c:Code} {env:Env} {H:Qd} {st:YSt T} {Q:YC T}
def QfA{S B:Type}(h0:Nat)(E:S->Env)(Hp:S->Qd)(d:Ctl S B)(rest:List T)(Q:YC T):YC T
 |.normal,env,H,st=>∃s,d=.cont s/\Le h0 env H (E s) (Hp s)/\st=.on rest
 |.exit id,env,H,st=>Q (.exit id) env H st
 |.ret,env,H,st=>Q .ret env H st
theorem QkK{S B:Type}{step:S->Option (List T×Ctl S B)}{E:S->Env}{Hp:S->Qd}{m:Nat}{s0:S}{i rem:List T}{b:B}(h:QbI step m s0=some (i,b))(y:Le h0 env H (E s0) (Hp s0))
  (body:∀s zs d rest,step s=some (zs,d)->(∀b',d=.done b'->b'=b/\rest=rem)->TCy X P h0 N c (E s) (Hp s) (.on (zs++rest)) (QfA h0 E Hp d rest Q)):TCy X P h0 N (.loop c) env H (.on (i++rem)) Q:=by
 refine QkL (I:=λn env H r=>∃s a,QbI step n s=some (a,b)/\r=.on (a++rem)/\Le h0 env H (E s) (Hp s)) ?_ ⟨s0,i,h,rfl,y⟩;rintro n env H r ⟨s,a,f,rfl,k⟩;cases n with
 |zero=>cases f
 |succ n=>
  obtain⟨⟨zs,d⟩,p,f⟩:=YN f;refine TCy.le k ?_;cases d with
  |cont z=>
   obtain⟨⟨u,F⟩,w,f⟩:=YN f;cases f;rw[Vi];refine(body s zs (.cont z) (u++rem) p (λb' e=>by cases e)).mono ?_;rintro x g H' j q;cases x with
   |normal=>
    obtain⟨t,e,l,rfl⟩:=q;cases e;exact⟨n,Xn n,_,_,w,rfl,l⟩
   |exit id=>exact q
   |ret=>exact q
  |done b'=>
   cases f;refine(body s _ (.done b) rem p (λb' e=>by cases e;exact⟨rfl,rfl⟩)).mono ?_;rintro x g H' j q;cases x with
   |normal=>obtain⟨t,e,_⟩:=q;cases e
   |exit id=>exact q
   |ret=>exact q
def kqY(X:Ctx T)(P:Program)(h0 N:Nat):List Kf->YC T->YC T
 |[],Q=>Q
 |.seq c::k,Q=>SeqY X P h0 N c (kqY X P h0 N k Q)
 |.blo id::k,Q=>BloY id (kqY X P h0 N k Q)
 |.unr c::k,Q=>λ_ _ _ _=>False
@[reducible] def HdY(X:Ctx T)(P:Program)(h0 N:Nat):Cf->List Kf->Env->Qd->YSt T->YC T->Prop
 |.code c,k,env,H,st,Q=>TCy X P h0 N c env H st (kqY X P h0 N k Q)
 |.ops all l,k,env,H,st,Q=>WOy X P h0 N all l env H st (kqY X P h0 N k Q)
 |.out x,k,env,H,st,Q=>kqY X P h0 N k Q x env H st
def Qoc:Cf->List Kf->Bool
 |.code (.loop _),_=>false
 |.out _,.unr _::_=>false
 |_,_=>true
theorem Qli{Tx:TyX}(f:Qbd P Tx){c d:Cf}{k b:List Kf}{env env':Env}{H H':Qd}(h:QfQ Tx h0 N c k env H=some (d,b,env',H'))(a:Qoc c k=true)(g:HdY X P h0 N d b env' H' st Q):HdY X P h0 N c k env H st Q:=by
 unfold QfQ at h;split at h
 .cases h;exact TCy.seq g
 .cases h;exact TCy.block g
 .cases a
 .cases h;exact TCy.skip g
 .cases h;exact TCy.ret g
 .cases h;exact TCy.exit g
 .cases h;exact TCy.region g
 .grind[TCy.cond,QJ]
 .cases h;exact WOy.nil g
 .split at h
  .rename_i q;cases h;exact WOy.step (Qiw f q (WO.nil ⟨rfl,g⟩))
  .cases h
 .cases h;exact g
 .cases h;exact g
 .cases h;exact g
 .cases h;exact g
 .split at h
  .rename_i q;cases h;have e:=XQ q;subst e;show(bif Nat.beq _ _ then _ else _)
   grind
  .rename_i q;cases h;show(bif Nat.beq _ _ then _ else _)
   grind
 .cases h;exact g
 .cases a
 .cases a
 .cases a
 .cases h
def Qkc(Tx:TyX)(h0 N:Nat):Nat->Cf->List Kf->Env->Qd->Option (Cf×List Kf×Env×Qd)
 |0,c,k,env,H=>some (c,k,env,H)
 |n+1,c,k,env,H=>match Qoc c k with
  |true=>(match QfQ Tx h0 N c k env H with
   |some (c',k',env',H')=>Qkc Tx h0 N n c' k' env' H'
   |none=>none)
  |false=>none
theorem Qed{Tx:TyX}(hT:Qbd P Tx):∀(n:Nat) {c c':Cf} {k k':List Kf} {env env':Env} {H H':Qd},Qkc Tx h0 N n c k env H=some (c',k',env',H')->HdY X P h0 N c' k' env' H' st Q->HdY X P h0 N c k env H st Q
 |0,c,c',k,k',env,env',H,H',h,g=>by cases h;exact g
 |n+1,c,c',k,k',env,env',H,H',h,g=>by
  unfold Qkc at h;split at h
  .rename_i hn;split at h
   .rename_i e;exact Qli hT e hn (Qed hT n h g)
   .cases h
  .cases h
theorem TCy.lf{k:List Kf}(h:TC P h0 N c env H (λx env H=>kqY X P h0 N k Q x env H st)):TCy X P h0 N c env H st (kqY X P h0 N k Q):=TCy.lift h
theorem Qpm{all:Array Oper}{o:Oper}{r:List Oper}{d:Nat}{x:T}{l:List T}{e:T->A}{y z:Operand}{i:Array TypeId}(hE:X.enc=λx=>[e x])(f:X.nx=nxL)(g:o.op=.call {callee:=.value y,args:= #[z],argTypes:=i})(h:opA env y=.fn (.yield X.l) [] [])(b:opA env z=e x)(a:Yn (e x)=true)
  (k:WOy X P h0 N all r (up env d (.bool true)) H (.on l) Q)(j:WOy X P h0 N all r (up env d (.bool false)) H (.off l) Q)(hg:Qt all o env true:=by exact rfl)(hd:o.dst=some d:=by exact rfl)(hNd:Nat.blt d N=true:=by exact rfl):WOy X P h0 N all (o::r) env H (.on (x::l)) Q:=by
 refine WOy.yield (x:=x) (rem:=l) (by rw[f];rfl) hg hd hNd ?_ ?_
 .rw[hE];exact Qlc g h b a
 grind
theorem WOy.y2{all:Array Oper}{o:Oper}{r:List Oper}{d:Nat}{x:T}{l:List T}{e h:T->A}{y j i:Operand}{p:Array TypeId}(hE:X.enc=λx=>[e x,h x])(k:X.nx=nxL)(m:o.op=.call {callee:=.value y,args:= #[j,i],argTypes:=p})(n:opA env y=.fn (.yield X.l) [] [])(a:opA env j=e x)(b:opA env i=h x)(g:Yn (e x)=true)(f:Yn (h x)=true)
  (s:WOy X P h0 N all r (up env d (.bool true)) H (.on l) Q)(q:WOy X P h0 N all r (up env d (.bool false)) H (.off l) Q)(hg:Qt all o env true:=by exact rfl)(hd:o.dst=some d:=by exact rfl)(hNd:Nat.blt d N=true:=by exact rfl):WOy X P h0 N all (o::r) env H (.on (x::l)) Q:=by
 refine WOy.yield (x:=x) (rem:=l) (by rw[k];rfl) hg hd hNd ?_ ?_
 .rw[hE];exact Qj9 m n a b g f
 grind
end
def yl{T R:Type}(x:T)(k:Option (List T×R)):Option (List T×R):=k.bind λp=>some (x::p.1,p.2)
def ap{T B R:Type}(a:Option (List T×B))(k:B->Option (List T×R)):Option (List T×R):=a.bind λp=>(k p.2).bind λq=>some (p.1++q.1,q.2)
theorem yl_ok{T R:Type}{x:T}{k:Option (List T×R)}{a:List T}{v:R}(h:yl x k=some (a,v)):∃zs,k=some (zs,v)/\a=x::zs:=by
 obtain⟨⟨zs,d⟩,b,e⟩:=YN h
 grind
theorem ap_ok{T B R:Type}{a:Option (List T×B)}{k:B->Option (List T×R)}{d:List T}{v:R}(h:ap a k=some (d,v)):∃y1 b y2,a=some (y1,b)/\k b=some (y2,v)/\d=y1++y2:=by
 obtain⟨⟨y1,b⟩,i,e⟩:=YN h;obtain⟨⟨y2,f⟩,j,g⟩:=YN e
 grind
section
variable {T:Type} {X:Ctx T} {P:Program} {h0 N:Nat} {c c':Code} {env:Env} {H:Qd} {st:YSt T} {Q:YC T}
def Qne{β:Type}(h0:Nat)(b:β)(E':β->Env)(H':β->Qd)(rem:List T)(Q:YC T):YC T
 |.normal,env,H,st=>Le h0 env H (E' b) (H' b)/\st=.on rem
 |.exit id,env,H,st=>Q (.exit id) env H st
 |.ret,env,H,st=>Q .ret env H st
theorem QmK{β:Type}{E':β->Env}{H':β->Qd}(b:β)(rem:List T)(sel keep:List Nat)(nE:β->Env)(nH:β->List (Nat×Blk))(_:∀b,Qmy sel keep (nE b) (nH b) env H=some (E' b,H' b))(h:TCy X P h0 N c env H st (Qne h0 b E' H' rem Q))(k:∀env H,Le h0 env H (E' b) (H' b)->Q .normal env H (.on rem)):TCy X P h0 N c env H st Q:=
 h.mono λx env' H' st' q=>by
  cases x with
  |normal=>obtain⟨q1,rfl⟩:=q;grind
  |exit id=>exact q
  |ret=>exact q
theorem cutYN{β:Type}{b:β}{E':β->Env}{H':β->Qd}{rem:List T}(h:Le h0 env H (E' b) (H' b)):Qne h0 b E' H' rem Q .normal env H (.on rem):=⟨h,rfl⟩
theorem cutYR{β:Type}{b:β}{E':β->Env}{H':β->Qd}{rem:List T}(h:Q .ret env H st):Qne h0 b E' H' rem Q .ret env H st:=h
theorem Qpp{S B:Type}{step:S->Option (List T×Ctl S B)}{E':S->Env}{H':S->Qd}{m:Nat}{s0:S}{ys rem:List T}{b:B}(sel keep:List Nat)(nE:S->Env)(nH:S->List (Nat×Blk))(h:QbI step m s0=some (ys,b))(_:∀s,Qmy sel keep (nE s) (nH s) env H=some (E' s,H' s))(hI:Le h0 env H (E' s0) (H' s0))
  (body:∀s zs d rest,step s=some (zs,d)->(∀b',d=.done b'->b'=b/\rest=rem)->TCy X P h0 N c (E' s) (H' s) (.on (zs++rest)) (QfA h0 E' H' d rest Q)):TCy X P h0 N (.loop c) env H (.on (ys++rem)) Q:=QkK h hI body
theorem Qo3{S B:Type}{E':S->Env}{H':S->Qd}{s:S}{d:Ctl S B}{zs rest:List T}(e:some (([]:List T),Ctl.cont s)=some (zs,d))(h:Le h0 env H (E' s) (H' s)):QfA h0 E' H' d rest Q .normal env H (.on (zs++rest)):=by
 cases e;exact⟨s,rfl,h,rfl⟩
theorem Qo1{S B:Type}{id:Nat}{E':S->Env}{H':S->Qd}{d:Ctl S B}{rest:List T}(h:Q (.exit id) env H st):QfA h0 E' H' d rest Q (.exit id) env H st:=h
theorem Qo2{S B:Type}{E':S->Env}{H':S->Qd}{d:Ctl S B}{rest:List T}(h:Q .ret env H st):QfA h0 E' H' d rest Q .ret env H st:=h
theorem Oy{S B:Type}{d:Ctl S B}{x b:B}{zs rest rem:List T}(a:∀b',d=.done b'->b'=b/\rest=rem)(h:some (([]:List T),Ctl.done x)=some (zs,d)):zs=[]/\b=x/\rest=rem:=by
 grind
theorem Qih{f:FuncId}{fn:Func}{c:Code}{N:Nat}{a:List A}{H:Qd}{enc:T->List A}{xs:List T}(e:P.funcs[f]?=some fn)(g:fn.body=some c)(d:fn.ntmps=N)(i:Nat.ble (a.length+1) N=true)(b:fn.results= #[])
  (h:∀X:Ctx T,X.enc=enc->X.nx=nxL->TCy X P H.length N c (Qgd 0 (.fn (.yield X.l) [] []::a)) H (.on (xs++[])) EndY):QmS P f a H enc nxL xs:=by
 grind[Qha]
end
open Go.MapKept
section
variable {fr ro:Nat->Prop} {σ:Sig} {H:Qd} {w:World}
end
end Go.Sw
namespace Go.Sw
open Go.MapKept
def Qbx{α β:Type}(ek:α->A)(ev:β->List A)(l:List (α×Option (List β))):List (A×Option (List (List A))):=l.map λp=>(ek p.1,p.2.map (List.map ev))
def QjA{α β:Type}[DecidableEq α](l:List (α×Option (List β)))(x:α):List (α×Option (List β)):=l.map λp=>bif decide (p.1=x)then(p.1,none)else p
section
variable {P:Program} {kt:TypeId} {α β:Type} [DecidableEq α] {ek:α->A} {ev:β->List A} {ro:Nat->Prop} {w:World} {t k:Nat} (K:Qab P kt ek)
include K
theorem Qj2{x:α}:∀{l:List (α×Option (List β))} {es:List MapEntry},MO ro w t k (Qbx ek ev l) es->MO ro w t k (Qbx ek ev (QjA l x)) es
 |[],es,h=>h
 |p::l,es,h=>by
  obtain⟨e,l',rfl,h1,h2,h3⟩:=h;by_cases q:p.1=x
  .refine⟨e,l',rfl,by grind,λrows hr=>?_,Qj2 (l:=l) h3⟩
   grind
  .refine⟨e,l',rfl,by grind,(by grind),Qj2 (l:=l) h3⟩
omit K
theorem QdC{x:α}{c:Nat}:∀{l:List (α×Option (List β))} {es:List MapEntry},Qd9 (Qbx ek ev (QjA l x)) es c->Qd9 (Qbx ek ev l) es c
 |[],es,h=>by cases es<;>exact h.elim
 |p::l,[],h=>h.elim
 |p::l,e::es,h=>by
  rcases h with⟨h1,h2⟩|h
  .by_cases q:p.1=x
   .grind
   .exact .inl ⟨by grind,h2⟩
  .exact .inr (QdC (l:=l) h)
theorem Qk5{x:α}:∀{l:List (α×Option (List β))} {es:List MapEntry},Qjh (Qbx ek ev l) es->Qjh (Qbx ek ev (QjA l x)) es
 |[],es,h=>by cases es<;>trivial
 |p::l,[],h=>trivial
 |p::l,e::es,h=>by
  obtain⟨h1,h2⟩:=h;refine⟨λc q1 q2 q3=>?_,Qk5 (l:=l) h2⟩;by_cases q:p.1=x
  .grind
  .exact h1 c (by grind) q2 (QdC (l:=l) q3)
include K
theorem MO.find:∀{l:List (α×Option (List β))} {es:List MapEntry},MO ro w t k (Qbx ek ev l) es->∀(x:α),(es.map (·.key)).Nodup->
  ((∀e:MapEntry,e∈es->e.key≠QH (ek x))->Qag l x=none)/\
  (∀(j:Nat) (e:MapEntry),es[j]?=some e->e.key=QH (ek x)->∃q,Qag l x=some q/\(∀rows,q=some rows->SO ro w t k (rows.map ev) e.val)/\
   ∀c p n cap,q.isSome=true->e.val=.slice (some ⟨c,p,none⟩) n cap->Qd9 (Qbx ek ev l) es c/\(Qjh (Qbx ek ev l) es->¬Qd9 (Qbx ek ev (QjA l x)) es c))
 |[],es,h,x,_=>by
  cases(show es=[]from h);exact⟨λ_=>rfl,(by simp)⟩
 |p::l,es,h,x,hn=>by
  obtain⟨e0,l',rfl,h1,h2,h3⟩:=h;have hk:e0.key=QH (ek p.1):=VR.val (K.scl _) h1;simp only[Vj,List.nodup_cons]at hn;obtain⟨a1,a2⟩:=MO.find (l:=l) h3 x hn.2;by_cases hp:p.1=x
  .subst hp;constructor
   .grind
   .intro j e he hx;cases j with
    |zero=>
     simp only[XE,Option.some.injEq]at he;subst he;refine⟨p.2,by simp[Qag],(by grind),λc p' n cap hs hv=>⟨.inl (by grind),λhd hq=>?_⟩⟩;rcases hq with⟨q1,_⟩|hq
     .simp at q1
     .exact hd.1 c (by grind) ⟨p',n,cap,hv⟩ (QdC (l:=l) hq)
    |succ j=>
     grind
  .have e1:Qag (p::l) x=Qag l x:=by simp[Qag,hp]
   rw[e1];constructor
   .grind
   .intro j e he hx;cases j with
    |zero=>
     simp only[XE,Option.some.injEq]at he;subst he;exact absurd (K.inj _ _ (hk.symm.trans hx)) hp
    |succ j=>
     obtain⟨q,g,i,f⟩:=a2 j e (by grind) hx;refine⟨q,g,i,λc p' n cap hs hv=>?_⟩;obtain⟨a,d⟩:=f c p' n cap hs hv;refine⟨.inr a,λhd hq=>?_⟩;rcases hq with⟨q1,b⟩|hq
     .exact hd.1 c (by grind) b a
     .exact d hd.2 hq
end
section
variable {P:Program} {o:Oper} {env:Env} {H:Qd}
variable {T kt et:Nat} {α β:Type} [DecidableEq α] {ek:α->A} {ev:β->List A} {x y:Operand} {i t k:Nat} {l:List (α×Option (List β))} {key:α} {rows:List β}
end
end Go.Sw
namespace Go.Sw
open Go.MapKept
theorem MO.append{ro:Nat->Prop}{w:World}{t k:Nat}:∀{l m:List (A×Option (List (List A)))} {es fs:List MapEntry},MO ro w t k l es->MO ro w t k m fs->MO ro w t k (l++m) (es++fs)
 |[],m,es,fs,h,q=>by cases(show es=[]from h);exact q
 |p::l,m,es,fs,h,q=>by
  obtain⟨e,l',rfl,h1,h2,h3⟩:=h;exact⟨e,l'++fs,rfl,h1,h2,MO.append h3 q⟩
theorem MO.length{ro:Nat->Prop}{w:World}{t k:Nat}:∀{l:List (A×Option (List (List A)))} {es:List MapEntry},MO ro w t k l es->es.length=l.length
 |[],es,h=>by cases(show es=[]from h);rfl
 |p::l,es,h=>by
  obtain⟨e,l',rfl,h1,h2,h3⟩:=h;simp[MO.length h3]
def SlB(v:Value)(c:Nat):Prop:=∃p n cap,v=.slice (some ⟨c,p,none⟩) n cap
section
variable {P:Program} {kt:TypeId} {α β:Type} [DecidableEq α] {ek:α->A} {ev:β->List A} {ro:Nat->Prop} {w:World} {t k:Nat} (K:Qab P kt ek)
def Qdg{α β:Type}[DecidableEq α](l:List (α×Option (List β)))(x:α)(rows:List β):List (α×Option (List β)):=l.map λp=>bif decide (p.1=x)then(p.1,some rows)else p
include K
theorem Qf0{x:α}{rows:List β}:∀{l:List (α×Option (List β))} {es:List MapEntry},MO ro w t k (Qbx ek ev l) es->(∀e∈es,e.key≠QH (ek x))->Qdg l x rows=l
 |[],es,h,q=>rfl
 |p::l,es,h,q=>by
  obtain⟨e,l',rfl,h1,h2,h3⟩:=h;have hk:e.key=QH (ek p.1):=VR.val (K.scl _) h1;have hp:p.1≠x:=(by grind);have:=Qf0 (l:=l) h3 (λe he=>q e (by simp[he])) (rows:=rows)
  simp_all[Qdg]
theorem MO.put{x:α}{rows:List β}{v:Value}(g:SO ro w t k (rows.map ev) v):∀{l:List (α×Option (List β))} {es:List MapEntry} {j:Nat} {e:MapEntry},MO ro w t k (Qbx ek ev l) es->
  (es.map (·.key)).Nodup->es[j]?=some e->e.key=QH (ek x)->
  MO ro w t k (Qbx ek ev (Qdg l x rows)) (es.modify j λe=>{e with key:=QH (ek x),val:=v})/\
  (∀c,Qd9 (Qbx ek ev (Qdg l x rows)) (es.modify j λe=>{e with key:=QH (ek x),val:=v}) c->Qd9 (Qbx ek ev l) es c\/SlB v c)/\
  (Qjh (Qbx ek ev l) es->(∀c,Qd9 (Qbx ek ev l) es c->¬SlB v c)->Qjh (Qbx ek ev (Qdg l x rows)) (es.modify j λe=>{e with key:=QH (ek x),val:=v}))
 |[],es,j,e,h,hn,he,hk=>by cases(show es=[]from h);simp at he
 |p::l,es,j,e,h,hn,he,hk=>by
  obtain⟨e0,l',rfl,h1,h2,h3⟩:=h;have hk0:e0.key=QH (ek p.1):=VR.val (K.scl _) h1;simp only[Vj,List.nodup_cons]at hn;cases j with
  |zero=>
   simp only[XE,Option.some.injEq]at he;subst he;have hp:p.1=x:=K.inj _ _ (hk0.symm.trans hk);simp only[List.modify_zero_cons];have e0':Qdg l x rows=l:=Qf0 K h3 λe he z=>hn.1 (by rw[hk, <- z];exact VG he);have e1:Qdg (p::l) x rows=(p.1,some rows)::l:=by
    have:Qdg (p::l) x rows=(p.1,some rows)::Qdg l x rows:=by simp[Qdg,hp]
    rw[this,e0']
   rw[e1];refine⟨⟨_,l',rfl,?_,?_,h3⟩,?_,?_⟩
   .show VR ro [] w (ek p.1) (QH (ek x));rw[<- hp];exact QcS (K.scl _)
   .intro b r;cases r;exact g
   .rintro c (⟨_,q⟩|q)
    .exact .inr q
    .exact .inl (.inr q)
   .rintro⟨f,d⟩ a;exact⟨λc _ q z=>a c (.inr z) q,d⟩
  |succ j=>
   simp only[XF]at he;have hp:p.1≠x:=by
    intro q;refine hn.1 (Xe.2 ⟨e,VH he,?_⟩);rw[hk,hk0,q]
   simp only[List.modify_succ_cons];obtain⟨y,n,s⟩:=MO.put g h3 hn.2 he hk;have e1:Qdg (p::l) x rows=p::Qdg l x rows:=by simp[Qdg,hp]
   rw[e1];refine⟨⟨_,_,rfl,h1,h2,y⟩,?_,?_⟩
   .rintro c (q|q)
    .exact .inl (.inl q)
    .exact(n c q).imp .inr id
   .rintro⟨f,d⟩ a;refine⟨λc i m z=>?_,s d λc u=>a c (.inr u)⟩;rcases n c z with z|z
    .exact f c i m z
    .exact a c (.inl ⟨i,m⟩) z
end
section
variable {P:Program} {o:Oper} {env:Env} {H:Qd}
variable {T kt et:Nat} {α β:Type} [DecidableEq α] {ek:α->A} {ev:β->List A} {x y zz:Operand} {i j t k n:Nat} {l m:List (α×Option (List β))} {key:α} {rows:List β}
end
end Go.Sw
namespace Go.Sw
open Go.MapKept
section
variable {fr ro:Nat->Prop} {σ:Sig} {H:Qd} {w:World}
theorem MO.er{t k:Nat}:∀{es:List (A×Option (List (List A)))} {l:List MapEntry},MO ro w t k es l->ER ro [] w (es.map λe=>(e.1,.any)) l
 |[],_,h=>h
 |x::r,_,⟨e,l',h1,h2,h3,h4⟩=>⟨e,l',h1,h2,trivial,MO.er h4⟩
end
section
variable {P:Program} {o:Oper} {env:Env} {H:Qd} {T kt et i t k:Nat} {x:Operand} {es:List (A×Option (List (List A)))}
end
section
variable {P:Program} {o:Oper} {env:Env} {H:Qd}
variable {T kt et:Nat} {α β:Type} [DecidableEq α] {ek:α->A} {ev:β->List A} {x y zz:Operand} {i j t k n:Nat} {l m:List (α×Option (List β))} {key:α} {rows:List β}
end
end Go.Sw
namespace Go.Sw
open Go.MapKept
section
variable {P:Program} {o:Oper} {env:Env} {H:Qd}
variable {T kt et:Nat} {α β:Type} [DecidableEq α] {ek:α->A} {ev:β->List A} {x y zz:Operand} {i j t k n:Nat} {l m:List (α×Option (List β))} {key:α} {rows:List β}
end
end Go.Sw
namespace Go.Sw
abbrev Kat:=List (Nat×Nat×Nat)
def Qlf:Nat->Nat->List (Nat×Nat)
 |lo,0=>[(lo,lo)]
 |lo,n+1=>(lo,lo)::Qlf (lo+1) n
def rgK(p:Nat×Nat×Nat):List (Nat×Nat):=bif Nat.beq p.1 1 then[(p.2.1,p.2.1+1)]else Qlf p.2.1 (p.2.2-p.2.1)
def plK(cat:Kat):List (List (Nat×Nat)):=cat.map rgK
def rqK(bs:List Nat)(cat:Kat):List (List Nat):=cat.map λp=>bs.take p.2.1
def hsK(cat:Kat):List Bool:=cat.map λp=>Nat.beq p.1 1
def msK(bs:List Nat):List (List Nat):=(List.range (bs.length+1)).map bs.take
theorem QgA:∀(n lo:Nat),∀p∈Qlf lo n,p.1=p.2
 |0,lo,p,h=>by cases h with|head=>rfl|tail _ h=>cases h
 |n+1,lo,p,h=>by
  rcases X6.1 h with rfl|h
  .rfl
  .exact QgA n _ p h
section
variable {P:Program} {T:TyX} {h0 N m:Nat} {bs:List Nat} {cat:Kat} {l:List Oper} {ds:List Nat} {env:Env} {H:Qd} {Hs:List Qd} {Q:QA} {K:List Oper->Env->Qd->Prop}
def DobK(P:Program)(N:Nat)(cat:Kat)(l:List Oper)(ds:List Nat)(env:Env)(n:Nat)(Hs:List Qd)(zs:List A)(j:Nat):Prop:=
 ∀p∈(plK cat).getD j [],Jd P N l ds zs env n n j (Hs.getD p.1 []) (Hs.getD p.2 [])
def DK(P:Program)(N m:Nat)(bs:List Nat)(cat:Kat)(l:List Oper)(ds:List Nat)(env:Env)(n:Nat)(K:List Oper->Env->Qd->Prop)(Hs:List Qd)(X:Qd)(r:List Oper)(xs:List A):Prop:=
 r=l.drop xs.length->∃ys Zs Y,xs.length+ys.length=m/\Hs.length+Zs.length=bs.length/\((∀Z∈Zs,n<=Z.length)/\(Hs.reverse++X::Zs).getD bs.length []=Y)/\(∀j,xs.length<=j->j<m->DobK P N cat l ds env n (Hs.reverse++X::Zs) (xs++ys) j)/\K (l.drop m) (Qar ds (xs++ys) env) Y
theorem Qpt{b:List A}{n:Nat}{Zs:List Qd}(d:cat.length=m)(g:∀j,0<=j->j<m->DobK P N cat l ds env n Zs b j):Qhh P N l ds b env n (n+0) 0 ((plK cat).map λq=>q.map λp=>(Zs.getD p.1 [],Zs.getD p.2 [])):=by
 refine Qhg _ 0 λi s a p f=>?_;rw[Xo]at a;cases e:(plK cat)[i]? with
 |none=>grind
 |some q=>
  rw[e]at a;cases a;obtain⟨r,h,rfl⟩:=Xe.1 f;have k:i<m:=by
   grind[plK]
  have:=g i (XU _) k r (by grind)
  grind
theorem Qnc{id:Nat}(m:Nat)(b:List Nat)(cat:Kat)(t:P.follows .mixedOrders=true)(p:QdV l m N (Qa9 m 0 l) (hsK cat) (rqK b cat) (msK b) (plK cat)=true)(f:Nat.beq cat.length m=true)(d:Nat.ble h0 H.length=true)
  (h:DK P N m b cat l (Qa9 m 0 l) env H.length (λr e H=>WO P h0 N l.toArray r e H Q) [] H l []):TC P h0 N (.region id l.toArray true) env H Q:=by
 obtain⟨k,Zs,Y,n,s,q,g,j⟩:=h rfl;simp only[List.length_nil,Xv,Vh,List.reverse_nil]at n s q g j;have a:=XQ f;have i:(msK b).length=b.length+1:=by simp[msK]
 refine Jj m 0 _ _ _ _ _ k (H::Zs) Y t p (by grind) (by simp_all) d ?_ (by simp) (by grind) (Qpt a g) (by simp[plK,a]) j
 simp_all
variable {n:Nat} {X X1:Qd} {xs:List A} {o:Oper} {r:List Oper} {x:A} {d:Nat}
theorem DK.done(d:Nat.beq xs.length m=true)(b:Nat.beq Hs.length bs.length=true)(h:K r (Qar ds xs env) X):DK P N m bs cat l ds env n K Hs X r xs:=by
 intro a;have e:=XQ d;have g:=XQ b;subst a;refine⟨[],[],X,by simpa using e,by omega,⟨(λZ hZ=>by cases hZ),?_⟩,λj i f=>by omega,?_⟩
 .grind
 grind
theorem DK.add(q:∀ys Zs,l[xs.length]?=some o->DobK P N cat l ds env n (Hs.reverse++X::Zs) (xs++x::ys) xs.length)(k:DK P N m bs cat l ds env n K Hs X r (xs++[x])):DK P N m bs cat l ds env n K Hs X (o::r) xs:=by
 intro b;obtain⟨p,d⟩:=Qba b;obtain⟨ys,Zs,Y,f,h,g,e,a⟩:=k (by grind);simp only[X3,X0,List.length_nil,Vi,VK,Vh]at f e a;refine⟨x::ys,Zs,Y,by grind,h,g,λj i s=>?_,a⟩
 grind
theorem Qeq{Zs:List Qd}{zs:List A}{j:Nat}{c:Nat×Nat×Nat}(a:YM cat j=some c)(h:∀p∈rgK c,Jd P N l ds zs env n n j (Zs.getD p.1 []) (Zs.getD p.2 [])):DobK P N cat l ds env n Zs zs j:=by
 intro p b
 grind[QaA,plK]
theorem QnB{Zs:List Qd}{c:Nat}(a:Nat.beq c Hs.length=true):(Hs.reverse++X::Zs).getD c []=X:=by
 simp_all
theorem DK.wo{c:Nat}(h:WO P X.length N l.toArray [o] (Ya (Qg o) 0 ds xs env) X (YT (up (Ya (Qg o) 0 ds xs env) d x) X))(k:DK P N m bs cat l ds env n K Hs X r (xs++[x]))
  (b:YM cat xs.length=some (0,c,c):=by exact rfl)(hd:o.dst=some d:=by exact rfl)(hcH:Nat.beq c Hs.length=true:=by exact rfl):DK P N m bs cat l ds env n K Hs X (o::r) xs:=
 .add (λys Zs ho=>Qeq b λp a=>by
  have:p=(c,c):=by
   change p∈Qlf c (c-c)at a;rw[Nat.sub_self]at a;exact VB.1 a
  grind[QnB,Qax,YX]) k
theorem DK.wa{lo hi:Nat}(h:∀X,WO P X.length N l.toArray [o] (Ya (Qg o) 0 ds xs env) X (YT (up (Ya (Qg o) 0 ds xs env) d x) X))(k:DK P N m bs cat l ds env n K Hs X r (xs++[x]))
  (a:YM cat xs.length=some (0,lo,hi):=by exact rfl)(hd:o.dst=some d:=by exact rfl):DK P N m bs cat l ds env n K Hs X (o::r) xs:=
 .add (λys Zs ho=>Qeq a λp b=>by
  have e:p.1=p.2:=QgA _ _ p b
  grind[Qax,YX]) k
theorem DK.op{c w:Nat}(h:WO P X.length N l.toArray [o] (Ya (Qg o) 0 ds xs env) X (YT (up (Ya (Qg o) 0 ds xs env) d x) X1))(k:DK P N m bs cat l ds env n K (X::Hs) X1 r (xs++[x]))(B:Nat.ble n X1.length=true:=by exact rfl)
  (hc:YM cat xs.length=some (1,c,w):=by exact rfl)(hd:o.dst=some d:=by exact rfl)(hcH:Nat.beq c Hs.length=true:=by exact rfl):DK P N m bs cat l ds env n K Hs X (o::r) xs:=by
 intro g;obtain⟨E,i⟩:=Qba g;obtain⟨f,Zs,Y,u,y,b,s,e⟩:=k (by grind);simp only[X3,X0,List.length_nil,Vi,VK,Vh,List.reverse_cons]at u y b s e;refine⟨x::f,X1::Zs,Y,by grind,by grind,⟨λZ a=>?_,b.2⟩,λj z F=>?_,e⟩
 .rcases X6.1 a with rfl|a
  .simp_all
  grind
 .rcases VC xs.length j with q|q
  .grind
  .obtain rfl:j=xs.length:=by omega
   refine Qeq hc λp t=>?_;have:p=(c,c+1):=VB.1 t
   grind[Nat.eq_of_beq_eq_true,Qax,YX]
def QeG(T:TyX)(N m:Nat)(cat:Kat)(l:List Oper)(ds:List Nat)(env:Env)(n:Nat):Nat->Nat->Nat->List Qd->Qd->List Oper->List A->Option (List Qd×List Oper×List A)
 |0,_,_,Hs,X,r,xs=>some (Hs,r,xs)
 |_+1,_,_,_,_,[],_=>none
 |k+1,i,j,Hs,X,o::r,xs=>match o.dst with
  |none=>none
  |some d=>match Nat.blt d N with
   |false=>none
   |true=>match YS ⟨l⟩ o (Ya (Qg o) 0 ds xs env)with
    |none=>none
    |some false=>(match QcR xs (.tup [])with
      |.mk xs'=>match YM cat i with
       |some (0,_,_)=>QeG T N m cat l ds env n k (i+1) j Hs X r xs'
       |some (1,c,_)=>(match Nat.beq c j,Nat.ble n X.length with
        |true,true=>QeG T N m cat l ds env n k (i+1) (j+1) (X::Hs) X r xs'
        |_,_=>none)
       |_=>none)
    |some true=>match YM cat i with
     |some (0,lo,hi)=>(match Qc7 T o (Ya (Qg o) 0 ds xs env) []with
      |some x=>(match QcR xs x with
       |.mk xs'=>QeG T N m cat l ds env n k (i+1) j Hs X r xs')
      |none=>match Nat.beq lo hi,Nat.beq lo j with
       |true,true=>(match Qc7 T o (Ya (Qg o) 0 ds xs env) X with
        |none=>none
        |some x=>match QcR xs x with
         |.mk xs'=>QeG T N m cat l ds env n k (i+1) j Hs X r xs')
       |_,_=>none)
     |_=>none
theorem QbF(hT:Qbd P T):∀(k i j:Nat) {Hs Hs':List Qd} {r r':List Oper} {xs xs':List A},i=xs.length->j=Hs.length->QeG T N m cat l ds env n k i j Hs X r xs=some (Hs',r',xs')->DK P N m bs cat l ds env n K Hs' X r' xs'->DK P N m bs cat l ds env n K Hs X r xs
 |0,i,j,Hs,Hs',r,r',xs,xs',_,_,h,k=>by cases h;exact k
 |k0+1,i,j,Hs,Hs',[],r',xs,xs',_,_,h,k=>by cases h
 |k0+1,i,j,Hs,Hs',o::r,r',xs,xs',hi,hj,h,k=>by
  subst hi hj;unfold QeG at h;split at h
  .cases h
  .rename_i d hd;split at h
   .cases h
   .rename_i q2;split at h
    .cases h
    .rename_i hw;simp only[Y3]at h;split at h
     .rename_i lo hi' q0;exact .wa (λX=>WO.skip (QI hw) hd q2 (WO.nil YT.mk)) (QbF hT k0 _ _ (by simp) rfl h k) q0 hd
     .rename_i c c' q0;split at h
      .rename_i q1 q3;exact .op (WO.skip (QI hw) hd q2 (WO.nil YT.mk)) (QbF hT k0 _ _ (by simp) (by simp) h k) q3 q0 hd q1
      .cases h
     .cases h
    .rename_i hw;split at h
     .rename_i lo hi' q0;split at h
      .rename_i x hv;simp only[Y3]at h;exact .wa (λX=>Ys (QI hw) hd q2 (Qat hT (Qev hv)) (WO.nil YT.mk)) (QbF hT k0 _ _ (by simp) rfl h k) q0 hd
      .split at h
       .rename_i q1 q3;split at h
        .cases h
        .rename_i x hv;simp only[Y3]at h;obtain rfl:=XQ q1;exact .wo (Ys (QI hw) hd q2 (Qat hT hv) (WO.nil YT.mk)) (QbF hT k0 _ _ (by simp) rfl h k) q0 hd q3
       .cases h
     .cases h
theorem DK.v(h:OpV P o (Ya (Qg o) 0 ds xs env) X x)(k:DK P N m bs cat l ds env n K Hs X r (xs++[x])){c:Nat}(hg:YS ⟨l⟩ o (Ya (Qg o) 0 ds xs env)=some true:=by exact rfl)
  (hd:o.dst=some d:=by exact rfl)(hN:Nat.blt d N=true:=by exact rfl)(hc:YM cat xs.length=some (0,c,c):=by exact rfl)(hcH:Nat.beq c Hs.length=true:=by exact rfl):DK P N m bs cat l ds env n K Hs X (o::r) xs:=
 .wo (Ys (QI hg) hd hN h (WO.nil YT.mk)) k hc hd hcH
def allV(T:TyX)(o:Oper)(e:Env)(x:A):Nat->List Qd->Prop
 |0,_=>True
 |k+1,Y::r=>Qc7 T o e Y=some x/\allV T o e x k r
 |_+1,[]=>False
theorem Qjo:∀(n lo:Nat),∀p∈Qlf lo n,lo<=p.1/\p.1<=lo+n
 |0,lo,p,h=>by cases h with|head=>omega|tail _ h=>cases h
 |n+1,lo,p,h=>by
  rcases X6.1 h with rfl|h
  .omega
  .have:=Qjo n _ p h;omega
def allW(P:Program)(N:Nat)(l:List Oper)(o:Oper)(e:Env)(d:Nat)(x:A):Nat->List Qd->Prop
 |0,_=>True
 |k+1,Y::r=>WO P Y.length N l.toArray [o] e Y (YT (up e d x) Y)/\allW P N l o e d x k r
 |_+1,[]=>False
theorem QjY{e:Env}:∀{k:Nat} {r:List Qd},allW P N l o e d x k r->∀j,j<k->WO P (r.getD j []).length N l.toArray [o] e (r.getD j []) (YT (up e d x) (r.getD j []))
 |0,_,_,j,hj=>(by omega)
 |k+1,[],h,_,_=>h.elim
 |k+1,Y::r,h,0,_=>h.1
 |k+1,Y::r,h,j+1,hj=>by
  have:=QjY h.2 j (by omega)
  grind
theorem DK.ws{lo hi:Nat}(h:allW P N l o (Ya (Qg o) 0 ds xs env) d x (hi+1-lo) (X::Hs))(k:DK P N m bs cat l ds env n K Hs X r (xs++[x]))
  (i:YM cat xs.length=some (0,lo,hi):=by exact rfl)(hd:o.dst=some d:=by exact rfl)(hcH:Nat.beq hi Hs.length=true:=by exact rfl)(hle:Nat.ble lo hi=true:=by exact rfl):DK P N m bs cat l ds env n K Hs X (o::r) xs:=
 .add (λys Zs ho=>Qeq i λp a=>by
  have e:p.1=p.2:=QgA _ _ p a;have b:=XR hle;have q:lo<=p.1/\p.1<=lo+(hi-lo):=Qjo (hi-lo) lo p a;have f:=XQ hcH;rw[<- e];have g:=QjY h (Hs.length-p.1) (by omega);have j:(Hs.reverse++X::Zs).getD p.1 []=(X::Hs).getD (Hs.length-p.1) []:=by
   grind
  rw[j];exact Qax ho YX g hd) k
theorem DK.vs(g:Qbd P T){lo hi:Nat}(h:allV T o (Ya (Qg o) 0 ds xs env) x (hi+1-lo) (X::Hs))(k:DK P N m bs cat l ds env n K Hs X r (xs++[x]))
  (f:YM cat xs.length=some (0,lo,hi))(e:o.dst=some d)(a:Nat.beq hi Hs.length=true)(hg:YS ⟨l⟩ o (Ya (Qg o) 0 ds xs env)=some true)(i:Nat.blt d N=true)(b:Nat.ble lo hi=true):DK P N m bs cat l ds env n K Hs X (o::r) xs:=by
 refine DK.ws ?_ k f e a b;generalize hi+1-lo=c at h;generalize X::Hs=L at h
 induction c generalizing L with
 |zero=>trivial
 |succ c j=>
  cases L with
  |nil=>exact h.elim
  |cons Y L=>exact⟨Ys (QI hg) e i (Qat g h.1) (WO.nil YT.mk),j L h.2⟩
end
def room(n:Int):Option Nat:=bif decide (0<n)&&decide (n<=4294967296)then some n.toNat else none
section
variable {P:Program} {o:Oper} {env:Env} {H:Qd}
theorem Qm1{a i:Nat}{x x':Blk}(b:H[i]?=some x)(e:x=x'):Le a env H env (H.set i x'):=by
 grind[List.set_getElem_self,Le.refl]
theorem RL.put{ro:Nat->Prop}{σ:Sig}{w:World}{k:Nat}:∀{a:Nat} {es fs:List (List A)} {l m:List Value},RL ro σ w k es l->a+fs.length<=es.length->Sw.allK k fs->LR ro σ w fs.flatten m->(∀v∈m,Qp v)->
  RL ro σ w k (es.take a++fs++es.drop (a+fs.length)) (Sw.splice l (a*k) m)
 |0,es,[],l,m,h,hn,hk,hm,hp=>by
  obtain rfl:m=[]:=hm;simpa[Sw.splice]using h
 |0,[],f::fs,l,m,h,hn,hk,hm,hp=>by simp at hn
 |0,c::es,f::fs,l,m,⟨l1,l2,h1,h2,h3,h4⟩,hn,hk,hm,hp=>by
  subst h1;have hl1:=h3.1.length;have hml:=hm.length;rw[Vl,X3]at hml;have e1:m.take k++m.drop k=m:=Xz _ _;have q1:LR ro σ w f (m.take k):=by have:=hm.take k;rwa [Vl,X7 (by rw[hk.1];omega),VI (by rw[hk.1];omega)]at this
  have g:LR ro σ w fs.flatten (m.drop k):=by have:=hm.drop k;rwa [Vl,X8 (by rw[hk.1];omega),List.drop_of_length_le (by rw[hk.1];omega),Vh]at this
  have d:=RL.put (a:=0) h4 (by grind) hk.2 g (λv b=>hp v (List.mem_of_mem_drop b));simp only[List.take_zero,Vh,Xv,Nat.zero_mul,Sw.splice]at d⊢;refine⟨m.take k,m.drop k++l2.drop (m.drop k).length,?_,hk.1,⟨q1,λv b=>hp v (List.mem_of_mem_take b)⟩,by simp_all⟩;have e:k<=m.length:=by rw[hml,hk.1];omega
  rw[<- Vi,e1];congr 1
  grind[List.drop_length_add_append]
 |a+1,[],fs,l,m,h,hn,hk,hm,hp=>by simp at hn
 |a+1,c::es,fs,l,m,⟨l1,l2,h1,h2,h3,h4⟩,hn,hk,hm,hp=>by
  subst h1;have hl1:=h3.1.length;have d:=RL.put (a:=a) h4 (by simp at hn;omega) hk hm hp;refine⟨l1,Sw.splice l2 (a*k) m,?_,h2,h3,?_⟩
  .have e1:(a+1)*k=l1.length+a*k:=by rw[Xl];omega
   unfold Sw.splice;rw[e1,Vb,show l1.length+a*k+m.length=l1.length+(a*k+m.length)from by omega,Va];simp
  .have i:a+1+fs.length=(a+fs.length)+1:=by omega
   simpa[i]using d
def QkN(P:Program)(H:Qd)(x:A)(k:Nat)(es:List (List A)):Prop:=
 ∀fr ro σ w v,Sim fr ro σ H w->VR ro σ w x v->(∃a c,v=.slice a es.length c)/\
  ∀j,j<=es.length->allK k (es.take j)/\ ∃l,(Builtin.firstCells k j v).run P w=.ok l.toArray w/\LR ro [] w (es.take j).flatten l/\ ∀v∈l,Qp v
theorem QeE{fr ro:Nat->Prop}{σ:Sig}{w:World}{k j b off n c:Nat}{es:List (List A)}(h:RR ro [] w b k es off)(g:j<=es.length):
  allK k (es.take j)/\ ∃l,(Builtin.firstCells k j (.slice (some ⟨b,off,none⟩) n c)).run P w=.ok l.toArray w/\LR ro [] w (es.take j).flatten l/\ ∀v∈l,Qp v:=by
 obtain⟨d,i,a⟩:=(h.take j).flat;rw[Xy,XB g]at a;obtain⟨l,f,e⟩:=Qa5 (P:=P) (n:=j) (c:=c) d a;refine⟨i,l,?_,e⟩;exact f w rfl
theorem Qci{k n c:Nat}{a:Option Addr}{w:World}:(Builtin.firstCells k 0 (.slice a n c)).run P w=.ok #[] w:=by
 cases a<;>simp[Builtin.firstCells,loadCells,loadCellsFrom,go_sem]
theorem QnX{α:Type}{e:α->List A}{k:Nat}{l:List α}:QkN P H (.rsl k (l.map e)) k (l.map e):=by
 intro fr i σ w v s ⟨a,c,h1,h2,d⟩;subst h1;refine⟨⟨a,c,rfl⟩,λj f=>?_⟩;rcases d with d|⟨b,h,rfl,m,g⟩
 .rw[d]at f⊢;obtain rfl:j=0:=by grind
  exact⟨trivial,[],Qci,rfl,by simp⟩
 .exact QeE (fr:=fr) (σ:=σ) g f
theorem QkN.osl{i s n k t:Nat}{es a:List (List A)}(z:H[i]?=some (.row t k es))(he:(es.drop s).take n=a)(J:s+n<=es.length):QkN P H (.osl i s n k) k a:=by
 intro fr G σ w v sm h;have u:a.length=n:=by grind
 rcases h with⟨rfl,rfl⟩|⟨b,p,d,F,m,q,rfl,B,⟨M,E⟩,L,N⟩
 .have e:a=[]:=(by grind);subst e;refine⟨⟨none,0,rfl⟩,λj x=>?_⟩;obtain rfl:j=0:=by omega
  exact⟨trivial,[],Qci,rfl,by simp⟩
 .rw[u];refine⟨⟨_,d,rfl⟩,λj x=>?_⟩;obtain⟨l,g,y⟩:=sm.blk i _ _ q z;have f:=((Yq (pre:=[]) (by simpa using g) y).drop s).take n;rw[he]at f;by_cases r:0<d
  .obtain rfl:=B r;simpa using QeE (P:=P) (fr:=fr) (σ:=σ) (n:=n) (c:=d) f (by omega)
  .obtain rfl:j=0:=by omega
   exact⟨trivial,[],Qci,rfl,by simp⟩
theorem QnY{α:Type}{e:α->List A}{b t k:Nat}{l r:List α}{a c:Int}(h:slc l a c=some r)(f:H[b]?=some (.row t k (l.map e)):=by exact rfl):QkN P H (.osl b (0+a.toNat) (c.toNat-a.toNat) k) k (r.map e):=by
 obtain⟨j,g,i,d⟩:=Qc9 h;refine QkN.osl f ?_ (by grind);rw[<- d, <- List.map_drop, <- List.map_take,Xv,List.drop_take]
def cpy{α:Type}(l:List α)(a c:Int)(m:List α):Option (List α):=some (l.take a.toNat++m.take (c.toNat-a.toNat)++l.drop (a.toNat+min m.length (c.toNat-a.toNat)))
theorem Qem{α:Type}{l r l' m:List α}{a c:Int}(h:slc l a c=some r)(b:cpy l a c m=some l'):l.length=l'.length:=by
 obtain⟨e,d,f,_⟩:=Qc9 h;rw[<- XZ b]
 grind
theorem Qfj{α:Type}{l l' m:List α}(a:cpy l 0 (l.length:Int) m=some l'):l.length=l'.length:=by
 rw[<- XZ a]
 grind
theorem Qgs{α:Type}{e:α->List A}{c:Call}{T T' et k b a n t:Nat}{x y:Operand}{ya:A}{l m l':List α}(ab:a+n<=l.length)(af:l.take a++m.take n++l.drop (a+min m.length n)=l')(hT:∀w,(underlying T).run P w=.ok (.slice et) w)(u:∀w,(sizeOf et).run P w=.ok k w)(O:QkN P H ya k (m.map e))
  (ho:o.op=.call c)(hc:c={callee:=.builtin .copy,args:= #[x,y],argTypes:= #[T,T']})(hx:opA env x=.osl b a n k)(hH:H[b]?=some (.row t k (l.map e)))(W:opA env y=ya):
  OpH P o env H (.int .i64 (min m.length n:Nat)) (H.set b (.row t k (l'.map e))):=by
 intro Q J σ N ac w r;have q:=Qi r x;rw[hx]at q;have h2:=Qi r y;rw[W]at h2;obtain⟨⟨ay,cy,L⟩,q2⟩:=O Q J σ w _ r.sim h2;rw[X2]at L q2;obtain⟨q3,E,G,Y,q6⟩:=q2 (min m.length n) (Nat.min_le_left _ _);have h:((m.map e).take (min m.length n)).length=min m.length n:=by simp
 have M:l'.map e=(l.map e).take a++(m.map e).take (min m.length n)++(l.map e).drop (a+((m.map e).take (min m.length n)).length):=by
  grind[List.map_take,List.map_drop]
 have d:(Builtin.copy_ #[T,T'] o.type #[ac.eval x,ac.eval y]).run P w=.ok (.int .i64 (min m.length n:Nat)) w->min m.length n=0->
   ∃v w' ro' τ,(execOp ac.eval o).run P w=.ok (.value v) w'/\VR ro' (σ++τ) w' (.int .i64 (min m.length n:Nat)) v/\Sim Q ro' (σ++τ) (H.set b (.row t k (l'.map e))) w'/\Qh Q J w ro' w':=by
  intro g hz;have O:H.set b (.row t k (l'.map e))=H:=by
   have:l'.map e=l.map e:=by simp_all
   grind[List.set_getElem_self]
  refine⟨_,w,J,[],?_,rfl,by simpa[O]using r.sim,Qh.refl _ _ _⟩;subst hc;generalize ac.eval=ρ at*
  simp_all[execOp,resolve,invoke,builtin]
 have B:∀j:Nat,goInt j=.int .i64 j:=λ_=>rfl;rcases q with⟨F,q⟩|⟨bb,p,aa,t',mm,q,h3,h4,⟨h5,ad⟩,h6,h7⟩
 .refine d ?_ (by omega);rw[L]at G⊢;rw[q];have:Nat.min m.length 0=min m.length n:=by rw[F]
  simp only[Builtin.copy_,XG,XE,XF,Vm,hT,u,Result.andThen,Builtin.lenOf,Vn,this,G,B]
 .have f:∀R:Result Unit,(storeCells ⟨bb,p,none⟩ E).run P w=R->(Builtin.copy_ #[T,T'] o.type #[ac.eval x,ac.eval y]).run P w=R.andThen λ_ w=>.ok (.int .i64 (min m.length n:Nat)) w:=by
   intro R hR;rw[L]at G⊢;rw[h3];have:Nat.min m.length n=min m.length n:=rfl;simp only[Builtin.copy_,XG,XE,XF,Vm,hT,u,Result.andThen,Builtin.lenOf,Vn,this,G,B,hR]
  by_cases F:min m.length n=0
  .have s:E=[]:=by
    have:=Y.length;rw[F]at this;exact VJ.1 (by simpa using this)
   refine d ?_ F;have:=f (.ok () w) (by rw[s];rfl);rw[this];rfl
  .obtain rfl:=h4 (by omega);obtain⟨l0,g1,g2⟩:=r.sim.blk b _ _ q hH;have X:=g2.length;have s:=Y.length;rw[Yc q3,h]at s;have ae:a*k+(min m.length n)*k<=l0.length:=by
    rw[<- XA];refine XV (XC k ?_) X;rw[X2];omega
   have z:=Q3 (P:=P) (vs:=E) (a*k) 0 g1 (by omega) q6;rw[Xw]at z;have g:=f _ z;have i:=r.sim.set (x':=.row t k (l'.map e)) (obj:=.cells (splice l0 (a*k) E).toArray t (0,0)) q hH rfl
    (λy W=>Jc g1 (Q0 (by omega)) y W)
    (λex V=>⟨_,V,by
     rw[M];exact(RL.put g2 (by rw[h,X2];omega) q3 Y q6).mono ex.nil⟩)
   refine⟨_,_,J,[],?_,rfl,by simpa using i.1,i.2⟩;subst hc;generalize ac.eval=ρ at*;simp only[execOp,ho,resolve,Vm,Vn,Result.andThen,invoke,builtin,XI,Vj,Vk,g]
theorem QkX{α:Type}{e:α->List A}{c:Call}{T T' et k b t:Nat}{x y:Operand}{d:A}{l m l':List α}(h:cpy l 0 (l.length:Int) m=some l')(i:∀w,(underlying T).run P w=.ok (.slice et) w)(a:∀w,(sizeOf et).run P w=.ok k w)(f:QkN P H d k (m.map e))
  (g:o.op=.call c:=by exact rfl)(hc:c={callee:=.builtin .copy,args:= #[x,y],argTypes:= #[T,T']}:=by exact rfl)(hx:opA env x=.osl b 0 l.length k:=by exact rfl)(hH:H[b]?=some (.row t k (l.map e)):=by exact rfl)(hy:opA env y=d:=by exact rfl):
  OpH P o env H (.int .i64 (min m.length l.length:Nat)) (H.set b (.row t k (l'.map e))):=by
 refine Qgs (by omega) ?_ i a f g hc hx hH hy;rw[<- XZ h];rfl
theorem QkY{α:Type}{e:α->List A}{c:Call}{T T' et k b t:Nat}{x y:Operand}{f:A}{l n m l':List α}{i j:Int}(hi:slc l i j=some n)(h:cpy l i j m=some l')(q:∀w,(underlying T).run P w=.ok (.slice et) w)(d:∀w,(sizeOf et).run P w=.ok k w)(g:QkN P H f k (m.map e))
  (p:o.op=.call c:=by exact rfl)(hc:c={callee:=.builtin .copy,args:= #[x,y],argTypes:= #[T,T']}:=by exact rfl)(hx:opA env x=.osl b (0+i.toNat) (j.toNat-i.toNat) k:=by exact rfl)(hH:H[b]?=some (.row t k (l.map e)):=by exact rfl)(hy:opA env y=f:=by exact rfl):
  OpH P o env H (.int .i64 (min m.length (j.toNat-i.toNat):Nat)) (H.set b (.row t k (l'.map e))):=by
 obtain⟨s,z,u,r⟩:=Qc9 hi;refine Qgs (a:=i.toNat) (by omega) (XZ h) q d g p hc ?_ hH hy
 grind
end
open Go.MapKept
section
variable {fr ro ro':Nat->Prop} {σ:Sig} {H:Qd} {w:World}
end
end Go.Sw
namespace Go.Sw
def QhE{α:Type}(l:List α)(o:Option (List α)):Option (List α):=o.bind λr=>bif Nat.beq l.length r.length then some r else none
theorem QhD{α:Type}{l r:List α}{o:Option (List α)}(h:QhE l o=some r):o=some r/\l.length=r.length:=by
 cases o with
 |none=>cases h
 |some x=>
  have a:(bif Nat.beq l.length x.length then some x else none)=some r:=h;cases q:Nat.beq l.length x.length with
  |false=>grind
  |true=>
   simp_all
theorem QlV{α:Type}{l r:List α}{o:Option (List α)}(h:QhE l o=some r):o=some r:=(QhD h).1
theorem Qf2{α:Type}{l r:List α}{o:Option (List α)}(h:QhE l o=some r):l.length=r.length:=(QhD h).2
section
variable {P:Program} {o:Oper} {env:Env} {H:Qd} {α:Type} {e:α->List A}
end
open Go.MapKept
section
variable {P:Program} {o:Oper} {env:Env} {H:Qd}
variable {T kt et:Nat} {α β:Type} [DecidableEq α] {ek:α->A} {ev:β->A} {x y:Operand} {i:Nat} {l:List (α×β)} {k:α} {z0:β} {z:Value}
end
section
variable {fr ro:Nat->Prop} {σ:Sig} {H:Qd} {w:World}
theorem Sim.shutAny(s:Sim fr ro σ H w){i b:Nat}{z:Blk}(hσ:σ[i]?=some (some b))(l:H[i]?=some z)(k:z.live=true):
  Sim fr (λc=>ro c\/c=b) σ (H.set i .dead) w:=by
 have p:b<w.heap.size/\ ¬ro b/\ ¬fr b:=s.own i b _ hσ l k;have ext:Ext ro σ w (λc=>ro c\/c=b) σ w:=⟨λ_ q=>.inl q,λ_ _=>rfl,λ_ _ q=>q,λ_ _ q=>q⟩;have a:∀(j:Nat) (v:Blk),(H.set i .dead)[j]?=some v->v≠ .dead->j≠i/\H[j]?=some v:=by
  grind
 refine⟨by rw[X4];exact s.len,s.roOk.to (λ_ q=>.inl q) (λ_ _=>rfl) ?_,s.frLt,?_,?_,?_,?_,s.hidTo (· = ·) Q2 (XT _) (λj d x c O N P M=>M.elim id λq=>((s.hid j d x c O N P).ne i b _ hσ l k q).elim) (λ_ _ _ _ _ _ _ q=>q) λj d y L Q J=>.inl ⟨j,y,rfl,L,(a j y Q (Qer J)).2,id,λ_ q=>q⟩⟩
 .rintro c (q|rfl)
  .exact s.roLt c q
  omega
 .rintro c (q|rfl)
  .exact s.roFr c q
  grind
 .intro j c v g f h;obtain⟨e,f⟩:=a j v f (Qaq h);obtain⟨B,E,F⟩:=s.own j c v g f h;refine⟨B,?_,F⟩;rintro(q|rfl)
  .exact E q
  .exact e (s.inj j i c v _ g hσ f l h k)
 .intro j n c v m g f h G r t;exact s.inj j n c v m g f (a j v h (Qaq r)).2 (a n m G (Qaq t)).2 r t
 .intro j y v g f;by_cases u:v≠ .dead
  .exact(s.blk j y v g (a j v f u).2).keep ext (λ_ _ _=>rfl) (λ_ _ _ _=>rfl)
  .obtain rfl:v=.dead:=Classical.not_not.1 u;trivial
def Qod(H:Qd):List Nat->Qd
 |[]=>H
 |i::l=>Qod (H.set i .dead) l
theorem Sim.shutL:∀{l:List Nat} {ro:Nat->Prop} {H:Qd} (s:Sim fr ro σ H w),l.Nodup->(∀i∈l,∃x,H[i]?=some x/\x.live=true)->
  ∃ro',Sim fr ro' σ (Qod H l) w/\(∀c,ro c->ro' c)/\ ∀i∈l,∀b,σ[i]?=some (some b)->ro' b
 |[],ro,H,s,_,_=>⟨ro,s,λ_ q=>q,λ_ h=>by cases h⟩
 |i::l,ro,H,s,hn,hl=>by
  rw[List.nodup_cons]at hn;obtain⟨x,hx,hxl⟩:=hl i (by simp);have rest:∀i'∈l,∃x,(H.set i .dead)[i']?=some x/\x.live=true:=by
   grind
  have g:∃q,σ[i]?=some q:=by
   have:i<σ.length:=by rw[s.len];grind
   simp_all
  obtain⟨q,m⟩:=g;cases q with
  |some b=>
   obtain⟨ro',a,f,j⟩:=Sim.shutL (s.shutAny m hx hxl) hn.2 rest;refine⟨ro',a,(by grind),λi' d k e=>?_⟩
   grind
  |none=>
   obtain⟨ro',a,f,j⟩:=Sim.shutL (s.kill i) hn.2 rest;refine⟨ro',a,f,λi' d k e=>?_⟩
   grind
end
end Go.Sw
namespace Go.Sw
structure Fil (α β:Type) where
 number:Int
 r0:List α
 r1:List α
 r2:List α
 reports:List β
 appeal:Bool
 deriving DecidableEq
structure FK (α β:Type) where
 T:Nat
 tF:Nat
 kF:Nat
 tR:Nat
 kR:Nat
 eF:α->List A
 eR:β->List A
section
variable {α β:Type} (K:FK α β)
def Qma(b:Nat)(x:Fil α β):List A:=[.int .i64 x.number,.osl (b+1) 0 x.r0.length K.kF,.osl (b+2) 0 x.r1.length K.kF,.osl (b+3) 0 x.r2.length K.kF,.osl (b+4) 0 x.reports.length K.kR,.bool x.appeal]
def QjM(b:Nat)(x:Fil α β):List Blk:=[.cells K.T (Qma K b x),.row K.tF K.kF (x.r0.map K.eF),.row K.tF K.kF (x.r1.map K.eF),.row K.tF K.kF (x.r2.map K.eF),.row K.tR K.kR (x.reports.map K.eR)]
def fall:Nat->List (Fil α β)->List Blk
 |_,[]=>[]
 |b,x::l=>QjM K b x++fall (b+5) l
def frp(x:Fil α β):List A:=[.int .i64 x.number,.rsl K.kF (x.r0.map K.eF),.rsl K.kF (x.r1.map K.eF),.rsl K.kF (x.r2.map K.eF),.rsl K.kR (x.reports.map K.eR),.bool x.appeal]
def fent:Nat->List (Fil α β)->List (Int×Nat)
 |_,[]=>[]
 |b,x::l=>(x.number,b)::fent (b+5) l
def ptr0(j:Nat):A:=.ptr j 0
def rpE(x:Fil α β):A:=.rp (frp K x)
def fnum(fs:List (Fil α β)):List (Int×Fil α β):=fs.map λx=>(x.number,x)
theorem Qf6(b:Nat)(x:Fil α β)(l:List (Fil α β)):fall K b (x::l)=QjM K b x++fall K (b+5) l:=rfl
theorem Qks(b:Nat)(x:Fil α β):(QjM K b x).length=5:=rfl
end
section
variable {fr ro ro':Nat->Prop} {σ:Sig} {w:World}
theorem Qee(sub:∀c,ro c->ro' c){i t k:Nat}{es:List (List A)}{v:Value}(u:∀b,σ[i]?=some (some b)->BR ro σ w (.row t k es) (some b)/\ro' b)(h:VR ro σ w (.osl i 0 es.length k) v):VR ro' [] w (.rsl k es) v:=by
 rcases h with⟨E,h⟩|⟨b,p,a,y,m,f,h,r,⟨d,x⟩,z,B⟩
 .have:es=[]:=(by grind);subst this;exact⟨none,0,h,XT _,.inl rfl⟩
 .refine⟨_,a,h,d,?_⟩;by_cases g:es=[]
  .exact .inl g
  .right;have j:0<a:=Vf (by grind) d;obtain rfl:=r j;obtain⟨⟨l,e,s⟩,n⟩:=u b f;refine⟨b,0,by simp,n,?_⟩;have:=Yq (pre:=[]) (by simpa using e) s;exact this.keep ⟨sub,λ_ _=>rfl,λ_ _ q=>q,λ_ _ q=>q⟩ rfl
theorem Qnf{ro:Nat->Prop}{w:World}{b t:Nat}:∀{cs:List A} {pre l:List Value},w.heap[b]?=some (.cells (pre++l).toArray t (0,0))->LR ro [] w cs l->(∀v∈l,Qp v)->CR ro [] w b cs pre.length
 |[],pre,l,_,_,_=>trivial
 |a::cs,pre,l,hb,hl,hp=>by
  obtain⟨v,l',rfl,h1,h2⟩:=hl;refine⟨⟨v,?_,hp v (by simp),h1⟩,?_⟩
  .unfold World.cell?
   grind
  .have:=Qnf (pre:=pre++[v]) (l:=l') (by simpa using hb) h2 (by grind)
   grind
variable {α β:Type} (K:FK α β)
theorem QnV(sub:∀c,ro c->ro' c){b:Nat}{x:Fil α β}{v:Value}(f:∀(d c:Nat) (y:Blk),(QjM K b x)[d]?=some y->σ[b+d]?=some (some c)->BR ro σ w y (some c)/\ro' c)(h:VR ro σ w (.ptr b 0) v):VR ro' [] w (.rp (frp K x)) v:=by
 obtain⟨c,q,m⟩:=h;obtain⟨⟨l,r,a,p⟩,s⟩:=f 0 c _ rfl q;refine⟨c,0,m,s,?_⟩;refine Qnf (pre:=[]) (by simpa using r) ?_ p;unfold Qma at a;obtain⟨v0,B,rfl,j,a⟩:=a;obtain⟨u,E,rfl,L,a⟩:=a;obtain⟨i,F,rfl,J,a⟩:=a;obtain⟨g,H,rfl,N,a⟩:=a;obtain⟨k,M,rfl,G,a⟩:=a;obtain⟨n,O,rfl,z,a⟩:=a;refine⟨v0,_,rfl,j,u,_,rfl,Qee sub (t:=K.tF) (λc e=>f 1 c _ rfl e) (by grind),i,_,rfl,Qee sub (t:=K.tF) (λc e=>f 2 c _ rfl e) (by grind),g,_,rfl,Qee sub (t:=K.tF) (λc e=>f 3 c _ rfl e) (by grind),
  k,_,rfl,Qee sub (t:=K.tR) (λc e=>f 4 c _ rfl e) (by grind),n,_,rfl,z,a⟩
theorem Qm9(sub:∀c,ro c->ro' c){ek:Int->A}(hek:∀(k:Int) (v:Value),VR ro σ w (ek k) v->VR ro' [] w (ek k) v):∀{b:Nat} {fs:List (Fil α β)} {es:List MapEntry},(∀(d c:Nat) (y:Blk),(fall K b fs)[d]?=some y->σ[b+d]?=some (some c)->BR ro σ w y (some c)/\ro' c)->
  ER ro σ w (QV ek ptr0 (fent b fs)) es->ER ro' [] w (QV ek (rpE K) (fnum fs)) es
 |b,[],es,_,h=>h
 |b,x::l,es,hb,h=>by
  obtain⟨e,l',rfl,h1,h2,h3⟩:=h;refine⟨e,l',rfl,hek _ _ h1,?_,?_⟩
  .refine QnV K sub (λd c y hy hc=>hb d c y ?_ hc) h2
   grind[Qf6]
  .refine Qm9 sub hek (b:=b+5) (fs:=l) (λd c y hy hc=>hb (d+5) c y ?_ (by grind)) h3
   grind[Qf6,Qks]
end
section
variable {fr ro:Nat->Prop} {σ:Sig} {w:World} {α β:Type} (K:FK α β)
end
open Go.Sort Go.Proofs Go.Shelf
end Go.Sw
namespace Go.Sw
structure Pl where
 b:Nat
 i0:Nat
 i1:Nat
 i2:Nat
 i3:Nat
def Pl.ix(p:Pl):List Nat:=[p.b,p.i0,p.i1,p.i2,p.i3]
section
variable {α β:Type} (K:FK α β)
def Qi7(p:Pl)(x:Fil α β):List A:=[.int .i64 x.number,.osl p.i0 0 x.r0.length K.kF,.osl p.i1 0 x.r1.length K.kF,.osl p.i2 0 x.r2.length K.kF,.osl p.i3 0 x.reports.length K.kR,.bool x.appeal]
structure Qcv (H:Qd) (x:Fil α β) (p:Pl):Prop where
 c:H[p.b]?=some (.cells K.T (Qi7 K p x))
 r0:H[p.i0]?=some (.row K.tF K.kF (x.r0.map K.eF))
 r1:H[p.i1]?=some (.row K.tF K.kF (x.r1.map K.eF))
 r2:H[p.i2]?=some (.row K.tF K.kF (x.r2.map K.eF))
 r3:H[p.i3]?=some (.row K.tR K.kR (x.reports.map K.eR))
abbrev Qjj(α β:Type):=List (Fil α β×Pl)
structure Qbw (lo:Nat) (H:Qd) (bk:Qjj α β):Prop where
 laid:∀e∈bk,Qcv K H e.1 e.2
 own:∀e∈bk,e.2.ix.Nodup
 ne:bk.Pairwise λe f=>∀i∈e.2.ix,i∉f.2.ix
 lo:∀e∈bk,∀i∈e.2.ix,lo<=i
 num:(bk.map (·.1.number)).Nodup
variable {K} {lo:Nat} {H H':Qd} {bk l r:Qjj α β} {e:Fil α β×Pl} {x':Fil α β} {p':Pl}
theorem Qbw.nil:Qbw K lo H ([]:Qjj α β):=⟨(λ_ h=>by cases h),(λ_ h=>by cases h),List.Pairwise.nil,(λ_ h=>by cases h),List.nodup_nil⟩
theorem Qcv.lt(h:Qcv K H e.1 e.2):∀i∈e.2.ix,i<H.length:=by
 intro i a;have g:∀{j:Nat} {y:Blk},H[j]?=some y->j<H.length:=(by grind);simp only[Pl.ix,X6,List.not_mem_nil,or_false]at a;rcases a with rfl|rfl|rfl|rfl|rfl
 .exact g h.c
 .exact g h.r0
 .exact g h.r1
 .exact g h.r2
 .exact g h.r3
theorem Qcv.keep(h:Qcv K H e.1 e.2)(k:∀i∈e.2.ix,H'[i]?=H[i]?):Qcv K H' e.1 e.2:=by
 refine⟨?_,?_,?_,?_,?_⟩
 .rw[k _ (by simp[Pl.ix])];exact h.c
 .rw[k _ (by simp[Pl.ix])];exact h.r0
 .rw[k _ (by simp[Pl.ix])];exact h.r1
 .rw[k _ (by simp[Pl.ix])];exact h.r2
 .rw[k _ (by simp[Pl.ix])];exact h.r3
theorem Qbw.keep(h:Qbw K lo H bk)(k:∀j,lo<=j->j<H.length->H'[j]?=H[j]?):Qbw K lo H' bk:=
 ⟨λe he=>(h.laid e he).keep λi hi=>k i (h.lo e he i hi) ((h.laid e he).lt i hi),h.own,h.ne,h.lo,h.num⟩
theorem Qbw.upd(h:Qbw K lo H (l++e::r))(y:Qcv K H' x' p')(E:x'.number=e.1.number)(u:∀j,lo<=j->j<H.length->j∉e.2.ix->H'[j]?=H[j]?)
  (hi:∀i∈p'.ix,i∈e.2.ix\/H.length<=i)(x:p'.ix.Nodup)(F:lo<=H.length):Qbw K lo H' (l++(x',p')::r):=by
 obtain⟨s,t,z⟩:=List.pairwise_append.1 h.ne;obtain⟨B,w⟩:=Xc.1 t;have mem:∀f∈l++(x',p')::r,f=(x',p')\/(f∈l++e::r/\ ∀i∈f.2.ix,i∉e.2.ix):=by
  intro f a
  grind
 refine⟨?_,?_,?_,?_,?_⟩
 .intro f a;rcases mem f a with rfl|⟨b,n⟩
  .exact y
  .exact(h.laid f b).keep λi hi=>u i (h.lo f b i hi) ((h.laid f b).lt i hi) (n i hi)
 .intro f a;rcases mem f a with rfl|⟨b,n⟩
  .exact x
  .exact h.own f b
 .refine List.pairwise_append.2 ⟨s,Xc.2 ⟨?_,w⟩,?_⟩
  .intro f a i d k;rcases hi i d with q|q
   .grind
   .have:=(h.laid f (by simp[a])).lt i k;omega
  .intro f a g p i k m;rcases X6.1 p with rfl|p
   .rcases hi i m with q|q
    .grind
    .have:=(h.laid f (by simp[a])).lt i k;omega
   grind
 .intro f a;rcases mem f a with rfl|⟨b,n⟩
  .intro i d;rcases hi i d with q|q
   .exact h.lo e (by simp) i q
   .omega
  .exact h.lo f b
 .have:=h.num
  grind
theorem Qbw.add(h:Qbw K lo H bk)(m:Qcv K H' x' p')(r:∀e∈bk,e.1.number≠x'.number)(d:∀j,lo<=j->j<H.length->H'[j]?=H[j]?)
  (hi:∀i∈p'.ix,H.length<=i)(l:p'.ix.Nodup)(s:lo<=H.length):Qbw K lo H' (bk++[(x',p')]):=by
 have p:=h.keep d;have mem:∀f∈bk++[(x',p')],f∈bk\/f=(x',p'):=by
  simp
 refine⟨?_,?_,?_,?_,?_⟩
 .intro f b;rcases mem f b with q|rfl
  .exact p.laid f q
  .exact m
 .intro f b;rcases mem f b with q|rfl
  .exact h.own f q
  .exact l
 .refine List.pairwise_append.2 ⟨h.ne,by simp,λf b g k i a n=>?_⟩;obtain rfl:=VB.1 k;have:=(h.laid f b).lt i a
  grind
 .intro f b i a;rcases mem f b with q|rfl
  .exact h.lo f q i a
  grind
 .rw[Xf];refine List.nodup_append.2 ⟨h.num,by simp,?_⟩
  grind
end
section
variable {fr ro ro':Nat->Prop} {σ:Sig} {w:World} {α β:Type} (K:FK α β)
def QmF(bk:Qjj α β):List Nat:=bk.flatMap λe=>e.2.ix
theorem Qbw.all{lo:Nat}{H:Qd}:∀{d:Qjj α β},Qbw K lo H d->(QmF d).Nodup/\ ∀i∈QmF d,lo<=i/\ ∃y,H[i]?=some y/\y.live=true:=by
 intro d h;refine⟨?_,?_⟩
 .have j:=h.own;have g:=h.ne
  grind[QmF]
 .intro i b;obtain⟨e,f,b⟩:=List.mem_flatMap.1 b;refine⟨h.lo e f i b,?_⟩;have a:=h.laid e f;simp only[Pl.ix,X6,List.not_mem_nil,or_false]at b;rcases b with rfl|rfl|rfl|rfl|rfl
  .exact⟨_,a.c,rfl⟩
  .exact⟨_,a.r0,rfl⟩
  .exact⟨_,a.r1,rfl⟩
  .exact⟨_,a.r2,rfl⟩
  .exact⟨_,a.r3,rfl⟩
end
section
variable {α β:Type} (K:FK α β) {env:Env} {H:Qd}
end
section
variable {P:Program} {h0 N:Nat} {all:Array Oper} {o:Oper} {l:List Oper} {env:Env} {H:Qd} {Q:QA}
end
section
variable {h0 n:Nat} {env env':Env} {H H':Qd}
end
section
variable {P:Program} {o:Oper} {env:Env} {H:Qd} {α:Type}
end
section
variable {α β:Type}
def newF(k:Int):Fil α β:=⟨k,[],[],[],[],false⟩
variable (K:FK α β) {lo:Nat} {H H':Qd} {bk:Qjj α β}
def Qki(n:Nat):Pl:=⟨n,n+1,n+2,n+3,n+4⟩
def Qeg(n:Nat)(k:Int):Qd:=[.cells K.T (Qi7 K (Qki n) (newF k)),.row K.tF K.kF [],.row K.tF K.kF [],.row K.tF K.kF [],.row K.tR K.kR []]
theorem Qcv.new{k:Int}:Qcv K (H++Qeg K H.length k) (newF k) (Qki H.length):=by
 have g:∀(j:Nat) (y:Blk),(Qeg K H.length k)[j]?=some y->(H++Qeg K H.length k)[H.length+j]?=some y:=by
  grind
 exact⟨g 0 _ rfl,g 1 _ rfl,g 2 _ rfl,g 3 _ rfl,g 4 _ rfl⟩
theorem Qjy(n:Nat):(∀i∈(Qki n).ix,n<=i)/\(Qki n).ix.Nodup:=by
 simp_all[Pl.ix,Qki]
variable {K}
theorem Qbw.new{k:Int}(h:Qbw K lo H bk)(b:∀e∈bk,e.1.number≠k)(a:lo<=H.length):Qbw K lo (H++Qeg K H.length k) (bk++[(newF k,Qki H.length)]):=by
 refine h.add (Qcv.new K) b (by grind) (Qjy _).1 (Qjy _).2 a
theorem Qbw.row{l r:Qjj α β}{e:Fil α β×Pl}{x':Fil α β}{d:Pl}{i:Nat}{y:Blk}(h:Qbw K lo H (l++e::r))(E:lo<=H.length)(m:x'.number=e.1.number)(hi:i∈e.2.ix)(n:i≠e.2.b)(g:d.b=e.2.b)
  (M:H'=(H.set i .dead++[y]).set e.2.b (.cells K.T (Qi7 K d x')))
  (p:d.ix=e.2.ix.map λj=>bif Nat.beq j i then H.length else j)
  (t:H'[d.i0]?=some (.row K.tF K.kF (x'.r0.map K.eF)))(x:H'[d.i1]?=some (.row K.tF K.kF (x'.r1.map K.eF)))(q:H'[d.i2]?=some (.row K.tF K.kF (x'.r2.map K.eF)))(z:H'[d.i3]?=some (.row K.tR K.kR (x'.reports.map K.eR))):
  Qbw K lo H' (l++(x',d)::r):=by
 have w:=h.laid e (by simp);have f:=w.lt;have s:e.2.b<H.length:=f _ (by simp[Pl.ix]);refine h.upd ⟨?_,t,x,q,z⟩ m ?_ ?_ ?_ E
 .grind
 .grind[List.getElem?_set_ne,Pl.ix]
 .grind
 .rw[p];have B:=h.own e (by simp);refine List.pairwise_map.2 (List.Pairwise.imp_of_mem ?_ B);intro a b k g u;have F:=f a k;have G:=f b g;cases L:Nat.beq a i with
  |true=>
   cases J:Nat.beq b i with
   |true=>simp_all
   |false=>grind
  |false=>
   grind
end
section
variable {fr ro:Nat->Prop} {σ:Sig} {H:Qd} {w:World}
end
section
variable {P:Program} {o:Oper} {env:Env} {H:Qd}
theorem Le.frow{y s i n k t:Nat}{es:List (List A)}(B:lk env s=.osl i 0 n k)(G:H[i]?=some (.frow t k es))(L:es.length=n):Le y env H (up env s (.rsl k es)) H:=by
 intro P h σ N a w r;refine⟨h,σ,⟨r.sim,?_,r.size,r.defers⟩,λ_ q=>q,rfl⟩;intro d;simp only[lk];by_cases q:d=s
 .subst q;rw[VF];have:=r.env d;rw[B]at this;show VR h σ w (.rsl k es) _;rcases this with⟨g,f⟩|⟨b,p,e,W,m,g,f,F,⟨Q,J⟩,T,V⟩
  .have:es=[]:=(by grind);subst this;exact⟨none,0,by rw[f];rfl,XT _,.inl rfl⟩
  .obtain⟨x,l,E,u,R⟩:=r.sim.blk i _ _ g G;refine⟨_,e,by rw[f,L],by omega,?_⟩;by_cases O:es=[]
   .exact .inl O
   .right;have j:0<e:=(by grind);have M:=F j;refine⟨b,0,by rw[M];simp,x,?_⟩;exact Yq (pre:=[]) (by simpa using E) u
 .have:Nat.beq d s=false:=by
   cases z:Nat.beq d s with
   |true=>simp_all
   |false=>rfl
  rw[this];exact r.env d
end
open Go.MapKept
section
variable {P:Program} {kt et:Nat} {α β:Type} [DecidableEq α] {ek:α->A} {ev:β->A} {ro:Nat->Prop} {σ:Sig} {w:World} (K:Qab P kt ek)
include K
variable {o:Oper} {env:Env} {H:Qd} {T T' i:Nat} {x y:Operand} {l m:List (α×β)} {k:α}
end
end Go.Sw
namespace Go.Sw
section
variable {P:Program} {h0 N:Nat} {all:Array Oper} {o1 o2:Oper} {l:List Oper} {env:Env} {H:Qd} {Q:QA}
end
section
variable {P:Program} {o:Oper} {env:Env} {H:Qd}
end
section
variable {P:Program} {o:Oper} {env:Env} {H:Qd} {α:Type}
def Qby(l:List α)(lo hi i:Int):Option α:=bif decide (0<=lo)&&(decide (0<=i)&&decide (lo+i<hi))then idx l (lo+i)else none
theorem QjH{l:List α}{lo hi i:Int}{v:α}(h:Qby l lo hi i=some v):0<=lo/\0<=i/\lo+i<hi/\idx l (lo+i)=some v:=by
 unfold Qby at h
 grind
theorem Qaz{l:List α}{lo hi i:Int}{v:α}(h:Qby l lo hi i=some v):idx l (lo+i)=some v:=(QjH h).2.2.2
theorem Jk{t a k b:Nat}{x y:Operand}{l:List α}{g:IntKind}{lo hi i:Int}{v:α}(h:Qby l lo hi i=some v)(d:∀w,(underlying t).run P w=.ok (.slice a) w)(f:∀w,(sizeOf a).run P w=.ok k w)
  (n:o.op=.indexAddr t x y:=by exact rfl)(hx:opA env x=.osl b (0+lo.toNat) (hi.toNat-lo.toNat) k:=by exact rfl)(hy:opA env y=.int g i:=by exact rfl):OpV P o env H (.ptr b ((lo+i).toNat*k)):=by
 obtain⟨q,j,p,_⟩:=QjH h;have m:=Qhd (H:=H) n d f hx hy j (by omega);have e:(0+lo.toNat)*k+i.toNat*k=(lo+i).toNat*k:=by
  rw[<- XA]
  grind
 rwa [e]at m
end
theorem Qhi{h0:Nat}{env:Env}{H H':Qd}(e:H=H'):Le h0 env H env H':=e▸Le.refl h0 env H
section
variable {P:Program} {o:Oper} {env:Env} {H:Qd}
end
section
variable {env:Env} {H:Qd}
theorem Qgu{h0 i j m o' n k T:Nat}{x:Blk}{cs:List A}(hi:H[i]?=some x)(u:H[j]?=some (.cells T cs))(s:cs[m]?=some (.osl i o' n k))(d:Nat.beq i j=false)(V:Nat.ble h0 H.length=true):
  Le h0 env H env ((H.set i .dead).set j (.cells T (cs.set m (.osl H.length o' n k)))++[x]):=by
 intro Y B σ N a w r;have hiσ:i<σ.length:=by rw[r.sim.len];exact(XL.1 hi).1
 have hσ:σ[i]?=some σ[i]:=XK hiσ;have ext:Ext B σ w B (σ++[σ[i]]) w:=⟨λ_ q=>q,λ_ _=>rfl,λ_ _ q=>q,λ_ _ h=>Qae h⟩;have G:=r.sim.moved hi hσ;have g:j<H.length:=(XL.1 u).1;have F:i≠j:=λq=>by rw[q,VF]at d;cases d
 have e:(H.set i .dead++[x])[j]?=some (.cells T cs):=by
  rw[XM (by simpa using g),XP F];exact u
 have L:(H.set i .dead).set j (.cells T (cs.set m (.osl H.length o' n k)))++[x]=(H.set i .dead++[x]).set j (.cells T (cs.set m (.osl H.length o' n k))):=by
  rw[List.set_append_left _ _ (by simpa using g)]
 rw[L];refine⟨B,σ++[σ[i]],⟨G.weaken e rfl ?_,λq=>(r.env q).mono ext,r.size,r.defers⟩,λ_ q=>q,QB (by rw[r.sim.len];exact XR V)⟩;have f:σ.length=H.length:=r.sim.len;intro y h;cases y with
 |none=>exact h
 |some b=>
  obtain⟨l,Q,W,O⟩:=h;refine⟨l,Q,?_,O⟩;clear Q O e L u G
  induction cs generalizing m l with
  |nil=>cases s
  |cons c cs X=>
   obtain⟨v,E,rfl,M,J⟩:=W;cases m with
   |zero=>
    simp at s;subst s;refine⟨v,E,rfl,?_,J⟩;rcases M with h|⟨b,p,z,t,m,P,R⟩
    .exact .inl h
    .refine .inr ⟨b,p,z,t,m,?_,R⟩;rw[XM hiσ,hσ]at P;rw[<- f];simpa using P
   |succ m=>exact⟨v,E,rfl,M,X (by simpa using s) E J⟩
theorem OpU.ins{P:Program}{o:Oper}{H':Qd}{T:Nat}{x y d:Operand}(k:o.op=.insert T x y d)(h:OpU P {o with op:=.mapUpdate T x y d} env H H'):OpU P o env H H':=by
 intro g e σ N a w r;obtain⟨f,b,τ,i,l,j⟩:=h g e σ N a w r;exact⟨f,b,τ,by simpa only[execOp,k]using i,l,j⟩
end
section
variable {P:Program} {o:Oper} {env:Env} {H:Qd} {T kt et:Nat} {α β:Type} [DecidableEq α] {ek:α->A} {ev:β->A} {x y:Operand} {i:Nat} {l:List (α×β)} {k:α} {z:Value} {zA:A}
end
open Go.Sort Go.Proofs Go.Shelf
end Go.Sw
namespace Go.Sw
theorem TC.label{P:Program}{h0 N l:Nat}{env:Env}{H:Qd}{Q:QA}(h:Q .normal env H):TC P h0 N (.label l) env H Q:=
 λrd fr ro σ a w r hrd=>wpIn_label ⟨_,env,H,ro,σ,fr,rfl,h,r,Qh.refl _ _ _,rfl,Grow.refl _ _ _⟩
theorem Qhq{P:Program}{b:Frame}{a:Act}{k:List Item}{cs:List Frame}{w:World}{c:Code}:step P (lone (b.atR a (.code (.scope c)::k)) cs w)=.next (lone (b.atR a (.code c::.inScope c::k)) cs w):=
 step_lone_go (by simp[stepG,stepG.exec,Frame.atR])
theorem QfE{P:Program}{b:Frame}{a:Act}{k:List Item}{cs:List Frame}{w:World}{c:Code}:step P (lone (b.atR a (.inScope c::k)) cs w)=.next (lone (b.atR a k) cs w):=
 step_lone_go (by simp[stepG,stepG.exec,Frame.atR])
theorem TC.scope{P:Program}{h0 N:Nat}{c:Code}{env:Env}{H:Qd}{Q:QA}(h:TC P h0 N c env H Q):TC P h0 N (.scope c) env H Q:=by
 intro t q m σ a w r hrd b k cs hro hb f;obtain⟨e,n,p,j,d⟩:=h t q m σ a w r hrd b (.inScope c::k) cs hro hb f;refine⟨e,n,p,j,.of_steps (.one (fenced_calm hb f rfl) Qhq) ?_⟩;obtain⟨x,i,H',u,σ',y,s,_⟩:=j;cases e with
 |normal=>exact StepsIn.trans d (.one (fenced_calm hb f rfl) QfE)
 |exit id=>exact⟨λl g=>d.1 l (by rw[exitTo];exact g;simp),λf g=>d.2 f (by rw[exitTo];exact g;simp)⟩
 |ret=>exact d
 |_=>exact s.elim
theorem Qc0{P:Program}{o:Oper}{env:Env}{H:Qd}{p:Nat}{α:Type}{e:α->List A}{T et k:Nat}{x y:Operand}{m t:IntKind}{n:Int}{zv:α}{l:List α}{z:Value}{a:A}(u:mk n zv=some l)(E:Q6 P T et k)(B:∀w,(zeroValue et).run P w=.ok z w)(f:ZR a z)
  (j:Yg a=true)(i:Q5 a=e zv)(g:(Q5 a).all Ym=true)(b:Nat.beq (e zv).length k=true)
  (M:o.op=.makeSlice T x y:=by exact rfl)(hx:opA env x=.int m n:=by exact rfl)(hy:opA env y=.int t n:=by exact rfl):
  OpZR P o env H p (.osl p 0 l.length k) (.row et k (l.map e)):=by
 intro Q F σ N act w r;obtain⟨d,J,s,L,G,O,R⟩:=QjC u E B f j i g b M hx hy r;refine⟨_,_,J,λ_ h=>h.elim,λ σ' hσ ext=>⟨.inr ⟨w.heap.size,0,l.length,et,d.length,hσ,rfl,λ_=>by simp,⟨XT _,by omega⟩,?_,by rw[O,Xv];exact XT _⟩,⟨d,QY _ _,?_⟩⟩⟩
 .unfold World.shape?;rw[QY];simp
 .have:=YI (rest:=[]) G (s.mono (w':=w.alloc (.cells d.toArray et)) (σ':=[]) (ro':=F) ⟨λ_ q=>q,ext.keep,ext.shape,λ_ _ q=>q⟩) L
  rwa [Vg]at this
theorem Qct{P:Program}{o:Oper}{env:Env}{H:Qd}{T f off n:Nat}{x:Operand}{cs:List A}{v:A}{fs:Array Field}{d:Field}(k:YK P T f off n)(l:∀w,(underlying T).run P w=.ok (.struct fs) w)(a:fs[f]?=some d)(b:∀w,(isAgg d.type).run P w=.ok false w)
  (j:o.op=.field T x f:=by exact rfl)(hx:opA env x=.agg cs:=by exact rfl)(hv:cs[off]?=some v:=by exact rfl):OpV P o env H v:=
 OpV.field k (λg h i e w=>by
  have:=(i w).symm.trans (l w);cases this;rw[a]at e;cases e;exact b w) j hx hv
section
variable {P:Program} {o:Oper} {env:Env} {H:Qd} {fr ro:Nat->Prop} {σ:Sig} {w:World}
theorem Qc5(i n c:Nat):Qd5 i n (c+1)=Qd5 i n c++[[.osl i (c*n) n 1]]:=by simp[Qd5,Xu]
theorem QaR(i n c:Nat):(Qd5 i n c).length=c:=by simp[Qd5]
theorem Qpr{f i t b n:Nat}(j:H[i]?=some (.row t 1 [])):Le f env H env (H.set i (.wins t b n 0)):=by
 intro k g σ N a w r;refine⟨g,σ,⟨r.sim.weaken (x':=.wins t b n 0) j rfl ?_,r.env,r.size,r.defers⟩,λ_ q=>q,rfl⟩;intro y h;cases y with
 |none=>rfl
 |some d=>obtain⟨l,e,m⟩:=h;exact⟨l,e,trivial⟩
theorem srcR{j m t k:Nat}{l:List (List A)}{x:Blk}{v:Value}(s:Sim fr ro σ H w)(B:H[j]?=some x)(hB:∀d,BR ro σ w x (some d)->∃lb:List Value,w.heap[d]?=some (.cells lb.toArray t (0,0))/\RL ro σ w k l lb)(f:l.length=m)(h:VR ro σ w (.osl j 0 m k) v):
  (∃a c,v=.slice a m c)/\(l=[]\/allK k l)/\ ∃vs:List Value,(∀w':World,w'.heap=w.heap->(Builtin.firstCells k m v).run P w'=.ok vs.toArray w')/\LR ro σ w l.flatten vs/\ ∀v∈vs,Qp v:=by
 rcases h with⟨rfl,rfl⟩|⟨b,p,e,G,J,u,rfl,E,⟨M,F⟩,L,O⟩
 .have:l=[]:=VJ.1 f;subst this;exact⟨⟨none,0,rfl⟩,.inl rfl,[],λ_ _=>YB,rfl,by simp⟩
 .obtain⟨lb,r,g⟩:=hB b (s.blk j _ _ u B);refine⟨⟨_,e,rfl⟩,.inr g.allK,?_⟩;have i:=Yq (pre:=[]) (by simpa using r) g;by_cases y:0<e
  .obtain rfl:=E y;obtain⟨q,N,z⟩:=i.flat;have:=Qa5 (P:=P) (k:=k) (n:=m) (c:=e) q (by rw[z];simp[f]);simpa using this
  .obtain rfl:m=0:=by omega
   have:l=[]:=VJ.1 f;subst this;exact⟨[],λ_ _=>YB,rfl,by simp⟩
theorem QmX{c:Call}{T T' t e' i j n b u m off:Nat}{x y:Operand}(E:Q6 P T t 1)(hd:∀w,(underlying T').run P w=.ok (.slice e') w)(ai:n+1<=Q9)(M:off=n*m)(hu:u=m)
  (ho:o.op=.call c:=by exact rfl)(hc:c={callee:=.builtin .append,args:= #[x,y],argTypes:= #[T,T']}:=by exact rfl)(hx:opA env x=.osl i 0 n 1:=by exact rfl)(hH:H[i]?=some (.wins t b m n):=by exact rfl)
  (hy:opA env y=.osl j 0 1 1:=by exact rfl)(hHj:H[j]?=some (.rowr t 1 [[.osl b off u 1]]):=by exact rfl):
  OpH P o env H (.osl H.length 0 (n+1) 1) (H.set i .dead++[.wins t b m (n+1)]):=by
 subst M hu;intro fr F σ N a w r;have B:=Qi r x;rw[hx]at B;have h2:=Qi r y;rw[hy]at h2;obtain⟨⟨ay,cy,V⟩,-,vs,W,q4,q5⟩:=srcR (P:=P) (t:=t) (k:=1) (m:=1) (l:=[[A.osl b (n*u) u 1]]) r.sim hHj (λ_ q=>q) rfl h2;rw[V]at W;have J:allK 1 [[A.osl b (n*u) u 1]]:=⟨rfl,trivial⟩;obtain⟨⟨ax,cap,ex⟩,z,f,o1,o2,o3⟩:=srcR (P:=P) (t:=t) (k:=1) (m:=n) (l:=Qd5 b u n) r.sim hH (λ_ q=>q) (QaR _ _ _) B;have z:allK 1 (Qd5 b u n):=by
  rcases z with q|q
  .rw[q];trivial
  .exact q
 have ae:i<H.length:=(XL.1 hH).1;have G:vs.length=1:=by rw[q4.length];rfl
 have ac:f.length=n:=by rw[o2.length,Yc z,QaR];omega
 rw[ex]at o1 B;by_cases g:n+1<=cap
 .rcases B with⟨_,B⟩|⟨d,p,aj,t',mm,h3,B,h4,⟨h5,aa⟩,h6,h7⟩
  .cases B;omega
  cases B;have O:=r.sim.blk i _ _ h3 hH;obtain⟨lb,g1,g2⟩:=O;obtain rfl:p=0*1:=h4 (by omega);have h:=QbE (t:=o.type) E hd (ad:=some ⟨d,0*1,none⟩) (n:=n) (m:=1) (cap:=cap) (c:=cy) (ax:=ay) g (W w rfl);have Q:(n+1)*1<=lb.length:=by
   have:w.shape? d=some (t,lb.length):=by unfold World.shape?;rw[g1];simp
   rw[this]at h6;cases h6;exact XV (XC 1 g) (by simpa using h7)
  have Y:=Q3 (P:=P) (vs:=vs) (n*1) 0 g1 (by rw[G];simpa using Q) q5;have s:=r.sim.set (x':=.wins t b u (n+1)) (obj:=.cells (splice lb (n*1) vs).toArray t (0,0)) h3 hH rfl
   (λy hy=>Jc g1 (Q0 (by rw[G];simpa using Q)) y hy)
   (λex ab=>⟨_,ab,by
    have:=(g2.app (n:=n) (by simp[QaR]) J q4 q5).mono ex;rw[VI (by simp[QaR])]at this;rw[Qc5];exact this⟩)
  have sm:=s.1.moved (i:=i) (Xa ae) h3;rw[List.set_set]at sm;refine⟨.slice (some ⟨d,0*1,none⟩) (n+1) cap,_,F,[some d],?_,.inr ⟨d,0*1,cap,t',mm,?_,rfl,h4,⟨g,aa⟩,?_,h7⟩,sm,s.2⟩
  .refine Yw ho hc _ ?_;rw[ex,V,h];simp only[YV,Nat.zero_mul,Xv,Vm,Y,Result.andThen,Vn];simp
  .rw[<- r.sim.len];simp
  .exact s.2.shape _ _ h6
 .obtain⟨e,nc,ag,R,h⟩:=QeD (t:=o.type) E hd rfl (by omega) (by omega) W o1
  let w0:World:={w with drawn:=w.drawn+1}
  have L:Sim fr F σ (H.set i .dead) w0:=(r.sim.kill i).heap rfl;have e0:Qh fr F w F w0:=Qh.heap rfl rfl rfl rfl (Nat.le_succ _);have af:LR F σ w0 (Qd5 b u (n+1)).flatten (f++vs):=by
   rw[Qc5,Xr];exact(o2.append q4).mono (Ext.heap (w:=w) (w':=w0) rfl)
  have ah:∀v∈f++vs,Qp v:=λv hv=>by rcases VD.1 hv with q|q;exact o3 v q;exact q5 v q
  have s1:=L.alloc (x:=.wins t b u (n+1)) (obj:=.cells ((f++vs)++e).toArray t) ⟨(f++vs)++e,QY _ _,(YI (by rw[Qc5];exact QbN z J) af ah).mono ((Qh.alloc (fr:=fr) _ L.roLt L.frLt).ext σ _)⟩;have X:Qh fr F w0 F (w0.alloc (.cells ((f++vs)++e).toArray t)):=Qh.alloc _ L.roLt L.frLt;refine⟨_,_,F,[some w.heap.size],Yw ho hc a.eval (by rw[ex,V];exact h),.inr ⟨w.heap.size,0,nc,t,(f++vs++e).length,?_,rfl,λ_=>by simp,ag,?_,?_⟩,s1,e0.trans X⟩
  .rw[<- r.sim.len];simp
  .have:=QY w0 (.cells ((f++vs)++e).toArray t);unfold World.shape?;rw[show w.heap.size=w0.heap.size from rfl,this];simp
  .simp only[X3,R,ac,G,Xv];omega
theorem Qnh{ro':Nat->Prop}{i n j t:Nat}{es:List (List A)}{v:Value}(s:Sim fr ro σ H w)(hσ:∀c,σ[i]?=some (some c)->ro' c)(f:∀c,ro c->ro' c)(x:H[i]?=some (.row t 1 es))(B:j*n+n<=es.length)
  (h:VR ro σ w (.osl i (j*n) n 1) v):VR ro' [] w (.rsl 1 ((es.drop (j*n)).take n)) v:=by
 have a:((es.drop (j*n)).take n).length=n:=by simp;omega
 rcases h with⟨rfl,rfl⟩|⟨c,p,b,F,m,e,rfl,u,⟨r,_⟩,z,E⟩
 .exact⟨none,0,by rw[a],by rw[a];exact XT _,.inl (VJ.1 a)⟩
 .refine⟨_,b,by rw[a],by rw[a];exact r,?_⟩;by_cases y:n=0
  .exact .inl (VJ.1 (a.trans y))
  .obtain rfl:=u (by omega);obtain⟨l,k,g⟩:=s.blk i _ _ e x;have q:=(Yq (pre:=[]) (by simpa using k) g).keep (ro':=ro') (σ':=[]) (w':=w) ⟨f,λ_ _=>rfl,λ_ _ q=>q,λ_ _ q=>q⟩ rfl;refine .inr ⟨c,_,rfl,hσ c e,?_⟩;have d:=(q.drop (j*n)).take n;simpa using d
def Qho{α:Type}(l:List α)(n c:Nat):List (List α):=(List.range c).map λj=>(l.drop (j*n)).take n
theorem QjZ{ro':Nat->Prop}{i n t d:Nat}{es:List (List A)}(s:Sim fr ro σ H w)(hσ:∀c,σ[i]?=some (some c)->ro' c)(hs:∀c,ro c->ro' c)(hH:H[i]?=some (.row t 1 es)):
  ∀(l:List Nat) (off:Nat),(∀j∈l,j*n+n<=es.length)->RR ro σ w d 1 (l.map λj=>[.osl i (j*n) n 1]) off->RR ro' [] w d 1 (l.map λj=>[.rsl 1 ((es.drop (j*n)).take n)]) off
 |[],_,_,_=>trivial
 |j::l,off,hl,h=>by
  obtain⟨_,⟨⟨v,h2,h3,h4⟩,_⟩,h6⟩:=h;exact⟨rfl,⟨⟨v,h2,h3,Qnh s hσ hs hH (hl j (by simp)) h4⟩,trivial⟩,QjZ s hσ hs hH l (off+1) (λj hj=>hl j (by simp[hj])) h6⟩
theorem Qn0{y s i b t O n c:Nat}{α:Type}{e:α->List A}{l:List α}(V:c*n<=l.length)(hi:Nat.ble y i=true)(hb:Nat.ble y b=true)(Q:lk env s=.osl i 0 c 1)(F:H[i]?=some (.wins t b n c))(f:H[b]?=some (.row O 1 (l.map e))):
  Le y env H (up env s (.rsl 1 ((Qho l n c).map (Qn 1 e)))) ((H.set b .dead).set i .dead):=by
 intro fr ro σ N a w r;have G:b≠i:=by rintro rfl;rw[F]at f;cases f
 obtain⟨g,R,x,J⟩:=r.sim.shutL (l:=[b,i]) (by simp[G]) (by
  intro j u;simp at u;rcases u with rfl|rfl
  .exact⟨_,f,rfl⟩
  .exact⟨_,F,rfl⟩)
 refine⟨g,σ,⟨R,?_,r.size,r.defers⟩,x,rfl⟩;have ext:Ext ro σ w g σ w:=⟨x,λ_ _=>rfl,λ_ _ q=>q,λ_ _ q=>q⟩;intro k;simp only[lk];by_cases q:k=s
 .subst q;rw[VF];have h:=r.env k;rw[Q]at h;have e0:(Qho l n c).map (Qn 1 e)=(List.range c).map λj=>[A.rsl 1 ((((l.map e).drop (j*n)).take n))]:=by
   simp[Qho,Qn,List.map_drop,List.map_take]
  rw[e0];rcases h with⟨z,h⟩|⟨d,p,E,t',m,L,h,P,⟨T,X⟩,h4,h5⟩
  .subst z;exact⟨none,0,h,XT _,.inl rfl⟩
  .refine⟨_,E,by simpa using h,by simpa using T,?_⟩;by_cases M:c=0
   .left;subst M;rfl
   .right;obtain rfl:=P (by omega);obtain⟨lv,q1,Y⟩:=r.sim.blk i _ _ L F;refine⟨d,0,by simp,J i (by simp) d L,?_⟩;refine QjZ r.sim (J b (by simp)) x f (List.range c) 0 ?_ (Yq (pre:=[]) (by simpa using q1) Y);intro j u;have B:j<c:=by simpa using u
    rw[X2];refine XV ?_ V;have:=XC n (show j+1<=c from B)
    rwa [XA,Nat.one_mul]at this
 .have:Nat.beq k s=false:=by
   rw[VM];intro W;exact q (XQ W)
  rw[this];exact(r.env k).mono ext
theorem QfW{T e k:Nat}(E1:∀w,(underlying T).run P w=.ok (.slice e) w)(E2:∀w,(sizeOf e).run P w=.ok k w){ad:Option Addr}{n cap:Nat}{y z:Int}(a:n<=cap)(b:0<=y)(g:y<=z)(f:z<=n):
  (Instr.sliceAt T (.slice ad n cap) (some (.int .i64 y)) (some (.int .i64 z)) (some (.int .i64 z))).run P w=.ok (.slice (if z.toNat=y.toNat then ad else ad.map (·.add (y.toNat*k))) (z.toNat-y.toNat) (z.toNat-y.toNat)) w:=by
 have d:(Instr.sliceBounds true n cap (some (.int .i64 y)) (some (.int .i64 z)) (some (.int .i64 z))).run P w=.ok (y.toNat,z.toNat,z.toNat) w:=by
  simp only[Instr.sliceBounds,Vm,Vn,Result.andThen,Yl (show 0<=z by omega) (show z<=(cap:Int)by omega),Yl (show 0<=z by omega) (show z<=(z.toNat:Int)by omega),Yl b (show y<=(z.toNat:Int)by omega)]
 simp only[Instr.sliceAt,Vm,E1,Result.andThen,Instr.slice,d,E2,Vn]
theorem QkW{α:Type}{T et k b:Nat}{x lo hi B:Operand}{l r:List α}{c d:Int}(h:slc l c d=some r)(E1:∀w,(underlying T).run P w=.ok (.slice et) w)(E2:∀w,(sizeOf et).run P w=.ok k w)
  (G:o.op=.slice T x (some lo) (some hi) (some B):=by exact rfl)(hx:opA env x=.osl b 0 l.length k:=by exact rfl)(h0:opA env lo=.int .i64 c:=by exact rfl)(h1:opA env hi=.int .i64 d:=by exact rfl)(h2:opA env B=.int .i64 d:=by exact rfl):
  OpV P o env H (.osl b (0+Int.toNat c) (Int.toNat d-Int.toNat c) k):=by
 intro V R σ N a w r;obtain⟨s,F,L,_⟩:=Qc9 h;have j:=Qi r x;rw[hx]at j;rcases j with⟨i,g⟩|⟨f,p,cap,J,m,i,g,M,⟨O,Q⟩,t,u⟩
 .have e:=QfW (P:=P) (w:=w) E1 E2 (ad:=none) (n:=0) (cap:=0) (y:=c) (z:=d) (XT 0) s F (by omega);refine⟨_,by simp only[execOp,G,g,Vm,Xk,Xj,Qx r h0,Qx r h1,Qx r h2,e,Result.andThen,Vn];rfl,?_⟩;left;have:d.toNat-c.toNat=0:=by omega
  simp[this]
 .have e:=QfW (P:=P) (w:=w) E1 E2 (ad:=some ⟨f,p,none⟩) (n:=l.length) (cap:=cap) (y:=c) (z:=d) O s F L;refine⟨_,by simp only[execOp,G,g,Vm,Xk,Xj,Qx r h0,Qx r h1,Qx r h2,e,Result.andThen,Vn];rfl,?_⟩;right;by_cases E:d.toNat=c.toNat
  .refine⟨f,p,d.toNat-c.toNat,J,m,i,by simp[E],λq=>by omega,⟨XT _,by omega⟩,t,?_⟩;refine XV (XC k ?_) u;omega
  .refine⟨f,p+c.toNat*k,d.toNat-c.toNat,J,m,i,by simp[E,YV],λq=>?_,⟨XT _,by omega⟩,t,?_⟩
   .rw[M (by omega)];simp
   .refine XV (XC k ?_) u;omega
end
abbrev Ea:=@Ev.bind
abbrev Ec:=@FzH.keep
abbrev Ed:=@FzL.cons
abbrev Ee:=@FzA.refl
abbrev Ef:=@TC.le
abbrev Eg:=@PL.cons
abbrev Eh:=@DS.done
abbrev Ei:=@Ev.and
abbrev Ej:=@EvI.done
abbrev Ek:=@FzL.refl
abbrev El:=@OpH.lit
abbrev Em:=@RF.cons
abbrev En:=@Le.trans
abbrev Eo:=@ZR.int
abbrev Ep:=@FzA.o
abbrev Er:=@Le.phantom
abbrev Et:=@WO.le
abbrev Eu:=@Ev.or
abbrev Ew:=@EvI.cont
abbrev Ex:=@OpU.store
abbrev Ey:=@OpV.load
abbrev Ez:=@Ev.const
theorem Zf.{u,v}{α:Sort u}{β:Sort v}{f:α->β}:∀x,f x=f x:=λ_=>rfl
abbrev Ze.{u,v}{α:Sort u}{β:Type v}:α->List β:=λ_=>[]
end Go.Sw
