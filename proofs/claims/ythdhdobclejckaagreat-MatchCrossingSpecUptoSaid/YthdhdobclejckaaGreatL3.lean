/- The rules by which the code is walked, with what they rest on (part 3). -/
import Derived.Test.YthdhdobclejckaaGreatL2
import Derived.Shelf.Spec.SlicesInsertGrow
import Derived.RangeFuncLeaves
set_option linter.unusedVariables false
set_option linter.unusedSectionVars false
set_option linter.unusedSimpArgs false
namespace Go.Sw
theorem Qij{h0 d:Nat}{x y:A}{e:Env}{H:Qd}:Le h0 ((d,x)::(d,y)::e) H ((d,x)::e) H:=Le.env λs=>.inr (by
 simp[lk]
 grind)
abbrev Kat:=List (Nat×Nat×Nat)
def Qkk:Nat->Nat->List (Nat×Nat)
 |lo,0=>[(lo,lo)]
 |lo,n+1=>(lo,lo)::Qkk (lo+1) n
def rgK(p:Nat×Nat×Nat):List (Nat×Nat):=bif Nat.beq p.1 1 then[(p.2.1,p.2.1+1)]else Qkk p.2.1 (p.2.2-p.2.1)
def plK(cat:Kat):List (List (Nat×Nat)):=cat.map rgK
def rqK(bs:List Nat)(cat:Kat):List (List Nat):=cat.map λp=>bs.take p.2.1
def hsK(cat:Kat):List Bool:=cat.map λp=>Nat.beq p.1 1
def msK(bs:List Nat):List (List Nat):=(List.range (bs.length+1)).map bs.take
theorem QfS:∀(n lo:Nat),∀p∈Qkk lo n,p.1=p.2
 |0,lo,p,h=>by cases h with|head=>rfl|tail _ h=>cases h
 |n+1,lo,p,h=>by
  rcases X6.1 h with rfl|h
  .rfl
  .exact QfS n _ p h
section
variable {P:Program} {T:TyX} {h0 N m:Nat} {bs:List Nat} {cat:Kat} {l:List Oper} {ds:List Nat} {env:Env} {H:Qd} {Hs:List Qd} {Q:QG} {K:List Oper->Env->Qd->Prop}
def DobK(P:Program)(N:Nat)(cat:Kat)(l:List Oper)(ds:List Nat)(env:Env)(n:Nat)(Hs:List Qd)(zs:List A)(j:Nat):Prop:=
 ∀p∈(plK cat).getD j [],Jm P N l ds zs env n n j (Hs.getD p.1 []) (Hs.getD p.2 [])
def DK(P:Program)(N m:Nat)(bs:List Nat)(cat:Kat)(l:List Oper)(ds:List Nat)(env:Env)(n:Nat)(K:List Oper->Env->Qd->Prop)(Hs:List Qd)(X:Qd)(r:List Oper)(xs:List A):Prop:=
 r=l.drop xs.length->∃ys Zs Y,xs.length+ys.length=m/\Hs.length+Zs.length=bs.length/\((∀Z∈Zs,n<=Z.length)/\(Hs.reverse++X::Zs).getD bs.length []=Y)/\(∀j,xs.length<=j->j<m->DobK P N cat l ds env n (Hs.reverse++X::Zs) (xs++ys) j)/\K (l.drop m) (Qat ds (xs++ys) env) Y
theorem QnR{d:List A}{n:Nat}{Zs:List Qd}(f:cat.length=m)(t:∀j,0<=j->j<m->DobK P N cat l ds env n Zs d j):Qgr P N l ds d env n (n+0) 0 ((plK cat).map λq=>q.map λp=>(Zs.getD p.1 [],Zs.getD p.2 [])):=by
 refine Qgq _ 0 λi s a p r=>?_;rw[Xo]at a;cases e:(plK cat)[i]? with
 |none=>grind
 |some q=>
  rw[e]at a;cases a;obtain⟨k,h,rfl⟩:=Xe.1 r;have g:i<m:=by
   grind[plK]
  have:=t i (XU _) g k (by grind)
  grind
theorem QlZ{id:Nat}(m:Nat)(d:List Nat)(cat:Kat)(k:P.follows .mixedOrders=true)(n:QdF l m N (Qbb m 0 l) (hsK cat) (rqK d cat) (msK d) (plK cat)=true)(g:Nat.beq cat.length m=true)(f:Nat.ble h0 H.length=true)
  (h:DK P N m d cat l (Qbb m 0 l) env H.length (λr e H=>WO P h0 N l.toArray r e H Q) [] H l []):TC P h0 N (.region id l.toArray true) env H Q:=by
 obtain⟨j,Zs,Y,s,t,u,p,q⟩:=h rfl;have a:=XQ g;have i:(msK d).length=d.length+1:=by simp[msK]
 refine QY m 0 _ _ _ _ _ j (H::Zs) Y k n (by grind) (by simp_all) f ?_ (by simp) (by grind) (QnR a p) (by simp[plK,a]) q
 simp_all
variable {n:Nat} {X X1:Qd} {xs:List A} {o:Oper} {r:List Oper} {x:A} {d:Nat}
theorem DK.done(d:Nat.beq xs.length m=true)(a:Nat.beq Hs.length bs.length=true)(h:K r (Qat ds xs env) X):DK P N m bs cat l ds env n K Hs X r xs:=by
 intro k;have e:=XQ d;have f:=XQ a;refine⟨[],[],X,by simpa using e,by omega,⟨(λZ hZ=>by cases hZ),?_⟩,λj g i=>by omega,?_⟩
 .grind
 grind
theorem DK.add(t:∀ys Zs,l[xs.length]?=some o->DobK P N cat l ds env n (Hs.reverse++X::Zs) (xs++x::ys) xs.length)(k:DK P N m bs cat l ds env n K Hs X r (xs++[x])):DK P N m bs cat l ds env n K Hs X (o::r) xs:=by
 intro d;obtain⟨q,g⟩:=Qbc d;obtain⟨ys,Zs,Y,e,h,i,f,a⟩:=k (by grind);simp[Vi,Vh]at e f a;refine⟨x::ys,Zs,Y,by grind,h,i,λj s p=>?_,a⟩
 grind
theorem Qd5{Zs:List Qd}{zs:List A}{j:Nat}{c:Nat×Nat×Nat}(a:YN cat j=some c)(h:∀p∈rgK c,Jm P N l ds zs env n n j (Zs.getD p.1 []) (Zs.getD p.2 [])):DobK P N cat l ds env n Zs zs j:=by
 intro p d
 grind[QaC,plK]
theorem Qmn{Zs:List Qd}{c:Nat}(a:Nat.beq c Hs.length=true):(Hs.reverse++X::Zs).getD c []=X:=by
 simp_all
theorem DK.wo{c:Nat}(h:WO P X.length N l.toArray [o] (Yf (Qn o) 0 ds xs env) X (YT (up (Yf (Qn o) 0 ds xs env) d x) X))(k:DK P N m bs cat l ds env n K Hs X r (xs++[x]))
  (e:YN cat xs.length=some (0,c,c):=by exact rfl)(hd:o.dst=some d:=by exact rfl)(hcH:Nat.beq c Hs.length=true:=by exact rfl):DK P N m bs cat l ds env n K Hs X (o::r) xs:=
 .add (λys Zs ho=>Qd5 e λp a=>by
  have:=by
   change p∈Qkk c (c-c)at a;rw[Nat.sub_self]at a;exact VA.1 a
  grind[Qmn,Qaz,Y5]) k
theorem DK.wa{lo hi:Nat}(h:∀X,WO P X.length N l.toArray [o] (Yf (Qn o) 0 ds xs env) X (YT (up (Yf (Qn o) 0 ds xs env) d x) X))(k:DK P N m bs cat l ds env n K Hs X r (xs++[x]))
  (a:YN cat xs.length=some (0,lo,hi):=by exact rfl)(hd:o.dst=some d:=by exact rfl):DK P N m bs cat l ds env n K Hs X (o::r) xs:=
 .add (λys Zs ho=>Qd5 a λp f=>by
  have e:=QfS _ _ p f
  grind[Qaz,Y5]) k
theorem DK.op{c s:Nat}(h:WO P X.length N l.toArray [o] (Yf (Qn o) 0 ds xs env) X (YT (up (Yf (Qn o) 0 ds xs env) d x) X1))(k:DK P N m bs cat l ds env n K (X::Hs) X1 r (xs++[x]))(E:Nat.ble n X1.length=true:=by exact rfl)
  (hc:YN cat xs.length=some (1,c,s):=by exact rfl)(hd:o.dst=some d:=by exact rfl)(hcH:Nat.beq c Hs.length=true:=by exact rfl):DK P N m bs cat l ds env n K Hs X (o::r) xs:=by
 intro i;obtain⟨F,y⟩:=Qbc i;obtain⟨g,Zs,Y,t,z,e,u,f⟩:=k (by grind);simp only[X3,X0,List.length_nil,Vi,VJ,Vh,List.reverse_cons]at t z e u f;refine⟨x::g,X1::Zs,Y,by grind,by grind,⟨λZ a=>?_,e.2⟩,λj G B=>?_,f⟩
 .rcases X6.1 a with rfl|a
  .simp_all
  grind
 .rcases VB xs.length j with q|q
  .grind
  .obtain rfl:j=xs.length:=by omega
   refine Qd5 hc λp w=>?_;have:p=(c,c+1):=VA.1 w
   grind[Nat.eq_of_beq_eq_true,Qaz,Y5]
def Qei(T:TyX)(N m:Nat)(cat:Kat)(l:List Oper)(ds:List Nat)(env:Env)(n:Nat):Nat->Nat->Nat->List Qd->Qd->List Oper->List A->Option (List Qd×List Oper×List A)
 |0,_,_,Hs,X,r,xs=>some (Hs,r,xs)
 |_+1,_,_,_,_,[],_=>none
 |k+1,i,j,Hs,X,o::r,xs=>match o.dst with
  |none=>none
  |some d=>match Nat.blt d N with
   |false=>none
   |true=>match YQ ⟨l⟩ o (Yf (Qn o) 0 ds xs env)with
    |none=>none
    |some false=>(match QcS xs (.tup [])with
      |.mk xs'=>match YN cat i with
       |some (0,_,_)=>Qei T N m cat l ds env n k (i+1) j Hs X r xs'
       |some (1,c,_)=>(match Nat.beq c j,Nat.ble n X.length with
        |true,true=>Qei T N m cat l ds env n k (i+1) (j+1) (X::Hs) X r xs'
        |_,_=>none)
       |_=>none)
    |some true=>match YN cat i with
     |some (0,lo,hi)=>(match Qc7 T o (Yf (Qn o) 0 ds xs env) []with
      |some x=>(match QcS xs x with
       |.mk xs'=>Qei T N m cat l ds env n k (i+1) j Hs X r xs')
      |none=>match Nat.beq lo hi,Nat.beq lo j with
       |true,true=>(match Qc7 T o (Yf (Qn o) 0 ds xs env) X with
        |none=>none
        |some x=>match QcS xs x with
         |.mk xs'=>Qei T N m cat l ds env n k (i+1) j Hs X r xs')
       |_,_=>none)
     |_=>none
theorem QbH(hT:QbV P T):∀(k i j:Nat) {Hs Hs':List Qd} {r r':List Oper} {xs xs':List A},i=xs.length->j=Hs.length->Qei T N m cat l ds env n k i j Hs X r xs=some (Hs',r',xs')->DK P N m bs cat l ds env n K Hs' X r' xs'->DK P N m bs cat l ds env n K Hs X r xs
 |0,i,j,Hs,Hs',r,r',xs,xs',_,_,h,k=>by cases h;exact k
 |k0+1,i,j,Hs,Hs',[],r',xs,xs',_,_,h,k=>by cases h
 |k0+1,i,j,Hs,Hs',o::r,r',xs,xs',hi,hj,h,k=>by
  subst hi hj;unfold Qei at h;split at h
  .cases h
  .rename_i d hd;split at h
   .cases h
   .rename_i q2;split at h
    .cases h
    .rename_i hw;simp[Je]at h;split at h
     .rename_i lo hi' q0;exact .wa (λX=>WO.skip (QM hw) hd q2 (WO.nil YT.mk)) (QbH hT k0 _ _ (by simp) rfl h k) q0 hd
     .rename_i c c' q0;split at h
      .rename_i q1 q3;exact .op (WO.skip (QM hw) hd q2 (WO.nil YT.mk)) (QbH hT k0 _ _ (by simp) (by simp) h k) q3 q0 hd q1
      .cases h
     .cases h
    .rename_i hw;split at h
     .rename_i lo hi' q0;split at h
      .rename_i x hv;simp[Je]at h;exact .wa (λX=>Y8 (QM hw) hd q2 (Qav hT (Qd6 hv)) (WO.nil YT.mk)) (QbH hT k0 _ _ (by simp) rfl h k) q0 hd
      .split at h
       .rename_i q1 q3;split at h
        .cases h
        .rename_i x hv;simp[Je]at h;obtain rfl:=XQ q1;exact .wo (Y8 (QM hw) hd q2 (Qav hT hv) (WO.nil YT.mk)) (QbH hT k0 _ _ (by simp) rfl h k) q0 hd q3
       .cases h
     .cases h
theorem DK.is{α:Type}{b:Bool}{p q:Option α}{v:α}{d a:List A}(j:Nat)(h:(bif b then p else q)=some v)(i:YN xs j=some (.bool b))(f:QhI xs j (.bool true)=.mk d)(g:QhI xs j (.bool false)=.mk a)
  (t:b=true->p=some v->DK P N m bs cat l ds env n K Hs X r d)(e:b=false->q=some v->DK P N m bs cat l ds env n K Hs X r a):DK P N m bs cat l ds env n K Hs X r xs:=by
 cases b with
 |true=>simp_all[Qa1]
 |false=>simp_all[Qa1]
theorem DK.v(h:OpV P o (Yf (Qn o) 0 ds xs env) X x)(k:DK P N m bs cat l ds env n K Hs X r (xs++[x])){c:Nat}(hg:YQ ⟨l⟩ o (Yf (Qn o) 0 ds xs env)=some true:=by exact rfl)
  (hd:o.dst=some d:=by exact rfl)(hN:Nat.blt d N=true:=by exact rfl)(hc:YN cat xs.length=some (0,c,c):=by exact rfl)(hcH:Nat.beq c Hs.length=true:=by exact rfl):DK P N m bs cat l ds env n K Hs X (o::r) xs:=
 .wo (Y8 (QM hg) hd hN h (WO.nil YT.mk)) k hc hd hcH
def allV(T:TyX)(o:Oper)(e:Env)(x:A):Nat->List Qd->Prop
 |0,_=>True
 |k+1,Y::r=>Qc7 T o e Y=some x/\allV T o e x k r
 |_+1,[]=>False
theorem Qir:∀(n lo:Nat),∀p∈Qkk lo n,lo<=p.1/\p.1<=lo+n
 |0,lo,p,h=>by cases h with|head=>omega|tail _ h=>cases h
 |n+1,lo,p,h=>by
  rcases X6.1 h with rfl|h
  .omega
  .have:=Qir n _ p h;omega
def allW(P:Program)(N:Nat)(l:List Oper)(o:Oper)(e:Env)(d:Nat)(x:A):Nat->List Qd->Prop
 |0,_=>True
 |k+1,Y::r=>WO P Y.length N l.toArray [o] e Y (YT (up e d x) Y)/\allW P N l o e d x k r
 |_+1,[]=>False
theorem QiX{e:Env}:∀{k:Nat} {r:List Qd},allW P N l o e d x k r->∀j,j<k->WO P (r.getD j []).length N l.toArray [o] e (r.getD j []) (YT (up e d x) (r.getD j []))
 |0,_,_,j,hj=>(by omega)
 |k+1,[],h,_,_=>h.elim
 |k+1,Y::r,h,0,_=>h.1
 |k+1,Y::r,h,j+1,hj=>by
  have:=QiX h.2 j (by omega)
  grind
theorem DK.ws{lo hi:Nat}(h:allW P N l o (Yf (Qn o) 0 ds xs env) d x (hi+1-lo) (X::Hs))(k:DK P N m bs cat l ds env n K Hs X r (xs++[x]))
  (j:YN cat xs.length=some (0,lo,hi):=by exact rfl)(hd:o.dst=some d:=by exact rfl)(hcH:Nat.beq hi Hs.length=true:=by exact rfl)(hle:Nat.ble lo hi=true:=by exact rfl):DK P N m bs cat l ds env n K Hs X (o::r) xs:=
 .add (λys Zs ho=>Qd5 j λp f=>by
  have e:=QfS _ _ p f;have a:=XR hle;have hb:=Qir (hi-lo) lo p f;have q:=XQ hcH;rw[<- e];have i:=QiX h (Hs.length-p.1) (by omega);have g:(Hs.reverse++X::Zs).getD p.1 []=(X::Hs).getD (Hs.length-p.1) []:=by
   grind
  rw[g];exact Qaz ho Y5 i hd) k
theorem DK.vs(i:QbV P T){lo hi:Nat}(h:allV T o (Yf (Qn o) 0 ds xs env) x (hi+1-lo) (X::Hs))(k:DK P N m bs cat l ds env n K Hs X r (xs++[x]))
  (p:YN cat xs.length=some (0,lo,hi))(f:o.dst=some d)(e:Nat.beq hi Hs.length=true)(hg:YQ ⟨l⟩ o (Yf (Qn o) 0 ds xs env)=some true)(g:Nat.blt d N=true)(a:Nat.ble lo hi=true):DK P N m bs cat l ds env n K Hs X (o::r) xs:=by
 refine DK.ws ?_ k p f e a;generalize hi+1-lo=c at h;generalize X::Hs=L at h
 induction c generalizing L with
 |zero=>trivial
 |succ c j=>
  cases L with
  |nil=>exact h.elim
  |cons Y L=>exact⟨Y8 (QM hg) f g (Qav i h.1) (WO.nil YT.mk),j L h.2⟩
end
def room(n:Int):Option Nat:=bif decide (0<n)&&decide (n<=4294967296)then some n.toNat else none
section
variable {P:Program} {o:Oper} {env:Env} {H:Qd}
theorem Qe6{a i:Nat}{x x':Blk}(d:H[i]?=some x)(e:x=x'):Le a env H env (H.set i x'):=by
 grind[List.set_getElem_self,Le.refl]
theorem RL.put{ro:Nat->Prop}{σ:Sig}{w:World}{k:Nat}:∀{a:Nat} {es fs:List (List A)} {l m:List Value},RL ro σ w k es l->a+fs.length<=es.length->Sw.allK k fs->LR ro σ w fs.flatten m->(∀v∈m,QA v)->
  RL ro σ w k (es.take a++fs++es.drop (a+fs.length)) (Sw.splice l (a*k) m)
 |0,es,[],l,m,h,hn,hk,hm,hp=>by
  obtain rfl:m=[]:=hm;simpa[Sw.splice]using h
 |0,[],f::fs,l,m,h,hn,hk,hm,hp=>by simp at hn
 |0,c::es,f::fs,l,m,⟨l1,l2,h1,h2,h3,h4⟩,hn,hk,hm,hp=>by
  subst h1;have hl1:=h3.1.length;have hml:=hm.length;rw[Vl,X3]at hml;have e1:m.take k++m.drop k=m:=Xz _ _;have q1:LR ro σ w f (m.take k):=by have:=hm.take k;rwa [Vl,X7 (by rw[hk.1];omega),VH (by rw[hk.1];omega)]at this
  have q2:=by have:=hm.drop k;rwa [Vl,X8 (by rw[hk.1];omega),List.drop_of_length_le (by rw[hk.1];omega),Vh]at this
  have e:=RL.put (a:=0) h4 (by grind) hk.2 q2 (λv d=>hp v (List.mem_of_mem_drop d));simp only[List.take_zero,Vh,Xw,Nat.zero_mul,Sw.splice]at e⊢;refine⟨m.take k,m.drop k++l2.drop (m.drop k).length,?_,hk.1,⟨q1,λv d=>hp v (List.mem_of_mem_take d)⟩,by simp_all⟩;have i:k<=m.length:=by rw[hml,hk.1];omega
  rw[<- Vi,e1];congr 1
  grind[List.drop_length_add_append]
 |a+1,[],fs,l,m,h,hn,hk,hm,hp=>by simp at hn
 |a+1,c::es,fs,l,m,⟨l1,l2,h1,h2,h3,h4⟩,hn,hk,hm,hp=>by
  subst h1;have hl1:=h3.1.length;have e:=RL.put (a:=a) h4 (by simp at hn;omega) hk hm hp;refine⟨l1,Sw.splice l2 (a*k) m,?_,h2,h3,?_⟩
  .have e1:(a+1)*k=l1.length+a*k:=by rw[Xm];omega
   unfold Sw.splice;rw[e1,Vb,show l1.length+a*k+m.length=l1.length+(a*k+m.length)from by omega,Va];simp
  .have g:a+1+fs.length=(a+fs.length)+1:=by omega
   simpa[g]using e
def QjU(P:Program)(H:Qd)(x:A)(k:Nat)(es:List (List A)):Prop:=
 ∀fr ro σ w v,Sim fr ro σ H w->VR ro σ w x v->(∃a c,v=.slice a es.length c)/\
  ∀j,j<=es.length->allK k (es.take j)/\ ∃l,(Builtin.firstCells k j v).run P w=.ok l.toArray w/\LR ro [] w (es.take j).flatten l/\ ∀v∈l,QA v
theorem Qeg{fr ro:Nat->Prop}{σ:Sig}{w:World}{k j b a n c:Nat}{es:List (List A)}(h:RR ro [] w b k es a)(g:j<=es.length):
  allK k (es.take j)/\ ∃l,(Builtin.firstCells k j (.slice (some ⟨b,a,none⟩) n c)).run P w=.ok l.toArray w/\LR ro [] w (es.take j).flatten l/\ ∀v∈l,QA v:=by
 obtain⟨i,e,d⟩:=(h.take j).flat;rw[Xy,XB g]at d;obtain⟨l,f,m⟩:=Qda (c:=c) i d;exact⟨e,l,(f w rfl),m⟩
theorem Qcn{k n c:Nat}{a:Option Addr}{w:World}:(Builtin.firstCells k 0 (.slice a n c)).run P w=.ok #[] w:=by
 cases a<;>simp[go_sem]
theorem QmQ{α:Type}{e:α->List A}{k:Nat}{l:List α}:QjU P H (.rsl k (l.map e)) k (l.map e):=by
 intro fr m σ w v s ⟨a,c,h1,h2,d⟩;subst h1;refine⟨⟨a,c,rfl⟩,λj g=>?_⟩;rcases d with d|⟨b,f,rfl,i,h⟩
 .obtain rfl:j=0:=by grind
  exact⟨trivial,[],Qcn,rfl,by simp⟩
 .exact Qeg (fr:=fr) (σ:=σ) h g
theorem QjU.osl{i s n k t:Nat}{es a:List (List A)}(z:H[i]?=some (.row t k es))(he:(es.drop s).take n=a)(J:s+n<=es.length):QjU P H (.osl i s n k) k a:=by
 intro fr M σ w v sm h;have r:a.length=n:=by grind
 rcases h with⟨rfl,rfl⟩|⟨b,p,d,F,m,u,rfl,B,⟨G,q⟩,L,N⟩
 .have e:a=[]:=(by grind);subst e;refine⟨⟨none,0,rfl⟩,λj x=>?_⟩;obtain rfl:j=0:=by omega
  exact⟨trivial,[],Qcn,rfl,by simp⟩
 .rw[r];refine⟨⟨_,d,rfl⟩,λj x=>?_⟩;obtain⟨l,y,g⟩:=sm.blk i _ _ u z;have f:=((YS (pre:=[]) (by simpa using y) g).drop s).take n;rw[he]at f;by_cases E:0<d
  .obtain rfl:=B E;simpa using Qeg (fr:=fr) (σ:=σ) f (by omega)
  .obtain rfl:j=0:=by omega
   exact⟨trivial,[],Qcn,rfl,by simp⟩
theorem QmR{α:Type}{e:α->List A}{b t k:Nat}{l r:List α}{a c:Int}(h:slc l a c=some r)(d:H[b]?=some (.row t k (l.map e)):=by exact rfl):QjU P H (.osl b (0+a.toNat) (c.toNat-a.toNat) k) k (r.map e):=by
 obtain⟨g,j,i,f⟩:=Qc8 h;refine QjU.osl d ?_ (by grind);rw[<- f, <- List.map_drop, <- List.map_take,Xw,List.drop_take]
def cpy{α:Type}(l:List α)(a c:Int)(m:List α):Option (List α):=some (l.take a.toNat++m.take (c.toNat-a.toNat)++l.drop (a.toNat+min m.length (c.toNat-a.toNat)))
theorem Qd0{α:Type}{l r l' m:List α}{a c:Int}(h:slc l a c=some r)(d:cpy l a c m=some l'):l.length=l'.length:=by
 obtain⟨f,g,e,_⟩:=Qc8 h;rw[<- XZ d]
 grind
theorem QeT{α:Type}{l l' m:List α}(a:cpy l 0 l.length m=some l'):l.length=l'.length:=by
 rw[<- XZ a]
 grind
theorem QfO{α:Type}{e:α->List A}{c:Call}{T T' et k b a n t:Nat}{x y:Operand}{ya:A}{l m l':List α}(ad:a+n<=l.length)(ae:l.take a++m.take n++l.drop (a+min m.length n)=l')(hT:∀w,(underlying T).run P w=.ok (.slice et) w)(u:∀w,(sizeOf et).run P w=.ok k w)(O:QjU P H ya k (m.map e))
  (ho:o.op=.call c)(hc:c={callee:=.builtin .copy,args:= #[x,y],argTypes:= #[T,T']})(hx:opA env x=.osl b a n k)(hH:H[b]?=some (.row t k (l.map e)))(Q:opA env y=ya):
  OpH P o env H (.int .i64 (min m.length n:Nat)) (H.set b (.row t k (l'.map e))):=by
 intro V J σ N ac w r;have s:=Qu r x;rw[hx]at s;have h2:=Qu r y;rw[Q]at h2;obtain⟨⟨ay,cy,W⟩,q2⟩:=O V J σ w _ r.sim h2;rw[X2]at W q2;obtain⟨q3,G,F,L,q6⟩:=q2 (min m.length n) (Nat.min_le_left _ _);have h:((m.map e).take (min m.length n)).length=min m.length n:=by simp
 have X:l'.map e=(l.map e).take a++(m.map e).take (min m.length n)++(l.map e).drop (a+((m.map e).take (min m.length n)).length):=by
  grind[List.map_take,List.map_drop]
 have f:(Builtin.copy_ #[T,T'] o.type #[ac.eval x,ac.eval y]).run P w=.ok (.int .i64 (min m.length n:Nat)) w->min m.length n=0->
   ∃v w' ro' τ,(execOp ac.eval o).run P w=.ok (.value v) w'/\VR ro' (σ++τ) w' (.int .i64 (min m.length n:Nat)) v/\Sim V ro' (σ++τ) (H.set b (.row t k (l'.map e))) w'/\Qm V J w ro' w':=by
  intro g hz;have O:H.set b (.row t k (l'.map e))=H:=by
   have:l'.map e=l.map e:=by simp_all
   grind[List.set_getElem_self]
  refine⟨_,w,J,[],?_,rfl,by simpa[O]using r.sim,Qm.refl _ _ _⟩;subst hc;generalize ac.eval=ρ at*
  simp_all[execOp,resolve,invoke,builtin]
 have B:∀j:Nat,goInt j=.int .i64 j:=λ_=>rfl;rcases s with⟨E,s⟩|⟨bb,p,af,t',mm,s,h3,h4,⟨h5,ab⟩,h6,h7⟩
 .refine f ?_ (by omega);rw[W]at F⊢;rw[s];have:Nat.min m.length 0=min m.length n:=by rw[E]
  simp only[Builtin.copy_,XG,XE,XF,Vm,hT,u,Result.andThen,Builtin.lenOf,Vn,this,F,B]
 .have d:∀R:Result Unit,(storeCells ⟨bb,p,none⟩ G).run P w=R->(Builtin.copy_ #[T,T'] o.type #[ac.eval x,ac.eval y]).run P w=R.andThen λ_ w=>.ok (.int .i64 (min m.length n:Nat)) w:=by
   intro R hR;rw[W]at F⊢;rw[h3];have:Nat.min m.length n=min m.length n:=rfl;simp only[Builtin.copy_,XG,XE,XF,Vm,hT,u,Result.andThen,Builtin.lenOf,Vn,this,F,B,hR]
  by_cases E:min m.length n=0
  .have q:G=[]:=by
    have:=L.length;rw[E]at this;exact VI.1 (by simpa using this)
   refine f ?_ E;have:=d (.ok () w) (by rw[q];rfl);rw[this];rfl
  .obtain rfl:=h4 (by omega);obtain⟨l0,g1,g2⟩:=r.sim.blk b _ _ s hH;have Y:=g2.length;have q:=L.length;rw[YW q3,h]at q;have aa:a*k+(min m.length n)*k<=l0.length:=by
    rw[<- XA];refine XV (XC k ?_) Y;rw[X2];omega
   have z:=YI (P:=P) (vs:=G) (a*k) 0 g1 (by omega) q6;rw[Xx]at z;have g:=d _ z;have i:=r.sim.set (x':=.row t k (l'.map e)) (obj:=.cells (splice l0 (a*k) G).toArray t (0,0)) s hH rfl
    (λy Q=>QaE g1 (YB (by omega)) y Q)
    (λex M=>⟨_,M,by
     rw[X];exact(RL.put g2 (by rw[h,X2];omega) q3 L q6).mono ex.nil⟩)
   refine⟨_,_,J,[],?_,rfl,by simpa using i.1,i.2⟩;subst hc;generalize ac.eval=ρ at*;simp only[execOp,ho,resolve,Vm,Vn,Result.andThen,invoke,builtin,XI,Vj,Vk,g]
theorem Qj5{α:Type}{e:α->List A}{c:Call}{T T' et k b t:Nat}{x y:Operand}{d:A}{l m l':List α}(h:cpy l 0 l.length m=some l')(f:∀w,(underlying T).run P w=.ok (.slice et) w)(a:∀w,(sizeOf et).run P w=.ok k w)(g:QjU P H d k (m.map e))
  (i:o.op=.call c:=by exact rfl)(hc:c={callee:=.builtin .copy,args:= #[x,y],argTypes:= #[T,T']}:=by exact rfl)(hx:opA env x=.osl b 0 l.length k:=by exact rfl)(hH:H[b]?=some (.row t k (l.map e)):=by exact rfl)(hy:opA env y=d:=by exact rfl):
  OpH P o env H (.int .i64 (min m.length l.length:Nat)) (H.set b (.row t k (l'.map e))):=by
 refine QfO (by omega) ?_ f a g i hc hx hH hy;rw[<- XZ h];rfl
theorem Qj6{α:Type}{e:α->List A}{c:Call}{T T' et k b t:Nat}{x y:Operand}{d:A}{l f m l':List α}{i j:Int}(hi:slc l i j=some f)(h:cpy l i j m=some l')(g:∀w,(underlying T).run P w=.ok (.slice et) w)(a:∀w,(sizeOf et).run P w=.ok k w)(n:QjU P H d k (m.map e))
  (p:o.op=.call c:=by exact rfl)(hc:c={callee:=.builtin .copy,args:= #[x,y],argTypes:= #[T,T']}:=by exact rfl)(hx:opA env x=.osl b (0+i.toNat) (j.toNat-i.toNat) k:=by exact rfl)(hH:H[b]?=some (.row t k (l.map e)):=by exact rfl)(hy:opA env y=d:=by exact rfl):
  OpH P o env H (.int .i64 (min m.length (j.toNat-i.toNat):Nat)) (H.set b (.row t k (l'.map e))):=by
 obtain⟨q,s,u,r⟩:=Qc8 hi;refine QfO (by omega) (XZ h) g a n p hc ?_ hH hy
 grind
end
open Go.MapKept
section
variable {fr ro ro':Nat->Prop} {σ:Sig} {H:Qd} {w:World}
end
end Go.Sw
namespace Go.Sw
section
variable {P:Program} {o:Oper} {env:Env} {H:Qd} {α:Type} {e:α->List A}
end
open Go.MapKept
section
variable {P:Program} {o:Oper} {env:Env} {H:Qd}
variable {T kt et:Nat} {α β:Type} [DecidableEq α] {ek:α->A} {ev:β->A} {x y:Operand} {i:Nat} {l:List (α×β)} {k:α} {z0:β} {z:Value}
end
section
variable {fr ro:Nat->Prop} {σ:Sig} {H:Qd} {w:World}
end
end Go.Sw
namespace Go.Sw
structure Fil (α β:Type) where
 number:Int
 r0:List α
 r1:List α
 r2:List α
 reports:List β
 appeal:Bool
 deriving DecidableEq
structure FK (α β:Type) where
 T:Nat
 tF:Nat
 kF:Nat
 tR:Nat
 kR:Nat
 eF:α->List A
 eR:β->List A
section
variable {α β:Type} (K:FK α β)
def QnA(b:Nat)(x:Fil α β):List A:=[.int .i64 x.number,.osl (b+1) 0 x.r0.length K.kF,.osl (b+2) 0 x.r1.length K.kF,.osl (b+3) 0 x.r2.length K.kF,.osl (b+4) 0 x.reports.length K.kR,.bool x.appeal]
def QiG(b:Nat)(x:Fil α β):List Blk:=[.cells K.T (QnA K b x),.row K.tF K.kF (x.r0.map K.eF),.row K.tF K.kF (x.r1.map K.eF),.row K.tF K.kF (x.r2.map K.eF),.row K.tR K.kR (x.reports.map K.eR)]
def fall:Nat->List (Fil α β)->List Blk
 |_,[]=>[]
 |b,x::l=>QiG K b x++fall (b+5) l
def frp(x:Fil α β):List A:=[.int .i64 x.number,.rsl K.kF (x.r0.map K.eF),.rsl K.kF (x.r1.map K.eF),.rsl K.kF (x.r2.map K.eF),.rsl K.kR (x.reports.map K.eR),.bool x.appeal]
def fent:Nat->List (Fil α β)->List (Int×Nat)
 |_,[]=>[]
 |b,x::l=>(x.number,b)::fent (b+5) l
def ptr0(j:Nat):A:=.ptr j 0
def rpE(x:Fil α β):A:=.rp (frp K x)
def fnum(fs:List (Fil α β)):List (Int×Fil α β):=fs.map λx=>(x.number,x)
theorem QfA(b:Nat)(x:Fil α β)(l:List (Fil α β)):fall K b (x::l)=QiG K b x++fall K (b+5) l:=rfl
theorem Qjs(b:Nat)(x:Fil α β):(QiG K b x).length=5:=rfl
end
section
variable {fr ro ro':Nat->Prop} {σ:Sig} {w:World}
theorem QdV(sub:∀c,ro c->ro' c){i t k:Nat}{es:List (List A)}{v:Value}(s:∀b,σ[i]?=some (some b)->BR ro σ w (.row t k es) (some b)/\ro' b)(h:VR ro σ w (.osl i 0 es.length k) v):VR ro' [] w (.rsl k es) v:=by
 rcases h with⟨z,h⟩|⟨b,p,a,u,m,n,h,B,⟨d,j⟩,y,E⟩
 .have:es=[]:=(by grind);subst this;exact⟨none,0,h,XT _,.inl rfl⟩
 .refine⟨_,a,h,d,?_⟩;by_cases f:es=[]
  .exact .inl f
  .right;have x:0<a:=Vf (by grind) d;obtain⟨⟨l,r,e⟩,g⟩:=s b n;refine⟨b,0,by simp,g,?_⟩;have:=YS (pre:=[]) (by simpa using r) e;exact this.keep ⟨sub,λ_ _=>rfl,λ_ _ q=>q,λ_ _ q=>q⟩ rfl
theorem Ql2{ro:Nat->Prop}{w:World}{b t:Nat}:∀{cs:List A} {pre l:List Value},w.heap[b]?=some (.cells (pre++l).toArray t (0,0))->LR ro [] w cs l->(∀v∈l,QA v)->CR ro [] w b cs pre.length
 |[],pre,l,_,_,_=>trivial
 |a::cs,pre,l,hb,hl,hp=>by
  obtain⟨v,l',rfl,h1,h2⟩:=hl;refine⟨⟨v,?_,hp v (by simp),h1⟩,?_⟩
  .unfold World.cell?
   grind
  .have:=Ql2 (pre:=pre++[v]) (by simpa using hb) h2 (by grind)
   grind
variable {α β:Type} (K:FK α β)
theorem QmN(sub:∀c,ro c->ro' c){b:Nat}{x:Fil α β}{v:Value}(f:∀(d c:Nat) (y:Blk),(QiG K b x)[d]?=some y->σ[b+d]?=some (some c)->BR ro σ w y (some c)/\ro' c)(h:VR ro σ w (.ptr b 0) v):VR ro' [] w (.rp (frp K x)) v:=by
 obtain⟨c,q,m⟩:=h;obtain⟨⟨l,s,a,p⟩,g⟩:=f 0 c _ rfl q;refine⟨c,0,m,g,(Ql2 (pre:=[]) (by simpa using s) ?_ p)⟩;obtain⟨v0,B,rfl,t,a⟩:=a;obtain⟨n,E,rfl,F,a⟩:=a;obtain⟨i,z,rfl,H,a⟩:=a;obtain⟨r,N,rfl,L,a⟩:=a;obtain⟨j,G,rfl,J,a⟩:=a;obtain⟨u,M,rfl,k,a⟩:=a;refine⟨v0,_,rfl,t,n,_,rfl,QdV sub (λc e=>f 1 c _ rfl e) (by grind),i,_,rfl,QdV sub (λc e=>f 2 c _ rfl e) (by grind),r,_,rfl,QdV sub (λc e=>f 3 c _ rfl e) (by grind),
  j,_,rfl,QdV sub (λc e=>f 4 c _ rfl e) (by grind),u,_,rfl,k,a⟩
theorem QlW(sub:∀c,ro c->ro' c){ek:Int->A}(hek:∀(k:Int) (v:Value),VR ro σ w (ek k) v->VR ro' [] w (ek k) v):∀{b:Nat} {fs:List (Fil α β)} {es:List MapEntry},(∀(d c:Nat) (y:Blk),(fall K b fs)[d]?=some y->σ[b+d]?=some (some c)->BR ro σ w y (some c)/\ro' c)->
  ER ro σ w (Qj ek ptr0 (fent b fs)) es->ER ro' [] w (Qj ek (rpE K) (fnum fs)) es
 |b,[],es,_,h=>h
 |b,x::l,es,hb,h=>by
  obtain⟨e,l',rfl,h1,h2,h3⟩:=h;refine⟨e,l',rfl,hek _ _ h1,?_,?_⟩
  .refine QmN K sub (λd c y hy hc=>hb d c y ?_ hc) h2
   grind[QfA]
  .refine QlW sub hek (λd c y hy hc=>hb (d+5) c y ?_ (by grind)) h3
   grind[QfA,Qjs]
end
section
variable {fr ro:Nat->Prop} {σ:Sig} {w:World} {α β:Type} (K:FK α β)
end
open Go.Sort Go.Proofs Go.Shelf
end Go.Sw
namespace Go.Sw
structure Pl where
 b:Nat
 i0:Nat
 i1:Nat
 i2:Nat
 i3:Nat
def Pl.ix(p:Pl):List Nat:=[p.b,p.i0,p.i1,p.i2,p.i3]
section
variable {α β:Type} (K:FK α β)
def Qia(p:Pl)(x:Fil α β):List A:=[.int .i64 x.number,.osl p.i0 0 x.r0.length K.kF,.osl p.i1 0 x.r1.length K.kF,.osl p.i2 0 x.r2.length K.kF,.osl p.i3 0 x.reports.length K.kR,.bool x.appeal]
structure Qcw (H:Qd) (x:Fil α β) (p:Pl):Prop where
 c:H[p.b]?=some (.cells K.T (Qia K p x))
 r0:H[p.i0]?=some (.row K.tF K.kF (x.r0.map K.eF))
 r1:H[p.i1]?=some (.row K.tF K.kF (x.r1.map K.eF))
 r2:H[p.i2]?=some (.row K.tF K.kF (x.r2.map K.eF))
 r3:H[p.i3]?=some (.row K.tR K.kR (x.reports.map K.eR))
abbrev Qkd(α β:Type):=List (Fil α β×Pl)
structure QbA (lo:Nat) (H:Qd) (bk:Qkd α β):Prop where
 laid:∀e∈bk,Qcw K H e.1 e.2
 own:∀e∈bk,e.2.ix.Nodup
 ne:bk.Pairwise λe f=>∀i∈e.2.ix,i∉f.2.ix
 lo:∀e∈bk,∀i∈e.2.ix,lo<=i
 num:(bk.map (·.1.number)).Nodup
variable {K} {lo:Nat} {H H':Qd} {bk l r:Qkd α β} {e:Fil α β×Pl} {x':Fil α β} {p':Pl}
theorem QbA.nil:QbA K lo H []:=⟨(λ_ h=>by cases h),(λ_ h=>by cases h),List.Pairwise.nil,(λ_ h=>by cases h),List.nodup_nil⟩
theorem Qcw.lt(h:Qcw K H e.1 e.2):∀i∈e.2.ix,i<H.length:=by
 intro i a;have g:∀{j:Nat} {y:Blk},H[j]?=some y->j<H.length:=(by grind);simp[Pl.ix,X6,List.not_mem_nil,or_false]at a;rcases a with rfl|rfl|rfl|rfl|rfl
 .exact g h.c
 .exact g h.r0
 .exact g h.r1
 .exact g h.r2
 .exact g h.r3
theorem Qcw.keep(h:Qcw K H e.1 e.2)(k:∀i∈e.2.ix,H'[i]?=H[i]?):Qcw K H' e.1 e.2:=by
 refine⟨?_,?_,?_,?_,?_⟩
 .rw[k _ (by simp[Pl.ix])];exact h.c
 .rw[k _ (by simp[Pl.ix])];exact h.r0
 .rw[k _ (by simp[Pl.ix])];exact h.r1
 .rw[k _ (by simp[Pl.ix])];exact h.r2
 .rw[k _ (by simp[Pl.ix])];exact h.r3
theorem QbA.keep(h:QbA K lo H bk)(k:∀j,lo<=j->j<H.length->H'[j]?=H[j]?):QbA K lo H' bk:=
 ⟨λe he=>(h.laid e he).keep λi hi=>k i (h.lo e he i hi) ((h.laid e he).lt i hi),h.own,h.ne,h.lo,h.num⟩
theorem QbA.upd(h:QbA K lo H (l++e::r))(z:Qcw K H' x' p')(E:x'.number=e.1.number)(u:∀j,lo<=j->j<H.length->j∉e.2.ix->H'[j]?=H[j]?)
  (hi:∀i∈p'.ix,i∈e.2.ix\/H.length<=i)(w:p'.ix.Nodup)(F:lo<=H.length):QbA K lo H' (l++(x',p')::r):=by
 obtain⟨y,x,B⟩:=List.pairwise_append.1 h.ne;obtain⟨G,t⟩:=Xc.1 x;have mem:∀f∈l++(x',p')::r,f=(x',p')\/(f∈l++e::r/\ ∀i∈f.2.ix,i∉e.2.ix):=by
  intro f a
  grind
 refine⟨?_,?_,?_,?_,?_⟩
 .intro f a;rcases mem f a with rfl|⟨k,n⟩
  .exact z
  .exact(h.laid f k).keep λi hi=>u i (h.lo f k i hi) ((h.laid f k).lt i hi) (n i hi)
 .intro f a;rcases mem f a with rfl|⟨k,n⟩
  .exact w
  .exact h.own f k
 .refine List.pairwise_append.2 ⟨y,Xc.2 ⟨?_,t⟩,?_⟩
  .intro f a i m d;rcases hi i m with q|q
   .grind
   .have:=(h.laid f (by simp[a])).lt i d;omega
  .intro f a g s i d p;rcases X6.1 s with rfl|s
   .rcases hi i p with q|q
    .grind
    .have:=(h.laid f (by simp[a])).lt i d;omega
   grind
 .intro f a;rcases mem f a with rfl|⟨k,n⟩
  .intro i m;rcases hi i m with q|q
   .exact h.lo e (by simp) i q
   .omega
  .exact h.lo f k
 .have:=h.num
  grind
theorem QbA.add(h:QbA K lo H bk)(p:Qcw K H' x' p')(r:∀e∈bk,e.1.number≠x'.number)(k:∀j,lo<=j->j<H.length->H'[j]?=H[j]?)
  (hi:∀i∈p'.ix,H.length<=i)(l:p'.ix.Nodup)(s:lo<=H.length):QbA K lo H' (bk++[(x',p')]):=by
 have n:=h.keep k;have mem:∀f∈bk++[(x',p')],f∈bk\/f=(x',p'):=by
  simp
 refine⟨?_,?_,?_,?_,?_⟩
 .intro f d;rcases mem f d with q|rfl
  .exact n.laid f q
  .exact p
 .intro f d;rcases mem f d with q|rfl
  .exact h.own f q
  .exact l
 .refine List.pairwise_append.2 ⟨h.ne,by simp,λf d g t i a m=>?_⟩;have:=(h.laid f d).lt i a
  grind
 .intro f d i a;rcases mem f d with q|rfl
  .exact h.lo f q i a
  grind
 .rw[Xf];refine List.nodup_append.2 ⟨h.num,by simp,?_⟩
  grind
end
section
variable {fr ro ro':Nat->Prop} {σ:Sig} {w:World} {α β:Type} (K:FK α β)
def Qly(bk:Qkd α β):List Nat:=bk.flatMap λe=>e.2.ix
theorem QbA.all{lo:Nat}{H:Qd}:∀{f:Qkd α β},QbA K lo H f->(Qly f).Nodup/\ ∀i∈Qly f,lo<=i/\ ∃y,H[i]?=some y/\y.live=true:=by
 intro f h;refine⟨?_,?_⟩
 .have j:=h.own;have k:=h.ne
  grind[Qly]
 .intro i a;obtain⟨e,g,a⟩:=List.mem_flatMap.1 a;refine⟨h.lo e g i a,?_⟩;have d:=h.laid e g;simp[Pl.ix,X6,List.not_mem_nil,or_false]at a;rcases a with rfl|rfl|rfl|rfl|rfl
  .exact⟨_,d.c,rfl⟩
  .exact⟨_,d.r0,rfl⟩
  .exact⟨_,d.r1,rfl⟩
  .exact⟨_,d.r2,rfl⟩
  .exact⟨_,d.r3,rfl⟩
end
section
variable {α β:Type} (K:FK α β) {env:Env} {H:Qd}
end
section
variable {P:Program} {h0 N:Nat} {all:Array Oper} {o:Oper} {l:List Oper} {env:Env} {H:Qd} {Q:QG}
end
section
variable {h0 n:Nat} {env env':Env} {H H':Qd}
end
section
variable {P:Program} {o:Oper} {env:Env} {H:Qd} {α:Type}
end
section
variable {α β:Type}
def newF(k:Int):Fil α β:=⟨k,[],[],[],[],false⟩
variable (K:FK α β) {lo:Nat} {H H':Qd} {bk:Qkd α β}
def Qji(n:Nat):Pl:=⟨n,n+1,n+2,n+3,n+4⟩
def QdX(n:Nat)(k:Int):Qd:=[.cells K.T (Qia K (Qji n) (newF k)),.row K.tF K.kF [],.row K.tF K.kF [],.row K.tF K.kF [],.row K.tR K.kR []]
theorem Qcw.new{k:Int}:Qcw K (H++QdX K H.length k) (newF k) (Qji H.length):=by
 have g:∀(j:Nat) (y:Blk),(QdX K H.length k)[j]?=some y->(H++QdX K H.length k)[H.length+j]?=some y:=by
  grind
 exact⟨g 0 _ rfl,g 1 _ rfl,g 2 _ rfl,g 3 _ rfl,g 4 _ rfl⟩
theorem Qix(n:Nat):(∀i∈(Qji n).ix,n<=i)/\(Qji n).ix.Nodup:=by
 simp_all[Pl.ix,Qji]
variable {K}
theorem QbA.new{k:Int}(h:QbA K lo H bk)(a:∀e∈bk,e.1.number≠k)(d:lo<=H.length):QbA K lo (H++QdX K H.length k) (bk++[(newF k,Qji H.length)]):=by
 refine h.add (Qcw.new K) a (by grind) (Qix _).1 (Qix _).2 d
theorem QbA.row{l r:Qkd α β}{e:Fil α β×Pl}{x':Fil α β}{d:Pl}{i:Nat}{y:Blk}(h:QbA K lo H (l++e::r))(u:lo<=H.length)(k:x'.number=e.1.number)(hi:i∈e.2.ix)(w:i≠e.2.b)(q:d.b=e.2.b)
  (J:H'=(H.set i .dead++[y]).set e.2.b (.cells K.T (Qia K d x')))
  (n:d.ix=e.2.ix.map λj=>bif Nat.beq j i then H.length else j)
  (x:H'[d.i0]?=some (.row K.tF K.kF (x'.r0.map K.eF)))(m:H'[d.i1]?=some (.row K.tF K.kF (x'.r1.map K.eF)))(s:H'[d.i2]?=some (.row K.tF K.kF (x'.r2.map K.eF)))(B:H'[d.i3]?=some (.row K.tR K.kR (x'.reports.map K.eR))):
  QbA K lo H' (l++(x',d)::r):=by
 have g:=h.laid e (by simp);have f:=g.lt;have t:e.2.b<H.length:=f _ (by simp[Pl.ix]);refine h.upd ⟨?_,x,m,s,B⟩ k ?_ ?_ ?_ u
 .grind
 .grind[List.getElem?_set_ne,Pl.ix]
 .grind
 .rw[n];have z:=h.own e (by simp);refine List.pairwise_map.2 (List.Pairwise.imp_of_mem ?_ z);intro a b F q p;cases E:Nat.beq a i with
  |true=>
   cases G:Nat.beq b i with
   |true=>simp_all
   |false=>grind
  |false=>
   grind
end
section
variable {fr ro:Nat->Prop} {σ:Sig} {H:Qd} {w:World}
end
section
variable {P:Program} {o:Oper} {env:Env} {H:Qd}
theorem Le.frow{J s i n k t:Nat}{es:List (List A)}(u:lk env s=.osl i 0 n k)(F:H[i]?=some (.frow t k es))(j:es.length=n):Le J env H (up env s (.rsl k es)) H:=by
 intro Q G σ N a w r;refine⟨G,σ,⟨r.sim,?_,r.size,r.defers⟩,λ_ q=>q,rfl⟩;intro d;simp only[lk];by_cases q:d=s
 .subst q;rw[VE];have:=r.env d;rw[u]at this;rcases this with⟨g,f⟩|⟨b,p,e,V,m,g,f,M,⟨O,B⟩,W,T⟩
  .have:es=[]:=(by grind);subst this;exact⟨none,0,by rw[f];rfl,XT _,.inl rfl⟩
  .obtain⟨L,l,E,x,R⟩:=r.sim.blk i _ _ g F;refine⟨_,e,by rw[f,j],by omega,?_⟩;by_cases h:es=[]
   .exact .inl h
   .right;have y:0<e:=(by grind);have P:=M y;exact⟨b,0,by simp,L,(YS (pre:=[]) (by simpa using E) x)⟩
 .have:Nat.beq d s=false:=by
   cases z:Nat.beq d s with
   |true=>simp_all
   |false=>rfl
  rw[this];exact r.env d
end
open Go.MapKept
section
variable {P:Program} {kt et:Nat} {α β:Type} [DecidableEq α] {ek:α->A} {ev:β->A} {ro:Nat->Prop} {σ:Sig} {w:World} (K:Ju P kt ek)
include K
variable {o:Oper} {env:Env} {H:Qd} {T T' i:Nat} {x y:Operand} {l m:List (α×β)} {k:α}
end
end Go.Sw
namespace Go.Sw
section
variable {P:Program} {h0 N:Nat} {all:Array Oper} {o1 o2:Oper} {l:List Oper} {env:Env} {H:Qd} {Q:QG}
end
section
variable {P:Program} {o:Oper} {env:Env} {H:Qd}
end
section
variable {P:Program} {o:Oper} {env:Env} {H:Qd} {α:Type}
end
theorem Le.same{h0:Nat}{env:Env}{H H':Qd}(e:H=H'):Le h0 env H env H':=e▸Le.refl h0 env H
section
variable {P:Program} {o:Oper} {env:Env} {H:Qd}
end
section
variable {env:Env} {H:Qd}
theorem Qbi{h0 i j m o' n k T:Nat}{x:Blk}{d:List A}(hi:H[i]?=some x)(B:H[j]?=some (.cells T d))(u:d[m]?=some (.osl i o' n k))(e:Nat.beq i j=false)(V:Nat.ble h0 H.length=true):
  Le h0 env H env ((H.set i .dead).set j (.cells T (d.set m (.osl H.length o' n k)))++[x]):=by
 intro fr E σ N a w r;have hiσ:i<σ.length:=by rw[r.sim.len];exact(XL.1 hi).1
 have hσ:σ[i]?=some σ[i]:=XK hiσ;have ext:Ext E σ w E (σ++[σ[i]]) w:=⟨λ_ q=>q,λ_ _=>rfl,λ_ _ q=>q,λ_ _ h=>Qck h⟩;have O:=r.sim.moved hi hσ;have f:j<H.length:=(XL.1 B).1;have z:i≠j:=λq=>by rw[q,VE]at e;cases e
 have s:(H.set i .dead++[x])[j]?=some (.cells T d):=by
  rw[XM (by simpa using f),XP z];exact B
 have R:(H.set i .dead).set j (.cells T (d.set m (.osl H.length o' n k)))++[x]=(H.set i .dead++[x]).set j (.cells T (d.set m (.osl H.length o' n k))):=by
  rw[List.set_append_left _ _ (by simpa using f)]
 rw[R];refine⟨E,σ++[σ[i]],⟨O.weaken s rfl ?_,λq=>(r.env q).mono ext,r.size,r.defers⟩,λ_ q=>q,QS (by rw[r.sim.len];exact XR V)⟩;have g:σ.length=H.length:=r.sim.len;intro y h;cases y with
 |none=>exact h
 |some b=>
  obtain⟨l,M,Y,Q⟩:=h;refine⟨l,M,?_,Q⟩;clear M Q s R B O
  induction d generalizing m l with
  |nil=>cases u
  |cons c d X=>
   obtain⟨v,F,rfl,L,P⟩:=Y;cases m with
   |zero=>
    simp at u;subst u;refine⟨v,F,rfl,?_,P⟩;rcases L with h|⟨b,p,G,t,m,J,W⟩
    .exact .inl h
    .refine .inr ⟨b,p,G,t,m,?_,W⟩;rw[XM hiσ,hσ]at J;rw[<- g];simpa using J
   |succ m=>exact⟨v,F,rfl,L,X (by simpa using u) F P⟩
theorem OpU.ins{P:Program}{o:Oper}{H':Qd}{T:Nat}{x y e:Operand}(k:o.op=.insert T x y e)(h:OpU P {o with op:=.mapUpdate T x y e} env H H'):OpU P o env H H':=by
 intro i j σ N a w r;obtain⟨f,d,τ,g,l,m⟩:=h i j σ N a w r;exact⟨f,d,τ,by simpa only[execOp,k]using g,l,m⟩
end
section
variable {P:Program} {o:Oper} {env:Env} {H:Qd} {T kt et:Nat} {α β:Type} [DecidableEq α] {ek:α->A} {ev:β->A} {x y:Operand} {i:Nat} {l:List (α×β)} {k:α} {z:Value} {zA:A}
end
open Go.Sort Go.Proofs Go.Shelf
def QkK(l:List Int)(i:Int)(m:List Int):Option (List Int):=bif decide (0<=i)&&(decide (i<=l.length)&&(Nat.blt 0 m.length&&Nat.ble (l.length+m.length) Ys))then some (l.take i.toNat++m++l.drop i.toNat)else none
theorem Qmj{l m r:List Int}{i:Int}(h:QkK l i m=some r):∃j:Nat,i=j/\j<=l.length/\0<m.length/\l.length+m.length<=Ys/\r=l.take j++m++l.drop j:=by
 unfold QkK at h;cases q:decide (0<=i)&&(decide (i<=l.length)&&(Nat.blt 0 m.length&&Nat.ble (l.length+m.length) Ys))with
 |false=>rw[q]at h;cases h
 |true=>
  rw[q]at h;cases h;simp only[XW,Vq]at q;obtain⟨e,f,d,a⟩:=q;exact⟨i.toNat,by omega,by omega,by simpa using d,XR a,rfl⟩
theorem Jk(b:Nat)(t:TypeId):∀(vs pre d a:List Value) (w:World),d.length=vs.length->w.heap[b]?=some (.cells (pre++d++a).toArray t (0,0))->
  w.setCells b pre.length vs={w with heap:=w.heap.setIfInBounds b (.cells (pre++vs++a).toArray t (0,0))}
 |[],pre,d,a,w,hl,hb=>by
  have:=VI.1 hl;subst this;rw[World.setCells];obtain⟨h1,h2⟩:=Vc.1 hb;have:w.heap.setIfInBounds b (.cells (pre++[]++a).toArray t (0,0))=w.heap:=by
   apply Array.ext_getElem?;intro i;rw[Ve];by_cases h:b=i
   .subst h;rw[Vs rfl,Vs h1,hb]
   .rw[Vr h]
  rw[this]
 |v::vs,pre,d,a,w,hl,hb=>by
  cases d with
  |nil=>cases hl
  |cons z d=>
   simp[X0,Nat.add_right_cancel_iff]at hl;have hbl:=(Vc.1 hb).1;have e:w.setCell ⟨b,pre.length,none⟩ v={w with heap:=w.heap.setIfInBounds b (.cells ((pre++[v])++d++a).toArray t (0,0))}:=by
    unfold World.setCell;congr 1;apply Array.ext_getElem?;intro i;rw[Array.getElem?_modify,Ve];by_cases h:b=i
    .subst h;rw[Vs rfl,Vs rfl,Vs hbl,hb];simp
    .rw[Vr h,Vr h]
   rw[World.setCells,e];have:=Jk b t vs (pre++[v]) d a {w with heap:=w.heap.setIfInBounds b (.cells ((pre++[v])++d++a).toArray t (0,0))} hl (by
    rw[Ve,Vs rfl,Vs hbl])
   rw[X3,List.length_singleton]at this;rw[this];simp
theorem Qbj(l:List Int):∀v∈l.map (Value.int .i64),v.oneCell'=true:=by
 intro v a;obtain⟨x,_,rfl⟩:=Xe.1 a;rfl
theorem Qf4{ro:Nat->Prop}{σ:Sig}{w:World}:∀l:List Int,LR ro σ w ((l.map λx=>[A.int .i64 x]).flatten) (l.map (Value.int .i64))
 |[]=>rfl
 |x::l=>⟨_,_,rfl,rfl,Qf4 l⟩
theorem Qer(l:List Int):∀v∈l.map (Value.int .i64),QA v:=by
 intro v a;obtain⟨x,_,rfl⟩:=Xe.1 a;trivial
theorem Qdh:∀l:List Int,allK 1 (l.map λx=>[A.int .i64 x])
 |[]=>trivial
 |_::l=>⟨rfl,Qdh l⟩
theorem Qnw{fr ro:Nat->Prop}{σ:Sig}{t:Nat}{B:Blk}{l r:List Int}{w W:World}{rest:List Value}(s:Sim fr ro σ [.row t 1 (l.map λx=>[A.int .i64 x]),B] w)
  (g:W.heap=(w.alloc (.cells (r.map (Value.int .i64)++rest).toArray t)).heap)(a:W.os=w.os)(e:W.tape=w.tape)(f:W.output=w.output)(d:w.drawn<=W.drawn):
  Sim fr ro (σ++[some w.heap.size]) [.dead,B,.row t 1 (r.map λx=>[A.int .i64 x])] W/\Qm fr ro w ro W:=by
 have h:=s.kill 0;obtain⟨i,j⟩:Sim fr ro (σ++[some w.heap.size]) ([.dead,B]++[.row t 1 (r.map λx=>[A.int .i64 x])]) (w.alloc (.cells (r.map (Value.int .i64)++rest).toArray t))/\Qm fr ro w ro (w.alloc (.cells (r.map (Value.int .i64)++rest).toArray t)):=
  ⟨Sim.allocRow h (Qdh r) (Qf4 r) (Qer r),Qm.alloc _ s.roLt s.frLt⟩
 exact⟨i.heap g,j.trans (Qm.heap g a e f d)⟩
theorem QkJ{fr ro:Nat->Prop}{σ:Sig}{t b:Nat}{B:Blk}{l r:List Int}{w:World}{d rest:List Value}(s:Sim fr ro σ [.row t 1 (l.map λx=>[A.int .i64 x]),B] w)(a:σ[0]?=some (some b))
  (e:w.heap[b]?=some (.cells d.toArray t (0,0)))(i:(r.map (Value.int .i64)++rest).length=d.length):
  Sim fr ro (σ++[some b]) [.dead,B,.row t 1 (r.map λx=>[A.int .i64 x])] {w with heap:=w.heap.setIfInBounds b (.cells (r.map (Value.int .i64)++rest).toArray t (0,0))}/\
   Qm fr ro w ro {w with heap:=w.heap.setIfInBounds b (.cells (r.map (Value.int .i64)++rest).toArray t (0,0))}:=by
 obtain⟨h,f⟩:=s.set (x':=.row t 1 (r.map λx=>[A.int .i64 x])) a rfl rfl
  (λy g=>QaE e i y g) (λ_ hex=>⟨_,hex,Qae (Qdh r) (Qf4 r) (Qer r)⟩)
 exact⟨h.moved rfl a,f⟩
theorem Qho{w:World}{a b:Array Value}{t:Nat}(h:a.toList=b.toList):(w.drew.alloc (.cells a t)).heap=(w.alloc (.cells b t)).heap:=by
 rw[Xv.1 h];rfl
theorem Y0(b:Nat):∀(vs:List Value) (o:Nat) (w:World),(w.setCells b o vs).os=w.os/\(w.setCells b o vs).tape=w.tape/\(w.setCells b o vs).output=w.output/\(w.setCells b o vs).drawn=w.drawn
 |[],_,_=>⟨rfl,rfl,rfl,rfl⟩
 |v::vs,o,w=>Y0 b vs (o+1) (w.setCell ⟨b,o,none⟩ v)
theorem QgK{h:Array Obj}{a b:Obj}:(h.push a).setIfInBounds h.size b=h.push b:=by
 apply Array.ext_getElem?;intro i;rw[Ve];by_cases q:h.size=i
 .subst q;simp
 .rw[Vr q,Array.getElem?_push,Array.getElem?_push,Vr (λe=>q e.symm),Vr (λe=>q e.symm)]
theorem Qm6{n:Nat}:(Builtin.zeroCells (Value.int .i64 0).cells n).toList.length=n:=by simp[Builtin.zeroCells,Value.cells]
theorem Qjo{w:World}{t c j:Nat}{l m:List Int}(g:j<=l.length):
  (((((w.alloc (.cells (((l.map (Value.int .i64)).take j).toArray++Builtin.zeroCells (Value.int .i64 0).cells (l.length+m.length-j)++Builtin.zeroCells (Value.int .i64 0).cells c) t)).drew.setCells w.heap.size j (m.map (Value.int .i64))).drew).setCells w.heap.size (j+m.length) ((l.map (Value.int .i64)).drop j)).heap)=
   (w.alloc (.cells ((l.take j++m++l.drop j).map (Value.int .i64)++(Builtin.zeroCells (Value.int .i64 0).cells c).toList).toArray t)).heap:=by
 have e:=Qm6 (n:=l.length+m.length-j);generalize(Builtin.zeroCells (Value.int .i64 0).cells (l.length+m.length-j))=Z1 at*;generalize(Builtin.zeroCells (Value.int .i64 0).cells c)=Z2 at*;rw[show(((l.map (Value.int .i64)).take j).toArray++Z1++Z2)=((l.map (Value.int .i64)).take j++Z1.toList.take m.length++(Z1.toList.drop m.length++Z2.toList)).toArray from by
  apply Xv.1;simp[Array.toList_append,Vi];rw[<- Vi (List.take m.length _),Xz]]
 have f:((l.map (Value.int .i64)).take j).length=j:=by simp;omega
 have d:=Jk w.heap.size t (m.map (Value.int .i64)) ((l.map (Value.int .i64)).take j) (Z1.toList.take m.length) (Z1.toList.drop m.length++Z2.toList) (w.alloc (.cells ((l.map (Value.int .i64)).take j++Z1.toList.take m.length++(Z1.toList.drop m.length++Z2.toList)).toArray t)).drew (by simp at e⊢;omega) (Yu _ _);rw[f]at d;have a:=Jk w.heap.size t ((l.map (Value.int .i64)).drop j) ((l.map (Value.int .i64)).take j++m.map (Value.int .i64)) (Z1.toList.drop m.length) Z2.toList
  {(w.alloc (.cells ((l.map (Value.int .i64)).take j++Z1.toList.take m.length++(Z1.toList.drop m.length++Z2.toList)).toArray t)).drew with heap:=(w.alloc (.cells ((l.map (Value.int .i64)).take j++Z1.toList.take m.length++(Z1.toList.drop m.length++Z2.toList)).toArray t)).drew.heap.setIfInBounds w.heap.size (.cells ((l.map (Value.int .i64)).take j++m.map (Value.int .i64)++(Z1.toList.drop m.length++Z2.toList)).toArray t (0,0))}.drew (by simp at e⊢;omega) (by
   show((w.heap.push _).setIfInBounds w.heap.size _)[w.heap.size]?=_;simp)
 rw[show((l.map (Value.int .i64)).take j++m.map (Value.int .i64)).length=j+m.length from by simp;omega]at a;rw[d,a];show((w.heap.push _).setIfInBounds w.heap.size _).setIfInBounds w.heap.size _=w.heap.push _;rw[QgK,QgK];simp[Xf,List.map_take,List.map_drop]
theorem Qkc{P:Program}{ρ:Ren}(L:Lays2.n21 P ρ){t2:Nat}{l m r:List Int}{i:Int}(h:QkK l i m=some r):
  C P (ρ.f 21) [.osl 0 0 l.length 1,.int .i64 i,.osl 1 0 m.length 1] [.row (ρ.t 3) 1 (l.map λx=>[A.int .i64 x]),.row t2 1 (m.map λx=>[A.int .i64 x])]
   (λa H=>a=.osl 2 0 r.length 1/\H=[.dead,.row t2 1 (m.map λx=>[A.int .i64 x]),.row (ρ.t 3) 1 (r.map λx=>[A.int .i64 x])]):=by
 obtain⟨j,rfl,hj,hm,T,rfl⟩:=Qmj h;intro fr ro σ vals w s hv;obtain⟨v0,r0,rfl,ad,v1,r1,rfl,aj,v2,r2,rfl,ak,hr⟩:=hv;cases(show r2=[]from hr);cases(show v1=.int .i64 (j:Int)from aj);have ao:Ys=4294967296:=rfl;have ab:σ.length=2:=s.len;rcases ak with⟨h0,_⟩|⟨G,vp,Y,vt,vm,g1,rfl,g2,g3,g4,g5⟩
 .omega
 obtain rfl:vp=0:=by have:=g2 (by omega);omega
 obtain⟨am,f1,f2⟩:=s.blk 1 _ _ g1 rfl;obtain⟨ah,rfl⟩:=Qgm f2;have y:∀(k:Nat) v,(m.map (Value.int .i64))[k]?=some v->w.cell? ⟨G,0+k,none⟩=some v:=by
  intro k v E;unfold World.cell?;simp only[f1,Option.isSome_none,Xi,if_false,Xw];rw[Qa0,XM (by rw[X2];have:=(XL.1 E).1;rw[X2]at this;exact this)];exact E
 have B:(l.take j++m++l.drop j).length=l.length+m.length:=by simp;omega
 have u:∀(c0:Nat) (W:World) (zs:List Value) (e:Value),zs.length=grownCap w (l.length+m.length) c0 (ρ.t 3)-(l.length+m.length)->W.heap=(w.alloc (.cells ((l.take j++m++l.drop j).map (Value.int .i64)++zs).toArray (ρ.t 3))).heap->W.os=w.os->W.tape=w.tape->W.output=w.output->w.drawn<=W.drawn->
   e=.slice (some ⟨w.heap.size,0,none⟩) (l.length+m.length) (grownCap w (l.length+m.length) c0 (ρ.t 3))->
   ∃v r H' ro' τ,Ending.returned e=.returned v/\(r=.osl 2 0 (l.take j++m++l.drop j).length 1/\H'=[.dead,.row t2 1 (m.map λx=>[A.int .i64 x]),.row (ρ.t 3) 1 ((l.take j++m++l.drop j).map λx=>[A.int .i64 x])])/\Sim fr ro' (σ++τ) H' W/\VR ro' (σ++τ) W r v/\Qm fr ro w ro' W:=by
  intro c0 W zs e hz hh hos htp hou hdr he;obtain⟨s1,e1⟩:=Qnw s hh hos htp hou hdr;have ae:=grownCap_ge w (l.length+m.length) c0 (ρ.t 3);refine⟨_,_,_,ro,[some w.heap.size],rfl,⟨rfl,rfl⟩,s1,?_,e1⟩;rw[he];refine .inr ⟨w.heap.size,0,_,ρ.t 3,((l.take j++m++l.drop j).map (Value.int .i64)++zs).length,?_,by rw[B],λ_=>by simp,⟨by rw[B];exact ae,grownCap_le_maxLen _ _ _ _ (by unfold maxLen;omega)⟩,?_,?_⟩
  .rw[XN (by omega),ab];rfl
  .unfold World.shape?;rw[hh,Yu];simp
  .rw[X3,X2,B,hz];omega
 have fin:∀{W:World} {b n t' R:Nat} (z:Nat),l.length+m.length<=n->n<=9223372036854775807->W.shape? b=some (t',R)->(0+n)*1<=R->z=l.length+m.length->VR ro (σ++[some b]) W (.osl 2 0 (l.take j++m++l.drop j).length 1) (.slice (some ⟨b,0,none⟩) z n):=by
  intro W b n t' R z h1 h2 h3 h4 h5;refine .inr ⟨b,0,n,t',R,?_,by rw[B,h5],λ_=>by simp,⟨by rw[B];exact h1,h2⟩,h3,h4⟩;rw[XN (by omega),ab];rfl
 rcases ad with⟨h0,rfl⟩|⟨b,p,n,t',R,q1,rfl,q2,q3,q4,q5⟩
 .have ai:l=[]:=VI.1 h0;subst ai;obtain rfl:j=0:=by simpa using hj
  have N:=Any2.slices_Insert_int_end_grow L none 0 0 G 0 m.length Y [] (m.map (Value.int .i64)) w hm (XT _) (by omega) (by simp at T;omega) rfl (by simp) (λ_=>rfl) (λa ha=>by cases ha) y (Qbj m);refine N.mono ?_;rintro e W ⟨rfl,rfl⟩;refine u 0 _ (Builtin.zeroCells (Value.int .i64 0).cells (grownCap w (0+m.length) 0 (ρ.t 3)-(0+m.length))).toList _ (by simp[Builtin.zeroCells,Value.cells]) ?_ rfl rfl rfl (Nat.le_succ _) (by simp);exact Qho (by simp)
 .obtain⟨q3,M⟩:=q3;obtain⟨an,y1,y2⟩:=s.blk 0 _ _ q1 rfl;obtain⟨d,rfl⟩:=Qgm y2;have ag:G≠b:=λe=>by
   have:=s.inj 1 0 G _ _ g1 (e▸q1) rfl rfl rfl rfl;omega
  have al:n<=l.length+d.length:=by
   have:w.shape? b=some (ρ.t 3,(l.map (Value.int .i64)++d).length):=by unfold World.shape?;rw[y1];simp
   rw[this]at q4;cases q4;simp at q5;omega
  have hp:0<n->p=0:=λq=>by have:=q2 q;omega
  have F:∀k v,(l.map (Value.int .i64)++d)[k]?=some v->w.cell? ⟨b,0+k,none⟩=some v:=by
   intro k v E;unfold World.cell?;simp only[y1,Option.isSome_none,Xi,if_false,Xw];rw[Qa0];exact E
  have Q:∀(k:Nat) v,(l.map (Value.int .i64))[k]?=some v->w.cell? ⟨b,p+k,none⟩=some v:=by
   intro k v E;have J:=(XL.1 E).1;rw[X2]at J;obtain rfl:=hp (by omega);exact F k v (by rw[XM (by rw[X2];exact J)];exact E)
  have aa:∀k,w.frozen? ⟨b,k,none⟩=false:=by
   intro k;unfold World.frozen?;simp only[y1];simp
  have ac:∀k,w.frozen? ⟨G,k,none⟩=false:=by
   intro k;unfold World.frozen?;simp only[f1];simp
  by_cases g:l.length+m.length<=n
  .obtain rfl:=hp (by omega);have V:∀k,k<l.length+m.length->(w.cell? ⟨b,0+k,none⟩).isSome=true:=by
    intro k E;have J:k<(l.map (Value.int .i64)++d).length:=by simp;omega
    rw[F k _ (XK J)];rfl
   by_cases O:j=l.length
   .subst O;have N:=Any2.slices_Insert_int_end_room L b 0 l.length n G 0 m.length Y (m.map (Value.int .i64)) w hm g M (by simp) (λk E=>by simpa[Nat.add_assoc]using V (l.length+k) (by omega)) (λk _=>aa _) y (Qbj m);refine N.mono ?_;rintro e W ⟨rfl,rfl⟩;have e1:w.setCells b (0+l.length) (m.map (Value.int .i64))={w with heap:=w.heap.setIfInBounds b (.cells ((l.take l.length++m++l.drop l.length).map (Value.int .i64)++d.drop m.length).toArray (ρ.t 3) (0,0))}:=by
     have:=Jk b (ρ.t 3) (m.map (Value.int .i64)) (l.map (Value.int .i64)) (d.take m.length) (d.drop m.length) w (by simp;omega) (by rw[Vi,Xz];exact y1);rw[X2]at this;rw[Xw,this,X9,Xr];simp
    rw[e1];obtain⟨s2,X⟩:=QkJ (r:=l.take l.length++m++l.drop l.length) (rest:=d.drop m.length) s q1 y1 (by simp;omega);exact⟨_,_,_,ro,[some b],rfl,⟨rfl,rfl⟩,s2,fin _ g M (X.shape _ _ q4) q5 rfl,X⟩
   .have N:=Any2.slices_Insert_int_shift L b 0 l.length n j G 0 m.length Y (l.map (Value.int .i64)) (m.map (Value.int .i64)) w (by omega) hm g M ag (by simp) (by simp) Q V (λk _=>aa _) y (Qbj l) (Qbj m) vt t' vm R g4 q4 (by omega) (ac _) (ac _);refine N.mono ?_;rintro e W ⟨rfl,rfl⟩;have e1:(w.drew.setCells b (0+(j+m.length)) ((l.map (Value.int .i64)).drop j)).setCells b (0+j) (m.map (Value.int .i64))={w.drew with heap:=w.drew.heap.setIfInBounds b (.cells ((l.take j++m++l.drop j).map (Value.int .i64)++d.drop m.length).toArray (ρ.t 3) (0,0))}:=by
     have af:b<w.drew.heap.size:=(Vc.1 y1).1;have k1:=Jk b (ρ.t 3) ((l.map (Value.int .i64)).drop j) ((l.map (Value.int .i64)++d).take (j+m.length)) (((l.map (Value.int .i64)++d).drop (j+m.length)).take (l.length-j)) (((l.map (Value.int .i64)++d).drop (j+m.length)).drop (l.length-j)) w.drew (by simp;omega) (by rw[Vi,Xz,Xz];exact y1);rw[show((l.map (Value.int .i64)++d).take (j+m.length)).length=0+(j+m.length)from by simp;omega]at k1;have k2:=Jk b (ρ.t 3) (m.map (Value.int .i64)) ((l.map (Value.int .i64)++d).take j) (((l.map (Value.int .i64)++d).drop j).take m.length) ((l.map (Value.int .i64)).drop j++(((l.map (Value.int .i64)++d).drop (j+m.length)).drop (l.length-j))) {w.drew with heap:=w.drew.heap.setIfInBounds b (.cells ((l.map (Value.int .i64)++d).take (j+m.length)++(l.map (Value.int .i64)).drop j++((l.map (Value.int .i64)++d).drop (j+m.length)).drop (l.length-j)).toArray (ρ.t 3) (0,0))} (by simp;omega) (by
      show(w.drew.heap.setIfInBounds b _)[b]?=_;rw[Ve,Vs rfl,Vs af,List.take_add];simp only[Vi])
     rw[show((l.map (Value.int .i64)++d).take j).length=0+j from by simp;omega]at k2;rw[k1,k2];simp only[Array.setIfInBounds_setIfInBounds];rw[List.drop_drop,show j+m.length+(l.length-j)=(l.map (Value.int .i64)).length+m.length from by simp;omega,Va,X7 (by simpa using hj)];simp only[Xf,List.map_take,List.map_drop,Vi]
    rw[e1];obtain⟨s2,X⟩:=QkJ (w:=w.drew) (r:=l.take j++m++l.drop j) (rest:=d.drop m.length) (s.heap rfl) q1 y1 (by simp;omega);exact⟨_,_,_,ro,[some b],rfl,⟨rfl,rfl⟩,s2,fin _ g M (X.shape _ _ q4) q5 rfl,(Qm.heap (w:=w) (w':=w.drew) rfl rfl rfl rfl (Nat.le_succ _)).trans X⟩
  .by_cases O:j=l.length
   .subst O;have N:=Any2.slices_Insert_int_end_grow L (some ⟨b,p,none⟩) l.length n G 0 m.length Y (l.map (Value.int .i64)) (m.map (Value.int .i64)) w hm q3 (by omega) (by omega) (by simp) (by simp) (λh=>by cases h) (λa ha k v E=>by cases ha;rw[QaO];exact Q k v E) y (Qbj m);refine N.mono ?_;rintro e W ⟨rfl,rfl⟩;exact u n _ (Builtin.zeroCells (Value.int .i64 0).cells (grownCap w (l.length+m.length) n (ρ.t 3)-(l.length+m.length))).toList _ (by simp[Builtin.zeroCells,Value.cells]) (Qho (by simp)) rfl rfl rfl (Nat.le_succ _) rfl
   .have N:=Any2.slices_Insert_int_grow L b p l.length n j G 0 m.length Y (l.map (Value.int .i64)) (m.map (Value.int .i64)) w (by omega) hm q3 (by omega) (by omega) (by simp) (by simp) Q y (Qbj l) (Qbj m);refine N.mono ?_;rintro e W ⟨rfl,rfl⟩;refine u n _ (Builtin.zeroCells (Value.int .i64 0).cells (grownCap w (l.length+m.length) n (ρ.t 3)-(l.length+m.length))).toList _ (by simp[Builtin.zeroCells,Value.cells]) ?_ (by rw[(Y0 _ _ _ _).1];exact(Y0 _ _ _ _).1) (by rw[(Y0 _ _ _ _).2.1];exact(Y0 _ _ _ _).2.1) (by rw[(Y0 _ _ _ _).2.2.1];exact(Y0 _ _ _ _).2.2.1) (by
     rw[(Y0 _ _ _ _).2.2.2];show _<=(World.setCells _ _ _ _).drawn+1;rw[(Y0 _ _ _ _).2.2.2];exact Nat.le_add_right_of_le (Nat.le_add_right _ _)) rfl
    exact Qjo (by simpa using hj)
end Go.Sw
namespace Go.Sw
theorem TC.label{P:Program}{h0 N l:Nat}{env:Env}{H:Qd}{Q:QG}(h:Q .normal env H):TC P h0 N (.label l) env H Q:=
 λrd fr ro σ a w r hrd=>wpIn_label ⟨_,env,H,ro,σ,fr,rfl,h,r,Qm.refl _ _ _,rfl,Grow.refl _ _ _⟩
theorem QgA{P:Program}{b:Frame}{a:Act}{k:List Item}{cs:List Frame}{w:World}{c:Code}:step P (lone (b.atR a (.code (.scope c)::k)) cs w)=.next (lone (b.atR a (.code c::.inScope c::k)) cs w):=
 step_lone_go (by simp[stepG,stepG.exec,Frame.atR])
theorem Qe9{P:Program}{b:Frame}{a:Act}{k:List Item}{cs:List Frame}{w:World}{c:Code}:step P (lone (b.atR a (.inScope c::k)) cs w)=.next (lone (b.atR a k) cs w):=
 step_lone_go (by simp[stepG,stepG.exec,Frame.atR])
theorem TC.scope{P:Program}{h0 N:Nat}{c:Code}{env:Env}{H:Qd}{Q:QG}(h:TC P h0 N c env H Q):TC P h0 N (.scope c) env H Q:=by
 intro t s y σ a w r hrd b k cs hro hb f;obtain⟨e,p,m,j,d⟩:=h t s y σ a w r hrd b (.inScope c::k) cs hro hb f;refine⟨e,p,m,j,.of_steps (.one (fenced_calm hb f rfl) QgA) ?_⟩;obtain⟨x,i,H',l,σ',n,u,_⟩:=j;cases e with
 |normal=>exact StepsIn.trans d (.one (fenced_calm hb f rfl) Qe9)
 |exit id=>exact⟨λq g=>d.1 q (by rw[exitTo];exact g;simp),λf g=>d.2 f (by rw[exitTo];exact g;simp)⟩
 |ret=>exact d
 |_=>exact u.elim
theorem Qaf{P:Program}{o:Oper}{env:Env}{H:Qd}{T f off n:Nat}{x:Operand}{e:List A}{v:A}{fs:Array Field}{h:Field}(m:Qai P T f off n)(k:∀w,(underlying T).run P w=.ok (.struct fs) w)(d:fs[f]?=some h)(a:∀w,(isAgg h.type).run P w=.ok false w)
  (p:o.op=.field T x f:=by exact rfl)(hx:opA env x=.agg e:=by exact rfl)(hv:e[off]?=some v:=by exact rfl):OpV P o env H v:=
 OpV.field m (λj i l g w=>by
  have:=(l w).symm.trans (k w);cases this;rw[d]at g;cases g;exact a w) p hx hv
section
variable {P:Program} {o:Oper} {env:Env} {H:Qd} {fr ro:Nat->Prop} {σ:Sig} {w:World}
end
def fnm(P:Program)(i:Nat):String:=match P.funcs[i]? with|some f=>f.name|none=>""
theorem Qh9{P:Program}{f:FuncId}{B:Func}(d:(fnm P f=="runtime.NumGoroutine")=false)(h:P.funcs[f]?=some {B with name:=fnm P f}):Go.Proofs.Bears P f B:=⟨_,d,h⟩
def slK(P:Program)(t:Nat):Nat:=match P.underlying t with|some (.slice e)=>e|_=>0
def zA1:A->Value
 |.int k n=>.int k n
 |.bool b=>.bool b
 |.str _=>.string ⟨#[]⟩
 |.rsl _ _=>.slice none 0 0
 |.nils=>.slice none 0 0
 |.nilp=>.pointer none
 |.nilm=>.map none
 |.nilif=>.nilIface
 |_=>.nilFunc
def zA:A->Value
 |.agg r=>.agg (r.map zA1).toArray
 |a=>zA1 a
def kL(P:Program)(F:List (Nat×List (Nat×Nat)))(T:TyX)(Z:TyZ)(w:World):=
 (F.map λe=>(underlying e.1).run P w,F.map λe=>(P.fieldsOf e.1).toList.map λf=>(f.offset,(sizeOf f.type).run P w),
  T.ty.agg.map λe=>((isAgg e.1).run P w,(sizeOf e.1).run P w),T.ty.zer.map λe=>(zeroValue e.1).run P w,
  T.al.map λe=>(zeroValue e.1).run P w,T.sl.map λt=>(underlying t).run P w,Z.sl.map λe=>((underlying e.1).run P w,(sizeOf e.2.1).run P w))
def kR(P:Program)(F:List (Nat×List (Nat×Nat)))(T:TyX)(Z:TyZ)(w:World):=
 (F.map λe=>Result.ok (TypeDesc.struct (P.fieldsOf e.1)) w,F.map λe=>e.2.map λx=>(x.1,Result.ok x.2 w),
  T.ty.agg.map λe=>(Result.ok e.2.1 w,Result.ok e.2.2 w),T.ty.zer.map λe=>Result.ok (zA (.agg e.2.1)) w,
  T.al.map λe=>Result.ok (zA e.2) w,T.sl.map λt=>Result.ok (TypeDesc.slice (slK P t)) w,Z.sl.map λe=>(Result.ok (TypeDesc.slice e.2.1) w,Result.ok e.2.2 w))
def kT(F:List (Nat×List (Nat×Nat)))(T:TyX):Bool:=
 chkF F T.ty.fld&&T.ty.zer.all (λe=>zrB (.agg e.2.1) (zA (.agg e.2.1))&&F.contains (e.1,e.2.2))&&T.al.all λe=>zrB e.2 (zA e.2)&&Yn e.2&&(Yd e.2).all Yr
theorem QbL{α β:Type}{L:List α}{f g:World->α->β}(h:∀w,L.map (f w)=L.map (g w)){e:α}(he:e∈L)(w:World):f w e=g w e:=List.map_inj_left.1 (h w) e he
theorem PL.ofK{P:Program}:∀{fs:List Field} {pl:List (Nat×Nat)},(∀w:World,fs.map (λf=>(f.offset,(sizeOf f.type).run P w))=pl.map λx=>(x.1,Result.ok x.2 w))->PL P fs pl
 |[],[],_=>.nil
 |[],_::_,h=>by cases h default
 |_::_,[],h=>by cases h default
 |f::fs,(a,n)::pl,h=>by
  have h1:=λw=>List.cons.inj (h w);have e:=λw=>Prod.mk.inj (h1 w).1;obtain rfl:f.offset=a:=(e default).1;exact .cons (λw=>(e w).2) (PL.ofK λw=>(h1 w).2)
section
variable {P:Program} {F:List (Nat×List (Nat×Nat))} {T:TyX} {Z:TyZ}
theorem Qmd(h:kL P F T Z=kR P F T Z):∀e∈F,Qdn P e.1 e.2:=λe he=>
 ⟨_,λw=>by simpa using QbL (f:=λw e=>(underlying e.1).run P w) (λw=>(Prod.mk.inj (congrFun h w)).1) he w,PL.ofK λw=>QbL (f:=λw e=>(P.fieldsOf e.1).toList.map λf=>(f.offset,(sizeOf f.type).run P w)) (λw=>(Prod.mk.inj (Prod.mk.inj (congrFun h w)).2).1) he w⟩
theorem QbV.ofK(h:kL P F T Z=kR P F T Z)(k:kT F T=true):QbV P T:=by
 have d:=Qmd h;simp only[kT,XW,Xs]at k;refine⟨⟨Qnz d k.1.1,λe a=>?_,λe a=>?_⟩,λe a=>?_,λe a=>?_⟩
 .have:=QbL (f:=λw e=>((isAgg e.1).run P w,(sizeOf e.1).run P w)) (λw=>(Prod.mk.inj (Prod.mk.inj (Prod.mk.inj (congrFun h w)).2).2).1) a;exact⟨λw=>(Prod.mk.inj (this w)).1,λw=>(Prod.mk.inj (this w)).2⟩
 .have:=QbL (f:=λw e=>(zeroValue e.1).run P w) (λw=>(Prod.mk.inj (Prod.mk.inj (Prod.mk.inj (Prod.mk.inj (congrFun h w)).2).2).2).1) a;have q:=k.1.2 e a;exact⟨⟨_,this,zrC q.1⟩,d _ (List.contains_iff_mem.1 q.2)⟩
 .have:=QbL (f:=λw e=>(zeroValue e.1).run P w) (λw=>(Prod.mk.inj (Prod.mk.inj (Prod.mk.inj (Prod.mk.inj (Prod.mk.inj (congrFun h w)).2).2).2).2).1) a;have q:=k.2 e a;exact⟨⟨_,this,zrC q.1.1⟩,q.1.2,Xs.2 q.2⟩
 .exact⟨_,QbL (f:=λw t=>(underlying t).run P w) (λw=>(Prod.mk.inj (Prod.mk.inj (Prod.mk.inj (Prod.mk.inj (Prod.mk.inj (Prod.mk.inj (congrFun h w)).2).2).2).2).2).1) a⟩
theorem Qch.ofK(h:kL P F T Z=kR P F T Z)(k:∀f∈Z.fn,∀(a:Array Value) (w:World),(callFunc f a).run P w=.ok (.enter f a) w):Qch P Z:=⟨λe he=>by
 have:=QbL (f:=λw e=>((underlying e.1).run P w,(sizeOf e.2.1).run P w)) (λw=>(Prod.mk.inj (Prod.mk.inj (Prod.mk.inj (Prod.mk.inj (Prod.mk.inj (Prod.mk.inj (congrFun h w)).2).2).2).2).2).2) he;exact⟨λw=>(Prod.mk.inj (this w)).1,λw=>(Prod.mk.inj (this w)).2⟩,k⟩
theorem QnK{L:List Nat}(h:(λ(a:Array Value) (w:World)=>L.map λf=>(callFunc f a).run P w)=λa w=>L.map λf=>.ok (.enter f a) w):∀f∈L,∀(a:Array Value) (w:World),(callFunc f a).run P w=.ok (.enter f a) w:=
 λf hf a=>QbL (f:=λw f=>(callFunc f a).run P w) (λw=>congrFun (congrFun h a) w) hf
end
section
variable {P:Program}
theorem Qim.c{f:Field}{fs:List Field}{h a g:Nat}{e d:List Value->Prop}(k:∀h,QhA P f.type (h+1) 1 false e)(i:Qim P fs (h+1) (a+1) g d)(j:Nat.beq f.offset a=true:=by exact rfl)(hn:f.name≠"_":=by decide):
  Qim P (f::fs) (h+1) a (1+g) (λl=>∃l1 l2,l=l1++l2/\e l1/\d l2):=Qim.cons j hn (k h) (λ_=>rfl) i
theorem RF.c1{n:Nat}{T:Type}{e:T->List A}{wf:T->Prop}{f:Field}{fs:List Field}{off L:Nat}{T2:Type}{d:T2->List A}{a:T2->Prop}(h:RB P n f.type T e wf)(r:RF P n fs (off+1) L T2 d a)(g:f.offset=off:=by exact rfl)(hk:P.cellsOf f.type=1:=by kernel_rfl):
  RF P n (f::fs) off L (T×T2) (λp=>e p.1++d p.2) (λp=>wf p.1/\a p.2):=RF.cons g hk h r
end
@[reducible] def Kp{β:Type}(P:Program)(F:Option β)(f:FuncId)(args:List A)(H:Qd)(w:β->A)(H1:β->Qd):Prop:=∀r,F=some r->C P f args H (RQ w H1 r)
theorem Kp.b{β:Type}{P:Program}{F:Option β}{f:FuncId}{fn:Func}{c:Code}{N:Nat}{args:List A}{H:Qd}{w:β->A}{H1:β->Qd}(hf:P.funcs[f]?=some fn)(hb:fn.body=some c)(hN:fn.ntmps=N)(hA:Nat.ble args.length N=true)
  (h:∀r,F=some r->TC P H.length N c (Qcg 0 args) H (Jf P H.length fn (RQ w H1 r))):Kp P F f args H w H1:=λr e=>QW hf hb hN hA (h r e)
theorem Qdy{P:Program}{fn:Func}{tmps:Array Value}{R:Ending->World->Prop}{fr ro:Nat->Prop}{σ:Sig}{H:Qd}{tl:List Deferred}:
  ∀(ds:List Deferred) (w:World),ds.Nodup->(∀d∈ds,∃D,d={target:=.collected D,args:= #[]}/\ ¬ro D/\ ¬fr D/\(∀(i:Nat) (x:Blk),σ[i]?=some (some D)->H[i]?=some x->x.live=true->False)/\(∀(i d:Nat) (x:Blk),σ[i]?=some (some d)->H[i]?=some x->Hid w x d D->False)/\w.heap[D]?=some (.deferred (some [])))->
  Sim fr ro σ H w->(∀w',Sim fr ro σ H w'->Qm fr ro w ro w'->LeavesInM Fence.wide 0 P fn tmps R tl .returning w')->LeavesInM Fence.wide 0 P fn tmps R (ds++tl) .returning w
 |[],w,_,_,s,hk=>hk w s (Qm.refl _ _ _)
 |d::ds,w,hn,hd,s,hk=>by
  obtain⟨D,rfl,h1,h2,h3,h5,h4⟩:=hd d (by simp);obtain⟨n1,n2⟩:=List.nodup_cons.1 hn;obtain⟨s',ev⟩:=s.turn (obj:=.deferred none) h1 h2 h3 h5 (λy q=>by grind[World.shape?]);refine⟨(by simp),.inl ⟨D,_,rfl,run_takeDeferred h4,?_⟩⟩;refine Qdy ds _ n2 (λd' q=>?_) s' (λw' q1 q2=>hk w' q1 (ev.trans q2));obtain⟨D',rfl,g1,g2,g3,g5,g4⟩:=hd d' (by simp[q]);refine⟨D',rfl,g1,g2,g3,λi d x z1 z2 z3=>g5 i d x z1 z2 (s.hidKeep z1 z2 (λz=>World.putObj_heap_other (by grind)) (λb q=>World.putObj_heap_other (λe:b=D=>h1 (e▸q))) z3),(World.putObj_heap_other (λe=>?_)).trans g4⟩
  grind
def belA(h:Nat):A->Bool
 |.ptr i _=>Nat.blt i h
 |.int _ _=>true
 |.bool _=>true
 |.rp _=>true
 |_=>false
theorem belA.take{ro:Nat->Prop}{σ:Sig}{w:World}{h:Nat}{a:A}{v:Value}(d:belA h a=true)(q:VR ro σ w a v):VR ro (σ.take h) w a v:=by
 cases a with
 |ptr i o=>
  simp only[VR]at q⊢;obtain⟨b,f,e⟩:=q;have:i<h:=by simpa[belA]using d
  exact⟨b,by rw[List.getElem?_take_of_lt this];exact f,e⟩
 |int k n=>exact q
 |bool b=>exact q
 |rp g=>exact q
 |_=>cases d
theorem belL.take{ro:Nat->Prop}{σ:Sig}{w:World}{h:Nat}:∀{la:List A} {l:List Value},la.all (belA h)=true->LR ro σ w la l->LR ro (σ.take h) w la l
 |[],l,_,q=>q
 |a::r,l,hb,q=>by
  simp only[LR]at q⊢;simp only[List.all_cons,XW]at hb;obtain⟨v,l',h1,h2,h3⟩:=q;exact⟨v,l',h1,belA.take hb.1 h2,belL.take hb.2 h3⟩
theorem Qm.extTake{fr ro ro':Nat->Prop}{w w':World}(h:Qm fr ro w ro' w'){σ σ':Sig}{n:Nat}(e:σ'.take n=σ.take n):Ext ro (σ.take n) w ro' σ' w':=
 ⟨(h.ext σ []).sub,(h.ext σ []).keep,(h.ext σ []).shape,λi b q=>by
  rw[<- e]at q;by_cases hi:i<n
  .rw[List.getElem?_take_of_lt hi]at q;exact q
  .rw[XO (by simp;omega)]at q;cases q⟩
def Qht(h0:Nat)(fr ro:Nat->Prop)(σ:Sig)(w:World)(N:Nat)(ds:List Deferred)(Q0:QG)(QD:Nat->FuncId->List A->QG):Exit->Act->World->Prop:=
 λe a' w'=>Qau h0 fr ro σ w N ds Q0 e a' w'\/ ∃x env' H' ro' σ' fr' h1 f caps capv,ExR e x/\QD h1 f caps x env' H'/\Rel fr' ro' σ' H' env' N a' w'/\Qm fr ro w ro' w'/\σ'.take h0=σ.take h0/\h0<=h1/\
  LR ro' (σ'.take h1) w' caps capv/\Grow fr w ({target:=.fn (.func f) capv.toArray,args:= #[]}::ds) fr' a'.defers
def TCs(P:Program)(h0 N:Nat)(c:Code)(env:Env)(H:Qd)(Q0:QG)(QD:Nat->FuncId->List A->QG):Prop:=
 ∀fr ro σ a w,Rel fr ro σ H env N a w->(∀d∈a.defers,¬QiY d)->c.wpIn (WF none) 0 P (Qht h0 fr ro σ w N a.defers Q0 QD) a w
def SeqS(P:Program)(h0 N:Nat)(c:Code)(Q0:QG)(QD:Nat->FuncId->List A->QG):QG
 |.normal,env,H=>TCs P h0 N c env H Q0 QD
 |.exit id,env,H=>Q0 (.exit id) env H
 |.ret,env,H=>Q0 .ret env H
section
variable {P:Program} {h0 N:Nat} {env env':Env} {H H':Qd} {Q0:QG} {QD:Nat->FuncId->List A->QG} {c c':Code}
theorem sqN(h:TCs P h0 N c env H Q0 QD):SeqS P h0 N c Q0 QD .normal env H:=h
theorem sqR(h:Q0 .ret env H):SeqS P h0 N c Q0 QD .ret env H:=h
theorem Grow.noReal{fr fr':Nat->Prop}{w:World}{ds ds':List Deferred}(h:Grow fr w ds fr' ds')(k:∀d∈ds,¬QiY d):∀d∈ds',¬QiY d:=λd hd=>by
 rcases h.ds d hd with q|⟨D,rfl,_⟩
 .exact k d q
 .rintro⟨fv,cap,e⟩;simp at e
theorem Qht.grow{fr g ro l:Nat->Prop}{σ σ1:Sig}{w r:World}{ds i:List Deferred}{e:Exit}{a':Act}{w':World}
  (h:Qht h0 g l σ1 r N i Q0 QD e a' w')(he:Qm fr ro w l r)(s:σ1.take h0=σ.take h0)(hg:Grow fr w ds g i):Qht h0 fr ro σ w N ds Q0 QD e a' w':=by
 rcases h with h|⟨x,j,H',n,σ',p,y,f,k,a,F,H,t,E,z,B,G,u⟩
 .exact .inl (h.grow he s hg)
 .refine .inr ⟨x,j,H',n,σ',p,y,f,k,a,F,H,t,he.trans (E.frMono hg.sub),z.trans s,B,G,?_⟩;have m:Grow fr w ({target:=.fn (.func f) a.toArray,args:= #[]}::ds) g ({target:=.fn (.func f) a.toArray,args:= #[]}::i):=by
   refine⟨hg.sub,hg.new,λd q=>?_,λd q=>?_⟩
   .rcases X6.1 q with rfl|q
    .simp
    .exact X5 _ (hg.kd d q)
   .rcases X6.1 q with rfl|q
    .simp
    .exact(hg.ds d q).imp (X5 _) id
  exact m.trans he.size u
theorem TCs.seq(h:TC P h0 N c env H (SeqS P h0 N c' Q0 QD)):TCs P h0 N (.seq c c') env H Q0 QD:=by
 intro t u σ a w r hn;refine wpIn_seq (Code.wpIn_mono ?_ (h none t u σ a w r QdP.none));rintro e s p ⟨x,d,H',f,σ',g,i,l,m,k,n,j⟩;cases e with
 |normal=>
  obtain rfl:x=.normal:=i;exact Code.wpIn_mono (λe a w q=>q.grow k n j) (l g f σ' s p m (j.noReal hn))
 |exit id=>
  obtain rfl:x=.exit id:=i;exact .inl ⟨_,d,H',f,σ',g,rfl,l,m,k,n,j⟩
 |ret=>
  obtain rfl:x=.ret:=i;exact .inl ⟨_,d,H',f,σ',g,rfl,l,m,k,n,j⟩
 |_=>exact i.elim
theorem TCs.le(f:Le h0 env H env' H')(h:TCs P h0 N c env' H' Q0 QD):TCs P h0 N c env H Q0 QD:=by
 intro g i σ a w r hn;obtain⟨d,σ',j,s,t⟩:=f g i σ N a w r;exact Code.wpIn_mono (λe a w q=>q.grow (Q5 s) t (Grow.refl _ _ _)) (h g d σ' a w j hn)
theorem TCs.defer{i h:Oper}{d id f:Nat}{caps:List A}(hv:OpV P i env H (.fn (.func f) [] caps))(O:h0<=H.length)(Q:caps.all (belA H.length)=true)
  (k:TC P H.length N c' (up env d (.fn (.func f) [] caps)) H (QD H.length f caps))
  (z:i.dst=some d:=by exact rfl)(hg1:QI [i,h].toArray i env true:=by exact rfl)(hg2:QI [i,h].toArray h (up env d (.fn (.func f) [] caps)) true:=by exact rfl)(hN:Nat.blt d N=true:=by exact rfl)
  (l:∃M,h.op=.defer ⟨.value (.tmp d), #[],M⟩:=by exact⟨_,rfl⟩)(hd2:h.dst=none:=by exact rfl):TCs P h0 N (.seq (.region id [i,h].toArray false) c') env H Q0 QD:=by
 intro fr m σ a w r hn;have J:d<N:=by simp_all
 have G:d<a.tmps.size:=by rw[r.size];exact J
 obtain⟨v,p,B⟩:=hv fr m σ N a w r;obtain⟨W,g,rfl,y,t⟩:=B;obtain rfl:W=[]:=y;obtain⟨M,l⟩:=l
 let a1:Act:={a with tmps:=a.tmps.setIfInBounds d (.func (.func f) #[] g.toArray)}
 let D0:Deferred:={target:=.fn (.func f) g.toArray,args:= #[]}
 have u:Rel fr m σ H (up env d (.fn (.func f) [] caps)) N a1 w:=⟨r.sim,VR.up (fr:=fr) r.env G ⟨[],g,rfl,rfl,t⟩,by simpa[a1]using r.size,r.defers⟩;have X:Rel fr m σ H (up env d (.fn (.func f) [] caps)) N {a1 with defers:=D0::a.defers} w:=by
  refine⟨u.sim,u.env,u.size,List.nodup_cons.2 ⟨λq=>hn _ q ⟨_,_,rfl⟩,r.defers.1⟩,λd' j=>?_⟩;rcases X6.1 j with rfl|j
  .exact .inr ⟨_,_,rfl⟩
  .exact r.defers.2 d' j
 have V:a1.eval (.tmp d)=.func (.func f) #[] g.toArray:=by
  show(a.tmps.setIfInBounds d _).getD d undef=_
  simp_all
 have s:(execOp a1.eval h).run P w=.ok (.defer D0) w:=by
  simp[execOp,l,resolve,V,Deferred.ofValue,D0]
 refine wpIn_seq (wpIn_region_lit ?_);refine Qaa (YO hg1 r) p ?_;simp only[z,Act.put];unfold wpL wpListIn;rw[Vs (YO hg2 u)];refine⟨λ_ _=>trivial,?_⟩;have Y:(h.semAt (WF none).round a1.eval).run P w=.ok (.defer D0) w:=by
  have e:h.semAt (WF none).round a1.eval=execOp a1.eval h:=rfl;rw[e];exact s
 rw[Y];show wpL P none [i,h].toArray (Exit.then (Code.wpIn (WF none) 0 P c' (Qht h0 fr m σ w N a.defers Q0 QD)) (Qht h0 fr m σ w N a.defers Q0 QD)) [] (Act.put {a1 with defers:=D0::a.defers} h.dst undef) w;simp only[hd2,Act.put];refine wpListIn_nil ?_;refine Code.wpIn_mono ?_ (k none fr m σ _ w X QdP.none);rintro e a' w' ⟨x,n,H',E,σ',F,z1,z2,T,R,L,z6⟩;refine .inr ⟨x,n,H',E,σ',F,H.length,f,caps,g,z1,z2,T,R,?_,O,?_,z6⟩
 .have:=congrArg (List.take h0) L
  rwa [List.take_take,List.take_take,XB O]at this
 .have q:=(belL.take Q t).mono (R.extTake L);exact belL.take Q q
end
def RetD(P:Program)(h0:Nat)(Q:A->Qd->Prop)(h1:Nat)(f:FuncId)(caps:List A):QG
 |.normal,env,H=>∃env' H' fD id l,Le h1 env H env' H'/\P.funcs[f]?=some fD/\fD.body=some (.region id (l:List Oper).toArray false)/\(∀args w,(callFunc f args).run P w=.ok (.enter f args) w)/\Nat.ble caps.length fD.ntmps=true/\WO P h0 fD.ntmps l.toArray l (Qcg 0 caps) H' (Jf P h0 fD λ_ H=>Q (.tup []) H)
 |_,_,_=>False
theorem RetD.mk{P:Program}{h0:Nat}{Q:A->Qd->Prop}{h1:Nat}{f:FuncId}{caps:List A}{env env':Env}{H H':Qd}{fD:Func}{id:Nat}{l:List Oper}(hle:Le h1 env H env' H')(hf:P.funcs[f]?=some fD)(hb:fD.body=some (.region id l.toArray false))(eg:∀args w,(callFunc f args).run P w=.ok (.enter f args) w)(hN:Nat.ble caps.length fD.ntmps=true)
  (h:WO P h0 fD.ntmps l.toArray l (Qcg 0 caps) H' (Jf P h0 fD λ_ H=>Q (.tup []) H)):RetD P h0 Q h1 f caps .normal env H:=⟨env',H',fD,id,l,hle,hf,hb,eg,hN,h⟩
theorem Qip{P:Program}{f:FuncId}{fn:Func}{c:Code}{N:Nat}{args:List A}{H:Qd}{Q:A->Qd->Prop}
  (hf:P.funcs[f]?=some fn)(hb:fn.body=some c)(hN:fn.ntmps=N)(hA:Nat.ble args.length N=true)(hR:fn.results= #[])
  (h:TCs P H.length N c (Qcg 0 args) H (Jf P H.length fn Q) (RetD P H.length Q)):C P f args H Q:=by
 intro fr ro σ vals w hs hl;have av:=hl.length;have az:args.length<=N:=by simp_all
 refine(callsIn_wide (n:=0)).1 (callsIn_of_wp_marks hf hb trivial (Code.wpIn_mono ?_ (h fr ro σ _ w ⟨hs,?_,?_,List.nodup_nil,λd m=>by cases m⟩ (λd m=>by cases m))))
 .rintro e T E hp;have u:∀{σ':Sig},σ'.take H.length=σ.take H.length->σ'=σ++σ'.drop H.length:=by
   intro σ' ht;have e1:σ'.take H.length=σ:=by rw[ht,VH (by rw[hs.len];omega)]
   grind[List.take_append_drop]
  rcases hp with⟨x,X,H1,ab,σ1,F,W,h2,h3,h4,h5,h6⟩|⟨x,X,H1,ab,σ1,F,hh,g,M,a,W,h2,h3,h4,h5,h8,h7,h6⟩
  .have an:(∃k H' r,Le H.length X H1 k H'/\QbW P fn k H' r/\Q r H')->LeavesInM Fence.wide 0 P fn T.tmps (λe E=>
     ∃v' r H' t τ,e=.returned v'/\Q r H'/\Sim fr t (σ++τ) H' E/\VR t (σ++τ) E r v'/\Qm fr ro w t E) T.defers .returning E:=by
    rintro⟨k,H',r,ac,hr,hq⟩;obtain⟨t,σ',y,B,ht⟩:=ac F ab σ1 N T E h3;have hσ:=u (ht.trans h5);have s1:Sim fr t σ' H' E:=y.sim.frMono h6.sub;refine QaA (ro:=t) (fr:=fr) (σ:=σ') (H:=H') T.defers E y.defers.1 (λd m=>?_) s1 (λO s2 J=>?_)
    .obtain⟨D,rfl,q'⟩:=(h6.ds d m).resolve_left (by simp);obtain⟨G,V⟩:=y.defers.mark m;exact⟨D,rfl,λq=>y.sim.roFr D q G,λq=>(by have:=hs.frLt D q;omega),λi x q1 q2 q3=>(y.sim.own i D x q1 q2 q3).2.2 G,λi d x q1 q2 q3=>(y.sim.hid i d x D q1 q2 q3).fr G,V⟩
    .have ar:Rel fr t σ' H' k N {T with defers:=[]} O:=⟨s2,λs=>(y.env s).mono (by have:=J.ext σ' [];grind),y.size,List.nodup_nil,λd m=>by cases m⟩;obtain⟨v,e1,e2⟩:=hr fr t σ' N _ O ar;exact⟨v,e1,v,r,H',t,σ'.drop H.length,rfl,hq,hσ▸s2,hσ▸e2,(h4.trans (Q5 B)).trans J⟩
   cases e with
   |normal=>
    obtain rfl:x=.normal:=W;exact an h2
   |ret=>
    obtain rfl:x=.ret:=W;exact an h2
   |exit id=>
    obtain rfl:x=.exit id:=W;exact h2.elim
   |_=>exact W.elim
  .cases e with
   |normal=>
    obtain rfl:x=.normal:=W;obtain⟨k,H',fD,id,l,ac,gf,gb,eg,gN,hw⟩:=h2;obtain⟨p,σ2,r2,B,ht⟩:=ac F ab σ1 N T E h3;have au:LR p σ2 E M a:=by
     rw[<- ht]at h7;exact h7.mono ⟨B,λ_ _=>rfl,λ_ _ q=>q,λi b q=>by
      by_cases hi:i<hh
      .rw[List.getElem?_take_of_lt hi]at q;exact q
      .rw[XO (by simp;omega)]at q;cases q⟩
    have aq:σ2.take H.length=σ.take H.length:=by
     have:=congrArg (List.take H.length) ht;rw[List.take_take,List.take_take,XB h8]at this;exact this.trans h5
    have ai:∀b,fr b->F b:=h6.sub;have af:({target:=.fn (.func g) a.toArray,args:= #[]}:Deferred)∈T.defers:=h6.kd _ (by simp);have L:∀d∈T.defers,d={target:=.fn (.func g) a.toArray,args:= #[]}\/ ∃D,d={target:=.collected D,args:= #[]}/\w.heap.size<=D/\F D/\E.heap[D]?=some (.deferred (some [])):=λd m=>by
     rcases h6.ds d m with q|⟨D,rfl,q⟩
     .exact .inl (by simpa using q)
     .obtain⟨G,V⟩:=r2.defers.mark m;exact .inr ⟨D,rfl,q,G,V⟩
    have al:=r2.defers.1;obtain⟨A1,B1,ak⟩:=List.append_of_mem af;rw[ak]at al L;show LeavesInM Fence.wide 0 P fn T.tmps _ T.defers .returning E;rw[ak];obtain⟨n1,n2,n3⟩:=List.nodup_append.1 al;obtain⟨n4,n5⟩:=List.nodup_cons.1 n2
    let frA:Nat->Prop:=λb=>F b/\ ∀D,({target:=.collected D,args:= #[]}:Deferred)∈A1->b≠D
    have cond:∀{frX frY roX:Nat->Prop} {σX:Sig} {HX:Qd} {wX:World},Sim frX roX σX HX wX->∀D,frX D->¬frY D->wX.heap[D]?=some (.deferred (some []))->
      ∃D',({target:=.collected D,args:= #[]}:Deferred)={target:=.collected D',args:= #[]}/\ ¬roX D'/\ ¬frY D'/\(∀(i:Nat) (x:Blk),σX[i]?=some (some D')->HX[i]?=some x->x.live=true->False)/\(∀(i d:Nat) (x:Blk),σX[i]?=some (some d)->HX[i]?=some x->Hid wX x d D'->False)/\wX.heap[D']?=some (.deferred (some [])):=
     λs D G V g3=>⟨D,rfl,λq=>s.roFr D q G,V,λi x q1 q2 q3=>(s.own i D x q1 q2 q3).2.2 G,λi d x q1 q2 q3=>(s.hid i d x D q1 q2 q3).fr G,g3⟩
    refine Qdy (ro:=p) (fr:=frA) (σ:=σ2) (H:=H') A1 E n1 (λd m=>?_) (r2.sim.frMono λb q=>q.1) (λO s2 J=>?_)
    .rcases L d (List.mem_append_left _ m)with rfl|⟨D,rfl,g0,G,V⟩
     .exact absurd rfl (n3 _ m _ (by simp))
     .exact cond r2.sim D G (λq=>q.2 D m rfl) V
    have ah:Ext p σ2 E p σ2 O:=by have:=J.ext σ2 [];grind
    have Y:=au.mono ah;have ax:=Y.length;have ay:M.length<=fD.ntmps:=XR gN;have rD:Rel frA p σ2 H' (Qcg 0 M) fD.ntmps {tmps:=a.toArray++Array.replicate (fD.ntmps-a.toArray.size) undef,defers:=[]} O:=by
     refine⟨s2,λs=>?_,?_,List.nodup_nil,λd m=>by cases m⟩
     .have:=QcJ (i:=0) [] rfl Y (Array.replicate (fD.ntmps-a.toArray.size) undef) s
      grind
     .grind
    have aa:CallsDIn Fence.wide 0 P g a.toArray .returning O λe u' z=>u'=.returning/\ ∃v,e=.returned v/\ ∃H3 j σ3,Q (.tup []) H3/\Sim frA j σ3 H3 z/\Qm frA p O j z/\σ3.take H.length=σ2.take H.length:=by
     refine callsDIn_of_wp (R:=λe z=>∃v,e=.returned v/\ ∃H3 j σ3,Q (.tup []) H3/\Sim frA j σ3 H3 z/\Qm frA p O j z/\σ3.take H.length=σ2.take H.length) gf gb trivial (wpIn_region_lit (Yo ?_ _ _ _ (hw none frA p σ2 _ O rD QdP.none)));rintro e a3 z ⟨x,am,H3,j,σ3,ad,z1,z2,z3,z4,z5,z6,z7⟩;have fin:(∃k H' r,Le H.length am H3 k H'/\QbW P fD k H' r/\Q (.tup []) H')->a3.defers=[]/\ ∃v,(results fD a3.tmps).run P z=.ok v z/\ ∃v',Ending.returned v=.returned v'/\ ∃H3 j σ3,Q (.tup []) H3/\Sim frA j σ3 H3 z/\Qm frA p O j z/\σ3.take H.length=σ2.take H.length:=by
      rintro⟨aw,H4,r4,y1,y2,y3⟩;obtain⟨aj,σ4,ag,y4,y5⟩:=y1 ad j σ3 _ a3 z z3;obtain⟨v,e1,e2⟩:=y2 ad aj σ4 _ a3 z ag;exact⟨z6,v,e1,v,rfl,H4,aj,σ4,y3,ag.sim.frMono z7.sub,z4.trans (Q5 y4),y5.trans z5⟩
     cases e with
     |normal=>
      obtain rfl:x=.normal:=z1;exact fin z2
     |ret=>
      obtain rfl:x=.ret:=z1;exact fin z2
     |exit id=>
      obtain rfl:x=.exit id:=z1;exact z2.elim
     |_=>exact z1.elim
    refine⟨(by simp),.inr ⟨(λh=>by simp[Fence.wide]at h),.func g,a.toArray,g,a.toArray,rfl,?_,λ_ _=>trivial,aa.mono ?_⟩⟩
    .have:=eg (#[]++a.toArray) O;simpa[invoke]using this
    rintro e u' z ⟨rfl,v,rfl,H3,j,σ3,y1,s3,ae,y4⟩;have hσ:=u (y4.trans aq);refine QaA (ro:=j) (fr:=fr) (σ:=σ3) (H:=H3) B1 z n5 (λd m=>?_) (s3.frMono λb q=>⟨ai b q,λD hD e=>?_⟩) (λw4 s4 ao=>?_)
    .rcases L d (List.mem_append_right _ (X5 _ m))with rfl|⟨D,rfl,g0,G,V⟩
     .exact absurd m n4
     .have gA:frA D:=⟨G,λD' hD' e=>by subst e;exact n3 _ hD' _ (X5 _ m) rfl⟩;exact cond s3 D gA (λq=>by have:=hs.frLt D q;omega) ((ae.keepFr D gA).trans ((J.keepFr D gA).trans V))
    .rcases L _ (List.mem_append_left _ hD)with q'|⟨D',e',g0,_⟩
     .simp at q'
     .have:D=D':=by simpa using e'
      have:=hs.frLt b q;omega
    .have ev:Qm fr ro w j w4:=((h4.trans (Q5 B)).trans ((J.trans ae).frMono λb q=>⟨ai b q,λD hD e=>by
      rcases L _ (List.mem_append_left _ hD)with q'|⟨D',e',g0,_⟩
      .simp at q'
      .have:D=D':=by simpa using e'
       have:=hs.frLt b q;omega⟩)).trans ao
     exact⟨.tuple #[],by simp[results,hR],.tuple #[],.tup [],H3,j,σ3.drop H.length,rfl,y1,hσ▸s4,⟨[],rfl,rfl⟩,ev⟩
   |ret=>
    obtain rfl:x=.ret:=W;exact h2.elim
   |exit id=>
    obtain rfl:x=.exit id:=W;exact h2.elim
   |_=>exact W.elim
 .intro s;have:=QcJ (i:=0) [] rfl hl (Array.replicate (fn.ntmps-vals.toArray.size) undef) s
  grind
 grind
section
variable {P:Program} {o:Oper} {env:Env} {H:Qd} {h0 N:Nat} {Q:QG}
theorem Qih{α:Type}{T E i k:Nat}{u:TypeId}{x:Operand}{l:List α}(z:P.underlying T=some (.slice E))(F:o.op=.binOp .eql T x (.const (.slice none 0 0)) u)(q:opA env x=.osl i 0 l.length k):
  OpE P o env H (λv H'=>∃b:Bool,v=.bool b/\(l≠[]->b=false)/\H'=H):=by
 intro s n σ N a w r;have f:=Qu r x;rw[q]at f;obtain⟨e,d,f,y⟩:∃e d,a.eval x=.slice e l.length d/\(l≠[]->e.isNone=false):=by
  rcases f with⟨h,g⟩|⟨b,p,d,t,m,_,g,_⟩
  .exact⟨none,0,by rw[g,h],λj=>absurd (List.eq_nil_of_length_eq_zero h) j⟩
  .exact⟨_,d,g,λ_=>rfl⟩
 refine⟨.bool e.isNone,H,.bool e.isNone,w,n,[],⟨e.isNone,rfl,λj=>?_,rfl⟩,?_,rfl,by simpa using r.sim,Qm.refl _ _ _⟩
 .grind
 .have B:a.eval (.const (.slice none 0 0))=.slice none 0 0:=rfl
  grind[eqGuard,execOp,Sem.run_bind,Result.andThen,Go.run_eql_slice_nil,Sem.run_pure]
theorem QjP{α:Type}{T E i k d:Nat}{u:TypeId}{x:Operand}{l:List α}{all:Array Oper}{L:List Oper}(a:P.underlying T=some (.slice E))(f:opA env x=.osl i 0 l.length k)
  (g:∀b,(l≠[]->b=false)->WO P h0 N all L (up env d (.bool b)) H Q)
  (e:o.op=.binOp .eql T x (.const (.slice none 0 0)) u:=by exact rfl)(hg:QI all o env true:=by exact rfl)(hd:o.dst=some d:=by exact rfl)(hN:Nat.blt d N=true:=by exact rfl)(hh:Nat.ble h0 H.length=true:=by exact rfl):WO P h0 N all (o::L) env H Q:=by
 refine QlA (by simp_all) hg hd hN (Qih a e f) ?_
 grind
end
mutual
def roFree:A->Bool
 |.rp _=>false
 |.rsl _ _=>false
 |.agg cs=>QaT cs
 |.fn _ a c=>QaT a&&QaT c
 |.iface _ v=>roFree v
 |.tup vs=>QaT vs
 |_=>true
def QaT:List A->Bool
 |[]=>true
 |a::r=>roFree a&&QaT r
end
mutual
theorem VR.roFree{ro ro':Nat->Prop}{σ:Sig}{w:World}:∀{a:A} {v:Value},Go.Sw.roFree a=true->VR ro σ w a v->VR ro' σ w a v
 |.any,_,_,_=>trivial
 |.bool _,_,_,h=>h
 |.int _ _,_,_,h=>h
 |.str _,_,_,h=>h
 |.nilp,_,_,h=>h
 |.ptr _ _,_,_,h=>h
 |.rp _,_,hs,_=>by simp[Go.Sw.roFree]at hs
 |.nils,_,_,h=>h
 |.rsl _ _,_,hs,_=>by simp[Go.Sw.roFree]at hs
 |.osl _ _ _ _,_,_,h=>h
 |.agg cs,v,hs,h=>by
  simp only[VR,Go.Sw.roFree]at h hs⊢;obtain⟨l,h1,h2⟩:=h;exact⟨l,h1,LR.roFree hs h2⟩
 |.fn f a c,v,hs,h=>by
  simp only[VR,Go.Sw.roFree,XW]at h hs⊢;obtain⟨l,l',h1,h2,h3⟩:=h;exact⟨l,l',h1,LR.roFree hs.1 h2,LR.roFree hs.2 h3⟩
 |.nilf,_,_,h=>h
 |.iface t a,v,hs,h=>by
  simp only[VR,Go.Sw.roFree]at h hs⊢;obtain⟨x,h1,h2⟩:=h;exact⟨x,h1,VR.roFree hs h2⟩
 |.nilif,_,_,h=>h
 |.map _,_,_,h=>h
 |.nilm,_,_,h=>h
 |.tup vs,v,hs,h=>by
  simp only[VR,Go.Sw.roFree]at h hs⊢;obtain⟨l,h1,h2⟩:=h;exact⟨l,h1,LR.roFree hs h2⟩
theorem LR.roFree{ro ro':Nat->Prop}{σ:Sig}{w:World}:∀{cs:List A} {l:List Value},QaT cs=true->LR ro σ w cs l->LR ro' σ w cs l
 |[],_,_,h=>h
 |a::r,l,hs,h=>by
  simp only[LR,QaT,XW]at h hs⊢;obtain⟨v,l',h1,h2,h3⟩:=h;exact⟨v,l',h1,VR.roFree hs.1 h2,LR.roFree hs.2 h3⟩
end
inductive QjQ:Blk->Blk->Prop
 |kc (t:Nat) (cs:List A) (h:QaT cs=true):QjQ (.cells t cs) (.cells t cs)
 |mp (es:List (A×A)):QjQ (.fmap es) (.map es)
inductive QfK:Qd->Qd->Prop
 |nil:QfK [] []
 |cons {x y:Blk} {r s:Qd} (h:QjQ x y) (k:QfK r s):QfK (x::r) (y::s)
theorem QfK.len{a b:Qd}(h:QfK a b):a.length=b.length:=by induction h<;>simp_all
theorem QfK.at{a b:Qd}(h:QfK a b):∀{i:Nat} {y:Blk},b[i]?=some y->∃x,a[i]?=some x/\QjQ x y:=by
 induction h with
 |nil=>intro i y q;simp at q
 |cons h k d=>
  intro i y q;cases i with
  |zero=>exact⟨_,rfl,by simp at q;exact q▸h⟩
  |succ i=>simpa using d (by simpa using q)
theorem QjQ.live{x y:Blk}(h:QjQ x y):y.live=true:=by cases h<;>rfl
theorem QnT{β:Type}{P:Program}{f:FuncId}{args:List A}{Hf H:Qd}{X:β->A}{r:β}(L:QfK Hf H)(hC:Csm P f args Hf X r)(hs:Ya (X r)=true):Csm P f args H X r:=by
 intro W R σ vals w s hl;have E:σ.length=Hf.length:=s.len.trans L.len.symm
 let lent:Nat->Prop:=λb=>∃(i:Nat) (u:List (A×A)),σ[i]?=some (some b)/\H[i]?=some (.map u)
 have a:∀b,lent b->b<w.heap.size/\ ¬R b/\ ¬W b:=λb ⟨i,u,g,d⟩=>s.own i b _ g d rfl
 let roF:Nat->Prop:=λb=>R b\/lent b
 have F:Ext R σ w roF σ w:=⟨λ_ q=>.inl q,λ_ _=>rfl,λ_ _ q=>q,λ_ _ q=>q⟩;have sF:Sim W roF σ Hf w:=by
  refine⟨E,s.roOk.to (λ_ q=>.inl q) (λ_ _=>rfl) (λb q=>q.elim (s.roLt b) λq=>(a b q).1),s.frLt,λb q=>q.elim (s.roFr b) λq=>(a b q).2.2,λi b x g d G=>?_,λi j b x y g d G h4 h5 h6=>?_,λi o x g d=>?_,λi b x c g d G=>?_⟩
  all_goals
   have M:∀{i:Nat} {x:Blk},Hf[i]?=some x->∃y,H[i]?=some y/\QjQ x y:=λ{i x} q=>by
    have:i<H.length:=by rw[<- L.len];exact(XL.1 q).1
    obtain⟨x',k,m⟩:=L.at (XK this);rw[q]at k;cases k;exact⟨_,XK this,m⟩
  .obtain⟨y,k,m⟩:=M d;obtain⟨p1,Y,V⟩:=s.own i b y g k m.live;refine⟨p1,λq=>q.elim Y ?_,V⟩;rintro⟨j,u,z1,z2⟩;have:=s.inj i j b _ _ g z1 k z2 m.live rfl;subst this;rw[k]at z2;cases z2;cases m;cases G
  .obtain⟨y1,k,m⟩:=M G;obtain⟨y2,q3,q4⟩:=M h4;exact s.inj i j b _ _ g d k q3 m.live q4.live
  .obtain⟨y,k,m⟩:=M d;have B:=s.blk i o y g k;cases m with
   |kc t cs h=>exact B.keep F (λ_ _ _=>rfl) (λ_ _ _ _=>rfl)
   |mp u=>
    cases o with
    |none=>exact B.elim
    |some b=>
     obtain⟨l,n,Q,O,N⟩:=B;exact⟨.inr ⟨i,u,g,k⟩,l,n,Q,O.mono ⟨λ_ q=>.inl q,λ_ _=>rfl,λ_ _ q=>q,λ_ _ q=>q⟩,N⟩
  .obtain⟨y,k,m⟩:=M d;cases m<;>exact G.elim
 refine Calls.mono (hC W roF σ vals w sF (hl.mono F)) ?_;rintro e w' ⟨v,r',H1,aa,τ,rfl,⟨rfl,rfl⟩,J,hv,ev⟩;have hτ:τ=[]:=by
  have:=J.len;rw[X3,E]at this;exact List.eq_nil_of_length_eq_zero (by omega)
 subst hτ;rw[Vg]at J hv
 let ro2:Nat->Prop:=λb=>aa b/\ ¬lent b
 have p:∀b,R b->ro2 b:=λb q=>⟨ev.sub b (.inl q),λq'=>(a b q').2.1 q⟩;have T:∀b,lent b->w'.heap[b]?=w.heap[b]? :=λb q=>ev.keepRo b (.inr q);refine⟨v,_,H,ro2,[],rfl,⟨rfl,rfl⟩,?_,?_,⟨p,λb q=>ev.keepRo b (.inl q),ev.keepFr,ev.size,ev.shape,ev.os,ev.tape,ev.output,ev.drawn⟩⟩
 .rw[Vg];refine⟨s.len,s.roOk.to p (λb q=>ev.keepRo b (.inl q)) (λb q=>J.roLt b q.1),J.frLt,λb q=>J.roFr b q.1,λi b y g d G=>?_,s.inj,λi o y g d=>?_,λi b y c g d G=>?_⟩
  .obtain⟨x,k,m⟩:=L.at d;cases m with
   |kc t cs h=>
    obtain⟨p1,Y,V⟩:=J.own i b _ g k rfl;exact⟨p1,λq=>Y q.1,V⟩
   |mp u=>
    have q:lent b:=⟨i,u,g,d⟩;exact⟨Vf (a b q).1 ev.size,λz=>z.2 q,(a b q).2.2⟩
  .obtain⟨x,k,m⟩:=L.at d;cases m with
   |kc t cs h=>
    have B:=J.blk i o _ g k;cases o with
    |none=>exact B
    |some b=>
     obtain⟨l,Q,O,N⟩:=B;exact⟨l,Q,O.roFree h,N⟩
   |mp u=>
    have B:=s.blk i o _ g d;cases o with
    |none=>exact B
    |some b=>
     obtain⟨l,n,Q,O,N⟩:=B;exact⟨l,n,(T b ⟨i,u,g,d⟩).trans Q,O.mono ⟨p,λb q=>ev.keepRo b (.inl q),ev.shape,λ_ _ q=>q⟩,N⟩
  .obtain⟨x,k,m⟩:=L.at d;cases m<;>exact G.elim
 .exact hv.scalar hs
abbrev Ea:=@Ev.bind
abbrev Ec:=@FzH.keep
abbrev Ed:=@FzL.cons
abbrev Ee:=@FzA.refl
abbrev Ef:=@TC.le
abbrev Eg:=@PL.cons
abbrev Eh:=@DS.done
abbrev Ei:=@Ev.and
abbrev Ej:=@EvI.done
abbrev Ek:=@FzL.refl
abbrev El:=@OpH.lit
abbrev Em:=@RF.cons
abbrev En:=@RF.c1
abbrev Eo:=@Le.trans
abbrev Ep:=@ZR.int
abbrev Er:=@FzA.o
abbrev Et:=@Le.phantom
abbrev Eu:=@WO.le
abbrev Ew:=@Ev.eq
abbrev Ex:=@EvI.cont
abbrev Ey:=@OpU.store
abbrev Ez:=@OpV.load
abbrev EA:=@Ev.const
theorem Zf.{u,v}{α:Sort u}{β:Sort v}{f:α->β}:∀x,f x=f x:=λ_=>rfl
abbrev Ze.{u,v}{α:Sort u}{β:Type v}:α->List β:=λ_=>[]
end Go.Sw
