/- The rules by which the code is walked, with what they rest on (part 3). -/
import Derived.Test.YtbiglpikpigidaaGreatL2
import Derived.Shelf.Spec.SlicesInsertGrow
import Derived.RangeFuncLeaves
set_option linter.unusedVariables false
set_option linter.unusedSectionVars false
set_option linter.unusedSimpArgs false
namespace Go.Sw
open Option renaming none→AF,some→AC
open Bool renaming false→AD,true→AE
open Decidable renaming decide→AG
open Go renaming Oper→AM,Program→AK,Value→AL,World→AJ
section
variable {β:Type}
@[reducible] def RQ(w:β->A)(Hc:β->Qc)(r:β):A->Qc->Prop:=λa H=>a=w r/\H=Hc r
@[reducible] def oE(P:AK)(f:FuncId)(args:AA A)(H:Qc)(w:β->A)(r:β):Prop:=C P f args H (RQ w (λ_=>H) r)
structure Nk where
 sl:List (Nat×Nat×Nat)
 fn:List Nat
structure LS (P:AK) (Z:Nk):Prop where
 sl:∀e∈Z.sl,(∀w,(underlying e.1).run P w=.ok (.slice e.2.1) w)/\ ∀w,(sizeOf e.2.1).run P w=.ok e.2.2 w
 fn:∀f∈Z.fn,∀(a:Array AL) (w:AJ),(callFunc f a).run P w=.ok (.enter f a) w
variable {F:AB β}{Hc:Qc}{args xs:AA A}{t:Nat}{w:β->A}{α γ:Type}
variable {F':β->AB γ}{L:AA α}{e:α->AA A}
section
variable {P:AK} {Z:Nk} {h0 N:Nat} {all:Array AM} {o:AM} {l:AA AM} {env:Env} {H:Qc} {Q:Qy} {d:Nat}
theorem vM(m:LS P Z){B k:Nat}{kk:IntKind}{i:Int}{v:α}(h:CI L i=AC v)(q:SD o env=AC (d,t,k,L.map e,kk,i))(g:WO P h0 N all l (up env d (.rp (e v))) H Q)
  (j:H8 Z.sl t=AC (B,k))(hg:Yg all o env=AC AE)(y:Nat.blt d N=AE):WO P h0 N all (o::l) env H Q:=by
 obtain⟨f,x⟩:=m.sl _ (NB j);exact Ix h f x q g (Qx hg) y
theorem Ize(m:LS P Z){y k:Nat}{kk:IntKind}{i:Int}{v:α}{f:AA A}(h:CI L i=AC v)(he:e v=f)(q:SD o env=AC (d,t,k,L.map e,kk,i))(g:WO P h0 N all l (up env d (.rp f)) H Q)
  (j:H8 Z.sl t=AC (y,k))(hg:Yg all o env=AC AE)(x:Nat.blt d N=AE):WO P h0 N all (o::l) env H Q:=by
 subst he;exact vM m h q g j hg x
theorem Lmz(j:LS P Z){y k m:Nat}(q:R9 o env=AC (d,t,.mk (.rsl k (L.map e))))(g:WO P h0 N all l (up env d (.int .i64 L.length)) H Q)
  (h:H8 Z.sl t=AC (y,m))(hg:Yg all o env=AC AE)(x:Nat.blt d N=AE):WO P h0 N all (o::l) env H Q:=by
 obtain⟨f,B⟩:=j.sl _ (NB h);exact nO f q g (Qx hg) x
def KO(Z:Nk)(o:AM)(env:Env):AB (Nat×Nat×AA A):=
 match o.dst with
 |none=>AF
 |some d=>match o.op with
  |.call {callee:=.value (.func f),args:=⟨xs⟩,argTypes:=_}=>bif Fs Z.fn f then(match fl (RU env xs)with|.mk ax=>AC (d,f,ax))else AF
  |.call {callee:=.value (.tmp x),args:=⟨xs⟩,argTypes:=_}=>match DQ env (.tmp x)with
   |.mk (.fn (.func f) vf vc)=>bif Fs Z.fn f then(match fl (vf++(RU env xs++vc))with|.mk ax=>AC (d,f,ax))else AF
   |_=>AF
  |_=>AF
theorem g7(y:LS P Z){f:Nat}(h:KO Z o env=AC (d,f,args)):o.dst=AC d/\C6 P o env H f args:=by
 unfold KO at h;split at h
 .cases h
 .rename_i J m;split at h
  .rename_i j t B g;cases q:Fs Z.fn j with
   |false=>grind
   |true=>
    rw[q]at h;simp only[M8]at h;cases h;exact⟨m,C6.fn (y.fn _ (lD q)) g rfl (du t).symm⟩
  .rename_i x t B g;split at h
   .rename_i j F G E;cases q:Fs Z.fn j with
    |false=>grind
    |true=>
     rw[q]at h;simp only[M8]at h;cases h;exact⟨m,JT (y.fn _ (lD q)) g rfl (Q2 E) (by rw[du])⟩
   .cases h
  .cases h
theorem Czz(q:LS P Z){r:γ}{f:Nat}{j:AA A}(π:AA Nat)(h:F.bind F'=AC r)(t:∀v,F=AC v->C P f j Hc (RQ w (λ_=>Hc) v))
  (m:KO Z o env=AC (d,f,args))(g:∀v,F=AC v->F' v=AC r->WO P h0 N all l (up env d (w v)) H Q)(x:∀v,RT (w v)=AC (.mk (w v)))
  (hargs:args=JJ (Ci π H.length) j)(hH:π.map (λp=>H[p]?)=(Hc.map (Q1 (Ci π H.length))).map AC)(hπ:π.Nodup)(hg:Yg all o env=AC AE)(L:Nat.blt d N=AE)(B:Nat.ble h0 H.length=AE):WO P h0 N all (o::l) env H Q:=by
 obtain⟨v,G,y⟩:=Qw h;obtain⟨E,J⟩:=g7 (H:=H) q m
 grind[Pc,Qx]
theorem DzZ(L:LS P Z){K:AA AM->Env->Qc->Prop}{m:Nat}{t:AA AM}{q:AA Nat}{r:γ}{f:Nat}{j:AA A}(π:AA Nat)(h:F.bind F'=AC r)(E:∀v,F=AC v->C P f j Hc (RQ w (λ_=>Hc) v))
  (x:KO Z o (Q7 (Qi o) 0 q xs env)=AC (d,f,args))(g:∀v,F=AC v->F' v=AC r->DS P N m t q env H K l (xs++[w v]))(G:∀v,RT (w v)=AC (.mk (w v)))
  (hargs:args=JJ (Ci π H.length) j)(hH:π.map (λp=>H[p]?)=(Hc.map (Q1 (Ci π H.length))).map AC)(hπ:π.Nodup)(hg:Yg t.toArray o (Q7 (Qi o) 0 q xs env)=AC AE)(O:Nat.blt d N=AE)(Q:Nat.blt xs.length m=AE):DS P N m t q env H K (o::l) xs:=by
 obtain⟨v,B,J⟩:=Qw h;obtain⟨y,M⟩:=g7 L x;exact .wo (Pc π y M (E v B) (G v) (WO.nil YY.mk) hargs hH hπ (Qx hg) O sq) (g v B J) y Q
theorem ln:Dw H [] []:=trivial
theorem ls{ax d:AA A}{a:A}(k:Dw H ax d)(h:YL a=true:=by rfl):Dw H (a::ax) (a::d):=⟨.inl ⟨rfl,h⟩,k⟩
theorem lo{ax d:AA A}{i n k:Nat}{es:AA (AA A)}(f:Dw H ax d)(hH:H[i]?=AC (.row t k es):=by rfl)(hn:es.length=n:=by exact X0 ..):Dw H (.osl i 0 n k::ax) (.rsl k es::d):=
 ⟨.inr gq,f⟩
theorem Cbz(B:LS P Z){r:γ}{f:Nat}{j:AA A}(h:F.bind F'=AC r)(q:∀v,F=AC v->C P f j [] (RQ w (λ_=>[]) v))
  (m:KO Z o env=AC (d,f,args))(t:Dw H args j)(g:∀v,F=AC v->F' v=AC r->WO P h0 N all l (up env d (w v)) H Q)(J:∀v,Yv (w v)=AE)
  (hg:Yg all o env=AC AE)(G:Nat.blt d N=AE):WO P h0 N all (o::l) env H Q:=by
 obtain⟨v,y,L⟩:=Qw h;obtain⟨x,E⟩:=g7 B m;refine Zk E t (q v y) ?_ ?_ (Qx hg) x G
 .grind
 grind
end
def ixL:AA Nat:=[0,1,2,3,4,5,6,7,8,9,10,11,12,13,14,15,16,17,18,19,20,21,22,23,24,25,26,27,28,29,30,31,32,33,34,35,36,37,38,39,40,41,42,43,44,45,46,47,48,49,50,51,52,53,54,55,56,57,58,59,60,61,62,63]
def Sn:AA Nat->AA Nat->Nat->FN
 |a::r,b::s,j=>bif Nat.beq a j then .mk b else Sn r s j
 |_,_,j=>.mk j
mutual
def og(sel:AA Nat):A->Bx
 |.ptr i off=>match Sn sel ixL i with
  |.mk j=>.mk (.ptr j off)
 |.osl i o n k=>match Sn sel ixL i with
  |.mk j=>.mk (.osl j o n k)
 |.map i=>match Sn sel ixL i with
  |.mk j=>.mk (.map j)
 |.fn f a c=>match cW sel a,cW sel c with
  |.mk a',.mk c'=>.mk (.fn f a' c')
 |a=>.mk a
def cW(sel:AA Nat):AA A->FL
 |[]=>.mk []
 |a::r=>match og sel a,cW sel r with
  |.mk a',.mk r'=>.mk (a'::r')
end
inductive FV where
 |mk (e:Env)
def kZ(sel:AA Nat)(env:Env):AA Nat->Env->FV
 |[],nE=>.mk nE
 |s::r,nE=>match R_ env s with
  |.mk a=>match og sel a,kZ sel env r nE with
   |.mk a',.mk e=>.mk ((s,a')::e)
def NR(H:Qc):AA Nat->AA Nat->AA (Nat×CW)->FB
 |a::r,p::ps,[]=>match YJ H a,NR H r ps []with
  |some b,.mk l=>.mk (b::l)
  |none,.mk l=>.mk l
 |a::r,p::ps,(q,b)::n=>bif Nat.beq p q then(match NR H r ps n with|.mk l=>.mk (b::l))else(match YJ H a,NR H r ps ((q,b)::n)with
  |some b,.mk l=>.mk (b::l)
  |none,.mk l=>.mk l)
 |_,_,_=>.mk []
def LP(sel keep:AA Nat)(nE:Env)(nH:AA (Nat×CW))(env:Env)(H:Qc):AB (Env×Qc):=
 match kZ sel env keep nE,NR H sel ixL nH with
 |.mk e,.mk h=>AC (e,h)
variable {E':β->Env}{H':β->Qc}{S:Type}
variable {s0:S}
section
variable {P:AK} {h0 N:Nat} {c:Code} {env:Env} {H:Qc} {Q:Qy}
def Ke(h0:Nat)(b:β)(E':β->Env)(H':β->Qc)(Q:Qy):Qy
 |.normal,env,H=>Le h0 env H (E' b) (H' b)
 |.exit id,env,H=>Q (.exit id) env H
 |.ret,env,H=>Q .ret env H
theorem Nv{h0:Nat}{b:β}(h:Le h0 env H (E' b) (H' b)):Ke h0 b E' H' Q .normal env H:=h
theorem Ct(b:β)(sel keep:AA Nat)(nE:β->Env)(nH:β->AA (Nat×CW))(_:∀b,LP sel keep (nE b) (nH b) env H=AC (E' b,H' b))(h:TC P h0 N c env H (Ke h0 b E' H' Q))(k:∀env H,Le h0 env H (E' b) (H' b)->Q .normal env H):TC P h0 N c env H Q:=
 h.mono λx env' H' q=>by
  cases x with
  |normal=>exact k _ _ q
  |exit id=>exact q
  |ret=>exact q
theorem FX{B:Type}{b:CF S B}{E':S->Env}{H':S->Qc}(sel keep:AA Nat)(nE:S->Env)(nH:S->AA (Nat×CW))(_:∀s,LP sel keep (nE s) (nH s) env H=AC (E' s,H' s))(h:TC P h0 N c env H (L3 h0 b E' H' Q))(k:∀s env H,b=.k s->Le h0 env H (E' s) (H' s)->Q .normal env H):TC P h0 N c env H Q:=Y? E' H' h k
theorem Lp{B:Type}{step:S->AB (CF S B)}{E':S->Env}{H':S->Qc}{m:Nat}{b0:B}(sel keep:AA Nat)(nE:S->Env)(nH:S->AA (Nat×CW))(h:iter step m s0=AC b0)(_:∀s,LP sel keep (nE s) (nH s) env H=AC (E' s,H' s))(hI:Le h0 env H (E' s0) (H' s0))
  (body:∀s d,step s=AC d->(∀b,d=.d b->b=b0)->TC P h0 N c (E' s) (H' s) (JU (λs env H=>Le h0 env H (E' s) (H' s)) d Q)):TC P h0 N (.loop c) env H Q:=TC.loop E' H' h hI body
end
theorem Oj{S B:Type}{d:CF S B}{x b0:B}(hb:∀b,d=.d b->b=b0)(h:AC (CF.d x)=AC d):x=b0:=hb x (Oi h).symm
variable {H:Qc}{P:AK}{env:Env}{fn:Func}
theorem Rt{d:Nat}{e r:β}{Hc:β->Qc}(h:AC e=AC r)(s:Nat)(π:AA Nat)(f:fn.results= #[.tmp s]:=by rfl)(hpre:π.take d=List.range d:=by rfl)
  (hH:π.map (λp=>H[p]?)=((Hc e).map (Q1 (Ci π H.length))).map some:=by rfl)(hπ:π.Nodup:=by decide)(hE:IO (Ci π H.length) env [(s,w e)]:=by exact⟨rfl,trivial⟩):Jc P d fn (RQ w Hc r) .ret env H:=by
 cases h;exact R1 s f (Lr π hpre hH hπ hE)
variable {Q:Qy}
theorem Cl{f:Nat}{e b:β}(h:AC e=AC b)(π:AA Nat)(d:π.take f=List.range f:=by rfl)
  (hH:π.map (λp=>H[p]?)=((H' e).map (Q1 (Ci π H.length))).map some:=by rfl)(hπ:π.Nodup:=by decide)(hE:IO (Ci π H.length) env (E' e):=by(repeat' (first|exact trivial|refine⟨rfl,?_⟩))):Ke f b E' H' Q .normal env H:=by
 cases h;exact Lr π d hH hπ hE
def P'(cat:AA Nat):AA (AA (Nat×Nat)):=cat.map λc=>match c with|0=>[(0,0)]|1=>[(0,1)]|2=>[(1,1)]|_=>[(0,0),(1,1)]
def oQ(b:Nat)(cat:AA Nat):AA (AA Nat):=cat.map λc=>match c with|2=>[b]|_=>[]
def oZ(cat:AA Nat):AA Bool:=cat.map λc=>match c with|1=>AE|_=>AD
section
variable {P:AK} {T:Fr} {h0 N m b:Nat} {cat:AA Nat} {l:AA AM} {ds:AA Nat} {env:Env} {H H1:Qc} {Q:Qy} {K:AA AM->Env->Qc->Prop}
theorem lb{P:AK}{N:Nat}{l:AA AM}{ds:AA Nat}{xs:AA A}{env0:Env}{hB hE:Nat}:∀(ss:AA (AA (Qc×Qc))) (b:Nat),(∀i s,ss[i]?=AC s->∀p∈s,Jn P N l ds xs env0 hB hE (b+i) p.1 p.2)->Co P N l ds xs env0 hB hE b ss
 |[],b,h=>.nil
 |s::ss,b,h=>.cons (h 0 s rfl) (lb ss (b+1) λi s' hs=>by rw[show b+1+i=b+(i+1)by omega];simp_all)
def fu(P:AK)(N:Nat)(cat:AA Nat)(l:AA AM)(ds:AA Nat)(env:Env)(H H1:Qc)(zs:AA A)(j:Nat):Prop:=
 ∀p∈(P' cat).getD j [],Jn P N l ds zs env H.length H.length j ([H,H1].getD p.1 []) ([H,H1].getD p.2 [])
def DB(P:AK)(N m:Nat)(cat:AA Nat)(l:AA AM)(ds:AA Nat)(env:Env)(H H1:Qc)(K:AA AM->Env->Qc->Prop)(r:AA AM)(xs:AA A):Prop:=
 r=l.drop xs.length->∃ys,xs.length+ys.length=m/\(∀j,xs.length<=j->j<m->fu P N cat l ds env H H1 (xs++ys) j)/\K (l.drop m) (Ir ds (xs++ys) env) H1
def DA(P:AK)(N m:Nat)(cat:AA Nat)(l:AA AM)(ds:AA Nat)(env:Env)(H:Qc)(K:AA AM->Env->Qc->Prop)(r:AA AM)(xs:AA A):Prop:=
 r=l.drop xs.length->∃ys H1,xs.length+ys.length=m/\H.length<=H1.length/\(∀j,xs.length<=j->j<m->fu P N cat l ds env H H1 (xs++ys) j)/\K (l.drop m) (Ir ds (xs++ys) env) H1
theorem _F{f:AA A}(g:cat.length=m)(x:∀j,0<=j->j<m->fu P N cat l ds env H H1 f j):Co P N l ds f env H.length (H.length+0) 0 ((P' cat).map λq=>q.map λp=>([H,H1].getD p.1 [],[H,H1].getD p.2 [])):=by
 refine lb _ 0 λi s d p h=>?_;rw[Xo]at d;cases e:(P' cat)[i]? with
 |none=>grind
 |some q=>
  rw[e]at d;cases d;obtain⟨t,y,rfl⟩:=Xe.1 h;have B:i<m:=by
   grind[P']
  have:=x i (XT _) B t gq
  grind
theorem DA.len(d:H.length<=H1.length):[H,H1].all (λX=>Nat.ble (H.length+0) X.length)=true:=by
 simp_all
theorem QpO{id:Nat}(m b:Nat)(cat:AA Nat)(j:P.follows .mixedOrders=AE)(B:HR l m N (I4 m 0 l) (oZ cat) (oQ b cat) [[],[b]] (P' cat)=AE)(g:Nat.beq cat.length m=AE)(f:Nat.ble h0 H.length=AE)
  (h:DA P N m cat l (I4 m 0 l) env H (λr e H=>WO P h0 N l.toArray r e H Q) l []):TC P h0 N (.region id l.toArray AE) env H Q:=by
 obtain⟨q,H1,E,t,y,x⟩:=h rfl;have d:=XP g;exact Yx m 0 _ _ _ _ _ q [H,H1] H1 j B gq rfl f (DA.len t) sq rfl (_F d y) (by simp[P',d]) x
theorem Zy{o:AM}{r:AA AM}(f:o::r=l.drop xs.length):l[xs.length]?=AC o/\r=l.drop (xs.length+1):=by
 have d:xs.length<l.length:=by
  grind[List.drop_eq_nil_of_le]
 rw[Xp d]at f
 grind
theorem ge{zs:AA A}{j c:Nat}(f:YJ cat j=AC c)(h:∀p∈match c with|0=>[(0,0)]|1=>[(0,1)]|2=>[(1,1)]|_=>[(0,0),(1,1)],Jn P N l ds zs env H.length H.length j ([H,H1].getD p.1 []) ([H,H1].getD p.2 [])):fu P N cat l ds env H H1 zs j:=by
 intro p d
 grind[M9,P']
theorem NA{hB hE:Nat}{f:AA A}{o:AM}{x:A}{d:Nat}{X X':Qc}(m:l[xs.length]?=AC o)(hdd:JR hB hE X X'=AE)(h:WO P X.length N l.toArray [o] (Q7 (Qi o) 0 ds xs env) X (YY (up (Q7 (Qi o) 0 ds xs env) d x) X'))(g:o.dst=AC d):
  Jn P N l ds (xs++x::f) env hB hE xs.length X X':=
 .woE o _ d x m g mQ (he:=by
  intro s;rcases lR (af:=Qi o) (env0:=env) (s:=s) ds xs (x::f) 0 with⟨j,y,F,E,B,t⟩|q|q
  .grind
  .grind
  grind) (hdd:=hdd) (h:=h)
theorem YX{n:Nat}{X X':Qc}:JR n n X X'=true:=by unfold JR;simp
theorem DA.wo{o:AM}{r:AA AM}{x:A}{d:Nat}(h:WO P H.length N l.toArray [o] (Q7 (Qi o) 0 ds xs env) H (YY (up (Q7 (Qi o) 0 ds xs env) d x) H))(k:DA P N m cat l ds env H K r (xs++[x]))
  (L:YJ cat xs.length=AC 0:=by rfl)(hd:o.dst=AC d:=by rfl)(hx:Nat.blt xs.length m=true:=by rfl):DA P N m cat l ds env H K (o::r) xs:=by
 intro F;obtain⟨t,E⟩:=Zy F;obtain⟨y,H1,G,B,J,f⟩:=k gq;simp[Vi,Vh]at G J f;refine⟨x::y,H1,gq,B,λj M O=>?_,f⟩;rcases VA xs.length j with q|q
 .grind
 .obtain rfl:j=xs.length:=by omega
  refine ge L λp g=>?_;obtain rfl:=Vz.1 g;exact NA t YX h hd
theorem DA.op{o:AM}{r:AA AM}{x:A}{d:Nat}(h:WO P H.length N l.toArray [o] (Q7 (Qi o) 0 ds xs env) H (YY (up (Q7 (Qi o) 0 ds xs env) d x) H1))(k:DB P N m cat l ds env H H1 K r (xs++[x]))(J:Nat.ble H.length H1.length=true:=by rfl)
  (hc:YJ cat xs.length=AC 1:=by rfl)(hd:o.dst=AC d:=by rfl)(hx:Nat.blt xs.length m=true:=by rfl):DA P N m cat l ds env H K (o::r) xs:=by
 intro E;obtain⟨t,B⟩:=Zy E;obtain⟨y,F,G,f⟩:=k gq;simp[Vi,Vh]at F G f;refine⟨x::y,H1,gq,(by simp_all),λj L M=>?_,f⟩;rcases VA xs.length j with q|q
 .grind
 .obtain rfl:j=xs.length:=by omega
  refine ge hc λp g=>?_;obtain rfl:=Vz.1 g;exact NA t YX h hd
theorem kv{o:AM}{r:AA AM}{x x':A}{d:Nat}{H1':Qc}(h:E_ P o (Q7 (Qi o) 0 ds xs env) H x H1)(f:LN x=.mk x')(g:bR H1=.mk H1')(k:DB P N m cat l ds env H H1' K r (xs++[x']))(j:o.dst=AC d:=by rfl)(hg:Yg ⟨l⟩ o (Q7 (Qi o) 0 ds xs env)=AC true:=by rfl)(hN:Nat.blt d N=true:=by rfl)(hl:Nat.ble H.length H1'.length=true:=by rfl)
  (hc:YJ cat xs.length=AC 1:=by rfl)(hx:Nat.blt xs.length m=true:=by rfl):DA P N m cat l ds env H K (o::r) xs:=by
 rw[gr]at f;rw[lA]at g;cases f;cases g;exact .op (Zc (XS _) (Qx hg) j hN h (WO.nil YY.mk)) k hl hc j hx
theorem DB.done{r:AA AM}(d:Nat.beq xs.length m=AE)(h:K r (Ir ds xs env) H1):DB P N m cat l ds env H H1 K r xs:=by
 intro f;have e:=XP d;refine⟨[],by simpa using e,λj q g=>om,?_⟩
 grind
theorem DB.add{o:AM}{r:AA AM}{x:A}(t:∀ys,l[xs.length]?=AC o->fu P N cat l ds env H H1 (xs++x::ys) xs.length)(k:DB P N m cat l ds env H H1 K r (xs++[x])):DB P N m cat l ds env H H1 K (o::r) xs:=by
 intro f;obtain⟨g,d⟩:=Zy f;obtain⟨ys,j,q,h⟩:=k gq
 grind
theorem DB.wo1{o:AM}{r:AA AM}{x:A}{d:Nat}(h:WO P H1.length N l.toArray [o] (Q7 (Qi o) 0 ds xs env) H1 (YY (up (Q7 (Qi o) 0 ds xs env) d x) H1))(k:DB P N m cat l ds env H H1 K r (xs++[x]))
  (g:YJ cat xs.length=AC 2:=by rfl)(hd:o.dst=AC d:=by rfl):DB P N m cat l ds env H H1 K (o::r) xs:=
 .add (λq j=>ge g λp f=>by
  obtain rfl:=Vz.1 f;exact NA j YX h hd) k
theorem DB.wo2{o:AM}{r:AA AM}{x:A}{d:Nat}(h:WO P H.length N l.toArray [o] (Q7 (Qi o) 0 ds xs env) H (YY (up (Q7 (Qi o) 0 ds xs env) d x) H))(j:WO P H1.length N l.toArray [o] (Q7 (Qi o) 0 ds xs env) H1 (YY (up (Q7 (Qi o) 0 ds xs env) d x) H1))(k:DB P N m cat l ds env H H1 K r (xs++[x]))
  (q:YJ cat xs.length=AC 3:=by rfl)(hd:o.dst=AC d:=by rfl):DB P N m cat l ds env H H1 K (o::r) xs:=
 .add (λt g=>ge q λp f=>by
  rcases X6.1 f with rfl|f
  .exact NA g YX h hd
  .obtain rfl:=Vz.1 f;exact NA g YX j hd) k
def dU(T:Fr)(N m:Nat)(cat:AA Nat)(l:AA AM)(ds:AA Nat)(env:Env)(H:Qc):Nat->Nat->AA AM->AA A->AB (AA AM×AA A)
 |0,_,r,xs=>AC (r,xs)
 |_+1,_,[],_=>AF
 |n+1,i,o::r,xs=>match Nat.blt i m,YJ cat i with
  |true,AC 0=>match o.dst with
   |none=>AF
   |some d=>match Nat.blt d N with
    |false=>AF
    |true=>match Yg ⟨l⟩ o (Q7 (Qi o) 0 ds xs env)with
     |none=>AF
     |some AD=>match KN xs (.tup [])with
      |.mk xs'=>dU T N m cat l ds env H n (i+1) r xs'
     |some AE=>match IL T o (Q7 (Qi o) 0 ds xs env) H with
      |none=>AF
      |some x=>match KN xs x with
       |.mk xs'=>dU T N m cat l ds env H n (i+1) r xs'
  |_,_=>AF
theorem l_(hT:Iu P T):∀(n i:Nat) {r r':AA AM} {xs xs':AA A},i=xs.length->dU T N m cat l ds env H n i r xs=AC (r',xs')->DA P N m cat l ds env H K r' xs'->DA P N m cat l ds env H K r xs
 |0,i,r,r',xs,xs',_,h,k=>by cases h;exact k
 |n+1,i,[],r',xs,xs',_,h,k=>by cases h
 |n+1,i,o::r,r',xs,xs',hi,h,k=>by
  subst hi;unfold dU at h;split at h
  .rename_i q1 q0;split at h
   .cases h
   .rename_i d hd;split at h
    .cases h
    .rename_i q2;split at h
     .cases h
     .rename_i hw;simp[Js]at h;exact .wo (WO.skip (Qx hw) hd q2 (WO.nil YY.mk)) (l_ hT n _ sq h k) q0 hd q1
     .rename_i hw;split at h
      .cases h
      .rename_i x hv;simp[Js]at h;exact .wo (Yr (Qx hw) hd q2 (ND hT hv) (WO.nil YY.mk)) (l_ hT n _ sq h k) q0 hd q1
  .cases h
theorem Qqn{p:Bx}{r:Lx}(h:NV [] p=AC r):NV H p=AC r:=by
 unfold NV at h⊢
 grind[YJ]
theorem mY{o:AM}{e:Env}{x:A}(h:IL T o e []=AC x):IL T o e H=AC x:=by
 unfold IL at h⊢;split at h<;>first|exact h|skip
 split at h
 .cases h
 grind[Qqn]
def Sp(T:Fr)(N:Nat)(cat:AA Nat)(l:AA AM)(ds:AA Nat)(env:Env)(H1:Qc):Nat->Nat->AA AM->AA A->AB (AA AM×AA A)
 |0,_,r,xs=>AC (r,xs)
 |_+1,_,[],_=>AF
 |n+1,i,o::r,xs=>match o.dst with
  |none=>AF
  |some d=>match Nat.blt d N with
   |false=>AF
   |true=>match Yg ⟨l⟩ o (Q7 (Qi o) 0 ds xs env)with
    |none=>AF
    |some AD=>match YJ cat i with
     |some 2=>(match KN xs (.tup [])with
      |.mk xs'=>Sp T N cat l ds env H1 n (i+1) r xs')
     |some 3=>(match KN xs (.tup [])with
      |.mk xs'=>Sp T N cat l ds env H1 n (i+1) r xs')
     |_=>AF
    |some AE=>match YJ cat i with
     |some 2=>(match IL T o (Q7 (Qi o) 0 ds xs env) H1 with
      |none=>AF
      |some x=>match KN xs x with
       |.mk xs'=>Sp T N cat l ds env H1 n (i+1) r xs')
     |some 3=>(match IL T o (Q7 (Qi o) 0 ds xs env) []with
      |none=>AF
      |some x=>match KN xs x with
       |.mk xs'=>Sp T N cat l ds env H1 n (i+1) r xs')
     |_=>AF
theorem eK(hT:Iu P T):∀(n i:Nat) {r r':AA AM} {xs xs':AA A},i=xs.length->Sp T N cat l ds env H1 n i r xs=AC (r',xs')->DB P N m cat l ds env H H1 K r' xs'->DB P N m cat l ds env H H1 K r xs
 |0,i,r,r',xs,xs',_,h,k=>by cases h;exact k
 |n+1,i,[],r',xs,xs',_,h,k=>by cases h
 |n+1,i,o::r,r',xs,xs',hi,h,k=>by
  subst hi;unfold Sp at h;split at h
  .cases h
  .rename_i d hd;split at h
   .cases h
   .rename_i q2;split at h
    .cases h
    .rename_i hw;split at h
     .rename_i q0;simp[Js]at h;exact .wo1 (WO.skip (Qx hw) hd q2 (WO.nil YY.mk)) (eK hT n _ sq h k) q0 hd
     .rename_i q0;simp[Js]at h;exact .wo2 (WO.skip (Qx hw) hd q2 (WO.nil YY.mk)) (WO.skip (Qx hw) hd q2 (WO.nil YY.mk)) (eK hT n _ sq h k) q0 hd
     .cases h
    .rename_i hw;split at h
     .rename_i q0;split at h
      .cases h
      .rename_i x hv;simp[Js]at h;exact .wo1 (Yr (Qx hw) hd q2 (ND hT hv) (WO.nil YY.mk)) (eK hT n _ sq h k) q0 hd
     .rename_i q0;split at h
      .cases h
      .rename_i x hv;simp[Js]at h;exact .wo2 (Yr (Qx hw) hd q2 (ND hT (mY hv)) (WO.nil YY.mk)) (Yr (Qx hw) hd q2 (ND hT (mY hv)) (WO.nil YY.mk)) (eK hT n _ sq h k) q0 hd
     .cases h
end
def cY(L:AA (Nat×AA (Nat×Nat)))(fs:AA (Nat×Nat×Nat)):Bool:=
 fs.all λe=>match H8 L e.1 with
  |some pl=>(match YJ pl e.2.1 with
   |some q=>Nat.beq q.1 e.2.2&& !(Nat.beq q.2 0)
   |none=>AD)
  |none=>AD
theorem PL.get{fs:AA Field}{g:AA (Nat×Nat)}(h:PL P fs g):∀{f d n:Nat},YJ g f=AC (d,n)->∃fd,fs[f]?=AC fd/\fd.offset=d/\ ∀w,(sizeOf fd.type).run P w=.ok n w:=by
 induction h with
 |nil=>intro f d n h;cases h
 |cons h k m=>
  intro f d n j;cases f with
  |zero=>cases j;grind
  |succ f=>grind[YJ]
theorem _l{L:AA (Nat×AA (Nat×Nat))}{fs:AA (Nat×Nat×Nat)}(E:∀e∈L,Ss P e.1 e.2)(h:cY L fs=AE):∀e∈fs,∃n,Qs P e.1 e.2.1 e.2.2 n:=by
 intro e m;have:=Xs.1 h e m;split at this
 .rename_i J d;split at this
  .rename_i q j;obtain⟨t,n⟩:=q;simp only[XV,Bool.not_eq_true']at this;have y:=XP this.1;obtain⟨F,B,x⟩:=E _ (NB d);obtain⟨g,H,f,G⟩:=PL.get x j;refine⟨n,⟨⟨_,g,B,gq,f.trans y,G,?_⟩⟩⟩
   grind[Nat.beq_refl]
  .cases this
 .cases this
section
variable {P:AK} {Z:Nk} {h0 N:Nat} {all:Array AM} {o:AM} {l:AA AM} {env:Env} {H:Qc} {Q:Qy} {d:Nat}
theorem Cdz(B:LS P Z){r:γ}{f:Nat}{j:AA A}{Hr:β->Qc}(π:AA Nat)(h:F.bind F'=AC r)(q:∀v,F=AC v->C P f j Hc (RQ w Hr v))
  (m:KO Z o env=AC (d,f,args))(g:∀v,F=AC v->F' v=AC r->WO P h0 N all l (up env d (Y0 (Ci π H.length) (w v))) (Yc H π ((Hr v).map (Q1 (Ci π H.length)))) Q)
  (hargs:args=JJ (Ci π H.length) j)(hH:π.map (λp=>H[p]?)=(Hc.map (Q1 (Ci π H.length))).map AC)(hπ:π.Nodup)(hg:Yg all o env=AC AE)(G:Nat.blt d N=AE)(t:Nat.ble h0 H.length=AE):WO P h0 N all (o::l) env H Q:=by
 obtain⟨v,y,J⟩:=Qw h;obtain⟨x,E⟩:=g7 (H:=H) B m;refine Qf π E (q v y) ?_ hargs hH hπ (Qx hg) x G t
 grind
end
inductive FLL where
 |mk (l:List (List A))
def cV(sel:AA Nat):AA (AA A)->FLL
 |[]=>.mk []
 |a::r=>match cW sel a,cV sel r with
  |.mk a',.mk r'=>.mk (a'::r')
inductive FBk where
 |mk (b:CW)
def kP(sel:AA Nat):CW->FBk
 |.cells t cs=>match cW sel cs with
  |.mk l=>.mk (.cells t l)
 |.rowr t k es=>match cV sel es with
  |.mk l=>.mk (.rowr t k l)
 |.wins t a n c=>match Sn sel ixL a with
  |.mk a'=>.mk (.wins t a' n c)
 |.ents t a b es=>match Sn sel ixL a,Sn sel ixL b with
  |.mk a',.mk b'=>.mk (.ents t a' b' es)
 |b=>.mk b
def aJ(H:Qc)(sel:AA Nat):AA Nat->FB
 |[]=>.mk []
 |a::r=>match YJ H a with
  |some b=>(match kP sel b,aJ H sel r with
   |.mk b',.mk l=>.mk (b'::l))
  |none=>.mk []
def aK(sel sl:AA Nat)(env:Env)(H:Qc):AB (Env×Qc):=
 match kZ sel env sl [],aJ H sel sel with
 |.mk e,.mk h=>AC (e,h)
theorem Rx{g:Nat}{E':Env}{H':Qc}{Qr:A->Qc->Prop}{h:A}(π sl:AA Nat)(_:aK π sl env H=AC (E',H'))(f:H7 P fn E' H' h)(j:Qr h H')(d:π.take g=List.range g:=by rfl)
  (hH:π.map (λp=>H[p]?)=(H'.map (Q1 (Ci π H.length))).map some:=by rfl)(hπ:π.Nodup:=by decide)(hE:IO (Ci π H.length) env E':=by(repeat' (first|exact trivial|refine⟨rfl,?_⟩))):Jc P g fn Qr .ret env H:=
 ⟨E',H',h,Lr π d hH hπ hE,f,j⟩
variable {T:Type}
def R5:AA T->T->AA T->Prop:=λl x rem=>l=x::rem
def RS{S T B:Type}(step:S->T->AB (CF S B)):AA T->S->AB (CF S B)
 |[],s=>AC (.k s)
 |x::l,s=>(step s x).bind λd=>match d with
  |.k s'=>RS step l s'
  |.d b=>AC (.d b)
def L5{S T B:Type}(step:S->AB (AA T×CF S B)):Nat->S->AB (AA T×B)
 |0,_=>AF
 |n+1,s=>(step s).bind λp=>match p.2 with
  |.k s'=>(L5 step n s').bind λq=>AC (p.1++q.1,q.2)
  |.d b=>AC (p.1,b)
variable {B:Type}
def ki(h1:Nat)(env:Env)(Q:Qy)(d:CF S B)(Hp:S->Qc):Qy
 |.normal,env',H'=>∃s,d=.k s/\Le h1 env' H' [] (Hp s)
 |.exit id,env',H'=>(∃b,d=.d b)/\ ∃H2,Le h1 env' H' [] H2/\Q (.exit id) env H2
 |.ret,env',H'=>(∃b,d=.d b)/\ ∃H2,Le h1 env' H' [] H2/\Q .ret env H2
variable {Hp:S->Qc}{env':Env}
theorem qy{B:Type}{h1:Nat}{H':Qc}{s:S}{d:CF S B}(e:AC (CF.k s)=AC d)(h:Le h1 env' H' [] (Hp s)):ki h1 env Q d Hp .normal env' H':=⟨s,(Oi e).symm,h⟩
theorem qY{B:Type}{h1:Nat}{H' H2:Qc}{b:B}{d:CF S B}(e:AC (CF.d b)=AC d)(h:Le h1 env' H' [] H2)(q:Q .ret env H2):ki h1 env Q d Hp .ret env' H':=⟨⟨b,(Oi e).symm⟩,H2,h,q⟩
theorem sy{h0 N:Nat}{E:Operand}{ps:AA Nat}{assign body:Code}{f:FuncId}{caps g:AA A}{T B:Type}{enc:T->AA A}{xs:AA T}{step:S->T->AB (CF S B)}{D:CF S B}
  (π:AA Nat)(Hp:S->Qc)(h:RS step xs s0=AC D)(y:RN P f g Hc enc R5 xs)(F:∀x,(enc x).length=ps.length)(Y:∀args w,(callFunc f args).run P w=.ok (.enter f args) w)
  (hh:Nat.ble h0 H.length=AE)(hg:CP env E=.fn (.func f) [] caps)(hargs:caps=JJ (Ci π H.length) g)(hH:π.map (λp=>H[p]?)=(Hc.map (Q1 (Ci π H.length))).map AC)(hπ:π.Nodup)(J:(ps.all λp=>Nat.blt p N)=AE)
  (j:Le H.length env (RY H π) env (Hp s0))
  (m:∀s x d,step s x=AC d->(∀b,d=.d b->D=.d b)->TC P H.length N assign (dL ps (enc x) env) (Hp s) λe env1 H1=>e=.normal/\TC P H.length N body env1 H1 (ki H.length env Q d Hp))
  (t:∀s,D=.k s->Q .normal env (Hp s)):TC P h0 N (.rangeFunc E ps.toArray assign body) env H Q:=by
 refine TC.rangeFunc π Hp (λs l=>RS step l s=AC D) s0 (by simp_all) hg hargs hH hπ J Y y F j h ?_ ?_
 .rintro s l x rem L rfl;obtain⟨d,R,L⟩:=Qw L;refine(m s x d R ?_).mono ?_
  .grind
  .rintro e env1 H1 ⟨X,V⟩;refine⟨X,V.mono ?_⟩;intro e2 M H2 q;cases e2 with
   |normal=>
    obtain⟨O,rfl,j⟩:=q;exact⟨Hp O,j,O,L,rfl⟩
   |exit id=>
    obtain⟨_,H3,G,q⟩:=q;exact⟨H3,G,q⟩
   |ret=>
    obtain⟨_,H3,G,q⟩:=q;exact⟨H3,G,q⟩
 .intro s W;exact t s (Oi W).symm
section
variable {T:Type} {X:FW T} {P:AK} {h0 N:Nat} {c:Code} {env:Env} {H:Qc} {st:HQ T} {Q:YR T}
def dX(h0:Nat)(E:S->Env)(Hp:S->Qc)(d:CF S B)(rest:AA T)(Q:YR T):YR T
 |.normal,env,H,st=>∃s,d=.k s/\Le h0 env H (E s) (Hp s)/\st=.on rest
 |.exit id,env,H,st=>Q (.exit id) env H st
 |.ret,env,H,st=>Q .ret env H st
theorem QmU{B:Type}{step:S->AB (AA T×CF S B)}{E:S->Env}{m:Nat}{y rem:AA T}{b:B}(h:L5 step m s0=AC (y,b))(O:Le h0 env H (E s0) (Hp s0))
  (body:∀s zs d rest,step s=AC (zs,d)->(∀b',d=.d b'->b'=b/\rest=rem)->Cy X P h0 N c (E s) (Hp s) (.on (zs++rest)) (dX h0 E Hp d rest Q)):Cy X P h0 N (.loop c) env H (.on (y++rem)) Q:=by
 refine sz (I:=λn env H L=>∃s f,L5 step n s=AC (f,b)/\L=.on (f++rem)/\Le h0 env H (E s) (Hp s)) ?_ ⟨s0,y,h,rfl,O⟩;rintro n env H L ⟨s,f,g,rfl,G⟩;cases n with
 |zero=>cases g
 |succ n=>
  obtain⟨⟨zs,d⟩,J,g⟩:=Qw g;refine Cy.le G ?_;cases d with
  |k M=>
   obtain⟨⟨W,Y⟩,R,g⟩:=Qw g;cases g;rw[Vi];refine(body s zs (.k M) (W++rem) J (λb' e=>by cases e)).mono ?_;rintro x j H' F q;cases x with
   |normal=>
    obtain⟨V,e,t,rfl⟩:=q;cases e;exact⟨n,Xn n,_,_,R,rfl,t⟩
   |exit id=>exact q
   |ret=>exact q
  |d b'=>
   cases g;refine(body s _ (.d b) rem J (λb' e=>by cases e;exact⟨rfl,rfl⟩)).mono ?_;rintro x j H' F q;cases x with
   |normal=>obtain⟨V,e,_⟩:=q;cases e
   |exit id=>exact q
   |ret=>exact q
def NY(X:FW T)(P:AK)(h0 N:Nat):AA Kf->YR T->YR T
 |[],Q=>Q
 |.seq c::k,Q=>dE X P h0 N c (NY X P h0 N k Q)
 |.blo id::k,Q=>W8 id (NY X P h0 N k Q)
 |.unr c::k,Q=>λ_ _ _ _=>False
@[reducible] def S_(X:FW T)(P:AK)(h0 N:Nat):Cf->AA Kf->Env->Qc->HQ T->YR T->Prop
 |.code c,k,env,H,st,Q=>Cy X P h0 N c env H st (NY X P h0 N k Q)
 |.ops all l,k,env,H,st,Q=>FS X P h0 N all l env H st (NY X P h0 N k Q)
 |.out x,k,env,H,st,Q=>NY X P h0 N k Q x env H st
def oy:Cf->AA Kf->Bool
 |.code (.loop _),_=>AD
 |.out _,.unr _::_=>AD
 |_,_=>AE
theorem QnV{Tx:Fr}(m:Iu P Tx){c j:Cf}{k f:AA Kf}{H':Qc}(h:ZV Tx h0 N c k env H=AC (j,f,env',H'))(d:oy c k=AE)(g:S_ X P h0 N j f env' H' st Q):S_ X P h0 N c k env H st Q:=by
 unfold ZV at h;split at h
 .cases h;exact Cy.seq g
 .cases h;exact Cy.block g
 .cases d
 .cases h;exact Cy.skip g
 .cases h;exact Cy.ret g
 .cases h;exact Cy.exit g
 .cases h;exact Cy.region g
 .grind[Cy.cond,Q2]
 .cases h;exact FS.nil g
 .split at h
  .rename_i q;cases h;exact FS.step (kz m q (WO.nil ⟨rfl,g⟩))
  .cases h
 .cases h;exact g
 .cases h;exact g
 .cases h;exact g
 .cases h;exact g
 .split at h
  .rename_i q;have e:=XP q;show(bif Nat.beq _ _ then _ else _)
   grind
  .show(bif Nat.beq _ _ then _ else _)
   grind
 .cases h;exact g
 .cases d
 .cases d
 .cases d
 .cases h
def ZN(Tx:Fr)(h0 N:Nat):Nat->Cf->AA Kf->Env->Qc->AB (Cf×AA Kf×Env×Qc)
 |0,c,k,env,H=>AC (c,k,env,H)
 |n+1,c,k,env,H=>match oy c k with
  |true=>(match ZV Tx h0 N c k env H with
   |some (c',k',env',H')=>ZN Tx h0 N n c' k' env' H'
   |none=>AF)
  |false=>AF
theorem iF{Tx:Fr}(hT:Iu P Tx):∀(n:Nat) {c c':Cf} {k k':AA Kf} {env env':Env} {H H':Qc},ZN Tx h0 N n c k env H=AC (c',k',env',H')->S_ X P h0 N c' k' env' H' st Q->S_ X P h0 N c k env H st Q
 |0,c,c',k,k',env,env',H,H',h,g=>by cases h;exact g
 |n+1,c,c',k,k',env,env',H,H',h,g=>by
  unfold ZN at h;split at h
  .rename_i hn;split at h
   .rename_i e;exact QnV hT e hn (iF hT n h g)
   .cases h
  .cases h
theorem Cy.lf{k:AA Kf}(h:TC P h0 N c env H (λx env H=>NY X P h0 N k Q x env H st)):Cy X P h0 N c env H st (NY X P h0 N k Q):=Cy.lift h
theorem FS.y1{all:Array AM}{o:AM}{r:AA AM}{d:Nat}{x:T}{l:AA T}{e:T->A}{y z:Operand}{h:Array TypeId}(hE:X.enc=λx=>[e x])(m:X.nx=R5)(f:o.op=.call {callee:=.value y,args:= #[z],argTypes:=h})(g:CP env y=.fn (.yield X.l) [] [])(q:CP env z=e x)(j:YL (e x)=AE)
  (t:FS X P h0 N all r (up env d (.bool AE)) H (.on l) Q)(B:FS X P h0 N all r (up env d (.bool AD)) H (.off l) Q)(hg:Qz all o env true:=by rfl)(hd:o.dst=AC d:=by rfl)(hNd:Nat.blt d N=true:=by rfl):FS X P h0 N all (o::r) env H (.on (x::l)) Q:=by
 refine FS.yield (by rw[m];rfl) hg hd hNd ?_ ?_
 .rw[hE];exact rx f g q j
 grind
theorem pM{all:Array AM}{o:AM}{r:AA AM}{d:Nat}{x:T}{l:AA T}{h q:T->A}{y B t:Operand}{G:Array TypeId}(hE:X.enc=λx=>[h x,q x])(J:X.nx=R5)(E:o.op=.call {callee:=.value y,args:= #[B,t],argTypes:=G})(F:CP env y=.fn (.yield X.l) [] [])(j:CP env B=h x)(f:CP env t=q x)(g:YL (h x)=AE)(m:YL (q x)=AE)
  (L:FS X P h0 N all r (up env d (.bool AE)) H (.on l) Q)(M:FS X P h0 N all r (up env d (.bool AD)) H (.off l) Q)(hg:Qz all o env true:=by rfl)(hd:o.dst=AC d:=by rfl)(hNd:Nat.blt d N=true:=by rfl):FS X P h0 N all (o::r) env H (.on (x::l)) Q:=by
 refine FS.yield (by rw[J];rfl) hg hd hNd ?_ ?_
 .rw[hE];exact QlJ E F j f g m
 grind
end
variable {R:Type}
def yl(x:T)(k:AB (AA T×R)):AB (AA T×R):=k.bind λp=>AC (x::p.1,p.2)
def ap(a:AB (AA T×B))(k:B->AB (AA T×R)):AB (AA T×R):=a.bind λp=>(k p.2).bind λq=>AC (p.1++q.1,q.2)
theorem o9{T R:Type}{x:T}{k:AB (AA T×R)}{d:AA T}{v:R}(h:yl x k=AC (d,v)):∃zs,k=AC (zs,v)/\d=x::zs:=by
 obtain⟨⟨zs,g⟩,f,j⟩:=Qw h
 grind
theorem pC{T B R:Type}{a:AB (AA T×B)}{k:B->AB (AA T×R)}{d:AA T}{v:R}(h:ap a k=AC (d,v)):∃y1 b y2,a=AC (y1,b)/\k b=AC (y2,v)/\d=y1++y2:=by
 obtain⟨⟨y1,b⟩,m,f⟩:=Qw h;obtain⟨⟨y2,g⟩,q,j⟩:=Qw f
 grind
section
variable {T:Type} {X:FW T} {P:AK} {h0 N:Nat} {c c':Code} {env:Env} {H:Qc} {st:HQ T} {Q:YR T}
def kX(h0:Nat)(b:β)(E':β->Env)(H':β->Qc)(rem:AA T)(Q:YR T):YR T
 |.normal,env,H,st=>Le h0 env H (E' b) (H' b)/\st=.on rem
 |.exit id,env,H,st=>Q (.exit id) env H st
 |.ret,env,H,st=>Q .ret env H st
theorem rA(b:β)(rem:AA T)(sel keep:AA Nat)(nE:β->Env)(nH:β->AA (Nat×CW))(_:∀b,LP sel keep (nE b) (nH b) env H=AC (E' b,H' b))(h:Cy X P h0 N c env H st (kX h0 b E' H' rem Q))(k:∀env H,Le h0 env H (E' b) (H' b)->Q .normal env H (.on rem)):Cy X P h0 N c env H st Q:=
 h.mono λx env' H' st' q=>by
  cases x with
  |normal=>obtain⟨q1,rfl⟩:=q;grind
  |exit id=>exact q
  |ret=>exact q
theorem pD{b:β}{rem:AA T}(h:Le h0 env H (E' b) (H' b)):kX h0 b E' H' rem Q .normal env H (.on rem):=⟨h,rfl⟩
theorem pE{b:β}{rem:AA T}(h:Q .ret env H st):kX h0 b E' H' rem Q .ret env H st:=h
theorem pL{B:Type}{step:S->AB (AA T×CF S B)}{E':S->Env}{H':S->Qc}{m:Nat}{ys rem:AA T}{b:B}(sel keep:AA Nat)(nE:S->Env)(nH:S->AA (Nat×CW))(h:L5 step m s0=AC (ys,b))(_:∀s,LP sel keep (nE s) (nH s) env H=AC (E' s,H' s))(hI:Le h0 env H (E' s0) (H' s0))
  (body:∀s zs d rest,step s=AC (zs,d)->(∀b',d=.d b'->b'=b/\rest=rem)->Cy X P h0 N c (E' s) (H' s) (.on (zs++rest)) (dX h0 E' H' d rest Q)):Cy X P h0 N (.loop c) env H (.on (ys++rem)) Q:=QmU h hI body
theorem pX{S B:Type}{E':S->Env}{H':S->Qc}{s:S}{d:CF S B}{zs rest:AA T}(e:AC ([],CF.k s)=AC (zs,d))(h:Le h0 env H (E' s) (H' s)):dX h0 E' H' d rest Q .normal env H (.on (zs++rest)):=by
 cases e;exact⟨s,rfl,h,rfl⟩
theorem pZ{S B:Type}{id:Nat}{E':S->Env}{H':S->Qc}{d:CF S B}{rest:AA T}(h:Q (.exit id) env H st):dX h0 E' H' d rest Q (.exit id) env H st:=h
theorem pY{S B:Type}{E':S->Env}{H':S->Qc}{d:CF S B}{rest:AA T}(h:Q .ret env H st):dX h0 E' H' d rest Q .ret env H st:=h
theorem Oy{S B:Type}{d:CF S B}{x b:B}{zs rest rem:AA T}(f:∀b',d=.d b'->b'=b/\rest=rem)(h:AC ([],CF.d x)=AC (zs,d)):zs=[]/\b=x/\rest=rem:=by
 grind
theorem uQ{f:FuncId}{c:Code}{N:Nat}{caps:AA A}{enc:T->AA A}{xs:AA T}(d:P.funcs[f]?=AC fn)(g:fn.body=AC c)(j:fn.ntmps=N)(m:Nat.ble (caps.length+1) N=AE)(q:fn.results= #[])
  (h:∀X,X.enc=enc->X.nx=R5->Cy X P H.length N c (Kh 0 (.fn (.yield X.l) [] []::caps)) H (.on (xs++[])) ft):RN P f caps H enc R5 xs:=by
 grind[uu]
end
open Go.MapKept
section
variable {fr ro:Nat->Prop} {σ:Ce} {H:Qc} {w:AJ}
end
end
section
open Go.MapKept
def M5{α β:Type}(ek:α->A)(ev:β->AA A)(l:AA (α×AB (AA β))):AA (A×AB (AA (AA A))):=l.map λp=>(ek p.1,p.2.map (List.map ev))
def gc{α β:Type}[DecidableEq α](l:AA (α×AB (AA β)))(x:α):AA (α×AB (AA β)):=l.map λp=>bif p.1=x then(p.1,AF)else p
section
variable {P:AK} {kt:TypeId} {α β:Type} [DecidableEq α] {ek:α->A} {ev:β->AA A} {ro:Nat->Prop} {w:AJ} {t k:Nat} (K:JI P kt ek)
include K
theorem qX{x:α}:∀{l:AA (α×AB (AA β))} {es:AA MapEntry},MO ro w t k (M5 ek ev l) es->MO ro w t k (M5 ek ev (gc l x)) es
 |[],es,h=>h
 |p::l,es,h=>by
  obtain⟨e,l',rfl,h1,h2,h3⟩:=h;by_cases q:p.1=x
  .refine⟨e,l',rfl,gq,λrows hr=>?_,qX h3⟩
   grind
  .refine⟨e,l',rfl,gq,gq,qX h3⟩
omit K
theorem mZ{x:α}{c:Nat}:∀{l:AA (α×AB (AA β))} {es:AA MapEntry},Nr (M5 ek ev (gc l x)) es c->Nr (M5 ek ev l) es c
 |[],es,h=>by cases es<;>exact h.elim
 |p::l,[],h=>h.elim
 |p::l,e::es,h=>by
  rcases h with⟨h1,h2⟩|h
  .by_cases q:p.1=x
   .grind
   .exact .inl ⟨gq,h2⟩
  .exact .inr (mZ h)
theorem Qnd{x:α}:∀{l:AA (α×AB (AA β))} {es:AA MapEntry},dJ (M5 ek ev l) es->dJ (M5 ek ev (gc l x)) es
 |[],es,h=>by cases es<;>trivial
 |p::l,[],h=>trivial
 |p::l,e::es,h=>by
  obtain⟨h1,h2⟩:=h;refine⟨λc q1 q2 q3=>?_,Qnd h2⟩;by_cases q:p.1=x
  .grind
  .exact h1 c gq q2 (mZ q3)
include K
theorem MO.find:∀{l:AA (α×AB (AA β))} {es:AA MapEntry},MO ro w t k (M5 ek ev l) es->∀(x:α),(es.map (·.key)).Nodup->
  ((∀e:MapEntry,e∈es->e.key≠Ya (ek x))->Jq l x=AF)/\
  (∀(j:Nat) (e:MapEntry),es[j]?=AC e->e.key=Ya (ek x)->∃q,Jq l x=AC q/\(∀rows,q=AC rows->SO ro w t k (rows.map ev) e.val)/\
   ∀c p n cap,q.isSome=AE->e.val=.slice (AC ⟨c,p,AF⟩) n cap->Nr (M5 ek ev l) es c/\(dJ (M5 ek ev l) es->¬Nr (M5 ek ev (gc l x)) es c))
 |[],es,h,x,_=>by
  cases(show es=[]from h);exact⟨λ_=>rfl,sq⟩
 |p::l,es,h,x,hn=>by
  obtain⟨e0,l',rfl,h1,h2,h3⟩:=h;have hk:=VR.val (K.scl _) h1;simp only[Vj,List.nodup_cons]at hn;obtain⟨a1,a2⟩:=MO.find (l:=l) h3 x hn.2;by_cases hp:p.1=x
  .subst hp;constructor
   .grind
   .intro j e he hx;cases j with
    |zero=>
     simp only[XD,Option.some.injEq]at he;subst he;refine⟨p.2,by simp[Jq],gq,λc p' n cap hs hv=>⟨.inl gq,λhd hq=>?_⟩⟩;rcases hq with⟨q1,_⟩|hq
     .simp at q1
     .exact hd.1 c gq ⟨p',n,cap,hv⟩ (mZ (l:=l) hq)
    |succ j=>
     grind
  .have e1:Jq (p::l) x=Jq l x:=by simp[Jq,hp]
   rw[e1];constructor
   .grind
   .intro j e he hx;cases j with
    |zero=>
     simp only[XD,Option.some.injEq]at he;subst he;exact absurd (K.inj _ _ (hk.symm.trans hx)) hp
    |succ j=>
     obtain⟨q,m,g,B⟩:=a2 j e gq hx;refine⟨q,m,g,λc p' n cap hs hv=>?_⟩;obtain⟨d,f⟩:=B c p' n cap hs hv;refine⟨.inr d,λhd hq=>?_⟩;rcases hq with⟨q1,y⟩|hq
     .exact hd.1 c gq y d
     .exact f hd.2 hq
end
section
variable {P:AK} {o:AM} {env:Env} {H:Qc}
variable {T kt et:Nat} {α β:Type} [DecidableEq α] {ek:α->A} {ev:β->AA A} {x y:Operand} {i t k:Nat} {l:AA (α×AB (AA β))} {key:α} {rows:AA β}
end
end
section
open Go.MapKept
theorem MO.append{ro:Nat->Prop}{w:AJ}{t k:Nat}:∀{l m:AA (A×AB (AA (AA A)))} {es fs:AA MapEntry},MO ro w t k l es->MO ro w t k m fs->MO ro w t k (l++m) (es++fs)
 |[],m,es,fs,h,q=>by cases(show es=[]from h);exact q
 |p::l,m,es,fs,h,q=>by
  obtain⟨e,l',rfl,h1,h2,h3⟩:=h;exact⟨e,l'++fs,rfl,h1,h2,MO.append h3 q⟩
theorem MO.length{ro:Nat->Prop}{w:AJ}{t k:Nat}:∀{l:AA (A×AB (AA (AA A)))} {es:AA MapEntry},MO ro w t k l es->es.length=l.length
 |[],es,h=>by cases(show es=[]from h);rfl
 |p::l,es,h=>by
  obtain⟨e,l',rfl,h1,h2,h3⟩:=h;simp[MO.length h3]
section
variable {P:AK} {kt:TypeId} {α β:Type} [DecidableEq α] {ek:α->A} {ev:β->AA A} {ro:Nat->Prop} {w:AJ} {t k:Nat} (K:JI P kt ek)
end
section
variable {P:AK} {o:AM} {env:Env} {H:Qc}
variable {T kt et:Nat} {α β:Type} [DecidableEq α] {ek:α->A} {ev:β->AA A} {x y zz:Operand} {i j t k n:Nat} {l m:AA (α×AB (AA β))} {key:α} {rows:AA β}
end
end
section
open Go.MapKept
section
variable {fr ro:Nat->Prop} {σ:Ce} {H:Qc} {w:AJ}
theorem MO.er{t k:Nat}:∀{es:AA (A×AB (AA (AA A)))} {l:AA MapEntry},MO ro w t k es l->ER ro [] w (es.map λe=>(e.1,.any)) l
 |[],_,h=>h
 |x::r,_,⟨e,l',h1,h2,h3,h4⟩=>⟨e,l',h1,h2,trivial,MO.er h4⟩
end
section
variable {P:AK} {o:AM} {env:Env} {H:Qc} {T kt et i t k:Nat} {x:Operand} {es:AA (A×AB (AA (AA A)))}
end
section
variable {P:AK} {o:AM} {env:Env} {H:Qc}
variable {T kt et:Nat} {α β:Type} [DecidableEq α] {ek:α->A} {ev:β->AA A} {x y zz:Operand} {i j t k n:Nat} {l m:AA (α×AB (AA β))} {key:α} {rows:AA β}
end
end
section
open Go.MapKept
section
variable {P:AK} {o:AM} {env:Env} {H:Qc}
variable {T kt et:Nat} {α β:Type} [DecidableEq α] {ek:α->A} {ev:β->AA A} {x y zz:Operand} {i j t k n:Nat} {l m:AA (α×AB (AA β))} {key:α} {rows:AA β}
end
end
section
theorem S5{h0 d:Nat}{x y:A}{e:Env}{H:Qc}:Le h0 ((d,x)::(d,y)::e) H ((d,x)::e) H:=Le.env λs=>.inr (by
 simp[lk]
 grind)
abbrev NE:=AA (Nat×Nat×Nat)
def dM:Nat->Nat->AA (Nat×Nat)
 |lo,0=>[(lo,lo)]
 |lo,n+1=>(lo,lo)::dM (lo+1) n
def oR(p:Nat×Nat×Nat):AA (Nat×Nat):=bif Nat.beq p.1 1 then[(p.2.1,p.2.1+1)]else dM p.2.1 (p.2.2-p.2.1)
def P_(cat:NE):AA (AA (Nat×Nat)):=cat.map oR
def oP(bs:AA Nat)(cat:NE):AA (AA Nat):=cat.map λp=>bs.take p.2.1
def oY(cat:NE):AA Bool:=cat.map λp=>Nat.beq p.1 1
def f_(bs:AA Nat):AA (AA Nat):=(List.range (bs.length+1)).map bs.take
theorem iI:∀(n lo:Nat),∀p∈dM lo n,p.1=p.2
 |0,lo,p,h=>by cases h with|head=>rfl|tail _ h=>cases h
 |n+1,lo,p,h=>by
  rcases X6.1 h with rfl|h
  .rfl
  .exact iI n _ p h
variable {Zs:AA Qc}{hi:Nat}
section
variable {P:AK} {T:Fr} {h0 N m:Nat} {bs:AA Nat} {cat:NE} {l:AA AM} {ds:AA Nat} {env:Env} {H:Qc} {Hs:AA Qc} {Q:Qy} {K:AA AM->Env->Qc->Prop}
def P0(P:AK)(N:Nat)(cat:NE)(l:AA AM)(ds:AA Nat)(env:Env)(n:Nat)(Hs:AA Qc)(zs:AA A)(j:Nat):Prop:=
 ∀p∈(P_ cat).getD j [],Jn P N l ds zs env n n j (Hs.getD p.1 []) (Hs.getD p.2 [])
def dS:AA (Nat×AB CW)->Qc->Prop
 |[],_=>True
 |p::r,Z=>Z[p.1]?=p.2/\dS r Z
def DK(P:AK)(N m:Nat)(bs:AA Nat)(cat:NE)(l:AA AM)(ds:AA Nat)(env:Env)(n:Nat)(K:AA AM->Env->Qc->Prop)(B:AA (Nat×AB CW))(Hs:AA Qc)(X:Qc)(r:AA AM)(xs:AA A):Prop:=
 r=l.drop xs.length->∃ys Zs Y,xs.length+ys.length=m/\Hs.length+Zs.length=bs.length/\((∀Z∈Zs,n<=Z.length)/\(Hs.reverse++X::Zs).getD bs.length []=Y/\ ∀Z∈Zs,dS B Z)/\(∀j,xs.length<=j->j<m->P0 P N cat l ds env n (Hs.reverse++X::Zs) (xs++ys) j)/\K (l.drop m) (Ir ds (xs++ys) env) Y
theorem _G{f:AA A}{n:Nat}(g:cat.length=m)(x:∀j,0<=j->j<m->P0 P N cat l ds env n Zs f j):Co P N l ds f env n (n+0) 0 ((P_ cat).map λq=>q.map λp=>(Zs.getD p.1 [],Zs.getD p.2 [])):=by
 refine lb _ 0 λi s d p h=>?_;rw[Xo]at d;cases e:(P_ cat)[i]? with
 |none=>grind
 |some q=>
  rw[e]at d;cases d;obtain⟨t,y,rfl⟩:=Xe.1 h;have B:i<m:=by
   grind[P_]
  have:=x i (XT _) B t gq
  grind
theorem QpN{id:Nat}(m:Nat)(f:AA Nat)(cat:NE)(t:P.follows .mixedOrders=AE)(E:HR l m N (I4 m 0 l) (oY cat) (oP f cat) (f_ f) (P_ cat)=AE)(j:Nat.beq cat.length m=AE)(g:Nat.ble h0 H.length=AE)
  (h:DK P N m f cat l (I4 m 0 l) env H.length (λr e H=>WO P h0 N l.toArray r e H Q) [] [] H l []):TC P h0 N (.region id l.toArray AE) env H Q:=by
 obtain⟨x,Zs,Y,G,F,J,y,B⟩:=h rfl;have d:=XP j;have q:(f_ f).length=f.length+1:=by simp[f_]
 refine Yx m 0 _ _ _ _ _ x (H::Zs) Y t E gq (by simp_all) g ?_ sq gq (_G d y) (by simp[P_,d]) B
 simp_all
variable {n:Nat} {X X1:Qc} {B:AA (Nat×AB CW)} {xs:AA A} {o:AM} {r:AA AM} {x:A} {d:Nat}
theorem DK.done(f:Nat.beq xs.length m=AE)(d:Nat.beq Hs.length bs.length=AE)(h:K r (Ir ds xs env) X):DK P N m bs cat l ds env n K B Hs X r xs:=by
 intro x;have e:=XP f;have t:=XP d;refine⟨[],[],X,by simpa using e,om,⟨(λZ hZ=>by cases hZ),?_,λZ hZ=>by cases hZ⟩,λj g q=>om,?_⟩
 .grind
 grind
theorem DK.add(G:∀ys Zs,Hs.length+Zs.length=bs.length->(∀Z∈Zs,dS B Z)->l[xs.length]?=AC o->P0 P N cat l ds env n (Hs.reverse++X::Zs) (xs++x::ys) xs.length)(k:DK P N m bs cat l ds env n K B Hs X r (xs++[x])):DK P N m bs cat l ds env n K B Hs X (o::r) xs:=by
 intro q;obtain⟨E,h⟩:=Zy q;obtain⟨ys,Zs,Y,t,f,y,g,d⟩:=k gq;simp[Vi,Vh]at t g d;refine⟨x::ys,Zs,Y,gq,f,y,λj F H=>?_,d⟩
 grind
theorem Zj{zs:AA A}{j:Nat}{c:Nat×Nat×Nat}(f:YJ cat j=AC c)(h:∀p∈oR c,Jn P N l ds zs env n n j (Zs.getD p.1 []) (Zs.getD p.2 [])):P0 P N cat l ds env n Zs zs j:=by
 intro p d
 grind[M9,P_]
theorem QqD{c:Nat}(d:Nat.beq c Hs.length=AE):(Hs.reverse++X::Zs).getD c []=X:=by
 simp_all
theorem DK.wo{c:Nat}(h:WO P X.length N l.toArray [o] (Q7 (Qi o) 0 ds xs env) X (YY (up (Q7 (Qi o) 0 ds xs env) d x) X))(k:DK P N m bs cat l ds env n K B Hs X r (xs++[x]))
  (g:YJ cat xs.length=AC (0,c,c):=by rfl)(hd:o.dst=AC d:=by rfl)(hcH:Nat.beq c Hs.length=true:=by rfl):DK P N m bs cat l ds env n K B Hs X (o::r) xs:=
 .add (λys Zs hn hf ho=>Zj g λp f=>by
  have:=by
   change p∈dM c (c-c)at f;rw[Nat.sub_self]at f;exact Vz.1 f
  grind[QqD,NA,YX]) k
theorem DK.wa{lo:Nat}(h:∀X,WO P X.length N l.toArray [o] (Q7 (Qi o) 0 ds xs env) X (YY (up (Q7 (Qi o) 0 ds xs env) d x) X))(k:DK P N m bs cat l ds env n K B Hs X r (xs++[x]))
  (g:YJ cat xs.length=AC (0,lo,hi):=by rfl)(hd:o.dst=AC d:=by rfl):DK P N m bs cat l ds env n K B Hs X (o::r) xs:=
 .add (λys Zs hn hf ho=>Zj g λp f=>by
  have e:=iI _ _ p f
  grind[NA,YX]) k
theorem DK.op{c M:Nat}(h:WO P X.length N l.toArray [o] (Q7 (Qi o) 0 ds xs env) X (YY (up (Q7 (Qi o) 0 ds xs env) d x) X1))(k:DK P N m bs cat l ds env n K B (X::Hs) X1 r (xs++[x]))(Q:Nat.ble n X1.length=true:=by rfl)
  (hc:YJ cat xs.length=AC (1,c,M):=by rfl)(hd:o.dst=AC d:=by rfl)(hcH:Nat.beq c Hs.length=true:=by rfl)(hB:dS B X1:=by repeat (first|exact trivial|refine⟨rfl,?_⟩)):DK P N m bs cat l ds env n K B Hs X (o::r) xs:=by
 intro J;obtain⟨O,H⟩:=Zy J;obtain⟨E,Zs,Y,L,F,g,G,t⟩:=k gq;simp only[X2,XZ,List.length_nil,Vi,VJ,Vh,List.reverse_cons]at L F g G t;refine⟨x::E,X1::Zs,Y,gq,gq,⟨λZ f=>?_,g.2.1,?_⟩,λj R T=>?_,t⟩
 .rcases X6.1 f with rfl|f
  .simp_all
  grind
 .intro Z f;rcases X6.1 f with rfl|f
  .exact hB
  .exact g.2.2 Z f
 .rcases VA xs.length j with q|q
  .grind
  .obtain rfl:j=xs.length:=by omega
   refine Zj hc λp y=>?_;have:p=(c,c+1):=Vz.1 y
   grind[Nat.eq_of_beq_eq_true,NA,YX]
theorem Qqq{hB hE:Nat}{xs d:AA A}{o:AM}{X X':Qc}(g:l[xs.length]?=AC o)(hdd:JR hB hE X X'=AE)(h:WO P X.length N l.toArray [o] (Q7 (Qi o) 0 ds xs env) X (YY (Q7 (Qi o) 0 ds xs env) X'))(f:o.dst=AF):
  Jn P N l ds (xs++.any::d) env hB hE xs.length X X':=
 .unitE o _ g f mQ (he:=by
  intro s;rcases lR (af:=Qi o) (env0:=env) (s:=s) ds xs (.any::d) 0 with⟨j,y,B,x,t,m⟩|q|q
  .grind
  .grind
  grind) (hdd:=hdd) (h:=h)
theorem DK.un{c J:Nat}(h:WO P X.length N l.toArray [o] (Q7 (Qi o) 0 ds xs env) X (YY (Q7 (Qi o) 0 ds xs env) X1))(k:DK P N m bs cat l ds env n K B (X::Hs) X1 r (xs++[.any]))(M:Nat.ble n X1.length=true:=by rfl)
  (hc:YJ cat xs.length=AC (1,c,J):=by rfl)(hd:o.dst=none:=by rfl)(hcH:Nat.beq c Hs.length=true:=by rfl)(hB:dS B X1:=by repeat (first|exact trivial|refine⟨rfl,?_⟩)):DK P N m bs cat l ds env n K B Hs X (o::r) xs:=by
 intro G;obtain⟨L,F⟩:=Zy G;obtain⟨x,Zs,Y,H,y,f,E,g⟩:=k gq;simp only[X2,XZ,List.length_nil,Vi,VJ,Vh,List.reverse_cons]at H y f E g;refine⟨.any::x,X1::Zs,Y,gq,gq,⟨λZ d=>?_,f.2.1,?_⟩,λj O Q=>?_,g⟩
 .rcases X6.1 d with rfl|d
  .simp_all
  grind
 .intro Z d;rcases X6.1 d with rfl|d
  .exact hB
  .exact f.2.2 Z d
 .rcases VA xs.length j with q|q
  .grind
  .obtain rfl:j=xs.length:=by omega
   refine Zj hc λp t=>?_;have:p=(c,c+1):=Vz.1 t
   grind[Nat.eq_of_beq_eq_true,Qqq,YX]
def Sq(T:Fr)(N m:Nat)(cat:NE)(l:AA AM)(ds:AA Nat)(env:Env)(n:Nat)(fl:Bool):Nat->Nat->Nat->AA Qc->Qc->AA AM->AA A->AB (AA Qc×AA AM×AA A)
 |0,_,_,Hs,X,r,xs=>AC (Hs,r,xs)
 |_+1,_,_,_,_,[],_=>AF
 |k+1,i,j,Hs,X,o::r,xs=>match o.dst with
  |none=>AF
  |some d=>match Nat.blt d N with
   |false=>AF
   |true=>match Yg ⟨l⟩ o (Q7 (Qi o) 0 ds xs env)with
    |none=>AF
    |some AD=>(match KN xs (.tup [])with
      |.mk xs'=>match YJ cat i with
       |some (0,_,_)=>Sq T N m cat l ds env n fl k (i+1) j Hs X r xs'
       |some (1,c,_)=>(match fl&&Nat.beq c j,Nat.ble n X.length with
        |true,AE=>Sq T N m cat l ds env n fl k (i+1) (j+1) (X::Hs) X r xs'
        |_,_=>AF)
       |_=>AF)
    |some AE=>match YJ cat i with
     |some (0,lo,hi)=>(match IL T o (Q7 (Qi o) 0 ds xs env) []with
      |some x=>(match KN xs x with
       |.mk xs'=>Sq T N m cat l ds env n fl k (i+1) j Hs X r xs')
      |none=>match Nat.beq lo hi,Nat.beq lo j with
       |true,AE=>(match IL T o (Q7 (Qi o) 0 ds xs env) X with
        |none=>AF
        |some x=>match KN xs x with
         |.mk xs'=>Sq T N m cat l ds env n fl k (i+1) j Hs X r xs')
       |_,_=>AF)
     |_=>AF
theorem eM(hT:Iu P T){fl:Bool}(hfl:fl=AE->B=[]):∀(k i j:Nat) {Hs Hs':AA Qc} {r r':AA AM} {xs xs':AA A},i=xs.length->j=Hs.length->Sq T N m cat l ds env n fl k i j Hs X r xs=AC (Hs',r',xs')->DK P N m bs cat l ds env n K B Hs' X r' xs'->DK P N m bs cat l ds env n K B Hs X r xs
 |0,i,j,Hs,Hs',r,r',xs,xs',_,_,h,k=>by cases h;exact k
 |k0+1,i,j,Hs,Hs',[],r',xs,xs',_,_,h,k=>by cases h
 |k0+1,i,j,Hs,Hs',o::r,r',xs,xs',hi,hj,h,k=>by
  subst hi hj;unfold Sq at h;split at h
  .cases h
  .rename_i d hd;split at h
   .cases h
   .rename_i q2;split at h
    .cases h
    .rename_i hw;simp[Js]at h;split at h
     .rename_i lo hi' q0;exact .wa (λX=>WO.skip (Qx hw) hd q2 (WO.nil YY.mk)) (eM hT hfl k0 _ _ sq rfl h k) q0 hd
     .rename_i c c' q0;split at h
      .rename_i q1 q3;rw[XV]at q1;exact .op (WO.skip (Qx hw) hd q2 (WO.nil YY.mk)) (eM hT hfl k0 _ _ sq sq h k) q3 q0 hd q1.2 (hfl q1.1▸trivial)
      .cases h
     .cases h
    .rename_i hw;split at h
     .rename_i lo hi' q0;split at h
      .rename_i x hv;simp[Js]at h;exact .wa (λX=>Yr (Qx hw) hd q2 (ND hT (mY hv)) (WO.nil YY.mk)) (eM hT hfl k0 _ _ sq rfl h k) q0 hd
      .split at h
       .rename_i q1 q3;split at h
        .cases h
        .rename_i x hv;simp[Js]at h;obtain rfl:=XP q1;exact .wo (Yr (Qx hw) hd q2 (ND hT hv) (WO.nil YY.mk)) (eM hT hfl k0 _ _ sq rfl h k) q0 hd q3
       .cases h
     .cases h
theorem DK.is{α:Type}{b:Bool}{p q:AB α}{v:α}{f d:AA A}(j:Nat)(h:(bif b then p else q)=AC v)(y:YJ xs j=AC (.bool b))(x:Nn xs j (.bool AE)=.mk f)(g:Nn xs j (.bool AD)=.mk d)
  (t:b=AE->p=AC v->DK P N m bs cat l ds env n K B Hs X r f)(e:b=AD->q=AC v->DK P N m bs cat l ds env n K B Hs X r d):DK P N m bs cat l ds env n K B Hs X r xs:=by
 cases b with
 |true=>simp_all[eE]
 |false=>simp_all[eE]
theorem DK.v(h:CS P o (Q7 (Qi o) 0 ds xs env) X x)(k:DK P N m bs cat l ds env n K B Hs X r (xs++[x])){c:Nat}(hg:Yg ⟨l⟩ o (Q7 (Qi o) 0 ds xs env)=AC true:=by rfl)
  (hd:o.dst=AC d:=by rfl)(hN:Nat.blt d N=true:=by rfl)(hc:YJ cat xs.length=AC (0,c,c):=by rfl)(hcH:Nat.beq c Hs.length=true:=by rfl):DK P N m bs cat l ds env n K B Hs X (o::r) xs:=
 .wo (Yr (Qx hg) hd hN h (WO.nil YY.mk)) k hc hd hcH
def ZK(T:Fr)(o:AM)(e:Env)(x:A):Nat->AA Qc->Prop
 |0,_=>True
 |k+1,Y::r=>IL T o e Y=AC x/\ZK T o e x k r
 |_+1,[]=>False
theorem lN{T:Fr}{o:AM}{e:Env}{x:A}:∀{k:Nat} {r:AA Qc},ZK T o e x k r->∀j,j<k->IL T o e (r.getD j [])=AC x
 |0,_,_,j,hj=>om
 |k+1,[],h,_,_=>h.elim
 |k+1,Y::r,h,0,_=>h.1
 |k+1,Y::r,h,j+1,hj=>by
  have:=lN h.2 j om
  grind
theorem lM:∀(n lo:Nat),∀p∈dM lo n,lo<=p.1/\p.1<=lo+n
 |0,lo,p,h=>by cases h with|head=>omega|tail _ h=>cases h
 |n+1,lo,p,h=>by
  rcases X6.1 h with rfl|h
  .omega
  .have:=lM n _ p h;omega
def Sg(P:AK)(N:Nat)(l:AA AM)(o:AM)(e:Env)(d:Nat)(x:A):Nat->AA Qc->Prop
 |0,_=>True
 |k+1,Y::r=>WO P Y.length N l.toArray [o] e Y (YY (up e d x) Y)/\Sg P N l o e d x k r
 |_+1,[]=>False
theorem qC{e:Env}:∀{k:Nat} {r:AA Qc},Sg P N l o e d x k r->∀j,j<k->WO P (r.getD j []).length N l.toArray [o] e (r.getD j []) (YY (up e d x) (r.getD j []))
 |0,_,_,j,hj=>om
 |k+1,[],h,_,_=>h.elim
 |k+1,Y::r,h,0,_=>h.1
 |k+1,Y::r,h,j+1,hj=>by
  have:=qC h.2 j om
  grind
theorem KS{lo:Nat}(h:Sg P N l o (Q7 (Qi o) 0 ds xs env) d x (hi+1-lo) (X::Hs))(k:DK P N m bs cat l ds env n K B Hs X r (xs++[x]))
  (q:YJ cat xs.length=AC (0,lo,hi):=by rfl)(hd:o.dst=AC d:=by rfl)(hcH:Nat.beq hi Hs.length=true:=by rfl)(hle:Nat.ble lo hi=true:=by rfl):DK P N m bs cat l ds env n K B Hs X (o::r) xs:=
 .add (λys Zs hn hf ho=>Zj q λp f=>by
  have e:=iI _ _ p f;have g:=XQ hle;have hb:=lM (hi-lo) lo p f;have y:=XP hcH;rw[<- e];have j:=qC h (Hs.length-p.1) om;have t:(Hs.reverse++X::Zs).getD p.1 []=(X::Hs).getD (Hs.length-p.1) []:=by
   grind
  rw[t];exact NA ho YX j hd) k
theorem DK.vs(E:Iu P T){lo:Nat}(h:ZK T o (Q7 (Qi o) 0 ds xs env) x (hi+1-lo) (X::Hs))(k:DK P N m bs cat l ds env n K B Hs X r (xs++[x]))
  (y:YJ cat xs.length=AC (0,lo,hi))(j:o.dst=AC d)(f:Nat.beq hi Hs.length=AE)(hg:Yg ⟨l⟩ o (Q7 (Qi o) 0 ds xs env)=AC AE)(q:Nat.blt d N=AE)(g:Nat.ble lo hi=AE):DK P N m bs cat l ds env n K B Hs X (o::r) xs:=by
 refine KS ?_ k y j f g;generalize hi+1-lo=c at h;generalize X::Hs=L at h
 induction c generalizing L with
 |zero=>trivial
 |succ c t=>
  cases L with
  |nil=>exact h.elim
  |cons Y L=>exact⟨Yr (Qx hg) j q (ND E h.1) (WO.nil YY.mk),t L h.2⟩
def ga(o:AM)(e:Env):AB Nat:=match o.op with
 |.load _ (.global _)=>AF
 |.load _ x=>match DQ e x with
  |.mk (.ptr b _)=>AC b
  |_=>AF
 |_=>AF
theorem QlL{T:Fr}{e:Env}{b:Nat}{Y Z:Qc}(h:ga o e=AC b)(m:Z[b]?=Y[b]?):IL T o e Z=IL T o e Y:=by
 have f:∀{x:Operand} {d:Nat},DQ e x=.mk (.ptr b d)->NV Z (DQ e x)=NV Y (DQ e x):=λq=>by
  rw[q];simp only[NV,M9,m]
 unfold ga at h;unfold IL;split at h
 .cases h
 .rename_i t x y j;split at h
  .rename_i B d q;cases h;rw[j];cases x with
   |global g=>exact absurd rfl (y g)
   |_=>simp only[f q]
  .cases h
 .cases h
theorem R?(W:Iu P T){lo b:Nat}(L:ga o (Q7 (Qi o) 0 ds xs env)=AC b)(h:ZK T o (Q7 (Qi o) 0 ds xs env) x (Hs.length+1-lo) (X::Hs))(k:DK P N m bs cat l ds env n K ((b,X[b]?)::B) Hs X r (xs++[x]))
  (hc:YJ cat xs.length=AC (0,lo,hi))(G:o.dst=AC d)(g:Nat.ble lo Hs.length=AE)(f:Nat.ble hi bs.length=AE)(hg:Yg ⟨l⟩ o (Q7 (Qi o) 0 ds xs env)=AC AE)(hN:Nat.blt d N=AE):DK P N m bs cat l ds env n K B Hs X (o::r) xs:=by
 have k':DK P N m bs cat l ds env n K ((b,X[b]?)::B) Hs X (o::r) xs:=.add (λJ Zs hn hf ho=>Zj hc λp H=>by
  have e:=iI _ _ p H;have g:=XQ g;have f:=XQ f;have hb:=lM (hi-lo) lo p H;rw[<- e];have E:IL T o (Q7 (Qi o) 0 ds xs env) ((Hs.reverse++X::Zs).getD p.1 [])=AC x:=by
   rcases VA Hs.length p.1 with q|q
   .have Q:=lN h 0 om;obtain⟨j,hj⟩:∃j,p.1=Hs.length+1+j:=⟨p.1-Hs.length-1,om⟩;have y:(Hs.reverse++X::Zs).getD p.1 []=Zs.getD j []:=gq;have F:j<Zs.length:=om;have R:=(hf Zs[j] (Vd F)).1;have hz:Zs.getD j []=Zs[j]:=gq;rw[y,hz,QlL L R];exact Q
   .have E:=lN h (Hs.length-p.1) om;have y:(Hs.reverse++X::Zs).getD p.1 []=(X::Hs).getD (Hs.length-p.1) []:=gq;rw[y];exact E
  exact NA ho YX (Yr (Qx hg) G hN (ND W E) (WO.nil YY.mk)) G) k
 intro O;obtain⟨J,Zs,Y,h1,M,t,V,h5⟩:=k' O;exact⟨J,Zs,Y,h1,M,⟨t.1,t.2.1,λZ hZ=>(t.2.2 Z hZ).2⟩,V,h5⟩
end
def room(n:Int):AB Nat:=bif AG (0<n)&&AG (n<=4294967296)then AC n.toNat else AF
variable {T T' et t:Nat}{y:Operand}{α:Type}
variable {e:α->AA A}{l l':AA α}
section
variable {P:AK} {o:AM} {env:Env} {H:Qc}
theorem Za{d i:Nat}{x x':CW}(hH:H[i]?=AC x)(e:x=x'):Le d env H env (H.set i x'):=by
 grind[List.set_getElem_self,Le.refl]
theorem RL.put{ro:Nat->Prop}{σ:Ce}{w:AJ}{k:Nat}:∀{a:Nat} {es fs:AA (AA A)} {l m:AA AL},RL ro σ w k es l->a+fs.length<=es.length->Sw.allK k fs->LR ro σ w fs.flatten m->(∀v∈m,QC v)->
  RL ro σ w k (es.take a++fs++es.drop (a+fs.length)) (Sw.splice l (a*k) m)
 |0,es,[],l,m,h,hn,hk,hm,hp=>by
  obtain rfl:m=[]:=hm;simpa[Sw.splice]using h
 |0,[],f::fs,l,m,h,hn,hk,hm,hp=>by simp at hn
 |0,c::es,f::fs,l,m,⟨l1,l2,h1,h2,h3,h4⟩,hn,hk,hm,hp=>by
  subst h1;have hl1:=h3.1.length;have hml:=hm.length;rw[Vl,X2]at hml;have e1:m.take k++m.drop k=m:=Xy _ _;have q1:LR ro σ w f (m.take k):=by have:=hm.take k;rwa [Vl,X7 (by rw[hk.1];omega),VH (by rw[hk.1];omega)]at this
  have q2:=by have:=hm.drop k;rwa [Vl,X8 (by rw[hk.1];omega),List.drop_of_length_le (by rw[hk.1];omega),Vh]at this
  have d:=RL.put (a:=0) h4 gq hk.2 q2 (λv g=>hp v (List.mem_of_mem_drop g));simp only[List.take_zero,Vh,Xv,Nat.zero_mul,Sw.splice]at d⊢;refine⟨m.take k,m.drop k++l2.drop (m.drop k).length,?_,hk.1,⟨q1,λv g=>hp v (List.mem_of_mem_take g)⟩,by simp_all⟩;have q:k<=m.length:=by rw[hml,hk.1];omega
  rw[<- Vi,e1];congr 1
  grind[List.drop_length_add_append]
 |a+1,[],fs,l,m,h,hn,hk,hm,hp=>by simp at hn
 |a+1,c::es,fs,l,m,⟨l1,l2,h1,h2,h3,h4⟩,hn,hk,hm,hp=>by
  subst h1;have hl1:=h3.1.length;have d:=RL.put (a:=a) h4 (by simp at hn;omega) hk hm hp;refine⟨l1,Sw.splice l2 (a*k) m,?_,h2,h3,?_⟩
  .have e1:(a+1)*k=l1.length+a*k:=by rw[Xm];omega
   unfold Sw.splice;rw[e1,Vb,show l1.length+a*k+m.length=l1.length+(a*k+m.length)from om,Va];simp
  .have j:a+1+fs.length=(a+fs.length)+1:=by omega
   simpa[j]using d
def RM(P:AK)(H:Qc)(x:A)(k:Nat)(es:AA (AA A)):Prop:=
 ∀fr ro σ w v,CZ fr ro σ H w->VR ro σ w x v->(∃a c,v=.slice a es.length c)/\
  ∀j,j<=es.length->allK k (es.take j)/\ ∃l,(Builtin.firstCells k j v).run P w=.ok l.toArray w/\LR ro [] w (es.take j).flatten l/\ ∀v∈l,QC v
theorem t_{fr ro:Nat->Prop}{σ:Ce}{w:AJ}{k j b d n c:Nat}{es:AA (AA A)}(h:RR ro [] w b k es d)(m:j<=es.length):
  allK k (es.take j)/\ ∃l,(Builtin.firstCells k j (.slice (AC ⟨b,d,AF⟩) n c)).run P w=.ok l.toArray w/\LR ro [] w (es.take j).flatten l/\ ∀v∈l,QC v:=by
 obtain⟨t,x,f⟩:=(h.take j).flat;rw[Xx,XA m]at f;obtain⟨l,q,g⟩:=mt (c:=c) t f;exact⟨x,l,(q w rfl),g⟩
theorem m3{k n c:Nat}{a:AB Addr}{w:AJ}:(Builtin.firstCells k 0 (.slice a n c)).run P w=.ok #[] w:=by
 cases a<;>simp[go_sem]
theorem X?{k:Nat}:RM P H (.rsl k (l.map e)) k (l.map e):=by
 intro fr q σ w v s ⟨a,c,h1,h2,d⟩;subst h1;refine⟨⟨a,c,rfl⟩,λj g=>?_⟩;rcases d with d|⟨b,f,rfl,m,h⟩
 .obtain rfl:j=0:=by grind
  exact⟨trivial,[],m3,rfl,sq⟩
 .exact t_ (fr:=fr) (σ:=σ) h g
theorem RM.osl{i s n k t:Nat}{es d:AA (AA A)}(hH:H[i]?=AC (.row t k es))(he:(es.drop s).take n=d)(R:s+n<=es.length):RM P H (.osl i s n k) k d:=by
 intro fr M σ w v sm h;have x:d.length=n:=gq;rcases h with⟨rfl,rfl⟩|⟨b,p,f,N,m,F,rfl,y,⟨Q,B⟩,L,O⟩
 .have e:d=[]:=gq;subst e;refine⟨⟨AF,0,rfl⟩,λj q=>?_⟩;obtain rfl:j=0:=om;exact⟨trivial,[],m3,rfl,sq⟩
 .rw[x];refine⟨⟨_,f,rfl⟩,λj q=>?_⟩;obtain⟨l,E,J⟩:=sm.blk i _ _ F hH;have g:=((YT (pre:=[]) (by simpa using E) J).drop s).take n;rw[he]at g;by_cases G:0<f
  .obtain rfl:=y G;simpa using t_ (fr:=fr) (σ:=σ) g om
  .obtain rfl:j=0:=by omega
   exact⟨trivial,[],m3,rfl,sq⟩
theorem W?{b k:Nat}{r:AA α}{a c:Int}(h:Dm l a c=AC r)(hH:H[b]?=AC (.row t k (l.map e)):=by rfl):RM P H (.osl b (0+a.toNat) (c.toNat-a.toNat) k) k (r.map e):=by
 obtain⟨j,f,g,d⟩:=Sy h;refine RM.osl hH ?_ gq;rw[<- d, <- List.map_drop, <- List.map_take,Xv,List.drop_take]
def RI(l:AA α)(a c:Int)(m:AA α):AB (AA α):=AC (l.take a.toNat++m.take (c.toNat-a.toNat)++l.drop (a.toNat+min m.length (c.toNat-a.toNat)))
theorem Qq2{r m:AA α}{a c:Int}(h:Dm l a c=AC r)(d:RI l a c m=AC l'):l.length=l'.length:=by
 obtain⟨j,f,g,_⟩:=Sy h;rw[<- XY d]
 grind
theorem Qpd{m:AA α}(d:RI l 0 l.length m=AC l'):l.length=l'.length:=by
 rw[<- XY d]
 grind
theorem sn{c:Call}{k b a n:Nat}{x:Operand}{ya:A}{m:AA α}(ab:a+n<=l.length)(ae:l.take a++m.take n++l.drop (a+min m.length n)=l')(hT:∀w,(underlying T).run P w=.ok (.slice et) w)(G:∀w,(sizeOf et).run P w=.ok k w)(hs:RM P H ya k (m.map e))
  (ho:o.op=.call c)(hc:c={callee:=.builtin .copy,args:= #[x,y],argTypes:= #[T,T']})(hx:CP env x=.osl b a n k)(hH:H[b]?=AC (.row t k (l.map e)))(hy:CP env y=ya):
  E_ P o env H (.int .i64 (min m.length n:Nat)) (H.set b (.row t k (l'.map e))):=by
 intro Y L σ N ac w r;have B:=Qp r x;rw[hx]at B;have h2:=Qp r y;rw[hy]at h2;obtain⟨⟨ay,cy,e1⟩,q2⟩:=hs Y L σ w _ r.sim h2;rw[X0]at e1 q2;obtain⟨q3,Q,M,X,q6⟩:=q2 (min m.length n) (Nat.min_le_left _ _);have g:((m.map e).take (min m.length n)).length=min m.length n:=sq;have W:l'.map e=(l.map e).take a++(m.map e).take (min m.length n)++(l.map e).drop (a+((m.map e).take (min m.length n)).length):=by
  grind[List.map_take,List.map_drop]
 have d:(Builtin.copy_ #[T,T'] o.type #[ac.eval x,ac.eval y]).run P w=.ok (.int .i64 (min m.length n:Nat)) w->min m.length n=0->
   ∃v w' ro' τ,(execOp ac.eval o).run P w=.ok (.value v) w'/\VR ro' (σ++τ) w' (.int .i64 (min m.length n:Nat)) v/\CZ Y ro' (σ++τ) (H.set b (.row t k (l'.map e))) w'/\Ql Y L w ro' w':=by
  intro h hz;have hs:H.set b (.row t k (l'.map e))=H:=by
   have:l'.map e=l.map e:=by simp_all
   grind[List.set_getElem_self]
  refine⟨_,w,L,[],?_,rfl,by simpa[hs]using r.sim,Ql.refl _ _ _⟩;subst hc;generalize ac.eval=ρ at*
  simp_all[execOp,resolve,invoke,builtin]
 have J:∀j:Nat,goInt j=.int .i64 j:=λ_=>rfl;rcases B with⟨O,B⟩|⟨bb,p,ad,t',mm,B,h3,h4,⟨h5,af⟩,h6,h7⟩
 .refine d ?_ om;rw[e1]at M⊢;rw[B];have:Nat.min m.length 0=min m.length n:=by rw[O]
  simp only[Builtin.copy_,XF,XD,XE,Vm,hT,G,Result.andThen,Builtin.lenOf,Vn,this,M,J]
 .have f:∀R:Result Unit,(storeCells ⟨bb,p,AF⟩ Q).run P w=R->(Builtin.copy_ #[T,T'] o.type #[ac.eval x,ac.eval y]).run P w=R.andThen λ_ w=>.ok (.int .i64 (min m.length n:Nat)) w:=by
   intro R hR;rw[e1]at M⊢;rw[h3];have:Nat.min m.length n=min m.length n:=rfl;simp only[Builtin.copy_,XF,XD,XE,Vm,hT,G,Result.andThen,Builtin.lenOf,Vn,this,M,J,hR]
  by_cases O:min m.length n=0
  .have E:Q=[]:=by
    have:=X.length;rw[O]at this;exact VI.1 (by simpa using this)
   refine d ?_ O;have:=f (.ok () w) (by rw[E];rfl);rw[this];rfl
  .obtain rfl:=h4 om;obtain⟨l0,g1,g2⟩:=r.sim.blk b _ _ B hH;have V:=g2.length;have E:=X.length;rw[Y1 q3,g]at E;have ag:a*k+(min m.length n)*k<=l0.length:=by
    rw[<- Xz];refine XU (XB k ?_) V;rw[X0];omega
   have F:=YC (P:=P) (vs:=Q) (a*k) 0 g1 om q6;rw[Xw]at F;have h:=f _ F;have q:=r.sim.set (x':=.row t k (l'.map e)) (obj:=.cells (splice l0 (a*k) Q).toArray t (0,0)) B hH rfl
    (λy hy=>JF g1 (YB om) y hy)
    (λex aa=>⟨_,aa,by
     rw[W];exact(RL.put g2 (by rw[g,X0];omega) q3 X q6).mono ex.nil⟩)
   refine⟨_,_,L,[],?_,rfl,by simpa using q.1,q.2⟩;subst hc;generalize ac.eval=ρ at*;simp only[execOp,ho,resolve,Vm,Vn,Result.andThen,invoke,builtin,XH,Vj,Vk,h]
theorem Qm7{c:Call}{k b:Nat}{x:Operand}{f:A}{m:AA α}(h:RI l 0 l.length m=AC l')(q:∀w,(underlying T).run P w=.ok (.slice et) w)(d:∀w,(sizeOf et).run P w=.ok k w)(j:RM P H f k (m.map e))
  (g:o.op=.call c:=by rfl)(hc:c={callee:=.builtin .copy,args:= #[x,y],argTypes:= #[T,T']}:=by rfl)(hx:CP env x=.osl b 0 l.length k:=by rfl)(hH:H[b]?=AC (.row t k (l.map e)):=by rfl)(hy:CP env y=f:=by rfl):
  E_ P o env H (.int .i64 (min m.length l.length:Nat)) (H.set b (.row t k (l'.map e))):=by
 refine sn om ?_ q d j g hc hx hH hy;rw[<- XY h];rfl
theorem Qm8{c:Call}{k b:Nat}{x:Operand}{f:A}{q m:AA α}{i j:Int}(hi:Dm l i j=AC q)(h:RI l i j m=AC l')(B:∀w,(underlying T).run P w=.ok (.slice et) w)(d:∀w,(sizeOf et).run P w=.ok k w)(E:RM P H f k (m.map e))
  (g:o.op=.call c:=by rfl)(hc:c={callee:=.builtin .copy,args:= #[x,y],argTypes:= #[T,T']}:=by rfl)(hx:CP env x=.osl b (0+i.toNat) (j.toNat-i.toNat) k:=by rfl)(hH:H[b]?=AC (.row t k (l.map e)):=by rfl)(hy:CP env y=f:=by rfl):
  E_ P o env H (.int .i64 (min m.length (j.toNat-i.toNat):Nat)) (H.set b (.row t k (l'.map e))):=by
 obtain⟨J,F,L,G⟩:=Sy hi;refine sn om (XY h) B d E g hc ?_ hH hy
 grind
end
open Go.MapKept
section
variable {fr ro ro':Nat->Prop} {σ:Ce} {H:Qc} {w:AJ}
end
theorem vJ{S B:Type}{d D:CF S B}{x:B}(hb:∀b,d=.d b->D=.d b)(h:AC (CF.d x)=AC d):D=.d x:=hb x (Oi h).symm
end
section
section
variable {P:AK} {o:AM} {env:Env} {H:Qc} {α:Type} {e:α->AA A}
end
open Go.MapKept
section
variable {P:AK} {o:AM} {env:Env} {H:Qc}
variable {T kt et:Nat} {α β:Type} [DecidableEq α] {ek:α->A} {ev:β->A} {x y:Operand} {i:Nat} {l:AA (α×β)} {k:α} {z0:β} {z:AL}
end
section
variable {fr ro:Nat->Prop} {σ:Ce} {H:Qc} {w:AJ}
theorem CZ.shutAny(s:CZ fr ro σ H w){i b:Nat}{B:CW}(hσ:σ[i]?=AC (AC b))(hH:H[i]?=AC B)(t:B.live=AE):
  CZ fr (λc=>ro c\/c=b) σ (H.set i .dead) w:=by
 have hown:=s.own i b _ hσ hH t;have ext:DR ro σ w (λc=>ro c\/c=b) σ w:=⟨λ_ q=>.inl q,λ_ _=>rfl,λ_ _ q=>q,λ_ _ q=>q⟩;have f:∀(j:Nat) (v:CW),(H.set i .dead)[j]?=AC v->v≠ .dead->j≠i/\H[j]?=AC v:=by
  grind
 refine⟨by rw[X3];exact s.len,s.roOk.to (λ_ q=>.inl q) (λ_ _=>rfl) ?_,s.frLt,?_,?_,?_,?_,s.hidTo (· = ·) Yq (XS _) (λj d x c Q X R V=>V.elim id λq=>((s.hid j d x c Q X R).ne i b _ hσ hH t q).elim) (λ_ _ _ _ _ _ _ q=>q) λj d y W O Y=>.inl ⟨j,y,rfl,W,(f j y O (iJ Y)).2,id,λ_ q=>q⟩⟩
 .rintro c (q|rfl)
  .exact s.roLt c q
  omega
 .rintro c (q|rfl)
  .exact s.roFr c q
  grind
 .intro j c v h g m;obtain⟨e,g⟩:=f j v g (CW.nd m);obtain⟨T,N,M⟩:=s.own j c v h g m;refine⟨T,?_,M⟩;rintro(q|rfl)
  .exact N q
  .exact e (s.inj j i c v _ h hσ g hH m t)
 .intro j E c v F h g m P G J;exact s.inj j E c v F h g (f j v m (CW.nd G)).2 (f E F P (CW.nd J)).2 G J
 .intro j y v h g;by_cases L:v≠ .dead
  .exact(s.blk j y v h (f j v g L).2).keep ext (λ_ _ _=>rfl) (λ_ _ _ _=>rfl)
  .obtain rfl:v=.dead:=Classical.not_not.1 L;trivial
def kb(H:Qc):AA Nat->Qc
 |[]=>H
 |i::l=>kb (H.set i .dead) l
theorem CZ.shutL:∀{l:AA Nat} {ro:Nat->Prop} {H:Qc} (s:CZ fr ro σ H w),l.Nodup->(∀i∈l,∃x,H[i]?=AC x/\x.live=AE)->
  ∃ro',CZ fr ro' σ (kb H l) w/\(∀c,ro c->ro' c)/\ ∀i∈l,∀b,σ[i]?=AC (AC b)->ro' b
 |[],ro,H,s,_,_=>⟨ro,s,λ_ q=>q,λ_ h=>by cases h⟩
 |i::l,ro,H,s,hn,hl=>by
  rw[List.nodup_cons]at hn;obtain⟨x,hx,hxl⟩:=hl i sq;have rest:∀i'∈l,∃x,(H.set i .dead)[i']?=AC x/\x.live=true:=by
   grind
  have y:∃q,σ[i]?=AC q:=by
   have:i<σ.length:=by rw[s.len];grind
   simp_all
  obtain⟨q,m⟩:=y;cases q with
  |some b=>
   obtain⟨ro',f,j,B⟩:=CZ.shutL (s.shutAny m hx hxl) hn.2 rest;refine⟨ro',f,gq,λi' g t d=>?_⟩
   grind
  |none=>
   obtain⟨ro',f,j,B⟩:=CZ.shutL (s.kill i) hn.2 rest;refine⟨ro',f,j,λi' g t d=>?_⟩
   grind
end
end
section
structure HT (α β:Type) where
 number:Int
 r0:List α
 r1:List α
 r2:List α
 reports:List β
 appeal:Bool
 deriving DecidableEq
structure FK (α β:Type) where
 T:Nat
 tF:Nat
 kF:Nat
 tR:Nat
 kR:Nat
 eF:α->List A
 eR:β->List A
section
variable {α β:Type} (K:FK α β)
def _k(b:Nat)(x:HT α β):AA A:=[.int .i64 x.number,.osl (b+1) 0 x.r0.length K.kF,.osl (b+2) 0 x.r1.length K.kF,.osl (b+3) 0 x.r2.length K.kF,.osl (b+4) 0 x.reports.length K.kR,.bool x.appeal]
def gM(b:Nat)(x:HT α β):AA CW:=[.cells K.T (_k K b x),.row K.tF K.kF (x.r0.map K.eF),.row K.tF K.kF (x.r1.map K.eF),.row K.tF K.kF (x.r2.map K.eF),.row K.tR K.kR (x.reports.map K.eR)]
def Nf:Nat->AA (HT α β)->AA CW
 |_,[]=>[]
 |b,x::l=>gM K b x++Nf (b+5) l
def oa(x:HT α β):AA A:=[.int .i64 x.number,.rsl K.kF (x.r0.map K.eF),.rsl K.kF (x.r1.map K.eF),.rsl K.kF (x.r2.map K.eF),.rsl K.kR (x.reports.map K.eR),.bool x.appeal]
def bT:Nat->AA (HT α β)->AA (Int×Nat)
 |_,[]=>[]
 |b,x::l=>(x.number,b)::bT (b+5) l
def jG(j:Nat):A:=.ptr j 0
def vS(x:HT α β):A:=.rp (oa K x)
def kM(fs:AA (HT α β)):AA (Int×HT α β):=fs.map λx=>(x.number,x)
theorem tN(b:Nat)(x:HT α β)(l:AA (HT α β)):Nf K b (x::l)=gM K b x++Nf K (b+5) l:=rfl
theorem Qmu(b:Nat)(x:HT α β):(gM K b x).length=5:=rfl
end
section
variable {fr ro ro':Nat->Prop} {σ:Ce} {w:AJ}
theorem iE(sub:∀c,ro c->ro' c){i t k:Nat}{es:AA (AA A)}{v:AL}(B:∀b,σ[i]?=AC (AC b)->BR ro σ w (.row t k es) (AC b)/\ro' b)(h:VR ro σ w (.osl i 0 es.length k) v):VR ro' [] w (.rsl k es) v:=by
 rcases h with⟨M,h⟩|⟨b,p,d,J,m,y,h,G,⟨f,j⟩,H,L⟩
 .have:es=[]:=gq;subst this;exact⟨AF,0,h,XS _,.inl rfl⟩
 .refine⟨_,d,h,f,?_⟩;by_cases g:es=[]
  .exact .inl g
  .right;have N:0<d:=Vf gq f;obtain⟨⟨l,x,F⟩,E⟩:=B b y;refine⟨b,0,sq,E,?_⟩;have:=YT (pre:=[]) (by simpa using x) F;exact this.keep ⟨sub,λ_ _=>rfl,λ_ _ q=>q,λ_ _ q=>q⟩ rfl
theorem pP{ro:Nat->Prop}{w:AJ}{b t:Nat}:∀{cs:AA A} {pre l:AA AL},w.heap[b]?=AC (.cells (pre++l).toArray t (0,0))->LR ro [] w cs l->(∀v∈l,QC v)->CR ro [] w b cs pre.length
 |[],pre,l,_,_,_=>trivial
 |a::cs,pre,l,hb,hl,hp=>by
  obtain⟨v,l',rfl,h1,h2⟩:=hl;refine⟨⟨v,?_,hp v sq,h1⟩,?_⟩
  .unfold World.cell?
   grind
  .have:=pP (pre:=pre++[v]) (by simpa using hb) h2 gq
   grind
variable {α β:Type} (K:FK α β)
theorem a?(sub:∀c,ro c->ro' c){b:Nat}{x:HT α β}{v:AL}(j:∀(d c:Nat) (y:CW),(gM K b x)[d]?=AC y->σ[b+d]?=AC (AC c)->BR ro σ w y (AC c)/\ro' c)(h:VR ro σ w (.ptr b 0) v):VR ro' [] w (.rp (oa K x)) v:=by
 obtain⟨c,E,q⟩:=h;obtain⟨⟨l,J,f,B⟩,H⟩:=j 0 c _ rfl E;refine⟨c,0,q,H,(pP (pre:=[]) (by simpa using J) ?_ B)⟩;obtain⟨v0,V,rfl,m,f⟩:=f;obtain⟨F,X,rfl,P,f⟩:=f;obtain⟨L,Y,rfl,q2,f⟩:=f;obtain⟨t,R,rfl,Q,f⟩:=f;obtain⟨M,T,rfl,W,f⟩:=f;obtain⟨N,O,rfl,G,f⟩:=f;refine⟨v0,_,rfl,m,F,_,rfl,iE sub (λc g=>j 1 c _ rfl g) gq,L,_,rfl,iE sub (λc g=>j 2 c _ rfl g) gq,t,_,rfl,iE sub (λc g=>j 3 c _ rfl g) gq,
  M,_,rfl,iE sub (λc g=>j 4 c _ rfl g) gq,N,_,rfl,G,f⟩
theorem QpK(sub:∀c,ro c->ro' c){ek:Int->A}(hek:∀(k:Int) (v:AL),VR ro σ w (ek k) v->VR ro' [] w (ek k) v):∀{b:Nat} {fs:AA (HT α β)} {es:AA MapEntry},(∀(d c:Nat) (y:CW),(Nf K b fs)[d]?=AC y->σ[b+d]?=AC (AC c)->BR ro σ w y (AC c)/\ro' c)->
  ER ro σ w (Qo ek jG (bT b fs)) es->ER ro' [] w (Qo ek (vS K) (kM fs)) es
 |b,[],es,_,h=>h
 |b,x::l,es,hb,h=>by
  obtain⟨e,l',rfl,h1,h2,h3⟩:=h;refine⟨e,l',rfl,hek _ _ h1,?_,?_⟩
  .refine a? K sub (λd c y hy hc=>hb d c y ?_ hc) h2
   grind[tN]
  .refine QpK sub hek (λd c y hy hc=>hb (d+5) c y ?_ gq) h3
   grind[tN,Qmu]
end
section
variable {fr ro:Nat->Prop} {σ:Ce} {w:AJ} {α β:Type} (K:FK α β)
end
open Go.Sort Go.Proofs Go.Shelf
end
section
structure Pl where
 b:Nat
 i0:Nat
 i1:Nat
 i2:Nat
 i3:Nat
def Pl.ix(p:Pl):AA Nat:=[p.b,p.i0,p.i1,p.i2,p.i3]
section
variable {α β:Type} (K:FK α β)
def km(p:Pl)(x:HT α β):AA A:=[.int .i64 x.number,.osl p.i0 0 x.r0.length K.kF,.osl p.i1 0 x.r1.length K.kF,.osl p.i2 0 x.r2.length K.kF,.osl p.i3 0 x.reports.length K.kR,.bool x.appeal]
structure L6 (H:Qc) (x:HT α β) (p:Pl):Prop where
 c:H[p.b]?=AC (.cells K.T (km K p x))
 r0:H[p.i0]?=AC (.row K.tF K.kF (x.r0.map K.eF))
 r1:H[p.i1]?=AC (.row K.tF K.kF (x.r1.map K.eF))
 r2:H[p.i2]?=AC (.row K.tF K.kF (x.r2.map K.eF))
 r3:H[p.i3]?=AC (.row K.tR K.kR (x.reports.map K.eR))
abbrev ZF(α β:Type):=AA (HT α β×Pl)
structure H6 (lo:Nat) (H:Qc) (bk:ZF α β):Prop where
 laid:∀e∈bk,L6 K H e.1 e.2
 own:∀e∈bk,e.2.ix.Nodup
 ne:bk.Pairwise λe f=>∀i∈e.2.ix,i∉f.2.ix
 lo:∀e∈bk,∀i∈e.2.ix,lo<=i
 num:(bk.map (·.1.number)).Nodup
variable {K} {lo:Nat} {H H':Qc} {bk l r:ZF α β} {e:HT α β×Pl} {x':HT α β} {p':Pl}
theorem H6.nil:H6 K lo H []:=⟨(λ_ h=>by cases h),(λ_ h=>by cases h),List.Pairwise.nil,(λ_ h=>by cases h),List.nodup_nil⟩
theorem L6.lt(h:L6 K H e.1 e.2):∀i∈e.2.ix,i<H.length:=by
 intro i d;have g:∀{j:Nat} {y:CW},H[j]?=AC y->j<H.length:=gq;simp[Pl.ix,X6,List.not_mem_nil,or_false]at d;rcases d with rfl|rfl|rfl|rfl|rfl
 .exact g h.c
 .exact g h.r0
 .exact g h.r1
 .exact g h.r2
 .exact g h.r3
theorem L6.keep(h:L6 K H e.1 e.2)(k:∀i∈e.2.ix,H'[i]?=H[i]?):L6 K H' e.1 e.2:=by
 refine⟨?_,?_,?_,?_,?_⟩
 .rw[k _ (by simp[Pl.ix])];exact h.c
 .rw[k _ (by simp[Pl.ix])];exact h.r0
 .rw[k _ (by simp[Pl.ix])];exact h.r1
 .rw[k _ (by simp[Pl.ix])];exact h.r2
 .rw[k _ (by simp[Pl.ix])];exact h.r3
theorem H6.keep(h:H6 K lo H bk)(k:∀j,lo<=j->j<H.length->H'[j]?=H[j]?):H6 K lo H' bk:=
 ⟨λe he=>(h.laid e he).keep λi hi=>k i (h.lo e he i hi) ((h.laid e he).lt i hi),h.own,h.ne,h.lo,h.num⟩
theorem H6.upd(h:H6 K lo H (l++e::r))(N:L6 K H' x' p')(Q:x'.number=e.1.number)(M:∀j,lo<=j->j<H.length->j∉e.2.ix->H'[j]?=H[j]?)
  (hi:∀i∈p'.ix,i∈e.2.ix\/H.length<=i)(F:p'.ix.Nodup)(O:lo<=H.length):H6 K lo H' (l++(x',p')::r):=by
 obtain⟨J,L,P⟩:=List.pairwise_append.1 h.ne;obtain⟨R,G⟩:=Xc.1 L;have mem:∀f∈l++(x',p')::r,f=(x',p')\/(f∈l++e::r/\ ∀i∈f.2.ix,i∉e.2.ix):=by
  intro f d
  grind
 refine⟨?_,?_,?_,?_,?_⟩
 .intro f d;rcases mem f d with rfl|⟨t,y⟩
  .exact N
  .exact(h.laid f t).keep λi hi=>M i (h.lo f t i hi) ((h.laid f t).lt i hi) (y i hi)
 .intro f d;rcases mem f d with rfl|⟨t,y⟩
  .exact F
  .exact h.own f t
 .refine List.pairwise_append.2 ⟨J,Xc.2 ⟨?_,G⟩,?_⟩
  .intro f d i m x;rcases hi i m with q|q
   .grind
   .have:=(h.laid f (by simp[d])).lt i x;omega
  .intro f d g E i x B;rcases X6.1 E with rfl|E
   .rcases hi i B with q|q
    .grind
    .have:=(h.laid f (by simp[d])).lt i x;omega
   grind
 .intro f d;rcases mem f d with rfl|⟨t,y⟩
  .intro i m;rcases hi i m with q|q
   .exact h.lo e sq i q
   .omega
  .exact h.lo f t
 .have:=h.num
  grind
theorem H6.add(h:H6 K lo H bk)(E:L6 K H' x' p')(J:∀e∈bk,e.1.number≠x'.number)(y:∀j,lo<=j->j<H.length->H'[j]?=H[j]?)
  (hi:∀i∈p'.ix,H.length<=i)(t:p'.ix.Nodup)(F:lo<=H.length):H6 K lo H' (bk++[(x',p')]):=by
 have x:=h.keep y;have mem:∀f∈bk++[(x',p')],f∈bk\/f=(x',p'):=by
  simp
 refine⟨?_,?_,?_,?_,?_⟩
 .intro f d;rcases mem f d with q|rfl
  .exact x.laid f q
  .exact E
 .intro f d;rcases mem f d with q|rfl
  .exact h.own f q
  .exact t
 .refine List.pairwise_append.2 ⟨h.ne,sq,λf d g G i m B=>?_⟩;have:=(h.laid f d).lt i m
  grind
 .intro f d i m;rcases mem f d with q|rfl
  .exact h.lo f q i m
  grind
 .rw[Xf];refine List.nodup_append.2 ⟨h.num,sq,?_⟩
  grind
end
section
variable {fr ro ro':Nat->Prop} {σ:Ce} {w:AJ} {α β:Type} (K:FK α β)
def kV(bk:ZF α β):AA Nat:=bk.flatMap λe=>e.2.ix
theorem H6.all{lo:Nat}{H:Qc}:∀{g:ZF α β},H6 K lo H g->(kV g).Nodup/\ ∀i∈kV g,lo<=i/\ ∃y,H[i]?=AC y/\y.live=true:=by
 intro g h;refine⟨?_,?_⟩
 .have m:=h.own;have q:=h.ne
  grind[kV]
 .intro i f;obtain⟨e,j,f⟩:=List.mem_flatMap.1 f;refine⟨h.lo e j i f,?_⟩;have d:=h.laid e j;simp[Pl.ix,X6,List.not_mem_nil,or_false]at f;rcases f with rfl|rfl|rfl|rfl|rfl
  .exact⟨_,d.c,rfl⟩
  .exact⟨_,d.r0,rfl⟩
  .exact⟨_,d.r1,rfl⟩
  .exact⟨_,d.r2,rfl⟩
  .exact⟨_,d.r3,rfl⟩
end
section
variable {α β:Type} (K:FK α β) {env:Env} {H:Qc}
end
section
variable {P:AK} {h0 N:Nat} {all:Array AM} {o:AM} {l:AA AM} {env:Env} {H:Qc} {Q:Qy}
end
section
variable {h0 n:Nat} {env env':Env} {H H':Qc}
end
section
variable {P:AK} {o:AM} {env:Env} {H:Qc} {α:Type}
end
section
variable {α β:Type}
def R6(k:Int):HT α β:=⟨k,[],[],[],[],AD⟩
variable (K:FK α β) {lo:Nat} {H H':Qc} {bk:ZF α β}
def ZJ(n:Nat):Pl:=⟨n,n+1,n+2,n+3,n+4⟩
def iC(n:Nat)(k:Int):Qc:=[.cells K.T (km K (ZJ n) (R6 k)),.row K.tF K.kF [],.row K.tF K.kF [],.row K.tF K.kF [],.row K.tR K.kR []]
theorem L6.new{k:Int}:L6 K (H++iC K H.length k) (R6 k) (ZJ H.length):=by
 have g:∀(j:Nat) (y:CW),(iC K H.length k)[j]?=AC y->(H++iC K H.length k)[H.length+j]?=AC y:=by
  grind
 exact⟨g 0 _ rfl,g 1 _ rfl,g 2 _ rfl,g 3 _ rfl,g 4 _ rfl⟩
theorem qx(n:Nat):(∀i∈(ZJ n).ix,n<=i)/\(ZJ n).ix.Nodup:=by
 simp_all[Pl.ix,ZJ]
variable {K}
theorem H6.new{k:Int}(h:H6 K lo H bk)(f:∀e∈bk,e.1.number≠k)(d:lo<=H.length):H6 K lo (H++iC K H.length k) (bk++[(R6 k,ZJ H.length)]):=by
 refine h.add (L6.new K) f gq (qx _).1 (qx _).2 d
theorem H6.row{l r:ZF α β}{e:HT α β×Pl}{x':HT α β}{d:Pl}{i:Nat}{y:CW}(h:H6 K lo H (l++e::r))(x:lo<=H.length)(N:x'.number=e.1.number)(hi:i∈e.2.ix)(E:i≠e.2.b)(M:d.b=e.2.b)
  (hH:H'=(H.set i .dead++[y]).set e.2.b (.cells K.T (km K d x')))
  (g:d.ix=e.2.ix.map λj=>bif Nat.beq j i then H.length else j)
  (J:H'[d.i0]?=AC (.row K.tF K.kF (x'.r0.map K.eF)))(F:H'[d.i1]?=AC (.row K.tF K.kF (x'.r1.map K.eF)))(B:H'[d.i2]?=AC (.row K.tF K.kF (x'.r2.map K.eF)))(L:H'[d.i3]?=AC (.row K.tR K.kR (x'.reports.map K.eR))):
  H6 K lo H' (l++(x',d)::r):=by
 have t:=h.laid e sq;have f:=t.lt;have m:e.2.b<H.length:=f _ (by simp[Pl.ix]);refine h.upd ⟨?_,J,F,B,L⟩ N ?_ ?_ ?_ x
 .grind
 .grind[List.getElem?_set_ne,Pl.ix]
 .grind
 .rw[g];have q:=h.own e sq;refine List.pairwise_map.2 (List.Pairwise.imp_of_mem ?_ q);intro a b O M G;cases P:Nat.beq a i with
  |true=>
   cases Q:Nat.beq b i with
   |true=>simp_all
   |false=>grind
  |false=>
   grind
end
section
variable {fr ro:Nat->Prop} {σ:Ce} {H:Qc} {w:AJ}
theorem CZ.addIdle(s:CZ fr ro σ H w){x:CW}{z:AB Nat}(G:x.holds=AD)(T:BR ro (σ++[z]) w x z):CZ fr ro (σ++[z]) (H++[x]) w:=by
 have ext:DR ro σ w ro (σ++[z]) w:=⟨λ_ q=>q,λ_ _=>rfl,λ_ _ q=>q,gq⟩;have N:=s.len;have J:x.live=false:=by
  cases q:x.live with
  |true=>rw[io q]at G;exact G
  |false=>rfl
 have f:∀(j:Nat) (v:CW),(H++[x])[j]?=AC v->(j<H.length/\H[j]?=AC v)\/(j=H.length/\v=x):=by
  grind
 have hσ:∀(j:Nat) (B:AB Nat),j<H.length->(σ++[z])[j]?=AC B->σ[j]?=AC B:=by
  grind
 refine⟨by simp[N],s.roOk,s.frLt,s.roFr,λi b y m t E=>?_,λi j b y F m t E M Q P=>?_,λi B y m t=>?_,
  s.hidTo (· = ·) Yq (XS _) sq sq λj d y R V W=>.inl ?_⟩
 .rcases f i y t with⟨g,h⟩|⟨_,rfl⟩
  .exact s.own i b y (hσ i _ g m) h E
  grind
 .rcases f i y E with⟨g,h⟩|⟨_,rfl⟩
  .rcases f j F M with⟨L,O⟩|⟨_,rfl⟩
   .exact s.inj i j b y F (hσ i _ g m) (hσ j _ L t) h O Q P
   grind
  grind
 .rcases f i y t with⟨g,h⟩|⟨r,rfl⟩
  .exact(s.blk i B y (hσ i _ g m) h).keep ext (λ_ _ _=>rfl) (λ_ _ _ _=>rfl)
  grind
 grind
end
section
variable {P:AK} {o:AM} {env:Env} {H:Qc}
theorem E_.litX{T e k n:Nat}{xs:AA Operand}{es:AA (AA A)}(E:ElemTy P T e k)(ho:o.op=.buildSlice T n (M_ 0 xs).toArray)(V:xs.length=n)(L:Nat.ble (n*(k+1)) 16777216=AE)
  (Y:(xs.all λx=>Yn (CP env x))=AE)(R:Q6 env xs=es)(J:allK k es)(hp:es.flatten.all Yu=AE)(W:YK es.flatten=AE):
  E_ P o env H (.osl H.length 0 n k) (H++[.frow e k es]):=by
 intro fr h σ N a w r;subst R;have Q:=XQ L;rw[Nat.mul_add]at Q;obtain⟨l,h1,G⟩:=nK r E V (XR om) Y J;have M:LR h [] w (Q6 env xs).flatten l:=G.data W;have f:∀b,b<w.heap.size->(w.alloc (.cells l.toArray e)).heap[b]?=w.heap[b]? :=λb X=>YA _ _ b X;have B:w.heap.size<=(w.alloc (.cells l.toArray e)).heap.size:=sq;have s1:=r.sim.grown f B;have j:Ql fr h w h (w.alloc (.cells l.toArray e)):=Ql.alloc _ r.sim.roLt r.sim.frLt;have s2:=s1.addRo sq (λq=>Nat.lt_irrefl _ (r.sim.frLt _ q)) (λi x y g F=>Nat.lt_irrefl _ (r.sim.own i _ x y g F).1)
  (λi d x y g F=>Nat.lt_irrefl _ (r.sim.hid i d x _ y g (r.sim.hidKeep y g (λz=>f d (r.sim.own i d x y g z).1) (λb q=>f b (r.sim.roLt b q)) F)).lt)
 have O:RL h [] (w.alloc (.cells l.toArray e)) k (Q6 env xs) l:=by
  have:=Jh (rest:=[]) J (M.mono (j.ext0 [])) (G.plain hp)
  grind
 have m:(Q6 env xs).length=n:=by simp[Q6,V]
 have hl:l.length=n*k:=by rw[G.length,Y1 J];grind
 have t:(w.alloc (.cells l.toArray e)).heap[w.heap.size]?=AC (.cells l.toArray e (0,0)):=Yz _ _;have s3:=s2.addIdle (x:=.frow e k (Q6 env xs)) (z:=AC w.heap.size) rfl
  ⟨.inr rfl,l,t,O.mono ⟨λ_ q=>.inl q,λ_ _=>rfl,λ_ _ q=>q,λ_ _ q=>q⟩,by rw[hl,m]⟩
 refine⟨_,_,λc=>h c\/c=w.heap.size,[AC w.heap.size],nI ho a.eval h1,.inr ⟨w.heap.size,0,n,e,l.length,?_,rfl,λ_=>sq,om,?_,gq⟩,s3,j.trans (Yf λ_ q=>.inl q)⟩
 .rw[<- r.sim.len];simp
 .unfold World.shape?;grind
theorem Le.frow{x s i n k t:Nat}{es:AA (AA A)}(G:lk env s=.osl i 0 n k)(hH:H[i]?=AC (.frow t k es))(J:es.length=n):Le x env H (up env s (.rsl k es)) H:=by
 intro T j σ N a w r;refine⟨j,σ,⟨r.sim,?_,r.size,r.defers⟩,λ_ q=>q,rfl⟩;intro d;simp only[lk];by_cases q:d=s
 .subst q;rw[VD];have:=r.env d;rw[G]at this;rcases this with⟨h,g⟩|⟨b,p,f,P,m,h,g,F,⟨Q,M⟩,R,W⟩
  .have:es=[]:=gq;subst this;exact⟨AF,0,by rw[g];rfl,XS _,.inl rfl⟩
  .obtain⟨B,l,E,y,X⟩:=r.sim.blk i _ _ h hH;refine⟨_,f,by rw[g,J],om,?_⟩;by_cases L:es=[]
   .exact .inl L
   .right;have O:0<f:=gq;have V:=F O;exact⟨b,0,sq,B,(YT (pre:=[]) (by simpa using E) y)⟩
 .have:Nat.beq d s=false:=by
   cases z:Nat.beq d s with
   |true=>simp_all
   |false=>rfl
  rw[this];exact r.env d
end
open Go.MapKept
section
variable {P:AK} {kt et:Nat} {α β:Type} [DecidableEq α] {ek:α->A} {ev:β->A} {ro:Nat->Prop} {σ:Ce} {w:AJ} (K:JI P kt ek)
include K
variable {o:AM} {env:Env} {H:Qc} {T T' i:Nat} {x y:Operand} {l m:AA (α×β)} {k:α}
end
end
section
section
variable {P:AK} {h0 N:Nat} {all:Array AM} {o1 o2:AM} {l:AA AM} {env:Env} {H:Qc} {Q:Qy}
end
section
variable {P:AK} {o:AM} {env:Env} {H:Qc}
end
section
variable {P:AK} {o:AM} {env:Env} {H:Qc} {α:Type}
end
theorem Jt{h0:Nat}{env:Env}{H H':Qc}(e:H=H'):Le h0 env H env H':=e▸Le.refl h0 env H
section
variable {P:AK} {o:AM} {env:Env} {H:Qc}
end
section
variable {env:Env} {H:Qc}
theorem Zv{h0 i j m o' n k T:Nat}{x:CW}{d:AA A}(hi:H[i]?=AC x)(L:H[j]?=AC (.cells T d))(F:d[m]?=AC (.osl i o' n k))(g:Nat.beq i j=AD)(hh:Nat.ble h0 H.length=AE):
  Le h0 env H env ((H.set i .dead).set j (.cells T (d.set m (.osl H.length o' n k)))++[x]):=by
 intro fr J σ N a w r;have hiσ:i<σ.length:=by rw[r.sim.len];exact(XK.1 hi).1
 have hσ:σ[i]?=AC σ[i]:=XJ hiσ;have ext:DR J σ w J (σ++[σ[i]]) w:=⟨λ_ q=>q,λ_ _=>rfl,λ_ _ q=>q,λ_ _ h=>ik h⟩;have R:=r.sim.moved hi hσ;have B:j<H.length:=(XK.1 L).1;have G:i≠j:=λq=>by rw[q,VD]at g;cases g
 have f:(H.set i .dead++[x])[j]?=AC (.cells T d):=by
  rw[XL (by simpa using B),XO G];exact L
 have P:(H.set i .dead).set j (.cells T (d.set m (.osl H.length o' n k)))++[x]=(H.set i .dead++[x]).set j (.cells T (d.set m (.osl H.length o' n k))):=by
  rw[List.set_append_left _ _ (by simpa using B)]
 rw[P];refine⟨J,σ++[σ[i]],⟨R.weaken f rfl ?_,λq=>(r.env q).mono ext,r.size,r.defers⟩,λ_ q=>q,QT (by rw[r.sim.len];exact XQ hh)⟩;have E:σ.length=H.length:=r.sim.len;intro y h;cases y with
 |none=>exact h
 |some b=>
  obtain⟨l,Q,g2,Y⟩:=h;refine⟨l,Q,?_,Y⟩;clear Q Y f P L R
  induction d generalizing m l with
  |nil=>cases F
  |cons c d ih=>
   obtain⟨v,M,rfl,W,V⟩:=g2;cases m with
   |zero=>
    simp at F;subst F;refine⟨v,M,rfl,?_,V⟩;rcases W with h|⟨b,p,O,t,m,X,h2⟩
    .exact .inl h
    .refine .inr ⟨b,p,O,t,m,?_,h2⟩;rw[XL hiσ,hσ]at X;rw[<- E];simpa using X
   |succ m=>exact⟨v,M,rfl,W,ih (by simpa using F) M V⟩
theorem I6.ins{P:AK}{o:AM}{H':Qc}{T:Nat}{x y f:Operand}(g:o.op=.insert T x y f)(h:I6 P {o with op:=.mapUpdate T x y f} env H H'):I6 P o env H H':=by
 intro E q σ N a w r;obtain⟨j,d,τ,t,m,B⟩:=h E q σ N a w r;exact⟨j,d,τ,by simpa only[execOp,g]using t,m,B⟩
end
section
variable {P:AK} {o:AM} {env:Env} {H:Qc} {T kt et:Nat} {α β:Type} [DecidableEq α] {ek:α->A} {ev:β->A} {x y:Operand} {i:Nat} {l:AA (α×β)} {k:α} {z:AL} {zA:A}
end
open Go.Sort Go.Proofs Go.Shelf
def ZH(l:AA Int)(i:Int)(m:AA Int):AB (AA Int):=bif AG (0<=i)&&(AG (i<=l.length)&&(Nat.blt 0 m.length&&Nat.ble (l.length+m.length) YG))then AC (l.take i.toNat++m++l.drop i.toNat)else AF
variable {l:AA Int}
theorem Qqy{m r:AA Int}{i:Int}(h:ZH l i m=AC r):∃j:Nat,i=j/\j<=l.length/\0<m.length/\l.length+m.length<=YG/\r=l.take j++m++l.drop j:=by
 unfold ZH at h;cases q:AG (0<=i)&&(AG (i<=l.length)&&(Nat.blt 0 m.length&&Nat.ble (l.length+m.length) YG))with
 |false=>rw[q]at h;cases h
 |true=>
  rw[q]at h;cases h;simp only[XV,Vq]at q;obtain⟨g,t,d,f⟩:=q;exact⟨i.toNat,om,om,by simpa using d,XQ f,rfl⟩
theorem JG(b:Nat)(t:TypeId):∀(vs pre f d:AA AL) (w:AJ),f.length=vs.length->w.heap[b]?=AC (.cells (pre++f++d).toArray t (0,0))->
  w.setCells b pre.length vs={w with heap:=w.heap.setIfInBounds b (.cells (pre++vs++d).toArray t (0,0))}
 |[],pre,f,d,w,hl,hb=>by
  have:=VI.1 hl;subst this;rw[World.setCells];obtain⟨h1,h2⟩:=Vc.1 hb;have:w.heap.setIfInBounds b (.cells (pre++[]++d).toArray t (0,0))=w.heap:=by
   apply Array.ext_getElem?;intro i;rw[Ve];by_cases h:b=i
   .subst h;rw[Vs rfl,Vs h1,hb]
   .rw[Vr h]
  rw[this]
 |v::vs,pre,f,d,w,hl,hb=>by
  cases f with
  |nil=>cases hl
  |cons z f=>
   simp[XZ,Nat.add_right_cancel_iff]at hl;have hbl:=(Vc.1 hb).1;have g:w.setCell ⟨b,pre.length,AF⟩ v={w with heap:=w.heap.setIfInBounds b (.cells ((pre++[v])++f++d).toArray t (0,0))}:=by
    unfold World.setCell;congr 1;apply Array.ext_getElem?;intro i;rw[Array.getElem?_modify,Ve];by_cases h:b=i
    .subst h;rw[Vs rfl,Vs rfl,Vs hbl,hb];simp
    .rw[Vr h,Vr h]
   rw[World.setCells,g];have:=JG b t vs (pre++[v]) f d {w with heap:=w.heap.setIfInBounds b (.cells ((pre++[v])++f++d).toArray t (0,0))} hl (by
    rw[Ve,Vs rfl,Vs hbl])
   rw[X2,List.length_singleton]at this;rw[this];simp
theorem S2(l:AA Int):∀v∈l.map (Value.int .i64),v.oneCell'=true:=by
 intro v d;obtain⟨x,_,rfl⟩:=Xe.1 d;rfl
theorem lZ{ro:Nat->Prop}{σ:Ce}{w:AJ}:∀l:AA Int,LR ro σ w ((l.map λx=>[A.int .i64 x]).flatten) (l.map (Value.int .i64))
 |[]=>rfl
 |x::l=>⟨_,_,rfl,rfl,lZ l⟩
theorem t8(l:AA Int):∀v∈l.map (Value.int .i64),QC v:=by
 intro v d;obtain⟨x,_,rfl⟩:=Xe.1 d;trivial
theorem mg:∀l:AA Int,allK 1 (l.map λx=>[A.int .i64 x])
 |[]=>trivial
 |_::l=>⟨rfl,mg l⟩
variable {t:Nat}{w:AJ}
theorem _p{fr ro:Nat->Prop}{σ:Ce}{B:CW}{r:AA Int}{W:AJ}{rest:AA AL}(s:CZ fr ro σ [.row t 1 (l.map λx=>[A.int .i64 x]),B] w)
  (j:W.heap=(w.alloc (.cells (r.map (Value.int .i64)++rest).toArray t)).heap)(g:W.os=w.os)(f:W.tape=w.tape)(h:W.output=w.output)(d:w.drawn<=W.drawn):
  CZ fr ro (σ++[AC w.heap.size]) [.dead,B,.row t 1 (r.map λx=>[A.int .i64 x])] W/\Ql fr ro w ro W:=by
 have q:=s.kill 0;obtain⟨m,y⟩:CZ fr ro (σ++[AC w.heap.size]) ([.dead,B]++[.row t 1 (r.map λx=>[A.int .i64 x])]) (w.alloc (.cells (r.map (Value.int .i64)++rest).toArray t))/\Ql fr ro w ro (w.alloc (.cells (r.map (Value.int .i64)++rest).toArray t)):=
  ⟨CZ.allocRow q (mg r) (lZ r) (t8 r),Ql.alloc _ s.roLt s.frLt⟩
 exact⟨m.heap j,y.trans (Ql.heap j g f h d)⟩
theorem pS{fr ro:Nat->Prop}{σ:Ce}{b:Nat}{B:CW}{r:AA Int}{f rest:AA AL}(s:CZ fr ro σ [.row t 1 (l.map λx=>[A.int .i64 x]),B] w)(d:σ[0]?=AC (AC b))
  (g:w.heap[b]?=AC (.cells f.toArray t (0,0)))(m:(r.map (Value.int .i64)++rest).length=f.length):
  CZ fr ro (σ++[AC b]) [.dead,B,.row t 1 (r.map λx=>[A.int .i64 x])] {w with heap:=w.heap.setIfInBounds b (.cells (r.map (Value.int .i64)++rest).toArray t (0,0))}/\
   Ql fr ro w ro {w with heap:=w.heap.setIfInBounds b (.cells (r.map (Value.int .i64)++rest).toArray t (0,0))}:=by
 obtain⟨h,j⟩:=s.set (x':=.row t 1 (r.map λx=>[A.int .i64 x])) d rfl rfl
  (λy q=>JF g m y q) (λ_ hex=>⟨_,hex,Jh (mg r) (lZ r) (t8 r)⟩)
 exact⟨h.moved rfl d,j⟩
theorem rL{a b:Array AL}(h:a.toList=b.toList):(w.drew.alloc (.cells a t)).heap=(w.alloc (.cells b t)).heap:=by
 rw[Xu.1 h];rfl
theorem Jj(b:Nat):∀(vs:AA AL) (o:Nat) (w:AJ),(w.setCells b o vs).os=w.os/\(w.setCells b o vs).tape=w.tape/\(w.setCells b o vs).output=w.output/\(w.setCells b o vs).drawn=w.drawn
 |[],_,_=>⟨rfl,rfl,rfl,rfl⟩
 |v::vs,o,w=>Jj b vs (o+1) (w.setCell ⟨b,o,AF⟩ v)
theorem sS{h:Array Obj}{a b:Obj}:(h.push a).setIfInBounds h.size b=h.push b:=by
 apply Array.ext_getElem?;intro i;rw[Ve];by_cases q:h.size=i
 .subst q;simp
 .rw[Vr q,Array.getElem?_push,Array.getElem?_push,Vr (λe=>q e.symm),Vr (λe=>q e.symm)]
theorem q?{n:Nat}:(Builtin.zeroCells (Value.int .i64 0).cells n).toList.length=n:=by simp[Builtin.zeroCells,Value.cells]
theorem Qmq{c j:Nat}{m:AA Int}(q:j<=l.length):
  (((((w.alloc (.cells (((l.map (Value.int .i64)).take j).toArray++Builtin.zeroCells (Value.int .i64 0).cells (l.length+m.length-j)++Builtin.zeroCells (Value.int .i64 0).cells c) t)).drew.setCells w.heap.size j (m.map (Value.int .i64))).drew).setCells w.heap.size (j+m.length) ((l.map (Value.int .i64)).drop j)).heap)=
   (w.alloc (.cells ((l.take j++m++l.drop j).map (Value.int .i64)++(Builtin.zeroCells (Value.int .i64 0).cells c).toList).toArray t)).heap:=by
 have d:=q? (n:=l.length+m.length-j);generalize(Builtin.zeroCells (Value.int .i64 0).cells (l.length+m.length-j))=Z1 at*;generalize(Builtin.zeroCells (Value.int .i64 0).cells c)=Z2 at*;rw[show(((l.map (Value.int .i64)).take j).toArray++Z1++Z2)=((l.map (Value.int .i64)).take j++Z1.toList.take m.length++(Z1.toList.drop m.length++Z2.toList)).toArray from by
  apply Xu.1;simp[Array.toList_append,Vi];rw[<- Vi (List.take m.length _),Xy]]
 have h:((l.map (Value.int .i64)).take j).length=j:=by simp;omega
 have f:=JG w.heap.size t (m.map (Value.int .i64)) ((l.map (Value.int .i64)).take j) (Z1.toList.take m.length) (Z1.toList.drop m.length++Z2.toList) (w.alloc (.cells ((l.map (Value.int .i64)).take j++Z1.toList.take m.length++(Z1.toList.drop m.length++Z2.toList)).toArray t)).drew (by simp at d⊢;omega) (Yz _ _);rw[h]at f;have g:=JG w.heap.size t ((l.map (Value.int .i64)).drop j) ((l.map (Value.int .i64)).take j++m.map (Value.int .i64)) (Z1.toList.drop m.length) Z2.toList
  {(w.alloc (.cells ((l.map (Value.int .i64)).take j++Z1.toList.take m.length++(Z1.toList.drop m.length++Z2.toList)).toArray t)).drew with heap:=(w.alloc (.cells ((l.map (Value.int .i64)).take j++Z1.toList.take m.length++(Z1.toList.drop m.length++Z2.toList)).toArray t)).drew.heap.setIfInBounds w.heap.size (.cells ((l.map (Value.int .i64)).take j++m.map (Value.int .i64)++(Z1.toList.drop m.length++Z2.toList)).toArray t (0,0))}.drew (by simp at d⊢;omega) (by
   show((w.heap.push _).setIfInBounds w.heap.size _)[w.heap.size]?=_;simp)
 rw[show((l.map (Value.int .i64)).take j++m.map (Value.int .i64)).length=j+m.length from by simp;omega]at g;rw[f,g];show((w.heap.push _).setIfInBounds w.heap.size _).setIfInBounds w.heap.size _=w.heap.push _;rw[sS,sS];simp[Xf,List.map_take,List.map_drop]
theorem Qng{P:AK}{ρ:Ren}(L:Lays2.n21 P ρ){t2:Nat}{m r:AA Int}{i:Int}(h:ZH l i m=AC r):
  C P (ρ.f 21) [.osl 0 0 l.length 1,.int .i64 i,.osl 1 0 m.length 1] [.row (ρ.t 3) 1 (l.map λx=>[A.int .i64 x]),.row t2 1 (m.map λx=>[A.int .i64 x])]
   (λa H=>a=.osl 2 0 r.length 1/\H=[.dead,.row t2 1 (m.map λx=>[A.int .i64 x]),.row (ρ.t 3) 1 (r.map λx=>[A.int .i64 x])]):=by
 obtain⟨j,rfl,hj,hm,ac,rfl⟩:=Qqy h;intro fr Y σ vals w s hv;obtain⟨v0,r0,rfl,al,v1,r1,rfl,ai,v2,r2,rfl,aj,hr⟩:=hv;cases(show r2=[]from hr);cases(show v1=.int .i64 (j:Int)from ai);have an:YG=4294967296:=rfl;have aa:σ.length=2:=s.len;rcases aj with⟨h0,_⟩|⟨O,vp,vc,vt,vm,g1,rfl,g2,g3,g4,g5⟩
 .omega
 obtain rfl:vp=0:=by have:=g2 om;omega
 obtain⟨ao,f1,f2⟩:=s.blk 1 _ _ g1 rfl;obtain⟨ak,rfl⟩:=lj f2;have J:∀(k:Nat) v,(m.map (Value.int .i64))[k]?=AC v->w.cell? ⟨O,0+k,AF⟩=AC v:=by
  intro k v E;unfold World.cell?;simp only[f1,Option.isSome_none,Xi,if_false,Xv];rw[eH,XL (by rw[X0];have:=(XK.1 E).1;rw[X0]at this;exact this)];exact E
 have G:(l.take j++m++l.drop j).length=l.length+m.length:=by simp;omega
 have B:∀(c0:Nat) (W:AJ) (zs:AA AL) (e:AL),zs.length=grownCap w (l.length+m.length) c0 (ρ.t 3)-(l.length+m.length)->W.heap=(w.alloc (.cells ((l.take j++m++l.drop j).map (Value.int .i64)++zs).toArray (ρ.t 3))).heap->W.os=w.os->W.tape=w.tape->W.output=w.output->w.drawn<=W.drawn->
   e=.slice (AC ⟨w.heap.size,0,AF⟩) (l.length+m.length) (grownCap w (l.length+m.length) c0 (ρ.t 3))->
   ∃v r H' ro' τ,Ending.returned e=.returned v/\(r=.osl 2 0 (l.take j++m++l.drop j).length 1/\H'=[.dead,.row t2 1 (m.map λx=>[A.int .i64 x]),.row (ρ.t 3) 1 ((l.take j++m++l.drop j).map λx=>[A.int .i64 x])])/\CZ fr ro' (σ++τ) H' W/\VR ro' (σ++τ) W r v/\Ql fr Y w ro' W:=by
  intro c0 W zs e hz hh hos htp hou hdr he;obtain⟨s1,e1⟩:=_p s hh hos htp hou hdr;have ae:=grownCap_ge w (l.length+m.length) c0 (ρ.t 3);refine⟨_,_,_,Y,[AC w.heap.size],rfl,⟨rfl,rfl⟩,s1,?_,e1⟩;rw[he];refine .inr ⟨w.heap.size,0,_,ρ.t 3,((l.take j++m++l.drop j).map (Value.int .i64)++zs).length,?_,by rw[G],λ_=>sq,⟨by rw[G];exact ae,grownCap_le_maxLen _ _ _ _ (by unfold maxLen;omega)⟩,?_,?_⟩
  .rw[XM om,aa];rfl
  .unfold World.shape?;rw[hh,Yz];simp
  .rw[X2,X0,G,hz];omega
 have fin:∀{W:AJ} {b y t' V:Nat} (z:Nat),l.length+m.length<=y->y<=9223372036854775807->W.shape? b=AC (t',V)->(0+y)*1<=V->z=l.length+m.length->VR Y (σ++[AC b]) W (.osl 2 0 (l.take j++m++l.drop j).length 1) (.slice (AC ⟨b,0,AF⟩) z y):=by
  intro W b y t' V z h1 h2 h3 h4 h5;refine .inr ⟨b,0,y,t',V,?_,by rw[G,h5],λ_=>sq,⟨by rw[G];exact h1,h2⟩,h3,h4⟩;rw[XM om,aa];rfl
 rcases al with⟨h0,rfl⟩|⟨b,p,y,t',V,q1,rfl,q2,q3,q4,q5⟩
 .have ah:l=[]:=VI.1 h0;subst ah;obtain rfl:j=0:=by simpa using hj
  have Q:=Any2.slices_Insert_int_end_grow L AF 0 0 O 0 m.length vc [] (m.map (Value.int .i64)) w hm (XS _) om (by simp at ac;omega) rfl sq (λ_=>rfl) (λa ha=>by cases ha) J (S2 m);refine Q.mono ?_;rintro e W ⟨rfl,rfl⟩;refine B 0 _ (Builtin.zeroCells (Value.int .i64 0).cells (grownCap w (0+m.length) 0 (ρ.t 3)-(0+m.length))).toList _ (by simp[Builtin.zeroCells,Value.cells]) ?_ rfl rfl rfl (Nat.le_succ _) sq;exact rL sq
 .obtain⟨q3,N⟩:=q3;obtain⟨am,y1,y2⟩:=s.blk 0 _ _ q1 rfl;obtain⟨d,rfl⟩:=lj y2;have ag:O≠b:=λe=>by
   have:=s.inj 1 0 O _ _ g1 (e▸q1) rfl rfl rfl rfl;omega
  have aq:y<=l.length+d.length:=by
   have:w.shape? b=AC (ρ.t 3,(l.map (Value.int .i64)++d).length):=by unfold World.shape?;rw[y1];simp
   rw[this]at q4;cases q4;simp at q5;omega
  have hp:0<y->p=0:=λq=>by have:=q2 q;omega
  have F:∀k v,(l.map (Value.int .i64)++d)[k]?=AC v->w.cell? ⟨b,0+k,AF⟩=AC v:=by
   intro k v E;unfold World.cell?;simp only[y1,Option.isSome_none,Xi,if_false,Xv];rw[eH];exact E
  have T:∀(k:Nat) v,(l.map (Value.int .i64))[k]?=AC v->w.cell? ⟨b,p+k,AF⟩=AC v:=by
   intro k v E;have M:=(XK.1 E).1;rw[X0]at M;obtain rfl:=hp om;exact F k v (by rw[XL (by rw[X0];exact M)];exact E)
  have X:∀k,w.frozen? ⟨b,k,AF⟩=false:=by
   intro k;unfold World.frozen?;simp only[y1];simp
  have ab:∀k,w.frozen? ⟨O,k,AF⟩=false:=by
   intro k;unfold World.frozen?;simp only[f1];simp
  by_cases g:l.length+m.length<=y
  .obtain rfl:=hp om;have ad:∀k,k<l.length+m.length->(w.cell? ⟨b,0+k,AF⟩).isSome=true:=by
    intro k E;have M:k<(l.map (Value.int .i64)++d).length:=by simp;omega
    rw[F k _ (XJ M)];rfl
   by_cases R:j=l.length
   .subst R;have Q:=Any2.slices_Insert_int_end_room L b 0 l.length y O 0 m.length vc (m.map (Value.int .i64)) w hm g N sq (λk E=>by simpa[Nat.add_assoc]using ad (l.length+k) om) (λk _=>X _) J (S2 m);refine Q.mono ?_;rintro e W ⟨rfl,rfl⟩;have e1:w.setCells b (0+l.length) (m.map (Value.int .i64))={w with heap:=w.heap.setIfInBounds b (.cells ((l.take l.length++m++l.drop l.length).map (Value.int .i64)++d.drop m.length).toArray (ρ.t 3) (0,0))}:=by
     have:=JG b (ρ.t 3) (m.map (Value.int .i64)) (l.map (Value.int .i64)) (d.take m.length) (d.drop m.length) w (by simp;omega) (by rw[Vi,Xy];exact y1);rw[X0]at this;rw[Xv,this,X9,Xr];simp
    rw[e1];obtain⟨s2,e2⟩:=pS (r:=l.take l.length++m++l.drop l.length) (rest:=d.drop m.length) s q1 y1 (by simp;omega);exact⟨_,_,_,Y,[AC b],rfl,⟨rfl,rfl⟩,s2,fin _ g N (e2.shape _ _ q4) q5 rfl,e2⟩
   .have Q:=Any2.slices_Insert_int_shift L b 0 l.length y j O 0 m.length vc (l.map (Value.int .i64)) (m.map (Value.int .i64)) w om hm g N ag sq sq T ad (λk _=>X _) J (S2 l) (S2 m) vt t' vm V g4 q4 om (ab _) (ab _);refine Q.mono ?_;rintro e W ⟨rfl,rfl⟩;have e1:(w.drew.setCells b (0+(j+m.length)) ((l.map (Value.int .i64)).drop j)).setCells b (0+j) (m.map (Value.int .i64))={w.drew with heap:=w.drew.heap.setIfInBounds b (.cells ((l.take j++m++l.drop j).map (Value.int .i64)++d.drop m.length).toArray (ρ.t 3) (0,0))}:=by
     have af:b<w.drew.heap.size:=(Vc.1 y1).1;have k1:=JG b (ρ.t 3) ((l.map (Value.int .i64)).drop j) ((l.map (Value.int .i64)++d).take (j+m.length)) (((l.map (Value.int .i64)++d).drop (j+m.length)).take (l.length-j)) (((l.map (Value.int .i64)++d).drop (j+m.length)).drop (l.length-j)) w.drew (by simp;omega) (by rw[Vi,Xy,Xy];exact y1);rw[show((l.map (Value.int .i64)++d).take (j+m.length)).length=0+(j+m.length)from by simp;omega]at k1;have k2:=JG b (ρ.t 3) (m.map (Value.int .i64)) ((l.map (Value.int .i64)++d).take j) (((l.map (Value.int .i64)++d).drop j).take m.length) ((l.map (Value.int .i64)).drop j++(((l.map (Value.int .i64)++d).drop (j+m.length)).drop (l.length-j))) {w.drew with heap:=w.drew.heap.setIfInBounds b (.cells ((l.map (Value.int .i64)++d).take (j+m.length)++(l.map (Value.int .i64)).drop j++((l.map (Value.int .i64)++d).drop (j+m.length)).drop (l.length-j)).toArray (ρ.t 3) (0,0))} (by simp;omega) (by
      show(w.drew.heap.setIfInBounds b _)[b]?=_;rw[Ve,Vs rfl,Vs af,List.take_add];simp only[Vi])
     rw[show((l.map (Value.int .i64)++d).take j).length=0+j from by simp;omega]at k2;rw[k1,k2];simp only[Array.setIfInBounds_setIfInBounds];rw[List.drop_drop,show j+m.length+(l.length-j)=(l.map (Value.int .i64)).length+m.length from by simp;omega,Va,X7 (by simpa using hj)];simp only[Xf,List.map_take,List.map_drop,Vi]
    rw[e1];obtain⟨s2,e2⟩:=pS (w:=w.drew) (r:=l.take j++m++l.drop j) (rest:=d.drop m.length) (s.heap rfl) q1 y1 (by simp;omega);exact⟨_,_,_,Y,[AC b],rfl,⟨rfl,rfl⟩,s2,fin _ g N (e2.shape _ _ q4) q5 rfl,(Ql.heap (w:=w) (w':=w.drew) rfl rfl rfl rfl (Nat.le_succ _)).trans e2⟩
  .by_cases R:j=l.length
   .subst R;have Q:=Any2.slices_Insert_int_end_grow L (AC ⟨b,p,AF⟩) l.length y O 0 m.length vc (l.map (Value.int .i64)) (m.map (Value.int .i64)) w hm q3 om om sq sq (λh=>by cases h) (λa ha k v E=>by cases ha;rw[S6];exact T k v E) J (S2 m);refine Q.mono ?_;rintro e W ⟨rfl,rfl⟩;exact B y _ (Builtin.zeroCells (Value.int .i64 0).cells (grownCap w (l.length+m.length) y (ρ.t 3)-(l.length+m.length))).toList _ (by simp[Builtin.zeroCells,Value.cells]) (rL sq) rfl rfl rfl (Nat.le_succ _) rfl
   .have Q:=Any2.slices_Insert_int_grow L b p l.length y j O 0 m.length vc (l.map (Value.int .i64)) (m.map (Value.int .i64)) w om hm q3 om om sq sq T J (S2 l) (S2 m);refine Q.mono ?_;rintro e W ⟨rfl,rfl⟩;refine B y _ (Builtin.zeroCells (Value.int .i64 0).cells (grownCap w (l.length+m.length) y (ρ.t 3)-(l.length+m.length))).toList _ (by simp[Builtin.zeroCells,Value.cells]) ?_ (by rw[(Jj _ _ _ _).1];exact(Jj _ _ _ _).1) (by rw[(Jj _ _ _ _).2.1];exact(Jj _ _ _ _).2.1) (by rw[(Jj _ _ _ _).2.2.1];exact(Jj _ _ _ _).2.2.1) (by
     rw[(Jj _ _ _ _).2.2.2];show _<=(World.setCells _ _ _ _).drawn+1;rw[(Jj _ _ _ _).2.2.2];exact Nat.le_add_right_of_le (Nat.le_add_right _ _)) rfl
    exact Qmq (by simpa using hj)
end
section
variable {P:AK}{T:Nat}{w:AJ}
theorem rU{e k:Nat}(E1:∀w,(underlying T).run P w=.ok (.slice e) w)(E2:∀w,(sizeOf e).run P w=.ok k w){ad:AB Addr}{n cap:Nat}{z:Int}(f:n<=cap)(d:0<=z)(h:z<=n):
  (Instr.sliceAt T (.slice ad n cap) AF (AC (.int .i64 z)) (AC (.int .i64 z))).run P w=.ok (.slice (if z.toNat=0 then ad else ad.map (·.add (0*k))) (z.toNat-0) (z.toNat-0)) w:=by
 have g:(Instr.sliceBounds AE n cap AF (AC (.int .i64 z)) (AC (.int .i64 z))).run P w=.ok (0,z.toNat,z.toNat) w:=by
  simp[Instr.sliceBounds,Vm,Vn,Result.andThen,YW d (show z<=cap by omega),YW d (show z<=z.toNat by omega)]
 simp[Instr.sliceAt,Vm,E1,Result.andThen,Instr.slice,g,E2,Vn]
variable {H:Qc}{env:Env}{et:Nat}
theorem dx{α:Type}{o:AM}{k b:Nat}{x hi E:Operand}{l r:AA α}{c:Int}(h:Dm l 0 c=AC r)(E1:∀w,(underlying T).run P w=.ok (.slice et) w)(E2:∀w,(sizeOf et).run P w=.ok k w)
  (g:o.op=.slice T x AF (AC hi) (AC E):=by rfl)(hx:CP env x=.osl b 0 l.length k:=by rfl)(h1:CP env hi=.int .i64 c:=by rfl)(h2:CP env E=.int .i64 c:=by rfl):
  CS P o env H (.osl b (0+Int.toNat 0) (c.toNat-Int.toNat 0) k):=by
 intro X V σ N a w r;obtain⟨R,B,Q,_⟩:=Sy h;have y:=Qp r x;rw[hx]at y;rcases y with⟨t,f⟩|⟨j,p,M,G,m,t,f,O,⟨J,W⟩,F,L⟩
 .have d:=rU (w:=w) E1 E2 (ad:=AF) (XS 0) B om;refine⟨_,by simp[execOp,g,f,Vm,Xk,Xj,QY r h1,QY r h2,d,Vn];rfl,?_⟩;left;have:c.toNat=0:=om;simp[this]
 .have d:=rU (w:=w) E1 E2 (ad:=AC ⟨j,p,AF⟩) J B Q;refine⟨_,by simp[execOp,g,f,Vm,Xk,Xj,QY r h1,QY r h2,d,Vn];rfl,?_⟩;right;refine⟨j,p,c.toNat,G,m,t,by simp[S6],λq=>?_,⟨sq,om⟩,F,?_⟩
  .rw[O om];simp
  .refine XU (XB k ?_) L;omega
theorem TC.label{P:AK}{h0 N l:Nat}{env:Env}{H:Qc}{Q:Qy}(h:Q .normal env H):TC P h0 N (.label l) env H Q:=
 λrd fr ro σ a w r hrd=>wpIn_label ⟨_,env,H,ro,σ,fr,rfl,h,r,Ql.refl _ _ _,rfl,C_.refl _ _ _⟩
theorem Qir{b:Frame}{a:Act}{k:AA Item}{cs:AA Frame}{c:Code}:step P (lone (b.atR a (.code (.scope c)::k)) cs w)=.next (lone (b.atR a (.code c::.inScope c::k)) cs w):=
 step_lone_go (by simp[stepG,stepG.exec,Frame.atR])
theorem Qgo{b:Frame}{a:Act}{k:AA Item}{cs:AA Frame}{c:Code}:step P (lone (b.atR a (.inScope c::k)) cs w)=.next (lone (b.atR a k) cs w):=
 step_lone_go (by simp[stepG,stepG.exec,Frame.atR])
theorem TC.scope{P:AK}{h0 N:Nat}{c:Code}{env:Env}{H:Qc}{Q:Qy}(h:TC P h0 N c env H Q):TC P h0 N (.scope c) env H Q:=by
 intro G F B σ a w r hrd b k cs hro hb f;obtain⟨e,y,q,j,d⟩:=h G F B σ a w r hrd b (.inScope c::k) cs hro hb f;refine⟨e,y,q,j,.of_steps (.one (fenced_calm hb f rfl) Qir) ?_⟩;obtain⟨x,m,H',t,σ',J,E,_⟩:=j;cases e with
 |normal=>exact StepsIn.trans d (.one (fenced_calm hb f rfl) Qgo)
 |exit id=>exact⟨λL g=>d.1 L (by rw[exitTo];exact g;simp),λf g=>d.2 f (by rw[exitTo];exact g;simp)⟩
 |ret=>exact d
 |_=>exact E.elim
variable {off:Nat}
theorem vD{o:AM}{f n:Nat}{x:Operand}{m:AA A}{v:A}{fs:Array Field}{h:Field}(t:Qs P T f off n)(E:∀w,(underlying T).run P w=.ok (.struct fs) w)(g:fs[f]?=AC h)(d:∀w,(isAgg h.type).run P w=.ok AD w)
  (y:o.op=.field T x f:=by rfl)(hx:CP env x=.agg m:=by rfl)(hv:m[off]?=AC v:=by rfl):CS P o env H v:=
 CS.field t (λF q B j w=>by
  have:=(B w).symm.trans (E w);cases this;rw[g]at j;cases j;exact d w) y hx hv
variable {es:AA (AA A)}{ro':Nat->Prop}{t:Nat}
section
variable {P:AK} {o:AM} {env:Env} {H:Qc} {fr ro:Nat->Prop} {σ:Ce} {w:AJ}
theorem QpS{i n j:Nat}{v:AL}(s:CZ fr ro σ H w)(hσ:∀c,σ[i]?=AC (AC c)->ro' c)(G:∀c,ro c->ro' c)(hH:H[i]?=AC (.row t 1 es))(L:j*n+n<=es.length)
  (h:VR ro σ w (.osl i (j*n) n 1) v):VR ro' [] w (.rsl 1 ((es.drop (j*n)).take n)) v:=by
 have f:((es.drop (j*n)).take n).length=n:=by simp;omega
 rcases h with⟨rfl,rfl⟩|⟨c,p,g,N,m,x,rfl,y,⟨F,_⟩,M,O⟩
 .exact⟨AF,0,by rw[f],by rw[f];exact XS _,.inl (VI.1 f)⟩
 .refine⟨_,g,by rw[f],by rw[f];exact F,?_⟩;by_cases E:n=0
  .exact .inl (VI.1 (f.trans E))
  .obtain rfl:=y om;obtain⟨l,B,J⟩:=s.blk i _ _ x hH;have q:=(YT (pre:=[]) (by simpa using B) J).keep (ro':=ro') (σ':=[]) (w':=w) ⟨G,λ_ _=>rfl,λ_ _ q=>q,λ_ _ q=>q⟩ rfl;refine .inr ⟨c,_,rfl,hσ c x,?_⟩;have d:=(q.drop (j*n)).take n;simpa using d
end
def ob(P:AK)(i:Nat):String:=match P.funcs[i]? with|some f=>f.name|none=>""
theorem gl{f:FuncId}{B:Func}(d:(ob P f=="runtime.NumGoroutine")=AD)(h:P.funcs[f]?=AC {B with name:=ob P f}):Go.Proofs.Bears P f B:=⟨_,d,h⟩
def vR(P:AK)(t:Nat):Nat:=match P.underlying t with|some (.slice e)=>e|_=>0
def oI:A->AL
 |.int k n=>.int k n
 |.bool b=>.bool b
 |.str _=>.string ⟨#[]⟩
 |.rsl _ _=>.slice AF 0 0
 |.nils=>.slice AF 0 0
 |.nilp=>.pointer AF
 |.nilm=>.map AF
 |.nilif=>.nilIface
 |_=>.nilFunc
def zA:A->AL
 |.agg r=>.agg (r.map oI).toArray
 |a=>oI a
def kL(P:AK)(F:AA (Nat×AA (Nat×Nat)))(T:Fr)(Z:Nk)(w:AJ):=
 (F.map λe=>(underlying e.1).run P w,F.map λe=>(P.fieldsOf e.1).toList.map λf=>(f.offset,(sizeOf f.type).run P w),
  T.ty.agg.map λe=>((isAgg e.1).run P w,(sizeOf e.1).run P w),T.ty.zer.map λe=>(zeroValue e.1).run P w,
  T.al.map λe=>(zeroValue e.1).run P w,T.sl.map λt=>(underlying t).run P w,Z.sl.map λe=>((underlying e.1).run P w,(sizeOf e.2.1).run P w))
def kR(P:AK)(F:AA (Nat×AA (Nat×Nat)))(T:Fr)(Z:Nk)(w:AJ):=
 (F.map λe=>Result.ok (TypeDesc.struct (P.fieldsOf e.1)) w,F.map λe=>e.2.map λx=>(x.1,Result.ok x.2 w),
  T.ty.agg.map λe=>(Result.ok e.2.1 w,Result.ok e.2.2 w),T.ty.zer.map λe=>Result.ok (zA (.agg e.2.1)) w,
  T.al.map λe=>Result.ok (zA e.2) w,T.sl.map λt=>Result.ok (TypeDesc.slice (vR P t)) w,Z.sl.map λe=>(Result.ok (TypeDesc.slice e.2.1) w,Result.ok e.2.2 w))
def kT(F:AA (Nat×AA (Nat×Nat)))(T:Fr):Bool:=
 cY F T.ty.fld&&T.ty.zer.all (λe=>f6 (.agg e.2.1) (zA (.agg e.2.1))&&F.contains (e.1,e.2.2))&&T.al.all λe=>f6 e.2 (zA e.2)&&Yn e.2&&(Yj e.2).all Yu
variable {α:Type}
variable {L:AA α}
theorem Rf{β:Type}{f g:AJ->α->β}(h:∀w,L.map (f w)=L.map (g w)){e:α}(he:e∈L)(w:AJ):f w e=g w e:=List.map_inj_left.1 (h w) e he
theorem PL.ofK{P:AK}:∀{fs:AA Field} {pl:AA (Nat×Nat)},(∀w:AJ,fs.map (λf=>(f.offset,(sizeOf f.type).run P w))=pl.map λx=>(x.1,Result.ok x.2 w))->PL P fs pl
 |[],[],_=>.nil
 |[],_::_,h=>by cases h default
 |_::_,[],h=>by cases h default
 |f::fs,(a,n)::pl,h=>by
  have h1:=λw=>List.cons.inj (h w);have e:=λw=>Prod.mk.inj (h1 w).1;obtain rfl:f.offset=a:=(e default).1;exact .cons (λw=>(e w).2) (PL.ofK λw=>(h1 w).2)
section
variable {P:AK} {F:AA (Nat×AA (Nat×Nat))} {T:Fr} {Z:Nk}
theorem Qqo(h:kL P F T Z=kR P F T Z):∀e∈F,Ss P e.1 e.2:=λe he=>
 ⟨_,λw=>by simpa using Rf (f:=λw e=>(underlying e.1).run P w) (λw=>(Prod.mk.inj (congrFun h w)).1) he w,PL.ofK λw=>Rf (f:=λw e=>(P.fieldsOf e.1).toList.map λf=>(f.offset,(sizeOf f.type).run P w)) (λw=>(Prod.mk.inj (Prod.mk.inj (congrFun h w)).2).1) he w⟩
theorem Iu.ofK(h:kL P F T Z=kR P F T Z)(k:kT F T=AE):Iu P T:=by
 have g:=Qqo h;simp only[kT,XV,Xs]at k;refine⟨⟨_l g k.1.1,λe d=>?_,λe d=>?_⟩,λe d=>?_,λe d=>?_⟩
 .have:=Rf (f:=λw e=>((isAgg e.1).run P w,(sizeOf e.1).run P w)) (λw=>(Prod.mk.inj (Prod.mk.inj (Prod.mk.inj (congrFun h w)).2).2).1) d;exact⟨λw=>(Prod.mk.inj (this w)).1,λw=>(Prod.mk.inj (this w)).2⟩
 .have:=Rf (f:=λw e=>(zeroValue e.1).run P w) (λw=>(Prod.mk.inj (Prod.mk.inj (Prod.mk.inj (Prod.mk.inj (congrFun h w)).2).2).2).1) d;have q:=k.1.2 e d;exact⟨⟨_,this,Fu q.1⟩,g _ (List.contains_iff_mem.1 q.2)⟩
 .have:=Rf (f:=λw e=>(zeroValue e.1).run P w) (λw=>(Prod.mk.inj (Prod.mk.inj (Prod.mk.inj (Prod.mk.inj (Prod.mk.inj (congrFun h w)).2).2).2).2).1) d;have q:=k.2 e d;exact⟨⟨_,this,Fu q.1.1⟩,q.1.2,Xs.2 q.2⟩
 .exact⟨_,Rf (f:=λw t=>(underlying t).run P w) (λw=>(Prod.mk.inj (Prod.mk.inj (Prod.mk.inj (Prod.mk.inj (Prod.mk.inj (Prod.mk.inj (congrFun h w)).2).2).2).2).2).1) d⟩
theorem LS.ofK(h:kL P F T Z=kR P F T Z)(k:∀f∈Z.fn,∀(a:Array AL) (w:AJ),(callFunc f a).run P w=.ok (.enter f a) w):LS P Z:=⟨λe he=>by
 have:=Rf (f:=λw e=>((underlying e.1).run P w,(sizeOf e.2.1).run P w)) (λw=>(Prod.mk.inj (Prod.mk.inj (Prod.mk.inj (Prod.mk.inj (Prod.mk.inj (Prod.mk.inj (congrFun h w)).2).2).2).2).2).2) he;exact⟨λw=>(Prod.mk.inj (this w)).1,λw=>(Prod.mk.inj (this w)).2⟩,k⟩
theorem K?{L:AA Nat}(h:(λ(a:Array AL) (w:AJ)=>L.map λf=>(callFunc f a).run P w)=λa w=>L.map λf=>.ok (.enter f a) w):∀f∈L,∀(a:Array AL) (w:AJ),(callFunc f a).run P w=.ok (.enter f a) w:=
 λf hf a=>Rf (f:=λw f=>(callFunc f a).run P w) (λw=>congrFun (congrFun h a) w) hf
end
section
variable {P:AK}
theorem Cs.c{f:Field}{fs:AA Field}{h d m:Nat}{g j:AA AL->Prop}(q:∀h,I3 P f.type (h+1) 1 AD g)(x:Cs P fs (h+1) (d+1) m j)(t:Nat.beq f.offset d=true:=by rfl)(hn:f.name≠"_":=by decide):
  Cs P (f::fs) (h+1) d (1+m) (λl=>∃l1 l2,l=l1++l2/\g l1/\j l2):=Cs.cons t hn (q h) (λ_=>rfl) x
theorem RF.c1{n:Nat}{T:Type}{e:T->AA A}{wf:T->Prop}{f:Field}{fs:AA Field}{L:Nat}{T2:Type}{g:T2->AA A}{d:T2->Prop}(h:RB P n f.type T e wf)(r:RF P n fs (off+1) L T2 g d)(j:f.offset=off:=by rfl)(hk:P.cellsOf f.type=1:=by kernel_rfl):
  RF P n (f::fs) off L (T×T2) (λp=>e p.1++g p.2) (λp=>wf p.1/\d p.2):=RF.cons j hk h r
end
class Kp {β:Type} (P:AK) (F:AB β) (f:outParam FuncId) (args:outParam (AA A)) (H:outParam Qc) (w:outParam (β->A)) (H1:outParam (β->Qc)):Prop where
 c:∀r,F=AC r->C P f args H (RQ w H1 r)
variable {N:Nat}{args:AA A}{fn:Func}
theorem Kp.b{β:Type}{F:AB β}{f:FuncId}{c:Code}{w:β->A}{H1:β->Qc}(hf:P.funcs[f]?=AC fn)(hb:fn.body=AC c)(hN:fn.ntmps=N)(hA:Nat.ble args.length N=AE)
  (h:∀r,F=AC r->TC P H.length N c (Kh 0 args) H (Jc P H.length fn (RQ w H1 r))):Kp P F f args H w H1:=⟨λr e=>iY hf hb hN hA (h r e)⟩
theorem uY{P:AK}{fn:Func}{tmps:Array AL}{R:Ending->AJ->Prop}{fr ro:Nat->Prop}{σ:Ce}{H:Qc}{tl:AA Deferred}:
  ∀(ds:AA Deferred) (w:AJ),ds.Nodup->(∀d∈ds,∃D,d={target:=.collected D,args:= #[]}/\ ¬ro D/\ ¬fr D/\(∀(i:Nat) (x:CW),σ[i]?=AC (AC D)->H[i]?=AC x->x.live=AE->False)/\(∀(i d:Nat) (x:CW),σ[i]?=AC (AC d)->H[i]?=AC x->Dq w x d D->False)/\w.heap[D]?=AC (.deferred (AC [])))->
  CZ fr ro σ H w->(∀w',CZ fr ro σ H w'->Ql fr ro w ro w'->LeavesInM Fence.wide 0 P fn tmps R tl .returning w')->LeavesInM Fence.wide 0 P fn tmps R (ds++tl) .returning w
 |[],w,_,_,s,hk=>hk w s (Ql.refl _ _ _)
 |d::ds,w,hn,hd,s,hk=>by
  obtain⟨D,rfl,h1,h2,h3,h5,h4⟩:=hd d sq;obtain⟨n1,n2⟩:=List.nodup_cons.1 hn;obtain⟨s',ev⟩:=s.turn (obj:=.deferred AF) h1 h2 h3 h5 (λy q=>by grind[World.shape?]);refine⟨sq,.inl ⟨D,_,rfl,run_takeDeferred h4,?_⟩⟩;refine uY ds _ n2 (λd' q=>?_) s' (λw' q1 q2=>hk w' q1 (ev.trans q2));obtain⟨D',rfl,g1,g2,g3,g5,g4⟩:=hd d' (by simp[q]);refine⟨D',rfl,g1,g2,g3,λi d x z1 z2 z3=>g5 i d x z1 z2 (s.hidKeep z1 z2 (λz=>World.putObj_heap_other gq) (λb q=>World.putObj_heap_other (λe:b=D=>h1 (e▸q))) z3),(World.putObj_heap_other (λe=>?_)).trans g4⟩
  grind
def Ka(h:Nat):A->Bool
 |.ptr i _=>Nat.blt i h
 |.int _ _=>AE
 |.bool _=>AE
 |.rp _=>AE
 |_=>AD
theorem Ka.take{ro:Nat->Prop}{σ:Ce}{w:AJ}{h:Nat}{a:A}{v:AL}(d:Ka h a=AE)(q:VR ro σ w a v):VR ro (σ.take h) w a v:=by
 cases a with
 |ptr i o=>
  simp only[VR]at q⊢;obtain⟨b,f,g⟩:=q;have:i<h:=by simpa[Ka]using d
  exact⟨b,by rw[List.getElem?_take_of_lt this];exact f,g⟩
 |int k n=>exact q
 |bool b=>exact q
 |rp j=>exact q
 |_=>cases d
theorem belL.take{ro:Nat->Prop}{σ:Ce}{w:AJ}{h:Nat}:∀{la:AA A} {l:AA AL},la.all (Ka h)=AE->LR ro σ w la l->LR ro (σ.take h) w la l
 |[],l,_,q=>q
 |a::r,l,hb,q=>by
  simp only[LR]at q⊢;simp only[List.all_cons,XV]at hb;obtain⟨v,l',h1,h2,h3⟩:=q;exact⟨v,l',h1,Ka.take hb.1 h2,belL.take hb.2 h3⟩
theorem Ql.extTake{fr ro:Nat->Prop}{w':AJ}(h:Ql fr ro w ro' w'){σ σ':Ce}{n:Nat}(e:σ'.take n=σ.take n):DR ro (σ.take n) w ro' σ' w':=
 ⟨(h.ext σ []).sub,(h.ext σ []).keep,(h.ext σ []).shape,λi b q=>by
  rw[<- e]at q;by_cases hi:i<n
  .rw[List.getElem?_take_of_lt hi]at q;exact q
  .rw[XN (by simp;omega)]at q;cases q⟩
def ZP(h0:Nat)(fr ro:Nat->Prop)(σ:Ce)(w:AJ)(N:Nat)(ds:AA Deferred)(Q0:Qy)(QD:Nat->FuncId->AA A->Qy):Exit->Act->AJ->Prop:=
 λe a' w'=>H9 h0 fr ro σ w N ds Q0 e a' w'\/ ∃x env' H' ro' σ' fr' h1 f caps capv,Rq e x/\QD h1 f caps x env' H'/\DN fr' ro' σ' H' env' N a' w'/\Ql fr ro w ro' w'/\σ'.take h0=σ.take h0/\h0<=h1/\
  LR ro' (σ'.take h1) w' caps capv/\C_ fr w ({target:=.fn (.func f) capv.toArray,args:= #[]}::ds) fr' a'.defers
def Io(P:AK)(h0 N:Nat)(c:Code)(env:Env)(H:Qc)(Q0:Qy)(QD:Nat->FuncId->AA A->Qy):Prop:=
 ∀fr ro σ a w,DN fr ro σ H env N a w->(∀d∈a.defers,¬gJ d)->c.wpIn (WF AF) 0 P (ZP h0 fr ro σ w N a.defers Q0 QD) a w
def Sj(P:AK)(h0 N:Nat)(c:Code)(Q0:Qy)(QD:Nat->FuncId->AA A->Qy):Qy
 |.normal,env,H=>Io P h0 N c env H Q0 QD
 |.exit id,env,H=>Q0 (.exit id) env H
 |.ret,env,H=>Q0 .ret env H
section
variable {P:AK} {h0 N:Nat} {env env':Env} {H H':Qc} {Q0:Qy} {QD:Nat->FuncId->AA A->Qy} {c c':Code}
theorem aD(h:Io P h0 N c env H Q0 QD):Sj P h0 N c Q0 QD .normal env H:=h
theorem oM(h:Q0 .ret env H):Sj P h0 N c Q0 QD .ret env H:=h
theorem C_.noReal{fr fr':Nat->Prop}{ds ds':AA Deferred}(h:C_ fr w ds fr' ds')(k:∀d∈ds,¬gJ d):∀d∈ds',¬gJ d:=λd hd=>by
 rcases h.ds d hd with q|⟨D,rfl,_⟩
 .exact k d q
 .rintro⟨fv,cap,e⟩;simp at e
theorem ZP.grow{fr j ro B:Nat->Prop}{σ σ1:Ce}{w H:AJ}{ds m:AA Deferred}{e:Exit}{a':Act}{w':AJ}
  (h:ZP h0 j B σ1 H N m Q0 QD e a' w')(he:Ql fr ro w B H)(J:σ1.take h0=σ.take h0)(hg:C_ fr w ds j m):ZP h0 fr ro σ w N ds Q0 QD e a' w':=by
 rcases h with h|⟨x,t,H',E,σ',F,W,f,y,g,V,R,P,T,O,Q,L,M⟩
 .exact .inl (h.grow he J hg)
 .refine .inr ⟨x,t,H',E,σ',F,W,f,y,g,V,R,P,he.trans (T.frMono hg.sub),O.trans J,Q,L,?_⟩;have G:C_ fr w ({target:=.fn (.func f) g.toArray,args:= #[]}::ds) j ({target:=.fn (.func f) g.toArray,args:= #[]}::m):=by
   refine⟨hg.sub,hg.new,λd q=>?_,λd q=>?_⟩
   .rcases X6.1 q with rfl|q
    .simp
    .exact X5 _ (hg.kd d q)
   .rcases X6.1 q with rfl|q
    .simp
    .exact(hg.ds d q).imp (X5 _) id
  exact G.trans he.size M
theorem Io.seq(h:TC P h0 N c env H (Sj P h0 N c' Q0 QD)):Io P h0 N (.seq c c') env H Q0 QD:=by
 intro L J σ a w r hn;refine wpIn_seq (Code.wpIn_mono ?_ (h AF L J σ a w r Zx));rintro e G F ⟨x,d,H',f,σ',g,m,t,E,y,B,j⟩;cases e with
 |normal=>
  obtain rfl:x=.normal:=m;exact Code.wpIn_mono (λe a w q=>q.grow y B j) (t g f σ' G F E (j.noReal hn))
 |exit id=>
  obtain rfl:x=.exit id:=m;exact .inl ⟨_,d,H',f,σ',g,rfl,t,E,y,B,j⟩
 |ret=>
  obtain rfl:x=.ret:=m;exact .inl ⟨_,d,H',f,σ',g,rfl,t,E,y,B,j⟩
 |_=>exact m.elim
theorem Io.le(d:Le h0 env H env' H')(h:Io P h0 N c env' H' Q0 QD):Io P h0 N c env H Q0 QD:=by
 intro g m σ a w r hn;obtain⟨f,σ',j,s,t⟩:=d g m σ N a w r;exact Code.wpIn_mono (λe a w q=>q.grow (Yf s) t (C_.refl _ _ _)) (h g f σ' a w j hn)
theorem Io.defer{j h:AM}{d id f:Nat}{caps:AA A}(hv:CS P j env H (.fn (.func f) [] caps))(hh:h0<=H.length)(X:caps.all (Ka H.length)=AE)
  (k:TC P H.length N c' (up env d (.fn (.func f) [] caps)) H (QD H.length f caps))
  (O:j.dst=AC d:=by rfl)(hg1:Qz [j,h].toArray j env true:=by rfl)(hg2:Qz [j,h].toArray h (up env d (.fn (.func f) [] caps)) true:=by rfl)(hN:Nat.blt d N=true:=by rfl)
  (t:∃ty,h.op=.defer ⟨.value (.tmp d), #[],ty⟩:=by exact⟨_,rfl⟩)(hd2:h.dst=none:=by rfl):Io P h0 N (.seq (.region id [j,h].toArray AD) c') env H Q0 QD:=by
 intro fr y σ a w r hn;have T:d<N:=by simp_all
 have L:d<a.tmps.size:=by rw[r.size];exact T
 obtain⟨v,F,M⟩:=hv fr y σ N a w r;obtain⟨l1,g,rfl,V,G⟩:=M;obtain rfl:l1=[]:=V;obtain⟨ty,t⟩:=t
 let a1:Act:={a with tmps:=a.tmps.setIfInBounds d (.func (.func f) #[] g.toArray)}
 let D0:Deferred:={target:=.fn (.func f) g.toArray,args:= #[]}
 have J:DN fr y σ H (up env d (.fn (.func f) [] caps)) N a1 w:=⟨r.sim,VR.up (fr:=fr) r.env L ⟨[],g,rfl,rfl,G⟩,by simpa[a1]using r.size,r.defers⟩;have r2:DN fr y σ H (up env d (.fn (.func f) [] caps)) N {a1 with defers:=D0::a.defers} w:=by
  refine⟨J.sim,J.env,J.size,List.nodup_cons.2 ⟨λq=>hn _ q ⟨_,_,rfl⟩,r.defers.1⟩,λd' m=>?_⟩;rcases X6.1 m with rfl|m
  .exact .inr ⟨_,_,rfl⟩
  .exact r.defers.2 d' m
 have he:a1.eval (.tmp d)=.func (.func f) #[] g.toArray:=by
  show(a.tmps.setIfInBounds d _).getD d undef=_
  simp_all
 have E:(execOp a1.eval h).run P w=.ok (.defer D0) w:=by
  simp[execOp,t,resolve,he,Deferred.ofValue,D0]
 refine wpIn_seq (wpIn_region_lit ?_);refine JE (YV hg1 r) F ?_;simp only[O,Act.put];unfold FD wpListIn;rw[Vs (YV hg2 J)];refine⟨λ_ _=>trivial,?_⟩;have hs:(h.semAt (WF AF).round a1.eval).run P w=.ok (.defer D0) w:=by
  have e:h.semAt (WF AF).round a1.eval=execOp a1.eval h:=rfl;rw[e];exact E
 rw[hs];show FD P AF [j,h].toArray (Exit.then (Code.wpIn (WF AF) 0 P c' (ZP h0 fr y σ w N a.defers Q0 QD)) (ZP h0 fr y σ w N a.defers Q0 QD)) [] (Act.put {a1 with defers:=D0::a.defers} h.dst undef) w;simp only[hd2,Act.put];refine wpListIn_nil ?_;refine Code.wpIn_mono ?_ (k AF fr y σ _ w r2 Zx);rintro e a' w' ⟨x,B,H',Q,σ',R,z1,z2,z3,Y,W,z6⟩;refine .inr ⟨x,B,H',Q,σ',R,H.length,f,caps,g,z1,z2,z3,Y,?_,hh,?_,z6⟩
 .have:=congrArg (List.take h0) W
  rwa [List.take_take,List.take_take,XA hh]at this
 .have q:=(belL.take X G).mono (Y.extTake W);exact belL.take X q
end
def Nm(P:AK)(h0:Nat)(Q:A->Qc->Prop)(h1:Nat)(f:FuncId)(caps:AA A):Qy
 |.normal,env,H=>∃env' H' fD id l,Le h1 env H env' H'/\P.funcs[f]?=AC fD/\fD.body=AC (.region id (l:AA AM).toArray AD)/\(∀args w,(callFunc f args).run P w=.ok (.enter f args) w)/\Nat.ble caps.length fD.ntmps=AE/\WO P h0 fD.ntmps l.toArray l (Kh 0 caps) H' (Jc P h0 fD λ_ H=>Q (.tup []) H)
 |_,_,_=>False
variable {H':Qc}{env':Env}{h0:Nat}{l:AA AM}
theorem Nm.mk{Q:A->Qc->Prop}{h1:Nat}{f:FuncId}{caps:AA A}{fD:Func}{id:Nat}(hle:Le h1 env H env' H')(hf:P.funcs[f]?=AC fD)(hb:fD.body=AC (.region id l.toArray AD))(eg:∀args w,(callFunc f args).run P w=.ok (.enter f args) w)(hN:Nat.ble caps.length fD.ntmps=AE)
  (h:WO P h0 fD.ntmps l.toArray l (Kh 0 caps) H' (Jc P h0 fD λ_ H=>Q (.tup []) H)):Nm P h0 Q h1 f caps .normal env H:=⟨env',H',fD,id,l,hle,hf,hb,eg,hN,h⟩
theorem QkC{f:FuncId}{c:Code}{Q:A->Qc->Prop}
  (hf:P.funcs[f]?=AC fn)(hb:fn.body=AC c)(hN:fn.ntmps=N)(hA:Nat.ble args.length N=AE)(hR:fn.results= #[])
  (h:Io P H.length N c (Kh 0 args) H (Jc P H.length fn Q) (Nm P H.length Q)):C P f args H Q:=by
 intro fr ro σ vals w hs hl;have ay:=hl.length;have a1:args.length<=N:=by simp_all
 refine(callsIn_wide (n:=0)).1 (callsIn_of_wp_marks hf hb trivial (Code.wpIn_mono ?_ (h fr ro σ _ w ⟨hs,?_,?_,List.nodup_nil,λd y=>by cases y⟩ (λd y=>by cases y))))
 .rintro e a' M hp;have G:∀{σ':Ce},σ'.take H.length=σ.take H.length->σ'=σ++σ'.drop H.length:=by
   intro σ' ht;have e1:σ'.take H.length=σ:=by rw[ht,VH (by rw[hs.len];omega)]
   grind[List.take_append_drop]
  rcases hp with⟨x,ab,H1,ae,σ1,T,h1,h2,h3,h4,h5,h6⟩|⟨x,ab,H1,ae,σ1,T,hh,g,X,j,h1,h2,h3,h4,h5,h8,h7,h6⟩
  .have ao:(∃t H' r,Le H.length ab H1 t H'/\H7 P fn t H' r/\Q r H')->LeavesInM Fence.wide 0 P fn a'.tmps (λe M=>
     ∃v' r H' E τ,e=.returned v'/\Q r H'/\CZ fr E (σ++τ) H' M/\VR E (σ++τ) M r v'/\Ql fr ro w E M) a'.defers .returning M:=by
    rintro⟨t,H',r,ad,hr,hq⟩;obtain⟨E,σ',F,L,ht⟩:=ad T ae σ1 N a' M h3;have hσ:=G (ht.trans h5);have s1:CZ fr E σ' H' M:=F.sim.frMono h6.sub;refine JQ (ro:=E) (fr:=fr) (σ:=σ') (H:=H') a'.defers M F.defers.1 (λd y=>?_) s1 (λY s2 O=>?_)
    .obtain⟨D,rfl,q'⟩:=(h6.ds d y).resolve_left sq;obtain⟨V,g2⟩:=F.defers.mark y;exact⟨D,rfl,λq=>F.sim.roFr D q V,λq=>(by have:=hs.frLt D q;omega),λi x q1 q2 q3=>(F.sim.own i D x q1 q2 q3).2.2 V,λi d x q1 q2 q3=>(F.sim.hid i d x D q1 q2 q3).fr V,g2⟩
    .have ar:DN fr E σ' H' t N {a' with defers:=[]} Y:=⟨s2,λs=>(F.env s).mono (by have:=O.ext σ' [];grind),F.size,List.nodup_nil,λd y=>by cases y⟩;obtain⟨v,e1,e2⟩:=hr fr E σ' N _ Y ar;exact⟨v,e1,v,r,H',E,σ'.drop H.length,rfl,hq,hσ▸s2,hσ▸e2,(h4.trans (Yf L)).trans O⟩
   cases e with
   |normal=>
    obtain rfl:x=.normal:=h1;exact ao h2
   |ret=>
    obtain rfl:x=.ret:=h1;exact ao h2
   |exit id=>
    obtain rfl:x=.exit id:=h1;exact h2.elim
   |_=>exact h1.elim
  .cases e with
   |normal=>
    obtain rfl:x=.normal:=h1;obtain⟨t,H',fD,id,l,ad,gf,gb,eg,gN,hw⟩:=h2;obtain⟨B,σ2,r2,L,ht⟩:=ad T ae σ1 N a' M h3;have av:LR B σ2 M X j:=by
     rw[<- ht]at h7;exact h7.mono ⟨L,λ_ _=>rfl,λ_ _ q=>q,λi b q=>by
      by_cases hi:i<hh
      .rw[List.getElem?_take_of_lt hi]at q;exact q
      .rw[XN (by simp;omega)]at q;cases q⟩
    have ax:σ2.take H.length=σ.take H.length:=by
     have:=congrArg (List.take H.length) ht;rw[List.take_take,List.take_take,XA h8]at this;exact this.trans h5
    have am:∀b,fr b->T b:=h6.sub;have ah:({target:=.fn (.func g) j.toArray,args:= #[]}:Deferred)∈a'.defers:=h6.kd _ sq;have W:∀d∈a'.defers,d={target:=.fn (.func g) j.toArray,args:= #[]}\/ ∃D,d={target:=.collected D,args:= #[]}/\w.heap.size<=D/\T D/\M.heap[D]?=AC (.deferred (AC [])):=λd y=>by
     rcases h6.ds d y with q|⟨D,rfl,q⟩
     .exact .inl (by simpa using q)
     .obtain⟨V,g2⟩:=r2.defers.mark y;exact .inr ⟨D,rfl,q,V,g2⟩
    have aq:=r2.defers.1;obtain⟨A1,B1,an⟩:=List.append_of_mem ah;rw[an]at aq W;show LeavesInM Fence.wide 0 P fn a'.tmps _ a'.defers .returning M;rw[an];obtain⟨n1,n2,n3⟩:=List.nodup_append.1 aq;obtain⟨n4,n5⟩:=List.nodup_cons.1 n2
    let frA:Nat->Prop:=λb=>T b/\ ∀D,({target:=.collected D,args:= #[]}:Deferred)∈A1->b≠D
    have cond:∀{frX frY roX:Nat->Prop} {σX:Ce} {HX:Qc} {wX:AJ},CZ frX roX σX HX wX->∀D,frX D->¬frY D->wX.heap[D]?=AC (.deferred (AC []))->
      ∃D',({target:=.collected D,args:= #[]}:Deferred)={target:=.collected D',args:= #[]}/\ ¬roX D'/\ ¬frY D'/\(∀(i:Nat) (x:CW),σX[i]?=AC (AC D')->HX[i]?=AC x->x.live=AE->False)/\(∀(i d:Nat) (x:CW),σX[i]?=AC (AC d)->HX[i]?=AC x->Dq wX x d D'->False)/\wX.heap[D']?=AC (.deferred (AC [])):=
     λs D V g2 g3=>⟨D,rfl,λq=>s.roFr D q V,g2,λi x q1 q2 q3=>(s.own i D x q1 q2 q3).2.2 V,λi d x q1 q2 q3=>(s.hid i d x D q1 q2 q3).fr V,g3⟩
    refine uY (ro:=B) (fr:=frA) (σ:=σ2) (H:=H') A1 M n1 (λd y=>?_) (r2.sim.frMono λb q=>q.1) (λY s2 O=>?_)
    .rcases W d (List.mem_append_left _ y)with rfl|⟨D,rfl,g0,V,g2⟩
     .exact absurd rfl (n3 _ y _ sq)
     .exact cond r2.sim D V (λq=>q.2 D y rfl) g2
    have af:DR B σ2 M B σ2 Y:=by have:=O.ext σ2 [];grind
    have aa:=av.mono af;have a2:=aa.length;have a0:X.length<=fD.ntmps:=XQ gN;have rD:DN frA B σ2 H' (Kh 0 X) fD.ntmps {tmps:=j.toArray++Array.replicate (fD.ntmps-j.toArray.size) undef,defers:=[]} Y:=by
     refine⟨s2,λs=>?_,?_,List.nodup_nil,λd y=>by cases y⟩
     .have:=eJ (i:=0) [] rfl aa (Array.replicate (fD.ntmps-j.toArray.size) undef) s
      grind
     .grind
    have ac:CallsDIn Fence.wide 0 P g j.toArray .returning Y λe u' J=>u'=.returning/\ ∃v,e=.returned v/\ ∃H3 m σ3,Q (.tup []) H3/\CZ frA m σ3 H3 J/\Ql frA B Y m J/\σ3.take H.length=σ2.take H.length:=by
     refine callsDIn_of_wp (R:=λe J=>∃v,e=.returned v/\ ∃H3 m σ3,Q (.tup []) H3/\CZ frA m σ3 H3 J/\Ql frA B Y m J/\σ3.take H.length=σ2.take H.length) gf gb trivial (wpIn_region_lit (YH ?_ _ _ _ (hw AF frA B σ2 _ Y rD Zx)));rintro e a3 J ⟨x,ai,H3,m,σ3,aj,z1,z2,z3,z4,z5,z6,z7⟩;have fin:(∃t H' r,Le H.length ai H3 t H'/\H7 P fD t H' r/\Q (.tup []) H')->a3.defers=[]/\ ∃v,(results fD a3.tmps).run P J=.ok v J/\ ∃v',Ending.returned v=.returned v'/\ ∃H3 m σ3,Q (.tup []) H3/\CZ frA m σ3 H3 J/\Ql frA B Y m J/\σ3.take H.length=σ2.take H.length:=by
      rintro⟨az,H4,r4,y1,y2,y3⟩;obtain⟨ag,σ4,al,y4,y5⟩:=y1 aj m σ3 _ a3 J z3;obtain⟨v,e1,e2⟩:=y2 aj ag σ4 _ a3 J al;exact⟨z6,v,e1,v,rfl,H4,ag,σ4,y3,al.sim.frMono z7.sub,z4.trans (Yf y4),y5.trans z5⟩
     cases e with
     |normal=>
      obtain rfl:x=.normal:=z1;exact fin z2
     |ret=>
      obtain rfl:x=.ret:=z1;exact fin z2
     |exit id=>
      obtain rfl:x=.exit id:=z1;exact z2.elim
     |_=>exact z1.elim
    refine⟨sq,.inr ⟨(λh=>by simp[Fence.wide]at h),.func g,j.toArray,g,j.toArray,rfl,?_,λ_ _=>trivial,ac.mono ?_⟩⟩
    .have:=eg (#[]++j.toArray) Y;simpa[invoke]using this
    rintro e u' J ⟨rfl,v,rfl,H3,m,σ3,y1,s3,ak,y4⟩;have hσ:=G (y4.trans ax);refine JQ (ro:=m) (fr:=fr) (σ:=σ3) (H:=H3) B1 J n5 (λd y=>?_) (s3.frMono λb q=>⟨am b q,λD hD e=>?_⟩) (λw4 s4 aw=>?_)
    .rcases W d (List.mem_append_right _ (X5 _ y))with rfl|⟨D,rfl,g0,V,g2⟩
     .exact absurd y n4
     .have gA:frA D:=⟨V,λD' hD' e=>by subst e;exact n3 _ hD' _ (X5 _ y) rfl⟩;exact cond s3 D gA (λq=>by have:=hs.frLt D q;omega) ((ak.keepFr D gA).trans ((O.keepFr D gA).trans g2))
    .rcases W _ (List.mem_append_left _ hD)with q'|⟨D',e',g0,_⟩
     .simp at q'
     .have:D=D':=by simpa using e'
      have:=hs.frLt b q;omega
    .have ev:Ql fr ro w m w4:=((h4.trans (Yf L)).trans ((O.trans ak).frMono λb q=>⟨am b q,λD hD e=>by
      rcases W _ (List.mem_append_left _ hD)with q'|⟨D',e',g0,_⟩
      .simp at q'
      .have:D=D':=by simpa using e'
       have:=hs.frLt b q;omega⟩)).trans aw
     exact⟨.tuple #[],by simp[results,hR],.tuple #[],.tup [],H3,m,σ3.drop H.length,rfl,y1,hσ▸s4,⟨[],rfl,rfl⟩,ev⟩
   |ret=>
    obtain rfl:x=.ret:=h1;exact h2.elim
   |exit id=>
    obtain rfl:x=.exit id:=h1;exact h2.elim
   |_=>exact h1.elim
 .intro s;have:=eJ (i:=0) [] rfl hl (Array.replicate (fn.ntmps-vals.toArray.size) undef) s
  grind
 grind
variable {E:Nat}
section
variable {P:AK} {o:AM} {env:Env} {H:Qc} {h0 N:Nat} {Q:Qy}
theorem Qkv{α:Type}{i k:Nat}{u:TypeId}{x:Operand}{l:AA α}(L:P.underlying T=AC (.slice E))(G:o.op=.binOp .eql T x (.const (.slice AF 0 0)) u)(B:CP env x=.osl i 0 l.length k):
  S8 P o env H (λv H'=>∃b:Bool,v=.bool b/\(l≠[]->b=AD)/\H'=H):=by
 intro M y σ N a w r;have h:=Qp r x;rw[B]at h;obtain⟨f,d,h,J⟩:∃f d,a.eval x=.slice f l.length d/\(l≠[]->f.isNone=AD):=by
  rcases h with⟨q,g⟩|⟨b,p,d,t,m,_,g,_⟩
  .exact⟨AF,0,by rw[g,q],λj=>absurd (List.eq_nil_of_length_eq_zero q) j⟩
  .exact⟨_,d,g,λ_=>rfl⟩
 refine⟨.bool f.isNone,H,.bool f.isNone,w,y,[],⟨f.isNone,rfl,λj=>?_,rfl⟩,?_,rfl,by simpa using r.sim,Ql.refl _ _ _⟩
 .grind
 .have F:a.eval (.const (.slice AF 0 0))=.slice AF 0 0:=rfl
  grind[eqGuard,execOp,Sem.run_bind,Result.andThen,Go.run_eql_slice_nil,Sem.run_pure]
theorem QmS{α:Type}{i k d:Nat}{u:TypeId}{x:Operand}{l:AA α}{all:Array AM}{L:AA AM}(f:P.underlying T=AC (.slice E))(h:CP env x=.osl i 0 l.length k)
  (j:∀b,(l≠[]->b=AD)->WO P h0 N all L (up env d (.bool b)) H Q)
  (g:o.op=.binOp .eql T x (.const (.slice AF 0 0)) u:=by rfl)(hg:Qz all o env true:=by rfl)(hd:o.dst=AC d:=by rfl)(hN:Nat.blt d N=true:=by rfl)(hh:Nat.ble h0 H.length=true:=by rfl):WO P h0 N all (o::L) env H Q:=by
 refine gw (by simp_all) hg hd hN (Qkv f g h) ?_
 grind
end
mutual
def roFree:A->Bool
 |.rp _=>AD
 |.rsl _ _=>AD
 |.agg cs=>Rj cs
 |.fn _ a c=>Rj a&&Rj c
 |.iface _ v=>roFree v
 |.tup vs=>Rj vs
 |_=>AE
def Rj:AA A->Bool
 |[]=>AE
 |a::r=>roFree a&&Rj r
end
mutual
theorem VR.roFree{ro ro':Nat->Prop}{σ:Ce}{w:AJ}:∀{a:A} {v:AL},Go.Sw.roFree a=AE->VR ro σ w a v->VR ro' σ w a v
 |.any,_,_,_=>trivial
 |.bool _,_,_,h=>h
 |.int _ _,_,_,h=>h
 |.str _,_,_,h=>h
 |.nilp,_,_,h=>h
 |.ptr _ _,_,_,h=>h
 |.rp _,_,hs,_=>by simp[Go.Sw.roFree]at hs
 |.nils,_,_,h=>h
 |.rsl _ _,_,hs,_=>by simp[Go.Sw.roFree]at hs
 |.osl _ _ _ _,_,_,h=>h
 |.agg cs,v,hs,h=>by
  simp only[VR,Go.Sw.roFree]at h hs⊢;obtain⟨l,h1,h2⟩:=h;exact⟨l,h1,LR.roFree hs h2⟩
 |.fn f a c,v,hs,h=>by
  simp only[VR,Go.Sw.roFree,XV]at h hs⊢;obtain⟨l,l',h1,h2,h3⟩:=h;exact⟨l,l',h1,LR.roFree hs.1 h2,LR.roFree hs.2 h3⟩
 |.nilf,_,_,h=>h
 |.iface t a,v,hs,h=>by
  simp only[VR,Go.Sw.roFree]at h hs⊢;obtain⟨x,h1,h2⟩:=h;exact⟨x,h1,VR.roFree hs h2⟩
 |.nilif,_,_,h=>h
 |.map _,_,_,h=>h
 |.nilm,_,_,h=>h
 |.tup vs,v,hs,h=>by
  simp only[VR,Go.Sw.roFree]at h hs⊢;obtain⟨l,h1,h2⟩:=h;exact⟨l,h1,LR.roFree hs h2⟩
theorem LR.roFree{ro ro':Nat->Prop}{σ:Ce}{w:AJ}:∀{cs:AA A} {l:AA AL},Rj cs=AE->LR ro σ w cs l->LR ro' σ w cs l
 |[],_,_,h=>h
 |a::r,l,hs,h=>by
  simp only[LR,Rj,XV]at h hs⊢;obtain⟨v,l',h1,h2,h3⟩:=h;exact⟨v,l',h1,VR.roFree hs.1 h2,LR.roFree hs.2 h3⟩
end
inductive Sk:CW->CW->Prop
 |kc (t:Nat) (cs:List A) (h:Rj cs=AE):Sk (.cells t cs) (.cells t cs)
 |mp (es:List (A×A)):Sk (.fmap es) (.map es)
inductive Kd:Qc->Qc->Prop
 |nil:Kd [] []
 |cons {x y:CW} {r s:Qc} (h:Sk x y) (k:Kd r s):Kd (x::r) (y::s)
theorem Kd.len{a b:Qc}(h:Kd a b):a.length=b.length:=by induction h<;>simp_all
theorem Kd.at{a b:Qc}(h:Kd a b):∀{i:Nat} {y:CW},b[i]?=AC y->∃x,a[i]?=AC x/\Sk x y:=by
 induction h with
 |nil=>intro i y q;simp at q
 |cons h k d=>
  intro i y q;cases i with
  |zero=>exact⟨_,rfl,by simp at q;exact q▸h⟩
  |succ i=>simpa using d (by simpa using q)
theorem Sk.live{x y:CW}(h:Sk x y):y.live=true:=by cases h<;>rfl
theorem _E{β:Type}{f:FuncId}{Hf:Qc}{ra:β->A}{r:β}(R:Kd Hf H)(hC:oE P f args Hf ra r)(hs:Yv (ra r)=AE):oE P f args H ra r:=by
 intro fr Y σ vals w s hl;have N:σ.length=Hf.length:=s.len.trans R.len.symm
 let lent:Nat->Prop:=λb=>∃(i:Nat) (L:AA (A×A)),σ[i]?=AC (AC b)/\H[i]?=AC (.map L)
 have d:∀b,lent b->b<w.heap.size/\ ¬Y b/\ ¬fr b:=λb ⟨i,L,m,g⟩=>s.own i b _ m g rfl
 let roF:Nat->Prop:=λb=>Y b\/lent b
 have M:DR Y σ w roF σ w:=⟨λ_ q=>.inl q,λ_ _=>rfl,λ_ _ q=>q,λ_ _ q=>q⟩;have sF:CZ fr roF σ Hf w:=by
  refine⟨N,s.roOk.to (λ_ q=>.inl q) (λ_ _=>rfl) (λb q=>q.elim (s.roLt b) λq=>(d b q).1),s.frLt,λb q=>q.elim (s.roFr b) λq=>(d b q).2.2,λi b x m g O=>?_,λi j b x y m g O h4 h5 h6=>?_,λi o x m g=>?_,λi b x c m g O=>?_⟩
  all_goals
   have W:∀{i:Nat} {x:CW},Hf[i]?=AC x->∃y,H[i]?=AC y/\Sk x y:=λ{i x} q=>by
    have:i<H.length:=by rw[<- R.len];exact(XK.1 q).1
    obtain⟨x',B,E⟩:=R.at (XJ this);rw[q]at B;cases B;exact⟨_,XJ this,E⟩
  .obtain⟨y,B,E⟩:=W g;obtain⟨p1,p2,p3⟩:=s.own i b y m B E.live;refine⟨p1,λq=>q.elim p2 ?_,p3⟩;rintro⟨j,L,z1,z2⟩;have:=s.inj i j b _ _ m z1 B z2 E.live rfl;subst this;rw[B]at z2;cases z2;cases E;cases O
  .obtain⟨y1,B,E⟩:=W O;obtain⟨y2,q3,q4⟩:=W h4;exact s.inj i j b _ _ m g B q3 E.live q4.live
  .obtain⟨y,B,E⟩:=W g;have J:=s.blk i o y m B;cases E with
   |kc t cs h=>exact J.keep M (λ_ _ _=>rfl) (λ_ _ _ _=>rfl)
   |mp L=>
    cases o with
    |none=>exact J.elim
    |some b=>
     obtain⟨l,F,V,T,X⟩:=J;exact⟨.inr ⟨i,L,m,B⟩,l,F,V,T.mono ⟨λ_ q=>.inl q,λ_ _=>rfl,λ_ _ q=>q,λ_ _ q=>q⟩,X⟩
  .obtain⟨y,B,E⟩:=W g;cases E<;>exact O.elim
 refine Calls.mono (hC fr roF σ vals w sF (hl.mono M)) ?_;rintro e w' ⟨v,r',H1,ab,τ,rfl,⟨rfl,rfl⟩,Q,hv,ev⟩;have hτ:τ=[]:=by
  have:=Q.len;rw[X2,N]at this;exact List.eq_nil_of_length_eq_zero om
 subst hτ;rw[Vg]at Q hv
 let ro2:Nat->Prop:=λb=>ab b/\ ¬lent b
 have G:∀b,Y b->ro2 b:=λb q=>⟨ev.sub b (.inl q),λq'=>(d b q').2.1 q⟩;have aa:∀b,lent b->w'.heap[b]?=w.heap[b]? :=λb q=>ev.keepRo b (.inr q);refine⟨v,_,H,ro2,[],rfl,⟨rfl,rfl⟩,?_,?_,⟨G,λb q=>ev.keepRo b (.inl q),ev.keepFr,ev.size,ev.shape,ev.os,ev.tape,ev.output,ev.drawn⟩⟩
 .rw[Vg];refine⟨s.len,s.roOk.to G (λb q=>ev.keepRo b (.inl q)) (λb q=>Q.roLt b q.1),Q.frLt,λb q=>Q.roFr b q.1,λi b y m g O=>?_,s.inj,λi o y m g=>?_,λi b y c m g O=>?_⟩
  .obtain⟨x,B,E⟩:=R.at g;cases E with
   |kc t cs h=>
    obtain⟨p1,p2,p3⟩:=Q.own i b _ m B rfl;exact⟨p1,λq=>p2 q.1,p3⟩
   |mp L=>
    have q:lent b:=⟨i,L,m,g⟩;exact⟨Vf (d b q).1 ev.size,λz=>z.2 q,(d b q).2.2⟩
  .obtain⟨x,B,E⟩:=R.at g;cases E with
   |kc t cs h=>
    have J:=Q.blk i o _ m B;cases o with
    |none=>exact J
    |some b=>
     obtain⟨l,V,T,X⟩:=J;exact⟨l,V,T.roFree h,X⟩
   |mp L=>
    have J:=s.blk i o _ m g;cases o with
    |none=>exact J
    |some b=>
     obtain⟨l,F,V,T,X⟩:=J;exact⟨l,F,(aa b ⟨i,L,m,g⟩).trans V,T.mono ⟨G,λb q=>ev.keepRo b (.inl q),ev.shape,λ_ _ q=>q⟩,X⟩
  .obtain⟨x,B,E⟩:=R.at g;cases E<;>exact O.elim
 .exact hv.scalar hs
variable {y:Operand}
theorem iq{o:AM}{n j:Nat}{x:Operand}{q:AA A}{k:IntKind}{i:Int}{v:A}(g:(i==j)=AE)(G:q[j]?=AC v)(L:Nat.blt j n=AE)(O:∀w,(underlying t).run P w=.ok (.array n E) w)(J:∀w,(isAgg E).run P w=.ok AD w)(R:∀w,(Go.sizeOf E).run P w=.ok 1 w)
  (B:o.op=.index t x y:=by rfl)(hx:CP env x=.agg q:=by rfl)(hy:CP env y=.int k i:=by rfl):CS P o env H v:=by
 intro X W σ N a w r;have d:=Qp r x;rw[hx]at d;obtain⟨m,d,T⟩:=d;have Q:=QY r hy;have e:i=(j:Int):=by simpa using g
 subst e;have f:(j:Int)<n:=by simpa using L
 have M:(0:Int)<=(j:Int):=om;obtain⟨u,V,F⟩:=T.get _ G;refine⟨u,?_,F⟩;generalize a.eval=ρ at*;simp[B,d,Q,Instr.index,O,M,f,R,J,V,go_sem];intro h;omega
variable {e:α->AA A}{rows:AA (AA Int)}{u:Nat}
section
variable {P:AK} {o:AM} {env:Env} {H:Qc} {fr ro:Nat->Prop} {σ:Ce} {w:AJ}
def YM(b:Nat)(rows:AA (AA α)):AA (AA A):=rows.mapIdx λj r=>[A.osl (b+j) 0 r.length 1]
theorem vB(b:Nat)(rows:AA (AA α)):(YM b rows).length=rows.length:=by simp[YM]
theorem Jo{α:Type}{b i:Nat}{rows:AA (AA α)}{r:AA α}(h:rows[i]?=AC r):(YM b rows)[i]?=AC [.osl (b+i) 0 r.length 1]:=by simp[YM,h]
theorem rh(b:Nat)(rows:AA (AA α))(r:AA α):YM b (rows++[r])=YM b rows++[[.osl (b+rows.length) 0 r.length 1]]:=by simp[YM,List.mapIdx_append]
theorem rj{α:Type}{b i:Nat}{rows:AA (AA α)}{r d:AA α}(h:rows[i]?=AC r)(f:r.length=d.length):YM b (rows.set i d)=YM b rows:=by
 apply List.ext_getElem?;intro j;simp only[YM,List.getElem?_mapIdx]
 grind
theorem l7{α:Type}{ρ:Nat->Nat}:∀{rows:AA (AA α)} {b b':Nat},(∀j,j<rows.length->ρ (b+j)=b'+j)->LQ ρ (YM b rows)=YM b' rows
 |[],_,_,_=>rfl
 |r::rows,b,b',h=>by
  have e:∀x:Nat,YM x (r::rows)=[A.osl x 0 r.length 1]::YM (x+1) rows:=λx=>by
   simp only[YM,List.mapIdx_cons,Xw];congr 1;apply List.ext_getElem?;intro j;simp only[List.getElem?_mapIdx];have:x+(j+1)=x+1+j:=om;rw[this]
  have h0:ρ b=b':=by simpa using h 0 sq
  rw[e b,e b',LQ,l7 (b':=b'+1) (λj d=>by have:=h (j+1) (by simpa using d);rw[show b+1+j=b+(j+1)from om,this];omega)];simp only[JJ,Y0,h0]
def HS(b:Nat)(rows:AA (AA α))(m:Nat):AA (AA A):=YM b rows++List.replicate m [.nils]
theorem Qnv(b:Nat)(m:Nat):HS (α:=α) b [] m=List.replicate m [.nils]:=rfl
theorem rg{α:Type}{b i m:Nat}{rows:AA (AA α)}{r:AA α}(h:rows[i]?=AC r):(HS b rows m)[i]?=AC [.osl (b+i) 0 r.length 1]:=by
 have:=Jo (b:=b) h;have d:=(XK.1 this).1;simp only[HS,XL d,this]
theorem QpX{α:Type}{b m:Nat}{rows:AA (AA α)}:(HS b rows (m+1))[rows.length]?=AC [.nils]:=by
 simp[HS,vB]
theorem Qnu{α:Type}{b m:Nat}{rows:AA (AA α)}{r:AA α}:(HS b rows (m+1)).set rows.length [.osl (b+rows.length) 0 r.length 1]=HS b (rows++[r]) m:=by
 simp[HS,rh,vB,Xl]
theorem QlO{α:Type}{b m:Nat}{rows:AA (AA α)}{r d:AA α}(f:r.length=d.length):HS b (rows++[r]) m=HS b (rows++[d]) m:=by
 simp[HS,rh,f]
def Q3(t:Nat)(rows:AA (AA Int)):Qc:=rows.map λr=>.row t 1 (r.map (Ys .i64))
theorem YQ{i:Nat}(pre:Qc){r:AA Int}(h:rows[i]?=AC r):(pre++Q3 t rows)[pre.length+i]?=AC (.row t 1 (r.map (Ys .i64))):=by
 rw[XM om];simp[Q3,h]
theorem mr{i:Nat}(pre:Qc)(r:AA Int):(pre++Q3 t rows).set (pre.length+i) (.row t 1 (r.map (Ys .i64)))=pre++Q3 t (rows.set i r):=by
 rw[List.set_append_right _ _ om];simp[Q3,List.map_set]
theorem Ql7(t:Nat)(rows:AA (AA Int))(r:AA Int):Q3 t (rows++[r])=Q3 t rows++[.row t 1 (r.map (Ys .i64))]:=by simp[Q3]
theorem tY(ρ:Nat->Nat)(t:Nat)(rows:AA (AA Int)):(Q3 t rows).map (Q1 ρ)=Q3 t rows:=by
 simp only[Q3,List.map_map];rfl
theorem rk{a:CW}{m:Nat}{r l:AA Int}(d:r.length=l.length):
  ([a,.rowr t 1 (HS 2 (rows++[r]) m)]++Q3 u (rows++[r])).set (2+rows.length) (.row u 1 (l.map (Ys .i64)))=[a,.rowr t 1 (HS 2 (rows++[l]) m)]++Q3 u (rows++[l]):=by
 have:=mr (t:=u) (i:=rows.length) [a,.rowr t 1 (HS 2 (rows++[r]) m)] (rows:=rows++[r]) l;rw[show[a,CW.rowr t 1 (HS 2 (rows++[r]) m)].length=2 from rfl]at this;rw[this,QlO d];simp
theorem QpW{a:CW}{i:Nat}{r l:AA Int}(h:rows[i]?=AC r)(d:r.length=l.length):
  ([a,.rowr t 1 (YM 2 rows)]++Q3 u rows).set (2+i) (.row u 1 (l.map (Ys .i64)))=[a,.rowr t 1 (YM 2 (rows.set i l))]++Q3 u (rows.set i l):=by
 rw[rj h d];exact mr (i:=i) [a,.rowr t 1 (YM 2 rows)] l
theorem Qnt{a x:CW}{i:Nat}{r l:AA Int}(h:rows[i]?=AC r)(d:r.length=l.length):
  ([a,.rowr t 1 (YM 3 rows),x]++Q3 u rows).set (3+i) (.row u 1 (l.map (Ys .i64)))=[a,.rowr t 1 (YM 3 (rows.set i l)),x]++Q3 u (rows.set i l):=by
 rw[rj h d];exact mr (i:=i) [a,.rowr t 1 (YM 3 rows),x] l
def dH(env:Env):Env->Prop
 |[]=>True
 |(s,a)::r=>lk env s=a/\dH env r
theorem dH.ok{env:Env}:∀{env':Env},dH env env'->∀s,lk env' s=.any\/lk env' s=lk env s
 |[],_,s=>.inl rfl
 |(k,a)::r,h,s=>by
  simp only[lk];by_cases q:s=k
  .subst q;rw[VD];exact .inr h.1.symm
  .have:Nat.beq s k=false:=by rw[VL];intro d;exact q (XP d)
   rw[this];exact dH.ok h.2 s
theorem Y5(h:dH env env'):Le h0 env H env' H:=Le.env h.ok
def RV(n:Nat):AA Nat:=0::1::(2+n)::(List.range n).map (2+ ·)
def RZ(n:Nat):AA Nat:=0::1::(List.range n).map (3+ ·)
theorem ml(k n:Nat):((List.range n).map (k+ ·)).Nodup:=by
 show List.Pairwise _ _;rw[List.pairwise_map];exact List.nodup_range.imp λh q=>h om
theorem QpC{a x:CW}(m:∀ρ,Q1 ρ a=a)(h:∀ρ,Q1 ρ x=x)(hE:IO (Ci (RV rows.length) (2+rows.length+1)) env env'):
  Le 0 env (([a,.rowr t 1 (YM 2 rows)]++Q3 u rows)++[x]) env' ([a,.rowr t 1 (YM 3 rows),x]++Q3 u rows):=by
 have d:(([a,.rowr t 1 (YM 2 rows)]++Q3 u rows)++[x]).length=2+rows.length+1:=by simp[Q3];omega
 refine kh (RV rows.length) rfl ?_ ?_ (by rw[d];exact hE)
 .rw[d,Xf,tY];have e:LQ (Ci (RV rows.length) (2+rows.length+1)) (YM 3 rows)=YM 2 rows:=l7 λj g=>by
   have:(RV rows.length)[3+j]?=AC (2+j):=by
    rw[show 3+j=j+1+1+1 from om];simp[RV,g]
   simp[Ci,this]
  have f:Q1 (Ci (RV rows.length) (2+rows.length+1)) (.rowr t 1 (YM 3 rows))=.rowr t 1 (YM 2 rows):=congrArg (CW.rowr t 1) e;simp only[Vj,Vk,m,h,f];simp only[RV,Vj,List.map_map];apply List.ext_getElem?;intro i
  match i with
  |0=>rfl
  |1=>rfl
  |2=>simp[Q3];rw[show 2+rows.length=rows.length+1+1 from om];simp
  |i+3=>
   simp only[XE,Xo,Xf,Vj,Vk,VJ,Vh];by_cases q:i<rows.length
   .simp[q,Q3];rw[show 2+i=i+1+1 from om];simp only[XE];rw[XL (by simpa using q)];simp[q]
   .simp[Q3,q]
 .rw[show RV rows.length=0::1::(2+rows.length)::(List.range rows.length).map (2+ ·)from rfl];simp only[List.nodup_cons];exact⟨gq,gq,gq,ml 2 _⟩
theorem Qnc{a x:CW}(h:∀ρ,Q1 ρ a=a)(hE:IO (Ci (RZ rows.length) (3+rows.length)) env env'):
  Le 0 env ([a,.rowr t 1 (YM 3 rows),x]++Q3 u rows) env' ([a,.rowr t 1 (YM 2 rows)]++Q3 u rows):=by
 have d:([a,.rowr t 1 (YM 3 rows),x]++Q3 u rows).length=3+rows.length:=by simp[Q3];omega
 refine kh (RZ rows.length) rfl ?_ ?_ (by rw[d];exact hE)
 .rw[d,Xf,tY];have e:LQ (Ci (RZ rows.length) (3+rows.length)) (YM 2 rows)=YM 3 rows:=l7 λj f=>by
   have:(RZ rows.length)[2+j]?=AC (3+j):=by
    rw[show 2+j=j+1+1 from om];simp[RZ,f]
   simp[Ci,this]
  have g:Q1 (Ci (RZ rows.length) (3+rows.length)) (.rowr t 1 (YM 2 rows))=.rowr t 1 (YM 3 rows):=congrArg (CW.rowr t 1) e;simp only[Vj,Vk,h,g];simp only[RZ,Vj,List.map_map];apply List.ext_getElem?;intro i
  match i with
  |0=>rfl
  |1=>rfl
  |i+2=>
   simp only[XE,Xo,Xf,Vj,Vk,VJ,Vh];by_cases q:i<rows.length
   .simp[q,Q3];rw[show 3+i=i+1+1+1 from om];simp[q]
   .simp[Q3,q]
 .rw[show RZ rows.length=0::1::(List.range rows.length).map (3+ ·)from rfl];simp only[List.nodup_cons];exact⟨gq,gq,ml 3 _⟩
theorem U?{k:Nat}{x:Operand}{F J:IntKind}{n:Int}{zv:α}{l:AA α}{z:AL}{a:A}(L:mk n zv=AC l)(E:ElemTy P T et k)(Q:∀w,(zeroValue et).run P w=.ok z w)(f:ZR a z)
  (M:Yn a=AE)(X:Yj a=e zv)(h:(Yj a).all Yu=AE)(d:Nat.beq (e zv).length k=AE)
  (j:o.op=.makeSlice T x y:=by rfl)(hx:CP env x=.int F n:=by rfl)(hy:CP env y=.int J n:=by rfl):
  E_ P o env H (.osl H.length 0 l.length k) (H++[.rowr et k (l.map e)]):=by
 intro fr B σ N act w r;obtain⟨V,R,m,G,O,W,Y⟩:=qu L E Q f M X h d j hx hy r;have g:=r.sim.allocRowr (t:=et) (rest:=[]) O (m.mono ⟨λ_ q=>q,λ_ _=>rfl,λ_ _ q=>q,λ_ _ q=>by cases q⟩) G;rw[Vg]at g;refine⟨_,_,B,[AC w.heap.size],R,.inr ⟨w.heap.size,0,l.length,et,V.length,?_,rfl,λ_=>sq,⟨XS _,om⟩,?_,by rw[W,Xv];exact XS _⟩,g,Ql.alloc _ r.sim.roLt r.sim.frLt⟩
 .rw[<- r.sim.len];simp
 .unfold World.shape?;rw[Yz];simp
theorem Qgt{n i k e f:Nat}{x:Operand}{d:AA (AA A)}{c vs J:AA A}{v:A}(ho:o.op=.store t x y)(hx:CP env x=.ptr i off)(hH:H[i]?=AC (.rowr T k es))(hs:∀w,(sizeOf t).run P w=.ok n w)
  (q:off=e*k+f)(hc:es[e]?=AC c)(B:CP env y=v)(X:Yn v=AE)(hv:Yj v=vs)(hn:vs.length=n)(O:vs.all Yu=AE)(hf:Nat.ble (f+n) k=AE)
  (E:splice c f vs=J)(G:es.set e J=d):
  I6 P o env H (H.set i (.rowr T k d)):=by
 intro fr W σ N a w r;have g:=Qp r x;rw[hx]at g;obtain⟨b,g,h2⟩:=g;have R:=Qp r y;rw[B]at R;obtain⟨m,h4,h⟩:=R.cells X;rw[hv]at h;obtain⟨l,L,V⟩:=r.sim.blk i _ _ g hH;have Y:f+n<=k:=by simp_all
 have hm:m.length=n:=by rw[h.length,hn]
 have he:e<es.length:=gq;have M:off+n<=l.length:=by
  have:=V.length;have h6:=XB k he
  grind
 have Q:=YC (P:=P) off 0 L om (h.plain O);have j:=r.sim.set (x':=.rowr T k d) (obj:=.cells (splice l off m).toArray T (0,0)) g hH rfl
  (λy B=>JF L (YB om) y B)
  (λex F=>⟨_,F,by
   subst G E q;exact(V.splice hc h (h.plain O) om).mono ex⟩)
 refine⟨_,W,[],?_,gq,j.2⟩
 simp_all[storeVar,execOp,Instr.storeAt,Instr.sureAddr]
theorem Qqp{i n:Nat}{v:AL}(s:CZ fr ro σ H w)(hσ:∀c,σ[i]?=AC (AC c)->ro' c)(d:∀c,ro c->ro' c)(hH:H[i]?=AC (.row t 1 es))(f:es.length=n)
  (h:VR ro σ w (.osl i 0 n 1) v):VR ro' [] w (.rsl 1 es) v:=by
 have:=QpS (j:=0) (n:=n) s hσ d hH om (by simpa using h);simpa[<- f]using this
theorem pJ{ro':Nat->Prop}{b t d:Nat}{α:Type}{e:α->AA A}(s:CZ fr ro σ H w)(g:∀c,ro c->ro' c):
  ∀(rows:AA (AA α)) (k f:Nat),(∀j r,rows[j]?=AC r->H[b+(k+j)]?=AC (.row t 1 (r.map e))/\ ∀c,σ[b+(k+j)]?=AC (AC c)->ro' c)->
   RR ro σ w d 1 (YM (b+k) rows) f->RR ro' [] w d 1 (rows.map λr=>[.rsl 1 (r.map e)]) f
 |[],_,_,_,_=>trivial
 |r::rows,k,f,hl,h=>by
  have e1:YM (b+k) (r::rows)=[A.osl (b+k) 0 r.length 1]::YM (b+(k+1)) rows:=by
   simp only[YM,List.mapIdx_cons,Xw];congr 1;apply List.ext_getElem?;intro j;simp only[List.getElem?_mapIdx];have:b+k+(j+1)=b+(k+1)+j:=om;rw[this]
  rw[e1]at h;obtain⟨_,⟨⟨v,B,F,E⟩,_⟩,m⟩:=h;obtain⟨y,G⟩:=hl 0 r rfl;refine⟨rfl,⟨⟨v,B,F,Qqp s G g y sq E⟩,trivial⟩,pJ (b:=b) (t:=t) s g rows (k+1) (f+1) (λj q x=>?_) m⟩;have:=hl (j+1) q x
  grind
theorem T?{X s i b t1 c:Nat}{rows:AA (AA α)}(f:rows.length=c)(Y:i<b)(hs:lk env s=.osl i 0 c 1)(hH:H[i]?=AC (.rowr t 1 (YM b rows)))
  (L:∀j r,rows[j]?=AC r->H[b+j]?=AC (.row t1 1 (r.map e))):
  Le X env H (up env s (.rsl 1 (rows.map (Qu 1 e)))) (kb H (i::(List.range c).map (b+ ·))):=by
 intro fr V σ N a w r;obtain⟨g,g1,E,P⟩:=r.sim.shutL (l:=i::(List.range c).map (b+ ·)) (by
   rw[List.nodup_cons];exact⟨by simp;omega,ml b c⟩) (by
  intro j O;simp at O;rcases O with rfl|⟨Q,q,rfl⟩
  .exact⟨_,hH,rfl⟩
  .subst f;exact⟨_,L Q _ (XJ q),rfl⟩)
 refine⟨g,σ,⟨g1,?_,r.size,r.defers⟩,E,rfl⟩;have ext:DR V σ w g σ w:=⟨E,λ_ _=>rfl,λ_ _ q=>q,λ_ _ q=>q⟩;intro y;simp only[lk];by_cases q:y=s
 .subst q;rw[VD];have h:=r.env y;rw[hs]at h;have R:rows.map (Qu 1 e)=rows.map λr=>[A.rsl 1 (r.map e)]:=by simp[Qu]
  rw[R];rcases h with⟨z,h⟩|⟨d,p,G,t',m,J,h,T,⟨h3,aa⟩,h4,h5⟩
  .subst z;exact⟨AF,0,by simpa[f]using h,by simp[f],.inl (by simpa using f)⟩
  .refine⟨_,G,by simpa[f]using h,by simpa[f]using h3,?_⟩;by_cases B:c=0
   .left;simpa[B]using f
   .right;obtain rfl:=T om;obtain⟨lv,q1,q2⟩:=r.sim.blk i _ _ J hH;refine⟨d,0,sq,P i sq d J,?_⟩;refine pJ (b:=b) (t:=t1) r.sim E rows 0 0 (λj x M=>?_) (YT (pre:=[]) (by simpa using q1) q2);rw[Xv];refine⟨L j x M,λW F=>P (b+j) ?_ W F⟩;have:=(XK.1 M).1;simp;omega
 .have:Nat.beq y s=false:=by
   rw[VL];intro q';exact q (XP q')
  rw[this];exact(r.env y).mono ext
end
section
variable {P:AK} {h0 N:Nat} {all:Array AM} {o:AM} {l:AA AM} {env:Env} {H:Qc} {Q:Qy} {k:AA Kf} {x:LZ} {c:Code}
theorem bL(h:WO P h0 N all l env H Q):WO P h0 N all l env H Q:=h
theorem bO(h:TC P h0 N c env H Q):TC P h0 N c env H Q:=h
theorem kG(h:kq P h0 N k Q x env H):kq P h0 N k Q x env H:=h
theorem bN(h:TC P h0 N c env H (kq P h0 N k Q)):TC P h0 N c env H (kq P h0 N k Q):=h
theorem bK(h:WO P h0 N all l env H (kq P h0 N k Q)):WO P h0 N all l env H (kq P h0 N k Q):=h
theorem K0c(h:TC P h0 N c env H (kq P h0 N [] Q)):TC P h0 N c env H Q:=h
theorem K0w(h:WO P h0 N all l env H (kq P h0 N [] Q)):WO P h0 N all l env H Q:=h
theorem kD(h:Le h0 env H env' H'):Le h0 env H env' H':=h
def _B(all:Array AM)(o:AM):AB Nat:=match o.guard with
 |some (j,_)=>(all[j]?).bind (·.dst)
 |none=>AF
theorem IsU{α:Type}{b:Bool}{x y:AB α}{r:α}{s:Nat}(hs:_B all o=AC s)(hb:R_ env s=.mk (.bool b))(h:(bif b then x else y)=AC r)
  (t:b=AE->x=AC r->WO P h0 N all (o::l) (up env s (.bool AE)) H Q)(e:b=AD->y=AC r->WO P h0 N all (o::l) (up env s (.bool AD)) H Q):WO P h0 N all (o::l) env H Q:=Is s h hb t e
end
abbrev ON:=AB (AA Nat)
def NQ:AA Nat->Nat->Nat->ON
 |[],_,_=>AC []
 |_::r,0,j=>AC (j::r)
 |a::r,i+1,j=>(NQ r i j).bind λr'=>AC (a::r')
mutual
def aZ:A->A->AA Nat->ON
 |.ptr i _,.ptr j _,l=>NQ l i j
 |.osl i _ _ _,.osl j _ _ _,l=>NQ l i j
 |.map i,.map j,l=>NQ l i j
 |.agg a,.agg b,l=>R8 a b l
 |.fn _ a c,.fn _ a' c',l=>(R8 a a' l).bind λl'=>R8 c c' l'
 |.iface _ v,.iface _ v',l=>aZ v v' l
 |_,_,l=>AC l
def R8:AA A->AA A->AA Nat->ON
 |a::r,b::s,l=>(aZ a b l).bind λl'=>R8 r s l'
 |_,_,l=>AC l
end
def vd:CW->CW->AA Nat->ON
 |.cells _ a,.cells _ b,l=>R8 a b l
 |_,_,l=>AC l
def Y'(H:Qc):Nat->Qc->AA Nat->ON
 |i,b::r,l=>match YJ l i with
  |some p=>match YJ H p with
   |some b'=>(vd b b' l).bind λl'=>Y' H (i+1) r l'
   |none=>Y' H (i+1) r l
  |none=>AC l
 |_,[],l=>AC l
def NX{α:Type}:AA α->AA Nat
 |[]=>[]
 |_::r=>99::NX r
def Nd:AA Nat->ON
 |[]=>AC []
 |a::r=>(YJ ixL a).bind λa'=>(Nd r).bind λr'=>AC (a'::r')
def jI(argsc args:AA A)(Hc H:Qc):ON:=(R8 argsc args (NX Hc)).bind λl=>(Y' H 0 Hc l).bind Nd
def RC:AA Nat->Bool
 |[]=>AE
 |a::r=> !Fs r a&&RC r
theorem dZ{l:AA Nat}(h:RC l=AE):l.Nodup:=by
 induction l with
 |nil=>simp
 |cons a r d=>
  simp only[RC,XV,Bool.not_eq_true']at h;rw[vF]at h;simp only[List.nodup_cons];refine⟨λq=>?_,d h.2⟩;have:r.contains a=true:=by simpa using q
  grind
def bP{α:Type}:AA α->AA Nat->ON
 |_::r,i::s=>(bP r s).bind λl=>AC (i::l)
 |_,_=>AC []
def ou(d:Nat):Env->ON
 |[]=>AC []
 |(s,_)::r=>(ou d r).bind λl=>match Fs (d::l) s with
   |true=>AC l
   |false=>AC (s::l)
def ow:AA AM->AB Nat
 |[]=>AF
 |[o]=>o.dst
 |_::r=>ow r
def dC:AA AM->Bool
 |[]=>AD
 |o::r=>match o.guard with
  |some _=>AE
  |none=>dC r
def bA:Code->AB Nat
 |.region _ ⟨l⟩ AD=>match dC l with
  |true=>ow l
  |false=>AF
 |_=>AF
def Sf:AA AM->AA Nat->ON
 |[],l=>AC l
 |o::r,l=>match o.dst with
  |some d=>Sf r (d::l)
  |none=>Sf r l
def RO:Code->AA Nat->ON
 |.seq a b,l=>(RO a l).bind λl'=>RO b l'
 |.cond _ a b,l=>(RO a l).bind λl'=>RO b l'
 |.block _ c,l=>RO c l
 |.loop c,l=>RO c l
 |.region _ ⟨r⟩ _,l=>Sf r l
 |_,l=>AC l
def f8:AA Operand->AA Nat->AA Nat
 |[],l=>l
 |.tmp s::r,l=>f8 r (s::l)
 |_::r,l=>f8 r l
def Z':AA AM->AA Nat->AA Nat
 |[],l=>l
 |o::r,l=>Z' r (f8 o.op.operands.toList l)
def Np:Code->AA Nat->AA Nat
 |.seq a b,l=>Np b (Np a l)
 |.cond x a b,l=>Np b (Np a (f8 [x] l))
 |.block _ c,l=>Np c l
 |.loop c,l=>Np c l
 |.region _ ⟨r⟩ _,l=>Z' r l
 |_,l=>l
def SE(a:Nat):AA Nat->ON
 |[]=>AC [a]
 |b::r=>match Nat.ble a b with
  |true=>AC (a::b::r)
  |false=>(SE a r).bind λr'=>AC (b::r')
def dN(az us:AA Nat):Env->AA Nat->AA Nat->AB (AA Nat×AA Nat)
 |[],v,k=>AC (v,k)
 |(s,_)::r,v,k=>match Fs v s||Fs k s with
  |true=>dN az us r v k
  |false=>match Fs az s with
   |true=>match Fs us s with
    |true=>(SE s v).bind λv'=>dN az us r v' k
    |false=>dN az us r v k
   |false=>dN az us r v (s::k)
def jF(c:Code)(env:Env):AB (AA Nat×AA Nat):=(RO c []).bind λaz=>dN az (Np c []) env [] []
class EncS (β:Type) where
 e:β->AA A
instance:EncS Bool:=⟨λb=>[.bool b]⟩
instance:EncS Int:=⟨λb=>[.int .i64 b]⟩
instance {α β:Type} [EncS α] [EncS β]:EncS (α×β):=⟨λp=>EncS.e p.1++EncS.e p.2⟩
def NJ:AA Nat->AA A->Env
 |a::r,b::s=>(a,b)::NJ r s
 |_,_=>[]
def R0:AA Nat->Nat->AA Nat->ON
 |i::s,n+1,_::r=>(R0 s n r).bind λr'=>AC (i::r')
 |_,_,l=>AC l
def cP:AA Nat->AA Nat->ON
 |i::s,a::r=>(cP s r).bind λr'=>match Nat.beq a 99 with
   |true=>AC (i::r')
   |false=>AC (a::r')
 |_,l=>AC l
def cG(env:Env):Env->AA Nat->ON
 |[],l=>AC l
 |(s,a)::r,l=>(aZ a (lk env s) l).bind λl'=>cG env r l'
def vZ(h0:Nat)(env:Env)(H:Qc)(env':Env)(H':Qc):ON:=(R0 ixL h0 (NX H')).bind λl0=>(cG env env' l0).bind λl1=>(Y' H 0 H' l1).bind λl2=>(cP ixL l2).bind Nd
theorem vK{π:AA Nat}(h:vZ h0 env H env' H'=AC π)(hpre:π.take h0=List.range h0)(hH:π.map (λp=>H[p]?)=(H'.map (Q1 (Ci π H.length))).map AC)(hn:RC π=AE)(hE:IO (Ci π H.length) env env'):Le h0 env H env' H':=Lr π hpre hH (dZ hn) hE
variable {Q:Qy}{β:Type}
variable {E':β->Env}
theorem ClV{d:Nat}{e b:β}{H':β->Qc}(h:AC e=AC b)(g:Le d env H (E' e) (H' e)):Ke d b E' H' Q .normal env H:=by
 cases h;exact g
def Ry(env:Env)(H:Qc):AA ResultVar->AB (AA A×AA Nat×AA Nat)
 |[]=>AC ([],[],[])
 |.tmp s::r=>(Ry env H r).bind λp=>AC (lk env s::p.1,p.2.1,s::p.2.2)
 |.cell s _::r=>(Ry env H r).bind λp=>match lk env s with
  |.ptr j _=>match YJ H j with
   |some (.cells _ cs)=>AC (.agg cs::p.1,j::p.2.1,s::p.2.2)
   |_=>AC (.any::p.1,j::p.2.1,s::p.2.2)
  |_=>AC (.any::p.1,p.2.1,s::p.2.2)
def oT:A->A->AA Nat->ON
 |.agg a,.agg b,l=>R8 a b l
 |a,.agg [b],l=>aZ a b l
 |a,b,l=>aZ a b l
def aY:AA A->AA A->AA Nat->ON
 |a::r,b::s,l=>(oT a b l).bind λl'=>aY r s l'
 |_,_,l=>AC l
def vb:A->AA A->AA Nat->ON
 |.tup a,b,l=>aY a b l
 |a,[b],l=>oT a b l
 |_,_,l=>AC l
def Ne:AA Nat->AA Nat->ON
 |[],_=>AC []
 |a::r,bs=>match Nat.beq a 99,bs with
  |true,b::bs'=>(Ne r bs').bind λr'=>AC (b::r')
  |true,[]=>(Ne r []).bind λr'=>AC (a::r')
  |false,_=>(Ne r bs).bind λr'=>AC (a::r')
def cO:AA Nat->AA Nat->ON
 |[],_=>AC []
 |a::r,l=>(cO r l).bind λr'=>match Fs l a with
  |true=>AC r'
  |false=>AC (a::r')
def oN:AA Nat->ON
 |[]=>AC []
 |a::r=>(oN r).bind λr'=>AC (a::r')
def vY(h0:Nat)(rs:Array ResultVar)(env:Env)(H:Qc)(v:A)(Hc:Qc):AB (AA Nat×AA Nat):=(Ry env H rs.toList).bind λp=>(R0 ixL h0 (NX Hc)).bind λl0=>(vb v p.1 l0).bind λl1=>(Y' H 0 Hc l1).bind λl2=>(cO p.2.1 l2).bind λbs=>(Ne l2 bs).bind λl3=>(Y' H 0 Hc l3).bind λl4=>(Nd l4).bind λl=>(oN p.2.2).bind λsl=>AC (l,sl)
theorem ol{g:Nat}{E':Env}{β:Type}{e r:β}{w:β->A}{Hc:β->Qc}{π sl:AA Nat}(h:AC e=AC r)(t:vY g fn.results env H (w e) (Hc e)=AC (π,sl))(q:aK π sl env H=AC (E',H'))
  (j:H'=Hc e)(f:H7 P fn E' H' (w e))(d:π.take g=List.range g)(hH:π.map (λp=>H[p]?)=(H'.map (Q1 (Ci π H.length))).map AC)(m:RC π=AE)(hE:IO (Ci π H.length) env E'):Jc P g fn (RQ w Hc r) .ret env H:=by
 cases h;exact Rx π sl q f ⟨rfl,j⟩ d hH (dZ m) hE
theorem gS{b n i:Nat}{cs:AA A}(hx:lk env b=.ptr i 0)(hH:H[i]?=AC (.cells T cs))(hl:cs.length=n)(ha:∀w,(isAgg t).run P w=.ok AE w)(hs:∀w,(sizeOf t).run P w=.ok n w):D2 P env H (.cell b t) (.agg cs):=Yk ha hs hx hH hl
theorem gR{b i:Nat}{x:A}(hx:lk env b=.ptr i 0)(hH:H[i]?=AC (.cells T [x]))(ha:∀w,(isAgg t).run P w=.ok AD w):D2 P env H (.cell b t) x:=YD ha hx hH
def Rz(l:AA AM):Nat->AA Nat->ON
 |0,S=>AC S
 |j+1,S=>match Fs S j,YJ l j with
  |true,AC o=>Rz l j (Qi o++S)
  |_,_=>Rz l j S
def dD(S:AA Nat):Nat->Bool
 |0=>AE
 |j+1=>Fs S j&&dD S j
def cX:Nat->AA AM->Bool
 |_,[]=>AE
 |i,o::r=>Fs (Qi o) i&&cX (i+1) r
def oU(l:AA AM):Nat->Nat->AA AM->Nat
 |0,c,_=>c
 |_,c,[]=>c
 |f+1,c,o::r=>match cX c r&&(match Rz l c (Qi o)with
  |some S=>dD S c
  |none=>AD)with
  |true=>c
  |false=>oU l f (c+1) r
def jP(l:AA AM):AB Nat:=match oU l 100 0 l with
 |0=>AF
 |m=>YJ ixL m
section
variable {P:AK} {h0 N:Nat} {all:Array AM} {o:AM} {l:AA AM} {env:Env} {H:Qc} {Q:Qy} {d t:Nat} {x y:Operand} {kk:IntKind} {i:Int}
theorem kS{β:Type}{f:UInt8->AB β}{r:β}{s:AA UInt8}(h:(CI s i).bind f=AC r)(ho:o.op=.index t x y)(hx:CP env x=.str s)(hy:CP env y=.int kk i)(ht:∀w,(underlying t).run P w=.ok .string w)(hg:Yg all o env=AC AE)(hd:o.dst=AC d)(hN:Nat.blt d N=AE)
  (g:∀c,CI s i=AC c->f c=AC r->WO P h0 N all l (up env d (.int .u8 c.toNat)) H Q):WO P h0 N all (o::l) env H Q:=Bd h λc h1 h2=>vV (uJ h1 ht ho hx hy) (g c h1 h2) (Qx hg) hd hN
theorem nN{c:Call}{m n:Int}(ho:o.op=.call c)(hc:c={callee:=.builtin .max,args:= #[x,y],argTypes:=c.argTypes})(hx:CP env x=.int kk m)(hy:CP env y=.int kk n)(hg:Yg all o env=AC AE)(hd:o.dst=AC d)(hN:Nat.blt d N=AE)
  (g:WO P h0 N all l (up env d (.int kk (if m<n then n else m))) H Q):WO P h0 N all (o::l) env H Q:=vV (CS.max ho hc hx hy) g (Qx hg) hd hN
theorem nM{c:Call}{m n:Int}(ho:o.op=.call c)(hc:c={callee:=.builtin .min,args:= #[x,y],argTypes:=c.argTypes})(hx:CP env x=.int kk m)(hy:CP env y=.int kk n)(hg:Yg all o env=AC AE)(hd:o.dst=AC d)(hN:Nat.blt d N=AE)
  (g:WO P h0 N all l (up env d (.int kk (if n<m then n else m))) H Q):WO P h0 N all (o::l) env H Q:=vV (CS.min ho hc hx hy) g (Qx hg) hd hN
theorem IxU{Z:Nk}{β:Type}{f:α->AB β}{r:β}{b n k:Nat}(hZ:LS P Z)(h:(CI L i).bind f=AC r)(ho:o.op=.indexAddr t x y)(hx:CP env x=.osl b 0 n k)(hy:CP env y=.int kk i)(hn:L.length=n)(ht:H8 Z.sl t=AC (et,k))(hg:Yg all o env=AC AE)(hd:o.dst=AC d)(hN:Nat.blt d N=AE)
  (g:∀v,CI L i=AC v->f v=AC r->WO P h0 N all l (up env d (.ptr b (i.toNat*k))) H Q):WO P h0 N all (o::l) env H Q:=Bd h λc h1 h2=>by
 obtain⟨q1,q2⟩:=hZ.sl _ (NB ht);exact vV (Qd h1 hn q1 q2 ho hx hy) (g c h1 h2) (Qx hg) hd hN
theorem LdU{p v:A}{cs:AA A}(ho:o.op=.load t x)(hx:CP env x=p)(hp:Df H p (v::cs))(ha:∀w,(isAgg t).run P w=.ok AD w)(hg:Yg all o env=AC AE)(hd:o.dst=AC d)(hN:Nat.blt d N=AE)(g:WO P h0 N all l (up env d v) H Q):WO P h0 N all (o::l) env H Q:=vV (CS.load ho ha hx hp) g (Qx hg) hd hN
theorem ApU{β:Type}{M:AA α}{f:AA α->AB β}{r:β}{c:Call}{T' et' k k' b n:Nat}{ya:A}[E:ElemTy P T et k][E':ElemTy P T' et' k'](h:(app L M).bind f=AC r)(ho:o.op=.call c)(hc:c={callee:=.builtin .append,args:= #[x,y],argTypes:= #[T,T']})(hx:CP env x=.osl b 0 n k)(hn:L.length=n)(hH:H[b]?=AC (.row et k (L.map e)))(hy:CP env y=ya)(hs:Ht P H ya k (M.map e))
  (hg:Yg all o env=AC AE)(hd:o.dst=AC d)(hN:Nat.blt d N=AE)(hh:Nat.ble h0 H.length=AE)(g:∀v,app L M=AC v->f v=AC r->WO P h0 N all l (up env d (.osl H.length 0 v.length k)) (H.set b .dead++[.row et k (v.map e)]) Q):WO P h0 N all (o::l) env H Q:=Bd h λv h1 h2=>vH (Qj h1 E E'.sl hs hn ho hc hx hH hy) (g v h1 h2) (Qx hg) hd hN hh
end
def SC:AA Kf->AA Nat->AA Nat
 |[],l=>l
 |.seq c::r,l=>SC r (Np c l)
 |_::r,l=>SC r l
def Rv(us:AA Nat):AA Nat->AA Nat->ON
 |[],v=>AC v
 |a::r,v=>match Fs us a&& !Fs v a with
  |true=>(SE a v).bind λv'=>Rv us r v'
  |false=>Rv us r v
def RG(az:AA Nat):Env->ON
 |[]=>AC []
 |(s,_)::r=>(RG az r).bind λl=>match Fs az s||Fs l s with
   |true=>AC l
   |false=>AC (s::l)
def cQ(env:Env)(c2:Code)(k:AA Kf):Code->AB (AA Nat×AA Nat)
 |.block _ (.loop _)=>AF
 |.seq _ _=>AF
 |.region _ _ _=>AF
 |c=>(RO c []).bind λaz=>(Rv (SC k (Np c2 [])) az []).bind λv=>(RG az env).bind λks=>AC (v,ks)
theorem Un{x:LZ}(h:Q x env H):kq P h0 N [] Q x env H:=h
theorem kI{b:β}{H':β->Qc}{x:LZ}(h:Ke h0 b E' H' Q x env H):Ke h0 b E' H' Q x env H:=h
theorem kJ{S B:Type}{b:CF S B}{E':S->Env}{Hb:S->Qc}{x:LZ}(h:L3 h0 b E' Hb Q x env H):L3 h0 b E' Hb Q x env H:=h
theorem kE{S B:Type}{I:S->Env->Qc->Prop}{d:CF S B}{x:LZ}(h:JU I d Q x env H):JU I d Q x env H:=h
theorem cS{b:β}{H':β->Qc}(h:Q .ret env H):Ke h0 b E' H' Q .ret env H:=h
instance:EncS Unit:=⟨λ_=>[]⟩
theorem cU{S B:Type}{b:CF S B}{s:S}{E':S->Env}{Hb:S->Qc}(h:AC (CF.k s)=AC b)(g:Le h0 env H (E' s) (Hb s)):L3 h0 b E' Hb Q .normal env H:=KR (Oi h).symm g
class LookT (P:AK) (T:Nat) {α β:outParam Type} (ek:outParam (α->A)) (ev:outParam (β->A)) (z0:outParam β):Prop where
 c:∃kt et z,JI P kt ek/\P.underlying T=AC (.map kt et)/\(∀w,(zeroValue et).run P w=.ok z w)/\ZR (ev z0) z
section
variable {P:AK} {h0 N:Nat} {all:Array AM} {o:AM} {l:AA AM} {env:Env} {H:Qc} {Q:Qy} {d T i:Nat} {x y z:Operand} {α β γ:Type} [DecidableEq α] {ek:α->A} {ev:β->A} {L:AA (α×β)} {k:α} {z0:β} {r:γ}
theorem eY{f:β->AB γ}[E:LookT P T ek ev z0](h:(AC (Qn L k z0)).bind f=AC r)(ho:o.op=.lookup T x y AD)(hx:CP env x=.map i)(hH:H[i]?=AC (.map (Qo ek ev L)))(hy:CP env y=ek k)(hg:Yg all o env=AC AE)(hd:o.dst=AC d)(hN:Nat.blt d N=AE)
  (g:∀v,AC (Qn L k z0)=AC v->f v=AC r->WO P h0 N all l (up env d (ev v)) H Q):WO P h0 N all (o::l) env H Q:=Bd h λv h1 h2=>by
 obtain⟨kt,et,z,q1,q2,q3,q4⟩:=E.c;exact vV (Yb q1 h1 q2 q3 q4 ho hx hH hy) (g v h1 h2) (Qx hg) hd hN
theorem eW{f:AA (α×β)->AB γ}{v:β}[E:LookT P T ek ev z0](h:(AC (QK L k v)).bind f=AC r)(ho:o.op=.mapUpdate T x y z)(hx:CP env x=.map i)(hH:H[i]?=AC (.map (Qo ek ev L)))(hy:CP env y=ek k)(hv:CP env z=ev v)(hdt:YL (ev v)=AE)(hg:Yg all o env=AC AE)(hd:o.dst=AF)(hh:Nat.ble h0 H.length=AE)
  (g:∀m,AC (QK L k v)=AC m->f m=AC r->WO P h0 N all l env (H.set i (.map (Qo ek ev m))) Q):WO P h0 N all (o::l) env H Q:=Bd h λm h1 h2=>by
 obtain⟨kt,et,z,q1,q2,q3,q4⟩:=E.c;exact vU (Yh q1 h1 hdt q2 ho hx hH hy hv) (g m h1 h2) (Qx hg) hd hh
end
class EncA (β:Type) where
 e:β->A
instance:EncA Bool:=⟨.bool⟩
instance:EncA Int:=⟨.int .i64⟩
inductive Lz:{α:Type}->Option α->Prop
 |c {α:Type} {b:Bool} {x y:Option α}:Lz (bif b then x else y)
 |b {α β:Type} {x:Option α} {f:α->Option β}:Lz (x.bind f)
inductive FOs where
 |mk (l:List Operand)
def oS:AA (Nat×Operand)->FOs
 |[]=>.mk []
 |(_,x)::r=>match oS r with
  |.mk l=>.mk (x::l)
def litX(o:AM):AB (Nat×Nat×AA Operand):=match o.op with
 |.buildSlice T n ⟨ps⟩=>match oS ps with
  |.mk l=>AC (T,n,l)
 |_=>AF
theorem nP{all:Array AM}{o:AM}{e k n d:Nat}{xs:AA Operand}(hq:litX o=AC (T,n,xs))(E:ElemTy P T e k)(ho:o.op=.buildSlice T n (M_ 0 xs).toArray)(hn:xs.length=n)(hsz:Nat.ble (n*(k+1)) 16777216=AE)
  (hk:(xs.all λx=>Yn (CP env x))=AE)(hes:Q6 env xs=es)(h4:allK k es)(hp:es.flatten.all Yu=AE)(hdt:YK es.flatten=AE)(hg:Yg all o env=AC AE)(hd:o.dst=AC d)(hN:Nat.blt d N=AE)(hh:Nat.ble h0 H.length=AE)
  (g:WO P h0 N all l (up env d (.osl H.length 0 n k)) (H++[.row e k es]) Q):WO P h0 N all (o::l) env H Q:=vH (E_.lit E ho hn hsz hk hes h4 hp hdt) g (Qx hg) hd hN hh
theorem LnS{all:Array AM}{o:AM}{d:Nat}{s:AA UInt8}(q:R9 o env=AC (d,t,.mk (.str s)))(f:∀w,(underlying t).run P w=.ok .string w)(hg:Yg all o env=AC AE)(j:Nat.blt d N=AE)(g:WO P h0 N all l (up env d (.int .i64 s.length)) H Q):WO P h0 N all (o::l) env H Q:=by
 obtain⟨x,y,m,h⟩:=pW q;exact vV (tI m rfl f (Q2 h)) g (Qx hg) y j
theorem kH{m:Nat}{r:AA AM}{ds:AA Nat}{K:AA AM->Env->Qc->Prop}{xs:AA A}(h:DS P N m l ds env H K r xs):DS P N m l ds env H K r xs:=h
theorem DsI{m:Nat}{r:AA AM}{o:AM}{ds:AA Nat}{K:AA AM->Env->Qc->Prop}{α:Type}{b:Bool}{x y:AB α}{v:α}{xs xt xf:AA A}{j:Nat}{c:Bool}(hj:o.guard=AC (j,c))(hs:YJ xs j=AC (.bool b))(h:(bif b then x else y)=AC v)(ht:Nn xs j (.bool AE)=.mk xt)(hf:Nn xs j (.bool AD)=.mk xf)
  (t:b=AE->x=AC v->DS P N m l ds env H K (o::r) xt)(e:b=AD->y=AC v->DS P N m l ds env H K (o::r) xf):DS P N m l ds env H K (o::r) xs:=DS.is j h hs ht hf t e
theorem Ug{id:Nat}(g:WO P h0 N ⟨l⟩ l env H Q):TC P h0 N (.region id ⟨l⟩ AD) env H Q:=TC.region g
def gX:Cf->AA Kf->AB (Cf×AA Kf)
 |.code (.block _ (.loop _)),_=>AF
 |.code (.seq a b),k=>AC (.code a,.seq b::k)
 |.code (.block id c),k=>AC (.code c,.blo id::k)
 |.code .skip,k=>AC (.out .normal,k)
 |.code .ret,k=>AC (.out .ret,k)
 |.code (.exit id),k=>AC (.out (.exit id),k)
 |.ops _ [],k=>AC (.out .normal,k)
 |.out .normal,.seq c::k=>AC (.code c,k)
 |.out (.exit i),.seq _::k=>AC (.out (.exit i),k)
 |.out .ret,.seq _::k=>AC (.out .ret,k)
 |.out .normal,.blo _::k=>AC (.out .normal,k)
 |.out (.exit i),.blo id::k=>match Nat.beq i id with
  |true=>AC (.out .normal,k)
  |false=>AC (.out (.exit i),k)
 |.out .ret,.blo _::k=>AC (.out .ret,k)
 |_,_=>AF
def NT:Nat->Cf->AA Kf->Cf×AA Kf
 |0,c,k=>(c,k)
 |n+1,c,k=>match gX c k with
  |some (c',k')=>NT n c' k'
  |none=>(c,k)
def ZS(c:Cf)(k:AA Kf):AB (Cf×AA Kf):=match gX c k with
 |some (c',k')=>AC (NT 100 c' k')
 |none=>AF
variable {c':Cf}{k':AA Kf}
section
variable {P:AK} {h0 N:Nat} {Q:Qy} {env:Env} {H:Qc}
theorem rZ{c f:Cf}{k d:AA Kf}(h:gX c k=AC (f,d))(g:Hd P h0 N f d env H Q):Hd P h0 N c k env H Q:=by
 unfold gX at h;split at h
 .cases h
 .cases h;exact TC.seq g
 .cases h;exact TC.block g
 .cases h;exact TC.skip g
 .cases h;exact TC.ret g
 .cases h;exact TC.exit g
 .cases h;exact WO.nil g
 .cases h;exact aI g
 .cases h;exact aG g
 .cases h;exact aH g
 .cases h;exact c8 g
 .split at h
  .rename_i q;cases h;have:=XP q;subst this;exact c9 g
  .rename_i q;cases h;exact c6 q g
 .cases h;exact c7 g
 .cases h
theorem qZ:∀(n:Nat) {c c':Cf} {k k':AA Kf},NT n c k=(c',k')->Hd P h0 N c' k' env H Q->Hd P h0 N c k env H Q
 |0,c,c',k,k',h,g=>by cases h;exact g
 |n+1,c,c',k,k',h,g=>by
  unfold NT at h;split at h
  .rename_i e;exact rZ e (qZ n h g)
  .cases h;exact g
theorem ic{c f:Cf}{k d:AA Kf}(h:ZS c k=AC (f,d))(g:Hd P h0 N f d env H Q):Hd P h0 N c k env H Q:=by
 unfold ZS at h;split at h
 .rename_i e;exact rZ e (qZ 100 (XY h) g)
 .cases h
theorem Uc{k:AA Kf}{c:Code}(h:ZS (.code c) k=AC (c',k'))(g:Hd P h0 N c' k' env H Q):TC P h0 N c env H (kq P h0 N k Q):=ic h g
theorem U0{c:Code}(h:ZS (.code c) []=AC (c',k'))(g:Hd P h0 N c' k' env H Q):TC P h0 N c env H Q:=ic (k:=[]) h g
theorem Ux{k:AA Kf}{x:LZ}(h:ZS (.out x) k=AC (c',k'))(g:Hd P h0 N c' k' env H Q):kq P h0 N k Q x env H:=ic h g
theorem Uo{k:AA Kf}{all:Array AM}(h:ZS (.ops all l) k=AC (c',k'))(g:Hd P h0 N c' k' env H Q):WO P h0 N all l env H (kq P h0 N k Q):=ic h g
end
abbrev Ea:=@Ev.bind
abbrev Ec:=@Dg.keep
abbrev Ed:=@CN.cons
abbrev Ee:=@TC.le
abbrev Ef:=@PL.cons
abbrev Eg:=@DS.done
abbrev Eh:=@Ev.and
abbrev Ei:=@Dc.done
abbrev Ej:=@CN.refl
abbrev Ek:=@E_.lit
abbrev El:=@RF.cons
abbrev Em:=@RF.c1
abbrev En:=@Le.trans
abbrev Eo:=@ZR.int
abbrev Ep:=@DO.o
abbrev Er:=@Le.phantom
abbrev Et:=@WO.le
abbrev Eu:=@Ev.eq
abbrev Ew:=@Dc.cont
abbrev Ex:=@DK.op
abbrev Ey:=@I6.store
abbrev Ez:=@CS.load
abbrev EA:=@Ev.const
theorem Zf.{u,v}{α:Sort u}{β:Sort v}{f:α->β}:∀x,f x=f x:=λ_=>rfl
abbrev Ze.{u,v}{α:Sort u}{β:Type v}:α->AA β:=λ_=>[]
end
end Go.Sw
