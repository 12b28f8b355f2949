/- The rules by which the code is walked, with what they rest on (part 3). -/
import Derived.Test.YthihlfoplokmiaaGreatDoorL2
import Derived.Laws.BytesString
set_option linter.unusedVariables false
set_option linter.unusedSectionVars false
set_option linter.unusedSimpArgs false
namespace Go.Sw
def QcE:Option Blk->Bool
 |some .dead=>true
 |_=>false
def Qaw(hB hE:Nat)(H H':Qc):Bool:=(List.range (hE-hB)).all λp=> !QcE H'[hB+p]? ||QcE H[hB+p]?
def Qk7(hB hE:Nat)(σ:Sig)(H:Qc):Prop:=∀p,hB<=p->p<hE->QcE H[p]?=true->σ[p]?=some none
theorem QlI{hB hE:Nat}{H H':Qc}(h:Qaw hB hE H H'=true){p:Nat}(d:hB<=p)(b:p<hE)(a:QcE H'[p]?=true):QcE H[p]?=true:=by
 have:=Xu.1 h (p-hB) (List.mem_range.2 (by omega));rw[show hB+(p-hB)=p by omega,a]at this;simpa using this
theorem Sim.allocAt{fr ro:Nat->Prop}{σ:Sig}{H:Qc}{w:World}(s:Sim fr ro σ H w){p:Nat}(L:σ[p]?=some none){obj:Obj}{x:Blk}
  (P:BR ro (σ.set p (some w.heap.size)) (w.alloc obj) x (some w.heap.size))
  (E:∀c,Hid (w.alloc obj) x w.heap.size c->False:=by exact λ_ h=>h.elim):Sim fr ro (σ.set p (some w.heap.size)) (H.set p x) (w.alloc obj):=by
 have ev:Qe fr ro w ro (w.alloc obj):=Qe.alloc obj s.roLt s.frLt;have u:=s.len;have F:p<σ.length:=(XN.1 L).1;have t:Ext ro σ w ro (σ.set p (some w.heap.size)) (w.alloc obj):=⟨ev.sub,ev.keepRo,ev.shape,λi b q=>by
  rw[XR (λz=>by subst z;rw[L]at q;cases q)];exact q⟩
 have e:∀(i:Nat) (y:Option Nat),(σ.set p (some w.heap.size))[i]?=some y->(i≠p/\σ[i]?=some y)\/(i=p/\y=some w.heap.size):=by
  intro i y h;by_cases q:i=p
  .subst q;rw[Xa F]at h;exact .inr ⟨rfl,(X2 h).symm⟩
  .rw[XR (λz=>q z.symm)]at h;exact .inl ⟨q,h⟩
 have m:∀i:Nat,i≠p->(H.set p x)[i]?=H[i]? :=λi O=>XR (λz=>O z.symm);have M:(H.set p x)[p]?=some x:=Xa (by omega);refine⟨by simp[u],s.roOk.to (λ_ q=>q) ev.keepRo (λb h=>?_),λb h=>?_,s.roFr,?_,?_,?_,s.hidTo (· = ·) QY (by rw[Ye];omega) (λ_ _ _ _ _ _ _ q=>q) (λ_ _ _ _ _ _ _ q=>q) λj d y l k Q=>?_⟩
 rotate_left 5
 .rcases e j _ l with⟨q,l⟩|⟨rfl,n⟩
  .rw[m j q]at k;exact .inl ⟨j,y,rfl,l,k,id,λc q=>s.hidKeep l k (λz=>Yj w obj d (s.own j d y l k z).1) ev.keepRo q⟩
  .rw[M]at k;cases k;cases n;exact .inr ⟨XV _,E⟩
 .rw[Ye];have:=s.roLt b h;omega
 .rw[Ye];have:=s.frLt b h;omega
 .intro i b y g f r;rw[Ye];rcases e i _ g with⟨q,g⟩|⟨rfl,n⟩
  .rw[m i q]at f;obtain⟨a,b,c⟩:=s.own i b y g f r;exact⟨by omega,b,c⟩
  .cases n;exact⟨by omega,λq=>by have:=s.roLt _ q;omega,λq=>by have:=s.frLt _ q;omega⟩
 .intro i j b y z g f r B G J;rcases e i _ g with⟨q,l⟩|⟨N,n⟩<;>rcases e j _ f with⟨q',k⟩|⟨ej,e2⟩
  .rw[m i q]at r;rw[m j q']at B;exact s.inj i j b y z l k r B G J
  .cases e2;rw[m i q]at r;have:=(s.own i _ y l r G).1;omega
  .cases n;rw[m j q']at B;have:=(s.own j _ z k B J).1;omega
  .rw[N,ej]
 .intro i y z g f;rcases e i _ g with⟨q,g⟩|⟨rfl,n⟩
  .rw[m i q]at f;refine(s.blk i y z g f).keep t ?_ ?_
   .rintro b rfl u;exact Yj w obj b (s.own i b z g f u).1
   .rintro b c rfl u;exact Yj w obj c (s.hid i b z c g f u).lt
  .rw[M]at f;cases f;subst n;exact P
def OpZ(P:Program)(o:Oper)(t:Nat)(cs:List A):Prop:=
 ∀(ro:Nat->Prop) (σ:Sig) (w:World) (a:Act),∃l:List Value,(execOp a.eval o).run P w=.ok (.value (.pointer (some ⟨w.heap.size,0,none⟩))) (w.alloc (.cells l.toArray t))/\LR ro σ w cs l/\ ∀v∈l,Qn v
theorem OpZ.alloc{P:Program}{o:Oper}{t:Nat}{z:Value}{v:A}{cs:List A}(d:∀w,(zeroValue t).run P w=.ok z w)(i:ZR v z)(h:o.op=.alloc t:=by exact rfl)(hk:Yh v=true:=by exact rfl)(hcs:Yt v=cs:=by exact rfl)(hpl:cs.all Yz=true:=by exact rfl):
  OpZ P o t cs:=by
 intro f σ w a;obtain⟨l,g,b⟩:=(i f σ w).cells hk;subst hcs;refine⟨l,?_,b,b.plain hpl⟩;generalize a.eval=ρ at*;have e:(newVar t z).run P w=.ok ⟨w.heap.size,0,none⟩ (w.alloc (.cells l.toArray t)):=by
  unfold newVar;rw[g];rfl
 simp only[execOp,h,Instr.alloc,Vp,d,Result.andThen,e];rfl
theorem QcX{P:Program}{l:List Oper}{i:Nat}{o:Oper}{rd:Option Nat}{R:Exit->Act->World->Prop}{Q:Exit->Act->World->Prop}{K:Act->World->Prop}{a:Act}{w:World}
  (E:l[i]?=some o)(g:wpL P rd l.toArray R [o] a w)(j:∀e a' w',R e a' w'->e=.normal/\a'.defers=a.defers)(k:∀v w',R .normal (a.put o.dst v) w'->K (a.put o.dst v) w'):
  wpOpIn (WF rd) 0 P l.toArray Q i K a w:=by
 unfold wpOpIn;have t:l.toArray[i]?=some o:=by simpa using E
 rw[t];simp only;unfold wpL wpListIn at g;split at g
 .rename_i p;rw[Vv p];obtain⟨h,g⟩:=g;refine⟨h,?_⟩;have d:=Qmk (by
   intro a' w' q;unfold wpListIn at q;exact(j _ _ _ q).2) g
  generalize(o.semAt (WF rd).round a.eval).run P w=res at*;cases res with
  |ok n w'=>
   cases n with
   |value v=>exact k _ _ d.1
   |skip=>exact k _ _ d.1
   |defer F=>
    exfalso;have:=(j _ _ _ d.1).2;have:=congrArg List.length this
    revert this
    cases o.dst<;>simp[Act.put]
   |enter f m=>
    refine⟨d.1,CallsIn.mono d.2 (λe s b=>?_)⟩;cases e with
    |returned v=>exact k _ _ b.1
    |panicked c=>have:=(j _ _ _ b).1;cases this
    |outgrown=>obtain⟨z,B,b⟩:=b;have:=(j _ _ _ b).1;cases this
   |row r m=>
    exact⟨d.1,RowsIn.mono d.2 (λ_ _ b=>k _ _ b.1)⟩
   |round l f y assign u=>
    refine⟨d.1,RoundIn.mono d.2 (λe s b=>?_)⟩;cases e with
    |returned v=>exact k _ _ b.1
    |panicked c=>have:=(j _ _ _ b).1;cases this
    |outgrown=>obtain⟨z,B,b⟩:=b;have:=(j _ _ _ b).1;cases this
   |_=>exact d.elim
  |halt x w'=>
   cases x with
   |panic v=>have:=(j _ _ _ d).1;cases this
   |_=>exact d.elim
 .rename_i p;rw[Vu p];obtain⟨h,g⟩:=g;refine⟨h,?_⟩;unfold wpListIn at g;exact k _ _ g
theorem QlH{P:Program}{l:List Oper}{m:Nat}(r:∀i o,l[i]?=some o->∀j∈Qg o,j<i)(g:∀i o,m<i->l[i]?=some o->i-1∈Qg o){Q:Exit->Act->World->Prop}{rd:Option Nat}:
  ∀(b t:Nat) (L:Array Bool) (a:Act) (w:World),L.size=l.length->(∀i,i<l.length->(onL L i↔i<t))->unl L<=b->m<=t->t<=l.length->
   wpL P rd l.toArray Q (l.drop t) a w->wpAnyIn (WF rd) 0 P .any l.toArray Q b L a w:=by
 intro b
 induction b with
 |zero=>
  intro t L a w hsz hL hf hm ht h;have:t=l.length:=by
   rcases VE t l.length with q|q
   .have:=Qkw (L:=L) (i:=t) (by omega) (λz=>by have:=(hL t q).1 z;omega);omega
   .omega
  subst this;refine⟨List.eq_nil_iff_forall_not_mem.2 λi p=>?_,?_⟩
  .obtain⟨o,f,k,_⟩:=(QaK hsz).1 p;have d:=(XN.1 f).1;exact k ((hL i d).2 d)
  .rw[Xt]at h;exact h
 |succ b H=>
  intro t L a w hsz hL hf hm ht h;have u:∀i o,l[i]?=some o->¬onL L i->(∀j∈Qg o,onL L j)->i=t:=by
   intro i o f k x;have d:=(XN.1 f).1;have G:t<=i:=by
    rcases VE i t with q|q
    .exact absurd ((hL i d).2 q) k
    .exact q
   rcases VE t i with q|q
   .have:=(hL (i-1) (by omega)).1 (x _ (g i o (by omega) f));omega
   .omega
  rcases VE t l.length with e|e
  .have B:l[t]?=some l[t]:=XM e;have n:¬onL L t:=λq=>by have:=(hL t e).1 q;omega
   have E:t∈Region.ready .any l.toArray L:=by
    refine(QaK hsz).2 ⟨_,B,n,λj s=>?_⟩;have:=r t _ B j s;exact(hL j (by omega)).2 this
   refine⟨λq=>(by rw[q]at E;cases E),λi p=>?_⟩;obtain⟨o,f,k,x⟩:=(QaK hsz).1 p;obtain rfl:=u i o f k x;rw[Xr e]at h;obtain rfl:l[i]=o:=by rw[XM e]at f;exact X2 f
   unfold wpOpIn;rw[show l.toArray[i]?=some l[i]by rw[XI];exact f];simp only;unfold wpL wpListIn at h;have F:∀a w,wpL P rd l.toArray Q (l.drop (i+1)) a w->wpAnyIn (WF rd) 0 P .any l.toArray Q b (L.setIfInBounds i true) a w:=by
    intro a w q;have J:=Qha (L:=L) (i:=i) (by omega) n;refine H (i+1) _ a w (by simpa using hsz) (λj s=>?_) (by omega) (by omega) (by omega) q;rw[JF (by omega),hL j s];omega
   split at h
   .rename_i y;rw[Vv y];exact Oper.wpIn_mono F h
   .rename_i y;rw[Vu y];exact⟨h.1,F _ _ h.2⟩
  .have:t=l.length:=by omega
   subst this;rw[Xt]at h;refine⟨λ_=>h,λi p=>?_⟩;obtain⟨o,f,k,_⟩:=(QaK hsz).1 p;have d:=(XN.1 f).1;exact absurd ((hL i d).2 d) k
def Qn4(af ds:List Nat)(xs:List A)(env0 e:Env):Prop:=
 ∀s,(∃j x,af.contains j=true/\ds[j]?=some s/\xs[j]?=some x/\lk e s=x)\/lk e s=.any\/(ds.contains s=false/\lk e s=lk env0 s)
inductive JJ (P:Program) (N:Nat) (l:List Oper) (ds:List Nat) (xs:List A) (env0:Env) (hB hE:Nat) (i:Nat) (H H':Qc):Prop
 |mk (o:Oper) (e:Env) (d:Nat) (x:A) (ho:l[i]?=some o) (hd:o.dst=some d) (hx:xs[i]?=some x) (hdd:Qaw hB hE H H'=true) (hs:Sb (Qg o) (Qka l i) ds xs env0 e)
   (h:WO P H.length N l.toArray [o] e H (Ja (up e d x) H')):JJ P N l ds xs env0 hB hE i H H'
 |unit (o:Oper) (e:Env) (ho:l[i]?=some o) (hd:o.dst=none) (hx:xs[i]?=some .any) (hdd:Qaw hB hE H H'=true) (hs:Sb (Qg o) (Qka l i) ds xs env0 e)
   (h:WO P H.length N l.toArray [o] e H (Ja e H')):JJ P N l ds xs env0 hB hE i H H'
 |alloc (o:Oper) (d t p:Nat) (cs:List A) (ho:l[i]?=some o) (hd:o.dst=some d) (hg:o.guard=none) (hx:xs[i]?=some (.ptr p 0)) (hp:(Nat.ble hB p&&Nat.blt p hE)=true) (hdead:QcE H[p]?=true)
   (hH:H.set p (.cells t cs)=H') (h:OpZ P o t cs) (hN:Nat.blt d N=true):JJ P N l ds xs env0 hB hE i H H'
 |val (o:Oper) (e:Env) (d:Nat) (x:A) (ho:l[i]?=some o) (hd:o.dst=some d) (hg:o.guard=none) (hx:xs[i]?=some x) (hN:Nat.blt d N=true) (he:Qn4 (Qg o) ds xs env0 e) (h:OpV P o e H x)
   (hH:H=H':=by rfl):JJ P N l ds xs env0 hB hE i H H'
 |woE (o:Oper) (e:Env) (d:Nat) (x:A) (ho:l[i]?=some o) (hd:o.dst=some d) (hx:xs[i]?=some x) (he:Qn4 (Qg o) ds xs env0 e) (hdd:Qaw hB hE H H'=true) (h:WO P H.length N l.toArray [o] e H (Ja (up e d x) H')):JJ P N l ds xs env0 hB hE i H H'
theorem Sb.rel{af f d:List Nat}{xs:List A}{env0 e:Env}{ro:Nat->Prop}{σ:Sig}{w:World}{a:Act}(g:Sb af f d xs env0 e)
  (h:∀j∈af,∀s x,d[j]?=some s->xs[j]?=some x->VR ro σ w x (a.tmps.getD s undef))
  (i:∀s,d.contains s=false->VR ro σ w (lk env0 s) (a.tmps.getD s undef))(hP:∀j s,f.contains j=true->d[j]?=some s->VR ro σ w (lk env0 s) (a.tmps.getD s undef)):
  ∀s,VR ro σ w (lk e s) (a.tmps.getD s undef):=by
 intro s
 induction g with
 |nil=>exact trivial
 | @dep j s1 x1 r h1 h2 h3 _ ih=>
  unfold lk;cases b:Nat.beq s s1 with
  |false=>exact ih
  |true=>
   obtain rfl:=XS b;exact h j (by simpa using h1) _ _ h2 h3
 | @old s1 x1 r h1 h2 _ ih=>
  unfold lk;cases b:Nat.beq s s1 with
  |false=>exact ih
  |true=>
   obtain rfl:=XS b;subst h2;exact i _ h1
 | @pre j s1 x1 r h1 h2 h3 _ ih=>
  unfold lk;cases b:Nat.beq s s1 with
  |false=>exact ih
  |true=>
   obtain rfl:=XS b;subst h3;exact hP j _ h1 h2
structure After (fr ro:Nat->Prop) (σ:Sig) (w:World) (hB hE:Nat) (H':Qc) (xs:List A) (i:Nat) (o:Oper) (a':Act) (w':World) (ro':Nat->Prop) (σ':Sig):Prop where
 val:∀x,xs[i]?=some x->match o.dst with
  |some d=>VR ro' σ' w' x (a'.tmps.getD d undef)
  |none=>x=.any
 sim:Sim fr ro' σ' H' w'
 ev:Qe fr ro w ro' w'
 ext:Ext ro σ w ro' σ' w'
 holes:Qk7 hB hE σ' H'
 take:σ'.take hB=σ.take hB
theorem JJ.use{P:Program}{N:Nat}{l:List Oper}{ds:List Nat}{xs:List A}{env0:Env}{hB hE i:Nat}{H H':Qc}(hb:JJ P N l ds xs env0 hB hE i H H')
  {Q:Exit->Act->World->Prop}{K:Act->World->Prop}{fr ro:Nat->Prop}{σ:Sig}{a:Act}{w:World}{o:Oper}{rd:Option Nat}(M:l[i]?=some o)
  (f:Sim fr ro σ H w)(hN:a.tmps.size=N)(n:Qdq fr a.defers w)(aa:Qew rd fr w)(hh:Qk7 hB hE σ H)(hl:hE<=H.length)(ak:hB<=hE)
  (hD:∀j∈Qg o,∀s x,ds[j]?=some s->xs[j]?=some x->VR ro σ w x (a.tmps.getD s undef))
  (hO:∀s,ds.contains s=false->VR ro σ w (lk env0 s) (a.tmps.getD s undef))(hP:∀j s,(Qka l i).contains j=true->ds[j]?=some s->VR ro σ w (lk env0 s) (a.tmps.getD s undef))
  (hK:∀v w' ro' σ',After fr ro σ w hB hE H' xs i o (a.put o.dst v) w' ro' σ'->K (a.put o.dst v) w'):
  wpOpIn (WF rd) 0 P l.toArray Q i K a w:=by
 have L:∀{e:Env} {H2:Qc} {E:Exit} {u:Act} {w':World},Qb6 H.length fr ro σ w N a.defers (Ja e H2) E u w'->E=.normal/\u.defers=a.defers:=by
  rintro e H2 E u w' ⟨x,_,_,_,_,_,k,⟨rfl,_⟩,_,_,_,B,_⟩;refine⟨?_,B⟩;cases E<;>first|rfl|exact k.elim|cases k
 have ai:∀{σ':Sig} {w':World},Qe fr ro w ro w'->σ'.take H.length=σ.take H.length->True:=λ_ _=>trivial;have J:∀{e:Env} {u:Act} {w':World},Qb6 H.length fr ro σ w N a.defers (Ja e H') .normal u w'->Qaw hB hE H H'=true->
   ∃ro' σ',Sim fr ro' σ' H' w'/\Qe fr ro w ro' w'/\Ext ro σ w ro' σ' w'/\Qk7 hB hE σ' H'/\σ'.take hB=σ.take hB/\ ∀s,VR ro' σ' w' (lk e s) (u.tmps.getD s undef):=by
  rintro e u w' ⟨_,aj,H2,ro',σ',al,_,⟨_,rfl,rfl⟩,r',he,ht,_,ae⟩ m;have hσ:σ'=σ++σ'.drop H.length:=by
   conv=>lhs;rw[<- XA H.length σ']
   rw[ht, <- f.len,Vb]
  refine⟨ro',σ',r'.sim.frMono ae.sub,he,?_,?_,?_,r'.env⟩
  .rw[hσ];exact he.ext σ _
  .intro p k B h3;have:=hh p k B (QlI m k B h3);rw[hσ,XO (by rw[f.len];omega)];exact this
  .rw[hσ];exact Qy (by rw[f.len];omega)
 cases hb with
 |woE r e d x g G T he m h=>
  obtain rfl:r=o:=X2 (g.symm.trans M);have hr:∀s,VR ro σ w (lk e s) (a.tmps.getD s undef):=λs=>by
   rcases he s with⟨j,x,k,B,h3,F⟩|F|⟨k,F⟩
   .rw[F];exact hD j (by simpa using k) s x B h3
   .rw[F];exact trivial
   .rw[F];exact hO s k
  refine QcX M (h rd fr ro σ a w ⟨f,hr,hN,n⟩ aa) (λ_ _ _ q=>L q) (λv w' q=>?_);obtain⟨ro',σ',g1,Y,O,g4,g5,g6⟩:=J q m;refine hK v w' ro' σ' ⟨λy V=>?_,g1,Y,O,g4,g5⟩;obtain rfl:=X2 (T.symm.trans V);have:=g6 d;unfold lk at this;rw[VH]at this;rw[G]at this⊢;exact this
 |mk r e d x g G T m hs h=>
  obtain rfl:r=o:=X2 (g.symm.trans M);refine QcX M (h rd fr ro σ a w ⟨f,hs.rel hD hO hP,hN,n⟩ aa) (λ_ _ _ q=>L q) (λv w' q=>?_);obtain⟨ro',σ',g1,Y,O,g4,g5,g6⟩:=J q m;refine hK v w' ro' σ' ⟨λy V=>?_,g1,Y,O,g4,g5⟩;obtain rfl:=X2 (T.symm.trans V);have:=g6 d;unfold lk at this;rw[VH]at this;rw[G]at this⊢;exact this
 |unit r e g G T m hs h=>
  obtain rfl:r=o:=X2 (g.symm.trans M);refine QcX M (h rd fr ro σ a w ⟨f,hs.rel hD hO hP,hN,n⟩ aa) (λ_ _ _ q=>L q) (λv w' q=>?_);obtain⟨ro',σ',g1,Y,O,g4,g5,g6⟩:=J q m;refine hK v w' ro' σ' ⟨λy V=>?_,g1,Y,O,g4,g5⟩;obtain rfl:=X2 (T.symm.trans V);rw[G]
 |val r e d x g G hg T ac he h hH=>
  obtain rfl:r=o:=X2 (g.symm.trans M);subst hH;have hr:Rel fr ro σ H e N a w:=by
   refine⟨f,λs=>?_,hN,n⟩;rcases he s with⟨j,x,k,B,h3,F⟩|F|⟨k,F⟩
   .rw[F];exact hD j (by simpa using k) s x B h3
   .rw[F];exact trivial
   .rw[F];exact hO s k
  obtain⟨v0,k,B⟩:=h fr ro σ N a w hr;have hw:Region.wanted r (yielded l.toArray a.tmps)=true:=by unfold Region.wanted;rw[hg]
  refine QcX (R:=λE u w'=>E=.normal/\u.defers=a.defers/\u=a.put r.dst v0/\w'=w) M (Qac hw k ?_) (λ_ _ _ q=>⟨q.1,q.2.1⟩) (λv w' q=>?_)
  .unfold wpL wpListIn;refine⟨rfl,?_,rfl,rfl⟩;rw[G];rfl
  .obtain⟨_,_,q1,rfl⟩:=q;refine hK v _ ro σ ⟨λy V=>?_,f,Qe.refl _ _ _,⟨λ_ q=>q,λ_ _=>rfl,λ_ _ q=>q,λ_ _ q=>q⟩,hh,rfl⟩;obtain rfl:=X2 (T.symm.trans V);rw[q1,G];have X:d<a.tmps.size:=by rw[hN];simpa using ac
   show VR ro σ w' x _;simpa[Act.put,Array.getD_eq_getD_getElem?,X]using B
 |alloc r d t p cs g G hg T hp ab hH h ac=>
  obtain rfl:r=o:=X2 (g.symm.trans M);subst hH;simp only[XY]at hp;have ag:=XT hp.1;have ah:p<hE:=by simpa using hp.2
  have hσp:=hh p ag ah ab;obtain⟨lv,k,B,h3⟩:=h ro σ w a;have hw:Region.wanted r (yielded l.toArray a.tmps)=true:=by unfold Region.wanted;rw[hg]
  have ev:Qe fr ro w ro (w.alloc (.cells lv.toArray t)):=Qe.alloc _ f.roLt f.frLt;have af:p<σ.length:=by rw[f.len];omega
  have W:Ext ro σ w ro (σ.set p (some w.heap.size)) (w.alloc (.cells lv.toArray t)):=⟨ev.sub,ev.keepRo,ev.shape,λj b q=>by
   rw[XR (λz=>by subst z;rw[hσp]at q;cases q)];exact q⟩
  refine QcX (R:=λE u w'=>E=.normal/\u.defers=a.defers/\u=a.put r.dst (.pointer (some ⟨w.heap.size,0,none⟩))/\w'=w.alloc (.cells lv.toArray t)) M (Qac hw k ?_) (λ_ _ _ q=>⟨q.1,q.2.1⟩) (λv w' q=>?_)
  .unfold wpL wpListIn;refine⟨rfl,?_,rfl,rfl⟩;rw[G];rfl
  .obtain⟨_,_,q1,rfl⟩:=q;refine hK v _ ro (σ.set p (some w.heap.size)) ⟨λy V=>?_,f.allocAt hσp ⟨lv,Yi _ _,B.mono W,h3⟩,ev,W,λp' g1 Y O=>?_,?_⟩
   .obtain rfl:=X2 (T.symm.trans V);rw[q1,G];have X:d<a.tmps.size:=by rw[hN];simpa using ac
    refine⟨w.heap.size,Xa af,?_⟩;simp[Act.put,Array.getD_eq_getD_getElem?,X]
   .by_cases q:p'=p
    .subst q;rw[Xa (by omega)]at O;cases O
    .rw[XR (λz=>q z.symm)]at O⊢;exact hh p' g1 Y O
   .rw[List.take_set,List.set_eq_of_length_le];rw[Xz];omega
def same(a b:List Nat):Bool:=a.all (b.contains ·)&&b.all (a.contains ·)
theorem Qog{a b:List Nat}(h:same a b=true)(i:Nat):i∈a↔i∈b:=by
 unfold same at h;simp only[XY,Xu,List.contains_iff_mem]at h;exact⟨h.1 i,h.2 i⟩
structure Qn7 (l:List Oper) (m:Nat) (ds:List Nat) (hs:List Bool) (rq ms:List (List Nat)) (pl:List (List (Nat×Nat))) (N:Nat):Prop where
 len:m<=l.length
 dst:∀i o,i<m->l[i]?=some o->(∃d,o.dst=some d/\ds[i]?=some d/\d<N)\/o.dst=none
 dsl:ds.length=m
 nodup:∀(i j d:Nat),ds[i]?=some d->ds[j]?=some d->i=j
 back:∀i o,l[i]?=some o->∀j∈Qg o,j<i
 mid:∀o,l[m]?=some o->∀j,j<m->Qcv l m j
 chain:∀i o,m<i->l[i]?=some o->i-1∈Qg o
 rqs:∀i o,i<m->l[i]?=some o->∀h∈rq.getD i [],h<m/\hs.getD h false=true/\(h∈Qg o\/ ∃j∈Qg o,j<m/\h∈rq.getD j [])
 ms0:ms.getD 0 []=[]
 full:∀st,st<ms.length->st+1=ms.length\/ ∃i,i<m/\hs.getD i false=true/\i∉ms.getD st []
 msh:∀st h,h∈ms.getD st []->h<m/\hs.getD h false=true
 pls:∀i st,i<m->st<ms.length->(∀h∈rq.getD i [],h∈ms.getD st [])->(hs.getD i false=true->i∉ms.getD st [])->(∀h∈ms.getD st [],¬Qcv l h i)->
  ∃st',(st,st')∈pl.getD i []/\st'<ms.length/\if hs.getD i false then∀j,j∈ms.getD st' []↔j=i\/j∈ms.getD st []else st'=st
theorem QkN{α:Type}{l:List α}{i:Nat}{d x:α}(h:l[i]?=some x):l.getD i d=x:=by rw[VN,h];rfl
theorem QiZ{P:Program}{l:List Oper}{m:Nat}{W:List Nat}{hs:List Bool}{rq Y:List (List Nat)}{pl:List (List (Nat×Nat))}{N h0 hB hE:Nat}{xs:List A}{env0:Env}{Hs:List Qc}{Hk:Qc}
  (ok:Qn7 l m W hs rq Y pl N)(aw:xs.length=m)(bc:Hs.length=Y.length)(a9:h0<=hB)(av:hB<=hE)(ba:∀H∈Hs,hE<=H.length)
  (a2:∀i p,i<m->p∈pl.getD i []->JJ P N l W xs env0 hB hE i (Hs.getD p.1 []) (Hs.getD p.2 []))(a3:Hs.getD (Y.length-1) []=Hk)
  {fr ro0:Nat->Prop}{σ0:Sig}{w0:World}{rd:Option Nat}{ds0:List Deferred}{R:Exit->Act->World->Prop}
  (hk:∀ro σ a w,Rel fr ro σ Hk (Qay W xs env0) N a w->Qe fr ro0 w0 ro w->σ.take h0=σ0.take h0->a.defers=ds0->wpL P rd l.toArray R (l.drop m) a w)(al:Qdq fr ds0 w0)(a0:Qew rd fr w0):
  ∀(b:Nat) (L:Array Bool) (a:Act) (w:World) (ro:Nat->Prop) (σ:Sig) (st:Nat),
   L.size=l.length->unl L<=b->(∀i,m<=i->¬onL L i)->st<Y.length->Sim fr ro σ (Hs.getD st []) w->a.tmps.size=N->a.defers=ds0->
   (∀(i d:Nat) (x:A),onL L i->W[i]?=some d->xs[i]?=some x->VR ro σ w x (a.tmps.getD d undef))->(∀s,(∀j,W[j]?=some s->¬onL L j)->VR ro σ w (lk env0 s) (a.tmps.getD s undef))->
   Qe fr ro0 w0 ro w->σ.take h0=σ0.take h0->Qk7 hB hE σ (Hs.getD st [])->
   (∀i,i<m->onL L i->∀h∈rq.getD i [],onL L h)->(∀i,i<m->hs.getD i false=true->(onL L i↔i∈Y.getD st []))->
   (∀i o,onL L i->l[i]?=some o->∀j∈Qg o,onL L j)->
   wpAnyIn (WF rd) 0 P .any l.toArray R b L a w:=by
 have ay:∀st,st<Y.length->hE<=(Hs.getD st []).length:=by
  intro st h;have e:Hs[st]?=some Hs[st]:=XM (by omega);rw[QkN e];exact ba _ (Vf _)
 have fin:∀(b:Nat) (L:Array Bool) (a:Act) (w:World) (ro:Nat->Prop) (σ:Sig) (st:Nat),
   L.size=l.length->unl L<=b->(∀i,m<=i->¬onL L i)->st<Y.length->Sim fr ro σ (Hs.getD st []) w->a.tmps.size=N->a.defers=ds0->
   (∀(i d:Nat) (x:A),onL L i->W[i]?=some d->xs[i]?=some x->VR ro σ w x (a.tmps.getD d undef))->(∀s,(∀j,W[j]?=some s->¬onL L j)->VR ro σ w (lk env0 s) (a.tmps.getD s undef))->
   Qe fr ro0 w0 ro w->σ.take h0=σ0.take h0->
   (∀i,i<m->hs.getD i false=true->(onL L i↔i∈Y.getD st []))->(∀i,i<m->onL L i)->
   wpAnyIn (WF rd) 0 P .any l.toArray R b L a w:=by
  intro b L a w ro σ st hsz hu hsuf hst hsim hN hdef hD hE' hev htk hI2 k;have an:st=Y.length-1:=by
   rcases ok.full st hst with q|⟨i,M,X,h3⟩
   .omega
   .exact absurd ((hI2 i M X).1 (k i M)) h3
  rw[an,a3]at hsim;refine QlH ok.back ok.chain b m L a w hsz (λi hi=>⟨λq=>?_,λq=>k i q⟩) hu (XV _) ok.len ?_
  .rcases VE i m with z|z
   .exact z
   .exact absurd q (hsuf i z)
  .have hr:Rel fr ro σ Hk (Qay W xs env0) N a w:=by
    refine⟨hsim,λs=>?_,hN,by rw[hdef];exact al.keep hev⟩;rcases Qon (env0:=env0) (by rw[ok.dsl,aw]) s with⟨j,x,M,X,h3⟩|⟨M,X⟩
    .rw[h3];have f:j<m:=by have:=(XN.1 M).1;rw[ok.dsl]at this;exact this
     exact hD j s x (k j f) M X
    .rw[X];exact hE' s (λj q=>absurd (VJ q) (by simpa using M))
   exact hk ro σ a w hr hev htk hdef
 intro b
 induction b with
 |zero=>
  intro L a w ro σ st hsz hu hsuf hst hsim hN hdef hD hE' hev htk hho hI1 hI2 hcl;refine fin 0 L a w ro σ st hsz hu hsuf hst hsim hN hdef hD hE' hev htk hI2 (λi hi=>?_);by_cases q:onL L i
  .exact q
  .have:=Qkw (L:=L) (i:=i) (by have:=ok.len;omega) q;omega
 |succ b ih=>
  intro L a w ro σ st hsz hu hsuf hst hsim hN hdef hD hE' hev htk hho hI1 hI2 hcl;by_cases k:∀i,i<m->onL L i
  .exact fin (b+1) L a w ro σ st hsz hu hsuf hst hsim hN hdef hD hE' hev htk hI2 k
  .have a7:∃i,i<m/\ ¬onL L i:=by
    refine Classical.byContradiction λq=>k λi hi=>Classical.byContradiction λz=>q ⟨i,hi,z⟩
   obtain⟨n,hn,am⟩:=a7;obtain⟨i0,M,X,h3⟩:=least (p:=λi=>¬onL L i) (λi=>Classical.em _) n am;have bb:=ok.len;have ao:l[i0]?=some l[i0]:=XM (by omega);have hr:i0∈Region.ready .any l.toArray L:=(QaK hsz).2 ⟨_,ao,X,λj f=>Classical.byContradiction λz=>h3 j (ok.back i0 _ ao j f) z⟩;refine⟨λq=>(by rw[q]at hr;cases hr),λi hi=>?_⟩;obtain⟨o,T,aa,G⟩:=(QaK hsz).1 hi;have u:i<m:=by
    rcases VE i m with q|q
    .exact q
    .exfalso;rcases VE m i with z|z
     .exact hsuf (i-1) (by omega) (G _ (ok.chain i o z T))
     .have:i=m:=by omega
      subst this;have a6:∀j,Qcv l i j->onL L j:=by
       intro j f
       induction f with
       |one r f=>rw[T]at r;cases r;exact G _ f
       |step _ r f ihr=>exact hcl _ _ ihr r _ f
      exact am (a6 n (ok.mid o T n hn))
   have ak:∀h∈rq.getD i [],onL L h:=by
    intro h Q;obtain⟨_,_,q|⟨j,q1,q2,q3⟩⟩:=ok.rqs i o u T h Q
    .exact G h q
    .exact hI1 j q2 (G j q1) h q3
   obtain⟨a4,a1,a5,F⟩:=ok.pls i st u hst (λh Q=>by
    obtain⟨q1,q2,_⟩:=ok.rqs i o u T h Q;exact(hI2 h q1 q2).1 (ak h Q)) (λq z=>aa ((hI2 i u q).2 z)) (λh Q hR=>by
    obtain⟨q1,q2⟩:=ok.msh st h Q;have ax:onL L h:=(hI2 h q1 q2).2 Q;have ai:∀j,Qcv l h j->onL L j:=by
     intro j f
     induction f with
     |one r f=>exact hcl _ _ ax r _ f
     |step _ r f ihr=>exact hcl _ _ ihr r _ f
    exact aa (ai i hR))
   have hb:=a2 i _ u a1;refine hb.use T hsim hN (by rw[hdef];exact al.keep hev) (a0.to hev λ_ q=>q) hho (ay st hst) av (λj f s x q1 q2=>hD j s x (G j f) q1 q2) (λs M=>hE' s (λj q=>absurd (VJ q) (by simpa using M))) (λj s M X=>hE' s (λj' q q'=>?_)) ?_
   .obtain rfl:=ok.nodup j' j s q X;have f:=Xe.1 (List.contains_iff_mem.1 M);cases ag:l[j']? with
    |none=>rw[ag]at f;simp at f
    |some oj=>
     rw[ag]at f;exact aa (hcl j' oj q' ag i (by simpa using f.2))
   intro v w' ar σ' af;have ac:=af.ext;have ab:∀s,(∀d,o.dst=some d->s≠d)->(a.put o.dst v).tmps.getD s undef=a.tmps.getD s undef:=by
    intro s az;cases V:o.dst with
    |none=>rfl
    |some d=>
     simp only[Act.put,Array.getD_eq_getD_getElem?,Vg];rw[Vu (λq=>az d V q.symm)]
   have ae:(a.put o.dst v).tmps.size=N:=by
    cases V:o.dst with
    |none=>simpa[Act.put]using hN
    |some d=>simpa[Act.put]using hN
   have a8:(a.put o.dst v).defers=ds0:=by
    cases V:o.dst with
    |none=>simpa[Act.put]using hdef
    |some d=>simpa[Act.put]using hdef
   have bd:=Qha (L:=L) (i:=i) (by omega) aa;have t:i<L.size:=by omega
   have au:∀s j,W[j]?=some s->j≠i->∀d,o.dst=some d->s≠d:=by
    intro s j f B d V q;subst q;rcases ok.dst i o u T with⟨d',g,O,ah⟩|g
    .rw[V]at g;cases g;exact B (ok.nodup j i _ f O)
    .rw[V]at g;cases g
   refine ih _ _ w' ar σ' a4 (by simpa using hsz) (by omega) (λj f q=>?_) a5 af.sim ae a8 ?_ ?_ (hev.trans af.ev) ?_ af.holes ?_ ?_ ?_
   .rcases(JF t).1 q with z|z
    .omega
    .exact hsuf j f z
   .intro j s y f J hy;by_cases B:j=i
    .subst B;have hv:=af.val y hy;rcases ok.dst j o u T with⟨d',g,O,ah⟩|g
     .obtain rfl:s=d':=X2 (J.symm.trans O);simp only[g]at hv⊢;exact hv
     .simp only[g]at hv;subst hv;exact trivial
    .rw[ab s (au s j J B)];rcases(JF t).1 f with z|z
     .exact absurd z B
     .exact(hD j s y z J hy).mono ac
   .intro s J;have aq:∀d,o.dst=some d->s≠d:=by
     rintro d V rfl;rcases ok.dst i o u T with⟨d',g,O,ah⟩|g
     .rw[V]at g;cases g;exact J i O ((JF t).2 (.inl rfl))
     .rw[V]at g;cases g
    rw[ab s aq];exact(hE' s (λj q z=>J j q ((JF t).2 (.inr z)))).mono ac
   .rw[<- htk];have:=congrArg (List.take h0) af.take;rw[List.take_take,List.take_take,XC a9]at this;exact this
   .intro j f E h Q;refine(JF t).2 (.inr ?_);rcases(JF t).1 E with z|z
    .subst z;exact ak h Q
    .exact hI1 j f z h Q
   .intro j f E;rw[JF t];cases q:hs.getD i false with
    |false=>
     have B:j≠i:=by rintro rfl;rw[q]at E;cases E
     rw[q]at F;simp only[Xj,if_false]at F;simp only[B,false_or];rw[F];exact hI2 j f E
    |true=>
     rw[q]at F;simp only[if_true]at F;rw[F j,hI2 j f E]
   .intro j o' f r j' aj;rcases(JF t).1 f with z|z
    .subst z;rw[T]at r;cases r;exact(JF t).2 (.inr (G _ aj))
    .exact(JF t).2 (.inr (hcl j o' z r j' aj))
def Qed.dstB(N:Nat):Nat->List Oper->List Nat->Bool
 |_,_,[]=>true
 |i,o::r,d::ds=>(match o.dst with|some d'=>Nat.beq d' d&&Nat.blt d N|none=>true)&&Qed.dstB N (i+1) r ds
 |_,[],_::_=>false
def Qed.rqB(m:Nat)(hs:List Bool)(rq:List (List Nat)):Nat->List Oper->Bool
 |_,[]=>true
 |i,o::r=>(rq.getD i []).all (λh=>Nat.blt h m&&hs.getD h false&&((Qg o).contains h||(Qg o).any λj=>Nat.blt j m&&(rq.getD j []).contains h))&&Qed.rqB m hs rq (i+1) r
def QjJ(l:List Oper)(h:Nat):List Nat:=match l[h]? with
 |some o=>Qe1 l h (Qg o)
 |none=>[]
theorem Qlk{l:List Oper}{h j:Nat}(q:j∈QjJ l h):Qcv l h j:=by
 unfold QjJ at q;cases a:l[h]? with
 |none=>rw[a]at q;cases q
 |some o=>rw[a]at q;exact Qb9 h (Qg o) (λi b=>.one a b) j q
def Qed.plB(l:List Oper)(m:Nat)(hs:List Bool)(rq ms:List (List Nat))(pl:List (List (Nat×Nat))):Bool:=
 (List.range m).all λi=>(List.range ms.length).all λst=>((ms.getD st []).any λh=>(QjJ l h).contains i)|| !(rq.getD i []).all ((ms.getD st []).contains ·)||(hs.getD i false&&(ms.getD st []).contains i)||
  (pl.getD i []).any λp=>Nat.beq p.1 st&&Nat.blt p.2 ms.length&&(bif hs.getD i false then same (ms.getD p.2 []) (i::ms.getD st [])else Nat.beq p.2 st)
def Qed(l:List Oper)(m N:Nat)(ds:List Nat)(hs:List Bool)(rq ms:List (List Nat))(pl:List (List (Nat×Nat))):Bool:=
 Nat.ble m l.length&&(ds.length==m)&&Qed.dstB N 0 l ds&&drawChk.nodupB ds&&drawChk.goB l m 0 l&&Qed.rqB m hs rq 0 l&&(ms.getD 0 []).isEmpty&&Nat.blt 0 ms.length
 &&((List.range ms.length).all λst=>Nat.beq (st+1) ms.length||(List.range m).any λi=>hs.getD i false&& !(ms.getD st []).contains i)&&Qed.plB l m hs rq ms pl&&(List.range ms.length).all λst=>(ms.getD st []).all λh=>Nat.blt h m&&hs.getD h false
theorem QgP{N:Nat}:∀(l:List Oper) (a:List Nat) (b:Nat),Qed.dstB N b l a=true->∀(i d:Nat) (o:Oper),l[i]?=some o->a[i]?=some d->
  (o.dst=some d/\d<N)\/o.dst=none:=by
 intro l
 induction l with
 |nil=>intro a b h i d o f;simp at f
 |cons x r k=>
  intro a b h i d o f g;cases a with
  |nil=>simp at g
  |cons y a=>
   simp only[Qed.dstB,XY]at h;cases i with
   |zero=>
    simp at f g;subst f;subst g;have h:=h.1;split at h
    .rename_i m j;simp only[XY]at h;have e:=XS h.1;subst e;exact .inl ⟨j,by simpa using h.2⟩
    .rename_i j;exact .inr j
   |succ i=>
    have:=k a (b+1) h.2 i d o (by simpa using f) (by simpa using g);exact this
theorem Qmx{m:Nat}{e:List Bool}{d:List (List Nat)}:∀(l:List Oper) (b:Nat),Qed.rqB m e d b l=true->∀(i:Nat) (o:Oper),l[i]?=some o->
  ∀h∈d.getD (b+i) [],h<m/\e.getD h false=true/\(h∈Qg o\/ ∃j∈Qg o,j<m/\h∈d.getD j []):=by
 intro l
 induction l with
 |nil=>intro b h i o a;simp at a
 |cons x r u=>
  intro b h i o a;simp only[Qed.rqB,XY]at h;cases i with
  |zero=>
   simp at a;subst a;intro k t;have:=Xu.1 h.1 k (by simpa using t);simp only[XY,Bool.or_eq_true,List.contains_iff_mem,Xv]at this;obtain⟨⟨w,s⟩,n⟩:=this;refine⟨by simpa using w,s,?_⟩;rcases n with q|⟨j,f,p,g⟩
   .exact .inl q
   .exact .inr ⟨j,f,by simpa using p,g⟩
  |succ i=>
   have:=u (b+1) h.2 i o (by simpa using a);rw[show b+1+i=b+(i+1)by omega]at this;exact this
theorem Qns{l:List Oper}{m N:Nat}{t:List Nat}{x:List Bool}{G r:List (List Nat)}{H:List (List (Nat×Nat))}(h:Qed l m N t x G r H=true):
  Qn7 l m t x G r H N/\0<r.length:=by
 unfold Qed at h;simp only[XY]at h;obtain⟨⟨⟨⟨⟨⟨⟨⟨⟨⟨h1,P⟩,W⟩,J⟩,T⟩,Y⟩,Q⟩,V⟩,X⟩,E⟩,F⟩:=h;have B:m<=l.length:=XT h1;have y:t.length=m:=by simpa using P
 have g:=Qiu l 0 T;refine⟨⟨B,λi o s b=>?_,y,Qd3 J,λi o b=>by have:=(g i o b).1;simpa using this,λo b j R=>Qb9 m (Qg o) (λi s=>.one b s) j ((g m o b).2.1 (by omega) j R),
  λi o s b=>by have:=(g i o b).2.2 (by omega);simpa using this,λi o s b h d=>by have:=Qmx l 0 Y i o b h (by simpa using d);exact this,
  by simpa using Q,λk a=>?_,λk h d=>?_,λi k s a hr L O=>?_⟩,by simpa using V⟩
 .have u:t[i]?=some t[i]:=XM (by omega);rcases QgP l t 0 W i _ o b u with⟨n,w⟩|n
  .exact .inl ⟨_,n,u,w⟩
  .exact .inr n
 .have:=Xu.1 X k (List.mem_range.2 a);simp only[Bool.or_eq_true,Xv,XY,Bool.not_eq_true']at this;rcases this with q|⟨i,n,w,f⟩
  .exact .inl (XS q)
  .exact .inr ⟨i,List.mem_range.1 n,w,λz=>by rw[List.contains_iff_mem.2 z]at f;cases f⟩
 .have a:k<r.length:=by
   rcases VE k r.length with q|q
   .exact q
   .rw[VN,XQ q]at d;cases d
  have:=Xu.1 (Xu.1 F k (List.mem_range.2 a)) h d;simp only[XY]at this;exact⟨by simpa using this.1,this.2⟩
 .have:=Xu.1 (Xu.1 E i (List.mem_range.2 s)) k (List.mem_range.2 a);simp only[Bool.or_eq_true,Bool.not_eq_true']at this;rcases this with((q|q)|q)|q
  .exfalso;obtain⟨h,d,q⟩:=Xv.1 q;exact O h d (Qlk (List.contains_iff_mem.1 q))
  .exfalso;have:((G.getD i []).all ((r.getD k []).contains ·))=true:=Xu.2 λh d=>List.contains_iff_mem.2 (hr h d);rw[this]at q;cases q
  .simp only[XY]at q;exact absurd (List.contains_iff_mem.1 q.2) (L q.1)
  .obtain⟨p,M,q⟩:=Xv.1 q;simp only[XY]at q;obtain⟨⟨n,w⟩,f⟩:=q;have e:=XS n;refine⟨p.2,by rw[<- e];exact M,by simpa using w,?_⟩;cases z:x.getD i false with
   |true=>
    rw[z]at f;simp only[Vr]at f;simp only[if_true];intro j;rw[Qog f j,X8]
   |false=>
    rw[z]at f;simp only[Vs]at f;simp only[Xj,if_false];exact XS f
inductive QhU (P:Program) (N:Nat) (l:List Oper) (ds:List Nat) (xs:List A) (env0:Env) (hB hE:Nat):Nat->List (List (Qc×Qc))->Prop
 |nil {i:Nat}:QhU P N l ds xs env0 hB hE i []
 |cons {i:Nat} {s:List (Qc×Qc)} {r:List (List (Qc×Qc))} (h:∀p∈s,JJ P N l ds xs env0 hB hE i p.1 p.2) (k:QhU P N l ds xs env0 hB hE (i+1) r):QhU P N l ds xs env0 hB hE i (s::r)
theorem QhU.get{P:Program}{N:Nat}{l:List Oper}{d:List Nat}{xs:List A}{env0:Env}{hB hE b:Nat}{e:List (List (Qc×Qc))}(h:QhU P N l d xs env0 hB hE b e):
  ∀(i:Nat) (s:List (Qc×Qc)),e[i]?=some s->∀p∈s,JJ P N l d xs env0 hB hE (b+i) p.1 p.2:=by
 induction h with
 |nil=>intro i s h;simp at h
 | @cons b s0 r h _ ih=>
  intro i s a;cases i with
  |zero=>simp at a;subst a;exact h
  |succ i=>
   have:=ih i s (by simpa using a);rw[show b+1+i=b+(i+1)by omega]at this;exact this
theorem Ya{P:Program}{N:Nat}{l:List Oper}{a:List Nat}{xs:List A}{env0:Env}{hB hE i:Nat}:∀p∈([]:List (Qc×Qc)),JJ P N l a xs env0 hB hE i p.1 p.2:=by
 intro p b;cases b
theorem Qf{P:Program}{N:Nat}{l:List Oper}{a:List Nat}{xs:List A}{env0:Env}{hB hE i:Nat}{H H':Qc}{r:List (Qc×Qc)}(h:JJ P N l a xs env0 hB hE i H H')
  (k:∀p∈r,JJ P N l a xs env0 hB hE i p.1 p.2):∀p∈(H,H')::r,JJ P N l a xs env0 hB hE i p.1 p.2:=by
 intro p b;rcases X8.1 b with rfl|q
 .exact h
 .exact k p q
theorem Qhg{P:Program}{h0 N:Nat}{id:Nat}{l:List Oper}{env:Env}{H:Qc}{fr ro:Nat->Prop}{σ:Sig}{a:Act}{w:World}{rd:Option Nat}{R:Exit->Act->World->Prop}(m c:Nat)(ds:List Nat)(hs:List Bool)(rq ms:List (List Nat))(M:List (List (Nat×Nat)))(xs:List A)(Hs:List Qc)(Hk:Qc)
  (hm:P.follows .mixedOrders=true)(hc:Qed l m N ds hs rq ms M=true)(T:Nat.beq xs.length m=true)(ae:Nat.beq Hs.length ms.length=true)(ab:Nat.ble h0 H.length=true)
  (hh:Hs.all (λX=>Nat.ble (H.length+c) X.length)=true)(af:Hs[0]?=some (H++List.replicate c .dead))(W:Hs.getD (ms.length-1) []=Hk)
  (ac:QhU P N l ds xs env H.length (H.length+c) 0 (M.map λq=>q.map λp=>(Hs.getD p.1 [],Hs.getD p.2 [])))(Y:Nat.beq M.length m=true)
  (r:Rel fr ro σ H env N a w)(aa:Qew rd fr w)
  (hk:∀ro' σ' a' w',Rel fr ro' σ' Hk (Qay ds xs env) N a' w'->Qe fr ro w ro' w'->σ'.take h0=σ.take h0->a'.defers=a.defers->wpL P rd l.toArray R (l.drop m) a' w'):(Code.region id l.toArray true).wpIn (WF rd) 0 P R a w:=by
 obtain⟨ok,G⟩:=Qns hc;have F:=XS T;have O:=XS ae;have ag:=XS Y;have J:Qe fr ro w ro {w with drawn:=w.drawn+1}:=⟨λ_ q=>q,λ_ _=>rfl,λ_ _=>rfl,XV _,λ_ _ q=>q,rfl,rfl,rfl,Nat.le_succ _⟩;have u:Ext ro σ w ro (σ++List.replicate c none) {w with drawn:=w.drawn+1}:=J.ext σ _;have V:=r.sim.len;have L:Hs.getD 0 []=H++List.replicate c .dead:=QkN af;have h:∀(i:Nat) (s:Option Nat) (x:Blk),(σ++List.replicate c none)[i]?=some s->(H++List.replicate c Blk.dead)[i]?=some x->(σ[i]?=some s/\H[i]?=some x)\/(s=none/\x=.dead):=by
  intro i s x n k;rcases VE i σ.length with q|q
  .rw[XO q]at n;rw[XO (by omega)]at k;exact .inl ⟨n,k⟩
  .rw[XP q]at n;rw[XP (by omega)]at k;have a1:=VJ n;have a2:=VJ k;exact .inr ⟨(List.mem_replicate.1 a1).2,(List.mem_replicate.1 a2).2⟩
 have B:Sim fr ro (σ++List.replicate c none) (H++List.replicate c .dead) {w with drawn:=w.drawn+1}:=by
  refine⟨by simp[V],r.sim.roOk.to (λ_ q=>q) (λ_ _=>rfl) r.sim.roLt,r.sim.frLt,r.sim.roFr,?_,?_,?_,
   r.sim.hidTo (· = ·) QY (XV _) (λ_ _ _ _ _ _ _ q=>q) (λ_ _ _ _ _ _ _ q=>q) λj d y g1 g2 g3=>.inl ?_⟩
  rotate_left 3
  .rcases h j _ _ g1 g2 with⟨g,t⟩|⟨g,_⟩
   .exact⟨j,y,rfl,g,t,(λz=>z),λc q=>q⟩
   .cases g
  .intro i b blk n k Q;rcases h i _ _ n k with⟨g,t⟩|⟨g,_⟩
   .exact r.sim.own i b blk g t Q
   .cases g
  .intro i j b x y n k Q h4 h5 h6;rcases h i _ _ n Q with⟨g,t⟩|⟨g,_⟩
   .rcases h j _ _ k h4 with⟨q3,q4⟩|⟨q3,_⟩
    .exact r.sim.inj i j b x y g q3 t q4 h5 h6
    .cases q3
   .cases g
  .intro i s x n k;rcases h i _ _ n k with⟨g,t⟩|⟨g,t⟩
   .exact BR.keep u (λb hb _=>rfl) (r.sim.blk i s x g t) (λ_ _ _ _=>rfl)
   .subst t;exact trivial
 have f:∀i,¬onL (Array.replicate l.length false) i:=by
  intro i q;unfold onL at q;rw[Array.getElem?_replicate]at q;split at q<;>simp at q
 have E:=XT ab;refine wpIn_region_any hm ?_;rw[List.size_toArray];refine QiZ ok F O E (Nat.le_add_right _ _) (λX hX=>XT (Xu.1 hh X hX)) ?_ W (ro0:=ro) (σ0:=σ) (w0:=w) (ds0:=a.defers) hk r.defers aa
  l.length _ a _ ro (σ++List.replicate c none) 0 (by simp) ?_ (λi _=>f i) G (by rw[L];exact B) r.size rfl (λi d x q=>absurd q (f i)) (λs _=>(r.env s).mono u) J (Qy (by omega)) ?_
  (λi _ q=>absurd q (f i)) (λi _ _=>⟨λq=>absurd q (f i),λq=>by rw[ok.ms0]at q;cases q⟩) (λi o q=>absurd q (f i))
 .intro i p hi hp;have e:(M.map λq=>q.map λp=>(Hs.getD p.1 [],Hs.getD p.2 []))[i]?=some ((M.getD i []).map λp=>(Hs.getD p.1 [],Hs.getD p.2 [])):=by
   rw[Xq,XM (by omega),VN,XM (by omega)];rfl
  have:=ac.get i _ e _ (Xf.2 ⟨p,hp,rfl⟩);simpa using this
 .unfold unl;simp[List.countP_replicate]
 .intro p n k Q;rw[XP (by omega),List.getElem?_replicate,Vv (by omega)]
theorem Qb4{P:Program}{h0 N:Nat}{id:Nat}{l:List Oper}{env:Env}{H:Qc}{Q:QA}(m c:Nat)(g:List Nat)(u:List Bool)(x d:List (List Nat))(f:List (List (Nat×Nat)))(xs:List A)(Hs:List Qc)(Hk:Qc)
  (y:P.follows .mixedOrders=true)(z:Qed l m N g u x d f=true)(j:Nat.beq xs.length m=true)(n:Nat.beq Hs.length d.length=true)(h:Nat.ble h0 H.length=true)
  (F:Hs.all (λX=>Nat.ble (H.length+c) X.length)=true)(t:Hs[0]?=some (H++List.replicate c .dead))(k:Hs.getD (d.length-1) []=Hk)
  (i:QhU P N l g xs env H.length (H.length+c) 0 (f.map λq=>q.map λp=>(Hs.getD p.1 [],Hs.getD p.2 [])))(s:Nat.beq f.length m=true)
  (G:WO P h0 N l.toArray (l.drop m) (Qay g xs env) Hk Q):TC P h0 N (.region id l.toArray true) env H Q:=by
 intro E B J σ a w r hrd;refine Code.wpIn_mono (λe a w q=>Qb6.postW q) (Qhg m c g u x d f xs Hs Hk y z j n h F t k i s r hrd λro' σ' a' w' hr hev htk hdf=>?_);have b:=G E B ro' σ' a' w' hr (hrd.to hev λ_ q=>q);rw[hdf]at b;exact Yq (λe a w q=>q.step hev htk) _ _ _ b
def draw0(l:List Oper)(m N:Nat)(ds:List Nat):Bool:=Nat.ble m l.length&&(ds.length==m)&&Qed.dstB N 0 l ds&&drawChk.nodupB ds&&drawChk.goB l m 0 l
inductive Oq (P:Program) (N:Nat) (l:List Oper) (ds:List Nat) (xs:List A) (env0:Env) (H:Qc):Nat->Nat->Prop
 |n {i:Nat}:Oq P N l ds xs env0 H i 0
 |c {i c:Nat} (h:JJ P N l ds xs env0 H.length H.length i H H) (k:Oq P N l ds xs env0 H (i+1) c):Oq P N l ds xs env0 H i (c+1)
theorem Oq.get{P:Program}{N:Nat}{l:List Oper}{a:List Nat}{xs:List A}{env0:Env}{H:Qc}{b c:Nat}(h:Oq P N l a xs env0 H b c):∀i,i<c->JJ P N l a xs env0 H.length H.length (b+i) H H:=by
 induction h with
 |n=>intro i d;omega
 | @c b c h _ ih=>
  intro i d;cases i with
  |zero=>exact h
  |succ i=>
   have:=ih i (by omega);rw[show b+1+i=b+(i+1)by omega]at this;exact this
theorem Qnt{l:List Oper}{m N:Nat}{e:List Nat}(h:draw0 l m N e=true):Qn7 l m e [] [] [[]] (List.replicate m [(0,0)]) N:=by
 unfold draw0 at h;simp only[XY]at h;obtain⟨⟨⟨⟨z,y⟩,u⟩,w⟩,t⟩:=h;have n:m<=l.length:=XT z;have q:e.length=m:=by simpa using y
 have g:=Qiu l 0 t;refine⟨n,λi o d b=>?_,q,Qd3 w,λi o b=>by have:=(g i o b).1;simpa using this,λo b j s=>Qb9 m (Qg o) (λi d=>.one b d) j ((g m o b).2.1 (by omega) j s),
  λi o d b=>by have:=(g i o b).2.2 (by omega);simpa using this,λi o d b h p=>by simp at p,rfl,λk a=>.inl (by simp at a;simp[a]),λk h p=>by cases k<;>simp at p,λi k d a _ _ _=>?_⟩
 .have f:e[i]?=some e[i]:=XM (by omega);rcases QgP l e 0 u i _ o b f with⟨r,x⟩|r
  .exact .inl ⟨_,r,f,x⟩
  .exact .inr r
 .have:k=0:=by simp at a;exact a
  subst this;refine⟨0,?_,by simp,by simp⟩;rw[VN,List.getElem?_replicate,Vv d];exact VD.2 rfl
theorem Qhh{P:Program}{h0 N:Nat}{id:Nat}{l:List Oper}{env:Env}{H:Qc}{fr ro:Nat->Prop}{σ:Sig}{a:Act}{w:World}{rd:Option Nat}{R:Exit->Act->World->Prop}(m:Nat)(k:List Nat)(xs:List A)
  (E:P.follows .mixedOrders=true)(B:Go.Sw.draw0 l m N k=true)(j:Nat.beq xs.length m=true)(t:Nat.ble h0 H.length=true)
  (u:Oq P N l k xs env H 0 m)(r:Rel fr ro σ H env N a w)(n:Qew rd fr w)
  (F:∀ro' σ' a' w',Rel fr ro' σ' H (Qay k xs env) N a' w'->Qe fr ro w ro' w'->σ'.take h0=σ.take h0->a'.defers=a.defers->wpL P rd l.toArray R (l.drop m) a' w'):(Code.region id l.toArray true).wpIn (WF rd) 0 P R a w:=by
 have ok:=Qnt B;have f:=XS j;have g:Qe fr ro w ro {w with drawn:=w.drawn+1}:=⟨λ_ q=>q,λ_ _=>rfl,λ_ _=>rfl,XV _,λ_ _ q=>q,rfl,rfl,rfl,Nat.le_succ _⟩;have e:Ext ro σ w ro σ {w with drawn:=w.drawn+1}:=g.ext0 σ;have h:Sim fr ro σ H {w with drawn:=w.drawn+1}:=r.sim.heap rfl;have b:∀i,¬onL (Array.replicate l.length false) i:=by
  intro i q;unfold onL at q;rw[Array.getElem?_replicate]at q;split at q<;>simp at q
 refine wpIn_region_any E ?_;rw[List.size_toArray];refine QiZ (hB:=H.length) (hE:=H.length) (Hs:=[H]) (Hk:=H) ok f rfl (XT t) (XV _) (λX hX=>by rw[VD.1 hX];exact XV _) ?_ rfl (ro0:=ro) (σ0:=σ) (w0:=w) (ds0:=a.defers) F r.defers n
  l.length _ a _ ro σ 0 (by simp) ?_ (λi _=>b i) (by simp) h r.size rfl (λi d x q=>absurd q (b i)) (λs _=>(r.env s).mono e) g rfl (λp J G=>by omega)
  (λi _ q=>absurd q (b i)) (λi _ _=>⟨λq=>absurd q (b i),λq=>by cases q⟩) (λi o q=>absurd q (b i))
 .intro i p y z;rw[VN,List.getElem?_replicate,Vv y]at z;obtain rfl:=VD.1 z;have:=u.get i y;rw[Xx]at this;exact this
 .unfold unl;simp[List.countP_replicate]
theorem TC.draw0{P:Program}{h0 N:Nat}{id:Nat}{l:List Oper}{env:Env}{H:Qc}{Q:QA}(m:Nat)(d:List Nat)(xs:List A)
  (n:P.follows .mixedOrders=true)(i:Go.Sw.draw0 l m N d=true)(f:Nat.beq xs.length m=true)(g:Nat.ble h0 H.length=true)
  (h:Oq P N l d xs env H 0 m)(p:WO P h0 N l.toArray (l.drop m) (Qay d xs env) H Q):TC P h0 N (.region id l.toArray true) env H Q:=by
 intro k j s σ a w r hrd;refine Code.wpIn_mono (λe a w q=>Qb6.postW q) (Qhh m d xs n i f g h r hrd λro' σ' a' w' hr hev htk hdf=>?_);have b:=p k j ro' σ' a' w' hr (hrd.to hev λ_ q=>q);rw[hdf]at b;exact Yq (λe a w q=>q.step hev htk) _ _ _ b
section
variable {P:Program} {N:Nat} {l:List Oper} {ds af bf:List Nat} {xs:List A} {env0 e r:Env} {H H':Qc} {i hB hE:Nat} {o:Oper} {d s:Nat} {x a:A}
theorem sN:Sb af bf ds xs env0 []:=.nil
theorem sD(j:Nat)(k:Sb af bf ds xs env0 r)(b:af.contains j=true:=by exact rfl)(h2:ds[j]?=some s:=by exact rfl)(h3:xs[j]?=some a:=by exact rfl):Sb af bf ds xs env0 ((s,a)::r):=.dep j b h2 h3 k
theorem sP(j:Nat)(k:Sb af bf ds xs env0 r)(b:bf.contains j=true:=by exact rfl)(h2:ds[j]?=some s:=by exact rfl)(h3:lk env0 s=a:=by exact rfl):Sb af bf ds xs env0 ((s,a)::r):=.pre j b h2 h3 k
theorem Qee(H:Qc):Qaw hB hE H H=true:=by
 unfold Qaw;refine Xu.2 λp _=>?_;cases QcE H[hB+p]? <;>rfl
theorem Om(f:l[i]?=some o)(b:Sb (Qg o) (Qka l i) ds xs env0 e)(h:WO P H.length N l.toArray [o] e H (Ja (up e d x) H))(a:o.dst=some d:=by exact rfl)(hx:xs[i]?=some x:=by exact rfl):JJ P N l ds xs env0 hB hE i H H:=
 .mk o e d x f a hx (Qee H) b h
theorem Om1(f:l[i]?=some o)(b:Sb (Qg o) (Qka l i) ds xs env0 e)(h:WO P H.length N l.toArray [o] e H (Ja (up e d x) H'))(a:o.dst=some d:=by exact rfl)(hx:xs[i]?=some x:=by exact rfl)(hdd:Qaw hB hE H H'=true:=by exact rfl):JJ P N l ds xs env0 hB hE i H H':=
 .mk o e d x f a hx hdd b h
theorem Om2(d:l[i]?=some o)(b:Sb (Qg o) (Qka l i) ds xs env0 e)(h:WO P H.length N l.toArray [o] e H (Ja e H'))(a:o.dst=none:=by exact rfl)(hx:xs[i]?=some .any:=by exact rfl)(hdd:Qaw hB hE H H'=true:=by exact rfl):JJ P N l ds xs env0 hB hE i H H':=
 .unit o e d a hx hdd b h
end
end Go.Sw
namespace Go.Sw
structure TyI where
 fld:List (Nat×Nat×Nat)
 agg:List (Nat×Bool×Nat)
 zer:List (Nat×List A×List (Nat×Nat))
structure TyOK (P:Program) (T:TyI):Prop where
 fld:∀e∈T.fld,∃n,Q1 P e.1 e.2.1 e.2.2 n
 agg:∀e∈T.agg,(∀w,(isAgg e.1).run P w=.ok e.2.1 w)/\ ∀w,(sizeOf e.1).run P w=.ok e.2.2 w
 zer:∀e∈T.zer,(∃z,(∀w,(zeroValue e.1).run P w=.ok z w)/\ZR (.agg e.2.1) z)/\QI P e.1 e.2.2
def Qiz:List (Nat×Nat×Nat)->Nat->Nat->Option Nat
 |[],_,_=>none
 |(a,b,c)::r,t,f=>bif Nat.beq a t&&Nat.beq b f then some c else Qiz r t f
def Qck{β:Type}:List (Nat×β)->Nat->Option β
 |[],_=>none
 |(a,b)::r,t=>bif Nat.beq a t then some b else Qck r t
theorem Qiy{l:List (Nat×Nat×Nat)}{t f c:Nat}(h:Qiz l t f=some c):(t,f,c)∈l:=by
 induction l with
 |nil=>cases h
 |cons x r g=>
  obtain⟨a,b,d⟩:=x;unfold Qiz at h;cases q:(Nat.beq a t&&Nat.beq b f)with
  |true=>
   rw[q]at h;simp only[XY]at q;have e:=XS q.1;have i:=XS q.2;simp only[Vr,Option.some.injEq]at h;subst e i h;exact .head _
  |false=>rw[q]at h;exact .tail _ (g h)
theorem Qaz{β:Type}{l:List (Nat×β)}{t:Nat}{c:β}(h:Qck l t=some c):(t,c)∈l:=by
 induction l with
 |nil=>cases h
 |cons x r e=>
  obtain⟨a,b⟩:=x;unfold Qck at h;cases q:Nat.beq a t with
  |true=>
   rw[q]at h;have d:=XS q;simp only[Vr,Option.some.injEq]at h;subst d h;exact .head _
  |false=>rw[q]at h;exact .tail _ (e h)
def QhL(H:Qc):A->Option (List A)
 |.rp cs=>some cs
 |.ptr i off=>match H[i]? with
  |some (.cells _ cs)=>some (cs.drop off)
  |_=>none
 |_=>none
theorem Qj9{H:Qc}{p:A}{cs:List A}(h:QhL H p=some cs):Pts H p cs:=by
 unfold QhL at h;split at h
 .cases h;exact Pts.rp
 .split at h
  .rename_i a;cases h;exact Pts.cells a rfl
  .cases h
 .cases h
def Qmr(T:TyI)(o:Oper)(env:Env)(H:Qc):Option A:=
 match o.op with
 |.move x=>some (opA env x)
 |.assign x=>some (opA env x)
 |.fieldAddr t x f=>match Qiz T.fld t f with
  |none=>none
  |some off=>match opA env x with
   |.ptr i p=>some (.ptr i (p+off))
   |.rp cs=>some (.rp (cs.drop off))
   |_=>none
 |.load t x=>match Qck T.agg t with
  |none=>none
  |some (b,n)=>match x with
   |.global g=>match QjT[g]? with
    |some zs=>bif b&&Nat.beq zs.length n then some (.agg (zs.map (A.int .i64)))else none
    |none=>none
   |x=>match QhL H (opA env x)with
    |none=>none
    |some cs=>bif b then(bif Nat.beq (cs.take n).length n then some (.agg (cs.take n))else none)else cs.head?
 |.build t parts=>match Qck T.zer t with
  |none=>none
  |some (zs,pl)=>match Qd9 env pl zs parts.toList with
   |some cs=>some (.agg cs)
   |none=>none
 |.extract x i=>match opA env x with
  |.tup vs=>vs[i]?
  |_=>none
 |.makeFunc f first cap=>some (.fn f (first.toList.map (opA env)) (cap.toList.map (opA env)))
 |_=>none
theorem Qmq{P:Program}{T:TyI}(l:TyOK P T){o:Oper}{env:Env}{H:Qc}{x:A}(h:Qmr T o env H=some x):OpV P o env H x:=by
 unfold Qmr at h;split at h
 .rename_i y a;cases h;exact OpV.move a rfl
 .rename_i y a;cases h;exact OpV.assign a rfl
 .rename_i t y f a;split at h
  .cases h
  .rename_i F m;obtain⟨n,s⟩:=l.fld _ (Qiy m);split at h
   .rename_i i p j;cases h;exact YB s a j
   .rename_i e j;cases h;exact Qu s a j rfl
   .cases h
 .rename_i t y a;split at h
  .cases h
  .rename_i b n G;obtain⟨d,k⟩:=l.agg _ (Qaz G);split at h
   .rename_i g;split at h
    .rename_i r J;cases q:(b&&Nat.beq r.length n)with
     |false=>rw[q]at h;cases h
     |true=>
      rw[q]at h;cases h;simp only[XY]at q;obtain⟨rfl,L⟩:=q;exact QgW d k J (XS L) a
    .cases h
   .split at h
    .cases h
    .rename_i e B;have u:=Qj9 B;cases b with
     |true=>
      simp only[Vr]at h;cases q:Nat.beq (e.take n).length n with
      |false=>rw[q]at h;cases h
      |true=>
       rw[q]at h;cases h;exact Qi a d k rfl u rfl (XS q)
     |false=>
      simp only[Vs]at h;cases e with
      |nil=>cases h
      |cons v e=>cases h;exact OpV.load a d rfl u
 .rename_i t parts a;split at h
  .cases h
  .rename_i r M w;obtain⟨⟨z,d,k⟩,E⟩:=l.zer _ (Qaz w);split at h
   .rename_i e m;cases h;exact OpV.build d k E (by rw[a]) m
   .cases h
 .rename_i y i a;split at h
  .rename_i vs j;exact OpV.extract a j h
  .cases h
 .rename_i f first cap a
  cases h;exact OpV.makeFunc (first:=first.toList) (cap:=cap.toList) (by rw[a]) rfl rfl
 .cases h
def QiY(af:List Nat):Nat->List Nat->List A->Env->Env
 |j,d::ds,x::xs,e=>(d,bif af.contains j then x else .any)::QiY af (j+1) ds xs e
 |_,_,_,e=>e
theorem QoG{af:List Nat}{env0:Env}(s:Nat):∀(a:List Nat) (xs:List A) (b:Nat),a.length=xs.length->
  (∃(j:Nat) (x:A),a[j]?=some s/\xs[j]?=some x/\lk (QiY af b a xs env0) s=bif af.contains (b+j)then x else .any)\/(a.contains s=false/\lk (QiY af b a xs env0) s=lk env0 s):=by
 intro a
 induction a with
 |nil=>intro xs b g;right;exact⟨rfl,by unfold QiY;rfl⟩
 |cons d a l=>
  intro xs b g;cases xs with
  |nil=>cases g
  |cons x xs=>
   cases q:Nat.beq s d with
   |true=>
    have e:=XS q;subst e;left;refine⟨0,x,rfl,rfl,?_⟩;simp only[QiY,lk,q,Vr];rfl
   |false=>
    have f:s≠d:=λz=>by subst z;simp[VH]at q
    simp only[QiY,lk,q,Vs];rcases l xs (b+1) (by simpa using g)with⟨j,y,i,h,k⟩|⟨i,h⟩
    .left;refine⟨j+1,y,by simpa using i,by simpa using h,?_⟩;rw[show b+(j+1)=b+1+j by omega];exact k
    .right;refine⟨?_,h⟩;rw[List.contains_cons,i];simpa using f
def Qkx(T:TyI)(N:Nat)(l:List Oper)(ds:List Nat)(xs:List A)(env0:Env)(H:Qc)(i:Nat):Option A:=
 match l[i]? with
 |none=>none
 |some o=>match o.guard,o.dst with
  |none,some d=>bif Nat.blt d N&&Nat.beq ds.length xs.length then Qmr T o (QiY (Qg o) 0 ds xs env0) H else none
  |_,_=>none
theorem QoF{af b:List Nat}{xs:List A}{env0:Env}(hl:b.length=xs.length):Qn4 af b xs env0 (QiY af 0 b xs env0):=by
 intro s;rcases QoG (af:=af) (env0:=env0) s b xs 0 hl with⟨j,x,e,d,a⟩|h
 .rw[Xx]at a;cases q:af.contains j with
  |true=>rw[q]at a;exact .inl ⟨j,x,q,e,d,a⟩
  |false=>rw[q]at a;exact .inr (.inl a)
 .exact .inr (.inr h)
theorem vQ{P:Program}{T:TyI}(f:TyOK P T){N:Nat}{l:List Oper}{a:List Nat}{xs:List A}{env0:Env}{hB hE i:Nat}{H:Qc}{x:A}(e:xs[i]?=some x)(h:Qkx T N l a xs env0 H i=some x):JJ P N l a xs env0 hB hE i H H:=by
 unfold Qkx at h;split at h
 .cases h
 .rename_i o g;split at h
  .rename_i d j b;cases q:(Nat.blt d N&&Nat.beq a.length xs.length)with
   |false=>rw[q]at h;cases h
   |true=>
    rw[q]at h;simp only[XY]at q;exact .val o _ d x g b j e q.1 (QoF (XS q.2)) (Qmq f h)
  .cases h
abbrev I(n:Int):A:=.int .i64 n
theorem zc{a:A}{v:Value}{al:List A}{vl:List Value}(h:ZR a v)(k:ZL al vl):ZL (a::al) (v::vl):=ZL.cons h k
def zr1:A->Value->Bool
 |.int k n,.int k' n'=>decide (k=k')&&decide (n=n')
 |.bool b,.bool b'=>b==b'
 |.str s,.string s'=>s.isEmpty&&s'.data.toList.isEmpty
 |.rsl _ es,.slice none 0 0=>es.isEmpty
 |.nils,.slice none 0 0=>true
 |.nilp,.pointer none=>true
 |.nilf,.nilFunc=>true
 |.nilm,.map none=>true
 |.nilif,.nilIface=>true
 |_,_=>false
def zrL:List A->List Value->Bool
 |[],[]=>true
 |a::r,v::s=>zr1 a v&&zrL r s
 |_,_=>false
def zrB:A->Value->Bool
 |.agg r,.agg s=>zrL r s.toList
 |a,v=>zr1 a v
theorem Qme{a:A}{v:Value}(h:zr1 a v=true):ZR a v:=by
 unfold zr1 at h;split at h
 .simp only[XY,Vt]at h;obtain⟨rfl,rfl⟩:=h;exact ZR.int
 .simp only[VA]at h;subst h;exact ZR.bool
 .rename_i s f;simp only[XY,List.isEmpty_iff]at h;obtain⟨rfl,b⟩:=h;obtain⟨d⟩:=f;obtain⟨d⟩:=d;have b:d=[]:=b;subst b;exact ZR.str
 .rename_i k g;have h:g=[]:=List.isEmpty_iff.1 h;subst h;exact ZR.rsl (α:=A) (e:=λx=>[x])
 .exact ZR.nils
 .exact ZR.nilp
 .exact ZR.nilf
 .exact ZR.nilm
 .exact QoM
 .cases h
theorem Qmd:∀{r:List A} {s:List Value},zrL r s=true->ZL r s
 |[],[],_=>ZL.nil
 |a::r,v::s,h=>by
  simp only[zrL,XY]at h;exact ZL.cons (Qme h.1) (Qmd h.2)
 |[],_::_,h=>by cases h
 |_::_,[],h=>by cases h
theorem zrC{a:A}{v:Value}(h:zrB a v=true):ZR a v:=by
 unfold zrB at h;split at h
 .rename_i r s;have:=ZR.agg (Qmd h);simpa using this
 .exact Qme h
end Go.Sw
namespace Go.Sw
section
variable {P:Program} {o:Oper} {env:Env} {H:Qc}
end
end Go.Sw
namespace Go.Sw
structure TyX where
 ty:TyI
 al:List (Nat×A)
 sl:List Nat
structure QbJ (P:Program) (T:TyX):Prop where
 ty:TyOK P T.ty
 al:∀e∈T.al,(∃z,(∀w,(zeroValue e.1).run P w=.ok z w)/\ZR e.2 z)/\Yh e.2=true/\(Yt e.2).all Yz=true
 sl:∀t∈T.sl,∃et,∀w,(underlying t).run P w=.ok (.slice et) w
def Y4(all:Array Oper)(o:Oper)(env:Env):Option Bool:=
 match o.guard with
 |none=>some true
 |some (j,c)=>match(all[j]?).bind (·.dst)with
  |none=>none
  |some d=>match lk env d with
   |.bool true=>some c
   |.bool false=>some (!c)
   |.tup []=>some false
   |_=>none
theorem Q2{all:Array Oper}{o:Oper}{env:Env}{b:Bool}(h:Y4 all o env=some b):Qp all o env b:=by
 unfold Y4 at h;unfold Qp;split at h
 .rename_i q;rw[q];cases h;rfl
 .rename_i j c q;rw[q];split at h
  .cases h
  .rename_i d e;refine⟨d,e,?_⟩;split at h
   .rename_i a;cases h;exact .inl ⟨true,a,by simp⟩
   .rename_i a;cases h;exact .inl ⟨false,a,by cases c<;>rfl⟩
   .rename_i a;cases h;exact .inr ⟨a,rfl⟩
   .cases h
def QdF:List Nat->Nat->Bool
 |[],_=>false
 |a::r,t=>bif Nat.beq a t then true else QdF r t
theorem Qhl{l:List Nat}{t:Nat}(h:QdF l t=true):t∈l:=by
 induction l with
 |nil=>cases h
 |cons a r b=>
  unfold QdF at h;cases q:Nat.beq a t with
  |true=>have:=XS q;subst this;exact .head _
  |false=>rw[q]at h;exact .tail _ (b h)
inductive FL where
 |mk (l:List A)
def fl:List A->FL
 |[]=>.mk []
 |a::r=>match fl r with
  |.mk r'=>.mk (a::r')
theorem Qcr:∀l:List A,fl l=.mk l
 |[]=>rfl
 |a::r=>by unfold fl;rw[Qcr r]
inductive FB where
 |mk (l:List Blk)
def fb:List Blk->FB
 |[]=>.mk []
 |a::r=>match fb r with
  |.mk r'=>.mk (a::r')
theorem QkR:∀l:List Blk,fb l=.mk l
 |[]=>rfl
 |a::r=>by unfold fb;rw[QkR r]
inductive FN where
 |mk (n:Nat)
def fn:List Blk->Nat->FN
 |[],n=>.mk n
 |_::r,n=>fn r (n+1)
theorem Qna:∀(l:List Blk) (n:Nat),fn l n=.mk (l.length+n)
 |[],n=>by simp[fn]
 |a::r,n=>by unfold fn;rw[Qna r];simp;omega
def QkP(env:Env)(pl:List (Nat×Nat)):List A->List (Nat×Operand)->Option (List A)
 |cs,[]=>some cs
 |cs,(i,x)::r=>match Y3 pl i with
  |none=>none
  |some (off,size)=>match opB env x with
   |.mk a=>match fl (Yt a)with
    |.mk vs=>bif Yh a&&Nat.beq vs.length size&&Nat.ble (off+size) cs.length then(match fl (splice cs off vs)with
     |.mk cs'=>QkP env pl cs' r)else none
theorem QiC{env:Env}{pl:List (Nat×Nat)}:∀(parts:List (Nat×Operand)) (cs:List A),QkP env pl cs parts=Qd9 env pl cs parts
 |[],cs=>rfl
 |(i,x)::r,cs=>by
  unfold QkP Qd9;rw[QaD];cases pl[i]? with
  |none=>rfl
  |some q=>
   obtain⟨off,size⟩:=q;cases h:opB env x with
   |mk a=>
    rw[QE h];simp only[Qcr];cases(Yh a&&Nat.beq (Yt a).length size&&Nat.ble (off+size) cs.length)with
    |false=>rfl
    |true=>exact QiC r _
def Qip(env:Env):List Operand->List A
 |[]=>[]
 |x::r=>match opB env x with
  |.mk a=>a::Qip env r
theorem Qc1{env:Env}:∀l:List Operand,Qip env l=l.map (opA env)
 |[]=>rfl
 |x::r=>by
  unfold Qip;cases h:opB env x with
  |mk a=>rw[Vl,QE h];show a::Qip env r=_;rw[Qc1 r]
def ptX(H:Qc):Bx->Option Lx
 |.mk (.rp cs)=>some (.mk cs)
 |.mk (.ptr i off)=>match Y3 H i with
  |some (.cells _ cs)=>some (QfI off cs)
  |_=>none
 |_=>none
theorem Qpv{H:Qc}{p:A}{cs:List A}(h:ptX H (.mk p)=some (.mk cs)):Pts H p cs:=by
 unfold ptX at h;split at h
 .rename_i q;cases q;cases h;exact Pts.rp
 .rename_i i b q;cases q;split at h
  .rename_i a;rw[QaD]at a;simp only[Option.some.injEq]at h;exact Pts.cells a (Qdc h)
  .cases h
 .cases h
def QeN(T:TyX)(o:Oper)(env:Env)(H:Qc):Option A:=
 match o.op with
 |.move x=>match opB env x with|.mk a=>some a
 |.assign x=>match opB env x with|.mk a=>some a
 |.nilCheck x=>nlB (opB env x)
 |.extract x i=>exB (opB env x) i
 |.unOp u _ x=>unB u (opB env x)
 |.pick c x y=>piB (opB env c) (opB env x) (opB env y)
 |.binOp b _ x y _=>biB b (opB env x) (opB env y)
 |.fieldAddr t x f=>match Qiz T.ty.fld t f with
  |none=>none
  |some off=>match opB env x with
   |.mk (.ptr i p)=>some (.ptr i (p+off))
   |.mk (.rp cs)=>match QfI off cs with
    |.mk r=>some (.rp r)
   |_=>none
 |.load t x=>match Qck T.ty.agg t with
  |none=>none
  |some (b,n)=>match x with
   |.global g=>match Y3 QjT g with
    |some zs=>bif b&&Nat.beq zs.length n then(match fl (zs.map (A.int .i64))with|.mk l=>some (.agg l))else none
    |none=>none
   |x=>match ptX H (opB env x)with
    |none=>none
    |some (.mk cs)=>match b with
     |true=>(match fl (cs.take n)with|.mk l=>bif Nat.beq l.length n then some (.agg l)else none)
     |false=>(match cs with|[]=>none|a::_=>some a)
 |.build t parts=>match Qck T.ty.zer t with
  |none=>none
  |some (zs,pl)=>match QkP env pl zs parts.toList with
   |some cs=>some (.agg cs)
   |none=>none
 |.makeFunc f first cap=>match fl (Qip env first.toList),fl (Qip env cap.toList)with
  |.mk l,.mk l'=>some (.fn f l l')
 |.call c=>match c with
  |{callee:=.builtin .len,args:=⟨[x]⟩,argTypes:=⟨[t]⟩}=>bif QdF T.sl t then(match opB env x with
   |.mk (.osl _ 0 n _)=>some (.int .i64 n)
   |_=>none)else none
  |_=>none
 |_=>none
theorem Qbp{P:Program}{T:TyX}(l:QbJ P T){o:Oper}{env:Env}{H:Qc}{x:A}(h:QeN T o env H=some x):OpV P o env H x:=by
 unfold QeN at h;split at h
 .rename_i y a;exact QbN a (by unfold svB;exact h)
 .rename_i y a;exact QbN a (by unfold svB;exact h)
 .rename_i y a;exact QbN a (by unfold svB;exact h)
 .rename_i y i a;exact QbN a (by unfold svB;exact h)
 .rename_i u t y a;exact QbN a (by unfold svB;exact h)
 .rename_i c y z a;exact QbN a (by unfold svB;exact h)
 .rename_i b t y z u a;exact QbN a (by unfold svB;exact h)
 .rename_i t y f a;split at h
  .cases h
  .rename_i w m;obtain⟨n,F⟩:=l.ty.fld _ (Qiy m);split at h
   .rename_i i p B;cases h;exact YB F a (QE B)
   .rename_i d B;cases q:QfI w d with
    |mk r=>rw[q]at h;cases h;exact Qu F a (QE B) (Qdc q)
   .cases h
 .rename_i t y a;split at h
  .cases h
  .rename_i b n O;obtain⟨j,s⟩:=l.ty.agg _ (Qaz O);split at h
   .rename_i g;split at h
    .rename_i J L;rw[QaD]at L;cases q:(b&&Nat.beq J.length n)with
     |false=>rw[q]at h;cases h
     |true=>
      rw[q,Qcr]at h;cases h;simp only[XY]at q;obtain⟨rfl,E⟩:=q;exact QgW j s L (XS E) a
    .cases h
   .cases e:opB env y with
    |mk p=>
     rw[e]at h;split at h
     .cases h
     .rename_i d M;have G:=Qpv M;cases b with
      |true=>
       simp only[Qcr]at h;cases q:Nat.beq (d.take n).length n with
       |false=>rw[q]at h;cases h
       |true=>
        rw[q]at h;cases h;exact Qi a j s (QE e) G rfl (XS q)
      |false=>
       cases d with
       |nil=>cases h
       |cons v d=>cases h;exact OpV.load a j (QE e) G
 .rename_i t parts a;split at h
  .cases h
  .rename_i J V Q;obtain⟨⟨z,j,s⟩,R⟩:=l.ty.zer _ (Qaz Q);split at h
   .rename_i d m;cases h;rw[QiC]at m;exact OpV.build j s R (by rw[a]) m
   .cases h
 .rename_i f first cap a
  simp only[Qcr]at h;cases h;rw[Qc1,Qc1];exact OpV.makeFunc (first:=first.toList) (cap:=cap.toList) (by rw[a]) rfl rfl
 .rename_i c a;split at h
  .rename_i y t;cases q:QdF T.sl t with
   |false=>rw[q]at h;cases h
   |true=>
    rw[q]at h;simp only[Vr]at h;obtain⟨W,N⟩:=l.sl t (Qhl q);split at h
    .rename_i i n k E;cases h;exact Ql1 N a rfl (QE E)
    .cases h
  .cases h
 .cases h
def stX(T:TyX)(h0 N:Nat)(all:Array Oper)(o:Oper)(env:Env)(H:Qc):Option (Env×Qc):=
 match Y4 all o env with
 |none=>none
 |some false=>match o.dst with
  |none=>none
  |some d=>bif Nat.blt d N then some (up env d (.tup []),H)else none
 |some true=>match o.dst with
  |none=>match o.op with
   |.store t x y=>match opB env x,Qck T.ty.agg t with
    |.mk (.ptr i off),some (_,n)=>match Y3 H i with
     |some (.cells S cs)=>match opB env y with
      |.mk a=>match fl (Yt a)with
       |.mk vs=>bif Nat.ble h0 H.length&&(Yh a&&(Nat.beq vs.length n&&(vs.all Yz&&Nat.ble (off+n) cs.length)))then(match fl (splice cs off vs)with
        |.mk cs'=>match fb (H.set i (.cells S cs'))with
         |.mk H'=>some (env,H'))else none
     |_=>none
    |_,_=>none
   |_=>none
  |some d=>bif Nat.blt d N then(match o.op with
   |.alloc t=>match Qck T.al t with
    |some v=>bif Nat.ble h0 H.length then(match fn H 0,fl (Yt v)with
     |.mk n,.mk cs=>match fb (H++[.cells t cs])with
      |.mk H'=>some (up env d (.ptr n 0),H'))else none
    |none=>none
   |.box t x=>match opB env x with
    |.mk a=>bif Nat.ble h0 H.length&&(Yh a&&(Yt a).all Yz)then(match fn H 0,fl (Yt a)with
     |.mk n,.mk cs=>match fb (H++[.cells t cs])with
      |.mk H'=>some (up env d (.ptr n 0),H'))else none
   |_=>match QeN T o env H with
    |some a=>some (up env d a,H)
    |none=>none)else none
def runX(T:TyX)(h0 N:Nat)(all:Array Oper):Nat->List Oper->Env->Qc->Option (List Oper×Env×Qc)
 |0,l,env,H=>some (l,env,H)
 |_+1,[],_,_=>none
 |n+1,o::l,env,H=>match stX T h0 N all o env H with
  |some (env',H')=>runX T h0 N all n l env' H'
  |none=>none
section
variable {P:Program} {T:TyX} {h0 N:Nat} {all:Array Oper} {l l':List Oper} {env env':Env} {H H':Qc} {Q:QA}
theorem Qjy(m:QbJ P T){o:Oper}(h:stX T h0 N all o env H=some (env',H'))(k:WO P h0 N all l env' H' Q):WO P h0 N all (o::l) env H Q:=by
 unfold stX at h;split at h
 .cases h
 .rename_i w;have g:=Q2 w;split at h
  .cases h
  .rename_i d f;cases q:Nat.blt d N with
   |false=>rw[q]at h;cases h
   |true=>rw[q]at h;cases h;exact WO.skip g f q k
 .rename_i w;have g:=Q2 w;split at h
  .rename_i f;split at h
   .rename_i t x y j;split at h
    .rename_i i s b n M L;split at h
     .rename_i S cs hH;rw[QaD]at hH;cases e:opB env y with
      |mk a=>
       rw[e]at h;simp only[Qcr,QkR]at h;generalize hc:(Nat.ble h0 H.length&&(Yh a&&(Nat.beq (Yt a).length n&&((Yt a).all Yz&&Nat.ble (s+n) cs.length))))=c at h;cases c with
       |false=>cases h
       |true=>
        cases h;simp only[XY]at hc;obtain⟨u,p,r,O,J⟩:=hc;obtain⟨_,G⟩:=m.ty.agg _ (Qaz L);exact QbC (XT u) g f (OpU.store j (QE M) hH G (QE e) p rfl (XS r) O J rfl) k
     .cases h
    .cases h
   .cases h
  .rename_i d f;cases q:Nat.blt d N with
   |false=>rw[q]at h;cases h
   |true=>
    rw[q]at h;simp only[Vr]at h;split at h
    .rename_i t j;split at h
     .rename_i v V;cases c:Nat.ble h0 H.length with
      |false=>rw[c]at h;cases h
      |true=>
       rw[c]at h;simp only[Qcr,QkR,Qna,Vr,Xy]at h;cases h;obtain⟨⟨z,E,W⟩,R,B⟩:=m.al _ (Qaz V);exact Y8 (XT c) g f q (QfZ E W j R rfl B) k
     .cases h
    .rename_i t x j;cases e:opB env x with
     |mk a=>
      rw[e]at h;simp only[Qcr,QkR,Qna,Xy]at h;generalize hc:(Nat.ble h0 H.length&&(Yh a&&(Yt a).all Yz))=c at h;cases c with
      |false=>cases h
      |true=>
       cases h;simp only[XY]at hc;obtain⟨u,p,r⟩:=hc;exact Y8 (XT u) g f q (OpH.box j (QE e) p rfl r) k
    .split at h
     .rename_i a F;cases h;exact QK g f q (Qbp m F) k
     .cases h
theorem AU(hT:QbJ P T):∀(n:Nat) {l l':List Oper} {env env':Env} {H H':Qc},runX T h0 N all n l env H=some (l',env',H')->WO P h0 N all l' env' H' Q->WO P h0 N all l env H Q
 |0,l,l',env,env',H,H',h,k=>by cases h;exact k
 |n+1,[],l',env,env',H,H',h,k=>by cases h
 |n+1,o::l,l',env,env',H,H',h,k=>by
  unfold runX at h;split at h
  .rename_i e1 H1 hs;exact Qjy hT hs (AU hT n h k)
  .cases h
end
theorem yc{α:Type}{p:α->Prop}{a:α}{l:List α}(h:p a)(k:∀x∈l,p x):∀x∈a::l,p x:=List.forall_mem_cons.2 ⟨h,k⟩
theorem FA{P:Program}{T f off n:Nat}{fs:Array Field}{a:Field}(e:∀w,(underlying T).run P w=.ok (.struct fs) w)(b:fs[f]?=some a)(g:∀w,(sizeOf a.type).run P w=.ok n w)(d:a.offset=off:=by exact rfl)(h5:n≠0:=by decide):Q1 P T f off n:=⟨_,_,e,b,d,g,h5⟩
theorem QbQ:∀(π:List Nat) (H:Qc) (xs:List Blk),π.map (λp=>H[p]?)=xs.map some->Yy H π xs=H
 |[],H,xs,h=>by
  have:xs=[]:=by cases xs with
   |nil=>rfl
   |cons x xs=>simp at h
  subst this;simp[Yy]
 |p::π,H,[],h=>by simp at h
 |p::π,H,x::xs,h=>by
  simp only[Vl,List.cons.injEq]at h;have e:H.set p x=H:=by
   apply List.ext_getElem?;intro i;rw[Xb];by_cases q:p=i
   .subst q;rw[Vv rfl,h.1];have:=(XN.1 h.1).1;rw[Vv this]
   .rw[Vu q]
  unfold Yy;rw[e];exact QbQ π H xs h.2
def QjE:A->Option Bx
 |.bool b=>some (.mk (.bool b))
 |.int k n=>some (.mk (.int k n))
 |.str s=>some (.mk (.str s))
 |.rsl k es=>some (.mk (.rsl k es))
 |_=>none
theorem Qkz{v a:A}(h:QjE v=some (.mk a))(ρ:Nat->Nat):YI ρ v=a:=by
 cases v<;>first|(cases h;rfl)|cases h
theorem Pc{P:Program}{h0 N:Nat}{all:Array Oper}{o:Oper}{l:List Oper}{env:Env}{H:Qc}{Q:QA}{d:Nat}{f:FuncId}{args b:List A}{Hc:Qc}{v g:A}(π:List Nat)(h:o.dst=some d)(e:OpC P o env H f args)(j:C P f b Hc (λa H1=>a=v/\H1=Hc))(i:QjE v=some (.mk g))
  (k:WO P h0 N all l (up env d g) H Q)
  (hargs:args=Qaa (rho π H.length) b:=by exact rfl)(hH:π.map (λp=>H[p]?)=(Hc.map (QW (rho π H.length))).map some:=by exact rfl)(hπ:π.Nodup:=by decide)
  (hg:Qp all o env true:=by exact rfl)(hN:Nat.blt d N=true:=by exact rfl)(hh:Nat.ble h0 H.length=true:=by exact rfl):WO P h0 N all (o::l) env H Q:=by
 refine QQ π e j ?_ hargs hH hπ hg h hN hh;rintro r H1 ⟨rfl,rfl⟩;rw[Qkz i,QbQ π H _ hH];exact k
theorem Jk{i k:Nat}{es:List (List A)}:∀H:Qc,FzH i k es H H
 |[]=>.nil
 |_::r=>.keep (Jk r)
def foN:Nat->FN
 |0=>.mk 0
 |n+1=>match foN n with
  |.mk m=>.mk (m+1)
theorem Qfh:∀n,foN n=.mk n
 |0=>rfl
 |n+1=>by unfold foN;rw[Qfh n]
mutual
def foA:A->Bx
 |.agg cs=>match foL cs with
  |.mk l=>.mk (.agg l)
 |.tup cs=>match foL cs with
  |.mk l=>.mk (.tup l)
 |.fn f a c=>match foL a,foL c with
  |.mk l,.mk l'=>.mk (.fn f l l')
 |.iface t v=>match foA v with
  |.mk v'=>.mk (.iface t v')
 |.ptr i off=>match foN i with
  |.mk i'=>.mk (.ptr i' off)
 |.osl i o n k=>match foN i with
  |.mk i'=>.mk (.osl i' o n k)
 |.map i=>match foN i with
  |.mk i'=>.mk (.map i')
 |a=>.mk a
def foL:List A->FL
 |[]=>.mk []
 |a::r=>match foA a,foL r with
  |.mk a',.mk r'=>.mk (a'::r')
end
mutual
theorem Qhv:∀a:A,foA a=.mk a
 |.agg cs=>by unfold foA;rw[QcG cs]
 |.tup cs=>by unfold foA;rw[QcG cs]
 |.fn f a c=>by unfold foA;rw[QcG a,QcG c]
 |.iface t v=>by unfold foA;rw[Qhv v]
 |.ptr i off=>by unfold foA;rw[Qfh]
 |.osl i o n k=>by unfold foA;rw[Qfh]
 |.map i=>by unfold foA;rw[Qfh]
 |.any|.bool _|.int _ _|.str _|.nilp|.rp _|.nils|.rsl _ _|.nilf|.nilif|.nilm=>by rfl
theorem QcG:∀l:List A,foL l=.mk l
 |[]=>by rfl
 |a::r=>by unfold foL;rw[Qhv a,QcG r]
end
inductive FE2 where
 |mk (l:List (List A))
def foE:List (List A)->FE2
 |[]=>.mk []
 |a::r=>match foL a,foE r with
  |.mk a',.mk r'=>.mk (a'::r')
theorem Qm9:∀l,foE l=.mk l
 |[]=>rfl
 |a::r=>by unfold foE;rw[QcG,Qm9 r]
def foH:List Blk->FB
 |[]=>.mk []
 |b::r=>match foH r with
  |.mk r'=>match b with
   |.cells t cs=>match foL cs with
    |.mk l=>.mk (.cells t l::r')
   |.rowr t k es=>match foE es with
    |.mk l=>.mk (.rowr t k l::r')
   |.dead=>.mk (.dead::r')
   |.row t k es=>.mk (.row t k es::r')
   |.map es=>.mk (.map es::r')
   |.iter c es=>.mk (.iter c es::r')
   |.fmap es=>.mk (.fmap es::r')
   |.mapO fz t k es=>.mk (.mapO fz t k es::r')
   |.mapP es=>.mk (.mapP es::r')
   |.frow t k es=>.mk (.frow t k es::r')
   |.ents t a b es=>match foN a,foN b with
    |.mk a',.mk b'=>.mk (.ents t a' b' es::r')
theorem QjV:∀l,foH l=.mk l
 |[]=>rfl
 |b::r=>by
  unfold foH;rw[QjV r];cases b<;>simp only[QcG,Qm9,Qfh]
def foS(env:Env)(H:Qc):Option (Env×Qc):=
 match foH H with
 |.mk H'=>match env with
  |[]=>some ([],H')
  |(d,a)::e=>match foA a with
   |.mk a'=>some ((d,a')::e,H')
theorem QpS(env:Env)(H:Qc):foS env H=some (env,H):=by
 unfold foS;rw[QjV];cases env with
 |nil=>rfl
 |cons p e=>obtain⟨d,a⟩:=p;simp only[Qhv]
theorem FE{P:Program}{h0 N:Nat}{all:Array Oper}{l:List Oper}{env env':Env}{H H':Qc}{Q:QA}(h:foS env H=some (env',H'))(k:WO P h0 N all l env' H' Q):WO P h0 N all l env H Q:=by
 rw[QpS]at h;cases h;exact k
def entB(b1 b2:Nat):List (List A)->Option (List Ent)
 |[]=>some []
 |[.ptr b off,.int .i64 lo,.int .i64 hi]::r=>match entB b1 b2 r with
  |none=>none
  |some l=>match Nat.beq b b2 with
   |true=>some (⟨true,off,lo,hi⟩::l)
   |false=>match Nat.beq b b1 with
    |true=>some (⟨false,off,lo,hi⟩::l)
    |false=>none
 |_=>none
theorem QoH{b1 b2:Nat}:∀{es:List (List A)} {l:List Ent},entB b1 b2 es=some l->l.map (eC b1 b2)=es:=by
 intro es
 induction es with
 |nil=>intro l h;cases h;rfl
 |cons e r f=>
  intro l h;unfold entB at h;split at h
  .cases ‹_=[]›
  .rename_i b a lo i j q;cases q;split at h
   .cases h
   .rename_i g d;have e:=f d;split at h
    .rename_i q;cases h;have:=XS q;subst this;rw[Vl,e];rfl
    .split at h
     .rename_i q;cases h;have:=XS q;subst this;rw[Vl,e];rfl
     .cases h
  .cases h
theorem TE{P:Program}{h0 N:Nat}{all:Array Oper}{l:List Oper}{env:Env}{H:Qc}{Q:QA}{t:Nat}{es:List (List A)}{L:List Ent}(i b1 b2:Nat)(hH:H[i]?=some (.rowr t 3 es))(h:entB b1 b2 es=some L)
  (k:WO P h0 N all l env (H.set i (.ents t b1 b2 L)) Q):WO P h0 N all l env H Q:=WO.le (Ql9 hH (QoH h)) k
theorem R1{P:Program}{h0:Nat}{fn:Func}{env:Env}{H Hc:Qc}{v:A}(s:Nat)(hr:fn.results= #[.tmp s])(hle:Le h0 env H [(s,v)] Hc):Qdk P h0 fn (λa H=>a=v/\H=Hc) .ret env H:=
 ⟨[(s,v)],Hc,v,hle,Qdl.one hr (by show lk [(s,v)] s=v;unfold lk;rw[VH];rfl),rfl,rfl⟩
theorem R2{P:Program}{h0:Nat}{fn:Func}{env:Env}{H Hc:Qc}{v v':A}(s t:Nat)(hr:fn.results= #[.tmp s,.tmp t])(hn:Nat.beq t s=false)(hle:Le h0 env H [(s,v),(t,v')] Hc):Qdk P h0 fn (λa H=>a=.tup [v,v']/\H=Hc) .ret env H:=
 ⟨[(s,v),(t,v')],Hc,_,hle,QlU hr (by show lk [(s,v),(t,v')] s=v;unfold lk;rw[VH];rfl) (by show lk [(s,v),(t,v')] t=v';unfold lk lk;rw[hn,VH];rfl),rfl,rfl⟩
theorem FzA.o{i k n:Nat}{es:List (List A)}(a:n=es.length:=by first|exact(X4 ..).symm|exact rfl):FzA i k es (.osl i 0 n k) (.rsl k es):=FzA.own a
end Go.Sw
namespace Go.Sw
theorem Le.env{h0:Nat}{env env':Env}{H:Qc}(h:∀s,lk env' s=.any\/lk env' s=lk env s):Le h0 env H env' H:=by
 intro d b σ N a w r;refine⟨b,σ,⟨r.sim,λs=>?_,r.size,r.defers⟩,λ_ q=>q,rfl⟩;rcases h s with h|h
 .rw[h];trivial
 .rw[h];exact r.env s
def Qn3(env:Env):Env->Prop
 |[]=>True
 |(s,a)::r=>lk env s=a/\Qn3 env r
theorem Qn3.ok{env:Env}:∀{env':Env},Qn3 env env'->∀s,lk env' s=.any\/lk env' s=lk env s
 |[],_,s=>.inl rfl
 |(d,a)::e,⟨h1,h2⟩,s=>by
  by_cases q:s=d
  .subst q;right;simp only[lk,VH,Vr];exact h1.symm
  .have:Nat.beq s d=false:=by
    rw[VO];intro b;exact q (XS b)
   simp only[lk,this,Vs];exact Qn3.ok h2 s
theorem Lw{h0:Nat}{env env':Env}{H:Qc}(h:Qn3 env env'):Le h0 env H env' H:=Le.env h.ok
theorem Qpj(n i:Nat):rho (List.range n) n i=i:=by
 unfold rho;by_cases h:i<n
 .rw[List.getElem?_range h]
 .rw[XQ (by rw[List.length_range];omega)];simp only[List.length_range];omega
mutual
theorem Qhf{ρ:Nat->Nat}(h:∀i,ρ i=i):∀a:A,YI ρ a=a
 |.ptr i off=>by simp[YI,h]
 |.osl i o n k=>by simp[YI,h]
 |.agg cs=>by simp[YI,QaZ h cs]
 |.fn f a c=>by simp[YI,QaZ h a,QaZ h c]
 |.iface t v=>by simp[YI,Qhf h v]
 |.map i=>by simp[YI,h]
 |.tup vs=>by simp[YI,QaZ h vs]
 |.any|.bool _|.int _ _|.str _|.nilp|.rp _|.nils|.rsl _ _|.nilf|.nilif|.nilm=>by rfl
theorem QaZ{ρ:Nat->Nat}(h:∀i,ρ i=i):∀l:List A,Qaa ρ l=l
 |[]=>rfl
 |a::r=>by simp[Qaa,Qhf h a,QaZ h r]
end
theorem QkB{ρ:Nat->Nat}(h:∀i,ρ i=i):∀l:List (List A),Qhe ρ l=l
 |[]=>rfl
 |a::r=>by simp[Qhe,QaZ h a,QkB h r]
theorem QkA{ρ:Nat->Nat}(h:∀i,ρ i=i):∀l:List (A×A),QjI ρ l=l
 |[]=>rfl
 |a::r=>by simp[QjI,Qhf h,QkA h r]
theorem Qoj{ρ:Nat->Nat}(h:∀i,ρ i=i):∀b:Blk,QW ρ b=b
 |.cells t cs=>by simp[QW,QaZ h cs]
 |.rowr t k es=>by simp[QW,QkB h es]
 |.ents t a b es=>by simp[QW,h]
 |.mapP es=>by simp[QW,QkA h es]
 |.dead|.row _ _ _|.map _|.iter _ _|.fmap _|.mapO _ _ _ _|.frow _ _ _=>by rfl
theorem Pw{P:Program}{h0 N:Nat}{all:Array Oper}{o:Oper}{l:List Oper}{env:Env}{H:Qc}{Q:QA}{d:Nat}{f:FuncId}{args:List A}{v h:A}(t:o.dst=some d)(g:OpC P o env H f args)(w:C P f args H (λa H1=>a=v/\H1=H))(m:QjE v=some (.mk h))
  (hg:Qp all o env true)(n:Nat.blt d N=true)(s:h0<=H.length)(k:WO P h0 N all l (up env d h) H Q):WO P h0 N all (o::l) env H Q:=by
 have e:=Qpj H.length;have u:H.map (QW (rho (List.range H.length) H.length))=H:=by
  conv=>rhs;rw[<- List.map_id H]
  exact List.map_congr_left λb _=>Qoj e b
 have j:(List.range H.length).map (λp=>H[p]?)=(H.map (QW (rho (List.range H.length) H.length))).map some:=by
  rw[u];apply List.ext_getElem?;intro i;by_cases q:i<H.length
  .simp[q]
  .simp[q]
 refine QQ (List.range H.length) g w ?_ (by rw[QaZ e]) j List.nodup_range hg t n (XU s);rintro r H1 ⟨rfl,rfl⟩;rw[Qkz m,QbQ _ _ _ j];exact k
def ixE(d:Nat)(g:Ground):Edge:={on:=d,ground:=g}
def ixO(d:Nat)(op:Op)(t:Nat)(pos:String)(af:Array Edge):Oper:={dst:=some d,op:=op,type:=t,pos:=pos,after:=af,guard:=none}
def QpP(ts te tf tI tB:Nat):Code:=
 (Code.region 0 [ixO 4 (.assign (.const (.int .i64 0))) tI "slices.go:107" #[]].toArray false).seq
  (((Code.region 1 [ixO 6 (.move (.tmp 0)) ts "slices.go:108" #[],ixO 7 (.call {callee:=.builtin .len,args:= #[.tmp 6],argTypes:= #[ts]}) tI "slices.go:108" #[ixE 0 .data],ixO 8 (.move (.const (.int .i64 0))) tI "slices.go:108" #[]].toArray false).seq
   (.block 0 (.loop ((Code.region 2 [ixO 9 (.binOp .lss tI (.tmp 8) (.tmp 7) tI) 0 "slices.go:108" #[]].toArray false).seq
    ((Code.cond (.tmp 9) .skip (.exit 0)).seq
    ((Code.block 1 ((Code.region 3 [ixO 10 (.move (.tmp 8)) tI "slices.go:108" #[],ixO 5 (.assign (.tmp 10)) tI "slices.go:108" #[ixE 0 .data,ixE 0 .phase]].toArray false).seq
     ((Code.region 4 [ixO 11 (.move (.tmp 1)) tf "slices.go:109" #[],ixO 12 (.move (.tmp 0)) ts "slices.go:109" #[],ixO 13 (.move (.tmp 5)) tI "slices.go:109" #[],ixO 14 (.indexAddr ts (.tmp 12) (.tmp 13)) 0 "slices.go:109" #[ixE 1 .data,ixE 2 .data],
       ixO 15 (.load te (.tmp 14)) te "slices.go:109" #[ixE 3 .data],ixO 16 (.call {callee:=.value (.tmp 11),args:= #[.tmp 15],argTypes:= #[te]}) tB "slices.go:109" #[ixE 0 .data,ixE 4 .data]].toArray false).seq
      (Code.cond (.tmp 16) ((Code.region 5 [ixO 17 (.move (.tmp 5)) tI "slices.go:110" #[],ixO 4 (.assign (.tmp 17)) tI "slices.go:110" #[ixE 0 .data,ixE 0 .phase]].toArray false).seq .ret) .skip)))).seq
     (Code.region 6 [ixO 18 (.binOp .add tI (.tmp 8) (.const (.int .i64 1)) tI) tI "slices.go:108" #[],ixO 8 (.move (.tmp 18)) tI "slices.go:108" #[ixE 0 .data]].toArray false))))))).seq
  ((Code.region 7 [ixO 4 (.assign (.const (.int .i64 (-1)))) tI "slices.go:113" #[]].toArray false).seq .ret))
theorem Yu{P:Program}{T:Type}{e:T->List A}{el:T->A}{R z tf X tB k:Nat}{Q m:FuncId}{fn:Func}{i:List A}{Hc:Qc}{L:List T}{g:T->Option Bool}{n:Nat}{r:Int}
  (hf:P.funcs[Q]?=some fn)(hb:fn.body=some (QpP R z tf X tB))(hN:fn.ntmps=19)(V:fn.results= #[.tmp 4])(O:∀w,(underlying R).run P w=.ok (.slice z) w)(Y:∀w,(sizeOf z).run P w=.ok k w)
  (G:∀(o:Oper) (env:Env) (H:Qc) (x:T),o.op=.load z (.tmp 14)->opA env (.tmp 14)=.rp (e x)->OpV P o env H (el x))
  (M:∀(a:Array Value) (w:World),(callFunc m a).run P w=.ok (.enter m a) w)
  (F:∀x b,g x=some b->C P m (el x::i) Hc (λa H=>a=.bool b/\H=Hc))
  (h:((iter (λs:Int=>bif decide (s<(L.length:Int))then(idx L s).bind λx=>(g x).bind λb=>(bif b then some (Ctl.done (Ctl.done s))else some (Ctl.cont (IntKind.i64.wrap (s+1))))else some (Ctl.done (Ctl.cont ()))) n (0:Int):Option (Ctl Unit Int)).bind λb=>match b with|.cont _=>some (-1)|.done s=>some s)=some r):
  C P Q [.rsl k (L.map e),.fn (.func m) [] i] Hc (λa H=>a=.int .i64 r/\H=Hc):=by
 refine Qb hf hb hN rfl ?_;refine Rg (S rfl (Nx (TC.seq (Rg (S rfl (LnM O rfl (S rfl (Nx (Bd h λN B h=>?_)))))))));refine QhP (b:=N) (λ_=>[]) (λ_=>Hc) ?_ (λsb10 env H hbe hle=>?_)
 .refine TC.block ?_;refine TC.loop (E:=λy=>[(0,.rsl k (L.map e)),(1,.fn (.func m) [] i),(7,.int .i64 (L.length:Int)),(8,.int .i64 y)]) (Hp:=λ_=>Hc) B ?_ ?_
  .exact Lw ⟨rfl,rfl,rfl,rfl,trivial⟩
  intro y W d l;refine Rg (S rfl (Nx (TC.seq (YH rfl d (λq d=>?_) (λq d=>?_)))))
  .refine ExX (Ql d ?_);obtain rfl:=l _ (Oi d).symm;exact bloE (Qo rfl (Lw trivial))
  refine SkN (TC.seq (TC.block (Rg (S rfl (S rfl (Nx (Rg (S rfl (S rfl (S rfl (Bd d λj p d=>Ix p O Y rfl ?_)))))))))));refine QK (x:=el j) rfl rfl rfl (G _ _ _ j rfl rfl) ?_;refine Bd d λJ t d=>?_;refine Pw rfl (Qch (f:=m) (x:=.tmp 11) (xs:=[.tmp 15]) (vf:=[]) (vc:=i) (args:=el j::i) M rfl rfl rfl rfl) (F j J t) rfl rfl rfl (XV _) ?_;refine Nx (Cn rfl d (λu d=>?_) (λu d=>?_))
  .refine Rg (S rfl (S rfl (Nx (TC.ret (bloR (seqR (QD d ?_)))))));obtain rfl:=l _ (Oi d).symm;refine bloR (Qs (seqR ?_));obtain rfl:=Oi h;exact R1 4 V (Lw ⟨rfl,trivial⟩)
  exact TC.skip (bloN (Qmw (TC.region (S rfl (S rfl (WO.nil (Qj d (Lw ⟨rfl,rfl,rfl,rfl,trivial⟩))))))))
 subst hbe;refine Qmw (TC.le hle (Rg (S rfl (Nx (TC.ret ?_)))));obtain rfl:=Oi h;exact R1 4 V (Lw ⟨rfl,trivial⟩)
end Go.Sw
namespace Go.Sw
inductive Kf where
 |seq (c:Code)
 |blo (id:Nat)
 |unr (c:Code)
inductive Cf where
 |code (c:Code)
 |ops (all:Array Oper) (l:List Oper)
 |out (x:AEx)
def kq(P:Program)(h0 N:Nat):List Kf->QA->QA
 |[],Q=>Q
 |.seq c::k,Q=>Seq P h0 N c (kq P h0 N k Q)
 |.blo id::k,Q=>Blo id (kq P h0 N k Q)
 |.unr c::k,Q=>Qke P h0 N c (kq P h0 N k Q)
@[reducible] def Hd(P:Program)(h0 N:Nat):Cf->List Kf->Env->Qc->QA->Prop
 |.code c,k,env,H,Q=>TC P h0 N c env H (kq P h0 N k Q)
 |.ops all l,k,env,H,Q=>WO P h0 N all l env H (kq P h0 N k Q)
 |.out x,k,env,H,Q=>kq P h0 N k Q x env H
def Qgd(T:TyX)(h0 N:Nat):Cf->List Kf->Env->Qc->Option (Cf×List Kf×Env×Qc)
 |.code (.seq a b),k,env,H=>some (.code a,.seq b::k,env,H)
 |.code (.block id c),k,env,H=>some (.code c,.blo id::k,env,H)
 |.code (.loop c),k,env,H=>some (.code c,.unr c::k,env,H)
 |.code .skip,k,env,H=>some (.out .normal,k,env,H)
 |.code .ret,k,env,H=>some (.out .ret,k,env,H)
 |.code (.exit id),k,env,H=>some (.out (.exit id),k,env,H)
 |.code (.region id ⟨l⟩ false),k,env,H=>some (.ops ⟨l⟩ l,k,env,H)
 |.code (.cond x a b),k,env,H=>match opB env x with
  |.mk (.bool true)=>some (.code a,k,env,H)
  |.mk (.bool false)=>some (.code b,k,env,H)
  |_=>none
 |.ops all [],k,env,H=>some (.out .normal,k,env,H)
 |.ops all (o::l),k,env,H=>match stX T h0 N all o env H with
  |some (env',H')=>some (.ops all l,k,env',H')
  |none=>none
 |.out .normal,.seq c::k,env,H=>some (.code c,k,env,H)
 |.out (.exit i),.seq _::k,env,H=>some (.out (.exit i),k,env,H)
 |.out .ret,.seq _::k,env,H=>some (.out .ret,k,env,H)
 |.out .normal,.blo _::k,env,H=>some (.out .normal,k,env,H)
 |.out (.exit i),.blo id::k,env,H=>match Nat.beq i id with
  |true=>some (.out .normal,k,env,H)
  |false=>some (.out (.exit i),k,env,H)
 |.out .ret,.blo _::k,env,H=>some (.out .ret,k,env,H)
 |.out .normal,.unr c::k,env,H=>some (.code c,.unr c::k,env,H)
 |.out (.exit i),.unr _::k,env,H=>some (.out (.exit i),k,env,H)
 |.out .ret,.unr _::k,env,H=>some (.out .ret,k,env,H)
 |_,_,_,_=>none
def QjH(T:TyX)(h0 N:Nat):Nat->Cf->List Kf->Env->Qc->Option (Cf×List Kf×Env×Qc)
 |0,c,k,env,H=>some (c,k,env,H)
 |n+1,c,k,env,H=>match Qgd T h0 N c k env H with
  |some (c',k',env',H')=>QjH T h0 N n c' k' env' H'
  |none=>none
section
variable {P:Program} {T:TyX} {h0 N:Nat} {Q:QA}
theorem Qmp(d:QbJ P T){c a:Cf}{k b:List Kf}{env env':Env}{H H':Qc}(h:Qgd T h0 N c k env H=some (a,b,env',H'))(g:Hd P h0 N a b env' H' Q):Hd P h0 N c k env H Q:=by
 unfold Qgd at h;split at h
 .cases h;exact TC.seq g
 .cases h;exact TC.block g
 .cases h;exact QlS g
 .cases h;exact TC.skip g
 .cases h;exact TC.ret g
 .cases h;exact TC.exit g
 .cases h;exact TC.region g
 .split at h
  .rename_i q;cases h;exact Qi9 (QE q) rfl g
  .rename_i q;cases h;exact Qja (QE q) rfl g
  .cases h
 .cases h;exact WO.nil g
 .split at h
  .rename_i q;cases h;exact Qjy d q g
  .cases h
 .cases h;exact Qmw g
 .cases h;exact seqX g
 .cases h;exact seqR g
 .cases h;exact bloN g
 .split at h
  .rename_i q;cases h;have:=XS q;subst this;exact bloE g
  .rename_i q;cases h;exact bloX q g
 .cases h;exact bloR g
 .cases h;exact unrN g
 .cases h;exact unrX g
 .cases h;exact unrR g
 .cases h
theorem QcT(hT:QbJ P T):∀(n:Nat) {c c':Cf} {k k':List Kf} {env env':Env} {H H':Qc},QjH T h0 N n c k env H=some (c',k',env',H')->Hd P h0 N c' k' env' H' Q->Hd P h0 N c k env H Q
 |0,c,c',k,k',env,env',H,H',h,g=>by cases h;exact g
 |n+1,c,c',k,k',env,env',H,H',h,g=>by
  unfold QjH at h;split at h
  .rename_i e;exact Qmp hT e (QcT hT n h g)
  .cases h
theorem Qkt{env:Env}{s:Nat}{a:A}(h:lk env s=a):∀t,lk (up env s a) t=lk env t:=by
 intro t;simp only[up,lk];cases q:Nat.beq t s with
 |true=>have:=XS q;subst this;exact h.symm
 |false=>rfl
theorem Is{α:Type}{all:Array Oper}{l:List Oper}{env:Env}{H:Qc}{b:Bool}{x y:Option α}{r:α}(s:Nat)(h:(bif b then x else y)=some r)(d:lkB env s=.mk (.bool b))
  (t:b=true->x=some r->WO P h0 N all l (up env s (.bool true)) H Q)(e:b=false->y=some r->WO P h0 N all l (up env s (.bool false)) H Q):WO P h0 N all l env H Q:=by
 have a:=QjQ d;cases b with
 |true=>exact WO.le (Le.env λt=>.inr (Qkt a t)) (t rfl h)
 |false=>exact WO.le (Le.env λt=>.inr (Qkt a t)) (e rfl h)
theorem Ct3E{S B1:Type}{A B C:Code}{env:Env}{H:Qc}{k:List Kf}{b:Ctl S B1}(Eb:S->Env)(Hb:S->Qc)(h:TC P h0 N A env H (kq P h0 N [.seq B] (Qg0 h0 b Eb Hb (kq P h0 N (.seq C::k) Q))))(g:∀s env H,b=.cont s->Le h0 env H (Eb s) (Hb s)->kq P h0 N (.seq C::k) Q .normal env H):TC P h0 N (.seq A (.seq B C)) env H (kq P h0 N k Q):=
 QnM Eb Hb h g
end
def dstN(o:Oper)(i:Nat):Nat:=match o.dst with|some d=>d|none=>1000000+i
def Qbj:Nat->Nat->List Oper->List Nat
 |0,_,_=>[]
 |_+1,_,[]=>[]
 |m+1,i,o::l=>dstN o i::Qbj m (i+1) l
def YA(af:List Nat):Nat->List Nat->List A->Env->Env
 |j,d::ds,x::xs,e=>(d,bif QdF af j then x else .any)::YA af (j+1) ds xs e
 |j,d::ds,[],e=>(d,.any)::YA af (j+1) ds [] e
 |_,[],_,e=>e
theorem Qf4{l:List Nat}{t:Nat}:QdF l t=l.contains t:=by
 induction l with
 |nil=>rfl
 |cons a r d=>
  unfold QdF;rw[List.contains_cons,d];cases q:Nat.beq a t with
  |true=>have:=XS q;subst this;simp
  |false=>
   have b:t≠a:=λz=>by subst z;rw[VH]at q;cases q
   simp[b]
theorem QkT{af:List Nat}{env0:Env}{s:Nat}:∀(a:List Nat) (xs i:List A) (b:Nat),
  (∃(j:Nat) (x:A),af.contains (b+j)=true/\a[j]?=some s/\(xs++i)[j]?=some x/\lk (YA af b a xs env0) s=x)\/lk (YA af b a xs env0) s=.any\/(a.contains s=false/\lk (YA af b a xs env0) s=lk env0 s):=by
 intro a
 induction a with
 |nil=>intro xs i b;right;right;exact⟨rfl,by cases xs<;>rfl⟩
 |cons d a p=>
  intro xs i b;have next:∀(e:List A),(∃(j:Nat) (x:A),af.contains (b+1+j)=true/\a[j]?=some s/\(e++i)[j]?=some x/\lk (YA af (b+1) a e env0) s=x)->∀n,(∃(j:Nat) (x:A),af.contains (b+j)=true/\(d::a)[j]?=some s/\(n::e++i)[j]?=some x/\lk (YA af (b+1) a e env0) s=x):=by
   rintro e ⟨j,x,k,g,l,m⟩ n;exact⟨j+1,x,by rw[show b+(j+1)=b+1+j by omega];exact k,by simpa using g,by simpa using l,m⟩
  cases xs with
  |nil=>
   cases q:Nat.beq s d with
   |true=>right;left;simp only[YA,lk,q,Vr]
   |false=>
    have f:s≠d:=λz=>by subst z;rw[VH]at q;cases q
    simp only[YA,lk,q,Vs];rcases p [] [] (b+1)with⟨j,x,k,g,l,m⟩|h|⟨k,g⟩
    .simp at l
    .exact .inr (.inl h)
    .exact .inr (.inr ⟨by rw[List.contains_cons,k];simpa using f,g⟩)
  |cons x xs=>
   cases q:Nat.beq s d with
   |true=>
    have:=XS q;subst this;simp only[YA,lk,q,Vr];cases c:QdF af b with
    |true=>left;exact⟨0,x,by rw[<- Qf4];exact c,rfl,rfl,rfl⟩
    |false=>right;left;rfl
   |false=>
    have f:s≠d:=λz=>by subst z;rw[VH]at q;cases q
    simp only[YA,lk,q,Vs];rcases p xs i (b+1)with h|h|⟨k,g⟩
    .exact .inl (next xs h x)
    .exact .inr (.inl h)
    .exact .inr (.inr ⟨by rw[List.contains_cons,k];simpa using f,g⟩)
section
variable {P:Program} {T:TyX} {h0 N m:Nat} {l:List Oper} {ds:List Nat} {env:Env} {H:Qc} {Q:QA} {K:List Oper->Env->Qc->Prop}
def DS(P:Program)(N m:Nat)(l:List Oper)(ds:List Nat)(env:Env)(H:Qc)(K:List Oper->Env->Qc->Prop)(r:List Oper)(xs:List A):Prop:=
 r=l.drop xs.length->∃ys,xs.length+ys.length=m/\(∀j,xs.length<=j->j<m->JJ P N l ds (xs++ys) env H.length H.length j H H)/\K (l.drop m) (Qay ds (xs++ys) env) H
theorem oqOf{xs:List A}:∀(c i:Nat),(∀j,i<=j->j<i+c->JJ P N l ds xs env H.length H.length j H H)->Oq P N l ds xs env H i c
 |0,i,_=>.n
 |c+1,i,h=>.c (h i (XV _) (by omega)) (oqOf c (i+1) λj h1 h2=>h j (by omega) (by omega))
theorem Qn8{id:Nat}{k:List Kf}(m:Nat)(i:P.follows .mixedOrders=true)(g:Go.Sw.draw0 l m N (Qbj m 0 l)=true)(a:Nat.ble h0 H.length=true)
  (h:DS P N m l (Qbj m 0 l) env H (λr e H=>WO P h0 N l.toArray r e H Q) l []):TC P h0 N (.region id l.toArray true) env H Q:=by
 obtain⟨n,f,b,d⟩:=h rfl;simp only[List.length_nil,Xx,Vj]at f b d;exact TC.draw0 m _ n i g (by rw[f];exact VH m) a (oqOf m 0 λj _ q=>b j (XW _) (by omega)) d
theorem DS.done{xs:List A}{r:List Oper}(a:Nat.beq xs.length m=true)(h:K r (Qay ds xs env) H):DS P N m l ds env H K r xs:=by
 intro b;have e:=XS a;subst b;refine⟨[],by simpa using e,λj d f=>by omega,?_⟩;rw[<- e,Vi];exact h
theorem DS.add{xs:List A}{o:Oper}{r:List Oper}{x:A}(i:Nat.blt xs.length m=true)(g:∀ys,l[xs.length]?=some o->JJ P N l ds (xs++x::ys) env H.length H.length xs.length H H)(k:DS P N m l ds env H K r (xs++[x])):DS P N m l ds env H K (o::r) xs:=by
 intro b;have a:xs.length<l.length:=by
  rcases VE xs.length l.length with q|q
  .exact q
  .rw[List.drop_eq_nil_of_le q]at b;cases b
 rw[Xr a]at b;cases b;obtain⟨ys,h,e,d⟩:=k (by simp);simp only[X5,X3,List.length_nil,Vk,VM,Vj]at h e d;refine⟨x::ys,by simp only[X3];omega,λj n f=>?_,d⟩;rcases VE xs.length j with q|q
 .exact e j (by omega) f
 .obtain rfl:j=xs.length:=by omega
  exact g ys (XM a)
theorem Qiw{xs a:List A}{x:A}:(xs++x::a)[xs.length]?=some x:=by simp
theorem DS.wo{xs:List A}{o:Oper}{r:List Oper}{x:A}{d:Nat}(h:WO P H.length N l.toArray [o] (YA (Qg o) 0 ds xs env) H (Ja (up (YA (Qg o) 0 ds xs env) d x) H))(k:DS P N m l ds env H K r (xs++[x]))
  (f:o.dst=some d:=by exact rfl)(hx:Nat.blt xs.length m=true:=by exact rfl):DS P N m l ds env H K (o::r) xs:=
 .add hx (λi g=>.woE o _ d x g f Qiw (he:=by
  intro s;rcases QkT (af:=Qg o) (env0:=env) (s:=s) ds xs (x::i) 0 with⟨j,y,a,n,e,b⟩|q|q
  .rw[Xx]at a;exact .inl ⟨j,y,a,n,e,b⟩
  .exact .inr (.inl q)
  .exact .inr (.inr q)) (hdd:=Qee H) (h:=h)) k
theorem DS.v{xs:List A}{o:Oper}{r:List Oper}{x:A}{d:Nat}(h:OpV P o (YA (Qg o) 0 ds xs env) H x)(k:DS P N m l ds env H K r (xs++[x]))(hg:Qp l.toArray o (YA (Qg o) 0 ds xs env) true:=by exact rfl)
  (hd:o.dst=some d:=by exact rfl)(hN:Nat.blt d N=true:=by exact rfl)(hx:Nat.blt xs.length m=true:=by exact rfl):DS P N m l ds env H K (o::r) xs:=
 .wo (QK hg hd hN h (WO.nil Ja.mk)) k hd hx
def Qev:List A->A->FL
 |[],x=>.mk [x]
 |a::r,x=>match Qev r x with
  |.mk r'=>.mk (a::r')
theorem Qan:∀(l:List A) (x:A),Qev l x=.mk (l++[x])
 |[],x=>rfl
 |a::r,x=>by unfold Qev;rw[Qan r];rfl
def Qif(T:TyX)(N m:Nat)(l:List Oper)(ds:List Nat)(env:Env)(H:Qc):Nat->Nat->List Oper->List A->Option (List Oper×List A)
 |0,_,r,xs=>some (r,xs)
 |_+1,_,[],_=>none
 |n+1,i,o::r,xs=>match Nat.blt i m with
  |false=>none
  |true=>match o.dst with
   |none=>none
   |some d=>match Nat.blt d N with
    |false=>none
    |true=>match Y4 ⟨l⟩ o (YA (Qg o) 0 ds xs env)with
     |none=>none
     |some false=>match Qev xs (.tup [])with
      |.mk xs'=>Qif T N m l ds env H n (i+1) r xs'
     |some true=>match QeN T o (YA (Qg o) 0 ds xs env) H with
      |none=>none
      |some x=>match Qev xs x with
       |.mk xs'=>Qif T N m l ds env H n (i+1) r xs'
theorem QeX(hT:QbJ P T):∀(n i:Nat) {r r':List Oper} {xs xs':List A},i=xs.length->Qif T N m l ds env H n i r xs=some (r',xs')->DS P N m l ds env H K r' xs'->DS P N m l ds env H K r xs
 |0,i,r,r',xs,xs',_,h,k=>by cases h;exact k
 |n+1,i,[],r',xs,xs',_,h,k=>by cases h
 |n+1,i,o::r,r',xs,xs',hi,h,k=>by
  subst hi;unfold Qif at h;split at h
  .cases h
  .rename_i q1;split at h
   .cases h
   .rename_i d hd;split at h
    .cases h
    .rename_i q2;split at h
     .cases h
     .rename_i hw;simp only[Qan]at h;exact .wo (WO.skip (Q2 hw) hd q2 (WO.nil Ja.mk)) (QeX hT n _ (by simp) h k) hd q1
     .rename_i hw;split at h
      .cases h
      .rename_i x hv;simp only[Qan]at h;exact .v (Qbp hT hv) (QeX hT n _ (by simp) h k) (Q2 hw) hd q2 q1
def Qmv:List A->Nat->A->FL
 |[],_,_=>.mk []
 |_::r,0,x=>.mk (x::r)
 |a::r,n+1,x=>match Qmv r n x with
  |.mk r'=>.mk (a::r')
theorem Qdw:∀{l:List A} {n:Nat} {x:A},Y3 l n=some x->Qmv l n x=.mk l
 |[],n,x,h=>by cases h
 |a::r,0,x,h=>by cases h;rfl
 |a::r,n+1,x,h=>by unfold Qmv;rw[Qdw (l:=r) (n:=n) h]
theorem Qla{α:Type}{b:Bool}{x y:Option α}{v:α}{xs f a:List A}{r:List Oper}(j:Nat)(h:(bif b then x else y)=some v)(d:Y3 xs j=some (.bool b))(g:Qmv xs j (.bool true)=.mk f)(i:Qmv xs j (.bool false)=.mk a)
  (t:b=true->x=some v->DS P N m l ds env H K r f)(e:b=false->y=some v->DS P N m l ds env H K r a):DS P N m l ds env H K r xs:=by
 cases b with
 |true=>rw[Qdw d]at g;cases g;exact t rfl h
 |false=>rw[Qdw d]at i;cases i;exact e rfl h
end
end Go.Sw
namespace Go.Sw
@[reducible] def RQ{β:Type}(w:β->A)(Hc:β->Qc)(r:β):A->Qc->Prop:=λa H=>a=w r/\H=Hc r
@[reducible] def Csm{β:Type}(P:Program)(f:FuncId)(args:List A)(H:Qc)(w:β->A)(r:β):Prop:=C P f args H (RQ w (λ_=>H) r)
structure TyZ where
 sl:List (Nat×Nat×Nat)
 fn:List Nat
structure Qdg (P:Program) (Z:TyZ):Prop where
 sl:∀e∈Z.sl,(∀w,(underlying e.1).run P w=.ok (.slice e.2.1) w)/\ ∀w,(sizeOf e.2.1).run P w=.ok e.2.2 w
 fn:∀f∈Z.fn,∀(a:Array Value) (w:World),(callFunc f a).run P w=.ok (.enter f a) w
section
variable {P:Program} {Z:TyZ} {h0 N:Nat} {all:Array Oper} {o:Oper} {l:List Oper} {env:Env} {H:Qc} {Q:QA} {d:Nat}
theorem Izz(b:Qdg P Z){α:Type}{e:α->List A}{t et k:Nat}{L:List α}{a:IntKind}{i:Int}{v:α}(h:idx L i=some v)(q:ixB o env=some (d,t,k,L.map e,a,i))(g:WO P h0 N all l (up env d (.rp (e v))) H Q)
  (n:Qck Z.sl t=some (et,k))(hg:Y4 all o env=some true)(j:Nat.blt d N=true):WO P h0 N all (o::l) env H Q:=by
 obtain⟨m,f⟩:=b.sl _ (Qaz n);exact Ix h m f q g (Q2 hg) j
theorem Ize(b:Qdg P Z){α:Type}{e:α->List A}{t et k:Nat}{L:List α}{a:IntKind}{i:Int}{v:α}{cs:List A}(h:idx L i=some v)(he:e v=cs)(q:ixB o env=some (d,t,k,L.map e,a,i))(g:WO P h0 N all l (up env d (.rp cs)) H Q)
  (f:Qck Z.sl t=some (et,k))(hg:Y4 all o env=some true)(j:Nat.blt d N=true):WO P h0 N all (o::l) env H Q:=by
 subst he;exact Izz b h q g f hg j
theorem Lmz(a:Qdg P Z){α:Type}{e:α->List A}{t et k h:Nat}{L:List α}(q:lnB o env=some (d,t,.mk (.rsl k (L.map e))))(g:WO P h0 N all l (up env d (.int .i64 L.length)) H Q)
  (i:Qck Z.sl t=some (et,h))(hg:Y4 all o env=some true)(b:Nat.blt d N=true):WO P h0 N all (o::l) env H Q:=by
 obtain⟨f,j⟩:=a.sl _ (Qaz i);exact LnM f q g (Q2 hg) b
def Qf8(Z:TyZ)(o:Oper)(env:Env):Option (Nat×Nat×List A):=
 match o.dst with
 |none=>none
 |some d=>match o.op with
  |.call {callee:=.value (.func f),args:=⟨xs⟩,argTypes:=_}=>bif QdF Z.fn f then(match fl (Qip env xs)with|.mk ax=>some (d,f,ax))else none
  |.call {callee:=.value (.tmp x),args:=⟨xs⟩,argTypes:=_}=>match opB env (.tmp x)with
   |.mk (.fn (.func f) vf vc)=>bif QdF Z.fn f then(match fl (vf++(Qip env xs++vc))with|.mk ax=>some (d,f,ax))else none
   |_=>none
  |_=>none
theorem QeE(g:Qdg P Z){f:Nat}{args:List A}(h:Qf8 Z o env=some (d,f,args)):o.dst=some d/\OpC P o env H f args:=by
 unfold Qf8 at h;split at h
 .cases h
 .rename_i m e;split at h
  .rename_i a xs i b;cases q:QdF Z.fn a with
   |false=>rw[q]at h;cases h
   |true=>
    rw[q]at h;simp only[Qcr,Vr]at h;cases h;exact⟨e,OpC.fn (xs:=xs) (g.fn _ (Qhl q)) b rfl (Qc1 xs).symm⟩
  .rename_i x xs i b;split at h
   .rename_i a k l j;cases q:QdF Z.fn a with
    |false=>rw[q]at h;cases h
    |true=>
     rw[q]at h;simp only[Qcr,Vr]at h;cases h;exact⟨e,Qch (xs:=xs) (g.fn _ (Qhl q)) b rfl (QE j) (by rw[Qc1])⟩
   .cases h
  .cases h
theorem Czz(n:Qdg P Z){β γ:Type}{F:Option β}{F':β->Option γ}{r:γ}{f:Nat}{args a:List A}{Hc:Qc}{w:β->A}(π:List Nat)(h:F.bind F'=some r)(s:∀v,F=some v->C P f a Hc (RQ w (λ_=>Hc) v))
  (b:Qf8 Z o env=some (d,f,args))(g:∀v,F=some v->F' v=some r->WO P h0 N all l (up env d (w v)) H Q)(i:∀v,QjE (w v)=some (.mk (w v)))
  (hargs:args=Qaa (rho π H.length) a)(hH:π.map (λp=>H[p]?)=(Hc.map (QW (rho π H.length))).map some)(hπ:π.Nodup)(hg:Y4 all o env=some true)(j:Nat.blt d N=true)(k:Nat.ble h0 H.length=true):WO P h0 N all (o::l) env H Q:=by
 obtain⟨v,e,q⟩:=bnd h;obtain⟨t,m⟩:=QeE (H:=H) n b;exact Pc π t m (s v e) (i v) (g v e q) hargs hH hπ (Q2 hg) j k
theorem DzZ(x:Qdg P Z){K:List Oper->Env->Qc->Prop}{m:Nat}{i:List Oper}{b:List Nat}{xs:List A}{β γ:Type}{F:Option β}{F':β->Option γ}{r:γ}{f:Nat}{args a:List A}{Hc:Qc}{w:β->A}(π:List Nat)(h:F.bind F'=some r)(n:∀v,F=some v->C P f a Hc (RQ w (λ_=>Hc) v))
  (e:Qf8 Z o (YA (Qg o) 0 b xs env)=some (d,f,args))(g:∀v,F=some v->F' v=some r->DS P N m i b env H K l (xs++[w v]))(q:∀v,QjE (w v)=some (.mk (w v)))
  (hargs:args=Qaa (rho π H.length) a)(hH:π.map (λp=>H[p]?)=(Hc.map (QW (rho π H.length))).map some)(hπ:π.Nodup)(hg:Y4 i.toArray o (YA (Qg o) 0 b xs env)=some true)(s:Nat.blt d N=true)(u:Nat.blt xs.length m=true):DS P N m i b env H K (o::l) xs:=by
 obtain⟨v,k,y⟩:=bnd h;obtain⟨j,t⟩:=QeE (H:=H) x e;exact .wo (Pc π j t (n v k) (q v) (WO.nil Ja.mk) hargs hH hπ (Q2 hg) s (XU (XV _))) (g v k y) j u
theorem ln:Qbn H [] []:=trivial
theorem ls{ax b:List A}{a:A}(k:Qbn H ax b)(h:Yw a=true:=by exact rfl):Qbn H (a::ax) (a::b):=⟨.inl ⟨rfl,h⟩,k⟩
theorem lo{ax a:List A}{i n k t:Nat}{es:List (List A)}(b:Qbn H ax a)(hH:H[i]?=some (.row t k es):=by exact rfl)(hn:es.length=n:=by exact X4 ..):Qbn H (.osl i 0 n k::ax) (.rsl k es::a):=
 ⟨.inr ⟨_,_,_,_,_,rfl,hH,hn,rfl⟩,b⟩
theorem Cbz(m:Qdg P Z){β γ:Type}{F:Option β}{F':β->Option γ}{r:γ}{f:Nat}{args a:List A}{w:β->A}(h:F.bind F'=some r)(p:∀v,F=some v->C P f a [] (RQ w (λ_=>[]) v))
  (b:Qf8 Z o env=some (d,f,args))(s:Qbn H args a)(g:∀v,F=some v->F' v=some r->WO P h0 N all l (up env d (w v)) H Q)(i:∀v,Yv (w v)=true)
  (hg:Y4 all o env=some true)(j:Nat.blt d N=true):WO P h0 N all (o::l) env H Q:=by
 obtain⟨v,e,n⟩:=bnd h;obtain⟨q,k⟩:=QeE (H:=H) m b;refine Qi7 k s (p v e) ?_ ?_ (Q2 hg) q j
 .rintro _ _ ⟨rfl,rfl⟩;exact i v
 .rintro _ _ ⟨rfl,rfl⟩;exact g v e n
end
def ixL:List Nat:=[0,1,2,3,4,5,6,7,8,9,10,11,12,13,14,15,16,17,18,19,20,21,22,23,24,25,26,27,28,29,30,31,32,33,34,35,36,37,38,39,40,41,42,43,44,45,46,47,48,49,50,51,52,53,54,55,56,57,58,59,60,61,62,63]
def Qll:List Nat->List Nat->Nat->FN
 |a::r,b::s,j=>bif Nat.beq a j then .mk b else Qll r s j
 |_,_,j=>.mk j
mutual
def cpA(sel:List Nat):A->Bx
 |.ptr i off=>match Qll sel ixL i with
  |.mk j=>.mk (.ptr j off)
 |.osl i o n k=>match Qll sel ixL i with
  |.mk j=>.mk (.osl j o n k)
 |.map i=>match Qll sel ixL i with
  |.mk j=>.mk (.map j)
 |.fn f a c=>match cpL sel a,cpL sel c with
  |.mk a',.mk c'=>.mk (.fn f a' c')
 |a=>.mk a
def cpL(sel:List Nat):List A->FL
 |[]=>.mk []
 |a::r=>match cpA sel a,cpL sel r with
  |.mk a',.mk r'=>.mk (a'::r')
end
inductive FV where
 |mk (e:Env)
def QmZ(sel:List Nat)(env:Env):List Nat->Env->FV
 |[],nE=>.mk nE
 |s::r,nE=>match lkB env s with
  |.mk a=>match cpA sel a,QmZ sel env r nE with
   |.mk a',.mk e=>.mk ((s,a')::e)
def selH(H:Qc):List Nat->List Nat->List (Nat×Blk)->FB
 |a::r,p::ps,[]=>match Y3 H a,selH H r ps []with
  |some b,.mk l=>.mk (b::l)
  |none,.mk l=>.mk l
 |a::r,p::ps,(q,b)::n=>bif Nat.beq p q then(match selH H r ps n with|.mk l=>.mk (b::l))else(match Y3 H a,selH H r ps ((q,b)::n)with
  |some b,.mk l=>.mk (b::l)
  |none,.mk l=>.mk l)
 |_,_,_=>.mk []
def Qnx(sel keep:List Nat)(nE:Env)(nH:List (Nat×Blk))(env:Env)(H:Qc):Option (Env×Qc):=
 match QmZ sel env keep nE,selH H sel ixL nH with
 |.mk e,.mk h=>some (e,h)
section
variable {P:Program} {h0 N:Nat} {c:Code} {env:Env} {H:Qc} {Q:QA}
def CutQ{β:Type}(h0:Nat)(b:β)(E':β->Env)(H':β->Qc)(Q:QA):QA
 |.normal,env,H=>Le h0 env H (E' b) (H' b)
 |.exit id,env,H=>Q (.exit id) env H
 |.ret,env,H=>Q .ret env H
theorem QC{h0:Nat}{env:Env}{H:Qc}{Q:QA}{β:Type}{b:β}{E':β->Env}{H':β->Qc}(h:Le h0 env H (E' b) (H' b)):CutQ h0 b E' H' Q .normal env H:=h
theorem Ct{β:Type}{E':β->Env}{H':β->Qc}(b:β)(sel keep:List Nat)(nE:β->Env)(nH:β->List (Nat×Blk))(_:∀b,Qnx sel keep (nE b) (nH b) env H=some (E' b,H' b))(h:TC P h0 N c env H (CutQ h0 b E' H' Q))(k:∀env H,Le h0 env H (E' b) (H' b)->Q .normal env H):TC P h0 N c env H Q:=
 h.mono λx env' H' q=>by
  cases x with
  |normal=>exact k _ _ q
  |exit id=>exact q
  |ret=>exact q
theorem CtE{S B:Type}{b:Ctl S B}{E':S->Env}{H':S->Qc}(sel keep:List Nat)(nE:S->Env)(nH:S->List (Nat×Blk))(_:∀s,Qnx sel keep (nE s) (nH s) env H=some (E' s,H' s))(h:TC P h0 N c env H (Qg0 h0 b E' H' Q))(k:∀s env H,b=.cont s->Le h0 env H (E' s) (H' s)->Q .normal env H):TC P h0 N c env H Q:=QhP E' H' h k
theorem Lp{S B:Type}{step:S->Option (Ctl S B)}{E':S->Env}{H':S->Qc}{m:Nat}{s0:S}{b0:B}(sel keep:List Nat)(nE:S->Env)(nH:S->List (Nat×Blk))(h:iter step m s0=some b0)(_:∀s,Qnx sel keep (nE s) (nH s) env H=some (E' s,H' s))(hI:Le h0 env H (E' s0) (H' s0))
  (body:∀s d,step s=some d->(∀b,d=.done b->b=b0)->TC P h0 N c (E' s) (H' s) (Qbm (λs env H=>Le h0 env H (E' s) (H' s)) d Q)):TC P h0 N (.loop c) env H Q:=TC.loop E' H' h hI body
end
theorem Oj{S B:Type}{d:Ctl S B}{x b0:B}(hb:∀b,d=.done b->b=b0)(h:some (Ctl.done x)=some d):x=b0:=hb x (Oi h).symm
theorem Rt{P:Program}{h0:Nat}{fn:Func}{env:Env}{H:Qc}{β:Type}{e r:β}{w:β->A}{Hc:β->Qc}(h:some e=some r)(s:Nat)(π:List Nat)(a:fn.results= #[.tmp s]:=by exact rfl)(hpre:π.take h0=List.range h0:=by exact rfl)
  (hH:π.map (λp=>H[p]?)=((Hc e).map (QW (rho π H.length))).map some:=by exact rfl)(hπ:π.Nodup:=by decide)(hE:Qel (rho π H.length) env [(s,w e)]:=by exact⟨rfl,trivial⟩):Qdk P h0 fn (RQ w Hc r) .ret env H:=by
 cases h;exact R1 s a (Lr π hpre hH hπ hE)
theorem Cl{h0:Nat}{env:Env}{H:Qc}{Q:QA}{β:Type}{e b:β}{E':β->Env}{H':β->Qc}(h:some e=some b)(π:List Nat)(a:π.take h0=List.range h0:=by exact rfl)
  (hH:π.map (λp=>H[p]?)=((H' e).map (QW (rho π H.length))).map some:=by exact rfl)(hπ:π.Nodup:=by decide)(hE:Qel (rho π H.length) env (E' e):=by(repeat' (first|exact trivial|refine⟨rfl,?_⟩))):CutQ h0 b E' H' Q .normal env H:=by
 cases h;exact Lr π a hH hπ hE
end Go.Sw
namespace Go.Sw
def plC(cat:List Nat):List (List (Nat×Nat)):=cat.map λc=>match c with|0=>[(0,0)]|1=>[(0,1)]|2=>[(1,1)]|_=>[(0,0),(1,1)]
def rqC(b:Nat)(cat:List Nat):List (List Nat):=cat.map λc=>match c with|2=>[b]|_=>[]
def hsC(cat:List Nat):List Bool:=cat.map λc=>match c with|1=>true|_=>false
section
variable {P:Program} {T:TyX} {h0 N m b:Nat} {cat:List Nat} {l:List Oper} {ds:List Nat} {env:Env} {H H1:Qc} {Q:QA} {K:List Oper->Env->Qc->Prop}
theorem QhT{P:Program}{N:Nat}{l:List Oper}{ds:List Nat}{xs:List A}{env0:Env}{hB hE:Nat}:∀(ss:List (List (Qc×Qc))) (b:Nat),(∀i s,ss[i]?=some s->∀p∈s,JJ P N l ds xs env0 hB hE (b+i) p.1 p.2)->QhU P N l ds xs env0 hB hE b ss
 |[],b,h=>.nil
 |s::ss,b,h=>.cons (h 0 s rfl) (QhT ss (b+1) λi s' hs=>by rw[show b+1+i=b+(i+1)by omega];exact h (i+1) s' hs)
def Dob(P:Program)(N:Nat)(cat:List Nat)(l:List Oper)(ds:List Nat)(env:Env)(H H1:Qc)(zs:List A)(j:Nat):Prop:=
 ∀p∈(plC cat).getD j [],JJ P N l ds zs env H.length H.length j ([H,H1].getD p.1 []) ([H,H1].getD p.2 [])
def DB(P:Program)(N m:Nat)(cat:List Nat)(l:List Oper)(ds:List Nat)(env:Env)(H H1:Qc)(K:List Oper->Env->Qc->Prop)(r:List Oper)(xs:List A):Prop:=
 r=l.drop xs.length->∃ys,xs.length+ys.length=m/\(∀j,xs.length<=j->j<m->Dob P N cat l ds env H H1 (xs++ys) j)/\K (l.drop m) (Qay ds (xs++ys) env) H1
def DA(P:Program)(N m:Nat)(cat:List Nat)(l:List Oper)(ds:List Nat)(env:Env)(H:Qc)(K:List Oper->Env->Qc->Prop)(r:List Oper)(xs:List A):Prop:=
 r=l.drop xs.length->∃ys H1,xs.length+ys.length=m/\H.length<=H1.length/\(∀j,xs.length<=j->j<m->Dob P N cat l ds env H H1 (xs++ys) j)/\K (l.drop m) (Qay ds (xs++ys) env) H1
theorem Qqa{f:List A}(a:cat.length=m)(g:∀j,0<=j->j<m->Dob P N cat l ds env H H1 f j):QhU P N l ds f env H.length (H.length+0) 0 ((plC cat).map λq=>q.map λp=>([H,H1].getD p.1 [],[H,H1].getD p.2 [])):=by
 refine QhT _ 0 λi s b p k=>?_;rw[Xq]at b;cases e:(plC cat)[i]? with
 |none=>rw[e]at b;cases b
 |some q=>
  rw[e]at b;cases b;obtain⟨n,d,rfl⟩:=Xf.1 k;have h:i<m:=by
   have:=(XN.1 e).1;simpa[plC,a]using this
  have:=g i (XW _) h n (by rw[QkN e];exact d);simpa using this
theorem DA.len(a:H.length<=H1.length):[H,H1].all (λX=>Nat.ble (H.length+0) X.length)=true:=by
 simp only[List.all_cons,List.all_nil,Bool.and_true,Xy,XY];exact⟨XU (XV _),XU a⟩
theorem Qob{id:Nat}(m b:Nat)(cat:List Nat)(n:P.follows .mixedOrders=true)(k:Qed l m N (Qbj m 0 l) (hsC cat) (rqC b cat) [[],[b]] (plC cat)=true)(d:Nat.beq cat.length m=true)(f:Nat.ble h0 H.length=true)
  (h:DA P N m cat l (Qbj m 0 l) env H (λr e H=>WO P h0 N l.toArray r e H Q) l []):TC P h0 N (.region id l.toArray true) env H Q:=by
 obtain⟨q,H1,j,p,g,i⟩:=h rfl;simp only[List.length_nil,Xx,Vj]at j g i;have a:=XS d;exact Qb4 m 0 _ _ _ _ _ q [H,H1] H1 n k (by rw[j];exact VH m) rfl f (DA.len p) (by simp) rfl (Qqa a g) (by simp[plC,a]) i
theorem Qbk{xs:List A}{o:Oper}{r:List Oper}(b:o::r=l.drop xs.length):l[xs.length]?=some o/\r=l.drop (xs.length+1):=by
 have a:xs.length<l.length:=by
  rcases VE xs.length l.length with q|q
  .exact q
  .rw[List.drop_eq_nil_of_le q]at b;cases b
 rw[Xr a]at b;cases b;exact⟨XM a,rfl⟩
theorem QhY{zs:List A}{j c:Nat}(b:Y3 cat j=some c)(h:∀p∈(match c with|0=>[(0,0)]|1=>[(0,1)]|2=>[(1,1)]|_=>[(0,0),(1,1)]:List (Nat×Nat)),JJ P N l ds zs env H.length H.length j ([H,H1].getD p.1 []) ([H,H1].getD p.2 [])):Dob P N cat l ds env H H1 zs j:=by
 intro p a;rw[QaD]at b;unfold plC at a;rw[VN,Xq,b]at a;exact h p a
theorem QaC{hB hE:Nat}{xs a:List A}{o:Oper}{x:A}{d:Nat}{X X':Qc}(g:l[xs.length]?=some o)(hdd:Qaw hB hE X X'=true)(h:WO P X.length N l.toArray [o] (YA (Qg o) 0 ds xs env) X (Ja (up (YA (Qg o) 0 ds xs env) d x) X'))(f:o.dst=some d):
  JJ P N l ds (xs++x::a) env hB hE xs.length X X':=
 .woE o _ d x g f Qiw (he:=by
  intro s;rcases QkT (af:=Qg o) (env0:=env) (s:=s) ds xs (x::a) 0 with⟨j,y,b,k,i,e⟩|q|q
  .rw[Xx]at b;exact .inl ⟨j,y,b,k,i,e⟩
  .exact .inr (.inl q)
  .exact .inr (.inr q)) (hdd:=hdd) (h:=h)
theorem Je{n:Nat}{X X':Qc}:Qaw n n X X'=true:=by unfold Qaw;rw[Nat.sub_self];rfl
theorem DA.wo{xs:List A}{o:Oper}{r:List Oper}{x:A}{d:Nat}(h:WO P H.length N l.toArray [o] (YA (Qg o) 0 ds xs env) H (Ja (up (YA (Qg o) 0 ds xs env) d x) H))(k:DA P N m cat l ds env H K r (xs++[x]))
  (f:Y3 cat xs.length=some 0:=by exact rfl)(hd:o.dst=some d:=by exact rfl)(hx:Nat.blt xs.length m=true:=by exact rfl):DA P N m cat l ds env H K (o::r) xs:=by
 intro i;obtain⟨t,a⟩:=Qbk i;obtain⟨s,H1,u,n,b,e⟩:=k (by simpa using a);simp only[X5,X3,List.length_nil,Vk,VM,Vj]at u b e;refine⟨x::s,H1,by simp only[X3];omega,n,λj y g=>?_,e⟩;rcases VE xs.length j with q|q
 .exact b j (by omega) g
 .obtain rfl:j=xs.length:=by omega
  refine QhY f λp w=>?_;obtain rfl:=VD.1 w;exact QaC t Je h hd
theorem DA.op{xs:List A}{o:Oper}{r:List Oper}{x:A}{d:Nat}(h:WO P H.length N l.toArray [o] (YA (Qg o) 0 ds xs env) H (Ja (up (YA (Qg o) 0 ds xs env) d x) H1))(k:DB P N m cat l ds env H H1 K r (xs++[x]))(hl:Nat.ble H.length H1.length=true:=by exact rfl)
  (hc:Y3 cat xs.length=some 1:=by exact rfl)(hd:o.dst=some d:=by exact rfl)(hx:Nat.blt xs.length m=true:=by exact rfl):DA P N m cat l ds env H K (o::r) xs:=by
 intro g;obtain⟨n,a⟩:=Qbk g;obtain⟨i,s,b,e⟩:=k (by simpa using a);simp only[X5,X3,List.length_nil,Vk,VM,Vj]at s b e;refine⟨x::i,H1,by simp only[X3];omega,XT hl,λj u f=>?_,e⟩;rcases VE xs.length j with q|q
 .exact b j (by omega) f
 .obtain rfl:j=xs.length:=by omega
  refine QhY hc λp t=>?_;obtain rfl:=VD.1 t;exact QaC n Je h hd
theorem Qb7{xs:List A}{o:Oper}{r:List Oper}{x x':A}{d:Nat}{H1':Qc}(h:OpH P o (YA (Qg o) 0 ds xs env) H x H1)(a:foA x=.mk x')(b:foH H1=.mk H1')(k:DB P N m cat l ds env H H1' K r (xs++[x']))(e:o.dst=some d:=by exact rfl)(hg:Y4 ⟨l⟩ o (YA (Qg o) 0 ds xs env)=some true:=by exact rfl)(hN:Nat.blt d N=true:=by exact rfl)(hl:Nat.ble H.length H1'.length=true:=by exact rfl)
  (hc:Y3 cat xs.length=some 1:=by exact rfl)(hx:Nat.blt xs.length m=true:=by exact rfl):DA P N m cat l ds env H K (o::r) xs:=by
 rw[Qhv]at a;rw[QjV]at b;cases a;cases b;exact .op (Y8 (XV _) (Q2 hg) e hN h (WO.nil Ja.mk)) k hl hc e hx
theorem DB.done{xs:List A}{r:List Oper}(a:Nat.beq xs.length m=true)(h:K r (Qay ds xs env) H1):DB P N m cat l ds env H H1 K r xs:=by
 intro b;have e:=XS a;subst b;refine⟨[],by simpa using e,λj d f=>by omega,?_⟩;rw[<- e,Vi];exact h
theorem DB.add{xs:List A}{o:Oper}{r:List Oper}{x:A}(g:∀ys,l[xs.length]?=some o->Dob P N cat l ds env H H1 (xs++x::ys) xs.length)(k:DB P N m cat l ds env H H1 K r (xs++[x])):DB P N m cat l ds env H H1 K (o::r) xs:=by
 intro f;obtain⟨h,a⟩:=Qbk f;obtain⟨ys,i,b,d⟩:=k (by simpa using a);simp only[X5,X3,List.length_nil,Vk,VM,Vj]at i b d;refine⟨x::ys,by simp only[X3];omega,λj n e=>?_,d⟩;rcases VE xs.length j with q|q
 .exact b j (by omega) e
 .obtain rfl:j=xs.length:=by omega
  exact g ys h
theorem DB.wo1{xs:List A}{o:Oper}{r:List Oper}{x:A}{d:Nat}(h:WO P H1.length N l.toArray [o] (YA (Qg o) 0 ds xs env) H1 (Ja (up (YA (Qg o) 0 ds xs env) d x) H1))(k:DB P N m cat l ds env H H1 K r (xs++[x]))
  (a:Y3 cat xs.length=some 2:=by exact rfl)(hd:o.dst=some d:=by exact rfl):DB P N m cat l ds env H H1 K (o::r) xs:=
 .add (λf e=>QhY a λp b=>by
  obtain rfl:=VD.1 b;exact QaC e Je h hd) k
theorem DB.wo2{xs:List A}{o:Oper}{r:List Oper}{x:A}{d:Nat}(h:WO P H.length N l.toArray [o] (YA (Qg o) 0 ds xs env) H (Ja (up (YA (Qg o) 0 ds xs env) d x) H))(f:WO P H1.length N l.toArray [o] (YA (Qg o) 0 ds xs env) H1 (Ja (up (YA (Qg o) 0 ds xs env) d x) H1))(k:DB P N m cat l ds env H H1 K r (xs++[x]))
  (e:Y3 cat xs.length=some 3:=by exact rfl)(hd:o.dst=some d:=by exact rfl):DB P N m cat l ds env H H1 K (o::r) xs:=
 .add (λg b=>QhY e λp a=>by
  rcases X8.1 a with rfl|a
  .exact QaC b Je h hd
  .obtain rfl:=VD.1 a;exact QaC b Je f hd) k
def Qig(T:TyX)(N m:Nat)(cat:List Nat)(l:List Oper)(ds:List Nat)(env:Env)(H:Qc):Nat->Nat->List Oper->List A->Option (List Oper×List A)
 |0,_,r,xs=>some (r,xs)
 |_+1,_,[],_=>none
 |n+1,i,o::r,xs=>match Nat.blt i m,Y3 cat i with
  |true,some 0=>match o.dst with
   |none=>none
   |some d=>match Nat.blt d N with
    |false=>none
    |true=>match Y4 ⟨l⟩ o (YA (Qg o) 0 ds xs env)with
     |none=>none
     |some false=>match Qev xs (.tup [])with
      |.mk xs'=>Qig T N m cat l ds env H n (i+1) r xs'
     |some true=>match QeN T o (YA (Qg o) 0 ds xs env) H with
      |none=>none
      |some x=>match Qev xs x with
       |.mk xs'=>Qig T N m cat l ds env H n (i+1) r xs'
  |_,_=>none
theorem QeZ(hT:QbJ P T):∀(n i:Nat) {r r':List Oper} {xs xs':List A},i=xs.length->Qig T N m cat l ds env H n i r xs=some (r',xs')->DA P N m cat l ds env H K r' xs'->DA P N m cat l ds env H K r xs
 |0,i,r,r',xs,xs',_,h,k=>by cases h;exact k
 |n+1,i,[],r',xs,xs',_,h,k=>by cases h
 |n+1,i,o::r,r',xs,xs',hi,h,k=>by
  subst hi;unfold Qig at h;split at h
  .rename_i q1 q0;split at h
   .cases h
   .rename_i d hd;split at h
    .cases h
    .rename_i q2;split at h
     .cases h
     .rename_i hw;simp only[Qan]at h;exact .wo (WO.skip (Q2 hw) hd q2 (WO.nil Ja.mk)) (QeZ hT n _ (by simp) h k) q0 hd q1
     .rename_i hw;split at h
      .cases h
      .rename_i x hv;simp only[Qan]at h;exact .wo (QK (Q2 hw) hd q2 (Qbp hT hv) (WO.nil Ja.mk)) (QeZ hT n _ (by simp) h k) q0 hd q1
  .cases h
theorem Qok{H:Qc}{p:Bx}{r:Lx}(h:ptX [] p=some r):ptX H p=some r:=by
 unfold ptX at h⊢;split at h
 .exact h
 .rename_i i a;simp only[Y3]at h;cases h
 .cases h
theorem Qh4{o:Oper}{e:Env}{H:Qc}{x:A}(h:QeN T o e []=some x):QeN T o e H=some x:=by
 unfold QeN at h⊢;split at h<;>first|exact h|skip
 rename_i t y f;split at h
 .cases h
 .rename_i b n g;split at h
  .exact h
  .rename_i d;cases q:ptX [] (opB e y)with
   |none=>rw[q]at h;cases h
   |some r=>
    rw[q]at h;have a:=Qok (H:=H) q;simp only[a];exact h
def QeY(T:TyX)(N:Nat)(cat:List Nat)(l:List Oper)(ds:List Nat)(env:Env)(H1:Qc):Nat->Nat->List Oper->List A->Option (List Oper×List A)
 |0,_,r,xs=>some (r,xs)
 |_+1,_,[],_=>none
 |n+1,i,o::r,xs=>match o.dst with
  |none=>none
  |some d=>match Nat.blt d N with
   |false=>none
   |true=>match Y4 ⟨l⟩ o (YA (Qg o) 0 ds xs env)with
    |none=>none
    |some false=>match Y3 cat i with
     |some 2=>(match Qev xs (.tup [])with
      |.mk xs'=>QeY T N cat l ds env H1 n (i+1) r xs')
     |some 3=>(match Qev xs (.tup [])with
      |.mk xs'=>QeY T N cat l ds env H1 n (i+1) r xs')
     |_=>none
    |some true=>match Y3 cat i with
     |some 2=>(match QeN T o (YA (Qg o) 0 ds xs env) H1 with
      |none=>none
      |some x=>match Qev xs x with
       |.mk xs'=>QeY T N cat l ds env H1 n (i+1) r xs')
     |some 3=>(match QeN T o (YA (Qg o) 0 ds xs env) []with
      |none=>none
      |some x=>match Qev xs x with
       |.mk xs'=>QeY T N cat l ds env H1 n (i+1) r xs')
     |_=>none
theorem QbS(hT:QbJ P T):∀(n i:Nat) {r r':List Oper} {xs xs':List A},i=xs.length->QeY T N cat l ds env H1 n i r xs=some (r',xs')->DB P N m cat l ds env H H1 K r' xs'->DB P N m cat l ds env H H1 K r xs
 |0,i,r,r',xs,xs',_,h,k=>by cases h;exact k
 |n+1,i,[],r',xs,xs',_,h,k=>by cases h
 |n+1,i,o::r,r',xs,xs',hi,h,k=>by
  subst hi;unfold QeY at h;split at h
  .cases h
  .rename_i d hd;split at h
   .cases h
   .rename_i q2;split at h
    .cases h
    .rename_i hw;split at h
     .rename_i q0;simp only[Qan]at h;exact .wo1 (WO.skip (Q2 hw) hd q2 (WO.nil Ja.mk)) (QbS hT n _ (by simp) h k) q0 hd
     .rename_i q0;simp only[Qan]at h;exact .wo2 (WO.skip (Q2 hw) hd q2 (WO.nil Ja.mk)) (WO.skip (Q2 hw) hd q2 (WO.nil Ja.mk)) (QbS hT n _ (by simp) h k) q0 hd
     .cases h
    .rename_i hw;split at h
     .rename_i q0;split at h
      .cases h
      .rename_i x hv;simp only[Qan]at h;exact .wo1 (QK (Q2 hw) hd q2 (Qbp hT hv) (WO.nil Ja.mk)) (QbS hT n _ (by simp) h k) q0 hd
     .rename_i q0;split at h
      .cases h
      .rename_i x hv;simp only[Qan]at h;exact .wo2 (QK (Q2 hw) hd q2 (Qbp hT (Qh4 hv)) (WO.nil Ja.mk)) (QK (Q2 hw) hd q2 (Qbp hT (Qh4 hv)) (WO.nil Ja.mk)) (QbS hT n _ (by simp) h k) q0 hd
     .cases h
end
end Go.Sw
namespace Go.Sw
def chkF(L:List (Nat×List (Nat×Nat)))(fs:List (Nat×Nat×Nat)):Bool:=
 fs.all λe=>match Qck L e.1 with
  |some pl=>(match Y3 pl e.2.1 with
   |some q=>Nat.beq q.1 e.2.2&& !(Nat.beq q.2 0)
   |none=>false)
  |none=>false
theorem PL.get{P:Program}{fs:List Field}{a:List (Nat×Nat)}(h:PL P fs a):∀{f off n:Nat},Y3 a f=some (off,n)->∃fd,fs[f]?=some fd/\fd.offset=off/\ ∀w,(sizeOf fd.type).run P w=.ok n w:=by
 induction h with
 |nil=>intro f off n h;cases h
 |cons h k e=>
  intro f off n b;cases f with
  |zero=>cases b;exact⟨_,rfl,rfl,h⟩
  |succ f=>obtain⟨fd,g,d⟩:=e (show Y3 _ f=_ from b);exact⟨fd,by simpa using g,d⟩
theorem QpT{P:Program}{L:List (Nat×List (Nat×Nat))}{fs:List (Nat×Nat×Nat)}(s:∀e∈L,QI P e.1 e.2)(h:chkF L fs=true):∀e∈fs,∃n,Q1 P e.1 e.2.1 e.2.2 n:=by
 intro e f;have:=Xu.1 h e f;split at this
 .rename_i t b;split at this
  .rename_i q l;obtain⟨j,n⟩:=q;simp only[XY,Bool.not_eq_true']at this;have i:=XS this.1;obtain⟨g,r,a⟩:=s _ (Qaz b);obtain⟨d,k,m,p⟩:=PL.get a l;refine⟨n,⟨⟨_,d,r,by simpa using k,m.trans i,p,?_⟩⟩⟩;intro z;have a:=this.2;rw[z,VH]at a;cases a
  .cases this
 .cases this
section
variable {P:Program} {Z:TyZ} {h0 N:Nat} {all:Array Oper} {o:Oper} {l:List Oper} {env:Env} {H:Qc} {Q:QA} {d:Nat}
theorem Cdz(m:Qdg P Z){β γ:Type}{F:Option β}{F':β->Option γ}{r:γ}{f:Nat}{args a:List A}{Hc:Qc}{w:β->A}{Hr:β->Qc}(π:List Nat)(h:F.bind F'=some r)(q:∀v,F=some v->C P f a Hc (RQ w Hr v))
  (b:Qf8 Z o env=some (d,f,args))(g:∀v,F=some v->F' v=some r->WO P h0 N all l (up env d (YI (rho π H.length) (w v))) (Yy H π ((Hr v).map (QW (rho π H.length)))) Q)
  (hargs:args=Qaa (rho π H.length) a)(hH:π.map (λp=>H[p]?)=(Hc.map (QW (rho π H.length))).map some)(hπ:π.Nodup)(hg:Y4 all o env=some true)(i:Nat.blt d N=true)(j:Nat.ble h0 H.length=true):WO P h0 N all (o::l) env H Q:=by
 obtain⟨v,e,n⟩:=bnd h;obtain⟨s,k⟩:=QeE (H:=H) m b;refine QQ π k (q v e) ?_ hargs hH hπ (Q2 hg) s i j;rintro _ _ ⟨rfl,rfl⟩;exact g v e n
end
inductive FLL where
 |mk (l:List (List A))
def cpLL(sel:List Nat):List (List A)->FLL
 |[]=>.mk []
 |a::r=>match cpL sel a,cpLL sel r with
  |.mk a',.mk r'=>.mk (a'::r')
inductive FBk where
 |mk (b:Blk)
def cpBk(sel:List Nat):Blk->FBk
 |.cells t cs=>match cpL sel cs with
  |.mk l=>.mk (.cells t l)
 |.rowr t k es=>match cpLL sel es with
  |.mk l=>.mk (.rowr t k l)
 |.ents t a b es=>match Qll sel ixL a,Qll sel ixL b with
  |.mk a',.mk b'=>.mk (.ents t a' b' es)
 |b=>.mk b
def selD(H:Qc)(sel:List Nat):List Nat->FB
 |[]=>.mk []
 |a::r=>match Y3 H a with
  |some b=>(match cpBk sel b,selD H sel r with
   |.mk b',.mk l=>.mk (b'::l))
  |none=>.mk []
def retC(sel sl:List Nat)(env:Env)(H:Qc):Option (Env×Qc):=
 match QmZ sel env sl [],selD H sel sel with
 |.mk e,.mk h=>some (e,h)
theorem Rx{P:Program}{h0:Nat}{fn:Func}{env E':Env}{H H':Qc}{Qr:A->Qc->Prop}{d:A}(π sl:List Nat)(_:retC π sl env H=some (E',H'))(a:Qdl P fn E' H' d)(e:Qr d H')(b:π.take h0=List.range h0:=by exact rfl)
  (hH:π.map (λp=>H[p]?)=(H'.map (QW (rho π H.length))).map some:=by exact rfl)(hπ:π.Nodup:=by decide)(hE:Qel (rho π H.length) env E':=by(repeat' (first|exact trivial|refine⟨rfl,?_⟩))):Qdk P h0 fn Qr .ret env H:=
 ⟨E',H',d,Lr π b hH hπ hE,a,e⟩
end Go.Sw
namespace Go.Sw
def nxL{T:Type}:List T->T->List T->Prop:=λl x rem=>l=x::rem
def Qen{S T B:Type}(step:S->T->Option (Ctl S B)):List T->S->Option (Ctl S B)
 |[],s=>some (.cont s)
 |x::l,s=>(step s x).bind λd=>match d with
  |.cont s'=>Qen step l s'
  |.done b=>some (.done b)
def Qcq{S T B:Type}(step:S->Option (List T×Ctl S B)):Nat->S->Option (List T×B)
 |0,_=>none
 |n+1,s=>(step s).bind λp=>match p.2 with
  |.cont s'=>(Qcq step n s').bind λq=>some (p.1++q.1,q.2)
  |.done b=>some (p.1,b)
def QnN{S B:Type}(h1:Nat)(env:Env)(Q:QA)(d:Ctl S B)(Hp:S->Qc):QA
 |.normal,env',H'=>∃s,d=.cont s/\Le h1 env' H' [] (Hp s)
 |.exit id,env',H'=>(∃b,d=.done b)/\ ∃H2,Le h1 env' H' [] H2/\Q (.exit id) env H2
 |.ret,env',H'=>(∃b,d=.done b)/\ ∃H2,Le h1 env' H' [] H2/\Q .ret env H2
theorem Qhd{S B:Type}{h1:Nat}{env env':Env}{H':Qc}{Q:QA}{s:S}{d:Ctl S B}{Hp:S->Qc}(e:some (Ctl.cont s)=some d)(h:Le h1 env' H' [] (Hp s)):QnN h1 env Q d Hp .normal env' H':=⟨s,(Oi e).symm,h⟩
theorem QdP{P:Program}{h0 N:Nat}{n:Operand}{ps:List Nat}{assign body:Code}{env:Env}{H:Qc}{Q:QA}{f:FuncId}{a g:List A}{Hc:Qc}{T S B:Type}{enc:T->List A}{xs:List T}{step:S->T->Option (Ctl S B)}{s0:S}{D:Ctl S B}
  (π:List Nat)(Hp:S->Qc)(h:Qen step xs s0=some D)(m:Qjc P f g Hc enc nxL xs)(r:∀x,(enc x).length=ps.length)(M:∀args w,(callFunc f args).run P w=.ok (.enter f args) w)
  (O:Nat.ble h0 H.length=true)(hg:opA env n=.fn (.func f) [] a)(hargs:a=Qaa (rho π H.length) g)(hH:π.map (λp=>H[p]?)=(Hc.map (QW (rho π H.length))).map some)(hπ:π.Nodup)(y:(ps.all λp=>Nat.blt p N)=true)
  (k:Le H.length env (Qd5 H π) env (Hp s0))
  (j:∀s x d,step s x=some d->(∀b,d=.done b->D=.done b)->TC P H.length N assign (Qmm ps (enc x) env) (Hp s) λe env1 H1=>e=.normal/\TC P H.length N body env1 H1 (QnN H.length env Q d Hp))
  (i:∀s,D=.cont s->Q .normal env (Hp s)):TC P h0 N (.rangeFunc n ps.toArray assign body) env H Q:=by
 refine TC.rangeFunc π Hp (λs l=>Qen step l s=some D) s0 (XT O) hg hargs hH hπ y M m r k h ?_ ?_
 .rintro s l x rem t rfl;obtain⟨d,F,t⟩:=bnd t;refine(j s x d F ?_).mono ?_
  .rintro b rfl;exact(Oi t).symm
  .rintro e env1 H1 ⟨L,R⟩;refine⟨L,R.mono ?_⟩;intro J z H2 q;cases J with
   |normal=>
    obtain⟨E,rfl,k⟩:=q;exact⟨Hp E,k,E,t,rfl⟩
   |exit id=>
    obtain⟨_,H3,u,q⟩:=q;exact⟨H3,u,q⟩
   |ret=>
    obtain⟨_,H3,u,q⟩:=q;exact⟨H3,u,q⟩
 .intro s G;exact i s (Oi G).symm
section
variable {T:Type} {X:Ctx T} {P:Program} {h0 N:Nat} {c:Code} {env:Env} {H:Qc} {st:YSt T} {Q:YJ T}
def Qf1{S B:Type}(h0:Nat)(E:S->Env)(Hp:S->Qc)(d:Ctl S B)(rest:List T)(Q:YJ T):YJ T
 |.normal,env,H,st=>∃s,d=.cont s/\Le h0 env H (E s) (Hp s)/\st=.on rest
 |.exit id,env,H,st=>Q (.exit id) env H st
 |.ret,env,H,st=>Q .ret env H st
theorem QlR{S B:Type}{step:S->Option (List T×Ctl S B)}{E:S->Env}{Hp:S->Qc}{m:Nat}{s0:S}{l rem:List T}{b:B}(h:Qcq step m s0=some (l,b))(w:Le h0 env H (E s0) (Hp s0))
  (body:∀s zs d rest,step s=some (zs,d)->(∀b',d=.done b'->b'=b/\rest=rem)->TCy X P h0 N c (E s) (Hp s) (.on (zs++rest)) (Qf1 h0 E Hp d rest Q)):TCy X P h0 N (.loop c) env H (.on (l++rem)) Q:=by
 refine QgV (I:=λn env H p=>∃s a,Qcq step n s=some (a,b)/\p=.on (a++rem)/\Le h0 env H (E s) (Hp s)) ?_ ⟨s0,l,h,rfl,w⟩;rintro n env H p ⟨s,a,f,rfl,j⟩;cases n with
 |zero=>cases f
 |succ n=>
  obtain⟨⟨zs,d⟩,r,f⟩:=bnd f;refine TCy.le j ?_;cases d with
  |cont t=>
   obtain⟨⟨z,F⟩,y,f⟩:=bnd f;cases f;rw[Vk];refine(body s zs (.cont t) (z++rem) r (λb' e=>by cases e)).mono ?_;rintro x g H' k q;cases x with
   |normal=>
    obtain⟨u,e,i,rfl⟩:=q;cases e;exact⟨n,Xo n,_,_,y,rfl,i⟩
   |exit id=>exact q
   |ret=>exact q
  |done b'=>
   cases f;refine(body s _ (.done b) rem r (λb' e=>by cases e;exact⟨rfl,rfl⟩)).mono ?_;rintro x g H' k q;cases x with
   |normal=>obtain⟨u,e,_⟩:=q;cases e
   |exit id=>exact q
   |ret=>exact q
def kqY(X:Ctx T)(P:Program)(h0 N:Nat):List Kf->YJ T->YJ T
 |[],Q=>Q
 |.seq c::k,Q=>SeqY X P h0 N c (kqY X P h0 N k Q)
 |.blo id::k,Q=>BloY id (kqY X P h0 N k Q)
 |.unr c::k,Q=>λ_ _ _ _=>False
@[reducible] def HdY(X:Ctx T)(P:Program)(h0 N:Nat):Cf->List Kf->Env->Qc->YSt T->YJ T->Prop
 |.code c,k,env,H,st,Q=>TCy X P h0 N c env H st (kqY X P h0 N k Q)
 |.ops all l,k,env,H,st,Q=>WOy X P h0 N all l env H st (kqY X P h0 N k Q)
 |.out x,k,env,H,st,Q=>kqY X P h0 N k Q x env H st
def Qo8:Cf->List Kf->Bool
 |.code (.loop _),_=>false
 |.out _,.unr _::_=>false
 |_,_=>true
theorem Qmo{Tx:TyX}(f:QbJ P Tx){c b:Cf}{k d:List Kf}{env env':Env}{H H':Qc}(h:Qgd Tx h0 N c k env H=some (b,d,env',H'))(a:Qo8 c k=true)(g:HdY X P h0 N b d env' H' st Q):HdY X P h0 N c k env H st Q:=by
 unfold Qgd at h;split at h
 .cases h;exact TCy.seq g
 .cases h;exact TCy.block g
 .cases a
 .cases h;exact TCy.skip g
 .cases h;exact TCy.ret g
 .cases h;exact TCy.exit g
 .cases h;exact TCy.region g
 .split at h
  .rename_i q;cases h;exact TCy.cond (QE q) (λ_=>g) (λe=>by cases e)
  .rename_i q;cases h;exact TCy.cond (QE q) (λe=>by cases e) (λ_=>g)
  .cases h
 .cases h;exact WOy.nil g
 .split at h
  .rename_i q;cases h;exact WOy.step (Qjy f q (WO.nil ⟨rfl,g⟩))
  .cases h
 .cases h;exact g
 .cases h;exact g
 .cases h;exact g
 .cases h;exact g
 .split at h
  .rename_i q;cases h;have e:=XS q;subst e;show(bif Nat.beq _ _ then _ else _);rw[VH];exact g
  .rename_i q;cases h;show(bif Nat.beq _ _ then _ else _);rw[q];exact g
 .cases h;exact g
 .cases a
 .cases a
 .cases a
 .cases h
def QjG(Tx:TyX)(h0 N:Nat):Nat->Cf->List Kf->Env->Qc->Option (Cf×List Kf×Env×Qc)
 |0,c,k,env,H=>some (c,k,env,H)
 |n+1,c,k,env,H=>match Qo8 c k with
  |true=>(match Qgd Tx h0 N c k env H with
   |some (c',k',env',H')=>QjG Tx h0 N n c' k' env' H'
   |none=>none)
  |false=>none
theorem QcS{Tx:TyX}(hT:QbJ P Tx):∀(n:Nat) {c c':Cf} {k k':List Kf} {env env':Env} {H H':Qc},QjG Tx h0 N n c k env H=some (c',k',env',H')->HdY X P h0 N c' k' env' H' st Q->HdY X P h0 N c k env H st Q
 |0,c,c',k,k',env,env',H,H',h,g=>by cases h;exact g
 |n+1,c,c',k,k',env,env',H,H',h,g=>by
  unfold QjG at h;split at h
  .rename_i hn;split at h
   .rename_i e;exact Qmo hT e hn (QcS hT n h g)
   .cases h
  .cases h
theorem TCy.lf{k:List Kf}(h:TC P h0 N c env H (λx env H=>kqY X P h0 N k Q x env H st)):TCy X P h0 N c env H st (kqY X P h0 N k Q):=TCy.lift h
theorem QnE{all:Array Oper}{o:Oper}{r:List Oper}{d:Nat}{x:T}{l:List T}{e:T->A}{y z:Operand}{k:Array TypeId}(hE:X.enc=λx=>[e x])(f:X.nx=nxL)(i:o.op=.call {callee:=.value y,args:= #[z],argTypes:=k})(m:opA env y=.fn (.yield X.l) [] [])(a:opA env z=e x)(h:Yw (e x)=true)
  (g:WOy X P h0 N all r (up env d (.bool true)) H (.on l) Q)(j:WOy X P h0 N all r (up env d (.bool false)) H (.off l) Q)(hg:Qp all o env true:=by exact rfl)(hd:o.dst=some d:=by exact rfl)(hNd:Nat.blt d N=true:=by exact rfl):WOy X P h0 N all (o::r) env H (.on (x::l)) Q:=by
 refine WOy.yield (x:=x) (rem:=l) (by rw[f];rfl) hg hd hNd ?_ ?_
 .rw[hE];exact Qh1 i m a h
 .intro b;cases b with
  |true=>exact g
  |false=>exact j
theorem WOy.y2{all:Array Oper}{o:Oper}{r:List Oper}{d:Nat}{x:T}{l:List T}{a i:T->A}{y j k:Operand}{s:Array TypeId}(hE:X.enc=λx=>[a x,i x])(m:X.nx=nxL)(p:o.op=.call {callee:=.value y,args:= #[j,k],argTypes:=s})(t:opA env y=.fn (.yield X.l) [] [])(f:opA env j=a x)(g:opA env k=i x)(e:Yw (a x)=true)(h:Yw (i x)=true)
  (n:WOy X P h0 N all r (up env d (.bool true)) H (.on l) Q)(q:WOy X P h0 N all r (up env d (.bool false)) H (.off l) Q)(hg:Qp all o env true:=by exact rfl)(hd:o.dst=some d:=by exact rfl)(hNd:Nat.blt d N=true:=by exact rfl):WOy X P h0 N all (o::r) env H (.on (x::l)) Q:=by
 refine WOy.yield (x:=x) (rem:=l) (by rw[m];rfl) hg hd hNd ?_ ?_
 .rw[hE];exact Qld p t f g e h
 .intro b;cases b with
  |true=>exact n
  |false=>exact q
end
end Go.Sw
namespace Go.Sw
def yl{T R:Type}(x:T)(k:Option (List T×R)):Option (List T×R):=k.bind λp=>some (x::p.1,p.2)
def ap{T B R:Type}(a:Option (List T×B))(k:B->Option (List T×R)):Option (List T×R):=a.bind λp=>(k p.2).bind λq=>some (p.1++q.1,q.2)
theorem QoW{T R:Type}{x:T}{k:Option (List T×R)}{a:List T}{v:R}(h:yl x k=some (a,v)):∃zs,k=some (zs,v)/\a=x::zs:=by
 obtain⟨⟨zs,e⟩,d,b⟩:=bnd h;cases b;exact⟨zs,d,rfl⟩
theorem ap_ok{T B R:Type}{a:Option (List T×B)}{k:B->Option (List T×R)}{d:List T}{v:R}(h:ap a k=some (d,v)):∃y1 b y2,a=some (y1,b)/\k b=some (y2,v)/\d=y1++y2:=by
 obtain⟨⟨y1,b⟩,i,g⟩:=bnd h;obtain⟨⟨y2,j⟩,e,f⟩:=bnd g;cases f;exact⟨y1,b,y2,i,e,rfl⟩
section
variable {T:Type} {X:Ctx T} {P:Program} {h0 N:Nat} {c c':Code} {env:Env} {H:Qc} {st:YSt T} {Q:YJ T}
def Qoc{β:Type}(h0:Nat)(b:β)(E':β->Env)(H':β->Qc)(rem:List T)(Q:YJ T):YJ T
 |.normal,env,H,st=>Le h0 env H (E' b) (H' b)/\st=.on rem
 |.exit id,env,H,st=>Q (.exit id) env H st
 |.ret,env,H,st=>Q .ret env H st
theorem QnI{β:Type}{E':β->Env}{H':β->Qc}(b:β)(rem:List T)(sel keep:List Nat)(nE:β->Env)(nH:β->List (Nat×Blk))(_:∀b,Qnx sel keep (nE b) (nH b) env H=some (E' b,H' b))(h:TCy X P h0 N c env H st (Qoc h0 b E' H' rem Q))(k:∀env H,Le h0 env H (E' b) (H' b)->Q .normal env H (.on rem)):TCy X P h0 N c env H st Q:=
 h.mono λx env' H' st' q=>by
  cases x with
  |normal=>obtain⟨q1,rfl⟩:=q;exact k _ _ q1
  |exit id=>exact q
  |ret=>exact q
theorem cutYN{β:Type}{b:β}{E':β->Env}{H':β->Qc}{rem:List T}(h:Le h0 env H (E' b) (H' b)):Qoc h0 b E' H' rem Q .normal env H (.on rem):=⟨h,rfl⟩
theorem cutYR{β:Type}{b:β}{E':β->Env}{H':β->Qc}{rem:List T}(h:Q .ret env H st):Qoc h0 b E' H' rem Q .ret env H st:=h
theorem Qp7{S B:Type}{step:S->Option (List T×Ctl S B)}{E':S->Env}{H':S->Qc}{m:Nat}{s0:S}{ys rem:List T}{b:B}(sel keep:List Nat)(nE:S->Env)(nH:S->List (Nat×Blk))(h:Qcq step m s0=some (ys,b))(_:∀s,Qnx sel keep (nE s) (nH s) env H=some (E' s,H' s))(hI:Le h0 env H (E' s0) (H' s0))
  (body:∀s zs d rest,step s=some (zs,d)->(∀b',d=.done b'->b'=b/\rest=rem)->TCy X P h0 N c (E' s) (H' s) (.on (zs++rest)) (Qf1 h0 E' H' d rest Q)):TCy X P h0 N (.loop c) env H (.on (ys++rem)) Q:=QlR h hI body
theorem Qho{S B:Type}{E':S->Env}{H':S->Qc}{s:S}{d:Ctl S B}{zs rest:List T}(e:some (([]:List T),Ctl.cont s)=some (zs,d))(h:Le h0 env H (E' s) (H' s)):Qf1 h0 E' H' d rest Q .normal env H (.on (zs++rest)):=by
 cases e;exact⟨s,rfl,h,rfl⟩
theorem QpK{S B:Type}{id:Nat}{E':S->Env}{H':S->Qc}{d:Ctl S B}{rest:List T}(h:Q (.exit id) env H st):Qf1 h0 E' H' d rest Q (.exit id) env H st:=h
theorem QpL{S B:Type}{E':S->Env}{H':S->Qc}{d:Ctl S B}{rest:List T}(h:Q .ret env H st):Qf1 h0 E' H' d rest Q .ret env H st:=h
theorem Oy{S B:Type}{d:Ctl S B}{x b:B}{zs rest rem:List T}(f:∀b',d=.done b'->b'=b/\rest=rem)(h:some (([]:List T),Ctl.done x)=some (zs,d)):zs=[]/\b=x/\rest=rem:=by
 cases h;obtain⟨e,a⟩:=f x rfl;exact⟨rfl,e.symm,a⟩
theorem Cny{α:Type}{x:Operand}{t:Bool}{p q:Option α}{r:α}(hx:opB env x=.mk (.bool t))(h:(bif t then p else q)=some r)(ht:t=true->p=some r->TCy X P h0 N c env H st Q)(hf:t=false->q=some r->TCy X P h0 N c' env H st Q):TCy X P h0 N (.cond x c c') env H st Q:=
 TCy.cond (QE hx) (λe=>ht e (ifT e h)) (λe=>hf e (ifF e h))
theorem Qjb{f:FuncId}{fn:Func}{c:Code}{N:Nat}{a:List A}{H:Qc}{enc:T->List A}{xs:List T}(i:P.funcs[f]?=some fn)(d:fn.body=some c)(e:fn.ntmps=N)(b:Nat.ble (a.length+1) N=true)(g:fn.results= #[])
  (h:∀X:Ctx T,X.enc=enc->X.nx=nxL->TCy X P H.length N c (QgN 0 (.fn (.yield X.l) [] []::a)) H (.on (xs++[])) EndY):Qjc P f a H enc nxL xs:=by
 rw[Vi]at h;exact Qdj i d e b g h
end
end Go.Sw
namespace Go.Sw
open Go.MapKept
section
variable {fr ro:Nat->Prop} {σ:Sig} {H:Qc} {w:World}
end
end Go.Sw
namespace Go.Sw
open Go.MapKept
def QbK{α β:Type}(ek:α->A)(ev:β->List A)(l:List (α×Option (List β))):List (A×Option (List (List A))):=l.map λp=>(ek p.1,p.2.map (List.map ev))
def QkE{α β:Type}[DecidableEq α](l:List (α×Option (List β)))(x:α):List (α×Option (List β)):=l.map λp=>bif decide (p.1=x)then(p.1,none)else p
section
variable {P:Program} {kt:TypeId} {α β:Type} [DecidableEq α] {ek:α->A} {ev:β->List A} {ro:Nat->Prop} {w:World} {t k:Nat} (K:Jj P kt ek)
include K
theorem Qk4{x:α}:∀{l:List (α×Option (List β))} {es:List MapEntry},MO ro w t k (QbK ek ev l) es->MO ro w t k (QbK ek ev (QkE l x)) es
 |[],es,h=>h
 |p::l,es,h=>by
  obtain⟨e,l',rfl,h1,h2,h3⟩:=h;by_cases q:p.1=x
  .refine⟨e,l',rfl,by simpa[q]using h1,λrows hr=>?_,Qk4 (l:=l) h3⟩;simp[q]at hr
  .refine⟨e,l',rfl,by simpa[q]using h1,λrows hr=>h2 rows (by simpa[q]using hr),Qk4 (l:=l) h3⟩
omit K
theorem QdU{x:α}{c:Nat}:∀{l:List (α×Option (List β))} {es:List MapEntry},Qex (QbK ek ev (QkE l x)) es c->Qex (QbK ek ev l) es c
 |[],es,h=>by cases es<;>exact h.elim
 |p::l,[],h=>h.elim
 |p::l,e::es,h=>by
  rcases h with⟨h1,h2⟩|h
  .by_cases q:p.1=x
   .simp[q]at h1
   .exact .inl ⟨by simpa[q]using h1,h2⟩
  .exact .inr (QdU (l:=l) h)
theorem Qmb{x:α}:∀{l:List (α×Option (List β))} {es:List MapEntry},Qkp (QbK ek ev l) es->Qkp (QbK ek ev (QkE l x)) es
 |[],es,h=>by cases es<;>trivial
 |p::l,[],h=>trivial
 |p::l,e::es,h=>by
  obtain⟨h1,h2⟩:=h;refine⟨λc q1 q2 q3=>?_,Qmb (l:=l) h2⟩;by_cases q:p.1=x
  .simp[q]at q1
  .exact h1 c (by simpa[q]using q1) q2 (QdU (l:=l) q3)
include K
theorem MO.find:∀{l:List (α×Option (List β))} {es:List MapEntry},MO ro w t k (QbK ek ev l) es->∀(x:α),(es.map (·.key)).Nodup->
  ((∀e:MapEntry,e∈es->e.key≠QF (ek x))->Y1 l x=none)/\
  (∀(j:Nat) (e:MapEntry),es[j]?=some e->e.key=QF (ek x)->∃q,Y1 l x=some q/\(∀rows,q=some rows->SO ro w t k (rows.map ev) e.val)/\
   ∀c p n cap,q.isSome=true->e.val=.slice (some ⟨c,p,none⟩) n cap->Qex (QbK ek ev l) es c/\(Qkp (QbK ek ev l) es->¬Qex (QbK ek ev (QkE l x)) es c))
 |[],es,h,x,_=>by
  cases(show es=[]from h);exact⟨λ_=>rfl,λj e he=>by simp at he⟩
 |p::l,es,h,x,hn=>by
  obtain⟨e0,l',rfl,h1,h2,h3⟩:=h;have hk:e0.key=QF (ek p.1):=VR.val (K.scl _) h1;simp only[Vl,List.nodup_cons]at hn;obtain⟨a1,a2⟩:=MO.find (l:=l) h3 x hn.2;by_cases hp:p.1=x
  .subst hp;constructor
   .intro q;exact absurd hk (q e0 (by simp))
   .intro j e he hx;cases j with
    |zero=>
     simp only[XG,Option.some.injEq]at he;subst he;refine⟨p.2,by simp[Y1],λrows hr=>h2 (rows.map ev) (by simp[hr]),λc p' n cap hs hv=>⟨.inl ⟨by simpa using hs,p',n,cap,hv⟩,λhd hq=>?_⟩⟩;rcases hq with⟨q1,_⟩|hq
     .simp at q1
     .exact hd.1 c (by simpa using hs) ⟨p',n,cap,hv⟩ (QdU (l:=l) hq)
    |succ j=>
     simp only[XH]at he;exact absurd (hk.trans hx.symm▸VI (f:=λe:MapEntry=>e.key) (VJ he)) hn.1
  .have e1:Y1 (p::l) x=Y1 l x:=by simp[Y1,hp]
   rw[e1];constructor
   .intro q;exact a1 λe he=>q e (by simp[he])
   .intro j e he hx;cases j with
    |zero=>
     simp only[XG,Option.some.injEq]at he;subst he;exact absurd (K.inj _ _ (hk.symm.trans hx)) hp
    |succ j=>
     obtain⟨q,d,g,i⟩:=a2 j e (by simpa using he) hx;refine⟨q,d,g,λc p' n cap hs hv=>?_⟩;obtain⟨a,b⟩:=i c p' n cap hs hv;refine⟨.inr a,λhd hq=>?_⟩;rcases hq with⟨q1,m⟩|hq
     .exact hd.1 c (by simpa[hp]using q1) m a
     .exact b hd.2 hq
end
section
variable {P:Program} {o:Oper} {env:Env} {H:Qc}
variable {T kt et:Nat} {α β:Type} [DecidableEq α] {ek:α->A} {ev:β->List A} {x y:Operand} {i t k:Nat} {l:List (α×Option (List β))} {key:α} {rows:List β}
end
end Go.Sw
namespace Go.Sw
open Go.MapKept
theorem MO.append{ro:Nat->Prop}{w:World}{t k:Nat}:∀{l m:List (A×Option (List (List A)))} {es fs:List MapEntry},MO ro w t k l es->MO ro w t k m fs->MO ro w t k (l++m) (es++fs)
 |[],m,es,fs,h,q=>by cases(show es=[]from h);exact q
 |p::l,m,es,fs,h,q=>by
  obtain⟨e,l',rfl,h1,h2,h3⟩:=h;exact⟨e,l'++fs,rfl,h1,h2,MO.append h3 q⟩
theorem MO.length{ro:Nat->Prop}{w:World}{t k:Nat}:∀{l:List (A×Option (List (List A)))} {es:List MapEntry},MO ro w t k l es->es.length=l.length
 |[],es,h=>by cases(show es=[]from h);rfl
 |p::l,es,h=>by
  obtain⟨e,l',rfl,h1,h2,h3⟩:=h;simp[MO.length h3]
def SlB(v:Value)(c:Nat):Prop:=∃p n cap,v=.slice (some ⟨c,p,none⟩) n cap
section
variable {P:Program} {kt:TypeId} {α β:Type} [DecidableEq α] {ek:α->A} {ev:β->List A} {ro:Nat->Prop} {w:World} {t k:Nat} (K:Jj P kt ek)
def QdA{α β:Type}[DecidableEq α](l:List (α×Option (List β)))(x:α)(rows:List β):List (α×Option (List β)):=l.map λp=>bif decide (p.1=x)then(p.1,some rows)else p
include K
theorem Qgq{x:α}{rows:List β}:∀{l:List (α×Option (List β))} {es:List MapEntry},MO ro w t k (QbK ek ev l) es->(∀e∈es,e.key≠QF (ek x))->QdA l x rows=l
 |[],es,h,q=>rfl
 |p::l,es,h,q=>by
  obtain⟨e,l',rfl,h1,h2,h3⟩:=h;have hk:e.key=QF (ek p.1):=VR.val (K.scl _) h1;have hp:p.1≠x:=λz=>q e (by simp) (by rw[hk,z]);have:=Qgq (l:=l) h3 (λe he=>q e (by simp[he])) (rows:=rows);simp only[QdA,Vl,decide_false,hp,Vs];rw[show(l.map λp=>bif decide (p.1=x)then(p.1,some rows)else p)=l from this]
theorem MO.put{x:α}{rows:List β}{v:Value}(f:SO ro w t k (rows.map ev) v):∀{l:List (α×Option (List β))} {es:List MapEntry} {j:Nat} {e:MapEntry},MO ro w t k (QbK ek ev l) es->
  (es.map (·.key)).Nodup->es[j]?=some e->e.key=QF (ek x)->
  MO ro w t k (QbK ek ev (QdA l x rows)) (es.modify j λe=>{e with key:=QF (ek x),val:=v})/\
  (∀c,Qex (QbK ek ev (QdA l x rows)) (es.modify j λe=>{e with key:=QF (ek x),val:=v}) c->Qex (QbK ek ev l) es c\/SlB v c)/\
  (Qkp (QbK ek ev l) es->(∀c,Qex (QbK ek ev l) es c->¬SlB v c)->Qkp (QbK ek ev (QdA l x rows)) (es.modify j λe=>{e with key:=QF (ek x),val:=v}))
 |[],es,j,e,h,hn,he,hk=>by cases(show es=[]from h);simp at he
 |p::l,es,j,e,h,hn,he,hk=>by
  obtain⟨e0,l',rfl,h1,h2,h3⟩:=h;have hk0:e0.key=QF (ek p.1):=VR.val (K.scl _) h1;simp only[Vl,List.nodup_cons]at hn;cases j with
  |zero=>
   simp only[XG,Option.some.injEq]at he;subst he;have hp:p.1=x:=K.inj _ _ (hk0.symm.trans hk);simp only[List.modify_zero_cons];have e0':QdA l x rows=l:=Qgq K h3 λe he z=>hn.1 (by rw[hk, <- z];exact VI he);have e1:QdA (p::l) x rows=(p.1,some rows)::l:=by
    have:QdA (p::l) x rows=(p.1,some rows)::QdA l x rows:=by simp[QdA,hp]
    rw[this,e0']
   rw[e1];refine⟨⟨_,l',rfl,?_,?_,h3⟩,?_,?_⟩
   .show VR ro [] w (ek p.1) (QF (ek x));rw[<- hp];exact Qb3 (K.scl _)
   .intro d y;cases y;exact f
   .rintro c (⟨_,q⟩|q)
    .exact .inr q
    .exact .inl (.inr q)
   .rintro⟨i,b⟩ a;exact⟨λc _ q z=>a c (.inr z) q,b⟩
  |succ j=>
   simp only[XH]at he;have hp:p.1≠x:=by
    intro q;refine hn.1 (Xf.2 ⟨e,VJ he,?_⟩);rw[hk,hk0,q]
   simp only[List.modify_succ_cons];obtain⟨u,g,s⟩:=MO.put f h3 hn.2 he hk;have e1:QdA (p::l) x rows=p::QdA l x rows:=by simp[QdA,hp]
   rw[e1];refine⟨⟨_,_,rfl,h1,h2,u⟩,?_,?_⟩
   .rintro c (q|q)
    .exact .inl (.inl q)
    .exact(g c q).imp .inr id
   .rintro⟨i,b⟩ a;refine⟨λc m n z=>?_,s b λc r=>a c (.inr r)⟩;rcases g c z with z|z
    .exact i c m n z
    .exact a c (.inl ⟨m,n⟩) z
end
section
variable {P:Program} {o:Oper} {env:Env} {H:Qc}
variable {T kt et:Nat} {α β:Type} [DecidableEq α] {ek:α->A} {ev:β->List A} {x y zz:Operand} {i j t k n:Nat} {l m:List (α×Option (List β))} {key:α} {rows:List β}
end
end Go.Sw
namespace Go.Sw
open Go.MapKept
section
variable {fr ro:Nat->Prop} {σ:Sig} {H:Qc} {w:World}
end
section
variable {P:Program} {o:Oper} {env:Env} {H:Qc} {T kt et i t k:Nat} {x:Operand} {es:List (A×Option (List (List A)))}
end
section
variable {P:Program} {o:Oper} {env:Env} {H:Qc}
variable {T kt et:Nat} {α β:Type} [DecidableEq α] {ek:α->A} {ev:β->List A} {x y zz:Operand} {i j t k n:Nat} {l m:List (α×Option (List β))} {key:α} {rows:List β}
end
end Go.Sw
namespace Go.Sw
open Go.MapKept
section
variable {P:Program} {o:Oper} {env:Env} {H:Qc}
variable {T kt et:Nat} {α β:Type} [DecidableEq α] {ek:α->A} {ev:β->List A} {x y zz:Operand} {i j t k n:Nat} {l m:List (α×Option (List β))} {key:α} {rows:List β}
end
end Go.Sw
namespace Go.Sw
theorem QnW{h0 d:Nat}{x y:A}{e:Env}{H:Qc}:Le h0 ((d,x)::(d,y)::e) H ((d,x)::e) H:=Le.env λs=>.inr (by
 simp only[lk];cases Nat.beq s d<;>rfl)
abbrev Kat:=List (Nat×Nat×Nat)
def Qml:Nat->Nat->List (Nat×Nat)
 |lo,0=>[(lo,lo)]
 |lo,n+1=>(lo,lo)::Qml (lo+1) n
def rgK(p:Nat×Nat×Nat):List (Nat×Nat):=bif Nat.beq p.1 1 then[(p.2.1,p.2.1+1)]else Qml p.2.1 (p.2.2-p.2.1)
def plK(cat:Kat):List (List (Nat×Nat)):=cat.map rgK
def rqK(bs:List Nat)(cat:Kat):List (List Nat):=cat.map λp=>bs.take p.2.1
def hsK(cat:Kat):List Bool:=cat.map λp=>Nat.beq p.1 1
def msK(bs:List Nat):List (List Nat):=(List.range (bs.length+1)).map bs.take
theorem Qg9:∀(n lo:Nat),∀p∈Qml lo n,p.1=p.2
 |0,lo,p,h=>by cases h with|head=>rfl|tail _ h=>cases h
 |n+1,lo,p,h=>by
  rcases X8.1 h with rfl|h
  .rfl
  .exact Qg9 n _ p h
section
variable {P:Program} {T:TyX} {h0 N m:Nat} {bs:List Nat} {cat:Kat} {l:List Oper} {ds:List Nat} {env:Env} {H:Qc} {Hs:List Qc} {Q:QA} {K:List Oper->Env->Qc->Prop}
def DobK(P:Program)(N:Nat)(cat:Kat)(l:List Oper)(ds:List Nat)(env:Env)(n:Nat)(Hs:List Qc)(zs:List A)(j:Nat):Prop:=
 ∀p∈(plK cat).getD j [],JJ P N l ds zs env n n j (Hs.getD p.1 []) (Hs.getD p.2 [])
def DK(P:Program)(N m:Nat)(bs:List Nat)(cat:Kat)(l:List Oper)(ds:List Nat)(env:Env)(n:Nat)(K:List Oper->Env->Qc->Prop)(Hs:List Qc)(X:Qc)(r:List Oper)(xs:List A):Prop:=
 r=l.drop xs.length->∃ys Zs Y,xs.length+ys.length=m/\Hs.length+Zs.length=bs.length/\((∀Z∈Zs,n<=Z.length)/\(Hs.reverse++X::Zs).getD bs.length []=Y)/\(∀j,xs.length<=j->j<m->DobK P N cat l ds env n (Hs.reverse++X::Zs) (xs++ys) j)/\K (l.drop m) (Qay ds (xs++ys) env) Y
theorem Qp9{f:List A}{n:Nat}{Zs:List Qc}(a:cat.length=m)(g:∀j,0<=j->j<m->DobK P N cat l ds env n Zs f j):QhU P N l ds f env n (n+0) 0 ((plK cat).map λq=>q.map λp=>(Zs.getD p.1 [],Zs.getD p.2 [])):=by
 refine QhT _ 0 λi s b p k=>?_;rw[Xq]at b;cases e:(plK cat)[i]? with
 |none=>rw[e]at b;cases b
 |some q=>
  rw[e]at b;cases b;obtain⟨r,d,rfl⟩:=Xf.1 k;have h:i<m:=by
   have:=(XN.1 e).1;simpa[plK,a]using this
  have:=g i (XW _) h r (by rw[QkN e];exact d);simpa using this
theorem Qn9{id:Nat}(m:Nat)(d:List Nat)(cat:Kat)(t:P.follows .mixedOrders=true)(s:Qed l m N (Qbj m 0 l) (hsK cat) (rqK d cat) (msK d) (plK cat)=true)(f:Nat.beq cat.length m=true)(j:Nat.ble h0 H.length=true)
  (h:DK P N m d cat l (Qbj m 0 l) env H.length (λr e H=>WO P h0 N l.toArray r e H Q) [] H l []):TC P h0 N (.region id l.toArray true) env H Q:=by
 obtain⟨u,Zs,Y,q,p,g,n,k⟩:=h rfl;simp only[List.length_nil,Xx,Vj,List.reverse_nil]at q p g n k;have a:=XS f;have b:(msK d).length=d.length+1:=by simp[msK]
 refine Qb4 m 0 _ _ _ _ _ u (H::Zs) Y t s (by rw[q];exact VH m) (by rw[b];simp[p]) j ?_ (by simp) (by rw[b];exact g.2) (Qp9 a n) (by simp[plK,a]) k;rw[Xu];intro Z i;rcases X8.1 i with rfl|i
 .exact XU (XV _)
 .exact XU (g.1 Z i)
variable {n:Nat} {X X1:Qc} {xs:List A} {o:Oper} {r:List Oper} {x:A} {d:Nat}
theorem DK.done(b:Nat.beq xs.length m=true)(f:Nat.beq Hs.length bs.length=true)(h:K r (Qay ds xs env) X):DK P N m bs cat l ds env n K Hs X r xs:=by
 intro d;have e:=XS b;have a:=XS f;subst d;refine⟨[],[],X,by simpa using e,by simpa using a,⟨(λZ hZ=>by cases hZ),?_⟩,λj g i=>by omega,?_⟩
 .rw[<- a,VN,XP (by simp)];simp
 .rw[<- e,Vi];exact h
theorem DK.add(i:∀ys Zs,l[xs.length]?=some o->DobK P N cat l ds env n (Hs.reverse++X::Zs) (xs++x::ys) xs.length)(k:DK P N m bs cat l ds env n K Hs X r (xs++[x])):DK P N m bs cat l ds env n K Hs X (o::r) xs:=by
 intro g;obtain⟨p,a⟩:=Qbk g;obtain⟨ys,Zs,Y,s,h,e,d,b⟩:=k (by simpa using a);simp only[X5,X3,List.length_nil,Vk,VM,Vj]at s d b;refine⟨x::ys,Zs,Y,by simp only[X3];omega,h,e,λj t f=>?_,b⟩;rcases VE xs.length j with q|q
 .exact d j (by omega) f
 .obtain rfl:j=xs.length:=by omega
  exact i ys Zs p
theorem QeJ{Zs:List Qc}{zs:List A}{j:Nat}{c:Nat×Nat×Nat}(b:Y3 cat j=some c)(h:∀p∈rgK c,JJ P N l ds zs env n n j (Zs.getD p.1 []) (Zs.getD p.2 [])):DobK P N cat l ds env n Zs zs j:=by
 intro p a;rw[QaD]at b;unfold plK at a;rw[VN,Xq,b]at a;exact h p a
theorem Qht{Zs:List Qc}{c:Nat}(a:Nat.beq c Hs.length=true):(Hs.reverse++X::Zs).getD c []=X:=by
 rw[XS a,VN,XP (by simp)];simp
theorem DK.wo{c:Nat}(h:WO P X.length N l.toArray [o] (YA (Qg o) 0 ds xs env) X (Ja (up (YA (Qg o) 0 ds xs env) d x) X))(k:DK P N m bs cat l ds env n K Hs X r (xs++[x]))
  (b:Y3 cat xs.length=some (0,c,c):=by exact rfl)(hd:o.dst=some d:=by exact rfl)(hcH:Nat.beq c Hs.length=true:=by exact rfl):DK P N m bs cat l ds env n K Hs X (o::r) xs:=
 .add (λys Zs ho=>QeJ b λp a=>by
  have:p=(c,c):=by
   change p∈Qml c (c-c)at a;rw[Nat.sub_self]at a;exact VD.1 a
  subst this;rw[Qht hcH];exact QaC ho Je h hd) k
theorem Y2{lo hi:Nat}(h:∀X,WO P X.length N l.toArray [o] (YA (Qg o) 0 ds xs env) X (Ja (up (YA (Qg o) 0 ds xs env) d x) X))(k:DK P N m bs cat l ds env n K Hs X r (xs++[x]))
  (a:Y3 cat xs.length=some (0,lo,hi):=by exact rfl)(hd:o.dst=some d:=by exact rfl):DK P N m bs cat l ds env n K Hs X (o::r) xs:=
 .add (λys Zs ho=>QeJ a λp b=>by
  have e:p.1=p.2:=Qg9 _ _ p b;rw[<- e];exact QaC ho Je (h _) hd) k
theorem DK.op{c i:Nat}(h:WO P X.length N l.toArray [o] (YA (Qg o) 0 ds xs env) X (Ja (up (YA (Qg o) 0 ds xs env) d x) X1))(k:DK P N m bs cat l ds env n K (X::Hs) X1 r (xs++[x]))(hl:Nat.ble n X1.length=true:=by exact rfl)
  (hc:Y3 cat xs.length=some (1,c,i):=by exact rfl)(hd:o.dst=some d:=by exact rfl)(hcH:Nat.beq c Hs.length=true:=by exact rfl):DK P N m bs cat l ds env n K Hs X (o::r) xs:=by
 intro u;obtain⟨B,e⟩:=Qbk u;obtain⟨z,Zs,Y,y,w,a,g,f⟩:=k (by simpa using e);simp only[X5,X3,List.length_nil,Vk,VM,Vj,List.reverse_cons]at y w a g f;refine⟨x::z,X1::Zs,Y,by simp only[X3];omega,by simp only[X3];omega,⟨λZ b=>?_,a.2⟩,λj G t=>?_,f⟩
 .rcases X8.1 b with rfl|b
  .exact XT hl
  .exact a.1 Z b
 .rcases VE xs.length j with q|q
  .exact g j (by omega) t
  .obtain rfl:j=xs.length:=by omega
   refine QeJ hc λp E=>?_;have:p=(c,c+1):=VD.1 E;subst this;have s:(Hs.reverse++X::X1::Zs).getD c []=X:=Qht hcH;have F:(Hs.reverse++X::X1::Zs).getD (c+1) []=X1:=by
    have:=Qht (X:=X1) (Zs:=Zs) (Hs:=X::Hs) (c:=c+1) (by rw[XS hcH];exact VH _);simpa using this
   simp only;rw[s,F];exact QaC B Je h hd
theorem DK.v(h:OpV P o (YA (Qg o) 0 ds xs env) X x)(k:DK P N m bs cat l ds env n K Hs X r (xs++[x])){c:Nat}(hg:Y4 ⟨l⟩ o (YA (Qg o) 0 ds xs env)=some true:=by exact rfl)
  (hd:o.dst=some d:=by exact rfl)(hN:Nat.blt d N=true:=by exact rfl)(hc:Y3 cat xs.length=some (0,c,c):=by exact rfl)(hcH:Nat.beq c Hs.length=true:=by exact rfl):DK P N m bs cat l ds env n K Hs X (o::r) xs:=
 .wo (QK (Q2 hg) hd hN h (WO.nil Ja.mk)) k hc hd hcH
def allV(T:TyX)(o:Oper)(e:Env)(x:A):Nat->List Qc->Prop
 |0,_=>True
 |k+1,Y::r=>QeN T o e Y=some x/\allV T o e x k r
 |_+1,[]=>False
theorem Qku:∀(n lo:Nat),∀p∈Qml lo n,lo<=p.1/\p.1<=lo+n
 |0,lo,p,h=>by cases h with|head=>exact⟨XV _,XV _⟩|tail _ h=>cases h
 |n+1,lo,p,h=>by
  rcases X8.1 h with rfl|h
  .exact⟨XV _,Nat.le_add_right _ _⟩
  .have:=Qku n _ p h;omega
def allW(P:Program)(N:Nat)(l:List Oper)(o:Oper)(e:Env)(d:Nat)(x:A):Nat->List Qc->Prop
 |0,_=>True
 |k+1,Y::r=>WO P Y.length N l.toArray [o] e Y (Ja (up e d x) Y)/\allW P N l o e d x k r
 |_+1,[]=>False
theorem Qk1{e:Env}:∀{k:Nat} {r:List Qc},allW P N l o e d x k r->∀j,j<k->WO P (r.getD j []).length N l.toArray [o] e (r.getD j []) (Ja (up e d x) (r.getD j []))
 |0,_,_,j,hj=>absurd hj (Xn _)
 |k+1,[],h,_,_=>h.elim
 |k+1,Y::r,h,0,_=>h.1
 |k+1,Y::r,h,j+1,hj=>by
  have:=Qk1 h.2 j (by omega);simpa using this
theorem DK.ws{lo hi:Nat}(h:allW P N l o (YA (Qg o) 0 ds xs env) d x (hi+1-lo) (X::Hs))(k:DK P N m bs cat l ds env n K Hs X r (xs++[x]))
  (g:Y3 cat xs.length=some (0,lo,hi):=by exact rfl)(hd:o.dst=some d:=by exact rfl)(hcH:Nat.beq hi Hs.length=true:=by exact rfl)(hle:Nat.ble lo hi=true:=by exact rfl):DK P N m bs cat l ds env n K Hs X (o::r) xs:=
 .add (λys Zs ho=>QeJ g λp b=>by
  have e:p.1=p.2:=Qg9 _ _ p b;have a:=XT hle;have s:lo<=p.1/\p.1<=lo+(hi-lo):=Qku (hi-lo) lo p b;have f:=XS hcH;rw[<- e];have j:=Qk1 h (Hs.length-p.1) (by omega);have i:(Hs.reverse++X::Zs).getD p.1 []=(X::Hs).getD (Hs.length-p.1) []:=by
   rw[VN,VN];congr 1;rcases VE p.1 Hs.length with q|q
   .rw[XO (by simpa using q),List.getElem?_reverse q,show Hs.length-p.1=Hs.length-1-p.1+1 by omega,XH]
   .have:p.1=Hs.length:=by omega
    rw[this,XP (by simp)];simp
  rw[i];exact QaC ho Je j hd) k
theorem DK.vs(g:QbJ P T){lo hi:Nat}(h:allV T o (YA (Qg o) 0 ds xs env) x (hi+1-lo) (X::Hs))(k:DK P N m bs cat l ds env n K Hs X r (xs++[x]))
  (f:Y3 cat xs.length=some (0,lo,hi))(e:o.dst=some d)(b:Nat.beq hi Hs.length=true)(hg:Y4 ⟨l⟩ o (YA (Qg o) 0 ds xs env)=some true)(i:Nat.blt d N=true)(a:Nat.ble lo hi=true):DK P N m bs cat l ds env n K Hs X (o::r) xs:=by
 refine DK.ws ?_ k f e b a;generalize hi+1-lo=c at h;generalize X::Hs=L at h
 induction c generalizing L with
 |zero=>trivial
 |succ c j=>
  cases L with
  |nil=>exact h.elim
  |cons Y L=>exact⟨QK (Q2 hg) e i (Qbp g h.1) (WO.nil Ja.mk),j L h.2⟩
end
end Go.Sw
namespace Go.Sw
def room(n:Int):Option Nat:=bif decide (0<n)&&decide (n<=4294967296)then some n.toNat else none
section
variable {P:Program} {o:Oper} {env:Env} {H:Qc}
theorem RL.put{ro:Nat->Prop}{σ:Sig}{w:World}{k:Nat}:∀{a:Nat} {es fs:List (List A)} {l m:List Value},RL ro σ w k es l->a+fs.length<=es.length->Sw.allK k fs->LR ro σ w fs.flatten m->(∀v∈m,Qn v)->
  RL ro σ w k (es.take a++fs++es.drop (a+fs.length)) (Sw.splice l (a*k) m)
 |0,es,[],l,m,h,hn,hk,hm,hp=>by
  obtain rfl:m=[]:=hm;simpa[Sw.splice]using h
 |0,[],f::fs,l,m,h,hn,hk,hm,hp=>by simp at hn
 |0,c::es,f::fs,l,m,⟨l1,l2,h1,h2,h3,h4⟩,hn,hk,hm,hp=>by
  subst h1;have hl1:=h3.1.length;have hml:=hm.length;rw[Vn,X5]at hml;have e1:m.take k++m.drop k=m:=XA _ _;have q1:LR ro σ w f (m.take k):=by have:=hm.take k;rwa [Vn,X9 (by rw[hk.1];exact XV _),VK (by rw[hk.1];exact XV _)]at this
  have i:LR ro σ w fs.flatten (m.drop k):=by have:=hm.drop k;rwa [Vn,Va (by rw[hk.1];exact XV _),List.drop_of_length_le (by rw[hk.1];exact XV _),Vj]at this
  have b:=RL.put (a:=0) h4 (by simpa using hn) hk.2 i (λv d=>hp v (List.mem_of_mem_drop d));simp only[List.take_zero,Vj,Xx,Nat.zero_mul,Sw.splice]at b⊢;refine⟨m.take k,m.drop k++l2.drop (m.drop k).length,?_,hk.1,⟨q1,λv d=>hp v (List.mem_of_mem_take d)⟩,by simpa using b⟩;have e:k<=m.length:=by rw[hml,hk.1];exact Nat.le_add_right _ _
  rw[<- Vk,e1];congr 1;rw[List.length_drop,show m.length=l1.length+(m.length-k)from by omega,Vc];have g:l1.length+(m.length-k)-k=m.length-k:=by omega
  rw[g]
 |a+1,[],fs,l,m,h,hn,hk,hm,hp=>by simp at hn
 |a+1,c::es,fs,l,m,⟨l1,l2,h1,h2,h3,h4⟩,hn,hk,hm,hp=>by
  subst h1;have hl1:=h3.1.length;have b:=RL.put (a:=a) h4 (by simp at hn;omega) hk hm hp;refine⟨l1,Sw.splice l2 (a*k) m,?_,h2,h3,?_⟩
  .have e1:(a+1)*k=l1.length+a*k:=by rw[Xm];omega
   unfold Sw.splice;rw[e1,Vd,show l1.length+a*k+m.length=l1.length+(a*k+m.length)from by omega,Vc];simp
  .have j:a+1+fs.length=(a+fs.length)+1:=by omega
   simpa[j]using b
def SrcP(P:Program)(H:Qc)(x:A)(k:Nat)(es:List (List A)):Prop:=
 ∀fr ro σ w v,Sim fr ro σ H w->VR ro σ w x v->(∃a c,v=.slice a es.length c)/\
  ∀j,j<=es.length->allK k (es.take j)/\ ∃l,(Builtin.firstCells k j v).run P w=.ok l.toArray w/\LR ro [] w (es.take j).flatten l/\ ∀v∈l,Qn v
theorem QjF{fr ro:Nat->Prop}{σ:Sig}{w:World}{k j b off n c:Nat}{es:List (List A)}(h:RR ro [] w b k es off)(d:j<=es.length):
  allK k (es.take j)/\ ∃l,(Builtin.firstCells k j (.slice (some ⟨b,off,none⟩) n c)).run P w=.ok l.toArray w/\LR ro [] w (es.take j).flatten l/\ ∀v∈l,Qn v:=by
 obtain⟨g,f,a⟩:=(h.take j).flat;rw[Xz,XC d]at a;obtain⟨l,e,i⟩:=Qb8 (P:=P) (n:=j) (c:=c) g a;refine⟨f,l,?_,i⟩;exact e w rfl
theorem QeV{k n c:Nat}{a:Option Addr}{w:World}:(Builtin.firstCells k 0 (.slice a n c)).run P w=.ok #[] w:=by
 cases a<;>simp[Builtin.firstCells,loadCells,loadCellsFrom,go_sem]
theorem SrcP.osl{i s n k t:Nat}{es es':List (List A)}(hH:H[i]?=some (.row t k es))(he:(es.drop s).take n=es')(J:s+n<=es.length):SrcP P H (.osl i s n k) k es':=by
 intro fr G σ w v sm h;have f:es'.length=n:=by rw[<- he];simp;omega
 rcases h with⟨rfl,rfl⟩|⟨b,p,a,E,m,y,rfl,u,B,F,z⟩
 .have e:es'=[]:=VL.1 f;subst e;refine⟨⟨none,0,rfl⟩,λj d=>?_⟩;obtain rfl:j=0:=by simpa using d
  exact⟨trivial,[],QeV,rfl,by simp⟩
 .rw[f];refine⟨⟨_,a,rfl⟩,λj d=>?_⟩;obtain⟨l,x,r⟩:=sm.blk i _ _ y hH;have g:=((YS (pre:=[]) (by simpa using x) r).drop s).take n;rw[he]at g;by_cases q:0<a
  .obtain rfl:=u q;simpa using QjF (P:=P) (fr:=fr) (σ:=σ) (n:=n) (c:=a) g (by rw[f];exact d)
  .obtain rfl:j=0:=by omega
   exact⟨trivial,[],QeV,rfl,by simp⟩
end
end Go.Sw
namespace Go.Sw
open Go.MapKept
section
variable {fr ro ro':Nat->Prop} {σ:Sig} {H:Qc} {w:World}
end
end Go.Sw
namespace Go.Sw
section
variable {P:Program} {o:Oper} {env:Env} {H:Qc} {α:Type} {e:α->List A}
end
end Go.Sw
namespace Go.Sw
open Go.MapKept
section
variable {P:Program} {o:Oper} {env:Env} {H:Qc}
theorem Qkm{T:Nat}(d:o.op=.makeMap T none:=by exact rfl):OpH P o env H (.map H.length) (H++[.mapP []]):=by
 intro e b σ N a w r;refine⟨.map (some w.heap.size),w.alloc (.map #[] 0),b,[some w.heap.size],?_,⟨w.heap.size,?_,rfl⟩,r.sim.alloc ⟨#[],0,Yi _ _,rfl,by simp,by simp,by simp⟩,Qe.alloc _ r.sim.roLt r.sim.frLt⟩
 .generalize a.eval=ρ at*;simp only[execOp,d,Instr.makeMap,Xl,Vp];rfl
 .rw[<- r.sim.len];simp
variable {T kt et:Nat} {α β:Type} [DecidableEq α] {ek:α->A} {ev:β->A} {x y:Operand} {i:Nat} {l:List (α×β)} {k:α} {z0:β} {z:Value}
theorem QcL(K:Jj P kt ek){v:β}(g:Y1 l k=some v)(t:P.underlying T=some (.map kt et))
  (J:o.op=.lookup T x y false:=by exact rfl)(hx:opA env x=.map i:=by exact rfl)(hH:H[i]?=some (.mapP (Qm ek ev l)):=by exact rfl)(hy:opA env y=ek k:=by exact rfl):OpV P o env H (ev v):=by
 intro V W σ N a w r;have q:=Qd r x;rw[hx]at q;obtain⟨b,u,O⟩:=q;have m:=Qd r y;rw[hy]at m;have F:=VR.val (K.scl _) m;obtain⟨z,f,M,n,Q,X,E⟩:=r.sim.blk i _ _ u hH;obtain⟨s,B⟩:=ER.find K n k E;rcases K.find w k z.toList (Qbo K n)with⟨h,d⟩|⟨j,e,h,d,L⟩
 .have:=(s d).1;rw[g]at this;cases this
 .obtain⟨Y,R,p,G⟩:=B j e d L;rw[g]at p;obtain rfl:=X2 p;refine⟨e.val,?_,G⟩;simp only[execOp,J,O,F,Instr.lookup,Vp,run_underlying t,Result.andThen,MapKept.run_getObj_map M,Vq,K.check,h];rfl
theorem Qkj(K:Jj P kt ek)(q:Y1 l k=none)(s:P.underlying T=some (.map kt et))(E:∀w,(zeroValue et).run P w=.ok (.pointer none) w)
  (G:o.op=.lookup T x y false:=by exact rfl)(hx:opA env x=.map i:=by exact rfl)(hH:H[i]?=some (.mapP (Qm ek ev l)):=by exact rfl)(hy:opA env y=ek k:=by exact rfl):OpV P o env H .nilp:=by
 intro V X σ N a w r;have p:=Qd r x;rw[hx]at p;obtain⟨b,t,M⟩:=p;have h:=Qd r y;rw[hy]at h;have F:=VR.val (K.scl _) h;obtain⟨u,d,L,m,Q,Y,B⟩:=r.sim.blk i _ _ t hH;obtain⟨O,z⟩:=ER.find K m k B;rcases K.find w k u.toList (Qbo K m)with⟨g,f⟩|⟨j,e,g,f,J⟩
 .refine⟨.pointer none,?_,rfl⟩;simp only[execOp,G,M,F,Instr.lookup,Vp,run_underlying s,Result.andThen,MapKept.run_getObj_map L,Vq,K.check,g,E];rfl
 .obtain⟨u1,R,n,W⟩:=z j e f J;rw[q]at n;cases n
theorem Ql5(K:Jj P kt ek){v:β}{zz:Operand}(R:Y1 l k=none)(V:P.underlying T=some (.map kt et))
  (ho:o.op=.mapUpdate T x y zz:=by exact rfl)(hx:opA env x=.map i:=by exact rfl)(hH:H[i]?=some (.mapP (Qm ek ev l)):=by exact rfl)(n:opA env y=ek k:=by exact rfl)(hv:opA env zz=ev v:=by exact rfl):
  OpU P o env H (H.set i (.mapP (Qm ek ev (l++[(k,v)])))):=by
 intro fr Y σ N a w r;have O:=Qd r x;rw[hx]at O;obtain⟨b,F,q2⟩:=O;have M:=Qd r y;rw[n]at M;have X:=VR.val (K.scl _) M;have E:=Qd r zz;rw[hv]at E;obtain⟨G,f,u,t,B,p4,J⟩:=r.sim.blk i _ _ F hH;obtain⟨f1,W⟩:=ER.find K t k J;have z:∀(obj:Obj) y,w.shape? b=some y->({w with heap:=w.heap.setIfInBounds b obj}:World).shape? b=some y:=by
  intro obj y n;unfold World.shape? at n;rw[u]at n;simp at n
 rcases K.find w k G.toList (Qbo K t)with⟨L,p⟩|⟨j,e,L,p,g3⟩
 .have g:=r.sim.set (x':=.mapP (Qm ek ev (l++[(k,v)]))) (obj:=.map (G.push {key:=QF (ek k),val:=a.eval zz,born:=f}) (f+1)) F hH rfl (z _)
   (λe h=>⟨_,_,h,by
    rw[Qm,Xg,Array.toList_push];exact(t.mono e).append ⟨_,_,rfl,(Qb3 (K.scl _)),E.mono e,rfl⟩,by
    rw[Array.toList_push];intro e h;rcases VF.1 h with q|q
    .exact Nat.lt_succ_of_lt (B e q)
    .simp at q;subst q;exact Xo _,by
    rw[Array.toList_push,Xg];refine List.nodup_append.2 ⟨p4,by simp,?_⟩;intro c s d m;simp at m;subst m;obtain⟨e,h,rfl⟩:=Xf.1 s;exact Nat.ne_of_lt (B e h),by
    rw[Array.toList_push,Xg];refine List.nodup_append.2 ⟨J,by simp,?_⟩;intro c s d m;simp at m;subst m;obtain⟨e,h,rfl⟩:=Xf.1 s;exact p e h⟩)
  refine⟨_,Y,[],?_,by simpa using g.1,g.2⟩;simp only[execOp,ho,q2,X,Vp,Instr.mapUpdate,run_underlying V,Result.andThen,MapKept.run_getObj_map u,K.check,L,MapKept.run_setObj_map _ u];rfl
 .obtain⟨u1,v',Q,u3⟩:=W j e p g3;rw[R]at Q;cases Q
end
section
variable {fr ro:Nat->Prop} {σ:Sig} {H:Qc} {w:World}
theorem Sim.shutAny(s:Sim fr ro σ H w){i b:Nat}{u:Blk}(hσ:σ[i]?=some (some b))(hH:H[i]?=some u)(hl:u.live=true):
  Sim fr (λc=>ro c\/c=b) σ (H.set i .dead) w:=by
 have f:b<w.heap.size/\ ¬ro b/\ ¬fr b:=s.own i b _ hσ hH hl;have ext:Ext ro σ w (λc=>ro c\/c=b) σ w:=⟨λ_ q=>.inl q,λ_ _=>rfl,λ_ _ q=>q,λ_ _ q=>q⟩;have a:∀(j:Nat) (v:Blk),(H.set i .dead)[j]?=some v->v≠ .dead->j≠i/\H[j]?=some v:=by
  intro j v h m;by_cases e:j=i
  .subst e;rw[Xb]at h;simp only[if_true]at h;split at h
   .cases h;exact absurd rfl m
   .simp at h
  .rw[XR (λq=>e q.symm)]at h;exact⟨e,h⟩
 refine⟨by rw[X6];exact s.len,s.roOk.to (λ_ q=>.inl q) (λ_ _=>rfl) ?_,s.frLt,?_,?_,?_,?_,s.hidTo (· = ·) QY (XV _) (λj d x c F P O N=>N.elim id λq=>((s.hid j d x c F P O).ne i b _ hσ hH hl q).elim) (λ_ _ _ _ _ _ _ q=>q) λj d y G E L=>.inl ⟨j,y,rfl,G,(a j y E (QeK L)).2,id,λ_ q=>q⟩⟩
 .rintro c (q|rfl)
  .exact s.roLt c q
  .exact f.1
 .rintro c (q|rfl)
  .exact s.roFr c q
  .exact f.2.2
 .intro j c v k g l;obtain⟨e,g⟩:=a j v g (Qax l);obtain⟨M,J,z⟩:=s.own j c v k g l;refine⟨M,?_,z⟩;rintro(q|rfl)
  .exact J q
  .exact e (s.inj j i c v _ k hσ g hH l hl)
 .intro j n c v p k g l B r t;exact s.inj j n c v p k g (a j v l (Qax r)).2 (a n p B (Qax t)).2 r t
 .intro j y v k g;by_cases m:v≠ .dead
  .exact(s.blk j y v k (a j v g m).2).keep ext (λ_ _ _=>rfl) (λ_ _ _ _=>rfl)
  .obtain rfl:v=.dead:=Classical.not_not.1 m;trivial
def QbV(H:Qc):List Nat->Qc
 |[]=>H
 |i::l=>QbV (H.set i .dead) l
theorem Qgy{l:List Nat}:∀{H:Qc} {j:Nat},j∉l->(QbV H l)[j]?=H[j]? :=by
 induction l with
 |nil=>intro H j _;rfl
 |cons i l a=>
  intro H j hj;rw[X8,not_or]at hj;unfold QbV;rw[a hj.2,XR (λq=>hj.1 q.symm)]
theorem QdQ:∀{l:List Nat} {ro:Nat->Prop} {H:Qc} (s:Sim fr ro σ H w),l.Nodup->(∀i∈l,∃x,H[i]?=some x/\x.live=true)->
  ∃ro',Sim fr ro' σ (QbV H l) w/\(∀c,ro c->ro' c)/\ ∀i∈l,∀b,σ[i]?=some (some b)->ro' b
 |[],ro,H,s,_,_=>⟨ro,s,λ_ q=>q,λ_ h=>by cases h⟩
 |i::l,ro,H,s,hn,hl=>by
  rw[List.nodup_cons]at hn;obtain⟨x,hx,hxl⟩:=hl i (by simp);have rest:∀i'∈l,∃x,(H.set i .dead)[i']?=some x/\x.live=true:=by
   intro i' a;obtain⟨y,r,j⟩:=hl i' (X7 _ a);exact⟨y,by rw[XR (λq=>hn.1 (by rw[q];exact a))];exact r,j⟩
  have p:∃q,σ[i]?=some q:=by
   have:i<σ.length:=by rw[s.len];exact(XN.1 hx).1
   exact⟨_,XM this⟩
  obtain⟨q,k⟩:=p;cases q with
  |some b=>
   obtain⟨ro',g,e,m⟩:=QdQ (s.shutAny k hx hxl) hn.2 rest;refine⟨ro',g,λc n=>e c (.inl n),λi' a f d=>?_⟩;rcases X8.1 a with rfl|a
   .rw[k]at d;cases d;exact e _ (.inr rfl)
   .exact m i' a f d
  |none=>
   obtain⟨ro',g,e,m⟩:=QdQ (s.kill i) hn.2 rest;refine⟨ro',g,e,λi' a f d=>?_⟩;rcases X8.1 a with rfl|a
   .rw[k]at d;cases d
   .exact m i' a f d
end
end Go.Sw
namespace Go.Sw
structure Fil (α β:Type) where
 number:Int
 r0:List α
 r1:List α
 r2:List α
 reports:List β
 appeal:Bool
 deriving DecidableEq
structure FK (α β:Type) where
 T:Nat
 tF:Nat
 kF:Nat
 tR:Nat
 kR:Nat
 eF:α->List A
 eR:β->List A
section
variable {α β:Type} (K:FK α β)
def Qnd(b:Nat)(x:Fil α β):List A:=[.int .i64 x.number,.osl (b+1) 0 x.r0.length K.kF,.osl (b+2) 0 x.r1.length K.kF,.osl (b+3) 0 x.r2.length K.kF,.osl (b+4) 0 x.reports.length K.kR,.bool x.appeal]
def QkQ(b:Nat)(x:Fil α β):List Blk:=[.cells K.T (Qnd K b x),.row K.tF K.kF (x.r0.map K.eF),.row K.tF K.kF (x.r1.map K.eF),.row K.tF K.kF (x.r2.map K.eF),.row K.tR K.kR (x.reports.map K.eR)]
def fall:Nat->List (Fil α β)->List Blk
 |_,[]=>[]
 |b,x::l=>QkQ K b x++fall (b+5) l
def frp(x:Fil α β):List A:=[.int .i64 x.number,.rsl K.kF (x.r0.map K.eF),.rsl K.kF (x.r1.map K.eF),.rsl K.kF (x.r2.map K.eF),.rsl K.kR (x.reports.map K.eR),.bool x.appeal]
def fent:Nat->List (Fil α β)->List (Int×Nat)
 |_,[]=>[]
 |b,x::l=>(x.number,b)::fent (b+5) l
def Qeo(j:Nat):A:=.ptr j 0
def rpE(x:Fil α β):A:=.rp (frp K x)
def Qes(fs:List (Fil α β)):List (Int×Fil α β):=fs.map λx=>(x.number,x)
theorem QgG(b:Nat)(x:Fil α β)(l:List (Fil α β)):fall K b (x::l)=QkQ K b x++fall K (b+5) l:=rfl
theorem QgF(b:Nat)(x:Fil α β):(QkQ K b x).length=5:=rfl
end
section
variable {fr ro ro':Nat->Prop} {σ:Sig} {w:World}
theorem Qa0(sub:∀c,ro c->ro' c){i t k:Nat}{es:List (List A)}{v:Value}(r:∀b,σ[i]?=some (some b)->BR ro σ w (.row t k es) (some b)/\ro' b)(h:VR ro σ w (.osl i 0 es.length k) v):VR ro' [] w (.rsl k es) v:=by
 rcases h with⟨x,h⟩|⟨b,p,a,z,m,u,h,n,e,B,y⟩
 .have:es=[]:=VL.1 x;subst this;exact⟨none,0,h,XV _,.inl rfl⟩
 .refine⟨_,a,h,e,?_⟩;by_cases d:es=[]
  .exact .inl d
  .right;have f:0<a:=Vh (List.length_pos_iff.2 d) e;obtain rfl:=n f;obtain⟨⟨l,s,j⟩,g⟩:=r b u;refine⟨b,0,by simp,g,?_⟩;have:=YS (pre:=[]) (by simpa using s) j;exact this.keep ⟨sub,λ_ _=>rfl,λ_ _ q=>q,λ_ _ q=>q⟩ rfl
theorem QhZ{ro:Nat->Prop}{w:World}{b t:Nat}:∀{cs:List A} {pre l:List Value},w.heap[b]?=some (.cells (pre++l).toArray t (0,0))->LR ro [] w cs l->(∀v∈l,Qn v)->CR ro [] w b cs pre.length
 |[],pre,l,_,_,_=>trivial
 |a::cs,pre,l,hb,hl,hp=>by
  obtain⟨v,l',rfl,h1,h2⟩:=hl;refine⟨⟨v,?_,hp v (by simp),h1⟩,?_⟩
  .unfold World.cell?;rw[hb];simp
  .have:=QhZ (pre:=pre++[v]) (l:=l') (by simpa using hb) h2 λu hu=>hp u (X7 _ hu);simpa using this
variable {α β:Type} (K:FK α β)
theorem QoN(sub:∀c,ro c->ro' c){b:Nat}{x:Fil α β}{v:Value}(f:∀(d c:Nat) (y:Blk),(QkQ K b x)[d]?=some y->σ[b+d]?=some (some c)->BR ro σ w y (some c)/\ro' c)(h:VR ro σ w (.ptr b 0) v):VR ro' [] w (.rp (frp K x)) v:=by
 obtain⟨c,F,q⟩:=h;obtain⟨⟨l,n,a,s⟩,j⟩:=f 0 c _ rfl F;refine⟨c,0,q,j,?_⟩;refine QhZ (pre:=[]) (by simpa using n) ?_ s;unfold Qnd at a;obtain⟨v0,O,rfl,E,a⟩:=a;obtain⟨r,L,rfl,k,a⟩:=a;obtain⟨i,J,rfl,B,a⟩:=a;obtain⟨g,M,rfl,z,a⟩:=a;obtain⟨m,N,rfl,u,a⟩:=a;obtain⟨G,H,rfl,p,a⟩:=a;refine⟨v0,_,rfl,E,r,_,rfl,Qa0 sub (t:=K.tF) (λc e=>f 1 c _ rfl e) (by simpa using k),i,_,rfl,Qa0 sub (t:=K.tF) (λc e=>f 2 c _ rfl e) (by simpa using B),g,_,rfl,Qa0 sub (t:=K.tF) (λc e=>f 3 c _ rfl e) (by simpa using z),
  m,_,rfl,Qa0 sub (t:=K.tR) (λc e=>f 4 c _ rfl e) (by simpa using u),G,_,rfl,p,a⟩
theorem Qn6(sub:∀c,ro c->ro' c){ek:Int->A}(hek:∀(k:Int) (v:Value),VR ro σ w (ek k) v->VR ro' [] w (ek k) v):∀{b:Nat} {fs:List (Fil α β)} {es:List MapEntry},(∀(d c:Nat) (y:Blk),(fall K b fs)[d]?=some y->σ[b+d]?=some (some c)->BR ro σ w y (some c)/\ro' c)->
  ER ro σ w (Qm ek Qeo (fent b fs)) es->ER ro' [] w (Qm ek (rpE K) (Qes fs)) es
 |b,[],es,_,h=>h
 |b,x::l,es,hb,h=>by
  obtain⟨e,l',rfl,h1,h2,h3⟩:=h;refine⟨e,l',rfl,hek _ _ h1,?_,?_⟩
  .refine QoN K sub (λd c y hy hc=>hb d c y ?_ hc) h2;rw[QgG,XO (XN.1 hy).1];exact hy
  .refine Qn6 sub hek (b:=b+5) (fs:=l) (λd c y hy hc=>hb (d+5) c y ?_ (by rw[show b+(d+5)=b+5+d by omega];exact hc)) h3;rw[QgG,XP (by rw[QgF];omega),QgF,Nat.add_sub_cancel];exact hy
end
section
variable {fr ro:Nat->Prop} {σ:Sig} {w:World} {α β:Type} (K:FK α β)
theorem Sim.shutMapP{H:Qc}(s:Sim fr ro σ H w){i b:Nat}{es es':List (A×A)}(hσ:σ[i]?=some (some b))(hH:H[i]?=some (.mapP es))(he:∀l,ER ro σ w es l->ER (λc=>ro c\/c=b) [] w es' l):
  Sim fr (λc=>ro c\/c=b) σ (H.set i (.fmap es')) w:=by
 have k:b<w.heap.size/\ ¬ro b/\ ¬fr b:=s.own i b _ hσ hH rfl;have ext:Ext ro σ w (λc=>ro c\/c=b) σ w:=⟨λ_ q=>.inl q,λ_ _=>rfl,λ_ _ q=>q,λ_ _ q=>q⟩;have a:∀(j:Nat) (v:Blk),(H.set i (.fmap es'))[j]?=some v->v.live=true->j≠i/\H[j]?=some v:=by
  intro j v h u;by_cases e:j=i
  .subst e;rw[Xb]at h;simp only[if_true]at h;split at h
   .cases h;simp[Blk.live]at u
   .simp at h
  .rw[XR (λq=>e q.symm)]at h;exact⟨e,h⟩
 have g:∀(j:Nat) (v:Blk),(H.set i (.fmap es'))[j]?=some v->v.holds=true->H[j]?=some v:=by
  intro j v h u;by_cases e:j=i
  .subst e;rw[Xb]at h;simp only[if_true]at h;split at h
   .cases h;cases u
   .simp at h
  .rw[XR (λq=>e q.symm)]at h;exact h
 refine⟨by rw[X6];exact s.len,s.roOk.to (λ_ q=>.inl q) (λ_ _=>rfl) ?_,s.frLt,?_,?_,?_,?_,s.hidTo (· = ·) QY (XV _) (λj d x c M R Q P=>P.elim id λq=>((s.hid j d x c M R Q).ne i b _ hσ hH rfl q).elim) (λ_ _ _ _ _ _ _ q=>q) λj d y N L O=>.inl ⟨j,y,rfl,N,g j y L O,id,λ_ q=>q⟩⟩
 .rintro c (q|rfl)
  .exact s.roLt c q
  .exact k.1
 .rintro c (q|rfl)
  .exact s.roFr c q
  .exact k.2.2
 .intro j c v m f p;obtain⟨e,f⟩:=a j v f p;obtain⟨z,t,r⟩:=s.own j c v m f p;refine⟨z,?_,r⟩;rintro(q|rfl)
  .exact t q
  .exact e (s.inj j i c v _ m hσ f hH p rfl)
 .intro j B c v E m f p J F G;exact s.inj j B c v E m f (a j v p F).2 (a B E J G).2 F G
 .intro j y v m f;by_cases e:j=i
  .subst e;rw[Xa (XN.1 hH).1]at f;cases f;rw[hσ]at m;cases m;obtain⟨l,n,z,t,r⟩:=s.blk j _ _ hσ hH;exact⟨.inr rfl,l,n,z,he _ t,r⟩
  .rw[XR (λq=>e q.symm)]at f;exact(s.blk j y v m f).keep ext (λ_ _ _=>rfl) (λ_ _ _ _=>rfl)
end
end Go.Sw
namespace Go.Sw
open Go.Sort Go.Proofs Go.Shelf
theorem QmL{α:Type}{l:List α}(h:l.length=1):∃v,l=[v]:=by
 match l,h with
 |[v],_=>exact⟨v,rfl⟩
theorem Qfi{α β:Type}(f:α->β):∀l:List α,(l.map λa=>[f a]).flatten=l.map f
 |[]=>rfl
 |a::l=>by simp[Qfi f l]
structure Elt1 (ro:Nat->Prop) (w:World) {T:Type} (ea:T->A) (l:List T) where
 x:T
 v:Value
 mem:x∈l
 rel:VR ro [] w (ea x) v
 plain:Qn v
theorem QoV{P:Program}{ρ:Ren}(L0:SlLaysF0.n6 P ρ){T:Type}[DecidableEq T]{ea:T->A}{t g:Nat}{cap:List A}{l l':List T}{cf:T->T->Option Int}(hs:QbO cf l=some l')
  (ba:∀x y c,cf x y=some c->C P g ([ea x,ea y]++cap) [] (λa H=>a=.int .i64 c/\H=[]))
  (aE:∀w,(isAgg (ρ.t 24)).run P w=.ok false w)(zE:∀w,(Go.sizeOf (ρ.t 24)).run P w=.ok 1 w)(eg:∀args w,(callFunc g args).run P w=.ok (.enter g args) w)(hd:Ym cap=true):
  C P (ρ.f 6) [.osl 0 0 l.length 1,.fn (.func g) [] cap] [.row t 1 (l.map λx=>[ea x])] (λa H=>a=.tup []/\H=[.row t 1 (l'.map λx=>[ea x])]):=by
 have L:SlLaysF.n6 P ρ:={L0 with a24:=aE,z24:=zE};intro fr F σ vals w s hv;obtain⟨vs,r1,rfl,bm,vf,r2,rfl,bf,hr⟩:=hv;cases(show r2=[]from hr);obtain⟨lf,lc,rfl,h1,ax⟩:=bf;cases(show lf=[]from h1);have ak:LR F [] w cap lc:=LR.data hd ax;obtain⟨aw,ah,Q,al,a2⟩:=QcO hs;have B:∀(ad:Option Addr) (c:Nat),vs=.slice ad 0 c->l=[]->
   Calls P (ρ.f 6) [vs,.func (.func g) #[] lc.toArray].toArray w λe w'=>∃v r H' ab τ,e=.returned v/\(r=.tup []/\H'=[.row t 1 (l'.map λx=>[ea x])])/\Sim fr ab (σ++τ) H' w'/\VR ab (σ++τ) w' r v/\Qe fr F w ab w':=by
  rintro ad c rfl rfl;have ac:l'=[]:=by rw[<- a2];rfl
  subst ac;refine(AnyF.slices_SortFunc_none L0 ad c (.func (.func g) #[] lc.toArray) w).mono ?_;rintro e w' ⟨rfl,rfl⟩;exact⟨_,_,_,F,[],rfl,⟨rfl,rfl⟩,by simpa using s,⟨[],rfl,rfl⟩,Qe.refl _ _ _⟩
 rcases bm with⟨h0,rfl⟩|⟨b,p,cp,t',m,q1,rfl,q2,q3,q4,q5⟩
 .exact B none 0 rfl (VL.1 h0)
 .by_cases ac:l=[]
  .subst ac;exact B _ cp rfl rfl
  .have bl:0<l.length:=List.length_pos_iff.2 ac;obtain rfl:=q2 (Vh bl q3);obtain⟨lv,e1,e2⟩:=s.blk 0 _ _ q1 rfl;obtain⟨hb,ai,a3⟩:=s.own 0 b _ q1 rfl rfl;obtain⟨R,G,a1,rfl,bh⟩:=RL.parts e2
   let α:=Elt1 F w ea l
   have a5:∀p∈R,p.1∈l:=λp hp=>by rw[<- a1];exact VI hp
   have az:∀p∈R,∃v,p.2=[v]/\VR F [] w (ea p.1) v/\Qn v:=by
    intro p hp;obtain⟨g1,g2,g3⟩:=bh p hp;obtain⟨v,e⟩:=QmL g1;rw[e]at g2 g3;obtain⟨v',l',e',g4,g5⟩:=g2;cases e';exact⟨v,e,g4,g3 v (by simp)⟩
   let val:List Value->Value:=λl=>l.headD .nilFunc
   have X:∀p∈R,p.2=[val p.2]/\VR F [] w (ea p.1) (val p.2)/\Qn (val p.2):=by
    intro p hp;obtain⟨v,e,g⟩:=az p hp;rw[e];exact⟨rfl,g⟩
   let ds:List α:=R.attach.map λp=>⟨p.1.1,val p.1.2,a5 _ p.2,(X _ p.2).2.1,(X _ p.2).2.2⟩
   have a6:∀{γ:Type} (f:T×List Value->γ),R.attach.map (λp=>f p.1)=R.map f:=λf=>by simp
   have O:ds.map (·.x)=l:=by
    show(R.attach.map _).map _=_;rw[List.map_map];exact(a6 (·.1)).trans a1
   have av:ds.map (·.v)=R.map λp=>val p.2:=by
    show(R.attach.map _).map _=_;rw[List.map_map];exact a6 λp=>val p.2
   have aq:ds.length=l.length:=by rw[<- O];simp
   have a7:ds≠[]:=by intro q;rw[q]at aq;simp at aq;omega
   let inh:Inhabited α:=⟨ds.head a7⟩
   let enc':α->Value:=λa=>a.v
   let cf':α->α->Int:=λx y=>(cf x.x y.x).getD 0
   have ae:∀x y:α,ltOf cf' x y=ltO cf x.x y.x:=by
    intro x y;obtain⟨c,u⟩:=ah x.x x.mem y.x y.mem;simp only[ltOf,ltO,cf',u,Option.getD_some]
   have hO:SWO (ltOf cf'):=⟨λx=>by rw[ae];exact Q.irrefl _ x.mem,λx y z a b=>by rw[ae]at*;exact Q.trans _ x.mem _ y.mem _ z.mem a b,
    λx y z a b=>by rw[ae]at*;exact Q.ntrans _ x.mem _ y.mem _ z.mem a b⟩
   have bc:(R.map (·.2)).flatten=ds.map enc':=by
    have e3:R.map (·.2)=(R.map λp=>val p.2).map λv=>[v]:=by
     rw[List.map_map];exact List.map_congr_left λp hp=>(X p hp).1
    rw[e3, <- av];have:=Qfi (λv:Value=>v) (ds.map (·.v));rw[this];simp[enc']
   rw[bc]at e1;have hH:Holds enc' w b 0 ds.toArray:=by
    intro j hj;simp only[List.size_toArray]at hj;constructor
    .unfold World.cell?;simp only[e1,Option.isSome_none,Xj,if_false,Xx];rw[Qad,XO (by simpa using hj),Xq,Qff _ _ hj];rfl
    .unfold World.frozen?;simp only[e1];simp
   have aj:∀(d:Array α),d.size=ds.toArray.size->(putRow enc' w b 0 d).heap=w.heap.setIfInBounds b (.cells ((d.toList.map enc'++G)).toArray t (0,0)):=by
    intro d k;have au:(d.toList.map enc').length=(ds.map enc').length:=by simp at k⊢;rw[k]
    unfold putRow mapBlock;show w.heap.modify b _=_;rw[Qbg e1];simp only[onCells];congr 2;unfold putCells;apply Array.ext_getElem?;intro i;simp only[Array.getElem?_mapIdx,Qad,XW,true_and,Xx,Xw];by_cases hi:i<d.size
    .have V:i<(d.toList.map enc').length:=by simpa using hi
     rw[XO V,XO (by rw[<- au];exact V),XM (by rw[<- au];exact V),XM V];simp only[Xk,Vv hi];congr 1;rw[getElem!_pos d i hi];simp
    .have V:¬i<(d.toList.map enc').length:=by simpa using hi
     rw[XP (by omega),XP (by omega),au];cases(G[i-(ds.map enc').length]?)with
     |none=>rfl
     |some v=>exact congrArg some (Vu hi)
   have N:∀(m:Nat) (os:Array Obj) (d:Array α),d.size=ds.toArray.size->
     (∀c,c<w.heap.size->c≠b->(sortWorld enc' w b 0 m d os).heap[c]?=w.heap[c]?)/\(sortWorld enc' w b 0 m d os).heap[b]?=some (.cells ((d.toList.map enc'++G)).toArray t (0,0))/\
     w.heap.size<=(sortWorld enc' w b 0 m d os).heap.size:=by
    intro m os d k;have e:(sortWorld enc' w b 0 m d os).heap=w.heap.setIfInBounds b (.cells ((d.toList.map enc'++G)).toArray t (0,0))++os:=by
     rw[<- aj d k];rfl
    rw[e];refine⟨λc u bk=>?_,?_,by simp⟩
    .rw[Array.getElem?_append_left (by simpa using u),Vg,Vu (λq=>bk q.symm)]
    .rw[Array.getElem?_append_left (by simpa using hb),Vg,Vv rfl,Vv hb]
   have J:∀(m:Nat) (os:Array Obj) (d:Array α),d.size=ds.toArray.size->∀c y,w.shape? c=some y->(sortWorld enc' w b 0 m d os).shape? c=some y:=by
    intro m os d k c y hy;obtain⟨g1,g2,g3⟩:=N m os d k;by_cases u:c=b
    .subst u;unfold World.shape? at hy⊢;rw[e1]at hy;rw[g2];simp only[Option.some.injEq]at hy⊢;rw[<- hy];congr 1;simp only[List.size_toArray,X5,X4];simp at k⊢;rw[k]
    .unfold World.shape? at hy⊢;rw[g1 c (QbP hy) u];exact hy
   have af:∀(m:Nat) (os:Array Obj) (d:Array α),d.size=ds.toArray.size->∀τ,Ext F τ w F τ (sortWorld enc' w b 0 m d os):=by
    intro m os d k τ;obtain⟨g1,g2,g3⟩:=N m os d k;exact⟨λ_ q=>q,λc u=>g1 c (s.roLt c u) (λq=>ai (q▸u)),J m os d k,λ_ _ q=>q⟩
   have bd:CmpLays1 P g lc.toArray enc' cf' b 0 ds.toArray.size w:=by
    intro m os dk a0 x y;obtain⟨c,u⟩:=ah x.x x.mem y.x y.mem;have E:=af m os dk a0 [];have bp:=ba _ _ _ u;generalize hW:sortWorld enc' w b 0 m dk os=W at*;have bj:w.heap.size<=W.heap.size:=by rw[<- hW];exact(N m os dk a0).2.2
    have sW:Sim (λc=>c<W.heap.size/\ ¬F c) F [] [] W:=
     ⟨rfl,s.roOk.to (λ_ q=>q) E.keep (λc u=>Vh (s.roLt c u) bj),λc u=>u.1,λc u hf=>hf.2 u,λi b x h=>by simp at h,λi j b x y h=>by simp at h,λi y x h=>by simp at h,λi b x c h=>by simp at h⟩
    have ar:LR F [] W ([ea x.x,ea y.x]++cap) ([x.v,y.v]++lc):=
     LR.append (show LR F [] W [ea x.x,ea y.x] [x.v,y.v]from⟨_,_,rfl,x.rel.mono E,_,_,rfl,y.rel.mono E,rfl⟩) (ak.mono E)
    have M:=bp _ F [] _ W sW ar;have bn:(([x.v,y.v]++lc).toArray:Array Value)= #[enc' x,enc' y]++lc.toArray:=by simp[enc']
    rw[bn]at M;refine M.mono ?_;rintro e w' ⟨v,r,H',ab,τ,rfl,⟨rfl,rfl⟩,s',bi,ev⟩;refine⟨?_,?_⟩
    .rw[show v=.int .i64 c from bi];simp only[cf',u,Option.getD_some]
    .refine QkM (λc u=>?_) ev.size ev.os ev.tape ev.output ev.drawn;by_cases a9:F c
     .exact ev.keepRo c a9
     .exact ev.keepFr c ⟨u,a9⟩
   have aa:ds.toArray.size=l.length:=by simpa using aq
   have bq:b+0=b:=rfl;have ag:=Any.slices_SortFunc L enc' (λx=>Qgo x.plain) cf' hO g lc.toArray b 0 cp ds.toArray w eg bd hH hb (by rw[aa];unfold Qv at aw;omega);rw[aa]at ag;rw[Nat.zero_mul];refine ag.mono ?_;rintro e w' ⟨rfl,d,n,os,Y,ao,rfl⟩;have k:d.size=ds.toArray.size:=Y.1;obtain⟨g1,g2,g3⟩:=N n os d k;have an:d.toList.Perm ds:=by
    have h:=Y.2.2;have x1:d.extract 0 l.length=d:=by rw[<- aa, <- k];exact Array.extract_size
    have x2:ds.toArray.extract 0 l.length=ds.toArray:=by rw[<- aa];exact Array.extract_size
    rw[x1,x2]at h;simpa using h
   have a8:d.toList.map (·.x)=l':=by
    rw[<- a2];refine Js (lt:=ltO cf) ?_ ?_ ?_ (Q4 Q)
    .exact((an.map (·.x)).trans (by rw[O])).trans (Qq _ _).symm
    .intro x hx y hy;have be:x∈l:=by rw[<- O];exact(an.map (·.x)).mem_iff.1 hx
     have bo:y∈l:=by rw[<- O];exact(an.map (·.x)).mem_iff.1 hy
     exact al x be y bo
    .rw[VG];intro i j hi hj bb;simp only[X4]at hi hj;simp only[List.getElem_map];rw[<- ae];have:=ao i j (XW _) bb (by rw[<- aa, <- k];simpa using hj);rw[getElem!_pos d j (by simpa using hj),getElem!_pos d i (by simpa using hi)]at this;simpa using this
   have bg:RL F [] (sortWorld enc' w b 0 n d os) 1 (l'.map λx=>[ea x]) (d.toList.map enc'++G):=by
    have e3:d.toList.map enc'=((d.toList.map λa=>(a.x,[a.v])).map (·.2)).flatten:=by
     rw[List.map_map];exact(Qfi (λa:α=>a.v) d.toList).symm
    have e4:l'=(d.toList.map λa=>(a.x,[a.v])).map (·.1):=by rw[<- a8];simp
    rw[e3,e4];refine Qb5 (enc:=λx=>[ea x]) (λ_=>rfl) ?_;intro p hp;obtain⟨a,_,rfl⟩:=Xf.1 hp;exact⟨⟨_,_,rfl,a.rel.mono (af n os d k []),rfl⟩,λv hv=>by rw[VD.1 hv];exact a.plain⟩
   have a4:Qe fr F w F (sortWorld enc' w b 0 n d os):=
    ⟨λ_ q=>q,λc u=>g1 c (s.roLt c u) (λq=>ai (q▸u)),λc u=>g1 c (s.frLt c u) (λq=>a3 (q▸u)),g3,J n os d k,rfl,rfl,rfl,Nat.le_add_right _ _⟩
   have am:σ.length=1:=s.len;have ay:Sim fr F σ [.row t 1 (l'.map λx=>[ea x])] (sortWorld enc' w b 0 n d os):=by
    have i0:∀{i:Nat} {x:Blk},([.row t 1 (l'.map λx=>[ea x])]:Qc)[i]?=some x->i=0/\x=.row t 1 (l'.map λx=>[ea x]):=by
     intro i x h;cases i with
     |zero=>simp at h;exact⟨rfl,h.symm⟩
     |succ i=>simp at h
    refine⟨am,s.roOk.to (λ_ q=>q) a4.keepRo (λc u=>Vh (s.roLt c u) g3),λc u=>Vh (s.frLt c u) g3,s.roFr,λi c x h1 h2 h3=>?_,λi j c x y h1 h2 h3 h4 _ _=>?_,λi y x h1 h2=>?_,λi b x c h1 h2 h3=>by obtain⟨rfl,rfl⟩:=i0 h2;exact h3.elim⟩
    .obtain⟨rfl,rfl⟩:=i0 h2;obtain⟨p1,p2⟩:=s.own 0 c _ h1 rfl rfl;exact⟨Vh p1 g3,p2⟩
    .rw[(i0 h3).1,(i0 h4).1]
    .obtain⟨rfl,rfl⟩:=i0 h2;rw[q1]at h1;cases h1;exact⟨_,g2,bg⟩
   exact⟨_,_,_,F,[],rfl,⟨rfl,rfl⟩,by simpa using ay,⟨[],rfl,rfl⟩,a4⟩
end Go.Sw
namespace Go.Sw
structure Pl where
 b:Nat
 i0:Nat
 i1:Nat
 i2:Nat
 i3:Nat
def Pl.ix(p:Pl):List Nat:=[p.b,p.i0,p.i1,p.i2,p.i3]
section
variable {α β:Type} (K:FK α β)
def Q6(p:Pl)(x:Fil α β):List A:=[.int .i64 x.number,.osl p.i0 0 x.r0.length K.kF,.osl p.i1 0 x.r1.length K.kF,.osl p.i2 0 x.r2.length K.kF,.osl p.i3 0 x.reports.length K.kR,.bool x.appeal]
structure QbF (H:Qc) (x:Fil α β) (p:Pl):Prop where
 c:H[p.b]?=some (.cells K.T (Q6 K p x))
 r0:H[p.i0]?=some (.row K.tF K.kF (x.r0.map K.eF))
 r1:H[p.i1]?=some (.row K.tF K.kF (x.r1.map K.eF))
 r2:H[p.i2]?=some (.row K.tF K.kF (x.r2.map K.eF))
 r3:H[p.i3]?=some (.row K.tR K.kR (x.reports.map K.eR))
abbrev QaU(α β:Type):=List (Fil α β×Pl)
def YV(bk:QaU α β):List (Int×Nat):=bk.map λe=>(e.1.number,e.2.b)
structure YE (lo:Nat) (H:Qc) (bk:QaU α β):Prop where
 laid:∀e∈bk,QbF K H e.1 e.2
 own:∀e∈bk,e.2.ix.Nodup
 ne:bk.Pairwise λe f=>∀i∈e.2.ix,i∉f.2.ix
 lo:∀e∈bk,∀i∈e.2.ix,lo<=i
 num:(bk.map (·.1.number)).Nodup
variable {K} {lo:Nat} {H H':Qc} {bk l r:QaU α β} {e:Fil α β×Pl} {x':Fil α β} {p':Pl}
theorem YE.nil:YE K lo H ([]:QaU α β):=⟨(λ_ h=>by cases h),(λ_ h=>by cases h),List.Pairwise.nil,(λ_ h=>by cases h),List.nodup_nil⟩
theorem QbF.lt(h:QbF K H e.1 e.2):∀i∈e.2.ix,i<H.length:=by
 intro i a;have g:∀{j:Nat} {y:Blk},H[j]?=some y->j<H.length:=λq=>(XN.1 q).1;simp only[Pl.ix,X8,List.not_mem_nil,or_false]at a;rcases a with rfl|rfl|rfl|rfl|rfl
 .exact g h.c
 .exact g h.r0
 .exact g h.r1
 .exact g h.r2
 .exact g h.r3
theorem QbF.keep(h:QbF K H e.1 e.2)(k:∀i∈e.2.ix,H'[i]?=H[i]?):QbF K H' e.1 e.2:=by
 refine⟨?_,?_,?_,?_,?_⟩
 .rw[k _ (by simp[Pl.ix])];exact h.c
 .rw[k _ (by simp[Pl.ix])];exact h.r0
 .rw[k _ (by simp[Pl.ix])];exact h.r1
 .rw[k _ (by simp[Pl.ix])];exact h.r2
 .rw[k _ (by simp[Pl.ix])];exact h.r3
theorem YE.keep(h:YE K lo H bk)(k:∀j,lo<=j->j<H.length->H'[j]?=H[j]?):YE K lo H' bk:=
 ⟨λe he=>(h.laid e he).keep λi hi=>k i (h.lo e he i hi) ((h.laid e he).lt i hi),h.own,h.ne,h.lo,h.num⟩
theorem YE.upd(h:YE K lo H (l++e::r))(z:QbF K H' x' p')(E:x'.number=e.1.number)(B:∀j,lo<=j->j<H.length->j∉e.2.ix->H'[j]?=H[j]?)
  (hi:∀i∈p'.ix,i∈e.2.ix\/H.length<=i)(y:p'.ix.Nodup)(hl:lo<=H.length):YE K lo H' (l++(x',p')::r):=by
 obtain⟨x,w,p⟩:=List.pairwise_append.1 h.ne;obtain⟨t,u⟩:=Xc.1 w;have mem:∀f∈l++(x',p')::r,f=(x',p')\/(f∈l++e::r/\ ∀i∈f.2.ix,i∉e.2.ix):=by
  intro f b;rcases VF.1 b with q|q
  .exact .inr ⟨List.mem_append_left _ q,λi hi a=>p f q e (by simp) i hi a⟩
  .rcases X8.1 q with q|q
   .exact .inl q
   .exact .inr ⟨by simp[q],λi hi a=>t f q i a hi⟩
 refine⟨?_,?_,?_,?_,?_⟩
 .intro f b;rcases mem f b with rfl|⟨k,n⟩
  .exact z
  .exact(h.laid f k).keep λi hi=>B i (h.lo f k i hi) ((h.laid f k).lt i hi) (n i hi)
 .intro f b;rcases mem f b with rfl|⟨k,n⟩
  .exact y
  .exact h.own f k
 .refine List.pairwise_append.2 ⟨x,Xc.2 ⟨?_,u⟩,?_⟩
  .intro f b i a d;rcases hi i a with q|q
   .exact t f b i q d
   .have:=(h.laid f (by simp[b])).lt i d;omega
  .intro f b g s i d m;rcases X8.1 s with rfl|s
   .rcases hi i m with q|q
    .exact p f b e (by simp) i d q
    .have:=(h.laid f (by simp[b])).lt i d;omega
   .exact p f b g (by simp[s]) i d m
 .intro f b;rcases mem f b with rfl|⟨k,n⟩
  .intro i a;rcases hi i a with q|q
   .exact h.lo e (by simp) i q
   .omega
  .exact h.lo f k
 .have:=h.num;rw[Xg,Vl]at this⊢;show(_++x'.number::_).Nodup;rw[E];exact this
theorem YE.add(h:YE K lo H bk)(s:QbF K H' x' p')(u:∀e∈bk,e.1.number≠x'.number)(t:∀j,lo<=j->j<H.length->H'[j]?=H[j]?)
  (hi:∀i∈p'.ix,H.length<=i)(p:p'.ix.Nodup)(hl:lo<=H.length):YE K lo H' (bk++[(x',p')]):=by
 have n:=h.keep t;have mem:∀f∈bk++[(x',p')],f∈bk\/f=(x',p'):=by
  intro f d;rcases VF.1 d with q|q
  .exact .inl q
  .exact .inr (VD.1 q)
 refine⟨?_,?_,?_,?_,?_⟩
 .intro f d;rcases mem f d with q|rfl
  .exact n.laid f q
  .exact s
 .intro f d;rcases mem f d with q|rfl
  .exact h.own f q
  .exact p
 .refine List.pairwise_append.2 ⟨h.ne,by simp,λf d g w i k l=>?_⟩;obtain rfl:=VD.1 w;have:=(h.laid f d).lt i k;have:=hi i l;omega
 .intro f d i k;rcases mem f d with q|rfl
  .exact h.lo f q i k
  .have:=hi i k;omega
 .rw[Xg];refine List.nodup_append.2 ⟨h.num,by simp,?_⟩;intro a r b m;simp at m;subst m;obtain⟨f,d,rfl⟩:=Xf.1 r;exact u f d
theorem QdM:∀(d:QaU α β) (k:Int),(Y1 (YV d) k=none/\ ∀e∈d,e.1.number≠k)\/ ∃l e r,d=l++e::r/\e.1.number=k/\(∀y∈l,y.1.number≠k)/\Y1 (YV d) k=some e.2.b
 |[],k=>.inl ⟨rfl,λ_ h=>by cases h⟩
 |e::l,k=>by
  have e0:Y1 (YV (e::l)) k=if e.1.number=k then some e.2.b else Y1 (YV l) k:=by
   show Y1 ((e.1.number,e.2.b)::YV l) k=_;simp[Y1];by_cases q:e.1.number=k<;>simp[q]
  by_cases q:e.1.number=k
  .exact .inr ⟨[],e,l,rfl,q,(λ_ h=>by cases h),by rw[e0,Vv q]⟩
  .rcases QdM l k with⟨g,f⟩|⟨p,y,r,g,f,i,j⟩
   .refine .inl ⟨by rw[e0,Vu q];exact g,λz a=>?_⟩;rcases X8.1 a with rfl|a
    .exact q
    .exact f z a
   .refine .inr ⟨e::p,y,r,by rw[g];rfl,f,λz a=>?_,by rw[e0,Vu q,j]⟩;rcases X8.1 a with rfl|a
    .exact q
    .exact i z a
theorem QlO(p q:QaU α β):YV (p++q)=YV p++YV q:=by simp[YV]
theorem QlN(a:x'.number=e.1.number)(d:p'.b=e.2.b):YV (l++(x',p')::r)=YV (l++e::r):=by simp[YV,a,d]
end
section
variable {fr ro ro':Nat->Prop} {σ:Sig} {w:World} {α β:Type} (K:FK α β)
theorem QnH(sub:∀c,ro c->ro' c){p:Pl}{x:Fil α β}{v:Value}{H:Qc}(hl:QbF K H x p)(e:∀i∈p.ix,∀(c:Nat) (y:Blk),H[i]?=some y->σ[i]?=some (some c)->BR ro σ w y (some c)/\ro' c)(h:VR ro σ w (.ptr p.b 0) v):VR ro' [] w (.rp (frp K x)) v:=by
 obtain⟨c,G,r⟩:=h;obtain⟨⟨l,n,a,u⟩,j⟩:=e p.b (by simp[Pl.ix]) c _ hl.c G;refine⟨c,0,r,j,?_⟩;refine QhZ (pre:=[]) (by simpa using n) ?_ u;unfold Q6 at a;obtain⟨v0,Q,rfl,F,a⟩:=a;obtain⟨s,N,rfl,k,a⟩:=a;obtain⟨g,M,rfl,E,a⟩:=a;obtain⟨f,O,rfl,B,a⟩:=a;obtain⟨m,P,rfl,z,a⟩:=a;obtain⟨J,L,rfl,q,a⟩:=a;refine⟨v0,_,rfl,F,s,_,rfl,Qa0 sub (t:=K.tF) (λc d=>e p.i0 (by simp[Pl.ix]) c _ hl.r0 d) (by simpa using k),g,_,rfl,Qa0 sub (t:=K.tF) (λc d=>e p.i1 (by simp[Pl.ix]) c _ hl.r1 d) (by simpa using E),f,_,rfl,Qa0 sub (t:=K.tF) (λc d=>e p.i2 (by simp[Pl.ix]) c _ hl.r2 d) (by simpa using B),
  m,_,rfl,Qa0 sub (t:=K.tR) (λc d=>e p.i3 (by simp[Pl.ix]) c _ hl.r3 d) (by simpa using z),J,_,rfl,q,a⟩
theorem QgZ(sub:∀c,ro c->ro' c){H:Qc}{ek:Int->A}(hek:∀(k:Int) (v:Value),VR ro σ w (ek k) v->VR ro' [] w (ek k) v):∀{bk:QaU α β} {es:List MapEntry},(∀e∈bk,QbF K H e.1 e.2)->(∀e∈bk,∀i∈e.2.ix,∀(c:Nat) (y:Blk),H[i]?=some y->σ[i]?=some (some c)->BR ro σ w y (some c)/\ro' c)->
  ER ro σ w (Qm ek Qeo (YV bk)) es->ER ro' [] w (Qm ek (rpE K) (Qes (bk.map (·.1)))) es
 |[],es,_,_,h=>h
 |x::l,es,hl,hb,h=>by
  obtain⟨e,l',rfl,h1,h2,h3⟩:=h;exact⟨e,l',rfl,hek _ _ h1,QnH K sub (hl x (by simp)) (hb x (by simp)) h2,QgZ sub hek (λe he=>hl e (by simp[he])) (λe he=>hb e (by simp[he])) h3⟩
def Qcu(bk:QaU α β):List Nat:=bk.flatMap λe=>e.2.ix
theorem YE.all{lo:Nat}{H:Qc}:∀{d:QaU α β},YE K lo H d->(Qcu d).Nodup/\ ∀i∈Qcu d,lo<=i/\ ∃y,H[i]?=some y/\y.live=true:=by
 intro d h;refine⟨?_,?_⟩
 .have q:=h.own;have r:=h.ne;clear h
  induction d with
  |nil=>exact List.nodup_nil
  |cons e l x=>
   obtain⟨t,s⟩:=Xc.1 r;show(e.2.ix++Qcu l).Nodup;refine List.nodup_append.2 ⟨q e (by simp),x (λf n=>q f (by simp[n])) s,?_⟩;intro a u b w m;obtain⟨f,n,k⟩:=List.mem_flatMap.1 w;exact t f n a u (m▸k)
 .intro i j;obtain⟨e,p,j⟩:=List.mem_flatMap.1 j;refine⟨h.lo e p i j,?_⟩;have g:=h.laid e p;simp only[Pl.ix,X8,List.not_mem_nil,or_false]at j;rcases j with rfl|rfl|rfl|rfl|rfl
  .exact⟨_,g.c,rfl⟩
  .exact⟨_,g.r0,rfl⟩
  .exact⟨_,g.r1,rfl⟩
  .exact⟨_,g.r2,rfl⟩
  .exact⟨_,g.r3,rfl⟩
end
section
variable {α β:Type} (K:FK α β) {env:Env} {H:Qc}
theorem QnU{h0 lo m:Nat}{d:QaU α β}(F:YE K lo H d)(z:Nat.blt m lo=true)(p:H[m]?=some (.mapP (Qm (λn=>.int .i64 n) Qeo (YV d)))):
  Le h0 env H env ((QbV H (Qcu d)).set m (.fmap (Qm (λn=>.int .i64 n) (rpE K) (Qes (d.map (·.1)))))):=by
 intro R ro σ N a w r;have s:=r.sim;obtain⟨nd,g⟩:=F.all;have O:m<lo:=by simpa[Nat.blt_eq]using z
 have J:∃q,σ[m]?=some q:=by
  have:m<σ.length:=by rw[s.len];exact(XN.1 p).1
  exact⟨_,XM this⟩
 obtain⟨q,E⟩:=J;cases q with
 |none=>exact(s.blk m _ _ E p).elim
 |some x=>
 obtain⟨b,Q,f,B⟩:=QdQ s (l:=Qcu d) nd (λi t=>(g i t).2);have u:(QbV H (Qcu d))[m]?=some (.mapP (Qm (λn=>.int .i64 n) Qeo (YV d))):=by
  rw[Qgy (λq=>by have:=(g m q).1;omega)];exact p
 have P:=Q.shutMapP (es':=Qm (λn=>.int .i64 n) (rpE K) (Qes (d.map (·.1)))) E u (λl G=>?_)
 .have sub:∀c,ro c->b c\/c=x:=λc j=>.inl (f c j);have ext:Ext ro σ w (λc=>b c\/c=x) σ w:=⟨sub,λ_ _=>rfl,λ_ _ q=>q,λ_ _ q=>q⟩;exact⟨_,σ,⟨P,λq=>(r.env q).mono ext,r.size,r.defers⟩,sub,rfl⟩
 .have ext:Ext ro σ w b σ w:=⟨f,λ_ _=>rfl,λ_ _ q=>q,λ_ _ q=>q⟩;refine QgZ K (ek:=λn=>.int .i64 n) (ro:=b) (ro':=λc=>b c\/c=x) (H:=H) (λc j=>.inl j) (λk v h=>h) F.laid (λe M i t c y L j=>?_) G;exact⟨(s.blk _ _ _ j L).keep ext (λ_ _ _=>rfl) (λ_ _ _ _=>rfl),.inl (B _ (List.mem_flatMap.2 ⟨e,M,t⟩) c j)⟩
end
end Go.Sw
namespace Go.Sw
section
variable {P:Program} {h0 N:Nat} {all:Array Oper} {o:Oper} {l:List Oper} {env:Env} {H:Qc} {Q:QA}
theorem QcK{d:Nat}{f:FuncId}{args:List A}{Qr:A->Qc->Prop}(i:OpC P o env H f args)(p:C P f args H Qr)
  (k:∀r H1,Qr r H1->WO P h0 N all l (up env d r) H1 Q)(G:h0<=H.length)(hg:Qp all o env true:=by exact rfl)(hd:o.dst=some d:=by exact rfl)(hN:Nat.blt d N=true:=by exact rfl):
  WO P h0 N all (o::l) env H Q:=by
 intro u fr m σ a w r hrd;obtain⟨b,E,x⟩:=i fr m σ N a w r;refine Qdt (YK hg r) E ?_;have hσl:=r.sim.len;refine Calls.mono (p fr m σ b w r.sim x) ?_;rintro e j ⟨v,n,H1,g,τ,rfl,y,B,t,ev⟩;have z:=k n H1 y;simp only[hd,Act.put];have h:d<N:=by simpa[Nat.blt_eq]using hN
 have F:Rel fr g (σ++τ) H1 (up env d n) N {a with tmps:=a.tmps.setIfInBounds d v} j:=
  ⟨B,VR.up (fr:=fr) (λs=>(r.env s).mono (ev.ext σ τ)) (by rw[r.size];exact h) t,by simpa using r.size,r.defers.keep ev⟩
 exact⟨_,rfl,Yq (λe a w q=>q.step ev (Qy (by omega))) _ _ _ (z u fr g (σ++τ) _ j F (hrd.to ev λ_ q=>q))⟩
end
section
variable {h0 n:Nat} {env env':Env} {H H':Qc}
theorem QnX(n:Nat)(hn:h0<=n)(hl:n<=H.length)(hH:(H'.map (QW (rho (List.range n) H.length))).map some=(List.range n).map (λp=>H[p]?))(hE:Qel (rho (List.range n) H.length) env env'):Le h0 env H env' H':=
 QnV (List.range n) (by rw[List.take_range,XC hn]) hH.symm List.nodup_range hE
end
section
variable {P:Program} {o:Oper} {env:Env} {H:Qc} {α:Type}
theorem Ql3{t E n:Nat}{x y:Operand}{l:List α}{e:α->List A}{c:α}{k:IntKind}{i:Int}{v:A}(h:idx l i=some c)(hl:l.length=n)(d:∀x,∃v,e x=[v])(G:e c=[v])(L:∀w,(underlying t).run P w=.ok (.array n E) w)(q:∀w,(isAgg E).run P w=.ok false w)(p:∀w,(Go.sizeOf E).run P w=.ok 1 w)
  (s:o.op=.index t x y:=by exact rfl)(hx:opA env x=.agg (l.map e).flatten:=by exact rfl)(hy:opA env y=.int k i:=by exact rfl):OpV P o env H v:=by
 obtain⟨z,g⟩:=Qav h;intro T R σ N a w r;have b:=Qd r x;rw[hx]at b;obtain⟨m,b,Q⟩:=b;have J:=QN r hy;have B:∀(l:List α),(l.map e).flatten[i.toNat]?=(l.map λx=>(e x).headD .any)[i.toNat]? :=by
  intro l;have:(l.map e).flatten=l.map λx=>(e x).headD .any:=by
   induction l with
   |nil=>rfl
   |cons a l O=>
    obtain⟨v,d⟩:=d a;simp[d,O]
  rw[this]
 have F:(l.map e).flatten[i.toNat]?=some v:=by
  rw[B,Xq,g];simp[G]
 obtain⟨u,M,j⟩:=Q.get _ F;have f:i<(n:Int):=by
  have:=(XN.1 g).1;omega
 refine⟨u,?_,j⟩;generalize a.eval=ρ at*;simp[execOp,s,b,J,Instr.index,asIntOf,L,z,f,p,part,q,M,go_sem]
end
end Go.Sw
namespace Go.Sw
section
variable {α β:Type}
def Qau(k:Int):Fil α β:=⟨k,[],[],[],[],false⟩
def Qag(fs:List (Fil α β))(k:Int):List (Fil α β):=bif fs.any (λx=>decide (x.number=k))then fs else fs++[Qau k]
def Qbq(fs:List (Fil α β))(k:Int)(g:Fil α β->Fil α β):List (Fil α β):=fs.map λx=>bif decide (x.number=k)then g x else x
def Qd0(fs:List (Fil α β)):Bool:=fs.all λx=>Nat.ble (x.r0.length+1) Qv&&Nat.ble (x.r1.length+1) Qv&&Nat.ble (x.r2.length+1) Qv&&Nat.ble (x.reports.length+1) Qv
variable (K:FK α β) {lo:Nat} {H H':Qc} {bk:QaU α β}
theorem Qc5{fs:List (Fil α β)}{k:Int}(h:∃x∈fs,x.number=k):Qag fs k=fs:=by
 unfold Qag;have:fs.any (λx=>decide (x.number=k))=true:=by
  obtain⟨x,a,e⟩:=h;exact Xv.2 ⟨x,a,by simp[e]⟩
 rw[this];rfl
theorem QbW{fs:List (Fil α β)}{k:Int}(h:∀x∈fs,x.number≠k):Qag fs k=fs++[Qau k]:=by
 unfold Qag;have:fs.any (λx=>decide (x.number=k))=false:=by
  rw[List.any_eq_false];intro x a;simp[h x a]
 rw[this];rfl
theorem Qoe{l r:List (Fil α β)}{x:Fil α β}{k:Int}{g:Fil α β->Fil α β}(h:((l++x::r).map (·.number)).Nodup)(b:x.number=k):Qbq (l++x::r) k g=l++g x::r:=by
 rw[Xg,Vl,List.nodup_append]at h;obtain⟨p,f,n⟩:=h;rw[List.nodup_cons]at f;have e:∀m:List (Fil α β),(∀y∈m,y.number≠k)->Qbq m k g=m:=by
  intro m j;unfold Qbq
  conv=>rhs;rw[<- List.map_id m]
  exact List.map_congr_left λy a=>by simp[j y a]
 have d:=e l (λy a q=>n y.number (VI a) x.number (by simp) (by rw[q,b]));have i:=e r (λy a q=>f.1 (by rw[b, <- q];exact VI a));unfold Qbq at d i⊢;rw[Xg,Vl,d,i];simp[b]
theorem Qih{l r:List (Fil α β)}{x:Fil α β}(h:Qd0 (l++x::r)=true):x.r0.length+1<=Qv/\x.r1.length+1<=Qv/\x.r2.length+1<=Qv/\x.reports.length+1<=Qv:=by
 unfold Qd0 at h;have:=Xu.1 h x (by simp);simp only[XY]at this;obtain⟨⟨⟨d,b⟩,a⟩,e⟩:=this;exact⟨XT d,XT b,XT a,XT e⟩
def QaV(n:Nat):Pl:=⟨n,n+1,n+2,n+3,n+4⟩
def Qca(n:Nat)(k:Int):Qc:=[.cells K.T (Q6 K (QaV n) (Qau k)),.row K.tF K.kF [],.row K.tF K.kF [],.row K.tF K.kF [],.row K.tR K.kR []]
theorem Qko{h0:Nat}{env:Env}{k:Int}(d:h0<=H.length):
  Le h0 env (H++[.cells K.T [.int .i64 k,.nils,.nils,.nils,.nils,.bool false]]) env (H++Qca K H.length k):=by
 have a:∀(n:Nat) (G:Qc) (cs cs':List A) (t k':Nat) (m:Nat),n=H.length+1+G.length->cs[m]?=some .nils->cs'=cs.set m (.osl n 0 0 k')->
   Le h0 env (H++.cells K.T cs::G) env (H++.cells K.T cs'::(G++[.row t k' []])):=by
  intro n G cs cs' t k' m hn hm hc;have:=Qek (h0:=h0) (env:=env) (H:=H++.cells K.T cs::G) (i:=H.length) (m:=m) (t:=t) (k:=k') (T:=K.T) (cs:=cs)
   (by simp;omega) (by simp) hm
  have e:(H++.cells K.T cs::G).length=n:=by simp;omega
  rw[e]at this;have b:(H++.cells K.T cs::G).set H.length (.cells K.T (cs.set m (.osl n 0 0 k')))=H++.cells K.T cs'::G:=by
   rw[List.set_append_right _ _ (XV _),Nat.sub_self,hc];rfl
  rw[b,Vk]at this;exact this
 refine Le.trans (a (H.length+1) [] _ _ K.tF K.kF 1 (by simp) rfl rfl) ?_;refine Le.trans (a (H.length+2) [.row K.tF K.kF []] _ _ K.tF K.kF 2 (by simp) rfl rfl) ?_;refine Le.trans (a (H.length+3) [.row K.tF K.kF [],.row K.tF K.kF []] _ _ K.tF K.kF 3 (by simp) rfl rfl) ?_;exact a (H.length+4) [.row K.tF K.kF [],.row K.tF K.kF [],.row K.tF K.kF []] _ _ K.tR K.kR 4 (by simp) rfl rfl
theorem QbF.new{k:Int}:QbF K (H++Qca K H.length k) (Qau k) (QaV H.length):=by
 have g:∀(j:Nat) (y:Blk),(Qca K H.length k)[j]?=some y->(H++Qca K H.length k)[H.length+j]?=some y:=by
  intro j y h;rw[XP (by omega),Nat.add_sub_cancel_left];exact h
 exact⟨g 0 _ rfl,g 1 _ rfl,g 2 _ rfl,g 3 _ rfl,g 4 _ rfl⟩
theorem QkC(n:Nat):(∀i∈(QaV n).ix,n<=i)/\(QaV n).ix.Nodup:=by
 refine⟨?_,?_⟩
 .intro i a;simp only[Pl.ix,QaV,X8,List.not_mem_nil,or_false]at a;omega
 .simp[Pl.ix,QaV]
variable {K}
theorem YE.new{k:Int}(h:YE K lo H bk)(b:∀e∈bk,e.1.number≠k)(hl:lo<=H.length):YE K lo (H++Qca K H.length k) (bk++[(Qau k,QaV H.length)]):=by
 refine h.add (QbF.new K) b (λj d a=>by rw[XO a]) (QkC _).1 (QkC _).2 hl
theorem YE.row{l r:QaU α β}{e:Fil α β×Pl}{x':Fil α β}{p':Pl}{i:Nat}{y:Blk}(h:YE K lo H (l++e::r))(hl:lo<=H.length)(E:x'.number=e.1.number)(hi:i∈e.2.ix)(t:i≠e.2.b)(g:p'.b=e.2.b)
  (hH:H'=(H.set i .dead++[y]).set e.2.b (.cells K.T (Q6 K p' x')))
  (p:p'.ix=e.2.ix.map λj=>bif Nat.beq j i then H.length else j)
  (h0:H'[p'.i0]?=some (.row K.tF K.kF (x'.r0.map K.eF)))(L:H'[p'.i1]?=some (.row K.tF K.kF (x'.r1.map K.eF)))(G:H'[p'.i2]?=some (.row K.tF K.kF (x'.r2.map K.eF)))(x:H'[p'.i3]?=some (.row K.tR K.kR (x'.reports.map K.eR))):
  YE K lo H' (l++(x',p')::r):=by
 have F:=h.laid e (by simp);have d:=F.lt;have M:e.2.b<H.length:=d _ (by simp[Pl.ix]);refine h.upd ⟨?_,h0,L,G,x⟩ E ?_ ?_ ?_ hl
 .rw[hH,g,Xa (by simp;omega)]
 .intro j n J s;rw[hH,XR (λq=>s (by rw[<- q];simp[Pl.ix])),XO (by simpa using J),XR (λq=>s (by rw[<- q];exact hi))]
 .intro j k;rw[p]at k;obtain⟨w,n,rfl⟩:=Xf.1 k;cases q:Nat.beq w i with
  |true=>exact .inr (XV _)
  |false=>exact .inl n
 .rw[p];have B:=h.own e (by simp);refine List.pairwise_map.2 (List.Pairwise.imp_of_mem ?_ B);intro a b z g f;have O:=d a z;have N:=d b g;cases u:Nat.beq a i with
  |true=>
   cases m:Nat.beq b i with
   |true=>exact absurd ((XS u).trans (XS m).symm) f
   |false=>simp only[Vr,Vs];omega
  |false=>
   cases m:Nat.beq b i with
   |true=>simp only[Vr,Vs];omega
   |false=>exact f
end
end Go.Sw
namespace Go.Sw
section
variable {fr ro:Nat->Prop} {σ:Sig} {H:Qc} {w:World}
theorem Sim.addIdle(s:Sim fr ro σ H w){x:Blk}{z:Option Nat}(u:x.holds=false)(N:BR ro (σ++[z]) w x z):Sim fr ro (σ++[z]) (H++[x]) w:=by
 have ext:Ext ro σ w ro (σ++[z]) w:=⟨λ_ q=>q,λ_ _=>rfl,λ_ _ q=>q,λ_ _ h=>YO h⟩;have B:=s.len;have k:x.live=false:=by
  cases q:x.live with
  |true=>rw[QaG q]at u;exact u
  |false=>rfl
 have a:∀(j:Nat) (v:Blk),(H++[x])[j]?=some v->(j<H.length/\H[j]?=some v)\/(j=H.length/\v=x):=by
  intro j v h;rcases Nat.lt_trichotomy j H.length with q|q|q
  .rw[XO q]at h;exact .inl ⟨q,h⟩
  .subst q;simp at h;exact .inr ⟨rfl,h.symm⟩
  .rw[XQ (by simp;omega)]at h;cases h
 have hσ:∀(j:Nat) (l:Option Nat),j<H.length->(σ++[z])[j]?=some l->σ[j]?=some l:=by
  intro j l q h
  rwa [XO (by omega)]at h
 refine⟨by simp[B],s.roOk,s.frLt,s.roFr,λi b y g n m=>?_,λi j b y F g n m L t p=>?_,λi l y g n=>?_,
  s.hidTo (· = ·) QY (XV _) (λ_ _ _ _ _ _ _ q=>q) (λ_ _ _ _ _ _ _ q=>q) λj d y M J E=>.inl ?_⟩
 .rcases a i y n with⟨f,e⟩|⟨_,rfl⟩
  .exact s.own i b y (hσ i _ f g) e m
  .rw[k]at m;cases m
 .rcases a i y m with⟨f,e⟩|⟨_,rfl⟩
  .rcases a j F L with⟨G,O⟩|⟨_,rfl⟩
   .exact s.inj i j b y F (hσ i _ f g) (hσ j _ G n) e O t p
   .rw[k]at p;cases p
  .rw[k]at t;cases t
 .rcases a i y n with⟨f,e⟩|⟨r,rfl⟩
  .exact(s.blk i l y (hσ i _ f g) e).keep ext (λ_ _ _=>rfl) (λ_ _ _ _=>rfl)
  .subst r;have:(σ++[z])[H.length]?=some z:=by rw[<- B];simp
   rw[this]at g;cases g;exact N
 .rcases a j y J with⟨f,e⟩|⟨_,rfl⟩
  .exact⟨j,y,rfl,hσ j _ f M,e,id,λ_ q=>q⟩
  .rw[u]at E;cases E
end
section
variable {P:Program} {o:Oper} {env:Env} {H:Qc}
theorem QnR{T e k n:Nat}{xs:List Operand}{es:List (List A)}(E:QO P T e k)(Y:o.op=.buildSlice T n (Qak 0 xs).toArray)(F:xs.length=n)(L:Nat.ble (n*k) 16777216=true)
  (W:(xs.all λx=>Yh (opA env x))=true)(G:QG env xs=es)(B:allK k es)(Q:es.flatten.all Yz=true)(X:Ym es.flatten=true):
  OpH P o env H (.osl H.length 0 n k) (H++[.frow e k es]):=by
 intro R m σ N a w r;subst G;obtain⟨l,h1,J⟩:=JE r E F L W B;have y:LR m [] w (QG env xs).flatten l:=J.data X;have f:∀b,b<w.heap.size->(w.alloc (.cells l.toArray e)).heap[b]?=w.heap[b]? :=λb V=>Yj _ _ b V;have t:w.heap.size<=(w.alloc (.cells l.toArray e)).heap.size:=by rw[Ye];omega
 have s1:=r.sim.grown f t;have p:Qe R m w m (w.alloc (.cells l.toArray e)):=Qe.alloc _ r.sim.roLt r.sim.frLt;have s2:=s1.addRo (b:=w.heap.size) (by rw[Ye];omega) (λq=>Nat.lt_irrefl _ (r.sim.frLt _ q)) (λi x s j u=>Nat.lt_irrefl _ (r.sim.own i _ x s j u).1)
  (λi d x s j u=>Nat.lt_irrefl _ (r.sim.hid i d x _ s j (r.sim.hidKeep s j (λz=>f d (r.sim.own i d x s j z).1) (λb q=>f b (r.sim.roLt b q)) u)).lt)
 have M:RL m [] (w.alloc (.cells l.toArray e)) k (QG env xs) l:=by
  have:=Y9 (rest:=[]) B (y.mono (p.ext0 [])) (J.plain Q)
  rwa [Vi]at this
 have h:(QG env xs).length=n:=by simp[QG,F]
 have O:l.length=n*k:=by rw[J.length,YD B];simp[QG,F]
 have g:(w.alloc (.cells l.toArray e)).heap[w.heap.size]?=some (.cells l.toArray e (0,0)):=Yi _ _;have s3:=s2.addIdle (x:=.frow e k (QG env xs)) (z:=some w.heap.size) rfl
  ⟨.inr rfl,l,g,M.mono ⟨λ_ q=>.inl q,λ_ _=>rfl,λ_ _ q=>q,λ_ _ q=>q⟩,by rw[O,h]⟩
 refine⟨_,_,λc=>m c\/c=w.heap.size,[some w.heap.size],Jo Y a.eval h1,.inr ⟨w.heap.size,0,n,e,l.length,?_,rfl,λ_=>by simp,XV _,?_,by rw[O,Xx];exact XV _⟩,s3,p.trans (YN λ_ q=>.inl q)⟩
 .rw[<- r.sim.len];simp
 .unfold World.shape?;rw[g];simp
theorem Le.frow{h0 s i n k t:Nat}{es:List (List A)}(y:lk env s=.osl i 0 n k)(hH:H[i]?=some (.frow t k es))(E:es.length=n):Le h0 env H (up env s (.rsl k es)) H:=by
 intro Q g σ N a w r;refine⟨g,σ,⟨r.sim,?_,r.size,r.defers⟩,λ_ q=>q,rfl⟩;intro d;simp only[lk];by_cases q:d=s
 .subst q;rw[VH];have:=r.env d;rw[y]at this;show VR g σ w (.rsl k es) _;rcases this with⟨j,f⟩|⟨b,p,e,R,m,j,f,u,x,M,O⟩
  .have:es=[]:=VL.1 (by omega);subst this;exact⟨none,0,by rw[f];rfl,XV _,.inl rfl⟩
  .obtain⟨L,l,J,B,P⟩:=r.sim.blk i _ _ j hH;refine⟨_,e,by rw[f,E],by omega,?_⟩;by_cases h:es=[]
   .exact .inl h
   .right;have G:0<e:=Vh (by have:=List.length_pos_iff.2 h;omega) x;have F:=u G;refine⟨b,0,by rw[F];simp,L,?_⟩;exact YS (pre:=[]) (by simpa using J) B
 .have:Nat.beq d s=false:=by
   cases z:Nat.beq d s with
   |true=>exact absurd (XS z) q
   |false=>rfl
  rw[this];exact r.env d
theorem Qji{c:Call}{T T' e e' k i n:Nat}{x y:Operand}{ya:A}{es fs gs:List (List A)}(E:QO P T e k)(W:∀w,(underlying T').run P w=.ok (.slice e') w)(z:Nat.blt 0 k=true)(u:Nat.blt 0 fs.length=true)(X:o.op=.call c)
  (m:c={callee:=.builtin .append,args:= #[x,y],argTypes:= #[T,T']})(hx:opA env x=.osl i 0 n k)(hH:H[i]?=some (.frow e k es))(j:es.length=n)(hy:opA env y=ya)(hs:Src P H ya k fs)(f:n+fs.length<=Qv)
  (hg:es++fs=gs):OpH P o env H (.osl H.length 0 (n+fs.length) k) (H++[.row e k gs]):=by
 intro L q σ N a w r;subst hg;have hf:0<fs.length:=by simpa[Nat.blt_eq]using u
 have hk:0<k:=by simpa[Nat.blt_eq]using z
 have g:=Qd r x;rw[hx]at g;have Q:=Qd r y;rw[hy]at Q;obtain⟨⟨ay,cy,t⟩,q2,l,B,q4,O⟩:=hs L q σ w _ r.sim Q;rw[t]at B;rcases g with⟨h0,g⟩|⟨b,p,d,t',mm,h3,g,h4,h5,V,R⟩
 .have:es=[]:=VL.1 (by omega);subst this;subst h0;have:=grown (es:=[]) (old:=[]) E W X m g t r.sim (by omega) f (λ_ _=>YW) B rfl (by simp) trivial q4 O q2 rfl rfl;simpa using this
 .obtain⟨g0,lb,M,G,g3⟩:=r.sim.blk i _ _ h3 hH;have hm:mm=n*k:=by
   have:w.shape? b=some (e,lb.length):=by unfold World.shape?;rw[M];simp
   rw[this]at V;cases V;rw[g3,j]
  have Y:d<=n:=by
   rw[hm,Xx]at R;exact Nat.le_of_mul_le_mul_right R hk
  obtain⟨old,o1,o2,o3⟩:∃old:List Value,(∀s:World,s.heap=w.heap->(Builtin.firstCells k n (.slice (some ⟨b,p,none⟩) n d)).run P s=.ok old.toArray s)/\LR q [] w es.flatten old/\ ∀v∈old,Qn v:=by
   have hr:VR q σ w (.rsl k es) (.slice (some ⟨b,p,none⟩) n d):=by
    refine⟨_,d,by rw[j],by omega,?_⟩;by_cases J:es=[]
    .exact .inl J
    .right;have m:0<d:=Vh (by have:=List.length_pos_iff.2 J;omega) h5;have hp:=h4 m;exact⟨b,0,by rw[hp];simp,g0,YS (pre:=[]) (by simpa using M) G⟩
   have h:Src P H (.rsl k es) k es:=Src.rsl;obtain⟨_,_,l',F,z2,z3⟩:=h L q σ w _ r.sim hr;rw[j]at F;exact⟨l',F,z2,z3⟩
  have:=grown (es:=es) (old:=old) (fs:=fs) E W X m g t r.sim (by omega) f o1 B o2 o3 G.allK q4 O q2 j rfl;exact this
theorem Qjk{α:Type}{e:α->List A}{c:Call}{T T' et et' k i n:Nat}{x y:Operand}{ya:A}{l m r:List α}(h:app l m=some r)(E:QO P T et k)(a:∀w,(underlying T').run P w=.ok (.slice et') w)(b:Src P H ya k (m.map e))
  (f:Nat.blt 0 m.length=true:=by exact rfl)(hk:Nat.blt 0 k=true:=by exact rfl)(hn:l.length=n:=by exact rfl)(ho:o.op=.call c:=by exact rfl)(hc:c={callee:=.builtin .append,args:= #[x,y],argTypes:= #[T,T']}:=by exact rfl)(hx:opA env x=.osl i 0 n k:=by exact rfl)
  (hH:H[i]?=some (.frow et k (l.map e)):=by exact rfl)(hy:opA env y=ya:=by exact rfl):
  OpH P o env H (.osl H.length 0 r.length k) (H++[.row et k (r.map e)]):=by
 obtain⟨d,rfl⟩:=QhN h;subst hn;have:=Qji E a hk (by simpa using f) ho hc hx hH (by simp) hy b (by simpa using d) (gs:=(l++m).map e) (by simp);simpa using this
end
end Go.Sw
namespace Go.Sw
open Go.MapKept
section
variable {P:Program} {kt et:Nat} {α β:Type} [DecidableEq α] {ek:α->A} {ev:β->A} {ro:Nat->Prop} {σ:Sig} {w:World} (K:Jj P kt ek)
include K
theorem QdG:∀{l:List (α×β)} {es:List MapEntry} {k:α},ER ro σ w (Qm ek ev l) es->(∀e∈es,e.key≠QF (ek k))->mdel l k=l
 |[],_,_,_,_=>rfl
 |p::l,es,k,h,hk=>by
  obtain⟨e,l',rfl,h1,h2,h3⟩:=h;have e1:e.key=QF (ek p.1):=VR.val (K.scl _) h1;have hp:p.1≠k:=λq=>hk e (by simp) (by rw[e1,q]);have ih:=QdG (l:=l) h3 λe he=>hk e (by simp[he]);unfold mdel at ih⊢;rw[Xd,ih];simp[hp]
theorem Qgv:∀{l:List (α×β)} {es:List MapEntry} {k:α} {j:Nat} {e:MapEntry},ER ro σ w (Qm ek ev l) es->(es.map (·.key)).Nodup->es[j]?=some e->e.key=QF (ek k)->ER ro σ w (Qm ek ev (mdel l k)) (es.eraseIdx j)
 |[],es,k,j,e,h,_,hj,_=>by
  cases(show es=[]from h);simp at hj
 |p::l,es,k,j,e,h,hn,hj,hk=>by
  obtain⟨e0,l',rfl,h1,h2,h3⟩:=h;have e1:e0.key=QF (ek p.1):=VR.val (K.scl _) h1;rw[Vl,List.nodup_cons]at hn;cases j with
  |zero=>
   simp at hj;subst hj;have hp:p.1=k:=K.inj _ _ (by rw[<- e1,hk]);have:=QdG K (l:=l) (k:=k) h3 λe he q=>hn.1 (by rw[hk, <- q];exact VI he);have e2:mdel (p::l) k=l:=by
    unfold mdel at this⊢;rw[Xd,this];simp[hp]
   rw[e2];exact h3
  |succ j=>
   have a:l'[j]?=some e:=by simpa using hj
   have hp:p.1≠k:=λq=>hn.1 (by
    show e0.key∈_;rw[e1,q, <- hk];exact VI (VJ a))
   have e2:mdel (p::l) k=p::mdel l k:=by
    unfold mdel;rw[Xd];simp[hp]
   rw[e2];exact⟨e0,_,rfl,h1,h2,Qgv h3 hn.2 a hk⟩
variable {o:Oper} {env:Env} {H:Qc} {T T' i:Nat} {x y:Operand} {l m:List (α×β)} {k:α}
theorem OpH.mdel{c:Call}(hm:some (Sw.mdel l k)=some m)(Q:P.underlying T=some (.map kt et))(ho:o.op=.call c:=by exact rfl)(hc:c={callee:=.builtin .delete,args:= #[x,y],argTypes:= #[T,T']}:=by exact rfl)
  (hx:opA env x=.map i:=by exact rfl)(hH:H[i]?=some (.map (Qm ek ev l)):=by exact rfl)(z:opA env y=ek k:=by exact rfl):OpH P o env H (.tup []) (H.set i (.map (Qm ek ev m))):=by
 obtain rfl:=X2 hm;subst hc;intro fr V σ N a w r;have X:=Qd r x;rw[hx]at X;obtain⟨b,G,q2⟩:=X;have R:=Qd r y;rw[z]at R;have h3:=VR.val (K.scl _) R;obtain⟨n,d,u,E,O,W,L⟩:=r.sim.blk i _ _ G hH;have B:∀(obj:Obj) y,w.shape? b=some y->({w with heap:=w.heap.setIfInBounds b obj}:World).shape? b=some y:=by
  intro obj y z;unfold World.shape? at z;rw[u]at z;simp at z
 have run:∀q:Array MapEntry,(Builtin.delete_ #[T,T'] o.type #[.map (some b),QF (ek k)]).run P w=.ok (.tuple #[]) {w with heap:=w.heap.setIfInBounds b (.map q d)}->
   (execOp a.eval o).run P w=.ok (.value (.tuple #[])) {w with heap:=w.heap.setIfInBounds b (.map q d)}:=by
  intro q h;simp only[execOp,ho,resolve,invoke,Go.builtin,Vp,Vq,Result.andThen];simp only[XK,Vl,Vm,q2,h3,h]
 rcases K.find w k n.toList (Qbo K E)with⟨M,F⟩|⟨j,e,M,F,g3⟩
 .have g:=r.sim.set (x':=.map (Qm ek ev (Sw.mdel l k))) (obj:=.map n d) G hH rfl (B _)
   (λe J=>⟨n,d,J,by rw[QdG K E F];exact E.mono e.nil,O,W,L⟩)
  refine⟨_,_,V,[],run n ?_,⟨[],rfl,rfl⟩,by simpa using g.1,g.2⟩;simp[Builtin.delete_,Vp,run_underlying Q,Result.andThen,MapKept.run_getObj_map u,K.check,M,MapKept.run_setObj_map _ u,go_sem]
 .have s:(n.eraseIdxIfInBounds j).toList=n.toList.eraseIdx j:=by simp
  have p:∀{γ:Type} (f:MapEntry->γ),((n.eraseIdxIfInBounds j).toList.map f).Sublist (n.toList.map f):=λf=>by
   rw[s];exact(List.eraseIdx_sublist _ _).map f
  have g:=r.sim.set (x':=.map (Qm ek ev (Sw.mdel l k))) (obj:=.map (n.eraseIdxIfInBounds j) d) G hH rfl (B _)
   (λe J=>⟨_,d,J,by rw[s];exact(Qgv K E L F g3).mono e.nil,λY t=>O Y ((by rw[s]at t;exact List.mem_of_mem_eraseIdx t)),(p _).nodup W,(p _).nodup L⟩)
  refine⟨_,_,V,[],run _ ?_,⟨[],rfl,rfl⟩,by simpa using g.1,g.2⟩;simp[Builtin.delete_,Vp,run_underlying Q,Result.andThen,MapKept.run_getObj_map u,K.check,M,MapKept.run_setObj_map _ u,go_sem]
end
end Go.Sw
namespace Go.Sw
section
variable {P:Program} {h0 N:Nat} {all:Array Oper} {o1 o2:Oper} {l:List Oper} {env:Env} {H:Qc} {Q:QA}
theorem QlQ{t n d:Nat}{z:Value}{v:A}{cs zs:List A}{y:Operand}(hz:∀w,(zeroValue t).run P w=.ok z w)(hv:ZR v z)(hs:∀w,(Go.sizeOf t).run P w=.ok n w)
  (k:WO P h0 N all l (up env d (.rp cs)) H Q)(hk:Yh v=true:=by exact rfl)(hzs:Yt v=zs:=by exact rfl)(hpl:zs.all Yz=true:=by exact rfl)(hzn:zs.length=n:=by exact rfl)(hn:cs.length=n:=by exact rfl)
  (ho1:o1.op=.alloc t:=by exact rfl)(hd1:o1.dst=some d:=by exact rfl)(ho2:o2.op=.store t (.tmp d) y:=by exact rfl)(hd2:o2.dst=none:=by exact rfl)(hy:opA (up env d .any) y=.agg cs:=by exact rfl)(hda:Ym cs=true:=by exact rfl)(hcp:cs.all Yz=true:=by exact rfl)(hkc:Yh (.agg cs)=true:=by exact rfl)(hcc:Yt (.agg cs)=cs:=by exact rfl)
  (hg1:Qp all o1 env true:=by exact rfl)(hg2:Qp all o2 (up env d .any) true:=by exact rfl)(hN:Nat.blt d N=true:=by exact rfl):WO P h0 N all (o1::o2::l) env H Q:=by
 intro rd fr B σ a w r hrd;obtain⟨M,h2,h3⟩:=(hv B σ w).cells hk;rw[hzs]at h3
 let w1:World:=w.alloc (.cells M.toArray t)
 have O:(execOp a.eval o1).run P w=.ok (.value (.pointer (some ⟨w.heap.size,0,none⟩))) w1:=by
  generalize a.eval=ρ at*;have e:(newVar t z).run P w=.ok ⟨w.heap.size,0,none⟩ (w.alloc (.cells M.toArray t)):=by
   unfold newVar;rw[h2];rfl
  simp only[execOp,ho1,Instr.alloc,Vp,hz,Result.andThen,e];rfl
 refine Qac (YK hg1 r) O ?_;simp only[hd1,Act.put];have ae:d<N:=by simpa[Nat.blt_eq]using hN
 have L:d<a.tmps.size:=by rw[r.size];exact ae
 let a1:Act:={a with tmps:=a.tmps.setIfInBounds d (.pointer (some ⟨w.heap.size,0,none⟩))}
 have j:∀b,b<w.heap.size->w1.heap[b]?=w.heap[b]? :=λb T=>Yj _ _ b T;have G:w.heap.size<=w1.heap.size:=by show _<=(w.alloc _).heap.size;rw[Ye];omega
 have h:Qe fr B w B w1:=Qe.alloc _ r.sim.roLt r.sim.frLt;have r1:Rel fr B σ H (up env d .any) N a1 w1:=⟨r.sim.grown j G,VR.up (fr:=fr) (λs=>(r.env s).mono (h.ext0 σ)) L trivial,by simpa[a1]using r.size,r.defers.keep h⟩;have ac:=Qd r1 y;rw[hy]at ac;obtain⟨m,h4,X⟩:=ac.cells hkc;rw[hcc]at X;have u:w1.heap[w.heap.size]?=some (.cells M.toArray t (0,0)):=Yi _ _;have aa:M.length=n:=by rw[h3.length,hzn]
 have J:m.length=n:=by rw[X.length,hn]
 have ab:=Ys (P:=P) (vs:=m) 0 0 u (by omega) (X.plain hcp);have ah:splice M (0+0) m=m:=by
  unfold splice;simp[aa,J]
 rw[ah]at ab
 let w2:World:={w1 with heap:=w1.heap.setIfInBounds w.heap.size (.cells m.toArray t (0,0))}
 have he:a1.eval (.tmp d)=.pointer (some ⟨w.heap.size,0,none⟩):=by
  show(a.tmps.setIfInBounds d _).getD d undef=_;rw[Qiv L,Vv rfl]
 have R:(execOp a1.eval o2).run P w1=.ok .skip w2:=by
  have ag:(storeVar t ⟨w.heap.size,0,none⟩ (a1.eval y)).run P w1=.ok () w2:=by
   unfold storeVar;rw[Vp,hs];simp only[Result.andThen];rw[Vu (by simp[h4,J]),h4];simpa using ab
  generalize a1.eval=ρ at*;simp only[execOp,ho2,he,Instr.storeAt,Instr.sureAddr,pure_bind,Vp,ag];rfl
 refine Qh2 (YK hg2 r1) R ?_;simp only[hd2,Act.put];have f:∀b,b<w.heap.size->w2.heap[b]?=w.heap[b]? :=λb T=>by
  show(w1.heap.setIfInBounds w.heap.size _)[b]?=_;rw[Array.getElem?_setIfInBounds_ne (by omega)];exact j b T
 have E:w2.heap.size=w1.heap.size:=by simp[w2]
 have F:w.heap.size<w1.heap.size:=(Ve.1 u).1;have W:w.heap.size<=w2.heap.size:=by rw[E];exact G
 have p:w2.heap[w.heap.size]?=some (.cells m.toArray t (0,0)):=by
  show(w1.heap.setIfInBounds w.heap.size _)[w.heap.size]?=_;rw[Array.getElem?_setIfInBounds_self_of_lt F]
 have s1:=r.sim.grown f W;have s2:=s1.addRo (b:=w.heap.size) (by rw[E];exact F) (λq=>Nat.lt_irrefl _ (r.sim.frLt _ q)) (λi x Y V p3=>Nat.lt_irrefl _ (r.sim.own i _ x Y V p3).1)
  (λi d x Y V p3=>Nat.lt_irrefl _ (r.sim.hid i d x _ Y V (r.sim.hidKeep Y V (λz=>f d (r.sim.own i d x Y V z).1) (λb q=>f b (r.sim.roLt b q)) p3)).lt)
 have ev:Qe fr B w (λc=>B c\/c=w.heap.size) w2:=by
  refine⟨λb q=>.inl q,λb q=>f b (r.sim.roLt b q),λb q=>f b (r.sim.frLt b q),W,?_,h.os,h.tape,h.output,h.drawn⟩;intro b x g;have T:b<w.heap.size:=by
   unfold World.shape? at g;cases q:w.heap[b]? with
   |none=>rw[q]at g;simp at g
   |some _=>exact(Ve.1 q).1
  unfold World.shape? at g⊢;rw[f b T];exact g
 have af:VR (λc=>B c\/c=w.heap.size) σ w2 (.rp cs) (.pointer (some ⟨w.heap.size,0,none⟩)):=by
  refine⟨w.heap.size,0,rfl,.inr rfl,?_⟩;refine QhZ (pre:=[]) (by simpa using p) ?_ (X.plain hcp);have h6:LR B [] w1 cs m:=LR.data hda X;refine h6.mono ⟨λ_ q=>.inl q,λb q=>?_,λb x g=>?_,λ_ _ q=>q⟩
  .show(w1.heap.setIfInBounds w.heap.size _)[b]?=_;have:=r.sim.roLt b q;rw[Array.getElem?_setIfInBounds_ne (by omega)]
  .by_cases e:b=w.heap.size
   .subst e;unfold World.shape? at g⊢;rw[u]at g;rw[p];simp at g⊢;rw[aa]at g;rw[J];exact g
   .unfold World.shape? at g⊢;rw[show w2.heap[b]?=w1.heap[b]? from Array.getElem?_setIfInBounds_ne (Ne.symm e)];exact g
 have r2:Rel fr (λc=>B c\/c=w.heap.size) σ H (up env d (.rp cs)) N a1 w2:=
  ⟨s2,VR.up (fr:=fr) (λs=>(r.env s).mono (ev.ext0 σ)) L af,by simpa[a1]using r.size,r.defers.keep ev⟩
 exact Yq (λe a w q=>q.step ev rfl) _ _ _ (k rd fr _ σ a1 w2 r2 (hrd.to ev λ_ q=>q))
end
end Go.Sw
namespace Go.Sw
section
variable {P:Program} {o:Oper} {env:Env} {H:Qc}
theorem Qda{t e:TypeId}{p:Option Addr}{w:World}(a:∀w,(underlying t).run P w=.ok (.pointer e) w):(Op.equal t (.pointer p) (.pointer none)).run P w=.ok p.isNone w:=by
 have k:∀d,(Op.equalIn (d+1) t (.pointer p) (.pointer none)).run P w=.ok p.isNone w:=by
  intro d;cases p<;>simp[Op.equalIn,a,go_sem]
 exact k 9999
theorem Qjd{t e u:TypeId}{x:Operand}{i off:Nat}(g:∀w,(underlying t).run P w=.ok (.pointer e) w)(j:opA env x=.ptr i off)(k:o.op=.binOp .eql t x (.const (.pointer none)) u:=by exact rfl):OpV P o env H (.bool false):=by
 intro l m σ N a w r;have d:=Qd r x;rw[j]at d;obtain⟨b,n,h⟩:=d;have f:a.eval (.const (.pointer none))=.pointer none:=rfl;refine⟨_,?_,rfl⟩;generalize a.eval=ρ at*;simp[execOp,k,h,f,Go.binOp,eqGuard,Qda g,go_sem]
theorem Qje{t e u:TypeId}{x:Operand}(f:∀w,(underlying t).run P w=.ok (.pointer e) w)(g:opA env x=.nilp)(h:o.op=.binOp .eql t x (.const (.pointer none)) u:=by exact rfl):OpV P o env H (.bool true):=by
 intro j k σ N a w r;have b:=Qd r x;rw[g]at b;have d:a.eval (.const (.pointer none))=.pointer none:=rfl;have i:a.eval x=.pointer none:=b;refine⟨_,?_,rfl⟩;generalize a.eval=ρ at*;simp[execOp,h,i,d,Go.binOp,eqGuard,Qda f,go_sem]
end
end Go.Sw
namespace Go.Sw
section
variable {P:Program} {o:Oper} {env:Env} {H:Qc} {α:Type}
def Qhs(l:List α)(lo hi i:Int):Option α:=bif decide (0<=lo)&&(decide (0<=i)&&decide (lo+i<hi))then idx l (lo+i)else none
theorem QkJ{l:List α}{lo hi i:Int}{v:α}(h:Qhs l lo hi i=some v):0<=lo/\0<=i/\lo+i<hi/\idx l (lo+i)=some v:=by
 unfold Qhs at h;cases q:decide (0<=lo)&&(decide (0<=i)&&decide (lo+i<hi))with
 |false=>rw[q]at h;cases h
 |true=>
  rw[q]at h;rw[XY,XY,Vt,Vt,Vt]at q;exact⟨q.1,q.2.1,q.2.2,h⟩
theorem Qhr{l:List α}{lo hi i:Int}{v:α}(h:Qhs l lo hi i=some v):idx l (lo+i)=some v:=(QkJ h).2.2.2
theorem QfS{t et k b:Nat}{x y:Operand}{l:List α}{a:IntKind}{lo hi i:Int}{v:α}(h:Qhs l lo hi i=some v)(f:∀w,(underlying t).run P w=.ok (.slice et) w)(g:∀w,(sizeOf et).run P w=.ok k w)
  (j:o.op=.indexAddr t x y:=by exact rfl)(hx:opA env x=.osl b (0+lo.toNat) (hi.toNat-lo.toNat) k:=by exact rfl)(hy:opA env y=.int a i:=by exact rfl):OpV P o env H (.ptr b ((lo+i).toNat*k)):=by
 obtain⟨p,m,n,_⟩:=QkJ h;have d:=QhR (H:=H) j f g hx hy m (by omega);have e:(0+lo.toNat)*k+i.toNat*k=(lo+i).toNat*k:=by
  rw[<- XB];congr 1;omega
 rwa [e]at d
end
abbrev Ea:=@Ev.bind
abbrev Ec:=@FzH.keep
abbrev Ed:=@FzL.cons
abbrev Ee:=@FzA.refl
abbrev Ef:=@TC.le
abbrev Eg:=@PL.cons
abbrev Eh:=@DS.done
abbrev Ei:=@Ev.and
abbrev Ej:=@EvI.done
abbrev Ek:=@FzL.refl
abbrev El:=@OpH.lit
abbrev Em:=@RF.cons
abbrev En:=@Le.trans
abbrev Eo:=@ZR.int
abbrev Ep:=@FzA.o
abbrev Er:=@Le.phantom
abbrev Et:=@WO.le
abbrev Eu:=@Ev.or
abbrev Ew:=@Ev.eq
abbrev Ex:=@EvI.cont
abbrev Ey:=@OpU.store
abbrev Ez:=@OpV.load
abbrev EA:=@Ev.const
theorem Zf.{u,v}{α:Sort u}{β:Sort v}{f:α->β}:∀x,f x=f x:=λ_=>rfl
abbrev Ze.{u,v}{α:Sort u}{β:Type v}:α->List β:=λ_=>[]
end Go.Sw
