/- The rules by which the code is walked, with what they rest on (part 3). -/
import Derived.Test.YthihlfoplokmiaaGreatDoorL2
import Derived.Laws.BytesString
set_option linter.unusedVariables false
set_option linter.unusedSectionVars false
set_option linter.unusedSimpArgs false
namespace Go.Sw
def QcA:Option Blk->Bool
 |some .dead=>true
 |_=>false
def Qax(hB hE:Nat)(H H':Qc):Bool:=(List.range (hE-hB)).all λp=> !QcA H'[hB+p]? ||QcA H[hB+p]?
def Qky(hB hE:Nat)(σ:Sig)(H:Qc):Prop:=∀p,hB<=p->p<hE->QcA H[p]?=true->σ[p]?=some none
theorem Qk4{hB hE:Nat}{H H':Qc}(h:Qax hB hE H H'=true){p:Nat}(b:hB<=p)(d:p<hE)(a:QcA H'[p]?=true):QcA H[p]?=true:=by
 have:=Xt.1 h (p-hB) (List.mem_range.2 (by omega));rw[show hB+(p-hB)=p by omega,a]at this;simpa using this
theorem Sim.allocAt{fr ro:Nat->Prop}{σ:Sig}{H:Qc}{w:World}(s:Sim fr ro σ H w){p:Nat}(J:σ[p]?=some none){obj:Obj}{x:Blk}
  (O:BR ro (σ.set p (some w.heap.size)) (w.alloc obj) x (some w.heap.size))
  (E:∀c,Hid (w.alloc obj) x w.heap.size c->False:=by exact λ_ h=>h.elim):Sim fr ro (σ.set p (some w.heap.size)) (H.set p x) (w.alloc obj):=by
 have ev:Qe fr ro w ro (w.alloc obj):=Qe.alloc obj s.roLt s.frLt;have t:=s.len;have F:p<σ.length:=(XM.1 J).1;have u:Ext ro σ w ro (σ.set p (some w.heap.size)) (w.alloc obj):=⟨ev.sub,ev.keepRo,ev.shape,λi b q=>by
  rw[XQ (λz=>by subst z;rw[J]at q;cases q)];exact q⟩
 have e:∀(i:Nat) (y:Option Nat),(σ.set p (some w.heap.size))[i]?=some y->(i≠p/\σ[i]?=some y)\/(i=p/\y=some w.heap.size):=by
  intro i y h;by_cases q:i=p
  .subst q;rw[Xa F]at h;exact .inr ⟨rfl,(X0 h).symm⟩
  .rw[XQ (λz=>q z.symm)]at h;exact .inl ⟨q,h⟩
 have m:∀i:Nat,i≠p->(H.set p x)[i]?=H[i]? :=λi P=>XQ (λz=>P z.symm);have G:(H.set p x)[p]?=some x:=Xa (by omega);refine⟨by simp[t],s.roOk.to (λ_ q=>q) ev.keepRo (λb h=>?_),λb h=>?_,s.roFr,?_,?_,?_,s.hidTo (· = ·) QW (by rw[Q5];omega) (λ_ _ _ _ _ _ _ q=>q) (λ_ _ _ _ _ _ _ q=>q) λj d y l k Q=>?_⟩
 rotate_left 5
 .rcases e j _ l with⟨q,l⟩|⟨rfl,n⟩
  .rw[m j q]at k;exact .inl ⟨j,y,rfl,l,k,id,λc q=>s.hidKeep l k (λz=>Ya w obj d (s.own j d y l k z).1) ev.keepRo q⟩
  .rw[G]at k;cases k;cases n;exact .inr ⟨XU _,E⟩
 .rw[Q5];have:=s.roLt b h;omega
 .rw[Q5];have:=s.frLt b h;omega
 .intro i b y g f r;rw[Q5];rcases e i _ g with⟨q,g⟩|⟨rfl,n⟩
  .rw[m i q]at f;obtain⟨a,b,c⟩:=s.own i b y g f r;exact⟨by omega,b,c⟩
  .cases n;exact⟨by omega,λq=>by have:=s.roLt _ q;omega,λq=>by have:=s.frLt _ q;omega⟩
 .intro i j b y z g f r B M L;rcases e i _ g with⟨q,l⟩|⟨N,n⟩<;>rcases e j _ f with⟨q',k⟩|⟨ej,e2⟩
  .rw[m i q]at r;rw[m j q']at B;exact s.inj i j b y z l k r B M L
  .cases e2;rw[m i q]at r;have:=(s.own i _ y l r M).1;omega
  .cases n;rw[m j q']at B;have:=(s.own j _ z k B L).1;omega
  .rw[N,ej]
 .intro i y z g f;rcases e i _ g with⟨q,g⟩|⟨rfl,n⟩
  .rw[m i q]at f;refine(s.blk i y z g f).keep u ?_ ?_
   .rintro b rfl t;exact Ya w obj b (s.own i b z g f t).1
   .rintro b c rfl t;exact Ya w obj c (s.hid i b z c g f t).lt
  .rw[G]at f;cases f;subst n;exact O
def OpZ(P:Program)(o:Oper)(t:Nat)(cs:List A):Prop:=
 ∀(ro:Nat->Prop) (σ:Sig) (w:World) (a:Act),∃l:List Value,(execOp a.eval o).run P w=.ok (.value (.pointer (some ⟨w.heap.size,0,none⟩))) (w.alloc (.cells l.toArray t))/\LR ro σ w cs l/\ ∀v∈l,Qm v
theorem OpZ.alloc{P:Program}{o:Oper}{t:Nat}{z:Value}{v:A}{cs:List A}(i:∀w,(zeroValue t).run P w=.ok z w)(h:ZR v z)(f:o.op=.alloc t:=by exact rfl)(hk:Q8 v=true:=by exact rfl)(hcs:Yi v=cs:=by exact rfl)(hpl:cs.all Yo=true:=by exact rfl):
  OpZ P o t cs:=by
 intro g σ w a;obtain⟨l,d,b⟩:=(h g σ w).cells hk;subst hcs;refine⟨l,?_,b,b.plain hpl⟩;generalize a.eval=ρ at*;have e:(newVar t z).run P w=.ok ⟨w.heap.size,0,none⟩ (w.alloc (.cells l.toArray t)):=by
  unfold newVar;rw[d];rfl
 simp only[execOp,f,Instr.alloc,Vn,i,Result.andThen,e];rfl
theorem QcO{P:Program}{l:List Oper}{i:Nat}{o:Oper}{rd:Option Nat}{R:Exit->Act->World->Prop}{Q:Exit->Act->World->Prop}{K:Act->World->Prop}{a:Act}{w:World}
  (E:l[i]?=some o)(g:wpL P rd l.toArray R [o] a w)(j:∀e a' w',R e a' w'->e=.normal/\a'.defers=a.defers)(k:∀v w',R .normal (a.put o.dst v) w'->K (a.put o.dst v) w'):
  wpOpIn (WF rd) 0 P l.toArray Q i K a w:=by
 unfold wpOpIn;have t:l.toArray[i]?=some o:=by simpa using E
 rw[t];simp only;unfold wpL wpListIn at g;split at g
 .rename_i s;rw[Vu s];obtain⟨h,g⟩:=g;refine⟨h,?_⟩;have d:=QlF (by
   intro a' w' q;unfold wpListIn at q;exact(j _ _ _ q).2) g
  generalize(o.semAt (WF rd).round a.eval).run P w=res at*;cases res with
  |ok n w'=>
   cases n with
   |value v=>exact k _ _ d.1
   |skip=>exact k _ _ d.1
   |defer F=>
    exfalso;have:=(j _ _ _ d.1).2;have:=congrArg List.length this
    revert this
    cases o.dst<;>simp[Act.put]
   |enter f m=>
    refine⟨d.1,CallsIn.mono d.2 (λe p b=>?_)⟩;cases e with
    |returned v=>exact k _ _ b.1
    |panicked c=>have:=(j _ _ _ b).1;cases this
    |outgrown=>obtain⟨B,z,b⟩:=b;have:=(j _ _ _ b).1;cases this
   |row r m=>
    exact⟨d.1,RowsIn.mono d.2 (λ_ _ b=>k _ _ b.1)⟩
   |round l f u assign y=>
    refine⟨d.1,RoundIn.mono d.2 (λe p b=>?_)⟩;cases e with
    |returned v=>exact k _ _ b.1
    |panicked c=>have:=(j _ _ _ b).1;cases this
    |outgrown=>obtain⟨B,z,b⟩:=b;have:=(j _ _ _ b).1;cases this
   |_=>exact d.elim
  |halt x w'=>
   cases x with
   |panic v=>have:=(j _ _ _ d).1;cases this
   |_=>exact d.elim
 .rename_i s;rw[Vt s];obtain⟨h,g⟩:=g;refine⟨h,?_⟩;unfold wpListIn at g;exact k _ _ g
theorem Qk3{P:Program}{l:List Oper}{m:Nat}(p:∀i o,l[i]?=some o->∀j∈Qg o,j<i)(g:∀i o,m<i->l[i]?=some o->i-1∈Qg o){Q:Exit->Act->World->Prop}{rd:Option Nat}:
  ∀(b t:Nat) (L:Array Bool) (a:Act) (w:World),L.size=l.length->(∀i,i<l.length->(onL L i↔i<t))->unl L<=b->m<=t->t<=l.length->
   wpL P rd l.toArray Q (l.drop t) a w->wpAnyIn (WF rd) 0 P .any l.toArray Q b L a w:=by
 intro b
 induction b with
 |zero=>
  intro t L a w hsz hL hf hm ht h;have:t=l.length:=by
   rcases VD t l.length with q|q
   .have:=QjU (L:=L) (i:=t) (by omega) (λz=>by have:=(hL t q).1 z;omega);omega
   .omega
  subst this;refine⟨List.eq_nil_iff_forall_not_mem.2 λi n=>?_,?_⟩
  .obtain⟨o,f,k,_⟩:=(QaL hsz).1 n;have d:=(XM.1 f).1;exact k ((hL i d).2 d)
  .rw[List.drop_length]at h;exact h
 |succ b G=>
  intro t L a w hsz hL hf hm ht h;have x:∀i o,l[i]?=some o->¬onL L i->(∀j∈Qg o,onL L j)->i=t:=by
   intro i o f k s;have d:=(XM.1 f).1;have H:t<=i:=by
    rcases VD i t with q|q
    .exact absurd ((hL i d).2 q) k
    .exact q
   rcases VD t i with q|q
   .have:=(hL (i-1) (by omega)).1 (s _ (g i o (by omega) f));omega
   .omega
  rcases VD t l.length with e|e
  .have F:l[t]?=some l[t]:=XL e;have r:¬onL L t:=λq=>by have:=(hL t e).1 q;omega
   have E:t∈Region.ready .any l.toArray L:=by
    refine(QaL hsz).2 ⟨_,F,r,λj u=>?_⟩;have:=p t _ F j u;exact(hL j (by omega)).2 this
   refine⟨λq=>(by rw[q]at E;cases E),λi n=>?_⟩;obtain⟨o,f,k,s⟩:=(QaL hsz).1 n;obtain rfl:=x i o f k s;rw[Xr e]at h;obtain rfl:l[i]=o:=by rw[XL e]at f;exact X0 f
   unfold wpOpIn;rw[show l.toArray[i]?=some l[i]by rw[XH];exact f];simp only;unfold wpL wpListIn at h;have B:∀a w,wpL P rd l.toArray Q (l.drop (i+1)) a w->wpAnyIn (WF rd) 0 P .any l.toArray Q b (L.setIfInBounds i true) a w:=by
    intro a w q;have J:=QgI (L:=L) (i:=i) (by omega) r;refine G (i+1) _ a w (by simpa using hsz) (λj u=>?_) (by omega) (by omega) (by omega) q;rw[Jt (by omega),hL j u];omega
   split at h
   .rename_i y;rw[Vu y];exact Oper.wpIn_mono B h
   .rename_i y;rw[Vt y];exact⟨h.1,B _ _ h.2⟩
  .have:t=l.length:=by omega
   subst this;rw[List.drop_length]at h;refine⟨λ_=>h,λi n=>?_⟩;obtain⟨o,f,k,_⟩:=(QaL hsz).1 n;have d:=(XM.1 f).1;exact absurd ((hL i d).2 d) k
def Qns(af ds:List Nat)(xs:List A)(env0 e:Env):Prop:=
 ∀s,(∃j x,af.contains j=true/\ds[j]?=some s/\xs[j]?=some x/\lk e s=x)\/lk e s=.any\/(ds.contains s=false/\lk e s=lk env0 s)
inductive JA (P:Program) (N:Nat) (l:List Oper) (ds:List Nat) (xs:List A) (env0:Env) (hB hE:Nat) (i:Nat) (H H':Qc):Prop
 |mk (o:Oper) (e:Env) (d:Nat) (x:A) (ho:l[i]?=some o) (hd:o.dst=some d) (hx:xs[i]?=some x) (hdd:Qax hB hE H H'=true) (hs:Sb (Qg o) (Qjx l i) ds xs env0 e)
   (h:WO P H.length N l.toArray [o] e H (Y1 (up e d x) H')):JA P N l ds xs env0 hB hE i H H'
 |unit (o:Oper) (e:Env) (ho:l[i]?=some o) (hd:o.dst=none) (hx:xs[i]?=some .any) (hdd:Qax hB hE H H'=true) (hs:Sb (Qg o) (Qjx l i) ds xs env0 e)
   (h:WO P H.length N l.toArray [o] e H (Y1 e H')):JA P N l ds xs env0 hB hE i H H'
 |alloc (o:Oper) (d t p:Nat) (cs:List A) (ho:l[i]?=some o) (hd:o.dst=some d) (hg:o.guard=none) (hx:xs[i]?=some (.ptr p 0)) (hp:(Nat.ble hB p&&Nat.blt p hE)=true) (hdead:QcA H[p]?=true)
   (hH:H.set p (.cells t cs)=H') (h:OpZ P o t cs) (hN:Nat.blt d N=true):JA P N l ds xs env0 hB hE i H H'
 |val (o:Oper) (e:Env) (d:Nat) (x:A) (ho:l[i]?=some o) (hd:o.dst=some d) (hg:o.guard=none) (hx:xs[i]?=some x) (hN:Nat.blt d N=true) (he:Qns (Qg o) ds xs env0 e) (h:OpV P o e H x)
   (hH:H=H':=by rfl):JA P N l ds xs env0 hB hE i H H'
 |woE (o:Oper) (e:Env) (d:Nat) (x:A) (ho:l[i]?=some o) (hd:o.dst=some d) (hx:xs[i]?=some x) (he:Qns (Qg o) ds xs env0 e) (hdd:Qax hB hE H H'=true) (h:WO P H.length N l.toArray [o] e H (Y1 (up e d x) H')):JA P N l ds xs env0 hB hE i H H'
theorem Sb.rel{af f d:List Nat}{xs:List A}{env0 e:Env}{ro:Nat->Prop}{σ:Sig}{w:World}{a:Act}(i:Sb af f d xs env0 e)
  (g:∀j∈af,∀s x,d[j]?=some s->xs[j]?=some x->VR ro σ w x (a.tmps.getD s undef))
  (h:∀s,d.contains s=false->VR ro σ w (lk env0 s) (a.tmps.getD s undef))(hP:∀j s,f.contains j=true->d[j]?=some s->VR ro σ w (lk env0 s) (a.tmps.getD s undef)):
  ∀s,VR ro σ w (lk e s) (a.tmps.getD s undef):=by
 intro s
 induction i with
 |nil=>exact trivial
 | @dep j s1 x1 r h1 h2 h3 _ ih=>
  unfold lk;cases b:Nat.beq s s1 with
  |false=>exact ih
  |true=>
   obtain rfl:=XR b;exact g j (by simpa using h1) _ _ h2 h3
 | @old s1 x1 r h1 h2 _ ih=>
  unfold lk;cases b:Nat.beq s s1 with
  |false=>exact ih
  |true=>
   obtain rfl:=XR b;subst h2;exact h _ h1
 | @pre j s1 x1 r h1 h2 h3 _ ih=>
  unfold lk;cases b:Nat.beq s s1 with
  |false=>exact ih
  |true=>
   obtain rfl:=XR b;subst h3;exact hP j _ h1 h2
structure After (fr ro:Nat->Prop) (σ:Sig) (w:World) (hB hE:Nat) (H':Qc) (xs:List A) (i:Nat) (o:Oper) (a':Act) (w':World) (ro':Nat->Prop) (σ':Sig):Prop where
 val:∀x,xs[i]?=some x->match o.dst with
  |some d=>VR ro' σ' w' x (a'.tmps.getD d undef)
  |none=>x=.any
 sim:Sim fr ro' σ' H' w'
 ev:Qe fr ro w ro' w'
 ext:Ext ro σ w ro' σ' w'
 holes:Qky hB hE σ' H'
 take:σ'.take hB=σ.take hB
theorem JA.use{P:Program}{N:Nat}{l:List Oper}{ds:List Nat}{xs:List A}{env0:Env}{hB hE i:Nat}{H H':Qc}(hb:JA P N l ds xs env0 hB hE i H H')
  {Q:Exit->Act->World->Prop}{K:Act->World->Prop}{fr ro:Nat->Prop}{σ:Sig}{a:Act}{w:World}{o:Oper}{rd:Option Nat}(O:l[i]?=some o)
  (f:Sim fr ro σ H w)(hN:a.tmps.size=N)(n:Qdd fr a.defers w)(X:Qeh rd fr w)(hh:Qky hB hE σ H)(hl:hE<=H.length)(ak:hB<=hE)
  (hD:∀j∈Qg o,∀s x,ds[j]?=some s->xs[j]?=some x->VR ro σ w x (a.tmps.getD s undef))
  (hO:∀s,ds.contains s=false->VR ro σ w (lk env0 s) (a.tmps.getD s undef))(hP:∀j s,(Qjx l i).contains j=true->ds[j]?=some s->VR ro σ w (lk env0 s) (a.tmps.getD s undef))
  (hK:∀v w' ro' σ',After fr ro σ w hB hE H' xs i o (a.put o.dst v) w' ro' σ'->K (a.put o.dst v) w'):
  wpOpIn (WF rd) 0 P l.toArray Q i K a w:=by
 have J:∀{e:Env} {H2:Qc} {E:Exit} {r:Act} {w':World},Qb1 H.length fr ro σ w N a.defers (Y1 e H2) E r w'->E=.normal/\r.defers=a.defers:=by
  rintro e H2 E r w' ⟨x,_,_,_,_,_,k,⟨rfl,_⟩,_,_,_,B,_⟩;refine⟨?_,B⟩;cases E<;>first|rfl|exact k.elim|cases k
 have ai:∀{σ':Sig} {w':World},Qe fr ro w ro w'->σ'.take H.length=σ.take H.length->True:=λ_ _=>trivial;have L:∀{e:Env} {r:Act} {w':World},Qb1 H.length fr ro σ w N a.defers (Y1 e H') .normal r w'->Qax hB hE H H'=true->
   ∃ro' σ',Sim fr ro' σ' H' w'/\Qe fr ro w ro' w'/\Ext ro σ w ro' σ' w'/\Qky hB hE σ' H'/\σ'.take hB=σ.take hB/\ ∀s,VR ro' σ' w' (lk e s) (r.tmps.getD s undef):=by
  rintro e r w' ⟨_,aj,H2,ro',σ',al,_,⟨_,rfl,rfl⟩,r',he,ht,_,ae⟩ m;have hσ:σ'=σ++σ'.drop H.length:=by
   conv=>lhs;rw[<- Xz H.length σ']
   rw[ht, <- f.len,Va]
  refine⟨ro',σ',r'.sim.frMono ae.sub,he,?_,?_,?_,r'.env⟩
  .rw[hσ];exact he.ext σ _
  .intro p k B h3;have:=hh p k B (Qk4 m k B h3);rw[hσ,XN (by rw[f.len];omega)];exact this
  .rw[hσ];exact Qs (by rw[f.len];omega)
 cases hb with
 |woE u e d x g F T he m h=>
  obtain rfl:u=o:=X0 (g.symm.trans O);have hr:∀s,VR ro σ w (lk e s) (a.tmps.getD s undef):=λs=>by
   rcases he s with⟨j,x,k,B,h3,G⟩|G|⟨k,G⟩
   .rw[G];exact hD j (by simpa using k) s x B h3
   .rw[G];exact trivial
   .rw[G];exact hO s k
  refine QcO O (h rd fr ro σ a w ⟨f,hr,hN,n⟩ X) (λ_ _ _ q=>J q) (λv w' q=>?_);obtain⟨ro',σ',g1,Y,M,g4,g5,g6⟩:=L q m;refine hK v w' ro' σ' ⟨λy V=>?_,g1,Y,M,g4,g5⟩;obtain rfl:=X0 (T.symm.trans V);have:=g6 d;unfold lk at this;rw[VG]at this;rw[F]at this⊢;exact this
 |mk u e d x g F T m hs h=>
  obtain rfl:u=o:=X0 (g.symm.trans O);refine QcO O (h rd fr ro σ a w ⟨f,hs.rel hD hO hP,hN,n⟩ X) (λ_ _ _ q=>J q) (λv w' q=>?_);obtain⟨ro',σ',g1,Y,M,g4,g5,g6⟩:=L q m;refine hK v w' ro' σ' ⟨λy V=>?_,g1,Y,M,g4,g5⟩;obtain rfl:=X0 (T.symm.trans V);have:=g6 d;unfold lk at this;rw[VG]at this;rw[F]at this⊢;exact this
 |unit u e g F T m hs h=>
  obtain rfl:u=o:=X0 (g.symm.trans O);refine QcO O (h rd fr ro σ a w ⟨f,hs.rel hD hO hP,hN,n⟩ X) (λ_ _ _ q=>J q) (λv w' q=>?_);obtain⟨ro',σ',g1,Y,M,g4,g5,g6⟩:=L q m;refine hK v w' ro' σ' ⟨λy V=>?_,g1,Y,M,g4,g5⟩;obtain rfl:=X0 (T.symm.trans V);rw[F]
 |val u e d x g F hg T aa he h hH=>
  obtain rfl:u=o:=X0 (g.symm.trans O);subst hH;have hr:Rel fr ro σ H e N a w:=by
   refine⟨f,λs=>?_,hN,n⟩;rcases he s with⟨j,x,k,B,h3,G⟩|G|⟨k,G⟩
   .rw[G];exact hD j (by simpa using k) s x B h3
   .rw[G];exact trivial
   .rw[G];exact hO s k
  obtain⟨v0,k,B⟩:=h fr ro σ N a w hr;have hw:Region.wanted u (yielded l.toArray a.tmps)=true:=by unfold Region.wanted;rw[hg]
  refine QcO (R:=λE r w'=>E=.normal/\r.defers=a.defers/\r=a.put u.dst v0/\w'=w) O (Qac hw k ?_) (λ_ _ _ q=>⟨q.1,q.2.1⟩) (λv w' q=>?_)
  .unfold wpL wpListIn;refine⟨rfl,?_,rfl,rfl⟩;rw[F];rfl
  .obtain⟨_,_,q1,rfl⟩:=q;refine hK v _ ro σ ⟨λy V=>?_,f,Qe.refl _ _ _,⟨λ_ q=>q,λ_ _=>rfl,λ_ _ q=>q,λ_ _ q=>q⟩,hh,rfl⟩;obtain rfl:=X0 (T.symm.trans V);rw[q1,F];have ab:d<a.tmps.size:=by rw[hN];simpa using aa
   show VR ro σ w' x _;simpa[Act.put,Array.getD_eq_getD_getElem?,ab]using B
 |alloc u d t p cs g F hg T hp ac hH h aa=>
  obtain rfl:u=o:=X0 (g.symm.trans O);subst hH;simp only[XX]at hp;have ag:=XS hp.1;have ah:p<hE:=by simpa using hp.2
  have hσp:=hh p ag ah ac;obtain⟨lv,k,B,h3⟩:=h ro σ w a;have hw:Region.wanted u (yielded l.toArray a.tmps)=true:=by unfold Region.wanted;rw[hg]
  have ev:Qe fr ro w ro (w.alloc (.cells lv.toArray t)):=Qe.alloc _ f.roLt f.frLt;have af:p<σ.length:=by rw[f.len];omega
  have W:Ext ro σ w ro (σ.set p (some w.heap.size)) (w.alloc (.cells lv.toArray t)):=⟨ev.sub,ev.keepRo,ev.shape,λj b q=>by
   rw[XQ (λz=>by subst z;rw[hσp]at q;cases q)];exact q⟩
  refine QcO (R:=λE r w'=>E=.normal/\r.defers=a.defers/\r=a.put u.dst (.pointer (some ⟨w.heap.size,0,none⟩))/\w'=w.alloc (.cells lv.toArray t)) O (Qac hw k ?_) (λ_ _ _ q=>⟨q.1,q.2.1⟩) (λv w' q=>?_)
  .unfold wpL wpListIn;refine⟨rfl,?_,rfl,rfl⟩;rw[F];rfl
  .obtain⟨_,_,q1,rfl⟩:=q;refine hK v _ ro (σ.set p (some w.heap.size)) ⟨λy V=>?_,f.allocAt hσp ⟨lv,Q9 _ _,B.mono W,h3⟩,ev,W,λp' g1 Y M=>?_,?_⟩
   .obtain rfl:=X0 (T.symm.trans V);rw[q1,F];have ab:d<a.tmps.size:=by rw[hN];simpa using aa
    refine⟨w.heap.size,Xa af,?_⟩;simp[Act.put,Array.getD_eq_getD_getElem?,ab]
   .by_cases q:p'=p
    .subst q;rw[Xa (by omega)]at M;cases M
    .rw[XQ (λz=>q z.symm)]at M⊢;exact hh p' g1 Y M
   .rw[List.take_set,List.set_eq_of_length_le];rw[Xy];omega
def same(a b:List Nat):Bool:=a.all (b.contains ·)&&b.all (a.contains ·)
theorem QnE{a b:List Nat}(h:same a b=true)(i:Nat):i∈a↔i∈b:=by
 unfold same at h;simp only[XX,Xt,List.contains_iff_mem]at h;exact⟨h.1 i,h.2 i⟩
structure Qnv (l:List Oper) (m:Nat) (ds:List Nat) (hs:List Bool) (rq ms:List (List Nat)) (pl:List (List (Nat×Nat))) (N:Nat):Prop where
 len:m<=l.length
 dst:∀i o,i<m->l[i]?=some o->(∃d,o.dst=some d/\ds[i]?=some d/\d<N)\/o.dst=none
 dsl:ds.length=m
 nodup:∀(i j d:Nat),ds[i]?=some d->ds[j]?=some d->i=j
 back:∀i o,l[i]?=some o->∀j∈Qg o,j<i
 mid:∀o,l[m]?=some o->∀j,j<m->Qcr l m j
 chain:∀i o,m<i->l[i]?=some o->i-1∈Qg o
 rqs:∀i o,i<m->l[i]?=some o->∀h∈rq.getD i [],h<m/\hs.getD h false=true/\(h∈Qg o\/ ∃j∈Qg o,j<m/\h∈rq.getD j [])
 ms0:ms.getD 0 []=[]
 full:∀st,st<ms.length->st+1=ms.length\/ ∃i,i<m/\hs.getD i false=true/\i∉ms.getD st []
 msh:∀st h,h∈ms.getD st []->h<m/\hs.getD h false=true
 pls:∀i st,i<m->st<ms.length->(∀h∈rq.getD i [],h∈ms.getD st [])->(hs.getD i false=true->i∉ms.getD st [])->(∀h∈ms.getD st [],¬Qcr l h i)->
  ∃st',(st,st')∈pl.getD i []/\st'<ms.length/\if hs.getD i false then∀j,j∈ms.getD st' []↔j=i\/j∈ms.getD st []else st'=st
theorem Qke{α:Type}{l:List α}{i:Nat}{d x:α}(h:l[i]?=some x):l.getD i d=x:=by rw[VM,h];rfl
theorem Qip{P:Program}{l:List Oper}{m:Nat}{Y:List Nat}{hs:List Bool}{rq X:List (List Nat)}{pl:List (List (Nat×Nat))}{N h0 hB hE:Nat}{xs:List A}{env0:Env}{Hs:List Qc}{Hk:Qc}
  (ok:Qnv l m Y hs rq X pl N)(a8:xs.length=m)(bb:Hs.length=X.length)(ay:h0<=hB)(av:hB<=hE)(a6:∀H∈Hs,hE<=H.length)
  (a0:∀i p,i<m->p∈pl.getD i []->JA P N l Y xs env0 hB hE i (Hs.getD p.1 []) (Hs.getD p.2 []))(a1:Hs.getD (X.length-1) []=Hk)
  {fr ro0:Nat->Prop}{σ0:Sig}{w0:World}{rd:Option Nat}{ds0:List Deferred}{R:Exit->Act->World->Prop}
  (hk:∀ro σ a w,Rel fr ro σ Hk (Qaz Y xs env0) N a w->Qe fr ro0 w0 ro w->σ.take h0=σ0.take h0->a.defers=ds0->wpL P rd l.toArray R (l.drop m) a w)(ag:Qdd fr ds0 w0)(au:Qeh rd fr w0):
  ∀(b:Nat) (L:Array Bool) (a:Act) (w:World) (ro:Nat->Prop) (σ:Sig) (st:Nat),
   L.size=l.length->unl L<=b->(∀i,m<=i->¬onL L i)->st<X.length->Sim fr ro σ (Hs.getD st []) w->a.tmps.size=N->a.defers=ds0->
   (∀(i d:Nat) (x:A),onL L i->Y[i]?=some d->xs[i]?=some x->VR ro σ w x (a.tmps.getD d undef))->(∀s,(∀j,Y[j]?=some s->¬onL L j)->VR ro σ w (lk env0 s) (a.tmps.getD s undef))->
   Qe fr ro0 w0 ro w->σ.take h0=σ0.take h0->Qky hB hE σ (Hs.getD st [])->
   (∀i,i<m->onL L i->∀h∈rq.getD i [],onL L h)->(∀i,i<m->hs.getD i false=true->(onL L i↔i∈X.getD st []))->
   (∀i o,onL L i->l[i]?=some o->∀j∈Qg o,onL L j)->
   wpAnyIn (WF rd) 0 P .any l.toArray R b L a w:=by
 have a4:∀st,st<X.length->hE<=(Hs.getD st []).length:=by
  intro st h;have e:Hs[st]?=some Hs[st]:=XL (by omega);rw[Qke e];exact a6 _ (Ve _)
 have fin:∀(b:Nat) (L:Array Bool) (a:Act) (w:World) (ro:Nat->Prop) (σ:Sig) (st:Nat),
   L.size=l.length->unl L<=b->(∀i,m<=i->¬onL L i)->st<X.length->Sim fr ro σ (Hs.getD st []) w->a.tmps.size=N->a.defers=ds0->
   (∀(i d:Nat) (x:A),onL L i->Y[i]?=some d->xs[i]?=some x->VR ro σ w x (a.tmps.getD d undef))->(∀s,(∀j,Y[j]?=some s->¬onL L j)->VR ro σ w (lk env0 s) (a.tmps.getD s undef))->
   Qe fr ro0 w0 ro w->σ.take h0=σ0.take h0->
   (∀i,i<m->hs.getD i false=true->(onL L i↔i∈X.getD st []))->(∀i,i<m->onL L i)->
   wpAnyIn (WF rd) 0 P .any l.toArray R b L a w:=by
  intro b L a w ro σ st hsz hu hsuf hst hsim hN hdef hD hE' hev htk hI2 k;have ai:st=X.length-1:=by
   rcases ok.full st hst with q|⟨i,M,h2,h3⟩
   .omega
   .exact absurd ((hI2 i M h2).1 (k i M)) h3
  rw[ai,a1]at hsim;refine Qk3 ok.back ok.chain b m L a w hsz (λi hi=>⟨λq=>?_,λq=>k i q⟩) hu (XU _) ok.len ?_
  .rcases VD i m with z|z
   .exact z
   .exact absurd q (hsuf i z)
  .have hr:Rel fr ro σ Hk (Qaz Y xs env0) N a w:=by
    refine⟨hsim,λs=>?_,hN,by rw[hdef];exact ag.keep hev⟩;rcases QnM (env0:=env0) (by rw[ok.dsl,a8]) s with⟨j,x,M,h2,h3⟩|⟨M,h2⟩
    .rw[h3];have f:j<m:=by have:=(XM.1 M).1;rw[ok.dsl]at this;exact this
     exact hD j s x (k j f) M h2
    .rw[h2];exact hE' s (λj q=>absurd (VI q) (by simpa using M))
   exact hk ro σ a w hr hev htk hdef
 intro b
 induction b with
 |zero=>
  intro L a w ro σ st hsz hu hsuf hst hsim hN hdef hD hE' hev htk hho hI1 hI2 hcl;refine fin 0 L a w ro σ st hsz hu hsuf hst hsim hN hdef hD hE' hev htk hI2 (λi hi=>?_);by_cases q:onL L i
  .exact q
  .have:=QjU (L:=L) (i:=i) (by have:=ok.len;omega) q;omega
 |succ b ih=>
  intro L a w ro σ st hsz hu hsuf hst hsim hN hdef hD hE' hev htk hho hI1 hI2 hcl;by_cases k:∀i,i<m->onL L i
  .exact fin (b+1) L a w ro σ st hsz hu hsuf hst hsim hN hdef hD hE' hev htk hI2 k
  .have ar:∃i,i<m/\ ¬onL L i:=by
    refine Classical.byContradiction λq=>k λi hi=>Classical.byContradiction λz=>q ⟨i,hi,z⟩
   obtain⟨n,hn,ah⟩:=ar;obtain⟨i0,M,h2,h3⟩:=least (p:=λi=>¬onL L i) (λi=>Classical.em _) n ah;have ba:=ok.len;have aj:l[i0]?=some l[i0]:=XL (by omega);have hr:i0∈Region.ready .any l.toArray L:=(QaL hsz).2 ⟨_,aj,h2,λj f=>Classical.byContradiction λz=>h3 j (ok.back i0 _ aj j f) z⟩;refine⟨λq=>(by rw[q]at hr;cases hr),λi hi=>?_⟩;obtain⟨o,T,V,J⟩:=(QaL hsz).1 hi;have u:i<m:=by
    rcases VD i m with q|q
    .exact q
    .exfalso;rcases VD m i with z|z
     .exact hsuf (i-1) (by omega) (J _ (ok.chain i o z T))
     .have:i=m:=by omega
      subst this;have a3:∀j,Qcr l i j->onL L j:=by
       intro j f
       induction f with
       |one r f=>rw[T]at r;cases r;exact J _ f
       |step _ r f ihr=>exact hcl _ _ ihr r _ f
      exact ah (a3 n (ok.mid o T n hn))
   have al:∀h∈rq.getD i [],onL L h:=by
    intro h Q;obtain⟨_,_,q|⟨j,q1,q2,q3⟩⟩:=ok.rqs i o u T h Q
    .exact J h q
    .exact hI1 j q2 (J j q1) h q3
   obtain⟨ao,aw,ax,E⟩:=ok.pls i st u hst (λh Q=>by
    obtain⟨q1,q2,_⟩:=ok.rqs i o u T h Q;exact(hI2 h q1 q2).1 (al h Q)) (λq z=>V ((hI2 i u q).2 z)) (λh Q hR=>by
    obtain⟨q1,q2⟩:=ok.msh st h Q;have a2:onL L h:=(hI2 h q1 q2).2 Q;have ak:∀j,Qcr l h j->onL L j:=by
     intro j f
     induction f with
     |one r f=>exact hcl _ _ a2 r _ f
     |step _ r f ihr=>exact hcl _ _ ihr r _ f
    exact V (ak i hR))
   have hb:=a0 i _ u aw;refine hb.use T hsim hN (by rw[hdef];exact ag.keep hev) (au.to hev λ_ q=>q) hho (a4 st hst) av (λj f s x q1 q2=>hD j s x (J j f) q1 q2) (λs M=>hE' s (λj q=>absurd (VI q) (by simpa using M))) (λj s M h2=>hE' s (λj' q q'=>?_)) ?_
   .obtain rfl:=ok.nodup j' j s q h2;have f:=Xe.1 (List.contains_iff_mem.1 M);cases ac:l[j']? with
    |none=>rw[ac]at f;simp at f
    |some oj=>
     rw[ac]at f;exact V (hcl j' oj q' ac i (by simpa using f.2))
   intro v w' aq σ' af;have aa:=af.ext;have ab:∀s,(∀d,o.dst=some d->s≠d)->(a.put o.dst v).tmps.getD s undef=a.tmps.getD s undef:=by
    intro s a5;cases W:o.dst with
    |none=>rfl
    |some d=>
     simp only[Act.put,Array.getD_eq_getD_getElem?,Vf];rw[Vt (λq=>a5 d W q.symm)]
   have ae:(a.put o.dst v).tmps.size=N:=by
    cases W:o.dst with
    |none=>simpa[Act.put]using hN
    |some d=>simpa[Act.put]using hN
   have a7:(a.put o.dst v).defers=ds0:=by
    cases W:o.dst with
    |none=>simpa[Act.put]using hdef
    |some d=>simpa[Act.put]using hdef
   have bc:=QgI (L:=L) (i:=i) (by omega) V;have t:i<L.size:=by omega
   have a9:∀s j,Y[j]?=some s->j≠i->∀d,o.dst=some d->s≠d:=by
    intro s j f B d W q;subst q;rcases ok.dst i o u T with⟨d',g,O,am⟩|g
    .rw[W]at g;cases g;exact B (ok.nodup j i _ f O)
    .rw[W]at g;cases g
   refine ih _ _ w' aq σ' ao (by simpa using hsz) (by omega) (λj f q=>?_) ax af.sim ae a7 ?_ ?_ (hev.trans af.ev) ?_ af.holes ?_ ?_ ?_
   .rcases(Jt t).1 q with z|z
    .omega
    .exact hsuf j f z
   .intro j s y f F hy;by_cases B:j=i
    .subst B;have hv:=af.val y hy;rcases ok.dst j o u T with⟨d',g,O,am⟩|g
     .obtain rfl:s=d':=X0 (F.symm.trans O);simp only[g]at hv⊢;exact hv
     .simp only[g]at hv;subst hv;exact trivial
    .rw[ab s (a9 s j F B)];rcases(Jt t).1 f with z|z
     .exact absurd z B
     .exact(hD j s y z F hy).mono aa
   .intro s F;have az:∀d,o.dst=some d->s≠d:=by
     rintro d W rfl;rcases ok.dst i o u T with⟨d',g,O,am⟩|g
     .rw[W]at g;cases g;exact F i O ((Jt t).2 (.inl rfl))
     .rw[W]at g;cases g
    rw[ab s az];exact(hE' s (λj q z=>F j q ((Jt t).2 (.inr z)))).mono aa
   .rw[<- htk];have:=congrArg (List.take h0) af.take;rw[List.take_take,List.take_take,XB ay]at this;exact this
   .intro j f G h Q;refine(Jt t).2 (.inr ?_);rcases(Jt t).1 G with z|z
    .subst z;exact al h Q
    .exact hI1 j f z h Q
   .intro j f G;rw[Jt t];cases q:hs.getD i false with
    |false=>
     have B:j≠i:=by rintro rfl;rw[q]at G;cases G
     rw[q]at E;simp only[Xj,if_false]at E;simp only[B,false_or];rw[E];exact hI2 j f G
    |true=>
     rw[q]at E;simp only[if_true]at E;rw[E j,hI2 j f G]
   .intro j o' f r j' an;rcases(Jt t).1 f with z|z
    .subst z;rw[T]at r;cases r;exact(Jt t).2 (.inr (J _ an))
    .exact(Jt t).2 (.inr (hcl j o' z r j' an))
def Qd2.dstB(N:Nat):Nat->List Oper->List Nat->Bool
 |_,_,[]=>true
 |i,o::r,d::ds=>(match o.dst with|some d'=>Nat.beq d' d&&Nat.blt d N|none=>true)&&Qd2.dstB N (i+1) r ds
 |_,[],_::_=>false
def Qd2.rqB(m:Nat)(hs:List Bool)(rq:List (List Nat)):Nat->List Oper->Bool
 |_,[]=>true
 |i,o::r=>(rq.getD i []).all (λh=>Nat.blt h m&&hs.getD h false&&((Qg o).contains h||(Qg o).any λj=>Nat.blt j m&&(rq.getD j []).contains h))&&Qd2.rqB m hs rq (i+1) r
def Qi7(l:List Oper)(h:Nat):List Nat:=match l[h]? with
 |some o=>QeM l h (Qg o)
 |none=>[]
theorem QkJ{l:List Oper}{h j:Nat}(q:j∈Qi7 l h):Qcr l h j:=by
 unfold Qi7 at q;cases a:l[h]? with
 |none=>rw[a]at q;cases q
 |some o=>rw[a]at q;exact Qb6 h (Qg o) (λi b=>.one a b) j q
def Qd2.plB(l:List Oper)(m:Nat)(hs:List Bool)(rq ms:List (List Nat))(pl:List (List (Nat×Nat))):Bool:=
 (List.range m).all λi=>(List.range ms.length).all λst=>((ms.getD st []).any λh=>(Qi7 l h).contains i)|| !(rq.getD i []).all ((ms.getD st []).contains ·)||(hs.getD i false&&(ms.getD st []).contains i)||
  (pl.getD i []).any λp=>Nat.beq p.1 st&&Nat.blt p.2 ms.length&&(bif hs.getD i false then same (ms.getD p.2 []) (i::ms.getD st [])else Nat.beq p.2 st)
def Qd2(l:List Oper)(m N:Nat)(ds:List Nat)(hs:List Bool)(rq ms:List (List Nat))(pl:List (List (Nat×Nat))):Bool:=
 Nat.ble m l.length&&(ds.length==m)&&Qd2.dstB N 0 l ds&&drawChk.nodupB ds&&drawChk.goB l m 0 l&&Qd2.rqB m hs rq 0 l&&(ms.getD 0 []).isEmpty&&Nat.blt 0 ms.length
 &&((List.range ms.length).all λst=>Nat.beq (st+1) ms.length||(List.range m).any λi=>hs.getD i false&& !(ms.getD st []).contains i)&&Qd2.plB l m hs rq ms pl&&(List.range ms.length).all λst=>(ms.getD st []).all λh=>Nat.blt h m&&hs.getD h false
theorem Qgo{N:Nat}:∀(l:List Oper) (a:List Nat) (b:Nat),Qd2.dstB N b l a=true->∀(i d:Nat) (o:Oper),l[i]?=some o->a[i]?=some d->
  (o.dst=some d/\d<N)\/o.dst=none:=by
 intro l
 induction l with
 |nil=>intro a b h i d o f;simp at f
 |cons x r k=>
  intro a b h i d o f g;cases a with
  |nil=>simp at g
  |cons y a=>
   simp only[Qd2.dstB,XX]at h;cases i with
   |zero=>
    simp at f g;subst f;subst g;have h:=h.1;split at h
    .rename_i m j;simp only[XX]at h;have e:=XR h.1;subst e;exact .inl ⟨j,by simpa using h.2⟩
    .rename_i j;exact .inr j
   |succ i=>
    have:=k a (b+1) h.2 i d o (by simpa using f) (by simpa using g);exact this
theorem QlR{m:Nat}{e:List Bool}{d:List (List Nat)}:∀(l:List Oper) (b:Nat),Qd2.rqB m e d b l=true->∀(i:Nat) (o:Oper),l[i]?=some o->
  ∀h∈d.getD (b+i) [],h<m/\e.getD h false=true/\(h∈Qg o\/ ∃j∈Qg o,j<m/\h∈d.getD j []):=by
 intro l
 induction l with
 |nil=>intro b h i o a;simp at a
 |cons x r g=>
  intro b h i o a;simp only[Qd2.rqB,XX]at h;cases i with
  |zero=>
   simp at a;subst a;intro k t;have:=Xt.1 h.1 k (by simpa using t);simp only[XX,Bool.or_eq_true,List.contains_iff_mem,Xu]at this;obtain⟨⟨w,n⟩,p⟩:=this;refine⟨by simpa using w,n,?_⟩;rcases p with q|⟨j,u,f,s⟩
   .exact .inl q
   .exact .inr ⟨j,u,by simpa using f,s⟩
  |succ i=>
   have:=g (b+1) h.2 i o (by simpa using a);rw[show b+1+i=b+(i+1)by omega]at this;exact this
theorem QmO{l:List Oper}{m N:Nat}{t:List Nat}{G:List Bool}{x r:List (List Nat)}{H:List (List (Nat×Nat))}(h:Qd2 l m N t G x r H=true):
  Qnv l m t G x r H N/\0<r.length:=by
 unfold Qd2 at h;simp only[XX]at h;obtain⟨⟨⟨⟨⟨⟨⟨⟨⟨⟨h1,R⟩,T⟩,L⟩,Y⟩,M⟩,P⟩,Q⟩,W⟩,B⟩,F⟩:=h;have y:m<=l.length:=XS h1;have E:t.length=m:=by simpa using R
 have g:=QhX l 0 Y;refine⟨⟨y,λi o s b=>?_,E,QdV L,λi o b=>by have:=(g i o b).1;simpa using this,λo b j V=>Qb6 m (Qg o) (λi s=>.one b s) j ((g m o b).2.1 (by omega) j V),
  λi o s b=>by have:=(g i o b).2.2 (by omega);simpa using this,λi o s b h f=>by have:=QlR l 0 M i o b h (by simpa using f);exact this,
  by simpa using P,λk a=>?_,λk h f=>?_,λi k s a hr O J=>?_⟩,by simpa using Q⟩
 .have u:t[i]?=some t[i]:=XL (by omega);rcases Qgo l t 0 T i _ o b u with⟨n,w⟩|n
  .exact .inl ⟨_,n,u,w⟩
  .exact .inr n
 .have:=Xt.1 W k (List.mem_range.2 a);simp only[Bool.or_eq_true,Xu,XX,Bool.not_eq_true']at this;rcases this with q|⟨i,n,w,d⟩
  .exact .inl (XR q)
  .exact .inr ⟨i,List.mem_range.1 n,w,λz=>by rw[List.contains_iff_mem.2 z]at d;cases d⟩
 .have a:k<r.length:=by
   rcases VD k r.length with q|q
   .exact q
   .rw[VM,XP q]at f;cases f
  have:=Xt.1 (Xt.1 F k (List.mem_range.2 a)) h f;simp only[XX]at this;exact⟨by simpa using this.1,this.2⟩
 .have:=Xt.1 (Xt.1 B i (List.mem_range.2 s)) k (List.mem_range.2 a);simp only[Bool.or_eq_true,Bool.not_eq_true']at this;rcases this with((q|q)|q)|q
  .exfalso;obtain⟨h,f,q⟩:=Xu.1 q;exact J h f (QkJ (List.contains_iff_mem.1 q))
  .exfalso;have:((x.getD i []).all ((r.getD k []).contains ·))=true:=Xt.2 λh f=>List.contains_iff_mem.2 (hr h f);rw[this]at q;cases q
  .simp only[XX]at q;exact absurd (List.contains_iff_mem.1 q.2) (O q.1)
  .obtain⟨p,X,q⟩:=Xu.1 q;simp only[XX]at q;obtain⟨⟨n,w⟩,d⟩:=q;have e:=XR n;refine⟨p.2,by rw[<- e];exact X,by simpa using w,?_⟩;cases z:G.getD i false with
   |true=>
    rw[z]at d;simp only[Vq]at d;simp only[if_true];intro j;rw[QnE d j,X7]
   |false=>
    rw[z]at d;simp only[Vr]at d;simp only[Xj,if_false];exact XR d
inductive Qhp (P:Program) (N:Nat) (l:List Oper) (ds:List Nat) (xs:List A) (env0:Env) (hB hE:Nat):Nat->List (List (Qc×Qc))->Prop
 |nil {i:Nat}:Qhp P N l ds xs env0 hB hE i []
 |cons {i:Nat} {s:List (Qc×Qc)} {r:List (List (Qc×Qc))} (h:∀p∈s,JA P N l ds xs env0 hB hE i p.1 p.2) (k:Qhp P N l ds xs env0 hB hE (i+1) r):Qhp P N l ds xs env0 hB hE i (s::r)
theorem Qhp.get{P:Program}{N:Nat}{l:List Oper}{e:List Nat}{xs:List A}{env0:Env}{hB hE b:Nat}{d:List (List (Qc×Qc))}(h:Qhp P N l e xs env0 hB hE b d):
  ∀(i:Nat) (s:List (Qc×Qc)),d[i]?=some s->∀p∈s,JA P N l e xs env0 hB hE (b+i) p.1 p.2:=by
 induction h with
 |nil=>intro i s h;simp at h
 | @cons b s0 r h _ ih=>
  intro i s a;cases i with
  |zero=>simp at a;subst a;exact h
  |succ i=>
   have:=ih i s (by simpa using a);rw[show b+1+i=b+(i+1)by omega]at this;exact this
theorem Q3{P:Program}{N:Nat}{l:List Oper}{b:List Nat}{xs:List A}{env0:Env}{hB hE i:Nat}:∀p∈([]:List (Qc×Qc)),JA P N l b xs env0 hB hE i p.1 p.2:=by
 intro p a;cases a
theorem Qf{P:Program}{N:Nat}{l:List Oper}{a:List Nat}{xs:List A}{env0:Env}{hB hE i:Nat}{H H':Qc}{r:List (Qc×Qc)}(h:JA P N l a xs env0 hB hE i H H')
  (k:∀p∈r,JA P N l a xs env0 hB hE i p.1 p.2):∀p∈(H,H')::r,JA P N l a xs env0 hB hE i p.1 p.2:=by
 intro p b;rcases X7.1 b with rfl|q
 .exact h
 .exact k p q
theorem QgO{P:Program}{h0 N:Nat}{id:Nat}{l:List Oper}{env:Env}{H:Qc}{fr ro:Nat->Prop}{σ:Sig}{a:Act}{w:World}{rd:Option Nat}{R:Exit->Act->World->Prop}(m c:Nat)(ds:List Nat)(hs:List Bool)(rq Y:List (List Nat))(E:List (List (Nat×Nat)))(xs:List A)(Hs:List Qc)(Hk:Qc)
  (hm:P.follows .mixedOrders=true)(hc:Qd2 l m N ds hs rq Y E=true)(af:Nat.beq xs.length m=true)(ae:Nat.beq Hs.length Y.length=true)(ag:Nat.ble h0 H.length=true)
  (hh:Hs.all (λX=>Nat.ble (H.length+c) X.length)=true)(aa:Hs[0]?=some (H++List.replicate c .dead))(ah:Hs.getD (Y.length-1) []=Hk)
  (ab:Qhp P N l ds xs env H.length (H.length+c) 0 (E.map λq=>q.map λp=>(Hs.getD p.1 [],Hs.getD p.2 [])))(ac:Nat.beq E.length m=true)
  (r:Rel fr ro σ H env N a w)(V:Qeh rd fr w)
  (hk:∀ro' σ' a' w',Rel fr ro' σ' Hk (Qaz ds xs env) N a' w'->Qe fr ro w ro' w'->σ'.take h0=σ.take h0->a'.defers=a.defers->wpL P rd l.toArray R (l.drop m) a' w'):(Code.region id l.toArray true).wpIn (WF rd) 0 P R a w:=by
 obtain⟨ok,J⟩:=QmO hc;have G:=XR af;have F:=XR ae;have ai:=XR ac;have B:Qe fr ro w ro {w with drawn:=w.drawn+1}:=⟨λ_ q=>q,λ_ _=>rfl,λ_ _=>rfl,XU _,λ_ _ q=>q,rfl,rfl,rfl,Nat.le_succ _⟩;have u:Ext ro σ w ro (σ++List.replicate c none) {w with drawn:=w.drawn+1}:=B.ext σ _;have T:=r.sim.len;have O:Hs.getD 0 []=H++List.replicate c .dead:=Qke aa;have h:∀(i:Nat) (s:Option Nat) (x:Blk),(σ++List.replicate c none)[i]?=some s->(H++List.replicate c Blk.dead)[i]?=some x->(σ[i]?=some s/\H[i]?=some x)\/(s=none/\x=.dead):=by
  intro i s x n k;rcases VD i σ.length with q|q
  .rw[XN q]at n;rw[XN (by omega)]at k;exact .inl ⟨n,k⟩
  .rw[XO q]at n;rw[XO (by omega)]at k;have a1:=VI n;have a2:=VI k;exact .inr ⟨(List.mem_replicate.1 a1).2,(List.mem_replicate.1 a2).2⟩
 have M:Sim fr ro (σ++List.replicate c none) (H++List.replicate c .dead) {w with drawn:=w.drawn+1}:=by
  refine⟨by simp[T],r.sim.roOk.to (λ_ q=>q) (λ_ _=>rfl) r.sim.roLt,r.sim.frLt,r.sim.roFr,?_,?_,?_,
   r.sim.hidTo (· = ·) QW (XU _) (λ_ _ _ _ _ _ _ q=>q) (λ_ _ _ _ _ _ _ q=>q) λj d y g1 g2 g3=>.inl ?_⟩
  rotate_left 3
  .rcases h j _ _ g1 g2 with⟨g,t⟩|⟨g,_⟩
   .exact⟨j,y,rfl,g,t,(λz=>z),λc q=>q⟩
   .cases g
  .intro i b blk n k Q;rcases h i _ _ n k with⟨g,t⟩|⟨g,_⟩
   .exact r.sim.own i b blk g t Q
   .cases g
  .intro i j b x y n k Q h4 h5 h6;rcases h i _ _ n Q with⟨g,t⟩|⟨g,_⟩
   .rcases h j _ _ k h4 with⟨W,q4⟩|⟨W,_⟩
    .exact r.sim.inj i j b x y g W t q4 h5 h6
    .cases W
   .cases g
  .intro i s x n k;rcases h i _ _ n k with⟨g,t⟩|⟨g,t⟩
   .exact BR.keep u (λb hb _=>rfl) (r.sim.blk i s x g t) (λ_ _ _ _=>rfl)
   .subst t;exact trivial
 have f:∀i,¬onL (Array.replicate l.length false) i:=by
  intro i q;unfold onL at q;rw[Array.getElem?_replicate]at q;split at q<;>simp at q
 have L:=XS ag;refine wpIn_region_any hm ?_;rw[List.size_toArray];refine Qip ok G F L (Nat.le_add_right _ _) (λX hX=>XS (Xt.1 hh X hX)) ?_ ah (ro0:=ro) (σ0:=σ) (w0:=w) (ds0:=a.defers) hk r.defers V
  l.length _ a _ ro (σ++List.replicate c none) 0 (by simp) ?_ (λi _=>f i) J (by rw[O];exact M) r.size rfl (λi d x q=>absurd q (f i)) (λs _=>(r.env s).mono u) B (Qs (by omega)) ?_
  (λi _ q=>absurd q (f i)) (λi _ _=>⟨λq=>absurd q (f i),λq=>by rw[ok.ms0]at q;cases q⟩) (λi o q=>absurd q (f i))
 .intro i p hi hp;have e:(E.map λq=>q.map λp=>(Hs.getD p.1 [],Hs.getD p.2 []))[i]?=some ((E.getD i []).map λp=>(Hs.getD p.1 [],Hs.getD p.2 [])):=by
   rw[Xq,XL (by omega),VM,XL (by omega)];rfl
  have:=ab.get i _ e _ (Xf.2 ⟨p,hp,rfl⟩);simpa using this
 .unfold unl;simp[List.countP_replicate]
 .intro p n k Q;rw[XO (by omega),List.getElem?_replicate,Vu (by omega)]
theorem QbZ{P:Program}{h0 N:Nat}{id:Nat}{l:List Oper}{env:Env}{H:Qc}{Q:Qx}(m c:Nat)(g:List Nat)(x:List Bool)(u d:List (List Nat))(f:List (List (Nat×Nat)))(xs:List A)(Hs:List Qc)(Hk:Qc)
  (y:P.follows .mixedOrders=true)(z:Qd2 l m N g x u d f=true)(i:Nat.beq xs.length m=true)(h:Nat.beq Hs.length d.length=true)(s:Nat.ble h0 H.length=true)
  (F:Hs.all (λX=>Nat.ble (H.length+c) X.length)=true)(j:Hs[0]?=some (H++List.replicate c .dead))(t:Hs.getD (d.length-1) []=Hk)
  (k:Qhp P N l g xs env H.length (H.length+c) 0 (f.map λq=>q.map λp=>(Hs.getD p.1 [],Hs.getD p.2 [])))(n:Nat.beq f.length m=true)
  (G:WO P h0 N l.toArray (l.drop m) (Qaz g xs env) Hk Q):TC P h0 N (.region id l.toArray true) env H Q:=by
 intro B E J σ a w r hrd;refine Code.wpIn_mono (λe a w q=>Qb1.postW q) (QgO m c g x u d f xs Hs Hk y z i h s F j t k n r hrd λro' σ' a' w' hr hev htk hdf=>?_);have b:=G B E ro' σ' a' w' hr (hrd.to hev λ_ q=>q);rw[hdf]at b;exact Ye (λe a w q=>q.step hev htk) _ _ _ b
def draw0(l:List Oper)(m N:Nat)(ds:List Nat):Bool:=Nat.ble m l.length&&(ds.length==m)&&Qd2.dstB N 0 l ds&&drawChk.nodupB ds&&drawChk.goB l m 0 l
inductive Oq (P:Program) (N:Nat) (l:List Oper) (ds:List Nat) (xs:List A) (env0:Env) (H:Qc):Nat->Nat->Prop
 |n {i:Nat}:Oq P N l ds xs env0 H i 0
 |c {i c:Nat} (h:JA P N l ds xs env0 H.length H.length i H H) (k:Oq P N l ds xs env0 H (i+1) c):Oq P N l ds xs env0 H i (c+1)
theorem Oq.get{P:Program}{N:Nat}{l:List Oper}{a:List Nat}{xs:List A}{env0:Env}{H:Qc}{b c:Nat}(h:Oq P N l a xs env0 H b c):∀i,i<c->JA P N l a xs env0 H.length H.length (b+i) H H:=by
 induction h with
 |n=>intro i d;omega
 | @c b c h _ ih=>
  intro i d;cases i with
  |zero=>exact h
  |succ i=>
   have:=ih i (by omega);rw[show b+1+i=b+(i+1)by omega]at this;exact this
theorem QmP{l:List Oper}{m N:Nat}{d:List Nat}(h:draw0 l m N d=true):Qnv l m d [] [] [[]] (List.replicate m [(0,0)]) N:=by
 unfold draw0 at h;simp only[XX]at h;obtain⟨⟨⟨⟨y,s⟩,t⟩,z⟩,x⟩:=h;have p:m<=l.length:=XS y;have q:d.length=m:=by simpa using s
 have g:=QhX l 0 x;refine⟨p,λi o e b=>?_,q,QdV z,λi o b=>by have:=(g i o b).1;simpa using this,λo b j u=>Qb6 m (Qg o) (λi e=>.one b e) j ((g m o b).2.1 (by omega) j u),
  λi o e b=>by have:=(g i o b).2.2 (by omega);simpa using this,λi o e b h n=>by simp at n,rfl,λk a=>.inl (by simp at a;simp[a]),λk h n=>by cases k<;>simp at n,λi k e a _ _ _=>?_⟩
 .have f:d[i]?=some d[i]:=XL (by omega);rcases Qgo l d 0 t i _ o b f with⟨r,w⟩|r
  .exact .inl ⟨_,r,f,w⟩
  .exact .inr r
 .have:k=0:=by simp at a;exact a
  subst this;refine⟨0,?_,by simp,by simp⟩;rw[VM,List.getElem?_replicate,Vu e];exact VC.2 rfl
theorem QgP{P:Program}{h0 N:Nat}{id:Nat}{l:List Oper}{env:Env}{H:Qc}{fr ro:Nat->Prop}{σ:Sig}{a:Act}{w:World}{rd:Option Nat}{R:Exit->Act->World->Prop}(m:Nat)(u:List Nat)(xs:List A)
  (B:P.follows .mixedOrders=true)(F:Go.Sw.draw0 l m N u=true)(j:Nat.beq xs.length m=true)(t:Nat.ble h0 H.length=true)
  (k:Oq P N l u xs env H 0 m)(r:Rel fr ro σ H env N a w)(n:Qeh rd fr w)
  (E:∀ro' σ' a' w',Rel fr ro' σ' H (Qaz u xs env) N a' w'->Qe fr ro w ro' w'->σ'.take h0=σ.take h0->a'.defers=a.defers->wpL P rd l.toArray R (l.drop m) a' w'):(Code.region id l.toArray true).wpIn (WF rd) 0 P R a w:=by
 have ok:=QmP F;have f:=XR j;have g:Qe fr ro w ro {w with drawn:=w.drawn+1}:=⟨λ_ q=>q,λ_ _=>rfl,λ_ _=>rfl,XU _,λ_ _ q=>q,rfl,rfl,rfl,Nat.le_succ _⟩;have e:Ext ro σ w ro σ {w with drawn:=w.drawn+1}:=g.ext0 σ;have h:Sim fr ro σ H {w with drawn:=w.drawn+1}:=r.sim.heap rfl;have b:∀i,¬onL (Array.replicate l.length false) i:=by
  intro i q;unfold onL at q;rw[Array.getElem?_replicate]at q;split at q<;>simp at q
 refine wpIn_region_any B ?_;rw[List.size_toArray];refine Qip (hB:=H.length) (hE:=H.length) (Hs:=[H]) (Hk:=H) ok f rfl (XS t) (XU _) (λX hX=>by rw[VC.1 hX];exact XU _) ?_ rfl (ro0:=ro) (σ0:=σ) (w0:=w) (ds0:=a.defers) E r.defers n
  l.length _ a _ ro σ 0 (by simp) ?_ (λi _=>b i) (by simp) h r.size rfl (λi d x q=>absurd q (b i)) (λs _=>(r.env s).mono e) g rfl (λp J G=>by omega)
  (λi _ q=>absurd q (b i)) (λi _ _=>⟨λq=>absurd q (b i),λq=>by cases q⟩) (λi o q=>absurd q (b i))
 .intro i p y z;rw[VM,List.getElem?_replicate,Vu y]at z;obtain rfl:=VC.1 z;have:=k.get i y;rw[Xw]at this;exact this
 .unfold unl;simp[List.countP_replicate]
theorem TC.draw0{P:Program}{h0 N:Nat}{id:Nat}{l:List Oper}{env:Env}{H:Qc}{Q:Qx}(m:Nat)(d:List Nat)(xs:List A)
  (j:P.follows .mixedOrders=true)(n:Go.Sw.draw0 l m N d=true)(f:Nat.beq xs.length m=true)(h:Nat.ble h0 H.length=true)
  (g:Oq P N l d xs env H 0 m)(k:WO P h0 N l.toArray (l.drop m) (Qaz d xs env) H Q):TC P h0 N (.region id l.toArray true) env H Q:=by
 intro p i s σ a w r hrd;refine Code.wpIn_mono (λe a w q=>Qb1.postW q) (QgP m d xs j n f h g r hrd λro' σ' a' w' hr hev htk hdf=>?_);have b:=k p i ro' σ' a' w' hr (hrd.to hev λ_ q=>q);rw[hdf]at b;exact Ye (λe a w q=>q.step hev htk) _ _ _ b
section
variable {P:Program} {N:Nat} {l:List Oper} {ds af bf:List Nat} {xs:List A} {env0 e r:Env} {H H':Qc} {i hB hE:Nat} {o:Oper} {d s:Nat} {x a:A}
theorem sN:Sb af bf ds xs env0 []:=.nil
theorem sD(j:Nat)(k:Sb af bf ds xs env0 r)(b:af.contains j=true:=by exact rfl)(h2:ds[j]?=some s:=by exact rfl)(h3:xs[j]?=some a:=by exact rfl):Sb af bf ds xs env0 ((s,a)::r):=.dep j b h2 h3 k
theorem sP(j:Nat)(k:Sb af bf ds xs env0 r)(b:bf.contains j=true:=by exact rfl)(h2:ds[j]?=some s:=by exact rfl)(h3:lk env0 s=a:=by exact rfl):Sb af bf ds xs env0 ((s,a)::r):=.pre j b h2 h3 k
theorem Qd3(H:Qc):Qax hB hE H H=true:=by
 unfold Qax;refine Xt.2 λp _=>?_;cases QcA H[hB+p]? <;>rfl
theorem Om(a:l[i]?=some o)(b:Sb (Qg o) (Qjx l i) ds xs env0 e)(h:WO P H.length N l.toArray [o] e H (Y1 (up e d x) H))(f:o.dst=some d:=by exact rfl)(hx:xs[i]?=some x:=by exact rfl):JA P N l ds xs env0 hB hE i H H:=
 .mk o e d x a f hx (Qd3 H) b h
theorem Om1(a:l[i]?=some o)(b:Sb (Qg o) (Qjx l i) ds xs env0 e)(h:WO P H.length N l.toArray [o] e H (Y1 (up e d x) H'))(f:o.dst=some d:=by exact rfl)(hx:xs[i]?=some x:=by exact rfl)(hdd:Qax hB hE H H'=true:=by exact rfl):JA P N l ds xs env0 hB hE i H H':=
 .mk o e d x a f hx hdd b h
theorem Om2(a:l[i]?=some o)(b:Sb (Qg o) (Qjx l i) ds xs env0 e)(h:WO P H.length N l.toArray [o] e H (Y1 e H'))(d:o.dst=none:=by exact rfl)(hx:xs[i]?=some .any:=by exact rfl)(hdd:Qax hB hE H H'=true:=by exact rfl):JA P N l ds xs env0 hB hE i H H':=
 .unit o e a d hx hdd b h
end
end Go.Sw
namespace Go.Sw
structure TyI where
 fld:List (Nat×Nat×Nat)
 agg:List (Nat×Bool×Nat)
 zer:List (Nat×List A×List (Nat×Nat))
structure TyOK (P:Program) (T:TyI):Prop where
 fld:∀e∈T.fld,∃n,QY P e.1 e.2.1 e.2.2 n
 agg:∀e∈T.agg,(∀w,(isAgg e.1).run P w=.ok e.2.1 w)/\ ∀w,(sizeOf e.1).run P w=.ok e.2.2 w
 zer:∀e∈T.zer,(∃z,(∀w,(zeroValue e.1).run P w=.ok z w)/\ZR (.agg e.2.1) z)/\QD P e.1 e.2.2
def Qh2:List (Nat×Nat×Nat)->Nat->Nat->Option Nat
 |[],_,_=>none
 |(a,b,c)::r,t,f=>bif Nat.beq a t&&Nat.beq b f then some c else Qh2 r t f
def Qch{β:Type}:List (Nat×β)->Nat->Option β
 |[],_=>none
 |(a,b)::r,t=>bif Nat.beq a t then some b else Qch r t
theorem Qh1{l:List (Nat×Nat×Nat)}{t f c:Nat}(h:Qh2 l t f=some c):(t,f,c)∈l:=by
 induction l with
 |nil=>cases h
 |cons x r i=>
  obtain⟨a,b,d⟩:=x;unfold Qh2 at h;cases q:(Nat.beq a t&&Nat.beq b f)with
  |true=>
   rw[q]at h;simp only[XX]at q;have g:=XR q.1;have e:=XR q.2;simp only[Vq,Option.some.injEq]at h;subst g e h;exact .head _
  |false=>rw[q]at h;exact .tail _ (i h)
theorem QaA{β:Type}{l:List (Nat×β)}{t:Nat}{c:β}(h:Qch l t=some c):(t,c)∈l:=by
 induction l with
 |nil=>cases h
 |cons x r e=>
  obtain⟨a,b⟩:=x;unfold Qch at h;cases q:Nat.beq a t with
  |true=>
   rw[q]at h;have d:=XR q;simp only[Vq,Option.some.injEq]at h;subst d h;exact .head _
  |false=>rw[q]at h;exact .tail _ (e h)
def Qhf(H:Qc):A->Option (List A)
 |.rp cs=>some cs
 |.ptr i off=>match H[i]? with
  |some (.cells _ cs)=>some (cs.drop off)
  |_=>none
 |_=>none
theorem Qjw{H:Qc}{p:A}{cs:List A}(h:Qhf H p=some cs):Pts H p cs:=by
 unfold Qhf at h;split at h
 .cases h;exact Pts.rp
 .split at h
  .rename_i a;cases h;exact Pts.cells a rfl
  .cases h
 .cases h
def QlM(T:TyI)(o:Oper)(env:Env)(H:Qc):Option A:=
 match o.op with
 |.move x=>some (opA env x)
 |.assign x=>some (opA env x)
 |.fieldAddr t x f=>match Qh2 T.fld t f with
  |none=>none
  |some off=>match opA env x with
   |.ptr i p=>some (.ptr i (p+off))
   |.rp cs=>some (.rp (cs.drop off))
   |_=>none
 |.load t x=>match Qch T.agg t with
  |none=>none
  |some (b,n)=>match x with
   |.global g=>match Qjg[g]? with
    |some zs=>bif b&&Nat.beq zs.length n then some (.agg (zs.map (A.int .i64)))else none
    |none=>none
   |x=>match Qhf H (opA env x)with
    |none=>none
    |some cs=>bif b then(bif Nat.beq (cs.take n).length n then some (.agg (cs.take n))else none)else cs.head?
 |.build t parts=>match Qch T.zer t with
  |none=>none
  |some (zs,pl)=>match Qd0 env pl zs parts.toList with
   |some cs=>some (.agg cs)
   |none=>none
 |.extract x i=>match opA env x with
  |.tup vs=>vs[i]?
  |_=>none
 |.makeFunc f first cap=>some (.fn f (first.toList.map (opA env)) (cap.toList.map (opA env)))
 |_=>none
theorem QlL{P:Program}{T:TyI}(m:TyOK P T){o:Oper}{env:Env}{H:Qc}{x:A}(h:QlM T o env H=some x):OpV P o env H x:=by
 unfold QlM at h;split at h
 .rename_i y a;cases h;exact OpV.move a rfl
 .rename_i y a;cases h;exact OpV.assign a rfl
 .rename_i t y f a;split at h
  .cases h
  .rename_i F l;obtain⟨n,r⟩:=m.fld _ (Qh1 l);split at h
   .rename_i i p j;cases h;exact Yq r a j
   .rename_i d j;cases h;exact Qp r a j rfl
   .cases h
 .rename_i t y a;split at h
  .cases h
  .rename_i b n E;obtain⟨e,k⟩:=m.agg _ (QaA E);split at h
   .rename_i g;split at h
    .rename_i s J;cases q:(b&&Nat.beq s.length n)with
     |false=>rw[q]at h;cases h
     |true=>
      rw[q]at h;cases h;simp only[XX]at q;obtain⟨rfl,B⟩:=q;exact Qgw e k J (XR B) a
    .cases h
   .split at h
    .cases h
    .rename_i d G;have u:=Qjw G;cases b with
     |true=>
      simp only[Vq]at h;cases q:Nat.beq (d.take n).length n with
      |false=>rw[q]at h;cases h
      |true=>
       rw[q]at h;cases h;exact Qh a e k rfl u rfl (XR q)
     |false=>
      simp only[Vr]at h;cases d with
      |nil=>cases h
      |cons v d=>cases h;exact OpV.load a e rfl u
 .rename_i t parts a;split at h
  .cases h
  .rename_i s M L;obtain⟨⟨z,e,k⟩,w⟩:=m.zer _ (QaA L);split at h
   .rename_i d l;cases h;exact OpV.build e k w (by rw[a]) l
   .cases h
 .rename_i y i a;split at h
  .rename_i vs j;exact OpV.extract a j h
  .cases h
 .rename_i f first cap a
  cases h;exact OpV.makeFunc (first:=first.toList) (cap:=cap.toList) (by rw[a]) rfl rfl
 .cases h
def Qio(af:List Nat):Nat->List Nat->List A->Env->Env
 |j,d::ds,x::xs,e=>(d,bif af.contains j then x else .any)::Qio af (j+1) ds xs e
 |_,_,_,e=>e
theorem Qn4{af:List Nat}{env0:Env}(s:Nat):∀(a:List Nat) (xs:List A) (b:Nat),a.length=xs.length->
  (∃(j:Nat) (x:A),a[j]?=some s/\xs[j]?=some x/\lk (Qio af b a xs env0) s=bif af.contains (b+j)then x else .any)\/(a.contains s=false/\lk (Qio af b a xs env0) s=lk env0 s):=by
 intro a
 induction a with
 |nil=>intro xs b f;right;exact⟨rfl,by unfold Qio;rfl⟩
 |cons d a k=>
  intro xs b f;cases xs with
  |nil=>cases f
  |cons x xs=>
   cases q:Nat.beq s d with
   |true=>
    have e:=XR q;subst e;left;refine⟨0,x,rfl,rfl,?_⟩;simp only[Qio,lk,q,Vq];rfl
   |false=>
    have h:s≠d:=λz=>by subst z;simp[VG]at q
    simp only[Qio,lk,q,Vr];rcases k xs (b+1) (by simpa using f)with⟨j,y,i,g,l⟩|⟨i,g⟩
    .left;refine⟨j+1,y,by simpa using i,by simpa using g,?_⟩;rw[show b+(j+1)=b+1+j by omega];exact l
    .right;refine⟨?_,g⟩;rw[List.contains_cons,i];simpa using h
def QjV(T:TyI)(N:Nat)(l:List Oper)(ds:List Nat)(xs:List A)(env0:Env)(H:Qc)(i:Nat):Option A:=
 match l[i]? with
 |none=>none
 |some o=>match o.guard,o.dst with
  |none,some d=>bif Nat.blt d N&&Nat.beq ds.length xs.length then QlM T o (Qio (Qg o) 0 ds xs env0) H else none
  |_,_=>none
theorem Qn3{af b:List Nat}{xs:List A}{env0:Env}(hl:b.length=xs.length):Qns af b xs env0 (Qio af 0 b xs env0):=by
 intro s;rcases Qn4 (af:=af) (env0:=env0) s b xs 0 hl with⟨j,x,d,e,a⟩|h
 .rw[Xw]at a;cases q:af.contains j with
  |true=>rw[q]at a;exact .inl ⟨j,x,q,d,e,a⟩
  |false=>rw[q]at a;exact .inr (.inl a)
 .exact .inr (.inr h)
theorem vQ{P:Program}{T:TyI}(b:TyOK P T){N:Nat}{l:List Oper}{a:List Nat}{xs:List A}{env0:Env}{hB hE i:Nat}{H:Qc}{x:A}(f:xs[i]?=some x)(h:QjV T N l a xs env0 H i=some x):JA P N l a xs env0 hB hE i H H:=by
 unfold QjV at h;split at h
 .cases h
 .rename_i o j;split at h
  .rename_i d g e;cases q:(Nat.blt d N&&Nat.beq a.length xs.length)with
   |false=>rw[q]at h;cases h
   |true=>
    rw[q]at h;simp only[XX]at q;exact .val o _ d x j e g f q.1 (Qn3 (XR q.2)) (QlL b h)
  .cases h
abbrev I(n:Int):A:=.int .i64 n
theorem zc{a:A}{v:Value}{al:List A}{vl:List Value}(h:ZR a v)(k:ZL al vl):ZL (a::al) (v::vl):=ZL.cons h k
def zr1:A->Value->Bool
 |.int k n,.int k' n'=>decide (k=k')&&decide (n=n')
 |.bool b,.bool b'=>b==b'
 |.str s,.string s'=>s.isEmpty&&s'.data.toList.isEmpty
 |.rsl _ es,.slice none 0 0=>es.isEmpty
 |.nils,.slice none 0 0=>true
 |.nilp,.pointer none=>true
 |.nilf,.nilFunc=>true
 |.nilm,.map none=>true
 |.nilif,.nilIface=>true
 |_,_=>false
def zrL:List A->List Value->Bool
 |[],[]=>true
 |a::r,v::s=>zr1 a v&&zrL r s
 |_,_=>false
def zrB:A->Value->Bool
 |.agg r,.agg s=>zrL r s.toList
 |a,v=>zr1 a v
theorem QlC{a:A}{v:Value}(h:zr1 a v=true):ZR a v:=by
 unfold zr1 at h;split at h
 .simp only[XX,Vs]at h;obtain⟨rfl,rfl⟩:=h;exact ZR.int
 .simp only[Vz]at h;subst h;exact ZR.bool
 .rename_i s g;simp only[XX,List.isEmpty_iff]at h;obtain⟨rfl,b⟩:=h;obtain⟨d⟩:=g;obtain⟨d⟩:=d;have b:d=[]:=b;subst b;exact ZR.str
 .rename_i k f;have h:f=[]:=List.isEmpty_iff.1 h;subst h;exact ZR.rsl (α:=A) (e:=λx=>[x])
 .exact ZR.nils
 .exact ZR.nilp
 .exact ZR.nilf
 .exact ZR.nilm
 .exact Qn9
 .cases h
theorem QlB:∀{r:List A} {s:List Value},zrL r s=true->ZL r s
 |[],[],_=>ZL.nil
 |a::r,v::s,h=>by
  simp only[zrL,XX]at h;exact ZL.cons (QlC h.1) (QlB h.2)
 |[],_::_,h=>by cases h
 |_::_,[],h=>by cases h
theorem zrC{a:A}{v:Value}(h:zrB a v=true):ZR a v:=by
 unfold zrB at h;split at h
 .rename_i r s;have:=ZR.agg (QlB h);simpa using this
 .exact QlC h
end Go.Sw
namespace Go.Sw
section
variable {P:Program} {o:Oper} {env:Env} {H:Qc}
end
end Go.Sw
namespace Go.Sw
structure TyX where
 ty:TyI
 al:List (Nat×A)
 sl:List Nat
structure QbH (P:Program) (T:TyX):Prop where
 ty:TyOK P T.ty
 al:∀e∈T.al,(∃z,(∀w,(zeroValue e.1).run P w=.ok z w)/\ZR e.2 z)/\Q8 e.2=true/\(Yi e.2).all Yo=true
 sl:∀t∈T.sl,∃et,∀w,(underlying t).run P w=.ok (.slice et) w
def YV(all:Array Oper)(o:Oper)(env:Env):Option Bool:=
 match o.guard with
 |none=>some true
 |some (j,c)=>match(all[j]?).bind (·.dst)with
  |none=>none
  |some d=>match lk env d with
   |.bool true=>some c
   |.bool false=>some (!c)
   |.tup []=>some false
   |_=>none
theorem QZ{all:Array Oper}{o:Oper}{env:Env}{b:Bool}(h:YV all o env=some b):Qn all o env b:=by
 unfold YV at h;unfold Qn;split at h
 .rename_i q;rw[q];cases h;rfl
 .rename_i j c q;rw[q];split at h
  .cases h
  .rename_i d e;refine⟨d,e,?_⟩;split at h
   .rename_i a;cases h;exact .inl ⟨true,a,by simp⟩
   .rename_i a;cases h;exact .inl ⟨false,a,by cases c<;>rfl⟩
   .rename_i a;cases h;exact .inr ⟨a,rfl⟩
   .cases h
def Qdv:List Nat->Nat->Bool
 |[],_=>false
 |a::r,t=>bif Nat.beq a t then true else Qdv r t
theorem QgU{l:List Nat}{t:Nat}(h:Qdv l t=true):t∈l:=by
 induction l with
 |nil=>cases h
 |cons a r b=>
  unfold Qdv at h;cases q:Nat.beq a t with
  |true=>have:=XR q;subst this;exact .head _
  |false=>rw[q]at h;exact .tail _ (b h)
inductive FL where
 |mk (l:List A)
def fl:List A->FL
 |[]=>.mk []
 |a::r=>match fl r with
  |.mk r'=>.mk (a::r')
theorem Qco:∀l:List A,fl l=.mk l
 |[]=>rfl
 |a::r=>by unfold fl;rw[Qco r]
inductive FB where
 |mk (l:List Blk)
def fb:List Blk->FB
 |[]=>.mk []
 |a::r=>match fb r with
  |.mk r'=>.mk (a::r')
theorem Qki:∀l:List Blk,fb l=.mk l
 |[]=>rfl
 |a::r=>by unfold fb;rw[Qki r]
inductive FN where
 |mk (n:Nat)
def fn:List Blk->Nat->FN
 |[],n=>.mk n
 |_::r,n=>fn r (n+1)
theorem Qmw:∀(l:List Blk) (n:Nat),fn l n=.mk (l.length+n)
 |[],n=>by simp[fn]
 |a::r,n=>by unfold fn;rw[Qmw r];simp;omega
def Qkg(env:Env)(pl:List (Nat×Nat)):List A->List (Nat×Operand)->Option (List A)
 |cs,[]=>some cs
 |cs,(i,x)::r=>match YU pl i with
  |none=>none
  |some (off,size)=>match opB env x with
   |.mk a=>match fl (Yi a)with
    |.mk vs=>bif Q8 a&&Nat.beq vs.length size&&Nat.ble (off+size) cs.length then(match fl (splice cs off vs)with
     |.mk cs'=>Qkg env pl cs' r)else none
theorem Qh5{env:Env}{pl:List (Nat×Nat)}:∀(parts:List (Nat×Operand)) (cs:List A),Qkg env pl cs parts=Qd0 env pl cs parts
 |[],cs=>rfl
 |(i,x)::r,cs=>by
  unfold Qkg Qd0;rw[QaE];cases pl[i]? with
  |none=>rfl
  |some q=>
   obtain⟨off,size⟩:=q;cases h:opB env x with
   |mk a=>
    rw[Qz h];simp only[Qco];cases(Q8 a&&Nat.beq (Yi a).length size&&Nat.ble (off+size) cs.length)with
    |false=>rfl
    |true=>exact Qh5 r _
def QhS(env:Env):List Operand->List A
 |[]=>[]
 |x::r=>match opB env x with
  |.mk a=>a::QhS env r
theorem QcR{env:Env}:∀l:List Operand,QhS env l=l.map (opA env)
 |[]=>rfl
 |x::r=>by
  unfold QhS;cases h:opB env x with
  |mk a=>rw[Vk,Qz h];show a::QhS env r=_;rw[QcR r]
def ptX(H:Qc):Bx->Option Lx
 |.mk (.rp cs)=>some (.mk cs)
 |.mk (.ptr i off)=>match YU H i with
  |some (.cells _ cs)=>some (Qfl off cs)
  |_=>none
 |_=>none
theorem QoW{H:Qc}{p:A}{cs:List A}(h:ptX H (.mk p)=some (.mk cs)):Pts H p cs:=by
 unfold ptX at h;split at h
 .rename_i q;cases q;cases h;exact Pts.rp
 .rename_i i b q;cases q;split at h
  .rename_i a;rw[QaE]at a;simp only[Option.some.injEq]at h;exact Pts.cells a (Qc1 h)
  .cases h
 .cases h
def Qey(T:TyX)(o:Oper)(env:Env)(H:Qc):Option A:=
 match o.op with
 |.move x=>match opB env x with|.mk a=>some a
 |.assign x=>match opB env x with|.mk a=>some a
 |.nilCheck x=>nlB (opB env x)
 |.extract x i=>exB (opB env x) i
 |.unOp u _ x=>unB u (opB env x)
 |.pick c x y=>piB (opB env c) (opB env x) (opB env y)
 |.binOp b _ x y _=>biB b (opB env x) (opB env y)
 |.fieldAddr t x f=>match Qh2 T.ty.fld t f with
  |none=>none
  |some off=>match opB env x with
   |.mk (.ptr i p)=>some (.ptr i (p+off))
   |.mk (.rp cs)=>match Qfl off cs with
    |.mk r=>some (.rp r)
   |_=>none
 |.load t x=>match Qch T.ty.agg t with
  |none=>none
  |some (b,n)=>match x with
   |.global g=>match YU Qjg g with
    |some zs=>bif b&&Nat.beq zs.length n then(match fl (zs.map (A.int .i64))with|.mk l=>some (.agg l))else none
    |none=>none
   |x=>match ptX H (opB env x)with
    |none=>none
    |some (.mk cs)=>match b with
     |true=>(match fl (cs.take n)with|.mk l=>bif Nat.beq l.length n then some (.agg l)else none)
     |false=>(match cs with|[]=>none|a::_=>some a)
 |.build t parts=>match Qch T.ty.zer t with
  |none=>none
  |some (zs,pl)=>match Qkg env pl zs parts.toList with
   |some cs=>some (.agg cs)
   |none=>none
 |.makeFunc f first cap=>match fl (QhS env first.toList),fl (QhS env cap.toList)with
  |.mk l,.mk l'=>some (.fn f l l')
 |.call c=>match c with
  |{callee:=.builtin .len,args:=⟨[x]⟩,argTypes:=⟨[t]⟩}=>bif Qdv T.sl t then(match opB env x with
   |.mk (.osl _ 0 n _)=>some (.int .i64 n)
   |_=>none)else none
  |_=>none
 |_=>none
theorem Qbm{P:Program}{T:TyX}(s:QbH P T){o:Oper}{env:Env}{H:Qc}{x:A}(h:Qey T o env H=some x):OpV P o env H x:=by
 unfold Qey at h;split at h
 .rename_i y a;exact QbK a (by unfold svB;exact h)
 .rename_i y a;exact QbK a (by unfold svB;exact h)
 .rename_i y a;exact QbK a (by unfold svB;exact h)
 .rename_i y i a;exact QbK a (by unfold svB;exact h)
 .rename_i u t y a;exact QbK a (by unfold svB;exact h)
 .rename_i c y z a;exact QbK a (by unfold svB;exact h)
 .rename_i b t y z u a;exact QbK a (by unfold svB;exact h)
 .rename_i t y f a;split at h
  .cases h
  .rename_i E l;obtain⟨n,F⟩:=s.ty.fld _ (Qh1 l);split at h
   .rename_i i p w;cases h;exact Yq F a (Qz w)
   .rename_i d w;cases q:Qfl E d with
    |mk r=>rw[q]at h;cases h;exact Qp F a (Qz w) (Qc1 q)
   .cases h
 .rename_i t y a;split at h
  .cases h
  .rename_i b n R;obtain⟨j,m⟩:=s.ty.agg _ (QaA R);split at h
   .rename_i g;split at h
    .rename_i G J;rw[QaE]at J;cases q:(b&&Nat.beq G.length n)with
     |false=>rw[q]at h;cases h
     |true=>
      rw[q,Qco]at h;cases h;simp only[XX]at q;obtain⟨rfl,B⟩:=q;exact Qgw j m J (XR B) a
    .cases h
   .cases e:opB env y with
    |mk p=>
     rw[e]at h;split at h
     .cases h
     .rename_i d M;have L:=QoW M;cases b with
      |true=>
       simp only[Qco]at h;cases q:Nat.beq (d.take n).length n with
       |false=>rw[q]at h;cases h
       |true=>
        rw[q]at h;cases h;exact Qh a j m (Qz e) L rfl (XR q)
      |false=>
       cases d with
       |nil=>cases h
       |cons v d=>cases h;exact OpV.load a j (Qz e) L
 .rename_i t parts a;split at h
  .cases h
  .rename_i G V N;obtain⟨⟨z,j,m⟩,Q⟩:=s.ty.zer _ (QaA N);split at h
   .rename_i d l;cases h;rw[Qh5]at l;exact OpV.build j m Q (by rw[a]) l
   .cases h
 .rename_i f first cap a
  simp only[Qco]at h;cases h;rw[QcR,QcR];exact OpV.makeFunc (first:=first.toList) (cap:=cap.toList) (by rw[a]) rfl rfl
 .rename_i c a;split at h
  .rename_i y t;cases q:Qdv T.sl t with
   |false=>rw[q]at h;cases h
   |true=>
    rw[q]at h;simp only[Vq]at h;obtain⟨W,O⟩:=s.sl t (QgU q);split at h
    .rename_i i n k B;cases h;exact Qlo O a rfl (Qz B)
    .cases h
  .cases h
 .cases h
def stX(T:TyX)(h0 N:Nat)(all:Array Oper)(o:Oper)(env:Env)(H:Qc):Option (Env×Qc):=
 match YV all o env with
 |none=>none
 |some false=>match o.dst with
  |none=>none
  |some d=>bif Nat.blt d N then some (up env d (.tup []),H)else none
 |some true=>match o.dst with
  |none=>match o.op with
   |.store t x y=>match opB env x,Qch T.ty.agg t with
    |.mk (.ptr i off),some (_,n)=>match YU H i with
     |some (.cells S cs)=>match opB env y with
      |.mk a=>match fl (Yi a)with
       |.mk vs=>bif Nat.ble h0 H.length&&(Q8 a&&(Nat.beq vs.length n&&(vs.all Yo&&Nat.ble (off+n) cs.length)))then(match fl (splice cs off vs)with
        |.mk cs'=>match fb (H.set i (.cells S cs'))with
         |.mk H'=>some (env,H'))else none
     |_=>none
    |_,_=>none
   |_=>none
  |some d=>bif Nat.blt d N then(match o.op with
   |.alloc t=>match Qch T.al t with
    |some v=>bif Nat.ble h0 H.length then(match fn H 0,fl (Yi v)with
     |.mk n,.mk cs=>match fb (H++[.cells t cs])with
      |.mk H'=>some (up env d (.ptr n 0),H'))else none
    |none=>none
   |.box t x=>match opB env x with
    |.mk a=>bif Nat.ble h0 H.length&&(Q8 a&&(Yi a).all Yo)then(match fn H 0,fl (Yi a)with
     |.mk n,.mk cs=>match fb (H++[.cells t cs])with
      |.mk H'=>some (up env d (.ptr n 0),H'))else none
   |_=>match Qey T o env H with
    |some a=>some (up env d a,H)
    |none=>none)else none
def runX(T:TyX)(h0 N:Nat)(all:Array Oper):Nat->List Oper->Env->Qc->Option (List Oper×Env×Qc)
 |0,l,env,H=>some (l,env,H)
 |_+1,[],_,_=>none
 |n+1,o::l,env,H=>match stX T h0 N all o env H with
  |some (env',H')=>runX T h0 N all n l env' H'
  |none=>none
section
variable {P:Program} {T:TyX} {h0 N:Nat} {all:Array Oper} {l l':List Oper} {env env':Env} {H H':Qc} {Q:Qx}
theorem QiV(w:QbH P T){o:Oper}(h:stX T h0 N all o env H=some (env',H'))(k:WO P h0 N all l env' H' Q):WO P h0 N all (o::l) env H Q:=by
 unfold stX at h;split at h
 .cases h
 .rename_i s;have g:=QZ s;split at h
  .cases h
  .rename_i d f;cases q:Nat.blt d N with
   |false=>rw[q]at h;cases h
   |true=>rw[q]at h;cases h;exact WO.skip g f q k
 .rename_i s;have g:=QZ s;split at h
  .rename_i f;split at h
   .rename_i t x y j;split at h
    .rename_i i u b n E R;split at h
     .rename_i S cs hH;rw[QaE]at hH;cases e:opB env y with
      |mk a=>
       rw[e]at h;simp only[Qco,Qki]at h;generalize hc:(Nat.ble h0 H.length&&(Q8 a&&(Nat.beq (Yi a).length n&&((Yi a).all Yo&&Nat.ble (u+n) cs.length))))=c at h;cases c with
       |false=>cases h
       |true=>
        cases h;simp only[XX]at hc;obtain⟨p,m,r,W,L⟩:=hc;obtain⟨_,V⟩:=w.ty.agg _ (QaA R);exact QbB (XS p) g f (OpU.store j (Qz E) hH V (Qz e) m rfl (XR r) W L rfl) k
     .cases h
    .cases h
   .cases h
  .rename_i d f;cases q:Nat.blt d N with
   |false=>rw[q]at h;cases h
   |true=>
    rw[q]at h;simp only[Vq]at h;split at h
    .rename_i t j;split at h
     .rename_i v M;cases c:Nat.ble h0 H.length with
      |false=>rw[c]at h;cases h
      |true=>
       rw[c]at h;simp only[Qco,Qki,Qmw,Vq,Xx]at h;cases h;obtain⟨⟨z,B,J⟩,F,G⟩:=w.al _ (QaA M);exact YY (XS c) g f q (QfB B J j F rfl G) k
     .cases h
    .rename_i t x j;cases e:opB env x with
     |mk a=>
      rw[e]at h;simp only[Qco,Qki,Qmw,Xx]at h;generalize hc:(Nat.ble h0 H.length&&(Q8 a&&(Yi a).all Yo))=c at h;cases c with
      |false=>cases h
      |true=>
       cases h;simp only[XX]at hc;obtain⟨p,m,r⟩:=hc;exact YY (XS p) g f q (OpH.box j (Qz e) m rfl r) k
    .split at h
     .rename_i a O;cases h;exact QE g f q (Qbm w O) k
     .cases h
theorem AU(hT:QbH P T):∀(n:Nat) {l l':List Oper} {env env':Env} {H H':Qc},runX T h0 N all n l env H=some (l',env',H')->WO P h0 N all l' env' H' Q->WO P h0 N all l env H Q
 |0,l,l',env,env',H,H',h,k=>by cases h;exact k
 |n+1,[],l',env,env',H,H',h,k=>by cases h
 |n+1,o::l,l',env,env',H,H',h,k=>by
  unfold runX at h;split at h
  .rename_i e1 H1 hs;exact QiV hT hs (AU hT n h k)
  .cases h
end
theorem yc{α:Type}{p:α->Prop}{a:α}{l:List α}(h:p a)(k:∀x∈l,p x):∀x∈a::l,p x:=List.forall_mem_cons.2 ⟨h,k⟩
theorem FA{P:Program}{T f off n:Nat}{fs:Array Field}{a:Field}(e:∀w,(underlying T).run P w=.ok (.struct fs) w)(b:fs[f]?=some a)(g:∀w,(sizeOf a.type).run P w=.ok n w)(d:a.offset=off:=by exact rfl)(h5:n≠0:=by decide):QY P T f off n:=⟨_,_,e,b,d,g,h5⟩
theorem QbN:∀(π:List Nat) (H:Qc) (xs:List Blk),π.map (λp=>H[p]?)=xs.map some->Yn H π xs=H
 |[],H,xs,h=>by
  have:xs=[]:=by cases xs with
   |nil=>rfl
   |cons x xs=>simp at h
  subst this;simp[Yn]
 |p::π,H,[],h=>by simp at h
 |p::π,H,x::xs,h=>by
  simp only[Vk,List.cons.injEq]at h;have e:H.set p x=H:=by
   apply List.ext_getElem?;intro i;rw[Xb];by_cases q:p=i
   .subst q;rw[Vu rfl,h.1];have:=(XM.1 h.1).1;rw[Vu this]
   .rw[Vt q]
  unfold Yn;rw[e];exact QbN π H xs h.2
def Qi1:A->Option Bx
 |.bool b=>some (.mk (.bool b))
 |.int k n=>some (.mk (.int k n))
 |.str s=>some (.mk (.str s))
 |.rsl k es=>some (.mk (.rsl k es))
 |_=>none
theorem QjX{v a:A}(h:Qi1 v=some (.mk a))(ρ:Nat->Nat):Yx ρ v=a:=by
 cases v<;>first|(cases h;rfl)|cases h
theorem Pc{P:Program}{h0 N:Nat}{all:Array Oper}{o:Oper}{l:List Oper}{env:Env}{H:Qc}{Q:Qx}{d:Nat}{f:FuncId}{args b:List A}{Hc:Qc}{v g:A}(π:List Nat)(i:o.dst=some d)(e:OpC P o env H f args)(h:C P f b Hc (λa H1=>a=v/\H1=Hc))(j:Qi1 v=some (.mk g))
  (k:WO P h0 N all l (up env d g) H Q)
  (hargs:args=Qaa (rho π H.length) b:=by exact rfl)(hH:π.map (λp=>H[p]?)=(Hc.map (QV (rho π H.length))).map some:=by exact rfl)(hπ:π.Nodup:=by decide)
  (hg:Qn all o env true:=by exact rfl)(hN:Nat.blt d N=true:=by exact rfl)(hh:Nat.ble h0 H.length=true:=by exact rfl):WO P h0 N all (o::l) env H Q:=by
 refine QP π e h ?_ hargs hH hπ hg i hN hh;rintro r H1 ⟨rfl,rfl⟩;rw[QjX j,QbN π H _ hH];exact k
theorem Y8{i k:Nat}{es:List (List A)}:∀H:Qc,FzH i k es H H
 |[]=>.nil
 |_::r=>.keep (Y8 r)
def foN:Nat->FN
 |0=>.mk 0
 |n+1=>match foN n with
  |.mk m=>.mk (m+1)
theorem Qe1:∀n,foN n=.mk n
 |0=>rfl
 |n+1=>by unfold foN;rw[Qe1 n]
mutual
def foA:A->Bx
 |.agg cs=>match foL cs with
  |.mk l=>.mk (.agg l)
 |.tup cs=>match foL cs with
  |.mk l=>.mk (.tup l)
 |.fn f a c=>match foL a,foL c with
  |.mk l,.mk l'=>.mk (.fn f l l')
 |.iface t v=>match foA v with
  |.mk v'=>.mk (.iface t v')
 |.ptr i off=>match foN i with
  |.mk i'=>.mk (.ptr i' off)
 |.osl i o n k=>match foN i with
  |.mk i'=>.mk (.osl i' o n k)
 |.map i=>match foN i with
  |.mk i'=>.mk (.map i')
 |a=>.mk a
def foL:List A->FL
 |[]=>.mk []
 |a::r=>match foA a,foL r with
  |.mk a',.mk r'=>.mk (a'::r')
end
mutual
theorem Qg3:∀a:A,foA a=.mk a
 |.agg cs=>by unfold foA;rw[QcC cs]
 |.tup cs=>by unfold foA;rw[QcC cs]
 |.fn f a c=>by unfold foA;rw[QcC a,QcC c]
 |.iface t v=>by unfold foA;rw[Qg3 v]
 |.ptr i off=>by unfold foA;rw[Qe1]
 |.osl i o n k=>by unfold foA;rw[Qe1]
 |.map i=>by unfold foA;rw[Qe1]
 |.any|.bool _|.int _ _|.str _|.nilp|.rp _|.nils|.rsl _ _|.nilf|.nilif|.nilm=>by rfl
theorem QcC:∀l:List A,foL l=.mk l
 |[]=>by rfl
 |a::r=>by unfold foL;rw[Qg3 a,QcC r]
end
inductive FE2 where
 |mk (l:List (List A))
def foE:List (List A)->FE2
 |[]=>.mk []
 |a::r=>match foL a,foE r with
  |.mk a',.mk r'=>.mk (a'::r')
theorem Qmv:∀l,foE l=.mk l
 |[]=>rfl
 |a::r=>by unfold foE;rw[QcC,Qmv r]
def foH:List Blk->FB
 |[]=>.mk []
 |b::r=>match foH r with
  |.mk r'=>match b with
   |.cells t cs=>match foL cs with
    |.mk l=>.mk (.cells t l::r')
   |.rowr t k es=>match foE es with
    |.mk l=>.mk (.rowr t k l::r')
   |.dead=>.mk (.dead::r')
   |.row t k es=>.mk (.row t k es::r')
   |.map es=>.mk (.map es::r')
   |.iter c es=>.mk (.iter c es::r')
   |.fmap es=>.mk (.fmap es::r')
   |.mapO fz t k es=>.mk (.mapO fz t k es::r')
   |.mapP es=>.mk (.mapP es::r')
   |.frow t k es=>.mk (.frow t k es::r')
   |.ents t a b es=>match foN a,foN b with
    |.mk a',.mk b'=>.mk (.ents t a' b' es::r')
theorem Qji:∀l,foH l=.mk l
 |[]=>rfl
 |b::r=>by
  unfold foH;rw[Qji r];cases b<;>simp only[QcC,Qmv,Qe1]
def foS(env:Env)(H:Qc):Option (Env×Qc):=
 match foH H with
 |.mk H'=>match env with
  |[]=>some ([],H')
  |(d,a)::e=>match foA a with
   |.mk a'=>some ((d,a')::e,H')
theorem Qpj(env:Env)(H:Qc):foS env H=some (env,H):=by
 unfold foS;rw[Qji];cases env with
 |nil=>rfl
 |cons p e=>obtain⟨d,a⟩:=p;simp only[Qg3]
theorem FE{P:Program}{h0 N:Nat}{all:Array Oper}{l:List Oper}{env env':Env}{H H':Qc}{Q:Qx}(h:foS env H=some (env',H'))(k:WO P h0 N all l env' H' Q):WO P h0 N all l env H Q:=by
 rw[Qpj]at h;cases h;exact k
def entB(b1 b2:Nat):List (List A)->Option (List Ent)
 |[]=>some []
 |[.ptr b off,.int .i64 lo,.int .i64 hi]::r=>match entB b1 b2 r with
  |none=>none
  |some l=>match Nat.beq b b2 with
   |true=>some (⟨true,off,lo,hi⟩::l)
   |false=>match Nat.beq b b1 with
    |true=>some (⟨false,off,lo,hi⟩::l)
    |false=>none
 |_=>none
theorem Qn5{b1 b2:Nat}:∀{es:List (List A)} {l:List Ent},entB b1 b2 es=some l->l.map (eC b1 b2)=es:=by
 intro es
 induction es with
 |nil=>intro l h;cases h;rfl
 |cons e r a=>
  intro l h;unfold entB at h;split at h
  .cases ‹_=[]›
  .rename_i b f lo g i q;cases q;split at h
   .cases h
   .rename_i j d;have e:=a d;split at h
    .rename_i q;cases h;have:=XR q;subst this;rw[Vk,e];rfl
    .split at h
     .rename_i q;cases h;have:=XR q;subst this;rw[Vk,e];rfl
     .cases h
  .cases h
theorem TE{P:Program}{h0 N:Nat}{all:Array Oper}{l:List Oper}{env:Env}{H:Qc}{Q:Qx}{t:Nat}{es:List (List A)}{L:List Ent}(i b1 b2:Nat)(hH:H[i]?=some (.rowr t 3 es))(h:entB b1 b2 es=some L)
  (k:WO P h0 N all l env (H.set i (.ents t b1 b2 L)) Q):WO P h0 N all l env H Q:=WO.le (Qlx hH (Qn5 h)) k
theorem R1{P:Program}{h0:Nat}{fn:Func}{env:Env}{H Hc:Qc}{v:A}(s:Nat)(hr:fn.results= #[.tmp s])(hle:Le h0 env H [(s,v)] Hc):Qc7 P h0 fn (λa H=>a=v/\H=Hc) .ret env H:=
 ⟨[(s,v)],Hc,v,hle,Qc8.one hr (by show lk [(s,v)] s=v;unfold lk;rw[VG];rfl),rfl,rfl⟩
theorem R2{P:Program}{h0:Nat}{fn:Func}{env:Env}{H Hc:Qc}{v v':A}(s t:Nat)(hr:fn.results= #[.tmp s,.tmp t])(hn:Nat.beq t s=false)(hle:Le h0 env H [(s,v),(t,v')] Hc):Qc7 P h0 fn (λa H=>a=.tup [v,v']/\H=Hc) .ret env H:=
 ⟨[(s,v),(t,v')],Hc,_,hle,Qlh hr (by show lk [(s,v),(t,v')] s=v;unfold lk;rw[VG];rfl) (by show lk [(s,v),(t,v')] t=v';unfold lk lk;rw[hn,VG];rfl),rfl,rfl⟩
theorem FzA.o{i k n:Nat}{es:List (List A)}(a:n=es.length:=by first|exact(X3 ..).symm|exact rfl):FzA i k es (.osl i 0 n k) (.rsl k es):=FzA.own a
end Go.Sw
namespace Go.Sw
theorem Le.env{h0:Nat}{env env':Env}{H:Qc}(h:∀s,lk env' s=.any\/lk env' s=lk env s):Le h0 env H env' H:=by
 intro d b σ N a w r;refine⟨b,σ,⟨r.sim,λs=>?_,r.size,r.defers⟩,λ_ q=>q,rfl⟩;rcases h s with h|h
 .rw[h];trivial
 .rw[h];exact r.env s
def Qnr(env:Env):Env->Prop
 |[]=>True
 |(s,a)::r=>lk env s=a/\Qnr env r
theorem Qnr.ok{env:Env}:∀{env':Env},Qnr env env'->∀s,lk env' s=.any\/lk env' s=lk env s
 |[],_,s=>.inl rfl
 |(d,a)::e,⟨h1,h2⟩,s=>by
  by_cases q:s=d
  .subst q;right;simp only[lk,VG,Vq];exact h1.symm
  .have:Nat.beq s d=false:=by
    rw[VN];intro b;exact q (XR b)
   simp only[lk,this,Vr];exact Qnr.ok h2 s
theorem Lw{h0:Nat}{env env':Env}{H:Qc}(h:Qnr env env'):Le h0 env H env' H:=Le.env h.ok
theorem QoK(n i:Nat):rho (List.range n) n i=i:=by
 unfold rho;by_cases h:i<n
 .rw[List.getElem?_range h]
 .rw[XP (by rw[List.length_range];omega)];simp only[List.length_range];omega
mutual
theorem QgN{ρ:Nat->Nat}(h:∀i,ρ i=i):∀a:A,Yx ρ a=a
 |.ptr i off=>by simp[Yx,h]
 |.osl i o n k=>by simp[Yx,h]
 |.agg cs=>by simp[Yx,Qa0 h cs]
 |.fn f a c=>by simp[Yx,Qa0 h a,Qa0 h c]
 |.iface t v=>by simp[Yx,QgN h v]
 |.map i=>by simp[Yx,h]
 |.tup vs=>by simp[Yx,Qa0 h vs]
 |.any|.bool _|.int _ _|.str _|.nilp|.rp _|.nils|.rsl _ _|.nilf|.nilif|.nilm=>by rfl
theorem Qa0{ρ:Nat->Nat}(h:∀i,ρ i=i):∀l:List A,Qaa ρ l=l
 |[]=>rfl
 |a::r=>by simp[Qaa,QgN h a,Qa0 h r]
end
theorem Qj2{ρ:Nat->Nat}(h:∀i,ρ i=i):∀l:List (List A),QgM ρ l=l
 |[]=>rfl
 |a::r=>by simp[QgM,Qa0 h a,Qj2 h r]
theorem Qj1{ρ:Nat->Nat}(h:∀i,ρ i=i):∀l:List (A×A),Qi5 ρ l=l
 |[]=>rfl
 |a::r=>by simp[Qi5,QgN h,Qj1 h r]
theorem QnH{ρ:Nat->Nat}(h:∀i,ρ i=i):∀b:Blk,QV ρ b=b
 |.cells t cs=>by simp[QV,Qa0 h cs]
 |.rowr t k es=>by simp[QV,Qj2 h es]
 |.ents t a b es=>by simp[QV,h]
 |.mapP es=>by simp[QV,Qj1 h es]
 |.dead|.row _ _ _|.map _|.iter _ _|.fmap _|.mapO _ _ _ _|.frow _ _ _=>by rfl
theorem Pw{P:Program}{h0 N:Nat}{all:Array Oper}{o:Oper}{l:List Oper}{env:Env}{H:Qc}{Q:Qx}{d:Nat}{f:FuncId}{args:List A}{v h:A}(w:o.dst=some d)(g:OpC P o env H f args)(m:C P f args H (λa H1=>a=v/\H1=H))(s:Qi1 v=some (.mk h))
  (hg:Qn all o env true)(n:Nat.blt d N=true)(t:h0<=H.length)(k:WO P h0 N all l (up env d h) H Q):WO P h0 N all (o::l) env H Q:=by
 have e:=QoK H.length;have u:H.map (QV (rho (List.range H.length) H.length))=H:=by
  conv=>rhs;rw[<- List.map_id H]
  exact List.map_congr_left λb _=>QnH e b
 have j:(List.range H.length).map (λp=>H[p]?)=(H.map (QV (rho (List.range H.length) H.length))).map some:=by
  rw[u];apply List.ext_getElem?;intro i;by_cases q:i<H.length
  .simp[q]
  .simp[q]
 refine QP (List.range H.length) g m ?_ (by rw[Qa0 e]) j List.nodup_range hg w n (XT t);rintro r H1 ⟨rfl,rfl⟩;rw[QjX s,QbN _ _ _ j];exact k
def ixE(d:Nat)(g:Ground):Edge:={on:=d,ground:=g}
def ixO(d:Nat)(op:Op)(t:Nat)(pos:String)(af:Array Edge):Oper:={dst:=some d,op:=op,type:=t,pos:=pos,after:=af,guard:=none}
def Qpg(ts te tf tI tB:Nat):Code:=
 (Code.region 0 [ixO 4 (.assign (.const (.int .i64 0))) tI "slices.go:107" #[]].toArray false).seq
  (((Code.region 1 [ixO 6 (.move (.tmp 0)) ts "slices.go:108" #[],ixO 7 (.call {callee:=.builtin .len,args:= #[.tmp 6],argTypes:= #[ts]}) tI "slices.go:108" #[ixE 0 .data],ixO 8 (.move (.const (.int .i64 0))) tI "slices.go:108" #[]].toArray false).seq
   (.block 0 (.loop ((Code.region 2 [ixO 9 (.binOp .lss tI (.tmp 8) (.tmp 7) tI) 0 "slices.go:108" #[]].toArray false).seq
    ((Code.cond (.tmp 9) .skip (.exit 0)).seq
    ((Code.block 1 ((Code.region 3 [ixO 10 (.move (.tmp 8)) tI "slices.go:108" #[],ixO 5 (.assign (.tmp 10)) tI "slices.go:108" #[ixE 0 .data,ixE 0 .phase]].toArray false).seq
     ((Code.region 4 [ixO 11 (.move (.tmp 1)) tf "slices.go:109" #[],ixO 12 (.move (.tmp 0)) ts "slices.go:109" #[],ixO 13 (.move (.tmp 5)) tI "slices.go:109" #[],ixO 14 (.indexAddr ts (.tmp 12) (.tmp 13)) 0 "slices.go:109" #[ixE 1 .data,ixE 2 .data],
       ixO 15 (.load te (.tmp 14)) te "slices.go:109" #[ixE 3 .data],ixO 16 (.call {callee:=.value (.tmp 11),args:= #[.tmp 15],argTypes:= #[te]}) tB "slices.go:109" #[ixE 0 .data,ixE 4 .data]].toArray false).seq
      (Code.cond (.tmp 16) ((Code.region 5 [ixO 17 (.move (.tmp 5)) tI "slices.go:110" #[],ixO 4 (.assign (.tmp 17)) tI "slices.go:110" #[ixE 0 .data,ixE 0 .phase]].toArray false).seq .ret) .skip)))).seq
     (Code.region 6 [ixO 18 (.binOp .add tI (.tmp 8) (.const (.int .i64 1)) tI) tI "slices.go:108" #[],ixO 8 (.move (.tmp 18)) tI "slices.go:108" #[ixE 0 .data]].toArray false))))))).seq
  ((Code.region 7 [ixO 4 (.assign (.const (.int .i64 (-1)))) tI "slices.go:113" #[]].toArray false).seq .ret))
theorem Yk{P:Program}{T:Type}{e:T->List A}{el:T->A}{V z tf tI tB k:Nat}{R m:FuncId}{fn:Func}{i:List A}{Hc:Qc}{L:List T}{g:T->Option Bool}{n:Nat}{r:Int}
  (W:P.funcs[R]?=some fn)(Y:fn.body=some (Qpg V z tf tI tB))(X:fn.ntmps=19)(Q:fn.results= #[.tmp 4])(O:∀w,(underlying V).run P w=.ok (.slice z) w)(hs:∀w,(sizeOf z).run P w=.ok k w)
  (M:∀(o:Oper) (env:Env) (H:Qc) (x:T),o.op=.load z (.tmp 14)->opA env (.tmp 14)=.rp (e x)->OpV P o env H (el x))
  (G:∀(a:Array Value) (w:World),(callFunc m a).run P w=.ok (.enter m a) w)
  (N:∀x b,g x=some b->C P m (el x::i) Hc (λa H=>a=.bool b/\H=Hc))
  (h:((iter (λs:Int=>bif decide (s<(L.length:Int))then(idx L s).bind λx=>(g x).bind λb=>(bif b then some (Ctl.done (Ctl.done s))else some (Ctl.cont (IntKind.i64.wrap (s+1))))else some (Ctl.done (Ctl.cont ()))) n (0:Int):Option (Ctl Unit Int)).bind λb=>match b with|.cont _=>some (-1)|.done s=>some s)=some r):
  C P R [.rsl k (L.map e),.fn (.func m) [] i] Hc (λa H=>a=.int .i64 r/\H=Hc):=by
 refine Qb W Y X rfl ?_;refine Rg (S rfl (Nx (TC.seq (Rg (S rfl (LnM O rfl (S rfl (Nx (Bd h λB J h=>?_)))))))));refine Qhj (b:=B) (λ_=>[]) (λ_=>Hc) ?_ (λsb10 env H hbe hle=>?_)
 .refine TC.block ?_;refine TC.loop (E:=λt=>[(0,.rsl k (L.map e)),(1,.fn (.func m) [] i),(7,.int .i64 (L.length:Int)),(8,.int .i64 t)]) (Hp:=λ_=>Hc) J ?_ ?_
  .exact Lw ⟨rfl,rfl,rfl,rfl,trivial⟩
  intro t aa d l;refine Rg (S rfl (Nx (TC.seq (Jl rfl d (λy d=>?_) (λy d=>?_)))))
  .refine ExX (Qy d ?_);obtain rfl:=l _ (Oi d).symm;exact bloE (QI rfl (Lw trivial))
  refine SkN (TC.seq (TC.block (Rg (S rfl (S rfl (Nx (Rg (S rfl (S rfl (S rfl (Bd d λj q d=>Ix q O hs rfl ?_)))))))))));refine QE (x:=el j) rfl rfl rfl (M _ _ _ j rfl rfl) ?_;refine Bd d λF p d=>?_;refine Pw rfl (Qce (f:=m) (x:=.tmp 11) (xs:=[.tmp 15]) (vf:=[]) (vc:=i) (args:=el j::i) G rfl rfl rfl rfl) (N j F p) rfl rfl rfl (XU _) ?_;refine Nx (Cn rfl d (λu d=>?_) (λu d=>?_))
  .refine Rg (S rfl (S rfl (Nx (TC.ret (bloR (seqR (Yt d ?_)))))));obtain rfl:=l _ (Oi d).symm;refine bloR (Q4 (seqR ?_));obtain rfl:=Oi h;exact R1 4 Q (Lw ⟨rfl,trivial⟩)
  exact TC.skip (bloN (QlQ (TC.region (S rfl (S rfl (WO.nil (Qt d (Lw ⟨rfl,rfl,rfl,rfl,trivial⟩))))))))
 subst hbe;refine QlQ (TC.le hle (Rg (S rfl (Nx (TC.ret ?_)))));obtain rfl:=Oi h;exact R1 4 Q (Lw ⟨rfl,trivial⟩)
end Go.Sw
namespace Go.Sw
inductive Kf where
 |seq (c:Code)
 |blo (id:Nat)
 |unr (c:Code)
inductive Cf where
 |code (c:Code)
 |ops (all:Array Oper) (l:List Oper)
 |out (x:AEx)
def kq(P:Program)(h0 N:Nat):List Kf->Qx->Qx
 |[],Q=>Q
 |.seq c::k,Q=>Seq P h0 N c (kq P h0 N k Q)
 |.blo id::k,Q=>Blo id (kq P h0 N k Q)
 |.unr c::k,Q=>QjA P h0 N c (kq P h0 N k Q)
@[reducible] def Hd(P:Program)(h0 N:Nat):Cf->List Kf->Env->Qc->Qx->Prop
 |.code c,k,env,H,Q=>TC P h0 N c env H (kq P h0 N k Q)
 |.ops all l,k,env,H,Q=>WO P h0 N all l env H (kq P h0 N k Q)
 |.out x,k,env,H,Q=>kq P h0 N k Q x env H
def QfO(T:TyX)(h0 N:Nat):Cf->List Kf->Env->Qc->Option (Cf×List Kf×Env×Qc)
 |.code (.seq a b),k,env,H=>some (.code a,.seq b::k,env,H)
 |.code (.block id c),k,env,H=>some (.code c,.blo id::k,env,H)
 |.code (.loop c),k,env,H=>some (.code c,.unr c::k,env,H)
 |.code .skip,k,env,H=>some (.out .normal,k,env,H)
 |.code .ret,k,env,H=>some (.out .ret,k,env,H)
 |.code (.exit id),k,env,H=>some (.out (.exit id),k,env,H)
 |.code (.region id ⟨l⟩ false),k,env,H=>some (.ops ⟨l⟩ l,k,env,H)
 |.code (.cond x a b),k,env,H=>match opB env x with
  |.mk (.bool true)=>some (.code a,k,env,H)
  |.mk (.bool false)=>some (.code b,k,env,H)
  |_=>none
 |.ops all [],k,env,H=>some (.out .normal,k,env,H)
 |.ops all (o::l),k,env,H=>match stX T h0 N all o env H with
  |some (env',H')=>some (.ops all l,k,env',H')
  |none=>none
 |.out .normal,.seq c::k,env,H=>some (.code c,k,env,H)
 |.out (.exit i),.seq _::k,env,H=>some (.out (.exit i),k,env,H)
 |.out .ret,.seq _::k,env,H=>some (.out .ret,k,env,H)
 |.out .normal,.blo _::k,env,H=>some (.out .normal,k,env,H)
 |.out (.exit i),.blo id::k,env,H=>match Nat.beq i id with
  |true=>some (.out .normal,k,env,H)
  |false=>some (.out (.exit i),k,env,H)
 |.out .ret,.blo _::k,env,H=>some (.out .ret,k,env,H)
 |.out .normal,.unr c::k,env,H=>some (.code c,.unr c::k,env,H)
 |.out (.exit i),.unr _::k,env,H=>some (.out (.exit i),k,env,H)
 |.out .ret,.unr _::k,env,H=>some (.out .ret,k,env,H)
 |_,_,_,_=>none
def Qi4(T:TyX)(h0 N:Nat):Nat->Cf->List Kf->Env->Qc->Option (Cf×List Kf×Env×Qc)
 |0,c,k,env,H=>some (c,k,env,H)
 |n+1,c,k,env,H=>match QfO T h0 N c k env H with
  |some (c',k',env',H')=>Qi4 T h0 N n c' k' env' H'
  |none=>none
section
variable {P:Program} {T:TyX} {h0 N:Nat} {Q:Qx}
theorem QlK(d:QbH P T){c b:Cf}{k a:List Kf}{env env':Env}{H H':Qc}(h:QfO T h0 N c k env H=some (b,a,env',H'))(g:Hd P h0 N b a env' H' Q):Hd P h0 N c k env H Q:=by
 unfold QfO at h;split at h
 .cases h;exact TC.seq g
 .cases h;exact TC.block g
 .cases h;exact Qlf g
 .cases h;exact TC.skip g
 .cases h;exact TC.ret g
 .cases h;exact TC.exit g
 .cases h;exact TC.region g
 .split at h
  .rename_i q;cases h;exact Qiy (Qz q) rfl g
  .rename_i q;cases h;exact Qiz (Qz q) rfl g
  .cases h
 .cases h;exact WO.nil g
 .split at h
  .rename_i q;cases h;exact QiV d q g
  .cases h
 .cases h;exact QlQ g
 .cases h;exact seqX g
 .cases h;exact seqR g
 .cases h;exact bloN g
 .split at h
  .rename_i q;cases h;have:=XR q;subst this;exact bloE g
  .rename_i q;cases h;exact bloX q g
 .cases h;exact bloR g
 .cases h;exact unrN g
 .cases h;exact unrX g
 .cases h;exact unrR g
 .cases h
theorem QcM(hT:QbH P T):∀(n:Nat) {c c':Cf} {k k':List Kf} {env env':Env} {H H':Qc},Qi4 T h0 N n c k env H=some (c',k',env',H')->Hd P h0 N c' k' env' H' Q->Hd P h0 N c k env H Q
 |0,c,c',k,k',env,env',H,H',h,g=>by cases h;exact g
 |n+1,c,c',k,k',env,env',H,H',h,g=>by
  unfold Qi4 at h;split at h
  .rename_i e;exact QlK hT e (QcM hT n h g)
  .cases h
theorem QjR{env:Env}{s:Nat}{a:A}(h:lk env s=a):∀t,lk (up env s a) t=lk env t:=by
 intro t;simp only[up,lk];cases q:Nat.beq t s with
 |true=>have:=XR q;subst this;exact h.symm
 |false=>rfl
theorem Is{α:Type}{all:Array Oper}{l:List Oper}{env:Env}{H:Qc}{b:Bool}{x y:Option α}{r:α}(s:Nat)(h:(bif b then x else y)=some r)(d:lkB env s=.mk (.bool b))
  (t:b=true->x=some r->WO P h0 N all l (up env s (.bool true)) H Q)(e:b=false->y=some r->WO P h0 N all l (up env s (.bool false)) H Q):WO P h0 N all l env H Q:=by
 have a:=Qjd d;cases b with
 |true=>exact WO.le (Le.env λt=>.inr (QjR a t)) (t rfl h)
 |false=>exact WO.le (Le.env λt=>.inr (QjR a t)) (e rfl h)
theorem Ct3E{S B1:Type}{A B C:Code}{env:Env}{H:Qc}{k:List Kf}{b:Ctl S B1}(Eb:S->Env)(Hb:S->Qc)(h:TC P h0 N A env H (kq P h0 N [.seq B] (QgA h0 b Eb Hb (kq P h0 N (.seq C::k) Q))))(g:∀s env H,b=.cont s->Le h0 env H (Eb s) (Hb s)->kq P h0 N (.seq C::k) Q .normal env H):TC P h0 N (.seq A (.seq B C)) env H (kq P h0 N k Q):=
 Qna Eb Hb h g
end
def dstN(o:Oper)(i:Nat):Nat:=match o.dst with|some d=>d|none=>1000000+i
def Qbg:Nat->Nat->List Oper->List Nat
 |0,_,_=>[]
 |_+1,_,[]=>[]
 |m+1,i,o::l=>dstN o i::Qbg m (i+1) l
def Yp(af:List Nat):Nat->List Nat->List A->Env->Env
 |j,d::ds,x::xs,e=>(d,bif Qdv af j then x else .any)::Yp af (j+1) ds xs e
 |j,d::ds,[],e=>(d,.any)::Yp af (j+1) ds [] e
 |_,[],_,e=>e
theorem QfF{l:List Nat}{t:Nat}:Qdv l t=l.contains t:=by
 induction l with
 |nil=>rfl
 |cons a r d=>
  unfold Qdv;rw[List.contains_cons,d];cases q:Nat.beq a t with
  |true=>have:=XR q;subst this;simp
  |false=>
   have b:t≠a:=λz=>by subst z;rw[VG]at q;cases q
   simp[b]
theorem Qkl{af:List Nat}{env0:Env}{s:Nat}:∀(a:List Nat) (xs i:List A) (b:Nat),
  (∃(j:Nat) (x:A),af.contains (b+j)=true/\a[j]?=some s/\(xs++i)[j]?=some x/\lk (Yp af b a xs env0) s=x)\/lk (Yp af b a xs env0) s=.any\/(a.contains s=false/\lk (Yp af b a xs env0) s=lk env0 s):=by
 intro a
 induction a with
 |nil=>intro xs i b;right;right;exact⟨rfl,by cases xs<;>rfl⟩
 |cons d a m=>
  intro xs i b;have next:∀(e:List A),(∃(j:Nat) (x:A),af.contains (b+1+j)=true/\a[j]?=some s/\(e++i)[j]?=some x/\lk (Yp af (b+1) a e env0) s=x)->∀n,(∃(j:Nat) (x:A),af.contains (b+j)=true/\(d::a)[j]?=some s/\(n::e++i)[j]?=some x/\lk (Yp af (b+1) a e env0) s=x):=by
   rintro e ⟨j,x,k,g,l,p⟩ n;exact⟨j+1,x,by rw[show b+(j+1)=b+1+j by omega];exact k,by simpa using g,by simpa using l,p⟩
  cases xs with
  |nil=>
   cases q:Nat.beq s d with
   |true=>right;left;simp only[Yp,lk,q,Vq]
   |false=>
    have f:s≠d:=λz=>by subst z;rw[VG]at q;cases q
    simp only[Yp,lk,q,Vr];rcases m [] [] (b+1)with⟨j,x,k,g,l,p⟩|h|⟨k,g⟩
    .simp at l
    .exact .inr (.inl h)
    .exact .inr (.inr ⟨by rw[List.contains_cons,k];simpa using f,g⟩)
  |cons x xs=>
   cases q:Nat.beq s d with
   |true=>
    have:=XR q;subst this;simp only[Yp,lk,q,Vq];cases c:Qdv af b with
    |true=>left;exact⟨0,x,by rw[<- QfF];exact c,rfl,rfl,rfl⟩
    |false=>right;left;rfl
   |false=>
    have f:s≠d:=λz=>by subst z;rw[VG]at q;cases q
    simp only[Yp,lk,q,Vr];rcases m xs i (b+1)with h|h|⟨k,g⟩
    .exact .inl (next xs h x)
    .exact .inr (.inl h)
    .exact .inr (.inr ⟨by rw[List.contains_cons,k];simpa using f,g⟩)
section
variable {P:Program} {T:TyX} {h0 N m:Nat} {l:List Oper} {ds:List Nat} {env:Env} {H:Qc} {Q:Qx} {K:List Oper->Env->Qc->Prop}
def DS(P:Program)(N m:Nat)(l:List Oper)(ds:List Nat)(env:Env)(H:Qc)(K:List Oper->Env->Qc->Prop)(r:List Oper)(xs:List A):Prop:=
 r=l.drop xs.length->∃ys,xs.length+ys.length=m/\(∀j,xs.length<=j->j<m->JA P N l ds (xs++ys) env H.length H.length j H H)/\K (l.drop m) (Qaz ds (xs++ys) env) H
theorem oqOf{xs:List A}:∀(c i:Nat),(∀j,i<=j->j<i+c->JA P N l ds xs env H.length H.length j H H)->Oq P N l ds xs env H i c
 |0,i,_=>.n
 |c+1,i,h=>.c (h i (XU _) (by omega)) (oqOf c (i+1) λj h1 h2=>h j (by omega) (by omega))
theorem Qnw{id:Nat}{k:List Kf}(m:Nat)(g:P.follows .mixedOrders=true)(n:Go.Sw.draw0 l m N (Qbg m 0 l)=true)(a:Nat.ble h0 H.length=true)
  (h:DS P N m l (Qbg m 0 l) env H (λr e H=>WO P h0 N l.toArray r e H Q) l []):TC P h0 N (.region id l.toArray true) env H Q:=by
 obtain⟨i,b,d,f⟩:=h rfl;simp only[List.length_nil,Xw,Vi]at b d f;exact TC.draw0 m _ i g n (by rw[b];exact VG m) a (oqOf m 0 λj _ q=>d j (XV _) (by omega)) f
theorem DS.done{xs:List A}{r:List Oper}(a:Nat.beq xs.length m=true)(h:K r (Qaz ds xs env) H):DS P N m l ds env H K r xs:=by
 intro b;have e:=XR a;subst b;refine⟨[],by simpa using e,λj f d=>by omega,?_⟩;rw[<- e,Vh];exact h
theorem DS.add{xs:List A}{o:Oper}{r:List Oper}{x:A}(i:Nat.blt xs.length m=true)(g:∀ys,l[xs.length]?=some o->JA P N l ds (xs++x::ys) env H.length H.length xs.length H H)(k:DS P N m l ds env H K r (xs++[x])):DS P N m l ds env H K (o::r) xs:=by
 intro b;have a:xs.length<l.length:=by
  rcases VD xs.length l.length with q|q
  .exact q
  .rw[List.drop_eq_nil_of_le q]at b;cases b
 rw[Xr a]at b;cases b;obtain⟨ys,h,d,e⟩:=k (by simp);simp only[X4,X2,List.length_nil,Vj,VL,Vi]at h d e;refine⟨x::ys,by simp only[X2];omega,λj n f=>?_,e⟩;rcases VD xs.length j with q|q
 .exact d j (by omega) f
 .obtain rfl:j=xs.length:=by omega
  exact g ys (XL a)
theorem QhZ{xs a:List A}{x:A}:(xs++x::a)[xs.length]?=some x:=by simp
theorem DS.wo{xs:List A}{o:Oper}{r:List Oper}{x:A}{d:Nat}(h:WO P H.length N l.toArray [o] (Yp (Qg o) 0 ds xs env) H (Y1 (up (Yp (Qg o) 0 ds xs env) d x) H))(k:DS P N m l ds env H K r (xs++[x]))
  (g:o.dst=some d:=by exact rfl)(hx:Nat.blt xs.length m=true:=by exact rfl):DS P N m l ds env H K (o::r) xs:=
 .add hx (λb i=>.woE o _ d x i g QhZ (he:=by
  intro s;rcases Qkl (af:=Qg o) (env0:=env) (s:=s) ds xs (x::b) 0 with⟨j,y,a,e,f,n⟩|q|q
  .rw[Xw]at a;exact .inl ⟨j,y,a,e,f,n⟩
  .exact .inr (.inl q)
  .exact .inr (.inr q)) (hdd:=Qd3 H) (h:=h)) k
theorem DS.v{xs:List A}{o:Oper}{r:List Oper}{x:A}{d:Nat}(h:OpV P o (Yp (Qg o) 0 ds xs env) H x)(k:DS P N m l ds env H K r (xs++[x]))(hg:Qn l.toArray o (Yp (Qg o) 0 ds xs env) true:=by exact rfl)
  (hd:o.dst=some d:=by exact rfl)(hN:Nat.blt d N=true:=by exact rfl)(hx:Nat.blt xs.length m=true:=by exact rfl):DS P N m l ds env H K (o::r) xs:=
 .wo (QE hg hd hN h (WO.nil Y1.mk)) k hd hx
def Qeg:List A->A->FL
 |[],x=>.mk [x]
 |a::r,x=>match Qeg r x with
  |.mk r'=>.mk (a::r')
theorem Qam:∀(l:List A) (x:A),Qeg l x=.mk (l++[x])
 |[],x=>rfl
 |a::r,x=>by unfold Qeg;rw[Qam r];rfl
def QhJ(T:TyX)(N m:Nat)(l:List Oper)(ds:List Nat)(env:Env)(H:Qc):Nat->Nat->List Oper->List A->Option (List Oper×List A)
 |0,_,r,xs=>some (r,xs)
 |_+1,_,[],_=>none
 |n+1,i,o::r,xs=>match Nat.blt i m with
  |false=>none
  |true=>match o.dst with
   |none=>none
   |some d=>match Nat.blt d N with
    |false=>none
    |true=>match YV ⟨l⟩ o (Yp (Qg o) 0 ds xs env)with
     |none=>none
     |some false=>match Qeg xs (.tup [])with
      |.mk xs'=>QhJ T N m l ds env H n (i+1) r xs'
     |some true=>match Qey T o (Yp (Qg o) 0 ds xs env) H with
      |none=>none
      |some x=>match Qeg xs x with
       |.mk xs'=>QhJ T N m l ds env H n (i+1) r xs'
theorem QeH(hT:QbH P T):∀(n i:Nat) {r r':List Oper} {xs xs':List A},i=xs.length->QhJ T N m l ds env H n i r xs=some (r',xs')->DS P N m l ds env H K r' xs'->DS P N m l ds env H K r xs
 |0,i,r,r',xs,xs',_,h,k=>by cases h;exact k
 |n+1,i,[],r',xs,xs',_,h,k=>by cases h
 |n+1,i,o::r,r',xs,xs',hi,h,k=>by
  subst hi;unfold QhJ at h;split at h
  .cases h
  .rename_i q1;split at h
   .cases h
   .rename_i d hd;split at h
    .cases h
    .rename_i q2;split at h
     .cases h
     .rename_i hw;simp only[Qam]at h;exact .wo (WO.skip (QZ hw) hd q2 (WO.nil Y1.mk)) (QeH hT n _ (by simp) h k) hd q1
     .rename_i hw;split at h
      .cases h
      .rename_i x hv;simp only[Qam]at h;exact .v (Qbm hT hv) (QeH hT n _ (by simp) h k) (QZ hw) hd q2 q1
def QlP:List A->Nat->A->FL
 |[],_,_=>.mk []
 |_::r,0,x=>.mk (x::r)
 |a::r,n+1,x=>match QlP r n x with
  |.mk r'=>.mk (a::r')
theorem Qdj:∀{l:List A} {n:Nat} {x:A},YU l n=some x->QlP l n x=.mk l
 |[],n,x,h=>by cases h
 |a::r,0,x,h=>by cases h;rfl
 |a::r,n+1,x,h=>by unfold QlP;rw[Qdj (l:=r) (n:=n) h]
theorem DS.is{α:Type}{b:Bool}{x y:Option α}{v:α}{xs d a:List A}{r:List Oper}(j:Nat)(h:(bif b then x else y)=some v)(i:YU xs j=some (.bool b))(f:QlP xs j (.bool true)=.mk d)(g:QlP xs j (.bool false)=.mk a)
  (t:b=true->x=some v->DS P N m l ds env H K r d)(e:b=false->y=some v->DS P N m l ds env H K r a):DS P N m l ds env H K r xs:=by
 cases b with
 |true=>rw[Qdj i]at f;cases f;exact t rfl h
 |false=>rw[Qdj i]at g;cases g;exact e rfl h
end
end Go.Sw
namespace Go.Sw
@[reducible] def RQ{β:Type}(w:β->A)(Hc:β->Qc)(r:β):A->Qc->Prop:=λa H=>a=w r/\H=Hc r
@[reducible] def Csm{β:Type}(P:Program)(f:FuncId)(args:List A)(H:Qc)(w:β->A)(r:β):Prop:=C P f args H (RQ w (λ_=>H) r)
structure TyZ where
 sl:List (Nat×Nat×Nat)
 fn:List Nat
structure Qc3 (P:Program) (Z:TyZ):Prop where
 sl:∀e∈Z.sl,(∀w,(underlying e.1).run P w=.ok (.slice e.2.1) w)/\ ∀w,(sizeOf e.2.1).run P w=.ok e.2.2 w
 fn:∀f∈Z.fn,∀(a:Array Value) (w:World),(callFunc f a).run P w=.ok (.enter f a) w
section
variable {P:Program} {Z:TyZ} {h0 N:Nat} {all:Array Oper} {o:Oper} {l:List Oper} {env:Env} {H:Qc} {Q:Qx} {d:Nat}
theorem Izz(b:Qc3 P Z){α:Type}{e:α->List A}{t et k:Nat}{L:List α}{a:IntKind}{i:Int}{v:α}(h:idx L i=some v)(q:ixB o env=some (d,t,k,L.map e,a,i))(g:WO P h0 N all l (up env d (.rp (e v))) H Q)
  (m:Qch Z.sl t=some (et,k))(hg:YV all o env=some true)(n:Nat.blt d N=true):WO P h0 N all (o::l) env H Q:=by
 obtain⟨f,j⟩:=b.sl _ (QaA m);exact Ix h f j q g (QZ hg) n
theorem Ize(f:Qc3 P Z){α:Type}{e:α->List A}{t et k:Nat}{L:List α}{a:IntKind}{i:Int}{v:α}{cs:List A}(h:idx L i=some v)(he:e v=cs)(q:ixB o env=some (d,t,k,L.map e,a,i))(g:WO P h0 N all l (up env d (.rp cs)) H Q)
  (j:Qch Z.sl t=some (et,k))(hg:YV all o env=some true)(b:Nat.blt d N=true):WO P h0 N all (o::l) env H Q:=by
 subst he;exact Izz f h q g j hg b
theorem Lmz(a:Qc3 P Z){α:Type}{e:α->List A}{t et k b:Nat}{L:List α}(q:lnB o env=some (d,t,.mk (.rsl k (L.map e))))(g:WO P h0 N all l (up env d (.int .i64 L.length)) H Q)
  (h:Qch Z.sl t=some (et,b))(hg:YV all o env=some true)(i:Nat.blt d N=true):WO P h0 N all (o::l) env H Q:=by
 obtain⟨f,j⟩:=a.sl _ (QaA h);exact LnM f q g (QZ hg) i
def QfJ(Z:TyZ)(o:Oper)(env:Env):Option (Nat×Nat×List A):=
 match o.dst with
 |none=>none
 |some d=>match o.op with
  |.call {callee:=.value (.func f),args:=⟨xs⟩,argTypes:=_}=>bif Qdv Z.fn f then(match fl (QhS env xs)with|.mk ax=>some (d,f,ax))else none
  |.call {callee:=.value (.tmp x),args:=⟨xs⟩,argTypes:=_}=>match opB env (.tmp x)with
   |.mk (.fn (.func f) vf vc)=>bif Qdv Z.fn f then(match fl (vf++(QhS env xs++vc))with|.mk ax=>some (d,f,ax))else none
   |_=>none
  |_=>none
theorem Qeq(e:Qc3 P Z){f:Nat}{args:List A}(h:QfJ Z o env=some (d,f,args)):o.dst=some d/\OpC P o env H f args:=by
 unfold QfJ at h;split at h
 .cases h
 .rename_i m g;split at h
  .rename_i a xs i b;cases q:Qdv Z.fn a with
   |false=>rw[q]at h;cases h
   |true=>
    rw[q]at h;simp only[Qco,Vq]at h;cases h;exact⟨g,OpC.fn (xs:=xs) (e.fn _ (QgU q)) b rfl (QcR xs).symm⟩
  .rename_i x xs i b;split at h
   .rename_i a l k j;cases q:Qdv Z.fn a with
    |false=>rw[q]at h;cases h
    |true=>
     rw[q]at h;simp only[Qco,Vq]at h;cases h;exact⟨g,Qce (xs:=xs) (e.fn _ (QgU q)) b rfl (Qz j) (by rw[QcR])⟩
   .cases h
  .cases h
theorem Czz(s:Qc3 P Z){β γ:Type}{F:Option β}{F':β->Option γ}{r:γ}{f:Nat}{args a:List A}{Hc:Qc}{w:β->A}(π:List Nat)(h:F.bind F'=some r)(i:∀v,F=some v->C P f a Hc (RQ w (λ_=>Hc) v))
  (b:QfJ Z o env=some (d,f,args))(g:∀v,F=some v->F' v=some r->WO P h0 N all l (up env d (w v)) H Q)(n:∀v,Qi1 (w v)=some (.mk (w v)))
  (hargs:args=Qaa (rho π H.length) a)(hH:π.map (λp=>H[p]?)=(Hc.map (QV (rho π H.length))).map some)(hπ:π.Nodup)(hg:YV all o env=some true)(k:Nat.blt d N=true)(q:Nat.ble h0 H.length=true):WO P h0 N all (o::l) env H Q:=by
 obtain⟨v,e,j⟩:=bnd h;obtain⟨t,m⟩:=Qeq (H:=H) s b;exact Pc π t m (i v e) (n v) (g v e j) hargs hH hπ (QZ hg) k q
theorem DzZ(x:Qc3 P Z){K:List Oper->Env->Qc->Prop}{m:Nat}{e:List Oper}{b:List Nat}{xs:List A}{β γ:Type}{F:Option β}{F':β->Option γ}{r:γ}{f:Nat}{args a:List A}{Hc:Qc}{w:β->A}(π:List Nat)(h:F.bind F'=some r)(n:∀v,F=some v->C P f a Hc (RQ w (λ_=>Hc) v))
  (i:QfJ Z o (Yp (Qg o) 0 b xs env)=some (d,f,args))(g:∀v,F=some v->F' v=some r->DS P N m e b env H K l (xs++[w v]))(u:∀v,Qi1 (w v)=some (.mk (w v)))
  (hargs:args=Qaa (rho π H.length) a)(hH:π.map (λp=>H[p]?)=(Hc.map (QV (rho π H.length))).map some)(hπ:π.Nodup)(hg:YV e.toArray o (Yp (Qg o) 0 b xs env)=some true)(s:Nat.blt d N=true)(y:Nat.blt xs.length m=true):DS P N m e b env H K (o::l) xs:=by
 obtain⟨v,j,q⟩:=bnd h;obtain⟨k,t⟩:=Qeq (H:=H) x i;exact .wo (Pc π k t (n v j) (u v) (WO.nil Y1.mk) hargs hH hπ (QZ hg) s (XT (XU _))) (g v j q) k y
theorem ln:Qbk H [] []:=trivial
theorem ls{ax b:List A}{a:A}(k:Qbk H ax b)(h:Ym a=true:=by exact rfl):Qbk H (a::ax) (a::b):=⟨.inl ⟨rfl,h⟩,k⟩
theorem lo{ax a:List A}{i n k t:Nat}{es:List (List A)}(b:Qbk H ax a)(hH:H[i]?=some (.row t k es):=by exact rfl)(hn:es.length=n:=by exact X3 ..):Qbk H (.osl i 0 n k::ax) (.rsl k es::a):=
 ⟨.inr ⟨_,_,_,_,_,rfl,hH,hn,rfl⟩,b⟩
theorem Cbz(p:Qc3 P Z){β γ:Type}{F:Option β}{F':β->Option γ}{r:γ}{f:Nat}{args a:List A}{w:β->A}(h:F.bind F'=some r)(i:∀v,F=some v->C P f a [] (RQ w (λ_=>[]) v))
  (b:QfJ Z o env=some (d,f,args))(q:Qbk H args a)(g:∀v,F=some v->F' v=some r->WO P h0 N all l (up env d (w v)) H Q)(n:∀v,Yl (w v)=true)
  (hg:YV all o env=some true)(k:Nat.blt d N=true):WO P h0 N all (o::l) env H Q:=by
 obtain⟨v,e,j⟩:=bnd h;obtain⟨s,m⟩:=Qeq (H:=H) p b;refine Qm3 m q (i v e) ?_ ?_ (QZ hg) s k
 .rintro _ _ ⟨rfl,rfl⟩;exact n v
 .rintro _ _ ⟨rfl,rfl⟩;exact g v e j
end
def ixL:List Nat:=[0,1,2,3,4,5,6,7,8,9,10,11,12,13,14,15,16,17,18,19,20,21,22,23,24,25,26,27,28,29,30,31,32,33,34,35,36,37,38,39,40,41,42,43,44,45,46,47,48,49,50,51,52,53,54,55,56,57,58,59,60,61,62,63]
def QkK:List Nat->List Nat->Nat->FN
 |a::r,b::s,j=>bif Nat.beq a j then .mk b else QkK r s j
 |_,_,j=>.mk j
mutual
def cpA(sel:List Nat):A->Bx
 |.ptr i off=>match QkK sel ixL i with
  |.mk j=>.mk (.ptr j off)
 |.osl i o n k=>match QkK sel ixL i with
  |.mk j=>.mk (.osl j o n k)
 |.map i=>match QkK sel ixL i with
  |.mk j=>.mk (.map j)
 |.fn f a c=>match cpL sel a,cpL sel c with
  |.mk a',.mk c'=>.mk (.fn f a' c')
 |a=>.mk a
def cpL(sel:List Nat):List A->FL
 |[]=>.mk []
 |a::r=>match cpA sel a,cpL sel r with
  |.mk a',.mk r'=>.mk (a'::r')
end
inductive FV where
 |mk (e:Env)
def Qmn(sel:List Nat)(env:Env):List Nat->Env->FV
 |[],nE=>.mk nE
 |s::r,nE=>match lkB env s with
  |.mk a=>match cpA sel a,Qmn sel env r nE with
   |.mk a',.mk e=>.mk ((s,a')::e)
def selH(H:Qc):List Nat->List Nat->List (Nat×Blk)->FB
 |a::r,p::ps,[]=>match YU H a,selH H r ps []with
  |some b,.mk l=>.mk (b::l)
  |none,.mk l=>.mk l
 |a::r,p::ps,(q,b)::n=>bif Nat.beq p q then(match selH H r ps n with|.mk l=>.mk (b::l))else(match YU H a,selH H r ps ((q,b)::n)with
  |some b,.mk l=>.mk (b::l)
  |none,.mk l=>.mk l)
 |_,_,_=>.mk []
def QmT(sel keep:List Nat)(nE:Env)(nH:List (Nat×Blk))(env:Env)(H:Qc):Option (Env×Qc):=
 match Qmn sel env keep nE,selH H sel ixL nH with
 |.mk e,.mk h=>some (e,h)
section
variable {P:Program} {h0 N:Nat} {c:Code} {env:Env} {H:Qc} {Q:Qx}
def CutQ{β:Type}(h0:Nat)(b:β)(E':β->Env)(H':β->Qc)(Q:Qx):Qx
 |.normal,env,H=>Le h0 env H (E' b) (H' b)
 |.exit id,env,H=>Q (.exit id) env H
 |.ret,env,H=>Q .ret env H
theorem QH{h0:Nat}{env:Env}{H:Qc}{Q:Qx}{β:Type}{b:β}{E':β->Env}{H':β->Qc}(h:Le h0 env H (E' b) (H' b)):CutQ h0 b E' H' Q .normal env H:=h
theorem Ct{β:Type}{E':β->Env}{H':β->Qc}(b:β)(sel keep:List Nat)(nE:β->Env)(nH:β->List (Nat×Blk))(_:∀b,QmT sel keep (nE b) (nH b) env H=some (E' b,H' b))(h:TC P h0 N c env H (CutQ h0 b E' H' Q))(k:∀env H,Le h0 env H (E' b) (H' b)->Q .normal env H):TC P h0 N c env H Q:=
 h.mono λx env' H' q=>by
  cases x with
  |normal=>exact k _ _ q
  |exit id=>exact q
  |ret=>exact q
theorem CtE{S B:Type}{b:Ctl S B}{E':S->Env}{H':S->Qc}(sel keep:List Nat)(nE:S->Env)(nH:S->List (Nat×Blk))(_:∀s,QmT sel keep (nE s) (nH s) env H=some (E' s,H' s))(h:TC P h0 N c env H (QgA h0 b E' H' Q))(k:∀s env H,b=.cont s->Le h0 env H (E' s) (H' s)->Q .normal env H):TC P h0 N c env H Q:=Qhj E' H' h k
theorem Lp{S B:Type}{step:S->Option (Ctl S B)}{E':S->Env}{H':S->Qc}{m:Nat}{s0:S}{b0:B}(sel keep:List Nat)(nE:S->Env)(nH:S->List (Nat×Blk))(h:iter step m s0=some b0)(_:∀s,QmT sel keep (nE s) (nH s) env H=some (E' s,H' s))(hI:Le h0 env H (E' s0) (H' s0))
  (body:∀s d,step s=some d->(∀b,d=.done b->b=b0)->TC P h0 N c (E' s) (H' s) (Qbj (λs env H=>Le h0 env H (E' s) (H' s)) d Q)):TC P h0 N (.loop c) env H Q:=TC.loop E' H' h hI body
end
theorem Oj{S B:Type}{d:Ctl S B}{x b0:B}(hb:∀b,d=.done b->b=b0)(h:some (Ctl.done x)=some d):x=b0:=hb x (Oi h).symm
theorem Rt{P:Program}{h0:Nat}{fn:Func}{env:Env}{H:Qc}{β:Type}{e r:β}{w:β->A}{Hc:β->Qc}(h:some e=some r)(s:Nat)(π:List Nat)(a:fn.results= #[.tmp s]:=by exact rfl)(hpre:π.take h0=List.range h0:=by exact rfl)
  (hH:π.map (λp=>H[p]?)=((Hc e).map (QV (rho π H.length))).map some:=by exact rfl)(hπ:π.Nodup:=by decide)(hE:Qd9 (rho π H.length) env [(s,w e)]:=by exact⟨rfl,trivial⟩):Qc7 P h0 fn (RQ w Hc r) .ret env H:=by
 cases h;exact R1 s a (Lr π hpre hH hπ hE)
theorem Cl{h0:Nat}{env:Env}{H:Qc}{Q:Qx}{β:Type}{e b:β}{E':β->Env}{H':β->Qc}(h:some e=some b)(π:List Nat)(a:π.take h0=List.range h0:=by exact rfl)
  (hH:π.map (λp=>H[p]?)=((H' e).map (QV (rho π H.length))).map some:=by exact rfl)(hπ:π.Nodup:=by decide)(hE:Qd9 (rho π H.length) env (E' e):=by(repeat' (first|exact trivial|refine⟨rfl,?_⟩))):CutQ h0 b E' H' Q .normal env H:=by
 cases h;exact Lr π a hH hπ hE
end Go.Sw
namespace Go.Sw
def plC(cat:List Nat):List (List (Nat×Nat)):=cat.map λc=>match c with|0=>[(0,0)]|1=>[(0,1)]|2=>[(1,1)]|_=>[(0,0),(1,1)]
def rqC(b:Nat)(cat:List Nat):List (List Nat):=cat.map λc=>match c with|2=>[b]|_=>[]
def hsC(cat:List Nat):List Bool:=cat.map λc=>match c with|1=>true|_=>false
section
variable {P:Program} {T:TyX} {h0 N m b:Nat} {cat:List Nat} {l:List Oper} {ds:List Nat} {env:Env} {H H1:Qc} {Q:Qx} {K:List Oper->Env->Qc->Prop}
theorem Qho{P:Program}{N:Nat}{l:List Oper}{ds:List Nat}{xs:List A}{env0:Env}{hB hE:Nat}:∀(ss:List (List (Qc×Qc))) (b:Nat),(∀i s,ss[i]?=some s->∀p∈s,JA P N l ds xs env0 hB hE (b+i) p.1 p.2)->Qhp P N l ds xs env0 hB hE b ss
 |[],b,h=>.nil
 |s::ss,b,h=>.cons (h 0 s rfl) (Qho ss (b+1) λi s' hs=>by rw[show b+1+i=b+(i+1)by omega];exact h (i+1) s' hs)
def Dob(P:Program)(N:Nat)(cat:List Nat)(l:List Oper)(ds:List Nat)(env:Env)(H H1:Qc)(zs:List A)(j:Nat):Prop:=
 ∀p∈(plC cat).getD j [],JA P N l ds zs env H.length H.length j ([H,H1].getD p.1 []) ([H,H1].getD p.2 [])
def DB(P:Program)(N m:Nat)(cat:List Nat)(l:List Oper)(ds:List Nat)(env:Env)(H H1:Qc)(K:List Oper->Env->Qc->Prop)(r:List Oper)(xs:List A):Prop:=
 r=l.drop xs.length->∃ys,xs.length+ys.length=m/\(∀j,xs.length<=j->j<m->Dob P N cat l ds env H H1 (xs++ys) j)/\K (l.drop m) (Qaz ds (xs++ys) env) H1
def DA(P:Program)(N m:Nat)(cat:List Nat)(l:List Oper)(ds:List Nat)(env:Env)(H:Qc)(K:List Oper->Env->Qc->Prop)(r:List Oper)(xs:List A):Prop:=
 r=l.drop xs.length->∃ys H1,xs.length+ys.length=m/\H.length<=H1.length/\(∀j,xs.length<=j->j<m->Dob P N cat l ds env H H1 (xs++ys) j)/\K (l.drop m) (Qaz ds (xs++ys) env) H1
theorem QpC{f:List A}(a:cat.length=m)(g:∀j,0<=j->j<m->Dob P N cat l ds env H H1 f j):Qhp P N l ds f env H.length (H.length+0) 0 ((plC cat).map λq=>q.map λp=>([H,H1].getD p.1 [],[H,H1].getD p.2 [])):=by
 refine Qho _ 0 λi s b p n=>?_;rw[Xq]at b;cases e:(plC cat)[i]? with
 |none=>rw[e]at b;cases b
 |some q=>
  rw[e]at b;cases b;obtain⟨k,d,rfl⟩:=Xf.1 n;have h:i<m:=by
   have:=(XM.1 e).1;simpa[plC,a]using this
  have:=g i (XV _) h k (by rw[Qke e];exact d);simpa using this
theorem DA.len(a:H.length<=H1.length):[H,H1].all (λX=>Nat.ble (H.length+0) X.length)=true:=by
 simp only[List.all_cons,List.all_nil,Bool.and_true,Xx,XX];exact⟨XT (XU _),XT a⟩
theorem Qnz{id:Nat}(m b:Nat)(cat:List Nat)(p:P.follows .mixedOrders=true)(q:Qd2 l m N (Qbg m 0 l) (hsC cat) (rqC b cat) [[],[b]] (plC cat)=true)(d:Nat.beq cat.length m=true)(f:Nat.ble h0 H.length=true)
  (h:DA P N m cat l (Qbg m 0 l) env H (λr e H=>WO P h0 N l.toArray r e H Q) l []):TC P h0 N (.region id l.toArray true) env H Q:=by
 obtain⟨n,H1,i,k,g,j⟩:=h rfl;simp only[List.length_nil,Xw,Vi]at i g j;have a:=XR d;exact QbZ m 0 _ _ _ _ _ n [H,H1] H1 p q (by rw[i];exact VG m) rfl f (DA.len k) (by simp) rfl (QpC a g) (by simp[plC,a]) j
theorem Qbh{xs:List A}{o:Oper}{r:List Oper}(b:o::r=l.drop xs.length):l[xs.length]?=some o/\r=l.drop (xs.length+1):=by
 have a:xs.length<l.length:=by
  rcases VD xs.length l.length with q|q
  .exact q
  .rw[List.drop_eq_nil_of_le q]at b;cases b
 rw[Xr a]at b;cases b;exact⟨XL a,rfl⟩
theorem Qht{zs:List A}{j c:Nat}(b:YU cat j=some c)(h:∀p∈(match c with|0=>[(0,0)]|1=>[(0,1)]|2=>[(1,1)]|_=>[(0,0),(1,1)]:List (Nat×Nat)),JA P N l ds zs env H.length H.length j ([H,H1].getD p.1 []) ([H,H1].getD p.2 [])):Dob P N cat l ds env H H1 zs j:=by
 intro p a;rw[QaE]at b;unfold plC at a;rw[VM,Xq,b]at a;exact h p a
theorem QaD{hB hE:Nat}{xs a:List A}{o:Oper}{x:A}{d:Nat}{X X':Qc}(g:l[xs.length]?=some o)(hdd:Qax hB hE X X'=true)(h:WO P X.length N l.toArray [o] (Yp (Qg o) 0 ds xs env) X (Y1 (up (Yp (Qg o) 0 ds xs env) d x) X'))(e:o.dst=some d):
  JA P N l ds (xs++x::a) env hB hE xs.length X X':=
 .woE o _ d x g e QhZ (he:=by
  intro s;rcases Qkl (af:=Qg o) (env0:=env) (s:=s) ds xs (x::a) 0 with⟨j,y,b,f,k,i⟩|q|q
  .rw[Xw]at b;exact .inl ⟨j,y,b,f,k,i⟩
  .exact .inr (.inl q)
  .exact .inr (.inr q)) (hdd:=hdd) (h:=h)
theorem Y3{n:Nat}{X X':Qc}:Qax n n X X'=true:=by unfold Qax;rw[Nat.sub_self];rfl
theorem DA.wo{xs:List A}{o:Oper}{r:List Oper}{x:A}{d:Nat}(h:WO P H.length N l.toArray [o] (Yp (Qg o) 0 ds xs env) H (Y1 (up (Yp (Qg o) 0 ds xs env) d x) H))(k:DA P N m cat l ds env H K r (xs++[x]))
  (t:YU cat xs.length=some 0:=by exact rfl)(hd:o.dst=some d:=by exact rfl)(hx:Nat.blt xs.length m=true:=by exact rfl):DA P N m cat l ds env H K (o::r) xs:=by
 intro n;obtain⟨u,a⟩:=Qbh n;obtain⟨g,H1,s,f,b,e⟩:=k (by simpa using a);simp only[X4,X2,List.length_nil,Vj,VL,Vi]at s b e;refine⟨x::g,H1,by simp only[X2];omega,f,λj y i=>?_,e⟩;rcases VD xs.length j with q|q
 .exact b j (by omega) i
 .obtain rfl:j=xs.length:=by omega
  refine Qht t λp w=>?_;obtain rfl:=VC.1 w;exact QaD u Y3 h hd
theorem DA.op{xs:List A}{o:Oper}{r:List Oper}{x:A}{d:Nat}(h:WO P H.length N l.toArray [o] (Yp (Qg o) 0 ds xs env) H (Y1 (up (Yp (Qg o) 0 ds xs env) d x) H1))(k:DB P N m cat l ds env H H1 K r (xs++[x]))(hl:Nat.ble H.length H1.length=true:=by exact rfl)
  (hc:YU cat xs.length=some 1:=by exact rfl)(hd:o.dst=some d:=by exact rfl)(hx:Nat.blt xs.length m=true:=by exact rfl):DA P N m cat l ds env H K (o::r) xs:=by
 intro i;obtain⟨s,a⟩:=Qbh i;obtain⟨f,n,b,e⟩:=k (by simpa using a);simp only[X4,X2,List.length_nil,Vj,VL,Vi]at n b e;refine⟨x::f,H1,by simp only[X2];omega,XS hl,λj u g=>?_,e⟩;rcases VD xs.length j with q|q
 .exact b j (by omega) g
 .obtain rfl:j=xs.length:=by omega
  refine Qht hc λp t=>?_;obtain rfl:=VC.1 t;exact QaD s Y3 h hd
theorem Qb4{xs:List A}{o:Oper}{r:List Oper}{x x':A}{d:Nat}{H1':Qc}(h:OpH P o (Yp (Qg o) 0 ds xs env) H x H1)(a:foA x=.mk x')(b:foH H1=.mk H1')(k:DB P N m cat l ds env H H1' K r (xs++[x']))(e:o.dst=some d:=by exact rfl)(hg:YV ⟨l⟩ o (Yp (Qg o) 0 ds xs env)=some true:=by exact rfl)(hN:Nat.blt d N=true:=by exact rfl)(hl:Nat.ble H.length H1'.length=true:=by exact rfl)
  (hc:YU cat xs.length=some 1:=by exact rfl)(hx:Nat.blt xs.length m=true:=by exact rfl):DA P N m cat l ds env H K (o::r) xs:=by
 rw[Qg3]at a;rw[Qji]at b;cases a;cases b;exact .op (YY (XU _) (QZ hg) e hN h (WO.nil Y1.mk)) k hl hc e hx
theorem DB.done{xs:List A}{r:List Oper}(a:Nat.beq xs.length m=true)(h:K r (Qaz ds xs env) H1):DB P N m cat l ds env H H1 K r xs:=by
 intro b;have e:=XR a;subst b;refine⟨[],by simpa using e,λj f d=>by omega,?_⟩;rw[<- e,Vh];exact h
theorem DB.add{xs:List A}{o:Oper}{r:List Oper}{x:A}(f:∀ys,l[xs.length]?=some o->Dob P N cat l ds env H H1 (xs++x::ys) xs.length)(k:DB P N m cat l ds env H H1 K r (xs++[x])):DB P N m cat l ds env H H1 K (o::r) xs:=by
 intro g;obtain⟨i,a⟩:=Qbh g;obtain⟨ys,h,b,d⟩:=k (by simpa using a);simp only[X4,X2,List.length_nil,Vj,VL,Vi]at h b d;refine⟨x::ys,by simp only[X2];omega,λj n e=>?_,d⟩;rcases VD xs.length j with q|q
 .exact b j (by omega) e
 .obtain rfl:j=xs.length:=by omega
  exact f ys i
theorem DB.wo1{xs:List A}{o:Oper}{r:List Oper}{x:A}{d:Nat}(h:WO P H1.length N l.toArray [o] (Yp (Qg o) 0 ds xs env) H1 (Y1 (up (Yp (Qg o) 0 ds xs env) d x) H1))(k:DB P N m cat l ds env H H1 K r (xs++[x]))
  (e:YU cat xs.length=some 2:=by exact rfl)(hd:o.dst=some d:=by exact rfl):DB P N m cat l ds env H H1 K (o::r) xs:=
 .add (λf a=>Qht e λp b=>by
  obtain rfl:=VC.1 b;exact QaD a Y3 h hd) k
theorem DB.wo2{xs:List A}{o:Oper}{r:List Oper}{x:A}{d:Nat}(h:WO P H.length N l.toArray [o] (Yp (Qg o) 0 ds xs env) H (Y1 (up (Yp (Qg o) 0 ds xs env) d x) H))(e:WO P H1.length N l.toArray [o] (Yp (Qg o) 0 ds xs env) H1 (Y1 (up (Yp (Qg o) 0 ds xs env) d x) H1))(k:DB P N m cat l ds env H H1 K r (xs++[x]))
  (f:YU cat xs.length=some 3:=by exact rfl)(hd:o.dst=some d:=by exact rfl):DB P N m cat l ds env H H1 K (o::r) xs:=
 .add (λg b=>Qht f λp a=>by
  rcases X7.1 a with rfl|a
  .exact QaD b Y3 h hd
  .obtain rfl:=VC.1 a;exact QaD b Y3 e hd) k
def QhK(T:TyX)(N m:Nat)(cat:List Nat)(l:List Oper)(ds:List Nat)(env:Env)(H:Qc):Nat->Nat->List Oper->List A->Option (List Oper×List A)
 |0,_,r,xs=>some (r,xs)
 |_+1,_,[],_=>none
 |n+1,i,o::r,xs=>match Nat.blt i m,YU cat i with
  |true,some 0=>match o.dst with
   |none=>none
   |some d=>match Nat.blt d N with
    |false=>none
    |true=>match YV ⟨l⟩ o (Yp (Qg o) 0 ds xs env)with
     |none=>none
     |some false=>match Qeg xs (.tup [])with
      |.mk xs'=>QhK T N m cat l ds env H n (i+1) r xs'
     |some true=>match Qey T o (Yp (Qg o) 0 ds xs env) H with
      |none=>none
      |some x=>match Qeg xs x with
       |.mk xs'=>QhK T N m cat l ds env H n (i+1) r xs'
  |_,_=>none
theorem QeJ(hT:QbH P T):∀(n i:Nat) {r r':List Oper} {xs xs':List A},i=xs.length->QhK T N m cat l ds env H n i r xs=some (r',xs')->DA P N m cat l ds env H K r' xs'->DA P N m cat l ds env H K r xs
 |0,i,r,r',xs,xs',_,h,k=>by cases h;exact k
 |n+1,i,[],r',xs,xs',_,h,k=>by cases h
 |n+1,i,o::r,r',xs,xs',hi,h,k=>by
  subst hi;unfold QhK at h;split at h
  .rename_i q1 q0;split at h
   .cases h
   .rename_i d hd;split at h
    .cases h
    .rename_i q2;split at h
     .cases h
     .rename_i hw;simp only[Qam]at h;exact .wo (WO.skip (QZ hw) hd q2 (WO.nil Y1.mk)) (QeJ hT n _ (by simp) h k) q0 hd q1
     .rename_i hw;split at h
      .cases h
      .rename_i x hv;simp only[Qam]at h;exact .wo (QE (QZ hw) hd q2 (Qbm hT hv) (WO.nil Y1.mk)) (QeJ hT n _ (by simp) h k) q0 hd q1
  .cases h
theorem QnI{H:Qc}{p:Bx}{r:Lx}(h:ptX [] p=some r):ptX H p=some r:=by
 unfold ptX at h⊢;split at h
 .exact h
 .rename_i i a;simp only[YU]at h;cases h
 .cases h
theorem Qhz{o:Oper}{e:Env}{H:Qc}{x:A}(h:Qey T o e []=some x):Qey T o e H=some x:=by
 unfold Qey at h⊢;split at h<;>first|exact h|skip
 rename_i t y g;split at h
 .cases h
 .rename_i b n f;split at h
  .exact h
  .rename_i d;cases q:ptX [] (opB e y)with
   |none=>rw[q]at h;cases h
   |some r=>
    rw[q]at h;have a:=QnI (H:=H) q;simp only[a];exact h
def QeI(T:TyX)(N:Nat)(cat:List Nat)(l:List Oper)(ds:List Nat)(env:Env)(H1:Qc):Nat->Nat->List Oper->List A->Option (List Oper×List A)
 |0,_,r,xs=>some (r,xs)
 |_+1,_,[],_=>none
 |n+1,i,o::r,xs=>match o.dst with
  |none=>none
  |some d=>match Nat.blt d N with
   |false=>none
   |true=>match YV ⟨l⟩ o (Yp (Qg o) 0 ds xs env)with
    |none=>none
    |some false=>match YU cat i with
     |some 2=>(match Qeg xs (.tup [])with
      |.mk xs'=>QeI T N cat l ds env H1 n (i+1) r xs')
     |some 3=>(match Qeg xs (.tup [])with
      |.mk xs'=>QeI T N cat l ds env H1 n (i+1) r xs')
     |_=>none
    |some true=>match YU cat i with
     |some 2=>(match Qey T o (Yp (Qg o) 0 ds xs env) H1 with
      |none=>none
      |some x=>match Qeg xs x with
       |.mk xs'=>QeI T N cat l ds env H1 n (i+1) r xs')
     |some 3=>(match Qey T o (Yp (Qg o) 0 ds xs env) []with
      |none=>none
      |some x=>match Qeg xs x with
       |.mk xs'=>QeI T N cat l ds env H1 n (i+1) r xs')
     |_=>none
theorem QbP(hT:QbH P T):∀(n i:Nat) {r r':List Oper} {xs xs':List A},i=xs.length->QeI T N cat l ds env H1 n i r xs=some (r',xs')->DB P N m cat l ds env H H1 K r' xs'->DB P N m cat l ds env H H1 K r xs
 |0,i,r,r',xs,xs',_,h,k=>by cases h;exact k
 |n+1,i,[],r',xs,xs',_,h,k=>by cases h
 |n+1,i,o::r,r',xs,xs',hi,h,k=>by
  subst hi;unfold QeI at h;split at h
  .cases h
  .rename_i d hd;split at h
   .cases h
   .rename_i q2;split at h
    .cases h
    .rename_i hw;split at h
     .rename_i q0;simp only[Qam]at h;exact .wo1 (WO.skip (QZ hw) hd q2 (WO.nil Y1.mk)) (QbP hT n _ (by simp) h k) q0 hd
     .rename_i q0;simp only[Qam]at h;exact .wo2 (WO.skip (QZ hw) hd q2 (WO.nil Y1.mk)) (WO.skip (QZ hw) hd q2 (WO.nil Y1.mk)) (QbP hT n _ (by simp) h k) q0 hd
     .cases h
    .rename_i hw;split at h
     .rename_i q0;split at h
      .cases h
      .rename_i x hv;simp only[Qam]at h;exact .wo1 (QE (QZ hw) hd q2 (Qbm hT hv) (WO.nil Y1.mk)) (QbP hT n _ (by simp) h k) q0 hd
     .rename_i q0;split at h
      .cases h
      .rename_i x hv;simp only[Qam]at h;exact .wo2 (QE (QZ hw) hd q2 (Qbm hT (Qhz hv)) (WO.nil Y1.mk)) (QE (QZ hw) hd q2 (Qbm hT (Qhz hv)) (WO.nil Y1.mk)) (QbP hT n _ (by simp) h k) q0 hd
     .cases h
end
end Go.Sw
namespace Go.Sw
def chkF(L:List (Nat×List (Nat×Nat)))(fs:List (Nat×Nat×Nat)):Bool:=
 fs.all λe=>match Qch L e.1 with
  |some pl=>(match YU pl e.2.1 with
   |some q=>Nat.beq q.1 e.2.2&& !(Nat.beq q.2 0)
   |none=>false)
  |none=>false
theorem PL.get{P:Program}{fs:List Field}{a:List (Nat×Nat)}(h:PL P fs a):∀{f off n:Nat},YU a f=some (off,n)->∃fd,fs[f]?=some fd/\fd.offset=off/\ ∀w,(sizeOf fd.type).run P w=.ok n w:=by
 induction h with
 |nil=>intro f off n h;cases h
 |cons h k d=>
  intro f off n b;cases f with
  |zero=>cases b;exact⟨_,rfl,rfl,h⟩
  |succ f=>obtain⟨fd,e,g⟩:=d (show YU _ f=_ from b);exact⟨fd,by simpa using e,g⟩
theorem Qpk{P:Program}{L:List (Nat×List (Nat×Nat))}{fs:List (Nat×Nat×Nat)}(r:∀e∈L,QD P e.1 e.2)(h:chkF L fs=true):∀e∈fs,∃n,QY P e.1 e.2.1 e.2.2 n:=by
 intro e d;have:=Xt.1 h e d;split at this
 .rename_i t b;split at this
  .rename_i q f;obtain⟨i,n⟩:=q;simp only[XX,Bool.not_eq_true']at this;have s:=XR this.1;obtain⟨g,l,a⟩:=r _ (QaA b);obtain⟨p,k,m,j⟩:=PL.get a f;refine⟨n,⟨⟨_,p,l,by simpa using k,m.trans s,j,?_⟩⟩⟩;intro z;have a:=this.2;rw[z,VG]at a;cases a
  .cases this
 .cases this
section
variable {P:Program} {Z:TyZ} {h0 N:Nat} {all:Array Oper} {o:Oper} {l:List Oper} {env:Env} {H:Qc} {Q:Qx} {d:Nat}
theorem Cdz(q:Qc3 P Z){β γ:Type}{F:Option β}{F':β->Option γ}{r:γ}{f:Nat}{args a:List A}{Hc:Qc}{w:β->A}{Hr:β->Qc}(π:List Nat)(h:F.bind F'=some r)(i:∀v,F=some v->C P f a Hc (RQ w Hr v))
  (b:QfJ Z o env=some (d,f,args))(g:∀v,F=some v->F' v=some r->WO P h0 N all l (up env d (Yx (rho π H.length) (w v))) (Yn H π ((Hr v).map (QV (rho π H.length)))) Q)
  (hargs:args=Qaa (rho π H.length) a)(hH:π.map (λp=>H[p]?)=(Hc.map (QV (rho π H.length))).map some)(hπ:π.Nodup)(hg:YV all o env=some true)(k:Nat.blt d N=true)(n:Nat.ble h0 H.length=true):WO P h0 N all (o::l) env H Q:=by
 obtain⟨v,e,j⟩:=bnd h;obtain⟨s,m⟩:=Qeq (H:=H) q b;refine QP π m (i v e) ?_ hargs hH hπ (QZ hg) s k n;rintro _ _ ⟨rfl,rfl⟩;exact g v e j
end
inductive FLL where
 |mk (l:List (List A))
def cpLL(sel:List Nat):List (List A)->FLL
 |[]=>.mk []
 |a::r=>match cpL sel a,cpLL sel r with
  |.mk a',.mk r'=>.mk (a'::r')
inductive FBk where
 |mk (b:Blk)
def cpBk(sel:List Nat):Blk->FBk
 |.cells t cs=>match cpL sel cs with
  |.mk l=>.mk (.cells t l)
 |.rowr t k es=>match cpLL sel es with
  |.mk l=>.mk (.rowr t k l)
 |.ents t a b es=>match QkK sel ixL a,QkK sel ixL b with
  |.mk a',.mk b'=>.mk (.ents t a' b' es)
 |b=>.mk b
def selD(H:Qc)(sel:List Nat):List Nat->FB
 |[]=>.mk []
 |a::r=>match YU H a with
  |some b=>(match cpBk sel b,selD H sel r with
   |.mk b',.mk l=>.mk (b'::l))
  |none=>.mk []
def retC(sel sl:List Nat)(env:Env)(H:Qc):Option (Env×Qc):=
 match Qmn sel env sl [],selD H sel sel with
 |.mk e,.mk h=>some (e,h)
theorem Rx{P:Program}{h0:Nat}{fn:Func}{env E':Env}{H H':Qc}{Qr:A->Qc->Prop}{d:A}(π sl:List Nat)(_:retC π sl env H=some (E',H'))(b:Qc8 P fn E' H' d)(e:Qr d H')(a:π.take h0=List.range h0:=by exact rfl)
  (hH:π.map (λp=>H[p]?)=(H'.map (QV (rho π H.length))).map some:=by exact rfl)(hπ:π.Nodup:=by decide)(hE:Qd9 (rho π H.length) env E':=by(repeat' (first|exact trivial|refine⟨rfl,?_⟩))):Qc7 P h0 fn Qr .ret env H:=
 ⟨E',H',d,Lr π a hH hπ hE,b,e⟩
end Go.Sw
namespace Go.Sw
def nxL{T:Type}:List T->T->List T->Prop:=λl x rem=>l=x::rem
def Qci{S T B:Type}(step:S->T->Option (Ctl S B)):List T->S->Option (Ctl S B)
 |[],s=>some (.cont s)
 |x::l,s=>(step s x).bind λd=>match d with
  |.cont s'=>Qci step l s'
  |.done b=>some (.done b)
def Qcn{S T B:Type}(step:S->Option (List T×Ctl S B)):Nat->S->Option (List T×B)
 |0,_=>none
 |n+1,s=>(step s).bind λp=>match p.2 with
  |.cont s'=>(Qcn step n s').bind λq=>some (p.1++q.1,q.2)
  |.done b=>some (p.1,b)
def Qnb{S B:Type}(h1:Nat)(env:Env)(Q:Qx)(d:Ctl S B)(Hp:S->Qc):Qx
 |.normal,env',H'=>∃s,d=.cont s/\Le h1 env' H' [] (Hp s)
 |.exit id,env',H'=>(∃b,d=.done b)/\ ∃H2,Le h1 env' H' [] H2/\Q (.exit id) env H2
 |.ret,env',H'=>(∃b,d=.done b)/\ ∃H2,Le h1 env' H' [] H2/\Q .ret env H2
theorem QgL{S B:Type}{h1:Nat}{env env':Env}{H':Qc}{Q:Qx}{s:S}{d:Ctl S B}{Hp:S->Qc}(e:some (Ctl.cont s)=some d)(h:Le h1 env' H' [] (Hp s)):Qnb h1 env Q d Hp .normal env' H':=⟨s,(Oi e).symm,h⟩
theorem QdF{P:Program}{h0 N:Nat}{m:Operand}{ps:List Nat}{assign body:Code}{env:Env}{H:Qc}{Q:Qx}{f:FuncId}{g a:List A}{Hc:Qc}{T S B:Type}{enc:T->List A}{xs:List T}{step:S->T->Option (Ctl S B)}{s0:S}{D:Ctl S B}
  (π:List Nat)(Hp:S->Qc)(h:Qci step xs s0=some D)(n:QiB P f a Hc enc nxL xs)(r:∀x,(enc x).length=ps.length)(O:∀args w,(callFunc f args).run P w=.ok (.enter f args) w)
  (R:Nat.ble h0 H.length=true)(hg:opA env m=.fn (.func f) [] g)(hargs:g=Qaa (rho π H.length) a)(hH:π.map (λp=>H[p]?)=(Hc.map (QV (rho π H.length))).map some)(hπ:π.Nodup)(y:(ps.all λp=>Nat.blt p N)=true)
  (i:Le H.length env (QdX H π) env (Hp s0))
  (j:∀s x d,step s x=some d->(∀b,d=.done b->D=.done b)->TC P H.length N assign (QlH ps (enc x) env) (Hp s) λe env1 H1=>e=.normal/\TC P H.length N body env1 H1 (Qnb H.length env Q d Hp))
  (k:∀s,D=.cont s->Q .normal env (Hp s)):TC P h0 N (.rangeFunc m ps.toArray assign body) env H Q:=by
 refine TC.rangeFunc π Hp (λs l=>Qci step l s=some D) s0 (XS R) hg hargs hH hπ y O n r i h ?_ ?_
 .rintro s l x rem t rfl;obtain⟨d,G,t⟩:=bnd t;refine(j s x d G ?_).mono ?_
  .rintro b rfl;exact(Oi t).symm
  .rintro e env1 H1 ⟨J,F⟩;refine⟨J,F.mono ?_⟩;intro L z H2 q;cases L with
   |normal=>
    obtain⟨E,rfl,i⟩:=q;exact⟨Hp E,i,E,t,rfl⟩
   |exit id=>
    obtain⟨_,H3,u,q⟩:=q;exact⟨H3,u,q⟩
   |ret=>
    obtain⟨_,H3,u,q⟩:=q;exact⟨H3,u,q⟩
 .intro s M;exact k s (Oi M).symm
section
variable {T:Type} {X:Ctx T} {P:Program} {h0 N:Nat} {c:Code} {env:Env} {H:Qc} {st:YSt T} {Q:Yy T}
def QfD{S B:Type}(h0:Nat)(E:S->Env)(Hp:S->Qc)(d:Ctl S B)(rest:List T)(Q:Yy T):Yy T
 |.normal,env,H,st=>∃s,d=.cont s/\Le h0 env H (E s) (Hp s)/\st=.on rest
 |.exit id,env,H,st=>Q (.exit id) env H st
 |.ret,env,H,st=>Q .ret env H st
theorem Qle{S B:Type}{step:S->Option (List T×Ctl S B)}{E:S->Env}{Hp:S->Qc}{m:Nat}{s0:S}{l rem:List T}{b:B}(h:Qcn step m s0=some (l,b))(t:Le h0 env H (E s0) (Hp s0))
  (body:∀s zs d rest,step s=some (zs,d)->(∀b',d=.done b'->b'=b/\rest=rem)->TCy X P h0 N c (E s) (Hp s) (.on (zs++rest)) (QfD h0 E Hp d rest Q)):TCy X P h0 N (.loop c) env H (.on (l++rem)) Q:=by
 refine Qgv (I:=λn env H r=>∃s a,Qcn step n s=some (a,b)/\r=.on (a++rem)/\Le h0 env H (E s) (Hp s)) ?_ ⟨s0,l,h,rfl,t⟩;rintro n env H r ⟨s,a,f,rfl,j⟩;cases n with
 |zero=>cases f
 |succ n=>
  obtain⟨⟨zs,d⟩,p,f⟩:=bnd f;refine TCy.le j ?_;cases d with
  |cont u=>
   obtain⟨⟨z,F⟩,y,f⟩:=bnd f;cases f;rw[Vj];refine(body s zs (.cont u) (z++rem) p (λb' e=>by cases e)).mono ?_;rintro x g H' i q;cases x with
   |normal=>
    obtain⟨w,e,k,rfl⟩:=q;cases e;exact⟨n,Xo n,_,_,y,rfl,k⟩
   |exit id=>exact q
   |ret=>exact q
  |done b'=>
   cases f;refine(body s _ (.done b) rem p (λb' e=>by cases e;exact⟨rfl,rfl⟩)).mono ?_;rintro x g H' i q;cases x with
   |normal=>obtain⟨w,e,_⟩:=q;cases e
   |exit id=>exact q
   |ret=>exact q
def kqY(X:Ctx T)(P:Program)(h0 N:Nat):List Kf->Yy T->Yy T
 |[],Q=>Q
 |.seq c::k,Q=>SeqY X P h0 N c (kqY X P h0 N k Q)
 |.blo id::k,Q=>BloY id (kqY X P h0 N k Q)
 |.unr c::k,Q=>λ_ _ _ _=>False
@[reducible] def HdY(X:Ctx T)(P:Program)(h0 N:Nat):Cf->List Kf->Env->Qc->YSt T->Yy T->Prop
 |.code c,k,env,H,st,Q=>TCy X P h0 N c env H st (kqY X P h0 N k Q)
 |.ops all l,k,env,H,st,Q=>WOy X P h0 N all l env H st (kqY X P h0 N k Q)
 |.out x,k,env,H,st,Q=>kqY X P h0 N k Q x env H st
def Qov:Cf->List Kf->Bool
 |.code (.loop _),_=>false
 |.out _,.unr _::_=>false
 |_,_=>true
theorem QlJ{Tx:TyX}(f:QbH P Tx){c b:Cf}{k d:List Kf}{env env':Env}{H H':Qc}(h:QfO Tx h0 N c k env H=some (b,d,env',H'))(a:Qov c k=true)(g:HdY X P h0 N b d env' H' st Q):HdY X P h0 N c k env H st Q:=by
 unfold QfO at h;split at h
 .cases h;exact TCy.seq g
 .cases h;exact TCy.block g
 .cases a
 .cases h;exact TCy.skip g
 .cases h;exact TCy.ret g
 .cases h;exact TCy.exit g
 .cases h;exact TCy.region g
 .split at h
  .rename_i q;cases h;exact TCy.cond (Qz q) (λ_=>g) (λe=>by cases e)
  .rename_i q;cases h;exact TCy.cond (Qz q) (λe=>by cases e) (λ_=>g)
  .cases h
 .cases h;exact WOy.nil g
 .split at h
  .rename_i q;cases h;exact WOy.step (QiV f q (WO.nil ⟨rfl,g⟩))
  .cases h
 .cases h;exact g
 .cases h;exact g
 .cases h;exact g
 .cases h;exact g
 .split at h
  .rename_i q;cases h;have e:=XR q;subst e;show(bif Nat.beq _ _ then _ else _);rw[VG];exact g
  .rename_i q;cases h;show(bif Nat.beq _ _ then _ else _);rw[q];exact g
 .cases h;exact g
 .cases a
 .cases a
 .cases a
 .cases h
def Qi3(Tx:TyX)(h0 N:Nat):Nat->Cf->List Kf->Env->Qc->Option (Cf×List Kf×Env×Qc)
 |0,c,k,env,H=>some (c,k,env,H)
 |n+1,c,k,env,H=>match Qov c k with
  |true=>(match QfO Tx h0 N c k env H with
   |some (c',k',env',H')=>Qi3 Tx h0 N n c' k' env' H'
   |none=>none)
  |false=>none
theorem QcL{Tx:TyX}(hT:QbH P Tx):∀(n:Nat) {c c':Cf} {k k':List Kf} {env env':Env} {H H':Qc},Qi3 Tx h0 N n c k env H=some (c',k',env',H')->HdY X P h0 N c' k' env' H' st Q->HdY X P h0 N c k env H st Q
 |0,c,c',k,k',env,env',H,H',h,g=>by cases h;exact g
 |n+1,c,c',k,k',env,env',H,H',h,g=>by
  unfold Qi3 at h;split at h
  .rename_i hn;split at h
   .rename_i e;exact QlJ hT e hn (QcL hT n h g)
   .cases h
  .cases h
theorem TCy.lf{k:List Kf}(h:TC P h0 N c env H (λx env H=>kqY X P h0 N k Q x env H st)):TCy X P h0 N c env H st (kqY X P h0 N k Q):=TCy.lift h
theorem Qm1{all:Array Oper}{o:Oper}{r:List Oper}{d:Nat}{x:T}{l:List T}{e:T->A}{y z:Operand}{a:Array TypeId}(hE:X.enc=λx=>[e x])(f:X.nx=nxL)(j:o.op=.call {callee:=.value y,args:= #[z],argTypes:=a})(k:opA env y=.fn (.yield X.l) [] [])(m:opA env z=e x)(g:Ym (e x)=true)
  (i:WOy X P h0 N all r (up env d (.bool true)) H (.on l) Q)(h:WOy X P h0 N all r (up env d (.bool false)) H (.off l) Q)(hg:Qn all o env true:=by exact rfl)(hd:o.dst=some d:=by exact rfl)(hNd:Nat.blt d N=true:=by exact rfl):WOy X P h0 N all (o::r) env H (.on (x::l)) Q:=by
 refine WOy.yield (x:=x) (rem:=l) (by rw[f];rfl) hg hd hNd ?_ ?_
 .rw[hE];exact Qhw j k m g
 .intro b;cases b with
  |true=>exact i
  |false=>exact h
theorem WOy.y2{all:Array Oper}{o:Oper}{r:List Oper}{d:Nat}{x:T}{l:List T}{i e:T->A}{y j k:Operand}{m:Array TypeId}(hE:X.enc=λx=>[i x,e x])(n:X.nx=nxL)(s:o.op=.call {callee:=.value y,args:= #[j,k],argTypes:=m})(t:opA env y=.fn (.yield X.l) [] [])(h:opA env j=i x)(f:opA env k=e x)(a:Ym (i x)=true)(g:Ym (e x)=true)
  (q:WOy X P h0 N all r (up env d (.bool true)) H (.on l) Q)(p:WOy X P h0 N all r (up env d (.bool false)) H (.off l) Q)(hg:Qn all o env true:=by exact rfl)(hd:o.dst=some d:=by exact rfl)(hNd:Nat.blt d N=true:=by exact rfl):WOy X P h0 N all (o::r) env H (.on (x::l)) Q:=by
 refine WOy.yield (x:=x) (rem:=l) (by rw[n];rfl) hg hd hNd ?_ ?_
 .rw[hE];exact QkC s t h f a g
 .intro b;cases b with
  |true=>exact q
  |false=>exact p
end
end Go.Sw
namespace Go.Sw
def yl{T R:Type}(x:T)(k:Option (List T×R)):Option (List T×R):=k.bind λp=>some (x::p.1,p.2)
def ap{T B R:Type}(a:Option (List T×B))(k:B->Option (List T×R)):Option (List T×R):=a.bind λp=>(k p.2).bind λq=>some (p.1++q.1,q.2)
theorem Qoi{T R:Type}{x:T}{k:Option (List T×R)}{a:List T}{v:R}(h:yl x k=some (a,v)):∃zs,k=some (zs,v)/\a=x::zs:=by
 obtain⟨⟨zs,e⟩,b,d⟩:=bnd h;cases d;exact⟨zs,b,rfl⟩
theorem ap_ok{T B R:Type}{a:Option (List T×B)}{k:B->Option (List T×R)}{d:List T}{v:R}(h:ap a k=some (d,v)):∃y1 b y2,a=some (y1,b)/\k b=some (y2,v)/\d=y1++y2:=by
 obtain⟨⟨y1,b⟩,g,e⟩:=bnd h;obtain⟨⟨y2,j⟩,f,i⟩:=bnd e;cases i;exact⟨y1,b,y2,g,f,rfl⟩
section
variable {T:Type} {X:Ctx T} {P:Program} {h0 N:Nat} {c c':Code} {env:Env} {H:Qc} {st:YSt T} {Q:Yy T}
def QnA{β:Type}(h0:Nat)(b:β)(E':β->Env)(H':β->Qc)(rem:List T)(Q:Yy T):Yy T
 |.normal,env,H,st=>Le h0 env H (E' b) (H' b)/\st=.on rem
 |.exit id,env,H,st=>Q (.exit id) env H st
 |.ret,env,H,st=>Q .ret env H st
theorem Qm6{β:Type}{E':β->Env}{H':β->Qc}(b:β)(rem:List T)(sel keep:List Nat)(nE:β->Env)(nH:β->List (Nat×Blk))(_:∀b,QmT sel keep (nE b) (nH b) env H=some (E' b,H' b))(h:TCy X P h0 N c env H st (QnA h0 b E' H' rem Q))(k:∀env H,Le h0 env H (E' b) (H' b)->Q .normal env H (.on rem)):TCy X P h0 N c env H st Q:=
 h.mono λx env' H' st' q=>by
  cases x with
  |normal=>obtain⟨q1,rfl⟩:=q;exact k _ _ q1
  |exit id=>exact q
  |ret=>exact q
theorem cutYN{β:Type}{b:β}{E':β->Env}{H':β->Qc}{rem:List T}(h:Le h0 env H (E' b) (H' b)):QnA h0 b E' H' rem Q .normal env H (.on rem):=⟨h,rfl⟩
theorem cutYR{β:Type}{b:β}{E':β->Env}{H':β->Qc}{rem:List T}(h:Q .ret env H st):QnA h0 b E' H' rem Q .ret env H st:=h
theorem Qpz{S B:Type}{step:S->Option (List T×Ctl S B)}{E':S->Env}{H':S->Qc}{m:Nat}{s0:S}{ys rem:List T}{b:B}(sel keep:List Nat)(nE:S->Env)(nH:S->List (Nat×Blk))(h:Qcn step m s0=some (ys,b))(_:∀s,QmT sel keep (nE s) (nH s) env H=some (E' s,H' s))(hI:Le h0 env H (E' s0) (H' s0))
  (body:∀s zs d rest,step s=some (zs,d)->(∀b',d=.done b'->b'=b/\rest=rem)->TCy X P h0 N c (E' s) (H' s) (.on (zs++rest)) (QfD h0 E' H' d rest Q)):TCy X P h0 N (.loop c) env H (.on (ys++rem)) Q:=Qle h hI body
theorem QgW{S B:Type}{E':S->Env}{H':S->Qc}{s:S}{d:Ctl S B}{zs rest:List T}(e:some (([]:List T),Ctl.cont s)=some (zs,d))(h:Le h0 env H (E' s) (H' s)):QfD h0 E' H' d rest Q .normal env H (.on (zs++rest)):=by
 cases e;exact⟨s,rfl,h,rfl⟩
theorem Qpb{S B:Type}{id:Nat}{E':S->Env}{H':S->Qc}{d:Ctl S B}{rest:List T}(h:Q (.exit id) env H st):QfD h0 E' H' d rest Q (.exit id) env H st:=h
theorem Qpc{S B:Type}{E':S->Env}{H':S->Qc}{d:Ctl S B}{rest:List T}(h:Q .ret env H st):QfD h0 E' H' d rest Q .ret env H st:=h
theorem Oy{S B:Type}{d:Ctl S B}{x b:B}{zs rest rem:List T}(e:∀b',d=.done b'->b'=b/\rest=rem)(h:some (([]:List T),Ctl.done x)=some (zs,d)):zs=[]/\b=x/\rest=rem:=by
 cases h;obtain⟨a,f⟩:=e x rfl;exact⟨rfl,a.symm,f⟩
theorem Cny{α:Type}{x:Operand}{t:Bool}{p q:Option α}{r:α}(hx:opB env x=.mk (.bool t))(h:(bif t then p else q)=some r)(ht:t=true->p=some r->TCy X P h0 N c env H st Q)(hf:t=false->q=some r->TCy X P h0 N c' env H st Q):TCy X P h0 N (.cond x c c') env H st Q:=
 TCy.cond (Qz hx) (λe=>ht e (ifT e h)) (λe=>hf e (ifF e h))
theorem QiA{f:FuncId}{fn:Func}{c:Code}{N:Nat}{a:List A}{H:Qc}{enc:T->List A}{xs:List T}(d:P.funcs[f]?=some fn)(g:fn.body=some c)(e:fn.ntmps=N)(b:Nat.ble (a.length+1) N=true)(i:fn.results= #[])
  (h:∀X:Ctx T,X.enc=enc->X.nx=nxL->TCy X P H.length N c (Qgm 0 (.fn (.yield X.l) [] []::a)) H (.on (xs++[])) EndY):QiB P f a H enc nxL xs:=by
 rw[Vh]at h;exact Qc6 d g e b i h
end
end Go.Sw
namespace Go.Sw
open Go.MapKept
section
variable {fr ro:Nat->Prop} {σ:Sig} {H:Qc} {w:World}
end
end Go.Sw
namespace Go.Sw
open Go.MapKept
def QbI{α β:Type}(ek:α->A)(ev:β->List A)(l:List (α×Option (List β))):List (A×Option (List (List A))):=l.map λp=>(ek p.1,p.2.map (List.map ev))
def Qj5{α β:Type}[DecidableEq α](l:List (α×Option (List β)))(x:α):List (α×Option (List β)):=l.map λp=>bif decide (p.1=x)then(p.1,none)else p
section
variable {P:Program} {kt:TypeId} {α β:Type} [DecidableEq α] {ek:α->A} {ev:β->List A} {ro:Nat->Prop} {w:World} {t k:Nat} (K:Y6 P kt ek)
include K
theorem Qkv{x:α}:∀{l:List (α×Option (List β))} {es:List MapEntry},MO ro w t k (QbI ek ev l) es->MO ro w t k (QbI ek ev (Qj5 l x)) es
 |[],es,h=>h
 |p::l,es,h=>by
  obtain⟨e,l',rfl,h1,h2,h3⟩:=h;by_cases q:p.1=x
  .refine⟨e,l',rfl,by simpa[q]using h1,λrows hr=>?_,Qkv (l:=l) h3⟩;simp[q]at hr
  .refine⟨e,l',rfl,by simpa[q]using h1,λrows hr=>h2 rows (by simpa[q]using hr),Qkv (l:=l) h3⟩
omit K
theorem QdK{x:α}{c:Nat}:∀{l:List (α×Option (List β))} {es:List MapEntry},Qei (QbI ek ev (Qj5 l x)) es c->Qei (QbI ek ev l) es c
 |[],es,h=>by cases es<;>exact h.elim
 |p::l,[],h=>h.elim
 |p::l,e::es,h=>by
  rcases h with⟨h1,h2⟩|h
  .by_cases q:p.1=x
   .simp[q]at h1
   .exact .inl ⟨by simpa[q]using h1,h2⟩
  .exact .inr (QdK (l:=l) h)
theorem Qlz{x:α}:∀{l:List (α×Option (List β))} {es:List MapEntry},QjL (QbI ek ev l) es->QjL (QbI ek ev (Qj5 l x)) es
 |[],es,h=>by cases es<;>trivial
 |p::l,[],h=>trivial
 |p::l,e::es,h=>by
  obtain⟨h1,h2⟩:=h;refine⟨λc q1 q2 q3=>?_,Qlz (l:=l) h2⟩;by_cases q:p.1=x
  .simp[q]at q1
  .exact h1 c (by simpa[q]using q1) q2 (QdK (l:=l) q3)
include K
theorem MO.find:∀{l:List (α×Option (List β))} {es:List MapEntry},MO ro w t k (QbI ek ev l) es->∀(x:α),(es.map (·.key)).Nodup->
  ((∀e:MapEntry,e∈es->e.key≠QA (ek x))->YD l x=none)/\
  (∀(j:Nat) (e:MapEntry),es[j]?=some e->e.key=QA (ek x)->∃q,YD l x=some q/\(∀rows,q=some rows->SO ro w t k (rows.map ev) e.val)/\
   ∀c p n cap,q.isSome=true->e.val=.slice (some ⟨c,p,none⟩) n cap->Qei (QbI ek ev l) es c/\(QjL (QbI ek ev l) es->¬Qei (QbI ek ev (Qj5 l x)) es c))
 |[],es,h,x,_=>by
  cases(show es=[]from h);exact⟨λ_=>rfl,λj e he=>by simp at he⟩
 |p::l,es,h,x,hn=>by
  obtain⟨e0,l',rfl,h1,h2,h3⟩:=h;have hk:e0.key=QA (ek p.1):=VR.val (K.scl _) h1;simp only[Vk,List.nodup_cons]at hn;obtain⟨a1,a2⟩:=MO.find (l:=l) h3 x hn.2;by_cases hp:p.1=x
  .subst hp;constructor
   .intro q;exact absurd hk (q e0 (by simp))
   .intro j e he hx;cases j with
    |zero=>
     simp only[XF,Option.some.injEq]at he;subst he;refine⟨p.2,by simp[YD],λrows hr=>h2 (rows.map ev) (by simp[hr]),λc p' n cap hs hv=>⟨.inl ⟨by simpa using hs,p',n,cap,hv⟩,λhd hq=>?_⟩⟩;rcases hq with⟨q1,_⟩|hq
     .simp at q1
     .exact hd.1 c (by simpa using hs) ⟨p',n,cap,hv⟩ (QdK (l:=l) hq)
    |succ j=>
     simp only[XG]at he;exact absurd (hk.trans hx.symm▸VH (f:=λe:MapEntry=>e.key) (VI he)) hn.1
  .have e1:YD (p::l) x=YD l x:=by simp[YD,hp]
   rw[e1];constructor
   .intro q;exact a1 λe he=>q e (by simp[he])
   .intro j e he hx;cases j with
    |zero=>
     simp only[XF,Option.some.injEq]at he;subst he;exact absurd (K.inj _ _ (hk.symm.trans hx)) hp
    |succ j=>
     obtain⟨q,i,m,g⟩:=a2 j e (by simpa using he) hx;refine⟨q,i,m,λc p' n cap hs hv=>?_⟩;obtain⟨a,b⟩:=g c p' n cap hs hv;refine⟨.inr a,λhd hq=>?_⟩;rcases hq with⟨q1,d⟩|hq
     .exact hd.1 c (by simpa[hp]using q1) d a
     .exact b hd.2 hq
end
section
variable {P:Program} {o:Oper} {env:Env} {H:Qc}
variable {T kt et:Nat} {α β:Type} [DecidableEq α] {ek:α->A} {ev:β->List A} {x y:Operand} {i t k:Nat} {l:List (α×Option (List β))} {key:α} {rows:List β}
end
end Go.Sw
namespace Go.Sw
open Go.MapKept
theorem MO.append{ro:Nat->Prop}{w:World}{t k:Nat}:∀{l m:List (A×Option (List (List A)))} {es fs:List MapEntry},MO ro w t k l es->MO ro w t k m fs->MO ro w t k (l++m) (es++fs)
 |[],m,es,fs,h,q=>by cases(show es=[]from h);exact q
 |p::l,m,es,fs,h,q=>by
  obtain⟨e,l',rfl,h1,h2,h3⟩:=h;exact⟨e,l'++fs,rfl,h1,h2,MO.append h3 q⟩
theorem MO.length{ro:Nat->Prop}{w:World}{t k:Nat}:∀{l:List (A×Option (List (List A)))} {es:List MapEntry},MO ro w t k l es->es.length=l.length
 |[],es,h=>by cases(show es=[]from h);rfl
 |p::l,es,h=>by
  obtain⟨e,l',rfl,h1,h2,h3⟩:=h;simp[MO.length h3]
def SlB(v:Value)(c:Nat):Prop:=∃p n cap,v=.slice (some ⟨c,p,none⟩) n cap
section
variable {P:Program} {kt:TypeId} {α β:Type} [DecidableEq α] {ek:α->A} {ev:β->List A} {ro:Nat->Prop} {w:World} {t k:Nat} (K:Y6 P kt ek)
def Qdo{α β:Type}[DecidableEq α](l:List (α×Option (List β)))(x:α)(rows:List β):List (α×Option (List β)):=l.map λp=>bif decide (p.1=x)then(p.1,some rows)else p
include K
theorem QfZ{x:α}{rows:List β}:∀{l:List (α×Option (List β))} {es:List MapEntry},MO ro w t k (QbI ek ev l) es->(∀e∈es,e.key≠QA (ek x))->Qdo l x rows=l
 |[],es,h,q=>rfl
 |p::l,es,h,q=>by
  obtain⟨e,l',rfl,h1,h2,h3⟩:=h;have hk:e.key=QA (ek p.1):=VR.val (K.scl _) h1;have hp:p.1≠x:=λz=>q e (by simp) (by rw[hk,z]);have:=QfZ (l:=l) h3 (λe he=>q e (by simp[he])) (rows:=rows);simp only[Qdo,Vk,decide_false,hp,Vr];rw[show(l.map λp=>bif decide (p.1=x)then(p.1,some rows)else p)=l from this]
theorem MO.put{x:α}{rows:List β}{v:Value}(n:SO ro w t k (rows.map ev) v):∀{l:List (α×Option (List β))} {es:List MapEntry} {j:Nat} {e:MapEntry},MO ro w t k (QbI ek ev l) es->
  (es.map (·.key)).Nodup->es[j]?=some e->e.key=QA (ek x)->
  MO ro w t k (QbI ek ev (Qdo l x rows)) (es.modify j λe=>{e with key:=QA (ek x),val:=v})/\
  (∀c,Qei (QbI ek ev (Qdo l x rows)) (es.modify j λe=>{e with key:=QA (ek x),val:=v}) c->Qei (QbI ek ev l) es c\/SlB v c)/\
  (QjL (QbI ek ev l) es->(∀c,Qei (QbI ek ev l) es c->¬SlB v c)->QjL (QbI ek ev (Qdo l x rows)) (es.modify j λe=>{e with key:=QA (ek x),val:=v}))
 |[],es,j,e,h,hn,he,hk=>by cases(show es=[]from h);simp at he
 |p::l,es,j,e,h,hn,he,hk=>by
  obtain⟨e0,l',rfl,h1,h2,h3⟩:=h;have hk0:e0.key=QA (ek p.1):=VR.val (K.scl _) h1;simp only[Vk,List.nodup_cons]at hn;cases j with
  |zero=>
   simp only[XF,Option.some.injEq]at he;subst he;have hp:p.1=x:=K.inj _ _ (hk0.symm.trans hk);simp only[List.modify_zero_cons];have e0':Qdo l x rows=l:=QfZ K h3 λe he z=>hn.1 (by rw[hk, <- z];exact VH he);have e1:Qdo (p::l) x rows=(p.1,some rows)::l:=by
    have:Qdo (p::l) x rows=(p.1,some rows)::Qdo l x rows:=by simp[Qdo,hp]
    rw[this,e0']
   rw[e1];refine⟨⟨_,l',rfl,?_,?_,h3⟩,?_,?_⟩
   .show VR ro [] w (ek p.1) (QA (ek x));rw[<- hp];exact QbY (K.scl _)
   .intro b u;cases u;exact n
   .rintro c (⟨_,q⟩|q)
    .exact .inr q
    .exact .inl (.inr q)
   .rintro⟨m,d⟩ a;exact⟨λc _ q z=>a c (.inr z) q,d⟩
  |succ j=>
   simp only[XG]at he;have hp:p.1≠x:=by
    intro q;refine hn.1 (Xf.2 ⟨e,VI he,?_⟩);rw[hk,hk0,q]
   simp only[List.modify_succ_cons];obtain⟨s,f,r⟩:=MO.put n h3 hn.2 he hk;have e1:Qdo (p::l) x rows=p::Qdo l x rows:=by simp[Qdo,hp]
   rw[e1];refine⟨⟨_,_,rfl,h1,h2,s⟩,?_,?_⟩
   .rintro c (q|q)
    .exact .inl (.inl q)
    .exact(f c q).imp .inr id
   .rintro⟨m,d⟩ a;refine⟨λc g i z=>?_,r d λc y=>a c (.inr y)⟩;rcases f c z with z|z
    .exact m c g i z
    .exact a c (.inl ⟨g,i⟩) z
end
section
variable {P:Program} {o:Oper} {env:Env} {H:Qc}
variable {T kt et:Nat} {α β:Type} [DecidableEq α] {ek:α->A} {ev:β->List A} {x y zz:Operand} {i j t k n:Nat} {l m:List (α×Option (List β))} {key:α} {rows:List β}
end
end Go.Sw
namespace Go.Sw
open Go.MapKept
section
variable {fr ro:Nat->Prop} {σ:Sig} {H:Qc} {w:World}
end
section
variable {P:Program} {o:Oper} {env:Env} {H:Qc} {T kt et i t k:Nat} {x:Operand} {es:List (A×Option (List (List A)))}
end
section
variable {P:Program} {o:Oper} {env:Env} {H:Qc}
variable {T kt et:Nat} {α β:Type} [DecidableEq α] {ek:α->A} {ev:β->List A} {x y zz:Operand} {i j t k n:Nat} {l m:List (α×Option (List β))} {key:α} {rows:List β}
end
end Go.Sw
namespace Go.Sw
open Go.MapKept
section
variable {P:Program} {o:Oper} {env:Env} {H:Qc}
variable {T kt et:Nat} {α β:Type} [DecidableEq α] {ek:α->A} {ev:β->List A} {x y zz:Operand} {i j t k n:Nat} {l m:List (α×Option (List β))} {key:α} {rows:List β}
end
end Go.Sw
namespace Go.Sw
theorem Qnl{h0 d:Nat}{x y:A}{e:Env}{H:Qc}:Le h0 ((d,x)::(d,y)::e) H ((d,x)::e) H:=Le.env λs=>.inr (by
 simp only[lk];cases Nat.beq s d<;>rfl)
abbrev Kat:=List (Nat×Nat×Nat)
def QlG:Nat->Nat->List (Nat×Nat)
 |lo,0=>[(lo,lo)]
 |lo,n+1=>(lo,lo)::QlG (lo+1) n
def rgK(p:Nat×Nat×Nat):List (Nat×Nat):=bif Nat.beq p.1 1 then[(p.2.1,p.2.1+1)]else QlG p.2.1 (p.2.2-p.2.1)
def plK(cat:Kat):List (List (Nat×Nat)):=cat.map rgK
def rqK(bs:List Nat)(cat:Kat):List (List Nat):=cat.map λp=>bs.take p.2.1
def hsK(cat:Kat):List Bool:=cat.map λp=>Nat.beq p.1 1
def msK(bs:List Nat):List (List Nat):=(List.range (bs.length+1)).map bs.take
theorem QgH:∀(n lo:Nat),∀p∈QlG lo n,p.1=p.2
 |0,lo,p,h=>by cases h with|head=>rfl|tail _ h=>cases h
 |n+1,lo,p,h=>by
  rcases X7.1 h with rfl|h
  .rfl
  .exact QgH n _ p h
section
variable {P:Program} {T:TyX} {h0 N m:Nat} {bs:List Nat} {cat:Kat} {l:List Oper} {ds:List Nat} {env:Env} {H:Qc} {Hs:List Qc} {Q:Qx} {K:List Oper->Env->Qc->Prop}
def DobK(P:Program)(N:Nat)(cat:Kat)(l:List Oper)(ds:List Nat)(env:Env)(n:Nat)(Hs:List Qc)(zs:List A)(j:Nat):Prop:=
 ∀p∈(plK cat).getD j [],JA P N l ds zs env n n j (Hs.getD p.1 []) (Hs.getD p.2 [])
def DK(P:Program)(N m:Nat)(bs:List Nat)(cat:Kat)(l:List Oper)(ds:List Nat)(env:Env)(n:Nat)(K:List Oper->Env->Qc->Prop)(Hs:List Qc)(X:Qc)(r:List Oper)(xs:List A):Prop:=
 r=l.drop xs.length->∃ys Zs Y,xs.length+ys.length=m/\Hs.length+Zs.length=bs.length/\((∀Z∈Zs,n<=Z.length)/\(Hs.reverse++X::Zs).getD bs.length []=Y)/\(∀j,xs.length<=j->j<m->DobK P N cat l ds env n (Hs.reverse++X::Zs) (xs++ys) j)/\K (l.drop m) (Qaz ds (xs++ys) env) Y
theorem QpB{f:List A}{n:Nat}{Zs:List Qc}(a:cat.length=m)(g:∀j,0<=j->j<m->DobK P N cat l ds env n Zs f j):Qhp P N l ds f env n (n+0) 0 ((plK cat).map λq=>q.map λp=>(Zs.getD p.1 [],Zs.getD p.2 [])):=by
 refine Qho _ 0 λi s b p r=>?_;rw[Xq]at b;cases e:(plK cat)[i]? with
 |none=>rw[e]at b;cases b
 |some q=>
  rw[e]at b;cases b;obtain⟨k,d,rfl⟩:=Xf.1 r;have h:i<m:=by
   have:=(XM.1 e).1;simpa[plK,a]using this
  have:=g i (XV _) h k (by rw[Qke e];exact d);simpa using this
theorem Qnx{id:Nat}(m:Nat)(d:List Nat)(cat:Kat)(t:P.follows .mixedOrders=true)(u:Qd2 l m N (Qbg m 0 l) (hsK cat) (rqK d cat) (msK d) (plK cat)=true)(g:Nat.beq cat.length m=true)(j:Nat.ble h0 H.length=true)
  (h:DK P N m d cat l (Qbg m 0 l) env H.length (λr e H=>WO P h0 N l.toArray r e H Q) [] H l []):TC P h0 N (.region id l.toArray true) env H Q:=by
 obtain⟨s,Zs,Y,p,k,f,q,n⟩:=h rfl;simp only[List.length_nil,Xw,Vi,List.reverse_nil]at p k f q n;have a:=XR g;have b:(msK d).length=d.length+1:=by simp[msK]
 refine QbZ m 0 _ _ _ _ _ s (H::Zs) Y t u (by rw[p];exact VG m) (by rw[b];simp[k]) j ?_ (by simp) (by rw[b];exact f.2) (QpB a q) (by simp[plK,a]) n;rw[Xt];intro Z i;rcases X7.1 i with rfl|i
 .exact XT (XU _)
 .exact XT (f.1 Z i)
variable {n:Nat} {X X1:Qc} {xs:List A} {o:Oper} {r:List Oper} {x:A} {d:Nat}
theorem DK.done(d:Nat.beq xs.length m=true)(f:Nat.beq Hs.length bs.length=true)(h:K r (Qaz ds xs env) X):DK P N m bs cat l ds env n K Hs X r xs:=by
 intro b;have e:=XR d;have a:=XR f;subst b;refine⟨[],[],X,by simpa using e,by simpa using a,⟨(λZ hZ=>by cases hZ),?_⟩,λj i g=>by omega,?_⟩
 .rw[<- a,VM,XO (by simp)];simp
 .rw[<- e,Vh];exact h
theorem DK.add(h:∀ys Zs,l[xs.length]?=some o->DobK P N cat l ds env n (Hs.reverse++X::Zs) (xs++x::ys) xs.length)(k:DK P N m bs cat l ds env n K Hs X r (xs++[x])):DK P N m bs cat l ds env n K Hs X (o::r) xs:=by
 intro i;obtain⟨s,a⟩:=Qbh i;obtain⟨ys,Zs,Y,p,e,f,d,b⟩:=k (by simpa using a);simp only[X4,X2,List.length_nil,Vj,VL,Vi]at p d b;refine⟨x::ys,Zs,Y,by simp only[X2];omega,e,f,λj t g=>?_,b⟩;rcases VD xs.length j with q|q
 .exact d j (by omega) g
 .obtain rfl:j=xs.length:=by omega
  exact h ys Zs s
theorem Qeu{Zs:List Qc}{zs:List A}{j:Nat}{c:Nat×Nat×Nat}(b:YU cat j=some c)(h:∀p∈rgK c,JA P N l ds zs env n n j (Zs.getD p.1 []) (Zs.getD p.2 [])):DobK P N cat l ds env n Zs zs j:=by
 intro p a;rw[QaE]at b;unfold plK at a;rw[VM,Xq,b]at a;exact h p a
theorem Qg1{Zs:List Qc}{c:Nat}(a:Nat.beq c Hs.length=true):(Hs.reverse++X::Zs).getD c []=X:=by
 rw[XR a,VM,XO (by simp)];simp
theorem DK.wo{c:Nat}(h:WO P X.length N l.toArray [o] (Yp (Qg o) 0 ds xs env) X (Y1 (up (Yp (Qg o) 0 ds xs env) d x) X))(k:DK P N m bs cat l ds env n K Hs X r (xs++[x]))
  (b:YU cat xs.length=some (0,c,c):=by exact rfl)(hd:o.dst=some d:=by exact rfl)(hcH:Nat.beq c Hs.length=true:=by exact rfl):DK P N m bs cat l ds env n K Hs X (o::r) xs:=
 .add (λys Zs ho=>Qeu b λp a=>by
  have:p=(c,c):=by
   change p∈QlG c (c-c)at a;rw[Nat.sub_self]at a;exact VC.1 a
  subst this;rw[Qg1 hcH];exact QaD ho Y3 h hd) k
theorem YT{lo hi:Nat}(h:∀X,WO P X.length N l.toArray [o] (Yp (Qg o) 0 ds xs env) X (Y1 (up (Yp (Qg o) 0 ds xs env) d x) X))(k:DK P N m bs cat l ds env n K Hs X r (xs++[x]))
  (b:YU cat xs.length=some (0,lo,hi):=by exact rfl)(hd:o.dst=some d:=by exact rfl):DK P N m bs cat l ds env n K Hs X (o::r) xs:=
 .add (λys Zs ho=>Qeu b λp a=>by
  have e:p.1=p.2:=QgH _ _ p a;rw[<- e];exact QaD ho Y3 (h _) hd) k
theorem DK.op{c z:Nat}(h:WO P X.length N l.toArray [o] (Yp (Qg o) 0 ds xs env) X (Y1 (up (Yp (Qg o) 0 ds xs env) d x) X1))(k:DK P N m bs cat l ds env n K (X::Hs) X1 r (xs++[x]))(hl:Nat.ble n X1.length=true:=by exact rfl)
  (hc:YU cat xs.length=some (1,c,z):=by exact rfl)(hd:o.dst=some d:=by exact rfl)(hcH:Nat.beq c Hs.length=true:=by exact rfl):DK P N m bs cat l ds env n K Hs X (o::r) xs:=by
 intro w;obtain⟨B,b⟩:=Qbh w;obtain⟨s,Zs,Y,y,i,a,g,f⟩:=k (by simpa using b);simp only[X4,X2,List.length_nil,Vj,VL,Vi,List.reverse_cons]at y i a g f;refine⟨x::s,X1::Zs,Y,by simp only[X2];omega,by simp only[X2];omega,⟨λZ e=>?_,a.2⟩,λj G u=>?_,f⟩
 .rcases X7.1 e with rfl|e
  .exact XS hl
  .exact a.1 Z e
 .rcases VD xs.length j with q|q
  .exact g j (by omega) u
  .obtain rfl:j=xs.length:=by omega
   refine Qeu hc λp F=>?_;have:p=(c,c+1):=VC.1 F;subst this;have E:(Hs.reverse++X::X1::Zs).getD c []=X:=Qg1 hcH;have t:(Hs.reverse++X::X1::Zs).getD (c+1) []=X1:=by
    have:=Qg1 (X:=X1) (Zs:=Zs) (Hs:=X::Hs) (c:=c+1) (by rw[XR hcH];exact VG _);simpa using this
   simp only;rw[E,t];exact QaD B Y3 h hd
theorem DK.v(h:OpV P o (Yp (Qg o) 0 ds xs env) X x)(k:DK P N m bs cat l ds env n K Hs X r (xs++[x])){c:Nat}(hg:YV ⟨l⟩ o (Yp (Qg o) 0 ds xs env)=some true:=by exact rfl)
  (hd:o.dst=some d:=by exact rfl)(hN:Nat.blt d N=true:=by exact rfl)(hc:YU cat xs.length=some (0,c,c):=by exact rfl)(hcH:Nat.beq c Hs.length=true:=by exact rfl):DK P N m bs cat l ds env n K Hs X (o::r) xs:=
 .wo (QE (QZ hg) hd hN h (WO.nil Y1.mk)) k hc hd hcH
def allV(T:TyX)(o:Oper)(e:Env)(x:A):Nat->List Qc->Prop
 |0,_=>True
 |k+1,Y::r=>Qey T o e Y=some x/\allV T o e x k r
 |_+1,[]=>False
theorem QjS:∀(n lo:Nat),∀p∈QlG lo n,lo<=p.1/\p.1<=lo+n
 |0,lo,p,h=>by cases h with|head=>exact⟨XU _,XU _⟩|tail _ h=>cases h
 |n+1,lo,p,h=>by
  rcases X7.1 h with rfl|h
  .exact⟨XU _,Nat.le_add_right _ _⟩
  .have:=QjS n _ p h;omega
def allW(P:Program)(N:Nat)(l:List Oper)(o:Oper)(e:Env)(d:Nat)(x:A):Nat->List Qc->Prop
 |0,_=>True
 |k+1,Y::r=>WO P Y.length N l.toArray [o] e Y (Y1 (up e d x) Y)/\allW P N l o e d x k r
 |_+1,[]=>False
theorem Qks{e:Env}:∀{k:Nat} {r:List Qc},allW P N l o e d x k r->∀j,j<k->WO P (r.getD j []).length N l.toArray [o] e (r.getD j []) (Y1 (up e d x) (r.getD j []))
 |0,_,_,j,hj=>absurd hj (Xn _)
 |k+1,[],h,_,_=>h.elim
 |k+1,Y::r,h,0,_=>h.1
 |k+1,Y::r,h,j+1,hj=>by
  have:=Qks h.2 j (by omega);simpa using this
theorem DK.ws{lo hi:Nat}(h:allW P N l o (Yp (Qg o) 0 ds xs env) d x (hi+1-lo) (X::Hs))(k:DK P N m bs cat l ds env n K Hs X r (xs++[x]))
  (j:YU cat xs.length=some (0,lo,hi):=by exact rfl)(hd:o.dst=some d:=by exact rfl)(hcH:Nat.beq hi Hs.length=true:=by exact rfl)(hle:Nat.ble lo hi=true:=by exact rfl):DK P N m bs cat l ds env n K Hs X (o::r) xs:=
 .add (λys Zs ho=>Qeu j λp b=>by
  have e:p.1=p.2:=QgH _ _ p b;have a:=XS hle;have s:lo<=p.1/\p.1<=lo+(hi-lo):=QjS (hi-lo) lo p b;have i:=XR hcH;rw[<- e];have g:=Qks h (Hs.length-p.1) (by omega);have f:(Hs.reverse++X::Zs).getD p.1 []=(X::Hs).getD (Hs.length-p.1) []:=by
   rw[VM,VM];congr 1;rcases VD p.1 Hs.length with q|q
   .rw[XN (by simpa using q),List.getElem?_reverse q,show Hs.length-p.1=Hs.length-1-p.1+1 by omega,XG]
   .have:p.1=Hs.length:=by omega
    rw[this,XO (by simp)];simp
  rw[f];exact QaD ho Y3 g hd) k
theorem DK.vs(f:QbH P T){lo hi:Nat}(h:allV T o (Yp (Qg o) 0 ds xs env) x (hi+1-lo) (X::Hs))(k:DK P N m bs cat l ds env n K Hs X r (xs++[x]))
  (j:YU cat xs.length=some (0,lo,hi))(e:o.dst=some d)(b:Nat.beq hi Hs.length=true)(hg:YV ⟨l⟩ o (Yp (Qg o) 0 ds xs env)=some true)(i:Nat.blt d N=true)(a:Nat.ble lo hi=true):DK P N m bs cat l ds env n K Hs X (o::r) xs:=by
 refine DK.ws ?_ k j e b a;generalize hi+1-lo=c at h;generalize X::Hs=L at h
 induction c generalizing L with
 |zero=>trivial
 |succ c g=>
  cases L with
  |nil=>exact h.elim
  |cons Y L=>exact⟨QE (QZ hg) e i (Qbm f h.1) (WO.nil Y1.mk),g L h.2⟩
end
end Go.Sw
namespace Go.Sw
def room(n:Int):Option Nat:=bif decide (0<n)&&decide (n<=4294967296)then some n.toNat else none
section
variable {P:Program} {o:Oper} {env:Env} {H:Qc}
theorem RL.put{ro:Nat->Prop}{σ:Sig}{w:World}{k:Nat}:∀{a:Nat} {es fs:List (List A)} {l m:List Value},RL ro σ w k es l->a+fs.length<=es.length->Sw.allK k fs->LR ro σ w fs.flatten m->(∀v∈m,Qm v)->
  RL ro σ w k (es.take a++fs++es.drop (a+fs.length)) (Sw.splice l (a*k) m)
 |0,es,[],l,m,h,hn,hk,hm,hp=>by
  obtain rfl:m=[]:=hm;simpa[Sw.splice]using h
 |0,[],f::fs,l,m,h,hn,hk,hm,hp=>by simp at hn
 |0,c::es,f::fs,l,m,⟨l1,l2,h1,h2,h3,h4⟩,hn,hk,hm,hp=>by
  subst h1;have hl1:=h3.1.length;have hml:=hm.length;rw[Vm,X4]at hml;have e1:m.take k++m.drop k=m:=Xz _ _;have q1:LR ro σ w f (m.take k):=by have:=hm.take k;rwa [Vm,X8 (by rw[hk.1];exact XU _),VJ (by rw[hk.1];exact XU _)]at this
  have g:LR ro σ w fs.flatten (m.drop k):=by have:=hm.drop k;rwa [Vm,X9 (by rw[hk.1];exact XU _),List.drop_of_length_le (by rw[hk.1];exact XU _),Vi]at this
  have b:=RL.put (a:=0) h4 (by simpa using hn) hk.2 g (λv d=>hp v (List.mem_of_mem_drop d));simp only[List.take_zero,Vi,Xw,Nat.zero_mul,Sw.splice]at b⊢;refine⟨m.take k,m.drop k++l2.drop (m.drop k).length,?_,hk.1,⟨q1,λv d=>hp v (List.mem_of_mem_take d)⟩,by simpa using b⟩;have j:k<=m.length:=by rw[hml,hk.1];exact Nat.le_add_right _ _
  rw[<- Vj,e1];congr 1;rw[List.length_drop,show m.length=l1.length+(m.length-k)from by omega,Vb];have i:l1.length+(m.length-k)-k=m.length-k:=by omega
  rw[i]
 |a+1,[],fs,l,m,h,hn,hk,hm,hp=>by simp at hn
 |a+1,c::es,fs,l,m,⟨l1,l2,h1,h2,h3,h4⟩,hn,hk,hm,hp=>by
  subst h1;have hl1:=h3.1.length;have b:=RL.put (a:=a) h4 (by simp at hn;omega) hk hm hp;refine⟨l1,Sw.splice l2 (a*k) m,?_,h2,h3,?_⟩
  .have e1:(a+1)*k=l1.length+a*k:=by rw[Xm];omega
   unfold Sw.splice;rw[e1,Vc,show l1.length+a*k+m.length=l1.length+(a*k+m.length)from by omega,Vb];simp
  .have e:a+1+fs.length=(a+fs.length)+1:=by omega
   simpa[e]using b
def SrcP(P:Program)(H:Qc)(x:A)(k:Nat)(es:List (List A)):Prop:=
 ∀fr ro σ w v,Sim fr ro σ H w->VR ro σ w x v->(∃a c,v=.slice a es.length c)/\
  ∀j,j<=es.length->allK k (es.take j)/\ ∃l,(Builtin.firstCells k j v).run P w=.ok l.toArray w/\LR ro [] w (es.take j).flatten l/\ ∀v∈l,Qm v
theorem Qi2{fr ro:Nat->Prop}{σ:Sig}{w:World}{k j b off n c:Nat}{es:List (List A)}(h:RR ro [] w b k es off)(d:j<=es.length):
  allK k (es.take j)/\ ∃l,(Builtin.firstCells k j (.slice (some ⟨b,off,none⟩) n c)).run P w=.ok l.toArray w/\LR ro [] w (es.take j).flatten l/\ ∀v∈l,Qm v:=by
 obtain⟨i,e,a⟩:=(h.take j).flat;rw[Xy,XB d]at a;obtain⟨l,f,g⟩:=Qb5 (P:=P) (n:=j) (c:=c) i a;refine⟨e,l,?_,g⟩;exact f w rfl
theorem QeF{k n c:Nat}{a:Option Addr}{w:World}:(Builtin.firstCells k 0 (.slice a n c)).run P w=.ok #[] w:=by
 cases a<;>simp[Builtin.firstCells,loadCells,loadCellsFrom,go_sem]
theorem SrcP.osl{i s n k t:Nat}{es es':List (List A)}(hH:H[i]?=some (.row t k es))(he:(es.drop s).take n=es')(z:s+n<=es.length):SrcP P H (.osl i s n k) k es':=by
 intro fr E σ w v sm h;have d:es'.length=n:=by rw[<- he];simp;omega
 rcases h with⟨rfl,rfl⟩|⟨b,p,a,F,m,u,rfl,q,B,J,G⟩
 .have e:es'=[]:=VK.1 d;subst e;refine⟨⟨none,0,rfl⟩,λj f=>?_⟩;obtain rfl:j=0:=by simpa using f
  exact⟨trivial,[],QeF,rfl,by simp⟩
 .rw[d];refine⟨⟨_,a,rfl⟩,λj f=>?_⟩;obtain⟨l,y,r⟩:=sm.blk i _ _ u hH;have g:=((YI (pre:=[]) (by simpa using y) r).drop s).take n;rw[he]at g;by_cases x:0<a
  .obtain rfl:=q x;simpa using Qi2 (P:=P) (fr:=fr) (σ:=σ) (n:=n) (c:=a) g (by rw[d];exact f)
  .obtain rfl:j=0:=by omega
   exact⟨trivial,[],QeF,rfl,by simp⟩
end
end Go.Sw
namespace Go.Sw
open Go.MapKept
section
variable {fr ro ro':Nat->Prop} {σ:Sig} {H:Qc} {w:World}
end
end Go.Sw
namespace Go.Sw
section
variable {P:Program} {o:Oper} {env:Env} {H:Qc} {α:Type} {e:α->List A}
end
end Go.Sw
namespace Go.Sw
open Go.MapKept
section
variable {P:Program} {o:Oper} {env:Env} {H:Qc}
theorem QjI{T:Nat}(b:o.op=.makeMap T none:=by exact rfl):OpH P o env H (.map H.length) (H++[.mapP []]):=by
 intro e d σ N a w r;refine⟨.map (some w.heap.size),w.alloc (.map #[] 0),d,[some w.heap.size],?_,⟨w.heap.size,?_,rfl⟩,r.sim.alloc ⟨#[],0,Q9 _ _,rfl,by simp,by simp,by simp⟩,Qe.alloc _ r.sim.roLt r.sim.frLt⟩
 .generalize a.eval=ρ at*;simp only[execOp,b,Instr.makeMap,Xl,Vn];rfl
 .rw[<- r.sim.len];simp
variable {T kt et:Nat} {α β:Type} [DecidableEq α] {ek:α->A} {ev:β->A} {x y:Operand} {i:Nat} {l:List (α×β)} {k:α} {z0:β} {z:Value}
theorem QcG(K:Y6 P kt ek){v:β}(m:YD l k=some v)(M:P.underlying T=some (.map kt et))
  (O:o.op=.lookup T x y false:=by exact rfl)(hx:opA env x=.map i:=by exact rfl)(hH:H[i]?=some (.mapP (Qk ek ev l)):=by exact rfl)(hy:opA env y=ek k:=by exact rfl):OpV P o env H (ev v):=by
 intro V R σ N a w r;have q:=Qd r x;rw[hx]at q;obtain⟨b,s,E⟩:=q;have h:=Qd r y;rw[hy]at h;have z:=VR.val (K.scl _) h;obtain⟨J,f,t,g,X,Y,B⟩:=r.sim.blk i _ _ s hH;obtain⟨u,L⟩:=ER.find K g k B;rcases K.find w k J.toList (Qbl K g)with⟨p,d⟩|⟨j,e,p,d,G⟩
 .have:=(u d).1;rw[m]at this;cases this
 .obtain⟨W,Q,n,F⟩:=L j e d G;rw[m]at n;obtain rfl:=X0 n;refine⟨e.val,?_,F⟩;simp only[execOp,O,E,z,Instr.lookup,Vn,run_underlying M,Result.andThen,MapKept.run_getObj_map t,Vp,K.check,p];rfl
theorem QjF(K:Y6 P kt ek)(F:YD l k=none)(L:P.underlying T=some (.map kt et))(s:∀w,(zeroValue et).run P w=.ok (.pointer none) w)
  (M:o.op=.lookup T x y false:=by exact rfl)(hx:opA env x=.map i:=by exact rfl)(hH:H[i]?=some (.mapP (Qk ek ev l)):=by exact rfl)(hy:opA env y=ek k:=by exact rfl):OpV P o env H .nilp:=by
 intro R Q σ N a w r;have p:=Qd r x;rw[hx]at p;obtain⟨b,q,B⟩:=p;have h:=Qd r y;rw[hy]at h;have u:=VR.val (K.scl _) h;obtain⟨G,d,t,g,Y,p4,z⟩:=r.sim.blk i _ _ q hH;obtain⟨V,J⟩:=ER.find K g k z;rcases K.find w k G.toList (Qbl K g)with⟨n,f⟩|⟨j,e,n,f,E⟩
 .refine⟨.pointer none,?_,rfl⟩;simp only[execOp,M,B,u,Instr.lookup,Vn,run_underlying L,Result.andThen,MapKept.run_getObj_map t,Vp,K.check,n,s];rfl
 .obtain⟨W,O,m,X⟩:=J j e f E;rw[F]at m;cases m
theorem Qlt(K:Y6 P kt ek){v:β}{zz:Operand}(Y:YD l k=none)(hT:P.underlying T=some (.map kt et))
  (ho:o.op=.mapUpdate T x y zz:=by exact rfl)(hx:opA env x=.map i:=by exact rfl)(hH:H[i]?=some (.mapP (Qk ek ev l)):=by exact rfl)(n:opA env y=ek k:=by exact rfl)(hv:opA env zz=ev v:=by exact rfl):
  OpU P o env H (H.set i (.mapP (Qk ek ev (l++[(k,v)])))):=by
 intro fr R σ N a w r;have Q:=Qd r x;rw[hx]at Q;obtain⟨b,E,W⟩:=Q;have F:=Qd r y;rw[n]at F;have V:=VR.val (K.scl _) F;have B:=Qd r zz;rw[hv]at B;obtain⟨J,f,t,u,L,p4,G⟩:=r.sim.blk i _ _ E hH;obtain⟨f1,f2⟩:=ER.find K u k G;have z:∀(obj:Obj) y,w.shape? b=some y->({w with heap:=w.heap.setIfInBounds b obj}:World).shape? b=some y:=by
  intro obj y n;unfold World.shape? at n;rw[t]at n;simp at n
 rcases K.find w k J.toList (Qbl K u)with⟨O,p⟩|⟨j,e,O,p,X⟩
 .have g:=r.sim.set (x':=.mapP (Qk ek ev (l++[(k,v)]))) (obj:=.map (J.push {key:=QA (ek k),val:=a.eval zz,born:=f}) (f+1)) E hH rfl (z _)
   (λe h=>⟨_,_,h,by
    rw[Qk,Xg,Array.toList_push];exact(u.mono e).append ⟨_,_,rfl,(QbY (K.scl _)),B.mono e,rfl⟩,by
    rw[Array.toList_push];intro e h;rcases VE.1 h with q|q
    .exact Nat.lt_succ_of_lt (L e q)
    .simp at q;subst q;exact Xo _,by
    rw[Array.toList_push,Xg];refine List.nodup_append.2 ⟨p4,by simp,?_⟩;intro c s d m;simp at m;subst m;obtain⟨e,h,rfl⟩:=Xf.1 s;exact Nat.ne_of_lt (L e h),by
    rw[Array.toList_push,Xg];refine List.nodup_append.2 ⟨G,by simp,?_⟩;intro c s d m;simp at m;subst m;obtain⟨e,h,rfl⟩:=Xf.1 s;exact p e h⟩)
  refine⟨_,R,[],?_,by simpa using g.1,g.2⟩;simp only[execOp,ho,W,V,Vn,Instr.mapUpdate,run_underlying hT,Result.andThen,MapKept.run_getObj_map t,K.check,O,MapKept.run_setObj_map _ t];rfl
 .obtain⟨u1,v',M,u3⟩:=f2 j e p X;rw[Y]at M;cases M
end
section
variable {fr ro:Nat->Prop} {σ:Sig} {H:Qc} {w:World}
theorem Sim.shutAny(s:Sim fr ro σ H w){i b:Nat}{n:Blk}(hσ:σ[i]?=some (some b))(hH:H[i]?=some n)(hl:n.live=true):
  Sim fr (λc=>ro c\/c=b) σ (H.set i .dead) w:=by
 have g:b<w.heap.size/\ ¬ro b/\ ¬fr b:=s.own i b _ hσ hH hl;have ext:Ext ro σ w (λc=>ro c\/c=b) σ w:=⟨λ_ q=>.inl q,λ_ _=>rfl,λ_ _ q=>q,λ_ _ q=>q⟩;have a:∀(j:Nat) (v:Blk),(H.set i .dead)[j]?=some v->v≠ .dead->j≠i/\H[j]?=some v:=by
  intro j v h m;by_cases e:j=i
  .subst e;rw[Xb]at h;simp only[if_true]at h;split at h
   .cases h;exact absurd rfl m
   .simp at h
  .rw[XQ (λq=>e q.symm)]at h;exact⟨e,h⟩
 refine⟨by rw[X5];exact s.len,s.roOk.to (λ_ q=>.inl q) (λ_ _=>rfl) ?_,s.frLt,?_,?_,?_,?_,s.hidTo (· = ·) QW (XU _) (λj d x c G M z F=>F.elim id λq=>((s.hid j d x c G M z).ne i b _ hσ hH hl q).elim) (λ_ _ _ _ _ _ _ q=>q) λj d y P B N=>.inl ⟨j,y,rfl,P,(a j y B (Qev N)).2,id,λ_ q=>q⟩⟩
 .rintro c (q|rfl)
  .exact s.roLt c q
  .exact g.1
 .rintro c (q|rfl)
  .exact s.roFr c q
  .exact g.2.2
 .intro j c v k f l;obtain⟨e,f⟩:=a j v f (Qay l);obtain⟨J,L,O⟩:=s.own j c v k f l;refine⟨J,?_,O⟩;rintro(q|rfl)
  .exact L q
  .exact e (s.inj j i c v _ k hσ f hH l hl)
 .intro j r c v p k f l E u t;exact s.inj j r c v p k f (a j v l (Qay u)).2 (a r p E (Qay t)).2 u t
 .intro j y v k f;by_cases m:v≠ .dead
  .exact(s.blk j y v k (a j v f m).2).keep ext (λ_ _ _=>rfl) (λ_ _ _ _=>rfl)
  .obtain rfl:v=.dead:=Classical.not_not.1 m;trivial
def QbR(H:Qc):List Nat->Qc
 |[]=>H
 |i::l=>QbR (H.set i .dead) l
theorem Qf4{l:List Nat}:∀{H:Qc} {j:Nat},j∉l->(QbR H l)[j]?=H[j]? :=by
 induction l with
 |nil=>intro H j _;rfl
 |cons i l a=>
  intro H j hj;rw[X7,not_or]at hj;unfold QbR;rw[a hj.2,XQ (λq=>hj.1 q.symm)]
theorem QdG:∀{l:List Nat} {ro:Nat->Prop} {H:Qc} (s:Sim fr ro σ H w),l.Nodup->(∀i∈l,∃x,H[i]?=some x/\x.live=true)->
  ∃ro',Sim fr ro' σ (QbR H l) w/\(∀c,ro c->ro' c)/\ ∀i∈l,∀b,σ[i]?=some (some b)->ro' b
 |[],ro,H,s,_,_=>⟨ro,s,λ_ q=>q,λ_ h=>by cases h⟩
 |i::l,ro,H,s,hn,hl=>by
  rw[List.nodup_cons]at hn;obtain⟨x,hx,hxl⟩:=hl i (by simp);have rest:∀i'∈l,∃x,(H.set i .dead)[i']?=some x/\x.live=true:=by
   intro i' a;obtain⟨y,r,g⟩:=hl i' (X6 _ a);exact⟨y,by rw[XQ (λq=>hn.1 (by rw[q];exact a))];exact r,g⟩
  have n:∃q,σ[i]?=some q:=by
   have:i<σ.length:=by rw[s.len];exact(XM.1 hx).1
   exact⟨_,XL this⟩
  obtain⟨q,j⟩:=n;cases q with
  |some b=>
   obtain⟨ro',m,e,k⟩:=QdG (s.shutAny j hx hxl) hn.2 rest;refine⟨ro',m,λc p=>e c (.inl p),λi' a f d=>?_⟩;rcases X7.1 a with rfl|a
   .rw[j]at d;cases d;exact e _ (.inr rfl)
   .exact k i' a f d
  |none=>
   obtain⟨ro',m,e,k⟩:=QdG (s.kill i) hn.2 rest;refine⟨ro',m,e,λi' a f d=>?_⟩;rcases X7.1 a with rfl|a
   .rw[j]at d;cases d
   .exact k i' a f d
end
end Go.Sw
namespace Go.Sw
structure Fil (α β:Type) where
 number:Int
 r0:List α
 r1:List α
 r2:List α
 reports:List β
 appeal:Bool
 deriving DecidableEq
structure FK (α β:Type) where
 T:Nat
 tF:Nat
 kF:Nat
 tR:Nat
 kR:Nat
 eF:α->List A
 eR:β->List A
section
variable {α β:Type} (K:FK α β)
def Qmz(b:Nat)(x:Fil α β):List A:=[.int .i64 x.number,.osl (b+1) 0 x.r0.length K.kF,.osl (b+2) 0 x.r1.length K.kF,.osl (b+3) 0 x.r2.length K.kF,.osl (b+4) 0 x.reports.length K.kR,.bool x.appeal]
def Qkh(b:Nat)(x:Fil α β):List Blk:=[.cells K.T (Qmz K b x),.row K.tF K.kF (x.r0.map K.eF),.row K.tF K.kF (x.r1.map K.eF),.row K.tF K.kF (x.r2.map K.eF),.row K.tR K.kR (x.reports.map K.eR)]
def fall:Nat->List (Fil α β)->List Blk
 |_,[]=>[]
 |b,x::l=>Qkh K b x++fall (b+5) l
def frp(x:Fil α β):List A:=[.int .i64 x.number,.rsl K.kF (x.r0.map K.eF),.rsl K.kF (x.r1.map K.eF),.rsl K.kF (x.r2.map K.eF),.rsl K.kR (x.reports.map K.eR),.bool x.appeal]
def fent:Nat->List (Fil α β)->List (Int×Nat)
 |_,[]=>[]
 |b,x::l=>(x.number,b)::fent (b+5) l
def Qeb(j:Nat):A:=.ptr j 0
def rpE(x:Fil α β):A:=.rp (frp K x)
def Qef(fs:List (Fil α β)):List (Int×Fil α β):=fs.map λx=>(x.number,x)
theorem Qge(b:Nat)(x:Fil α β)(l:List (Fil α β)):fall K b (x::l)=Qkh K b x++fall K (b+5) l:=rfl
theorem Qgd(b:Nat)(x:Fil α β):(Qkh K b x).length=5:=rfl
end
section
variable {fr ro ro':Nat->Prop} {σ:Sig} {w:World}
theorem Qa1(sub:∀c,ro c->ro' c){i t k:Nat}{es:List (List A)}{v:Value}(j:∀b,σ[i]?=some (some b)->BR ro σ w (.row t k es) (some b)/\ro' b)(h:VR ro σ w (.osl i 0 es.length k) v):VR ro' [] w (.rsl k es) v:=by
 rcases h with⟨u,h⟩|⟨b,p,a,y,m,r,h,f,e,B,z⟩
 .have:es=[]:=VK.1 u;subst this;exact⟨none,0,h,XU _,.inl rfl⟩
 .refine⟨_,a,h,e,?_⟩;by_cases d:es=[]
  .exact .inl d
  .right;have s:0<a:=Vg (List.length_pos_iff.2 d) e;obtain rfl:=f s;obtain⟨⟨l,x,g⟩,n⟩:=j b r;refine⟨b,0,by simp,n,?_⟩;have:=YI (pre:=[]) (by simpa using x) g;exact this.keep ⟨sub,λ_ _=>rfl,λ_ _ q=>q,λ_ _ q=>q⟩ rfl
theorem Qhu{ro:Nat->Prop}{w:World}{b t:Nat}:∀{cs:List A} {pre l:List Value},w.heap[b]?=some (.cells (pre++l).toArray t (0,0))->LR ro [] w cs l->(∀v∈l,Qm v)->CR ro [] w b cs pre.length
 |[],pre,l,_,_,_=>trivial
 |a::cs,pre,l,hb,hl,hp=>by
  obtain⟨v,l',rfl,h1,h2⟩:=hl;refine⟨⟨v,?_,hp v (by simp),h1⟩,?_⟩
  .unfold World.cell?;rw[hb];simp
  .have:=Qhu (pre:=pre++[v]) (l:=l') (by simpa using hb) h2 λu hu=>hp u (X6 _ hu);simpa using this
variable {α β:Type} (K:FK α β)
theorem Qoa(sub:∀c,ro c->ro' c){b:Nat}{x:Fil α β}{v:Value}(f:∀(d c:Nat) (y:Blk),(Qkh K b x)[d]?=some y->σ[b+d]?=some (some c)->BR ro σ w y (some c)/\ro' c)(h:VR ro σ w (.ptr b 0) v):VR ro' [] w (.rp (frp K x)) v:=by
 obtain⟨c,E,n⟩:=h;obtain⟨⟨l,B,a,r⟩,j⟩:=f 0 c _ rfl E;refine⟨c,0,n,j,?_⟩;refine Qhu (pre:=[]) (by simpa using B) ?_ r;unfold Qmz at a;obtain⟨v0,J,rfl,u,a⟩:=a;obtain⟨q,O,rfl,m,a⟩:=a;obtain⟨s,M,rfl,p,a⟩:=a;obtain⟨G,H,rfl,i,a⟩:=a;obtain⟨F,L,rfl,k,a⟩:=a;obtain⟨z,N,rfl,g,a⟩:=a;refine⟨v0,_,rfl,u,q,_,rfl,Qa1 sub (t:=K.tF) (λc e=>f 1 c _ rfl e) (by simpa using m),s,_,rfl,Qa1 sub (t:=K.tF) (λc e=>f 2 c _ rfl e) (by simpa using p),G,_,rfl,Qa1 sub (t:=K.tF) (λc e=>f 3 c _ rfl e) (by simpa using i),
  F,_,rfl,Qa1 sub (t:=K.tR) (λc e=>f 4 c _ rfl e) (by simpa using k),z,_,rfl,g,a⟩
theorem Qnu(sub:∀c,ro c->ro' c){ek:Int->A}(hek:∀(k:Int) (v:Value),VR ro σ w (ek k) v->VR ro' [] w (ek k) v):∀{b:Nat} {fs:List (Fil α β)} {es:List MapEntry},(∀(d c:Nat) (y:Blk),(fall K b fs)[d]?=some y->σ[b+d]?=some (some c)->BR ro σ w y (some c)/\ro' c)->
  ER ro σ w (Qk ek Qeb (fent b fs)) es->ER ro' [] w (Qk ek (rpE K) (Qef fs)) es
 |b,[],es,_,h=>h
 |b,x::l,es,hb,h=>by
  obtain⟨e,l',rfl,h1,h2,h3⟩:=h;refine⟨e,l',rfl,hek _ _ h1,?_,?_⟩
  .refine Qoa K sub (λd c y hy hc=>hb d c y ?_ hc) h2;rw[Qge,XN (XM.1 hy).1];exact hy
  .refine Qnu sub hek (b:=b+5) (fs:=l) (λd c y hy hc=>hb (d+5) c y ?_ (by rw[show b+(d+5)=b+5+d by omega];exact hc)) h3;rw[Qge,XO (by rw[Qgd];omega),Qgd,Nat.add_sub_cancel];exact hy
end
section
variable {fr ro:Nat->Prop} {σ:Sig} {w:World} {α β:Type} (K:FK α β)
theorem Sim.shutMapP{H:Qc}(s:Sim fr ro σ H w){i b:Nat}{es es':List (A×A)}(hσ:σ[i]?=some (some b))(hH:H[i]?=some (.mapP es))(he:∀l,ER ro σ w es l->ER (λc=>ro c\/c=b) [] w es' l):
  Sim fr (λc=>ro c\/c=b) σ (H.set i (.fmap es')) w:=by
 have k:b<w.heap.size/\ ¬ro b/\ ¬fr b:=s.own i b _ hσ hH rfl;have ext:Ext ro σ w (λc=>ro c\/c=b) σ w:=⟨λ_ q=>.inl q,λ_ _=>rfl,λ_ _ q=>q,λ_ _ q=>q⟩;have a:∀(j:Nat) (v:Blk),(H.set i (.fmap es'))[j]?=some v->v.live=true->j≠i/\H[j]?=some v:=by
  intro j v h u;by_cases e:j=i
  .subst e;rw[Xb]at h;simp only[if_true]at h;split at h
   .cases h;simp[Blk.live]at u
   .simp at h
  .rw[XQ (λq=>e q.symm)]at h;exact⟨e,h⟩
 have g:∀(j:Nat) (v:Blk),(H.set i (.fmap es'))[j]?=some v->v.holds=true->H[j]?=some v:=by
  intro j v h u;by_cases e:j=i
  .subst e;rw[Xb]at h;simp only[if_true]at h;split at h
   .cases h;cases u
   .simp at h
  .rw[XQ (λq=>e q.symm)]at h;exact h
 refine⟨by rw[X5];exact s.len,s.roOk.to (λ_ q=>.inl q) (λ_ _=>rfl) ?_,s.frLt,?_,?_,?_,?_,s.hidTo (· = ·) QW (XU _) (λj d x c O P J N=>N.elim id λq=>((s.hid j d x c O P J).ne i b _ hσ hH rfl q).elim) (λ_ _ _ _ _ _ _ q=>q) λj d y R L Q=>.inl ⟨j,y,rfl,R,g j y L Q,id,λ_ q=>q⟩⟩
 .rintro c (q|rfl)
  .exact s.roLt c q
  .exact k.1
 .rintro c (q|rfl)
  .exact s.roFr c q
  .exact k.2.2
 .intro j c v m f p;obtain⟨e,f⟩:=a j v f p;obtain⟨r,t,z⟩:=s.own j c v m f p;refine⟨r,?_,z⟩;rintro(q|rfl)
  .exact t q
  .exact e (s.inj j i c v _ m hσ f hH p rfl)
 .intro j E c v B m f p M G F;exact s.inj j E c v B m f (a j v p G).2 (a E B M F).2 G F
 .intro j y v m f;by_cases e:j=i
  .subst e;rw[Xa (XM.1 hH).1]at f;cases f;rw[hσ]at m;cases m;obtain⟨l,n,r,t,z⟩:=s.blk j _ _ hσ hH;exact⟨.inr rfl,l,n,r,he _ t,z⟩
  .rw[XQ (λq=>e q.symm)]at f;exact(s.blk j y v m f).keep ext (λ_ _ _=>rfl) (λ_ _ _ _=>rfl)
end
end Go.Sw
namespace Go.Sw
open Go.Sort Go.Proofs Go.Shelf
theorem Ql7{α:Type}{l:List α}(h:l.length=1):∃v,l=[v]:=by
 match l,h with
 |[v],_=>exact⟨v,rfl⟩
theorem Qe2{α β:Type}(f:α->β):∀l:List α,(l.map λa=>[f a]).flatten=l.map f
 |[]=>rfl
 |a::l=>by simp[Qe2 f l]
structure Elt1 (ro:Nat->Prop) (w:World) {T:Type} (ea:T->A) (l:List T) where
 x:T
 v:Value
 mem:x∈l
 rel:VR ro [] w (ea x) v
 plain:Qm v
theorem Qoh{P:Program}{ρ:Ren}(L0:SlLaysF0.n6 P ρ){T:Type}[DecidableEq T]{ea:T->A}{t g:Nat}{cap:List A}{l l':List T}{cf:T->T->Option Int}(hs:QbL cf l=some l')
  (a5:∀x y c,cf x y=some c->C P g ([ea x,ea y]++cap) [] (λa H=>a=.int .i64 c/\H=[]))
  (aE:∀w,(isAgg (ρ.t 24)).run P w=.ok false w)(zE:∀w,(Go.sizeOf (ρ.t 24)).run P w=.ok 1 w)(eg:∀args w,(callFunc g args).run P w=.ok (.enter g args) w)(hd:Yc cap=true):
  C P (ρ.f 6) [.osl 0 0 l.length 1,.fn (.func g) [] cap] [.row t 1 (l.map λx=>[ea x])] (λa H=>a=.tup []/\H=[.row t 1 (l'.map λx=>[ea x])]):=by
 have L:SlLaysF.n6 P ρ:={L0 with a24:=aE,z24:=zE};intro fr E σ vals w s hv;obtain⟨vs,r1,rfl,bp,vf,r2,rfl,bf,hr⟩:=hv;cases(show r2=[]from hr);obtain⟨lf,lc,rfl,h1,a6⟩:=bf;cases(show lf=[]from h1);have an:LR E [] w cap lc:=LR.data hd a6;obtain⟨a9,af,Q,aq,az⟩:=QcI hs;have B:∀(ad:Option Addr) (c:Nat),vs=.slice ad 0 c->l=[]->
   Calls P (ρ.f 6) [vs,.func (.func g) #[] lc.toArray].toArray w λe w'=>∃v r H' ab τ,e=.returned v/\(r=.tup []/\H'=[.row t 1 (l'.map λx=>[ea x])])/\Sim fr ab (σ++τ) H' w'/\VR ab (σ++τ) w' r v/\Qe fr E w ab w':=by
  rintro ad c rfl rfl;have ac:l'=[]:=by rw[<- az];rfl
  subst ac;refine(AnyF.slices_SortFunc_none L0 ad c (.func (.func g) #[] lc.toArray) w).mono ?_;rintro e w' ⟨rfl,rfl⟩;exact⟨_,_,_,E,[],rfl,⟨rfl,rfl⟩,by simpa using s,⟨[],rfl,rfl⟩,Qe.refl _ _ _⟩
 rcases bp with⟨h0,rfl⟩|⟨b,p,cp,t',m,q1,rfl,q2,q3,q4,q5⟩
 .exact B none 0 rfl (VK.1 h0)
 .by_cases ac:l=[]
  .subst ac;exact B _ cp rfl rfl
  .have bi:0<l.length:=List.length_pos_iff.2 ac;obtain rfl:=q2 (Vg bi q3);obtain⟨lv,e1,e2⟩:=s.blk 0 _ _ q1 rfl;obtain⟨hb,ai,aw⟩:=s.own 0 b _ q1 rfl rfl;obtain⟨R,G,a3,rfl,bm⟩:=RL.parts e2
   let α:=Elt1 E w ea l
   have av:∀p∈R,p.1∈l:=λp hp=>by rw[<- a3];exact VH hp
   have ba:∀p∈R,∃v,p.2=[v]/\VR E [] w (ea p.1) v/\Qm v:=by
    intro p hp;obtain⟨g1,g2,g3⟩:=bm p hp;obtain⟨v,e⟩:=Ql7 g1;rw[e]at g2 g3;obtain⟨v',l',e',g4,g5⟩:=g2;cases e';exact⟨v,e,g4,g3 v (by simp)⟩
   let val:List Value->Value:=λl=>l.headD .nilFunc
   have X:∀p∈R,p.2=[val p.2]/\VR E [] w (ea p.1) (val p.2)/\Qm (val p.2):=by
    intro p hp;obtain⟨v,e,g⟩:=ba p hp;rw[e];exact⟨rfl,g⟩
   let ds:List α:=R.attach.map λp=>⟨p.1.1,val p.1.2,av _ p.2,(X _ p.2).2.1,(X _ p.2).2.2⟩
   have ay:∀{γ:Type} (f:T×List Value->γ),R.attach.map (λp=>f p.1)=R.map f:=λf=>by simp
   have J:ds.map (·.x)=l:=by
    show(R.attach.map _).map _=_;rw[List.map_map];exact(ay (·.1)).trans a3
   have a2:ds.map (·.v)=R.map λp=>val p.2:=by
    show(R.attach.map _).map _=_;rw[List.map_map];exact ay λp=>val p.2
   have ao:ds.length=l.length:=by rw[<- J];simp
   have a7:ds≠[]:=by intro q;rw[q]at ao;simp at ao;omega
   let inh:Inhabited α:=⟨ds.head a7⟩
   let enc':α->Value:=λa=>a.v
   let cf':α->α->Int:=λx y=>(cf x.x y.x).getD 0
   have ae:∀x y:α,ltOf cf' x y=ltO cf x.x y.x:=by
    intro x y;obtain⟨c,u⟩:=af x.x x.mem y.x y.mem;simp only[ltOf,ltO,cf',u,Option.getD_some]
   have hO:SWO (ltOf cf'):=⟨λx=>by rw[ae];exact Q.irrefl _ x.mem,λx y z a b=>by rw[ae]at*;exact Q.trans _ x.mem _ y.mem _ z.mem a b,
    λx y z a b=>by rw[ae]at*;exact Q.ntrans _ x.mem _ y.mem _ z.mem a b⟩
   have bc:(R.map (·.2)).flatten=ds.map enc':=by
    have e3:R.map (·.2)=(R.map λp=>val p.2).map λv=>[v]:=by
     rw[List.map_map];exact List.map_congr_left λp hp=>(X p hp).1
    rw[e3, <- a2];have:=Qe2 (λv:Value=>v) (ds.map (·.v));rw[this];simp[enc']
   rw[bc]at e1;have hH:Holds enc' w b 0 ds.toArray:=by
    intro j hj;simp only[List.size_toArray]at hj;constructor
    .unfold World.cell?;simp only[e1,Option.isSome_none,Xj,if_false,Xw];rw[Qad,XN (by simpa using hj),Xq,QeZ _ _ hj];rfl
    .unfold World.frozen?;simp only[e1];simp
   have ar:∀(d:Array α),d.size=ds.toArray.size->(putRow enc' w b 0 d).heap=w.heap.setIfInBounds b (.cells ((d.toList.map enc'++G)).toArray t (0,0)):=by
    intro d k;have al:(d.toList.map enc').length=(ds.map enc').length:=by simp at k⊢;rw[k]
    unfold putRow mapBlock;show w.heap.modify b _=_;rw[Qbc e1];simp only[onCells];congr 2;unfold putCells;apply Array.ext_getElem?;intro i;simp only[Array.getElem?_mapIdx,Qad,XV,true_and,Xw,Xv];by_cases hi:i<d.size
    .have aa:i<(d.toList.map enc').length:=by simpa using hi
     rw[XN aa,XN (by rw[<- al];exact aa),XL (by rw[<- al];exact aa),XL aa];simp only[Xk,Vu hi];congr 1;rw[getElem!_pos d i hi];simp
    .have aa:¬i<(d.toList.map enc').length:=by simpa using hi
     rw[XO (by omega),XO (by omega),al];cases(G[i-(ds.map enc').length]?)with
     |none=>rfl
     |some v=>exact congrArg some (Vt hi)
   have M:∀(m:Nat) (os:Array Obj) (d:Array α),d.size=ds.toArray.size->
     (∀c,c<w.heap.size->c≠b->(sortWorld enc' w b 0 m d os).heap[c]?=w.heap[c]?)/\(sortWorld enc' w b 0 m d os).heap[b]?=some (.cells ((d.toList.map enc'++G)).toArray t (0,0))/\
     w.heap.size<=(sortWorld enc' w b 0 m d os).heap.size:=by
    intro m os d k;have e:(sortWorld enc' w b 0 m d os).heap=w.heap.setIfInBounds b (.cells ((d.toList.map enc'++G)).toArray t (0,0))++os:=by
     rw[<- ar d k];rfl
    rw[e];refine⟨λc u bj=>?_,?_,by simp⟩
    .rw[Array.getElem?_append_left (by simpa using u),Vf,Vt (λq=>bj q.symm)]
    .rw[Array.getElem?_append_left (by simpa using hb),Vf,Vu rfl,Vu hb]
   have N:∀(m:Nat) (os:Array Obj) (d:Array α),d.size=ds.toArray.size->∀c y,w.shape? c=some y->(sortWorld enc' w b 0 m d os).shape? c=some y:=by
    intro m os d k c y hy;obtain⟨g1,g2,g3⟩:=M m os d k;by_cases u:c=b
    .subst u;unfold World.shape? at hy⊢;rw[e1]at hy;rw[g2];simp only[Option.some.injEq]at hy⊢;rw[<- hy];congr 1;simp only[List.size_toArray,X4,X3];simp at k⊢;rw[k]
    .unfold World.shape? at hy⊢;rw[g1 c (QbM hy) u];exact hy
   have ah:∀(m:Nat) (os:Array Obj) (d:Array α),d.size=ds.toArray.size->∀τ,Ext E τ w E τ (sortWorld enc' w b 0 m d os):=by
    intro m os d k τ;obtain⟨g1,g2,g3⟩:=M m os d k;exact⟨λ_ q=>q,λc u=>g1 c (s.roLt c u) (λq=>ai (q▸u)),N m os d k,λ_ _ q=>q⟩
   have bl:CmpLays1 P g lc.toArray enc' cf' b 0 ds.toArray.size w:=by
    intro m os dk a0 x y;obtain⟨c,u⟩:=af x.x x.mem y.x y.mem;have F:=ah m os dk a0 [];have bg:=a5 _ _ _ u;generalize hW:sortWorld enc' w b 0 m dk os=W at*;have be:w.heap.size<=W.heap.size:=by rw[<- hW];exact(M m os dk a0).2.2
    have sW:Sim (λc=>c<W.heap.size/\ ¬E c) E [] [] W:=
     ⟨rfl,s.roOk.to (λ_ q=>q) F.keep (λc u=>Vg (s.roLt c u) be),λc u=>u.1,λc u hf=>hf.2 u,λi b x h=>by simp at h,λi j b x y h=>by simp at h,λi y x h=>by simp at h,λi b x c h=>by simp at h⟩
    have ak:LR E [] W ([ea x.x,ea y.x]++cap) ([x.v,y.v]++lc):=
     LR.append (show LR E [] W [ea x.x,ea y.x] [x.v,y.v]from⟨_,_,rfl,x.rel.mono F,_,_,rfl,y.rel.mono F,rfl⟩) (an.mono F)
    have O:=bg _ E [] _ W sW ak;have bn:(([x.v,y.v]++lc).toArray:Array Value)= #[enc' x,enc' y]++lc.toArray:=by simp[enc']
    rw[bn]at O;refine O.mono ?_;rintro e w' ⟨v,r,H',ab,τ,rfl,⟨rfl,rfl⟩,s',bk,ev⟩;refine⟨?_,?_⟩
    .rw[show v=.int .i64 c from bk];simp only[cf',u,Option.getD_some]
    .refine Qkd (λc u=>?_) ev.size ev.os ev.tape ev.output ev.drawn;by_cases a4:E c
     .exact ev.keepRo c a4
     .exact ev.keepFr c ⟨u,a4⟩
   have Y:ds.toArray.size=l.length:=by simpa using ao
   have bq:b+0=b:=rfl;have ag:=Any.slices_SortFunc L enc' (λx=>QfX x.plain) cf' hO g lc.toArray b 0 cp ds.toArray w eg bl hH hb (by rw[Y];unfold Qq at a9;omega);rw[Y]at ag;rw[Nat.zero_mul];refine ag.mono ?_;rintro e w' ⟨rfl,d,n,os,V,au,rfl⟩;have k:d.size=ds.toArray.size:=V.1;obtain⟨g1,g2,g3⟩:=M n os d k;have aj:d.toList.Perm ds:=by
    have h:=V.2.2;have x1:d.extract 0 l.length=d:=by rw[<- Y, <- k];exact Array.extract_size
    have x2:ds.toArray.extract 0 l.length=ds.toArray:=by rw[<- Y];exact Array.extract_size
    rw[x1,x2]at h;simpa using h
   have a8:d.toList.map (·.x)=l':=by
    rw[<- az];refine Jh (lt:=ltO cf) ?_ ?_ ?_ (QS Q)
    .exact((aj.map (·.x)).trans (by rw[J])).trans (Ql _ _).symm
    .intro x hx y hy;have bo:x∈l:=by rw[<- J];exact(aj.map (·.x)).mem_iff.1 hx
     have bb:y∈l:=by rw[<- J];exact(aj.map (·.x)).mem_iff.1 hy
     exact aq x bo y bb
    .rw[VF];intro i j hi hj bh;simp only[X3]at hi hj;simp only[List.getElem_map];rw[<- ae];have:=au i j (XV _) bh (by rw[<- Y, <- k];simpa using hj);rw[getElem!_pos d j (by simpa using hj),getElem!_pos d i (by simpa using hi)]at this;simpa using this
   have bd:RL E [] (sortWorld enc' w b 0 n d os) 1 (l'.map λx=>[ea x]) (d.toList.map enc'++G):=by
    have e3:d.toList.map enc'=((d.toList.map λa=>(a.x,[a.v])).map (·.2)).flatten:=by
     rw[List.map_map];exact(Qe2 (λa:α=>a.v) d.toList).symm
    have e4:l'=(d.toList.map λa=>(a.x,[a.v])).map (·.1):=by rw[<- a8];simp
    rw[e3,e4];refine Qb0 (enc:=λx=>[ea x]) (λ_=>rfl) ?_;intro p hp;obtain⟨a,_,rfl⟩:=Xf.1 hp;exact⟨⟨_,_,rfl,a.rel.mono (ah n os d k []),rfl⟩,λv hv=>by rw[VC.1 hv];exact a.plain⟩
   have ax:Qe fr E w E (sortWorld enc' w b 0 n d os):=
    ⟨λ_ q=>q,λc u=>g1 c (s.roLt c u) (λq=>ai (q▸u)),λc u=>g1 c (s.frLt c u) (λq=>aw (q▸u)),g3,N n os d k,rfl,rfl,rfl,Nat.le_add_right _ _⟩
   have am:σ.length=1:=s.len;have a1:Sim fr E σ [.row t 1 (l'.map λx=>[ea x])] (sortWorld enc' w b 0 n d os):=by
    have i0:∀{i:Nat} {x:Blk},([.row t 1 (l'.map λx=>[ea x])]:Qc)[i]?=some x->i=0/\x=.row t 1 (l'.map λx=>[ea x]):=by
     intro i x h;cases i with
     |zero=>simp at h;exact⟨rfl,h.symm⟩
     |succ i=>simp at h
    refine⟨am,s.roOk.to (λ_ q=>q) ax.keepRo (λc u=>Vg (s.roLt c u) g3),λc u=>Vg (s.frLt c u) g3,s.roFr,λi c x h1 h2 h3=>?_,λi j c x y h1 h2 h3 h4 _ _=>?_,λi y x h1 h2=>?_,λi b x c h1 h2 h3=>by obtain⟨rfl,rfl⟩:=i0 h2;exact h3.elim⟩
    .obtain⟨rfl,rfl⟩:=i0 h2;obtain⟨p1,p2⟩:=s.own 0 c _ h1 rfl rfl;exact⟨Vg p1 g3,p2⟩
    .rw[(i0 h3).1,(i0 h4).1]
    .obtain⟨rfl,rfl⟩:=i0 h2;rw[q1]at h1;cases h1;exact⟨_,g2,bd⟩
   exact⟨_,_,_,E,[],rfl,⟨rfl,rfl⟩,by simpa using a1,⟨[],rfl,rfl⟩,ax⟩
end Go.Sw
namespace Go.Sw
structure Pl where
 b:Nat
 i0:Nat
 i1:Nat
 i2:Nat
 i3:Nat
def Pl.ix(p:Pl):List Nat:=[p.b,p.i0,p.i1,p.i2,p.i3]
section
variable {α β:Type} (K:FK α β)
def Q1(p:Pl)(x:Fil α β):List A:=[.int .i64 x.number,.osl p.i0 0 x.r0.length K.kF,.osl p.i1 0 x.r1.length K.kF,.osl p.i2 0 x.r2.length K.kF,.osl p.i3 0 x.reports.length K.kR,.bool x.appeal]
structure QbF (H:Qc) (x:Fil α β) (p:Pl):Prop where
 c:H[p.b]?=some (.cells K.T (Q1 K p x))
 r0:H[p.i0]?=some (.row K.tF K.kF (x.r0.map K.eF))
 r1:H[p.i1]?=some (.row K.tF K.kF (x.r1.map K.eF))
 r2:H[p.i2]?=some (.row K.tF K.kF (x.r2.map K.eF))
 r3:H[p.i3]?=some (.row K.tR K.kR (x.reports.map K.eR))
abbrev QaX(α β:Type):=List (Fil α β×Pl)
def YL(bk:QaX α β):List (Int×Nat):=bk.map λe=>(e.1.number,e.2.b)
structure Yv (lo:Nat) (H:Qc) (bk:QaX α β):Prop where
 laid:∀e∈bk,QbF K H e.1 e.2
 own:∀e∈bk,e.2.ix.Nodup
 ne:bk.Pairwise λe f=>∀i∈e.2.ix,i∉f.2.ix
 lo:∀e∈bk,∀i∈e.2.ix,lo<=i
 num:(bk.map (·.1.number)).Nodup
variable {K} {lo:Nat} {H H':Qc} {bk l r:QaX α β} {e:Fil α β×Pl} {x':Fil α β} {p':Pl}
theorem Yv.nil:Yv K lo H ([]:QaX α β):=⟨(λ_ h=>by cases h),(λ_ h=>by cases h),List.Pairwise.nil,(λ_ h=>by cases h),List.nodup_nil⟩
theorem QbF.lt(h:QbF K H e.1 e.2):∀i∈e.2.ix,i<H.length:=by
 intro i a;have g:∀{j:Nat} {y:Blk},H[j]?=some y->j<H.length:=λq=>(XM.1 q).1;simp only[Pl.ix,X7,List.not_mem_nil,or_false]at a;rcases a with rfl|rfl|rfl|rfl|rfl
 .exact g h.c
 .exact g h.r0
 .exact g h.r1
 .exact g h.r2
 .exact g h.r3
theorem QbF.keep(h:QbF K H e.1 e.2)(k:∀i∈e.2.ix,H'[i]?=H[i]?):QbF K H' e.1 e.2:=by
 refine⟨?_,?_,?_,?_,?_⟩
 .rw[k _ (by simp[Pl.ix])];exact h.c
 .rw[k _ (by simp[Pl.ix])];exact h.r0
 .rw[k _ (by simp[Pl.ix])];exact h.r1
 .rw[k _ (by simp[Pl.ix])];exact h.r2
 .rw[k _ (by simp[Pl.ix])];exact h.r3
theorem Yv.keep(h:Yv K lo H bk)(k:∀j,lo<=j->j<H.length->H'[j]?=H[j]?):Yv K lo H' bk:=
 ⟨λe he=>(h.laid e he).keep λi hi=>k i (h.lo e he i hi) ((h.laid e he).lt i hi),h.own,h.ne,h.lo,h.num⟩
theorem Yv.upd(h:Yv K lo H (l++e::r))(E:QbF K H' x' p')(w:x'.number=e.1.number)(z:∀j,lo<=j->j<H.length->j∉e.2.ix->H'[j]?=H[j]?)
  (hi:∀i∈p'.ix,i∈e.2.ix\/H.length<=i)(u:p'.ix.Nodup)(hl:lo<=H.length):Yv K lo H' (l++(x',p')::r):=by
 obtain⟨y,x,n⟩:=List.pairwise_append.1 h.ne;obtain⟨t,B⟩:=Xc.1 x;have mem:∀f∈l++(x',p')::r,f=(x',p')\/(f∈l++e::r/\ ∀i∈f.2.ix,i∉e.2.ix):=by
  intro f b;rcases VE.1 b with q|q
  .exact .inr ⟨List.mem_append_left _ q,λi hi a=>n f q e (by simp) i hi a⟩
  .rcases X7.1 q with q|q
   .exact .inl q
   .exact .inr ⟨by simp[q],λi hi a=>t f q i a hi⟩
 refine⟨?_,?_,?_,?_,?_⟩
 .intro f b;rcases mem f b with rfl|⟨k,p⟩
  .exact E
  .exact(h.laid f k).keep λi hi=>z i (h.lo f k i hi) ((h.laid f k).lt i hi) (p i hi)
 .intro f b;rcases mem f b with rfl|⟨k,p⟩
  .exact u
  .exact h.own f k
 .refine List.pairwise_append.2 ⟨y,Xc.2 ⟨?_,B⟩,?_⟩
  .intro f b i a d;rcases hi i a with q|q
   .exact t f b i q d
   .have:=(h.laid f (by simp[b])).lt i d;omega
  .intro f b g s i d m;rcases X7.1 s with rfl|s
   .rcases hi i m with q|q
    .exact n f b e (by simp) i d q
    .have:=(h.laid f (by simp[b])).lt i d;omega
   .exact n f b g (by simp[s]) i d m
 .intro f b;rcases mem f b with rfl|⟨k,p⟩
  .intro i a;rcases hi i a with q|q
   .exact h.lo e (by simp) i q
   .omega
  .exact h.lo f k
 .have:=h.num;rw[Xg,Vk]at this⊢;show(_++x'.number::_).Nodup;rw[w];exact this
theorem Yv.add(h:Yv K lo H bk)(n:QbF K H' x' p')(r:∀e∈bk,e.1.number≠x'.number)(s:∀j,lo<=j->j<H.length->H'[j]?=H[j]?)
  (hi:∀i∈p'.ix,H.length<=i)(p:p'.ix.Nodup)(hl:lo<=H.length):Yv K lo H' (bk++[(x',p')]):=by
 have w:=h.keep s;have mem:∀f∈bk++[(x',p')],f∈bk\/f=(x',p'):=by
  intro f d;rcases VE.1 d with q|q
  .exact .inl q
  .exact .inr (VC.1 q)
 refine⟨?_,?_,?_,?_,?_⟩
 .intro f d;rcases mem f d with q|rfl
  .exact w.laid f q
  .exact n
 .intro f d;rcases mem f d with q|rfl
  .exact h.own f q
  .exact p
 .refine List.pairwise_append.2 ⟨h.ne,by simp,λf d g u i k l=>?_⟩;obtain rfl:=VC.1 u;have:=(h.laid f d).lt i k;have:=hi i l;omega
 .intro f d i k;rcases mem f d with q|rfl
  .exact h.lo f q i k
  .have:=hi i k;omega
 .rw[Xg];refine List.nodup_append.2 ⟨h.num,by simp,?_⟩;intro a t b m;simp at m;subst m;obtain⟨f,d,rfl⟩:=Xf.1 t;exact r f d
theorem QdC:∀(d:QaX α β) (k:Int),(YD (YL d) k=none/\ ∀e∈d,e.1.number≠k)\/ ∃l e r,d=l++e::r/\e.1.number=k/\(∀y∈l,y.1.number≠k)/\YD (YL d) k=some e.2.b
 |[],k=>.inl ⟨rfl,λ_ h=>by cases h⟩
 |e::l,k=>by
  have e0:YD (YL (e::l)) k=if e.1.number=k then some e.2.b else YD (YL l) k:=by
   show YD ((e.1.number,e.2.b)::YL l) k=_;simp[YD];by_cases q:e.1.number=k<;>simp[q]
  by_cases q:e.1.number=k
  .exact .inr ⟨[],e,l,rfl,q,(λ_ h=>by cases h),by rw[e0,Vu q]⟩
  .rcases QdC l k with⟨g,f⟩|⟨p,y,r,g,f,i,j⟩
   .refine .inl ⟨by rw[e0,Vt q];exact g,λz a=>?_⟩;rcases X7.1 a with rfl|a
    .exact q
    .exact f z a
   .refine .inr ⟨e::p,y,r,by rw[g];rfl,f,λz a=>?_,by rw[e0,Vt q,j]⟩;rcases X7.1 a with rfl|a
    .exact q
    .exact i z a
theorem Qla(p q:QaX α β):YL (p++q)=YL p++YL q:=by simp[YL]
theorem Qk9(d:x'.number=e.1.number)(a:p'.b=e.2.b):YL (l++(x',p')::r)=YL (l++e::r):=by simp[YL,d,a]
end
section
variable {fr ro ro':Nat->Prop} {σ:Sig} {w:World} {α β:Type} (K:FK α β)
theorem Qm5(sub:∀c,ro c->ro' c){p:Pl}{x:Fil α β}{v:Value}{H:Qc}(hl:QbF K H x p)(e:∀i∈p.ix,∀(c:Nat) (y:Blk),H[i]?=some y->σ[i]?=some (some c)->BR ro σ w y (some c)/\ro' c)(h:VR ro σ w (.ptr p.b 0) v):VR ro' [] w (.rp (frp K x)) v:=by
 obtain⟨c,F,n⟩:=h;obtain⟨⟨l,E,a,s⟩,j⟩:=e p.b (by simp[Pl.ix]) c _ hl.c F;refine⟨c,0,n,j,?_⟩;refine Qhu (pre:=[]) (by simpa using E) ?_ s;unfold Q1 at a;obtain⟨v0,M,rfl,z,a⟩:=a;obtain⟨r,Q,rfl,m,a⟩:=a;obtain⟨u,O,rfl,q,a⟩:=a;obtain⟨J,L,rfl,g,a⟩:=a;obtain⟨G,N,rfl,k,a⟩:=a;obtain⟨B,P,rfl,f,a⟩:=a;refine⟨v0,_,rfl,z,r,_,rfl,Qa1 sub (t:=K.tF) (λc d=>e p.i0 (by simp[Pl.ix]) c _ hl.r0 d) (by simpa using m),u,_,rfl,Qa1 sub (t:=K.tF) (λc d=>e p.i1 (by simp[Pl.ix]) c _ hl.r1 d) (by simpa using q),J,_,rfl,Qa1 sub (t:=K.tF) (λc d=>e p.i2 (by simp[Pl.ix]) c _ hl.r2 d) (by simpa using g),
  G,_,rfl,Qa1 sub (t:=K.tR) (λc d=>e p.i3 (by simp[Pl.ix]) c _ hl.r3 d) (by simpa using k),B,_,rfl,f,a⟩
theorem Qgz(sub:∀c,ro c->ro' c){H:Qc}{ek:Int->A}(hek:∀(k:Int) (v:Value),VR ro σ w (ek k) v->VR ro' [] w (ek k) v):∀{bk:QaX α β} {es:List MapEntry},(∀e∈bk,QbF K H e.1 e.2)->(∀e∈bk,∀i∈e.2.ix,∀(c:Nat) (y:Blk),H[i]?=some y->σ[i]?=some (some c)->BR ro σ w y (some c)/\ro' c)->
  ER ro σ w (Qk ek Qeb (YL bk)) es->ER ro' [] w (Qk ek (rpE K) (Qef (bk.map (·.1)))) es
 |[],es,_,_,h=>h
 |x::l,es,hl,hb,h=>by
  obtain⟨e,l',rfl,h1,h2,h3⟩:=h;exact⟨e,l',rfl,hek _ _ h1,Qm5 K sub (hl x (by simp)) (hb x (by simp)) h2,Qgz sub hek (λe he=>hl e (by simp[he])) (λe he=>hb e (by simp[he])) h3⟩
def Qcq(bk:QaX α β):List Nat:=bk.flatMap λe=>e.2.ix
theorem Yv.all{lo:Nat}{H:Qc}:∀{j:QaX α β},Yv K lo H j->(Qcq j).Nodup/\ ∀i∈Qcq j,lo<=i/\ ∃y,H[i]?=some y/\y.live=true:=by
 intro j h;refine⟨?_,?_⟩
 .have q:=h.own;have s:=h.ne;clear h
  induction j with
  |nil=>exact List.nodup_nil
  |cons e l r=>
   obtain⟨w,u⟩:=Xc.1 s;show(e.2.ix++Qcq l).Nodup;refine List.nodup_append.2 ⟨q e (by simp),r (λf m=>q f (by simp[m])) u,?_⟩;intro a x b t n;obtain⟨f,m,k⟩:=List.mem_flatMap.1 t;exact w f m a x (n▸k)
 .intro i g;obtain⟨e,p,g⟩:=List.mem_flatMap.1 g;refine⟨h.lo e p i g,?_⟩;have d:=h.laid e p;simp only[Pl.ix,X7,List.not_mem_nil,or_false]at g;rcases g with rfl|rfl|rfl|rfl|rfl
  .exact⟨_,d.c,rfl⟩
  .exact⟨_,d.r0,rfl⟩
  .exact⟨_,d.r1,rfl⟩
  .exact⟨_,d.r2,rfl⟩
  .exact⟨_,d.r3,rfl⟩
end
section
variable {α β:Type} (K:FK α β) {env:Env} {H:Qc}
theorem Qnj{h0 lo m:Nat}{f:QaX α β}(F:Yv K lo H f)(z:Nat.blt m lo=true)(p:H[m]?=some (.mapP (Qk (λn=>.int .i64 n) Qeb (YL f)))):
  Le h0 env H env ((QbR H (Qcq f)).set m (.fmap (Qk (λn=>.int .i64 n) (rpE K) (Qef (f.map (·.1)))))):=by
 intro R ro σ N a w r;have s:=r.sim;obtain⟨nd,d⟩:=F.all;have L:m<lo:=by simpa[Nat.blt_eq]using z
 have P:∃q,σ[m]?=some q:=by
  have:m<σ.length:=by rw[s.len];exact(XM.1 p).1
  exact⟨_,XL this⟩
 obtain⟨q,E⟩:=P;cases q with
 |none=>exact(s.blk m _ _ E p).elim
 |some B=>
 obtain⟨b,Q,g,u⟩:=QdG s (l:=Qcq f) nd (λi t=>(d i t).2);have x:(QbR H (Qcq f))[m]?=some (.mapP (Qk (λn=>.int .i64 n) Qeb (YL f))):=by
  rw[Qf4 (λq=>by have:=(d m q).1;omega)];exact p
 have G:=Q.shutMapP (es':=Qk (λn=>.int .i64 n) (rpE K) (Qef (f.map (·.1)))) E x (λl J=>?_)
 .have sub:∀c,ro c->b c\/c=B:=λc j=>.inl (g c j);have ext:Ext ro σ w (λc=>b c\/c=B) σ w:=⟨sub,λ_ _=>rfl,λ_ _ q=>q,λ_ _ q=>q⟩;exact⟨_,σ,⟨G,λq=>(r.env q).mono ext,r.size,r.defers⟩,sub,rfl⟩
 .have ext:Ext ro σ w b σ w:=⟨g,λ_ _=>rfl,λ_ _ q=>q,λ_ _ q=>q⟩;refine Qgz K (ek:=λn=>.int .i64 n) (ro:=b) (ro':=λc=>b c\/c=B) (H:=H) (λc j=>.inl j) (λk v h=>h) F.laid (λe O i t c y M j=>?_) J;exact⟨(s.blk _ _ _ j M).keep ext (λ_ _ _=>rfl) (λ_ _ _ _=>rfl),.inl (u _ (List.mem_flatMap.2 ⟨e,O,t⟩) c j)⟩
end
end Go.Sw
namespace Go.Sw
section
variable {P:Program} {h0 N:Nat} {all:Array Oper} {o:Oper} {l:List Oper} {env:Env} {H:Qc} {Q:Qx}
theorem QcF{d:Nat}{f:FuncId}{args:List A}{Qr:A->Qc->Prop}(i:OpC P o env H f args)(p:C P f args H Qr)
  (k:∀r H1,Qr r H1->WO P h0 N all l (up env d r) H1 Q)(G:h0<=H.length)(hg:Qn all o env true:=by exact rfl)(hd:o.dst=some d:=by exact rfl)(hN:Nat.blt d N=true:=by exact rfl):
  WO P h0 N all (o::l) env H Q:=by
 intro F fr j σ a w r hrd;obtain⟨g,B,t⟩:=i fr j σ N a w r;refine Qdg (YA hg r) B ?_;have hσl:=r.sim.len;refine Calls.mono (p fr j σ g w r.sim t) ?_;rintro e n ⟨v,m,H1,b,τ,rfl,u,E,x,ev⟩;have y:=k m H1 u;simp only[hd,Act.put];have h:d<N:=by simpa[Nat.blt_eq]using hN
 have z:Rel fr b (σ++τ) H1 (up env d m) N {a with tmps:=a.tmps.setIfInBounds d v} n:=
  ⟨E,VR.up (fr:=fr) (λs=>(r.env s).mono (ev.ext σ τ)) (by rw[r.size];exact h) x,by simpa using r.size,r.defers.keep ev⟩
 exact⟨_,rfl,Ye (λe a w q=>q.step ev (Qs (by omega))) _ _ _ (y F fr b (σ++τ) _ n z (hrd.to ev λ_ q=>q))⟩
end
section
variable {h0 n:Nat} {env env':Env} {H H':Qc}
theorem Qnm(n:Nat)(hn:h0<=n)(hl:n<=H.length)(hH:(H'.map (QV (rho (List.range n) H.length))).map some=(List.range n).map (λp=>H[p]?))(hE:Qd9 (rho (List.range n) H.length) env env'):Le h0 env H env' H':=
 Qnk (List.range n) (by rw[List.take_range,XB hn]) hH.symm List.nodup_range hE
end
section
variable {P:Program} {o:Oper} {env:Env} {H:Qc} {α:Type}
theorem Qlq{t E n:Nat}{x y:Operand}{l:List α}{e:α->List A}{c:α}{k:IntKind}{i:Int}{v:A}(h:idx l i=some c)(hl:l.length=n)(d:∀x,∃v,e x=[v])(F:e c=[v])(J:∀w,(underlying t).run P w=.ok (.array n E) w)(B:∀w,(isAgg E).run P w=.ok false w)(M:∀w,(Go.sizeOf E).run P w=.ok 1 w)
  (Q:o.op=.index t x y:=by exact rfl)(hx:opA env x=.agg (l.map e).flatten:=by exact rfl)(hy:opA env y=.int k i:=by exact rfl):OpV P o env H v:=by
 obtain⟨O,g⟩:=QaN h;intro T R σ N a w r;have b:=Qd r x;rw[hx]at b;obtain⟨m,b,s⟩:=b;have z:=QK r hy;have q:∀(l:List α),(l.map e).flatten[i.toNat]?=(l.map λx=>(e x).headD .any)[i.toNat]? :=by
  intro l;have:(l.map e).flatten=l.map λx=>(e x).headD .any:=by
   induction l with
   |nil=>rfl
   |cons a l p=>
    obtain⟨v,d⟩:=d a;simp[d,p]
  rw[this]
 have G:(l.map e).flatten[i.toNat]?=some v:=by
  rw[q,Xq,g];simp[F]
 obtain⟨u,j,L⟩:=s.get _ G;have f:i<(n:Int):=by
  have:=(XM.1 g).1;omega
 refine⟨u,?_,L⟩;generalize a.eval=ρ at*;simp[execOp,Q,b,z,Instr.index,asIntOf,J,O,f,M,part,B,j,go_sem]
end
end Go.Sw
namespace Go.Sw
section
variable {α β:Type}
def Qaw(k:Int):Fil α β:=⟨k,[],[],[],[],false⟩
def Qah(fs:List (Fil α β))(k:Int):List (Fil α β):=bif fs.any (λx=>decide (x.number=k))then fs else fs++[Qaw k]
def Qbn(fs:List (Fil α β))(k:Int)(g:Fil α β->Fil α β):List (Fil α β):=fs.map λx=>bif decide (x.number=k)then g x else x
def QdS(fs:List (Fil α β)):Bool:=fs.all λx=>Nat.ble (x.r0.length+1) Qq&&Nat.ble (x.r1.length+1) Qq&&Nat.ble (x.r2.length+1) Qq&&Nat.ble (x.reports.length+1) Qq
variable (K:FK α β) {lo:Nat} {H H':Qc} {bk:QaX α β}
theorem QcV{fs:List (Fil α β)}{k:Int}(h:∃x∈fs,x.number=k):Qah fs k=fs:=by
 unfold Qah;have:fs.any (λx=>decide (x.number=k))=true:=by
  obtain⟨x,a,e⟩:=h;exact Xu.2 ⟨x,a,by simp[e]⟩
 rw[this];rfl
theorem QbS{fs:List (Fil α β)}{k:Int}(h:∀x∈fs,x.number≠k):Qah fs k=fs++[Qaw k]:=by
 unfold Qah;have:fs.any (λx=>decide (x.number=k))=false:=by
  rw[List.any_eq_false];intro x a;simp[h x a]
 rw[this];rfl
theorem QnC{l r:List (Fil α β)}{x:Fil α β}{k:Int}{g:Fil α β->Fil α β}(d:((l++x::r).map (·.number)).Nodup)(b:x.number=k):Qbn (l++x::r) k g=l++g x::r:=by
 rw[Xg,Vk,List.nodup_append]at d;obtain⟨p,h,j⟩:=d;rw[List.nodup_cons]at h;have e:∀m:List (Fil α β),(∀y∈m,y.number≠k)->Qbn m k g=m:=by
  intro m n;unfold Qbn
  conv=>rhs;rw[<- List.map_id m]
  exact List.map_congr_left λy a=>by simp[n y a]
 have i:=e l (λy a q=>j y.number (VH a) x.number (by simp) (by rw[q,b]));have f:=e r (λy a q=>h.1 (by rw[b, <- q];exact VH a));unfold Qbn at i f⊢;rw[Xg,Vk,i,f];simp[b]
theorem QhL{l r:List (Fil α β)}{x:Fil α β}(h:QdS (l++x::r)=true):x.r0.length+1<=Qq/\x.r1.length+1<=Qq/\x.r2.length+1<=Qq/\x.reports.length+1<=Qq:=by
 unfold QdS at h;have:=Xt.1 h x (by simp);simp only[XX]at this;obtain⟨⟨⟨b,d⟩,e⟩,a⟩:=this;exact⟨XS b,XS d,XS e,XS a⟩
def QaY(n:Nat):Pl:=⟨n,n+1,n+2,n+3,n+4⟩
def Qb7(n:Nat)(k:Int):Qc:=[.cells K.T (Q1 K (QaY n) (Qaw k)),.row K.tF K.kF [],.row K.tF K.kF [],.row K.tF K.kF [],.row K.tR K.kR []]
theorem QjK{h0:Nat}{env:Env}{k:Int}(d:h0<=H.length):
  Le h0 env (H++[.cells K.T [.int .i64 k,.nils,.nils,.nils,.nils,.bool false]]) env (H++Qb7 K H.length k):=by
 have a:∀(n:Nat) (G:Qc) (cs cs':List A) (t k':Nat) (m:Nat),n=H.length+1+G.length->cs[m]?=some .nils->cs'=cs.set m (.osl n 0 0 k')->
   Le h0 env (H++.cells K.T cs::G) env (H++.cells K.T cs'::(G++[.row t k' []])):=by
  intro n G cs cs' t k' m hn hm hc;have:=Qd8 (h0:=h0) (env:=env) (H:=H++.cells K.T cs::G) (i:=H.length) (m:=m) (t:=t) (k:=k') (T:=K.T) (cs:=cs)
   (by simp;omega) (by simp) hm
  have e:(H++.cells K.T cs::G).length=n:=by simp;omega
  rw[e]at this;have b:(H++.cells K.T cs::G).set H.length (.cells K.T (cs.set m (.osl n 0 0 k')))=H++.cells K.T cs'::G:=by
   rw[List.set_append_right _ _ (XU _),Nat.sub_self,hc];rfl
  rw[b,Vj]at this;exact this
 refine Le.trans (a (H.length+1) [] _ _ K.tF K.kF 1 (by simp) rfl rfl) ?_;refine Le.trans (a (H.length+2) [.row K.tF K.kF []] _ _ K.tF K.kF 2 (by simp) rfl rfl) ?_;refine Le.trans (a (H.length+3) [.row K.tF K.kF [],.row K.tF K.kF []] _ _ K.tF K.kF 3 (by simp) rfl rfl) ?_;exact a (H.length+4) [.row K.tF K.kF [],.row K.tF K.kF [],.row K.tF K.kF []] _ _ K.tR K.kR 4 (by simp) rfl rfl
theorem QbF.new{k:Int}:QbF K (H++Qb7 K H.length k) (Qaw k) (QaY H.length):=by
 have g:∀(j:Nat) (y:Blk),(Qb7 K H.length k)[j]?=some y->(H++Qb7 K H.length k)[H.length+j]?=some y:=by
  intro j y h;rw[XO (by omega),Nat.add_sub_cancel_left];exact h
 exact⟨g 0 _ rfl,g 1 _ rfl,g 2 _ rfl,g 3 _ rfl,g 4 _ rfl⟩
theorem Qj3(n:Nat):(∀i∈(QaY n).ix,n<=i)/\(QaY n).ix.Nodup:=by
 refine⟨?_,?_⟩
 .intro i a;simp only[Pl.ix,QaY,X7,List.not_mem_nil,or_false]at a;omega
 .simp[Pl.ix,QaY]
variable {K}
theorem Yv.new{k:Int}(h:Yv K lo H bk)(a:∀e∈bk,e.1.number≠k)(hl:lo<=H.length):Yv K lo (H++Qb7 K H.length k) (bk++[(Qaw k,QaY H.length)]):=by
 refine h.add (QbF.new K) a (λj d b=>by rw[XN b]) (Qj3 _).1 (Qj3 _).2 hl
theorem Yv.row{l r:QaX α β}{e:Fil α β×Pl}{x':Fil α β}{p':Pl}{i:Nat}{y:Blk}(h:Yv K lo H (l++e::r))(hl:lo<=H.length)(J:x'.number=e.1.number)(hi:i∈e.2.ix)(u:i≠e.2.b)(g:p'.b=e.2.b)
  (hH:H'=(H.set i .dead++[y]).set e.2.b (.cells K.T (Q1 K p' x')))
  (p:p'.ix=e.2.ix.map λj=>bif Nat.beq j i then H.length else j)
  (h0:H'[p'.i0]?=some (.row K.tF K.kF (x'.r0.map K.eF)))(L:H'[p'.i1]?=some (.row K.tF K.kF (x'.r1.map K.eF)))(x:H'[p'.i2]?=some (.row K.tF K.kF (x'.r2.map K.eF)))(z:H'[p'.i3]?=some (.row K.tR K.kR (x'.reports.map K.eR))):
  Yv K lo H' (l++(x',p')::r):=by
 have G:=h.laid e (by simp);have d:=G.lt;have w:e.2.b<H.length:=d _ (by simp[Pl.ix]);refine h.upd ⟨?_,h0,L,x,z⟩ J ?_ ?_ ?_ hl
 .rw[hH,g,Xa (by simp;omega)]
 .intro j s B n;rw[hH,XQ (λq=>n (by rw[<- q];simp[Pl.ix])),XN (by simpa using B),XQ (λq=>n (by rw[<- q];exact hi))]
 .intro j k;rw[p]at k;obtain⟨E,s,rfl⟩:=Xf.1 k;cases q:Nat.beq E i with
  |true=>exact .inr (XU _)
  |false=>exact .inl s
 .rw[p];have M:=h.own e (by simp);refine List.pairwise_map.2 (List.Pairwise.imp_of_mem ?_ M);intro a b F g f;have N:=d a F;have O:=d b g;cases t:Nat.beq a i with
  |true=>
   cases m:Nat.beq b i with
   |true=>exact absurd ((XR t).trans (XR m).symm) f
   |false=>simp only[Vq,Vr];omega
  |false=>
   cases m:Nat.beq b i with
   |true=>simp only[Vq,Vr];omega
   |false=>exact f
end
end Go.Sw
namespace Go.Sw
section
variable {fr ro:Nat->Prop} {σ:Sig} {H:Qc} {w:World}
theorem Sim.addIdle(s:Sim fr ro σ H w){x:Blk}{z:Option Nat}(t:x.holds=false)(G:BR ro (σ++[z]) w x z):Sim fr ro (σ++[z]) (H++[x]) w:=by
 have ext:Ext ro σ w ro (σ++[z]) w:=⟨λ_ q=>q,λ_ _=>rfl,λ_ _ q=>q,λ_ _ h=>YH h⟩;have B:=s.len;have k:x.live=false:=by
  cases q:x.live with
  |true=>rw[QaH q]at t;exact t
  |false=>rfl
 have a:∀(j:Nat) (v:Blk),(H++[x])[j]?=some v->(j<H.length/\H[j]?=some v)\/(j=H.length/\v=x):=by
  intro j v h;rcases Nat.lt_trichotomy j H.length with q|q|q
  .rw[XN q]at h;exact .inl ⟨q,h⟩
  .subst q;simp at h;exact .inr ⟨rfl,h.symm⟩
  .rw[XP (by simp;omega)]at h;cases h
 have hσ:∀(j:Nat) (l:Option Nat),j<H.length->(σ++[z])[j]?=some l->σ[j]?=some l:=by
  intro j l q h
  rwa [XN (by omega)]at h
 refine⟨by simp[B],s.roOk,s.frLt,s.roFr,λi b y e m n=>?_,λi j b y F e m n M p u=>?_,λi l y e m=>?_,
  s.hidTo (· = ·) QW (XU _) (λ_ _ _ _ _ _ _ q=>q) (λ_ _ _ _ _ _ _ q=>q) λj d y O J E=>.inl ?_⟩
 .rcases a i y m with⟨g,f⟩|⟨_,rfl⟩
  .exact s.own i b y (hσ i _ g e) f n
  .rw[k]at n;cases n
 .rcases a i y n with⟨g,f⟩|⟨_,rfl⟩
  .rcases a j F M with⟨L,N⟩|⟨_,rfl⟩
   .exact s.inj i j b y F (hσ i _ g e) (hσ j _ L m) f N p u
   .rw[k]at u;cases u
  .rw[k]at p;cases p
 .rcases a i y m with⟨g,f⟩|⟨r,rfl⟩
  .exact(s.blk i l y (hσ i _ g e) f).keep ext (λ_ _ _=>rfl) (λ_ _ _ _=>rfl)
  .subst r;have:(σ++[z])[H.length]?=some z:=by rw[<- B];simp
   rw[this]at e;cases e;exact G
 .rcases a j y J with⟨g,f⟩|⟨_,rfl⟩
  .exact⟨j,y,rfl,hσ j _ g O,f,id,λ_ q=>q⟩
  .rw[t]at E;cases E
end
section
variable {P:Program} {o:Oper} {env:Env} {H:Qc}
theorem Qnf{T e k n:Nat}{xs:List Operand}{es:List (List A)}(E:QN P T e k)(ho:o.op=.buildSlice T n (Qak 0 xs).toArray)(F:xs.length=n)(G:Nat.ble (n*k) 16777216=true)
  (hk:(xs.all λx=>Q8 (opA env x))=true)(y:QB env xs=es)(B:allK k es)(X:es.flatten.all Yo=true)(R:Yc es.flatten=true):
  OpH P o env H (.osl H.length 0 n k) (H++[.frow e k es]):=by
 intro V j σ N a w r;subst y;obtain⟨l,h1,L⟩:=Js r E F G hk B;have u:LR j [] w (QB env xs).flatten l:=L.data R;have f:∀b,b<w.heap.size->(w.alloc (.cells l.toArray e)).heap[b]?=w.heap[b]? :=λb Q=>Ya _ _ b Q;have t:w.heap.size<=(w.alloc (.cells l.toArray e)).heap.size:=by rw[Q5];omega
 have s1:=r.sim.grown f t;have p:Qe V j w j (w.alloc (.cells l.toArray e)):=Qe.alloc _ r.sim.roLt r.sim.frLt;have W:=s1.addRo (b:=w.heap.size) (by rw[Q5];omega) (λq=>Nat.lt_irrefl _ (r.sim.frLt _ q)) (λi x h m M=>Nat.lt_irrefl _ (r.sim.own i _ x h m M).1)
  (λi d x h m M=>Nat.lt_irrefl _ (r.sim.hid i d x _ h m (r.sim.hidKeep h m (λz=>f d (r.sim.own i d x h m z).1) (λb q=>f b (r.sim.roLt b q)) M)).lt)
 have J:RL j [] (w.alloc (.cells l.toArray e)) k (QB env xs) l:=by
  have:=Y0 (rest:=[]) B (u.mono (p.ext0 [])) (L.plain X)
  rwa [Vh]at this
 have s:(QB env xs).length=n:=by simp[QB,F]
 have O:l.length=n*k:=by rw[L.length,Yu B];simp[QB,F]
 have g:(w.alloc (.cells l.toArray e)).heap[w.heap.size]?=some (.cells l.toArray e (0,0)):=Q9 _ _;have Y:=W.addIdle (x:=.frow e k (QB env xs)) (z:=some w.heap.size) rfl
  ⟨.inr rfl,l,g,J.mono ⟨λ_ q=>.inl q,λ_ _=>rfl,λ_ _ q=>q,λ_ _ q=>q⟩,by rw[O,s]⟩
 refine⟨_,_,λc=>j c\/c=w.heap.size,[some w.heap.size],Jd ho a.eval h1,.inr ⟨w.heap.size,0,n,e,l.length,?_,rfl,λ_=>by simp,XU _,?_,by rw[O,Xw];exact XU _⟩,Y,p.trans (YG λ_ q=>.inl q)⟩
 .rw[<- r.sim.len];simp
 .unfold World.shape?;rw[g];simp
theorem Le.frow{h0 s i n k t:Nat}{es:List (List A)}(J:lk env s=.osl i 0 n k)(hH:H[i]?=some (.frow t k es))(G:es.length=n):Le h0 env H (up env s (.rsl k es)) H:=by
 intro Q h σ N a w r;refine⟨h,σ,⟨r.sim,?_,r.size,r.defers⟩,λ_ q=>q,rfl⟩;intro e;simp only[lk];by_cases q:e=s
 .subst q;rw[VG];have:=r.env e;rw[J]at this;show VR h σ w (.rsl k es) _;rcases this with⟨j,f⟩|⟨b,p,d,P,m,j,f,u,E,R,O⟩
  .have:es=[]:=VK.1 (by omega);subst this;exact⟨none,0,by rw[f];rfl,XU _,.inl rfl⟩
  .obtain⟨x,l,L,y,M⟩:=r.sim.blk i _ _ j hH;refine⟨_,d,by rw[f,G],by omega,?_⟩;by_cases g:es=[]
   .exact .inl g
   .right;have B:0<d:=Vg (by have:=List.length_pos_iff.2 g;omega) E;have F:=u B;refine⟨b,0,by rw[F];simp,x,?_⟩;exact YI (pre:=[]) (by simpa using L) y
 .have:Nat.beq e s=false:=by
   cases z:Nat.beq e s with
   |true=>exact absurd (XR z) q
   |false=>rfl
  rw[this];exact r.env e
theorem QiH{c:Call}{T T' e e' k i n:Nat}{x y:Operand}{ya:A}{es fs gs:List (List A)}(E:QN P T e k)(L:∀w,(underlying T').run P w=.ok (.slice e') w)(u:Nat.blt 0 k=true)(t:Nat.blt 0 fs.length=true)(ho:o.op=.call c)
  (j:c={callee:=.builtin .append,args:= #[x,y],argTypes:= #[T,T']})(hx:opA env x=.osl i 0 n k)(hH:H[i]?=some (.frow e k es))(m:es.length=n)(hy:opA env y=ya)(hs:Src P H ya k fs)(f:n+fs.length<=Qq)
  (hg:es++fs=gs):OpH P o env H (.osl H.length 0 (n+fs.length) k) (H++[.row e k gs]):=by
 intro R q σ N a w r;subst hg;have hf:0<fs.length:=by simpa[Nat.blt_eq]using t
 have hk:0<k:=by simpa[Nat.blt_eq]using u
 have g:=Qd r x;rw[hx]at g;have W:=Qd r y;rw[hy]at W;obtain⟨⟨ay,cy,z⟩,X,l,s,M,F⟩:=hs R q σ w _ r.sim W;rw[z]at s;rcases g with⟨h0,g⟩|⟨b,p,d,t',mm,h3,g,h4,h5,Q,V⟩
 .have:es=[]:=VK.1 (by omega);subst this;subst h0;have:=grown (es:=[]) (old:=[]) E L ho j g z r.sim (by omega) f (λ_ _=>YM) s rfl (by simp) trivial M F X rfl rfl;simpa using this
 .obtain⟨g0,lb,g1,G,g3⟩:=r.sim.blk i _ _ h3 hH;have hm:mm=n*k:=by
   have:w.shape? b=some (e,lb.length):=by unfold World.shape?;rw[g1];simp
   rw[this]at Q;cases Q;rw[g3,m]
  have Y:d<=n:=by
   rw[hm,Xw]at V;exact Nat.le_of_mul_le_mul_right V hk
  obtain⟨old,o1,o2,o3⟩:∃old:List Value,(∀B:World,B.heap=w.heap->(Builtin.firstCells k n (.slice (some ⟨b,p,none⟩) n d)).run P B=.ok old.toArray B)/\LR q [] w es.flatten old/\ ∀v∈old,Qm v:=by
   have hr:VR q σ w (.rsl k es) (.slice (some ⟨b,p,none⟩) n d):=by
    refine⟨_,d,by rw[m],by omega,?_⟩;by_cases O:es=[]
    .exact .inl O
    .right;have j:0<d:=Vg (by have:=List.length_pos_iff.2 O;omega) h5;have hp:=h4 j;exact⟨b,0,by rw[hp];simp,g0,YI (pre:=[]) (by simpa using g1) G⟩
   have h:Src P H (.rsl k es) k es:=Src.rsl;obtain⟨_,_,l',J,z2,z3⟩:=h R q σ w _ r.sim hr;rw[m]at J;exact⟨l',J,z2,z3⟩
  have:=grown (es:=es) (old:=old) (fs:=fs) E L ho j g z r.sim (by omega) f o1 s o2 o3 G.allK M F X m rfl;exact this
theorem QiJ{α:Type}{e:α->List A}{c:Call}{T T' et et' k i n:Nat}{x y:Operand}{ya:A}{l m r:List α}(h:app l m=some r)(E:QN P T et k)(f:∀w,(underlying T').run P w=.ok (.slice et') w)(b:Src P H ya k (m.map e))
  (a:Nat.blt 0 m.length=true:=by exact rfl)(hk:Nat.blt 0 k=true:=by exact rfl)(hn:l.length=n:=by exact rfl)(ho:o.op=.call c:=by exact rfl)(hc:c={callee:=.builtin .append,args:= #[x,y],argTypes:= #[T,T']}:=by exact rfl)(hx:opA env x=.osl i 0 n k:=by exact rfl)
  (hH:H[i]?=some (.frow et k (l.map e)):=by exact rfl)(hy:opA env y=ya:=by exact rfl):
  OpH P o env H (.osl H.length 0 r.length k) (H++[.row et k (r.map e)]):=by
 obtain⟨d,rfl⟩:=Qhg h;subst hn;have:=QiH E f hk (by simpa using a) ho hc hx hH (by simp) hy b (by simpa using d) (gs:=(l++m).map e) (by simp);simpa using this
end
end Go.Sw
namespace Go.Sw
open Go.MapKept
section
variable {P:Program} {kt et:Nat} {α β:Type} [DecidableEq α] {ek:α->A} {ev:β->A} {ro:Nat->Prop} {σ:Sig} {w:World} (K:Y6 P kt ek)
include K
theorem Qdw:∀{l:List (α×β)} {es:List MapEntry} {k:α},ER ro σ w (Qk ek ev l) es->(∀e∈es,e.key≠QA (ek k))->mdel l k=l
 |[],_,_,_,_=>rfl
 |p::l,es,k,h,hk=>by
  obtain⟨e,l',rfl,h1,h2,h3⟩:=h;have e1:e.key=QA (ek p.1):=VR.val (K.scl _) h1;have hp:p.1≠k:=λq=>hk e (by simp) (by rw[e1,q]);have ih:=Qdw (l:=l) h3 λe he=>hk e (by simp[he]);unfold mdel at ih⊢;rw[Xd,ih];simp[hp]
theorem Qf2:∀{l:List (α×β)} {es:List MapEntry} {k:α} {j:Nat} {e:MapEntry},ER ro σ w (Qk ek ev l) es->(es.map (·.key)).Nodup->es[j]?=some e->e.key=QA (ek k)->ER ro σ w (Qk ek ev (mdel l k)) (es.eraseIdx j)
 |[],es,k,j,e,h,_,hj,_=>by
  cases(show es=[]from h);simp at hj
 |p::l,es,k,j,e,h,hn,hj,hk=>by
  obtain⟨e0,l',rfl,h1,h2,h3⟩:=h;have e1:e0.key=QA (ek p.1):=VR.val (K.scl _) h1;rw[Vk,List.nodup_cons]at hn;cases j with
  |zero=>
   simp at hj;subst hj;have hp:p.1=k:=K.inj _ _ (by rw[<- e1,hk]);have:=Qdw K (l:=l) (k:=k) h3 λe he q=>hn.1 (by rw[hk, <- q];exact VH he);have e2:mdel (p::l) k=l:=by
    unfold mdel at this⊢;rw[Xd,this];simp[hp]
   rw[e2];exact h3
  |succ j=>
   have a:l'[j]?=some e:=by simpa using hj
   have hp:p.1≠k:=λq=>hn.1 (by
    show e0.key∈_;rw[e1,q, <- hk];exact VH (VI a))
   have e2:mdel (p::l) k=p::mdel l k:=by
    unfold mdel;rw[Xd];simp[hp]
   rw[e2];exact⟨e0,_,rfl,h1,h2,Qf2 h3 hn.2 a hk⟩
variable {o:Oper} {env:Env} {H:Qc} {T T' i:Nat} {x y:Operand} {l m:List (α×β)} {k:α}
theorem OpH.mdel{c:Call}(hm:some (Sw.mdel l k)=some m)(W:P.underlying T=some (.map kt et))(ho:o.op=.call c:=by exact rfl)(hc:c={callee:=.builtin .delete,args:= #[x,y],argTypes:= #[T,T']}:=by exact rfl)
  (hx:opA env x=.map i:=by exact rfl)(hH:H[i]?=some (.map (Qk ek ev l)):=by exact rfl)(t:opA env y=ek k:=by exact rfl):OpH P o env H (.tup []) (H.set i (.map (Qk ek ev m))):=by
 obtain rfl:=X0 hm;subst hc;intro fr O σ N a w r;have X:=Qd r x;rw[hx]at X;obtain⟨b,G,q2⟩:=X;have Q:=Qd r y;rw[t]at Q;have h3:=VR.val (K.scl _) Q;obtain⟨n,d,u,E,R,V,L⟩:=r.sim.blk i _ _ G hH;have B:∀(obj:Obj) y,w.shape? b=some y->({w with heap:=w.heap.setIfInBounds b obj}:World).shape? b=some y:=by
  intro obj y t;unfold World.shape? at t;rw[u]at t;simp at t
 have run:∀s:Array MapEntry,(Builtin.delete_ #[T,T'] o.type #[.map (some b),QA (ek k)]).run P w=.ok (.tuple #[]) {w with heap:=w.heap.setIfInBounds b (.map s d)}->
   (execOp a.eval o).run P w=.ok (.value (.tuple #[])) {w with heap:=w.heap.setIfInBounds b (.map s d)}:=by
  intro s h;simp only[execOp,ho,resolve,invoke,Go.builtin,Vn,Vp,Result.andThen];simp only[XJ,Vk,Vl,q2,h3,h]
 rcases K.find w k n.toList (Qbl K E)with⟨M,F⟩|⟨j,e,M,F,g3⟩
 .have g:=r.sim.set (x':=.map (Qk ek ev (Sw.mdel l k))) (obj:=.map n d) G hH rfl (B _)
   (λe J=>⟨n,d,J,by rw[Qdw K E F];exact E.mono e.nil,R,V,L⟩)
  refine⟨_,_,O,[],run n ?_,⟨[],rfl,rfl⟩,by simpa using g.1,g.2⟩;simp[Builtin.delete_,Vn,run_underlying W,Result.andThen,MapKept.run_getObj_map u,K.check,M,MapKept.run_setObj_map _ u,go_sem]
 .have q:(n.eraseIdxIfInBounds j).toList=n.toList.eraseIdx j:=by simp
  have p:∀{γ:Type} (f:MapEntry->γ),((n.eraseIdxIfInBounds j).toList.map f).Sublist (n.toList.map f):=λf=>by
   rw[q];exact(List.eraseIdx_sublist _ _).map f
  have g:=r.sim.set (x':=.map (Qk ek ev (Sw.mdel l k))) (obj:=.map (n.eraseIdxIfInBounds j) d) G hH rfl (B _)
   (λe J=>⟨_,d,J,by rw[q];exact(Qf2 K E L F g3).mono e.nil,λY z=>R Y ((by rw[q]at z;exact List.mem_of_mem_eraseIdx z)),(p _).nodup V,(p _).nodup L⟩)
  refine⟨_,_,O,[],run _ ?_,⟨[],rfl,rfl⟩,by simpa using g.1,g.2⟩;simp[Builtin.delete_,Vn,run_underlying W,Result.andThen,MapKept.run_getObj_map u,K.check,M,MapKept.run_setObj_map _ u,go_sem]
end
end Go.Sw
namespace Go.Sw
section
variable {P:Program} {h0 N:Nat} {all:Array Oper} {o1 o2:Oper} {l:List Oper} {env:Env} {H:Qc} {Q:Qx}
theorem Qld{t n d:Nat}{z:Value}{v:A}{cs zs:List A}{y:Operand}(hz:∀w,(zeroValue t).run P w=.ok z w)(hv:ZR v z)(hs:∀w,(Go.sizeOf t).run P w=.ok n w)
  (k:WO P h0 N all l (up env d (.rp cs)) H Q)(hk:Q8 v=true:=by exact rfl)(hzs:Yi v=zs:=by exact rfl)(hpl:zs.all Yo=true:=by exact rfl)(hzn:zs.length=n:=by exact rfl)(hn:cs.length=n:=by exact rfl)
  (ho1:o1.op=.alloc t:=by exact rfl)(hd1:o1.dst=some d:=by exact rfl)(ho2:o2.op=.store t (.tmp d) y:=by exact rfl)(hd2:o2.dst=none:=by exact rfl)(hy:opA (up env d .any) y=.agg cs:=by exact rfl)(hda:Yc cs=true:=by exact rfl)(hcp:cs.all Yo=true:=by exact rfl)(hkc:Q8 (.agg cs)=true:=by exact rfl)(hcc:Yi (.agg cs)=cs:=by exact rfl)
  (hg1:Qn all o1 env true:=by exact rfl)(hg2:Qn all o2 (up env d .any) true:=by exact rfl)(hN:Nat.blt d N=true:=by exact rfl):WO P h0 N all (o1::o2::l) env H Q:=by
 intro rd fr B σ a w r hrd;obtain⟨O,h2,h3⟩:=(hv B σ w).cells hk;rw[hzs]at h3
 let w1:World:=w.alloc (.cells O.toArray t)
 have R:(execOp a.eval o1).run P w=.ok (.value (.pointer (some ⟨w.heap.size,0,none⟩))) w1:=by
  generalize a.eval=ρ at*;have e:(newVar t z).run P w=.ok ⟨w.heap.size,0,none⟩ (w.alloc (.cells O.toArray t)):=by
   unfold newVar;rw[h2];rfl
  simp only[execOp,ho1,Instr.alloc,Vn,hz,Result.andThen,e];rfl
 refine Qac (YA hg1 r) R ?_;simp only[hd1,Act.put];have ag:d<N:=by simpa[Nat.blt_eq]using hN
 have L:d<a.tmps.size:=by rw[r.size];exact ag
 let a1:Act:={a with tmps:=a.tmps.setIfInBounds d (.pointer (some ⟨w.heap.size,0,none⟩))}
 have u:∀b,b<w.heap.size->w1.heap[b]?=w.heap[b]? :=λb M=>Ya _ _ b M;have G:w.heap.size<=w1.heap.size:=by show _<=(w.alloc _).heap.size;rw[Q5];omega
 have h:Qe fr B w B w1:=Qe.alloc _ r.sim.roLt r.sim.frLt;have r1:Rel fr B σ H (up env d .any) N a1 w1:=⟨r.sim.grown u G,VR.up (fr:=fr) (λs=>(r.env s).mono (h.ext0 σ)) L trivial,by simpa[a1]using r.size,r.defers.keep h⟩;have T:=Qd r1 y;rw[hy]at T;obtain⟨m,h4,h5⟩:=T.cells hkc;rw[hcc]at h5;have j:w1.heap[w.heap.size]?=some (.cells O.toArray t (0,0)):=Q9 _ _;have aa:O.length=n:=by rw[h3.length,hzn]
 have J:m.length=n:=by rw[h5.length,hn]
 have ab:=Yg (P:=P) (vs:=m) 0 0 j (by omega) (h5.plain hcp);have ae:splice O (0+0) m=m:=by
  unfold splice;simp[aa,J]
 rw[ae]at ab
 let w2:World:={w1 with heap:=w1.heap.setIfInBounds w.heap.size (.cells m.toArray t (0,0))}
 have he:a1.eval (.tmp d)=.pointer (some ⟨w.heap.size,0,none⟩):=by
  show(a.tmps.setIfInBounds d _).getD d undef=_;rw[QhY L,Vu rfl]
 have Y:(execOp a1.eval o2).run P w1=.ok .skip w2:=by
  have ac:(storeVar t ⟨w.heap.size,0,none⟩ (a1.eval y)).run P w1=.ok () w2:=by
   unfold storeVar;rw[Vn,hs];simp only[Result.andThen];rw[Vt (by simp[h4,J]),h4];simpa using ab
  generalize a1.eval=ρ at*;simp only[execOp,ho2,he,Instr.storeAt,Instr.sureAddr,pure_bind,Vn,ac];rfl
 refine Qhx (YA hg2 r1) Y ?_;simp only[hd2,Act.put];have f:∀b,b<w.heap.size->w2.heap[b]?=w.heap[b]? :=λb M=>by
  show(w1.heap.setIfInBounds w.heap.size _)[b]?=_;rw[Array.getElem?_setIfInBounds_ne (by omega)];exact u b M
 have F:w2.heap.size=w1.heap.size:=by simp[w2]
 have E:w.heap.size<w1.heap.size:=(Vd.1 j).1;have X:w.heap.size<=w2.heap.size:=by rw[F];exact G
 have p:w2.heap[w.heap.size]?=some (.cells m.toArray t (0,0)):=by
  show(w1.heap.setIfInBounds w.heap.size _)[w.heap.size]?=_;rw[Array.getElem?_setIfInBounds_self_of_lt E]
 have s1:=r.sim.grown f X;have s2:=s1.addRo (b:=w.heap.size) (by rw[F];exact E) (λq=>Nat.lt_irrefl _ (r.sim.frLt _ q)) (λi x V W p3=>Nat.lt_irrefl _ (r.sim.own i _ x V W p3).1)
  (λi d x V W p3=>Nat.lt_irrefl _ (r.sim.hid i d x _ V W (r.sim.hidKeep V W (λz=>f d (r.sim.own i d x V W z).1) (λb q=>f b (r.sim.roLt b q)) p3)).lt)
 have ev:Qe fr B w (λc=>B c\/c=w.heap.size) w2:=by
  refine⟨λb q=>.inl q,λb q=>f b (r.sim.roLt b q),λb q=>f b (r.sim.frLt b q),X,?_,h.os,h.tape,h.output,h.drawn⟩;intro b x g;have M:b<w.heap.size:=by
   unfold World.shape? at g;cases q:w.heap[b]? with
   |none=>rw[q]at g;simp at g
   |some _=>exact(Vd.1 q).1
  unfold World.shape? at g⊢;rw[f b M];exact g
 have af:VR (λc=>B c\/c=w.heap.size) σ w2 (.rp cs) (.pointer (some ⟨w.heap.size,0,none⟩)):=by
  refine⟨w.heap.size,0,rfl,.inr rfl,?_⟩;refine Qhu (pre:=[]) (by simpa using p) ?_ (h5.plain hcp);have h6:LR B [] w1 cs m:=LR.data hda h5;refine h6.mono ⟨λ_ q=>.inl q,λb q=>?_,λb x g=>?_,λ_ _ q=>q⟩
  .show(w1.heap.setIfInBounds w.heap.size _)[b]?=_;have:=r.sim.roLt b q;rw[Array.getElem?_setIfInBounds_ne (by omega)]
  .by_cases e:b=w.heap.size
   .subst e;unfold World.shape? at g⊢;rw[j]at g;rw[p];simp at g⊢;rw[aa]at g;rw[J];exact g
   .unfold World.shape? at g⊢;rw[show w2.heap[b]?=w1.heap[b]? from Array.getElem?_setIfInBounds_ne (Ne.symm e)];exact g
 have r2:Rel fr (λc=>B c\/c=w.heap.size) σ H (up env d (.rp cs)) N a1 w2:=
  ⟨s2,VR.up (fr:=fr) (λs=>(r.env s).mono (ev.ext0 σ)) L af,by simpa[a1]using r.size,r.defers.keep ev⟩
 exact Ye (λe a w q=>q.step ev rfl) _ _ _ (k rd fr _ σ a1 w2 r2 (hrd.to ev λ_ q=>q))
end
end Go.Sw
namespace Go.Sw
section
variable {P:Program} {o:Oper} {env:Env} {H:Qc}
theorem QcZ{t e:TypeId}{p:Option Addr}{w:World}(a:∀w,(underlying t).run P w=.ok (.pointer e) w):(Op.equal t (.pointer p) (.pointer none)).run P w=.ok p.isNone w:=by
 have k:∀d,(Op.equalIn (d+1) t (.pointer p) (.pointer none)).run P w=.ok p.isNone w:=by
  intro d;cases p<;>simp[Op.equalIn,a,go_sem]
 exact k 9999
theorem QiC{t e u:TypeId}{x:Operand}{i off:Nat}(f:∀w,(underlying t).run P w=.ok (.pointer e) w)(j:opA env x=.ptr i off)(g:o.op=.binOp .eql t x (.const (.pointer none)) u:=by exact rfl):OpV P o env H (.bool false):=by
 intro m l σ N a w r;have d:=Qd r x;rw[j]at d;obtain⟨b,n,h⟩:=d;have k:a.eval (.const (.pointer none))=.pointer none:=rfl;refine⟨_,?_,rfl⟩;generalize a.eval=ρ at*;simp[execOp,g,h,k,Go.binOp,eqGuard,QcZ f,go_sem]
theorem QiD{t e u:TypeId}{x:Operand}(d:∀w,(underlying t).run P w=.ok (.pointer e) w)(h:opA env x=.nilp)(f:o.op=.binOp .eql t x (.const (.pointer none)) u:=by exact rfl):OpV P o env H (.bool true):=by
 intro k j σ N a w r;have b:=Qd r x;rw[h]at b;have i:a.eval (.const (.pointer none))=.pointer none:=rfl;have g:a.eval x=.pointer none:=b;refine⟨_,?_,rfl⟩;generalize a.eval=ρ at*;simp[execOp,f,g,i,Go.binOp,eqGuard,QcZ d,go_sem]
end
end Go.Sw
namespace Go.Sw
section
variable {P:Program} {o:Oper} {env:Env} {H:Qc} {α:Type}
def Qg0(l:List α)(lo hi i:Int):Option α:=bif decide (0<=lo)&&(decide (0<=i)&&decide (lo+i<hi))then idx l (lo+i)else none
theorem Qka{l:List α}{lo hi i:Int}{v:α}(h:Qg0 l lo hi i=some v):0<=lo/\0<=i/\lo+i<hi/\idx l (lo+i)=some v:=by
 unfold Qg0 at h;cases q:decide (0<=lo)&&(decide (0<=i)&&decide (lo+i<hi))with
 |false=>rw[q]at h;cases h
 |true=>
  rw[q]at h;rw[XX,XX,Vs,Vs,Vs]at q;exact⟨q.1,q.2.1,q.2.2,h⟩
theorem QgZ{l:List α}{lo hi i:Int}{v:α}(h:Qg0 l lo hi i=some v):idx l (lo+i)=some v:=(Qka h).2.2.2
theorem Qft{t et k b:Nat}{x y:Operand}{l:List α}{g:IntKind}{lo hi i:Int}{v:α}(h:Qg0 l lo hi i=some v)(d:∀w,(underlying t).run P w=.ok (.slice et) w)(f:∀w,(sizeOf et).run P w=.ok k w)
  (m:o.op=.indexAddr t x y:=by exact rfl)(hx:opA env x=.osl b (0+lo.toNat) (hi.toNat-lo.toNat) k:=by exact rfl)(hy:opA env y=.int g i:=by exact rfl):OpV P o env H (.ptr b ((lo+i).toNat*k)):=by
 obtain⟨p,j,n,_⟩:=Qka h;have a:=Qhl (H:=H) m d f hx hy j (by omega);have e:(0+lo.toNat)*k+i.toNat*k=(lo+i).toNat*k:=by
  rw[<- XA];congr 1;omega
 rwa [e]at a
end
abbrev Ea:=@Ev.bind
abbrev Ec:=@FzH.keep
abbrev Ed:=@FzL.cons
abbrev Ee:=@FzA.refl
abbrev Ef:=@TC.le
abbrev Eg:=@PL.cons
abbrev Eh:=@DS.done
abbrev Ei:=@EvI.done
abbrev Ej:=@FzL.refl
abbrev Ek:=@OpH.lit
abbrev El:=@RF.cons
abbrev Em:=@Le.trans
abbrev En:=@ZR.int
abbrev Eo:=@FzA.o
abbrev Ep:=@Le.phantom
abbrev Er:=@WO.le
abbrev Et:=@Ev.or
abbrev Eu:=@Ev.eq
abbrev Ew:=@EvI.cont
abbrev Ex:=@OpU.store
abbrev Ey:=@OpV.load
abbrev Ez:=@Ev.const
theorem Zf.{u,v}{α:Sort u}{β:Sort v}{f:α->β}:∀x,f x=f x:=λ_=>rfl
abbrev Ze.{u,v}{α:Sort u}{β:Type v}:α->List β:=λ_=>[]
end Go.Sw
