/- The rules by which the code is walked, with what they rest on (part 3). -/
import Derived.Test.YtckiejaapddafaaGreatDoorL2
import Derived.Laws.BytesString
set_option linter.unusedVariables false
set_option linter.unusedSectionVars false
set_option linter.unusedSimpArgs false
namespace Go.Sw
def QcC:Option Blk->Bool
 |some .dead=>true
 |_=>false
def Qaw(hB hE:Nat)(H H':Qd):Bool:=(List.range (hE-hB)).all λp=> !QcC H'[hB+p]? ||QcC H[hB+p]?
def QkK(hB hE:Nat)(σ:Sig)(H:Qd):Prop:=∀p,hB<=p->p<hE->QcC H[p]?=true->σ[p]?=some none
theorem Qlk{hB hE:Nat}{H H':Qd}(h:Qaw hB hE H H'=true){p:Nat}(d:hB<=p)(b:p<hE)(a:QcC H'[p]?=true):QcC H[p]?=true:=by
 have:=Xt.1 h (p-hB) (List.mem_range.2 (by omega));rw[show hB+(p-hB)=p by omega,a]at this;simpa using this
theorem Sim.allocAt{fr ro:Nat->Prop}{σ:Sig}{H:Qd}{w:World}(s:Sim fr ro σ H w){p:Nat}(L:σ[p]?=some none){obj:Obj}{x:Blk}
  (P:BR ro (σ.set p (some w.heap.size)) (w.alloc obj) x (some w.heap.size))
  (E:∀c,Hid (w.alloc obj) x w.heap.size c->False:=by exact λ_ h=>h.elim):Sim fr ro (σ.set p (some w.heap.size)) (H.set p x) (w.alloc obj):=by
 have ev:Qh fr ro w ro (w.alloc obj):=Qh.alloc obj s.roLt s.frLt;have u:=s.len;have F:p<σ.length:=(XO.1 L).1;have t:Ext ro σ w ro (σ.set p (some w.heap.size)) (w.alloc obj):=⟨ev.sub,ev.keepRo,ev.shape,λi b q=>by
  rw[XS (λz=>by subst z;rw[L]at q;cases q)];exact q⟩
 have e:∀(i:Nat) (y:Option Nat),(σ.set p (some w.heap.size))[i]?=some y->(i≠p/\σ[i]?=some y)\/(i=p/\y=some w.heap.size):=by
  intro i y h;by_cases q:i=p
  .subst q;rw[Xa F]at h;exact .inr ⟨rfl,(X2 h).symm⟩
  .rw[XS (λz=>q z.symm)]at h;exact .inl ⟨q,h⟩
 have m:∀i:Nat,i≠p->(H.set p x)[i]?=H[i]? :=λi N=>XS (λz=>N z.symm);have M:(H.set p x)[p]?=some x:=Xa (by omega);refine⟨by simp[u],s.roOk.to (λ_ q=>q) ev.keepRo (λb h=>?_),λb h=>?_,s.roFr,?_,?_,?_,s.hidTo (· = ·) QZ (by rw[Yn];omega) (λ_ _ _ _ _ _ _ q=>q) (λ_ _ _ _ _ _ _ q=>q) λj d y l k Q=>?_⟩
 rotate_left 5
 .rcases e j _ l with⟨q,l⟩|⟨rfl,n⟩
  .rw[m j q]at k;exact .inl ⟨j,y,rfl,l,k,id,λc q=>s.hidKeep l k (λz=>Yo w obj d (s.own j d y l k z).1) ev.keepRo q⟩
  .rw[M]at k;cases k;cases n;exact .inr ⟨XW _,E⟩
 .rw[Yn];have:=s.roLt b h;omega
 .rw[Yn];have:=s.frLt b h;omega
 .intro i b y f g r;rw[Yn];rcases e i _ f with⟨q,f⟩|⟨rfl,n⟩
  .rw[m i q]at g;obtain⟨a,b,c⟩:=s.own i b y f g r;exact⟨by omega,b,c⟩
  .cases n;exact⟨by omega,λq=>by have:=s.roLt _ q;omega,λq=>by have:=s.frLt _ q;omega⟩
 .intro i j b y z f g r B G J;rcases e i _ f with⟨q,l⟩|⟨O,n⟩<;>rcases e j _ g with⟨q',k⟩|⟨ej,e2⟩
  .rw[m i q]at r;rw[m j q']at B;exact s.inj i j b y z l k r B G J
  .cases e2;rw[m i q]at r;have:=(s.own i _ y l r G).1;omega
  .cases n;rw[m j q']at B;have:=(s.own j _ z k B J).1;omega
  .rw[O,ej]
 .intro i y z f g;rcases e i _ f with⟨q,f⟩|⟨rfl,n⟩
  .rw[m i q]at g;refine(s.blk i y z f g).keep t ?_ ?_
   .rintro b rfl u;exact Yo w obj b (s.own i b z f g u).1
   .rintro b c rfl u;exact Yo w obj c (s.hid i b z c f g u).lt
  .rw[M]at g;cases g;subst n;exact P
def OpZ(P:Program)(o:Oper)(t:Nat)(cs:List A):Prop:=
 ∀(ro:Nat->Prop) (σ:Sig) (w:World) (a:Act),∃l:List Value,(execOp a.eval o).run P w=.ok (.value (.pointer (some ⟨w.heap.size,0,none⟩))) (w.alloc (.cells l.toArray t))/\LR ro σ w cs l/\ ∀v∈l,Qq v
theorem OpZ.alloc{P:Program}{o:Oper}{t:Nat}{z:Value}{v:A}{cs:List A}(i:∀w,(zeroValue t).run P w=.ok z w)(g:ZR v z)(f:o.op=.alloc t:=by exact rfl)(hk:Q9 v=true:=by exact rfl)(hcs:Q8 v=cs:=by exact rfl)(hpl:cs.all Ym=true:=by exact rfl):
  OpZ P o t cs:=by
 intro h σ w a;obtain⟨l,d,b⟩:=(g h σ w).cells hk;subst hcs;refine⟨l,?_,b,b.plain hpl⟩;generalize a.eval=ρ at*;have e:(newVar t z).run P w=.ok ⟨w.heap.size,0,none⟩ (w.alloc (.cells l.toArray t)):=by
  unfold newVar;rw[d];rfl
 simp only[execOp,f,Instr.alloc,Vp,i,Result.andThen,e];rfl
theorem QcT{P:Program}{l:List Oper}{i:Nat}{o:Oper}{rd:Option Nat}{R:Exit->Act->World->Prop}{Q:Exit->Act->World->Prop}{K:Act->World->Prop}{a:Act}{w:World}
  (B:l[i]?=some o)(g:wpL P rd l.toArray R [o] a w)(h:∀e a' w',R e a' w'->e=.normal/\a'.defers=a.defers)(k:∀v w',R .normal (a.put o.dst v) w'->K (a.put o.dst v) w'):
  wpOpIn (WF rd) 0 P l.toArray Q i K a w:=by
 unfold wpOpIn;have p:l.toArray[i]?=some o:=by simpa using B
 rw[p];simp only;unfold wpL wpListIn at g;split at g
 .rename_i s;rw[Vv s];obtain⟨j,g⟩:=g;refine⟨j,?_⟩;have d:=QlW (by
   intro a' w' q;unfold wpListIn at q;exact(h _ _ _ q).2) g
  generalize(o.semAt (WF rd).round a.eval).run P w=res at*;cases res with
  |ok n w'=>
   cases n with
   |value v=>exact k _ _ d.1
   |skip=>exact k _ _ d.1
   |defer E=>
    exfalso;have:=(h _ _ _ d.1).2;have:=congrArg List.length this
    revert this
    cases o.dst<;>simp[Act.put]
   |enter f m=>
    refine⟨d.1,CallsIn.mono d.2 (λe t b=>?_)⟩;cases e with
    |returned v=>exact k _ _ b.1
    |panicked c=>have:=(h _ _ _ b).1;cases this
    |outgrown=>obtain⟨z,w1,b⟩:=b;have:=(h _ _ _ b).1;cases this
   |row r m=>
    exact⟨d.1,RowsIn.mono d.2 (λ_ _ b=>k _ _ b.1)⟩
   |round l f u assign y=>
    refine⟨d.1,RoundIn.mono d.2 (λe t b=>?_)⟩;cases e with
    |returned v=>exact k _ _ b.1
    |panicked c=>have:=(h _ _ _ b).1;cases this
    |outgrown=>obtain⟨z,w1,b⟩:=b;have:=(h _ _ _ b).1;cases this
   |_=>exact d.elim
  |halt x w'=>
   cases x with
   |panic v=>have:=(h _ _ _ d).1;cases this
   |_=>exact d.elim
 .rename_i s;rw[Vu s];obtain⟨j,g⟩:=g;refine⟨j,?_⟩;unfold wpListIn at g;exact k _ _ g
theorem Qlj{P:Program}{l:List Oper}{m:Nat}(n:∀i o,l[i]?=some o->∀j∈Qj o,j<i)(g:∀i o,m<i->l[i]?=some o->i-1∈Qj o){Q:Exit->Act->World->Prop}{rd:Option Nat}:
  ∀(b t:Nat) (L:Array Bool) (a:Act) (w:World),L.size=l.length->(∀i,i<l.length->(onL L i↔i<t))->unl L<=b->m<=t->t<=l.length->
   wpL P rd l.toArray Q (l.drop t) a w->wpAnyIn (WF rd) 0 P .any l.toArray Q b L a w:=by
 intro b
 induction b with
 |zero=>
  intro t L a w hsz hL hf hm ht h;have:t=l.length:=by
   rcases VE t l.length with q|q
   .have:=Qj5 (L:=L) (i:=t) (by omega) (λz=>by have:=(hL t q).1 z;omega);omega
   .omega
  subst this;refine⟨List.eq_nil_iff_forall_not_mem.2 λi p=>?_,?_⟩
  .obtain⟨o,e,k,_⟩:=(QaL hsz).1 p;have d:=(XO.1 e).1;exact k ((hL i d).2 d)
  .rw[List.drop_length]at h;exact h
 |succ b G=>
  intro t L a w hsz hL hf hm ht h;have s:∀i o,l[i]?=some o->¬onL L i->(∀j∈Qj o,onL L j)->i=t:=by
   intro i o e k y;have d:=(XO.1 e).1;have H:t<=i:=by
    rcases VE i t with q|q
    .exact absurd ((hL i d).2 q) k
    .exact q
   rcases VE t i with q|q
   .have:=(hL (i-1) (by omega)).1 (y _ (g i o (by omega) e));omega
   .omega
  rcases VE t l.length with f|f
  .have F:l[t]?=some l[t]:=XN f;have r:¬onL L t:=λq=>by have:=(hL t f).1 q;omega
   have B:t∈Region.ready .any l.toArray L:=by
    refine(QaL hsz).2 ⟨_,F,r,λj u=>?_⟩;have:=n t _ F j u;exact(hL j (by omega)).2 this
   refine⟨λq=>(by rw[q]at B;cases B),λi p=>?_⟩;obtain⟨o,e,k,y⟩:=(QaL hsz).1 p;obtain rfl:=s i o e k y;rw[Xq f]at h;obtain rfl:l[i]=o:=by rw[XN f]at e;exact X2 e
   unfold wpOpIn;rw[show l.toArray[i]?=some l[i]by rw[XJ];exact e];simp only;unfold wpL wpListIn at h;have E:∀a w,wpL P rd l.toArray Q (l.drop (i+1)) a w->wpAnyIn (WF rd) 0 P .any l.toArray Q b (L.setIfInBounds i true) a w:=by
    intro a w q;have J:=QgS (L:=L) (i:=i) (by omega) r;refine G (i+1) _ a w (by simpa using hsz) (λj u=>?_) (by omega) (by omega) (by omega) q;rw[Ju (by omega),hL j u];omega
   split at h
   .rename_i x;rw[Vv x];exact Oper.wpIn_mono E h
   .rename_i x;rw[Vu x];exact⟨h.1,E _ _ h.2⟩
  .have:t=l.length:=by omega
   subst this;rw[List.drop_length]at h;refine⟨λ_=>h,λi p=>?_⟩;obtain⟨o,e,k,_⟩:=(QaL hsz).1 p;have d:=(XO.1 e).1;exact absurd ((hL i d).2 d) k
def QnT(af ds:List Nat)(xs:List A)(env0 e:Env):Prop:=
 ∀s,(∃j x,af.contains j=true/\ds[j]?=some s/\xs[j]?=some x/\lk e s=x)\/lk e s=.any\/(ds.contains s=false/\lk e s=lk env0 s)
inductive JC (P:Program) (N:Nat) (l:List Oper) (ds:List Nat) (xs:List A) (env0:Env) (hB hE:Nat) (i:Nat) (H H':Qd):Prop
 |mk (o:Oper) (e:Env) (d:Nat) (x:A) (ho:l[i]?=some o) (hd:o.dst=some d) (hx:xs[i]?=some x) (hdd:Qaw hB hE H H'=true) (hs:Sb (Qj o) (QjF l i) ds xs env0 e)
   (h:WO P H.length N l.toArray [o] e H (Y5 (up e d x) H')):JC P N l ds xs env0 hB hE i H H'
 |unit (o:Oper) (e:Env) (ho:l[i]?=some o) (hd:o.dst=none) (hx:xs[i]?=some .any) (hdd:Qaw hB hE H H'=true) (hs:Sb (Qj o) (QjF l i) ds xs env0 e)
   (h:WO P H.length N l.toArray [o] e H (Y5 e H')):JC P N l ds xs env0 hB hE i H H'
 |alloc (o:Oper) (d t p:Nat) (cs:List A) (ho:l[i]?=some o) (hd:o.dst=some d) (hg:o.guard=none) (hx:xs[i]?=some (.ptr p 0)) (hp:(Nat.ble hB p&&Nat.blt p hE)=true) (hdead:QcC H[p]?=true)
   (hH:H.set p (.cells t cs)=H') (h:OpZ P o t cs) (hN:Nat.blt d N=true):JC P N l ds xs env0 hB hE i H H'
 |val (o:Oper) (e:Env) (d:Nat) (x:A) (ho:l[i]?=some o) (hd:o.dst=some d) (hg:o.guard=none) (hx:xs[i]?=some x) (hN:Nat.blt d N=true) (he:QnT (Qj o) ds xs env0 e) (h:OpV P o e H x)
   (hH:H=H':=by rfl):JC P N l ds xs env0 hB hE i H H'
 |woE (o:Oper) (e:Env) (d:Nat) (x:A) (ho:l[i]?=some o) (hd:o.dst=some d) (hx:xs[i]?=some x) (he:QnT (Qj o) ds xs env0 e) (hdd:Qaw hB hE H H'=true) (h:WO P H.length N l.toArray [o] e H (Y5 (up e d x) H')):JC P N l ds xs env0 hB hE i H H'
theorem Sb.rel{af f d:List Nat}{xs:List A}{env0 e:Env}{ro:Nat->Prop}{σ:Sig}{w:World}{a:Act}(h:Sb af f d xs env0 e)
  (i:∀j∈af,∀s x,d[j]?=some s->xs[j]?=some x->VR ro σ w x (a.tmps.getD s undef))
  (g:∀s,d.contains s=false->VR ro σ w (lk env0 s) (a.tmps.getD s undef))(hP:∀j s,f.contains j=true->d[j]?=some s->VR ro σ w (lk env0 s) (a.tmps.getD s undef)):
  ∀s,VR ro σ w (lk e s) (a.tmps.getD s undef):=by
 intro s
 induction h with
 |nil=>exact trivial
 | @dep j s1 x1 r h1 h2 h3 _ ih=>
  unfold lk;cases b:Nat.beq s s1 with
  |false=>exact ih
  |true=>
   obtain rfl:=XT b;exact i j (by simpa using h1) _ _ h2 h3
 | @old s1 x1 r h1 h2 _ ih=>
  unfold lk;cases b:Nat.beq s s1 with
  |false=>exact ih
  |true=>
   obtain rfl:=XT b;subst h2;exact g _ h1
 | @pre j s1 x1 r h1 h2 h3 _ ih=>
  unfold lk;cases b:Nat.beq s s1 with
  |false=>exact ih
  |true=>
   obtain rfl:=XT b;subst h3;exact hP j _ h1 h2
structure After (fr ro:Nat->Prop) (σ:Sig) (w:World) (hB hE:Nat) (H':Qd) (xs:List A) (i:Nat) (o:Oper) (a':Act) (w':World) (ro':Nat->Prop) (σ':Sig):Prop where
 val:∀x,xs[i]?=some x->match o.dst with
  |some d=>VR ro' σ' w' x (a'.tmps.getD d undef)
  |none=>x=.any
 sim:Sim fr ro' σ' H' w'
 ev:Qh fr ro w ro' w'
 ext:Ext ro σ w ro' σ' w'
 holes:QkK hB hE σ' H'
 take:σ'.take hB=σ.take hB
theorem JC.use{P:Program}{N:Nat}{l:List Oper}{ds:List Nat}{xs:List A}{env0:Env}{hB hE i:Nat}{H H':Qd}(hb:JC P N l ds xs env0 hB hE i H H')
  {Q:Exit->Act->World->Prop}{K:Act->World->Prop}{fr ro:Nat->Prop}{σ:Sig}{a:Act}{w:World}{o:Oper}{rd:Option Nat}(O:l[i]?=some o)
  (f:Sim fr ro σ H w)(hN:a.tmps.size=N)(n:Qdi fr a.defers w)(aa:Qeg rd fr w)(hh:QkK hB hE σ H)(hl:hE<=H.length)(al:hB<=hE)
  (hD:∀j∈Qj o,∀s x,ds[j]?=some s->xs[j]?=some x->VR ro σ w x (a.tmps.getD s undef))
  (hO:∀s,ds.contains s=false->VR ro σ w (lk env0 s) (a.tmps.getD s undef))(hP:∀j s,(QjF l i).contains j=true->ds[j]?=some s->VR ro σ w (lk env0 s) (a.tmps.getD s undef))
  (hK:∀v w' ro' σ',After fr ro σ w hB hE H' xs i o (a.put o.dst v) w' ro' σ'->K (a.put o.dst v) w'):
  wpOpIn (WF rd) 0 P l.toArray Q i K a w:=by
 have J:∀{e:Env} {H2:Qd} {E:Exit} {r:Act} {w':World},Qb2 H.length fr ro σ w N a.defers (Y5 e H2) E r w'->E=.normal/\r.defers=a.defers:=by
  rintro e H2 E r w' ⟨x,_,_,_,_,_,k,⟨rfl,_⟩,_,_,_,B,_⟩;refine⟨?_,B⟩;cases E<;>first|rfl|exact k.elim|cases k
 have aj:∀{σ':Sig} {w':World},Qh fr ro w ro w'->σ'.take H.length=σ.take H.length->True:=λ_ _=>trivial;have L:∀{e:Env} {r:Act} {w':World},Qb2 H.length fr ro σ w N a.defers (Y5 e H') .normal r w'->Qaw hB hE H H'=true->
   ∃ro' σ',Sim fr ro' σ' H' w'/\Qh fr ro w ro' w'/\Ext ro σ w ro' σ' w'/\QkK hB hE σ' H'/\σ'.take hB=σ.take hB/\ ∀s,VR ro' σ' w' (lk e s) (r.tmps.getD s undef):=by
  rintro e r w' ⟨_,ai,H2,ro',σ',ak,_,⟨_,rfl,rfl⟩,r',he,ht,_,ae⟩ m;have hσ:σ'=σ++σ'.drop H.length:=by
   conv=>lhs;rw[<- XB H.length σ']
   rw[ht, <- f.len,Vb]
  refine⟨ro',σ',r'.sim.frMono ae.sub,he,?_,?_,?_,r'.env⟩
  .rw[hσ];exact he.ext σ _
  .intro p k B h3;have:=hh p k B (Qlk m k B h3);rw[hσ,XP (by rw[f.len];omega)];exact this
  .rw[hσ];exact Qu (by rw[f.len];omega)
 cases hb with
 |woE u e d x g G T he m h=>
  obtain rfl:u=o:=X2 (g.symm.trans O);have hr:∀s,VR ro σ w (lk e s) (a.tmps.getD s undef):=λs=>by
   rcases he s with⟨j,x,k,B,h3,F⟩|F|⟨k,F⟩
   .rw[F];exact hD j (by simpa using k) s x B h3
   .rw[F];exact trivial
   .rw[F];exact hO s k
  refine QcT O (h rd fr ro σ a w ⟨f,hr,hN,n⟩ aa) (λ_ _ _ q=>J q) (λv w' q=>?_);obtain⟨ro',σ',g1,Y,M,g4,g5,g6⟩:=L q m;refine hK v w' ro' σ' ⟨λy V=>?_,g1,Y,M,g4,g5⟩;obtain rfl:=X2 (T.symm.trans V);have:=g6 d;unfold lk at this;rw[VH]at this;rw[G]at this⊢;exact this
 |mk u e d x g G T m hs h=>
  obtain rfl:u=o:=X2 (g.symm.trans O);refine QcT O (h rd fr ro σ a w ⟨f,hs.rel hD hO hP,hN,n⟩ aa) (λ_ _ _ q=>J q) (λv w' q=>?_);obtain⟨ro',σ',g1,Y,M,g4,g5,g6⟩:=L q m;refine hK v w' ro' σ' ⟨λy V=>?_,g1,Y,M,g4,g5⟩;obtain rfl:=X2 (T.symm.trans V);have:=g6 d;unfold lk at this;rw[VH]at this;rw[G]at this⊢;exact this
 |unit u e g G T m hs h=>
  obtain rfl:u=o:=X2 (g.symm.trans O);refine QcT O (h rd fr ro σ a w ⟨f,hs.rel hD hO hP,hN,n⟩ aa) (λ_ _ _ q=>J q) (λv w' q=>?_);obtain⟨ro',σ',g1,Y,M,g4,g5,g6⟩:=L q m;refine hK v w' ro' σ' ⟨λy V=>?_,g1,Y,M,g4,g5⟩;obtain rfl:=X2 (T.symm.trans V);rw[G]
 |val u e d x g G hg T X he h hH=>
  obtain rfl:u=o:=X2 (g.symm.trans O);subst hH;have hr:Rel fr ro σ H e N a w:=by
   refine⟨f,λs=>?_,hN,n⟩;rcases he s with⟨j,x,k,B,h3,F⟩|F|⟨k,F⟩
   .rw[F];exact hD j (by simpa using k) s x B h3
   .rw[F];exact trivial
   .rw[F];exact hO s k
  obtain⟨v0,k,B⟩:=h fr ro σ N a w hr;have hw:Region.wanted u (yielded l.toArray a.tmps)=true:=by unfold Region.wanted;rw[hg]
  refine QcT (R:=λE r w'=>E=.normal/\r.defers=a.defers/\r=a.put u.dst v0/\w'=w) O (Qab hw k ?_) (λ_ _ _ q=>⟨q.1,q.2.1⟩) (λv w' q=>?_)
  .unfold wpL wpListIn;refine⟨rfl,?_,rfl,rfl⟩;rw[G];rfl
  .obtain⟨_,_,q1,rfl⟩:=q;refine hK v _ ro σ ⟨λy V=>?_,f,Qh.refl _ _ _,⟨λ_ q=>q,λ_ _=>rfl,λ_ _ q=>q,λ_ _ q=>q⟩,hh,rfl⟩;obtain rfl:=X2 (T.symm.trans V);rw[q1,G];have ab:d<a.tmps.size:=by rw[hN];simpa using X
   show VR ro σ w' x _;simpa[Act.put,Array.getD_eq_getD_getElem?,ab]using B
 |alloc u d t p cs g G hg T hp ac hH h X=>
  obtain rfl:u=o:=X2 (g.symm.trans O);subst hH;simp only[XZ]at hp;have ah:=XU hp.1;have ag:p<hE:=by simpa using hp.2
  have hσp:=hh p ah ag ac;obtain⟨lv,k,B,h3⟩:=h ro σ w a;have hw:Region.wanted u (yielded l.toArray a.tmps)=true:=by unfold Region.wanted;rw[hg]
  have ev:Qh fr ro w ro (w.alloc (.cells lv.toArray t)):=Qh.alloc _ f.roLt f.frLt;have af:p<σ.length:=by rw[f.len];omega
  have W:Ext ro σ w ro (σ.set p (some w.heap.size)) (w.alloc (.cells lv.toArray t)):=⟨ev.sub,ev.keepRo,ev.shape,λj b q=>by
   rw[XS (λz=>by subst z;rw[hσp]at q;cases q)];exact q⟩
  refine QcT (R:=λE r w'=>E=.normal/\r.defers=a.defers/\r=a.put u.dst (.pointer (some ⟨w.heap.size,0,none⟩))/\w'=w.alloc (.cells lv.toArray t)) O (Qab hw k ?_) (λ_ _ _ q=>⟨q.1,q.2.1⟩) (λv w' q=>?_)
  .unfold wpL wpListIn;refine⟨rfl,?_,rfl,rfl⟩;rw[G];rfl
  .obtain⟨_,_,q1,rfl⟩:=q;refine hK v _ ro (σ.set p (some w.heap.size)) ⟨λy V=>?_,f.allocAt hσp ⟨lv,Ya _ _,B.mono W,h3⟩,ev,W,λp' g1 Y M=>?_,?_⟩
   .obtain rfl:=X2 (T.symm.trans V);rw[q1,G];have ab:d<a.tmps.size:=by rw[hN];simpa using X
    refine⟨w.heap.size,Xa af,?_⟩;simp[Act.put,Array.getD_eq_getD_getElem?,ab]
   .by_cases q:p'=p
    .subst q;rw[Xa (by omega)]at M;cases M
    .rw[XS (λz=>q z.symm)]at M⊢;exact hh p' g1 Y M
   .rw[List.take_set,List.set_eq_of_length_le];rw[Xz];omega
def same(a b:List Nat):Bool:=a.all (b.contains ·)&&b.all (a.contains ·)
theorem Qn6{a b:List Nat}(h:same a b=true)(i:Nat):i∈a↔i∈b:=by
 unfold same at h;simp only[XZ,Xt,List.contains_iff_mem]at h;exact⟨h.1 i,h.2 i⟩
structure QnW (l:List Oper) (m:Nat) (ds:List Nat) (hs:List Bool) (rq ms:List (List Nat)) (pl:List (List (Nat×Nat))) (N:Nat):Prop where
 len:m<=l.length
 dst:∀i o,i<m->l[i]?=some o->(∃d,o.dst=some d/\ds[i]?=some d/\d<N)\/o.dst=none
 dsl:ds.length=m
 nodup:∀(i j d:Nat),ds[i]?=some d->ds[j]?=some d->i=j
 back:∀i o,l[i]?=some o->∀j∈Qj o,j<i
 mid:∀o,l[m]?=some o->∀j,j<m->Qcs l m j
 chain:∀i o,m<i->l[i]?=some o->i-1∈Qj o
 rqs:∀i o,i<m->l[i]?=some o->∀h∈rq.getD i [],h<m/\hs.getD h false=true/\(h∈Qj o\/ ∃j∈Qj o,j<m/\h∈rq.getD j [])
 ms0:ms.getD 0 []=[]
 full:∀st,st<ms.length->st+1=ms.length\/ ∃i,i<m/\hs.getD i false=true/\i∉ms.getD st []
 msh:∀st h,h∈ms.getD st []->h<m/\hs.getD h false=true
 pls:∀i st,i<m->st<ms.length->(∀h∈rq.getD i [],h∈ms.getD st [])->(hs.getD i false=true->i∉ms.getD st [])->(∀h∈ms.getD st [],¬Qcs l h i)->
  ∃st',(st,st')∈pl.getD i []/\st'<ms.length/\if hs.getD i false then∀j,j∈ms.getD st' []↔j=i\/j∈ms.getD st []else st'=st
theorem Qkp{α:Type}{l:List α}{i:Nat}{d x:α}(h:l[i]?=some x):l.getD i d=x:=by rw[VN,h];rfl
theorem Qiz{P:Program}{l:List Oper}{m:Nat}{X:List Nat}{hs:List Bool}{rq ms:List (List Nat)}{pl:List (List (Nat×Nat))}{N h0 hB hE:Nat}{xs:List A}{env0:Env}{Hs:List Qd}{Hk:Qd}
  (ok:QnW l m X hs rq ms pl N)(ax:xs.length=m)(bb:Hs.length=ms.length)(a5:h0<=hB)(a9:hB<=hE)(ao:∀H∈Hs,hE<=H.length)
  (av:∀i p,i<m->p∈pl.getD i []->JC P N l X xs env0 hB hE i (Hs.getD p.1 []) (Hs.getD p.2 []))(au:Hs.getD (ms.length-1) []=Hk)
  {fr ro0:Nat->Prop}{σ0:Sig}{w0:World}{rd:Option Nat}{ds0:List Deferred}{R:Exit->Act->World->Prop}
  (hk:∀ro σ a w,Rel fr ro σ Hk (Qay X xs env0) N a w->Qh fr ro0 w0 ro w->σ.take h0=σ0.take h0->a.defers=ds0->wpL P rd l.toArray R (l.drop m) a w)(ai:Qdi fr ds0 w0)(ay:Qeg rd fr w0):
  ∀(f:Nat) (L:Array Bool) (a:Act) (w:World) (ro:Nat->Prop) (σ:Sig) (t:Nat),
   L.size=l.length->unl L<=f->(∀i,m<=i->¬onL L i)->t<ms.length->Sim fr ro σ (Hs.getD t []) w->a.tmps.size=N->a.defers=ds0->
   (∀(i d:Nat) (x:A),onL L i->X[i]?=some d->xs[i]?=some x->VR ro σ w x (a.tmps.getD d undef))->(∀s,(∀j,X[j]?=some s->¬onL L j)->VR ro σ w (lk env0 s) (a.tmps.getD s undef))->
   Qh fr ro0 w0 ro w->σ.take h0=σ0.take h0->QkK hB hE σ (Hs.getD t [])->
   (∀i,i<m->onL L i->∀h∈rq.getD i [],onL L h)->(∀i,i<m->hs.getD i false=true->(onL L i↔i∈ms.getD t []))->
   (∀i o,onL L i->l[i]?=some o->∀j∈Qj o,onL L j)->
   wpAnyIn (WF rd) 0 P .any l.toArray R f L a w:=by
 have a1:∀t,t<ms.length->hE<=(Hs.getD t []).length:=by
  intro t h;have e:Hs[t]?=some Hs[t]:=XN (by omega);rw[Qkp e];exact ao _ (Vf _)
 have fin:∀(f:Nat) (L:Array Bool) (a:Act) (w:World) (ro:Nat->Prop) (σ:Sig) (t:Nat),
   L.size=l.length->unl L<=f->(∀i,m<=i->¬onL L i)->t<ms.length->Sim fr ro σ (Hs.getD t []) w->a.tmps.size=N->a.defers=ds0->
   (∀(i d:Nat) (x:A),onL L i->X[i]?=some d->xs[i]?=some x->VR ro σ w x (a.tmps.getD d undef))->(∀s,(∀j,X[j]?=some s->¬onL L j)->VR ro σ w (lk env0 s) (a.tmps.getD s undef))->
   Qh fr ro0 w0 ro w->σ.take h0=σ0.take h0->
   (∀i,i<m->hs.getD i false=true->(onL L i↔i∈ms.getD t []))->(∀i,i<m->onL L i)->
   wpAnyIn (WF rd) 0 P .any l.toArray R f L a w:=by
  intro f L a w ro σ t hsz hu hsuf hst hsim hN hdef hD hE' hev htk hI2 k;have aj:t=ms.length-1:=by
   rcases ok.full t hst with q|⟨i,O,Y,h3⟩
   .omega
   .exact absurd ((hI2 i O Y).1 (k i O)) h3
  rw[aj,au]at hsim;refine Qlj ok.back ok.chain f m L a w hsz (λi hi=>⟨λq=>?_,λq=>k i q⟩) hu (XW _) ok.len ?_
  .rcases VE i m with z|z
   .exact z
   .exact absurd q (hsuf i z)
  .have hr:Rel fr ro σ Hk (Qay X xs env0) N a w:=by
    refine⟨hsim,λs=>?_,hN,by rw[hdef];exact ai.keep hev⟩;rcases Qoe (env0:=env0) (by rw[ok.dsl,ax]) s with⟨j,x,O,Y,h3⟩|⟨O,Y⟩
    .rw[h3];have b:j<m:=by have:=(XO.1 O).1;rw[ok.dsl]at this;exact this
     exact hD j s x (k j b) O Y
    .rw[Y];exact hE' s (λj q=>absurd (VJ q) (by simpa using O))
   exact hk ro σ a w hr hev htk hdef
 intro f
 induction f with
 |zero=>
  intro L a w ro σ t hsz hu hsuf hst hsim hN hdef hD hE' hev htk hho hI1 hI2 hcl;refine fin 0 L a w ro σ t hsz hu hsuf hst hsim hN hdef hD hE' hev htk hI2 (λi hi=>?_);by_cases q:onL L i
  .exact q
  .have:=Qj5 (L:=L) (i:=i) (by have:=ok.len;omega) q;omega
 |succ f ih=>
  intro L a w ro σ t hsz hu hsuf hst hsim hN hdef hD hE' hev htk hho hI1 hI2 hcl;by_cases k:∀i,i<m->onL L i
  .exact fin (f+1) L a w ro σ t hsz hu hsuf hst hsim hN hdef hD hE' hev htk hI2 k
  .have ar:∃i,i<m/\ ¬onL L i:=by
    refine Classical.byContradiction λq=>k λi hi=>Classical.byContradiction λz=>q ⟨i,hi,z⟩
   obtain⟨n,hn,an⟩:=ar;obtain⟨i0,O,Y,h3⟩:=least (p:=λi=>¬onL L i) (λi=>Classical.em _) n an;have ba:=ok.len;have ah:l[i0]?=some l[i0]:=XN (by omega);have hr:i0∈Region.ready .any l.toArray L:=(QaL hsz).2 ⟨_,ah,Y,λj b=>Classical.byContradiction λz=>h3 j (ok.back i0 _ ah j b) z⟩;refine⟨λq=>(by rw[q]at hr;cases hr),λi hi=>?_⟩;obtain⟨o,V,W,G⟩:=(QaL hsz).1 hi;have B:i<m:=by
    rcases VE i m with q|q
    .exact q
    .exfalso;rcases VE m i with z|z
     .exact hsuf (i-1) (by omega) (G _ (ok.chain i o z V))
     .have:i=m:=by omega
      subst this;have a7:∀j,Qcs l i j->onL L j:=by
       intro j b
       induction b with
       |one r b=>rw[V]at r;cases r;exact G _ b
       |step _ r b ihr=>exact hcl _ _ ihr r _ b
      exact an (a7 n (ok.mid o V n hn))
   have am:∀h∈rq.getD i [],onL L h:=by
    intro h T;obtain⟨_,_,q|⟨j,q1,q2,q3⟩⟩:=ok.rqs i o B V h T
    .exact G h q
    .exact hI1 j q2 (G j q1) h q3
   obtain⟨a3,a8,a6,J⟩:=ok.pls i t B hst (λh T=>by
    obtain⟨q1,q2,_⟩:=ok.rqs i o B V h T;exact(hI2 h q1 q2).1 (am h T)) (λq z=>W ((hI2 i B q).2 z)) (λh T hR=>by
    obtain⟨q1,q2⟩:=ok.msh t h T;have a0:onL L h:=(hI2 h q1 q2).2 T;have ag:∀j,Qcs l h j->onL L j:=by
     intro j b
     induction b with
     |one r b=>exact hcl _ _ a0 r _ b
     |step _ r b ihr=>exact hcl _ _ ihr r _ b
    exact W (ag i hR))
   have hb:=av i _ B a8;refine hb.use V hsim hN (by rw[hdef];exact ai.keep hev) (ay.to hev λ_ q=>q) hho (a1 t hst) a9 (λj b s x q1 q2=>hD j s x (G j b) q1 q2) (λs O=>hE' s (λj q=>absurd (VJ q) (by simpa using O))) (λj s O Y=>hE' s (λj' q q'=>?_)) ?_
   .obtain rfl:=ok.nodup j' j s q Y;have b:=Xd.1 (List.contains_iff_mem.1 O);cases ae:l[j']? with
    |none=>rw[ae]at b;simp at b
    |some oj=>
     rw[ae]at b;exact W (hcl j' oj q' ae i (by simpa using b.2))
   intro v w' a2 σ' af;have aa:=af.ext;have ab:∀s,(∀d,o.dst=some d->s≠d)->(a.put o.dst v).tmps.getD s undef=a.tmps.getD s undef:=by
    intro s aq;cases hd:o.dst with
    |none=>rfl
    |some d=>
     simp only[Act.put,Array.getD_eq_getD_getElem?,Vg];rw[Vu (λq=>aq d hd q.symm)]
   have ac:(a.put o.dst v).tmps.size=N:=by
    cases hd:o.dst with
    |none=>simpa[Act.put]using hN
    |some d=>simpa[Act.put]using hN
   have a4:(a.put o.dst v).defers=ds0:=by
    cases hd:o.dst with
    |none=>simpa[Act.put]using hdef
    |some d=>simpa[Act.put]using hdef
   have bc:=QgS (L:=L) (i:=i) (by omega) W;have u:i<L.size:=by omega
   have aw:∀s j,X[j]?=some s->j≠i->∀d,o.dst=some d->s≠d:=by
    intro s j b E d hd q;subst q;rcases ok.dst i o B V with⟨d',g,Q,al⟩|g
    .rw[hd]at g;cases g;exact E (ok.nodup j i _ b Q)
    .rw[hd]at g;cases g
   refine ih _ _ w' a2 σ' a3 (by simpa using hsz) (by omega) (λj b q=>?_) a6 af.sim ac a4 ?_ ?_ (hev.trans af.ev) ?_ af.holes ?_ ?_ ?_
   .rcases(Ju u).1 q with z|z
    .omega
    .exact hsuf j b z
   .intro j s y b M hy;by_cases E:j=i
    .subst E;have hv:=af.val y hy;rcases ok.dst j o B V with⟨d',g,Q,al⟩|g
     .obtain rfl:s=d':=X2 (M.symm.trans Q);simp only[g]at hv⊢;exact hv
     .simp only[g]at hv;subst hv;exact trivial
    .rw[ab s (aw s j M E)];rcases(Ju u).1 b with z|z
     .exact absurd z E
     .exact(hD j s y z M hy).mono aa
   .intro s M;have az:∀d,o.dst=some d->s≠d:=by
     rintro d hd rfl;rcases ok.dst i o B V with⟨d',g,Q,al⟩|g
     .rw[hd]at g;cases g;exact M i Q ((Ju u).2 (.inl rfl))
     .rw[hd]at g;cases g
    rw[ab s az];exact(hE' s (λj q z=>M j q ((Ju u).2 (.inr z)))).mono aa
   .rw[<- htk];have:=congrArg (List.take h0) af.take;rw[List.take_take,List.take_take,XD a5]at this;exact this
   .intro j b F h T;refine(Ju u).2 (.inr ?_);rcases(Ju u).1 F with z|z
    .subst z;exact am h T
    .exact hI1 j b z h T
   .intro j b F;rw[Ju u];cases q:hs.getD i false with
    |false=>
     have E:j≠i:=by rintro rfl;rw[q]at F;cases F
     rw[q]at J;simp only[Xi,if_false]at J;simp only[E,false_or];rw[J];exact hI2 j b F
    |true=>
     rw[q]at J;simp only[if_true]at J;rw[J j,hI2 j b F]
   .intro j o' b r j' ak;rcases(Ju u).1 b with z|z
    .subst z;rw[V]at r;cases r;exact(Ju u).2 (.inr (G _ ak))
    .exact(Ju u).2 (.inr (hcl j o' z r j' ak))
def Qd2.dstB(N:Nat):Nat->List Oper->List Nat->Bool
 |_,_,[]=>true
 |i,o::r,d::ds=>(match o.dst with|some d'=>Nat.beq d' d&&Nat.blt d N|none=>true)&&Qd2.dstB N (i+1) r ds
 |_,[],_::_=>false
def Qd2.rqB(m:Nat)(hs:List Bool)(rq:List (List Nat)):Nat->List Oper->Bool
 |_,[]=>true
 |i,o::r=>(rq.getD i []).all (λh=>Nat.blt h m&&hs.getD h false&&((Qj o).contains h||(Qj o).any λj=>Nat.blt j m&&(rq.getD j []).contains h))&&Qd2.rqB m hs rq (i+1) r
def Qja(l:List Oper)(h:Nat):List Nat:=match l[h]? with
 |some o=>QeO l h (Qj o)
 |none=>[]
theorem QkW{l:List Oper}{h j:Nat}(q:j∈Qja l h):Qcs l h j:=by
 unfold Qja at q;cases a:l[h]? with
 |none=>rw[a]at q;cases q
 |some o=>rw[a]at q;exact Qb7 h (Qj o) (λi b=>.one a b) j q
def Qd2.plB(l:List Oper)(m:Nat)(hs:List Bool)(rq ms:List (List Nat))(pl:List (List (Nat×Nat))):Bool:=
 (List.range m).all λi=>(List.range ms.length).all λst=>((ms.getD st []).any λh=>(Qja l h).contains i)|| !(rq.getD i []).all ((ms.getD st []).contains ·)||(hs.getD i false&&(ms.getD st []).contains i)||
  (pl.getD i []).any λp=>Nat.beq p.1 st&&Nat.blt p.2 ms.length&&(bif hs.getD i false then same (ms.getD p.2 []) (i::ms.getD st [])else Nat.beq p.2 st)
def Qd2(l:List Oper)(m N:Nat)(ds:List Nat)(hs:List Bool)(rq ms:List (List Nat))(pl:List (List (Nat×Nat))):Bool:=
 Nat.ble m l.length&&(ds.length==m)&&Qd2.dstB N 0 l ds&&drawChk.nodupB ds&&drawChk.goB l m 0 l&&Qd2.rqB m hs rq 0 l&&(ms.getD 0 []).isEmpty&&Nat.blt 0 ms.length
 &&((List.range ms.length).all λst=>Nat.beq (st+1) ms.length||(List.range m).any λi=>hs.getD i false&& !(ms.getD st []).contains i)&&Qd2.plB l m hs rq ms pl&&(List.range ms.length).all λst=>(ms.getD st []).all λh=>Nat.blt h m&&hs.getD h false
theorem Qgw{N:Nat}:∀(l:List Oper) (a:List Nat) (b:Nat),Qd2.dstB N b l a=true->∀(i d:Nat) (o:Oper),l[i]?=some o->a[i]?=some d->
  (o.dst=some d/\d<N)\/o.dst=none:=by
 intro l
 induction l with
 |nil=>intro a b h i d o f;simp at f
 |cons x r k=>
  intro a b h i d o f g;cases a with
  |nil=>simp at g
  |cons y a=>
   simp only[Qd2.dstB,XZ]at h;cases i with
   |zero=>
    simp at f g;subst f;subst g;have h:=h.1;split at h
    .rename_i m j;simp only[XZ]at h;have e:=XT h.1;subst e;exact .inl ⟨j,by simpa using h.2⟩
    .rename_i j;exact .inr j
   |succ i=>
    have:=k a (b+1) h.2 i d o (by simpa using f) (by simpa using g);exact this
theorem Qmb{m:Nat}{e:List Bool}{d:List (List Nat)}:∀(l:List Oper) (b:Nat),Qd2.rqB m e d b l=true->∀(i:Nat) (o:Oper),l[i]?=some o->
  ∀h∈d.getD (b+i) [],h<m/\e.getD h false=true/\(h∈Qj o\/ ∃j∈Qj o,j<m/\h∈d.getD j []):=by
 intro l
 induction l with
 |nil=>intro b h i o a;simp at a
 |cons x r t=>
  intro b h i o a;simp only[Qd2.rqB,XZ]at h;cases i with
  |zero=>
   simp at a;subst a;intro k f;have:=Xt.1 h.1 k (by simpa using f);simp only[XZ,Bool.or_eq_true,List.contains_iff_mem,Xu]at this;obtain⟨⟨p,u⟩,g⟩:=this;refine⟨by simpa using p,u,?_⟩;rcases g with q|⟨j,s,w,n⟩
   .exact .inl q
   .exact .inr ⟨j,s,by simpa using w,n⟩
  |succ i=>
   have:=t (b+1) h.2 i o (by simpa using a);rw[show b+1+i=b+(i+1)by omega]at this;exact this
theorem Qnh{l:List Oper}{m N:Nat}{t:List Nat}{F:List Bool}{G r:List (List Nat)}{H:List (List (Nat×Nat))}(h:Qd2 l m N t F G r H=true):
  QnW l m t F G r H N/\0<r.length:=by
 unfold Qd2 at h;simp only[XZ]at h;obtain⟨⟨⟨⟨⟨⟨⟨⟨⟨⟨X,Q⟩,h3⟩,M⟩,J⟩,O⟩,T⟩,Y⟩,V⟩,y⟩,x⟩:=h;have B:m<=l.length:=XU X;have E:t.length=m:=by simpa using Q
 have g:=Qh6 l 0 J;refine⟨⟨B,λi o s b=>?_,E,QdU M,λi o b=>by have:=(g i o b).1;simpa using this,λo b j W=>Qb7 m (Qj o) (λi s=>.one b s) j ((g m o b).2.1 (by omega) j W),
  λi o s b=>by have:=(g i o b).2.2 (by omega);simpa using this,λi o s b h d=>by have:=Qmb l 0 O i o b h (by simpa using d);exact this,
  by simpa using T,λk a=>?_,λk h d=>?_,λi k s a L hn R=>?_⟩,by simpa using Y⟩
 .have w:t[i]?=some t[i]:=XN (by omega);rcases Qgw l t 0 h3 i _ o b w with⟨n,u⟩|n
  .exact .inl ⟨_,n,w,u⟩
  .exact .inr n
 .have:=Xt.1 V k (List.mem_range.2 a);simp only[Bool.or_eq_true,Xu,XZ,Bool.not_eq_true']at this;rcases this with q|⟨i,n,u,f⟩
  .exact .inl (XT q)
  .exact .inr ⟨i,List.mem_range.1 n,u,λz=>by rw[List.contains_iff_mem.2 z]at f;cases f⟩
 .have a:k<r.length:=by
   rcases VE k r.length with q|q
   .exact q
   .rw[VN,XR q]at d;cases d
  have:=Xt.1 (Xt.1 x k (List.mem_range.2 a)) h d;simp only[XZ]at this;exact⟨by simpa using this.1,this.2⟩
 .have:=Xt.1 (Xt.1 y i (List.mem_range.2 s)) k (List.mem_range.2 a);simp only[Bool.or_eq_true,Bool.not_eq_true']at this;rcases this with((q|q)|q)|q
  .exfalso;obtain⟨h,d,q⟩:=Xu.1 q;exact R h d (QkW (List.contains_iff_mem.1 q))
  .exfalso;have:((G.getD i []).all ((r.getD k []).contains ·))=true:=Xt.2 λh d=>List.contains_iff_mem.2 (L h d);rw[this]at q;cases q
  .simp only[XZ]at q;exact absurd (List.contains_iff_mem.1 q.2) (hn q.1)
  .obtain⟨p,P,q⟩:=Xu.1 q;simp only[XZ]at q;obtain⟨⟨n,u⟩,f⟩:=q;have e:=XT n;refine⟨p.2,by rw[<- e];exact P,by simpa using u,?_⟩;cases z:F.getD i false with
   |true=>
    rw[z]at f;simp only[Vr]at f;simp only[if_true];intro j;rw[Qn6 f j,X8]
   |false=>
    rw[z]at f;simp only[Vs]at f;simp only[Xi,if_false];exact XT f
inductive Qhy (P:Program) (N:Nat) (l:List Oper) (ds:List Nat) (xs:List A) (env0:Env) (hB hE:Nat):Nat->List (List (Qd×Qd))->Prop
 |nil {i:Nat}:Qhy P N l ds xs env0 hB hE i []
 |cons {i:Nat} {s:List (Qd×Qd)} {r:List (List (Qd×Qd))} (h:∀p∈s,JC P N l ds xs env0 hB hE i p.1 p.2) (k:Qhy P N l ds xs env0 hB hE (i+1) r):Qhy P N l ds xs env0 hB hE i (s::r)
theorem Qhy.get{P:Program}{N:Nat}{l:List Oper}{d:List Nat}{xs:List A}{env0:Env}{hB hE b:Nat}{e:List (List (Qd×Qd))}(h:Qhy P N l d xs env0 hB hE b e):
  ∀(i:Nat) (s:List (Qd×Qd)),e[i]?=some s->∀p∈s,JC P N l d xs env0 hB hE (b+i) p.1 p.2:=by
 induction h with
 |nil=>intro i s h;simp at h
 | @cons b s0 r h _ ih=>
  intro i s a;cases i with
  |zero=>simp at a;subst a;exact h
  |succ i=>
   have:=ih i s (by simpa using a);rw[show b+1+i=b+(i+1)by omega]at this;exact this
theorem Qe{P:Program}{N:Nat}{l:List Oper}{a:List Nat}{xs:List A}{env0:Env}{hB hE i:Nat}:∀p∈([]:List (Qd×Qd)),JC P N l a xs env0 hB hE i p.1 p.2:=by
 intro p b;cases b
theorem Qc{P:Program}{N:Nat}{l:List Oper}{a:List Nat}{xs:List A}{env0:Env}{hB hE i:Nat}{H H':Qd}{r:List (Qd×Qd)}(h:JC P N l a xs env0 hB hE i H H')
  (k:∀p∈r,JC P N l a xs env0 hB hE i p.1 p.2):∀p∈(H,H')::r,JC P N l a xs env0 hB hE i p.1 p.2:=by
 intro p b;rcases X8.1 b with rfl|q
 .exact h
 .exact k p q
theorem QgY{P:Program}{h0 N:Nat}{id:Nat}{l:List Oper}{env:Env}{H:Qd}{fr ro:Nat->Prop}{σ:Sig}{a:Act}{w:World}{rd:Option Nat}{R:Exit->Act->World->Prop}(m c:Nat)(ds:List Nat)(hs:List Bool)(rq Y:List (List Nat))(M:List (List (Nat×Nat)))(xs:List A)(Hs:List Qd)(Hk:Qd)
  (hm:P.follows .mixedOrders=true)(hc:Qd2 l m N ds hs rq Y M=true)(ac:Nat.beq xs.length m=true)(af:Nat.beq Hs.length Y.length=true)(aa:Nat.ble h0 H.length=true)
  (hh:Hs.all (λX=>Nat.ble (H.length+c) X.length)=true)(ah:Hs[0]?=some (H++List.replicate c .dead))(ag:Hs.getD (Y.length-1) []=Hk)
  (ab:Qhy P N l ds xs env H.length (H.length+c) 0 (M.map λq=>q.map λp=>(Hs.getD p.1 [],Hs.getD p.2 [])))(V:Nat.beq M.length m=true)
  (r:Rel fr ro σ H env N a w)(ae:Qeg rd fr w)
  (hk:∀ro' σ' a' w',Rel fr ro' σ' Hk (Qay ds xs env) N a' w'->Qh fr ro w ro' w'->σ'.take h0=σ.take h0->a'.defers=a.defers->wpL P rd l.toArray R (l.drop m) a' w'):(Code.region id l.toArray true).wpIn (WF rd) 0 P R a w:=by
 obtain⟨ok,J⟩:=Qnh hc;have G:=XT ac;have L:=XT af;have ai:=XT V;have B:Qh fr ro w ro {w with drawn:=w.drawn+1}:=⟨λ_ q=>q,λ_ _=>rfl,λ_ _=>rfl,XW _,λ_ _ q=>q,rfl,rfl,rfl,Nat.le_succ _⟩;have u:Ext ro σ w ro (σ++List.replicate c none) {w with drawn:=w.drawn+1}:=B.ext σ _;have T:=r.sim.len;have O:Hs.getD 0 []=H++List.replicate c .dead:=Qkp ah;have h:∀(i:Nat) (s:Option Nat) (x:Blk),(σ++List.replicate c none)[i]?=some s->(H++List.replicate c Blk.dead)[i]?=some x->(σ[i]?=some s/\H[i]?=some x)\/(s=none/\x=.dead):=by
  intro i s x n k;rcases VE i σ.length with q|q
  .rw[XP q]at n;rw[XP (by omega)]at k;exact .inl ⟨n,k⟩
  .rw[XQ q]at n;rw[XQ (by omega)]at k;have a1:=VJ n;have a2:=VJ k;exact .inr ⟨(List.mem_replicate.1 a1).2,(List.mem_replicate.1 a2).2⟩
 have E:Sim fr ro (σ++List.replicate c none) (H++List.replicate c .dead) {w with drawn:=w.drawn+1}:=by
  refine⟨by simp[T],r.sim.roOk.to (λ_ q=>q) (λ_ _=>rfl) r.sim.roLt,r.sim.frLt,r.sim.roFr,?_,?_,?_,
   r.sim.hidTo (· = ·) QZ (XW _) (λ_ _ _ _ _ _ _ q=>q) (λ_ _ _ _ _ _ _ q=>q) λj d y g1 g2 g3=>.inl ?_⟩
  rotate_left 3
  .rcases h j _ _ g1 g2 with⟨g,t⟩|⟨g,_⟩
   .exact⟨j,y,rfl,g,t,(λz=>z),λc q=>q⟩
   .cases g
  .intro i b blk n k Q;rcases h i _ _ n k with⟨g,t⟩|⟨g,_⟩
   .exact r.sim.own i b blk g t Q
   .cases g
  .intro i j b x y n k Q h4 h5 h6;rcases h i _ _ n Q with⟨g,t⟩|⟨g,_⟩
   .rcases h j _ _ k h4 with⟨W,q4⟩|⟨W,_⟩
    .exact r.sim.inj i j b x y g W t q4 h5 h6
    .cases W
   .cases g
  .intro i s x n k;rcases h i _ _ n k with⟨g,t⟩|⟨g,t⟩
   .exact BR.keep u (λb hb _=>rfl) (r.sim.blk i s x g t) (λ_ _ _ _=>rfl)
   .subst t;exact trivial
 have f:∀i,¬onL (Array.replicate l.length false) i:=by
  intro i q;unfold onL at q;rw[Array.getElem?_replicate]at q;split at q<;>simp at q
 have F:=XU aa;refine wpIn_region_any hm ?_;rw[List.size_toArray];refine Qiz ok G L F (Nat.le_add_right _ _) (λX hX=>XU (Xt.1 hh X hX)) ?_ ag (ro0:=ro) (σ0:=σ) (w0:=w) (ds0:=a.defers) hk r.defers ae
  l.length _ a _ ro (σ++List.replicate c none) 0 (by simp) ?_ (λi _=>f i) J (by rw[O];exact E) r.size rfl (λi d x q=>absurd q (f i)) (λs _=>(r.env s).mono u) B (Qu (by omega)) ?_
  (λi _ q=>absurd q (f i)) (λi _ _=>⟨λq=>absurd q (f i),λq=>by rw[ok.ms0]at q;cases q⟩) (λi o q=>absurd q (f i))
 .intro i p hi hp;have e:(M.map λq=>q.map λp=>(Hs.getD p.1 [],Hs.getD p.2 []))[i]?=some ((M.getD i []).map λp=>(Hs.getD p.1 [],Hs.getD p.2 [])):=by
   rw[Xp,XN (by omega),VN,XN (by omega)];rfl
  have:=ab.get i _ e _ (Xe.2 ⟨p,hp,rfl⟩);simpa using this
 .unfold unl;simp[List.countP_replicate]
 .intro p n k Q;rw[XQ (by omega),List.getElem?_replicate,Vv (by omega)]
theorem YW{P:Program}{h0 N:Nat}{id:Nat}{l:List Oper}{env:Env}{H:Qd}{Q:QB}(m c:Nat)(d:List Nat)(u:List Bool)(x g:List (List Nat))(f:List (List (Nat×Nat)))(xs:List A)(Hs:List Qd)(Hk:Qd)
  (E:P.follows .mixedOrders=true)(B:Qd2 l m N d u x g f=true)(i:Nat.beq xs.length m=true)(j:Nat.beq Hs.length g.length=true)(t:Nat.ble h0 H.length=true)
  (z:Hs.all (λX=>Nat.ble (H.length+c) X.length)=true)(s:Hs[0]?=some (H++List.replicate c .dead))(k:Hs.getD (g.length-1) []=Hk)
  (h:Qhy P N l d xs env H.length (H.length+c) 0 (f.map λq=>q.map λp=>(Hs.getD p.1 [],Hs.getD p.2 [])))(n:Nat.beq f.length m=true)
  (y:WO P h0 N l.toArray (l.drop m) (Qay d xs env) Hk Q):TC P h0 N (.region id l.toArray true) env H Q:=by
 intro G F J σ a w r hrd;refine Code.wpIn_mono (λe a w q=>Qb2.postW q) (QgY m c d u x g f xs Hs Hk E B i j t z s k h n r hrd λro' σ' a' w' hr hev htk hdf=>?_);have b:=y G F ro' σ' a' w' hr (hrd.to hev λ_ q=>q);rw[hdf]at b;exact Ye (λe a w q=>q.step hev htk) _ _ _ b
def draw0(l:List Oper)(m N:Nat)(ds:List Nat):Bool:=Nat.ble m l.length&&(ds.length==m)&&Qd2.dstB N 0 l ds&&drawChk.nodupB ds&&drawChk.goB l m 0 l
inductive Oq (P:Program) (N:Nat) (l:List Oper) (ds:List Nat) (xs:List A) (env0:Env) (H:Qd):Nat->Nat->Prop
 |n {i:Nat}:Oq P N l ds xs env0 H i 0
 |c {i c:Nat} (h:JC P N l ds xs env0 H.length H.length i H H) (k:Oq P N l ds xs env0 H (i+1) c):Oq P N l ds xs env0 H i (c+1)
theorem Oq.get{P:Program}{N:Nat}{l:List Oper}{a:List Nat}{xs:List A}{env0:Env}{H:Qd}{b c:Nat}(h:Oq P N l a xs env0 H b c):∀i,i<c->JC P N l a xs env0 H.length H.length (b+i) H H:=by
 induction h with
 |n=>intro i d;omega
 | @c b c h _ ih=>
  intro i d;cases i with
  |zero=>exact h
  |succ i=>
   have:=ih i (by omega);rw[show b+1+i=b+(i+1)by omega]at this;exact this
theorem Qni{l:List Oper}{m N:Nat}{e:List Nat}(h:draw0 l m N e=true):QnW l m e [] [] [[]] (List.replicate m [(0,0)]) N:=by
 unfold draw0 at h;simp only[XZ]at h;obtain⟨⟨⟨⟨z,t⟩,u⟩,x⟩,s⟩:=h;have q:m<=l.length:=XU z;have r:e.length=m:=by simpa using t
 have g:=Qh6 l 0 s;refine⟨q,λi o d b=>?_,r,QdU x,λi o b=>by have:=(g i o b).1;simpa using this,λo b j w=>Qb7 m (Qj o) (λi d=>.one b d) j ((g m o b).2.1 (by omega) j w),
  λi o d b=>by have:=(g i o b).2.2 (by omega);simpa using this,λi o d b h n=>by simp at n,rfl,λk a=>.inl (by simp at a;simp[a]),λk h n=>by cases k<;>simp at n,λi k d a _ _ _=>?_⟩
 .have f:e[i]?=some e[i]:=XN (by omega);rcases Qgw l e 0 u i _ o b f with⟨p,y⟩|p
  .exact .inl ⟨_,p,f,y⟩
  .exact .inr p
 .have:k=0:=by simp at a;exact a
  subst this;refine⟨0,?_,by simp,by simp⟩;rw[VN,List.getElem?_replicate,Vv d];exact VD.2 rfl
theorem QgZ{P:Program}{h0 N:Nat}{id:Nat}{l:List Oper}{env:Env}{H:Qd}{fr ro:Nat->Prop}{σ:Sig}{a:Act}{w:World}{rd:Option Nat}{R:Exit->Act->World->Prop}(m:Nat)(t:List Nat)(xs:List A)
  (F:P.follows .mixedOrders=true)(E:Go.Sw.draw0 l m N t=true)(k:Nat.beq xs.length m=true)(n:Nat.ble h0 H.length=true)
  (j:Oq P N l t xs env H 0 m)(r:Rel fr ro σ H env N a w)(u:Qeg rd fr w)
  (B:∀ro' σ' a' w',Rel fr ro' σ' H (Qay t xs env) N a' w'->Qh fr ro w ro' w'->σ'.take h0=σ.take h0->a'.defers=a.defers->wpL P rd l.toArray R (l.drop m) a' w'):(Code.region id l.toArray true).wpIn (WF rd) 0 P R a w:=by
 have ok:=Qni E;have e:=XT k;have f:Qh fr ro w ro {w with drawn:=w.drawn+1}:=⟨λ_ q=>q,λ_ _=>rfl,λ_ _=>rfl,XW _,λ_ _ q=>q,rfl,rfl,rfl,Nat.le_succ _⟩;have g:Ext ro σ w ro σ {w with drawn:=w.drawn+1}:=f.ext0 σ;have h:Sim fr ro σ H {w with drawn:=w.drawn+1}:=r.sim.heap rfl;have b:∀i,¬onL (Array.replicate l.length false) i:=by
  intro i q;unfold onL at q;rw[Array.getElem?_replicate]at q;split at q<;>simp at q
 refine wpIn_region_any F ?_;rw[List.size_toArray];refine Qiz (hB:=H.length) (hE:=H.length) (Hs:=[H]) (Hk:=H) ok e rfl (XU n) (XW _) (λX hX=>by rw[VD.1 hX];exact XW _) ?_ rfl (ro0:=ro) (σ0:=σ) (w0:=w) (ds0:=a.defers) B r.defers u
  l.length _ a _ ro σ 0 (by simp) ?_ (λi _=>b i) (by simp) h r.size rfl (λi d x q=>absurd q (b i)) (λs _=>(r.env s).mono g) f rfl (λp J G=>by omega)
  (λi _ q=>absurd q (b i)) (λi _ _=>⟨λq=>absurd q (b i),λq=>by cases q⟩) (λi o q=>absurd q (b i))
 .intro i p y z;rw[VN,List.getElem?_replicate,Vv y]at z;obtain rfl:=VD.1 z;have:=j.get i y;rw[Xx]at this;exact this
 .unfold unl;simp[List.countP_replicate]
theorem TC.draw0{P:Program}{h0 N:Nat}{id:Nat}{l:List Oper}{env:Env}{H:Qd}{Q:QB}(m:Nat)(d:List Nat)(xs:List A)
  (k:P.follows .mixedOrders=true)(i:Go.Sw.draw0 l m N d=true)(g:Nat.beq xs.length m=true)(h:Nat.ble h0 H.length=true)
  (f:Oq P N l d xs env H 0 m)(j:WO P h0 N l.toArray (l.drop m) (Qay d xs env) H Q):TC P h0 N (.region id l.toArray true) env H Q:=by
 intro p n s σ a w r hrd;refine Code.wpIn_mono (λe a w q=>Qb2.postW q) (QgZ m d xs k i g h f r hrd λro' σ' a' w' hr hev htk hdf=>?_);have b:=j p n ro' σ' a' w' hr (hrd.to hev λ_ q=>q);rw[hdf]at b;exact Ye (λe a w q=>q.step hev htk) _ _ _ b
section
variable {P:Program} {N:Nat} {l:List Oper} {ds af bf:List Nat} {xs:List A} {env0 e r:Env} {H H':Qd} {i hB hE:Nat} {o:Oper} {d s:Nat} {x a:A}
theorem sN:Sb af bf ds xs env0 []:=.nil
theorem sD(j:Nat)(k:Sb af bf ds xs env0 r)(b:af.contains j=true:=by exact rfl)(h2:ds[j]?=some s:=by exact rfl)(h3:xs[j]?=some a:=by exact rfl):Sb af bf ds xs env0 ((s,a)::r):=.dep j b h2 h3 k
theorem sP(j:Nat)(k:Sb af bf ds xs env0 r)(b:bf.contains j=true:=by exact rfl)(h2:ds[j]?=some s:=by exact rfl)(h3:lk env0 s=a:=by exact rfl):Sb af bf ds xs env0 ((s,a)::r):=.pre j b h2 h3 k
theorem sO(s:Nat)(k:Sb af bf ds xs env0 r)(b:ds.contains s=false:=by exact rfl)(h2:lk env0 s=a:=by exact rfl):Sb af bf ds xs env0 ((s,a)::r):=.old b h2 k
theorem Qd3(H:Qd):Qaw hB hE H H=true:=by
 unfold Qaw;refine Xt.2 λp _=>?_;cases QcC H[hB+p]? <;>rfl
theorem Om(b:l[i]?=some o)(f:Sb (Qj o) (QjF l i) ds xs env0 e)(h:WO P H.length N l.toArray [o] e H (Y5 (up e d x) H))(a:o.dst=some d:=by exact rfl)(hx:xs[i]?=some x:=by exact rfl):JC P N l ds xs env0 hB hE i H H:=
 .mk o e d x b a hx (Qd3 H) f h
theorem Om1(b:l[i]?=some o)(f:Sb (Qj o) (QjF l i) ds xs env0 e)(h:WO P H.length N l.toArray [o] e H (Y5 (up e d x) H'))(a:o.dst=some d:=by exact rfl)(hx:xs[i]?=some x:=by exact rfl)(hdd:Qaw hB hE H H'=true:=by exact rfl):JC P N l ds xs env0 hB hE i H H':=
 .mk o e d x b a hx hdd f h
theorem Om2(b:l[i]?=some o)(d:Sb (Qj o) (QjF l i) ds xs env0 e)(h:WO P H.length N l.toArray [o] e H (Y5 e H'))(a:o.dst=none:=by exact rfl)(hx:xs[i]?=some .any:=by exact rfl)(hdd:Qaw hB hE H H'=true:=by exact rfl):JC P N l ds xs env0 hB hE i H H':=
 .unit o e b a hx hdd d h
end
end Go.Sw
namespace Go.Sw
structure TyI where
 fld:List (Nat×Nat×Nat)
 agg:List (Nat×Bool×Nat)
 zer:List (Nat×List A×List (Nat×Nat))
structure TyOK (P:Program) (T:TyI):Prop where
 fld:∀e∈T.fld,∃n,QL P e.1 e.2.1 e.2.2 n
 agg:∀e∈T.agg,(∀w,(isAgg e.1).run P w=.ok e.2.1 w)/\ ∀w,(sizeOf e.1).run P w=.ok e.2.2 w
 zer:∀e∈T.zer,(∃z,(∀w,(zeroValue e.1).run P w=.ok z w)/\ZR (.agg e.2.1) z)/\QC P e.1 e.2.2
def Qib:List (Nat×Nat×Nat)->Nat->Nat->Option Nat
 |[],_,_=>none
 |(a,b,c)::r,t,f=>bif Nat.beq a t&&Nat.beq b f then some c else Qib r t f
def Qci{β:Type}:List (Nat×β)->Nat->Option β
 |[],_=>none
 |(a,b)::r,t=>bif Nat.beq a t then some b else Qci r t
theorem Qia{l:List (Nat×Nat×Nat)}{t f c:Nat}(h:Qib l t f=some c):(t,f,c)∈l:=by
 induction l with
 |nil=>cases h
 |cons x r i=>
  obtain⟨a,b,d⟩:=x;unfold Qib at h;cases q:(Nat.beq a t&&Nat.beq b f)with
  |true=>
   rw[q]at h;simp only[XZ]at q;have g:=XT q.1;have e:=XT q.2;simp only[Vr,Option.some.injEq]at h;subst g e h;exact .head _
  |false=>rw[q]at h;exact .tail _ (i h)
theorem QaB{β:Type}{l:List (Nat×β)}{t:Nat}{c:β}(h:Qci l t=some c):(t,c)∈l:=by
 induction l with
 |nil=>cases h
 |cons x r e=>
  obtain⟨a,b⟩:=x;unfold Qci at h;cases q:Nat.beq a t with
  |true=>
   rw[q]at h;have d:=XT q;simp only[Vr,Option.some.injEq]at h;subst d h;exact .head _
  |false=>rw[q]at h;exact .tail _ (e h)
def Qho(H:Qd):A->Option (List A)
 |.rp cs=>some cs
 |.ptr i off=>match H[i]? with
  |some (.cells _ cs)=>some (cs.drop off)
  |_=>none
 |_=>none
theorem QjC{H:Qd}{p:A}{cs:List A}(h:Qho H p=some cs):Pts H p cs:=by
 unfold Qho at h;split at h
 .cases h;exact Pts.rp
 .split at h
  .rename_i a;cases h;exact Pts.cells a rfl
  .cases h
 .cases h
def Ql3(T:TyI)(o:Oper)(env:Env)(H:Qd):Option A:=
 match o.op with
 |.move x=>some (opA env x)
 |.assign x=>some (opA env x)
 |.fieldAddr t x f=>match Qib T.fld t f with
  |none=>none
  |some off=>match opA env x with
   |.ptr i p=>some (.ptr i (p+off))
   |.rp cs=>some (.rp (cs.drop off))
   |_=>none
 |.load t x=>match Qci T.agg t with
  |none=>none
  |some (b,n)=>match x with
   |.global g=>match Qjk[g]? with
    |some zs=>bif b&&Nat.beq zs.length n then some (.agg (zs.map (A.int .i64)))else none
    |none=>none
   |x=>match Qho H (opA env x)with
    |none=>none
    |some cs=>bif b then(bif Nat.beq (cs.take n).length n then some (.agg (cs.take n))else none)else cs.head?
 |.build t parts=>match Qci T.zer t with
  |none=>none
  |some (zs,pl)=>match Qd0 env pl zs parts.toList with
   |some cs=>some (.agg cs)
   |none=>none
 |.extract x i=>match opA env x with
  |.tup vs=>vs[i]?
  |_=>none
 |.makeFunc f first cap=>some (.fn f (first.toList.map (opA env)) (cap.toList.map (opA env)))
 |_=>none
theorem Ql2{P:Program}{T:TyI}(m:TyOK P T){o:Oper}{env:Env}{H:Qd}{x:A}(h:Ql3 T o env H=some x):OpV P o env H x:=by
 unfold Ql3 at h;split at h
 .rename_i y a;cases h;exact OpV.move a rfl
 .rename_i y a;cases h;exact OpV.assign a rfl
 .rename_i t y f a;split at h
  .cases h
  .rename_i F l;obtain⟨n,s⟩:=m.fld _ (Qia l);split at h
   .rename_i i p j;cases h;exact Yp s a j
   .rename_i d j;cases h;exact Qw s a j rfl
   .cases h
 .rename_i t y a;split at h
  .cases h
  .rename_i b n B;obtain⟨e,k⟩:=m.agg _ (QaB B);split at h
   .rename_i g;split at h
    .rename_i u J;cases q:(b&&Nat.beq u.length n)with
     |false=>rw[q]at h;cases h
     |true=>
      rw[q]at h;cases h;simp only[XZ]at q;obtain⟨rfl,G⟩:=q;exact QgF e k J (XT G) a
    .cases h
   .split at h
    .cases h
    .rename_i d w;have r:=QjC w;cases b with
     |true=>
      simp only[Vr]at h;cases q:Nat.beq (d.take n).length n with
      |false=>rw[q]at h;cases h
      |true=>
       rw[q]at h;cases h;exact Qk a e k rfl r rfl (XT q)
     |false=>
      simp only[Vs]at h;cases d with
      |nil=>cases h
      |cons v d=>cases h;exact OpV.load a e rfl r
 .rename_i t parts a;split at h
  .cases h
  .rename_i u M L;obtain⟨⟨z,e,k⟩,E⟩:=m.zer _ (QaB L);split at h
   .rename_i d l;cases h;exact OpV.build e k E (by rw[a]) l
   .cases h
 .rename_i y i a;split at h
  .rename_i vs j;exact OpV.extract a j h
  .cases h
 .rename_i f first cap a
  cases h;exact OpV.makeFunc (first:=first.toList) (cap:=cap.toList) (by rw[a]) rfl rfl
 .cases h
def Qiy(af:List Nat):Nat->List Nat->List A->Env->Env
 |j,d::ds,x::xs,e=>(d,bif af.contains j then x else .any)::Qiy af (j+1) ds xs e
 |_,_,_,e=>e
theorem Qoy{af:List Nat}{env0:Env}(s:Nat):∀(a:List Nat) (xs:List A) (b:Nat),a.length=xs.length->
  (∃(j:Nat) (x:A),a[j]?=some s/\xs[j]?=some x/\lk (Qiy af b a xs env0) s=bif af.contains (b+j)then x else .any)\/(a.contains s=false/\lk (Qiy af b a xs env0) s=lk env0 s):=by
 intro a
 induction a with
 |nil=>intro xs b g;right;exact⟨rfl,by unfold Qiy;rfl⟩
 |cons d a l=>
  intro xs b g;cases xs with
  |nil=>cases g
  |cons x xs=>
   cases q:Nat.beq s d with
   |true=>
    have e:=XT q;subst e;left;refine⟨0,x,rfl,rfl,?_⟩;simp only[Qiy,lk,q,Vr];rfl
   |false=>
    have f:s≠d:=λz=>by subst z;simp[VH]at q
    simp only[Qiy,lk,q,Vs];rcases l xs (b+1) (by simpa using g)with⟨j,y,i,h,k⟩|⟨i,h⟩
    .left;refine⟨j+1,y,by simpa using i,by simpa using h,?_⟩;rw[show b+(j+1)=b+1+j by omega];exact k
    .right;refine⟨?_,h⟩;rw[List.contains_cons,i];simpa using f
def Qj6(T:TyI)(N:Nat)(l:List Oper)(ds:List Nat)(xs:List A)(env0:Env)(H:Qd)(i:Nat):Option A:=
 match l[i]? with
 |none=>none
 |some o=>match o.guard,o.dst with
  |none,some d=>bif Nat.blt d N&&Nat.beq ds.length xs.length then Ql3 T o (Qiy (Qj o) 0 ds xs env0) H else none
  |_,_=>none
theorem Qox{af b:List Nat}{xs:List A}{env0:Env}(hl:b.length=xs.length):QnT af b xs env0 (Qiy af 0 b xs env0):=by
 intro s;rcases Qoy (af:=af) (env0:=env0) s b xs 0 hl with⟨j,x,e,d,a⟩|h
 .rw[Xx]at a;cases q:af.contains j with
  |true=>rw[q]at a;exact .inl ⟨j,x,q,e,d,a⟩
  |false=>rw[q]at a;exact .inr (.inl a)
 .exact .inr (.inr h)
theorem vQ{P:Program}{T:TyI}(f:TyOK P T){N:Nat}{l:List Oper}{a:List Nat}{xs:List A}{env0:Env}{hB hE i:Nat}{H:Qd}{x:A}(b:xs[i]?=some x)(h:Qj6 T N l a xs env0 H i=some x):JC P N l a xs env0 hB hE i H H:=by
 unfold Qj6 at h;split at h
 .cases h
 .rename_i o e;split at h
  .rename_i d j g;cases q:(Nat.blt d N&&Nat.beq a.length xs.length)with
   |false=>rw[q]at h;cases h
   |true=>
    rw[q]at h;simp only[XZ]at q;exact .val o _ d x e g j b q.1 (Qox (XT q.2)) (Ql2 f h)
  .cases h
abbrev I(n:Int):A:=.int .i64 n
theorem zc{a:A}{v:Value}{al:List A}{vl:List Value}(h:ZR a v)(k:ZL al vl):ZL (a::al) (v::vl):=ZL.cons h k
def zr1:A->Value->Bool
 |.int k n,.int k' n'=>decide (k=k')&&decide (n=n')
 |.bool b,.bool b'=>b==b'
 |.str s,.string s'=>s.isEmpty&&s'.data.toList.isEmpty
 |.rsl _ es,.slice none 0 0=>es.isEmpty
 |.nils,.slice none 0 0=>true
 |.nilp,.pointer none=>true
 |.nilf,.nilFunc=>true
 |.nilm,.map none=>true
 |.nilif,.nilIface=>true
 |_,_=>false
def zrL:List A->List Value->Bool
 |[],[]=>true
 |a::r,v::s=>zr1 a v&&zrL r s
 |_,_=>false
def zrB:A->Value->Bool
 |.agg r,.agg s=>zrL r s.toList
 |a,v=>zr1 a v
theorem QlU{a:A}{v:Value}(h:zr1 a v=true):ZR a v:=by
 unfold zr1 at h;split at h
 .simp only[XZ,Vt]at h;obtain⟨rfl,rfl⟩:=h;exact ZR.int
 .simp only[VA]at h;subst h;exact ZR.bool
 .rename_i s f;simp only[XZ,List.isEmpty_iff]at h;obtain⟨rfl,b⟩:=h;obtain⟨d⟩:=f;obtain⟨d⟩:=d;have b:d=[]:=b;subst b;exact ZR.str
 .rename_i k g;have h:g=[]:=List.isEmpty_iff.1 h;subst h;exact ZR.rsl (α:=A) (e:=λx=>[x])
 .exact ZR.nils
 .exact ZR.nilp
 .exact ZR.nilf
 .exact ZR.nilm
 .exact QoD
 .cases h
theorem QlT:∀{r:List A} {s:List Value},zrL r s=true->ZL r s
 |[],[],_=>ZL.nil
 |a::r,v::s,h=>by
  simp only[zrL,XZ]at h;exact ZL.cons (QlU h.1) (QlT h.2)
 |[],_::_,h=>by cases h
 |_::_,[],h=>by cases h
theorem zrC{a:A}{v:Value}(h:zrB a v=true):ZR a v:=by
 unfold zrB at h;split at h
 .rename_i r s;have:=ZR.agg (QlT h);simpa using this
 .exact QlU h
end Go.Sw
namespace Go.Sw
section
variable {P:Program} {o:Oper} {env:Env} {H:Qd}
end
end Go.Sw
namespace Go.Sw
structure TyX where
 ty:TyI
 al:List (Nat×A)
 sl:List Nat
structure QbH (P:Program) (T:TyX):Prop where
 ty:TyOK P T.ty
 al:∀e∈T.al,(∃z,(∀w,(zeroValue e.1).run P w=.ok z w)/\ZR e.2 z)/\Q9 e.2=true/\(Q8 e.2).all Ym=true
 sl:∀t∈T.sl,∃et,∀w,(underlying t).run P w=.ok (.slice et) w
def Y0(all:Array Oper)(o:Oper)(env:Env):Option Bool:=
 match o.guard with
 |none=>some true
 |some (j,c)=>match(all[j]?).bind (·.dst)with
  |none=>none
  |some d=>match lk env d with
   |.bool true=>some c
   |.bool false=>some (!c)
   |.tup []=>some false
   |_=>none
theorem QP{all:Array Oper}{o:Oper}{env:Env}{b:Bool}(h:Y0 all o env=some b):Qp all o env b:=by
 unfold Y0 at h;unfold Qp;split at h
 .rename_i q;rw[q];cases h;rfl
 .rename_i j c q;rw[q];split at h
  .cases h
  .rename_i d e;refine⟨d,e,?_⟩;split at h
   .rename_i a;cases h;exact .inl ⟨true,a,by simp⟩
   .rename_i a;cases h;exact .inl ⟨false,a,by cases c<;>rfl⟩
   .rename_i a;cases h;exact .inr ⟨a,rfl⟩
   .cases h
def Qdz:List Nat->Nat->Bool
 |[],_=>false
 |a::r,t=>bif Nat.beq a t then true else Qdz r t
theorem Qg4{l:List Nat}{t:Nat}(h:Qdz l t=true):t∈l:=by
 induction l with
 |nil=>cases h
 |cons a r b=>
  unfold Qdz at h;cases q:Nat.beq a t with
  |true=>have:=XT q;subst this;exact .head _
  |false=>rw[q]at h;exact .tail _ (b h)
inductive FL where
 |mk (l:List A)
def fl:List A->FL
 |[]=>.mk []
 |a::r=>match fl r with
  |.mk r'=>.mk (a::r')
theorem Qco:∀l:List A,fl l=.mk l
 |[]=>rfl
 |a::r=>by unfold fl;rw[Qco r]
inductive FB where
 |mk (l:List Blk)
def fb:List Blk->FB
 |[]=>.mk []
 |a::r=>match fb r with
  |.mk r'=>.mk (a::r')
theorem Qkt:∀l:List Blk,fb l=.mk l
 |[]=>rfl
 |a::r=>by unfold fb;rw[Qkt r]
inductive FN where
 |mk (n:Nat)
def fn:List Blk->Nat->FN
 |[],n=>.mk n
 |_::r,n=>fn r (n+1)
theorem QmV:∀(l:List Blk) (n:Nat),fn l n=.mk (l.length+n)
 |[],n=>by simp[fn]
 |a::r,n=>by unfold fn;rw[QmV r];simp;omega
def Qkr(env:Env)(pl:List (Nat×Nat)):List A->List (Nat×Operand)->Option (List A)
 |cs,[]=>some cs
 |cs,(i,x)::r=>match YV pl i with
  |none=>none
  |some (off,size)=>match opB env x with
   |.mk a=>match fl (Q8 a)with
    |.mk vs=>bif Q9 a&&Nat.beq vs.length size&&Nat.ble (off+size) cs.length then(match fl (splice cs off vs)with
     |.mk cs'=>Qkr env pl cs' r)else none
theorem Qie{env:Env}{pl:List (Nat×Nat)}:∀(parts:List (Nat×Operand)) (cs:List A),Qkr env pl cs parts=Qd0 env pl cs parts
 |[],cs=>rfl
 |(i,x)::r,cs=>by
  unfold Qkr Qd0;rw[QaH];cases pl[i]? with
  |none=>rfl
  |some q=>
   obtain⟨off,size⟩:=q;cases h:opB env x with
   |mk a=>
    rw[QF h];simp only[Qco];cases(Q9 a&&Nat.beq (Q8 a).length size&&Nat.ble (off+size) cs.length)with
    |false=>rfl
    |true=>exact Qie r _
def QhZ(env:Env):List Operand->List A
 |[]=>[]
 |x::r=>match opB env x with
  |.mk a=>a::QhZ env r
theorem QcW{env:Env}:∀l:List Operand,QhZ env l=l.map (opA env)
 |[]=>rfl
 |x::r=>by
  unfold QhZ;cases h:opB env x with
  |mk a=>rw[Vl,QF h];show a::QhZ env r=_;rw[QcW r]
def ptX(H:Qd):Bx->Option Lx
 |.mk (.rp cs)=>some (.mk cs)
 |.mk (.ptr i off)=>match YV H i with
  |some (.cells _ cs)=>some (Qfs off cs)
  |_=>none
 |_=>none
theorem Qpr{H:Qd}{p:A}{cs:List A}(h:ptX H (.mk p)=some (.mk cs)):Pts H p cs:=by
 unfold ptX at h;split at h
 .rename_i q;cases q;cases h;exact Pts.rp
 .rename_i i b q;cases q;split at h
  .rename_i a;rw[QaH]at a;simp only[Option.some.injEq]at h;exact Pts.cells a (Qc7 h)
  .cases h
 .cases h
def Qdn(T:TyX)(o:Oper)(env:Env)(H:Qd):Option A:=
 match o.op with
 |.move x=>match opB env x with|.mk a=>some a
 |.assign x=>match opB env x with|.mk a=>some a
 |.nilCheck x=>nlB (opB env x)
 |.extract x i=>exB (opB env x) i
 |.unOp u _ x=>unB u (opB env x)
 |.pick c x y=>piB (opB env c) (opB env x) (opB env y)
 |.binOp b _ x y _=>biB b (opB env x) (opB env y)
 |.fieldAddr t x f=>match Qib T.ty.fld t f with
  |none=>none
  |some off=>match opB env x with
   |.mk (.ptr i p)=>some (.ptr i (p+off))
   |.mk (.rp cs)=>match Qfs off cs with
    |.mk r=>some (.rp r)
   |_=>none
 |.load t x=>match Qci T.ty.agg t with
  |none=>none
  |some (b,n)=>match x with
   |.global g=>match YV Qjk g with
    |some zs=>bif b&&Nat.beq zs.length n then(match fl (zs.map (A.int .i64))with|.mk l=>some (.agg l))else none
    |none=>none
   |x=>match ptX H (opB env x)with
    |none=>none
    |some (.mk cs)=>match b with
     |true=>(match fl (cs.take n)with|.mk l=>bif Nat.beq l.length n then some (.agg l)else none)
     |false=>(match cs with|[]=>none|a::_=>some a)
 |.build t parts=>match Qci T.ty.zer t with
  |none=>none
  |some (zs,pl)=>match Qkr env pl zs parts.toList with
   |some cs=>some (.agg cs)
   |none=>none
 |.makeFunc f first cap=>match fl (QhZ env first.toList),fl (QhZ env cap.toList)with
  |.mk l,.mk l'=>some (.fn f l l')
 |.call c=>match c with
  |{callee:=.builtin .len,args:=⟨[x]⟩,argTypes:=⟨[t]⟩}=>bif Qdz T.sl t then(match opB env x with
   |.mk (.osl _ 0 n _)=>some (.int .i64 n)
   |_=>none)else none
  |_=>none
 |_=>none
theorem QaA{P:Program}{T:TyX}(m:QbH P T){o:Oper}{env:Env}{H:Qd}{x:A}(h:Qdn T o env H=some x):OpV P o env H x:=by
 unfold Qdn at h;split at h
 .rename_i y a;exact QbJ a (by unfold svB;exact h)
 .rename_i y a;exact QbJ a (by unfold svB;exact h)
 .rename_i y a;exact QbJ a (by unfold svB;exact h)
 .rename_i y i a;exact QbJ a (by unfold svB;exact h)
 .rename_i u t y a;exact QbJ a (by unfold svB;exact h)
 .rename_i c y z a;exact QbJ a (by unfold svB;exact h)
 .rename_i b t y z u a;exact QbJ a (by unfold svB;exact h)
 .rename_i t y f a;split at h
  .cases h
  .rename_i E l;obtain⟨n,L⟩:=m.ty.fld _ (Qia l);split at h
   .rename_i i p B;cases h;exact Yp L a (QF B)
   .rename_i d B;cases q:Qfs E d with
    |mk r=>rw[q]at h;cases h;exact Qw L a (QF B) (Qc7 q)
   .cases h
 .rename_i t y a;split at h
  .cases h
  .rename_i b n Q;obtain⟨j,s⟩:=m.ty.agg _ (QaB Q);split at h
   .rename_i g;split at h
    .rename_i J F;rw[QaH]at F;cases q:(b&&Nat.beq J.length n)with
     |false=>rw[q]at h;cases h
     |true=>
      rw[q,Qco]at h;cases h;simp only[XZ]at q;obtain⟨rfl,w⟩:=q;exact QgF j s F (XT w) a
    .cases h
   .cases e:opB env y with
    |mk p=>
     rw[e]at h;split at h
     .cases h
     .rename_i d N;have G:=Qpr N;cases b with
      |true=>
       simp only[Qco]at h;cases q:Nat.beq (d.take n).length n with
       |false=>rw[q]at h;cases h
       |true=>
        rw[q]at h;cases h;exact Qk a j s (QF e) G rfl (XT q)
      |false=>
       cases d with
       |nil=>cases h
       |cons v d=>cases h;exact OpV.load a j (QF e) G
 .rename_i t parts a;split at h
  .cases h
  .rename_i J W M;obtain⟨⟨z,j,s⟩,R⟩:=m.ty.zer _ (QaB M);split at h
   .rename_i d l;cases h;rw[Qie]at l;exact OpV.build j s R (by rw[a]) l
   .cases h
 .rename_i f first cap a
  simp only[Qco]at h;cases h;rw[QcW,QcW];exact OpV.makeFunc (first:=first.toList) (cap:=cap.toList) (by rw[a]) rfl rfl
 .rename_i c a;split at h
  .rename_i y t;cases q:Qdz T.sl t with
   |false=>rw[q]at h;cases h
   |true=>
    rw[q]at h;simp only[Vr]at h;obtain⟨V,O⟩:=m.sl t (Qg4 q);split at h
    .rename_i i n k w;cases h;exact QlF O a rfl (QF w)
    .cases h
  .cases h
 .cases h
def stX(T:TyX)(h0 N:Nat)(all:Array Oper)(o:Oper)(env:Env)(H:Qd):Option (Env×Qd):=
 match Y0 all o env with
 |none=>none
 |some false=>match o.dst with
  |none=>none
  |some d=>bif Nat.blt d N then some (up env d (.tup []),H)else none
 |some true=>match o.dst with
  |none=>match o.op with
   |.store t x y=>match opB env x,Qci T.ty.agg t with
    |.mk (.ptr i off),some (_,n)=>match YV H i with
     |some (.cells S cs)=>match opB env y with
      |.mk a=>match fl (Q8 a)with
       |.mk vs=>bif Nat.ble h0 H.length&&(Q9 a&&(Nat.beq vs.length n&&(vs.all Ym&&Nat.ble (off+n) cs.length)))then(match fl (splice cs off vs)with
        |.mk cs'=>match fb (H.set i (.cells S cs'))with
         |.mk H'=>some (env,H'))else none
     |_=>none
    |_,_=>none
   |_=>none
  |some d=>bif Nat.blt d N then(match o.op with
   |.alloc t=>match Qci T.al t with
    |some v=>bif Nat.ble h0 H.length then(match fn H 0,fl (Q8 v)with
     |.mk n,.mk cs=>match fb (H++[.cells t cs])with
      |.mk H'=>some (up env d (.ptr n 0),H'))else none
    |none=>none
   |.box t x=>match opB env x with
    |.mk a=>bif Nat.ble h0 H.length&&(Q9 a&&(Q8 a).all Ym)then(match fn H 0,fl (Q8 a)with
     |.mk n,.mk cs=>match fb (H++[.cells t cs])with
      |.mk H'=>some (up env d (.ptr n 0),H'))else none
   |_=>match Qdn T o env H with
    |some a=>some (up env d a,H)
    |none=>none)else none
section
variable {P:Program} {T:TyX} {h0 N:Nat} {all:Array Oper} {l l':List Oper} {env env':Env} {H H':Qd} {Q:QB}
theorem Ql4(m:QbH P T){o:Oper}(h:stX T h0 N all o env H=some (env',H'))(k:WO P h0 N all l env' H' Q):WO P h0 N all (o::l) env H Q:=by
 unfold stX at h;split at h
 .cases h
 .rename_i p;have g:=QP p;split at h
  .cases h
  .rename_i d f;cases q:Nat.blt d N with
   |false=>rw[q]at h;cases h
   |true=>rw[q]at h;cases h;exact WO.skip g f q k
 .rename_i p;have g:=QP p;split at h
  .rename_i f;split at h
   .rename_i t x y j;split at h
    .rename_i i w b n E O;split at h
     .rename_i S cs hH;rw[QaH]at hH;cases e:opB env y with
      |mk a=>
       rw[e]at h;simp only[Qco,Qkt]at h;generalize hc:(Nat.ble h0 H.length&&(Q9 a&&(Nat.beq (Q8 a).length n&&((Q8 a).all Ym&&Nat.ble (w+n) cs.length))))=c at h;cases c with
       |false=>cases h
       |true=>
        cases h;simp only[XZ]at hc;obtain⟨u,s,r,J,V⟩:=hc;obtain⟨_,M⟩:=m.ty.agg _ (QaB O);exact Qbx (XU u) g f (OpU.store j (QF E) hH M (QF e) s rfl (XT r) J V rfl) k
     .cases h
    .cases h
   .cases h
  .rename_i d f;cases q:Nat.blt d N with
   |false=>rw[q]at h;cases h
   |true=>
    rw[q]at h;simp only[Vr]at h;split at h
    .rename_i t j;split at h
     .rename_i v L;cases c:Nat.ble h0 H.length with
      |false=>rw[c]at h;cases h
      |true=>
       rw[c]at h;simp only[Qco,Qkt,QmV,Vr,Xy]at h;cases h;obtain⟨⟨z,B,W⟩,F,R⟩:=m.al _ (QaB L);exact Y4 (XU c) g f q (QfH B W j F rfl R) k
     .cases h
    .rename_i t x j;cases e:opB env x with
     |mk a=>
      rw[e]at h;simp only[Qco,Qkt,QmV,Xy]at h;generalize hc:(Nat.ble h0 H.length&&(Q9 a&&(Q8 a).all Ym))=c at h;cases c with
      |false=>cases h
      |true=>
       cases h;simp only[XZ]at hc;obtain⟨u,s,r⟩:=hc;exact Y4 (XU u) g f q (OpH.box j (QF e) s rfl r) k
    .split at h
     .rename_i a G;cases h;exact QH g f q (QaA m G) k
     .cases h
end
theorem yc{α:Type}{p:α->Prop}{a:α}{l:List α}(h:p a)(k:∀x∈l,p x):∀x∈a::l,p x:=List.forall_mem_cons.2 ⟨h,k⟩
theorem FA{P:Program}{T f off n:Nat}{fs:Array Field}{a:Field}(g:∀w,(underlying T).run P w=.ok (.struct fs) w)(b:fs[f]?=some a)(e:∀w,(sizeOf a.type).run P w=.ok n w)(d:a.offset=off:=by exact rfl)(h5:n≠0:=by decide):QL P T f off n:=⟨_,_,g,b,d,e,h5⟩
theorem QbM:∀(π:List Nat) (H:Qd) (xs:List Blk),π.map (λp=>H[p]?)=xs.map some->Yl H π xs=H
 |[],H,xs,h=>by
  have:xs=[]:=by cases xs with
   |nil=>rfl
   |cons x xs=>simp at h
  subst this;simp[Yl]
 |p::π,H,[],h=>by simp at h
 |p::π,H,x::xs,h=>by
  simp only[Vl,List.cons.injEq]at h;have e:H.set p x=H:=by
   apply List.ext_getElem?;intro i;rw[Xb];by_cases q:p=i
   .subst q;rw[Vv rfl,h.1];have:=(XO.1 h.1).1;rw[Vv this]
   .rw[Vu q]
  unfold Yl;rw[e];exact QbM π H xs h.2
def Qi5:A->Option Bx
 |.bool b=>some (.mk (.bool b))
 |.int k n=>some (.mk (.int k n))
 |.str s=>some (.mk (.str s))
 |.rsl k es=>some (.mk (.rsl k es))
 |_=>none
theorem Qj8{v a:A}(h:Qi5 v=some (.mk a))(ρ:Nat->Nat):YA ρ v=a:=by
 cases v<;>first|(cases h;rfl)|cases h
theorem Pc{P:Program}{h0 N:Nat}{all:Array Oper}{o:Oper}{l:List Oper}{env:Env}{H:Qd}{Q:QB}{d:Nat}{f:FuncId}{args b:List A}{Hc:Qd}{v g:A}(π:List Nat)(i:o.dst=some d)(e:OpC P o env H f args)(j:C P f b Hc (λa H1=>a=v/\H1=Hc))(h:Qi5 v=some (.mk g))
  (k:WO P h0 N all l (up env d g) H Q)
  (hargs:args=Qaa (rho π H.length) b:=by exact rfl)(hH:π.map (λp=>H[p]?)=(Hc.map (QV (rho π H.length))).map some:=by exact rfl)(hπ:π.Nodup:=by decide)
  (hg:Qp all o env true:=by exact rfl)(hN:Nat.blt d N=true:=by exact rfl)(hh:Nat.ble h0 H.length=true:=by exact rfl):WO P h0 N all (o::l) env H Q:=by
 refine QA π e j ?_ hargs hH hπ hg i hN hh;rintro r H1 ⟨rfl,rfl⟩;rw[Qj8 h,QbM π H _ hH];exact k
theorem YD{i k:Nat}{es:List (List A)}:∀H:Qd,FzH i k es H H
 |[]=>.nil
 |_::r=>.keep (YD r)
def foN:Nat->FN
 |0=>.mk 0
 |n+1=>match foN n with
  |.mk m=>.mk (m+1)
theorem Qfa:∀n,foN n=.mk n
 |0=>rfl
 |n+1=>by unfold foN;rw[Qfa n]
mutual
def foA:A->Bx
 |.agg cs=>match foL cs with
  |.mk l=>.mk (.agg l)
 |.tup cs=>match foL cs with
  |.mk l=>.mk (.tup l)
 |.fn f a c=>match foL a,foL c with
  |.mk l,.mk l'=>.mk (.fn f l l')
 |.iface t v=>match foA v with
  |.mk v'=>.mk (.iface t v')
 |.ptr i off=>match foN i with
  |.mk i'=>.mk (.ptr i' off)
 |.osl i o n k=>match foN i with
  |.mk i'=>.mk (.osl i' o n k)
 |.map i=>match foN i with
  |.mk i'=>.mk (.map i')
 |a=>.mk a
def foL:List A->FL
 |[]=>.mk []
 |a::r=>match foA a,foL r with
  |.mk a',.mk r'=>.mk (a'::r')
end
mutual
theorem Qhc:∀a:A,foA a=.mk a
 |.agg cs=>by unfold foA;rw[QcD cs]
 |.tup cs=>by unfold foA;rw[QcD cs]
 |.fn f a c=>by unfold foA;rw[QcD a,QcD c]
 |.iface t v=>by unfold foA;rw[Qhc v]
 |.ptr i off=>by unfold foA;rw[Qfa]
 |.osl i o n k=>by unfold foA;rw[Qfa]
 |.map i=>by unfold foA;rw[Qfa]
 |.any|.bool _|.int _ _|.str _|.nilp|.rp _|.nils|.rsl _ _|.nilf|.nilif|.nilm=>by rfl
theorem QcD:∀l:List A,foL l=.mk l
 |[]=>by rfl
 |a::r=>by unfold foL;rw[Qhc a,QcD r]
end
inductive FE2 where
 |mk (l:List (List A))
def foE:List (List A)->FE2
 |[]=>.mk []
 |a::r=>match foL a,foE r with
  |.mk a',.mk r'=>.mk (a'::r')
theorem QmU:∀l,foE l=.mk l
 |[]=>rfl
 |a::r=>by unfold foE;rw[QcD,QmU r]
def foH:List Blk->FB
 |[]=>.mk []
 |b::r=>match foH r with
  |.mk r'=>match b with
   |.cells t cs=>match foL cs with
    |.mk l=>.mk (.cells t l::r')
   |.rowr t k es=>match foE es with
    |.mk l=>.mk (.rowr t k l::r')
   |.dead=>.mk (.dead::r')
   |.row t k es=>.mk (.row t k es::r')
   |.map es=>.mk (.map es::r')
   |.iter c es=>.mk (.iter c es::r')
   |.fmap es=>.mk (.fmap es::r')
   |.mapO fz t k es=>.mk (.mapO fz t k es::r')
   |.mapP es=>.mk (.mapP es::r')
   |.frow t k es=>.mk (.frow t k es::r')
   |.ents t a b es=>match foN a,foN b with
    |.mk a',.mk b'=>.mk (.ents t a' b' es::r')
theorem Qjn:∀l,foH l=.mk l
 |[]=>rfl
 |b::r=>by
  unfold foH;rw[Qjn r];cases b<;>simp only[QcD,QmU,Qfa]
def foS(env:Env)(H:Qd):Option (Env×Qd):=
 match foH H with
 |.mk H'=>match env with
  |[]=>some ([],H')
  |(d,a)::e=>match foA a with
   |.mk a'=>some ((d,a')::e,H')
theorem QpO(env:Env)(H:Qd):foS env H=some (env,H):=by
 unfold foS;rw[Qjn];cases env with
 |nil=>rfl
 |cons p e=>obtain⟨d,a⟩:=p;simp only[Qhc]
theorem FE{P:Program}{h0 N:Nat}{all:Array Oper}{l:List Oper}{env env':Env}{H H':Qd}{Q:QB}(h:foS env H=some (env',H'))(k:WO P h0 N all l env' H' Q):WO P h0 N all l env H Q:=by
 rw[QpO]at h;cases h;exact k
def entB(b1 b2:Nat):List (List A)->Option (List Ent)
 |[]=>some []
 |[.ptr b off,.int .i64 lo,.int .i64 hi]::r=>match entB b1 b2 r with
  |none=>none
  |some l=>match Nat.beq b b2 with
   |true=>some (⟨true,off,lo,hi⟩::l)
   |false=>match Nat.beq b b1 with
    |true=>some (⟨false,off,lo,hi⟩::l)
    |false=>none
 |_=>none
theorem Qoz{b1 b2:Nat}:∀{es:List (List A)} {l:List Ent},entB b1 b2 es=some l->l.map (eC b1 b2)=es:=by
 intro es
 induction es with
 |nil=>intro l h;cases h;rfl
 |cons e r d=>
  intro l h;unfold entB at h;split at h
  .cases ‹_=[]›
  .rename_i b f lo i g q;cases q;split at h
   .cases h
   .rename_i j a;have e:=d a;split at h
    .rename_i q;cases h;have:=XT q;subst this;rw[Vl,e];rfl
    .split at h
     .rename_i q;cases h;have:=XT q;subst this;rw[Vl,e];rfl
     .cases h
  .cases h
theorem TE{P:Program}{h0 N:Nat}{all:Array Oper}{l:List Oper}{env:Env}{H:Qd}{Q:QB}{t:Nat}{es:List (List A)}{L:List Ent}(i b1 b2:Nat)(hH:H[i]?=some (.rowr t 3 es))(h:entB b1 b2 es=some L)
  (k:WO P h0 N all l env (H.set i (.ents t b1 b2 L)) Q):WO P h0 N all l env H Q:=WO.le (QlO hH (Qoz h)) k
theorem R1{P:Program}{h0:Nat}{fn:Func}{env:Env}{H Hc:Qd}{v:A}(s:Nat)(hr:fn.results= #[.tmp s])(hle:Le h0 env H [(s,v)] Hc):Qdd P h0 fn (λa H=>a=v/\H=Hc) .ret env H:=
 ⟨[(s,v)],Hc,v,hle,Qcr.one hr (by show lk [(s,v)] s=v;unfold lk;rw[VH];rfl),rfl,rfl⟩
theorem R2{P:Program}{h0:Nat}{fn:Func}{env:Env}{H Hc:Qd}{v v':A}(s t:Nat)(hr:fn.results= #[.tmp s,.tmp t])(hn:Nat.beq t s=false)(hle:Le h0 env H [(s,v),(t,v')] Hc):Qdd P h0 fn (λa H=>a=.tup [v,v']/\H=Hc) .ret env H:=
 ⟨[(s,v),(t,v')],Hc,_,hle,Qlw hr (by show lk [(s,v),(t,v')] s=v;unfold lk;rw[VH];rfl) (by show lk [(s,v),(t,v')] t=v';unfold lk lk;rw[hn,VH];rfl),rfl,rfl⟩
theorem FzA.o{i k n:Nat}{es:List (List A)}(a:n=es.length:=by first|exact(X4 ..).symm|exact rfl):FzA i k es (.osl i 0 n k) (.rsl k es):=FzA.own a
end Go.Sw
namespace Go.Sw
theorem Le.env{h0:Nat}{env env':Env}{H:Qd}(h:∀s,lk env' s=.any\/lk env' s=lk env s):Le h0 env H env' H:=by
 intro d b σ N a w r;refine⟨b,σ,⟨r.sim,λs=>?_,r.size,r.defers⟩,λ_ q=>q,rfl⟩;rcases h s with h|h
 .rw[h];trivial
 .rw[h];exact r.env s
def QnS(env:Env):Env->Prop
 |[]=>True
 |(s,a)::r=>lk env s=a/\QnS env r
theorem QnS.ok{env:Env}:∀{env':Env},QnS env env'->∀s,lk env' s=.any\/lk env' s=lk env s
 |[],_,s=>.inl rfl
 |(d,a)::e,⟨h1,h2⟩,s=>by
  by_cases q:s=d
  .subst q;right;simp only[lk,VH,Vr];exact h1.symm
  .have:Nat.beq s d=false:=by
    rw[VO];intro b;exact q (XT b)
   simp only[lk,this,Vs];exact QnS.ok h2 s
theorem Lw{h0:Nat}{env env':Env}{H:Qd}(h:QnS env env'):Le h0 env H env' H:=Le.env h.ok
theorem Qpe(n i:Nat):rho (List.range n) n i=i:=by
 unfold rho;by_cases h:i<n
 .rw[List.getElem?_range h]
 .rw[XR (by rw[Xv];omega)];simp only[Xv];omega
mutual
theorem QgX{ρ:Nat->Nat}(h:∀i,ρ i=i):∀a:A,YA ρ a=a
 |.ptr i off=>by simp[YA,h]
 |.osl i o n k=>by simp[YA,h]
 |.agg cs=>by simp[YA,Qa1 h cs]
 |.fn f a c=>by simp[YA,Qa1 h a,Qa1 h c]
 |.iface t v=>by simp[YA,QgX h v]
 |.map i=>by simp[YA,h]
 |.tup vs=>by simp[YA,Qa1 h vs]
 |.any|.bool _|.int _ _|.str _|.nilp|.rp _|.nils|.rsl _ _|.nilf|.nilif|.nilm=>by rfl
theorem Qa1{ρ:Nat->Nat}(h:∀i,ρ i=i):∀l:List A,Qaa ρ l=l
 |[]=>rfl
 |a::r=>by simp[Qaa,QgX h a,Qa1 h r]
end
theorem Qkd{ρ:Nat->Nat}(h:∀i,ρ i=i):∀l:List (List A),QgW ρ l=l
 |[]=>rfl
 |a::r=>by simp[QgW,Qa1 h a,Qkd h r]
theorem Qkc{ρ:Nat->Nat}(h:∀i,ρ i=i):∀l:List (A×A),Qi8 ρ l=l
 |[]=>rfl
 |a::r=>by simp[Qi8,QgX h,Qkc h r]
theorem Qn9{ρ:Nat->Nat}(h:∀i,ρ i=i):∀b:Blk,QV ρ b=b
 |.cells t cs=>by simp[QV,Qa1 h cs]
 |.rowr t k es=>by simp[QV,Qkd h es]
 |.ents t a b es=>by simp[QV,h]
 |.mapP es=>by simp[QV,Qkc h es]
 |.dead|.row _ _ _|.map _|.iter _ _|.fmap _|.mapO _ _ _ _|.frow _ _ _=>by rfl
theorem Pw{P:Program}{h0 N:Nat}{all:Array Oper}{o:Oper}{l:List Oper}{env:Env}{H:Qd}{Q:QB}{d:Nat}{f:FuncId}{args:List A}{v j:A}(u:o.dst=some d)(g:OpC P o env H f args)(w:C P f args H (λa H1=>a=v/\H1=H))(m:Qi5 v=some (.mk j))
  (hg:Qp all o env true)(t:Nat.blt d N=true)(n:h0<=H.length)(k:WO P h0 N all l (up env d j) H Q):WO P h0 N all (o::l) env H Q:=by
 have e:=Qpe H.length;have s:H.map (QV (rho (List.range H.length) H.length))=H:=by
  conv=>rhs;rw[<- List.map_id H]
  exact List.map_congr_left λb _=>Qn9 e b
 have h:(List.range H.length).map (λp=>H[p]?)=(H.map (QV (rho (List.range H.length) H.length))).map some:=by
  rw[s];apply List.ext_getElem?;intro i;by_cases q:i<H.length
  .simp[q]
  .simp[q]
 refine QA (List.range H.length) g w ?_ (by rw[Qa1 e]) h List.nodup_range hg u t (XV n);rintro r H1 ⟨rfl,rfl⟩;rw[Qj8 m,QbM _ _ _ h];exact k
def ixE(d:Nat)(g:Ground):Edge:={on:=d,ground:=g}
def ixO(d:Nat)(op:Op)(t:Nat)(pos:String)(af:Array Edge):Oper:={dst:=some d,op:=op,type:=t,pos:=pos,after:=af,guard:=none}
def QpL(ts te tf tI tB:Nat):Code:=
 (Code.region 0 [ixO 4 (.assign (.const (.int .i64 0))) tI "slices.go:107" #[]].toArray false).seq
  (((Code.region 1 [ixO 6 (.move (.tmp 0)) ts "slices.go:108" #[],ixO 7 (.call {callee:=.builtin .len,args:= #[.tmp 6],argTypes:= #[ts]}) tI "slices.go:108" #[ixE 0 .data],ixO 8 (.move (.const (.int .i64 0))) tI "slices.go:108" #[]].toArray false).seq
   (.block 0 (.loop ((Code.region 2 [ixO 9 (.binOp .lss tI (.tmp 8) (.tmp 7) tI) 0 "slices.go:108" #[]].toArray false).seq
    ((Code.cond (.tmp 9) .skip (.exit 0)).seq
    ((Code.block 1 ((Code.region 3 [ixO 10 (.move (.tmp 8)) tI "slices.go:108" #[],ixO 5 (.assign (.tmp 10)) tI "slices.go:108" #[ixE 0 .data,ixE 0 .phase]].toArray false).seq
     ((Code.region 4 [ixO 11 (.move (.tmp 1)) tf "slices.go:109" #[],ixO 12 (.move (.tmp 0)) ts "slices.go:109" #[],ixO 13 (.move (.tmp 5)) tI "slices.go:109" #[],ixO 14 (.indexAddr ts (.tmp 12) (.tmp 13)) 0 "slices.go:109" #[ixE 1 .data,ixE 2 .data],
       ixO 15 (.load te (.tmp 14)) te "slices.go:109" #[ixE 3 .data],ixO 16 (.call {callee:=.value (.tmp 11),args:= #[.tmp 15],argTypes:= #[te]}) tB "slices.go:109" #[ixE 0 .data,ixE 4 .data]].toArray false).seq
      (Code.cond (.tmp 16) ((Code.region 5 [ixO 17 (.move (.tmp 5)) tI "slices.go:110" #[],ixO 4 (.assign (.tmp 17)) tI "slices.go:110" #[ixE 0 .data,ixE 0 .phase]].toArray false).seq .ret) .skip)))).seq
     (Code.region 6 [ixO 18 (.binOp .add tI (.tmp 8) (.const (.int .i64 1)) tI) tI "slices.go:108" #[],ixO 8 (.move (.tmp 18)) tI "slices.go:108" #[ixE 0 .data]].toArray false))))))).seq
  ((Code.region 7 [ixO 4 (.assign (.const (.int .i64 (-1)))) tI "slices.go:113" #[]].toArray false).seq .ret))
theorem Yh{P:Program}{T:Type}{e:T->List A}{el:T->A}{V z tf tI tB k:Nat}{R m:FuncId}{fn:Func}{i:List A}{Hc:Qd}{L:List T}{g:T->Option Bool}{n:Nat}{r:Int}
  (W:P.funcs[R]?=some fn)(hb:fn.body=some (QpL V z tf tI tB))(Y:fn.ntmps=19)(O:fn.results= #[.tmp 4])(Q:∀w,(underlying V).run P w=.ok (.slice z) w)(hs:∀w,(sizeOf z).run P w=.ok k w)
  (F:∀(o:Oper) (env:Env) (H:Qd) (x:T),o.op=.load z (.tmp 14)->opA env (.tmp 14)=.rp (e x)->OpV P o env H (el x))
  (B:∀(a:Array Value) (w:World),(callFunc m a).run P w=.ok (.enter m a) w)
  (M:∀x b,g x=some b->C P m (el x::i) Hc (λa H=>a=.bool b/\H=Hc))
  (h:((iter (λs:Int=>bif decide (s<(L.length:Int))then(idx L s).bind λx=>(g x).bind λb=>(bif b then some (Ctl.done (Ctl.done s))else some (Ctl.cont (IntKind.i64.wrap (s+1))))else some (Ctl.done (Ctl.cont ()))) n (0:Int):Option (Ctl Unit Int)).bind λb=>match b with|.cont _=>some (-1)|.done s=>some s)=some r):
  C P R [.rsl k (L.map e),.fn (.func m) [] i] Hc (λa H=>a=.int .i64 r/\H=Hc):=by
 refine Qb W hb Y rfl ?_;refine Rg (S rfl (Nx (TC.seq (Rg (S rfl (LnM Q rfl (S rfl (Nx (Bd h λN J h=>?_)))))))));refine Qhr (b:=N) (λ_=>[]) (λ_=>Hc) ?_ (λsb10 env H hbe hle=>?_)
 .refine TC.block ?_;refine TC.loop (E:=λq=>[(0,.rsl k (L.map e)),(1,.fn (.func m) [] i),(7,.int .i64 (L.length:Int)),(8,.int .i64 q)]) (Hp:=λ_=>Hc) J ?_ ?_
  .exact Lw ⟨rfl,rfl,rfl,rfl,trivial⟩
  intro q X d l;refine Rg (S rfl (Nx (TC.seq (Y7 rfl d (λt d=>?_) (λt d=>?_)))))
  .refine ExX (Qx d ?_);obtain rfl:=l _ (Oi d).symm;exact bloE (QM rfl (Lw trivial))
  refine SkN (TC.seq (TC.block (Rg (S rfl (S rfl (Nx (Rg (S rfl (S rfl (S rfl (Bd d λj p d=>Ix p Q hs rfl ?_)))))))))));refine QH (x:=el j) rfl rfl rfl (F _ _ _ j rfl rfl) ?_;refine Bd d λG u d=>?_;refine Pw rfl (QaI (f:=m) (x:=.tmp 11) (xs:=[.tmp 15]) (vf:=[]) (vc:=i) (args:=el j::i) B rfl rfl rfl rfl) (M j G u) rfl rfl rfl (XW _) ?_;refine Nx (Cn rfl d (λy d=>?_) (λy d=>?_))
  .refine Rg (S rfl (S rfl (Nx (TC.ret (bloR (seqR (Yw d ?_)))))));obtain rfl:=l _ (Oi d).symm;refine bloR (Q7 (seqR ?_));obtain rfl:=Oi h;exact R1 4 O (Lw ⟨rfl,trivial⟩)
  exact TC.skip (bloN (Qma (TC.region (S rfl (S rfl (WO.nil (Qt d (Lw ⟨rfl,rfl,rfl,rfl,trivial⟩))))))))
 subst hbe;refine Qma (TC.le hle (Rg (S rfl (Nx (TC.ret ?_)))));obtain rfl:=Oi h;exact R1 4 O (Lw ⟨rfl,trivial⟩)
end Go.Sw
namespace Go.Sw
inductive Kf where
 |seq (c:Code)
 |blo (id:Nat)
 |unr (c:Code)
inductive Cf where
 |code (c:Code)
 |ops (all:Array Oper) (l:List Oper)
 |out (x:AEx)
def kq(P:Program)(h0 N:Nat):List Kf->QB->QB
 |[],Q=>Q
 |.seq c::k,Q=>Seq P h0 N c (kq P h0 N k Q)
 |.blo id::k,Q=>Blo id (kq P h0 N k Q)
 |.unr c::k,Q=>QjK P h0 N c (kq P h0 N k Q)
@[reducible] def Hd(P:Program)(h0 N:Nat):Cf->List Kf->Env->Qd->QB->Prop
 |.code c,k,env,H,Q=>TC P h0 N c env H (kq P h0 N k Q)
 |.ops all l,k,env,H,Q=>WO P h0 N all l env H (kq P h0 N k Q)
 |.out x,k,env,H,Q=>kq P h0 N k Q x env H
def QfY(T:TyX)(h0 N:Nat):Cf->List Kf->Env->Qd->Option (Cf×List Kf×Env×Qd)
 |.code (.seq a b),k,env,H=>some (.code a,.seq b::k,env,H)
 |.code (.block id c),k,env,H=>some (.code c,.blo id::k,env,H)
 |.code (.loop c),k,env,H=>some (.code c,.unr c::k,env,H)
 |.code .skip,k,env,H=>some (.out .normal,k,env,H)
 |.code .ret,k,env,H=>some (.out .ret,k,env,H)
 |.code (.exit id),k,env,H=>some (.out (.exit id),k,env,H)
 |.code (.region id ⟨l⟩ false),k,env,H=>some (.ops ⟨l⟩ l,k,env,H)
 |.code (.cond x a b),k,env,H=>match opB env x with
  |.mk (.bool true)=>some (.code a,k,env,H)
  |.mk (.bool false)=>some (.code b,k,env,H)
  |_=>none
 |.ops all [],k,env,H=>some (.out .normal,k,env,H)
 |.ops all (o::l),k,env,H=>match stX T h0 N all o env H with
  |some (env',H')=>some (.ops all l,k,env',H')
  |none=>none
 |.out .normal,.seq c::k,env,H=>some (.code c,k,env,H)
 |.out (.exit i),.seq _::k,env,H=>some (.out (.exit i),k,env,H)
 |.out .ret,.seq _::k,env,H=>some (.out .ret,k,env,H)
 |.out .normal,.blo _::k,env,H=>some (.out .normal,k,env,H)
 |.out (.exit i),.blo id::k,env,H=>match Nat.beq i id with
  |true=>some (.out .normal,k,env,H)
  |false=>some (.out (.exit i),k,env,H)
 |.out .ret,.blo _::k,env,H=>some (.out .ret,k,env,H)
 |.out .normal,.unr c::k,env,H=>some (.code c,.unr c::k,env,H)
 |.out (.exit i),.unr _::k,env,H=>some (.out (.exit i),k,env,H)
 |.out .ret,.unr _::k,env,H=>some (.out .ret,k,env,H)
 |_,_,_,_=>none
def Qi7(T:TyX)(h0 N:Nat):Nat->Cf->List Kf->Env->Qd->Option (Cf×List Kf×Env×Qd)
 |0,c,k,env,H=>some (c,k,env,H)
 |n+1,c,k,env,H=>match QfY T h0 N c k env H with
  |some (c',k',env',H')=>Qi7 T h0 N n c' k' env' H'
  |none=>none
section
variable {P:Program} {T:TyX} {h0 N:Nat} {Q:QB}
theorem Ql1(d:QbH P T){c b:Cf}{k a:List Kf}{env env':Env}{H H':Qd}(h:QfY T h0 N c k env H=some (b,a,env',H'))(g:Hd P h0 N b a env' H' Q):Hd P h0 N c k env H Q:=by
 unfold QfY at h;split at h
 .cases h;exact TC.seq g
 .cases h;exact TC.block g
 .cases h;exact Qlt g
 .cases h;exact TC.skip g
 .cases h;exact TC.ret g
 .cases h;exact TC.exit g
 .cases h;exact TC.region g
 .split at h
  .rename_i q;cases h;exact QiK (QF q) rfl g
  .rename_i q;cases h;exact Qfx (QF q) rfl g
  .cases h
 .cases h;exact WO.nil g
 .split at h
  .rename_i q;cases h;exact Ql4 d q g
  .cases h
 .cases h;exact Qma g
 .cases h;exact seqX g
 .cases h;exact seqR g
 .cases h;exact bloN g
 .split at h
  .rename_i q;cases h;have:=XT q;subst this;exact bloE g
  .rename_i q;cases h;exact bloX q g
 .cases h;exact bloR g
 .cases h;exact unrN g
 .cases h;exact unrX g
 .cases h;exact unrR g
 .cases h
theorem QcR(hT:QbH P T):∀(n:Nat) {c c':Cf} {k k':List Kf} {env env':Env} {H H':Qd},Qi7 T h0 N n c k env H=some (c',k',env',H')->Hd P h0 N c' k' env' H' Q->Hd P h0 N c k env H Q
 |0,c,c',k,k',env,env',H,H',h,g=>by cases h;exact g
 |n+1,c,c',k,k',env,env',H,H',h,g=>by
  unfold Qi7 at h;split at h
  .rename_i e;exact Ql1 hT e (QcR hT n h g)
  .cases h
theorem Qj2{env:Env}{s:Nat}{a:A}(h:lk env s=a):∀t,lk (up env s a) t=lk env t:=by
 intro t;simp only[up,lk];cases q:Nat.beq t s with
 |true=>have:=XT q;subst this;exact h.symm
 |false=>rfl
theorem Is{α:Type}{all:Array Oper}{l:List Oper}{env:Env}{H:Qd}{b:Bool}{x y:Option α}{r:α}(s:Nat)(h:(bif b then x else y)=some r)(d:lkB env s=.mk (.bool b))
  (t:b=true->x=some r->WO P h0 N all l (up env s (.bool true)) H Q)(e:b=false->y=some r->WO P h0 N all l (up env s (.bool false)) H Q):WO P h0 N all l env H Q:=by
 have a:=Qjh d;cases b with
 |true=>exact WO.le (Le.env λt=>.inr (Qj2 a t)) (t rfl h)
 |false=>exact WO.le (Le.env λt=>.inr (Qj2 a t)) (e rfl h)
theorem Ct3E{S B1:Type}{A B C:Code}{env:Env}{H:Qd}{k:List Kf}{b:Ctl S B1}(Eb:S->Env)(Hb:S->Qd)(h:TC P h0 N A env H (kq P h0 N [.seq B] (QfN h0 b Eb Hb (kq P h0 N (.seq C::k) Q))))(g:∀s env H,b=.cont s->Le h0 env H (Eb s) (Hb s)->kq P h0 N (.seq C::k) Q .normal env H):TC P h0 N (.seq A (.seq B C)) env H (kq P h0 N k Q):=
 QnC Eb Hb h g
end
def dstN(o:Oper)(i:Nat):Nat:=match o.dst with|some d=>d|none=>1000000+i
def Qbh:Nat->Nat->List Oper->List Nat
 |0,_,_=>[]
 |_+1,_,[]=>[]
 |m+1,i,o::l=>dstN o i::Qbh m (i+1) l
def Yd(af:List Nat):Nat->List Nat->List A->Env->Env
 |j,d::ds,x::xs,e=>(d,bif Qdz af j then x else .any)::Yd af (j+1) ds xs e
 |j,d::ds,[],e=>(d,.any)::Yd af (j+1) ds [] e
 |_,[],_,e=>e
theorem QfO{l:List Nat}{t:Nat}:Qdz l t=l.contains t:=by
 induction l with
 |nil=>rfl
 |cons a r d=>
  unfold Qdz;rw[List.contains_cons,d];cases q:Nat.beq a t with
  |true=>have:=XT q;subst this;simp
  |false=>
   have b:t≠a:=λz=>by subst z;rw[VH]at q;cases q
   simp[b]
theorem Qkx{af:List Nat}{env0:Env}{s:Nat}:∀(a:List Nat) (xs g:List A) (b:Nat),
  (∃(j:Nat) (x:A),af.contains (b+j)=true/\a[j]?=some s/\(xs++g)[j]?=some x/\lk (Yd af b a xs env0) s=x)\/lk (Yd af b a xs env0) s=.any\/(a.contains s=false/\lk (Yd af b a xs env0) s=lk env0 s):=by
 intro a
 induction a with
 |nil=>intro xs g b;right;right;exact⟨rfl,by cases xs<;>rfl⟩
 |cons d a n=>
  intro xs g b;have next:∀(e:List A),(∃(j:Nat) (x:A),af.contains (b+1+j)=true/\a[j]?=some s/\(e++g)[j]?=some x/\lk (Yd af (b+1) a e env0) s=x)->∀m,(∃(j:Nat) (x:A),af.contains (b+j)=true/\(d::a)[j]?=some s/\(m::e++g)[j]?=some x/\lk (Yd af (b+1) a e env0) s=x):=by
   rintro e ⟨j,x,k,i,l,p⟩ m;exact⟨j+1,x,by rw[show b+(j+1)=b+1+j by omega];exact k,by simpa using i,by simpa using l,p⟩
  cases xs with
  |nil=>
   cases q:Nat.beq s d with
   |true=>right;left;simp only[Yd,lk,q,Vr]
   |false=>
    have f:s≠d:=λz=>by subst z;rw[VH]at q;cases q
    simp only[Yd,lk,q,Vs];rcases n [] [] (b+1)with⟨j,x,k,i,l,p⟩|h|⟨k,i⟩
    .simp at l
    .exact .inr (.inl h)
    .exact .inr (.inr ⟨by rw[List.contains_cons,k];simpa using f,i⟩)
  |cons x xs=>
   cases q:Nat.beq s d with
   |true=>
    have:=XT q;subst this;simp only[Yd,lk,q,Vr];cases c:Qdz af b with
    |true=>left;exact⟨0,x,by rw[<- QfO];exact c,rfl,rfl,rfl⟩
    |false=>right;left;rfl
   |false=>
    have f:s≠d:=λz=>by subst z;rw[VH]at q;cases q
    simp only[Yd,lk,q,Vs];rcases n xs g (b+1)with h|h|⟨k,i⟩
    .exact .inl (next xs h x)
    .exact .inr (.inl h)
    .exact .inr (.inr ⟨by rw[List.contains_cons,k];simpa using f,i⟩)
section
variable {P:Program} {T:TyX} {h0 N m:Nat} {l:List Oper} {ds:List Nat} {env:Env} {H:Qd} {Q:QB} {K:List Oper->Env->Qd->Prop}
def DS(P:Program)(N m:Nat)(l:List Oper)(ds:List Nat)(env:Env)(H:Qd)(K:List Oper->Env->Qd->Prop)(r:List Oper)(xs:List A):Prop:=
 r=l.drop xs.length->∃ys,xs.length+ys.length=m/\(∀j,xs.length<=j->j<m->JC P N l ds (xs++ys) env H.length H.length j H H)/\K (l.drop m) (Qay ds (xs++ys) env) H
theorem oqOf{xs:List A}:∀(c i:Nat),(∀j,i<=j->j<i+c->JC P N l ds xs env H.length H.length j H H)->Oq P N l ds xs env H i c
 |0,i,_=>.n
 |c+1,i,h=>.c (h i (XW _) (by omega)) (oqOf c (i+1) λj h1 h2=>h j (by omega) (by omega))
theorem QnX{id:Nat}{k:List Kf}(m:Nat)(g:P.follows .mixedOrders=true)(i:Go.Sw.draw0 l m N (Qbh m 0 l)=true)(a:Nat.ble h0 H.length=true)
  (h:DS P N m l (Qbh m 0 l) env H (λr e H=>WO P h0 N l.toArray r e H Q) l []):TC P h0 N (.region id l.toArray true) env H Q:=by
 obtain⟨n,f,b,d⟩:=h rfl;simp only[List.length_nil,Xx,Vj]at f b d;exact TC.draw0 m _ n g i (by rw[f];exact VH m) a (oqOf m 0 λj _ q=>b j (XX _) (by omega)) d
theorem DS.done{xs:List A}{r:List Oper}(b:Nat.beq xs.length m=true)(h:K r (Qay ds xs env) H):DS P N m l ds env H K r xs:=by
 intro a;have e:=XT b;subst a;refine⟨[],by simpa using e,λj f d=>by omega,?_⟩;rw[<- e,Vi];exact h
theorem DS.add{xs:List A}{o:Oper}{r:List Oper}{x:A}(n:Nat.blt xs.length m=true)(f:∀ys,l[xs.length]?=some o->JC P N l ds (xs++x::ys) env H.length H.length xs.length H H)(k:DS P N m l ds env H K r (xs++[x])):DS P N m l ds env H K (o::r) xs:=by
 intro b;have a:xs.length<l.length:=by
  rcases VE xs.length l.length with q|q
  .exact q
  .rw[List.drop_eq_nil_of_le q]at b;cases b
 rw[Xq a]at b;cases b;obtain⟨ys,h,d,e⟩:=k (by simp);simp only[X5,X3,List.length_nil,Vk,VM,Vj]at h d e;refine⟨x::ys,by simp only[X3];omega,λj i g=>?_,e⟩;rcases VE xs.length j with q|q
 .exact d j (by omega) g
 .obtain rfl:j=xs.length:=by omega
  exact f ys (XN a)
theorem Qh8{xs a:List A}{x:A}:(xs++x::a)[xs.length]?=some x:=by simp
theorem DS.wo{xs:List A}{o:Oper}{r:List Oper}{x:A}{d:Nat}(h:WO P H.length N l.toArray [o] (Yd (Qj o) 0 ds xs env) H (Y5 (up (Yd (Qj o) 0 ds xs env) d x) H))(k:DS P N m l ds env H K r (xs++[x]))
  (i:o.dst=some d:=by exact rfl)(hx:Nat.blt xs.length m=true:=by exact rfl):DS P N m l ds env H K (o::r) xs:=
 .add hx (λe f=>.woE o _ d x f i Qh8 (he:=by
  intro s;rcases Qkx (af:=Qj o) (env0:=env) (s:=s) ds xs (x::e) 0 with⟨j,y,a,n,b,g⟩|q|q
  .rw[Xx]at a;exact .inl ⟨j,y,a,n,b,g⟩
  .exact .inr (.inl q)
  .exact .inr (.inr q)) (hdd:=Qd3 H) (h:=h)) k
theorem DS.v{xs:List A}{o:Oper}{r:List Oper}{x:A}{d:Nat}(h:OpV P o (Yd (Qj o) 0 ds xs env) H x)(k:DS P N m l ds env H K r (xs++[x]))(hg:Qp l.toArray o (Yd (Qj o) 0 ds xs env) true:=by exact rfl)
  (hd:o.dst=some d:=by exact rfl)(hN:Nat.blt d N=true:=by exact rfl)(hx:Nat.blt xs.length m=true:=by exact rfl):DS P N m l ds env H K (o::r) xs:=
 .wo (QH hg hd hN h (WO.nil Y5.mk)) k hd hx
def QcG:List A->A->FL
 |[],x=>.mk [x]
 |a::r,x=>match QcG r x with
  |.mk r'=>.mk (a::r')
theorem Y9:∀(l:List A) (x:A),QcG l x=.mk (l++[x])
 |[],x=>rfl
 |a::r,x=>by unfold QcG;rw[Y9 r];rfl
def QhP(T:TyX)(N m:Nat)(l:List Oper)(ds:List Nat)(env:Env)(H:Qd):Nat->Nat->List Oper->List A->Option (List Oper×List A)
 |0,_,r,xs=>some (r,xs)
 |_+1,_,[],_=>none
 |n+1,i,o::r,xs=>match Nat.blt i m with
  |false=>none
  |true=>match o.dst with
   |none=>none
   |some d=>match Nat.blt d N with
    |false=>none
    |true=>match Y0 ⟨l⟩ o (Yd (Qj o) 0 ds xs env)with
     |none=>none
     |some false=>match QcG xs (.tup [])with
      |.mk xs'=>QhP T N m l ds env H n (i+1) r xs'
     |some true=>match Qdn T o (Yd (Qj o) 0 ds xs env) H with
      |none=>none
      |some x=>match QcG xs x with
       |.mk xs'=>QhP T N m l ds env H n (i+1) r xs'
theorem QeI(hT:QbH P T):∀(n i:Nat) {r r':List Oper} {xs xs':List A},i=xs.length->QhP T N m l ds env H n i r xs=some (r',xs')->DS P N m l ds env H K r' xs'->DS P N m l ds env H K r xs
 |0,i,r,r',xs,xs',_,h,k=>by cases h;exact k
 |n+1,i,[],r',xs,xs',_,h,k=>by cases h
 |n+1,i,o::r,r',xs,xs',hi,h,k=>by
  subst hi;unfold QhP at h;split at h
  .cases h
  .rename_i q1;split at h
   .cases h
   .rename_i d hd;split at h
    .cases h
    .rename_i q2;split at h
     .cases h
     .rename_i hw;simp only[Y9]at h;exact .wo (WO.skip (QP hw) hd q2 (WO.nil Y5.mk)) (QeI hT n _ (by simp) h k) hd q1
     .rename_i hw;split at h
      .cases h
      .rename_i x hv;simp only[Y9]at h;exact .v (QaA hT hv) (QeI hT n _ (by simp) h k) (QP hw) hd q2 q1
def Ql8:List A->Nat->A->FL
 |[],_,_=>.mk []
 |_::r,0,x=>.mk (x::r)
 |a::r,n+1,x=>match Ql8 r n x with
  |.mk r'=>.mk (a::r')
theorem Qdq:∀{l:List A} {n:Nat} {x:A},YV l n=some x->Ql8 l n x=.mk l
 |[],n,x,h=>by cases h
 |a::r,0,x,h=>by cases h;rfl
 |a::r,n+1,x,h=>by unfold Ql8;rw[Qdq (l:=r) (n:=n) h]
theorem QnY{α:Type}{b:Bool}{x y:Option α}{v:α}{xs d a:List A}{r:List Oper}(j:Nat)(h:(bif b then x else y)=some v)(g:YV xs j=some (.bool b))(i:Ql8 xs j (.bool true)=.mk d)(f:Ql8 xs j (.bool false)=.mk a)
  (t:b=true->x=some v->DS P N m l ds env H K r d)(e:b=false->y=some v->DS P N m l ds env H K r a):DS P N m l ds env H K r xs:=by
 cases b with
 |true=>rw[Qdq g]at i;cases i;exact t rfl h
 |false=>rw[Qdq g]at f;cases f;exact e rfl h
end
end Go.Sw
namespace Go.Sw
@[reducible] def RQ{β:Type}(w:β->A)(Hc:β->Qd)(r:β):A->Qd->Prop:=λa H=>a=w r/\H=Hc r
@[reducible] def Csm{β:Type}(P:Program)(f:FuncId)(args:List A)(H:Qd)(w:β->A)(r:β):Prop:=C P f args H (RQ w (λ_=>H) r)
structure TyZ where
 sl:List (Nat×Nat×Nat)
 fn:List Nat
structure Qc9 (P:Program) (Z:TyZ):Prop where
 sl:∀e∈Z.sl,(∀w,(underlying e.1).run P w=.ok (.slice e.2.1) w)/\ ∀w,(sizeOf e.2.1).run P w=.ok e.2.2 w
 fn:∀f∈Z.fn,∀(a:Array Value) (w:World),(callFunc f a).run P w=.ok (.enter f a) w
section
variable {P:Program} {Z:TyZ} {h0 N:Nat} {all:Array Oper} {o:Oper} {l:List Oper} {env:Env} {H:Qd} {Q:QB} {d:Nat}
theorem Izz(m:Qc9 P Z){α:Type}{e:α->List A}{t et k:Nat}{L:List α}{f:IntKind}{i:Int}{v:α}(h:idx L i=some v)(q:ixB o env=some (d,t,k,L.map e,f,i))(g:WO P h0 N all l (up env d (.rp (e v))) H Q)
  (j:Qci Z.sl t=some (et,k))(hg:Y0 all o env=some true)(a:Nat.blt d N=true):WO P h0 N all (o::l) env H Q:=by
 obtain⟨n,b⟩:=m.sl _ (QaB j);exact Ix h n b q g (QP hg) a
theorem Ize(j:Qc9 P Z){α:Type}{e:α->List A}{t et k:Nat}{L:List α}{f:IntKind}{i:Int}{v:α}{cs:List A}(h:idx L i=some v)(he:e v=cs)(q:ixB o env=some (d,t,k,L.map e,f,i))(g:WO P h0 N all l (up env d (.rp cs)) H Q)
  (b:Qci Z.sl t=some (et,k))(hg:Y0 all o env=some true)(a:Nat.blt d N=true):WO P h0 N all (o::l) env H Q:=by
 subst he;exact Izz j h q g b hg a
theorem Lmz(h:Qc9 P Z){α:Type}{e:α->List A}{t et k f:Nat}{L:List α}(q:lnB o env=some (d,t,.mk (.rsl k (L.map e))))(g:WO P h0 N all l (up env d (.int .i64 L.length)) H Q)
  (b:Qci Z.sl t=some (et,f))(hg:Y0 all o env=some true)(a:Nat.blt d N=true):WO P h0 N all (o::l) env H Q:=by
 obtain⟨i,j⟩:=h.sl _ (QaB b);exact LnM i q g (QP hg) a
def QfU(Z:TyZ)(o:Oper)(env:Env):Option (Nat×Nat×List A):=
 match o.dst with
 |none=>none
 |some d=>match o.op with
  |.call {callee:=.value (.func f),args:=⟨xs⟩,argTypes:=_}=>bif Qdz Z.fn f then(match fl (QhZ env xs)with|.mk ax=>some (d,f,ax))else none
  |.call {callee:=.value (.tmp x),args:=⟨xs⟩,argTypes:=_}=>match opB env (.tmp x)with
   |.mk (.fn (.func f) vf vc)=>bif Qdz Z.fn f then(match fl (vf++(QhZ env xs++vc))with|.mk ax=>some (d,f,ax))else none
   |_=>none
  |_=>none
theorem Qes(e:Qc9 P Z){f:Nat}{args:List A}(h:QfU Z o env=some (d,f,args)):o.dst=some d/\OpC P o env H f args:=by
 unfold QfU at h;split at h
 .cases h
 .rename_i m g;split at h
  .rename_i a xs i b;cases q:Qdz Z.fn a with
   |false=>rw[q]at h;cases h
   |true=>
    rw[q]at h;simp only[Qco,Vr]at h;cases h;exact⟨g,OpC.fn (xs:=xs) (e.fn _ (Qg4 q)) b rfl (QcW xs).symm⟩
  .rename_i x xs i b;split at h
   .rename_i a k l j;cases q:Qdz Z.fn a with
    |false=>rw[q]at h;cases h
    |true=>
     rw[q]at h;simp only[Qco,Vr]at h;cases h;exact⟨g,QaI (xs:=xs) (e.fn _ (Qg4 q)) b rfl (QF j) (by rw[QcW])⟩
   .cases h
  .cases h
theorem Czz(j:Qc9 P Z){β γ:Type}{F:Option β}{F':β->Option γ}{r:γ}{f:Nat}{args a:List A}{Hc:Qd}{w:β->A}(π:List Nat)(h:F.bind F'=some r)(t:∀v,F=some v->C P f a Hc (RQ w (λ_=>Hc) v))
  (b:QfU Z o env=some (d,f,args))(g:∀v,F=some v->F' v=some r->WO P h0 N all l (up env d (w v)) H Q)(i:∀v,Qi5 (w v)=some (.mk (w v)))
  (hargs:args=Qaa (rho π H.length) a)(hH:π.map (λp=>H[p]?)=(Hc.map (QV (rho π H.length))).map some)(hπ:π.Nodup)(hg:Y0 all o env=some true)(n:Nat.blt d N=true)(k:Nat.ble h0 H.length=true):WO P h0 N all (o::l) env H Q:=by
 obtain⟨v,e,q⟩:=bnd h;obtain⟨m,s⟩:=Qes (H:=H) j b;exact Pc π m s (t v e) (i v) (g v e q) hargs hH hπ (QP hg) n k
theorem DzZ(q:Qc9 P Z){K:List Oper->Env->Qd->Prop}{m:Nat}{e:List Oper}{b:List Nat}{xs:List A}{β γ:Type}{F:Option β}{F':β->Option γ}{r:γ}{f:Nat}{args a:List A}{Hc:Qd}{w:β->A}(π:List Nat)(h:F.bind F'=some r)(y:∀v,F=some v->C P f a Hc (RQ w (λ_=>Hc) v))
  (i:QfU Z o (Yd (Qj o) 0 b xs env)=some (d,f,args))(g:∀v,F=some v->F' v=some r->DS P N m e b env H K l (xs++[w v]))(n:∀v,Qi5 (w v)=some (.mk (w v)))
  (hargs:args=Qaa (rho π H.length) a)(hH:π.map (λp=>H[p]?)=(Hc.map (QV (rho π H.length))).map some)(hπ:π.Nodup)(hg:Y0 e.toArray o (Yd (Qj o) 0 b xs env)=some true)(u:Nat.blt d N=true)(s:Nat.blt xs.length m=true):DS P N m e b env H K (o::l) xs:=by
 obtain⟨v,k,t⟩:=bnd h;obtain⟨j,x⟩:=Qes (H:=H) q i;exact .wo (Pc π j x (y v k) (n v) (WO.nil Y5.mk) hargs hH hπ (QP hg) u (XV (XW _))) (g v k t) j s
theorem ln:Qbl H [] []:=trivial
theorem ls{ax b:List A}{a:A}(k:Qbl H ax b)(h:Yk a=true:=by exact rfl):Qbl H (a::ax) (a::b):=⟨.inl ⟨rfl,h⟩,k⟩
theorem lo{ax a:List A}{i n k t:Nat}{es:List (List A)}(b:Qbl H ax a)(hH:H[i]?=some (.row t k es):=by exact rfl)(hn:es.length=n:=by exact X4 ..):Qbl H (.osl i 0 n k::ax) (.rsl k es::a):=
 ⟨.inr ⟨_,_,_,_,_,rfl,hH,hn,rfl⟩,b⟩
theorem Cbz(j:Qc9 P Z){β γ:Type}{F:Option β}{F':β->Option γ}{r:γ}{f:Nat}{args a:List A}{w:β->A}(h:F.bind F'=some r)(s:∀v,F=some v->C P f a [] (RQ w (λ_=>[]) v))
  (b:QfU Z o env=some (d,f,args))(p:Qbl H args a)(g:∀v,F=some v->F' v=some r->WO P h0 N all l (up env d (w v)) H Q)(i:∀v,Yi (w v)=true)
  (hg:Y0 all o env=some true)(m:Nat.blt d N=true):WO P h0 N all (o::l) env H Q:=by
 obtain⟨v,e,n⟩:=bnd h;obtain⟨k,q⟩:=Qes (H:=H) j b;refine QiH q p (s v e) ?_ ?_ (QP hg) k m
 .rintro _ _ ⟨rfl,rfl⟩;exact i v
 .rintro _ _ ⟨rfl,rfl⟩;exact g v e n
end
def ixL:List Nat:=[0,1,2,3,4,5,6,7,8,9,10,11,12,13,14,15,16,17,18,19,20,21,22,23,24,25,26,27,28,29,30,31,32,33,34,35,36,37,38,39,40,41,42,43,44,45,46,47,48,49,50,51,52,53,54,55,56,57,58,59,60,61,62,63]
def QkX:List Nat->List Nat->Nat->FN
 |a::r,b::s,j=>bif Nat.beq a j then .mk b else QkX r s j
 |_,_,j=>.mk j
mutual
def cpA(sel:List Nat):A->Bx
 |.ptr i off=>match QkX sel ixL i with
  |.mk j=>.mk (.ptr j off)
 |.osl i o n k=>match QkX sel ixL i with
  |.mk j=>.mk (.osl j o n k)
 |.map i=>match QkX sel ixL i with
  |.mk j=>.mk (.map j)
 |.fn f a c=>match cpL sel a,cpL sel c with
  |.mk a',.mk c'=>.mk (.fn f a' c')
 |a=>.mk a
def cpL(sel:List Nat):List A->FL
 |[]=>.mk []
 |a::r=>match cpA sel a,cpL sel r with
  |.mk a',.mk r'=>.mk (a'::r')
end
inductive FV where
 |mk (e:Env)
def QmM(sel:List Nat)(env:Env):List Nat->Env->FV
 |[],nE=>.mk nE
 |s::r,nE=>match lkB env s with
  |.mk a=>match cpA sel a,QmM sel env r nE with
   |.mk a',.mk e=>.mk ((s,a')::e)
def selH(H:Qd):List Nat->List Nat->List (Nat×Blk)->FB
 |a::r,p::ps,[]=>match YV H a,selH H r ps []with
  |some b,.mk l=>.mk (b::l)
  |none,.mk l=>.mk l
 |a::r,p::ps,(q,b)::n=>bif Nat.beq p q then(match selH H r ps n with|.mk l=>.mk (b::l))else(match YV H a,selH H r ps ((q,b)::n)with
  |some b,.mk l=>.mk (b::l)
  |none,.mk l=>.mk l)
 |_,_,_=>.mk []
def Qnn(sel keep:List Nat)(nE:Env)(nH:List (Nat×Blk))(env:Env)(H:Qd):Option (Env×Qd):=
 match QmM sel env keep nE,selH H sel ixL nH with
 |.mk e,.mk h=>some (e,h)
section
variable {P:Program} {h0 N:Nat} {c:Code} {env:Env} {H:Qd} {Q:QB}
def CutQ{β:Type}(h0:Nat)(b:β)(E':β->Env)(H':β->Qd)(Q:QB):QB
 |.normal,env,H=>Le h0 env H (E' b) (H' b)
 |.exit id,env,H=>Q (.exit id) env H
 |.ret,env,H=>Q .ret env H
theorem QD{h0:Nat}{env:Env}{H:Qd}{Q:QB}{β:Type}{b:β}{E':β->Env}{H':β->Qd}(h:Le h0 env H (E' b) (H' b)):CutQ h0 b E' H' Q .normal env H:=h
theorem Ct{β:Type}{E':β->Env}{H':β->Qd}(b:β)(sel keep:List Nat)(nE:β->Env)(nH:β->List (Nat×Blk))(_:∀b,Qnn sel keep (nE b) (nH b) env H=some (E' b,H' b))(h:TC P h0 N c env H (CutQ h0 b E' H' Q))(k:∀env H,Le h0 env H (E' b) (H' b)->Q .normal env H):TC P h0 N c env H Q:=
 h.mono λx env' H' q=>by
  cases x with
  |normal=>exact k _ _ q
  |exit id=>exact q
  |ret=>exact q
theorem CtE{S B:Type}{b:Ctl S B}{E':S->Env}{H':S->Qd}(sel keep:List Nat)(nE:S->Env)(nH:S->List (Nat×Blk))(_:∀s,Qnn sel keep (nE s) (nH s) env H=some (E' s,H' s))(h:TC P h0 N c env H (QfN h0 b E' H' Q))(k:∀s env H,b=.cont s->Le h0 env H (E' s) (H' s)->Q .normal env H):TC P h0 N c env H Q:=Qhr E' H' h k
theorem Lp{S B:Type}{step:S->Option (Ctl S B)}{E':S->Env}{H':S->Qd}{m:Nat}{s0:S}{b0:B}(sel keep:List Nat)(nE:S->Env)(nH:S->List (Nat×Blk))(h:iter step m s0=some b0)(_:∀s,Qnn sel keep (nE s) (nH s) env H=some (E' s,H' s))(hI:Le h0 env H (E' s0) (H' s0))
  (body:∀s d,step s=some d->(∀b,d=.done b->b=b0)->TC P h0 N c (E' s) (H' s) (Qbk (λs env H=>Le h0 env H (E' s) (H' s)) d Q)):TC P h0 N (.loop c) env H Q:=TC.loop E' H' h hI body
end
theorem Oj{S B:Type}{d:Ctl S B}{x b0:B}(hb:∀b,d=.done b->b=b0)(h:some (Ctl.done x)=some d):x=b0:=hb x (Oi h).symm
theorem Rt{P:Program}{h0:Nat}{fn:Func}{env:Env}{H:Qd}{β:Type}{e r:β}{w:β->A}{Hc:β->Qd}(h:some e=some r)(s:Nat)(π:List Nat)(a:fn.results= #[.tmp s]:=by exact rfl)(hpre:π.take h0=List.range h0:=by exact rfl)
  (hH:π.map (λp=>H[p]?)=((Hc e).map (QV (rho π H.length))).map some:=by exact rfl)(hπ:π.Nodup:=by decide)(hE:Qd9 (rho π H.length) env [(s,w e)]:=by exact⟨rfl,trivial⟩):Qdd P h0 fn (RQ w Hc r) .ret env H:=by
 cases h;exact R1 s a (Lr π hpre hH hπ hE)
theorem Cl{h0:Nat}{env:Env}{H:Qd}{Q:QB}{β:Type}{e b:β}{E':β->Env}{H':β->Qd}(h:some e=some b)(π:List Nat)(a:π.take h0=List.range h0:=by exact rfl)
  (hH:π.map (λp=>H[p]?)=((H' e).map (QV (rho π H.length))).map some:=by exact rfl)(hπ:π.Nodup:=by decide)(hE:Qd9 (rho π H.length) env (E' e):=by(repeat' (first|exact trivial|refine⟨rfl,?_⟩))):CutQ h0 b E' H' Q .normal env H:=by
 cases h;exact Lr π a hH hπ hE
end Go.Sw
namespace Go.Sw
def plC(cat:List Nat):List (List (Nat×Nat)):=cat.map λc=>match c with|0=>[(0,0)]|1=>[(0,1)]|2=>[(1,1)]|_=>[(0,0),(1,1)]
def rqC(b:Nat)(cat:List Nat):List (List Nat):=cat.map λc=>match c with|2=>[b]|_=>[]
def hsC(cat:List Nat):List Bool:=cat.map λc=>match c with|1=>true|_=>false
section
variable {P:Program} {T:TyX} {h0 N m b:Nat} {cat:List Nat} {l:List Oper} {ds:List Nat} {env:Env} {H H1:Qd} {Q:QB} {K:List Oper->Env->Qd->Prop}
theorem Qhx{P:Program}{N:Nat}{l:List Oper}{ds:List Nat}{xs:List A}{env0:Env}{hB hE:Nat}:∀(ss:List (List (Qd×Qd))) (b:Nat),(∀i s,ss[i]?=some s->∀p∈s,JC P N l ds xs env0 hB hE (b+i) p.1 p.2)->Qhy P N l ds xs env0 hB hE b ss
 |[],b,h=>.nil
 |s::ss,b,h=>.cons (h 0 s rfl) (Qhx ss (b+1) λi s' hs=>by rw[show b+1+i=b+(i+1)by omega];exact h (i+1) s' hs)
def Dob(P:Program)(N:Nat)(cat:List Nat)(l:List Oper)(ds:List Nat)(env:Env)(H H1:Qd)(zs:List A)(j:Nat):Prop:=
 ∀p∈(plC cat).getD j [],JC P N l ds zs env H.length H.length j ([H,H1].getD p.1 []) ([H,H1].getD p.2 [])
def DB(P:Program)(N m:Nat)(cat:List Nat)(l:List Oper)(ds:List Nat)(env:Env)(H H1:Qd)(K:List Oper->Env->Qd->Prop)(r:List Oper)(xs:List A):Prop:=
 r=l.drop xs.length->∃ys,xs.length+ys.length=m/\(∀j,xs.length<=j->j<m->Dob P N cat l ds env H H1 (xs++ys) j)/\K (l.drop m) (Qay ds (xs++ys) env) H1
def DA(P:Program)(N m:Nat)(cat:List Nat)(l:List Oper)(ds:List Nat)(env:Env)(H:Qd)(K:List Oper->Env->Qd->Prop)(r:List Oper)(xs:List A):Prop:=
 r=l.drop xs.length->∃ys H1,xs.length+ys.length=m/\H.length<=H1.length/\(∀j,xs.length<=j->j<m->Dob P N cat l ds env H H1 (xs++ys) j)/\K (l.drop m) (Qay ds (xs++ys) env) H1
theorem Qp8{f:List A}(a:cat.length=m)(n:∀j,0<=j->j<m->Dob P N cat l ds env H H1 f j):Qhy P N l ds f env H.length (H.length+0) 0 ((plC cat).map λq=>q.map λp=>([H,H1].getD p.1 [],[H,H1].getD p.2 [])):=by
 refine Qhx _ 0 λi s b p h=>?_;rw[Xp]at b;cases e:(plC cat)[i]? with
 |none=>rw[e]at b;cases b
 |some q=>
  rw[e]at b;cases b;obtain⟨k,d,rfl⟩:=Xe.1 h;have g:i<m:=by
   have:=(XO.1 e).1;simpa[plC,a]using this
  have:=n i (XX _) g k (by rw[Qkp e];exact d);simpa using this
theorem DA.len(a:H.length<=H1.length):[H,H1].all (λX=>Nat.ble (H.length+0) X.length)=true:=by
 simp only[List.all_cons,List.all_nil,Bool.and_true,Xy,XZ];exact⟨XV (XW _),XV a⟩
theorem Qn1{id:Nat}(m b:Nat)(cat:List Nat)(q:P.follows .mixedOrders=true)(k:Qd2 l m N (Qbh m 0 l) (hsC cat) (rqC b cat) [[],[b]] (plC cat)=true)(d:Nat.beq cat.length m=true)(f:Nat.ble h0 H.length=true)
  (h:DA P N m cat l (Qbh m 0 l) env H (λr e H=>WO P h0 N l.toArray r e H Q) l []):TC P h0 N (.region id l.toArray true) env H Q:=by
 obtain⟨n,H1,j,p,g,i⟩:=h rfl;simp only[List.length_nil,Xx,Vj]at j g i;have a:=XT d;exact YW m 0 _ _ _ _ _ n [H,H1] H1 q k (by rw[j];exact VH m) rfl f (DA.len p) (by simp) rfl (Qp8 a g) (by simp[plC,a]) i
theorem Qbi{xs:List A}{o:Oper}{r:List Oper}(b:o::r=l.drop xs.length):l[xs.length]?=some o/\r=l.drop (xs.length+1):=by
 have a:xs.length<l.length:=by
  rcases VE xs.length l.length with q|q
  .exact q
  .rw[List.drop_eq_nil_of_le q]at b;cases b
 rw[Xq a]at b;cases b;exact⟨XN a,rfl⟩
theorem QhC{zs:List A}{j c:Nat}(b:YV cat j=some c)(h:∀p∈(match c with|0=>[(0,0)]|1=>[(0,1)]|2=>[(1,1)]|_=>[(0,0),(1,1)]:List (Nat×Nat)),JC P N l ds zs env H.length H.length j ([H,H1].getD p.1 []) ([H,H1].getD p.2 [])):Dob P N cat l ds env H H1 zs j:=by
 intro p a;rw[QaH]at b;unfold plC at a;rw[VN,Xp,b]at a;exact h p a
theorem QaE{hB hE:Nat}{xs a:List A}{o:Oper}{x:A}{d:Nat}{X X':Qd}(e:l[xs.length]?=some o)(hdd:Qaw hB hE X X'=true)(h:WO P X.length N l.toArray [o] (Yd (Qj o) 0 ds xs env) X (Y5 (up (Yd (Qj o) 0 ds xs env) d x) X'))(i:o.dst=some d):
  JC P N l ds (xs++x::a) env hB hE xs.length X X':=
 .woE o _ d x e i Qh8 (he:=by
  intro s;rcases Qkx (af:=Qj o) (env0:=env) (s:=s) ds xs (x::a) 0 with⟨j,y,b,k,g,f⟩|q|q
  .rw[Xx]at b;exact .inl ⟨j,y,b,k,g,f⟩
  .exact .inr (.inl q)
  .exact .inr (.inr q)) (hdd:=hdd) (h:=h)
theorem Y8{n:Nat}{X X':Qd}:Qaw n n X X'=true:=by unfold Qaw;rw[Nat.sub_self];rfl
theorem DA.wo{xs:List A}{o:Oper}{r:List Oper}{x:A}{d:Nat}(h:WO P H.length N l.toArray [o] (Yd (Qj o) 0 ds xs env) H (Y5 (up (Yd (Qj o) 0 ds xs env) d x) H))(k:DA P N m cat l ds env H K r (xs++[x]))
  (f:YV cat xs.length=some 0:=by exact rfl)(hd:o.dst=some d:=by exact rfl)(hx:Nat.blt xs.length m=true:=by exact rfl):DA P N m cat l ds env H K (o::r) xs:=by
 intro t;obtain⟨s,a⟩:=Qbi t;obtain⟨g,H1,w,n,b,e⟩:=k (by simpa using a);simp only[X5,X3,List.length_nil,Vk,VM,Vj]at w b e;refine⟨x::g,H1,by simp only[X3];omega,n,λj y u=>?_,e⟩;rcases VE xs.length j with q|q
 .exact b j (by omega) u
 .obtain rfl:j=xs.length:=by omega
  refine QhC f λp i=>?_;obtain rfl:=VD.1 i;exact QaE s Y8 h hd
theorem DA.op{xs:List A}{o:Oper}{r:List Oper}{x:A}{d:Nat}(h:WO P H.length N l.toArray [o] (Yd (Qj o) 0 ds xs env) H (Y5 (up (Yd (Qj o) 0 ds xs env) d x) H1))(k:DB P N m cat l ds env H H1 K r (xs++[x]))(hl:Nat.ble H.length H1.length=true:=by exact rfl)
  (hc:YV cat xs.length=some 1:=by exact rfl)(hd:o.dst=some d:=by exact rfl)(hx:Nat.blt xs.length m=true:=by exact rfl):DA P N m cat l ds env H K (o::r) xs:=by
 intro n;obtain⟨i,a⟩:=Qbi n;obtain⟨f,t,b,e⟩:=k (by simpa using a);simp only[X5,X3,List.length_nil,Vk,VM,Vj]at t b e;refine⟨x::f,H1,by simp only[X3];omega,XU hl,λj u s=>?_,e⟩;rcases VE xs.length j with q|q
 .exact b j (by omega) s
 .obtain rfl:j=xs.length:=by omega
  refine QhC hc λp g=>?_;obtain rfl:=VD.1 g;exact QaE i Y8 h hd
theorem QbE{xs:List A}{o:Oper}{r:List Oper}{x x':A}{d:Nat}{H1':Qd}(h:OpH P o (Yd (Qj o) 0 ds xs env) H x H1)(a:foA x=.mk x')(b:foH H1=.mk H1')(k:DB P N m cat l ds env H H1' K r (xs++[x']))(e:o.dst=some d:=by exact rfl)(hg:Y0 ⟨l⟩ o (Yd (Qj o) 0 ds xs env)=some true:=by exact rfl)(hN:Nat.blt d N=true:=by exact rfl)(hl:Nat.ble H.length H1'.length=true:=by exact rfl)
  (hc:YV cat xs.length=some 1:=by exact rfl)(hx:Nat.blt xs.length m=true:=by exact rfl):DA P N m cat l ds env H K (o::r) xs:=by
 rw[Qhc]at a;rw[Qjn]at b;cases a;cases b;exact .op (Y4 (XW _) (QP hg) e hN h (WO.nil Y5.mk)) k hl hc e hx
theorem DB.done{xs:List A}{r:List Oper}(b:Nat.beq xs.length m=true)(h:K r (Qay ds xs env) H1):DB P N m cat l ds env H H1 K r xs:=by
 intro a;have e:=XT b;subst a;refine⟨[],by simpa using e,λj f d=>by omega,?_⟩;rw[<- e,Vi];exact h
theorem DB.add{xs:List A}{o:Oper}{r:List Oper}{x:A}(e:∀ys,l[xs.length]?=some o->Dob P N cat l ds env H H1 (xs++x::ys) xs.length)(k:DB P N m cat l ds env H H1 K r (xs++[x])):DB P N m cat l ds env H H1 K (o::r) xs:=by
 intro g;obtain⟨f,a⟩:=Qbi g;obtain⟨ys,i,b,d⟩:=k (by simpa using a);simp only[X5,X3,List.length_nil,Vk,VM,Vj]at i b d;refine⟨x::ys,by simp only[X3];omega,λj n h=>?_,d⟩;rcases VE xs.length j with q|q
 .exact b j (by omega) h
 .obtain rfl:j=xs.length:=by omega
  exact e ys f
theorem DB.wo1{xs:List A}{o:Oper}{r:List Oper}{x:A}{d:Nat}(h:WO P H1.length N l.toArray [o] (Yd (Qj o) 0 ds xs env) H1 (Y5 (up (Yd (Qj o) 0 ds xs env) d x) H1))(k:DB P N m cat l ds env H H1 K r (xs++[x]))
  (a:YV cat xs.length=some 2:=by exact rfl)(hd:o.dst=some d:=by exact rfl):DB P N m cat l ds env H H1 K (o::r) xs:=
 .add (λf b=>QhC a λp e=>by
  obtain rfl:=VD.1 e;exact QaE b Y8 h hd) k
theorem DB.wo2{xs:List A}{o:Oper}{r:List Oper}{x:A}{d:Nat}(h:WO P H.length N l.toArray [o] (Yd (Qj o) 0 ds xs env) H (Y5 (up (Yd (Qj o) 0 ds xs env) d x) H))(f:WO P H1.length N l.toArray [o] (Yd (Qj o) 0 ds xs env) H1 (Y5 (up (Yd (Qj o) 0 ds xs env) d x) H1))(k:DB P N m cat l ds env H H1 K r (xs++[x]))
  (e:YV cat xs.length=some 3:=by exact rfl)(hd:o.dst=some d:=by exact rfl):DB P N m cat l ds env H H1 K (o::r) xs:=
 .add (λg b=>QhC e λp a=>by
  rcases X8.1 a with rfl|a
  .exact QaE b Y8 h hd
  .obtain rfl:=VD.1 a;exact QaE b Y8 f hd) k
def QhQ(T:TyX)(N m:Nat)(cat:List Nat)(l:List Oper)(ds:List Nat)(env:Env)(H:Qd):Nat->Nat->List Oper->List A->Option (List Oper×List A)
 |0,_,r,xs=>some (r,xs)
 |_+1,_,[],_=>none
 |n+1,i,o::r,xs=>match Nat.blt i m,YV cat i with
  |true,some 0=>match o.dst with
   |none=>none
   |some d=>match Nat.blt d N with
    |false=>none
    |true=>match Y0 ⟨l⟩ o (Yd (Qj o) 0 ds xs env)with
     |none=>none
     |some false=>match QcG xs (.tup [])with
      |.mk xs'=>QhQ T N m cat l ds env H n (i+1) r xs'
     |some true=>match Qdn T o (Yd (Qj o) 0 ds xs env) H with
      |none=>none
      |some x=>match QcG xs x with
       |.mk xs'=>QhQ T N m cat l ds env H n (i+1) r xs'
  |_,_=>none
theorem QeL(hT:QbH P T):∀(n i:Nat) {r r':List Oper} {xs xs':List A},i=xs.length->QhQ T N m cat l ds env H n i r xs=some (r',xs')->DA P N m cat l ds env H K r' xs'->DA P N m cat l ds env H K r xs
 |0,i,r,r',xs,xs',_,h,k=>by cases h;exact k
 |n+1,i,[],r',xs,xs',_,h,k=>by cases h
 |n+1,i,o::r,r',xs,xs',hi,h,k=>by
  subst hi;unfold QhQ at h;split at h
  .rename_i q1 q0;split at h
   .cases h
   .rename_i d hd;split at h
    .cases h
    .rename_i q2;split at h
     .cases h
     .rename_i hw;simp only[Y9]at h;exact .wo (WO.skip (QP hw) hd q2 (WO.nil Y5.mk)) (QeL hT n _ (by simp) h k) q0 hd q1
     .rename_i hw;split at h
      .cases h
      .rename_i x hv;simp only[Y9]at h;exact .wo (QH (QP hw) hd q2 (QaA hT hv) (WO.nil Y5.mk)) (QeL hT n _ (by simp) h k) q0 hd q1
  .cases h
theorem Qoa{H:Qd}{p:Bx}{r:Lx}(h:ptX [] p=some r):ptX H p=some r:=by
 unfold ptX at h⊢;split at h
 .exact h
 .rename_i i a;simp only[YV]at h;cases h
 .cases h
theorem Qez{o:Oper}{e:Env}{H:Qd}{x:A}(h:Qdn T o e []=some x):Qdn T o e H=some x:=by
 unfold Qdn at h⊢;split at h<;>first|exact h|skip
 rename_i t y g;split at h
 .cases h
 .rename_i b n f;split at h
  .exact h
  .rename_i a;cases q:ptX [] (opB e y)with
   |none=>rw[q]at h;cases h
   |some r=>
    rw[q]at h;have d:=Qoa (H:=H) q;simp only[d];exact h
def QeK(T:TyX)(N:Nat)(cat:List Nat)(l:List Oper)(ds:List Nat)(env:Env)(H1:Qd):Nat->Nat->List Oper->List A->Option (List Oper×List A)
 |0,_,r,xs=>some (r,xs)
 |_+1,_,[],_=>none
 |n+1,i,o::r,xs=>match o.dst with
  |none=>none
  |some d=>match Nat.blt d N with
   |false=>none
   |true=>match Y0 ⟨l⟩ o (Yd (Qj o) 0 ds xs env)with
    |none=>none
    |some false=>match YV cat i with
     |some 2=>(match QcG xs (.tup [])with
      |.mk xs'=>QeK T N cat l ds env H1 n (i+1) r xs')
     |some 3=>(match QcG xs (.tup [])with
      |.mk xs'=>QeK T N cat l ds env H1 n (i+1) r xs')
     |_=>none
    |some true=>match YV cat i with
     |some 2=>(match Qdn T o (Yd (Qj o) 0 ds xs env) H1 with
      |none=>none
      |some x=>match QcG xs x with
       |.mk xs'=>QeK T N cat l ds env H1 n (i+1) r xs')
     |some 3=>(match Qdn T o (Yd (Qj o) 0 ds xs env) []with
      |none=>none
      |some x=>match QcG xs x with
       |.mk xs'=>QeK T N cat l ds env H1 n (i+1) r xs')
     |_=>none
theorem QbP(hT:QbH P T):∀(n i:Nat) {r r':List Oper} {xs xs':List A},i=xs.length->QeK T N cat l ds env H1 n i r xs=some (r',xs')->DB P N m cat l ds env H H1 K r' xs'->DB P N m cat l ds env H H1 K r xs
 |0,i,r,r',xs,xs',_,h,k=>by cases h;exact k
 |n+1,i,[],r',xs,xs',_,h,k=>by cases h
 |n+1,i,o::r,r',xs,xs',hi,h,k=>by
  subst hi;unfold QeK at h;split at h
  .cases h
  .rename_i d hd;split at h
   .cases h
   .rename_i q2;split at h
    .cases h
    .rename_i hw;split at h
     .rename_i q0;simp only[Y9]at h;exact .wo1 (WO.skip (QP hw) hd q2 (WO.nil Y5.mk)) (QbP hT n _ (by simp) h k) q0 hd
     .rename_i q0;simp only[Y9]at h;exact .wo2 (WO.skip (QP hw) hd q2 (WO.nil Y5.mk)) (WO.skip (QP hw) hd q2 (WO.nil Y5.mk)) (QbP hT n _ (by simp) h k) q0 hd
     .cases h
    .rename_i hw;split at h
     .rename_i q0;split at h
      .cases h
      .rename_i x hv;simp only[Y9]at h;exact .wo1 (QH (QP hw) hd q2 (QaA hT hv) (WO.nil Y5.mk)) (QbP hT n _ (by simp) h k) q0 hd
     .rename_i q0;split at h
      .cases h
      .rename_i x hv;simp only[Y9]at h;exact .wo2 (QH (QP hw) hd q2 (QaA hT (Qez hv)) (WO.nil Y5.mk)) (QH (QP hw) hd q2 (QaA hT (Qez hv)) (WO.nil Y5.mk)) (QbP hT n _ (by simp) h k) q0 hd
     .cases h
end
end Go.Sw
namespace Go.Sw
def chkF(L:List (Nat×List (Nat×Nat)))(fs:List (Nat×Nat×Nat)):Bool:=
 fs.all λe=>match Qci L e.1 with
  |some pl=>(match YV pl e.2.1 with
   |some q=>Nat.beq q.1 e.2.2&& !(Nat.beq q.2 0)
   |none=>false)
  |none=>false
theorem PL.get{P:Program}{fs:List Field}{a:List (Nat×Nat)}(h:PL P fs a):∀{f off n:Nat},YV a f=some (off,n)->∃fd,fs[f]?=some fd/\fd.offset=off/\ ∀w,(sizeOf fd.type).run P w=.ok n w:=by
 induction h with
 |nil=>intro f off n h;cases h
 |cons h k e=>
  intro f off n b;cases f with
  |zero=>cases b;exact⟨_,rfl,rfl,h⟩
  |succ f=>obtain⟨fd,g,d⟩:=e (show YV _ f=_ from b);exact⟨fd,by simpa using g,d⟩
theorem QpP{P:Program}{L:List (Nat×List (Nat×Nat))}{fs:List (Nat×Nat×Nat)}(p:∀e∈L,QC P e.1 e.2)(h:chkF L fs=true):∀e∈fs,∃n,QL P e.1 e.2.1 e.2.2 n:=by
 intro e g;have:=Xt.1 h e g;split at this
 .rename_i t b;split at this
  .rename_i q k;obtain⟨r,n⟩:=q;simp only[XZ,Bool.not_eq_true']at this;have l:=XT this.1;obtain⟨m,s,a⟩:=p _ (QaB b);obtain⟨f,d,j,i⟩:=PL.get a k;refine⟨n,⟨⟨_,f,s,by simpa using d,j.trans l,i,?_⟩⟩⟩;intro z;have a:=this.2;rw[z,VH]at a;cases a
  .cases this
 .cases this
section
variable {P:Program} {Z:TyZ} {h0 N:Nat} {all:Array Oper} {o:Oper} {l:List Oper} {env:Env} {H:Qd} {Q:QB} {d:Nat}
theorem Cdz(i:Qc9 P Z){β γ:Type}{F:Option β}{F':β->Option γ}{r:γ}{f:Nat}{args a:List A}{Hc:Qd}{w:β->A}{Hr:β->Qd}(π:List Nat)(h:F.bind F'=some r)(s:∀v,F=some v->C P f a Hc (RQ w Hr v))
  (b:QfU Z o env=some (d,f,args))(g:∀v,F=some v->F' v=some r->WO P h0 N all l (up env d (YA (rho π H.length) (w v))) (Yl H π ((Hr v).map (QV (rho π H.length)))) Q)
  (hargs:args=Qaa (rho π H.length) a)(hH:π.map (λp=>H[p]?)=(Hc.map (QV (rho π H.length))).map some)(hπ:π.Nodup)(hg:Y0 all o env=some true)(m:Nat.blt d N=true)(j:Nat.ble h0 H.length=true):WO P h0 N all (o::l) env H Q:=by
 obtain⟨v,e,n⟩:=bnd h;obtain⟨k,q⟩:=Qes (H:=H) i b;refine QA π q (s v e) ?_ hargs hH hπ (QP hg) k m j;rintro _ _ ⟨rfl,rfl⟩;exact g v e n
end
inductive FLL where
 |mk (l:List (List A))
def cpLL(sel:List Nat):List (List A)->FLL
 |[]=>.mk []
 |a::r=>match cpL sel a,cpLL sel r with
  |.mk a',.mk r'=>.mk (a'::r')
inductive FBk where
 |mk (b:Blk)
def cpBk(sel:List Nat):Blk->FBk
 |.cells t cs=>match cpL sel cs with
  |.mk l=>.mk (.cells t l)
 |.rowr t k es=>match cpLL sel es with
  |.mk l=>.mk (.rowr t k l)
 |.ents t a b es=>match QkX sel ixL a,QkX sel ixL b with
  |.mk a',.mk b'=>.mk (.ents t a' b' es)
 |b=>.mk b
def selD(H:Qd)(sel:List Nat):List Nat->FB
 |[]=>.mk []
 |a::r=>match YV H a with
  |some b=>(match cpBk sel b,selD H sel r with
   |.mk b',.mk l=>.mk (b'::l))
  |none=>.mk []
def retC(sel sl:List Nat)(env:Env)(H:Qd):Option (Env×Qd):=
 match QmM sel env sl [],selD H sel sel with
 |.mk e,.mk h=>some (e,h)
theorem Rx{P:Program}{h0:Nat}{fn:Func}{env E':Env}{H H':Qd}{Qr:A->Qd->Prop}{d:A}(π sl:List Nat)(_:retC π sl env H=some (E',H'))(b:Qcr P fn E' H' d)(e:Qr d H')(a:π.take h0=List.range h0:=by exact rfl)
  (hH:π.map (λp=>H[p]?)=(H'.map (QV (rho π H.length))).map some:=by exact rfl)(hπ:π.Nodup:=by decide)(hE:Qd9 (rho π H.length) env E':=by(repeat' (first|exact trivial|refine⟨rfl,?_⟩))):Qdd P h0 fn Qr .ret env H:=
 ⟨E',H',d,Lr π a hH hπ hE,b,e⟩
end Go.Sw
namespace Go.Sw
def nxL{T:Type}:List T->T->List T->Prop:=λl x rem=>l=x::rem
def QgV{S T B:Type}(step:S->T->Option (Ctl S B)):List T->S->Option (Ctl S B)
 |[],s=>some (.cont s)
 |x::l,s=>(step s x).bind λd=>match d with
  |.cont s'=>QgV step l s'
  |.done b=>some (.done b)
def QbT{S T B:Type}(step:S->Option (List T×Ctl S B)):Nat->S->Option (List T×B)
 |0,_=>none
 |n+1,s=>(step s).bind λp=>match p.2 with
  |.cont s'=>(QbT step n s').bind λq=>some (p.1++q.1,q.2)
  |.done b=>some (p.1,b)
def QnD{S B:Type}(h1:Nat)(env:Env)(Q:QB)(d:Ctl S B)(Hp:S->Qd):QB
 |.normal,env',H'=>∃s,d=.cont s/\Le h1 env' H' [] (Hp s)
 |.exit id,env',H'=>(∃b,d=.done b)/\ ∃H2,Le h1 env' H' [] H2/\Q (.exit id) env H2
 |.ret,env',H'=>(∃b,d=.done b)/\ ∃H2,Le h1 env' H' [] H2/\Q .ret env H2
theorem Qka{S B:Type}{h1:Nat}{env env':Env}{H':Qd}{Q:QB}{s:S}{d:Ctl S B}{Hp:S->Qd}(e:some (Ctl.cont s)=some d)(h:Le h1 env' H' [] (Hp s)):QnD h1 env Q d Hp .normal env' H':=⟨s,(Oi e).symm,h⟩
theorem QgD{P:Program}{h0 N:Nat}{r:Operand}{ps:List Nat}{assign body:Code}{env:Env}{H:Qd}{Q:QB}{f:FuncId}{a g:List A}{Hc:Qd}{T S B:Type}{enc:T->List A}{xs:List T}{step:S->T->Option (Ctl S B)}{s0:S}{D:Ctl S B}
  (π:List Nat)(Hp:S->Qd)(h:QgV step xs s0=some D)(m:Qhs P f g Hc enc nxL xs)(n:∀x,(enc x).length=ps.length)(L:∀args w,(callFunc f args).run P w=.ok (.enter f args) w)
  (F:Nat.ble h0 H.length=true)(hg:opA env r=.fn (.func f) [] a)(hargs:a=Qaa (rho π H.length) g)(hH:π.map (λp=>H[p]?)=(Hc.map (QV (rho π H.length))).map some)(hπ:π.Nodup)(u:(ps.all λp=>Nat.blt p N)=true)
  (j:Le H.length env (QdX H π) env (Hp s0))
  (k:∀s x d,step s x=some d->(∀b,d=.done b->D=.done b)->TC P H.length N assign (QlY ps (enc x) env) (Hp s) λe env1 H1=>e=.normal/\TC P H.length N body env1 H1 (QnD H.length env Q d Hp))
  (i:∀s,D=.cont s->Q .normal env (Hp s)):TC P h0 N (.rangeFunc r ps.toArray assign body) env H Q:=by
 refine TC.rangeFunc π Hp (λs l=>QgV step l s=some D) s0 (XU F) hg hargs hH hπ u L m n j h ?_ ?_
 .rintro s l x rem t rfl;obtain⟨d,J,t⟩:=bnd t;refine(k s x d J ?_).mono ?_
  .rintro b rfl;exact(Oi t).symm
  .rintro e env1 H1 ⟨O,R⟩;refine⟨O,R.mono ?_⟩;intro M E H2 q;cases M with
   |normal=>
    obtain⟨z,rfl,j⟩:=q;exact⟨Hp z,j,z,t,rfl⟩
   |exit id=>
    obtain⟨_,H3,y,q⟩:=q;exact⟨H3,y,q⟩
   |ret=>
    obtain⟨_,H3,y,q⟩:=q;exact⟨H3,y,q⟩
 .intro s G;exact i s (Oi G).symm
section
variable {T:Type} {X:Ctx T} {P:Program} {h0 N:Nat} {c:Code} {env:Env} {H:Qd} {st:YSt T} {Q:YB T}
def QfJ{S B:Type}(h0:Nat)(E:S->Env)(Hp:S->Qd)(d:Ctl S B)(rest:List T)(Q:YB T):YB T
 |.normal,env,H,st=>∃s,d=.cont s/\Le h0 env H (E s) (Hp s)/\st=.on rest
 |.exit id,env,H,st=>Q (.exit id) env H st
 |.ret,env,H,st=>Q .ret env H st
theorem Qls{S B:Type}{step:S->Option (List T×Ctl S B)}{E:S->Env}{Hp:S->Qd}{m:Nat}{s0:S}{k rem:List T}{b:B}(h:QbT step m s0=some (k,b))(z:Le h0 env H (E s0) (Hp s0))
  (body:∀s zs d rest,step s=some (zs,d)->(∀b',d=.done b'->b'=b/\rest=rem)->TCy X P h0 N c (E s) (Hp s) (.on (zs++rest)) (QfJ h0 E Hp d rest Q)):TCy X P h0 N (.loop c) env H (.on (k++rem)) Q:=by
 refine QgC (I:=λn env H p=>∃s f,QbT step n s=some (f,b)/\p=.on (f++rem)/\Le h0 env H (E s) (Hp s)) ?_ ⟨s0,k,h,rfl,z⟩;rintro n env H p ⟨s,f,a,rfl,l⟩;cases n with
 |zero=>cases a
 |succ n=>
  obtain⟨⟨zs,d⟩,r,a⟩:=bnd a;refine TCy.le l ?_;cases d with
  |cont u=>
   obtain⟨⟨w,F⟩,y,a⟩:=bnd a;cases a;rw[Vk];refine(body s zs (.cont u) (w++rem) r (λb' e=>by cases e)).mono ?_;rintro x g H' i q;cases x with
   |normal=>
    obtain⟨t,e,j,rfl⟩:=q;cases e;exact⟨n,Xn n,_,_,y,rfl,j⟩
   |exit id=>exact q
   |ret=>exact q
  |done b'=>
   cases a;refine(body s _ (.done b) rem r (λb' e=>by cases e;exact⟨rfl,rfl⟩)).mono ?_;rintro x g H' i q;cases x with
   |normal=>obtain⟨t,e,_⟩:=q;cases e
   |exit id=>exact q
   |ret=>exact q
def kqY(X:Ctx T)(P:Program)(h0 N:Nat):List Kf->YB T->YB T
 |[],Q=>Q
 |.seq c::k,Q=>SeqY X P h0 N c (kqY X P h0 N k Q)
 |.blo id::k,Q=>BloY id (kqY X P h0 N k Q)
 |.unr c::k,Q=>λ_ _ _ _=>False
@[reducible] def HdY(X:Ctx T)(P:Program)(h0 N:Nat):Cf->List Kf->Env->Qd->YSt T->YB T->Prop
 |.code c,k,env,H,st,Q=>TCy X P h0 N c env H st (kqY X P h0 N k Q)
 |.ops all l,k,env,H,st,Q=>WOy X P h0 N all l env H st (kqY X P h0 N k Q)
 |.out x,k,env,H,st,Q=>kqY X P h0 N k Q x env H st
def QoY:Cf->List Kf->Bool
 |.code (.loop _),_=>false
 |.out _,.unr _::_=>false
 |_,_=>true
theorem Ql0{Tx:TyX}(f:QbH P Tx){c d:Cf}{k b:List Kf}{env env':Env}{H H':Qd}(h:QfY Tx h0 N c k env H=some (d,b,env',H'))(a:QoY c k=true)(g:HdY X P h0 N d b env' H' st Q):HdY X P h0 N c k env H st Q:=by
 unfold QfY at h;split at h
 .cases h;exact TCy.seq g
 .cases h;exact TCy.block g
 .cases a
 .cases h;exact TCy.skip g
 .cases h;exact TCy.ret g
 .cases h;exact TCy.exit g
 .cases h;exact TCy.region g
 .split at h
  .rename_i q;cases h;exact TCy.cond (QF q) (λ_=>g) (λe=>by cases e)
  .rename_i q;cases h;exact TCy.cond (QF q) (λe=>by cases e) (λ_=>g)
  .cases h
 .cases h;exact WOy.nil g
 .split at h
  .rename_i q;cases h;exact WOy.step (Ql4 f q (WO.nil ⟨rfl,g⟩))
  .cases h
 .cases h;exact g
 .cases h;exact g
 .cases h;exact g
 .cases h;exact g
 .split at h
  .rename_i q;cases h;have e:=XT q;subst e;show(bif Nat.beq _ _ then _ else _);rw[VH];exact g
  .rename_i q;cases h;show(bif Nat.beq _ _ then _ else _);rw[q];exact g
 .cases h;exact g
 .cases a
 .cases a
 .cases a
 .cases h
def Qi6(Tx:TyX)(h0 N:Nat):Nat->Cf->List Kf->Env->Qd->Option (Cf×List Kf×Env×Qd)
 |0,c,k,env,H=>some (c,k,env,H)
 |n+1,c,k,env,H=>match QoY c k with
  |true=>(match QfY Tx h0 N c k env H with
   |some (c',k',env',H')=>Qi6 Tx h0 N n c' k' env' H'
   |none=>none)
  |false=>none
theorem QcQ{Tx:TyX}(hT:QbH P Tx):∀(n:Nat) {c c':Cf} {k k':List Kf} {env env':Env} {H H':Qd},Qi6 Tx h0 N n c k env H=some (c',k',env',H')->HdY X P h0 N c' k' env' H' st Q->HdY X P h0 N c k env H st Q
 |0,c,c',k,k',env,env',H,H',h,g=>by cases h;exact g
 |n+1,c,c',k,k',env,env',H,H',h,g=>by
  unfold Qi6 at h;split at h
  .rename_i hn;split at h
   .rename_i e;exact Ql0 hT e hn (QcQ hT n h g)
   .cases h
  .cases h
theorem TCy.lf{k:List Kf}(h:TC P h0 N c env H (λx env H=>kqY X P h0 N k Q x env H st)):TCy X P h0 N c env H st (kqY X P h0 N k Q):=TCy.lift h
theorem QjI{all:Array Oper}{o:Oper}{r:List Oper}{d:Nat}{x:T}{l:List T}{e:T->A}{y z:Operand}{a:Array TypeId}(hE:X.enc=λx=>[e x])(h:X.nx=nxL)(i:o.op=.call {callee:=.value y,args:= #[z],argTypes:=a})(k:opA env y=.fn (.yield X.l) [] [])(m:opA env z=e x)(j:Yk (e x)=true)
  (f:WOy X P h0 N all r (up env d (.bool true)) H (.on l) Q)(g:WOy X P h0 N all r (up env d (.bool false)) H (.off l) Q)(hg:Qp all o env true:=by exact rfl)(hd:o.dst=some d:=by exact rfl)(hNd:Nat.blt d N=true:=by exact rfl):WOy X P h0 N all (o::r) env H (.on (x::l)) Q:=by
 refine WOy.yield (x:=x) (rem:=l) (by rw[h];rfl) hg hd hNd ?_ ?_
 .rw[hE];exact QhF i k m j
 .intro b;cases b with
  |true=>exact f
  |false=>exact g
theorem WOy.y2{all:Array Oper}{o:Oper}{r:List Oper}{d:Nat}{x:T}{l:List T}{f a:T->A}{y j k:Operand}{m:Array TypeId}(hE:X.enc=λx=>[f x,a x])(q:X.nx=nxL)(s:o.op=.call {callee:=.value y,args:= #[j,k],argTypes:=m})(t:opA env y=.fn (.yield X.l) [] [])(g:opA env j=f x)(h:opA env k=a x)(e:Yk (f x)=true)(i:Yk (a x)=true)
  (n:WOy X P h0 N all r (up env d (.bool true)) H (.on l) Q)(p:WOy X P h0 N all r (up env d (.bool false)) H (.off l) Q)(hg:Qp all o env true:=by exact rfl)(hd:o.dst=some d:=by exact rfl)(hNd:Nat.blt d N=true:=by exact rfl):WOy X P h0 N all (o::r) env H (.on (x::l)) Q:=by
 refine WOy.yield (x:=x) (rem:=l) (by rw[q];rfl) hg hd hNd ?_ ?_
 .rw[hE];exact QkP s t g h e i
 .intro b;cases b with
  |true=>exact n
  |false=>exact p
end
end Go.Sw
namespace Go.Sw
def yl{T R:Type}(x:T)(k:Option (List T×R)):Option (List T×R):=k.bind λp=>some (x::p.1,p.2)
def ap{T B R:Type}(a:Option (List T×B))(k:B->Option (List T×R)):Option (List T×R):=a.bind λp=>(k p.2).bind λq=>some (p.1++q.1,q.2)
theorem QlV{T R:Type}{x:T}{k:Option (List T×R)}{a:List T}{v:R}(h:yl x k=some (a,v)):∃zs,k=some (zs,v)/\a=x::zs:=by
 obtain⟨⟨zs,e⟩,d,b⟩:=bnd h;cases b;exact⟨zs,d,rfl⟩
theorem Qo6{T B R:Type}{a:Option (List T×B)}{k:B->Option (List T×R)}{d:List T}{v:R}(h:ap a k=some (d,v)):∃y1 b y2,a=some (y1,b)/\k b=some (y2,v)/\d=y1++y2:=by
 obtain⟨⟨y1,b⟩,i,e⟩:=bnd h;obtain⟨⟨y2,j⟩,f,g⟩:=bnd e;cases g;exact⟨y1,b,y2,i,f,rfl⟩
section
variable {T:Type} {X:Ctx T} {P:Program} {h0 N:Nat} {c c':Code} {env:Env} {H:Qd} {st:YSt T} {Q:YB T}
def Qn2{β:Type}(h0:Nat)(b:β)(E':β->Env)(H':β->Qd)(rem:List T)(Q:YB T):YB T
 |.normal,env,H,st=>Le h0 env H (E' b) (H' b)/\st=.on rem
 |.exit id,env,H,st=>Q (.exit id) env H st
 |.ret,env,H,st=>Q .ret env H st
theorem QiI{β:Type}{E':β->Env}{H':β->Qd}(b:β)(rem:List T)(sel keep:List Nat)(nE:β->Env)(nH:β->List (Nat×Blk))(_:∀b,Qnn sel keep (nE b) (nH b) env H=some (E' b,H' b))(h:TCy X P h0 N c env H st (Qn2 h0 b E' H' rem Q))(k:∀env H,Le h0 env H (E' b) (H' b)->Q .normal env H (.on rem)):TCy X P h0 N c env H st Q:=
 h.mono λx env' H' st' q=>by
  cases x with
  |normal=>obtain⟨q1,rfl⟩:=q;exact k _ _ q1
  |exit id=>exact q
  |ret=>exact q
theorem Qo3{β:Type}{b:β}{E':β->Env}{H':β->Qd}{rem:List T}(h:Le h0 env H (E' b) (H' b)):Qn2 h0 b E' H' rem Q .normal env H (.on rem):=⟨h,rfl⟩
theorem Qnm{β:Type}{b:β}{E':β->Env}{H':β->Qd}{rem:List T}(h:Q .ret env H st):Qn2 h0 b E' H' rem Q .ret env H st:=h
theorem Qny{S B:Type}{step:S->Option (List T×Ctl S B)}{E':S->Env}{H':S->Qd}{m:Nat}{s0:S}{ys rem:List T}{b:B}(sel keep:List Nat)(nE:S->Env)(nH:S->List (Nat×Blk))(h:QbT step m s0=some (ys,b))(_:∀s,Qnn sel keep (nE s) (nH s) env H=some (E' s,H' s))(hI:Le h0 env H (E' s0) (H' s0))
  (body:∀s zs d rest,step s=some (zs,d)->(∀b',d=.done b'->b'=b/\rest=rem)->TCy X P h0 N c (E' s) (H' s) (.on (zs++rest)) (QfJ h0 E' H' d rest Q)):TCy X P h0 N (.loop c) env H (.on (ys++rem)) Q:=Qls h hI body
theorem QcB{S B:Type}{E':S->Env}{H':S->Qd}{s:S}{d:Ctl S B}{zs rest:List T}(e:some (([]:List T),Ctl.cont s)=some (zs,d))(h:Le h0 env H (E' s) (H' s)):QfJ h0 E' H' d rest Q .normal env H (.on (zs++rest)):=by
 cases e;exact⟨s,rfl,h,rfl⟩
theorem QmH{S B:Type}{id:Nat}{E':S->Env}{H':S->Qd}{d:Ctl S B}{rest:List T}(h:Q (.exit id) env H st):QfJ h0 E' H' d rest Q (.exit id) env H st:=h
theorem Qjg{S B:Type}{E':S->Env}{H':S->Qd}{d:Ctl S B}{rest:List T}(h:Q .ret env H st):QfJ h0 E' H' d rest Q .ret env H st:=h
theorem Oy{S B:Type}{d:Ctl S B}{x b:B}{zs rest rem:List T}(e:∀b',d=.done b'->b'=b/\rest=rem)(h:some (([]:List T),Ctl.done x)=some (zs,d)):zs=[]/\b=x/\rest=rem:=by
 cases h;obtain⟨f,a⟩:=e x rfl;exact⟨rfl,f.symm,a⟩
theorem Qd7{f:FuncId}{fn:Func}{c:Code}{N:Nat}{a:List A}{H:Qd}{enc:T->List A}{xs:List T}(g:P.funcs[f]?=some fn)(d:fn.body=some c)(b:fn.ntmps=N)(i:Nat.ble (a.length+1) N=true)(e:fn.results= #[])
  (h:∀X:Ctx T,X.enc=enc->X.nx=nxL->TCy X P H.length N c (Qgu 0 (.fn (.yield X.l) [] []::a)) H (.on (xs++[])) EndY):Qhs P f a H enc nxL xs:=by
 rw[Vi]at h;exact Qdc g d b i e h
end
end Go.Sw
namespace Go.Sw
open Go.MapKept
section
variable {fr ro:Nat->Prop} {σ:Sig} {H:Qd} {w:World}
end
end Go.Sw
namespace Go.Sw
open Go.MapKept
def QbI{α β:Type}(ek:α->A)(ev:β->List A)(l:List (α×Option (List β))):List (A×Option (List (List A))):=l.map λp=>(ek p.1,p.2.map (List.map ev))
def Qkg{α β:Type}[DecidableEq α](l:List (α×Option (List β)))(x:α):List (α×Option (List β)):=l.map λp=>bif decide (p.1=x)then(p.1,none)else p
section
variable {P:Program} {kt:TypeId} {α β:Type} [DecidableEq α] {ek:α->A} {ev:β->List A} {ro:Nat->Prop} {w:World} {t k:Nat} (K:Y1 P kt ek)
include K
theorem QkH{x:α}:∀{l:List (α×Option (List β))} {es:List MapEntry},MO ro w t k (QbI ek ev l) es->MO ro w t k (QbI ek ev (Qkg l x)) es
 |[],es,h=>h
 |p::l,es,h=>by
  obtain⟨e,l',rfl,h1,h2,h3⟩:=h;by_cases q:p.1=x
  .refine⟨e,l',rfl,by simpa[q]using h1,λrows hr=>?_,QkH (l:=l) h3⟩;simp[q]at hr
  .refine⟨e,l',rfl,by simpa[q]using h1,λrows hr=>h2 rows (by simpa[q]using hr),QkH (l:=l) h3⟩
omit K
theorem QdK{x:α}{c:Nat}:∀{l:List (α×Option (List β))} {es:List MapEntry},Qeh (QbI ek ev (Qkg l x)) es c->Qeh (QbI ek ev l) es c
 |[],es,h=>by cases es<;>exact h.elim
 |p::l,[],h=>h.elim
 |p::l,e::es,h=>by
  rcases h with⟨h1,h2⟩|h
  .by_cases q:p.1=x
   .simp[q]at h1
   .exact .inl ⟨by simpa[q]using h1,h2⟩
  .exact .inr (QdK (l:=l) h)
theorem QlQ{x:α}:∀{l:List (α×Option (List β))} {es:List MapEntry},QjY (QbI ek ev l) es->QjY (QbI ek ev (Qkg l x)) es
 |[],es,h=>by cases es<;>trivial
 |p::l,[],h=>trivial
 |p::l,e::es,h=>by
  obtain⟨h1,h2⟩:=h;refine⟨λc q1 q2 q3=>?_,QlQ (l:=l) h2⟩;by_cases q:p.1=x
  .simp[q]at q1
  .exact h1 c (by simpa[q]using q1) q2 (QdK (l:=l) q3)
include K
theorem MO.find:∀{l:List (α×Option (List β))} {es:List MapEntry},MO ro w t k (QbI ek ev l) es->∀(x:α),(es.map (·.key)).Nodup->
  ((∀e:MapEntry,e∈es->e.key≠QJ (ek x))->YC l x=none)/\
  (∀(j:Nat) (e:MapEntry),es[j]?=some e->e.key=QJ (ek x)->∃q,YC l x=some q/\(∀rows,q=some rows->SO ro w t k (rows.map ev) e.val)/\
   ∀c p n cap,q.isSome=true->e.val=.slice (some ⟨c,p,none⟩) n cap->Qeh (QbI ek ev l) es c/\(QjY (QbI ek ev l) es->¬Qeh (QbI ek ev (Qkg l x)) es c))
 |[],es,h,x,_=>by
  cases(show es=[]from h);exact⟨λ_=>rfl,λj e he=>by simp at he⟩
 |p::l,es,h,x,hn=>by
  obtain⟨e0,l',rfl,h1,h2,h3⟩:=h;have hk:e0.key=QJ (ek p.1):=VR.val (K.scl _) h1;simp only[Vl,List.nodup_cons]at hn;obtain⟨a1,a2⟩:=MO.find (l:=l) h3 x hn.2;by_cases hp:p.1=x
  .subst hp;constructor
   .intro q;exact absurd hk (q e0 (by simp))
   .intro j e he hx;cases j with
    |zero=>
     simp only[XH,Option.some.injEq]at he;subst he;refine⟨p.2,by simp[YC],λrows hr=>h2 (rows.map ev) (by simp[hr]),λc p' n cap hs hv=>⟨.inl ⟨by simpa using hs,p',n,cap,hv⟩,λhd hq=>?_⟩⟩;rcases hq with⟨q1,_⟩|hq
     .simp at q1
     .exact hd.1 c (by simpa using hs) ⟨p',n,cap,hv⟩ (QdK (l:=l) hq)
    |succ j=>
     simp only[XI]at he;exact absurd (hk.trans hx.symm▸VI (f:=λe:MapEntry=>e.key) (VJ he)) hn.1
  .have e1:YC (p::l) x=YC l x:=by simp[YC,hp]
   rw[e1];constructor
   .intro q;exact a1 λe he=>q e (by simp[he])
   .intro j e he hx;cases j with
    |zero=>
     simp only[XH,Option.some.injEq]at he;subst he;exact absurd (K.inj _ _ (hk.symm.trans hx)) hp
    |succ j=>
     obtain⟨q,d,i,g⟩:=a2 j e (by simpa using he) hx;refine⟨q,d,i,λc p' n cap hs hv=>?_⟩;obtain⟨a,b⟩:=g c p' n cap hs hv;refine⟨.inr a,λhd hq=>?_⟩;rcases hq with⟨q1,m⟩|hq
     .exact hd.1 c (by simpa[hp]using q1) m a
     .exact b hd.2 hq
end
section
variable {P:Program} {o:Oper} {env:Env} {H:Qd}
variable {T kt et:Nat} {α β:Type} [DecidableEq α] {ek:α->A} {ev:β->List A} {x y:Operand} {i t k:Nat} {l:List (α×Option (List β))} {key:α} {rows:List β}
end
end Go.Sw
namespace Go.Sw
open Go.MapKept
theorem MO.append{ro:Nat->Prop}{w:World}{t k:Nat}:∀{l m:List (A×Option (List (List A)))} {es fs:List MapEntry},MO ro w t k l es->MO ro w t k m fs->MO ro w t k (l++m) (es++fs)
 |[],m,es,fs,h,q=>by cases(show es=[]from h);exact q
 |p::l,m,es,fs,h,q=>by
  obtain⟨e,l',rfl,h1,h2,h3⟩:=h;exact⟨e,l'++fs,rfl,h1,h2,MO.append h3 q⟩
theorem MO.length{ro:Nat->Prop}{w:World}{t k:Nat}:∀{l:List (A×Option (List (List A)))} {es:List MapEntry},MO ro w t k l es->es.length=l.length
 |[],es,h=>by cases(show es=[]from h);rfl
 |p::l,es,h=>by
  obtain⟨e,l',rfl,h1,h2,h3⟩:=h;simp[MO.length h3]
def SlB(v:Value)(c:Nat):Prop:=∃p n cap,v=.slice (some ⟨c,p,none⟩) n cap
section
variable {P:Program} {kt:TypeId} {α β:Type} [DecidableEq α] {ek:α->A} {ev:β->List A} {ro:Nat->Prop} {w:World} {t k:Nat} (K:Y1 P kt ek)
def Qdu{α β:Type}[DecidableEq α](l:List (α×Option (List β)))(x:α)(rows:List β):List (α×Option (List β)):=l.map λp=>bif decide (p.1=x)then(p.1,some rows)else p
include K
theorem Qgb{x:α}{rows:List β}:∀{l:List (α×Option (List β))} {es:List MapEntry},MO ro w t k (QbI ek ev l) es->(∀e∈es,e.key≠QJ (ek x))->Qdu l x rows=l
 |[],es,h,q=>rfl
 |p::l,es,h,q=>by
  obtain⟨e,l',rfl,h1,h2,h3⟩:=h;have hk:e.key=QJ (ek p.1):=VR.val (K.scl _) h1;have hp:p.1≠x:=λz=>q e (by simp) (by rw[hk,z]);have:=Qgb (l:=l) h3 (λe he=>q e (by simp[he])) (rows:=rows);simp only[Qdu,Vl,decide_false,hp,Vs];rw[show(l.map λp=>bif decide (p.1=x)then(p.1,some rows)else p)=l from this]
theorem MO.put{x:α}{rows:List β}{v:Value}(f:SO ro w t k (rows.map ev) v):∀{l:List (α×Option (List β))} {es:List MapEntry} {j:Nat} {e:MapEntry},MO ro w t k (QbI ek ev l) es->
  (es.map (·.key)).Nodup->es[j]?=some e->e.key=QJ (ek x)->
  MO ro w t k (QbI ek ev (Qdu l x rows)) (es.modify j λe=>{e with key:=QJ (ek x),val:=v})/\
  (∀c,Qeh (QbI ek ev (Qdu l x rows)) (es.modify j λe=>{e with key:=QJ (ek x),val:=v}) c->Qeh (QbI ek ev l) es c\/SlB v c)/\
  (QjY (QbI ek ev l) es->(∀c,Qeh (QbI ek ev l) es c->¬SlB v c)->QjY (QbI ek ev (Qdu l x rows)) (es.modify j λe=>{e with key:=QJ (ek x),val:=v}))
 |[],es,j,e,h,hn,he,hk=>by cases(show es=[]from h);simp at he
 |p::l,es,j,e,h,hn,he,hk=>by
  obtain⟨e0,l',rfl,h1,h2,h3⟩:=h;have hk0:e0.key=QJ (ek p.1):=VR.val (K.scl _) h1;simp only[Vl,List.nodup_cons]at hn;cases j with
  |zero=>
   simp only[XH,Option.some.injEq]at he;subst he;have hp:p.1=x:=K.inj _ _ (hk0.symm.trans hk);simp only[List.modify_zero_cons];have e0':Qdu l x rows=l:=Qgb K h3 λe he z=>hn.1 (by rw[hk, <- z];exact VI he);have e1:Qdu (p::l) x rows=(p.1,some rows)::l:=by
    have:Qdu (p::l) x rows=(p.1,some rows)::Qdu l x rows:=by simp[Qdu,hp]
    rw[this,e0']
   rw[e1];refine⟨⟨_,l',rfl,?_,?_,h3⟩,?_,?_⟩
   .show VR ro [] w (ek p.1) (QJ (ek x));rw[<- hp];exact Qb0 (K.scl _)
   .intro d s;cases s;exact f
   .rintro c (⟨_,q⟩|q)
    .exact .inr q
    .exact .inl (.inr q)
   .rintro⟨m,b⟩ a;exact⟨λc _ q z=>a c (.inr z) q,b⟩
  |succ j=>
   simp only[XI]at he;have hp:p.1≠x:=by
    intro q;refine hn.1 (Xe.2 ⟨e,VJ he,?_⟩);rw[hk,hk0,q]
   simp only[List.modify_succ_cons];obtain⟨u,i,r⟩:=MO.put f h3 hn.2 he hk;have e1:Qdu (p::l) x rows=p::Qdu l x rows:=by simp[Qdu,hp]
   rw[e1];refine⟨⟨_,_,rfl,h1,h2,u⟩,?_,?_⟩
   .rintro c (q|q)
    .exact .inl (.inl q)
    .exact(i c q).imp .inr id
   .rintro⟨m,b⟩ a;refine⟨λc g n z=>?_,r b λc y=>a c (.inr y)⟩;rcases i c z with z|z
    .exact m c g n z
    .exact a c (.inl ⟨g,n⟩) z
end
section
variable {P:Program} {o:Oper} {env:Env} {H:Qd}
variable {T kt et:Nat} {α β:Type} [DecidableEq α] {ek:α->A} {ev:β->List A} {x y zz:Operand} {i j t k n:Nat} {l m:List (α×Option (List β))} {key:α} {rows:List β}
end
end Go.Sw
namespace Go.Sw
open Go.MapKept
section
variable {fr ro:Nat->Prop} {σ:Sig} {H:Qd} {w:World}
end
section
variable {P:Program} {o:Oper} {env:Env} {H:Qd} {T kt et i t k:Nat} {x:Operand} {es:List (A×Option (List (List A)))}
end
section
variable {P:Program} {o:Oper} {env:Env} {H:Qd}
variable {T kt et:Nat} {α β:Type} [DecidableEq α] {ek:α->A} {ev:β->List A} {x y zz:Operand} {i j t k n:Nat} {l m:List (α×Option (List β))} {key:α} {rows:List β}
end
end Go.Sw
namespace Go.Sw
open Go.MapKept
section
variable {P:Program} {o:Oper} {env:Env} {H:Qd}
variable {T kt et:Nat} {α β:Type} [DecidableEq α] {ek:α->A} {ev:β->List A} {x y zz:Operand} {i j t k n:Nat} {l m:List (α×Option (List β))} {key:α} {rows:List β}
end
end Go.Sw
namespace Go.Sw
abbrev Kat:=List (Nat×Nat×Nat)
def QlX:Nat->Nat->List (Nat×Nat)
 |lo,0=>[(lo,lo)]
 |lo,n+1=>(lo,lo)::QlX (lo+1) n
def rgK(p:Nat×Nat×Nat):List (Nat×Nat):=bif Nat.beq p.1 1 then[(p.2.1,p.2.1+1)]else QlX p.2.1 (p.2.2-p.2.1)
def plK(cat:Kat):List (List (Nat×Nat)):=cat.map rgK
def rqK(bs:List Nat)(cat:Kat):List (List Nat):=cat.map λp=>bs.take p.2.1
def hsK(cat:Kat):List Bool:=cat.map λp=>Nat.beq p.1 1
def msK(bs:List Nat):List (List Nat):=(List.range (bs.length+1)).map bs.take
theorem QgR:∀(n lo:Nat),∀p∈QlX lo n,p.1=p.2
 |0,lo,p,h=>by cases h with|head=>rfl|tail _ h=>cases h
 |n+1,lo,p,h=>by
  rcases X8.1 h with rfl|h
  .rfl
  .exact QgR n _ p h
section
variable {P:Program} {T:TyX} {h0 N m:Nat} {bs:List Nat} {cat:Kat} {l:List Oper} {ds:List Nat} {env:Env} {H:Qd} {Hs:List Qd} {Q:QB} {K:List Oper->Env->Qd->Prop}
def DobK(P:Program)(N:Nat)(cat:Kat)(l:List Oper)(ds:List Nat)(env:Env)(n:Nat)(Hs:List Qd)(zs:List A)(j:Nat):Prop:=
 ∀p∈(plK cat).getD j [],JC P N l ds zs env n n j (Hs.getD p.1 []) (Hs.getD p.2 [])
def DK(P:Program)(N m:Nat)(bs:List Nat)(cat:Kat)(l:List Oper)(ds:List Nat)(env:Env)(n:Nat)(K:List Oper->Env->Qd->Prop)(Hs:List Qd)(X:Qd)(r:List Oper)(xs:List A):Prop:=
 r=l.drop xs.length->∃ys Zs Y,xs.length+ys.length=m/\Hs.length+Zs.length=bs.length/\((∀Z∈Zs,n<=Z.length)/\(Hs.reverse++X::Zs).getD bs.length []=Y)/\(∀j,xs.length<=j->j<m->DobK P N cat l ds env n (Hs.reverse++X::Zs) (xs++ys) j)/\K (l.drop m) (Qay ds (xs++ys) env) Y
theorem Qp7{f:List A}{n:Nat}{Zs:List Qd}(a:cat.length=m)(r:∀j,0<=j->j<m->DobK P N cat l ds env n Zs f j):Qhy P N l ds f env n (n+0) 0 ((plK cat).map λq=>q.map λp=>(Zs.getD p.1 [],Zs.getD p.2 [])):=by
 refine Qhx _ 0 λi s b p h=>?_;rw[Xp]at b;cases e:(plK cat)[i]? with
 |none=>rw[e]at b;cases b
 |some q=>
  rw[e]at b;cases b;obtain⟨k,d,rfl⟩:=Xe.1 h;have g:i<m:=by
   have:=(XO.1 e).1;simpa[plK,a]using this
  have:=r i (XX _) g k (by rw[Qkp e];exact d);simpa using this
theorem QnZ{id:Nat}(m:Nat)(d:List Nat)(cat:Kat)(u:P.follows .mixedOrders=true)(s:Qd2 l m N (Qbh m 0 l) (hsK cat) (rqK d cat) (msK d) (plK cat)=true)(f:Nat.beq cat.length m=true)(i:Nat.ble h0 H.length=true)
  (h:DK P N m d cat l (Qbh m 0 l) env H.length (λr e H=>WO P h0 N l.toArray r e H Q) [] H l []):TC P h0 N (.region id l.toArray true) env H Q:=by
 obtain⟨t,Zs,Y,q,k,g,p,n⟩:=h rfl;simp only[List.length_nil,Xx,Vj,List.reverse_nil]at q k g p n;have b:=XT f;have a:(msK d).length=d.length+1:=by simp[msK]
 refine YW m 0 _ _ _ _ _ t (H::Zs) Y u s (by rw[q];exact VH m) (by rw[a];simp[k]) i ?_ (by simp) (by rw[a];exact g.2) (Qp7 b p) (by simp[plK,b]) n;rw[Xt];intro Z j;rcases X8.1 j with rfl|j
 .exact XV (XW _)
 .exact XV (g.1 Z j)
variable {n:Nat} {X X1:Qd} {xs:List A} {o:Oper} {r:List Oper} {x:A} {d:Nat}
theorem DK.done(b:Nat.beq xs.length m=true)(d:Nat.beq Hs.length bs.length=true)(h:K r (Qay ds xs env) X):DK P N m bs cat l ds env n K Hs X r xs:=by
 intro f;have e:=XT b;have a:=XT d;subst f;refine⟨[],[],X,by simpa using e,by simpa using a,⟨(λZ hZ=>by cases hZ),?_⟩,λj i g=>by omega,?_⟩
 .rw[<- a,VN,XQ (by simp)];simp
 .rw[<- e,Vi];exact h
theorem DK.add(h:∀ys Zs,l[xs.length]?=some o->DobK P N cat l ds env n (Hs.reverse++X::Zs) (xs++x::ys) xs.length)(k:DK P N m bs cat l ds env n K Hs X r (xs++[x])):DK P N m bs cat l ds env n K Hs X (o::r) xs:=by
 intro i;obtain⟨g,a⟩:=Qbi i;obtain⟨ys,Zs,Y,s,e,f,d,b⟩:=k (by simpa using a);simp only[X5,X3,List.length_nil,Vk,VM,Vj]at s d b;refine⟨x::ys,Zs,Y,by simp only[X3];omega,e,f,λj t p=>?_,b⟩;rcases VE xs.length j with q|q
 .exact d j (by omega) p
 .obtain rfl:j=xs.length:=by omega
  exact h ys Zs g
theorem Qev{Zs:List Qd}{zs:List A}{j:Nat}{c:Nat×Nat×Nat}(b:YV cat j=some c)(h:∀p∈rgK c,JC P N l ds zs env n n j (Zs.getD p.1 []) (Zs.getD p.2 [])):DobK P N cat l ds env n Zs zs j:=by
 intro p a;rw[QaH]at b;unfold plK at a;rw[VN,Xp,b]at a;exact h p a
theorem Qg9{Zs:List Qd}{c:Nat}(a:Nat.beq c Hs.length=true):(Hs.reverse++X::Zs).getD c []=X:=by
 rw[XT a,VN,XQ (by simp)];simp
theorem DK.wo{c:Nat}(h:WO P X.length N l.toArray [o] (Yd (Qj o) 0 ds xs env) X (Y5 (up (Yd (Qj o) 0 ds xs env) d x) X))(k:DK P N m bs cat l ds env n K Hs X r (xs++[x]))
  (b:YV cat xs.length=some (0,c,c):=by exact rfl)(hd:o.dst=some d:=by exact rfl)(hcH:Nat.beq c Hs.length=true:=by exact rfl):DK P N m bs cat l ds env n K Hs X (o::r) xs:=
 .add (λys Zs ho=>Qev b λp a=>by
  have:p=(c,c):=by
   change p∈QlX c (c-c)at a;rw[Nat.sub_self]at a;exact VD.1 a
  subst this;rw[Qg9 hcH];exact QaE ho Y8 h hd) k
theorem DK.wa{lo hi:Nat}(h:∀X,WO P X.length N l.toArray [o] (Yd (Qj o) 0 ds xs env) X (Y5 (up (Yd (Qj o) 0 ds xs env) d x) X))(k:DK P N m bs cat l ds env n K Hs X r (xs++[x]))
  (a:YV cat xs.length=some (0,lo,hi):=by exact rfl)(hd:o.dst=some d:=by exact rfl):DK P N m bs cat l ds env n K Hs X (o::r) xs:=
 .add (λys Zs ho=>Qev a λp b=>by
  have e:p.1=p.2:=QgR _ _ p b;rw[<- e];exact QaE ho Y8 (h _) hd) k
theorem DK.op{c E:Nat}(h:WO P X.length N l.toArray [o] (Yd (Qj o) 0 ds xs env) X (Y5 (up (Yd (Qj o) 0 ds xs env) d x) X1))(k:DK P N m bs cat l ds env n K (X::Hs) X1 r (xs++[x]))(hl:Nat.ble n X1.length=true:=by exact rfl)
  (hc:YV cat xs.length=some (1,c,E):=by exact rfl)(hd:o.dst=some d:=by exact rfl)(hcH:Nat.beq c Hs.length=true:=by exact rfl):DK P N m bs cat l ds env n K Hs X (o::r) xs:=by
 intro B;obtain⟨z,b⟩:=Qbi B;obtain⟨t,Zs,Y,F,w,a,g,f⟩:=k (by simpa using b);simp only[X5,X3,List.length_nil,Vk,VM,Vj,List.reverse_cons]at F w a g f;refine⟨x::t,X1::Zs,Y,by simp only[X3];omega,by simp only[X3];omega,⟨λZ e=>?_,a.2⟩,λj G s=>?_,f⟩
 .rcases X8.1 e with rfl|e
  .exact XU hl
  .exact a.1 Z e
 .rcases VE xs.length j with q|q
  .exact g j (by omega) s
  .obtain rfl:j=xs.length:=by omega
   refine Qev hc λp u=>?_;have:p=(c,c+1):=VD.1 u;subst this;have y:(Hs.reverse++X::X1::Zs).getD c []=X:=Qg9 hcH;have i:(Hs.reverse++X::X1::Zs).getD (c+1) []=X1:=by
    have:=Qg9 (X:=X1) (Zs:=Zs) (Hs:=X::Hs) (c:=c+1) (by rw[XT hcH];exact VH _);simpa using this
   simp only;rw[y,i];exact QaE z Y8 h hd
def QeJ(T:TyX)(N m:Nat)(cat:Kat)(l:List Oper)(ds:List Nat)(env:Env)(n:Nat):Nat->Nat->Nat->List Qd->Qd->List Oper->List A->Option (List Qd×List Oper×List A)
 |0,_,_,Hs,X,r,xs=>some (Hs,r,xs)
 |_+1,_,_,_,_,[],_=>none
 |k+1,i,j,Hs,X,o::r,xs=>match o.dst with
  |none=>none
  |some d=>match Nat.blt d N with
   |false=>none
   |true=>match Y0 ⟨l⟩ o (Yd (Qj o) 0 ds xs env)with
    |none=>none
    |some false=>(match QcG xs (.tup [])with
      |.mk xs'=>match YV cat i with
       |some (0,_,_)=>QeJ T N m cat l ds env n k (i+1) j Hs X r xs'
       |some (1,c,_)=>(match Nat.beq c j,Nat.ble n X.length with
        |true,true=>QeJ T N m cat l ds env n k (i+1) (j+1) (X::Hs) X r xs'
        |_,_=>none)
       |_=>none)
    |some true=>match YV cat i with
     |some (0,lo,hi)=>(match Qdn T o (Yd (Qj o) 0 ds xs env) []with
      |some x=>(match QcG xs x with
       |.mk xs'=>QeJ T N m cat l ds env n k (i+1) j Hs X r xs')
      |none=>match Nat.beq lo hi,Nat.beq lo j with
       |true,true=>(match Qdn T o (Yd (Qj o) 0 ds xs env) X with
        |none=>none
        |some x=>match QcG xs x with
         |.mk xs'=>QeJ T N m cat l ds env n k (i+1) j Hs X r xs')
       |_,_=>none)
     |_=>none
theorem QbO(hT:QbH P T):∀(k i j:Nat) {Hs Hs':List Qd} {r r':List Oper} {xs xs':List A},i=xs.length->j=Hs.length->QeJ T N m cat l ds env n k i j Hs X r xs=some (Hs',r',xs')->DK P N m bs cat l ds env n K Hs' X r' xs'->DK P N m bs cat l ds env n K Hs X r xs
 |0,i,j,Hs,Hs',r,r',xs,xs',_,_,h,k=>by cases h;exact k
 |k0+1,i,j,Hs,Hs',[],r',xs,xs',_,_,h,k=>by cases h
 |k0+1,i,j,Hs,Hs',o::r,r',xs,xs',hi,hj,h,k=>by
  subst hi hj;unfold QeJ at h;split at h
  .cases h
  .rename_i d hd;split at h
   .cases h
   .rename_i q2;split at h
    .cases h
    .rename_i hw;simp only[Y9]at h;split at h
     .rename_i lo hi' q0;exact .wa (λX=>WO.skip (QP hw) hd q2 (WO.nil Y5.mk)) (QbO hT k0 _ _ (by simp) rfl h k) q0 hd
     .rename_i c c' q0;split at h
      .rename_i q1 q3;exact .op (WO.skip (QP hw) hd q2 (WO.nil Y5.mk)) (QbO hT k0 _ _ (by simp) (by simp) h k) q3 q0 hd q1
      .cases h
     .cases h
    .rename_i hw;split at h
     .rename_i lo hi' q0;split at h
      .rename_i x hv;simp only[Y9]at h;exact .wa (λX=>QH (QP hw) hd q2 (QaA hT (Qez hv)) (WO.nil Y5.mk)) (QbO hT k0 _ _ (by simp) rfl h k) q0 hd
      .split at h
       .rename_i q1 q3;split at h
        .cases h
        .rename_i x hv;simp only[Y9]at h;obtain rfl:=XT q1;exact .wo (QH (QP hw) hd q2 (QaA hT hv) (WO.nil Y5.mk)) (QbO hT k0 _ _ (by simp) rfl h k) q0 hd q3
       .cases h
     .cases h
theorem DK.v(h:OpV P o (Yd (Qj o) 0 ds xs env) X x)(k:DK P N m bs cat l ds env n K Hs X r (xs++[x])){c:Nat}(hg:Y0 ⟨l⟩ o (Yd (Qj o) 0 ds xs env)=some true:=by exact rfl)
  (hd:o.dst=some d:=by exact rfl)(hN:Nat.blt d N=true:=by exact rfl)(hc:YV cat xs.length=some (0,c,c):=by exact rfl)(hcH:Nat.beq c Hs.length=true:=by exact rfl):DK P N m bs cat l ds env n K Hs X (o::r) xs:=
 .wo (QH (QP hg) hd hN h (WO.nil Y5.mk)) k hc hd hcH
def allV(T:TyX)(o:Oper)(e:Env)(x:A):Nat->List Qd->Prop
 |0,_=>True
 |k+1,Y::r=>Qdn T o e Y=some x/\allV T o e x k r
 |_+1,[]=>False
theorem Qj3:∀(n lo:Nat),∀p∈QlX lo n,lo<=p.1/\p.1<=lo+n
 |0,lo,p,h=>by cases h with|head=>exact⟨XW _,XW _⟩|tail _ h=>cases h
 |n+1,lo,p,h=>by
  rcases X8.1 h with rfl|h
  .exact⟨XW _,Nat.le_add_right _ _⟩
  .have:=Qj3 n _ p h;omega
def allW(P:Program)(N:Nat)(l:List Oper)(o:Oper)(e:Env)(d:Nat)(x:A):Nat->List Qd->Prop
 |0,_=>True
 |k+1,Y::r=>WO P Y.length N l.toArray [o] e Y (Y5 (up e d x) Y)/\allW P N l o e d x k r
 |_+1,[]=>False
theorem QkD{e:Env}:∀{k:Nat} {r:List Qd},allW P N l o e d x k r->∀j,j<k->WO P (r.getD j []).length N l.toArray [o] e (r.getD j []) (Y5 (up e d x) (r.getD j []))
 |0,_,_,j,hj=>absurd hj (Xm _)
 |k+1,[],h,_,_=>h.elim
 |k+1,Y::r,h,0,_=>h.1
 |k+1,Y::r,h,j+1,hj=>by
  have:=QkD h.2 j (by omega);simpa using this
theorem DK.ws{lo hi:Nat}(h:allW P N l o (Yd (Qj o) 0 ds xs env) d x (hi+1-lo) (X::Hs))(k:DK P N m bs cat l ds env n K Hs X r (xs++[x]))
  (f:YV cat xs.length=some (0,lo,hi):=by exact rfl)(hd:o.dst=some d:=by exact rfl)(hcH:Nat.beq hi Hs.length=true:=by exact rfl)(hle:Nat.ble lo hi=true:=by exact rfl):DK P N m bs cat l ds env n K Hs X (o::r) xs:=
 .add (λys Zs ho=>Qev f λp a=>by
  have e:p.1=p.2:=QgR _ _ p a;have b:=XU hle;have s:lo<=p.1/\p.1<=lo+(hi-lo):=Qj3 (hi-lo) lo p a;have i:=XT hcH;rw[<- e];have g:=QkD h (Hs.length-p.1) (by omega);have j:(Hs.reverse++X::Zs).getD p.1 []=(X::Hs).getD (Hs.length-p.1) []:=by
   rw[VN,VN];congr 1;rcases VE p.1 Hs.length with q|q
   .rw[XP (by simpa using q),List.getElem?_reverse q,show Hs.length-p.1=Hs.length-1-p.1+1 by omega,XI]
   .have:p.1=Hs.length:=by omega
    rw[this,XQ (by simp)];simp
  rw[j];exact QaE ho Y8 g hd) k
theorem DK.vs(i:QbH P T){lo hi:Nat}(h:allV T o (Yd (Qj o) 0 ds xs env) x (hi+1-lo) (X::Hs))(k:DK P N m bs cat l ds env n K Hs X r (xs++[x]))
  (g:YV cat xs.length=some (0,lo,hi))(e:o.dst=some d)(a:Nat.beq hi Hs.length=true)(hg:Y0 ⟨l⟩ o (Yd (Qj o) 0 ds xs env)=some true)(f:Nat.blt d N=true)(b:Nat.ble lo hi=true):DK P N m bs cat l ds env n K Hs X (o::r) xs:=by
 refine DK.ws ?_ k g e a b;generalize hi+1-lo=c at h;generalize X::Hs=L at h
 induction c generalizing L with
 |zero=>trivial
 |succ c j=>
  cases L with
  |nil=>exact h.elim
  |cons Y L=>exact⟨QH (QP hg) e f (QaA i h.1) (WO.nil Y5.mk),j L h.2⟩
end
end Go.Sw
namespace Go.Sw
def room(n:Int):Option Nat:=bif decide (0<n)&&decide (n<=4294967296)then some n.toNat else none
section
variable {P:Program} {o:Oper} {env:Env} {H:Qd}
theorem QjW{h0 i:Nat}{x x':Blk}(hH:H[i]?=some x)(e:x=x'):Le h0 env H env (H.set i x'):=by
 subst e;obtain⟨b,a⟩:=XO.1 hH;rw[<- a,List.set_getElem_self];exact Le.refl _ _ _
theorem RL.put{ro:Nat->Prop}{σ:Sig}{w:World}{k:Nat}:∀{a:Nat} {es fs:List (List A)} {l m:List Value},RL ro σ w k es l->a+fs.length<=es.length->Sw.allK k fs->LR ro σ w fs.flatten m->(∀v∈m,Qq v)->
  RL ro σ w k (es.take a++fs++es.drop (a+fs.length)) (Sw.splice l (a*k) m)
 |0,es,[],l,m,h,hn,hk,hm,hp=>by
  obtain rfl:m=[]:=hm;simpa[Sw.splice]using h
 |0,[],f::fs,l,m,h,hn,hk,hm,hp=>by simp at hn
 |0,c::es,f::fs,l,m,⟨l1,l2,h1,h2,h3,h4⟩,hn,hk,hm,hp=>by
  subst h1;have hl1:=h3.1.length;have hml:=hm.length;rw[Vn,X5]at hml;have e1:m.take k++m.drop k=m:=XB _ _;have q1:LR ro σ w f (m.take k):=by have:=hm.take k;rwa [Vn,X9 (by rw[hk.1];exact XW _),VK (by rw[hk.1];exact XW _)]at this
  have j:LR ro σ w fs.flatten (m.drop k):=by have:=hm.drop k;rwa [Vn,Va (by rw[hk.1];exact XW _),List.drop_of_length_le (by rw[hk.1];exact XW _),Vj]at this
  have b:=RL.put (a:=0) h4 (by simpa using hn) hk.2 j (λv d=>hp v (List.mem_of_mem_drop d));simp only[List.take_zero,Vj,Xx,Nat.zero_mul,Sw.splice]at b⊢;refine⟨m.take k,m.drop k++l2.drop (m.drop k).length,?_,hk.1,⟨q1,λv d=>hp v (List.mem_of_mem_take d)⟩,by simpa using b⟩;have g:k<=m.length:=by rw[hml,hk.1];exact Nat.le_add_right _ _
  rw[<- Vk,e1];congr 1;rw[XA,show m.length=l1.length+(m.length-k)from by omega,Vc];have i:l1.length+(m.length-k)-k=m.length-k:=by omega
  rw[i]
 |a+1,[],fs,l,m,h,hn,hk,hm,hp=>by simp at hn
 |a+1,c::es,fs,l,m,⟨l1,l2,h1,h2,h3,h4⟩,hn,hk,hm,hp=>by
  subst h1;have hl1:=h3.1.length;have b:=RL.put (a:=a) h4 (by simp at hn;omega) hk hm hp;refine⟨l1,Sw.splice l2 (a*k) m,?_,h2,h3,?_⟩
  .have e1:(a+1)*k=l1.length+a*k:=by rw[Xl];omega
   unfold Sw.splice;rw[e1,Vd,show l1.length+a*k+m.length=l1.length+(a*k+m.length)from by omega,Vc];simp
  .have e:a+1+fs.length=(a+fs.length)+1:=by omega
   simpa[e]using b
def Qlu(P:Program)(H:Qd)(x:A)(k:Nat)(es:List (List A)):Prop:=
 ∀fr ro σ w v,Sim fr ro σ H w->VR ro σ w x v->(∃a c,v=.slice a es.length c)/\
  ∀j,j<=es.length->allK k (es.take j)/\ ∃l,(Builtin.firstCells k j v).run P w=.ok l.toArray w/\LR ro [] w (es.take j).flatten l/\ ∀v∈l,Qq v
theorem QeG{fr ro:Nat->Prop}{σ:Sig}{w:World}{k j b off n c:Nat}{es:List (List A)}(h:RR ro [] w b k es off)(f:j<=es.length):
  allK k (es.take j)/\ ∃l,(Builtin.firstCells k j (.slice (some ⟨b,off,none⟩) n c)).run P w=.ok l.toArray w/\LR ro [] w (es.take j).flatten l/\ ∀v∈l,Qq v:=by
 obtain⟨e,i,a⟩:=(h.take j).flat;rw[Xz,XD f]at a;obtain⟨l,d,g⟩:=Qb5 (P:=P) (n:=j) (c:=c) e a;refine⟨i,l,?_,g⟩;exact d w rfl
theorem Qcw{k n c:Nat}{a:Option Addr}{w:World}:(Builtin.firstCells k 0 (.slice a n c)).run P w=.ok #[] w:=by
 cases a<;>simp[Builtin.firstCells,loadCells,loadCellsFrom,go_sem]
theorem QoG{α:Type}{e:α->List A}{k:Nat}{l:List α}:Qlu P H (.rsl k (l.map e)) k (l.map e):=by
 intro fr i σ w v s ⟨a,c,h1,h2,d⟩;subst h1;refine⟨⟨a,c,rfl⟩,λj f=>?_⟩;rcases d with d|⟨b,h,rfl,m,g⟩
 .rw[d]at f⊢;obtain rfl:j=0:=by simpa using f
  exact⟨trivial,[],Qcw,rfl,by simp⟩
 .exact QeG (fr:=fr) (σ:=σ) g f
theorem Qlu.osl{i s n k t:Nat}{es es':List (List A)}(hH:H[i]?=some (.row t k es))(he:(es.drop s).take n=es')(z:s+n<=es.length):Qlu P H (.osl i s n k) k es':=by
 intro fr G σ w v sm h;have d:es'.length=n:=by rw[<- he];simp;omega
 rcases h with⟨rfl,rfl⟩|⟨b,p,a,B,m,y,rfl,u,F,J,E⟩
 .have e:es'=[]:=VL.1 d;subst e;refine⟨⟨none,0,rfl⟩,λj f=>?_⟩;obtain rfl:j=0:=by simpa using f
  exact⟨trivial,[],Qcw,rfl,by simp⟩
 .rw[d];refine⟨⟨_,a,rfl⟩,λj f=>?_⟩;obtain⟨l,r,x⟩:=sm.blk i _ _ y hH;have g:=((YT (pre:=[]) (by simpa using r) x).drop s).take n;rw[he]at g;by_cases q:0<a
  .obtain rfl:=u q;simpa using QeG (P:=P) (fr:=fr) (σ:=σ) (n:=n) (c:=a) g (by rw[d];exact f)
  .obtain rfl:j=0:=by omega
   exact⟨trivial,[],Qcw,rfl,by simp⟩
theorem QoH{α:Type}{e:α->List A}{b t k:Nat}{l r:List α}{a c:Int}(h:slc l a c=some r)(hH:H[b]?=some (.row t k (l.map e)):=by exact rfl):Qlu P H (.osl b (0+a.toNat) (c.toNat-a.toNat) k) k (r.map e):=by
 obtain⟨i,g,f,d⟩:=Qdp h;refine Qlu.osl hH ?_ (by rw[X4];omega);rw[<- d, <- List.map_drop, <- List.map_take,Xx,List.drop_take]
def cpy{α:Type}(l:List α)(a c:Int)(m:List α):Option (List α):=some (l.take a.toNat++m.take (c.toNat-a.toNat)++l.drop (a.toNat+min m.length (c.toNat-a.toNat)))
theorem Qep{α:Type}{l r l' m:List α}{a c:Int}(h:slc l a c=some r)(b:cpy l a c m=some l'):l.length=l'.length:=by
 obtain⟨e,f,d,_⟩:=Qdp h;rw[<- X2 b];simp only[X5,Xz,XA];omega
theorem Qft{α:Type}{l l' m:List α}(a:cpy l 0 (l.length:Int) m=some l'):l.length=l'.length:=by
 rw[<- X2 a];simp only[X5,Xz,XA];simp;omega
theorem QgG{α:Type}{e:α->List A}{c:Call}{T T' et k b a n t:Nat}{x y:Operand}{ya:A}{l m l':List α}(ae:a+n<=l.length)(W:l.take a++m.take n++l.drop (a+min m.length n)=l')(hT:∀w,(underlying T).run P w=.ok (.slice et) w)(E:∀w,(sizeOf et).run P w=.ok k w)(hs:Qlu P H ya k (m.map e))
  (ho:o.op=.call c)(hc:c={callee:=.builtin .copy,args:= #[x,y],argTypes:= #[T,T']})(hx:opA env x=.osl b a n k)(hH:H[b]?=some (.row t k (l.map e)))(hy:opA env y=ya):
  OpH P o env H (.int .i64 (min m.length n:Nat)) (H.set b (.row t k (l'.map e))):=by
 intro Y L σ N ac w r;have u:=Qg r x;rw[hx]at u;have h2:=Qg r y;rw[hy]at h2;obtain⟨⟨ay,cy,X⟩,q2⟩:=hs Y L σ w _ r.sim h2;rw[X4]at X q2;obtain⟨q3,J,G,V,q6⟩:=q2 (min m.length n) (Nat.min_le_left _ _);have d:((m.map e).take (min m.length n)).length=min m.length n:=by rw[Xz,X4];omega
 have B:l'.map e=(l.map e).take a++(m.map e).take (min m.length n)++(l.map e).drop (a+((m.map e).take (min m.length n)).length):=by
  rw[d, <- W,Xf,Xf, <- List.map_take, <- List.map_take, <- List.map_drop];have e2:m.take (min m.length n)=m.take n:=by
   by_cases q:m.length<=n
   .rw[XD q,Vb,VK q]
   .rw[Nat.min_eq_right (by omega)]
  rw[e2]
 have h:(Builtin.copy_ #[T,T'] o.type #[ac.eval x,ac.eval y]).run P w=.ok (.int .i64 (min m.length n:Nat)) w->min m.length n=0->
   ∃v w' ro' τ,(execOp ac.eval o).run P w=.ok (.value v) w'/\VR ro' (σ++τ) w' (.int .i64 (min m.length n:Nat)) v/\Sim Y ro' (σ++τ) (H.set b (.row t k (l'.map e))) w'/\Qh Y L w ro' w':=by
  intro g hz;have hs:H.set b (.row t k (l'.map e))=H:=by
   have:l'.map e=l.map e:=by rw[B,d,hz];simp
   rw[this];obtain⟨hb,hv⟩:=XO.1 hH;rw[<- hv,List.set_getElem_self]
  refine⟨_,w,L,[],?_,rfl,by simpa[hs]using r.sim,Qh.refl _ _ _⟩;subst hc;generalize ac.eval=ρ at*;simp only[execOp,ho,resolve,Vp,Vq,Result.andThen,invoke,builtin,XL,Vl,Vm,g]
 have z:∀j:Nat,goInt j=.int .i64 j:=λ_=>rfl;rcases u with⟨M,u⟩|⟨bb,p,aa,t',mm,u,h3,h4,h5,h6,h7⟩
 .refine h ?_ (by omega);rw[X]at G⊢;rw[u];have:Nat.min m.length 0=min m.length n:=by rw[M]
  simp only[Builtin.copy_,XJ,XH,XI,Vp,hT,E,Result.andThen,Builtin.lenOf,Vq,this,G,z]
 .have f:∀R:Result Unit,(storeCells ⟨bb,p,none⟩ J).run P w=R->(Builtin.copy_ #[T,T'] o.type #[ac.eval x,ac.eval y]).run P w=R.andThen λ_ w=>.ok (.int .i64 (min m.length n:Nat)) w:=by
   intro R hR;rw[X]at G⊢;rw[h3];have:Nat.min m.length n=min m.length n:=rfl;simp only[Builtin.copy_,XJ,XH,XI,Vp,hT,E,Result.andThen,Builtin.lenOf,Vq,this,G,z,hR]
  by_cases M:min m.length n=0
  .have s:J=[]:=by
    have:=V.length;rw[M]at this;exact VL.1 (by simpa using this)
   refine h ?_ M;have:=f (.ok () w) (by rw[s];rfl);rw[this];rfl
  .obtain rfl:=h4 (by omega);obtain⟨l0,g1,g2⟩:=r.sim.blk b _ _ u hH;have O:=g2.length;have s:=V.length;rw[Yr q3,d]at s;have ab:a*k+(min m.length n)*k<=l0.length:=by
    rw[<- XC];refine XY (XE k ?_) O;rw[X4];omega
   have F:=Q5 (P:=P) (vs:=J) (a*k) 0 g1 (by omega) q6;rw[Xy]at F;have g:=f _ F;have i:=r.sim.set (x':=.row t k (l'.map e)) (obj:=.cells (splice l0 (a*k) J).toArray t (0,0)) u hH rfl
    (λy hy=>Qaf g1 (Q4 (by omega)) y hy)
    (λex Q=>⟨_,Q,by
     rw[B];exact(RL.put g2 (by rw[d,X4];omega) q3 V q6).mono ex.nil⟩)
   refine⟨_,_,L,[],?_,rfl,by simpa using i.1,i.2⟩;subst hc;generalize ac.eval=ρ at*;simp only[execOp,ho,resolve,Vp,Vq,Result.andThen,invoke,builtin,XL,Vl,Vm,g]
theorem QlJ{α:Type}{e:α->List A}{c:Call}{T T' et k b t:Nat}{x y:Operand}{ya:A}{l m l':List α}(h:cpy l 0 (l.length:Int) m=some l')(f:∀w,(underlying T).run P w=.ok (.slice et) w)(a:∀w,(sizeOf et).run P w=.ok k w)(g:Qlu P H ya k (m.map e))
  (d:o.op=.call c:=by exact rfl)(hc:c={callee:=.builtin .copy,args:= #[x,y],argTypes:= #[T,T']}:=by exact rfl)(hx:opA env x=.osl b 0 l.length k:=by exact rfl)(hH:H[b]?=some (.row t k (l.map e)):=by exact rfl)(hy:opA env y=ya:=by exact rfl):
  OpH P o env H (.int .i64 (min m.length l.length:Nat)) (H.set b (.row t k (l'.map e))):=by
 refine QgG (Nat.le_of_eq (Xx _)) ?_ f a g d hc hx hH hy;rw[<- X2 h];rfl
theorem QlK{α:Type}{e:α->List A}{c:Call}{T T' et k b t:Nat}{x y:Operand}{ya:A}{l f m l':List α}{i j:Int}(hi:slc l i j=some f)(h:cpy l i j m=some l')(n:∀w,(underlying T).run P w=.ok (.slice et) w)(d:∀w,(sizeOf et).run P w=.ok k w)(p:Qlu P H ya k (m.map e))
  (g:o.op=.call c:=by exact rfl)(hc:c={callee:=.builtin .copy,args:= #[x,y],argTypes:= #[T,T']}:=by exact rfl)(hx:opA env x=.osl b (0+i.toNat) (j.toNat-i.toNat) k:=by exact rfl)(hH:H[b]?=some (.row t k (l.map e)):=by exact rfl)(hy:opA env y=ya:=by exact rfl):
  OpH P o env H (.int .i64 (min m.length (j.toNat-i.toNat):Nat)) (H.set b (.row t k (l'.map e))):=by
 obtain⟨u,q,r,s⟩:=Qdp hi;refine QgG (a:=i.toNat) (by omega) (X2 h) n d p g hc ?_ hH hy;rw[hx,Xx]
end
end Go.Sw
namespace Go.Sw
open Go.MapKept
section
variable {fr ro ro':Nat->Prop} {σ:Sig} {H:Qd} {w:World}
end
end Go.Sw
namespace Go.Sw
theorem gd20{α:Type}{n:Int}{x:Option α}{r:α}(h:(bif decide (n<20)then x else none)=some r):decide (20<=n)=false/\decide (20<n)=false/\x=some r:=by
 cases q:decide (n<20)with
 |false=>rw[q]at h;cases h
 |true=>
  rw[q]at h;have:=Vx q;exact⟨Vz (by omega),Vz (by omega),h⟩
def Qgf{α:Type}(l:List α)(o:Option (List α)):Option (List α):=o.bind λr=>bif Nat.beq l.length r.length then some r else none
theorem Qh3{α:Type}{l r:List α}{o:Option (List α)}(h:Qgf l o=some r):o=some r/\l.length=r.length:=by
 cases o with
 |none=>cases h
 |some x=>
  have a:(bif Nat.beq l.length x.length then some x else none)=some r:=h;cases q:Nat.beq l.length x.length with
  |false=>rw[q]at a;cases a
  |true=>
   rw[q]at a;obtain rfl:=X2 a;exact⟨rfl,XT q⟩
theorem Qe2{α:Type}{l r:List α}{o:Option (List α)}(h:Qgf l o=some r):o=some r:=(Qh3 h).1
theorem Jo{α:Type}{l r:List α}{o:Option (List α)}(h:Qgf l o=some r):l.length=r.length:=(Qh3 h).2
section
variable {P:Program} {o:Oper} {env:Env} {H:Qd} {α:Type} {e:α->List A}
end
end Go.Sw
namespace Go.Sw
open Go.MapKept
section
variable {P:Program} {o:Oper} {env:Env} {H:Qd}
theorem QjT{T:Nat}(d:o.op=.makeMap T none:=by exact rfl):OpH P o env H (.map H.length) (H++[.mapP []]):=by
 intro e b σ N a w r;refine⟨.map (some w.heap.size),w.alloc (.map #[] 0),b,[some w.heap.size],?_,⟨w.heap.size,?_,rfl⟩,r.sim.alloc ⟨#[],0,Ya _ _,rfl,by simp,by simp,by simp⟩,Qh.alloc _ r.sim.roLt r.sim.frLt⟩
 .generalize a.eval=ρ at*;simp only[execOp,d,Instr.makeMap,Xk,Vp];rfl
 .rw[<- r.sim.len];simp
variable {T kt et:Nat} {α β:Type} [DecidableEq α] {ek:α->A} {ev:β->A} {x y:Operand} {i:Nat} {l:List (α×β)} {k:α} {z0:β} {z:Value}
theorem QcI(K:Y1 P kt ek){v:β}(m:YC l k=some v)(t:P.underlying T=some (.map kt et))
  (M:o.op=.lookup T x y false:=by exact rfl)(hx:opA env x=.map i:=by exact rfl)(hH:H[i]?=some (.mapP (Qi ek ev l)):=by exact rfl)(hy:opA env y=ek k:=by exact rfl):OpV P o env H (ev v):=by
 intro V Y σ N a w r;have n:=Qg r x;rw[hx]at n;obtain⟨b,G,u⟩:=n;have h:=Qg r y;rw[hy]at h;have L:=VR.val (K.scl _) h;obtain⟨J,d,E,q,Q,R,O⟩:=r.sim.blk i _ _ G hH;obtain⟨F,B⟩:=ER.find K q k O;rcases K.find w k J.toList (QaX K q)with⟨p,f⟩|⟨j,e,p,f,s⟩
 .have:=(F f).1;rw[m]at this;cases this
 .obtain⟨W,X,g,z⟩:=B j e f s;rw[m]at g;obtain rfl:=X2 g;refine⟨e.val,?_,z⟩;simp only[execOp,M,u,L,Instr.lookup,Vp,run_underlying t,Result.andThen,MapKept.run_getObj_map E,Vq,K.check,p];rfl
theorem QjP(K:Y1 P kt ek)(F:YC l k=none)(s:P.underlying T=some (.map kt et))(u:∀w,(zeroValue et).run P w=.ok (.pointer none) w)
  (L:o.op=.lookup T x y false:=by exact rfl)(hx:opA env x=.map i:=by exact rfl)(hH:H[i]?=some (.mapP (Qi ek ev l)):=by exact rfl)(hy:opA env y=ek k:=by exact rfl):OpV P o env H .nilp:=by
 intro W ro σ N a w r;have m:=Qg r x;rw[hx]at m;obtain⟨b,E,t⟩:=m;have g:=Qg r y;rw[hy]at g;have J:=VR.val (K.scl _) g;obtain⟨G,d,B,p,O,R,M⟩:=r.sim.blk i _ _ E hH;obtain⟨V,z⟩:=ER.find K p k M;rcases K.find w k G.toList (QaX K p)with⟨n,h⟩|⟨j,e,n,h,q⟩
 .refine⟨.pointer none,?_,rfl⟩;simp only[execOp,L,t,J,Instr.lookup,Vp,run_underlying s,Result.andThen,MapKept.run_getObj_map B,Vq,K.check,n,u];rfl
 .obtain⟨X,Y,f,Q⟩:=z j e h q;rw[F]at f;cases f
theorem QlI(K:Y1 P kt ek){v:β}{zz:Operand}(hm:YC l k=none)(V:P.underlying T=some (.map kt et))
  (ho:o.op=.mapUpdate T x y zz:=by exact rfl)(hx:opA env x=.map i:=by exact rfl)(hH:H[i]?=some (.mapP (Qi ek ev l)):=by exact rfl)(m:opA env y=ek k:=by exact rfl)(hv:opA env zz=ev v:=by exact rfl):
  OpU P o env H (H.set i (.mapP (Qi ek ev (l++[(k,v)])))):=by
 intro fr ro σ N a w r;have L:=Qg r x;rw[hx]at L;obtain⟨b,G,W⟩:=L;have J:=Qg r y;rw[m]at J;have h3:=VR.val (K.scl _) J;have F:=Qg r zz;rw[hv]at F;obtain⟨O,f,s,z,E,Y,Q⟩:=r.sim.blk i _ _ G hH;obtain⟨f1,X⟩:=ER.find K z k Q;have u:∀(obj:Obj) y,w.shape? b=some y->({w with heap:=w.heap.setIfInBounds b obj}:World).shape? b=some y:=by
  intro obj y m;unfold World.shape? at m;rw[s]at m;simp at m
 rcases K.find w k O.toList (QaX K z)with⟨M,t⟩|⟨j,e,M,t,R⟩
 .have g:=r.sim.set (x':=.mapP (Qi ek ev (l++[(k,v)]))) (obj:=.map (O.push {key:=QJ (ek k),val:=a.eval zz,born:=f}) (f+1)) G hH rfl (u _)
   (λe h=>⟨_,_,h,by
    rw[Qi,Xf,Array.toList_push];exact(z.mono e).append ⟨_,_,rfl,(Qb0 (K.scl _)),F.mono e,rfl⟩,by
    rw[Array.toList_push];intro e h;rcases VF.1 h with q|q
    .exact Nat.lt_succ_of_lt (E e q)
    .simp at q;subst q;exact Xn _,by
    rw[Array.toList_push,Xf];refine List.nodup_append.2 ⟨Y,by simp,?_⟩;intro c p d n;simp at n;subst n;obtain⟨e,h,rfl⟩:=Xe.1 p;exact Nat.ne_of_lt (E e h),by
    rw[Array.toList_push,Xf];refine List.nodup_append.2 ⟨Q,by simp,?_⟩;intro c p d n;simp at n;subst n;obtain⟨e,h,rfl⟩:=Xe.1 p;exact t e h⟩)
  refine⟨_,ro,[],?_,by simpa using g.1,g.2⟩;simp only[execOp,ho,W,h3,Vp,Instr.mapUpdate,run_underlying V,Result.andThen,MapKept.run_getObj_map s,K.check,M,MapKept.run_setObj_map _ s];rfl
 .obtain⟨u1,v',B,u3⟩:=X j e t R;rw[hm]at B;cases B
end
section
variable {fr ro:Nat->Prop} {σ:Sig} {H:Qd} {w:World}
theorem Sim.shutAny(s:Sim fr ro σ H w){i b:Nat}{n:Blk}(hσ:σ[i]?=some (some b))(hH:H[i]?=some n)(hl:n.live=true):
  Sim fr (λc=>ro c\/c=b) σ (H.set i .dead) w:=by
 have g:b<w.heap.size/\ ¬ro b/\ ¬fr b:=s.own i b _ hσ hH hl;have ext:Ext ro σ w (λc=>ro c\/c=b) σ w:=⟨λ_ q=>.inl q,λ_ _=>rfl,λ_ _ q=>q,λ_ _ q=>q⟩;have a:∀(j:Nat) (v:Blk),(H.set i .dead)[j]?=some v->v≠ .dead->j≠i/\H[j]?=some v:=by
  intro j v h m;by_cases e:j=i
  .subst e;rw[Xb]at h;simp only[if_true]at h;split at h
   .cases h;exact absurd rfl m
   .simp at h
  .rw[XS (λq=>e q.symm)]at h;exact⟨e,h⟩
 refine⟨by rw[X6];exact s.len,s.roOk.to (λ_ q=>.inl q) (λ_ _=>rfl) ?_,s.frLt,?_,?_,?_,?_,s.hidTo (· = ·) QZ (XW _) (λj d x c L F G M=>M.elim id λq=>((s.hid j d x c L F G).ne i b _ hσ hH hl q).elim) (λ_ _ _ _ _ _ _ q=>q) λj d y O N B=>.inl ⟨j,y,rfl,O,(a j y N (Qew B)).2,id,λ_ q=>q⟩⟩
 .rintro c (q|rfl)
  .exact s.roLt c q
  .exact g.1
 .rintro c (q|rfl)
  .exact s.roFr c q
  .exact g.2.2
 .intro j c v k f l;obtain⟨e,f⟩:=a j v f (Qax l);obtain⟨J,P,z⟩:=s.own j c v k f l;refine⟨J,?_,z⟩;rintro(q|rfl)
  .exact P q
  .exact e (s.inj j i c v _ k hσ f hH l hl)
 .intro j t c v u k f l E p r;exact s.inj j t c v u k f (a j v l (Qax p)).2 (a t u E (Qax r)).2 p r
 .intro j y v k f;by_cases m:v≠ .dead
  .exact(s.blk j y v k (a j v f m).2).keep ext (λ_ _ _=>rfl) (λ_ _ _ _=>rfl)
  .obtain rfl:v=.dead:=Classical.not_not.1 m;trivial
def QbR(H:Qd):List Nat->Qd
 |[]=>H
 |i::l=>QbR (H.set i .dead) l
theorem Qge{l:List Nat}:∀{H:Qd} {j:Nat},j∉l->(QbR H l)[j]?=H[j]? :=by
 induction l with
 |nil=>intro H j _;rfl
 |cons i l a=>
  intro H j hj;rw[X8,not_or]at hj;unfold QbR;rw[a hj.2,XS (λq=>hj.1 q.symm)]
theorem QdG:∀{l:List Nat} {ro:Nat->Prop} {H:Qd} (s:Sim fr ro σ H w),l.Nodup->(∀i∈l,∃x,H[i]?=some x/\x.live=true)->
  ∃ro',Sim fr ro' σ (QbR H l) w/\(∀c,ro c->ro' c)/\ ∀i∈l,∀b,σ[i]?=some (some b)->ro' b
 |[],ro,H,s,_,_=>⟨ro,s,λ_ q=>q,λ_ h=>by cases h⟩
 |i::l,ro,H,s,hn,hl=>by
  rw[List.nodup_cons]at hn;obtain⟨x,hx,hxl⟩:=hl i (by simp);have rest:∀i'∈l,∃x,(H.set i .dead)[i']?=some x/\x.live=true:=by
   intro i' a;obtain⟨y,r,k⟩:=hl i' (X7 _ a);exact⟨y,by rw[XS (λq=>hn.1 (by rw[q];exact a))];exact r,k⟩
  have p:∃q,σ[i]?=some q:=by
   have:i<σ.length:=by rw[s.len];exact(XO.1 hx).1
   exact⟨_,XN this⟩
  obtain⟨q,m⟩:=p;cases q with
  |some b=>
   obtain⟨ro',f,e,g⟩:=QdG (s.shutAny m hx hxl) hn.2 rest;refine⟨ro',f,λc n=>e c (.inl n),λi' a j d=>?_⟩;rcases X8.1 a with rfl|a
   .rw[m]at d;cases d;exact e _ (.inr rfl)
   .exact g i' a j d
  |none=>
   obtain⟨ro',f,e,g⟩:=QdG (s.kill i) hn.2 rest;refine⟨ro',f,e,λi' a j d=>?_⟩;rcases X8.1 a with rfl|a
   .rw[m]at d;cases d
   .exact g i' a j d
end
end Go.Sw
namespace Go.Sw
structure Fil (α β:Type) where
 number:Int
 r0:List α
 r1:List α
 r2:List α
 reports:List β
 appeal:Bool
 deriving DecidableEq
structure FK (α β:Type) where
 T:Nat
 tF:Nat
 kF:Nat
 tR:Nat
 kR:Nat
 eF:α->List A
 eR:β->List A
section
variable {α β:Type} (K:FK α β)
def QmY(b:Nat)(x:Fil α β):List A:=[.int .i64 x.number,.osl (b+1) 0 x.r0.length K.kF,.osl (b+2) 0 x.r1.length K.kF,.osl (b+3) 0 x.r2.length K.kF,.osl (b+4) 0 x.reports.length K.kR,.bool x.appeal]
def Qks(b:Nat)(x:Fil α β):List Blk:=[.cells K.T (QmY K b x),.row K.tF K.kF (x.r0.map K.eF),.row K.tF K.kF (x.r1.map K.eF),.row K.tF K.kF (x.r2.map K.eF),.row K.tR K.kR (x.reports.map K.eR)]
def fall:Nat->List (Fil α β)->List Blk
 |_,[]=>[]
 |b,x::l=>Qks K b x++fall (b+5) l
def frp(x:Fil α β):List A:=[.int .i64 x.number,.rsl K.kF (x.r0.map K.eF),.rsl K.kF (x.r1.map K.eF),.rsl K.kF (x.r2.map K.eF),.rsl K.kR (x.reports.map K.eR),.bool x.appeal]
def fent:Nat->List (Fil α β)->List (Int×Nat)
 |_,[]=>[]
 |b,x::l=>(x.number,b)::fent (b+5) l
def Qeb(j:Nat):A:=.ptr j 0
def rpE(x:Fil α β):A:=.rp (frp K x)
def Qef(fs:List (Fil α β)):List (Int×Fil α β):=fs.map λx=>(x.number,x)
theorem Qgm(b:Nat)(x:Fil α β)(l:List (Fil α β)):fall K b (x::l)=Qks K b x++fall K (b+5) l:=rfl
theorem Qgl(b:Nat)(x:Fil α β):(Qks K b x).length=5:=rfl
end
section
variable {fr ro ro':Nat->Prop} {σ:Sig} {w:World}
theorem Qa2(sub:∀c,ro c->ro' c){i t k:Nat}{es:List (List A)}{v:Value}(s:∀b,σ[i]?=some (some b)->BR ro σ w (.row t k es) (some b)/\ro' b)(h:VR ro σ w (.osl i 0 es.length k) v):VR ro' [] w (.rsl k es) v:=by
 rcases h with⟨g,h⟩|⟨b,p,a,y,m,x,h,r,e,B,z⟩
 .have:es=[]:=VL.1 g;subst this;exact⟨none,0,h,XW _,.inl rfl⟩
 .refine⟨_,a,h,e,?_⟩;by_cases d:es=[]
  .exact .inl d
  .right;have f:0<a:=Vh (List.length_pos_iff.2 d) e;obtain rfl:=r f;obtain⟨⟨l,n,u⟩,j⟩:=s b x;refine⟨b,0,by simp,j,?_⟩;have:=YT (pre:=[]) (by simpa using n) u;exact this.keep ⟨sub,λ_ _=>rfl,λ_ _ q=>q,λ_ _ q=>q⟩ rfl
theorem QhD{ro:Nat->Prop}{w:World}{b t:Nat}:∀{cs:List A} {pre l:List Value},w.heap[b]?=some (.cells (pre++l).toArray t (0,0))->LR ro [] w cs l->(∀v∈l,Qq v)->CR ro [] w b cs pre.length
 |[],pre,l,_,_,_=>trivial
 |a::cs,pre,l,hb,hl,hp=>by
  obtain⟨v,l',rfl,h1,h2⟩:=hl;refine⟨⟨v,?_,hp v (by simp),h1⟩,?_⟩
  .unfold World.cell?;rw[hb];simp
  .have:=QhD (pre:=pre++[v]) (l:=l') (by simpa using hb) h2 λu hu=>hp u (X7 _ hu);simpa using this
variable {α β:Type} (K:FK α β)
theorem QoE(sub:∀c,ro c->ro' c){b:Nat}{x:Fil α β}{v:Value}(f:∀(d c:Nat) (y:Blk),(Qks K b x)[d]?=some y->σ[b+d]?=some (some c)->BR ro σ w y (some c)/\ro' c)(h:VR ro σ w (.ptr b 0) v):VR ro' [] w (.rp (frp K x)) v:=by
 obtain⟨c,B,r⟩:=h;obtain⟨⟨l,E,a,g⟩,u⟩:=f 0 c _ rfl B;refine⟨c,0,r,u,?_⟩;refine QhD (pre:=[]) (by simpa using E) ?_ g;unfold QmY at a;obtain⟨v0,M,rfl,k,a⟩:=a;obtain⟨F,H,rfl,q,a⟩:=a;obtain⟨p,O,rfl,j,a⟩:=a;obtain⟨G,J,rfl,n,a⟩:=a;obtain⟨z,L,rfl,s,a⟩:=a;obtain⟨i,N,rfl,m,a⟩:=a;refine⟨v0,_,rfl,k,F,_,rfl,Qa2 sub (t:=K.tF) (λc e=>f 1 c _ rfl e) (by simpa using q),p,_,rfl,Qa2 sub (t:=K.tF) (λc e=>f 2 c _ rfl e) (by simpa using j),G,_,rfl,Qa2 sub (t:=K.tF) (λc e=>f 3 c _ rfl e) (by simpa using n),
  z,_,rfl,Qa2 sub (t:=K.tR) (λc e=>f 4 c _ rfl e) (by simpa using s),i,_,rfl,m,a⟩
theorem QnV(sub:∀c,ro c->ro' c){ek:Int->A}(hek:∀(k:Int) (v:Value),VR ro σ w (ek k) v->VR ro' [] w (ek k) v):∀{b:Nat} {fs:List (Fil α β)} {es:List MapEntry},(∀(d c:Nat) (y:Blk),(fall K b fs)[d]?=some y->σ[b+d]?=some (some c)->BR ro σ w y (some c)/\ro' c)->
  ER ro σ w (Qi ek Qeb (fent b fs)) es->ER ro' [] w (Qi ek (rpE K) (Qef fs)) es
 |b,[],es,_,h=>h
 |b,x::l,es,hb,h=>by
  obtain⟨e,l',rfl,h1,h2,h3⟩:=h;refine⟨e,l',rfl,hek _ _ h1,?_,?_⟩
  .refine QoE K sub (λd c y hy hc=>hb d c y ?_ hc) h2;rw[Qgm,XP (XO.1 hy).1];exact hy
  .refine QnV sub hek (b:=b+5) (fs:=l) (λd c y hy hc=>hb (d+5) c y ?_ (by rw[show b+(d+5)=b+5+d by omega];exact hc)) h3;rw[Qgm,XQ (by rw[Qgl];omega),Qgl,Nat.add_sub_cancel];exact hy
end
section
variable {fr ro:Nat->Prop} {σ:Sig} {w:World} {α β:Type} (K:FK α β)
theorem Sim.shutMapP{H:Qd}(s:Sim fr ro σ H w){i b:Nat}{es es':List (A×A)}(hσ:σ[i]?=some (some b))(hH:H[i]?=some (.mapP es))(he:∀l,ER ro σ w es l->ER (λc=>ro c\/c=b) [] w es' l):
  Sim fr (λc=>ro c\/c=b) σ (H.set i (.fmap es')) w:=by
 have m:b<w.heap.size/\ ¬ro b/\ ¬fr b:=s.own i b _ hσ hH rfl;have ext:Ext ro σ w (λc=>ro c\/c=b) σ w:=⟨λ_ q=>.inl q,λ_ _=>rfl,λ_ _ q=>q,λ_ _ q=>q⟩;have a:∀(j:Nat) (v:Blk),(H.set i (.fmap es'))[j]?=some v->v.live=true->j≠i/\H[j]?=some v:=by
  intro j v h u;by_cases e:j=i
  .subst e;rw[Xb]at h;simp only[if_true]at h;split at h
   .cases h;simp[Blk.live]at u
   .simp at h
  .rw[XS (λq=>e q.symm)]at h;exact⟨e,h⟩
 have g:∀(j:Nat) (v:Blk),(H.set i (.fmap es'))[j]?=some v->v.holds=true->H[j]?=some v:=by
  intro j v h u;by_cases e:j=i
  .subst e;rw[Xb]at h;simp only[if_true]at h;split at h
   .cases h;cases u
   .simp at h
  .rw[XS (λq=>e q.symm)]at h;exact h
 refine⟨by rw[X6];exact s.len,s.roOk.to (λ_ q=>.inl q) (λ_ _=>rfl) ?_,s.frLt,?_,?_,?_,?_,s.hidTo (· = ·) QZ (XW _) (λj d x c O M N P=>P.elim id λq=>((s.hid j d x c O M N).ne i b _ hσ hH rfl q).elim) (λ_ _ _ _ _ _ _ q=>q) λj d y R Q J=>.inl ⟨j,y,rfl,R,g j y Q J,id,λ_ q=>q⟩⟩
 .rintro c (q|rfl)
  .exact s.roLt c q
  .exact m.1
 .rintro c (q|rfl)
  .exact s.roFr c q
  .exact m.2.2
 .intro j c v k f p;obtain⟨e,f⟩:=a j v f p;obtain⟨t,z,r⟩:=s.own j c v k f p;refine⟨t,?_,r⟩;rintro(q|rfl)
  .exact z q
  .exact e (s.inj j i c v _ k hσ f hH p rfl)
 .intro j F c v G k f p L B E;exact s.inj j F c v G k f (a j v p B).2 (a F G L E).2 B E
 .intro j y v k f;by_cases e:j=i
  .subst e;rw[Xa (XO.1 hH).1]at f;cases f;rw[hσ]at k;cases k;obtain⟨l,n,t,z,r⟩:=s.blk j _ _ hσ hH;exact⟨.inr rfl,l,n,t,he _ z,r⟩
  .rw[XS (λq=>e q.symm)]at f;exact(s.blk j y v k f).keep ext (λ_ _ _=>rfl) (λ_ _ _ _=>rfl)
end
end Go.Sw
namespace Go.Sw
open Go.Sort Go.Proofs Go.Shelf
theorem Qmw{α:Type}{l:List α}(h:l.length=1):∃v,l=[v]:=by
 match l,h with
 |[v],_=>exact⟨v,rfl⟩
theorem Qfb{α β:Type}(f:α->β):∀l:List α,(l.map λa=>[f a]).flatten=l.map f
 |[]=>rfl
 |a::l=>by simp[Qfb f l]
structure Elt1 (ro:Nat->Prop) (w:World) {T:Type} (ea:T->A) (l:List T) where
 x:T
 v:Value
 mem:x∈l
 rel:VR ro [] w (ea x) v
 plain:Qq v
theorem QoP{P:Program}{ρ:Ren}(L0:SlLaysF0.n6 P ρ){T:Type}[DecidableEq T]{ea:T->A}{t g:Nat}{cap:List A}{l l':List T}{cf:T->T->Option Int}(hs:QbK cf l=some l')
  (a2:∀x y c,cf x y=some c->C P g ([ea x,ea y]++cap) [] (λa H=>a=.int .i64 c/\H=[]))
  (aE:∀w,(isAgg (ρ.t 24)).run P w=.ok false w)(zE:∀w,(Go.sizeOf (ρ.t 24)).run P w=.ok 1 w)(eg:∀args w,(callFunc g args).run P w=.ok (.enter g args) w)(hd:Yg cap=true):
  C P (ρ.f 6) [.osl 0 0 l.length 1,.fn (.func g) [] cap] [.row t 1 (l.map λx=>[ea x])] (λa H=>a=.tup []/\H=[.row t 1 (l'.map λx=>[ea x])]):=by
 have L:SlLaysF.n6 P ρ:={L0 with a24:=aE,z24:=zE};intro fr F σ vals w s hv;obtain⟨vs,r1,rfl,bi,vf,r2,rfl,bn,hr⟩:=hv;cases(show r2=[]from hr);obtain⟨lf,lc,rfl,h1,ax⟩:=bn;cases(show lf=[]from h1);have am:LR F [] w cap lc:=LR.data hd ax;obtain⟨a0,af,M,ak,a6⟩:=QcM hs;have B:∀(ad:Option Addr) (c:Nat),vs=.slice ad 0 c->l=[]->
   Calls P (ρ.f 6) [vs,.func (.func g) #[] lc.toArray].toArray w λe w'=>∃v r H' ac τ,e=.returned v/\(r=.tup []/\H'=[.row t 1 (l'.map λx=>[ea x])])/\Sim fr ac (σ++τ) H' w'/\VR ac (σ++τ) w' r v/\Qh fr F w ac w':=by
  rintro ad c rfl rfl;have ab:l'=[]:=by rw[<- a6];rfl
  subst ab;refine(AnyF.slices_SortFunc_none L0 ad c (.func (.func g) #[] lc.toArray) w).mono ?_;rintro e w' ⟨rfl,rfl⟩;exact⟨_,_,_,F,[],rfl,⟨rfl,rfl⟩,by simpa using s,⟨[],rfl,rfl⟩,Qh.refl _ _ _⟩
 rcases bi with⟨h0,rfl⟩|⟨b,p,cp,t',m,q1,rfl,q2,q3,q4,q5⟩
 .exact B none 0 rfl (VL.1 h0)
 .by_cases ab:l=[]
  .subst ab;exact B _ cp rfl rfl
  .have bd:0<l.length:=List.length_pos_iff.2 ab;obtain rfl:=q2 (Vh bd q3);obtain⟨lv,e1,e2⟩:=s.blk 0 _ _ q1 rfl;obtain⟨hb,ah,a5⟩:=s.own 0 b _ q1 rfl rfl;obtain⟨R,G,a4,rfl,be⟩:=RL.parts e2
   let α:=Elt1 F w ea l
   have av:∀p∈R,p.1∈l:=λp hp=>by rw[<- a4];exact VI hp
   have a1:∀p∈R,∃v,p.2=[v]/\VR F [] w (ea p.1) v/\Qq v:=by
    intro p hp;obtain⟨g1,g2,g3⟩:=be p hp;obtain⟨v,e⟩:=Qmw g1;rw[e]at g2 g3;obtain⟨v',l',e',g4,g5⟩:=g2;cases e';exact⟨v,e,g4,g3 v (by simp)⟩
   let val:List Value->Value:=λl=>l.headD .nilFunc
   have aa:∀p∈R,p.2=[val p.2]/\VR F [] w (ea p.1) (val p.2)/\Qq (val p.2):=by
    intro p hp;obtain⟨v,e,g⟩:=a1 p hp;rw[e];exact⟨rfl,g⟩
   let ds:List α:=R.attach.map λp=>⟨p.1.1,val p.1.2,av _ p.2,(aa _ p.2).2.1,(aa _ p.2).2.2⟩
   have a9:∀{γ:Type} (f:T×List Value->γ),R.attach.map (λp=>f p.1)=R.map f:=λf=>by simp
   have J:ds.map (·.x)=l:=by
    show(R.attach.map _).map _=_;rw[List.map_map];exact(a9 (·.1)).trans a4
   have ba:ds.map (·.v)=R.map λp=>val p.2:=by
    show(R.attach.map _).map _=_;rw[List.map_map];exact a9 λp=>val p.2
   have ar:ds.length=l.length:=by rw[<- J];simp
   have aw:ds≠[]:=by intro q;rw[q]at ar;simp at ar;omega
   let inh:Inhabited α:=⟨ds.head aw⟩
   let enc':α->Value:=λa=>a.v
   let cf':α->α->Int:=λx y=>(cf x.x y.x).getD 0
   have ae:∀x y:α,ltOf cf' x y=ltO cf x.x y.x:=by
    intro x y;obtain⟨c,u⟩:=af x.x x.mem y.x y.mem;simp only[ltOf,ltO,cf',u,Option.getD_some]
   have hO:SWO (ltOf cf'):=⟨λx=>by rw[ae];exact M.irrefl _ x.mem,λx y z a b=>by rw[ae]at*;exact M.trans _ x.mem _ y.mem _ z.mem a b,
    λx y z a b=>by rw[ae]at*;exact M.ntrans _ x.mem _ y.mem _ z.mem a b⟩
   have bo:(R.map (·.2)).flatten=ds.map enc':=by
    have e3:R.map (·.2)=(R.map λp=>val p.2).map λv=>[v]:=by
     rw[List.map_map];exact List.map_congr_left λp hp=>(aa p hp).1
    rw[e3, <- ba];have:=Qfb (λv:Value=>v) (ds.map (·.v));rw[this];simp[enc']
   rw[bo]at e1;have hH:Holds enc' w b 0 ds.toArray:=by
    intro j hj;simp only[List.size_toArray]at hj;constructor
    .unfold World.cell?;simp only[e1,Option.isSome_none,Xi,if_false,Xx];rw[Qac,XP (by simpa using hj),Xp,Qe7 _ _ hj];rfl
    .unfold World.frozen?;simp only[e1];simp
   have ao:∀(d:Array α),d.size=ds.toArray.size->(putRow enc' w b 0 d).heap=w.heap.setIfInBounds b (.cells ((d.toList.map enc'++G)).toArray t (0,0)):=by
    intro d k;have al:(d.toList.map enc').length=(ds.map enc').length:=by simp at k⊢;rw[k]
    unfold putRow mapBlock;show w.heap.modify b _=_;rw[Qbe e1];simp only[onCells];congr 2;unfold putCells;apply Array.ext_getElem?;intro i;simp only[Array.getElem?_mapIdx,Qac,XX,true_and,Xx,Xw];by_cases hi:i<d.size
    .have V:i<(d.toList.map enc').length:=by simpa using hi
     rw[XP V,XP (by rw[<- al];exact V),XN (by rw[<- al];exact V),XN V];simp only[Xj,Vv hi];congr 1;rw[getElem!_pos d i hi];simp
    .have V:¬i<(d.toList.map enc').length:=by simpa using hi
     rw[XQ (by omega),XQ (by omega),al];cases(G[i-(ds.map enc').length]?)with
     |none=>rfl
     |some v=>exact congrArg some (Vu hi)
   have O:∀(m:Nat) (os:Array Obj) (d:Array α),d.size=ds.toArray.size->
     (∀c,c<w.heap.size->c≠b->(sortWorld enc' w b 0 m d os).heap[c]?=w.heap[c]?)/\(sortWorld enc' w b 0 m d os).heap[b]?=some (.cells ((d.toList.map enc'++G)).toArray t (0,0))/\
     w.heap.size<=(sortWorld enc' w b 0 m d os).heap.size:=by
    intro m os d k;have e:(sortWorld enc' w b 0 m d os).heap=w.heap.setIfInBounds b (.cells ((d.toList.map enc'++G)).toArray t (0,0))++os:=by
     rw[<- ao d k];rfl
    rw[e];refine⟨λc u bk=>?_,?_,by simp⟩
    .rw[Array.getElem?_append_left (by simpa using u),Vg,Vu (λq=>bk q.symm)]
    .rw[Array.getElem?_append_left (by simpa using hb),Vg,Vv rfl,Vv hb]
   have N:∀(m:Nat) (os:Array Obj) (d:Array α),d.size=ds.toArray.size->∀c y,w.shape? c=some y->(sortWorld enc' w b 0 m d os).shape? c=some y:=by
    intro m os d k c y hy;obtain⟨g1,g2,g3⟩:=O m os d k;by_cases u:c=b
    .subst u;unfold World.shape? at hy⊢;rw[e1]at hy;rw[g2];simp only[Option.some.injEq]at hy⊢;rw[<- hy];congr 1;simp only[List.size_toArray,X5,X4];simp at k⊢;rw[k]
    .unfold World.shape? at hy⊢;rw[g1 c (QbL hy) u];exact hy
   have ai:∀(m:Nat) (os:Array Obj) (d:Array α),d.size=ds.toArray.size->∀τ,Ext F τ w F τ (sortWorld enc' w b 0 m d os):=by
    intro m os d k τ;obtain⟨g1,g2,g3⟩:=O m os d k;exact⟨λ_ q=>q,λc u=>g1 c (s.roLt c u) (λq=>ah (q▸u)),N m os d k,λ_ _ q=>q⟩
   have bf:CmpLays1 P g lc.toArray enc' cf' b 0 ds.toArray.size w:=by
    intro m os dk a8 x y;obtain⟨c,u⟩:=af x.x x.mem y.x y.mem;have E:=ai m os dk a8 [];have bh:=a2 _ _ _ u;generalize hW:sortWorld enc' w b 0 m dk os=W at*;have bm:w.heap.size<=W.heap.size:=by rw[<- hW];exact(O m os dk a8).2.2
    have sW:Sim (λc=>c<W.heap.size/\ ¬F c) F [] [] W:=
     ⟨rfl,s.roOk.to (λ_ q=>q) E.keep (λc u=>Vh (s.roLt c u) bm),λc u=>u.1,λc u hf=>hf.2 u,λi b x h=>by simp at h,λi j b x y h=>by simp at h,λi y x h=>by simp at h,λi b x c h=>by simp at h⟩
    have au:LR F [] W ([ea x.x,ea y.x]++cap) ([x.v,y.v]++lc):=
     LR.append (show LR F [] W [ea x.x,ea y.x] [x.v,y.v]from⟨_,_,rfl,x.rel.mono E,_,_,rfl,y.rel.mono E,rfl⟩) (am.mono E)
    have Q:=bh _ F [] _ W sW au;have bg:(([x.v,y.v]++lc).toArray:Array Value)= #[enc' x,enc' y]++lc.toArray:=by simp[enc']
    rw[bg]at Q;refine Q.mono ?_;rintro e w' ⟨v,r,H',ac,τ,rfl,⟨rfl,rfl⟩,s',bp,ev⟩;refine⟨?_,?_⟩
    .rw[show v=.int .i64 c from bp];simp only[cf',u,Option.getD_some]
    .refine Qko (λc u=>?_) ev.size ev.os ev.tape ev.output ev.drawn;by_cases az:F c
     .exact ev.keepRo c az
     .exact ev.keepFr c ⟨u,az⟩
   have Y:ds.toArray.size=l.length:=by simpa using ar
   have bq:b+0=b:=rfl;have ag:=Any.slices_SortFunc L enc' (λx=>Qf9 x.plain) cf' hO g lc.toArray b 0 cp ds.toArray w eg bf hH hb (by rw[Y];unfold Qy at a0;omega);rw[Y]at ag;rw[Nat.zero_mul];refine ag.mono ?_;rintro e w' ⟨rfl,d,n,os,X,aj,rfl⟩;have k:d.size=ds.toArray.size:=X.1;obtain⟨g1,g2,g3⟩:=O n os d k;have an:d.toList.Perm ds:=by
    have h:=X.2.2;have x1:d.extract 0 l.length=d:=by rw[<- Y, <- k];exact Array.extract_size
    have x2:ds.toArray.extract 0 l.length=ds.toArray:=by rw[<- Y];exact Array.extract_size
    rw[x1,x2]at h;simpa using h
   have ay:d.toList.map (·.x)=l':=by
    rw[<- a6];refine Jk (lt:=ltO cf) ?_ ?_ ?_ (QR M)
    .exact((an.map (·.x)).trans (by rw[J])).trans (Qn _ _).symm
    .intro x hx y hy;have bc:x∈l:=by rw[<- J];exact(an.map (·.x)).mem_iff.1 hx
     have bj:y∈l:=by rw[<- J];exact(an.map (·.x)).mem_iff.1 hy
     exact ak x bc y bj
    .rw[VG];intro i j hi hj bb;simp only[X4]at hi hj;simp only[List.getElem_map];rw[<- ae];have:=aj i j (XX _) bb (by rw[<- Y, <- k];simpa using hj);rw[getElem!_pos d j (by simpa using hj),getElem!_pos d i (by simpa using hi)]at this;simpa using this
   have bl:RL F [] (sortWorld enc' w b 0 n d os) 1 (l'.map λx=>[ea x]) (d.toList.map enc'++G):=by
    have e3:d.toList.map enc'=((d.toList.map λa=>(a.x,[a.v])).map (·.2)).flatten:=by
     rw[List.map_map];exact(Qfb (λa:α=>a.v) d.toList).symm
    have e4:l'=(d.toList.map λa=>(a.x,[a.v])).map (·.1):=by rw[<- ay];simp
    rw[e3,e4];refine Qb1 (enc:=λx=>[ea x]) (λ_=>rfl) ?_;intro p hp;obtain⟨a,_,rfl⟩:=Xe.1 hp;exact⟨⟨_,_,rfl,a.rel.mono (ai n os d k []),rfl⟩,λv hv=>by rw[VD.1 hv];exact a.plain⟩
   have a3:Qh fr F w F (sortWorld enc' w b 0 n d os):=
    ⟨λ_ q=>q,λc u=>g1 c (s.roLt c u) (λq=>ah (q▸u)),λc u=>g1 c (s.frLt c u) (λq=>a5 (q▸u)),g3,N n os d k,rfl,rfl,rfl,Nat.le_add_right _ _⟩
   have aq:σ.length=1:=s.len;have a7:Sim fr F σ [.row t 1 (l'.map λx=>[ea x])] (sortWorld enc' w b 0 n d os):=by
    have i0:∀{i:Nat} {x:Blk},([.row t 1 (l'.map λx=>[ea x])]:Qd)[i]?=some x->i=0/\x=.row t 1 (l'.map λx=>[ea x]):=by
     intro i x h;cases i with
     |zero=>simp at h;exact⟨rfl,h.symm⟩
     |succ i=>simp at h
    refine⟨aq,s.roOk.to (λ_ q=>q) a3.keepRo (λc u=>Vh (s.roLt c u) g3),λc u=>Vh (s.frLt c u) g3,s.roFr,λi c x h1 h2 h3=>?_,λi j c x y h1 h2 h3 h4 _ _=>?_,λi y x h1 h2=>?_,λi b x c h1 h2 h3=>by obtain⟨rfl,rfl⟩:=i0 h2;exact h3.elim⟩
    .obtain⟨rfl,rfl⟩:=i0 h2;obtain⟨p1,p2⟩:=s.own 0 c _ h1 rfl rfl;exact⟨Vh p1 g3,p2⟩
    .rw[(i0 h3).1,(i0 h4).1]
    .obtain⟨rfl,rfl⟩:=i0 h2;rw[q1]at h1;cases h1;exact⟨_,g2,bl⟩
   exact⟨_,_,_,F,[],rfl,⟨rfl,rfl⟩,by simpa using a7,⟨[],rfl,rfl⟩,a3⟩
end Go.Sw
namespace Go.Sw
structure Pl where
 b:Nat
 i0:Nat
 i1:Nat
 i2:Nat
 i3:Nat
def Pl.ix(p:Pl):List Nat:=[p.b,p.i0,p.i1,p.i2,p.i3]
section
variable {α β:Type} (K:FK α β)
def Q0(p:Pl)(x:Fil α β):List A:=[.int .i64 x.number,.osl p.i0 0 x.r0.length K.kF,.osl p.i1 0 x.r1.length K.kF,.osl p.i2 0 x.r2.length K.kF,.osl p.i3 0 x.reports.length K.kR,.bool x.appeal]
structure QbB (H:Qd) (x:Fil α β) (p:Pl):Prop where
 c:H[p.b]?=some (.cells K.T (Q0 K p x))
 r0:H[p.i0]?=some (.row K.tF K.kF (x.r0.map K.eF))
 r1:H[p.i1]?=some (.row K.tF K.kF (x.r1.map K.eF))
 r2:H[p.i2]?=some (.row K.tF K.kF (x.r2.map K.eF))
 r3:H[p.i3]?=some (.row K.tR K.kR (x.reports.map K.eR))
abbrev QaY(α β:Type):=List (Fil α β×Pl)
def YP(bk:QaY α β):List (Int×Nat):=bk.map λe=>(e.1.number,e.2.b)
structure Ys (lo:Nat) (H:Qd) (bk:QaY α β):Prop where
 laid:∀e∈bk,QbB K H e.1 e.2
 own:∀e∈bk,e.2.ix.Nodup
 ne:bk.Pairwise λe f=>∀i∈e.2.ix,i∉f.2.ix
 lo:∀e∈bk,∀i∈e.2.ix,lo<=i
 num:(bk.map (·.1.number)).Nodup
variable {K} {lo:Nat} {H H':Qd} {bk l r:QaY α β} {e:Fil α β×Pl} {x':Fil α β} {p':Pl}
theorem Ys.nil:Ys K lo H ([]:QaY α β):=⟨(λ_ h=>by cases h),(λ_ h=>by cases h),List.Pairwise.nil,(λ_ h=>by cases h),List.nodup_nil⟩
theorem QbB.lt(h:QbB K H e.1 e.2):∀i∈e.2.ix,i<H.length:=by
 intro i a;have g:∀{j:Nat} {y:Blk},H[j]?=some y->j<H.length:=λq=>(XO.1 q).1;simp only[Pl.ix,X8,List.not_mem_nil,or_false]at a;rcases a with rfl|rfl|rfl|rfl|rfl
 .exact g h.c
 .exact g h.r0
 .exact g h.r1
 .exact g h.r2
 .exact g h.r3
theorem QbB.keep(h:QbB K H e.1 e.2)(k:∀i∈e.2.ix,H'[i]?=H[i]?):QbB K H' e.1 e.2:=by
 refine⟨?_,?_,?_,?_,?_⟩
 .rw[k _ (by simp[Pl.ix])];exact h.c
 .rw[k _ (by simp[Pl.ix])];exact h.r0
 .rw[k _ (by simp[Pl.ix])];exact h.r1
 .rw[k _ (by simp[Pl.ix])];exact h.r2
 .rw[k _ (by simp[Pl.ix])];exact h.r3
theorem Ys.keep(h:Ys K lo H bk)(k:∀j,lo<=j->j<H.length->H'[j]?=H[j]?):Ys K lo H' bk:=
 ⟨λe he=>(h.laid e he).keep λi hi=>k i (h.lo e he i hi) ((h.laid e he).lt i hi),h.own,h.ne,h.lo,h.num⟩
theorem Ys.upd(h:Ys K lo H (l++e::r))(y:QbB K H' x' p')(z:x'.number=e.1.number)(B:∀j,lo<=j->j<H.length->j∉e.2.ix->H'[j]?=H[j]?)
  (hi:∀i∈p'.ix,i∈e.2.ix\/H.length<=i)(E:p'.ix.Nodup)(hl:lo<=H.length):Ys K lo H' (l++(x',p')::r):=by
 obtain⟨w,x,n⟩:=List.pairwise_append.1 h.ne;obtain⟨t,u⟩:=Xc.1 x;have mem:∀f∈l++(x',p')::r,f=(x',p')\/(f∈l++e::r/\ ∀i∈f.2.ix,i∉e.2.ix):=by
  intro f b;rcases VF.1 b with q|q
  .exact .inr ⟨List.mem_append_left _ q,λi hi a=>n f q e (by simp) i hi a⟩
  .rcases X8.1 q with q|q
   .exact .inl q
   .exact .inr ⟨by simp[q],λi hi a=>t f q i a hi⟩
 refine⟨?_,?_,?_,?_,?_⟩
 .intro f b;rcases mem f b with rfl|⟨k,p⟩
  .exact y
  .exact(h.laid f k).keep λi hi=>B i (h.lo f k i hi) ((h.laid f k).lt i hi) (p i hi)
 .intro f b;rcases mem f b with rfl|⟨k,p⟩
  .exact E
  .exact h.own f k
 .refine List.pairwise_append.2 ⟨w,Xc.2 ⟨?_,u⟩,?_⟩
  .intro f b i a d;rcases hi i a with q|q
   .exact t f b i q d
   .have:=(h.laid f (by simp[b])).lt i d;omega
  .intro f b g s i d m;rcases X8.1 s with rfl|s
   .rcases hi i m with q|q
    .exact n f b e (by simp) i d q
    .have:=(h.laid f (by simp[b])).lt i d;omega
   .exact n f b g (by simp[s]) i d m
 .intro f b;rcases mem f b with rfl|⟨k,p⟩
  .intro i a;rcases hi i a with q|q
   .exact h.lo e (by simp) i q
   .omega
  .exact h.lo f k
 .have:=h.num;rw[Xf,Vl]at this⊢;show(_++x'.number::_).Nodup;rw[z];exact this
theorem Ys.add(h:Ys K lo H bk)(r:QbB K H' x' p')(p:∀e∈bk,e.1.number≠x'.number)(t:∀j,lo<=j->j<H.length->H'[j]?=H[j]?)
  (hi:∀i∈p'.ix,H.length<=i)(u:p'.ix.Nodup)(hl:lo<=H.length):Ys K lo H' (bk++[(x',p')]):=by
 have n:=h.keep t;have mem:∀f∈bk++[(x',p')],f∈bk\/f=(x',p'):=by
  intro f d;rcases VF.1 d with q|q
  .exact .inl q
  .exact .inr (VD.1 q)
 refine⟨?_,?_,?_,?_,?_⟩
 .intro f d;rcases mem f d with q|rfl
  .exact n.laid f q
  .exact r
 .intro f d;rcases mem f d with q|rfl
  .exact h.own f q
  .exact u
 .refine List.pairwise_append.2 ⟨h.ne,by simp,λf d g w i k l=>?_⟩;obtain rfl:=VD.1 w;have:=(h.laid f d).lt i k;have:=hi i l;omega
 .intro f d i k;rcases mem f d with q|rfl
  .exact h.lo f q i k
  .have:=hi i k;omega
 .rw[Xf];refine List.nodup_append.2 ⟨h.num,by simp,?_⟩;intro a s b m;simp at m;subst m;obtain⟨f,d,rfl⟩:=Xe.1 s;exact p f d
theorem QdE:∀(d:QaY α β) (k:Int),(YC (YP d) k=none/\ ∀e∈d,e.1.number≠k)\/ ∃l e r,d=l++e::r/\e.1.number=k/\(∀y∈l,y.1.number≠k)/\YC (YP d) k=some e.2.b
 |[],k=>.inl ⟨rfl,λ_ h=>by cases h⟩
 |e::l,k=>by
  have e0:YC (YP (e::l)) k=if e.1.number=k then some e.2.b else YC (YP l) k:=by
   show YC ((e.1.number,e.2.b)::YP l) k=_;simp[YC];by_cases q:e.1.number=k<;>simp[q]
  by_cases q:e.1.number=k
  .exact .inr ⟨[],e,l,rfl,q,(λ_ h=>by cases h),by rw[e0,Vv q]⟩
  .rcases QdE l k with⟨g,f⟩|⟨p,y,r,g,f,i,j⟩
   .refine .inl ⟨by rw[e0,Vu q];exact g,λz a=>?_⟩;rcases X8.1 a with rfl|a
    .exact q
    .exact f z a
   .refine .inr ⟨e::p,y,r,by rw[g];rfl,f,λz a=>?_,by rw[e0,Vu q,j]⟩;rcases X8.1 a with rfl|a
    .exact q
    .exact i z a
theorem Qlq(p q:QaY α β):YP (p++q)=YP p++YP q:=by simp[YP]
theorem Qlp(d:x'.number=e.1.number)(a:p'.b=e.2.b):YP (l++(x',p')::r)=YP (l++e::r):=by simp[YP,d,a]
end
section
variable {fr ro ro':Nat->Prop} {σ:Sig} {w:World} {α β:Type} (K:FK α β)
theorem Qnx(sub:∀c,ro c->ro' c){p:Pl}{x:Fil α β}{v:Value}{H:Qd}(hl:QbB K H x p)(e:∀i∈p.ix,∀(c:Nat) (y:Blk),H[i]?=some y->σ[i]?=some (some c)->BR ro σ w y (some c)/\ro' c)(h:VR ro σ w (.ptr p.b 0) v):VR ro' [] w (.rp (frp K x)) v:=by
 obtain⟨c,E,s⟩:=h;obtain⟨⟨l,F,a,f⟩,z⟩:=e p.b (by simp[Pl.ix]) c _ hl.c E;refine⟨c,0,s,z,?_⟩;refine QhD (pre:=[]) (by simpa using F) ?_ f;unfold Q0 at a;obtain⟨v0,O,rfl,k,a⟩:=a;obtain⟨G,L,rfl,r,a⟩:=a;obtain⟨q,Q,rfl,j,a⟩:=a;obtain⟨J,M,rfl,n,a⟩:=a;obtain⟨B,N,rfl,u,a⟩:=a;obtain⟨g,P,rfl,m,a⟩:=a;refine⟨v0,_,rfl,k,G,_,rfl,Qa2 sub (t:=K.tF) (λc d=>e p.i0 (by simp[Pl.ix]) c _ hl.r0 d) (by simpa using r),q,_,rfl,Qa2 sub (t:=K.tF) (λc d=>e p.i1 (by simp[Pl.ix]) c _ hl.r1 d) (by simpa using j),J,_,rfl,Qa2 sub (t:=K.tF) (λc d=>e p.i2 (by simp[Pl.ix]) c _ hl.r2 d) (by simpa using n),
  B,_,rfl,Qa2 sub (t:=K.tR) (λc d=>e p.i3 (by simp[Pl.ix]) c _ hl.r3 d) (by simpa using u),g,_,rfl,m,a⟩
theorem QgK(sub:∀c,ro c->ro' c){H:Qd}{ek:Int->A}(hek:∀(k:Int) (v:Value),VR ro σ w (ek k) v->VR ro' [] w (ek k) v):∀{bk:QaY α β} {es:List MapEntry},(∀e∈bk,QbB K H e.1 e.2)->(∀e∈bk,∀i∈e.2.ix,∀(c:Nat) (y:Blk),H[i]?=some y->σ[i]?=some (some c)->BR ro σ w y (some c)/\ro' c)->
  ER ro σ w (Qi ek Qeb (YP bk)) es->ER ro' [] w (Qi ek (rpE K) (Qef (bk.map (·.1)))) es
 |[],es,_,_,h=>h
 |x::l,es,hl,hb,h=>by
  obtain⟨e,l',rfl,h1,h2,h3⟩:=h;exact⟨e,l',rfl,hek _ _ h1,Qnx K sub (hl x (by simp)) (hb x (by simp)) h2,QgK sub hek (λe he=>hl e (by simp[he])) (λe he=>hb e (by simp[he])) h3⟩
def Qcq(bk:QaY α β):List Nat:=bk.flatMap λe=>e.2.ix
theorem Ys.all{lo:Nat}{H:Qd}:∀{j:QaY α β},Ys K lo H j->(Qcq j).Nodup/\ ∀i∈Qcq j,lo<=i/\ ∃y,H[i]?=some y/\y.live=true:=by
 intro j h;refine⟨?_,?_⟩
 .have q:=h.own;have t:=h.ne;clear h
  induction j with
  |nil=>exact List.nodup_nil
  |cons e l x=>
   obtain⟨r,s⟩:=Xc.1 t;show(e.2.ix++Qcq l).Nodup;refine List.nodup_append.2 ⟨q e (by simp),x (λf k=>q f (by simp[k])) s,?_⟩;intro a w b u m;obtain⟨f,k,n⟩:=List.mem_flatMap.1 u;exact r f k a w (m▸n)
 .intro i d;obtain⟨e,p,d⟩:=List.mem_flatMap.1 d;refine⟨h.lo e p i d,?_⟩;have g:=h.laid e p;simp only[Pl.ix,X8,List.not_mem_nil,or_false]at d;rcases d with rfl|rfl|rfl|rfl|rfl
  .exact⟨_,g.c,rfl⟩
  .exact⟨_,g.r0,rfl⟩
  .exact⟨_,g.r1,rfl⟩
  .exact⟨_,g.r2,rfl⟩
  .exact⟨_,g.r3,rfl⟩
end
section
variable {α β:Type} (K:FK α β) {env:Env} {H:Qd}
theorem QnL{h0 lo m:Nat}{g:QaY α β}(F:Ys K lo H g)(x:Nat.blt m lo=true)(z:H[m]?=some (.mapP (Qi (λn=>.int .i64 n) Qeb (YP g)))):
  Le h0 env H env ((QbR H (Qcq g)).set m (.fmap (Qi (λn=>.int .i64 n) (rpE K) (Qef (g.map (·.1)))))):=by
 intro R ro σ N a w r;have s:=r.sim;obtain⟨nd,d⟩:=F.all;have P:m<lo:=by simpa[Nat.blt_eq]using x
 have J:∃q,σ[m]?=some q:=by
  have:m<σ.length:=by rw[s.len];exact(XO.1 z).1
  exact⟨_,XN this⟩
 obtain⟨q,E⟩:=J;cases q with
 |none=>exact(s.blk m _ _ E z).elim
 |some u=>
 obtain⟨b,L,f,p⟩:=QdG s (l:=Qcq g) nd (λi t=>(d i t).2);have B:(QbR H (Qcq g))[m]?=some (.mapP (Qi (λn=>.int .i64 n) Qeb (YP g))):=by
  rw[Qge (λq=>by have:=(d m q).1;omega)];exact z
 have G:=L.shutMapP (es':=Qi (λn=>.int .i64 n) (rpE K) (Qef (g.map (·.1)))) E B (λl O=>?_)
 .have sub:∀c,ro c->b c\/c=u:=λc j=>.inl (f c j);have ext:Ext ro σ w (λc=>b c\/c=u) σ w:=⟨sub,λ_ _=>rfl,λ_ _ q=>q,λ_ _ q=>q⟩;exact⟨_,σ,⟨G,λq=>(r.env q).mono ext,r.size,r.defers⟩,sub,rfl⟩
 .have ext:Ext ro σ w b σ w:=⟨f,λ_ _=>rfl,λ_ _ q=>q,λ_ _ q=>q⟩;refine QgK K (ek:=λn=>.int .i64 n) (ro:=b) (ro':=λc=>b c\/c=u) (H:=H) (λc j=>.inl j) (λk v h=>h) F.laid (λe M i t c y Q j=>?_) O;exact⟨(s.blk _ _ _ j Q).keep ext (λ_ _ _=>rfl) (λ_ _ _ _=>rfl),.inl (p _ (List.mem_flatMap.2 ⟨e,M,t⟩) c j)⟩
end
end Go.Sw
namespace Go.Sw
section
variable {P:Program} {h0 N:Nat} {all:Array Oper} {o:Oper} {l:List Oper} {env:Env} {H:Qd} {Q:QB}
theorem QcH{d:Nat}{f:FuncId}{args:List A}{Qr:A->Qd->Prop}(h:OpC P o env H f args)(B:C P f args H Qr)
  (k:∀r H1,Qr r H1->WO P h0 N all l (up env d r) H1 Q)(G:h0<=H.length)(hg:Qp all o env true:=by exact rfl)(hd:o.dst=some d:=by exact rfl)(hN:Nat.blt d N=true:=by exact rfl):
  WO P h0 N all (o::l) env H Q:=by
 intro E fr n σ a w r hrd;obtain⟨b,F,z⟩:=h fr n σ N a w r;refine Qdl (YE hg r) F ?_;have hσl:=r.sim.len;refine Calls.mono (B fr n σ b w r.sim z) ?_;rintro e m ⟨v,j,H1,g,τ,rfl,y,x,t,ev⟩;have p:=k j H1 y;simp only[hd,Act.put];have i:d<N:=by simpa[Nat.blt_eq]using hN
 have u:Rel fr g (σ++τ) H1 (up env d j) N {a with tmps:=a.tmps.setIfInBounds d v} m:=
  ⟨x,VR.up (fr:=fr) (λs=>(r.env s).mono (ev.ext σ τ)) (by rw[r.size];exact i) t,by simpa using r.size,r.defers.keep ev⟩
 exact⟨_,rfl,Ye (λe a w q=>q.step ev (Qu (by omega))) _ _ _ (p E fr g (σ++τ) _ m u (hrd.to ev λ_ q=>q))⟩
end
section
variable {h0 n:Nat} {env env':Env} {H H':Qd}
theorem QnN(n:Nat)(hn:h0<=n)(hl:n<=H.length)(hH:(H'.map (QV (rho (List.range n) H.length))).map some=(List.range n).map (λp=>H[p]?))(hE:Qd9 (rho (List.range n) H.length) env env'):Le h0 env H env' H':=
 QnM (List.range n) (by rw[List.take_range,XD hn]) hH.symm List.nodup_range hE
end
section
variable {P:Program} {o:Oper} {env:Env} {H:Qd} {α:Type}
end
end Go.Sw
namespace Go.Sw
section
variable {α β:Type}
def Qat(k:Int):Fil α β:=⟨k,[],[],[],[],false⟩
def Qaj(fs:List (Fil α β))(k:Int):List (Fil α β):=bif fs.any (λx=>decide (x.number=k))then fs else fs++[Qat k]
def Qbm(fs:List (Fil α β))(k:Int)(g:Fil α β->Fil α β):List (Fil α β):=fs.map λx=>bif decide (x.number=k)then g x else x
def QdR(fs:List (Fil α β)):Bool:=fs.all λx=>Nat.ble (x.r0.length+1) Qy&&Nat.ble (x.r1.length+1) Qy&&Nat.ble (x.r2.length+1) Qy&&Nat.ble (x.reports.length+1) Qy
variable (K:FK α β) {lo:Nat} {H H':Qd} {bk:QaY α β}
theorem QcZ{fs:List (Fil α β)}{k:Int}(h:∃x∈fs,x.number=k):Qaj fs k=fs:=by
 unfold Qaj;have:fs.any (λx=>decide (x.number=k))=true:=by
  obtain⟨x,a,e⟩:=h;exact Xu.2 ⟨x,a,by simp[e]⟩
 rw[this];rfl
theorem QbU{fs:List (Fil α β)}{k:Int}(h:∀x∈fs,x.number≠k):Qaj fs k=fs++[Qat k]:=by
 unfold Qaj;have:fs.any (λx=>decide (x.number=k))=false:=by
  rw[List.any_eq_false];intro x a;simp[h x a]
 rw[this];rfl
theorem Qn4{l r:List (Fil α β)}{x:Fil α β}{k:Int}{g:Fil α β->Fil α β}(f:((l++x::r).map (·.number)).Nodup)(b:x.number=k):Qbm (l++x::r) k g=l++g x::r:=by
 rw[Xf,Vl,List.nodup_append]at f;obtain⟨p,h,j⟩:=f;rw[List.nodup_cons]at h;have e:∀m:List (Fil α β),(∀y∈m,y.number≠k)->Qbm m k g=m:=by
  intro m n;unfold Qbm
  conv=>rhs;rw[<- List.map_id m]
  exact List.map_congr_left λy a=>by simp[n y a]
 have i:=e l (λy a q=>j y.number (VI a) x.number (by simp) (by rw[q,b]));have d:=e r (λy a q=>h.1 (by rw[b, <- q];exact VI a));unfold Qbm at i d⊢;rw[Xf,Vl,i,d];simp[b]
theorem QhR{l r:List (Fil α β)}{x:Fil α β}(h:QdR (l++x::r)=true):x.r0.length+1<=Qy/\x.r1.length+1<=Qy/\x.r2.length+1<=Qy/\x.reports.length+1<=Qy:=by
 unfold QdR at h;have:=Xt.1 h x (by simp);simp only[XZ]at this;obtain⟨⟨⟨b,a⟩,e⟩,d⟩:=this;exact⟨XU b,XU a,XU e,XU d⟩
def QaZ(n:Nat):Pl:=⟨n,n+1,n+2,n+3,n+4⟩
def Qb8(n:Nat)(k:Int):Qd:=[.cells K.T (Q0 K (QaZ n) (Qat k)),.row K.tF K.kF [],.row K.tF K.kF [],.row K.tF K.kF [],.row K.tR K.kR []]
theorem QjX{h0:Nat}{env:Env}{k:Int}(d:h0<=H.length):
  Le h0 env (H++[.cells K.T [.int .i64 k,.nils,.nils,.nils,.nils,.bool false]]) env (H++Qb8 K H.length k):=by
 have a:∀(n:Nat) (G:Qd) (cs cs':List A) (t k':Nat) (m:Nat),n=H.length+1+G.length->cs[m]?=some .nils->cs'=cs.set m (.osl n 0 0 k')->
   Le h0 env (H++.cells K.T cs::G) env (H++.cells K.T cs'::(G++[.row t k' []])):=by
  intro n G cs cs' t k' m hn hm hc;have:=YR (h0:=h0) (env:=env) (H:=H++.cells K.T cs::G) (i:=H.length) (m:=m) (t:=t) (k:=k') (T:=K.T) (cs:=cs)
   (by simp;omega) (by simp) hm
  have e:(H++.cells K.T cs::G).length=n:=by simp;omega
  rw[e]at this;have b:(H++.cells K.T cs::G).set H.length (.cells K.T (cs.set m (.osl n 0 0 k')))=H++.cells K.T cs'::G:=by
   rw[List.set_append_right _ _ (XW _),Nat.sub_self,hc];rfl
  rw[b,Vk]at this;exact this
 refine Le.trans (a (H.length+1) [] _ _ K.tF K.kF 1 (by simp) rfl rfl) ?_;refine Le.trans (a (H.length+2) [.row K.tF K.kF []] _ _ K.tF K.kF 2 (by simp) rfl rfl) ?_;refine Le.trans (a (H.length+3) [.row K.tF K.kF [],.row K.tF K.kF []] _ _ K.tF K.kF 3 (by simp) rfl rfl) ?_;exact a (H.length+4) [.row K.tF K.kF [],.row K.tF K.kF [],.row K.tF K.kF []] _ _ K.tR K.kR 4 (by simp) rfl rfl
theorem QbB.new{k:Int}:QbB K (H++Qb8 K H.length k) (Qat k) (QaZ H.length):=by
 have g:∀(j:Nat) (y:Blk),(Qb8 K H.length k)[j]?=some y->(H++Qb8 K H.length k)[H.length+j]?=some y:=by
  intro j y h;rw[XQ (by omega),Nat.add_sub_cancel_left];exact h
 exact⟨g 0 _ rfl,g 1 _ rfl,g 2 _ rfl,g 3 _ rfl,g 4 _ rfl⟩
theorem Qke(n:Nat):(∀i∈(QaZ n).ix,n<=i)/\(QaZ n).ix.Nodup:=by
 refine⟨?_,?_⟩
 .intro i a;simp only[Pl.ix,QaZ,X8,List.not_mem_nil,or_false]at a;omega
 .simp[Pl.ix,QaZ]
variable {K}
theorem Ys.new{k:Int}(h:Ys K lo H bk)(b:∀e∈bk,e.1.number≠k)(hl:lo<=H.length):Ys K lo (H++Qb8 K H.length k) (bk++[(Qat k,QaZ H.length)]):=by
 refine h.add (QbB.new K) b (λj d a=>by rw[XP a]) (Qke _).1 (Qke _).2 hl
theorem Ys.row{l r:QaY α β}{e:Fil α β×Pl}{x':Fil α β}{p':Pl}{i:Nat}{y:Blk}(h:Ys K lo H (l++e::r))(hl:lo<=H.length)(z:x'.number=e.1.number)(hi:i∈e.2.ix)(B:i≠e.2.b)(g:p'.b=e.2.b)
  (hH:H'=(H.set i .dead++[y]).set e.2.b (.cells K.T (Q0 K p' x')))
  (s:p'.ix=e.2.ix.map λj=>bif Nat.beq j i then H.length else j)
  (h0:H'[p'.i0]?=some (.row K.tF K.kF (x'.r0.map K.eF)))(u:H'[p'.i1]?=some (.row K.tF K.kF (x'.r1.map K.eF)))(E:H'[p'.i2]?=some (.row K.tF K.kF (x'.r2.map K.eF)))(J:H'[p'.i3]?=some (.row K.tR K.kR (x'.reports.map K.eR))):
  Ys K lo H' (l++(x',p')::r):=by
 have x:=h.laid e (by simp);have d:=x.lt;have L:e.2.b<H.length:=d _ (by simp[Pl.ix]);refine h.upd ⟨?_,h0,u,E,J⟩ z ?_ ?_ ?_ hl
 .rw[hH,g,Xa (by simp;omega)]
 .intro j p t m;rw[hH,XS (λq=>m (by rw[<- q];simp[Pl.ix])),XP (by simpa using t),XS (λq=>m (by rw[<- q];exact hi))]
 .intro j k;rw[s]at k;obtain⟨M,p,rfl⟩:=Xe.1 k;cases q:Nat.beq M i with
  |true=>exact .inr (XW _)
  |false=>exact .inl p
 .rw[s];have F:=h.own e (by simp);refine List.pairwise_map.2 (List.Pairwise.imp_of_mem ?_ F);intro a b G g f;have N:=d a G;have O:=d b g;cases w:Nat.beq a i with
  |true=>
   cases n:Nat.beq b i with
   |true=>exact absurd ((XT w).trans (XT n).symm) f
   |false=>simp only[Vr,Vs];omega
  |false=>
   cases n:Nat.beq b i with
   |true=>simp only[Vr,Vs];omega
   |false=>exact f
end
end Go.Sw
namespace Go.Sw
section
variable {fr ro:Nat->Prop} {σ:Sig} {H:Qd} {w:World}
end
section
variable {P:Program} {o:Oper} {env:Env} {H:Qd}
theorem Le.frow{h0 s i n k t:Nat}{es:List (List A)}(y:lk env s=.osl i 0 n k)(hH:H[i]?=some (.frow t k es))(J:es.length=n):Le h0 env H (up env s (.rsl k es)) H:=by
 intro R g σ N a w r;refine⟨g,σ,⟨r.sim,?_,r.size,r.defers⟩,λ_ q=>q,rfl⟩;intro e;simp only[lk];by_cases q:e=s
 .subst q;rw[VH];have:=r.env e;rw[y]at this;show VR g σ w (.rsl k es) _;rcases this with⟨h,f⟩|⟨b,p,d,O,m,h,f,L,B,P,Q⟩
  .have:es=[]:=VL.1 (by omega);subst this;exact⟨none,0,by rw[f];rfl,XW _,.inl rfl⟩
  .obtain⟨u,l,F,x,M⟩:=r.sim.blk i _ _ h hH;refine⟨_,d,by rw[f,J],by omega,?_⟩;by_cases j:es=[]
   .exact .inl j
   .right;have E:0<d:=Vh (by have:=List.length_pos_iff.2 j;omega) B;have G:=L E;refine⟨b,0,by rw[G];simp,u,?_⟩;exact YT (pre:=[]) (by simpa using F) x
 .have:Nat.beq e s=false:=by
   cases z:Nat.beq e s with
   |true=>exact absurd (XT z) q
   |false=>rfl
  rw[this];exact r.env e
end
end Go.Sw
namespace Go.Sw
open Go.MapKept
section
variable {P:Program} {kt et:Nat} {α β:Type} [DecidableEq α] {ek:α->A} {ev:β->A} {ro:Nat->Prop} {σ:Sig} {w:World} (K:Y1 P kt ek)
include K
variable {o:Oper} {env:Env} {H:Qd} {T T' i:Nat} {x y:Operand} {l m:List (α×β)} {k:α}
end
end Go.Sw
namespace Go.Sw
section
variable {P:Program} {h0 N:Nat} {all:Array Oper} {o1 o2:Oper} {l:List Oper} {env:Env} {H:Qd} {Q:QB}
theorem Qlr{t n d:Nat}{z:Value}{v:A}{cs zs:List A}{y:Operand}(hz:∀w,(zeroValue t).run P w=.ok z w)(hv:ZR v z)(hs:∀w,(Go.sizeOf t).run P w=.ok n w)
  (k:WO P h0 N all l (up env d (.rp cs)) H Q)(hk:Q9 v=true:=by exact rfl)(hzs:Q8 v=zs:=by exact rfl)(hpl:zs.all Ym=true:=by exact rfl)(hzn:zs.length=n:=by exact rfl)(hn:cs.length=n:=by exact rfl)
  (ho1:o1.op=.alloc t:=by exact rfl)(hd1:o1.dst=some d:=by exact rfl)(ho2:o2.op=.store t (.tmp d) y:=by exact rfl)(hd2:o2.dst=none:=by exact rfl)(hy:opA (up env d .any) y=.agg cs:=by exact rfl)(hda:Yg cs=true:=by exact rfl)(hcp:cs.all Ym=true:=by exact rfl)(hkc:Q9 (.agg cs)=true:=by exact rfl)(hcc:Q8 (.agg cs)=cs:=by exact rfl)
  (hg1:Qp all o1 env true:=by exact rfl)(hg2:Qp all o2 (up env d .any) true:=by exact rfl)(hN:Nat.blt d N=true:=by exact rfl):WO P h0 N all (o1::o2::l) env H Q:=by
 intro rd fr B σ a w r hrd;obtain⟨X,h2,h3⟩:=(hv B σ w).cells hk;rw[hzs]at h3
 let w1:World:=w.alloc (.cells X.toArray t)
 have O:(execOp a.eval o1).run P w=.ok (.value (.pointer (some ⟨w.heap.size,0,none⟩))) w1:=by
  generalize a.eval=ρ at*;have e:(newVar t z).run P w=.ok ⟨w.heap.size,0,none⟩ (w.alloc (.cells X.toArray t)):=by
   unfold newVar;rw[h2];rfl
  simp only[execOp,ho1,Instr.alloc,Vp,hz,Result.andThen,e];rfl
 refine Qab (YE hg1 r) O ?_;simp only[hd1,Act.put];have ae:d<N:=by simpa[Nat.blt_eq]using hN
 have J:d<a.tmps.size:=by rw[r.size];exact ae
 let a1:Act:={a with tmps:=a.tmps.setIfInBounds d (.pointer (some ⟨w.heap.size,0,none⟩))}
 have u:∀b,b<w.heap.size->w1.heap[b]?=w.heap[b]? :=λb hb=>Yo _ _ b hb;have G:w.heap.size<=w1.heap.size:=by show _<=(w.alloc _).heap.size;rw[Yn];omega
 have h:Qh fr B w B w1:=Qh.alloc _ r.sim.roLt r.sim.frLt;have r1:Rel fr B σ H (up env d .any) N a1 w1:=⟨r.sim.grown u G,VR.up (fr:=fr) (λs=>(r.env s).mono (h.ext0 σ)) J trivial,by simpa[a1]using r.size,r.defers.keep h⟩;have W:=Qg r1 y;rw[hy]at W;obtain⟨m,h4,R⟩:=W.cells hkc;rw[hcc]at R;have p:w1.heap[w.heap.size]?=some (.cells X.toArray t (0,0)):=Ya _ _;have T:X.length=n:=by rw[h3.length,hzn]
 have L:m.length=n:=by rw[R.length,hn]
 have aa:=Q5 (P:=P) (vs:=m) 0 0 p (by omega) (R.plain hcp);have ac:splice X (0+0) m=m:=by
  unfold splice;simp[T,L]
 rw[ac]at aa
 let w2:World:={w1 with heap:=w1.heap.setIfInBounds w.heap.size (.cells m.toArray t (0,0))}
 have he:a1.eval (.tmp d)=.pointer (some ⟨w.heap.size,0,none⟩):=by
  show(a.tmps.setIfInBounds d _).getD d undef=_;rw[Qh7 J,Vv rfl]
 have M:(execOp a1.eval o2).run P w1=.ok .skip w2:=by
  have af:(storeVar t ⟨w.heap.size,0,none⟩ (a1.eval y)).run P w1=.ok () w2:=by
   unfold storeVar;rw[Vp,hs];simp only[Result.andThen];rw[Vu (by simp[h4,L]),h4];simpa using aa
  generalize a1.eval=ρ at*;simp only[execOp,ho2,he,Instr.storeAt,Instr.sureAddr,pure_bind,Vp,af];rfl
 refine QhG (YE hg2 r1) M ?_;simp only[hd2,Act.put];have f:∀b,b<w.heap.size->w2.heap[b]?=w.heap[b]? :=λb hb=>by
  show(w1.heap.setIfInBounds w.heap.size _)[b]?=_;rw[Array.getElem?_setIfInBounds_ne (by omega)];exact u b hb
 have F:w2.heap.size=w1.heap.size:=by simp[w2]
 have E:w.heap.size<w1.heap.size:=(Ve.1 p).1;have Y:w.heap.size<=w2.heap.size:=by rw[F];exact G
 have j:w2.heap[w.heap.size]?=some (.cells m.toArray t (0,0)):=by
  show(w1.heap.setIfInBounds w.heap.size _)[w.heap.size]?=_;rw[Array.getElem?_setIfInBounds_self_of_lt E]
 have s1:=r.sim.grown f Y;have s2:=s1.addRo (b:=w.heap.size) (by rw[F];exact E) (λq=>Nat.lt_irrefl _ (r.sim.frLt _ q)) (λi x V p2 p3=>Nat.lt_irrefl _ (r.sim.own i _ x V p2 p3).1)
  (λi d x V p2 p3=>Nat.lt_irrefl _ (r.sim.hid i d x _ V p2 (r.sim.hidKeep V p2 (λz=>f d (r.sim.own i d x V p2 z).1) (λb q=>f b (r.sim.roLt b q)) p3)).lt)
 have ev:Qh fr B w (λc=>B c\/c=w.heap.size) w2:=by
  refine⟨λb q=>.inl q,λb q=>f b (r.sim.roLt b q),λb q=>f b (r.sim.frLt b q),Y,?_,h.os,h.tape,h.output,h.drawn⟩;intro b x g;have hb:b<w.heap.size:=by
   unfold World.shape? at g;cases q:w.heap[b]? with
   |none=>rw[q]at g;simp at g
   |some _=>exact(Ve.1 q).1
  unfold World.shape? at g⊢;rw[f b hb];exact g
 have ab:VR (λc=>B c\/c=w.heap.size) σ w2 (.rp cs) (.pointer (some ⟨w.heap.size,0,none⟩)):=by
  refine⟨w.heap.size,0,rfl,.inr rfl,?_⟩;refine QhD (pre:=[]) (by simpa using j) ?_ (R.plain hcp);have h6:LR B [] w1 cs m:=LR.data hda R;refine h6.mono ⟨λ_ q=>.inl q,λb q=>?_,λb x g=>?_,λ_ _ q=>q⟩
  .show(w1.heap.setIfInBounds w.heap.size _)[b]?=_;have:=r.sim.roLt b q;rw[Array.getElem?_setIfInBounds_ne (by omega)]
  .by_cases e:b=w.heap.size
   .subst e;unfold World.shape? at g⊢;rw[p]at g;rw[j];simp at g⊢;rw[T]at g;rw[L];exact g
   .unfold World.shape? at g⊢;rw[show w2.heap[b]?=w1.heap[b]? from Array.getElem?_setIfInBounds_ne (Ne.symm e)];exact g
 have r2:Rel fr (λc=>B c\/c=w.heap.size) σ H (up env d (.rp cs)) N a1 w2:=
  ⟨s2,VR.up (fr:=fr) (λs=>(r.env s).mono (ev.ext0 σ)) J ab,by simpa[a1]using r.size,r.defers.keep ev⟩
 exact Ye (λe a w q=>q.step ev rfl) _ _ _ (k rd fr _ σ a1 w2 r2 (hrd.to ev λ_ q=>q))
end
end Go.Sw
namespace Go.Sw
section
variable {P:Program} {o:Oper} {env:Env} {H:Qd}
theorem Qc4{t e:TypeId}{p:Option Addr}{w:World}(a:∀w,(underlying t).run P w=.ok (.pointer e) w):(Op.equal t (.pointer p) (.pointer none)).run P w=.ok p.isNone w:=by
 have k:∀d,(Op.equalIn (d+1) t (.pointer p) (.pointer none)).run P w=.ok p.isNone w:=by
  intro d;cases p<;>simp[Op.equalIn,a,go_sem]
 exact k 9999
theorem QiM{t e u:TypeId}{x:Operand}{i off:Nat}(f:∀w,(underlying t).run P w=.ok (.pointer e) w)(h:opA env x=.ptr i off)(j:o.op=.binOp .eql t x (.const (.pointer none)) u:=by exact rfl):OpV P o env H (.bool false):=by
 intro m n σ N a w r;have d:=Qg r x;rw[h]at d;obtain⟨b,l,k⟩:=d;have g:a.eval (.const (.pointer none))=.pointer none:=rfl;refine⟨_,?_,rfl⟩;generalize a.eval=ρ at*;simp[execOp,j,k,g,Go.binOp,eqGuard,Qc4 f,go_sem]
theorem QiN{t e u:TypeId}{x:Operand}(d:∀w,(underlying t).run P w=.ok (.pointer e) w)(g:opA env x=.nilp)(h:o.op=.binOp .eql t x (.const (.pointer none)) u:=by exact rfl):OpV P o env H (.bool true):=by
 intro j k σ N a w r;have b:=Qg r x;rw[g]at b;have f:a.eval (.const (.pointer none))=.pointer none:=rfl;have i:a.eval x=.pointer none:=b;refine⟨_,?_,rfl⟩;generalize a.eval=ρ at*;simp[execOp,h,i,f,Go.binOp,eqGuard,Qc4 d,go_sem]
end
end Go.Sw
namespace Go.Sw
section
variable {P:Program} {o:Oper} {env:Env} {H:Qd} {α:Type}
def Qg8(l:List α)(lo hi i:Int):Option α:=bif decide (0<=lo)&&(decide (0<=i)&&decide (lo+i<hi))then idx l (lo+i)else none
theorem Qkl{l:List α}{lo hi i:Int}{v:α}(h:Qg8 l lo hi i=some v):0<=lo/\0<=i/\lo+i<hi/\idx l (lo+i)=some v:=by
 unfold Qg8 at h;cases q:decide (0<=lo)&&(decide (0<=i)&&decide (lo+i<hi))with
 |false=>rw[q]at h;cases h
 |true=>
  rw[q]at h;rw[XZ,XZ,Vt,Vt,Vt]at q;exact⟨q.1,q.2.1,q.2.2,h⟩
theorem Qg7{l:List α}{lo hi i:Int}{v:α}(h:Qg8 l lo hi i=some v):idx l (lo+i)=some v:=(Qkl h).2.2.2
theorem QfD{t et k b:Nat}{x y:Operand}{l:List α}{f:IntKind}{lo hi i:Int}{v:α}(h:Qg8 l lo hi i=some v)(a:∀w,(underlying t).run P w=.ok (.slice et) w)(j:∀w,(sizeOf et).run P w=.ok k w)
  (g:o.op=.indexAddr t x y:=by exact rfl)(hx:opA env x=.osl b (0+lo.toNat) (hi.toNat-lo.toNat) k:=by exact rfl)(hy:opA env y=.int f i:=by exact rfl):OpV P o env H (.ptr b ((lo+i).toNat*k)):=by
 obtain⟨n,m,p,_⟩:=Qkl h;have d:=Qhu (H:=H) g a j hx hy m (by omega);have e:(0+lo.toNat)*k+i.toNat*k=(lo+i).toNat*k:=by
  rw[<- XC];congr 1;omega
 rwa [e]at d
end
end Go.Sw
namespace Go.Sw
section
variable {P:Program} {o:Oper} {env:Env} {H:Qd}
theorem QcK{β:Type}{t et n:Nat}{x y:Operand}{L:List β}{f:β->A}{rest cs:List A}{i:Int}{l:β}{M:IntKind}(h:idx L i=some l)(F:cs=L.map f++rest)(hn:L.length=n)(W:∀w,(underlying t).run P w=.ok (.array n et) w)(R:∀w,(sizeOf et).run P w=.ok 1 w)(p:Nat.ble 2 n=true)
  (X:o.op=.indexAddr t x y:=by exact rfl)(hx:opA env x=.rp cs:=by exact rfl)(hy:opA env y=.int M i:=by exact rfl):OpV P o env H (.rp [f l]):=by
 intro Y ro σ N a w r;have k:=Qg r x;rw[hx]at k;obtain⟨m,b,k,u,z⟩:=k;have J:=Qg r y;rw[hy]at J;have B:a.eval y=.int M i:=J;obtain⟨i0,d⟩:=Qau h;have s:i.toNat<L.length:=(XO.1 d).1;have V:2<=n:=XU p;have Q:i=(i.toNat:Int):=by omega
 generalize i.toNat=j at*;subst Q;have E:j<n:=by omega
 refine⟨.pointer (some ⟨m,b+j*1,none⟩),?_,m,b+j*1,rfl,u,?_⟩
 .have O:0<=(j:Int)/\(j:Int)<(n:Int):=by omega
  have g:(⟨m,b,none⟩:Addr).add ((j:Int).toNat*1)=⟨m,b+j*1,none⟩:=by
   unfold Addr.add;split
   .rename_i q;simp at q;simp[q]
   .simp
  generalize a.eval=ρ at*;simp[execOp,X,k,B,Instr.indexAt,asIntOf,W,R,Instr.sureAddr,O,g,go_sem,Result.andThen,E]
 .have G:=CR.take 1 (CR.drop j z);have e:(cs.drop j).take 1=[f l]:=by
   rw[F,Va (by rw[X4];omega), <- List.map_drop];have:L.drop j=l::L.drop (j+1):=by
    have T:=Xq s;rw[T,(XO.1 d).2]
   rw[this];rfl
  rw[e]at G;rw[Nat.mul_one];exact G
end
end Go.Sw
namespace Go.Sw
section
variable {env:Env} {H:Qd}
theorem QlP{h0 i j m o' n k T:Nat}{x:Blk}{cs:List A}(hi:H[i]?=some x)(z:H[j]?=some (.cells T cs))(s:cs[m]?=some (.osl i o' n k))(e:Nat.beq i j=false)(R:Nat.ble h0 H.length=true):
  Le h0 env H env ((H.set i .dead).set j (.cells T (cs.set m (.osl H.length o' n k)))++[x]):=by
 intro Y B σ N a w r;have hiσ:i<σ.length:=by rw[r.sim.len];exact(XO.1 hi).1
 have hσ:σ[i]?=some σ[i]:=XN hiσ;have ext:Ext B σ w B (σ++[σ[i]]) w:=⟨λ_ q=>q,λ_ _=>rfl,λ_ _ q=>q,λ_ _ h=>YK h⟩;have L:=r.sim.moved hi hσ;have d:j<H.length:=(XO.1 z).1;have E:i≠j:=λq=>by rw[q,VH]at e;cases e
 have f:(H.set i .dead++[x])[j]?=some (.cells T cs):=by
  rw[XP (by simpa using d),XS E];exact z
 have J:(H.set i .dead).set j (.cells T (cs.set m (.osl H.length o' n k)))++[x]=(H.set i .dead++[x]).set j (.cells T (cs.set m (.osl H.length o' n k))):=by
  rw[List.set_append_left _ _ (by simpa using d)]
 rw[J];refine⟨B,σ++[σ[i]],⟨L.weaken f rfl ?_,λq=>(r.env q).mono ext,r.size,r.defers⟩,λ_ q=>q,Qu (by rw[r.sim.len];exact XU R)⟩;have g:σ.length=H.length:=r.sim.len;intro y h;cases y with
 |none=>exact h
 |some b=>
  obtain⟨l,P,V,G⟩:=h;refine⟨l,P,?_,G⟩;clear P G f J z L
  induction cs generalizing m l with
  |nil=>cases s
  |cons c cs W=>
   obtain⟨v,F,rfl,Q,M⟩:=V;cases m with
   |zero=>
    simp at s;subst s;refine⟨v,F,rfl,?_,M⟩;rcases Q with h|⟨b,p,u,t,m,O,X⟩
    .exact .inl h
    .refine .inr ⟨b,p,u,t,m,?_,X⟩;rw[XP hiσ,hσ]at O;rw[<- g];simpa using O
   |succ m=>exact⟨v,F,rfl,Q,W (by simpa using s) F M⟩
def QeW{β γ:Type}(o:Option β)(n:Option γ)(s:β->Option γ):Option γ:=match o with
 |none=>n
 |some v=>s v
theorem QmG{β γ:Type}{o:Option β}{n:Option γ}{s:β->Option γ}{r:γ}(h:QeW o n s=some r):(o=none/\n=some r)\/ ∃v,o=some v/\s v=some r:=by
 cases o with
 |none=>exact .inl ⟨rfl,h⟩
 |some v=>exact .inr ⟨v,rfl,h⟩
theorem Qhw{P:Program}{o:Oper}{H':Qd}{T:Nat}{x y zz:Operand}(g:o.op=.insert T x y zz)(h:OpU P {o with op:=.mapUpdate T x y zz} env H H'):OpU P o env H H':=by
 intro f j σ N a w r;obtain⟨i,b,τ,k,d,e⟩:=h f j σ N a w r;exact⟨i,b,τ,by simpa only[execOp,g]using k,d,e⟩
end
section
variable {P:Program} {o:Oper} {env:Env} {H:Qd} {T kt et:Nat} {α β:Type} [DecidableEq α] {ek:α->A} {ev:β->A} {x y:Operand} {i:Nat} {l:List (α×β)} {k:α} {z:Value} {zA:A}
theorem QlC{v:β}(K:Y1 P kt ek)(d:YC l k=some v)(u:P.underlying T=some (.map kt et))
  (O:o.op=.lookup T x y true:=by exact rfl)(hx:opA env x=.map i:=by exact rfl)(hH:H[i]?=some (.map (Qi ek ev l)):=by exact rfl)(hy:opA env y=ek k:=by exact rfl):OpV P o env H (.tup [ev v,.bool true]):=by
 intro W ro σ N a w r;have n:=Qg r x;rw[hx]at n;obtain⟨b,J,z⟩:=n;have m:=Qg r y;rw[hy]at m;have M:=VR.val (K.scl _) m;obtain⟨L,f,F,s,R,V,Q⟩:=r.sim.blk i _ _ J hH;obtain⟨G,E⟩:=ER.find K s k Q;rcases K.find w k L.toList (QaX K s)with⟨p,g⟩|⟨j,e,p,g,t⟩
 .rw[(G g).1]at d;cases d
 .obtain⟨X,Y,h,B⟩:=E j e g t;rw[d]at h;cases h;refine⟨.tuple #[e.val,.bool true],?_,[e.val,.bool true],rfl,e.val,_,rfl,B.mono ⟨λ_ q=>q,λ_ _=>rfl,λ_ _ q=>q,λj c q=>by simp at q⟩,_,_,rfl,rfl,rfl⟩;have:(Instr.lookup T (.map (some b)) (QJ (ek k)) true).run P w=.ok (.tuple #[e.val,.bool true]) w:=by
   simp only[Instr.lookup,Vp,run_underlying u,Result.andThen,MapKept.run_getObj_map F,Vq,K.check,p,if_true]
  simp only[execOp,O,z,M,Vp,this,Result.andThen];rfl
theorem QlD(K:Y1 P kt ek)(J:YC l k=none)(t:P.underlying T=some (.map kt et))(B:∀w,(zeroValue et).run P w=.ok z w)(f:ZR zA z)
  (O:o.op=.lookup T x y true:=by exact rfl)(hx:opA env x=.map i:=by exact rfl)(hH:H[i]?=some (.map (Qi ek ev l)):=by exact rfl)(hy:opA env y=ek k:=by exact rfl):OpV P o env H (.tup [zA,.bool false]):=by
 intro Y ro σ N a w r;have n:=Qg r x;rw[hx]at n;obtain⟨b,G,u⟩:=n;have h:=Qg r y;rw[hy]at h;have M:=VR.val (K.scl _) h;obtain⟨L,d,F,q,R,W,Q⟩:=r.sim.blk i _ _ G hH;obtain⟨X,E⟩:=ER.find K q k Q;rcases K.find w k L.toList (QaX K q)with⟨p,m⟩|⟨j,e,p,m,s⟩
 .refine⟨.tuple #[z,.bool false],?_,[z,.bool false],rfl,z,_,rfl,f _ _ _,_,_,rfl,rfl,rfl⟩;have:(Instr.lookup T (.map (some b)) (QJ (ek k)) true).run P w=.ok (.tuple #[z,.bool false]) w:=by
   simp only[Instr.lookup,Vp,run_underlying t,Result.andThen,MapKept.run_getObj_map F,Vq,K.check,p,B,if_true]
  simp only[execOp,O,u,M,Vp,this,Result.andThen];rfl
 .obtain⟨u1,v',g,V⟩:=E j e m s;rw[J]at g;cases g
end
abbrev Ea:=@Ev.bind
abbrev Ec:=@FzH.keep
abbrev Ed:=@FzL.cons
abbrev Ee:=@FzA.refl
abbrev Ef:=@TC.le
abbrev Eg:=@PL.cons
abbrev Eh:=@DS.done
abbrev Ei:=@Ev.and
abbrev Ej:=@EvI.done
abbrev Ek:=@FzL.refl
abbrev El:=@OpH.lit
abbrev Em:=@RF.cons
abbrev En:=@Le.trans
abbrev Eo:=@ZR.int
abbrev Ep:=@FzA.o
abbrev Er:=@Le.phantom
abbrev Et:=@WO.le
abbrev Eu:=@Ev.or
abbrev Ew:=@EvI.cont
abbrev Ex:=@OpU.store
abbrev Ey:=@OpV.load
abbrev Ez:=@Ev.const
theorem Zf.{u,v}{α:Sort u}{β:Sort v}{f:α->β}:∀x,f x=f x:=λ_=>rfl
abbrev Ze.{u,v}{α:Sort u}{β:Type v}:α->List β:=λ_=>[]
end Go.Sw
