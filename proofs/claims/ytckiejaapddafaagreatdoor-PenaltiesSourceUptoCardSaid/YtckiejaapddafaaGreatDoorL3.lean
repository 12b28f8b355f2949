/- The rules by which the code is walked, with what they rest on (part 3). -/
import Derived.Test.YtckiejaapddafaaGreatDoorL2
import Derived.Laws.BytesString
set_option linter.unusedVariables false
set_option linter.unusedSectionVars false
set_option linter.unusedSimpArgs false
namespace Go.Sw
def QcC:Option Blk->Bool
 |some .dead=>true
 |_=>false
def Qaw(hB hE:Nat)(H H':Qd):Bool:=(List.range (hE-hB)).all λp=> !QcC H'[hB+p]? ||QcC H[hB+p]?
def QkV(hB hE:Nat)(σ:Sig)(H:Qd):Prop:=∀p,hB<=p->p<hE->QcC H[p]?=true->σ[p]?=some none
theorem Qlq{hB hE:Nat}{H H':Qd}(h:Qaw hB hE H H'=true){p:Nat}(d:hB<=p)(b:p<hE)(a:QcC H'[p]?=true):QcC H[p]?=true:=by
 have:=Xt.1 h (p-hB) (List.mem_range.2 (by omega));rw[show hB+(p-hB)=p by omega,a]at this;simpa using this
theorem Sim.allocAt{fr ro:Nat->Prop}{σ:Sig}{H:Qd}{w:World}(s:Sim fr ro σ H w){p:Nat}(J:σ[p]?=some none){obj:Obj}{x:Blk}
  (N:BR ro (σ.set p (some w.heap.size)) (w.alloc obj) x (some w.heap.size))
  (F:∀c,Hid (w.alloc obj) x w.heap.size c->False:=by exact λ_ h=>h.elim):Sim fr ro (σ.set p (some w.heap.size)) (H.set p x) (w.alloc obj):=by
 have ev:Qh fr ro w ro (w.alloc obj):=Qh.alloc obj s.roLt s.frLt;have u:=s.len;have E:p<σ.length:=(XO.1 J).1;have t:Ext ro σ w ro (σ.set p (some w.heap.size)) (w.alloc obj):=⟨ev.sub,ev.keepRo,ev.shape,λi b q=>by
  rw[XS (λz=>by subst z;rw[J]at q;cases q)];exact q⟩
 have e:∀(i:Nat) (y:Option Nat),(σ.set p (some w.heap.size))[i]?=some y->(i≠p/\σ[i]?=some y)\/(i=p/\y=some w.heap.size):=by
  intro i y h;by_cases q:i=p
  .subst q;rw[Xa E]at h;exact .inr ⟨rfl,(X2 h).symm⟩
  .rw[XS (λz=>q z.symm)]at h;exact .inl ⟨q,h⟩
 have n:∀i:Nat,i≠p->(H.set p x)[i]?=H[i]? :=λi P=>XS (λz=>P z.symm);have L:(H.set p x)[p]?=some x:=Xa (by omega);refine⟨by simp[u],s.roOk.to (λ_ q=>q) ev.keepRo (λb h=>?_),λb h=>?_,s.roFr,?_,?_,?_,s.hidTo (· = ·) QZ (by rw[Q6];omega) (λ_ _ _ _ _ _ _ q=>q) (λ_ _ _ _ _ _ _ q=>q) λj d y l k Q=>?_⟩
 rotate_left 5
 .rcases e j _ l with⟨q,l⟩|⟨rfl,m⟩
  .rw[n j q]at k;exact .inl ⟨j,y,rfl,l,k,id,λc q=>s.hidKeep l k (λz=>Yc w obj d (s.own j d y l k z).1) ev.keepRo q⟩
  .rw[L]at k;cases k;cases m;exact .inr ⟨XW _,F⟩
 .rw[Q6];have:=s.roLt b h;omega
 .rw[Q6];have:=s.frLt b h;omega
 .intro i b y g f r;rw[Q6];rcases e i _ g with⟨q,g⟩|⟨rfl,m⟩
  .rw[n i q]at f;obtain⟨a,b,c⟩:=s.own i b y g f r;exact⟨by omega,b,c⟩
  .cases m;exact⟨by omega,λq=>by have:=s.roLt _ q;omega,λq=>by have:=s.frLt _ q;omega⟩
 .intro i j b y z g f r B M G;rcases e i _ g with⟨q,l⟩|⟨O,m⟩<;>rcases e j _ f with⟨q',k⟩|⟨ej,e2⟩
  .rw[n i q]at r;rw[n j q']at B;exact s.inj i j b y z l k r B M G
  .cases e2;rw[n i q]at r;have:=(s.own i _ y l r M).1;omega
  .cases m;rw[n j q']at B;have:=(s.own j _ z k B G).1;omega
  .rw[O,ej]
 .intro i y z g f;rcases e i _ g with⟨q,g⟩|⟨rfl,m⟩
  .rw[n i q]at f;refine(s.blk i y z g f).keep t ?_ ?_
   .rintro b rfl u;exact Yc w obj b (s.own i b z g f u).1
   .rintro b c rfl u;exact Yc w obj c (s.hid i b z c g f u).lt
  .rw[L]at f;cases f;subst m;exact N
def OpZ(P:Program)(o:Oper)(t:Nat)(cs:List A):Prop:=
 ∀(ro:Nat->Prop) (σ:Sig) (w:World) (a:Act),∃l:List Value,(execOp a.eval o).run P w=.ok (.value (.pointer (some ⟨w.heap.size,0,none⟩))) (w.alloc (.cells l.toArray t))/\LR ro σ w cs l/\ ∀v∈l,Qs v
theorem OpZ.alloc{P:Program}{o:Oper}{t:Nat}{z:Value}{v:A}{cs:List A}(i:∀w,(zeroValue t).run P w=.ok z w)(f:ZR v z)(g:o.op=.alloc t:=by exact rfl)(hk:Yb v=true:=by exact rfl)(hcs:Q0 v=cs:=by exact rfl)(hpl:cs.all Yl=true:=by exact rfl):
  OpZ P o t cs:=by
 intro h σ w a;obtain⟨l,d,b⟩:=(f h σ w).cells hk;subst hcs;refine⟨l,?_,b,b.plain hpl⟩;generalize a.eval=ρ at*;have e:(newVar t z).run P w=.ok ⟨w.heap.size,0,none⟩ (w.alloc (.cells l.toArray t)):=by
  unfold newVar;rw[d];rfl
 simp only[execOp,g,Instr.alloc,Vp,i,Result.andThen,e];rfl
theorem QcT{P:Program}{l:List Oper}{i:Nat}{o:Oper}{rd:Option Nat}{R:Exit->Act->World->Prop}{Q:Exit->Act->World->Prop}{K:Act->World->Prop}{a:Act}{w:World}
  (z:l[i]?=some o)(g:wpL P rd l.toArray R [o] a w)(j:∀e a' w',R e a' w'->e=.normal/\a'.defers=a.defers)(k:∀v w',R .normal (a.put o.dst v) w'->K (a.put o.dst v) w'):
  wpOpIn (WF rd) 0 P l.toArray Q i K a w:=by
 unfold wpOpIn;have s:l.toArray[i]?=some o:=by simpa using z
 rw[s];simp only;unfold wpL wpListIn at g;split at g
 .rename_i p;rw[Vv p];obtain⟨h,g⟩:=g;refine⟨h,?_⟩;have d:=Ql3 (by
   intro a' w' q;unfold wpListIn at q;exact(j _ _ _ q).2) g
  generalize(o.semAt (WF rd).round a.eval).run P w=res at*;cases res with
  |ok n w'=>
   cases n with
   |value v=>exact k _ _ d.1
   |skip=>exact k _ _ d.1
   |defer E=>
    exfalso;have:=(j _ _ _ d.1).2;have:=congrArg List.length this
    revert this
    cases o.dst<;>simp[Act.put]
   |enter f m=>
    refine⟨d.1,CallsIn.mono d.2 (λe t b=>?_)⟩;cases e with
    |returned v=>exact k _ _ b.1
    |panicked c=>have:=(j _ _ _ b).1;cases this
    |outgrown=>obtain⟨B,w1,b⟩:=b;have:=(j _ _ _ b).1;cases this
   |row r m=>
    exact⟨d.1,RowsIn.mono d.2 (λ_ _ b=>k _ _ b.1)⟩
   |round l f y assign u=>
    refine⟨d.1,RoundIn.mono d.2 (λe t b=>?_)⟩;cases e with
    |returned v=>exact k _ _ b.1
    |panicked c=>have:=(j _ _ _ b).1;cases this
    |outgrown=>obtain⟨B,w1,b⟩:=b;have:=(j _ _ _ b).1;cases this
   |_=>exact d.elim
  |halt x w'=>
   cases x with
   |panic v=>have:=(j _ _ _ d).1;cases this
   |_=>exact d.elim
 .rename_i p;rw[Vu p];obtain⟨h,g⟩:=g;refine⟨h,?_⟩;unfold wpListIn at g;exact k _ _ g
theorem Qlp{P:Program}{l:List Oper}{m:Nat}(n:∀i o,l[i]?=some o->∀j∈Qj o,j<i)(g:∀i o,m<i->l[i]?=some o->i-1∈Qj o){Q:Exit->Act->World->Prop}{rd:Option Nat}:
  ∀(b t:Nat) (L:Array Bool) (a:Act) (w:World),L.size=l.length->(∀i,i<l.length->(onL L i↔i<t))->unl L<=b->m<=t->t<=l.length->
   wpL P rd l.toArray Q (l.drop t) a w->wpAnyIn (WF rd) 0 P .any l.toArray Q b L a w:=by
 intro b
 induction b with
 |zero=>
  intro t L a w hsz hL hf hm ht h;have:t=l.length:=by
   rcases VE t l.length with q|q
   .have:=Qkh (L:=L) (i:=t) (by omega) (λz=>by have:=(hL t q).1 z;omega);omega
   .omega
  subst this;refine⟨List.eq_nil_iff_forall_not_mem.2 λi r=>?_,?_⟩
  .obtain⟨o,f,k,_⟩:=(QaK hsz).1 r;have d:=(XO.1 f).1;exact k ((hL i d).2 d)
  .rw[List.drop_length]at h;exact h
 |succ b H=>
  intro t L a w hsz hL hf hm ht h;have s:∀i o,l[i]?=some o->¬onL L i->(∀j∈Qj o,onL L j)->i=t:=by
   intro i o f k u;have d:=(XO.1 f).1;have G:t<=i:=by
    rcases VE i t with q|q
    .exact absurd ((hL i d).2 q) k
    .exact q
   rcases VE t i with q|q
   .have:=(hL (i-1) (by omega)).1 (u _ (g i o (by omega) f));omega
   .omega
  rcases VE t l.length with e|e
  .have F:l[t]?=some l[t]:=XN e;have p:¬onL L t:=λq=>by have:=(hL t e).1 q;omega
   have E:t∈Region.ready .any l.toArray L:=by
    refine(QaK hsz).2 ⟨_,F,p,λj y=>?_⟩;have:=n t _ F j y;exact(hL j (by omega)).2 this
   refine⟨λq=>(by rw[q]at E;cases E),λi r=>?_⟩;obtain⟨o,f,k,u⟩:=(QaK hsz).1 r;obtain rfl:=s i o f k u;rw[Xq e]at h;obtain rfl:l[i]=o:=by rw[XN e]at f;exact X2 f
   unfold wpOpIn;rw[show l.toArray[i]?=some l[i]by rw[XJ];exact f];simp only;unfold wpL wpListIn at h;have B:∀a w,wpL P rd l.toArray Q (l.drop (i+1)) a w->wpAnyIn (WF rd) 0 P .any l.toArray Q b (L.setIfInBounds i true) a w:=by
    intro a w q;have J:=QgZ (L:=L) (i:=i) (by omega) p;refine H (i+1) _ a w (by simpa using hsz) (λj y=>?_) (by omega) (by omega) (by omega) q;rw[Ju (by omega),hL j y];omega
   split at h
   .rename_i x;rw[Vv x];exact Oper.wpIn_mono B h
   .rename_i x;rw[Vu x];exact⟨h.1,B _ _ h.2⟩
  .have:t=l.length:=by omega
   subst this;rw[List.drop_length]at h;refine⟨λ_=>h,λi r=>?_⟩;obtain⟨o,f,k,_⟩:=(QaK hsz).1 r;have d:=(XO.1 f).1;exact absurd ((hL i d).2 d) k
def QnZ(af ds:List Nat)(xs:List A)(env0 e:Env):Prop:=
 ∀s,(∃j x,af.contains j=true/\ds[j]?=some s/\xs[j]?=some x/\lk e s=x)\/lk e s=.any\/(ds.contains s=false/\lk e s=lk env0 s)
inductive JB (P:Program) (N:Nat) (l:List Oper) (ds:List Nat) (xs:List A) (env0:Env) (hB hE:Nat) (i:Nat) (H H':Qd):Prop
 |mk (o:Oper) (e:Env) (d:Nat) (x:A) (ho:l[i]?=some o) (hd:o.dst=some d) (hx:xs[i]?=some x) (hdd:Qaw hB hE H H'=true) (hs:Sb (Qj o) (QjP l i) ds xs env0 e)
   (h:WO P H.length N l.toArray [o] e H (Y5 (up e d x) H')):JB P N l ds xs env0 hB hE i H H'
 |unit (o:Oper) (e:Env) (ho:l[i]?=some o) (hd:o.dst=none) (hx:xs[i]?=some .any) (hdd:Qaw hB hE H H'=true) (hs:Sb (Qj o) (QjP l i) ds xs env0 e)
   (h:WO P H.length N l.toArray [o] e H (Y5 e H')):JB P N l ds xs env0 hB hE i H H'
 |alloc (o:Oper) (d t p:Nat) (cs:List A) (ho:l[i]?=some o) (hd:o.dst=some d) (hg:o.guard=none) (hx:xs[i]?=some (.ptr p 0)) (hp:(Nat.ble hB p&&Nat.blt p hE)=true) (hdead:QcC H[p]?=true)
   (hH:H.set p (.cells t cs)=H') (h:OpZ P o t cs) (hN:Nat.blt d N=true):JB P N l ds xs env0 hB hE i H H'
 |val (o:Oper) (e:Env) (d:Nat) (x:A) (ho:l[i]?=some o) (hd:o.dst=some d) (hg:o.guard=none) (hx:xs[i]?=some x) (hN:Nat.blt d N=true) (he:QnZ (Qj o) ds xs env0 e) (h:OpV P o e H x)
   (hH:H=H':=by rfl):JB P N l ds xs env0 hB hE i H H'
 |woE (o:Oper) (e:Env) (d:Nat) (x:A) (ho:l[i]?=some o) (hd:o.dst=some d) (hx:xs[i]?=some x) (he:QnZ (Qj o) ds xs env0 e) (hdd:Qaw hB hE H H'=true) (h:WO P H.length N l.toArray [o] e H (Y5 (up e d x) H')):JB P N l ds xs env0 hB hE i H H'
theorem Sb.rel{af f d:List Nat}{xs:List A}{env0 e:Env}{ro:Nat->Prop}{σ:Sig}{w:World}{a:Act}(i:Sb af f d xs env0 e)
  (h:∀j∈af,∀s x,d[j]?=some s->xs[j]?=some x->VR ro σ w x (a.tmps.getD s undef))
  (g:∀s,d.contains s=false->VR ro σ w (lk env0 s) (a.tmps.getD s undef))(hP:∀j s,f.contains j=true->d[j]?=some s->VR ro σ w (lk env0 s) (a.tmps.getD s undef)):
  ∀s,VR ro σ w (lk e s) (a.tmps.getD s undef):=by
 intro s
 induction i with
 |nil=>exact trivial
 | @dep j s1 x1 r h1 h2 h3 _ ih=>
  unfold lk;cases b:Nat.beq s s1 with
  |false=>exact ih
  |true=>
   obtain rfl:=XT b;exact h j (by simpa using h1) _ _ h2 h3
 | @old s1 x1 r h1 h2 _ ih=>
  unfold lk;cases b:Nat.beq s s1 with
  |false=>exact ih
  |true=>
   obtain rfl:=XT b;subst h2;exact g _ h1
 | @pre j s1 x1 r h1 h2 h3 _ ih=>
  unfold lk;cases b:Nat.beq s s1 with
  |false=>exact ih
  |true=>
   obtain rfl:=XT b;subst h3;exact hP j _ h1 h2
structure After (fr ro:Nat->Prop) (σ:Sig) (w:World) (hB hE:Nat) (H':Qd) (xs:List A) (i:Nat) (o:Oper) (a':Act) (w':World) (ro':Nat->Prop) (σ':Sig):Prop where
 val:∀x,xs[i]?=some x->match o.dst with
  |some d=>VR ro' σ' w' x (a'.tmps.getD d undef)
  |none=>x=.any
 sim:Sim fr ro' σ' H' w'
 ev:Qh fr ro w ro' w'
 ext:Ext ro σ w ro' σ' w'
 holes:QkV hB hE σ' H'
 take:σ'.take hB=σ.take hB
theorem JB.use{P:Program}{N:Nat}{l:List Oper}{ds:List Nat}{xs:List A}{env0:Env}{hB hE i:Nat}{H H':Qd}(hb:JB P N l ds xs env0 hB hE i H H')
  {Q:Exit->Act->World->Prop}{K:Act->World->Prop}{fr ro:Nat->Prop}{σ:Sig}{a:Act}{w:World}{o:Oper}{rd:Option Nat}(M:l[i]?=some o)
  (f:Sim fr ro σ H w)(hN:a.tmps.size=N)(n:Qdk fr a.defers w)(ab:Qek rd fr w)(hh:QkV hB hE σ H)(hl:hE<=H.length)(aj:hB<=hE)
  (hD:∀j∈Qj o,∀s x,ds[j]?=some s->xs[j]?=some x->VR ro σ w x (a.tmps.getD s undef))
  (hO:∀s,ds.contains s=false->VR ro σ w (lk env0 s) (a.tmps.getD s undef))(hP:∀j s,(QjP l i).contains j=true->ds[j]?=some s->VR ro σ w (lk env0 s) (a.tmps.getD s undef))
  (hK:∀v w' ro' σ',After fr ro σ w hB hE H' xs i o (a.put o.dst v) w' ro' σ'->K (a.put o.dst v) w'):
  wpOpIn (WF rd) 0 P l.toArray Q i K a w:=by
 have J:∀{e:Env} {H2:Qd} {E:Exit} {r:Act} {w':World},Qb3 H.length fr ro σ w N a.defers (Y5 e H2) E r w'->E=.normal/\r.defers=a.defers:=by
  rintro e H2 E r w' ⟨x,_,_,_,_,_,k,⟨rfl,_⟩,_,_,_,B,_⟩;refine⟨?_,B⟩;cases E<;>first|rfl|exact k.elim|cases k
 have ai:∀{σ':Sig} {w':World},Qh fr ro w ro w'->σ'.take H.length=σ.take H.length->True:=λ_ _=>trivial;have F:∀{e:Env} {r:Act} {w':World},Qb3 H.length fr ro σ w N a.defers (Y5 e H') .normal r w'->Qaw hB hE H H'=true->
   ∃ro' σ',Sim fr ro' σ' H' w'/\Qh fr ro w ro' w'/\Ext ro σ w ro' σ' w'/\QkV hB hE σ' H'/\σ'.take hB=σ.take hB/\ ∀s,VR ro' σ' w' (lk e s) (r.tmps.getD s undef):=by
  rintro e r w' ⟨_,ah,H2,ro',σ',ak,_,⟨_,rfl,rfl⟩,r',he,ht,_,ag⟩ m;have hσ:σ'=σ++σ'.drop H.length:=by
   conv=>lhs;rw[<- XB H.length σ']
   rw[ht, <- f.len,Vb]
  refine⟨ro',σ',r'.sim.frMono ag.sub,he,?_,?_,?_,r'.env⟩
  .rw[hσ];exact he.ext σ _
  .intro p k B h3;have:=hh p k B (Qlq m k B h3);rw[hσ,XP (by rw[f.len];omega)];exact this
  .rw[hσ];exact Qv (by rw[f.len];omega)
 cases hb with
 |woE u e d x g G V he m h=>
  obtain rfl:u=o:=X2 (g.symm.trans M);have hr:∀s,VR ro σ w (lk e s) (a.tmps.getD s undef):=λs=>by
   rcases he s with⟨j,x,k,B,h3,L⟩|L|⟨k,L⟩
   .rw[L];exact hD j (by simpa using k) s x B h3
   .rw[L];exact trivial
   .rw[L];exact hO s k
  refine QcT M (h rd fr ro σ a w ⟨f,hr,hN,n⟩ ab) (λ_ _ _ q=>J q) (λv w' q=>?_);obtain⟨ro',σ',g1,g2,O,g4,g5,g6⟩:=F q m;refine hK v w' ro' σ' ⟨λy T=>?_,g1,g2,O,g4,g5⟩;obtain rfl:=X2 (V.symm.trans T);have:=g6 d;unfold lk at this;rw[VH]at this;rw[G]at this⊢;exact this
 |mk u e d x g G V m hs h=>
  obtain rfl:u=o:=X2 (g.symm.trans M);refine QcT M (h rd fr ro σ a w ⟨f,hs.rel hD hO hP,hN,n⟩ ab) (λ_ _ _ q=>J q) (λv w' q=>?_);obtain⟨ro',σ',g1,g2,O,g4,g5,g6⟩:=F q m;refine hK v w' ro' σ' ⟨λy T=>?_,g1,g2,O,g4,g5⟩;obtain rfl:=X2 (V.symm.trans T);have:=g6 d;unfold lk at this;rw[VH]at this;rw[G]at this⊢;exact this
 |unit u e g G V m hs h=>
  obtain rfl:u=o:=X2 (g.symm.trans M);refine QcT M (h rd fr ro σ a w ⟨f,hs.rel hD hO hP,hN,n⟩ ab) (λ_ _ _ q=>J q) (λv w' q=>?_);obtain⟨ro',σ',g1,g2,O,g4,g5,g6⟩:=F q m;refine hK v w' ro' σ' ⟨λy T=>?_,g1,g2,O,g4,g5⟩;obtain rfl:=X2 (V.symm.trans T);rw[G]
 |val u e d x g G hg V aa he h hH=>
  obtain rfl:u=o:=X2 (g.symm.trans M);subst hH;have hr:Rel fr ro σ H e N a w:=by
   refine⟨f,λs=>?_,hN,n⟩;rcases he s with⟨j,x,k,B,h3,L⟩|L|⟨k,L⟩
   .rw[L];exact hD j (by simpa using k) s x B h3
   .rw[L];exact trivial
   .rw[L];exact hO s k
  obtain⟨v0,k,B⟩:=h fr ro σ N a w hr;have hw:Region.wanted u (yielded l.toArray a.tmps)=true:=by unfold Region.wanted;rw[hg]
  refine QcT (R:=λE r w'=>E=.normal/\r.defers=a.defers/\r=a.put u.dst v0/\w'=w) M (Qab hw k ?_) (λ_ _ _ q=>⟨q.1,q.2.1⟩) (λv w' q=>?_)
  .unfold wpL wpListIn;refine⟨rfl,?_,rfl,rfl⟩;rw[G];rfl
  .obtain⟨_,_,q1,rfl⟩:=q;refine hK v _ ro σ ⟨λy T=>?_,f,Qh.refl _ _ _,⟨λ_ q=>q,λ_ _=>rfl,λ_ _ q=>q,λ_ _ q=>q⟩,hh,rfl⟩;obtain rfl:=X2 (V.symm.trans T);rw[q1,G];have X:d<a.tmps.size:=by rw[hN];simpa using aa
   show VR ro σ w' x _;simpa[Act.put,Array.getD_eq_getD_getElem?,X]using B
 |alloc u d t p cs g G hg V hp Y hH h aa=>
  obtain rfl:u=o:=X2 (g.symm.trans M);subst hH;simp only[XZ]at hp;have af:=XU hp.1;have ae:p<hE:=by simpa using hp.2
  have hσp:=hh p af ae Y;obtain⟨lv,k,B,h3⟩:=h ro σ w a;have hw:Region.wanted u (yielded l.toArray a.tmps)=true:=by unfold Region.wanted;rw[hg]
  have ev:Qh fr ro w ro (w.alloc (.cells lv.toArray t)):=Qh.alloc _ f.roLt f.frLt;have ac:p<σ.length:=by rw[f.len];omega
  have W:Ext ro σ w ro (σ.set p (some w.heap.size)) (w.alloc (.cells lv.toArray t)):=⟨ev.sub,ev.keepRo,ev.shape,λj b q=>by
   rw[XS (λz=>by subst z;rw[hσp]at q;cases q)];exact q⟩
  refine QcT (R:=λE r w'=>E=.normal/\r.defers=a.defers/\r=a.put u.dst (.pointer (some ⟨w.heap.size,0,none⟩))/\w'=w.alloc (.cells lv.toArray t)) M (Qab hw k ?_) (λ_ _ _ q=>⟨q.1,q.2.1⟩) (λv w' q=>?_)
  .unfold wpL wpListIn;refine⟨rfl,?_,rfl,rfl⟩;rw[G];rfl
  .obtain⟨_,_,q1,rfl⟩:=q;refine hK v _ ro (σ.set p (some w.heap.size)) ⟨λy T=>?_,f.allocAt hσp ⟨lv,Q9 _ _,B.mono W,h3⟩,ev,W,λp' g1 g2 O=>?_,?_⟩
   .obtain rfl:=X2 (V.symm.trans T);rw[q1,G];have X:d<a.tmps.size:=by rw[hN];simpa using aa
    refine⟨w.heap.size,Xa ac,?_⟩;simp[Act.put,Array.getD_eq_getD_getElem?,X]
   .by_cases q:p'=p
    .subst q;rw[Xa (by omega)]at O;cases O
    .rw[XS (λz=>q z.symm)]at O⊢;exact hh p' g1 g2 O
   .rw[List.take_set,List.set_eq_of_length_le];rw[Xz];omega
def same(a b:List Nat):Bool:=a.all (b.contains ·)&&b.all (a.contains ·)
theorem Qob{a b:List Nat}(h:same a b=true)(i:Nat):i∈a↔i∈b:=by
 unfold same at h;simp only[XZ,Xt,List.contains_iff_mem]at h;exact⟨h.1 i,h.2 i⟩
structure Qn2 (l:List Oper) (m:Nat) (ds:List Nat) (hs:List Bool) (rq ms:List (List Nat)) (pl:List (List (Nat×Nat))) (N:Nat):Prop where
 len:m<=l.length
 dst:∀i o,i<m->l[i]?=some o->(∃d,o.dst=some d/\ds[i]?=some d/\d<N)\/o.dst=none
 dsl:ds.length=m
 nodup:∀(i j d:Nat),ds[i]?=some d->ds[j]?=some d->i=j
 back:∀i o,l[i]?=some o->∀j∈Qj o,j<i
 mid:∀o,l[m]?=some o->∀j,j<m->Qcr l m j
 chain:∀i o,m<i->l[i]?=some o->i-1∈Qj o
 rqs:∀i o,i<m->l[i]?=some o->∀h∈rq.getD i [],h<m/\hs.getD h false=true/\(h∈Qj o\/ ∃j∈Qj o,j<m/\h∈rq.getD j [])
 ms0:ms.getD 0 []=[]
 full:∀st,st<ms.length->st+1=ms.length\/ ∃i,i<m/\hs.getD i false=true/\i∉ms.getD st []
 msh:∀st h,h∈ms.getD st []->h<m/\hs.getD h false=true
 pls:∀i st,i<m->st<ms.length->(∀h∈rq.getD i [],h∈ms.getD st [])->(hs.getD i false=true->i∉ms.getD st [])->(∀h∈ms.getD st [],¬Qcr l h i)->
  ∃st',(st,st')∈pl.getD i []/\st'<ms.length/\if hs.getD i false then∀j,j∈ms.getD st' []↔j=i\/j∈ms.getD st []else st'=st
theorem QkB{α:Type}{l:List α}{i:Nat}{d x:α}(h:l[i]?=some x):l.getD i d=x:=by rw[VN,h];rfl
theorem QiG{P:Program}{l:List Oper}{m:Nat}{ds:List Nat}{hs:List Bool}{rq X:List (List Nat)}{pl:List (List (Nat×Nat))}{N h0 hB hE:Nat}{xs:List A}{env0:Env}{Hs:List Qd}{Hk:Qd}
  (ok:Qn2 l m ds hs rq X pl N)(aq:xs.length=m)(bc:Hs.length=X.length)(aw:h0<=hB)(a7:hB<=hE)(a9:∀H∈Hs,hE<=H.length)
  (ay:∀i p,i<m->p∈pl.getD i []->JB P N l ds xs env0 hB hE i (Hs.getD p.1 []) (Hs.getD p.2 []))(az:Hs.getD (X.length-1) []=Hk)
  {fr ro0:Nat->Prop}{σ0:Sig}{w0:World}{rd:Option Nat}{ds0:List Deferred}{R:Exit->Act->World->Prop}
  (hk:∀ro σ a w,Rel fr ro σ Hk (Qay ds xs env0) N a w->Qh fr ro0 w0 ro w->σ.take h0=σ0.take h0->a.defers=ds0->wpL P rd l.toArray R (l.drop m) a w)(ai:Qdk fr ds0 w0)(a4:Qek rd fr w0):
  ∀(f:Nat) (L:Array Bool) (a:Act) (w:World) (ro:Nat->Prop) (σ:Sig) (t:Nat),
   L.size=l.length->unl L<=f->(∀i,m<=i->¬onL L i)->t<X.length->Sim fr ro σ (Hs.getD t []) w->a.tmps.size=N->a.defers=ds0->
   (∀(i d:Nat) (x:A),onL L i->ds[i]?=some d->xs[i]?=some x->VR ro σ w x (a.tmps.getD d undef))->(∀s,(∀j,ds[j]?=some s->¬onL L j)->VR ro σ w (lk env0 s) (a.tmps.getD s undef))->
   Qh fr ro0 w0 ro w->σ.take h0=σ0.take h0->QkV hB hE σ (Hs.getD t [])->
   (∀i,i<m->onL L i->∀h∈rq.getD i [],onL L h)->(∀i,i<m->hs.getD i false=true->(onL L i↔i∈X.getD t []))->
   (∀i o,onL L i->l[i]?=some o->∀j∈Qj o,onL L j)->
   wpAnyIn (WF rd) 0 P .any l.toArray R f L a w:=by
 have av:∀t,t<X.length->hE<=(Hs.getD t []).length:=by
  intro t h;have e:Hs[t]?=some Hs[t]:=XN (by omega);rw[QkB e];exact a9 _ (Vf _)
 have fin:∀(f:Nat) (L:Array Bool) (a:Act) (w:World) (ro:Nat->Prop) (σ:Sig) (t:Nat),
   L.size=l.length->unl L<=f->(∀i,m<=i->¬onL L i)->t<X.length->Sim fr ro σ (Hs.getD t []) w->a.tmps.size=N->a.defers=ds0->
   (∀(i d:Nat) (x:A),onL L i->ds[i]?=some d->xs[i]?=some x->VR ro σ w x (a.tmps.getD d undef))->(∀s,(∀j,ds[j]?=some s->¬onL L j)->VR ro σ w (lk env0 s) (a.tmps.getD s undef))->
   Qh fr ro0 w0 ro w->σ.take h0=σ0.take h0->
   (∀i,i<m->hs.getD i false=true->(onL L i↔i∈X.getD t []))->(∀i,i<m->onL L i)->
   wpAnyIn (WF rd) 0 P .any l.toArray R f L a w:=by
  intro f L a w ro σ t hsz hu hsuf hst hsim hN hdef hD hE' hev htk hI2 k;have an:t=X.length-1:=by
   rcases ok.full t hst with q|⟨i,O,h2,h3⟩
   .omega
   .exact absurd ((hI2 i O h2).1 (k i O)) h3
  rw[an,az]at hsim;refine Qlp ok.back ok.chain f m L a w hsz (λi hi=>⟨λq=>?_,λq=>k i q⟩) hu (XW _) ok.len ?_
  .rcases VE i m with z|z
   .exact z
   .exact absurd q (hsuf i z)
  .have hr:Rel fr ro σ Hk (Qay ds xs env0) N a w:=by
    refine⟨hsim,λs=>?_,hN,by rw[hdef];exact ai.keep hev⟩;rcases Qoi (env0:=env0) (by rw[ok.dsl,aq]) s with⟨j,x,O,h2,h3⟩|⟨O,h2⟩
    .rw[h3];have b:j<m:=by have:=(XO.1 O).1;rw[ok.dsl]at this;exact this
     exact hD j s x (k j b) O h2
    .rw[h2];exact hE' s (λj q=>absurd (VJ q) (by simpa using O))
   exact hk ro σ a w hr hev htk hdef
 intro f
 induction f with
 |zero=>
  intro L a w ro σ t hsz hu hsuf hst hsim hN hdef hD hE' hev htk hho hI1 hI2 hcl;refine fin 0 L a w ro σ t hsz hu hsuf hst hsim hN hdef hD hE' hev htk hI2 (λi hi=>?_);by_cases q:onL L i
  .exact q
  .have:=Qkh (L:=L) (i:=i) (by have:=ok.len;omega) q;omega
 |succ f ih=>
  intro L a w ro σ t hsz hu hsuf hst hsim hN hdef hD hE' hev htk hho hI1 hI2 hcl;by_cases k:∀i,i<m->onL L i
  .exact fin (f+1) L a w ro σ t hsz hu hsuf hst hsim hN hdef hD hE' hev htk hI2 k
  .have ax:∃i,i<m/\ ¬onL L i:=by
    refine Classical.byContradiction λq=>k λi hi=>Classical.byContradiction λz=>q ⟨i,hi,z⟩
   obtain⟨n,hn,aj⟩:=ax;obtain⟨i0,O,h2,h3⟩:=least (p:=λi=>¬onL L i) (λi=>Classical.em _) n aj;have bb:=ok.len;have ah:l[i0]?=some l[i0]:=XN (by omega);have hr:i0∈Region.ready .any l.toArray L:=(QaK hsz).2 ⟨_,ah,h2,λj b=>Classical.byContradiction λz=>h3 j (ok.back i0 _ ah j b) z⟩;refine⟨λq=>(by rw[q]at hr;cases hr),λi hi=>?_⟩;obtain⟨o,V,Y,M⟩:=(QaK hsz).1 hi;have B:i<m:=by
    rcases VE i m with q|q
    .exact q
    .exfalso;rcases VE m i with z|z
     .exact hsuf (i-1) (by omega) (M _ (ok.chain i o z V))
     .have:i=m:=by omega
      subst this;have a1:∀j,Qcr l i j->onL L j:=by
       intro j b
       induction b with
       |one r b=>rw[V]at r;cases r;exact M _ b
       |step _ r b ihr=>exact hcl _ _ ihr r _ b
      exact aj (a1 n (ok.mid o V n hn))
   have al:∀h∈rq.getD i [],onL L h:=by
    intro h T;obtain⟨_,_,q|⟨j,q1,q2,q3⟩⟩:=ok.rqs i o B V h T
    .exact M h q
    .exact hI1 j q2 (M j q1) h q3
   obtain⟨a8,a3,ar,G⟩:=ok.pls i t B hst (λh T=>by
    obtain⟨q1,q2,_⟩:=ok.rqs i o B V h T;exact(hI2 h q1 q2).1 (al h T)) (λq z=>Y ((hI2 i B q).2 z)) (λh T hR=>by
    obtain⟨q1,q2⟩:=ok.msh t h T;have a6:onL L h:=(hI2 h q1 q2).2 T;have am:∀j,Qcr l h j->onL L j:=by
     intro j b
     induction b with
     |one r b=>exact hcl _ _ a6 r _ b
     |step _ r b ihr=>exact hcl _ _ ihr r _ b
    exact Y (am i hR))
   have hb:=ay i _ B a3;refine hb.use V hsim hN (by rw[hdef];exact ai.keep hev) (a4.to hev λ_ q=>q) hho (av t hst) a7 (λj b s x q1 q2=>hD j s x (M j b) q1 q2) (λs O=>hE' s (λj q=>absurd (VJ q) (by simpa using O))) (λj s O h2=>hE' s (λj' q q'=>?_)) ?_
   .obtain rfl:=ok.nodup j' j s q h2;have b:=Xd.1 (List.contains_iff_mem.1 O);cases ac:l[j']? with
    |none=>rw[ac]at b;simp at b
    |some oj=>
     rw[ac]at b;exact Y (hcl j' oj q' ac i (by simpa using b.2))
   intro v w' ao σ' af;have aa:=af.ext;have ab:∀s,(∀d,o.dst=some d->s≠d)->(a.put o.dst v).tmps.getD s undef=a.tmps.getD s undef:=by
    intro s a5;cases W:o.dst with
    |none=>rfl
    |some d=>
     simp only[Act.put,Array.getD_eq_getD_getElem?,Vg];rw[Vu (λq=>a5 d W q.symm)]
   have ae:(a.put o.dst v).tmps.size=N:=by
    cases W:o.dst with
    |none=>simpa[Act.put]using hN
    |some d=>simpa[Act.put]using hN
   have a0:(a.put o.dst v).defers=ds0:=by
    cases W:o.dst with
    |none=>simpa[Act.put]using hdef
    |some d=>simpa[Act.put]using hdef
   have ba:=QgZ (L:=L) (i:=i) (by omega) Y;have u:i<L.size:=by omega
   have au:∀s j,ds[j]?=some s->j≠i->∀d,o.dst=some d->s≠d:=by
    intro s j b E d W q;subst q;rcases ok.dst i o B V with⟨d',g,Q,ag⟩|g
    .rw[W]at g;cases g;exact E (ok.nodup j i _ b Q)
    .rw[W]at g;cases g
   refine ih _ _ w' ao σ' a8 (by simpa using hsz) (by omega) (λj b q=>?_) ar af.sim ae a0 ?_ ?_ (hev.trans af.ev) ?_ af.holes ?_ ?_ ?_
   .rcases(Ju u).1 q with z|z
    .omega
    .exact hsuf j b z
   .intro j s y b F hy;by_cases E:j=i
    .subst E;have hv:=af.val y hy;rcases ok.dst j o B V with⟨d',g,Q,ag⟩|g
     .obtain rfl:s=d':=X2 (F.symm.trans Q);simp only[g]at hv⊢;exact hv
     .simp only[g]at hv;subst hv;exact trivial
    .rw[ab s (au s j F E)];rcases(Ju u).1 b with z|z
     .exact absurd z E
     .exact(hD j s y z F hy).mono aa
   .intro s F;have a2:∀d,o.dst=some d->s≠d:=by
     rintro d W rfl;rcases ok.dst i o B V with⟨d',g,Q,ag⟩|g
     .rw[W]at g;cases g;exact F i Q ((Ju u).2 (.inl rfl))
     .rw[W]at g;cases g
    rw[ab s a2];exact(hE' s (λj q z=>F j q ((Ju u).2 (.inr z)))).mono aa
   .rw[<- htk];have:=congrArg (List.take h0) af.take;rw[List.take_take,List.take_take,XD aw]at this;exact this
   .intro j b J h T;refine(Ju u).2 (.inr ?_);rcases(Ju u).1 J with z|z
    .subst z;exact al h T
    .exact hI1 j b z h T
   .intro j b J;rw[Ju u];cases q:hs.getD i false with
    |false=>
     have E:j≠i:=by rintro rfl;rw[q]at J;cases J
     rw[q]at G;simp only[Xi,if_false]at G;simp only[E,false_or];rw[G];exact hI2 j b J
    |true=>
     rw[q]at G;simp only[if_true]at G;rw[G j,hI2 j b J]
   .intro j o' b r j' ak;rcases(Ju u).1 b with z|z
    .subst z;rw[V]at r;cases r;exact(Ju u).2 (.inr (M _ ak))
    .exact(Ju u).2 (.inr (hcl j o' z r j' ak))
def Qd5.dstB(N:Nat):Nat->List Oper->List Nat->Bool
 |_,_,[]=>true
 |i,o::r,d::ds=>(match o.dst with|some d'=>Nat.beq d' d&&Nat.blt d N|none=>true)&&Qd5.dstB N (i+1) r ds
 |_,[],_::_=>false
def Qd5.rqB(m:Nat)(hs:List Bool)(rq:List (List Nat)):Nat->List Oper->Bool
 |_,[]=>true
 |i,o::r=>(rq.getD i []).all (λh=>Nat.blt h m&&hs.getD h false&&((Qj o).contains h||(Qj o).any λj=>Nat.blt j m&&(rq.getD j []).contains h))&&Qd5.rqB m hs rq (i+1) r
def Qjj(l:List Oper)(h:Nat):List Nat:=match l[h]? with
 |some o=>QeT l h (Qj o)
 |none=>[]
theorem Qk5{l:List Oper}{h j:Nat}(q:j∈Qjj l h):Qcr l h j:=by
 unfold Qjj at q;cases a:l[h]? with
 |none=>rw[a]at q;cases q
 |some o=>rw[a]at q;exact Qb7 h (Qj o) (λi b=>.one a b) j q
def Qd5.plB(l:List Oper)(m:Nat)(hs:List Bool)(rq ms:List (List Nat))(pl:List (List (Nat×Nat))):Bool:=
 (List.range m).all λi=>(List.range ms.length).all λst=>((ms.getD st []).any λh=>(Qjj l h).contains i)|| !(rq.getD i []).all ((ms.getD st []).contains ·)||(hs.getD i false&&(ms.getD st []).contains i)||
  (pl.getD i []).any λp=>Nat.beq p.1 st&&Nat.blt p.2 ms.length&&(bif hs.getD i false then same (ms.getD p.2 []) (i::ms.getD st [])else Nat.beq p.2 st)
def Qd5(l:List Oper)(m N:Nat)(ds:List Nat)(hs:List Bool)(rq ms:List (List Nat))(pl:List (List (Nat×Nat))):Bool:=
 Nat.ble m l.length&&(ds.length==m)&&Qd5.dstB N 0 l ds&&drawChk.nodupB ds&&drawChk.goB l m 0 l&&Qd5.rqB m hs rq 0 l&&(ms.getD 0 []).isEmpty&&Nat.blt 0 ms.length
 &&((List.range ms.length).all λst=>Nat.beq (st+1) ms.length||(List.range m).any λi=>hs.getD i false&& !(ms.getD st []).contains i)&&Qd5.plB l m hs rq ms pl&&(List.range ms.length).all λst=>(ms.getD st []).all λh=>Nat.blt h m&&hs.getD h false
theorem QgD{N:Nat}:∀(l:List Oper) (a:List Nat) (b:Nat),Qd5.dstB N b l a=true->∀(i d:Nat) (o:Oper),l[i]?=some o->a[i]?=some d->
  (o.dst=some d/\d<N)\/o.dst=none:=by
 intro l
 induction l with
 |nil=>intro a b h i d o f;simp at f
 |cons x r k=>
  intro a b h i d o f g;cases a with
  |nil=>simp at g
  |cons y a=>
   simp only[Qd5.dstB,XZ]at h;cases i with
   |zero=>
    simp at f g;subst f;subst g;have h:=h.1;split at h
    .rename_i m j;simp only[XZ]at h;have e:=XT h.1;subst e;exact .inl ⟨j,by simpa using h.2⟩
    .rename_i j;exact .inr j
   |succ i=>
    have:=k a (b+1) h.2 i d o (by simpa using f) (by simpa using g);exact this
theorem Qmj{m:Nat}{e:List Bool}{d:List (List Nat)}:∀(l:List Oper) (b:Nat),Qd5.rqB m e d b l=true->∀(i:Nat) (o:Oper),l[i]?=some o->
  ∀h∈d.getD (b+i) [],h<m/\e.getD h false=true/\(h∈Qj o\/ ∃j∈Qj o,j<m/\h∈d.getD j []):=by
 intro l
 induction l with
 |nil=>intro b h i o a;simp at a
 |cons x r t=>
  intro b h i o a;simp only[Qd5.rqB,XZ]at h;cases i with
  |zero=>
   simp at a;subst a;intro k f;have:=Xt.1 h.1 k (by simpa using f);simp only[XZ,Bool.or_eq_true,List.contains_iff_mem,Xu]at this;obtain⟨⟨w,s⟩,g⟩:=this;refine⟨by simpa using w,s,?_⟩;rcases g with q|⟨j,p,n,u⟩
   .exact .inl q
   .exact .inr ⟨j,p,by simpa using n,u⟩
  |succ i=>
   have:=t (b+1) h.2 i o (by simpa using a);rw[show b+1+i=b+(i+1)by omega]at this;exact this
theorem Qnn{l:List Oper}{m N:Nat}{r:List Nat}{x:List Bool}{E t:List (List Nat)}{H:List (List (Nat×Nat))}(h:Qd5 l m N r x E t H=true):
  Qn2 l m r x E t H N/\0<t.length:=by
 unfold Qd5 at h;simp only[XZ]at h;obtain⟨⟨⟨⟨⟨⟨⟨⟨⟨⟨R,h2⟩,M⟩,h4⟩,Y⟩,V⟩,L⟩,P⟩,J⟩,F⟩,y⟩:=h;have B:m<=l.length:=XU R;have G:r.length=m:=by simpa using h2
 have g:=Qid l 0 Y;refine⟨⟨B,λi o s b=>?_,G,QdX h4,λi o b=>by have:=(g i o b).1;simpa using this,λo b j T=>Qb7 m (Qj o) (λi s=>.one b s) j ((g m o b).2.1 (by omega) j T),
  λi o s b=>by have:=(g i o b).2.2 (by omega);simpa using this,λi o s b h d=>by have:=Qmj l 0 V i o b h (by simpa using d);exact this,
  by simpa using L,λk a=>?_,λk h d=>?_,λi k s a O W Q=>?_⟩,by simpa using P⟩
 .have u:r[i]?=some r[i]:=XN (by omega);rcases QgD l r 0 M i _ o b u with⟨n,w⟩|n
  .exact .inl ⟨_,n,u,w⟩
  .exact .inr n
 .have:=Xt.1 J k (List.mem_range.2 a);simp only[Bool.or_eq_true,Xu,XZ,Bool.not_eq_true']at this;rcases this with q|⟨i,n,w,f⟩
  .exact .inl (XT q)
  .exact .inr ⟨i,List.mem_range.1 n,w,λz=>by rw[List.contains_iff_mem.2 z]at f;cases f⟩
 .have a:k<t.length:=by
   rcases VE k t.length with q|q
   .exact q
   .rw[VN,XR q]at d;cases d
  have:=Xt.1 (Xt.1 y k (List.mem_range.2 a)) h d;simp only[XZ]at this;exact⟨by simpa using this.1,this.2⟩
 .have:=Xt.1 (Xt.1 F i (List.mem_range.2 s)) k (List.mem_range.2 a);simp only[Bool.or_eq_true,Bool.not_eq_true']at this;rcases this with((q|q)|q)|q
  .exfalso;obtain⟨h,d,q⟩:=Xu.1 q;exact Q h d (Qk5 (List.contains_iff_mem.1 q))
  .exfalso;have:((E.getD i []).all ((t.getD k []).contains ·))=true:=Xt.2 λh d=>List.contains_iff_mem.2 (O h d);rw[this]at q;cases q
  .simp only[XZ]at q;exact absurd (List.contains_iff_mem.1 q.2) (W q.1)
  .obtain⟨p,X,q⟩:=Xu.1 q;simp only[XZ]at q;obtain⟨⟨n,w⟩,f⟩:=q;have e:=XT n;refine⟨p.2,by rw[<- e];exact X,by simpa using w,?_⟩;cases z:x.getD i false with
   |true=>
    rw[z]at f;simp only[Vr]at f;simp only[if_true];intro j;rw[Qob f j,X8]
   |false=>
    rw[z]at f;simp only[Vs]at f;simp only[Xi,if_false];exact XT f
inductive QhE (P:Program) (N:Nat) (l:List Oper) (ds:List Nat) (xs:List A) (env0:Env) (hB hE:Nat):Nat->List (List (Qd×Qd))->Prop
 |nil {i:Nat}:QhE P N l ds xs env0 hB hE i []
 |cons {i:Nat} {s:List (Qd×Qd)} {r:List (List (Qd×Qd))} (h:∀p∈s,JB P N l ds xs env0 hB hE i p.1 p.2) (k:QhE P N l ds xs env0 hB hE (i+1) r):QhE P N l ds xs env0 hB hE i (s::r)
theorem QhE.get{P:Program}{N:Nat}{l:List Oper}{e:List Nat}{xs:List A}{env0:Env}{hB hE b:Nat}{d:List (List (Qd×Qd))}(h:QhE P N l e xs env0 hB hE b d):
  ∀(i:Nat) (s:List (Qd×Qd)),d[i]?=some s->∀p∈s,JB P N l e xs env0 hB hE (b+i) p.1 p.2:=by
 induction h with
 |nil=>intro i s h;simp at h
 | @cons b s0 r h _ ih=>
  intro i s a;cases i with
  |zero=>simp at a;subst a;exact h
  |succ i=>
   have:=ih i s (by simpa using a);rw[show b+1+i=b+(i+1)by omega]at this;exact this
theorem Qe{P:Program}{N:Nat}{l:List Oper}{b:List Nat}{xs:List A}{env0:Env}{hB hE i:Nat}:∀p∈([]:List (Qd×Qd)),JB P N l b xs env0 hB hE i p.1 p.2:=by
 intro p a;cases a
theorem Qc{P:Program}{N:Nat}{l:List Oper}{a:List Nat}{xs:List A}{env0:Env}{hB hE i:Nat}{H H':Qd}{r:List (Qd×Qd)}(h:JB P N l a xs env0 hB hE i H H')
  (k:∀p∈r,JB P N l a xs env0 hB hE i p.1 p.2):∀p∈(H,H')::r,JB P N l a xs env0 hB hE i p.1 p.2:=by
 intro p b;rcases X8.1 b with rfl|q
 .exact h
 .exact k p q
theorem Qg5{P:Program}{h0 N:Nat}{id:Nat}{l:List Oper}{env:Env}{H:Qd}{fr ro:Nat->Prop}{σ:Sig}{a:Act}{w:World}{rd:Option Nat}{R:Exit->Act->World->Prop}(m c:Nat)(V:List Nat)(hs:List Bool)(rq ms:List (List Nat))(O:List (List (Nat×Nat)))(xs:List A)(Hs:List Qd)(Hk:Qd)
  (hm:P.follows .mixedOrders=true)(hc:Qd5 l m N V hs rq ms O=true)(Y:Nat.beq xs.length m=true)(ac:Nat.beq Hs.length ms.length=true)(ab:Nat.ble h0 H.length=true)
  (hh:Hs.all (λX=>Nat.ble (H.length+c) X.length)=true)(T:Hs[0]?=some (H++List.replicate c .dead))(ag:Hs.getD (ms.length-1) []=Hk)
  (ae:QhE P N l V xs env H.length (H.length+c) 0 (O.map λq=>q.map λp=>(Hs.getD p.1 [],Hs.getD p.2 [])))(W:Nat.beq O.length m=true)
  (r:Rel fr ro σ H env N a w)(aa:Qek rd fr w)
  (hk:∀ro' σ' a' w',Rel fr ro' σ' Hk (Qay V xs env) N a' w'->Qh fr ro w ro' w'->σ'.take h0=σ.take h0->a'.defers=a.defers->wpL P rd l.toArray R (l.drop m) a' w'):(Code.region id l.toArray true).wpIn (WF rd) 0 P R a w:=by
 obtain⟨ok,M⟩:=Qnn hc;have B:=XT Y;have G:=XT ac;have ah:=XT W;have J:Qh fr ro w ro {w with drawn:=w.drawn+1}:=⟨λ_ q=>q,λ_ _=>rfl,λ_ _=>rfl,XW _,λ_ _ q=>q,rfl,rfl,rfl,Nat.le_succ _⟩;have u:Ext ro σ w ro (σ++List.replicate c none) {w with drawn:=w.drawn+1}:=J.ext σ _;have af:=r.sim.len;have F:Hs.getD 0 []=H++List.replicate c .dead:=QkB T;have k:∀(i:Nat) (s:Option Nat) (x:Blk),(σ++List.replicate c none)[i]?=some s->(H++List.replicate c Blk.dead)[i]?=some x->(σ[i]?=some s/\H[i]?=some x)\/(s=none/\x=.dead):=by
  intro i s x h n;rcases VE i σ.length with q|q
  .rw[XP q]at h;rw[XP (by omega)]at n;exact .inl ⟨h,n⟩
  .rw[XQ q]at h;rw[XQ (by omega)]at n;have a1:=VJ h;have a2:=VJ n;exact .inr ⟨(List.mem_replicate.1 a1).2,(List.mem_replicate.1 a2).2⟩
 have E:Sim fr ro (σ++List.replicate c none) (H++List.replicate c .dead) {w with drawn:=w.drawn+1}:=by
  refine⟨by simp[af],r.sim.roOk.to (λ_ q=>q) (λ_ _=>rfl) r.sim.roLt,r.sim.frLt,r.sim.roFr,?_,?_,?_,
   r.sim.hidTo (· = ·) QZ (XW _) (λ_ _ _ _ _ _ _ q=>q) (λ_ _ _ _ _ _ _ q=>q) λj d y g1 g2 g3=>.inl ?_⟩
  rotate_left 3
  .rcases k j _ _ g1 g2 with⟨g,t⟩|⟨g,_⟩
   .exact⟨j,y,rfl,g,t,(λz=>z),λc q=>q⟩
   .cases g
  .intro i b blk h n Q;rcases k i _ _ h n with⟨g,t⟩|⟨g,_⟩
   .exact r.sim.own i b blk g t Q
   .cases g
  .intro i j b x y h n Q h4 h5 h6;rcases k i _ _ h Q with⟨g,t⟩|⟨g,_⟩
   .rcases k j _ _ n h4 with⟨q3,q4⟩|⟨q3,_⟩
    .exact r.sim.inj i j b x y g q3 t q4 h5 h6
    .cases q3
   .cases g
  .intro i s x h n;rcases k i _ _ h n with⟨g,t⟩|⟨g,t⟩
   .exact BR.keep u (λb hb _=>rfl) (r.sim.blk i s x g t) (λ_ _ _ _=>rfl)
   .subst t;exact trivial
 have f:∀i,¬onL (Array.replicate l.length false) i:=by
  intro i q;unfold onL at q;rw[Array.getElem?_replicate]at q;split at q<;>simp at q
 have L:=XU ab;refine wpIn_region_any hm ?_;rw[List.size_toArray];refine QiG ok B G L (Nat.le_add_right _ _) (λX hX=>XU (Xt.1 hh X hX)) ?_ ag (ro0:=ro) (σ0:=σ) (w0:=w) (ds0:=a.defers) hk r.defers aa
  l.length _ a _ ro (σ++List.replicate c none) 0 (by simp) ?_ (λi _=>f i) M (by rw[F];exact E) r.size rfl (λi d x q=>absurd q (f i)) (λs _=>(r.env s).mono u) J (Qv (by omega)) ?_
  (λi _ q=>absurd q (f i)) (λi _ _=>⟨λq=>absurd q (f i),λq=>by rw[ok.ms0]at q;cases q⟩) (λi o q=>absurd q (f i))
 .intro i p hi hp;have e:(O.map λq=>q.map λp=>(Hs.getD p.1 [],Hs.getD p.2 []))[i]?=some ((O.getD i []).map λp=>(Hs.getD p.1 [],Hs.getD p.2 [])):=by
   rw[Xp,XN (by omega),VN,XN (by omega)];rfl
  have:=ae.get i _ e _ (Xe.2 ⟨p,hp,rfl⟩);simpa using this
 .unfold unl;simp[List.countP_replicate]
 .intro p h n Q;rw[XQ (by omega),List.getElem?_replicate,Vv (by omega)]
theorem YV{P:Program}{h0 N:Nat}{id:Nat}{l:List Oper}{env:Env}{H:Qd}{Q:QB}(m c:Nat)(d:List Nat)(u:List Bool)(x g:List (List Nat))(f:List (List (Nat×Nat)))(xs:List A)(Hs:List Qd)(Hk:Qd)
  (G:P.follows .mixedOrders=true)(B:Qd5 l m N d u x g f=true)(n:Nat.beq xs.length m=true)(j:Nat.beq Hs.length g.length=true)(i:Nat.ble h0 H.length=true)
  (E:Hs.all (λX=>Nat.ble (H.length+c) X.length)=true)(h:Hs[0]?=some (H++List.replicate c .dead))(t:Hs.getD (g.length-1) []=Hk)
  (s:QhE P N l d xs env H.length (H.length+c) 0 (f.map λq=>q.map λp=>(Hs.getD p.1 [],Hs.getD p.2 [])))(k:Nat.beq f.length m=true)
  (y:WO P h0 N l.toArray (l.drop m) (Qay d xs env) Hk Q):TC P h0 N (.region id l.toArray true) env H Q:=by
 intro z F J σ a w r hrd;refine Code.wpIn_mono (λe a w q=>Qb3.postW q) (Qg5 m c d u x g f xs Hs Hk G B n j i E h t s k r hrd λro' σ' a' w' hr hev htk hdf=>?_);have b:=y z F ro' σ' a' w' hr (hrd.to hev λ_ q=>q);rw[hdf]at b;exact Yj (λe a w q=>q.step hev htk) _ _ _ b
def draw0(l:List Oper)(m N:Nat)(ds:List Nat):Bool:=Nat.ble m l.length&&(ds.length==m)&&Qd5.dstB N 0 l ds&&drawChk.nodupB ds&&drawChk.goB l m 0 l
inductive Oq (P:Program) (N:Nat) (l:List Oper) (ds:List Nat) (xs:List A) (env0:Env) (H:Qd):Nat->Nat->Prop
 |n {i:Nat}:Oq P N l ds xs env0 H i 0
 |c {i c:Nat} (h:JB P N l ds xs env0 H.length H.length i H H) (k:Oq P N l ds xs env0 H (i+1) c):Oq P N l ds xs env0 H i (c+1)
theorem Oq.get{P:Program}{N:Nat}{l:List Oper}{a:List Nat}{xs:List A}{env0:Env}{H:Qd}{b c:Nat}(h:Oq P N l a xs env0 H b c):∀i,i<c->JB P N l a xs env0 H.length H.length (b+i) H H:=by
 induction h with
 |n=>intro i d;omega
 | @c b c h _ ih=>
  intro i d;cases i with
  |zero=>exact h
  |succ i=>
   have:=ih i (by omega);rw[show b+1+i=b+(i+1)by omega]at this;exact this
theorem Qno{l:List Oper}{m N:Nat}{e:List Nat}(h:draw0 l m N e=true):Qn2 l m e [] [] [[]] (List.replicate m [(0,0)]) N:=by
 unfold draw0 at h;simp only[XZ]at h;obtain⟨⟨⟨⟨w,t⟩,y⟩,z⟩,s⟩:=h;have r:m<=l.length:=XU w;have p:e.length=m:=by simpa using t
 have g:=Qid l 0 s;refine⟨r,λi o d b=>?_,p,QdX z,λi o b=>by have:=(g i o b).1;simpa using this,λo b j x=>Qb7 m (Qj o) (λi d=>.one b d) j ((g m o b).2.1 (by omega) j x),
  λi o d b=>by have:=(g i o b).2.2 (by omega);simpa using this,λi o d b h n=>by simp at n,rfl,λk a=>.inl (by simp at a;simp[a]),λk h n=>by cases k<;>simp at n,λi k d a _ _ _=>?_⟩
 .have f:e[i]?=some e[i]:=XN (by omega);rcases QgD l e 0 y i _ o b f with⟨q,u⟩|q
  .exact .inl ⟨_,q,f,u⟩
  .exact .inr q
 .have:k=0:=by simp at a;exact a
  subst this;refine⟨0,?_,by simp,by simp⟩;rw[VN,List.getElem?_replicate,Vv d];exact VD.2 rfl
theorem Qg6{P:Program}{h0 N:Nat}{id:Nat}{l:List Oper}{env:Env}{H:Qd}{fr ro:Nat->Prop}{σ:Sig}{a:Act}{w:World}{rd:Option Nat}{R:Exit->Act->World->Prop}(m:Nat)(u:List Nat)(xs:List A)
  (F:P.follows .mixedOrders=true)(B:Go.Sw.draw0 l m N u=true)(j:Nat.beq xs.length m=true)(k:Nat.ble h0 H.length=true)
  (n:Oq P N l u xs env H 0 m)(r:Rel fr ro σ H env N a w)(t:Qek rd fr w)
  (E:∀ro' σ' a' w',Rel fr ro' σ' H (Qay u xs env) N a' w'->Qh fr ro w ro' w'->σ'.take h0=σ.take h0->a'.defers=a.defers->wpL P rd l.toArray R (l.drop m) a' w'):(Code.region id l.toArray true).wpIn (WF rd) 0 P R a w:=by
 have ok:=Qno B;have e:=XT j;have g:Qh fr ro w ro {w with drawn:=w.drawn+1}:=⟨λ_ q=>q,λ_ _=>rfl,λ_ _=>rfl,XW _,λ_ _ q=>q,rfl,rfl,rfl,Nat.le_succ _⟩;have f:Ext ro σ w ro σ {w with drawn:=w.drawn+1}:=g.ext0 σ;have h:Sim fr ro σ H {w with drawn:=w.drawn+1}:=r.sim.heap rfl;have b:∀i,¬onL (Array.replicate l.length false) i:=by
  intro i q;unfold onL at q;rw[Array.getElem?_replicate]at q;split at q<;>simp at q
 refine wpIn_region_any F ?_;rw[List.size_toArray];refine QiG (hB:=H.length) (hE:=H.length) (Hs:=[H]) (Hk:=H) ok e rfl (XU k) (XW _) (λX hX=>by rw[VD.1 hX];exact XW _) ?_ rfl (ro0:=ro) (σ0:=σ) (w0:=w) (ds0:=a.defers) E r.defers t
  l.length _ a _ ro σ 0 (by simp) ?_ (λi _=>b i) (by simp) h r.size rfl (λi d x q=>absurd q (b i)) (λs _=>(r.env s).mono f) g rfl (λp J G=>by omega)
  (λi _ q=>absurd q (b i)) (λi _ _=>⟨λq=>absurd q (b i),λq=>by cases q⟩) (λi o q=>absurd q (b i))
 .intro i p z y;rw[VN,List.getElem?_replicate,Vv z]at y;obtain rfl:=VD.1 y;have:=n.get i z;rw[Xx]at this;exact this
 .unfold unl;simp[List.countP_replicate]
theorem TC.draw0{P:Program}{h0 N:Nat}{id:Nat}{l:List Oper}{env:Env}{H:Qd}{Q:QB}(m:Nat)(d:List Nat)(xs:List A)
  (p:P.follows .mixedOrders=true)(i:Go.Sw.draw0 l m N d=true)(f:Nat.beq xs.length m=true)(g:Nat.ble h0 H.length=true)
  (h:Oq P N l d xs env H 0 m)(j:WO P h0 N l.toArray (l.drop m) (Qay d xs env) H Q):TC P h0 N (.region id l.toArray true) env H Q:=by
 intro n k s σ a w r hrd;refine Code.wpIn_mono (λe a w q=>Qb3.postW q) (Qg6 m d xs p i f g h r hrd λro' σ' a' w' hr hev htk hdf=>?_);have b:=j n k ro' σ' a' w' hr (hrd.to hev λ_ q=>q);rw[hdf]at b;exact Yj (λe a w q=>q.step hev htk) _ _ _ b
section
variable {P:Program} {N:Nat} {l:List Oper} {ds af bf:List Nat} {xs:List A} {env0 e r:Env} {H H':Qd} {i hB hE:Nat} {o:Oper} {d s:Nat} {x a:A}
theorem sN:Sb af bf ds xs env0 []:=.nil
theorem sD(j:Nat)(k:Sb af bf ds xs env0 r)(b:af.contains j=true:=by exact rfl)(h2:ds[j]?=some s:=by exact rfl)(h3:xs[j]?=some a:=by exact rfl):Sb af bf ds xs env0 ((s,a)::r):=.dep j b h2 h3 k
theorem sP(j:Nat)(k:Sb af bf ds xs env0 r)(b:bf.contains j=true:=by exact rfl)(h2:ds[j]?=some s:=by exact rfl)(h3:lk env0 s=a:=by exact rfl):Sb af bf ds xs env0 ((s,a)::r):=.pre j b h2 h3 k
theorem sO(s:Nat)(k:Sb af bf ds xs env0 r)(b:ds.contains s=false:=by exact rfl)(h2:lk env0 s=a:=by exact rfl):Sb af bf ds xs env0 ((s,a)::r):=.old b h2 k
theorem Qd6(H:Qd):Qaw hB hE H H=true:=by
 unfold Qaw;refine Xt.2 λp _=>?_;cases QcC H[hB+p]? <;>rfl
theorem Om(b:l[i]?=some o)(f:Sb (Qj o) (QjP l i) ds xs env0 e)(h:WO P H.length N l.toArray [o] e H (Y5 (up e d x) H))(a:o.dst=some d:=by exact rfl)(hx:xs[i]?=some x:=by exact rfl):JB P N l ds xs env0 hB hE i H H:=
 .mk o e d x b a hx (Qd6 H) f h
theorem Om1(b:l[i]?=some o)(f:Sb (Qj o) (QjP l i) ds xs env0 e)(h:WO P H.length N l.toArray [o] e H (Y5 (up e d x) H'))(a:o.dst=some d:=by exact rfl)(hx:xs[i]?=some x:=by exact rfl)(hdd:Qaw hB hE H H'=true:=by exact rfl):JB P N l ds xs env0 hB hE i H H':=
 .mk o e d x b a hx hdd f h
theorem Om2(b:l[i]?=some o)(d:Sb (Qj o) (QjP l i) ds xs env0 e)(h:WO P H.length N l.toArray [o] e H (Y5 e H'))(a:o.dst=none:=by exact rfl)(hx:xs[i]?=some .any:=by exact rfl)(hdd:Qaw hB hE H H'=true:=by exact rfl):JB P N l ds xs env0 hB hE i H H':=
 .unit o e b a hx hdd d h
end
end Go.Sw
namespace Go.Sw
structure TyI where
 fld:List (Nat×Nat×Nat)
 agg:List (Nat×Bool×Nat)
 zer:List (Nat×List A×List (Nat×Nat))
structure TyOK (P:Program) (T:TyI):Prop where
 fld:∀e∈T.fld,∃n,QM P e.1 e.2.1 e.2.2 n
 agg:∀e∈T.agg,(∀w,(isAgg e.1).run P w=.ok e.2.1 w)/\ ∀w,(sizeOf e.1).run P w=.ok e.2.2 w
 zer:∀e∈T.zer,(∃z,(∀w,(zeroValue e.1).run P w=.ok z w)/\ZR (.agg e.2.1) z)/\QC P e.1 e.2.2
def Qii:List (Nat×Nat×Nat)->Nat->Nat->Option Nat
 |[],_,_=>none
 |(a,b,c)::r,t,f=>bif Nat.beq a t&&Nat.beq b f then some c else Qii r t f
def Qci{β:Type}:List (Nat×β)->Nat->Option β
 |[],_=>none
 |(a,b)::r,t=>bif Nat.beq a t then some b else Qci r t
theorem Qih{l:List (Nat×Nat×Nat)}{t f c:Nat}(h:Qii l t f=some c):(t,f,c)∈l:=by
 induction l with
 |nil=>cases h
 |cons x r i=>
  obtain⟨a,b,d⟩:=x;unfold Qii at h;cases q:(Nat.beq a t&&Nat.beq b f)with
  |true=>
   rw[q]at h;simp only[XZ]at q;have e:=XT q.1;have g:=XT q.2;simp only[Vr,Option.some.injEq]at h;subst e g h;exact .head _
  |false=>rw[q]at h;exact .tail _ (i h)
theorem QaA{β:Type}{l:List (Nat×β)}{t:Nat}{c:β}(h:Qci l t=some c):(t,c)∈l:=by
 induction l with
 |nil=>cases h
 |cons x r e=>
  obtain⟨a,b⟩:=x;unfold Qci at h;cases q:Nat.beq a t with
  |true=>
   rw[q]at h;have d:=XT q;simp only[Vr,Option.some.injEq]at h;subst d h;exact .head _
  |false=>rw[q]at h;exact .tail _ (e h)
def Qhv(H:Qd):A->Option (List A)
 |.rp cs=>some cs
 |.ptr i off=>match H[i]? with
  |some (.cells _ cs)=>some (cs.drop off)
  |_=>none
 |_=>none
theorem QjK{H:Qd}{p:A}{cs:List A}(h:Qhv H p=some cs):Pts H p cs:=by
 unfold Qhv at h;split at h
 .cases h;exact Pts.rp
 .split at h
  .rename_i a;cases h;exact Pts.cells a rfl
  .cases h
 .cases h
def Qma(T:TyI)(o:Oper)(env:Env)(H:Qd):Option A:=
 match o.op with
 |.move x=>some (opA env x)
 |.assign x=>some (opA env x)
 |.fieldAddr t x f=>match Qii T.fld t f with
  |none=>none
  |some off=>match opA env x with
   |.ptr i p=>some (.ptr i (p+off))
   |.rp cs=>some (.rp (cs.drop off))
   |_=>none
 |.load t x=>match Qci T.agg t with
  |none=>none
  |some (b,n)=>match x with
   |.global g=>match Qjt[g]? with
    |some zs=>bif b&&Nat.beq zs.length n then some (.agg (zs.map (A.int .i64)))else none
    |none=>none
   |x=>match Qhv H (opA env x)with
    |none=>none
    |some cs=>bif b then(bif Nat.beq (cs.take n).length n then some (.agg (cs.take n))else none)else cs.head?
 |.build t parts=>match Qci T.zer t with
  |none=>none
  |some (zs,pl)=>match Qd3 env pl zs parts.toList with
   |some cs=>some (.agg cs)
   |none=>none
 |.extract x i=>match opA env x with
  |.tup vs=>vs[i]?
  |_=>none
 |.makeFunc f first cap=>some (.fn f (first.toList.map (opA env)) (cap.toList.map (opA env)))
 |_=>none
theorem Ql9{P:Program}{T:TyI}(m:TyOK P T){o:Oper}{env:Env}{H:Qd}{x:A}(h:Qma T o env H=some x):OpV P o env H x:=by
 unfold Qma at h;split at h
 .rename_i y a;cases h;exact OpV.move a rfl
 .rename_i y a;cases h;exact OpV.assign a rfl
 .rename_i t y f a;split at h
  .cases h
  .rename_i J l;obtain⟨n,u⟩:=m.fld _ (Qih l);split at h
   .rename_i i p d;cases h;exact Yr u a d
   .rename_i j d;cases h;exact Qw u a d rfl
   .cases h
 .rename_i t y a;split at h
  .cases h
  .rename_i b n L;obtain⟨e,k⟩:=m.agg _ (QaA L);split at h
   .rename_i g;split at h
    .rename_i s E;cases q:(b&&Nat.beq s.length n)with
     |false=>rw[q]at h;cases h
     |true=>
      rw[q]at h;cases h;simp only[XZ]at q;obtain⟨rfl,F⟩:=q;exact QgM e k E (XT F) a
    .cases h
   .split at h
    .cases h
    .rename_i j w;have r:=QjK w;cases b with
     |true=>
      simp only[Vr]at h;cases q:Nat.beq (j.take n).length n with
      |false=>rw[q]at h;cases h
      |true=>
       rw[q]at h;cases h;exact Qk a e k rfl r rfl (XT q)
     |false=>
      simp only[Vs]at h;cases j with
      |nil=>cases h
      |cons v j=>cases h;exact OpV.load a e rfl r
 .rename_i t parts a;split at h
  .cases h
  .rename_i s M B;obtain⟨⟨z,e,k⟩,G⟩:=m.zer _ (QaA B);split at h
   .rename_i j l;cases h;exact OpV.build e k G (by rw[a]) l
   .cases h
 .rename_i y i a;split at h
  .rename_i vs d;exact OpV.extract a d h
  .cases h
 .rename_i f first cap a
  cases h;exact OpV.makeFunc (first:=first.toList) (cap:=cap.toList) (by rw[a]) rfl rfl
 .cases h
def QiF(af:List Nat):Nat->List Nat->List A->Env->Env
 |j,d::ds,x::xs,e=>(d,bif af.contains j then x else .any)::QiF af (j+1) ds xs e
 |_,_,_,e=>e
theorem QoB{af:List Nat}{env0:Env}(s:Nat):∀(a:List Nat) (xs:List A) (b:Nat),a.length=xs.length->
  (∃(j:Nat) (x:A),a[j]?=some s/\xs[j]?=some x/\lk (QiF af b a xs env0) s=bif af.contains (b+j)then x else .any)\/(a.contains s=false/\lk (QiF af b a xs env0) s=lk env0 s):=by
 intro a
 induction a with
 |nil=>intro xs b i;right;exact⟨rfl,by unfold QiF;rfl⟩
 |cons d a l=>
  intro xs b i;cases xs with
  |nil=>cases i
  |cons x xs=>
   cases q:Nat.beq s d with
   |true=>
    have e:=XT q;subst e;left;refine⟨0,x,rfl,rfl,?_⟩;simp only[QiF,lk,q,Vr];rfl
   |false=>
    have f:s≠d:=λz=>by subst z;simp[VH]at q
    simp only[QiF,lk,q,Vs];rcases l xs (b+1) (by simpa using i)with⟨j,y,h,g,k⟩|⟨h,g⟩
    .left;refine⟨j+1,y,by simpa using h,by simpa using g,?_⟩;rw[show b+(j+1)=b+1+j by omega];exact k
    .right;refine⟨?_,g⟩;rw[List.contains_cons,h];simpa using f
def Qki(T:TyI)(N:Nat)(l:List Oper)(ds:List Nat)(xs:List A)(env0:Env)(H:Qd)(i:Nat):Option A:=
 match l[i]? with
 |none=>none
 |some o=>match o.guard,o.dst with
  |none,some d=>bif Nat.blt d N&&Nat.beq ds.length xs.length then Qma T o (QiF (Qj o) 0 ds xs env0) H else none
  |_,_=>none
theorem QoA{af b:List Nat}{xs:List A}{env0:Env}(hl:b.length=xs.length):QnZ af b xs env0 (QiF af 0 b xs env0):=by
 intro s;rcases QoB (af:=af) (env0:=env0) s b xs 0 hl with⟨j,x,e,d,a⟩|h
 .rw[Xx]at a;cases q:af.contains j with
  |true=>rw[q]at a;exact .inl ⟨j,x,q,e,d,a⟩
  |false=>rw[q]at a;exact .inr (.inl a)
 .exact .inr (.inr h)
theorem vQ{P:Program}{T:TyI}(e:TyOK P T){N:Nat}{l:List Oper}{a:List Nat}{xs:List A}{env0:Env}{hB hE i:Nat}{H:Qd}{x:A}(j:xs[i]?=some x)(h:Qki T N l a xs env0 H i=some x):JB P N l a xs env0 hB hE i H H:=by
 unfold Qki at h;split at h
 .cases h
 .rename_i o f;split at h
  .rename_i d b g;cases q:(Nat.blt d N&&Nat.beq a.length xs.length)with
   |false=>rw[q]at h;cases h
   |true=>
    rw[q]at h;simp only[XZ]at q;exact .val o _ d x f g b j q.1 (QoA (XT q.2)) (Ql9 e h)
  .cases h
abbrev I(n:Int):A:=.int .i64 n
theorem zc{a:A}{v:Value}{al:List A}{vl:List Value}(h:ZR a v)(k:ZL al vl):ZL (a::al) (v::vl):=ZL.cons h k
def zr1:A->Value->Bool
 |.int k n,.int k' n'=>decide (k=k')&&decide (n=n')
 |.bool b,.bool b'=>b==b'
 |.str s,.string s'=>s.isEmpty&&s'.data.toList.isEmpty
 |.rsl _ es,.slice none 0 0=>es.isEmpty
 |.nils,.slice none 0 0=>true
 |.nilp,.pointer none=>true
 |.nilf,.nilFunc=>true
 |.nilm,.map none=>true
 |.nilif,.nilIface=>true
 |_,_=>false
def zrL:List A->List Value->Bool
 |[],[]=>true
 |a::r,v::s=>zr1 a v&&zrL r s
 |_,_=>false
def zrB:A->Value->Bool
 |.agg r,.agg s=>zrL r s.toList
 |a,v=>zr1 a v
theorem Ql1{a:A}{v:Value}(h:zr1 a v=true):ZR a v:=by
 unfold zr1 at h;split at h
 .simp only[XZ,Vt]at h;obtain⟨rfl,rfl⟩:=h;exact ZR.int
 .simp only[VA]at h;subst h;exact ZR.bool
 .rename_i s g;simp only[XZ,List.isEmpty_iff]at h;obtain⟨rfl,b⟩:=h;obtain⟨d⟩:=g;obtain⟨d⟩:=d;have b:d=[]:=b;subst b;exact ZR.str
 .rename_i k f;have h:f=[]:=List.isEmpty_iff.1 h;subst h;exact ZR.rsl (α:=A) (e:=λx=>[x])
 .exact ZR.nils
 .exact ZR.nilp
 .exact ZR.nilf
 .exact ZR.nilm
 .exact QoG
 .cases h
theorem Ql0:∀{r:List A} {s:List Value},zrL r s=true->ZL r s
 |[],[],_=>ZL.nil
 |a::r,v::s,h=>by
  simp only[zrL,XZ]at h;exact ZL.cons (Ql1 h.1) (Ql0 h.2)
 |[],_::_,h=>by cases h
 |_::_,[],h=>by cases h
theorem zrC{a:A}{v:Value}(h:zrB a v=true):ZR a v:=by
 unfold zrB at h;split at h
 .rename_i r s;have:=ZR.agg (Ql0 h);simpa using this
 .exact Ql1 h
end Go.Sw
namespace Go.Sw
section
variable {P:Program} {o:Oper} {env:Env} {H:Qd}
end
end Go.Sw
namespace Go.Sw
structure TyX where
 ty:TyI
 al:List (Nat×A)
 sl:List Nat
structure QbJ (P:Program) (T:TyX):Prop where
 ty:TyOK P T.ty
 al:∀e∈T.al,(∃z,(∀w,(zeroValue e.1).run P w=.ok z w)/\ZR e.2 z)/\Yb e.2=true/\(Q0 e.2).all Yl=true
 sl:∀t∈T.sl,∃et,∀w,(underlying t).run P w=.ok (.slice et) w
def YY(all:Array Oper)(o:Oper)(env:Env):Option Bool:=
 match o.guard with
 |none=>some true
 |some (j,c)=>match(all[j]?).bind (·.dst)with
  |none=>none
  |some d=>match lk env d with
   |.bool true=>some c
   |.bool false=>some (!c)
   |.tup []=>some false
   |_=>none
theorem QP{all:Array Oper}{o:Oper}{env:Env}{b:Bool}(h:YY all o env=some b):Qq all o env b:=by
 unfold YY at h;unfold Qq;split at h
 .rename_i q;rw[q];cases h;rfl
 .rename_i j c q;rw[q];split at h
  .cases h
  .rename_i d e;refine⟨d,e,?_⟩;split at h
   .rename_i a;cases h;exact .inl ⟨true,a,by simp⟩
   .rename_i a;cases h;exact .inl ⟨false,a,by cases c<;>rfl⟩
   .rename_i a;cases h;exact .inr ⟨a,rfl⟩
   .cases h
def QdA:List Nat->Nat->Bool
 |[],_=>false
 |a::r,t=>bif Nat.beq a t then true else QdA r t
theorem Qhb{l:List Nat}{t:Nat}(h:QdA l t=true):t∈l:=by
 induction l with
 |nil=>cases h
 |cons a r b=>
  unfold QdA at h;cases q:Nat.beq a t with
  |true=>have:=XT q;subst this;exact .head _
  |false=>rw[q]at h;exact .tail _ (b h)
inductive FL where
 |mk (l:List A)
def fl:List A->FL
 |[]=>.mk []
 |a::r=>match fl r with
  |.mk r'=>.mk (a::r')
theorem Qco:∀l:List A,fl l=.mk l
 |[]=>rfl
 |a::r=>by unfold fl;rw[Qco r]
inductive FB where
 |mk (l:List Blk)
def fb:List Blk->FB
 |[]=>.mk []
 |a::r=>match fb r with
  |.mk r'=>.mk (a::r')
theorem QkF:∀l:List Blk,fb l=.mk l
 |[]=>rfl
 |a::r=>by unfold fb;rw[QkF r]
inductive FN where
 |mk (n:Nat)
def fn:List Blk->Nat->FN
 |[],n=>.mk n
 |_::r,n=>fn r (n+1)
theorem Qm1:∀(l:List Blk) (n:Nat),fn l n=.mk (l.length+n)
 |[],n=>by simp[fn]
 |a::r,n=>by unfold fn;rw[Qm1 r];simp;omega
def QkD(env:Env)(pl:List (Nat×Nat)):List A->List (Nat×Operand)->Option (List A)
 |cs,[]=>some cs
 |cs,(i,x)::r=>match YU pl i with
  |none=>none
  |some (off,size)=>match opB env x with
   |.mk a=>match fl (Q0 a)with
    |.mk vs=>bif Yb a&&Nat.beq vs.length size&&Nat.ble (off+size) cs.length then(match fl (splice cs off vs)with
     |.mk cs'=>QkD env pl cs' r)else none
theorem Qil{env:Env}{pl:List (Nat×Nat)}:∀(parts:List (Nat×Operand)) (cs:List A),QkD env pl cs parts=Qd3 env pl cs parts
 |[],cs=>rfl
 |(i,x)::r,cs=>by
  unfold QkD Qd3;rw[QaG];cases pl[i]? with
  |none=>rfl
  |some q=>
   obtain⟨off,size⟩:=q;cases h:opB env x with
   |mk a=>
    rw[QE h];simp only[Qco];cases(Yb a&&Nat.beq (Q0 a).length size&&Nat.ble (off+size) cs.length)with
    |false=>rfl
    |true=>exact Qil r _
def Qh6(env:Env):List Operand->List A
 |[]=>[]
 |x::r=>match opB env x with
  |.mk a=>a::Qh6 env r
theorem QcV{env:Env}:∀l:List Operand,Qh6 env l=l.map (opA env)
 |[]=>rfl
 |x::r=>by
  unfold Qh6;cases h:opB env x with
  |mk a=>rw[Vl,QE h];show a::Qh6 env r=_;rw[QcV r]
def ptX(H:Qd):Bx->Option Lx
 |.mk (.rp cs)=>some (.mk cs)
 |.mk (.ptr i off)=>match YU H i with
  |some (.cells _ cs)=>some (Qfz off cs)
  |_=>none
 |_=>none
theorem Qpt{H:Qd}{p:A}{cs:List A}(h:ptX H (.mk p)=some (.mk cs)):Pts H p cs:=by
 unfold ptX at h;split at h
 .rename_i q;cases q;cases h;exact Pts.rp
 .rename_i i b q;cases q;split at h
  .rename_i a;rw[QaG]at a;simp only[Option.some.injEq]at h;exact Pts.cells a (Qc8 h)
  .cases h
 .cases h
def Qdp(T:TyX)(o:Oper)(env:Env)(H:Qd):Option A:=
 match o.op with
 |.move x=>match opB env x with|.mk a=>some a
 |.assign x=>match opB env x with|.mk a=>some a
 |.nilCheck x=>nlB (opB env x)
 |.extract x i=>exB (opB env x) i
 |.unOp u _ x=>unB u (opB env x)
 |.pick c x y=>piB (opB env c) (opB env x) (opB env y)
 |.binOp b _ x y _=>biB b (opB env x) (opB env y)
 |.fieldAddr t x f=>match Qii T.ty.fld t f with
  |none=>none
  |some off=>match opB env x with
   |.mk (.ptr i p)=>some (.ptr i (p+off))
   |.mk (.rp cs)=>match Qfz off cs with
    |.mk r=>some (.rp r)
   |_=>none
 |.load t x=>match Qci T.ty.agg t with
  |none=>none
  |some (b,n)=>match x with
   |.global g=>match YU Qjt g with
    |some zs=>bif b&&Nat.beq zs.length n then(match fl (zs.map (A.int .i64))with|.mk l=>some (.agg l))else none
    |none=>none
   |x=>match ptX H (opB env x)with
    |none=>none
    |some (.mk cs)=>match b with
     |true=>(match fl (cs.take n)with|.mk l=>bif Nat.beq l.length n then some (.agg l)else none)
     |false=>(match cs with|[]=>none|a::_=>some a)
 |.build t parts=>match Qci T.ty.zer t with
  |none=>none
  |some (zs,pl)=>match QkD env pl zs parts.toList with
   |some cs=>some (.agg cs)
   |none=>none
 |.makeFunc f first cap=>match fl (Qh6 env first.toList),fl (Qh6 env cap.toList)with
  |.mk l,.mk l'=>some (.fn f l l')
 |.call c=>match c with
  |{callee:=.builtin .len,args:=⟨[x]⟩,argTypes:=⟨[t]⟩}=>bif QdA T.sl t then(match opB env x with
   |.mk (.osl _ 0 n _)=>some (.int .i64 n)
   |_=>none)else none
  |_=>none
 |_=>none
theorem Qaz{P:Program}{T:TyX}(l:QbJ P T){o:Oper}{env:Env}{H:Qd}{x:A}(h:Qdp T o env H=some x):OpV P o env H x:=by
 unfold Qdp at h;split at h
 .rename_i y a;exact QbL a (by unfold svB;exact h)
 .rename_i y a;exact QbL a (by unfold svB;exact h)
 .rename_i y a;exact QbL a (by unfold svB;exact h)
 .rename_i y i a;exact QbL a (by unfold svB;exact h)
 .rename_i u t y a;exact QbL a (by unfold svB;exact h)
 .rename_i c y z a;exact QbL a (by unfold svB;exact h)
 .rename_i b t y z u a;exact QbL a (by unfold svB;exact h)
 .rename_i t y f a;split at h
  .cases h
  .rename_i B m;obtain⟨n,G⟩:=l.ty.fld _ (Qih m);split at h
   .rename_i i p w;cases h;exact Yr G a (QE w)
   .rename_i d w;cases q:Qfz B d with
    |mk r=>rw[q]at h;cases h;exact Qw G a (QE w) (Qc8 q)
   .cases h
 .rename_i t y a;split at h
  .cases h
  .rename_i b n Q;obtain⟨j,s⟩:=l.ty.agg _ (QaA Q);split at h
   .rename_i g;split at h
    .rename_i L F;rw[QaG]at F;cases q:(b&&Nat.beq L.length n)with
     |false=>rw[q]at h;cases h
     |true=>
      rw[q,Qco]at h;cases h;simp only[XZ]at q;obtain⟨rfl,E⟩:=q;exact QgM j s F (XT E) a
    .cases h
   .cases e:opB env y with
    |mk p=>
     rw[e]at h;split at h
     .cases h
     .rename_i d N;have J:=Qpt N;cases b with
      |true=>
       simp only[Qco]at h;cases q:Nat.beq (d.take n).length n with
       |false=>rw[q]at h;cases h
       |true=>
        rw[q]at h;cases h;exact Qk a j s (QE e) J rfl (XT q)
      |false=>
       cases d with
       |nil=>cases h
       |cons v d=>cases h;exact OpV.load a j (QE e) J
 .rename_i t parts a;split at h
  .cases h
  .rename_i L V O;obtain⟨⟨z,j,s⟩,M⟩:=l.ty.zer _ (QaA O);split at h
   .rename_i d m;cases h;rw[Qil]at m;exact OpV.build j s M (by rw[a]) m
   .cases h
 .rename_i f first cap a
  simp only[Qco]at h;cases h;rw[QcV,QcV];exact OpV.makeFunc (first:=first.toList) (cap:=cap.toList) (by rw[a]) rfl rfl
 .rename_i c a;split at h
  .rename_i y t;cases q:QdA T.sl t with
   |false=>rw[q]at h;cases h
   |true=>
    rw[q]at h;simp only[Vr]at h;obtain⟨W,R⟩:=l.sl t (Qhb q);split at h
    .rename_i i n k E;cases h;exact QlL R a rfl (QE E)
    .cases h
  .cases h
 .cases h
def stX(T:TyX)(h0 N:Nat)(all:Array Oper)(o:Oper)(env:Env)(H:Qd):Option (Env×Qd):=
 match YY all o env with
 |none=>none
 |some false=>match o.dst with
  |none=>none
  |some d=>bif Nat.blt d N then some (up env d (.tup []),H)else none
 |some true=>match o.dst with
  |none=>match o.op with
   |.store t x y=>match opB env x,Qci T.ty.agg t with
    |.mk (.ptr i off),some (_,n)=>match YU H i with
     |some (.cells S cs)=>match opB env y with
      |.mk a=>match fl (Q0 a)with
       |.mk vs=>bif Nat.ble h0 H.length&&(Yb a&&(Nat.beq vs.length n&&(vs.all Yl&&Nat.ble (off+n) cs.length)))then(match fl (splice cs off vs)with
        |.mk cs'=>match fb (H.set i (.cells S cs'))with
         |.mk H'=>some (env,H'))else none
     |_=>none
    |_,_=>none
   |_=>none
  |some d=>bif Nat.blt d N then(match o.op with
   |.alloc t=>match Qci T.al t with
    |some v=>bif Nat.ble h0 H.length then(match fn H 0,fl (Q0 v)with
     |.mk n,.mk cs=>match fb (H++[.cells t cs])with
      |.mk H'=>some (up env d (.ptr n 0),H'))else none
    |none=>none
   |.box t x=>match opB env x with
    |.mk a=>bif Nat.ble h0 H.length&&(Yb a&&(Q0 a).all Yl)then(match fn H 0,fl (Q0 a)with
     |.mk n,.mk cs=>match fb (H++[.cells t cs])with
      |.mk H'=>some (up env d (.ptr n 0),H'))else none
   |_=>match Qdp T o env H with
    |some a=>some (up env d a,H)
    |none=>none)else none
section
variable {P:Program} {T:TyX} {h0 N:Nat} {all:Array Oper} {l l':List Oper} {env env':Env} {H H':Qd} {Q:QB}
theorem Qmb(m:QbJ P T){o:Oper}(h:stX T h0 N all o env H=some (env',H'))(k:WO P h0 N all l env' H' Q):WO P h0 N all (o::l) env H Q:=by
 unfold stX at h;split at h
 .cases h
 .rename_i r;have g:=QP r;split at h
  .cases h
  .rename_i d f;cases q:Nat.blt d N with
   |false=>rw[q]at h;cases h
   |true=>rw[q]at h;cases h;exact WO.skip g f q k
 .rename_i r;have g:=QP r;split at h
  .rename_i f;split at h
   .rename_i t x y j;split at h
    .rename_i i s b n G J;split at h
     .rename_i S cs hH;rw[QaG]at hH;cases e:opB env y with
      |mk a=>
       rw[e]at h;simp only[Qco,QkF]at h;generalize hc:(Nat.ble h0 H.length&&(Yb a&&(Nat.beq (Q0 a).length n&&((Q0 a).all Yl&&Nat.ble (s+n) cs.length))))=c at h;cases c with
       |false=>cases h
       |true=>
        cases h;simp only[XZ]at hc;obtain⟨p,u,w,O,W⟩:=hc;obtain⟨_,B⟩:=m.ty.agg _ (QaA J);exact Qbz (XU p) g f (OpU.store j (QE G) hH B (QE e) u rfl (XT w) O W rfl) k
     .cases h
    .cases h
   .cases h
  .rename_i d f;cases q:Nat.blt d N with
   |false=>rw[q]at h;cases h
   |true=>
    rw[q]at h;simp only[Vr]at h;split at h
    .rename_i t j;split at h
     .rename_i v F;cases c:Nat.ble h0 H.length with
      |false=>rw[c]at h;cases h
      |true=>
       rw[c]at h;simp only[Qco,QkF,Qm1,Vr,Xy]at h;cases h;obtain⟨⟨z,L,M⟩,E,V⟩:=m.al _ (QaA F);exact Y3 (XU c) g f q (QfN L M j E rfl V) k
     .cases h
    .rename_i t x j;cases e:opB env x with
     |mk a=>
      rw[e]at h;simp only[Qco,QkF,Qm1,Xy]at h;generalize hc:(Nat.ble h0 H.length&&(Yb a&&(Q0 a).all Yl))=c at h;cases c with
      |false=>cases h
      |true=>
       cases h;simp only[XZ]at hc;obtain⟨p,u,w⟩:=hc;exact Y3 (XU p) g f q (OpH.box j (QE e) u rfl w) k
    .split at h
     .rename_i a R;cases h;exact QF g f q (Qaz m R) k
     .cases h
end
theorem yc{α:Type}{p:α->Prop}{a:α}{l:List α}(h:p a)(k:∀x∈l,p x):∀x∈a::l,p x:=List.forall_mem_cons.2 ⟨h,k⟩
theorem FA{P:Program}{T f off n:Nat}{fs:Array Field}{a:Field}(d:∀w,(underlying T).run P w=.ok (.struct fs) w)(b:fs[f]?=some a)(g:∀w,(sizeOf a.type).run P w=.ok n w)(e:a.offset=off:=by exact rfl)(h5:n≠0:=by decide):QM P T f off n:=⟨_,_,d,b,e,g,h5⟩
theorem QbO:∀(π:List Nat) (H:Qd) (xs:List Blk),π.map (λp=>H[p]?)=xs.map some->Yq H π xs=H
 |[],H,xs,h=>by
  have:xs=[]:=by cases xs with
   |nil=>rfl
   |cons x xs=>simp at h
  subst this;simp[Yq]
 |p::π,H,[],h=>by simp at h
 |p::π,H,x::xs,h=>by
  simp only[Vl,List.cons.injEq]at h;have e:H.set p x=H:=by
   apply List.ext_getElem?;intro i;rw[Xb];by_cases q:p=i
   .subst q;rw[Vv rfl,h.1];have:=(XO.1 h.1).1;rw[Vv this]
   .rw[Vu q]
  unfold Yq;rw[e];exact QbO π H xs h.2
def Qje:A->Option Bx
 |.bool b=>some (.mk (.bool b))
 |.int k n=>some (.mk (.int k n))
 |.str s=>some (.mk (.str s))
 |.rsl k es=>some (.mk (.rsl k es))
 |_=>none
theorem Qkk{v a:A}(h:Qje v=some (.mk a))(ρ:Nat->Nat):Yy ρ v=a:=by
 cases v<;>first|(cases h;rfl)|cases h
theorem Pc{P:Program}{h0 N:Nat}{all:Array Oper}{o:Oper}{l:List Oper}{env:Env}{H:Qd}{Q:QB}{d:Nat}{f:FuncId}{args b:List A}{Hc:Qd}{v g:A}(π:List Nat)(j:o.dst=some d)(e:OpC P o env H f args)(i:C P f b Hc (λa H1=>a=v/\H1=Hc))(h:Qje v=some (.mk g))
  (k:WO P h0 N all l (up env d g) H Q)
  (hargs:args=Qaa (rho π H.length) b:=by exact rfl)(hH:π.map (λp=>H[p]?)=(Hc.map (QV (rho π H.length))).map some:=by exact rfl)(hπ:π.Nodup:=by decide)
  (hg:Qq all o env true:=by exact rfl)(hN:Nat.blt d N=true:=by exact rfl)(hh:Nat.ble h0 H.length=true:=by exact rfl):WO P h0 N all (o::l) env H Q:=by
 refine QA π e i ?_ hargs hH hπ hg j hN hh;rintro r H1 ⟨rfl,rfl⟩;rw[Qkk h,QbO π H _ hH];exact k
theorem YI{i k:Nat}{es:List (List A)}:∀H:Qd,FzH i k es H H
 |[]=>.nil
 |_::r=>.keep (YI r)
def foN:Nat->FN
 |0=>.mk 0
 |n+1=>match foN n with
  |.mk m=>.mk (m+1)
theorem Qfe:∀n,foN n=.mk n
 |0=>rfl
 |n+1=>by unfold foN;rw[Qfe n]
mutual
def foA:A->Bx
 |.agg cs=>match foL cs with
  |.mk l=>.mk (.agg l)
 |.tup cs=>match foL cs with
  |.mk l=>.mk (.tup l)
 |.fn f a c=>match foL a,foL c with
  |.mk l,.mk l'=>.mk (.fn f l l')
 |.iface t v=>match foA v with
  |.mk v'=>.mk (.iface t v')
 |.ptr i off=>match foN i with
  |.mk i'=>.mk (.ptr i' off)
 |.osl i o n k=>match foN i with
  |.mk i'=>.mk (.osl i' o n k)
 |.map i=>match foN i with
  |.mk i'=>.mk (.map i')
 |a=>.mk a
def foL:List A->FL
 |[]=>.mk []
 |a::r=>match foA a,foL r with
  |.mk a',.mk r'=>.mk (a'::r')
end
mutual
theorem Qhj:∀a:A,foA a=.mk a
 |.agg cs=>by unfold foA;rw[QcD cs]
 |.tup cs=>by unfold foA;rw[QcD cs]
 |.fn f a c=>by unfold foA;rw[QcD a,QcD c]
 |.iface t v=>by unfold foA;rw[Qhj v]
 |.ptr i off=>by unfold foA;rw[Qfe]
 |.osl i o n k=>by unfold foA;rw[Qfe]
 |.map i=>by unfold foA;rw[Qfe]
 |.any|.bool _|.int _ _|.str _|.nilp|.rp _|.nils|.rsl _ _|.nilf|.nilif|.nilm=>by rfl
theorem QcD:∀l:List A,foL l=.mk l
 |[]=>by rfl
 |a::r=>by unfold foL;rw[Qhj a,QcD r]
end
inductive FE2 where
 |mk (l:List (List A))
def foE:List (List A)->FE2
 |[]=>.mk []
 |a::r=>match foL a,foE r with
  |.mk a',.mk r'=>.mk (a'::r')
theorem Qm0:∀l,foE l=.mk l
 |[]=>rfl
 |a::r=>by unfold foE;rw[QcD,Qm0 r]
def foH:List Blk->FB
 |[]=>.mk []
 |b::r=>match foH r with
  |.mk r'=>match b with
   |.cells t cs=>match foL cs with
    |.mk l=>.mk (.cells t l::r')
   |.rowr t k es=>match foE es with
    |.mk l=>.mk (.rowr t k l::r')
   |.dead=>.mk (.dead::r')
   |.row t k es=>.mk (.row t k es::r')
   |.map es=>.mk (.map es::r')
   |.iter c es=>.mk (.iter c es::r')
   |.fmap es=>.mk (.fmap es::r')
   |.mapO fz t k es=>.mk (.mapO fz t k es::r')
   |.mapP es=>.mk (.mapP es::r')
   |.frow t k es=>.mk (.frow t k es::r')
   |.ents t a b es=>match foN a,foN b with
    |.mk a',.mk b'=>.mk (.ents t a' b' es::r')
theorem Qjx:∀l,foH l=.mk l
 |[]=>rfl
 |b::r=>by
  unfold foH;rw[Qjx r];cases b<;>simp only[QcD,Qm0,Qfe]
def foS(env:Env)(H:Qd):Option (Env×Qd):=
 match foH H with
 |.mk H'=>match env with
  |[]=>some ([],H')
  |(d,a)::e=>match foA a with
   |.mk a'=>some ((d,a')::e,H')
theorem QpP(env:Env)(H:Qd):foS env H=some (env,H):=by
 unfold foS;rw[Qjx];cases env with
 |nil=>rfl
 |cons p e=>obtain⟨d,a⟩:=p;simp only[Qhj]
theorem FE{P:Program}{h0 N:Nat}{all:Array Oper}{l:List Oper}{env env':Env}{H H':Qd}{Q:QB}(h:foS env H=some (env',H'))(k:WO P h0 N all l env' H' Q):WO P h0 N all l env H Q:=by
 rw[QpP]at h;cases h;exact k
def entB(b1 b2:Nat):List (List A)->Option (List Ent)
 |[]=>some []
 |[.ptr b off,.int .i64 lo,.int .i64 hi]::r=>match entB b1 b2 r with
  |none=>none
  |some l=>match Nat.beq b b2 with
   |true=>some (⟨true,off,lo,hi⟩::l)
   |false=>match Nat.beq b b1 with
    |true=>some (⟨false,off,lo,hi⟩::l)
    |false=>none
 |_=>none
theorem QoC{b1 b2:Nat}:∀{es:List (List A)} {l:List Ent},entB b1 b2 es=some l->l.map (eC b1 b2)=es:=by
 intro es
 induction es with
 |nil=>intro l h;cases h;rfl
 |cons e r a=>
  intro l h;unfold entB at h;split at h
  .cases ‹_=[]›
  .rename_i b f lo g i q;cases q;split at h
   .cases h
   .rename_i j d;have e:=a d;split at h
    .rename_i q;cases h;have:=XT q;subst this;rw[Vl,e];rfl
    .split at h
     .rename_i q;cases h;have:=XT q;subst this;rw[Vl,e];rfl
     .cases h
  .cases h
theorem TE{P:Program}{h0 N:Nat}{all:Array Oper}{l:List Oper}{env:Env}{H:Qd}{Q:QB}{t:Nat}{es:List (List A)}{L:List Ent}(i b1 b2:Nat)(hH:H[i]?=some (.rowr t 3 es))(h:entB b1 b2 es=some L)
  (k:WO P h0 N all l env (H.set i (.ents t b1 b2 L)) Q):WO P h0 N all l env H Q:=WO.le (QlU hH (QoC h)) k
theorem R1{P:Program}{h0:Nat}{fn:Func}{env:Env}{H Hc:Qd}{v:A}(s:Nat)(hr:fn.results= #[.tmp s])(hle:Le h0 env H [(s,v)] Hc):Qdf P h0 fn (λa H=>a=v/\H=Hc) .ret env H:=
 ⟨[(s,v)],Hc,v,hle,Qcq.one hr (by show lk [(s,v)] s=v;unfold lk;rw[VH];rfl),rfl,rfl⟩
theorem R2{P:Program}{h0:Nat}{fn:Func}{env:Env}{H Hc:Qd}{v v':A}(s t:Nat)(hr:fn.results= #[.tmp s,.tmp t])(hn:Nat.beq t s=false)(hle:Le h0 env H [(s,v),(t,v')] Hc):Qdf P h0 fn (λa H=>a=.tup [v,v']/\H=Hc) .ret env H:=
 ⟨[(s,v),(t,v')],Hc,_,hle,QlC hr (by show lk [(s,v),(t,v')] s=v;unfold lk;rw[VH];rfl) (by show lk [(s,v),(t,v')] t=v';unfold lk lk;rw[hn,VH];rfl),rfl,rfl⟩
theorem FzA.o{i k n:Nat}{es:List (List A)}(a:n=es.length:=by first|exact(X4 ..).symm|exact rfl):FzA i k es (.osl i 0 n k) (.rsl k es):=FzA.own a
end Go.Sw
namespace Go.Sw
theorem Le.env{h0:Nat}{env env':Env}{H:Qd}(h:∀s,lk env' s=.any\/lk env' s=lk env s):Le h0 env H env' H:=by
 intro d b σ N a w r;refine⟨b,σ,⟨r.sim,λs=>?_,r.size,r.defers⟩,λ_ q=>q,rfl⟩;rcases h s with h|h
 .rw[h];trivial
 .rw[h];exact r.env s
def QnY(env:Env):Env->Prop
 |[]=>True
 |(s,a)::r=>lk env s=a/\QnY env r
theorem QnY.ok{env:Env}:∀{env':Env},QnY env env'->∀s,lk env' s=.any\/lk env' s=lk env s
 |[],_,s=>.inl rfl
 |(d,a)::e,⟨h1,h2⟩,s=>by
  by_cases q:s=d
  .subst q;right;simp only[lk,VH,Vr];exact h1.symm
  .have:Nat.beq s d=false:=by
    rw[VO];intro b;exact q (XT b)
   simp only[lk,this,Vs];exact QnY.ok h2 s
theorem Lw{h0:Nat}{env env':Env}{H:Qd}(h:QnY env env'):Le h0 env H env' H:=Le.env h.ok
theorem Qpg(n i:Nat):rho (List.range n) n i=i:=by
 unfold rho;by_cases h:i<n
 .rw[List.getElem?_range h]
 .rw[XR (by rw[Xv];omega)];simp only[Xv];omega
mutual
theorem Qg4{ρ:Nat->Nat}(h:∀i,ρ i=i):∀a:A,Yy ρ a=a
 |.ptr i off=>by simp[Yy,h]
 |.osl i o n k=>by simp[Yy,h]
 |.agg cs=>by simp[Yy,Qa1 h cs]
 |.fn f a c=>by simp[Yy,Qa1 h a,Qa1 h c]
 |.iface t v=>by simp[Yy,Qg4 h v]
 |.map i=>by simp[Yy,h]
 |.tup vs=>by simp[Yy,Qa1 h vs]
 |.any|.bool _|.int _ _|.str _|.nilp|.rp _|.nils|.rsl _ _|.nilf|.nilif|.nilm=>by rfl
theorem Qa1{ρ:Nat->Nat}(h:∀i,ρ i=i):∀l:List A,Qaa ρ l=l
 |[]=>rfl
 |a::r=>by simp[Qaa,Qg4 h a,Qa1 h r]
end
theorem Qko{ρ:Nat->Nat}(h:∀i,ρ i=i):∀l:List (List A),Qg3 ρ l=l
 |[]=>rfl
 |a::r=>by simp[Qg3,Qa1 h a,Qko h r]
theorem Qkn{ρ:Nat->Nat}(h:∀i,ρ i=i):∀l:List (A×A),Qjh ρ l=l
 |[]=>rfl
 |a::r=>by simp[Qjh,Qg4 h,Qkn h r]
theorem Qod{ρ:Nat->Nat}(h:∀i,ρ i=i):∀b:Blk,QV ρ b=b
 |.cells t cs=>by simp[QV,Qa1 h cs]
 |.rowr t k es=>by simp[QV,Qko h es]
 |.ents t a b es=>by simp[QV,h]
 |.mapP es=>by simp[QV,Qkn h es]
 |.dead|.row _ _ _|.map _|.iter _ _|.fmap _|.mapO _ _ _ _|.frow _ _ _=>by rfl
theorem Pw{P:Program}{h0 N:Nat}{all:Array Oper}{o:Oper}{l:List Oper}{env:Env}{H:Qd}{Q:QB}{d:Nat}{f:FuncId}{args:List A}{v j:A}(u:o.dst=some d)(g:OpC P o env H f args)(s:C P f args H (λa H1=>a=v/\H1=H))(m:Qje v=some (.mk j))
  (hg:Qq all o env true)(n:Nat.blt d N=true)(t:h0<=H.length)(k:WO P h0 N all l (up env d j) H Q):WO P h0 N all (o::l) env H Q:=by
 have e:=Qpg H.length;have w:H.map (QV (rho (List.range H.length) H.length))=H:=by
  conv=>rhs;rw[<- List.map_id H]
  exact List.map_congr_left λb _=>Qod e b
 have h:(List.range H.length).map (λp=>H[p]?)=(H.map (QV (rho (List.range H.length) H.length))).map some:=by
  rw[w];apply List.ext_getElem?;intro i;by_cases q:i<H.length
  .simp[q]
  .simp[q]
 refine QA (List.range H.length) g s ?_ (by rw[Qa1 e]) h List.nodup_range hg u n (XV t);rintro r H1 ⟨rfl,rfl⟩;rw[Qkk m,QbO _ _ _ h];exact k
def ixE(d:Nat)(g:Ground):Edge:={on:=d,ground:=g}
def ixO(d:Nat)(op:Op)(t:Nat)(pos:String)(af:Array Edge):Oper:={dst:=some d,op:=op,type:=t,pos:=pos,after:=af,guard:=none}
def QpM(ts te tf tI tB:Nat):Code:=
 (Code.region 0 [ixO 4 (.assign (.const (.int .i64 0))) tI "slices.go:107" #[]].toArray false).seq
  (((Code.region 1 [ixO 6 (.move (.tmp 0)) ts "slices.go:108" #[],ixO 7 (.call {callee:=.builtin .len,args:= #[.tmp 6],argTypes:= #[ts]}) tI "slices.go:108" #[ixE 0 .data],ixO 8 (.move (.const (.int .i64 0))) tI "slices.go:108" #[]].toArray false).seq
   (.block 0 (.loop ((Code.region 2 [ixO 9 (.binOp .lss tI (.tmp 8) (.tmp 7) tI) 0 "slices.go:108" #[]].toArray false).seq
    ((Code.cond (.tmp 9) .skip (.exit 0)).seq
    ((Code.block 1 ((Code.region 3 [ixO 10 (.move (.tmp 8)) tI "slices.go:108" #[],ixO 5 (.assign (.tmp 10)) tI "slices.go:108" #[ixE 0 .data,ixE 0 .phase]].toArray false).seq
     ((Code.region 4 [ixO 11 (.move (.tmp 1)) tf "slices.go:109" #[],ixO 12 (.move (.tmp 0)) ts "slices.go:109" #[],ixO 13 (.move (.tmp 5)) tI "slices.go:109" #[],ixO 14 (.indexAddr ts (.tmp 12) (.tmp 13)) 0 "slices.go:109" #[ixE 1 .data,ixE 2 .data],
       ixO 15 (.load te (.tmp 14)) te "slices.go:109" #[ixE 3 .data],ixO 16 (.call {callee:=.value (.tmp 11),args:= #[.tmp 15],argTypes:= #[te]}) tB "slices.go:109" #[ixE 0 .data,ixE 4 .data]].toArray false).seq
      (Code.cond (.tmp 16) ((Code.region 5 [ixO 17 (.move (.tmp 5)) tI "slices.go:110" #[],ixO 4 (.assign (.tmp 17)) tI "slices.go:110" #[ixE 0 .data,ixE 0 .phase]].toArray false).seq .ret) .skip)))).seq
     (Code.region 6 [ixO 18 (.binOp .add tI (.tmp 8) (.const (.int .i64 1)) tI) tI "slices.go:108" #[],ixO 8 (.move (.tmp 18)) tI "slices.go:108" #[ixE 0 .data]].toArray false))))))).seq
  ((Code.region 7 [ixO 4 (.assign (.const (.int .i64 (-1)))) tI "slices.go:113" #[]].toArray false).seq .ret))
theorem Ym{P:Program}{T:Type}{e:T->List A}{el:T->A}{R z tf tI tB k:Nat}{V m:FuncId}{fn:Func}{i:List A}{Hc:Qd}{L:List T}{g:T->Option Bool}{n:Nat}{r:Int}
  (hf:P.funcs[V]?=some fn)(W:fn.body=some (QpM R z tf tI tB))(X:fn.ntmps=19)(O:fn.results= #[.tmp 4])(Q:∀w,(underlying R).run P w=.ok (.slice z) w)(Y:∀w,(sizeOf z).run P w=.ok k w)
  (J:∀(o:Oper) (env:Env) (H:Qd) (x:T),o.op=.load z (.tmp 14)->opA env (.tmp 14)=.rp (e x)->OpV P o env H (el x))
  (M:∀(a:Array Value) (w:World),(callFunc m a).run P w=.ok (.enter m a) w)
  (N:∀x b,g x=some b->C P m (el x::i) Hc (λa H=>a=.bool b/\H=Hc))
  (h:((iter (λs:Int=>bif decide (s<(L.length:Int))then(idx L s).bind λx=>(g x).bind λb=>(bif b then some (Ctl.done (Ctl.done s))else some (Ctl.cont (IntKind.i64.wrap (s+1))))else some (Ctl.done (Ctl.cont ()))) n (0:Int):Option (Ctl Unit Int)).bind λb=>match b with|.cont _=>some (-1)|.done s=>some s)=some r):
  C P V [.rsl k (L.map e),.fn (.func m) [] i] Hc (λa H=>a=.int .i64 r/\H=Hc):=by
 refine Qb hf W X rfl ?_;refine Rg (S rfl (Nx (TC.seq (Rg (S rfl (LnM Q rfl (S rfl (Nx (Bd h λG B h=>?_)))))))));refine Qhx (b:=G) (λ_=>[]) (λ_=>Hc) ?_ (λsb10 env H hbe hle=>?_)
 .refine TC.block ?_;refine TC.loop (E:=λt=>[(0,.rsl k (L.map e)),(1,.fn (.func m) [] i),(7,.int .i64 (L.length:Int)),(8,.int .i64 t)]) (Hp:=λ_=>Hc) B ?_ ?_
  .exact Lw ⟨rfl,rfl,rfl,rfl,trivial⟩
  intro t aa d l;refine Rg (S rfl (Nx (TC.seq (Y8 rfl d (λu d=>?_) (λu d=>?_)))))
  .refine ExX (Qx d ?_);obtain rfl:=l _ (Oi d).symm;exact bloE (QH rfl (Lw trivial))
  refine SkN (TC.seq (TC.block (Rg (S rfl (S rfl (Nx (Rg (S rfl (S rfl (S rfl (Bd d λj y d=>Ix y Q Y rfl ?_)))))))))));refine QF (x:=el j) rfl rfl rfl (J _ _ _ j rfl rfl) ?_;refine Bd d λF q d=>?_;refine Pw rfl (QaH (f:=m) (x:=.tmp 11) (xs:=[.tmp 15]) (vf:=[]) (vc:=i) (args:=el j::i) M rfl rfl rfl rfl) (N j F q) rfl rfl rfl (XW _) ?_;refine Nx (Cn rfl d (λp d=>?_) (λp d=>?_))
  .refine Rg (S rfl (S rfl (Nx (TC.ret (bloR (seqR (Ye d ?_)))))));obtain rfl:=l _ (Oi d).symm;refine bloR (QT (seqR ?_));obtain rfl:=Oi h;exact R1 4 O (Lw ⟨rfl,trivial⟩)
  exact TC.skip (bloN (Qmh (TC.region (S rfl (S rfl (WO.nil (Qu d (Lw ⟨rfl,rfl,rfl,rfl,trivial⟩))))))))
 subst hbe;refine Qmh (TC.le hle (Rg (S rfl (Nx (TC.ret ?_)))));obtain rfl:=Oi h;exact R1 4 O (Lw ⟨rfl,trivial⟩)
end Go.Sw
namespace Go.Sw
inductive Kf where
 |seq (c:Code)
 |blo (id:Nat)
 |unr (c:Code)
inductive Cf where
 |code (c:Code)
 |ops (all:Array Oper) (l:List Oper)
 |out (x:AEx)
def kq(P:Program)(h0 N:Nat):List Kf->QB->QB
 |[],Q=>Q
 |.seq c::k,Q=>Seq P h0 N c (kq P h0 N k Q)
 |.blo id::k,Q=>Blo id (kq P h0 N k Q)
 |.unr c::k,Q=>QjU P h0 N c (kq P h0 N k Q)
@[reducible] def Hd(P:Program)(h0 N:Nat):Cf->List Kf->Env->Qd->QB->Prop
 |.code c,k,env,H,Q=>TC P h0 N c env H (kq P h0 N k Q)
 |.ops all l,k,env,H,Q=>WO P h0 N all l env H (kq P h0 N k Q)
 |.out x,k,env,H,Q=>kq P h0 N k Q x env H
def Qf5(T:TyX)(h0 N:Nat):Cf->List Kf->Env->Qd->Option (Cf×List Kf×Env×Qd)
 |.code (.seq a b),k,env,H=>some (.code a,.seq b::k,env,H)
 |.code (.block id c),k,env,H=>some (.code c,.blo id::k,env,H)
 |.code (.loop c),k,env,H=>some (.code c,.unr c::k,env,H)
 |.code .skip,k,env,H=>some (.out .normal,k,env,H)
 |.code .ret,k,env,H=>some (.out .ret,k,env,H)
 |.code (.exit id),k,env,H=>some (.out (.exit id),k,env,H)
 |.code (.region id ⟨l⟩ false),k,env,H=>some (.ops ⟨l⟩ l,k,env,H)
 |.code (.cond x a b),k,env,H=>match opB env x with
  |.mk (.bool true)=>some (.code a,k,env,H)
  |.mk (.bool false)=>some (.code b,k,env,H)
  |_=>none
 |.ops all [],k,env,H=>some (.out .normal,k,env,H)
 |.ops all (o::l),k,env,H=>match stX T h0 N all o env H with
  |some (env',H')=>some (.ops all l,k,env',H')
  |none=>none
 |.out .normal,.seq c::k,env,H=>some (.code c,k,env,H)
 |.out (.exit i),.seq _::k,env,H=>some (.out (.exit i),k,env,H)
 |.out .ret,.seq _::k,env,H=>some (.out .ret,k,env,H)
 |.out .normal,.blo _::k,env,H=>some (.out .normal,k,env,H)
 |.out (.exit i),.blo id::k,env,H=>match Nat.beq i id with
  |true=>some (.out .normal,k,env,H)
  |false=>some (.out (.exit i),k,env,H)
 |.out .ret,.blo _::k,env,H=>some (.out .ret,k,env,H)
 |.out .normal,.unr c::k,env,H=>some (.code c,.unr c::k,env,H)
 |.out (.exit i),.unr _::k,env,H=>some (.out (.exit i),k,env,H)
 |.out .ret,.unr _::k,env,H=>some (.out .ret,k,env,H)
 |_,_,_,_=>none
def Qjg(T:TyX)(h0 N:Nat):Nat->Cf->List Kf->Env->Qd->Option (Cf×List Kf×Env×Qd)
 |0,c,k,env,H=>some (c,k,env,H)
 |n+1,c,k,env,H=>match Qf5 T h0 N c k env H with
  |some (c',k',env',H')=>Qjg T h0 N n c' k' env' H'
  |none=>none
section
variable {P:Program} {T:TyX} {h0 N:Nat} {Q:QB}
theorem Ql8(d:QbJ P T){c b:Cf}{k a:List Kf}{env env':Env}{H H':Qd}(h:Qf5 T h0 N c k env H=some (b,a,env',H'))(g:Hd P h0 N b a env' H' Q):Hd P h0 N c k env H Q:=by
 unfold Qf5 at h;split at h
 .cases h;exact TC.seq g
 .cases h;exact TC.block g
 .cases h;exact Qlz g
 .cases h;exact TC.skip g
 .cases h;exact TC.ret g
 .cases h;exact TC.exit g
 .cases h;exact TC.region g
 .split at h
  .rename_i q;cases h;exact QiS (QE q) rfl g
  .rename_i q;cases h;exact QfE (QE q) rfl g
  .cases h
 .cases h;exact WO.nil g
 .split at h
  .rename_i q;cases h;exact Qmb d q g
  .cases h
 .cases h;exact Qmh g
 .cases h;exact seqX g
 .cases h;exact seqR g
 .cases h;exact bloN g
 .split at h
  .rename_i q;cases h;have:=XT q;subst this;exact bloE g
  .rename_i q;cases h;exact bloX q g
 .cases h;exact bloR g
 .cases h;exact unrN g
 .cases h;exact unrX g
 .cases h;exact unrR g
 .cases h
theorem QcS(hT:QbJ P T):∀(n:Nat) {c c':Cf} {k k':List Kf} {env env':Env} {H H':Qd},Qjg T h0 N n c k env H=some (c',k',env',H')->Hd P h0 N c' k' env' H' Q->Hd P h0 N c k env H Q
 |0,c,c',k,k',env,env',H,H',h,g=>by cases h;exact g
 |n+1,c,c',k,k',env,env',H,H',h,g=>by
  unfold Qjg at h;split at h
  .rename_i e;exact Ql8 hT e (QcS hT n h g)
  .cases h
theorem Qke{env:Env}{s:Nat}{a:A}(h:lk env s=a):∀t,lk (up env s a) t=lk env t:=by
 intro t;simp only[up,lk];cases q:Nat.beq t s with
 |true=>have:=XT q;subst this;exact h.symm
 |false=>rfl
theorem Is{α:Type}{all:Array Oper}{l:List Oper}{env:Env}{H:Qd}{b:Bool}{x y:Option α}{r:α}(s:Nat)(h:(bif b then x else y)=some r)(d:lkB env s=.mk (.bool b))
  (t:b=true->x=some r->WO P h0 N all l (up env s (.bool true)) H Q)(e:b=false->y=some r->WO P h0 N all l (up env s (.bool false)) H Q):WO P h0 N all l env H Q:=by
 have a:=Qjq d;cases b with
 |true=>exact WO.le (Le.env λt=>.inr (Qke a t)) (t rfl h)
 |false=>exact WO.le (Le.env λt=>.inr (Qke a t)) (e rfl h)
theorem Ct3E{S B1:Type}{A B C:Code}{env:Env}{H:Qd}{k:List Kf}{b:Ctl S B1}(Eb:S->Env)(Hb:S->Qd)(h:TC P h0 N A env H (kq P h0 N [.seq B] (QfS h0 b Eb Hb (kq P h0 N (.seq C::k) Q))))(g:∀s env H,b=.cont s->Le h0 env H (Eb s) (Hb s)->kq P h0 N (.seq C::k) Q .normal env H):TC P h0 N (.seq A (.seq B C)) env H (kq P h0 N k Q):=
 QnI Eb Hb h g
end
def dstN(o:Oper)(i:Nat):Nat:=match o.dst with|some d=>d|none=>1000000+i
def Qbk:Nat->Nat->List Oper->List Nat
 |0,_,_=>[]
 |_+1,_,[]=>[]
 |m+1,i,o::l=>dstN o i::Qbk m (i+1) l
def Yh(af:List Nat):Nat->List Nat->List A->Env->Env
 |j,d::ds,x::xs,e=>(d,bif QdA af j then x else .any)::Yh af (j+1) ds xs e
 |j,d::ds,[],e=>(d,.any)::Yh af (j+1) ds [] e
 |_,[],_,e=>e
theorem QfT{l:List Nat}{t:Nat}:QdA l t=l.contains t:=by
 induction l with
 |nil=>rfl
 |cons a r d=>
  unfold QdA;rw[List.contains_cons,d];cases q:Nat.beq a t with
  |true=>have:=XT q;subst this;simp
  |false=>
   have b:t≠a:=λz=>by subst z;rw[VH]at q;cases q
   simp[b]
theorem QkJ{af:List Nat}{env0:Env}{s:Nat}:∀(a:List Nat) (xs g:List A) (b:Nat),
  (∃(j:Nat) (x:A),af.contains (b+j)=true/\a[j]?=some s/\(xs++g)[j]?=some x/\lk (Yh af b a xs env0) s=x)\/lk (Yh af b a xs env0) s=.any\/(a.contains s=false/\lk (Yh af b a xs env0) s=lk env0 s):=by
 intro a
 induction a with
 |nil=>intro xs g b;right;right;exact⟨rfl,by cases xs<;>rfl⟩
 |cons d a m=>
  intro xs g b;have next:∀(e:List A),(∃(j:Nat) (x:A),af.contains (b+1+j)=true/\a[j]?=some s/\(e++g)[j]?=some x/\lk (Yh af (b+1) a e env0) s=x)->∀p,(∃(j:Nat) (x:A),af.contains (b+j)=true/\(d::a)[j]?=some s/\(p::e++g)[j]?=some x/\lk (Yh af (b+1) a e env0) s=x):=by
   rintro e ⟨j,x,k,i,l,n⟩ p;exact⟨j+1,x,by rw[show b+(j+1)=b+1+j by omega];exact k,by simpa using i,by simpa using l,n⟩
  cases xs with
  |nil=>
   cases q:Nat.beq s d with
   |true=>right;left;simp only[Yh,lk,q,Vr]
   |false=>
    have f:s≠d:=λz=>by subst z;rw[VH]at q;cases q
    simp only[Yh,lk,q,Vs];rcases m [] [] (b+1)with⟨j,x,k,i,l,n⟩|h|⟨k,i⟩
    .simp at l
    .exact .inr (.inl h)
    .exact .inr (.inr ⟨by rw[List.contains_cons,k];simpa using f,i⟩)
  |cons x xs=>
   cases q:Nat.beq s d with
   |true=>
    have:=XT q;subst this;simp only[Yh,lk,q,Vr];cases c:QdA af b with
    |true=>left;exact⟨0,x,by rw[<- QfT];exact c,rfl,rfl,rfl⟩
    |false=>right;left;rfl
   |false=>
    have f:s≠d:=λz=>by subst z;rw[VH]at q;cases q
    simp only[Yh,lk,q,Vs];rcases m xs g (b+1)with h|h|⟨k,i⟩
    .exact .inl (next xs h x)
    .exact .inr (.inl h)
    .exact .inr (.inr ⟨by rw[List.contains_cons,k];simpa using f,i⟩)
section
variable {P:Program} {T:TyX} {h0 N m:Nat} {l:List Oper} {ds:List Nat} {env:Env} {H:Qd} {Q:QB} {K:List Oper->Env->Qd->Prop}
def DS(P:Program)(N m:Nat)(l:List Oper)(ds:List Nat)(env:Env)(H:Qd)(K:List Oper->Env->Qd->Prop)(r:List Oper)(xs:List A):Prop:=
 r=l.drop xs.length->∃ys,xs.length+ys.length=m/\(∀j,xs.length<=j->j<m->JB P N l ds (xs++ys) env H.length H.length j H H)/\K (l.drop m) (Qay ds (xs++ys) env) H
theorem oqOf{xs:List A}:∀(c i:Nat),(∀j,i<=j->j<i+c->JB P N l ds xs env H.length H.length j H H)->Oq P N l ds xs env H i c
 |0,i,_=>.n
 |c+1,i,h=>.c (h i (XW _) (by omega)) (oqOf c (i+1) λj h1 h2=>h j (by omega) (by omega))
theorem Qn3{id:Nat}{k:List Kf}(m:Nat)(n:P.follows .mixedOrders=true)(g:Go.Sw.draw0 l m N (Qbk m 0 l)=true)(a:Nat.ble h0 H.length=true)
  (h:DS P N m l (Qbk m 0 l) env H (λr e H=>WO P h0 N l.toArray r e H Q) l []):TC P h0 N (.region id l.toArray true) env H Q:=by
 obtain⟨i,d,b,f⟩:=h rfl;simp only[List.length_nil,Xx,Vj]at d b f;exact TC.draw0 m _ i n g (by rw[d];exact VH m) a (oqOf m 0 λj _ q=>b j (XX _) (by omega)) f
theorem DS.done{xs:List A}{r:List Oper}(a:Nat.beq xs.length m=true)(h:K r (Qay ds xs env) H):DS P N m l ds env H K r xs:=by
 intro b;have e:=XT a;subst b;refine⟨[],by simpa using e,λj d f=>by omega,?_⟩;rw[<- e,Vi];exact h
theorem DS.add{xs:List A}{o:Oper}{r:List Oper}{x:A}(i:Nat.blt xs.length m=true)(f:∀ys,l[xs.length]?=some o->JB P N l ds (xs++x::ys) env H.length H.length xs.length H H)(k:DS P N m l ds env H K r (xs++[x])):DS P N m l ds env H K (o::r) xs:=by
 intro b;have a:xs.length<l.length:=by
  rcases VE xs.length l.length with q|q
  .exact q
  .rw[List.drop_eq_nil_of_le q]at b;cases b
 rw[Xq a]at b;cases b;obtain⟨ys,g,d,e⟩:=k (by simp);simp only[X5,X3,List.length_nil,Vk,VM,Vj]at g d e;refine⟨x::ys,by simp only[X3];omega,λj n h=>?_,e⟩;rcases VE xs.length j with q|q
 .exact d j (by omega) h
 .obtain rfl:j=xs.length:=by omega
  exact f ys (XN a)
theorem Qif{xs a:List A}{x:A}:(xs++x::a)[xs.length]?=some x:=by simp
theorem DS.wo{xs:List A}{o:Oper}{r:List Oper}{x:A}{d:Nat}(h:WO P H.length N l.toArray [o] (Yh (Qj o) 0 ds xs env) H (Y5 (up (Yh (Qj o) 0 ds xs env) d x) H))(k:DS P N m l ds env H K r (xs++[x]))
  (n:o.dst=some d:=by exact rfl)(hx:Nat.blt xs.length m=true:=by exact rfl):DS P N m l ds env H K (o::r) xs:=
 .add hx (λf b=>.woE o _ d x b n Qif (he:=by
  intro s;rcases QkJ (af:=Qj o) (env0:=env) (s:=s) ds xs (x::f) 0 with⟨j,y,a,i,e,g⟩|q|q
  .rw[Xx]at a;exact .inl ⟨j,y,a,i,e,g⟩
  .exact .inr (.inl q)
  .exact .inr (.inr q)) (hdd:=Qd6 H) (h:=h)) k
theorem DS.v{xs:List A}{o:Oper}{r:List Oper}{x:A}{d:Nat}(h:OpV P o (Yh (Qj o) 0 ds xs env) H x)(k:DS P N m l ds env H K r (xs++[x]))(hg:Qq l.toArray o (Yh (Qj o) 0 ds xs env) true:=by exact rfl)
  (hd:o.dst=some d:=by exact rfl)(hN:Nat.blt d N=true:=by exact rfl)(hx:Nat.blt xs.length m=true:=by exact rfl):DS P N m l ds env H K (o::r) xs:=
 .wo (QF hg hd hN h (WO.nil Y5.mk)) k hd hx
def QcG:List A->A->FL
 |[],x=>.mk [x]
 |a::r,x=>match QcG r x with
  |.mk r'=>.mk (a::r')
theorem Ja:∀(l:List A) (x:A),QcG l x=.mk (l++[x])
 |[],x=>rfl
 |a::r,x=>by unfold QcG;rw[Ja r];rfl
def QhU(T:TyX)(N m:Nat)(l:List Oper)(ds:List Nat)(env:Env)(H:Qd):Nat->Nat->List Oper->List A->Option (List Oper×List A)
 |0,_,r,xs=>some (r,xs)
 |_+1,_,[],_=>none
 |n+1,i,o::r,xs=>match Nat.blt i m with
  |false=>none
  |true=>match o.dst with
   |none=>none
   |some d=>match Nat.blt d N with
    |false=>none
    |true=>match YY ⟨l⟩ o (Yh (Qj o) 0 ds xs env)with
     |none=>none
     |some false=>match QcG xs (.tup [])with
      |.mk xs'=>QhU T N m l ds env H n (i+1) r xs'
     |some true=>match Qdp T o (Yh (Qj o) 0 ds xs env) H with
      |none=>none
      |some x=>match QcG xs x with
       |.mk xs'=>QhU T N m l ds env H n (i+1) r xs'
theorem QeN(hT:QbJ P T):∀(n i:Nat) {r r':List Oper} {xs xs':List A},i=xs.length->QhU T N m l ds env H n i r xs=some (r',xs')->DS P N m l ds env H K r' xs'->DS P N m l ds env H K r xs
 |0,i,r,r',xs,xs',_,h,k=>by cases h;exact k
 |n+1,i,[],r',xs,xs',_,h,k=>by cases h
 |n+1,i,o::r,r',xs,xs',hi,h,k=>by
  subst hi;unfold QhU at h;split at h
  .cases h
  .rename_i q1;split at h
   .cases h
   .rename_i d hd;split at h
    .cases h
    .rename_i q2;split at h
     .cases h
     .rename_i hw;simp only[Ja]at h;exact .wo (WO.skip (QP hw) hd q2 (WO.nil Y5.mk)) (QeN hT n _ (by simp) h k) hd q1
     .rename_i hw;split at h
      .cases h
      .rename_i x hv;simp only[Ja]at h;exact .v (Qaz hT hv) (QeN hT n _ (by simp) h k) (QP hw) hd q2 q1
def Qmf:List A->Nat->A->FL
 |[],_,_=>.mk []
 |_::r,0,x=>.mk (x::r)
 |a::r,n+1,x=>match Qmf r n x with
  |.mk r'=>.mk (a::r')
theorem Qdr:∀{l:List A} {n:Nat} {x:A},YU l n=some x->Qmf l n x=.mk l
 |[],n,x,h=>by cases h
 |a::r,0,x,h=>by cases h;rfl
 |a::r,n+1,x,h=>by unfold Qmf;rw[Qdr (l:=r) (n:=n) h]
theorem Qed{α:Type}{b:Bool}{x y:Option α}{v:α}{xs a g:List A}{r:List Oper}(j:Nat)(h:(bif b then x else y)=some v)(d:YU xs j=some (.bool b))(i:Qmf xs j (.bool true)=.mk a)(f:Qmf xs j (.bool false)=.mk g)
  (t:b=true->x=some v->DS P N m l ds env H K r a)(e:b=false->y=some v->DS P N m l ds env H K r g):DS P N m l ds env H K r xs:=by
 cases b with
 |true=>rw[Qdr d]at i;cases i;exact t rfl h
 |false=>rw[Qdr d]at f;cases f;exact e rfl h
end
end Go.Sw
namespace Go.Sw
@[reducible] def RQ{β:Type}(w:β->A)(Hc:β->Qd)(r:β):A->Qd->Prop:=λa H=>a=w r/\H=Hc r
@[reducible] def Csm{β:Type}(P:Program)(f:FuncId)(args:List A)(H:Qd)(w:β->A)(r:β):Prop:=C P f args H (RQ w (λ_=>H) r)
structure TyZ where
 sl:List (Nat×Nat×Nat)
 fn:List Nat
structure Qdb (P:Program) (Z:TyZ):Prop where
 sl:∀e∈Z.sl,(∀w,(underlying e.1).run P w=.ok (.slice e.2.1) w)/\ ∀w,(sizeOf e.2.1).run P w=.ok e.2.2 w
 fn:∀f∈Z.fn,∀(a:Array Value) (w:World),(callFunc f a).run P w=.ok (.enter f a) w
section
variable {P:Program} {Z:TyZ} {h0 N:Nat} {all:Array Oper} {o:Oper} {l:List Oper} {env:Env} {H:Qd} {Q:QB} {d:Nat}
theorem Izz(m:Qdb P Z){α:Type}{e:α->List A}{t et k:Nat}{L:List α}{n:IntKind}{i:Int}{v:α}(h:idx L i=some v)(q:ixB o env=some (d,t,k,L.map e,n,i))(g:WO P h0 N all l (up env d (.rp (e v))) H Q)
  (j:Qci Z.sl t=some (et,k))(hg:YY all o env=some true)(b:Nat.blt d N=true):WO P h0 N all (o::l) env H Q:=by
 obtain⟨f,a⟩:=m.sl _ (QaA j);exact Ix h f a q g (QP hg) b
theorem Ize(f:Qdb P Z){α:Type}{e:α->List A}{t et k:Nat}{L:List α}{j:IntKind}{i:Int}{v:α}{cs:List A}(h:idx L i=some v)(he:e v=cs)(q:ixB o env=some (d,t,k,L.map e,j,i))(g:WO P h0 N all l (up env d (.rp cs)) H Q)
  (b:Qci Z.sl t=some (et,k))(hg:YY all o env=some true)(a:Nat.blt d N=true):WO P h0 N all (o::l) env H Q:=by
 subst he;exact Izz f h q g b hg a
theorem Lmz(i:Qdb P Z){α:Type}{e:α->List A}{t et k b:Nat}{L:List α}(q:lnB o env=some (d,t,.mk (.rsl k (L.map e))))(g:WO P h0 N all l (up env d (.int .i64 L.length)) H Q)
  (h:Qci Z.sl t=some (et,b))(hg:YY all o env=some true)(a:Nat.blt d N=true):WO P h0 N all (o::l) env H Q:=by
 obtain⟨f,j⟩:=i.sl _ (QaA h);exact LnM f q g (QP hg) a
def Qf0(Z:TyZ)(o:Oper)(env:Env):Option (Nat×Nat×List A):=
 match o.dst with
 |none=>none
 |some d=>match o.op with
  |.call {callee:=.value (.func f),args:=⟨xs⟩,argTypes:=_}=>bif QdA Z.fn f then(match fl (Qh6 env xs)with|.mk ax=>some (d,f,ax))else none
  |.call {callee:=.value (.tmp x),args:=⟨xs⟩,argTypes:=_}=>match opB env (.tmp x)with
   |.mk (.fn (.func f) vf vc)=>bif QdA Z.fn f then(match fl (vf++(Qh6 env xs++vc))with|.mk ax=>some (d,f,ax))else none
   |_=>none
  |_=>none
theorem Qew(e:Qdb P Z){f:Nat}{args:List A}(h:Qf0 Z o env=some (d,f,args)):o.dst=some d/\OpC P o env H f args:=by
 unfold Qf0 at h;split at h
 .cases h
 .rename_i m g;split at h
  .rename_i b xs i a;cases q:QdA Z.fn b with
   |false=>rw[q]at h;cases h
   |true=>
    rw[q]at h;simp only[Qco,Vr]at h;cases h;exact⟨g,OpC.fn (xs:=xs) (e.fn _ (Qhb q)) a rfl (QcV xs).symm⟩
  .rename_i x xs i a;split at h
   .rename_i b l k j;cases q:QdA Z.fn b with
    |false=>rw[q]at h;cases h
    |true=>
     rw[q]at h;simp only[Qco,Vr]at h;cases h;exact⟨g,QaH (xs:=xs) (e.fn _ (Qhb q)) a rfl (QE j) (by rw[QcV])⟩
   .cases h
  .cases h
theorem Czz(m:Qdb P Z){β γ:Type}{F:Option β}{F':β->Option γ}{r:γ}{f:Nat}{args a:List A}{Hc:Qd}{w:β->A}(π:List Nat)(h:F.bind F'=some r)(k:∀v,F=some v->C P f a Hc (RQ w (λ_=>Hc) v))
  (b:Qf0 Z o env=some (d,f,args))(g:∀v,F=some v->F' v=some r->WO P h0 N all l (up env d (w v)) H Q)(i:∀v,Qje (w v)=some (.mk (w v)))
  (hargs:args=Qaa (rho π H.length) a)(hH:π.map (λp=>H[p]?)=(Hc.map (QV (rho π H.length))).map some)(hπ:π.Nodup)(hg:YY all o env=some true)(j:Nat.blt d N=true)(q:Nat.ble h0 H.length=true):WO P h0 N all (o::l) env H Q:=by
 obtain⟨v,e,n⟩:=Jq h;obtain⟨t,s⟩:=Qew (H:=H) m b;exact Pc π t s (k v e) (i v) (g v e n) hargs hH hπ (QP hg) j q
theorem DzZ(t:Qdb P Z){K:List Oper->Env->Qd->Prop}{m:Nat}{e:List Oper}{b:List Nat}{xs:List A}{β γ:Type}{F:Option β}{F':β->Option γ}{r:γ}{f:Nat}{args a:List A}{Hc:Qd}{w:β->A}(π:List Nat)(h:F.bind F'=some r)(s:∀v,F=some v->C P f a Hc (RQ w (λ_=>Hc) v))
  (i:Qf0 Z o (Yh (Qj o) 0 b xs env)=some (d,f,args))(g:∀v,F=some v->F' v=some r->DS P N m e b env H K l (xs++[w v]))(n:∀v,Qje (w v)=some (.mk (w v)))
  (hargs:args=Qaa (rho π H.length) a)(hH:π.map (λp=>H[p]?)=(Hc.map (QV (rho π H.length))).map some)(hπ:π.Nodup)(hg:YY e.toArray o (Yh (Qj o) 0 b xs env)=some true)(q:Nat.blt d N=true)(u:Nat.blt xs.length m=true):DS P N m e b env H K (o::l) xs:=by
 obtain⟨v,j,x⟩:=Jq h;obtain⟨k,y⟩:=Qew (H:=H) t i;exact .wo (Pc π k y (s v j) (n v) (WO.nil Y5.mk) hargs hH hπ (QP hg) q (XV (XW _))) (g v j x) k u
theorem ln:Qbp H [] []:=trivial
theorem ls{ax b:List A}{a:A}(k:Qbp H ax b)(h:Yp a=true:=by exact rfl):Qbp H (a::ax) (a::b):=⟨.inl ⟨rfl,h⟩,k⟩
theorem lo{ax a:List A}{i n k t:Nat}{es:List (List A)}(b:Qbp H ax a)(hH:H[i]?=some (.row t k es):=by exact rfl)(hn:es.length=n:=by exact X4 ..):Qbp H (.osl i 0 n k::ax) (.rsl k es::a):=
 ⟨.inr ⟨_,_,_,_,_,rfl,hH,hn,rfl⟩,b⟩
theorem Cbz(m:Qdb P Z){β γ:Type}{F:Option β}{F':β->Option γ}{r:γ}{f:Nat}{args a:List A}{w:β->A}(h:F.bind F'=some r)(k:∀v,F=some v->C P f a [] (RQ w (λ_=>[]) v))
  (b:Qf0 Z o env=some (d,f,args))(s:Qbp H args a)(g:∀v,F=some v->F' v=some r->WO P h0 N all l (up env d (w v)) H Q)(i:∀v,Yn (w v)=true)
  (hg:YY all o env=some true)(j:Nat.blt d N=true):WO P h0 N all (o::l) env H Q:=by
 obtain⟨v,e,n⟩:=Jq h;obtain⟨q,p⟩:=Qew (H:=H) m b;refine QiP p s (k v e) ?_ ?_ (QP hg) q j
 .rintro _ _ ⟨rfl,rfl⟩;exact i v
 .rintro _ _ ⟨rfl,rfl⟩;exact g v e n
end
def ixL:List Nat:=[0,1,2,3,4,5,6,7,8,9,10,11,12,13,14,15,16,17,18,19,20,21,22,23,24,25,26,27,28,29,30,31,32,33,34,35,36,37,38,39,40,41,42,43,44,45,46,47,48,49,50,51,52,53,54,55,56,57,58,59,60,61,62,63]
def Qk6:List Nat->List Nat->Nat->FN
 |a::r,b::s,j=>bif Nat.beq a j then .mk b else Qk6 r s j
 |_,_,j=>.mk j
mutual
def cpA(sel:List Nat):A->Bx
 |.ptr i off=>match Qk6 sel ixL i with
  |.mk j=>.mk (.ptr j off)
 |.osl i o n k=>match Qk6 sel ixL i with
  |.mk j=>.mk (.osl j o n k)
 |.map i=>match Qk6 sel ixL i with
  |.mk j=>.mk (.map j)
 |.fn f a c=>match cpL sel a,cpL sel c with
  |.mk a',.mk c'=>.mk (.fn f a' c')
 |a=>.mk a
def cpL(sel:List Nat):List A->FL
 |[]=>.mk []
 |a::r=>match cpA sel a,cpL sel r with
  |.mk a',.mk r'=>.mk (a'::r')
end
inductive FV where
 |mk (e:Env)
def QmS(sel:List Nat)(env:Env):List Nat->Env->FV
 |[],nE=>.mk nE
 |s::r,nE=>match lkB env s with
  |.mk a=>match cpA sel a,QmS sel env r nE with
   |.mk a',.mk e=>.mk ((s,a')::e)
def selH(H:Qd):List Nat->List Nat->List (Nat×Blk)->FB
 |a::r,p::ps,[]=>match YU H a,selH H r ps []with
  |some b,.mk l=>.mk (b::l)
  |none,.mk l=>.mk l
 |a::r,p::ps,(q,b)::n=>bif Nat.beq p q then(match selH H r ps n with|.mk l=>.mk (b::l))else(match YU H a,selH H r ps ((q,b)::n)with
  |some b,.mk l=>.mk (b::l)
  |none,.mk l=>.mk l)
 |_,_,_=>.mk []
def Qnt(sel keep:List Nat)(nE:Env)(nH:List (Nat×Blk))(env:Env)(H:Qd):Option (Env×Qd):=
 match QmS sel env keep nE,selH H sel ixL nH with
 |.mk e,.mk h=>some (e,h)
section
variable {P:Program} {h0 N:Nat} {c:Code} {env:Env} {H:Qd} {Q:QB}
def CutQ{β:Type}(h0:Nat)(b:β)(E':β->Env)(H':β->Qd)(Q:QB):QB
 |.normal,env,H=>Le h0 env H (E' b) (H' b)
 |.exit id,env,H=>Q (.exit id) env H
 |.ret,env,H=>Q .ret env H
theorem QD{h0:Nat}{env:Env}{H:Qd}{Q:QB}{β:Type}{b:β}{E':β->Env}{H':β->Qd}(h:Le h0 env H (E' b) (H' b)):CutQ h0 b E' H' Q .normal env H:=h
theorem Ct{β:Type}{E':β->Env}{H':β->Qd}(b:β)(sel keep:List Nat)(nE:β->Env)(nH:β->List (Nat×Blk))(_:∀b,Qnt sel keep (nE b) (nH b) env H=some (E' b,H' b))(h:TC P h0 N c env H (CutQ h0 b E' H' Q))(k:∀env H,Le h0 env H (E' b) (H' b)->Q .normal env H):TC P h0 N c env H Q:=
 h.mono λx env' H' q=>by
  cases x with
  |normal=>exact k _ _ q
  |exit id=>exact q
  |ret=>exact q
theorem CtE{S B:Type}{b:Ctl S B}{E':S->Env}{H':S->Qd}(sel keep:List Nat)(nE:S->Env)(nH:S->List (Nat×Blk))(_:∀s,Qnt sel keep (nE s) (nH s) env H=some (E' s,H' s))(h:TC P h0 N c env H (QfS h0 b E' H' Q))(k:∀s env H,b=.cont s->Le h0 env H (E' s) (H' s)->Q .normal env H):TC P h0 N c env H Q:=Qhx E' H' h k
theorem Lp{S B:Type}{step:S->Option (Ctl S B)}{E':S->Env}{H':S->Qd}{m:Nat}{s0:S}{b0:B}(sel keep:List Nat)(nE:S->Env)(nH:S->List (Nat×Blk))(h:iter step m s0=some b0)(_:∀s,Qnt sel keep (nE s) (nH s) env H=some (E' s,H' s))(hI:Le h0 env H (E' s0) (H' s0))
  (body:∀s d,step s=some d->(∀b,d=.done b->b=b0)->TC P h0 N c (E' s) (H' s) (Qbo (λs env H=>Le h0 env H (E' s) (H' s)) d Q)):TC P h0 N (.loop c) env H Q:=TC.loop E' H' h hI body
end
theorem Oj{S B:Type}{d:Ctl S B}{x b0:B}(hb:∀b,d=.done b->b=b0)(h:some (Ctl.done x)=some d):x=b0:=hb x (Oi h).symm
theorem Rt{P:Program}{h0:Nat}{fn:Func}{env:Env}{H:Qd}{β:Type}{e r:β}{w:β->A}{Hc:β->Qd}(h:some e=some r)(s:Nat)(π:List Nat)(a:fn.results= #[.tmp s]:=by exact rfl)(hpre:π.take h0=List.range h0:=by exact rfl)
  (hH:π.map (λp=>H[p]?)=((Hc e).map (QV (rho π H.length))).map some:=by exact rfl)(hπ:π.Nodup:=by decide)(hE:Qec (rho π H.length) env [(s,w e)]:=by exact⟨rfl,trivial⟩):Qdf P h0 fn (RQ w Hc r) .ret env H:=by
 cases h;exact R1 s a (Lr π hpre hH hπ hE)
theorem Cl{h0:Nat}{env:Env}{H:Qd}{Q:QB}{β:Type}{e b:β}{E':β->Env}{H':β->Qd}(h:some e=some b)(π:List Nat)(a:π.take h0=List.range h0:=by exact rfl)
  (hH:π.map (λp=>H[p]?)=((H' e).map (QV (rho π H.length))).map some:=by exact rfl)(hπ:π.Nodup:=by decide)(hE:Qec (rho π H.length) env (E' e):=by(repeat' (first|exact trivial|refine⟨rfl,?_⟩))):CutQ h0 b E' H' Q .normal env H:=by
 cases h;exact Lr π a hH hπ hE
end Go.Sw
namespace Go.Sw
def plC(cat:List Nat):List (List (Nat×Nat)):=cat.map λc=>match c with|0=>[(0,0)]|1=>[(0,1)]|2=>[(1,1)]|_=>[(0,0),(1,1)]
def rqC(b:Nat)(cat:List Nat):List (List Nat):=cat.map λc=>match c with|2=>[b]|_=>[]
def hsC(cat:List Nat):List Bool:=cat.map λc=>match c with|1=>true|_=>false
section
variable {P:Program} {T:TyX} {h0 N m b:Nat} {cat:List Nat} {l:List Oper} {ds:List Nat} {env:Env} {H H1:Qd} {Q:QB} {K:List Oper->Env->Qd->Prop}
theorem QhD{P:Program}{N:Nat}{l:List Oper}{ds:List Nat}{xs:List A}{env0:Env}{hB hE:Nat}:∀(ss:List (List (Qd×Qd))) (b:Nat),(∀i s,ss[i]?=some s->∀p∈s,JB P N l ds xs env0 hB hE (b+i) p.1 p.2)->QhE P N l ds xs env0 hB hE b ss
 |[],b,h=>.nil
 |s::ss,b,h=>.cons (h 0 s rfl) (QhD ss (b+1) λi s' hs=>by rw[show b+1+i=b+(i+1)by omega];exact h (i+1) s' hs)
def Dob(P:Program)(N:Nat)(cat:List Nat)(l:List Oper)(ds:List Nat)(env:Env)(H H1:Qd)(zs:List A)(j:Nat):Prop:=
 ∀p∈(plC cat).getD j [],JB P N l ds zs env H.length H.length j ([H,H1].getD p.1 []) ([H,H1].getD p.2 [])
def DB(P:Program)(N m:Nat)(cat:List Nat)(l:List Oper)(ds:List Nat)(env:Env)(H H1:Qd)(K:List Oper->Env->Qd->Prop)(r:List Oper)(xs:List A):Prop:=
 r=l.drop xs.length->∃ys,xs.length+ys.length=m/\(∀j,xs.length<=j->j<m->Dob P N cat l ds env H H1 (xs++ys) j)/\K (l.drop m) (Qay ds (xs++ys) env) H1
def DA(P:Program)(N m:Nat)(cat:List Nat)(l:List Oper)(ds:List Nat)(env:Env)(H:Qd)(K:List Oper->Env->Qd->Prop)(r:List Oper)(xs:List A):Prop:=
 r=l.drop xs.length->∃ys H1,xs.length+ys.length=m/\H.length<=H1.length/\(∀j,xs.length<=j->j<m->Dob P N cat l ds env H H1 (xs++ys) j)/\K (l.drop m) (Qay ds (xs++ys) env) H1
theorem Qp9{f:List A}(b:cat.length=m)(n:∀j,0<=j->j<m->Dob P N cat l ds env H H1 f j):QhE P N l ds f env H.length (H.length+0) 0 ((plC cat).map λq=>q.map λp=>([H,H1].getD p.1 [],[H,H1].getD p.2 [])):=by
 refine QhD _ 0 λi s a p g=>?_;rw[Xp]at a;cases e:(plC cat)[i]? with
 |none=>rw[e]at a;cases a
 |some q=>
  rw[e]at a;cases a;obtain⟨h,d,rfl⟩:=Xe.1 g;have k:i<m:=by
   have:=(XO.1 e).1;simpa[plC,b]using this
  have:=n i (XX _) k h (by rw[QkB e];exact d);simpa using this
theorem DA.len(a:H.length<=H1.length):[H,H1].all (λX=>Nat.ble (H.length+0) X.length)=true:=by
 simp only[List.all_cons,List.all_nil,Bool.and_true,Xy,XZ];exact⟨XV (XW _),XV a⟩
theorem Qn6{id:Nat}(m b:Nat)(cat:List Nat)(q:P.follows .mixedOrders=true)(k:Qd5 l m N (Qbk m 0 l) (hsC cat) (rqC b cat) [[],[b]] (plC cat)=true)(d:Nat.beq cat.length m=true)(f:Nat.ble h0 H.length=true)
  (h:DA P N m cat l (Qbk m 0 l) env H (λr e H=>WO P h0 N l.toArray r e H Q) l []):TC P h0 N (.region id l.toArray true) env H Q:=by
 obtain⟨n,H1,g,p,i,j⟩:=h rfl;simp only[List.length_nil,Xx,Vj]at g i j;have a:=XT d;exact YV m 0 _ _ _ _ _ n [H,H1] H1 q k (by rw[g];exact VH m) rfl f (DA.len p) (by simp) rfl (Qp9 a i) (by simp[plC,a]) j
theorem Qbl{xs:List A}{o:Oper}{r:List Oper}(b:o::r=l.drop xs.length):l[xs.length]?=some o/\r=l.drop (xs.length+1):=by
 have a:xs.length<l.length:=by
  rcases VE xs.length l.length with q|q
  .exact q
  .rw[List.drop_eq_nil_of_le q]at b;cases b
 rw[Xq a]at b;cases b;exact⟨XN a,rfl⟩
theorem QhJ{zs:List A}{j c:Nat}(b:YU cat j=some c)(h:∀p∈(match c with|0=>[(0,0)]|1=>[(0,1)]|2=>[(1,1)]|_=>[(0,0),(1,1)]:List (Nat×Nat)),JB P N l ds zs env H.length H.length j ([H,H1].getD p.1 []) ([H,H1].getD p.2 [])):Dob P N cat l ds env H H1 zs j:=by
 intro p a;rw[QaG]at b;unfold plC at a;rw[VN,Xp,b]at a;exact h p a
theorem QaD{hB hE:Nat}{xs a:List A}{o:Oper}{x:A}{d:Nat}{X X':Qd}(f:l[xs.length]?=some o)(hdd:Qaw hB hE X X'=true)(h:WO P X.length N l.toArray [o] (Yh (Qj o) 0 ds xs env) X (Y5 (up (Yh (Qj o) 0 ds xs env) d x) X'))(i:o.dst=some d):
  JB P N l ds (xs++x::a) env hB hE xs.length X X':=
 .woE o _ d x f i Qif (he:=by
  intro s;rcases QkJ (af:=Qj o) (env0:=env) (s:=s) ds xs (x::a) 0 with⟨j,y,b,g,k,e⟩|q|q
  .rw[Xx]at b;exact .inl ⟨j,y,b,g,k,e⟩
  .exact .inr (.inl q)
  .exact .inr (.inr q)) (hdd:=hdd) (h:=h)
theorem Y9{n:Nat}{X X':Qd}:Qaw n n X X'=true:=by unfold Qaw;rw[Nat.sub_self];rfl
theorem DA.wo{xs:List A}{o:Oper}{r:List Oper}{x:A}{d:Nat}(h:WO P H.length N l.toArray [o] (Yh (Qj o) 0 ds xs env) H (Y5 (up (Yh (Qj o) 0 ds xs env) d x) H))(k:DA P N m cat l ds env H K r (xs++[x]))
  (n:YU cat xs.length=some 0:=by exact rfl)(hd:o.dst=some d:=by exact rfl)(hx:Nat.blt xs.length m=true:=by exact rfl):DA P N m cat l ds env H K (o::r) xs:=by
 intro g;obtain⟨i,a⟩:=Qbl g;obtain⟨s,H1,u,t,b,e⟩:=k (by simpa using a);simp only[X5,X3,List.length_nil,Vk,VM,Vj]at u b e;refine⟨x::s,H1,by simp only[X3];omega,t,λj y w=>?_,e⟩;rcases VE xs.length j with q|q
 .exact b j (by omega) w
 .obtain rfl:j=xs.length:=by omega
  refine QhJ n λp f=>?_;obtain rfl:=VD.1 f;exact QaD i Y9 h hd
theorem DA.op{xs:List A}{o:Oper}{r:List Oper}{x:A}{d:Nat}(h:WO P H.length N l.toArray [o] (Yh (Qj o) 0 ds xs env) H (Y5 (up (Yh (Qj o) 0 ds xs env) d x) H1))(k:DB P N m cat l ds env H H1 K r (xs++[x]))(hl:Nat.ble H.length H1.length=true:=by exact rfl)
  (hc:YU cat xs.length=some 1:=by exact rfl)(hd:o.dst=some d:=by exact rfl)(hx:Nat.blt xs.length m=true:=by exact rfl):DA P N m cat l ds env H K (o::r) xs:=by
 intro g;obtain⟨i,a⟩:=Qbl g;obtain⟨n,s,b,e⟩:=k (by simpa using a);simp only[X5,X3,List.length_nil,Vk,VM,Vj]at s b e;refine⟨x::n,H1,by simp only[X3];omega,XU hl,λj u t=>?_,e⟩;rcases VE xs.length j with q|q
 .exact b j (by omega) t
 .obtain rfl:j=xs.length:=by omega
  refine QhJ hc λp f=>?_;obtain rfl:=VD.1 f;exact QaD i Y9 h hd
theorem QbG{xs:List A}{o:Oper}{r:List Oper}{x x':A}{d:Nat}{H1':Qd}(h:OpH P o (Yh (Qj o) 0 ds xs env) H x H1)(a:foA x=.mk x')(b:foH H1=.mk H1')(k:DB P N m cat l ds env H H1' K r (xs++[x']))(e:o.dst=some d:=by exact rfl)(hg:YY ⟨l⟩ o (Yh (Qj o) 0 ds xs env)=some true:=by exact rfl)(hN:Nat.blt d N=true:=by exact rfl)(hl:Nat.ble H.length H1'.length=true:=by exact rfl)
  (hc:YU cat xs.length=some 1:=by exact rfl)(hx:Nat.blt xs.length m=true:=by exact rfl):DA P N m cat l ds env H K (o::r) xs:=by
 rw[Qhj]at a;rw[Qjx]at b;cases a;cases b;exact .op (Y3 (XW _) (QP hg) e hN h (WO.nil Y5.mk)) k hl hc e hx
theorem DB.done{xs:List A}{r:List Oper}(a:Nat.beq xs.length m=true)(h:K r (Qay ds xs env) H1):DB P N m cat l ds env H H1 K r xs:=by
 intro b;have e:=XT a;subst b;refine⟨[],by simpa using e,λj d f=>by omega,?_⟩;rw[<- e,Vi];exact h
theorem DB.add{xs:List A}{o:Oper}{r:List Oper}{x:A}(e:∀ys,l[xs.length]?=some o->Dob P N cat l ds env H H1 (xs++x::ys) xs.length)(k:DB P N m cat l ds env H H1 K r (xs++[x])):DB P N m cat l ds env H H1 K (o::r) xs:=by
 intro f;obtain⟨g,a⟩:=Qbl f;obtain⟨ys,h,b,d⟩:=k (by simpa using a);simp only[X5,X3,List.length_nil,Vk,VM,Vj]at h b d;refine⟨x::ys,by simp only[X3];omega,λj n i=>?_,d⟩;rcases VE xs.length j with q|q
 .exact b j (by omega) i
 .obtain rfl:j=xs.length:=by omega
  exact e ys g
theorem DB.wo1{xs:List A}{o:Oper}{r:List Oper}{x:A}{d:Nat}(h:WO P H1.length N l.toArray [o] (Yh (Qj o) 0 ds xs env) H1 (Y5 (up (Yh (Qj o) 0 ds xs env) d x) H1))(k:DB P N m cat l ds env H H1 K r (xs++[x]))
  (b:YU cat xs.length=some 2:=by exact rfl)(hd:o.dst=some d:=by exact rfl):DB P N m cat l ds env H H1 K (o::r) xs:=
 .add (λf e=>QhJ b λp a=>by
  obtain rfl:=VD.1 a;exact QaD e Y9 h hd) k
theorem DB.wo2{xs:List A}{o:Oper}{r:List Oper}{x:A}{d:Nat}(h:WO P H.length N l.toArray [o] (Yh (Qj o) 0 ds xs env) H (Y5 (up (Yh (Qj o) 0 ds xs env) d x) H))(f:WO P H1.length N l.toArray [o] (Yh (Qj o) 0 ds xs env) H1 (Y5 (up (Yh (Qj o) 0 ds xs env) d x) H1))(k:DB P N m cat l ds env H H1 K r (xs++[x]))
  (e:YU cat xs.length=some 3:=by exact rfl)(hd:o.dst=some d:=by exact rfl):DB P N m cat l ds env H H1 K (o::r) xs:=
 .add (λg b=>QhJ e λp a=>by
  rcases X8.1 a with rfl|a
  .exact QaD b Y9 h hd
  .obtain rfl:=VD.1 a;exact QaD b Y9 f hd) k
def QhV(T:TyX)(N m:Nat)(cat:List Nat)(l:List Oper)(ds:List Nat)(env:Env)(H:Qd):Nat->Nat->List Oper->List A->Option (List Oper×List A)
 |0,_,r,xs=>some (r,xs)
 |_+1,_,[],_=>none
 |n+1,i,o::r,xs=>match Nat.blt i m,YU cat i with
  |true,some 0=>match o.dst with
   |none=>none
   |some d=>match Nat.blt d N with
    |false=>none
    |true=>match YY ⟨l⟩ o (Yh (Qj o) 0 ds xs env)with
     |none=>none
     |some false=>match QcG xs (.tup [])with
      |.mk xs'=>QhV T N m cat l ds env H n (i+1) r xs'
     |some true=>match Qdp T o (Yh (Qj o) 0 ds xs env) H with
      |none=>none
      |some x=>match QcG xs x with
       |.mk xs'=>QhV T N m cat l ds env H n (i+1) r xs'
  |_,_=>none
theorem QeQ(hT:QbJ P T):∀(n i:Nat) {r r':List Oper} {xs xs':List A},i=xs.length->QhV T N m cat l ds env H n i r xs=some (r',xs')->DA P N m cat l ds env H K r' xs'->DA P N m cat l ds env H K r xs
 |0,i,r,r',xs,xs',_,h,k=>by cases h;exact k
 |n+1,i,[],r',xs,xs',_,h,k=>by cases h
 |n+1,i,o::r,r',xs,xs',hi,h,k=>by
  subst hi;unfold QhV at h;split at h
  .rename_i q1 q0;split at h
   .cases h
   .rename_i d hd;split at h
    .cases h
    .rename_i q2;split at h
     .cases h
     .rename_i hw;simp only[Ja]at h;exact .wo (WO.skip (QP hw) hd q2 (WO.nil Y5.mk)) (QeQ hT n _ (by simp) h k) q0 hd q1
     .rename_i hw;split at h
      .cases h
      .rename_i x hv;simp only[Ja]at h;exact .wo (QF (QP hw) hd q2 (Qaz hT hv) (WO.nil Y5.mk)) (QeQ hT n _ (by simp) h k) q0 hd q1
  .cases h
theorem Qoe{H:Qd}{p:Bx}{r:Lx}(h:ptX [] p=some r):ptX H p=some r:=by
 unfold ptX at h⊢;split at h
 .exact h
 .rename_i i a;simp only[YU]at h;cases h
 .cases h
theorem QeE{o:Oper}{e:Env}{H:Qd}{x:A}(h:Qdp T o e []=some x):Qdp T o e H=some x:=by
 unfold Qdp at h⊢;split at h<;>first|exact h|skip
 rename_i t y g;split at h
 .cases h
 .rename_i b n f;split at h
  .exact h
  .rename_i d;cases q:ptX [] (opB e y)with
   |none=>rw[q]at h;cases h
   |some r=>
    rw[q]at h;have a:=Qoe (H:=H) q;simp only[a];exact h
def QeP(T:TyX)(N:Nat)(cat:List Nat)(l:List Oper)(ds:List Nat)(env:Env)(H1:Qd):Nat->Nat->List Oper->List A->Option (List Oper×List A)
 |0,_,r,xs=>some (r,xs)
 |_+1,_,[],_=>none
 |n+1,i,o::r,xs=>match o.dst with
  |none=>none
  |some d=>match Nat.blt d N with
   |false=>none
   |true=>match YY ⟨l⟩ o (Yh (Qj o) 0 ds xs env)with
    |none=>none
    |some false=>match YU cat i with
     |some 2=>(match QcG xs (.tup [])with
      |.mk xs'=>QeP T N cat l ds env H1 n (i+1) r xs')
     |some 3=>(match QcG xs (.tup [])with
      |.mk xs'=>QeP T N cat l ds env H1 n (i+1) r xs')
     |_=>none
    |some true=>match YU cat i with
     |some 2=>(match Qdp T o (Yh (Qj o) 0 ds xs env) H1 with
      |none=>none
      |some x=>match QcG xs x with
       |.mk xs'=>QeP T N cat l ds env H1 n (i+1) r xs')
     |some 3=>(match Qdp T o (Yh (Qj o) 0 ds xs env) []with
      |none=>none
      |some x=>match QcG xs x with
       |.mk xs'=>QeP T N cat l ds env H1 n (i+1) r xs')
     |_=>none
theorem QbR(hT:QbJ P T):∀(n i:Nat) {r r':List Oper} {xs xs':List A},i=xs.length->QeP T N cat l ds env H1 n i r xs=some (r',xs')->DB P N m cat l ds env H H1 K r' xs'->DB P N m cat l ds env H H1 K r xs
 |0,i,r,r',xs,xs',_,h,k=>by cases h;exact k
 |n+1,i,[],r',xs,xs',_,h,k=>by cases h
 |n+1,i,o::r,r',xs,xs',hi,h,k=>by
  subst hi;unfold QeP at h;split at h
  .cases h
  .rename_i d hd;split at h
   .cases h
   .rename_i q2;split at h
    .cases h
    .rename_i hw;split at h
     .rename_i q0;simp only[Ja]at h;exact .wo1 (WO.skip (QP hw) hd q2 (WO.nil Y5.mk)) (QbR hT n _ (by simp) h k) q0 hd
     .rename_i q0;simp only[Ja]at h;exact .wo2 (WO.skip (QP hw) hd q2 (WO.nil Y5.mk)) (WO.skip (QP hw) hd q2 (WO.nil Y5.mk)) (QbR hT n _ (by simp) h k) q0 hd
     .cases h
    .rename_i hw;split at h
     .rename_i q0;split at h
      .cases h
      .rename_i x hv;simp only[Ja]at h;exact .wo1 (QF (QP hw) hd q2 (Qaz hT hv) (WO.nil Y5.mk)) (QbR hT n _ (by simp) h k) q0 hd
     .rename_i q0;split at h
      .cases h
      .rename_i x hv;simp only[Ja]at h;exact .wo2 (QF (QP hw) hd q2 (Qaz hT (QeE hv)) (WO.nil Y5.mk)) (QF (QP hw) hd q2 (Qaz hT (QeE hv)) (WO.nil Y5.mk)) (QbR hT n _ (by simp) h k) q0 hd
     .cases h
end
end Go.Sw
namespace Go.Sw
def chkF(L:List (Nat×List (Nat×Nat)))(fs:List (Nat×Nat×Nat)):Bool:=
 fs.all λe=>match Qci L e.1 with
  |some pl=>(match YU pl e.2.1 with
   |some q=>Nat.beq q.1 e.2.2&& !(Nat.beq q.2 0)
   |none=>false)
  |none=>false
theorem PL.get{P:Program}{fs:List Field}{b:List (Nat×Nat)}(h:PL P fs b):∀{f off n:Nat},YU b f=some (off,n)->∃fd,fs[f]?=some fd/\fd.offset=off/\ ∀w,(sizeOf fd.type).run P w=.ok n w:=by
 induction h with
 |nil=>intro f off n h;cases h
 |cons h k g=>
  intro f off n a;cases f with
  |zero=>cases a;exact⟨_,rfl,rfl,h⟩
  |succ f=>obtain⟨fd,e,d⟩:=g (show YU _ f=_ from a);exact⟨fd,by simpa using e,d⟩
theorem QpQ{P:Program}{L:List (Nat×List (Nat×Nat))}{fs:List (Nat×Nat×Nat)}(d:∀e∈L,QC P e.1 e.2)(h:chkF L fs=true):∀e∈fs,∃n,QM P e.1 e.2.1 e.2.2 n:=by
 intro e g;have:=Xt.1 h e g;split at this
 .rename_i t b;split at this
  .rename_i q k;obtain⟨p,n⟩:=q;simp only[XZ,Bool.not_eq_true']at this;have j:=XT this.1;obtain⟨r,l,a⟩:=d _ (QaA b);obtain⟨i,f,s,m⟩:=PL.get a k;refine⟨n,⟨⟨_,i,l,by simpa using f,s.trans j,m,?_⟩⟩⟩;intro z;have a:=this.2;rw[z,VH]at a;cases a
  .cases this
 .cases this
section
variable {P:Program} {Z:TyZ} {h0 N:Nat} {all:Array Oper} {o:Oper} {l:List Oper} {env:Env} {H:Qd} {Q:QB} {d:Nat}
theorem Cdz(k:Qdb P Z){β γ:Type}{F:Option β}{F':β->Option γ}{r:γ}{f:Nat}{args a:List A}{Hc:Qd}{w:β->A}{Hr:β->Qd}(π:List Nat)(h:F.bind F'=some r)(j:∀v,F=some v->C P f a Hc (RQ w Hr v))
  (b:Qf0 Z o env=some (d,f,args))(g:∀v,F=some v->F' v=some r->WO P h0 N all l (up env d (Yy (rho π H.length) (w v))) (Yq H π ((Hr v).map (QV (rho π H.length)))) Q)
  (hargs:args=Qaa (rho π H.length) a)(hH:π.map (λp=>H[p]?)=(Hc.map (QV (rho π H.length))).map some)(hπ:π.Nodup)(hg:YY all o env=some true)(i:Nat.blt d N=true)(n:Nat.ble h0 H.length=true):WO P h0 N all (o::l) env H Q:=by
 obtain⟨v,e,m⟩:=Jq h;obtain⟨s,q⟩:=Qew (H:=H) k b;refine QA π q (j v e) ?_ hargs hH hπ (QP hg) s i n;rintro _ _ ⟨rfl,rfl⟩;exact g v e m
end
inductive FLL where
 |mk (l:List (List A))
def cpLL(sel:List Nat):List (List A)->FLL
 |[]=>.mk []
 |a::r=>match cpL sel a,cpLL sel r with
  |.mk a',.mk r'=>.mk (a'::r')
inductive FBk where
 |mk (b:Blk)
def cpBk(sel:List Nat):Blk->FBk
 |.cells t cs=>match cpL sel cs with
  |.mk l=>.mk (.cells t l)
 |.rowr t k es=>match cpLL sel es with
  |.mk l=>.mk (.rowr t k l)
 |.ents t a b es=>match Qk6 sel ixL a,Qk6 sel ixL b with
  |.mk a',.mk b'=>.mk (.ents t a' b' es)
 |b=>.mk b
def selD(H:Qd)(sel:List Nat):List Nat->FB
 |[]=>.mk []
 |a::r=>match YU H a with
  |some b=>(match cpBk sel b,selD H sel r with
   |.mk b',.mk l=>.mk (b'::l))
  |none=>.mk []
def retC(sel sl:List Nat)(env:Env)(H:Qd):Option (Env×Qd):=
 match QmS sel env sl [],selD H sel sel with
 |.mk e,.mk h=>some (e,h)
theorem Rx{P:Program}{h0:Nat}{fn:Func}{env E':Env}{H H':Qd}{Qr:A->Qd->Prop}{d:A}(π sl:List Nat)(_:retC π sl env H=some (E',H'))(b:Qcq P fn E' H' d)(e:Qr d H')(a:π.take h0=List.range h0:=by exact rfl)
  (hH:π.map (λp=>H[p]?)=(H'.map (QV (rho π H.length))).map some:=by exact rfl)(hπ:π.Nodup:=by decide)(hE:Qec (rho π H.length) env E':=by(repeat' (first|exact trivial|refine⟨rfl,?_⟩))):Qdf P h0 fn Qr .ret env H:=
 ⟨E',H',d,Lr π a hH hπ hE,b,e⟩
end Go.Sw
namespace Go.Sw
def nxL{T:Type}:List T->T->List T->Prop:=λl x rem=>l=x::rem
def Qg2{S T B:Type}(step:S->T->Option (Ctl S B)):List T->S->Option (Ctl S B)
 |[],s=>some (.cont s)
 |x::l,s=>(step s x).bind λd=>match d with
  |.cont s'=>Qg2 step l s'
  |.done b=>some (.done b)
def QbV{S T B:Type}(step:S->Option (List T×Ctl S B)):Nat->S->Option (List T×B)
 |0,_=>none
 |n+1,s=>(step s).bind λp=>match p.2 with
  |.cont s'=>(QbV step n s').bind λq=>some (p.1++q.1,q.2)
  |.done b=>some (p.1,b)
def QnJ{S B:Type}(h1:Nat)(env:Env)(Q:QB)(d:Ctl S B)(Hp:S->Qd):QB
 |.normal,env',H'=>∃s,d=.cont s/\Le h1 env' H' [] (Hp s)
 |.exit id,env',H'=>(∃b,d=.done b)/\ ∃H2,Le h1 env' H' [] H2/\Q (.exit id) env H2
 |.ret,env',H'=>(∃b,d=.done b)/\ ∃H2,Le h1 env' H' [] H2/\Q .ret env H2
theorem Qkm{S B:Type}{h1:Nat}{env env':Env}{H':Qd}{Q:QB}{s:S}{d:Ctl S B}{Hp:S->Qd}(e:some (Ctl.cont s)=some d)(h:Le h1 env' H' [] (Hp s)):QnJ h1 env Q d Hp .normal env' H':=⟨s,(Oi e).symm,h⟩
theorem QgK{P:Program}{h0 N:Nat}{m:Operand}{ps:List Nat}{assign body:Code}{env:Env}{H:Qd}{Q:QB}{f:FuncId}{g a:List A}{Hc:Qd}{T S B:Type}{enc:T->List A}{xs:List T}{step:S->T->Option (Ctl S B)}{s0:S}{D:Ctl S B}
  (π:List Nat)(Hp:S->Qd)(h:Qg2 step xs s0=some D)(r:Qhy P f a Hc enc nxL xs)(n:∀x,(enc x).length=ps.length)(L:∀args w,(callFunc f args).run P w=.ok (.enter f args) w)
  (M:Nat.ble h0 H.length=true)(hg:opA env m=.fn (.func f) [] g)(hargs:g=Qaa (rho π H.length) a)(hH:π.map (λp=>H[p]?)=(Hc.map (QV (rho π H.length))).map some)(hπ:π.Nodup)(y:(ps.all λp=>Nat.blt p N)=true)
  (j:Le H.length env (Qd0 H π) env (Hp s0))
  (i:∀s x d,step s x=some d->(∀b,d=.done b->D=.done b)->TC P H.length N assign (Ql5 ps (enc x) env) (Hp s) λe env1 H1=>e=.normal/\TC P H.length N body env1 H1 (QnJ H.length env Q d Hp))
  (k:∀s,D=.cont s->Q .normal env (Hp s)):TC P h0 N (.rangeFunc m ps.toArray assign body) env H Q:=by
 refine TC.rangeFunc π Hp (λs l=>Qg2 step l s=some D) s0 (XU M) hg hargs hH hπ y L r n j h ?_ ?_
 .rintro s l x rem t rfl;obtain⟨d,R,t⟩:=Jq t;refine(i s x d R ?_).mono ?_
  .rintro b rfl;exact(Oi t).symm
  .rintro e env1 H1 ⟨J,F⟩;refine⟨J,F.mono ?_⟩;intro O E H2 q;cases O with
   |normal=>
    obtain⟨z,rfl,j⟩:=q;exact⟨Hp z,j,z,t,rfl⟩
   |exit id=>
    obtain⟨_,H3,u,q⟩:=q;exact⟨H3,u,q⟩
   |ret=>
    obtain⟨_,H3,u,q⟩:=q;exact⟨H3,u,q⟩
 .intro s G;exact k s (Oi G).symm
section
variable {T:Type} {X:Ctx T} {P:Program} {h0 N:Nat} {c:Code} {env:Env} {H:Qd} {st:YSt T} {Q:Yz T}
def QfP{S B:Type}(h0:Nat)(E:S->Env)(Hp:S->Qd)(d:Ctl S B)(rest:List T)(Q:Yz T):Yz T
 |.normal,env,H,st=>∃s,d=.cont s/\Le h0 env H (E s) (Hp s)/\st=.on rest
 |.exit id,env,H,st=>Q (.exit id) env H st
 |.ret,env,H,st=>Q .ret env H st
theorem Qly{S B:Type}{step:S->Option (List T×Ctl S B)}{E:S->Env}{Hp:S->Qd}{m:Nat}{s0:S}{j rem:List T}{b:B}(h:QbV step m s0=some (j,b))(y:Le h0 env H (E s0) (Hp s0))
  (body:∀s zs d rest,step s=some (zs,d)->(∀b',d=.done b'->b'=b/\rest=rem)->TCy X P h0 N c (E s) (Hp s) (.on (zs++rest)) (QfP h0 E Hp d rest Q)):TCy X P h0 N (.loop c) env H (.on (j++rem)) Q:=by
 refine QgJ (I:=λn env H r=>∃s a,QbV step n s=some (a,b)/\r=.on (a++rem)/\Le h0 env H (E s) (Hp s)) ?_ ⟨s0,j,h,rfl,y⟩;rintro n env H r ⟨s,a,f,rfl,k⟩;cases n with
 |zero=>cases f
 |succ n=>
  obtain⟨⟨zs,d⟩,p,f⟩:=Jq f;refine TCy.le k ?_;cases d with
  |cont u=>
   obtain⟨⟨z,F⟩,w,f⟩:=Jq f;cases f;rw[Vk];refine(body s zs (.cont u) (z++rem) p (λb' e=>by cases e)).mono ?_;rintro x g H' i q;cases x with
   |normal=>
    obtain⟨t,e,l,rfl⟩:=q;cases e;exact⟨n,Xn n,_,_,w,rfl,l⟩
   |exit id=>exact q
   |ret=>exact q
  |done b'=>
   cases f;refine(body s _ (.done b) rem p (λb' e=>by cases e;exact⟨rfl,rfl⟩)).mono ?_;rintro x g H' i q;cases x with
   |normal=>obtain⟨t,e,_⟩:=q;cases e
   |exit id=>exact q
   |ret=>exact q
def kqY(X:Ctx T)(P:Program)(h0 N:Nat):List Kf->Yz T->Yz T
 |[],Q=>Q
 |.seq c::k,Q=>SeqY X P h0 N c (kqY X P h0 N k Q)
 |.blo id::k,Q=>BloY id (kqY X P h0 N k Q)
 |.unr c::k,Q=>λ_ _ _ _=>False
@[reducible] def HdY(X:Ctx T)(P:Program)(h0 N:Nat):Cf->List Kf->Env->Qd->YSt T->Yz T->Prop
 |.code c,k,env,H,st,Q=>TCy X P h0 N c env H st (kqY X P h0 N k Q)
 |.ops all l,k,env,H,st,Q=>WOy X P h0 N all l env H st (kqY X P h0 N k Q)
 |.out x,k,env,H,st,Q=>kqY X P h0 N k Q x env H st
def Qo0:Cf->List Kf->Bool
 |.code (.loop _),_=>false
 |.out _,.unr _::_=>false
 |_,_=>true
theorem Ql7{Tx:TyX}(f:QbJ P Tx){c d:Cf}{k b:List Kf}{env env':Env}{H H':Qd}(h:Qf5 Tx h0 N c k env H=some (d,b,env',H'))(a:Qo0 c k=true)(g:HdY X P h0 N d b env' H' st Q):HdY X P h0 N c k env H st Q:=by
 unfold Qf5 at h;split at h
 .cases h;exact TCy.seq g
 .cases h;exact TCy.block g
 .cases a
 .cases h;exact TCy.skip g
 .cases h;exact TCy.ret g
 .cases h;exact TCy.exit g
 .cases h;exact TCy.region g
 .split at h
  .rename_i q;cases h;exact TCy.cond (QE q) (λ_=>g) (λe=>by cases e)
  .rename_i q;cases h;exact TCy.cond (QE q) (λe=>by cases e) (λ_=>g)
  .cases h
 .cases h;exact WOy.nil g
 .split at h
  .rename_i q;cases h;exact WOy.step (Qmb f q (WO.nil ⟨rfl,g⟩))
  .cases h
 .cases h;exact g
 .cases h;exact g
 .cases h;exact g
 .cases h;exact g
 .split at h
  .rename_i q;cases h;have e:=XT q;subst e;show(bif Nat.beq _ _ then _ else _);rw[VH];exact g
  .rename_i q;cases h;show(bif Nat.beq _ _ then _ else _);rw[q];exact g
 .cases h;exact g
 .cases a
 .cases a
 .cases a
 .cases h
def Qjf(Tx:TyX)(h0 N:Nat):Nat->Cf->List Kf->Env->Qd->Option (Cf×List Kf×Env×Qd)
 |0,c,k,env,H=>some (c,k,env,H)
 |n+1,c,k,env,H=>match Qo0 c k with
  |true=>(match Qf5 Tx h0 N c k env H with
   |some (c',k',env',H')=>Qjf Tx h0 N n c' k' env' H'
   |none=>none)
  |false=>none
theorem QcR{Tx:TyX}(hT:QbJ P Tx):∀(n:Nat) {c c':Cf} {k k':List Kf} {env env':Env} {H H':Qd},Qjf Tx h0 N n c k env H=some (c',k',env',H')->HdY X P h0 N c' k' env' H' st Q->HdY X P h0 N c k env H st Q
 |0,c,c',k,k',env,env',H,H',h,g=>by cases h;exact g
 |n+1,c,c',k,k',env,env',H,H',h,g=>by
  unfold Qjf at h;split at h
  .rename_i hn;split at h
   .rename_i e;exact Ql7 hT e hn (QcR hT n h g)
   .cases h
  .cases h
theorem TCy.lf{k:List Kf}(h:TC P h0 N c env H (λx env H=>kqY X P h0 N k Q x env H st)):TCy X P h0 N c env H st (kqY X P h0 N k Q):=TCy.lift h
theorem QjS{all:Array Oper}{o:Oper}{r:List Oper}{d:Nat}{x:T}{l:List T}{e:T->A}{y z:Operand}{k:Array TypeId}(hE:X.enc=λx=>[e x])(a:X.nx=nxL)(i:o.op=.call {callee:=.value y,args:= #[z],argTypes:=k})(f:opA env y=.fn (.yield X.l) [] [])(h:opA env z=e x)(g:Yp (e x)=true)
  (m:WOy X P h0 N all r (up env d (.bool true)) H (.on l) Q)(j:WOy X P h0 N all r (up env d (.bool false)) H (.off l) Q)(hg:Qq all o env true:=by exact rfl)(hd:o.dst=some d:=by exact rfl)(hNd:Nat.blt d N=true:=by exact rfl):WOy X P h0 N all (o::r) env H (.on (x::l)) Q:=by
 refine WOy.yield (x:=x) (rem:=l) (by rw[a];rfl) hg hd hNd ?_ ?_
 .rw[hE];exact QhM i f h g
 .intro b;cases b with
  |true=>exact m
  |false=>exact j
theorem WOy.y2{all:Array Oper}{o:Oper}{r:List Oper}{d:Nat}{x:T}{l:List T}{f i:T->A}{y j k:Operand}{s:Array TypeId}(hE:X.enc=λx=>[f x,i x])(m:X.nx=nxL)(p:o.op=.call {callee:=.value y,args:= #[j,k],argTypes:=s})(n:opA env y=.fn (.yield X.l) [] [])(e:opA env j=f x)(a:opA env k=i x)(g:Yp (f x)=true)(h:Yp (i x)=true)
  (t:WOy X P h0 N all r (up env d (.bool true)) H (.on l) Q)(q:WOy X P h0 N all r (up env d (.bool false)) H (.off l) Q)(hg:Qq all o env true:=by exact rfl)(hd:o.dst=some d:=by exact rfl)(hNd:Nat.blt d N=true:=by exact rfl):WOy X P h0 N all (o::r) env H (.on (x::l)) Q:=by
 refine WOy.yield (x:=x) (rem:=l) (by rw[m];rfl) hg hd hNd ?_ ?_
 .rw[hE];exact QkZ p n e a g h
 .intro b;cases b with
  |true=>exact t
  |false=>exact q
end
end Go.Sw
namespace Go.Sw
def yl{T R:Type}(x:T)(k:Option (List T×R)):Option (List T×R):=k.bind λp=>some (x::p.1,p.2)
def ap{T B R:Type}(a:Option (List T×B))(k:B->Option (List T×R)):Option (List T×R):=a.bind λp=>(k p.2).bind λq=>some (p.1++q.1,q.2)
theorem Ql2{T R:Type}{x:T}{k:Option (List T×R)}{a:List T}{v:R}(h:yl x k=some (a,v)):∃zs,k=some (zs,v)/\a=x::zs:=by
 obtain⟨⟨zs,e⟩,d,b⟩:=Jq h;cases b;exact⟨zs,d,rfl⟩
theorem Qo8{T B R:Type}{a:Option (List T×B)}{k:B->Option (List T×R)}{d:List T}{v:R}(h:ap a k=some (d,v)):∃y1 b y2,a=some (y1,b)/\k b=some (y2,v)/\d=y1++y2:=by
 obtain⟨⟨y1,b⟩,f,e⟩:=Jq h;obtain⟨⟨y2,j⟩,g,i⟩:=Jq e;cases i;exact⟨y1,b,y2,f,g,rfl⟩
section
variable {T:Type} {X:Ctx T} {P:Program} {h0 N:Nat} {c c':Code} {env:Env} {H:Qd} {st:YSt T} {Q:Yz T}
def Qn7{β:Type}(h0:Nat)(b:β)(E':β->Env)(H':β->Qd)(rem:List T)(Q:Yz T):Yz T
 |.normal,env,H,st=>Le h0 env H (E' b) (H' b)/\st=.on rem
 |.exit id,env,H,st=>Q (.exit id) env H st
 |.ret,env,H,st=>Q .ret env H st
theorem QiQ{β:Type}{E':β->Env}{H':β->Qd}(b:β)(rem:List T)(sel keep:List Nat)(nE:β->Env)(nH:β->List (Nat×Blk))(_:∀b,Qnt sel keep (nE b) (nH b) env H=some (E' b,H' b))(h:TCy X P h0 N c env H st (Qn7 h0 b E' H' rem Q))(k:∀env H,Le h0 env H (E' b) (H' b)->Q .normal env H (.on rem)):TCy X P h0 N c env H st Q:=
 h.mono λx env' H' st' q=>by
  cases x with
  |normal=>obtain⟨q1,rfl⟩:=q;exact k _ _ q1
  |exit id=>exact q
  |ret=>exact q
theorem Qo5{β:Type}{b:β}{E':β->Env}{H':β->Qd}{rem:List T}(h:Le h0 env H (E' b) (H' b)):Qn7 h0 b E' H' rem Q .normal env H (.on rem):=⟨h,rfl⟩
theorem Qns{β:Type}{b:β}{E':β->Env}{H':β->Qd}{rem:List T}(h:Q .ret env H st):Qn7 h0 b E' H' rem Q .ret env H st:=h
theorem QnE{S B:Type}{step:S->Option (List T×Ctl S B)}{E':S->Env}{H':S->Qd}{m:Nat}{s0:S}{ys rem:List T}{b:B}(sel keep:List Nat)(nE:S->Env)(nH:S->List (Nat×Blk))(h:QbV step m s0=some (ys,b))(_:∀s,Qnt sel keep (nE s) (nH s) env H=some (E' s,H' s))(hI:Le h0 env H (E' s0) (H' s0))
  (body:∀s zs d rest,step s=some (zs,d)->(∀b',d=.done b'->b'=b/\rest=rem)->TCy X P h0 N c (E' s) (H' s) (.on (zs++rest)) (QfP h0 E' H' d rest Q)):TCy X P h0 N (.loop c) env H (.on (ys++rem)) Q:=Qly h hI body
theorem QcA{S B:Type}{E':S->Env}{H':S->Qd}{s:S}{d:Ctl S B}{zs rest:List T}(e:some (([]:List T),Ctl.cont s)=some (zs,d))(h:Le h0 env H (E' s) (H' s)):QfP h0 E' H' d rest Q .normal env H (.on (zs++rest)):=by
 cases e;exact⟨s,rfl,h,rfl⟩
theorem QmN{S B:Type}{id:Nat}{E':S->Env}{H':S->Qd}{d:Ctl S B}{rest:List T}(h:Q (.exit id) env H st):QfP h0 E' H' d rest Q (.exit id) env H st:=h
theorem Qjp{S B:Type}{E':S->Env}{H':S->Qd}{d:Ctl S B}{rest:List T}(h:Q .ret env H st):QfP h0 E' H' d rest Q .ret env H st:=h
theorem Oy{S B:Type}{d:Ctl S B}{x b:B}{zs rest rem:List T}(e:∀b',d=.done b'->b'=b/\rest=rem)(h:some (([]:List T),Ctl.done x)=some (zs,d)):zs=[]/\b=x/\rest=rem:=by
 cases h;obtain⟨f,a⟩:=e x rfl;exact⟨rfl,f.symm,a⟩
theorem Qea{f:FuncId}{fn:Func}{c:Code}{N:Nat}{a:List A}{H:Qd}{enc:T->List A}{xs:List T}(g:P.funcs[f]?=some fn)(b:fn.body=some c)(d:fn.ntmps=N)(i:Nat.ble (a.length+1) N=true)(e:fn.results= #[])
  (h:∀X:Ctx T,X.enc=enc->X.nx=nxL->TCy X P H.length N c (QgB 0 (.fn (.yield X.l) [] []::a)) H (.on (xs++[])) EndY):Qhy P f a H enc nxL xs:=by
 rw[Vi]at h;exact Qde g b d i e h
end
end Go.Sw
namespace Go.Sw
open Go.MapKept
section
variable {fr ro:Nat->Prop} {σ:Sig} {H:Qd} {w:World}
end
end Go.Sw
namespace Go.Sw
open Go.MapKept
def QbK{α β:Type}(ek:α->A)(ev:β->List A)(l:List (α×Option (List β))):List (A×Option (List (List A))):=l.map λp=>(ek p.1,p.2.map (List.map ev))
def Qkr{α β:Type}[DecidableEq α](l:List (α×Option (List β)))(x:α):List (α×Option (List β)):=l.map λp=>bif decide (p.1=x)then(p.1,none)else p
section
variable {P:Program} {kt:TypeId} {α β:Type} [DecidableEq α] {ek:α->A} {ev:β->List A} {ro:Nat->Prop} {w:World} {t k:Nat} (K:Y0 P kt ek)
include K
theorem QkT{x:α}:∀{l:List (α×Option (List β))} {es:List MapEntry},MO ro w t k (QbK ek ev l) es->MO ro w t k (QbK ek ev (Qkr l x)) es
 |[],es,h=>h
 |p::l,es,h=>by
  obtain⟨e,l',rfl,h1,h2,h3⟩:=h;by_cases q:p.1=x
  .refine⟨e,l',rfl,by simpa[q]using h1,λrows hr=>?_,QkT (l:=l) h3⟩;simp[q]at hr
  .refine⟨e,l',rfl,by simpa[q]using h1,λrows hr=>h2 rows (by simpa[q]using hr),QkT (l:=l) h3⟩
omit K
theorem QdM{x:α}{c:Nat}:∀{l:List (α×Option (List β))} {es:List MapEntry},Qel (QbK ek ev (Qkr l x)) es c->Qel (QbK ek ev l) es c
 |[],es,h=>by cases es<;>exact h.elim
 |p::l,[],h=>h.elim
 |p::l,e::es,h=>by
  rcases h with⟨h1,h2⟩|h
  .by_cases q:p.1=x
   .simp[q]at h1
   .exact .inl ⟨by simpa[q]using h1,h2⟩
  .exact .inr (QdM (l:=l) h)
theorem QlW{x:α}:∀{l:List (α×Option (List β))} {es:List MapEntry},Qj9 (QbK ek ev l) es->Qj9 (QbK ek ev (Qkr l x)) es
 |[],es,h=>by cases es<;>trivial
 |p::l,[],h=>trivial
 |p::l,e::es,h=>by
  obtain⟨h1,h2⟩:=h;refine⟨λc q1 q2 q3=>?_,QlW (l:=l) h2⟩;by_cases q:p.1=x
  .simp[q]at q1
  .exact h1 c (by simpa[q]using q1) q2 (QdM (l:=l) q3)
include K
theorem MO.find:∀{l:List (α×Option (List β))} {es:List MapEntry},MO ro w t k (QbK ek ev l) es->∀(x:α),(es.map (·.key)).Nodup->
  ((∀e:MapEntry,e∈es->e.key≠QL (ek x))->YA l x=none)/\
  (∀(j:Nat) (e:MapEntry),es[j]?=some e->e.key=QL (ek x)->∃q,YA l x=some q/\(∀rows,q=some rows->SO ro w t k (rows.map ev) e.val)/\
   ∀c p n cap,q.isSome=true->e.val=.slice (some ⟨c,p,none⟩) n cap->Qel (QbK ek ev l) es c/\(Qj9 (QbK ek ev l) es->¬Qel (QbK ek ev (Qkr l x)) es c))
 |[],es,h,x,_=>by
  cases(show es=[]from h);exact⟨λ_=>rfl,λj e he=>by simp at he⟩
 |p::l,es,h,x,hn=>by
  obtain⟨e0,l',rfl,h1,h2,h3⟩:=h;have hk:e0.key=QL (ek p.1):=VR.val (K.scl _) h1;simp only[Vl,List.nodup_cons]at hn;obtain⟨a1,a2⟩:=MO.find (l:=l) h3 x hn.2;by_cases hp:p.1=x
  .subst hp;constructor
   .intro q;exact absurd hk (q e0 (by simp))
   .intro j e he hx;cases j with
    |zero=>
     simp only[XH,Option.some.injEq]at he;subst he;refine⟨p.2,by simp[YA],λrows hr=>h2 (rows.map ev) (by simp[hr]),λc p' n cap hs hv=>⟨.inl ⟨by simpa using hs,p',n,cap,hv⟩,λhd hq=>?_⟩⟩;rcases hq with⟨q1,_⟩|hq
     .simp at q1
     .exact hd.1 c (by simpa using hs) ⟨p',n,cap,hv⟩ (QdM (l:=l) hq)
    |succ j=>
     simp only[XI]at he;exact absurd (hk.trans hx.symm▸VI (f:=λe:MapEntry=>e.key) (VJ he)) hn.1
  .have e1:YA (p::l) x=YA l x:=by simp[YA,hp]
   rw[e1];constructor
   .intro q;exact a1 λe he=>q e (by simp[he])
   .intro j e he hx;cases j with
    |zero=>
     simp only[XH,Option.some.injEq]at he;subst he;exact absurd (K.inj _ _ (hk.symm.trans hx)) hp
    |succ j=>
     obtain⟨q,b,m,g⟩:=a2 j e (by simpa using he) hx;refine⟨q,b,m,λc p' n cap hs hv=>?_⟩;obtain⟨a,d⟩:=g c p' n cap hs hv;refine⟨.inr a,λhd hq=>?_⟩;rcases hq with⟨q1,i⟩|hq
     .exact hd.1 c (by simpa[hp]using q1) i a
     .exact d hd.2 hq
end
section
variable {P:Program} {o:Oper} {env:Env} {H:Qd}
variable {T kt et:Nat} {α β:Type} [DecidableEq α] {ek:α->A} {ev:β->List A} {x y:Operand} {i t k:Nat} {l:List (α×Option (List β))} {key:α} {rows:List β}
end
end Go.Sw
namespace Go.Sw
open Go.MapKept
theorem MO.append{ro:Nat->Prop}{w:World}{t k:Nat}:∀{l m:List (A×Option (List (List A)))} {es fs:List MapEntry},MO ro w t k l es->MO ro w t k m fs->MO ro w t k (l++m) (es++fs)
 |[],m,es,fs,h,q=>by cases(show es=[]from h);exact q
 |p::l,m,es,fs,h,q=>by
  obtain⟨e,l',rfl,h1,h2,h3⟩:=h;exact⟨e,l'++fs,rfl,h1,h2,MO.append h3 q⟩
theorem MO.length{ro:Nat->Prop}{w:World}{t k:Nat}:∀{l:List (A×Option (List (List A)))} {es:List MapEntry},MO ro w t k l es->es.length=l.length
 |[],es,h=>by cases(show es=[]from h);rfl
 |p::l,es,h=>by
  obtain⟨e,l',rfl,h1,h2,h3⟩:=h;simp[MO.length h3]
def SlB(v:Value)(c:Nat):Prop:=∃p n cap,v=.slice (some ⟨c,p,none⟩) n cap
section
variable {P:Program} {kt:TypeId} {α β:Type} [DecidableEq α] {ek:α->A} {ev:β->List A} {ro:Nat->Prop} {w:World} {t k:Nat} (K:Y0 P kt ek)
def Qdv{α β:Type}[DecidableEq α](l:List (α×Option (List β)))(x:α)(rows:List β):List (α×Option (List β)):=l.map λp=>bif decide (p.1=x)then(p.1,some rows)else p
include K
theorem Qgh{x:α}{rows:List β}:∀{l:List (α×Option (List β))} {es:List MapEntry},MO ro w t k (QbK ek ev l) es->(∀e∈es,e.key≠QL (ek x))->Qdv l x rows=l
 |[],es,h,q=>rfl
 |p::l,es,h,q=>by
  obtain⟨e,l',rfl,h1,h2,h3⟩:=h;have hk:e.key=QL (ek p.1):=VR.val (K.scl _) h1;have hp:p.1≠x:=λz=>q e (by simp) (by rw[hk,z]);have:=Qgh (l:=l) h3 (λe he=>q e (by simp[he])) (rows:=rows);simp only[Qdv,Vl,decide_false,hp,Vs];rw[show(l.map λp=>bif decide (p.1=x)then(p.1,some rows)else p)=l from this]
theorem MO.put{x:α}{rows:List β}{v:Value}(f:SO ro w t k (rows.map ev) v):∀{l:List (α×Option (List β))} {es:List MapEntry} {j:Nat} {e:MapEntry},MO ro w t k (QbK ek ev l) es->
  (es.map (·.key)).Nodup->es[j]?=some e->e.key=QL (ek x)->
  MO ro w t k (QbK ek ev (Qdv l x rows)) (es.modify j λe=>{e with key:=QL (ek x),val:=v})/\
  (∀c,Qel (QbK ek ev (Qdv l x rows)) (es.modify j λe=>{e with key:=QL (ek x),val:=v}) c->Qel (QbK ek ev l) es c\/SlB v c)/\
  (Qj9 (QbK ek ev l) es->(∀c,Qel (QbK ek ev l) es c->¬SlB v c)->Qj9 (QbK ek ev (Qdv l x rows)) (es.modify j λe=>{e with key:=QL (ek x),val:=v}))
 |[],es,j,e,h,hn,he,hk=>by cases(show es=[]from h);simp at he
 |p::l,es,j,e,h,hn,he,hk=>by
  obtain⟨e0,l',rfl,h1,h2,h3⟩:=h;have hk0:e0.key=QL (ek p.1):=VR.val (K.scl _) h1;simp only[Vl,List.nodup_cons]at hn;cases j with
  |zero=>
   simp only[XH,Option.some.injEq]at he;subst he;have hp:p.1=x:=K.inj _ _ (hk0.symm.trans hk);simp only[List.modify_zero_cons];have e0':Qdv l x rows=l:=Qgh K h3 λe he z=>hn.1 (by rw[hk, <- z];exact VI he);have e1:Qdv (p::l) x rows=(p.1,some rows)::l:=by
    have:Qdv (p::l) x rows=(p.1,some rows)::Qdv l x rows:=by simp[Qdv,hp]
    rw[this,e0']
   rw[e1];refine⟨⟨_,l',rfl,?_,?_,h3⟩,?_,?_⟩
   .show VR ro [] w (ek p.1) (QL (ek x));rw[<- hp];exact Qb1 (K.scl _)
   .intro d s;cases s;exact f
   .rintro c (⟨_,q⟩|q)
    .exact .inr q
    .exact .inl (.inr q)
   .rintro⟨g,b⟩ a;exact⟨λc _ q z=>a c (.inr z) q,b⟩
  |succ j=>
   simp only[XI]at he;have hp:p.1≠x:=by
    intro q;refine hn.1 (Xe.2 ⟨e,VJ he,?_⟩);rw[hk,hk0,q]
   simp only[List.modify_succ_cons];obtain⟨y,i,r⟩:=MO.put f h3 hn.2 he hk;have e1:Qdv (p::l) x rows=p::Qdv l x rows:=by simp[Qdv,hp]
   rw[e1];refine⟨⟨_,_,rfl,h1,h2,y⟩,?_,?_⟩
   .rintro c (q|q)
    .exact .inl (.inl q)
    .exact(i c q).imp .inr id
   .rintro⟨g,b⟩ a;refine⟨λc n m z=>?_,r b λc u=>a c (.inr u)⟩;rcases i c z with z|z
    .exact g c n m z
    .exact a c (.inl ⟨n,m⟩) z
end
section
variable {P:Program} {o:Oper} {env:Env} {H:Qd}
variable {T kt et:Nat} {α β:Type} [DecidableEq α] {ek:α->A} {ev:β->List A} {x y zz:Operand} {i j t k n:Nat} {l m:List (α×Option (List β))} {key:α} {rows:List β}
end
end Go.Sw
namespace Go.Sw
open Go.MapKept
section
variable {fr ro:Nat->Prop} {σ:Sig} {H:Qd} {w:World}
end
section
variable {P:Program} {o:Oper} {env:Env} {H:Qd} {T kt et i t k:Nat} {x:Operand} {es:List (A×Option (List (List A)))}
end
section
variable {P:Program} {o:Oper} {env:Env} {H:Qd}
variable {T kt et:Nat} {α β:Type} [DecidableEq α] {ek:α->A} {ev:β->List A} {x y zz:Operand} {i j t k n:Nat} {l m:List (α×Option (List β))} {key:α} {rows:List β}
end
end Go.Sw
namespace Go.Sw
open Go.MapKept
section
variable {P:Program} {o:Oper} {env:Env} {H:Qd}
variable {T kt et:Nat} {α β:Type} [DecidableEq α] {ek:α->A} {ev:β->List A} {x y zz:Operand} {i j t k n:Nat} {l m:List (α×Option (List β))} {key:α} {rows:List β}
end
end Go.Sw
namespace Go.Sw
abbrev Kat:=List (Nat×Nat×Nat)
def Ql4:Nat->Nat->List (Nat×Nat)
 |lo,0=>[(lo,lo)]
 |lo,n+1=>(lo,lo)::Ql4 (lo+1) n
def rgK(p:Nat×Nat×Nat):List (Nat×Nat):=bif Nat.beq p.1 1 then[(p.2.1,p.2.1+1)]else Ql4 p.2.1 (p.2.2-p.2.1)
def plK(cat:Kat):List (List (Nat×Nat)):=cat.map rgK
def rqK(bs:List Nat)(cat:Kat):List (List Nat):=cat.map λp=>bs.take p.2.1
def hsK(cat:Kat):List Bool:=cat.map λp=>Nat.beq p.1 1
def msK(bs:List Nat):List (List Nat):=(List.range (bs.length+1)).map bs.take
theorem QgY:∀(n lo:Nat),∀p∈Ql4 lo n,p.1=p.2
 |0,lo,p,h=>by cases h with|head=>rfl|tail _ h=>cases h
 |n+1,lo,p,h=>by
  rcases X8.1 h with rfl|h
  .rfl
  .exact QgY n _ p h
section
variable {P:Program} {T:TyX} {h0 N m:Nat} {bs:List Nat} {cat:Kat} {l:List Oper} {ds:List Nat} {env:Env} {H:Qd} {Hs:List Qd} {Q:QB} {K:List Oper->Env->Qd->Prop}
def DobK(P:Program)(N:Nat)(cat:Kat)(l:List Oper)(ds:List Nat)(env:Env)(n:Nat)(Hs:List Qd)(zs:List A)(j:Nat):Prop:=
 ∀p∈(plK cat).getD j [],JB P N l ds zs env n n j (Hs.getD p.1 []) (Hs.getD p.2 [])
def DK(P:Program)(N m:Nat)(bs:List Nat)(cat:Kat)(l:List Oper)(ds:List Nat)(env:Env)(n:Nat)(K:List Oper->Env->Qd->Prop)(Hs:List Qd)(X:Qd)(r:List Oper)(xs:List A):Prop:=
 r=l.drop xs.length->∃ys Zs Y,xs.length+ys.length=m/\Hs.length+Zs.length=bs.length/\((∀Z∈Zs,n<=Z.length)/\(Hs.reverse++X::Zs).getD bs.length []=Y)/\(∀j,xs.length<=j->j<m->DobK P N cat l ds env n (Hs.reverse++X::Zs) (xs++ys) j)/\K (l.drop m) (Qay ds (xs++ys) env) Y
theorem Qp8{f:List A}{n:Nat}{Zs:List Qd}(b:cat.length=m)(r:∀j,0<=j->j<m->DobK P N cat l ds env n Zs f j):QhE P N l ds f env n (n+0) 0 ((plK cat).map λq=>q.map λp=>(Zs.getD p.1 [],Zs.getD p.2 [])):=by
 refine QhD _ 0 λi s a p g=>?_;rw[Xp]at a;cases e:(plK cat)[i]? with
 |none=>rw[e]at a;cases a
 |some q=>
  rw[e]at a;cases a;obtain⟨h,d,rfl⟩:=Xe.1 g;have k:i<m:=by
   have:=(XO.1 e).1;simpa[plK,b]using this
  have:=r i (XX _) k h (by rw[QkB e];exact d);simpa using this
theorem Qn4{id:Nat}(m:Nat)(d:List Nat)(cat:Kat)(u:P.follows .mixedOrders=true)(s:Qd5 l m N (Qbk m 0 l) (hsK cat) (rqK d cat) (msK d) (plK cat)=true)(f:Nat.beq cat.length m=true)(g:Nat.ble h0 H.length=true)
  (h:DK P N m d cat l (Qbk m 0 l) env H.length (λr e H=>WO P h0 N l.toArray r e H Q) [] H l []):TC P h0 N (.region id l.toArray true) env H Q:=by
 obtain⟨t,Zs,Y,p,n,j,q,k⟩:=h rfl;simp only[List.length_nil,Xx,Vj,List.reverse_nil]at p n j q k;have b:=XT f;have a:(msK d).length=d.length+1:=by simp[msK]
 refine YV m 0 _ _ _ _ _ t (H::Zs) Y u s (by rw[p];exact VH m) (by rw[a];simp[n]) g ?_ (by simp) (by rw[a];exact j.2) (Qp8 b q) (by simp[plK,b]) k;rw[Xt];intro Z i;rcases X8.1 i with rfl|i
 .exact XV (XW _)
 .exact XV (j.1 Z i)
variable {n:Nat} {X X1:Qd} {xs:List A} {o:Oper} {r:List Oper} {x:A} {d:Nat}
theorem DK.done(d:Nat.beq xs.length m=true)(b:Nat.beq Hs.length bs.length=true)(h:K r (Qay ds xs env) X):DK P N m bs cat l ds env n K Hs X r xs:=by
 intro f;have e:=XT d;have a:=XT b;subst f;refine⟨[],[],X,by simpa using e,by simpa using a,⟨(λZ hZ=>by cases hZ),?_⟩,λj i g=>by omega,?_⟩
 .rw[<- a,VN,XQ (by simp)];simp
 .rw[<- e,Vi];exact h
theorem DK.add(e:∀ys Zs,l[xs.length]?=some o->DobK P N cat l ds env n (Hs.reverse++X::Zs) (xs++x::ys) xs.length)(k:DK P N m bs cat l ds env n K Hs X r (xs++[x])):DK P N m bs cat l ds env n K Hs X (o::r) xs:=by
 intro f;obtain⟨g,a⟩:=Qbl f;obtain⟨ys,Zs,Y,p,h,i,d,b⟩:=k (by simpa using a);simp only[X5,X3,List.length_nil,Vk,VM,Vj]at p d b;refine⟨x::ys,Zs,Y,by simp only[X3];omega,h,i,λj t s=>?_,b⟩;rcases VE xs.length j with q|q
 .exact d j (by omega) s
 .obtain rfl:j=xs.length:=by omega
  exact e ys Zs g
theorem Qez{Zs:List Qd}{zs:List A}{j:Nat}{c:Nat×Nat×Nat}(b:YU cat j=some c)(h:∀p∈rgK c,JB P N l ds zs env n n j (Zs.getD p.1 []) (Zs.getD p.2 [])):DobK P N cat l ds env n Zs zs j:=by
 intro p a;rw[QaG]at b;unfold plK at a;rw[VN,Xp,b]at a;exact h p a
theorem Qhg{Zs:List Qd}{c:Nat}(a:Nat.beq c Hs.length=true):(Hs.reverse++X::Zs).getD c []=X:=by
 rw[XT a,VN,XQ (by simp)];simp
theorem DK.wo{c:Nat}(h:WO P X.length N l.toArray [o] (Yh (Qj o) 0 ds xs env) X (Y5 (up (Yh (Qj o) 0 ds xs env) d x) X))(k:DK P N m bs cat l ds env n K Hs X r (xs++[x]))
  (b:YU cat xs.length=some (0,c,c):=by exact rfl)(hd:o.dst=some d:=by exact rfl)(hcH:Nat.beq c Hs.length=true:=by exact rfl):DK P N m bs cat l ds env n K Hs X (o::r) xs:=
 .add (λys Zs ho=>Qez b λp a=>by
  have:p=(c,c):=by
   change p∈Ql4 c (c-c)at a;rw[Nat.sub_self]at a;exact VD.1 a
  subst this;rw[Qhg hcH];exact QaD ho Y9 h hd) k
theorem DK.wa{lo hi:Nat}(h:∀X,WO P X.length N l.toArray [o] (Yh (Qj o) 0 ds xs env) X (Y5 (up (Yh (Qj o) 0 ds xs env) d x) X))(k:DK P N m bs cat l ds env n K Hs X r (xs++[x]))
  (b:YU cat xs.length=some (0,lo,hi):=by exact rfl)(hd:o.dst=some d:=by exact rfl):DK P N m bs cat l ds env n K Hs X (o::r) xs:=
 .add (λys Zs ho=>Qez b λp a=>by
  have e:p.1=p.2:=QgY _ _ p a;rw[<- e];exact QaD ho Y9 (h _) hd) k
theorem DK.op{c B:Nat}(h:WO P X.length N l.toArray [o] (Yh (Qj o) 0 ds xs env) X (Y5 (up (Yh (Qj o) 0 ds xs env) d x) X1))(k:DK P N m bs cat l ds env n K (X::Hs) X1 r (xs++[x]))(hl:Nat.ble n X1.length=true:=by exact rfl)
  (hc:YU cat xs.length=some (1,c,B):=by exact rfl)(hd:o.dst=some d:=by exact rfl)(hcH:Nat.beq c Hs.length=true:=by exact rfl):DK P N m bs cat l ds env n K Hs X (o::r) xs:=by
 intro s;obtain⟨t,b⟩:=Qbl s;obtain⟨u,Zs,Y,E,y,e,g,f⟩:=k (by simpa using b);simp only[X5,X3,List.length_nil,Vk,VM,Vj,List.reverse_cons]at E y e g f;refine⟨x::u,X1::Zs,Y,by simp only[X3];omega,by simp only[X3];omega,⟨λZ a=>?_,e.2⟩,λj G z=>?_,f⟩
 .rcases X8.1 a with rfl|a
  .exact XU hl
  .exact e.1 Z a
 .rcases VE xs.length j with q|q
  .exact g j (by omega) z
  .obtain rfl:j=xs.length:=by omega
   refine Qez hc λp i=>?_;have:p=(c,c+1):=VD.1 i;subst this;have w:(Hs.reverse++X::X1::Zs).getD c []=X:=Qhg hcH;have F:(Hs.reverse++X::X1::Zs).getD (c+1) []=X1:=by
    have:=Qhg (X:=X1) (Zs:=Zs) (Hs:=X::Hs) (c:=c+1) (by rw[XT hcH];exact VH _);simpa using this
   simp only;rw[w,F];exact QaD t Y9 h hd
def QeO(T:TyX)(N m:Nat)(cat:Kat)(l:List Oper)(ds:List Nat)(env:Env)(n:Nat):Nat->Nat->Nat->List Qd->Qd->List Oper->List A->Option (List Qd×List Oper×List A)
 |0,_,_,Hs,X,r,xs=>some (Hs,r,xs)
 |_+1,_,_,_,_,[],_=>none
 |k+1,i,j,Hs,X,o::r,xs=>match o.dst with
  |none=>none
  |some d=>match Nat.blt d N with
   |false=>none
   |true=>match YY ⟨l⟩ o (Yh (Qj o) 0 ds xs env)with
    |none=>none
    |some false=>(match QcG xs (.tup [])with
      |.mk xs'=>match YU cat i with
       |some (0,_,_)=>QeO T N m cat l ds env n k (i+1) j Hs X r xs'
       |some (1,c,_)=>(match Nat.beq c j,Nat.ble n X.length with
        |true,true=>QeO T N m cat l ds env n k (i+1) (j+1) (X::Hs) X r xs'
        |_,_=>none)
       |_=>none)
    |some true=>match YU cat i with
     |some (0,lo,hi)=>(match Qdp T o (Yh (Qj o) 0 ds xs env) []with
      |some x=>(match QcG xs x with
       |.mk xs'=>QeO T N m cat l ds env n k (i+1) j Hs X r xs')
      |none=>match Nat.beq lo hi,Nat.beq lo j with
       |true,true=>(match Qdp T o (Yh (Qj o) 0 ds xs env) X with
        |none=>none
        |some x=>match QcG xs x with
         |.mk xs'=>QeO T N m cat l ds env n k (i+1) j Hs X r xs')
       |_,_=>none)
     |_=>none
theorem QbQ(hT:QbJ P T):∀(k i j:Nat) {Hs Hs':List Qd} {r r':List Oper} {xs xs':List A},i=xs.length->j=Hs.length->QeO T N m cat l ds env n k i j Hs X r xs=some (Hs',r',xs')->DK P N m bs cat l ds env n K Hs' X r' xs'->DK P N m bs cat l ds env n K Hs X r xs
 |0,i,j,Hs,Hs',r,r',xs,xs',_,_,h,k=>by cases h;exact k
 |k0+1,i,j,Hs,Hs',[],r',xs,xs',_,_,h,k=>by cases h
 |k0+1,i,j,Hs,Hs',o::r,r',xs,xs',hi,hj,h,k=>by
  subst hi hj;unfold QeO at h;split at h
  .cases h
  .rename_i d hd;split at h
   .cases h
   .rename_i q2;split at h
    .cases h
    .rename_i hw;simp only[Ja]at h;split at h
     .rename_i lo hi' q0;exact .wa (λX=>WO.skip (QP hw) hd q2 (WO.nil Y5.mk)) (QbQ hT k0 _ _ (by simp) rfl h k) q0 hd
     .rename_i c c' q0;split at h
      .rename_i q1 q3;exact .op (WO.skip (QP hw) hd q2 (WO.nil Y5.mk)) (QbQ hT k0 _ _ (by simp) (by simp) h k) q3 q0 hd q1
      .cases h
     .cases h
    .rename_i hw;split at h
     .rename_i lo hi' q0;split at h
      .rename_i x hv;simp only[Ja]at h;exact .wa (λX=>QF (QP hw) hd q2 (Qaz hT (QeE hv)) (WO.nil Y5.mk)) (QbQ hT k0 _ _ (by simp) rfl h k) q0 hd
      .split at h
       .rename_i q1 q3;split at h
        .cases h
        .rename_i x hv;simp only[Ja]at h;obtain rfl:=XT q1;exact .wo (QF (QP hw) hd q2 (Qaz hT hv) (WO.nil Y5.mk)) (QbQ hT k0 _ _ (by simp) rfl h k) q0 hd q3
       .cases h
     .cases h
theorem DK.v(h:OpV P o (Yh (Qj o) 0 ds xs env) X x)(k:DK P N m bs cat l ds env n K Hs X r (xs++[x])){c:Nat}(hg:YY ⟨l⟩ o (Yh (Qj o) 0 ds xs env)=some true:=by exact rfl)
  (hd:o.dst=some d:=by exact rfl)(hN:Nat.blt d N=true:=by exact rfl)(hc:YU cat xs.length=some (0,c,c):=by exact rfl)(hcH:Nat.beq c Hs.length=true:=by exact rfl):DK P N m bs cat l ds env n K Hs X (o::r) xs:=
 .wo (QF (QP hg) hd hN h (WO.nil Y5.mk)) k hc hd hcH
def allV(T:TyX)(o:Oper)(e:Env)(x:A):Nat->List Qd->Prop
 |0,_=>True
 |k+1,Y::r=>Qdp T o e Y=some x/\allV T o e x k r
 |_+1,[]=>False
theorem Qkf:∀(n lo:Nat),∀p∈Ql4 lo n,lo<=p.1/\p.1<=lo+n
 |0,lo,p,h=>by cases h with|head=>exact⟨XW _,XW _⟩|tail _ h=>cases h
 |n+1,lo,p,h=>by
  rcases X8.1 h with rfl|h
  .exact⟨XW _,Nat.le_add_right _ _⟩
  .have:=Qkf n _ p h;omega
def allW(P:Program)(N:Nat)(l:List Oper)(o:Oper)(e:Env)(d:Nat)(x:A):Nat->List Qd->Prop
 |0,_=>True
 |k+1,Y::r=>WO P Y.length N l.toArray [o] e Y (Y5 (up e d x) Y)/\allW P N l o e d x k r
 |_+1,[]=>False
theorem QkP{e:Env}:∀{k:Nat} {r:List Qd},allW P N l o e d x k r->∀j,j<k->WO P (r.getD j []).length N l.toArray [o] e (r.getD j []) (Y5 (up e d x) (r.getD j []))
 |0,_,_,j,hj=>absurd hj (Xm _)
 |k+1,[],h,_,_=>h.elim
 |k+1,Y::r,h,0,_=>h.1
 |k+1,Y::r,h,j+1,hj=>by
  have:=QkP h.2 j (by omega);simpa using this
theorem DK.ws{lo hi:Nat}(h:allW P N l o (Yh (Qj o) 0 ds xs env) d x (hi+1-lo) (X::Hs))(k:DK P N m bs cat l ds env n K Hs X r (xs++[x]))
  (g:YU cat xs.length=some (0,lo,hi):=by exact rfl)(hd:o.dst=some d:=by exact rfl)(hcH:Nat.beq hi Hs.length=true:=by exact rfl)(hle:Nat.ble lo hi=true:=by exact rfl):DK P N m bs cat l ds env n K Hs X (o::r) xs:=
 .add (λys Zs ho=>Qez g λp a=>by
  have e:p.1=p.2:=QgY _ _ p a;have b:=XU hle;have s:lo<=p.1/\p.1<=lo+(hi-lo):=Qkf (hi-lo) lo p a;have i:=XT hcH;rw[<- e];have f:=QkP h (Hs.length-p.1) (by omega);have j:(Hs.reverse++X::Zs).getD p.1 []=(X::Hs).getD (Hs.length-p.1) []:=by
   rw[VN,VN];congr 1;rcases VE p.1 Hs.length with q|q
   .rw[XP (by simpa using q),List.getElem?_reverse q,show Hs.length-p.1=Hs.length-1-p.1+1 by omega,XI]
   .have:p.1=Hs.length:=by omega
    rw[this,XQ (by simp)];simp
  rw[j];exact QaD ho Y9 f hd) k
theorem DK.vs(j:QbJ P T){lo hi:Nat}(h:allV T o (Yh (Qj o) 0 ds xs env) x (hi+1-lo) (X::Hs))(k:DK P N m bs cat l ds env n K Hs X r (xs++[x]))
  (g:YU cat xs.length=some (0,lo,hi))(e:o.dst=some d)(a:Nat.beq hi Hs.length=true)(hg:YY ⟨l⟩ o (Yh (Qj o) 0 ds xs env)=some true)(f:Nat.blt d N=true)(b:Nat.ble lo hi=true):DK P N m bs cat l ds env n K Hs X (o::r) xs:=by
 refine DK.ws ?_ k g e a b;generalize hi+1-lo=c at h;generalize X::Hs=L at h
 induction c generalizing L with
 |zero=>trivial
 |succ c i=>
  cases L with
  |nil=>exact h.elim
  |cons Y L=>exact⟨QF (QP hg) e f (Qaz j h.1) (WO.nil Y5.mk),i L h.2⟩
end
end Go.Sw
namespace Go.Sw
def room(n:Int):Option Nat:=bif decide (0<n)&&decide (n<=4294967296)then some n.toNat else none
section
variable {P:Program} {o:Oper} {env:Env} {H:Qd}
theorem Qj7{h0 i:Nat}{x x':Blk}(hH:H[i]?=some x)(e:x=x'):Le h0 env H env (H.set i x'):=by
 subst e;obtain⟨b,a⟩:=XO.1 hH;rw[<- a,List.set_getElem_self];exact Le.refl _ _ _
theorem RL.put{ro:Nat->Prop}{σ:Sig}{w:World}{k:Nat}:∀{a:Nat} {es fs:List (List A)} {l m:List Value},RL ro σ w k es l->a+fs.length<=es.length->Sw.allK k fs->LR ro σ w fs.flatten m->(∀v∈m,Qs v)->
  RL ro σ w k (es.take a++fs++es.drop (a+fs.length)) (Sw.splice l (a*k) m)
 |0,es,[],l,m,h,hn,hk,hm,hp=>by
  obtain rfl:m=[]:=hm;simpa[Sw.splice]using h
 |0,[],f::fs,l,m,h,hn,hk,hm,hp=>by simp at hn
 |0,c::es,f::fs,l,m,⟨l1,l2,h1,h2,h3,h4⟩,hn,hk,hm,hp=>by
  subst h1;have hl1:=h3.1.length;have hml:=hm.length;rw[Vn,X5]at hml;have e1:m.take k++m.drop k=m:=XB _ _;have q1:LR ro σ w f (m.take k):=by have:=hm.take k;rwa [Vn,X9 (by rw[hk.1];exact XW _),VK (by rw[hk.1];exact XW _)]at this
  have i:LR ro σ w fs.flatten (m.drop k):=by have:=hm.drop k;rwa [Vn,Va (by rw[hk.1];exact XW _),List.drop_of_length_le (by rw[hk.1];exact XW _),Vj]at this
  have b:=RL.put (a:=0) h4 (by simpa using hn) hk.2 i (λv d=>hp v (List.mem_of_mem_drop d));simp only[List.take_zero,Vj,Xx,Nat.zero_mul,Sw.splice]at b⊢;refine⟨m.take k,m.drop k++l2.drop (m.drop k).length,?_,hk.1,⟨q1,λv d=>hp v (List.mem_of_mem_take d)⟩,by simpa using b⟩;have e:k<=m.length:=by rw[hml,hk.1];exact Nat.le_add_right _ _
  rw[<- Vk,e1];congr 1;rw[XA,show m.length=l1.length+(m.length-k)from by omega,Vc];have g:l1.length+(m.length-k)-k=m.length-k:=by omega
  rw[g]
 |a+1,[],fs,l,m,h,hn,hk,hm,hp=>by simp at hn
 |a+1,c::es,fs,l,m,⟨l1,l2,h1,h2,h3,h4⟩,hn,hk,hm,hp=>by
  subst h1;have hl1:=h3.1.length;have b:=RL.put (a:=a) h4 (by simp at hn;omega) hk hm hp;refine⟨l1,Sw.splice l2 (a*k) m,?_,h2,h3,?_⟩
  .have e1:(a+1)*k=l1.length+a*k:=by rw[Xl];omega
   unfold Sw.splice;rw[e1,Vd,show l1.length+a*k+m.length=l1.length+(a*k+m.length)from by omega,Vc];simp
  .have j:a+1+fs.length=(a+fs.length)+1:=by omega
   simpa[j]using b
def QlA(P:Program)(H:Qd)(x:A)(k:Nat)(es:List (List A)):Prop:=
 ∀fr ro σ w v,Sim fr ro σ H w->VR ro σ w x v->(∃a c,v=.slice a es.length c)/\
  ∀j,j<=es.length->allK k (es.take j)/\ ∃l,(Builtin.firstCells k j v).run P w=.ok l.toArray w/\LR ro [] w (es.take j).flatten l/\ ∀v∈l,Qs v
theorem QeL{fr ro:Nat->Prop}{σ:Sig}{w:World}{k j b off n c:Nat}{es:List (List A)}(h:RR ro [] w b k es off)(e:j<=es.length):
  allK k (es.take j)/\ ∃l,(Builtin.firstCells k j (.slice (some ⟨b,off,none⟩) n c)).run P w=.ok l.toArray w/\LR ro [] w (es.take j).flatten l/\ ∀v∈l,Qs v:=by
 obtain⟨i,f,a⟩:=(h.take j).flat;rw[Xz,XD e]at a;obtain⟨l,g,d⟩:=Qb5 (P:=P) (n:=j) (c:=c) i a;refine⟨f,l,?_,d⟩;exact g w rfl
theorem Qcw{k n c:Nat}{a:Option Addr}{w:World}:(Builtin.firstCells k 0 (.slice a n c)).run P w=.ok #[] w:=by
 cases a<;>simp[Builtin.firstCells,loadCells,loadCellsFrom,go_sem]
theorem QoJ{α:Type}{e:α->List A}{k:Nat}{l:List α}:QlA P H (.rsl k (l.map e)) k (l.map e):=by
 intro fr m σ w v s ⟨a,c,h1,h2,f⟩;subst h1;refine⟨⟨a,c,rfl⟩,λj d=>?_⟩;rcases f with f|⟨b,h,rfl,i,g⟩
 .rw[f]at d⊢;obtain rfl:j=0:=by simpa using d
  exact⟨trivial,[],Qcw,rfl,by simp⟩
 .exact QeL (fr:=fr) (σ:=σ) g d
theorem QlA.osl{i s n k t:Nat}{es es':List (List A)}(hH:H[i]?=some (.row t k es))(he:(es.drop s).take n=es')(F:s+n<=es.length):QlA P H (.osl i s n k) k es':=by
 intro fr J σ w v sm h;have f:es'.length=n:=by rw[<- he];simp;omega
 rcases h with⟨rfl,rfl⟩|⟨b,p,a,z,m,x,rfl,r,G,E,B⟩
 .have e:es'=[]:=VL.1 f;subst e;refine⟨⟨none,0,rfl⟩,λj d=>?_⟩;obtain rfl:j=0:=by simpa using d
  exact⟨trivial,[],Qcw,rfl,by simp⟩
 .rw[f];refine⟨⟨_,a,rfl⟩,λj d=>?_⟩;obtain⟨l,y,u⟩:=sm.blk i _ _ x hH;have g:=((YS (pre:=[]) (by simpa using y) u).drop s).take n;rw[he]at g;by_cases q:0<a
  .obtain rfl:=r q;simpa using QeL (P:=P) (fr:=fr) (σ:=σ) (n:=n) (c:=a) g (by rw[f];exact d)
  .obtain rfl:j=0:=by omega
   exact⟨trivial,[],Qcw,rfl,by simp⟩
theorem QoK{α:Type}{e:α->List A}{b t k:Nat}{l r:List α}{a c:Int}(h:slc l a c=some r)(hH:H[b]?=some (.row t k (l.map e)):=by exact rfl):QlA P H (.osl b (0+a.toNat) (c.toNat-a.toNat) k) k (r.map e):=by
 obtain⟨i,g,f,d⟩:=Qdq h;refine QlA.osl hH ?_ (by rw[X4];omega);rw[<- d, <- List.map_drop, <- List.map_take,Xx,List.drop_take]
def cpy{α:Type}(l:List α)(a c:Int)(m:List α):Option (List α):=some (l.take a.toNat++m.take (c.toNat-a.toNat)++l.drop (a.toNat+min m.length (c.toNat-a.toNat)))
theorem Qet{α:Type}{l r l' m:List α}{a c:Int}(h:slc l a c=some r)(b:cpy l a c m=some l'):l.length=l'.length:=by
 obtain⟨f,e,d,_⟩:=Qdq h;rw[<- X2 b];simp only[X5,Xz,XA];omega
theorem QfA{α:Type}{l l' m:List α}(a:cpy l 0 (l.length:Int) m=some l'):l.length=l'.length:=by
 rw[<- X2 a];simp only[X5,Xz,XA];simp;omega
theorem QgN{α:Type}{e:α->List A}{c:Call}{T T' et k b a n t:Nat}{x y:Operand}{ya:A}{l m l':List α}(ae:a+n<=l.length)(ab:l.take a++m.take n++l.drop (a+min m.length n)=l')(hT:∀w,(underlying T).run P w=.ok (.slice et) w)(F:∀w,(sizeOf et).run P w=.ok k w)(Q:QlA P H ya k (m.map e))
  (ho:o.op=.call c)(hc:c={callee:=.builtin .copy,args:= #[x,y],argTypes:= #[T,T']})(hx:opA env x=.osl b a n k)(hH:H[b]?=some (.row t k (l.map e)))(O:opA env y=ya):
  OpH P o env H (.int .i64 (min m.length n:Nat)) (H.set b (.row t k (l'.map e))):=by
 intro W J σ N ac w r;have s:=Qg r x;rw[hx]at s;have h2:=Qg r y;rw[O]at h2;obtain⟨⟨ay,cy,V⟩,q2⟩:=Q W J σ w _ r.sim h2;rw[X4]at V q2;obtain⟨q3,L,G,Y,q6⟩:=q2 (min m.length n) (Nat.min_le_left _ _);have d:((m.map e).take (min m.length n)).length=min m.length n:=by rw[Xz,X4];omega
 have B:l'.map e=(l.map e).take a++(m.map e).take (min m.length n)++(l.map e).drop (a+((m.map e).take (min m.length n)).length):=by
  rw[d, <- ab,Xf,Xf, <- List.map_take, <- List.map_take, <- List.map_drop];have e2:m.take (min m.length n)=m.take n:=by
   by_cases q:m.length<=n
   .rw[XD q,Vb,VK q]
   .rw[Nat.min_eq_right (by omega)]
  rw[e2]
 have h:(Builtin.copy_ #[T,T'] o.type #[ac.eval x,ac.eval y]).run P w=.ok (.int .i64 (min m.length n:Nat)) w->min m.length n=0->
   ∃v w' ro' τ,(execOp ac.eval o).run P w=.ok (.value v) w'/\VR ro' (σ++τ) w' (.int .i64 (min m.length n:Nat)) v/\Sim W ro' (σ++τ) (H.set b (.row t k (l'.map e))) w'/\Qh W J w ro' w':=by
  intro g hz;have Q:H.set b (.row t k (l'.map e))=H:=by
   have:l'.map e=l.map e:=by rw[B,d,hz];simp
   rw[this];obtain⟨hb,hv⟩:=XO.1 hH;rw[<- hv,List.set_getElem_self]
  refine⟨_,w,J,[],?_,rfl,by simpa[Q]using r.sim,Qh.refl _ _ _⟩;subst hc;generalize ac.eval=ρ at*;simp only[execOp,ho,resolve,Vp,Vq,Result.andThen,invoke,builtin,XL,Vl,Vm,g]
 have z:∀j:Nat,goInt j=.int .i64 j:=λ_=>rfl;rcases s with⟨M,s⟩|⟨bb,p,ag,t',mm,s,h3,h4,h5,h6,h7⟩
 .refine h ?_ (by omega);rw[V]at G⊢;rw[s];have:Nat.min m.length 0=min m.length n:=by rw[M]
  simp only[Builtin.copy_,XJ,XH,XI,Vp,hT,F,Result.andThen,Builtin.lenOf,Vq,this,G,z]
 .have f:∀R:Result Unit,(storeCells ⟨bb,p,none⟩ L).run P w=R->(Builtin.copy_ #[T,T'] o.type #[ac.eval x,ac.eval y]).run P w=R.andThen λ_ w=>.ok (.int .i64 (min m.length n:Nat)) w:=by
   intro R hR;rw[V]at G⊢;rw[h3];have:Nat.min m.length n=min m.length n:=rfl;simp only[Builtin.copy_,XJ,XH,XI,Vp,hT,F,Result.andThen,Builtin.lenOf,Vq,this,G,z,hR]
  by_cases M:min m.length n=0
  .have u:L=[]:=by
    have:=Y.length;rw[M]at this;exact VL.1 (by simpa using this)
   refine h ?_ M;have:=f (.ok () w) (by rw[u];rfl);rw[this];rfl
  .obtain rfl:=h4 (by omega);obtain⟨l0,g1,g2⟩:=r.sim.blk b _ _ s hH;have X:=g2.length;have u:=Y.length;rw[Yu q3,d]at u;have af:a*k+(min m.length n)*k<=l0.length:=by
    rw[<- XC];refine XY (XE k ?_) X;rw[X4];omega
   have E:=Q5 (P:=P) (vs:=L) (a*k) 0 g1 (by omega) q6;rw[Xy]at E;have g:=f _ E;have i:=r.sim.set (x':=.row t k (l'.map e)) (obj:=.cells (splice l0 (a*k) L).toArray t (0,0)) s hH rfl
    (λy O=>Qaf g1 (Q4 (by omega)) y O)
    (λex aa=>⟨_,aa,by
     rw[B];exact(RL.put g2 (by rw[d,X4];omega) q3 Y q6).mono ex.nil⟩)
   refine⟨_,_,J,[],?_,rfl,by simpa using i.1,i.2⟩;subst hc;generalize ac.eval=ρ at*;simp only[execOp,ho,resolve,Vp,Vq,Result.andThen,invoke,builtin,XL,Vl,Vm,g]
theorem QlP{α:Type}{e:α->List A}{c:Call}{T T' et k b t:Nat}{x y:Operand}{ya:A}{l m l':List α}(h:cpy l 0 (l.length:Int) m=some l')(f:∀w,(underlying T).run P w=.ok (.slice et) w)(a:∀w,(sizeOf et).run P w=.ok k w)(g:QlA P H ya k (m.map e))
  (d:o.op=.call c:=by exact rfl)(hc:c={callee:=.builtin .copy,args:= #[x,y],argTypes:= #[T,T']}:=by exact rfl)(hx:opA env x=.osl b 0 l.length k:=by exact rfl)(hH:H[b]?=some (.row t k (l.map e)):=by exact rfl)(hy:opA env y=ya:=by exact rfl):
  OpH P o env H (.int .i64 (min m.length l.length:Nat)) (H.set b (.row t k (l'.map e))):=by
 refine QgN (Nat.le_of_eq (Xx _)) ?_ f a g d hc hx hH hy;rw[<- X2 h];rfl
theorem QlQ{α:Type}{e:α->List A}{c:Call}{T T' et k b t:Nat}{x y:Operand}{ya:A}{l n m l':List α}{i j:Int}(hi:slc l i j=some n)(h:cpy l i j m=some l')(p:∀w,(underlying T).run P w=.ok (.slice et) w)(d:∀w,(sizeOf et).run P w=.ok k w)(g:QlA P H ya k (m.map e))
  (f:o.op=.call c:=by exact rfl)(hc:c={callee:=.builtin .copy,args:= #[x,y],argTypes:= #[T,T']}:=by exact rfl)(hx:opA env x=.osl b (0+i.toNat) (j.toNat-i.toNat) k:=by exact rfl)(hH:H[b]?=some (.row t k (l.map e)):=by exact rfl)(hy:opA env y=ya:=by exact rfl):
  OpH P o env H (.int .i64 (min m.length (j.toNat-i.toNat):Nat)) (H.set b (.row t k (l'.map e))):=by
 obtain⟨r,q,s,u⟩:=Qdq hi;refine QgN (a:=i.toNat) (by omega) (X2 h) p d g f hc ?_ hH hy;rw[hx,Xx]
end
end Go.Sw
namespace Go.Sw
open Go.MapKept
section
variable {fr ro ro':Nat->Prop} {σ:Sig} {H:Qd} {w:World}
end
end Go.Sw
namespace Go.Sw
theorem gd20{α:Type}{n:Int}{x:Option α}{r:α}(h:(bif decide (n<20)then x else none)=some r):decide (20<=n)=false/\decide (20<n)=false/\x=some r:=by
 cases q:decide (n<20)with
 |false=>rw[q]at h;cases h
 |true=>
  rw[q]at h;have:=Vx q;exact⟨Vz (by omega),Vz (by omega),h⟩
def Qgl{α:Type}(l:List α)(o:Option (List α)):Option (List α):=o.bind λr=>bif Nat.beq l.length r.length then some r else none
theorem Qh9{α:Type}{l r:List α}{o:Option (List α)}(h:Qgl l o=some r):o=some r/\l.length=r.length:=by
 cases o with
 |none=>cases h
 |some x=>
  have a:(bif Nat.beq l.length x.length then some x else none)=some r:=h;cases q:Nat.beq l.length x.length with
  |false=>rw[q]at a;cases a
  |true=>
   rw[q]at a;obtain rfl:=X2 a;exact⟨rfl,XT q⟩
theorem Qe6{α:Type}{l r:List α}{o:Option (List α)}(h:Qgl l o=some r):o=some r:=(Qh9 h).1
theorem Jo{α:Type}{l r:List α}{o:Option (List α)}(h:Qgl l o=some r):l.length=r.length:=(Qh9 h).2
section
variable {P:Program} {o:Oper} {env:Env} {H:Qd} {α:Type} {e:α->List A}
end
end Go.Sw
namespace Go.Sw
open Go.MapKept
section
variable {P:Program} {o:Oper} {env:Env} {H:Qd}
theorem Qj4{T:Nat}(b:o.op=.makeMap T none:=by exact rfl):OpH P o env H (.map H.length) (H++[.mapP []]):=by
 intro e d σ N a w r;refine⟨.map (some w.heap.size),w.alloc (.map #[] 0),d,[some w.heap.size],?_,⟨w.heap.size,?_,rfl⟩,r.sim.alloc ⟨#[],0,Q9 _ _,rfl,by simp,by simp,by simp⟩,Qh.alloc _ r.sim.roLt r.sim.frLt⟩
 .generalize a.eval=ρ at*;simp only[execOp,b,Instr.makeMap,Xk,Vp];rfl
 .rw[<- r.sim.len];simp
variable {T kt et:Nat} {α β:Type} [DecidableEq α] {ek:α->A} {ev:β->A} {x y:Operand} {i:Nat} {l:List (α×β)} {k:α} {z0:β} {z:Value}
theorem QcI(K:Y0 P kt ek){v:β}(h:YA l k=some v)(z:P.underlying T=some (.map kt et))
  (M:o.op=.lookup T x y false:=by exact rfl)(hx:opA env x=.map i:=by exact rfl)(hH:H[i]?=some (.mapP (Qi ek ev l)):=by exact rfl)(hy:opA env y=ek k:=by exact rfl):OpV P o env H (ev v):=by
 intro V Y σ N a w r;have g:=Qg r x;rw[hx]at g;obtain⟨b,B,J⟩:=g;have q:=Qg r y;rw[hy]at q;have t:=VR.val (K.scl _) q;obtain⟨E,d,F,n,X,R,L⟩:=r.sim.blk i _ _ B hH;obtain⟨s,G⟩:=ER.find K n k L;rcases K.find w k E.toList (QaX K n)with⟨p,f⟩|⟨j,e,p,f,O⟩
 .have:=(s f).1;rw[h]at this;cases this
 .obtain⟨W,Q,m,u⟩:=G j e f O;rw[h]at m;obtain rfl:=X2 m;refine⟨e.val,?_,u⟩;simp only[execOp,M,J,t,Instr.lookup,Vp,run_underlying z,Result.andThen,MapKept.run_getObj_map F,Vq,K.check,p];rfl
theorem QjZ(K:Y0 P kt ek)(E:YA l k=none)(s:P.underlying T=some (.map kt et))(u:∀w,(zeroValue et).run P w=.ok (.pointer none) w)
  (L:o.op=.lookup T x y false:=by exact rfl)(hx:opA env x=.map i:=by exact rfl)(hH:H[i]?=some (.mapP (Qi ek ev l)):=by exact rfl)(hy:opA env y=ek k:=by exact rfl):OpV P o env H .nilp:=by
 intro W ro σ N a w r;have f:=Qg r x;rw[hx]at f;obtain⟨b,t,G⟩:=f;have p:=Qg r y;rw[hy]at p;have q:=VR.val (K.scl _) p;obtain⟨z,d,B,m,Y,R,J⟩:=r.sim.blk i _ _ t hH;obtain⟨Q,F⟩:=ER.find K m k J;rcases K.find w k z.toList (QaX K m)with⟨n,g⟩|⟨j,e,n,g,M⟩
 .refine⟨.pointer none,?_,rfl⟩;simp only[execOp,L,G,q,Instr.lookup,Vp,run_underlying s,Result.andThen,MapKept.run_getObj_map B,Vq,K.check,n,u];rfl
 .obtain⟨X,O,h,V⟩:=F j e g M;rw[E]at h;cases h
theorem QlO(K:Y0 P kt ek){v:β}{zz:Operand}(X:YA l k=none)(W:P.underlying T=some (.map kt et))
  (ho:o.op=.mapUpdate T x y zz:=by exact rfl)(hx:opA env x=.map i:=by exact rfl)(hH:H[i]?=some (.mapP (Qi ek ev l)):=by exact rfl)(m:opA env y=ek k:=by exact rfl)(hv:opA env zz=ev v:=by exact rfl):
  OpU P o env H (H.set i (.mapP (Qi ek ev (l++[(k,v)])))):=by
 intro fr ro σ N a w r;have F:=Qg r x;rw[hx]at F;obtain⟨b,B,q2⟩:=F;have O:=Qg r y;rw[m]at O;have V:=VR.val (K.scl _) O;have Q:=Qg r zz;rw[hv]at Q;obtain⟨E,f,s,z,M,R,J⟩:=r.sim.blk i _ _ B hH;obtain⟨f1,Y⟩:=ER.find K z k J;have u:∀(obj:Obj) y,w.shape? b=some y->({w with heap:=w.heap.setIfInBounds b obj}:World).shape? b=some y:=by
  intro obj y m;unfold World.shape? at m;rw[s]at m;simp at m
 rcases K.find w k E.toList (QaX K z)with⟨L,t⟩|⟨j,e,L,t,g3⟩
 .have g:=r.sim.set (x':=.mapP (Qi ek ev (l++[(k,v)]))) (obj:=.map (E.push {key:=QL (ek k),val:=a.eval zz,born:=f}) (f+1)) B hH rfl (u _)
   (λe h=>⟨_,_,h,by
    rw[Qi,Xf,Array.toList_push];exact(z.mono e).append ⟨_,_,rfl,(Qb1 (K.scl _)),Q.mono e,rfl⟩,by
    rw[Array.toList_push];intro e h;rcases VF.1 h with q|q
    .exact Nat.lt_succ_of_lt (M e q)
    .simp at q;subst q;exact Xn _,by
    rw[Array.toList_push,Xf];refine List.nodup_append.2 ⟨R,by simp,?_⟩;intro c p d n;simp at n;subst n;obtain⟨e,h,rfl⟩:=Xe.1 p;exact Nat.ne_of_lt (M e h),by
    rw[Array.toList_push,Xf];refine List.nodup_append.2 ⟨J,by simp,?_⟩;intro c p d n;simp at n;subst n;obtain⟨e,h,rfl⟩:=Xe.1 p;exact t e h⟩)
  refine⟨_,ro,[],?_,by simpa using g.1,g.2⟩;simp only[execOp,ho,q2,V,Vp,Instr.mapUpdate,run_underlying W,Result.andThen,MapKept.run_getObj_map s,K.check,L,MapKept.run_setObj_map _ s];rfl
 .obtain⟨u1,v',G,u3⟩:=Y j e t g3;rw[X]at G;cases G
end
section
variable {fr ro:Nat->Prop} {σ:Sig} {H:Qd} {w:World}
theorem Sim.shutAny(s:Sim fr ro σ H w){i b:Nat}{r:Blk}(hσ:σ[i]?=some (some b))(hH:H[i]?=some r)(hl:r.live=true):
  Sim fr (λc=>ro c\/c=b) σ (H.set i .dead) w:=by
 have f:b<w.heap.size/\ ¬ro b/\ ¬fr b:=s.own i b _ hσ hH hl;have ext:Ext ro σ w (λc=>ro c\/c=b) σ w:=⟨λ_ q=>.inl q,λ_ _=>rfl,λ_ _ q=>q,λ_ _ q=>q⟩;have a:∀(j:Nat) (v:Blk),(H.set i .dead)[j]?=some v->v≠ .dead->j≠i/\H[j]?=some v:=by
  intro j v h m;by_cases e:j=i
  .subst e;rw[Xb]at h;simp only[if_true]at h;split at h
   .cases h;exact absurd rfl m
   .simp at h
  .rw[XS (λq=>e q.symm)]at h;exact⟨e,h⟩
 refine⟨by rw[X6];exact s.len,s.roOk.to (λ_ q=>.inl q) (λ_ _=>rfl) ?_,s.frLt,?_,?_,?_,?_,s.hidTo (· = ·) QZ (XW _) (λj d x c z O G B=>B.elim id λq=>((s.hid j d x c z O G).ne i b _ hσ hH hl q).elim) (λ_ _ _ _ _ _ _ q=>q) λj d y L F N=>.inl ⟨j,y,rfl,L,(a j y F (QeA N)).2,id,λ_ q=>q⟩⟩
 .rintro c (q|rfl)
  .exact s.roLt c q
  .exact f.1
 .rintro c (q|rfl)
  .exact s.roFr c q
  .exact f.2.2
 .intro j c v k g l;obtain⟨e,g⟩:=a j v g (Qax l);obtain⟨E,J,M⟩:=s.own j c v k g l;refine⟨E,?_,M⟩;rintro(q|rfl)
  .exact J q
  .exact e (s.inj j i c v _ k hσ g hH l hl)
 .intro j p c v n k g l P u t;exact s.inj j p c v n k g (a j v l (Qax u)).2 (a p n P (Qax t)).2 u t
 .intro j y v k g;by_cases m:v≠ .dead
  .exact(s.blk j y v k (a j v g m).2).keep ext (λ_ _ _=>rfl) (λ_ _ _ _=>rfl)
  .obtain rfl:v=.dead:=Classical.not_not.1 m;trivial
def QbU(H:Qd):List Nat->Qd
 |[]=>H
 |i::l=>QbU (H.set i .dead) l
theorem Qgk{l:List Nat}:∀{H:Qd} {j:Nat},j∉l->(QbU H l)[j]?=H[j]? :=by
 induction l with
 |nil=>intro H j _;rfl
 |cons i l a=>
  intro H j hj;rw[X8,not_or]at hj;unfold QbU;rw[a hj.2,XS (λq=>hj.1 q.symm)]
theorem QdI:∀{l:List Nat} {ro:Nat->Prop} {H:Qd} (s:Sim fr ro σ H w),l.Nodup->(∀i∈l,∃x,H[i]?=some x/\x.live=true)->
  ∃ro',Sim fr ro' σ (QbU H l) w/\(∀c,ro c->ro' c)/\ ∀i∈l,∀b,σ[i]?=some (some b)->ro' b
 |[],ro,H,s,_,_=>⟨ro,s,λ_ q=>q,λ_ h=>by cases h⟩
 |i::l,ro,H,s,hn,hl=>by
  rw[List.nodup_cons]at hn;obtain⟨x,hx,hxl⟩:=hl i (by simp);have rest:∀i'∈l,∃x,(H.set i .dead)[i']?=some x/\x.live=true:=by
   intro i' a;obtain⟨y,r,g⟩:=hl i' (X7 _ a);exact⟨y,by rw[XS (λq=>hn.1 (by rw[q];exact a))];exact r,g⟩
  have p:∃q,σ[i]?=some q:=by
   have:i<σ.length:=by rw[s.len];exact(XO.1 hx).1
   exact⟨_,XN this⟩
  obtain⟨q,j⟩:=p;cases q with
  |some b=>
   obtain⟨ro',f,e,k⟩:=QdI (s.shutAny j hx hxl) hn.2 rest;refine⟨ro',f,λc n=>e c (.inl n),λi' a m d=>?_⟩;rcases X8.1 a with rfl|a
   .rw[j]at d;cases d;exact e _ (.inr rfl)
   .exact k i' a m d
  |none=>
   obtain⟨ro',f,e,k⟩:=QdI (s.kill i) hn.2 rest;refine⟨ro',f,e,λi' a m d=>?_⟩;rcases X8.1 a with rfl|a
   .rw[j]at d;cases d
   .exact k i' a m d
end
end Go.Sw
namespace Go.Sw
structure Fil (α β:Type) where
 number:Int
 r0:List α
 r1:List α
 r2:List α
 reports:List β
 appeal:Bool
 deriving DecidableEq
structure FK (α β:Type) where
 T:Nat
 tF:Nat
 kF:Nat
 tR:Nat
 kR:Nat
 eF:α->List A
 eR:β->List A
section
variable {α β:Type} (K:FK α β)
def Qm4(b:Nat)(x:Fil α β):List A:=[.int .i64 x.number,.osl (b+1) 0 x.r0.length K.kF,.osl (b+2) 0 x.r1.length K.kF,.osl (b+3) 0 x.r2.length K.kF,.osl (b+4) 0 x.reports.length K.kR,.bool x.appeal]
def QkE(b:Nat)(x:Fil α β):List Blk:=[.cells K.T (Qm4 K b x),.row K.tF K.kF (x.r0.map K.eF),.row K.tF K.kF (x.r1.map K.eF),.row K.tF K.kF (x.r2.map K.eF),.row K.tR K.kR (x.reports.map K.eR)]
def fall:Nat->List (Fil α β)->List Blk
 |_,[]=>[]
 |b,x::l=>QkE K b x++fall (b+5) l
def frp(x:Fil α β):List A:=[.int .i64 x.number,.rsl K.kF (x.r0.map K.eF),.rsl K.kF (x.r1.map K.eF),.rsl K.kF (x.r2.map K.eF),.rsl K.kR (x.reports.map K.eR),.bool x.appeal]
def fent:Nat->List (Fil α β)->List (Int×Nat)
 |_,[]=>[]
 |b,x::l=>(x.number,b)::fent (b+5) l
def Qef(j:Nat):A:=.ptr j 0
def rpE(x:Fil α β):A:=.rp (frp K x)
def Qej(fs:List (Fil α β)):List (Int×Fil α β):=fs.map λx=>(x.number,x)
theorem Qgu(b:Nat)(x:Fil α β)(l:List (Fil α β)):fall K b (x::l)=QkE K b x++fall K (b+5) l:=rfl
theorem Qgt(b:Nat)(x:Fil α β):(QkE K b x).length=5:=rfl
end
section
variable {fr ro ro':Nat->Prop} {σ:Sig} {w:World}
theorem Qa2(sub:∀c,ro c->ro' c){i t k:Nat}{es:List (List A)}{v:Value}(f:∀b,σ[i]?=some (some b)->BR ro σ w (.row t k es) (some b)/\ro' b)(h:VR ro σ w (.osl i 0 es.length k) v):VR ro' [] w (.rsl k es) v:=by
 rcases h with⟨j,h⟩|⟨b,p,a,y,m,u,h,r,e,B,z⟩
 .have:es=[]:=VL.1 j;subst this;exact⟨none,0,h,XW _,.inl rfl⟩
 .refine⟨_,a,h,e,?_⟩;by_cases d:es=[]
  .exact .inl d
  .right;have g:0<a:=Vh (List.length_pos_iff.2 d) e;obtain rfl:=r g;obtain⟨⟨l,x,s⟩,n⟩:=f b u;refine⟨b,0,by simp,n,?_⟩;have:=YS (pre:=[]) (by simpa using x) s;exact this.keep ⟨sub,λ_ _=>rfl,λ_ _ q=>q,λ_ _ q=>q⟩ rfl
theorem QhK{ro:Nat->Prop}{w:World}{b t:Nat}:∀{cs:List A} {pre l:List Value},w.heap[b]?=some (.cells (pre++l).toArray t (0,0))->LR ro [] w cs l->(∀v∈l,Qs v)->CR ro [] w b cs pre.length
 |[],pre,l,_,_,_=>trivial
 |a::cs,pre,l,hb,hl,hp=>by
  obtain⟨v,l',rfl,h1,h2⟩:=hl;refine⟨⟨v,?_,hp v (by simp),h1⟩,?_⟩
  .unfold World.cell?;rw[hb];simp
  .have:=QhK (pre:=pre++[v]) (l:=l') (by simpa using hb) h2 λu hu=>hp u (X7 _ hu);simpa using this
variable {α β:Type} (K:FK α β)
theorem QoH(sub:∀c,ro c->ro' c){b:Nat}{x:Fil α β}{v:Value}(f:∀(d c:Nat) (y:Blk),(QkE K b x)[d]?=some y->σ[b+d]?=some (some c)->BR ro σ w y (some c)/\ro' c)(h:VR ro σ w (.ptr b 0) v):VR ro' [] w (.rp (frp K x)) v:=by
 obtain⟨c,k,E⟩:=h;obtain⟨⟨l,B,a,F⟩,i⟩:=f 0 c _ rfl k;refine⟨c,0,E,i,?_⟩;refine QhK (pre:=[]) (by simpa using B) ?_ F;unfold Qm4 at a;obtain⟨v0,L,rfl,s,a⟩:=a;obtain⟨n,N,rfl,j,a⟩:=a;obtain⟨z,H,rfl,G,a⟩:=a;obtain⟨g,O,rfl,q,a⟩:=a;obtain⟨p,M,rfl,m,a⟩:=a;obtain⟨u,J,rfl,r,a⟩:=a;refine⟨v0,_,rfl,s,n,_,rfl,Qa2 sub (t:=K.tF) (λc e=>f 1 c _ rfl e) (by simpa using j),z,_,rfl,Qa2 sub (t:=K.tF) (λc e=>f 2 c _ rfl e) (by simpa using G),g,_,rfl,Qa2 sub (t:=K.tF) (λc e=>f 3 c _ rfl e) (by simpa using q),
  p,_,rfl,Qa2 sub (t:=K.tR) (λc e=>f 4 c _ rfl e) (by simpa using m),u,_,rfl,r,a⟩
theorem Qn1(sub:∀c,ro c->ro' c){ek:Int->A}(hek:∀(k:Int) (v:Value),VR ro σ w (ek k) v->VR ro' [] w (ek k) v):∀{b:Nat} {fs:List (Fil α β)} {es:List MapEntry},(∀(d c:Nat) (y:Blk),(fall K b fs)[d]?=some y->σ[b+d]?=some (some c)->BR ro σ w y (some c)/\ro' c)->
  ER ro σ w (Qi ek Qef (fent b fs)) es->ER ro' [] w (Qi ek (rpE K) (Qej fs)) es
 |b,[],es,_,h=>h
 |b,x::l,es,hb,h=>by
  obtain⟨e,l',rfl,h1,h2,h3⟩:=h;refine⟨e,l',rfl,hek _ _ h1,?_,?_⟩
  .refine QoH K sub (λd c y hy hc=>hb d c y ?_ hc) h2;rw[Qgu,XP (XO.1 hy).1];exact hy
  .refine Qn1 sub hek (b:=b+5) (fs:=l) (λd c y hy hc=>hb (d+5) c y ?_ (by rw[show b+(d+5)=b+5+d by omega];exact hc)) h3;rw[Qgu,XQ (by rw[Qgt];omega),Qgt,Nat.add_sub_cancel];exact hy
end
section
variable {fr ro:Nat->Prop} {σ:Sig} {w:World} {α β:Type} (K:FK α β)
theorem Sim.shutMapP{H:Qd}(s:Sim fr ro σ H w){i b:Nat}{es es':List (A×A)}(hσ:σ[i]?=some (some b))(hH:H[i]?=some (.mapP es))(he:∀l,ER ro σ w es l->ER (λc=>ro c\/c=b) [] w es' l):
  Sim fr (λc=>ro c\/c=b) σ (H.set i (.fmap es')) w:=by
 have m:b<w.heap.size/\ ¬ro b/\ ¬fr b:=s.own i b _ hσ hH rfl;have ext:Ext ro σ w (λc=>ro c\/c=b) σ w:=⟨λ_ q=>.inl q,λ_ _=>rfl,λ_ _ q=>q,λ_ _ q=>q⟩;have a:∀(j:Nat) (v:Blk),(H.set i (.fmap es'))[j]?=some v->v.live=true->j≠i/\H[j]?=some v:=by
  intro j v h r;by_cases e:j=i
  .subst e;rw[Xb]at h;simp only[if_true]at h;split at h
   .cases h;simp[Blk.live]at r
   .simp at h
  .rw[XS (λq=>e q.symm)]at h;exact⟨e,h⟩
 have g:∀(j:Nat) (v:Blk),(H.set i (.fmap es'))[j]?=some v->v.holds=true->H[j]?=some v:=by
  intro j v h r;by_cases e:j=i
  .subst e;rw[Xb]at h;simp only[if_true]at h;split at h
   .cases h;cases r
   .simp at h
  .rw[XS (λq=>e q.symm)]at h;exact h
 refine⟨by rw[X6];exact s.len,s.roOk.to (λ_ q=>.inl q) (λ_ _=>rfl) ?_,s.frLt,?_,?_,?_,?_,s.hidTo (· = ·) QZ (XW _) (λj d x c J Q N L=>L.elim id λq=>((s.hid j d x c J Q N).ne i b _ hσ hH rfl q).elim) (λ_ _ _ _ _ _ _ q=>q) λj d y O M P=>.inl ⟨j,y,rfl,O,g j y M P,id,λ_ q=>q⟩⟩
 .rintro c (q|rfl)
  .exact s.roLt c q
  .exact m.1
 .rintro c (q|rfl)
  .exact s.roFr c q
  .exact m.2.2
 .intro j c v k f p;obtain⟨e,f⟩:=a j v f p;obtain⟨t,u,z⟩:=s.own j c v k f p;refine⟨t,?_,z⟩;rintro(q|rfl)
  .exact u q
  .exact e (s.inj j i c v _ k hσ f hH p rfl)
 .intro j E c v B k f p R G F;exact s.inj j E c v B k f (a j v p G).2 (a E B R F).2 G F
 .intro j y v k f;by_cases e:j=i
  .subst e;rw[Xa (XO.1 hH).1]at f;cases f;rw[hσ]at k;cases k;obtain⟨l,n,t,u,z⟩:=s.blk j _ _ hσ hH;exact⟨.inr rfl,l,n,t,he _ u,z⟩
  .rw[XS (λq=>e q.symm)]at f;exact(s.blk j y v k f).keep ext (λ_ _ _=>rfl) (λ_ _ _ _=>rfl)
end
end Go.Sw
namespace Go.Sw
open Go.Sort Go.Proofs Go.Shelf
theorem QmC{α:Type}{l:List α}(h:l.length=1):∃v,l=[v]:=by
 match l,h with
 |[v],_=>exact⟨v,rfl⟩
theorem Qff{α β:Type}(f:α->β):∀l:List α,(l.map λa=>[f a]).flatten=l.map f
 |[]=>rfl
 |a::l=>by simp[Qff f l]
structure Elt1 (ro:Nat->Prop) (w:World) {T:Type} (ea:T->A) (l:List T) where
 x:T
 v:Value
 mem:x∈l
 rel:VR ro [] w (ea x) v
 plain:Qs v
theorem QoR{P:Program}{ρ:Ren}(L0:SlLaysF0.n6 P ρ){T:Type}[DecidableEq T]{ea:T->A}{t g:Nat}{cap:List A}{l l':List T}{cf:T->T->Option Int}(hs:QbM cf l=some l')
  (a0:∀x y c,cf x y=some c->C P g ([ea x,ea y]++cap) [] (λa H=>a=.int .i64 c/\H=[]))
  (aE:∀w,(isAgg (ρ.t 24)).run P w=.ok false w)(zE:∀w,(Go.sizeOf (ρ.t 24)).run P w=.ok 1 w)(eg:∀args w,(callFunc g args).run P w=.ok (.enter g args) w)(hd:Yf cap=true):
  C P (ρ.f 6) [.osl 0 0 l.length 1,.fn (.func g) [] cap] [.row t 1 (l.map λx=>[ea x])] (λa H=>a=.tup []/\H=[.row t 1 (l'.map λx=>[ea x])]):=by
 have L:SlLaysF.n6 P ρ:={L0 with a24:=aE,z24:=zE};intro fr F σ vals w s hv;obtain⟨vs,r1,rfl,bm,vf,r2,rfl,bp,hr⟩:=hv;cases(show r2=[]from hr);obtain⟨lf,lc,rfl,h1,av⟩:=bp;cases(show lf=[]from h1);have an:LR F [] w cap lc:=LR.data hd av;obtain⟨ax,ah,Q,aq,ba⟩:=QcN hs;have B:∀(ad:Option Addr) (c:Nat),vs=.slice ad 0 c->l=[]->
   Calls P (ρ.f 6) [vs,.func (.func g) #[] lc.toArray].toArray w λe w'=>∃v r H' ab τ,e=.returned v/\(r=.tup []/\H'=[.row t 1 (l'.map λx=>[ea x])])/\Sim fr ab (σ++τ) H' w'/\VR ab (σ++τ) w' r v/\Qh fr F w ab w':=by
  rintro ad c rfl rfl;have ac:l'=[]:=by rw[<- ba];rfl
  subst ac;refine(AnyF.slices_SortFunc_none L0 ad c (.func (.func g) #[] lc.toArray) w).mono ?_;rintro e w' ⟨rfl,rfl⟩;exact⟨_,_,_,F,[],rfl,⟨rfl,rfl⟩,by simpa using s,⟨[],rfl,rfl⟩,Qh.refl _ _ _⟩
 rcases bm with⟨h0,rfl⟩|⟨b,p,cp,t',m,q1,rfl,q2,q3,q4,q5⟩
 .exact B none 0 rfl (VL.1 h0)
 .by_cases ac:l=[]
  .subst ac;exact B _ cp rfl rfl
  .have bg:0<l.length:=List.length_pos_iff.2 ac;obtain rfl:=q2 (Vh bg q3);obtain⟨lv,e1,e2⟩:=s.blk 0 _ _ q1 rfl;obtain⟨hb,ai,az⟩:=s.own 0 b _ q1 rfl rfl;obtain⟨R,G,a8,rfl,bl⟩:=RL.parts e2
   let α:=Elt1 F w ea l
   have a7:∀p∈R,p.1∈l:=λp hp=>by rw[<- a8];exact VI hp
   have a4:∀p∈R,∃v,p.2=[v]/\VR F [] w (ea p.1) v/\Qs v:=by
    intro p hp;obtain⟨g1,g2,g3⟩:=bl p hp;obtain⟨v,e⟩:=QmC g1;rw[e]at g2 g3;obtain⟨v',l',e',g4,g5⟩:=g2;cases e';exact⟨v,e,g4,g3 v (by simp)⟩
   let val:List Value->Value:=λl=>l.headD .nilFunc
   have X:∀p∈R,p.2=[val p.2]/\VR F [] w (ea p.1) (val p.2)/\Qs (val p.2):=by
    intro p hp;obtain⟨v,e,g⟩:=a4 p hp;rw[e];exact⟨rfl,g⟩
   let ds:List α:=R.attach.map λp=>⟨p.1.1,val p.1.2,a7 _ p.2,(X _ p.2).2.1,(X _ p.2).2.2⟩
   have a9:∀{γ:Type} (f:T×List Value->γ),R.attach.map (λp=>f p.1)=R.map f:=λf=>by simp
   have M:ds.map (·.x)=l:=by
    show(R.attach.map _).map _=_;rw[List.map_map];exact(a9 (·.1)).trans a8
   have a1:ds.map (·.v)=R.map λp=>val p.2:=by
    show(R.attach.map _).map _=_;rw[List.map_map];exact a9 λp=>val p.2
   have au:ds.length=l.length:=by rw[<- M];simp
   have a3:ds≠[]:=by intro q;rw[q]at au;simp at au;omega
   let inh:Inhabited α:=⟨ds.head a3⟩
   let enc':α->Value:=λa=>a.v
   let cf':α->α->Int:=λx y=>(cf x.x y.x).getD 0
   have ae:∀x y:α,ltOf cf' x y=ltO cf x.x y.x:=by
    intro x y;obtain⟨c,u⟩:=ah x.x x.mem y.x y.mem;simp only[ltOf,ltO,cf',u,Option.getD_some]
   have hO:SWO (ltOf cf'):=⟨λx=>by rw[ae];exact Q.irrefl _ x.mem,λx y z a b=>by rw[ae]at*;exact Q.trans _ x.mem _ y.mem _ z.mem a b,
    λx y z a b=>by rw[ae]at*;exact Q.ntrans _ x.mem _ y.mem _ z.mem a b⟩
   have bd:(R.map (·.2)).flatten=ds.map enc':=by
    have e3:R.map (·.2)=(R.map λp=>val p.2).map λv=>[v]:=by
     rw[List.map_map];exact List.map_congr_left λp hp=>(X p hp).1
    rw[e3, <- a1];have:=Qff (λv:Value=>v) (ds.map (·.v));rw[this];simp[enc']
   rw[bd]at e1;have hH:Holds enc' w b 0 ds.toArray:=by
    intro j hj;simp only[List.size_toArray]at hj;constructor
    .unfold World.cell?;simp only[e1,Option.isSome_none,Xi,if_false,Xx];rw[Qac,XP (by simpa using hj),Xp,Qfb _ _ hj];rfl
    .unfold World.frozen?;simp only[e1];simp
   have al:∀(d:Array α),d.size=ds.toArray.size->(putRow enc' w b 0 d).heap=w.heap.setIfInBounds b (.cells ((d.toList.map enc'++G)).toArray t (0,0)):=by
    intro d k;have ar:(d.toList.map enc').length=(ds.map enc').length:=by simp at k⊢;rw[k]
    unfold putRow mapBlock;show w.heap.modify b _=_;rw[Qbg e1];simp only[onCells];congr 2;unfold putCells;apply Array.ext_getElem?;intro i;simp only[Array.getElem?_mapIdx,Qac,XX,true_and,Xx,Xw];by_cases hi:i<d.size
    .have aa:i<(d.toList.map enc').length:=by simpa using hi
     rw[XP aa,XP (by rw[<- ar];exact aa),XN (by rw[<- ar];exact aa),XN aa];simp only[Xj,Vv hi];congr 1;rw[getElem!_pos d i hi];simp
    .have aa:¬i<(d.toList.map enc').length:=by simpa using hi
     rw[XQ (by omega),XQ (by omega),ar];cases(G[i-(ds.map enc').length]?)with
     |none=>rfl
     |some v=>exact congrArg some (Vu hi)
   have O:∀(m:Nat) (os:Array Obj) (d:Array α),d.size=ds.toArray.size->
     (∀c,c<w.heap.size->c≠b->(sortWorld enc' w b 0 m d os).heap[c]?=w.heap[c]?)/\(sortWorld enc' w b 0 m d os).heap[b]?=some (.cells ((d.toList.map enc'++G)).toArray t (0,0))/\
     w.heap.size<=(sortWorld enc' w b 0 m d os).heap.size:=by
    intro m os d k;have e:(sortWorld enc' w b 0 m d os).heap=w.heap.setIfInBounds b (.cells ((d.toList.map enc'++G)).toArray t (0,0))++os:=by
     rw[<- al d k];rfl
    rw[e];refine⟨λc u be=>?_,?_,by simp⟩
    .rw[Array.getElem?_append_left (by simpa using u),Vg,Vu (λq=>be q.symm)]
    .rw[Array.getElem?_append_left (by simpa using hb),Vg,Vv rfl,Vv hb]
   have N:∀(m:Nat) (os:Array Obj) (d:Array α),d.size=ds.toArray.size->∀c y,w.shape? c=some y->(sortWorld enc' w b 0 m d os).shape? c=some y:=by
    intro m os d k c y hy;obtain⟨g1,g2,g3⟩:=O m os d k;by_cases u:c=b
    .subst u;unfold World.shape? at hy⊢;rw[e1]at hy;rw[g2];simp only[Option.some.injEq]at hy⊢;rw[<- hy];congr 1;simp only[List.size_toArray,X5,X4];simp at k⊢;rw[k]
    .unfold World.shape? at hy⊢;rw[g1 c (QbN hy) u];exact hy
   have af:∀(m:Nat) (os:Array Obj) (d:Array α),d.size=ds.toArray.size->∀τ,Ext F τ w F τ (sortWorld enc' w b 0 m d os):=by
    intro m os d k τ;obtain⟨g1,g2,g3⟩:=O m os d k;exact⟨λ_ q=>q,λc u=>g1 c (s.roLt c u) (λq=>ai (q▸u)),N m os d k,λ_ _ q=>q⟩
   have bo:CmpLays1 P g lc.toArray enc' cf' b 0 ds.toArray.size w:=by
    intro m os dk a2 x y;obtain⟨c,u⟩:=ah x.x x.mem y.x y.mem;have E:=af m os dk a2 [];have bj:=a0 _ _ _ u;generalize hW:sortWorld enc' w b 0 m dk os=W at*;have bb:w.heap.size<=W.heap.size:=by rw[<- hW];exact(O m os dk a2).2.2
    have sW:Sim (λc=>c<W.heap.size/\ ¬F c) F [] [] W:=
     ⟨rfl,s.roOk.to (λ_ q=>q) E.keep (λc u=>Vh (s.roLt c u) bb),λc u=>u.1,λc u hf=>hf.2 u,λi b x h=>by simp at h,λi j b x y h=>by simp at h,λi y x h=>by simp at h,λi b x c h=>by simp at h⟩
    have ak:LR F [] W ([ea x.x,ea y.x]++cap) ([x.v,y.v]++lc):=
     LR.append (show LR F [] W [ea x.x,ea y.x] [x.v,y.v]from⟨_,_,rfl,x.rel.mono E,_,_,rfl,y.rel.mono E,rfl⟩) (an.mono E)
    have J:=bj _ F [] _ W sW ak;have bh:(([x.v,y.v]++lc).toArray:Array Value)= #[enc' x,enc' y]++lc.toArray:=by simp[enc']
    rw[bh]at J;refine J.mono ?_;rintro e w' ⟨v,r,H',ab,τ,rfl,⟨rfl,rfl⟩,s',bi,ev⟩;refine⟨?_,?_⟩
    .rw[show v=.int .i64 c from bi];simp only[cf',u,Option.getD_some]
    .refine QkA (λc u=>?_) ev.size ev.os ev.tape ev.output ev.drawn;by_cases a5:F c
     .exact ev.keepRo c a5
     .exact ev.keepFr c ⟨u,a5⟩
   have Y:ds.toArray.size=l.length:=by simpa using au
   have bq:b+0=b:=rfl;have ag:=Any.slices_SortFunc L enc' (λx=>Qgf x.plain) cf' hO g lc.toArray b 0 cp ds.toArray w eg bo hH hb (by rw[Y];unfold Qy at ax;omega);rw[Y]at ag;rw[Nat.zero_mul];refine ag.mono ?_;rintro e w' ⟨rfl,d,n,os,V,aj,rfl⟩;have k:d.size=ds.toArray.size:=V.1;obtain⟨g1,g2,g3⟩:=O n os d k;have am:d.toList.Perm ds:=by
    have h:=V.2.2;have x1:d.extract 0 l.length=d:=by rw[<- Y, <- k];exact Array.extract_size
    have x2:ds.toArray.extract 0 l.length=ds.toArray:=by rw[<- Y];exact Array.extract_size
    rw[x1,x2]at h;simpa using h
   have aw:d.toList.map (·.x)=l':=by
    rw[<- ba];refine Jk (lt:=ltO cf) ?_ ?_ ?_ (QR Q)
    .exact((am.map (·.x)).trans (by rw[M])).trans (Qo _ _).symm
    .intro x hx y hy;have bf:x∈l:=by rw[<- M];exact(am.map (·.x)).mem_iff.1 hx
     have bc:y∈l:=by rw[<- M];exact(am.map (·.x)).mem_iff.1 hy
     exact aq x bf y bc
    .rw[VG];intro i j hi hj bn;simp only[X4]at hi hj;simp only[List.getElem_map];rw[<- ae];have:=aj i j (XX _) bn (by rw[<- Y, <- k];simpa using hj);rw[getElem!_pos d j (by simpa using hj),getElem!_pos d i (by simpa using hi)]at this;simpa using this
   have bk:RL F [] (sortWorld enc' w b 0 n d os) 1 (l'.map λx=>[ea x]) (d.toList.map enc'++G):=by
    have e3:d.toList.map enc'=((d.toList.map λa=>(a.x,[a.v])).map (·.2)).flatten:=by
     rw[List.map_map];exact(Qff (λa:α=>a.v) d.toList).symm
    have e4:l'=(d.toList.map λa=>(a.x,[a.v])).map (·.1):=by rw[<- aw];simp
    rw[e3,e4];refine Qb2 (enc:=λx=>[ea x]) (λ_=>rfl) ?_;intro p hp;obtain⟨a,_,rfl⟩:=Xe.1 hp;exact⟨⟨_,_,rfl,a.rel.mono (af n os d k []),rfl⟩,λv hv=>by rw[VD.1 hv];exact a.plain⟩
   have ay:Qh fr F w F (sortWorld enc' w b 0 n d os):=
    ⟨λ_ q=>q,λc u=>g1 c (s.roLt c u) (λq=>ai (q▸u)),λc u=>g1 c (s.frLt c u) (λq=>az (q▸u)),g3,N n os d k,rfl,rfl,rfl,Nat.le_add_right _ _⟩
   have ao:σ.length=1:=s.len;have a6:Sim fr F σ [.row t 1 (l'.map λx=>[ea x])] (sortWorld enc' w b 0 n d os):=by
    have i0:∀{i:Nat} {x:Blk},([.row t 1 (l'.map λx=>[ea x])]:Qd)[i]?=some x->i=0/\x=.row t 1 (l'.map λx=>[ea x]):=by
     intro i x h;cases i with
     |zero=>simp at h;exact⟨rfl,h.symm⟩
     |succ i=>simp at h
    refine⟨ao,s.roOk.to (λ_ q=>q) ay.keepRo (λc u=>Vh (s.roLt c u) g3),λc u=>Vh (s.frLt c u) g3,s.roFr,λi c x h1 h2 h3=>?_,λi j c x y h1 h2 h3 h4 _ _=>?_,λi y x h1 h2=>?_,λi b x c h1 h2 h3=>by obtain⟨rfl,rfl⟩:=i0 h2;exact h3.elim⟩
    .obtain⟨rfl,rfl⟩:=i0 h2;obtain⟨p1,p2⟩:=s.own 0 c _ h1 rfl rfl;exact⟨Vh p1 g3,p2⟩
    .rw[(i0 h3).1,(i0 h4).1]
    .obtain⟨rfl,rfl⟩:=i0 h2;rw[q1]at h1;cases h1;exact⟨_,g2,bk⟩
   exact⟨_,_,_,F,[],rfl,⟨rfl,rfl⟩,by simpa using a6,⟨[],rfl,rfl⟩,ay⟩
end Go.Sw
namespace Go.Sw
structure Pl where
 b:Nat
 i0:Nat
 i1:Nat
 i2:Nat
 i3:Nat
def Pl.ix(p:Pl):List Nat:=[p.b,p.i0,p.i1,p.i2,p.i3]
section
variable {α β:Type} (K:FK α β)
def Q1(p:Pl)(x:Fil α β):List A:=[.int .i64 x.number,.osl p.i0 0 x.r0.length K.kF,.osl p.i1 0 x.r1.length K.kF,.osl p.i2 0 x.r2.length K.kF,.osl p.i3 0 x.reports.length K.kR,.bool x.appeal]
structure QbD (H:Qd) (x:Fil α β) (p:Pl):Prop where
 c:H[p.b]?=some (.cells K.T (Q1 K p x))
 r0:H[p.i0]?=some (.row K.tF K.kF (x.r0.map K.eF))
 r1:H[p.i1]?=some (.row K.tF K.kF (x.r1.map K.eF))
 r2:H[p.i2]?=some (.row K.tF K.kF (x.r2.map K.eF))
 r3:H[p.i3]?=some (.row K.tR K.kR (x.reports.map K.eR))
abbrev QaY(α β:Type):=List (Fil α β×Pl)
def YP(bk:QaY α β):List (Int×Nat):=bk.map λe=>(e.1.number,e.2.b)
structure Yv (lo:Nat) (H:Qd) (bk:QaY α β):Prop where
 laid:∀e∈bk,QbD K H e.1 e.2
 own:∀e∈bk,e.2.ix.Nodup
 ne:bk.Pairwise λe f=>∀i∈e.2.ix,i∉f.2.ix
 lo:∀e∈bk,∀i∈e.2.ix,lo<=i
 num:(bk.map (·.1.number)).Nodup
variable {K} {lo:Nat} {H H':Qd} {bk l r:QaY α β} {e:Fil α β×Pl} {x':Fil α β} {p':Pl}
theorem Yv.nil:Yv K lo H ([]:QaY α β):=⟨(λ_ h=>by cases h),(λ_ h=>by cases h),List.Pairwise.nil,(λ_ h=>by cases h),List.nodup_nil⟩
theorem QbD.lt(h:QbD K H e.1 e.2):∀i∈e.2.ix,i<H.length:=by
 intro i a;have g:∀{j:Nat} {y:Blk},H[j]?=some y->j<H.length:=λq=>(XO.1 q).1;simp only[Pl.ix,X8,List.not_mem_nil,or_false]at a;rcases a with rfl|rfl|rfl|rfl|rfl
 .exact g h.c
 .exact g h.r0
 .exact g h.r1
 .exact g h.r2
 .exact g h.r3
theorem QbD.keep(h:QbD K H e.1 e.2)(k:∀i∈e.2.ix,H'[i]?=H[i]?):QbD K H' e.1 e.2:=by
 refine⟨?_,?_,?_,?_,?_⟩
 .rw[k _ (by simp[Pl.ix])];exact h.c
 .rw[k _ (by simp[Pl.ix])];exact h.r0
 .rw[k _ (by simp[Pl.ix])];exact h.r1
 .rw[k _ (by simp[Pl.ix])];exact h.r2
 .rw[k _ (by simp[Pl.ix])];exact h.r3
theorem Yv.keep(h:Yv K lo H bk)(k:∀j,lo<=j->j<H.length->H'[j]?=H[j]?):Yv K lo H' bk:=
 ⟨λe he=>(h.laid e he).keep λi hi=>k i (h.lo e he i hi) ((h.laid e he).lt i hi),h.own,h.ne,h.lo,h.num⟩
theorem Yv.upd(h:Yv K lo H (l++e::r))(y:QbD K H' x' p')(B:x'.number=e.1.number)(u:∀j,lo<=j->j<H.length->j∉e.2.ix->H'[j]?=H[j]?)
  (hi:∀i∈p'.ix,i∈e.2.ix\/H.length<=i)(E:p'.ix.Nodup)(hl:lo<=H.length):Yv K lo H' (l++(x',p')::r):=by
 obtain⟨w,z,n⟩:=List.pairwise_append.1 h.ne;obtain⟨t,x⟩:=Xc.1 z;have mem:∀f∈l++(x',p')::r,f=(x',p')\/(f∈l++e::r/\ ∀i∈f.2.ix,i∉e.2.ix):=by
  intro f b;rcases VF.1 b with q|q
  .exact .inr ⟨List.mem_append_left _ q,λi hi a=>n f q e (by simp) i hi a⟩
  .rcases X8.1 q with q|q
   .exact .inl q
   .exact .inr ⟨by simp[q],λi hi a=>t f q i a hi⟩
 refine⟨?_,?_,?_,?_,?_⟩
 .intro f b;rcases mem f b with rfl|⟨k,s⟩
  .exact y
  .exact(h.laid f k).keep λi hi=>u i (h.lo f k i hi) ((h.laid f k).lt i hi) (s i hi)
 .intro f b;rcases mem f b with rfl|⟨k,s⟩
  .exact E
  .exact h.own f k
 .refine List.pairwise_append.2 ⟨w,Xc.2 ⟨?_,x⟩,?_⟩
  .intro f b i a d;rcases hi i a with q|q
   .exact t f b i q d
   .have:=(h.laid f (by simp[b])).lt i d;omega
  .intro f b g p i d m;rcases X8.1 p with rfl|p
   .rcases hi i m with q|q
    .exact n f b e (by simp) i d q
    .have:=(h.laid f (by simp[b])).lt i d;omega
   .exact n f b g (by simp[p]) i d m
 .intro f b;rcases mem f b with rfl|⟨k,s⟩
  .intro i a;rcases hi i a with q|q
   .exact h.lo e (by simp) i q
   .omega
  .exact h.lo f k
 .have:=h.num;rw[Xf,Vl]at this⊢;show(_++x'.number::_).Nodup;rw[B];exact this
theorem Yv.add(h:Yv K lo H bk)(r:QbD K H' x' p')(t:∀e∈bk,e.1.number≠x'.number)(n:∀j,lo<=j->j<H.length->H'[j]?=H[j]?)
  (hi:∀i∈p'.ix,H.length<=i)(w:p'.ix.Nodup)(hl:lo<=H.length):Yv K lo H' (bk++[(x',p')]):=by
 have u:=h.keep n;have mem:∀f∈bk++[(x',p')],f∈bk\/f=(x',p'):=by
  intro f d;rcases VF.1 d with q|q
  .exact .inl q
  .exact .inr (VD.1 q)
 refine⟨?_,?_,?_,?_,?_⟩
 .intro f d;rcases mem f d with q|rfl
  .exact u.laid f q
  .exact r
 .intro f d;rcases mem f d with q|rfl
  .exact h.own f q
  .exact w
 .refine List.pairwise_append.2 ⟨h.ne,by simp,λf d g s i k l=>?_⟩;obtain rfl:=VD.1 s;have:=(h.laid f d).lt i k;have:=hi i l;omega
 .intro f d i k;rcases mem f d with q|rfl
  .exact h.lo f q i k
  .have:=hi i k;omega
 .rw[Xf];refine List.nodup_append.2 ⟨h.num,by simp,?_⟩;intro a p b m;simp at m;subst m;obtain⟨f,d,rfl⟩:=Xe.1 p;exact t f d
theorem QdG:∀(d:QaY α β) (k:Int),(YA (YP d) k=none/\ ∀e∈d,e.1.number≠k)\/ ∃l e r,d=l++e::r/\e.1.number=k/\(∀y∈l,y.1.number≠k)/\YA (YP d) k=some e.2.b
 |[],k=>.inl ⟨rfl,λ_ h=>by cases h⟩
 |e::l,k=>by
  have e0:YA (YP (e::l)) k=if e.1.number=k then some e.2.b else YA (YP l) k:=by
   show YA ((e.1.number,e.2.b)::YP l) k=_;simp[YA];by_cases q:e.1.number=k<;>simp[q]
  by_cases q:e.1.number=k
  .exact .inr ⟨[],e,l,rfl,q,(λ_ h=>by cases h),by rw[e0,Vv q]⟩
  .rcases QdG l k with⟨g,f⟩|⟨p,y,r,g,f,i,j⟩
   .refine .inl ⟨by rw[e0,Vu q];exact g,λz a=>?_⟩;rcases X8.1 a with rfl|a
    .exact q
    .exact f z a
   .refine .inr ⟨e::p,y,r,by rw[g];rfl,f,λz a=>?_,by rw[e0,Vu q,j]⟩;rcases X8.1 a with rfl|a
    .exact q
    .exact i z a
theorem Qlw(p q:QaY α β):YP (p++q)=YP p++YP q:=by simp[YP]
theorem Qlv(d:x'.number=e.1.number)(a:p'.b=e.2.b):YP (l++(x',p')::r)=YP (l++e::r):=by simp[YP,d,a]
end
section
variable {fr ro ro':Nat->Prop} {σ:Sig} {w:World} {α β:Type} (K:FK α β)
theorem QnD(sub:∀c,ro c->ro' c){p:Pl}{x:Fil α β}{v:Value}{H:Qd}(hl:QbD K H x p)(e:∀i∈p.ix,∀(c:Nat) (y:Blk),H[i]?=some y->σ[i]?=some (some c)->BR ro σ w y (some c)/\ro' c)(h:VR ro σ w (.ptr p.b 0) v):VR ro' [] w (.rp (frp K x)) v:=by
 obtain⟨c,k,F⟩:=h;obtain⟨⟨l,E,a,G⟩,g⟩:=e p.b (by simp[Pl.ix]) c _ hl.c k;refine⟨c,0,F,g,?_⟩;refine QhK (pre:=[]) (by simpa using E) ?_ G;unfold Q1 at a;obtain⟨v0,N,rfl,u,a⟩:=a;obtain⟨n,P,rfl,j,a⟩:=a;obtain⟨B,L,rfl,J,a⟩:=a;obtain⟨f,Q,rfl,r,a⟩:=a;obtain⟨q,O,rfl,m,a⟩:=a;obtain⟨z,M,rfl,s,a⟩:=a;refine⟨v0,_,rfl,u,n,_,rfl,Qa2 sub (t:=K.tF) (λc d=>e p.i0 (by simp[Pl.ix]) c _ hl.r0 d) (by simpa using j),B,_,rfl,Qa2 sub (t:=K.tF) (λc d=>e p.i1 (by simp[Pl.ix]) c _ hl.r1 d) (by simpa using J),f,_,rfl,Qa2 sub (t:=K.tF) (λc d=>e p.i2 (by simp[Pl.ix]) c _ hl.r2 d) (by simpa using r),
  q,_,rfl,Qa2 sub (t:=K.tR) (λc d=>e p.i3 (by simp[Pl.ix]) c _ hl.r3 d) (by simpa using m),z,_,rfl,s,a⟩
theorem QgR(sub:∀c,ro c->ro' c){H:Qd}{ek:Int->A}(hek:∀(k:Int) (v:Value),VR ro σ w (ek k) v->VR ro' [] w (ek k) v):∀{bk:QaY α β} {es:List MapEntry},(∀e∈bk,QbD K H e.1 e.2)->(∀e∈bk,∀i∈e.2.ix,∀(c:Nat) (y:Blk),H[i]?=some y->σ[i]?=some (some c)->BR ro σ w y (some c)/\ro' c)->
  ER ro σ w (Qi ek Qef (YP bk)) es->ER ro' [] w (Qi ek (rpE K) (Qej (bk.map (·.1)))) es
 |[],es,_,_,h=>h
 |x::l,es,hl,hb,h=>by
  obtain⟨e,l',rfl,h1,h2,h3⟩:=h;exact⟨e,l',rfl,hek _ _ h1,QnD K sub (hl x (by simp)) (hb x (by simp)) h2,QgR sub hek (λe he=>hl e (by simp[he])) (λe he=>hb e (by simp[he])) h3⟩
def Qcp(bk:QaY α β):List Nat:=bk.flatMap λe=>e.2.ix
theorem Yv.all{lo:Nat}{H:Qd}:∀{d:QaY α β},Yv K lo H d->(Qcp d).Nodup/\ ∀i∈Qcp d,lo<=i/\ ∃y,H[i]?=some y/\y.live=true:=by
 intro d h;refine⟨?_,?_⟩
 .have q:=h.own;have w:=h.ne;clear h
  induction d with
  |nil=>exact List.nodup_nil
  |cons e l x=>
   obtain⟨t,u⟩:=Xc.1 w;show(e.2.ix++Qcp l).Nodup;refine List.nodup_append.2 ⟨q e (by simp),x (λf n=>q f (by simp[n])) u,?_⟩;intro a s b r k;obtain⟨f,n,m⟩:=List.mem_flatMap.1 r;exact t f n a s (k▸m)
 .intro i g;obtain⟨e,p,g⟩:=List.mem_flatMap.1 g;refine⟨h.lo e p i g,?_⟩;have j:=h.laid e p;simp only[Pl.ix,X8,List.not_mem_nil,or_false]at g;rcases g with rfl|rfl|rfl|rfl|rfl
  .exact⟨_,j.c,rfl⟩
  .exact⟨_,j.r0,rfl⟩
  .exact⟨_,j.r1,rfl⟩
  .exact⟨_,j.r2,rfl⟩
  .exact⟨_,j.r3,rfl⟩
end
section
variable {α β:Type} (K:FK α β) {env:Env} {H:Qd}
theorem QnR{h0 lo m:Nat}{f:QaY α β}(E:Yv K lo H f)(u:Nat.blt m lo=true)(B:H[m]?=some (.mapP (Qi (λn=>.int .i64 n) Qef (YP f)))):
  Le h0 env H env ((QbU H (Qcp f)).set m (.fmap (Qi (λn=>.int .i64 n) (rpE K) (Qej (f.map (·.1)))))):=by
 intro R ro σ N a w r;have s:=r.sim;obtain⟨nd,g⟩:=E.all;have M:m<lo:=by simpa[Nat.blt_eq]using u
 have L:∃q,σ[m]?=some q:=by
  have:m<σ.length:=by rw[s.len];exact(XO.1 B).1
  exact⟨_,XN this⟩
 obtain⟨q,F⟩:=L;cases q with
 |none=>exact(s.blk m _ _ F B).elim
 |some t=>
 obtain⟨b,P,d,x⟩:=QdI s (l:=Qcp f) nd (λi z=>(g i z).2);have p:(QbU H (Qcp f))[m]?=some (.mapP (Qi (λn=>.int .i64 n) Qef (YP f))):=by
  rw[Qgk (λq=>by have:=(g m q).1;omega)];exact B
 have G:=P.shutMapP (es':=Qi (λn=>.int .i64 n) (rpE K) (Qej (f.map (·.1)))) F p (λl O=>?_)
 .have sub:∀c,ro c->b c\/c=t:=λc j=>.inl (d c j);have ext:Ext ro σ w (λc=>b c\/c=t) σ w:=⟨sub,λ_ _=>rfl,λ_ _ q=>q,λ_ _ q=>q⟩;exact⟨_,σ,⟨G,λq=>(r.env q).mono ext,r.size,r.defers⟩,sub,rfl⟩
 .have ext:Ext ro σ w b σ w:=⟨d,λ_ _=>rfl,λ_ _ q=>q,λ_ _ q=>q⟩;refine QgR K (ek:=λn=>.int .i64 n) (ro:=b) (ro':=λc=>b c\/c=t) (H:=H) (λc j=>.inl j) (λk v h=>h) E.laid (λe Q i z c y J j=>?_) O;exact⟨(s.blk _ _ _ j J).keep ext (λ_ _ _=>rfl) (λ_ _ _ _=>rfl),.inl (x _ (List.mem_flatMap.2 ⟨e,Q,z⟩) c j)⟩
end
end Go.Sw
namespace Go.Sw
section
variable {P:Program} {h0 N:Nat} {all:Array Oper} {o:Oper} {l:List Oper} {env:Env} {H:Qd} {Q:QB}
theorem QcH{d:Nat}{f:FuncId}{args:List A}{Qr:A->Qd->Prop}(i:OpC P o env H f args)(u:C P f args H Qr)
  (k:∀r H1,Qr r H1->WO P h0 N all l (up env d r) H1 Q)(G:h0<=H.length)(hg:Qq all o env true:=by exact rfl)(hd:o.dst=some d:=by exact rfl)(hN:Nat.blt d N=true:=by exact rfl):
  WO P h0 N all (o::l) env H Q:=by
 intro F fr m σ a w r hrd;obtain⟨g,z,y⟩:=i fr m σ N a w r;refine Qdn (YB hg r) z ?_;have hσl:=r.sim.len;refine Calls.mono (u fr m σ g w r.sim y) ?_;rintro e n ⟨v,j,H1,b,τ,rfl,B,x,p,ev⟩;have t:=k j H1 B;simp only[hd,Act.put];have h:d<N:=by simpa[Nat.blt_eq]using hN
 have E:Rel fr b (σ++τ) H1 (up env d j) N {a with tmps:=a.tmps.setIfInBounds d v} n:=
  ⟨x,VR.up (fr:=fr) (λs=>(r.env s).mono (ev.ext σ τ)) (by rw[r.size];exact h) p,by simpa using r.size,r.defers.keep ev⟩
 exact⟨_,rfl,Yj (λe a w q=>q.step ev (Qv (by omega))) _ _ _ (t F fr b (σ++τ) _ n E (hrd.to ev λ_ q=>q))⟩
end
section
variable {h0 n:Nat} {env env':Env} {H H':Qd}
theorem QnT(n:Nat)(hn:h0<=n)(hl:n<=H.length)(hH:(H'.map (QV (rho (List.range n) H.length))).map some=(List.range n).map (λp=>H[p]?))(hE:Qec (rho (List.range n) H.length) env env'):Le h0 env H env' H':=
 QnS (List.range n) (by rw[List.take_range,XD hn]) hH.symm List.nodup_range hE
end
section
variable {P:Program} {o:Oper} {env:Env} {H:Qd} {α:Type}
end
end Go.Sw
namespace Go.Sw
section
variable {α β:Type}
def Qat(k:Int):Fil α β:=⟨k,[],[],[],[],false⟩
def Qai(fs:List (Fil α β))(k:Int):List (Fil α β):=bif fs.any (λx=>decide (x.number=k))then fs else fs++[Qat k]
def Qbq(fs:List (Fil α β))(k:Int)(g:Fil α β->Fil α β):List (Fil α β):=fs.map λx=>bif decide (x.number=k)then g x else x
def QdU(fs:List (Fil α β)):Bool:=fs.all λx=>Nat.ble (x.r0.length+1) Qy&&Nat.ble (x.r1.length+1) Qy&&Nat.ble (x.r2.length+1) Qy&&Nat.ble (x.reports.length+1) Qy
variable (K:FK α β) {lo:Nat} {H H':Qd} {bk:QaY α β}
theorem Qc0{fs:List (Fil α β)}{k:Int}(h:∃x∈fs,x.number=k):Qai fs k=fs:=by
 unfold Qai;have:fs.any (λx=>decide (x.number=k))=true:=by
  obtain⟨x,a,e⟩:=h;exact Xu.2 ⟨x,a,by simp[e]⟩
 rw[this];rfl
theorem QbW{fs:List (Fil α β)}{k:Int}(h:∀x∈fs,x.number≠k):Qai fs k=fs++[Qat k]:=by
 unfold Qai;have:fs.any (λx=>decide (x.number=k))=false:=by
  rw[List.any_eq_false];intro x a;simp[h x a]
 rw[this];rfl
theorem Qn9{l r:List (Fil α β)}{x:Fil α β}{k:Int}{g:Fil α β->Fil α β}(i:((l++x::r).map (·.number)).Nodup)(b:x.number=k):Qbq (l++x::r) k g=l++g x::r:=by
 rw[Xf,Vl,List.nodup_append]at i;obtain⟨p,f,j⟩:=i;rw[List.nodup_cons]at f;have e:∀m:List (Fil α β),(∀y∈m,y.number≠k)->Qbq m k g=m:=by
  intro m n;unfold Qbq
  conv=>rhs;rw[<- List.map_id m]
  exact List.map_congr_left λy a=>by simp[n y a]
 have d:=e l (λy a q=>j y.number (VI a) x.number (by simp) (by rw[q,b]));have h:=e r (λy a q=>f.1 (by rw[b, <- q];exact VI a));unfold Qbq at d h⊢;rw[Xf,Vl,d,h];simp[b]
theorem QhW{l r:List (Fil α β)}{x:Fil α β}(h:QdU (l++x::r)=true):x.r0.length+1<=Qy/\x.r1.length+1<=Qy/\x.r2.length+1<=Qy/\x.reports.length+1<=Qy:=by
 unfold QdU at h;have:=Xt.1 h x (by simp);simp only[XZ]at this;obtain⟨⟨⟨d,a⟩,e⟩,b⟩:=this;exact⟨XU d,XU a,XU e,XU b⟩
def QaZ(n:Nat):Pl:=⟨n,n+1,n+2,n+3,n+4⟩
def Qb8(n:Nat)(k:Int):Qd:=[.cells K.T (Q1 K (QaZ n) (Qat k)),.row K.tF K.kF [],.row K.tF K.kF [],.row K.tF K.kF [],.row K.tR K.kR []]
theorem Qj8{h0:Nat}{env:Env}{k:Int}(d:h0<=H.length):
  Le h0 env (H++[.cells K.T [.int .i64 k,.nils,.nils,.nils,.nils,.bool false]]) env (H++Qb8 K H.length k):=by
 have a:∀(n:Nat) (G:Qd) (cs cs':List A) (t k':Nat) (m:Nat),n=H.length+1+G.length->cs[m]?=some .nils->cs'=cs.set m (.osl n 0 0 k')->
   Le h0 env (H++.cells K.T cs::G) env (H++.cells K.T cs'::(G++[.row t k' []])):=by
  intro n G cs cs' t k' m hn hm hc;have:=YR (h0:=h0) (env:=env) (H:=H++.cells K.T cs::G) (i:=H.length) (m:=m) (t:=t) (k:=k') (T:=K.T) (cs:=cs)
   (by simp;omega) (by simp) hm
  have e:(H++.cells K.T cs::G).length=n:=by simp;omega
  rw[e]at this;have b:(H++.cells K.T cs::G).set H.length (.cells K.T (cs.set m (.osl n 0 0 k')))=H++.cells K.T cs'::G:=by
   rw[List.set_append_right _ _ (XW _),Nat.sub_self,hc];rfl
  rw[b,Vk]at this;exact this
 refine Le.trans (a (H.length+1) [] _ _ K.tF K.kF 1 (by simp) rfl rfl) ?_;refine Le.trans (a (H.length+2) [.row K.tF K.kF []] _ _ K.tF K.kF 2 (by simp) rfl rfl) ?_;refine Le.trans (a (H.length+3) [.row K.tF K.kF [],.row K.tF K.kF []] _ _ K.tF K.kF 3 (by simp) rfl rfl) ?_;exact a (H.length+4) [.row K.tF K.kF [],.row K.tF K.kF [],.row K.tF K.kF []] _ _ K.tR K.kR 4 (by simp) rfl rfl
theorem QbD.new{k:Int}:QbD K (H++Qb8 K H.length k) (Qat k) (QaZ H.length):=by
 have g:∀(j:Nat) (y:Blk),(Qb8 K H.length k)[j]?=some y->(H++Qb8 K H.length k)[H.length+j]?=some y:=by
  intro j y h;rw[XQ (by omega),Nat.add_sub_cancel_left];exact h
 exact⟨g 0 _ rfl,g 1 _ rfl,g 2 _ rfl,g 3 _ rfl,g 4 _ rfl⟩
theorem Qkp(n:Nat):(∀i∈(QaZ n).ix,n<=i)/\(QaZ n).ix.Nodup:=by
 refine⟨?_,?_⟩
 .intro i a;simp only[Pl.ix,QaZ,X8,List.not_mem_nil,or_false]at a;omega
 .simp[Pl.ix,QaZ]
variable {K}
theorem Yv.new{k:Int}(h:Yv K lo H bk)(b:∀e∈bk,e.1.number≠k)(hl:lo<=H.length):Yv K lo (H++Qb8 K H.length k) (bk++[(Qat k,QaZ H.length)]):=by
 refine h.add (QbD.new K) b (λj d a=>by rw[XP a]) (Qkp _).1 (Qkp _).2 hl
theorem Yv.row{l r:QaY α β}{e:Fil α β×Pl}{x':Fil α β}{p':Pl}{i:Nat}{y:Blk}(h:Yv K lo H (l++e::r))(hl:lo<=H.length)(z:x'.number=e.1.number)(hi:i∈e.2.ix)(u:i≠e.2.b)(g:p'.b=e.2.b)
  (hH:H'=(H.set i .dead++[y]).set e.2.b (.cells K.T (Q1 K p' x')))
  (p:p'.ix=e.2.ix.map λj=>bif Nat.beq j i then H.length else j)
  (h0:H'[p'.i0]?=some (.row K.tF K.kF (x'.r0.map K.eF)))(L:H'[p'.i1]?=some (.row K.tF K.kF (x'.r1.map K.eF)))(G:H'[p'.i2]?=some (.row K.tF K.kF (x'.r2.map K.eF)))(x:H'[p'.i3]?=some (.row K.tR K.kR (x'.reports.map K.eR))):
  Yv K lo H' (l++(x',p')::r):=by
 have F:=h.laid e (by simp);have d:=F.lt;have w:e.2.b<H.length:=d _ (by simp[Pl.ix]);refine h.upd ⟨?_,h0,L,G,x⟩ z ?_ ?_ ?_ hl
 .rw[hH,g,Xa (by simp;omega)]
 .intro j n M m;rw[hH,XS (λq=>m (by rw[<- q];simp[Pl.ix])),XP (by simpa using M),XS (λq=>m (by rw[<- q];exact hi))]
 .intro j s;rw[p]at s;obtain⟨J,n,rfl⟩:=Xe.1 s;cases q:Nat.beq J i with
  |true=>exact .inr (XW _)
  |false=>exact .inl n
 .rw[p];have B:=h.own e (by simp);refine List.pairwise_map.2 (List.Pairwise.imp_of_mem ?_ B);intro a b E g f;have N:=d a E;have O:=d b g;cases t:Nat.beq a i with
  |true=>
   cases k:Nat.beq b i with
   |true=>exact absurd ((XT t).trans (XT k).symm) f
   |false=>simp only[Vr,Vs];omega
  |false=>
   cases k:Nat.beq b i with
   |true=>simp only[Vr,Vs];omega
   |false=>exact f
end
end Go.Sw
namespace Go.Sw
section
variable {fr ro:Nat->Prop} {σ:Sig} {H:Qd} {w:World}
end
section
variable {P:Program} {o:Oper} {env:Env} {H:Qd}
theorem Le.frow{h0 s i n k t:Nat}{es:List (List A)}(u:lk env s=.osl i 0 n k)(hH:H[i]?=some (.frow t k es))(y:es.length=n):Le h0 env H (up env s (.rsl k es)) H:=by
 intro R j σ N a w r;refine⟨j,σ,⟨r.sim,?_,r.size,r.defers⟩,λ_ q=>q,rfl⟩;intro d;simp only[lk];by_cases q:d=s
 .subst q;rw[VH];have:=r.env d;rw[u]at this;show VR j σ w (.rsl k es) _;rcases this with⟨h,f⟩|⟨b,p,e,M,m,h,f,x,J,P,O⟩
  .have:es=[]:=VL.1 (by omega);subst this;exact⟨none,0,by rw[f];rfl,XW _,.inl rfl⟩
  .obtain⟨G,l,F,L,Q⟩:=r.sim.blk i _ _ h hH;refine⟨_,e,by rw[f,y],by omega,?_⟩;by_cases g:es=[]
   .exact .inl g
   .right;have E:0<e:=Vh (by have:=List.length_pos_iff.2 g;omega) J;have B:=x E;refine⟨b,0,by rw[B];simp,G,?_⟩;exact YS (pre:=[]) (by simpa using F) L
 .have:Nat.beq d s=false:=by
   cases z:Nat.beq d s with
   |true=>exact absurd (XT z) q
   |false=>rfl
  rw[this];exact r.env d
end
end Go.Sw
namespace Go.Sw
open Go.MapKept
section
variable {P:Program} {kt et:Nat} {α β:Type} [DecidableEq α] {ek:α->A} {ev:β->A} {ro:Nat->Prop} {σ:Sig} {w:World} (K:Y0 P kt ek)
include K
variable {o:Oper} {env:Env} {H:Qd} {T T' i:Nat} {x y:Operand} {l m:List (α×β)} {k:α}
end
end Go.Sw
namespace Go.Sw
section
variable {P:Program} {h0 N:Nat} {all:Array Oper} {o1 o2:Oper} {l:List Oper} {env:Env} {H:Qd} {Q:QB}
theorem Qlx{t n d:Nat}{z:Value}{v:A}{cs zs:List A}{y:Operand}(hz:∀w,(zeroValue t).run P w=.ok z w)(hv:ZR v z)(hs:∀w,(Go.sizeOf t).run P w=.ok n w)
  (k:WO P h0 N all l (up env d (.rp cs)) H Q)(hk:Yb v=true:=by exact rfl)(hzs:Q0 v=zs:=by exact rfl)(hpl:zs.all Yl=true:=by exact rfl)(hzn:zs.length=n:=by exact rfl)(hn:cs.length=n:=by exact rfl)
  (ho1:o1.op=.alloc t:=by exact rfl)(hd1:o1.dst=some d:=by exact rfl)(ho2:o2.op=.store t (.tmp d) y:=by exact rfl)(hd2:o2.dst=none:=by exact rfl)(hy:opA (up env d .any) y=.agg cs:=by exact rfl)(hda:Yf cs=true:=by exact rfl)(hcp:cs.all Yl=true:=by exact rfl)(hkc:Yb (.agg cs)=true:=by exact rfl)(hcc:Q0 (.agg cs)=cs:=by exact rfl)
  (hg1:Qq all o1 env true:=by exact rfl)(hg2:Qq all o2 (up env d .any) true:=by exact rfl)(hN:Nat.blt d N=true:=by exact rfl):WO P h0 N all (o1::o2::l) env H Q:=by
 intro rd fr B σ a w r hrd;obtain⟨V,h2,h3⟩:=(hv B σ w).cells hk;rw[hzs]at h3
 let w1:World:=w.alloc (.cells V.toArray t)
 have X:(execOp a.eval o1).run P w=.ok (.value (.pointer (some ⟨w.heap.size,0,none⟩))) w1:=by
  generalize a.eval=ρ at*;have e:(newVar t z).run P w=.ok ⟨w.heap.size,0,none⟩ (w.alloc (.cells V.toArray t)):=by
   unfold newVar;rw[h2];rfl
  simp only[execOp,ho1,Instr.alloc,Vp,hz,Result.andThen,e];rfl
 refine Qab (YB hg1 r) X ?_;simp only[hd1,Act.put];have ab:d<N:=by simpa[Nat.blt_eq]using hN
 have J:d<a.tmps.size:=by rw[r.size];exact ab
 let a1:Act:={a with tmps:=a.tmps.setIfInBounds d (.pointer (some ⟨w.heap.size,0,none⟩))}
 have u:∀b,b<w.heap.size->w1.heap[b]?=w.heap[b]? :=λb M=>Yc _ _ b M;have F:w.heap.size<=w1.heap.size:=by show _<=(w.alloc _).heap.size;rw[Q6];omega
 have g:Qh fr B w B w1:=Qh.alloc _ r.sim.roLt r.sim.frLt;have r1:Rel fr B σ H (up env d .any) N a1 w1:=⟨r.sim.grown u F,VR.up (fr:=fr) (λs=>(r.env s).mono (g.ext0 σ)) J trivial,by simpa[a1]using r.size,r.defers.keep g⟩;have W:=Qg r1 y;rw[hy]at W;obtain⟨m,h4,h5⟩:=W.cells hkc;rw[hcc]at h5;have p:w1.heap[w.heap.size]?=some (.cells V.toArray t (0,0)):=Q9 _ _;have O:V.length=n:=by rw[h3.length,hzn]
 have L:m.length=n:=by rw[h5.length,hn]
 have R:=Q5 (P:=P) (vs:=m) 0 0 p (by omega) (h5.plain hcp);have af:splice V (0+0) m=m:=by
  unfold splice;simp[O,L]
 rw[af]at R
 let w2:World:={w1 with heap:=w1.heap.setIfInBounds w.heap.size (.cells m.toArray t (0,0))}
 have he:a1.eval (.tmp d)=.pointer (some ⟨w.heap.size,0,none⟩):=by
  show(a.tmps.setIfInBounds d _).getD d undef=_;rw[Qie J,Vv rfl]
 have aa:(execOp a1.eval o2).run P w1=.ok .skip w2:=by
  have ae:(storeVar t ⟨w.heap.size,0,none⟩ (a1.eval y)).run P w1=.ok () w2:=by
   unfold storeVar;rw[Vp,hs];simp only[Result.andThen];rw[Vu (by simp[h4,L]),h4];simpa using R
  generalize a1.eval=ρ at*;simp only[execOp,ho2,he,Instr.storeAt,Instr.sureAddr,pure_bind,Vp,ae];rfl
 refine QhN (YB hg2 r1) aa ?_;simp only[hd2,Act.put];have f:∀b,b<w.heap.size->w2.heap[b]?=w.heap[b]? :=λb M=>by
  show(w1.heap.setIfInBounds w.heap.size _)[b]?=_;rw[Array.getElem?_setIfInBounds_ne (by omega)];exact u b M
 have E:w2.heap.size=w1.heap.size:=by simp[w2]
 have G:w.heap.size<w1.heap.size:=(Ve.1 p).1;have Y:w.heap.size<=w2.heap.size:=by rw[E];exact F
 have j:w2.heap[w.heap.size]?=some (.cells m.toArray t (0,0)):=by
  show(w1.heap.setIfInBounds w.heap.size _)[w.heap.size]?=_;rw[Array.getElem?_setIfInBounds_self_of_lt G]
 have s1:=r.sim.grown f Y;have s2:=s1.addRo (b:=w.heap.size) (by rw[E];exact G) (λq=>Nat.lt_irrefl _ (r.sim.frLt _ q)) (λi x T p2 p3=>Nat.lt_irrefl _ (r.sim.own i _ x T p2 p3).1)
  (λi d x T p2 p3=>Nat.lt_irrefl _ (r.sim.hid i d x _ T p2 (r.sim.hidKeep T p2 (λz=>f d (r.sim.own i d x T p2 z).1) (λb q=>f b (r.sim.roLt b q)) p3)).lt)
 have ev:Qh fr B w (λc=>B c\/c=w.heap.size) w2:=by
  refine⟨λb q=>.inl q,λb q=>f b (r.sim.roLt b q),λb q=>f b (r.sim.frLt b q),Y,?_,g.os,g.tape,g.output,g.drawn⟩;intro b x h;have M:b<w.heap.size:=by
   unfold World.shape? at h;cases q:w.heap[b]? with
   |none=>rw[q]at h;simp at h
   |some _=>exact(Ve.1 q).1
  unfold World.shape? at h⊢;rw[f b M];exact h
 have ac:VR (λc=>B c\/c=w.heap.size) σ w2 (.rp cs) (.pointer (some ⟨w.heap.size,0,none⟩)):=by
  refine⟨w.heap.size,0,rfl,.inr rfl,?_⟩;refine QhK (pre:=[]) (by simpa using j) ?_ (h5.plain hcp);have h6:LR B [] w1 cs m:=LR.data hda h5;refine h6.mono ⟨λ_ q=>.inl q,λb q=>?_,λb x h=>?_,λ_ _ q=>q⟩
  .show(w1.heap.setIfInBounds w.heap.size _)[b]?=_;have:=r.sim.roLt b q;rw[Array.getElem?_setIfInBounds_ne (by omega)]
  .by_cases e:b=w.heap.size
   .subst e;unfold World.shape? at h⊢;rw[p]at h;rw[j];simp at h⊢;rw[O]at h;rw[L];exact h
   .unfold World.shape? at h⊢;rw[show w2.heap[b]?=w1.heap[b]? from Array.getElem?_setIfInBounds_ne (Ne.symm e)];exact h
 have r2:Rel fr (λc=>B c\/c=w.heap.size) σ H (up env d (.rp cs)) N a1 w2:=
  ⟨s2,VR.up (fr:=fr) (λs=>(r.env s).mono (ev.ext0 σ)) J ac,by simpa[a1]using r.size,r.defers.keep ev⟩
 exact Yj (λe a w q=>q.step ev rfl) _ _ _ (k rd fr _ σ a1 w2 r2 (hrd.to ev λ_ q=>q))
end
end Go.Sw
namespace Go.Sw
section
variable {P:Program} {o:Oper} {env:Env} {H:Qd}
theorem Qc5{t e:TypeId}{p:Option Addr}{w:World}(a:∀w,(underlying t).run P w=.ok (.pointer e) w):(Op.equal t (.pointer p) (.pointer none)).run P w=.ok p.isNone w:=by
 have k:∀d,(Op.equalIn (d+1) t (.pointer p) (.pointer none)).run P w=.ok p.isNone w:=by
  intro d;cases p<;>simp[Op.equalIn,a,go_sem]
 exact k 9999
theorem QiU{t e u:TypeId}{x:Operand}{i off:Nat}(j:∀w,(underlying t).run P w=.ok (.pointer e) w)(h:opA env x=.ptr i off)(g:o.op=.binOp .eql t x (.const (.pointer none)) u:=by exact rfl):OpV P o env H (.bool false):=by
 intro m l σ N a w r;have d:=Qg r x;rw[h]at d;obtain⟨b,n,k⟩:=d;have f:a.eval (.const (.pointer none))=.pointer none:=rfl;refine⟨_,?_,rfl⟩;generalize a.eval=ρ at*;simp[execOp,g,k,f,Go.binOp,eqGuard,Qc5 j,go_sem]
theorem QiV{t e u:TypeId}{x:Operand}(h:∀w,(underlying t).run P w=.ok (.pointer e) w)(g:opA env x=.nilp)(f:o.op=.binOp .eql t x (.const (.pointer none)) u:=by exact rfl):OpV P o env H (.bool true):=by
 intro k j σ N a w r;have b:=Qg r x;rw[g]at b;have d:a.eval (.const (.pointer none))=.pointer none:=rfl;have i:a.eval x=.pointer none:=b;refine⟨_,?_,rfl⟩;generalize a.eval=ρ at*;simp[execOp,f,i,d,Go.binOp,eqGuard,Qc5 h,go_sem]
end
end Go.Sw
namespace Go.Sw
section
variable {P:Program} {o:Oper} {env:Env} {H:Qd} {α:Type}
def Qhf(l:List α)(lo hi i:Int):Option α:=bif decide (0<=lo)&&(decide (0<=i)&&decide (lo+i<hi))then idx l (lo+i)else none
theorem Qkx{l:List α}{lo hi i:Int}{v:α}(h:Qhf l lo hi i=some v):0<=lo/\0<=i/\lo+i<hi/\idx l (lo+i)=some v:=by
 unfold Qhf at h;cases q:decide (0<=lo)&&(decide (0<=i)&&decide (lo+i<hi))with
 |false=>rw[q]at h;cases h
 |true=>
  rw[q]at h;rw[XZ,XZ,Vt,Vt,Vt]at q;exact⟨q.1,q.2.1,q.2.2,h⟩
theorem Qhe{l:List α}{lo hi i:Int}{v:α}(h:Qhf l lo hi i=some v):idx l (lo+i)=some v:=(Qkx h).2.2.2
theorem QfK{t et k b:Nat}{x y:Operand}{l:List α}{m:IntKind}{lo hi i:Int}{v:α}(h:Qhf l lo hi i=some v)(j:∀w,(underlying t).run P w=.ok (.slice et) w)(d:∀w,(sizeOf et).run P w=.ok k w)
  (a:o.op=.indexAddr t x y:=by exact rfl)(hx:opA env x=.osl b (0+lo.toNat) (hi.toNat-lo.toNat) k:=by exact rfl)(hy:opA env y=.int m i:=by exact rfl):OpV P o env H (.ptr b ((lo+i).toNat*k)):=by
 obtain⟨n,f,p,_⟩:=Qkx h;have g:=QhA (H:=H) a j d hx hy f (by omega);have e:(0+lo.toNat)*k+i.toNat*k=(lo+i).toNat*k:=by
  rw[<- XC];congr 1;omega
 rwa [e]at g
end
end Go.Sw
namespace Go.Sw
section
variable {P:Program} {o:Oper} {env:Env} {H:Qd}
theorem QnN{t:Nat}{x:Operand}{v:A}{cs:List A}(G:Yb v=true)(s:Q0 v=cs)(u:cs.all Yl=true)(T:Yf cs=true)(M:o.op=.box t x:=by exact rfl)(hx:opA env x=v:=by exact rfl):
  OpH P o env H (.rp cs) H:=by
 intro R n σ N a w r;have B:=Qg r x;rw[hx]at B;obtain⟨l,O,J⟩:=B.cells G;subst s;have m:LR n [] w (Q0 v) l:=J.data T;have f:∀b,b<w.heap.size->(w.alloc (.cells l.toArray t)).heap[b]?=w.heap[b]? :=λb E=>Yc _ _ b E;have k:w.heap.size<=(w.alloc (.cells l.toArray t)).heap.size:=by rw[Q6];omega
 have L:=r.sim.grown f k;have h:Qh R n w n (w.alloc (.cells l.toArray t)):=Qh.alloc _ r.sim.roLt r.sim.frLt;have F:=L.addRo (b:=w.heap.size) (by rw[Q6];omega) (λq=>Nat.lt_irrefl _ (r.sim.frLt _ q)) (λi x p j y=>Nat.lt_irrefl _ (r.sim.own i _ x p j y).1)
  (λi d x p j y=>Nat.lt_irrefl _ (r.sim.hid i d x _ p j (r.sim.hidKeep p j (λz=>f d (r.sim.own i d x p j z).1) (λb q=>f b (r.sim.roLt b q)) y)).lt)
 refine⟨.pointer (some ⟨w.heap.size,0,none⟩),w.alloc (.cells l.toArray t),λc=>n c\/c=w.heap.size,[],?_,?_,by simpa using F,h.trans (YG λ_ q=>.inl q)⟩
 .generalize a.eval=ρ at*;have e:(newVar t (ρ x)).run P w=.ok ⟨w.heap.size,0,none⟩ (w.alloc (.cells l.toArray t)):=by
   unfold newVar;rw[O];rfl
  simp only[execOp,M,Instr.box,Vp,e];rfl
 .refine⟨w.heap.size,0,rfl,.inr rfl,?_⟩;have g:(w.alloc (.cells l.toArray t)).heap[w.heap.size]?=some (.cells (([]:List Value)++(l++[])).toArray t (0,0)):=by simpa using Q9 w (.cells l.toArray t)
  have Q:LR (λc=>n c\/c=w.heap.size) [] (w.alloc (.cells l.toArray t)) (Q0 v) l:=(m.mono (h.ext0 [])).mono ⟨λ_ q=>.inl q,λ_ _=>rfl,λ_ _ q=>q,λ_ _ q=>q⟩;exact QhF g (m.plain u) Q
theorem QcK{β:Type}{t et n:Nat}{x y:Operand}{L:List β}{f:β->A}{rest cs:List A}{i:Int}{l:β}{J:IntKind}(h:idx L i=some l)(p:cs=L.map f++rest)(hn:L.length=n)(W:∀w,(underlying t).run P w=.ok (.array n et) w)(O:∀w,(sizeOf et).run P w=.ok 1 w)(z:Nat.ble 2 n=true)
  (X:o.op=.indexAddr t x y:=by exact rfl)(hx:opA env x=.rp cs:=by exact rfl)(hy:opA env y=.int J i:=by exact rfl):OpV P o env H (.rp [f l]):=by
 intro fr ro σ N a w r;have k:=Qg r x;rw[hx]at k;obtain⟨m,b,k,s,B⟩:=k;have G:=Qg r y;rw[hy]at G;have E:a.eval y=.int J i:=G;obtain⟨Y,d⟩:=Qau h;have F:i.toNat<L.length:=(XO.1 d).1;have Q:2<=n:=XU z;have T:i=(i.toNat:Int):=by omega
 generalize i.toNat=j at*;subst T;have u:j<n:=by omega
 refine⟨.pointer (some ⟨m,b+j*1,none⟩),?_,m,b+j*1,rfl,s,?_⟩
 .have R:0<=(j:Int)/\(j:Int)<(n:Int):=by omega
  have g:(⟨m,b,none⟩:Addr).add ((j:Int).toNat*1)=⟨m,b+j*1,none⟩:=by
   unfold Addr.add;split
   .rename_i q;simp at q;simp[q]
   .simp
  generalize a.eval=ρ at*;simp[execOp,X,k,E,Instr.indexAt,asIntOf,W,O,Instr.sureAddr,R,g,go_sem,Result.andThen,u]
 .have M:=CR.take 1 (CR.drop j B);have e:(cs.drop j).take 1=[f l]:=by
   rw[p,Va (by rw[X4];omega), <- List.map_drop];have:L.drop j=l::L.drop (j+1):=by
    have V:=Xq F;rw[V,(XO.1 d).2]
   rw[this];rfl
  rw[e]at M;rw[Nat.mul_one];exact M
end
end Go.Sw
namespace Go.Sw
section
variable {env:Env} {H:Qd}
theorem QlV{h0 i j m o' n k T:Nat}{x:Blk}{cs:List A}(hi:H[i]?=some x)(F:H[j]?=some (.cells T cs))(s:cs[m]?=some (.osl i o' n k))(e:Nat.beq i j=false)(W:Nat.ble h0 H.length=true):
  Le h0 env H env ((H.set i .dead).set j (.cells T (cs.set m (.osl H.length o' n k)))++[x]):=by
 intro Y E σ N a w r;have hiσ:i<σ.length:=by rw[r.sim.len];exact(XO.1 hi).1
 have hσ:σ[i]?=some σ[i]:=XN hiσ;have ext:Ext E σ w E (σ++[σ[i]]) w:=⟨λ_ q=>q,λ_ _=>rfl,λ_ _ q=>q,λ_ _ h=>YH h⟩;have Q:=r.sim.moved hi hσ;have d:j<H.length:=(XO.1 F).1;have z:i≠j:=λq=>by rw[q,VH]at e;cases e
 have g:(H.set i .dead++[x])[j]?=some (.cells T cs):=by
  rw[XP (by simpa using d),XS z];exact F
 have G:(H.set i .dead).set j (.cells T (cs.set m (.osl H.length o' n k)))++[x]=(H.set i .dead++[x]).set j (.cells T (cs.set m (.osl H.length o' n k))):=by
  rw[List.set_append_left _ _ (by simpa using d)]
 rw[G];refine⟨E,σ++[σ[i]],⟨Q.weaken g rfl ?_,λq=>(r.env q).mono ext,r.size,r.defers⟩,λ_ q=>q,Qv (by rw[r.sim.len];exact XU W)⟩;have f:σ.length=H.length:=r.sim.len;intro y h;cases y with
 |none=>exact h
 |some b=>
  obtain⟨l,L,X,O⟩:=h;refine⟨l,L,?_,O⟩;clear L O g G F Q
  induction cs generalizing m l with
  |nil=>cases s
  |cons c cs R=>
   obtain⟨v,B,rfl,J,P⟩:=X;cases m with
   |zero=>
    simp at s;subst s;refine⟨v,B,rfl,?_,P⟩;rcases J with h|⟨b,p,u,t,m,M,V⟩
    .exact .inl h
    .refine .inr ⟨b,p,u,t,m,?_,V⟩;rw[XP hiσ,hσ]at M;rw[<- f];simpa using M
   |succ m=>exact⟨v,B,rfl,J,R (by simpa using s) B P⟩
def Qe2{β γ:Type}(o:Option β)(n:Option γ)(s:β->Option γ):Option γ:=match o with
 |none=>n
 |some v=>s v
theorem QmM{β γ:Type}{o:Option β}{n:Option γ}{s:β->Option γ}{r:γ}(h:Qe2 o n s=some r):(o=none/\n=some r)\/ ∃v,o=some v/\s v=some r:=by
 cases o with
 |none=>exact .inl ⟨rfl,h⟩
 |some v=>exact .inr ⟨v,rfl,h⟩
theorem QhC{P:Program}{o:Oper}{H':Qd}{T:Nat}{x y zz:Operand}(d:o.op=.insert T x y zz)(h:OpU P {o with op:=.mapUpdate T x y zz} env H H'):OpU P o env H H':=by
 intro j i σ N a w r;obtain⟨k,b,τ,g,e,f⟩:=h j i σ N a w r;exact⟨k,b,τ,by simpa only[execOp,d]using g,e,f⟩
end
section
variable {P:Program} {o:Oper} {env:Env} {H:Qd} {T kt et:Nat} {α β:Type} [DecidableEq α] {ek:α->A} {ev:β->A} {x y:Operand} {i:Nat} {l:List (α×β)} {k:α} {z:Value} {zA:A}
theorem QlI{v:β}(K:Y0 P kt ek)(g:YA l k=some v)(B:P.underlying T=some (.map kt et))
  (O:o.op=.lookup T x y true:=by exact rfl)(hx:opA env x=.map i:=by exact rfl)(hH:H[i]?=some (.map (Qi ek ev l)):=by exact rfl)(hy:opA env y=ek k:=by exact rfl):OpV P o env H (.tup [ev v,.bool true]):=by
 intro W ro σ N a w r;have h:=Qg r x;rw[hx]at h;obtain⟨b,E,L⟩:=h;have s:=Qg r y;rw[hy]at s;have u:=VR.val (K.scl _) s;obtain⟨F,d,G,n,Y,V,M⟩:=r.sim.blk i _ _ E hH;obtain⟨t,J⟩:=ER.find K n k M;rcases K.find w k F.toList (QaX K n)with⟨p,f⟩|⟨j,e,p,f,Q⟩
 .rw[(t f).1]at g;cases g
 .obtain⟨X,R,m,z⟩:=J j e f Q;rw[g]at m;cases m;refine⟨.tuple #[e.val,.bool true],?_,[e.val,.bool true],rfl,e.val,_,rfl,z.mono ⟨λ_ q=>q,λ_ _=>rfl,λ_ _ q=>q,λj c q=>by simp at q⟩,_,_,rfl,rfl,rfl⟩;have:(Instr.lookup T (.map (some b)) (QL (ek k)) true).run P w=.ok (.tuple #[e.val,.bool true]) w:=by
   simp only[Instr.lookup,Vp,run_underlying B,Result.andThen,MapKept.run_getObj_map G,Vq,K.check,p,if_true]
  simp only[execOp,O,L,u,Vp,this,Result.andThen];rfl
theorem QlJ(K:Y0 P kt ek)(G:YA l k=none)(t:P.underlying T=some (.map kt et))(B:∀w,(zeroValue et).run P w=.ok z w)(f:ZR zA z)
  (O:o.op=.lookup T x y true:=by exact rfl)(hx:opA env x=.map i:=by exact rfl)(hH:H[i]?=some (.map (Qi ek ev l)):=by exact rfl)(hy:opA env y=ek k:=by exact rfl):OpV P o env H (.tup [zA,.bool false]):=by
 intro Y ro σ N a w r;have g:=Qg r x;rw[hx]at g;obtain⟨b,u,L⟩:=g;have q:=Qg r y;rw[hy]at q;have s:=VR.val (K.scl _) q;obtain⟨E,d,F,n,p3,W,M⟩:=r.sim.blk i _ _ u hH;obtain⟨V,J⟩:=ER.find K n k M;rcases K.find w k E.toList (QaX K n)with⟨p,h⟩|⟨j,e,p,h,Q⟩
 .refine⟨.tuple #[z,.bool false],?_,[z,.bool false],rfl,z,_,rfl,f _ _ _,_,_,rfl,rfl,rfl⟩;have:(Instr.lookup T (.map (some b)) (QL (ek k)) true).run P w=.ok (.tuple #[z,.bool false]) w:=by
   simp only[Instr.lookup,Vp,run_underlying t,Result.andThen,MapKept.run_getObj_map F,Vq,K.check,p,B,if_true]
  simp only[execOp,O,L,s,Vp,this,Result.andThen];rfl
 .obtain⟨u1,R,m,X⟩:=J j e h Q;rw[G]at m;cases m
end
abbrev Ea:=@Ev.bind
abbrev Ec:=@FzH.keep
abbrev Ed:=@FzL.cons
abbrev Ee:=@FzA.refl
abbrev Ef:=@TC.le
abbrev Eg:=@PL.cons
abbrev Eh:=@DS.done
abbrev Ei:=@Ev.and
abbrev Ej:=@EvI.done
abbrev Ek:=@FzL.refl
abbrev El:=@OpH.lit
abbrev Em:=@RF.cons
abbrev En:=@Le.trans
abbrev Eo:=@ZR.int
abbrev Ep:=@FzA.o
abbrev Er:=@Le.phantom
abbrev Et:=@WO.le
abbrev Eu:=@Ev.or
abbrev Ew:=@EvI.cont
abbrev Ex:=@OpU.store
abbrev Ey:=@OpV.load
abbrev Ez:=@Ev.const
theorem Zf.{u,v}{α:Sort u}{β:Sort v}{f:α->β}:∀x,f x=f x:=λ_=>rfl
abbrev Ze.{u,v}{α:Sort u}{β:Type v}:α->List β:=λ_=>[]
end Go.Sw
